/- A part of the proof: the evaluator over abstract values, its codes, the contracts of the functions. -/
import Derived.Test.YtagckbahjfhckaaGreatD2
import Derived.Sort.Grow
import Derived.Deep.Draws
set_option linter.unusedVariables false
set_option linter.unusedSimpArgs false
set_option maxRecDepth 100000
namespace Go.AE
@[simp] abbrev zi (n : Int) : AV := .d (.int .i64 n)
@[simp] abbrev ci (n : Int) : Opd := .c (.d (.int .i64 n))
@[simp] abbrev qo (d : Nat) (io : AO) : IOp := ⟨some d, io, none, false⟩
@[simp] abbrev qp (d : Nat) (io : AO) : IOp := ⟨some d, io, none, true⟩
@[simp] abbrev qn (io : AO) : IOp := ⟨none, io, none, false⟩
@[simp] abbrev qm (io : AO) : IOp := ⟨none, io, none, true⟩
structure Nums where
 law16_CheckerMatchesReference : Nat
 law16_CheckerOnce : Nat
 law16_CheckerLocal : Nat
 law16_CheckerSubset : Nat
 law16_CheckerKeeps : Nat
 law16_CheckerSound : Nat
 law22_SpillallAccepted : Nat
 law16_awake : Nat
 ref16_Few : Nat
 checker_Valid : Nat
 ref16_Valid : Nat
 checker_Check : Nat
 ref16_Check : Nat
 ref07_Successors : Nat
 checker_Bound : Nat
 ref14_Check : Nat
 ref11_Missing : Nat
 ref16_Copy : Nat
 ref16_Same : Nat
 law16_simulates : Nat
 law22_awake : Nat
 ref07_Few : Nat
 ref07_Check : Nat
 spillall_Cert : Nat
 ref07_Same : Nat
 ref08_Few : Nat
 ref15_Few : Nat
 source_Check : Nat
 machine_Check : Nat
 edge_Valid : Nat
 ref08_Check : Nat
 ref15_Valid : Nat
 checker_begin : Nat
 blockcheck_Check : Nat
 source_Successors : Nat
 edge_Implies : Nat
 ref15_Initial : Nat
 source_Code : Nat
 machine_Code : Nat
 ref14_fail : Nat
 ref13_Code : Nat
 ref13_Terms : Nat
 ref14_grow : Nat
 ref12_Copy : Nat
 ref12_Move : Nat
 ref05_UsesA : Nat
 ref14_use : Nat
 ref05_UsesB : Nat
 ref05_UsesD : Nat
 ref12_Define : Nat
 ref11_Has : Nat
 ref07_Copy : Nat
 ref08_Copy : Nat
 ref08_Same : Nat
 ref15_Same : Nat
 interp_Exec : Nat
 execute_Exec : Nat
 ref09_Values : Nat
 ref09_Prefix : Nat
 spillall_Block : Nat
 spillall_Moves : Nat
 ref07_Code : Nat
 ref07_Instr : Nat
 ref07_Term : Nat
 slices_Clone_Instr : Nat
 spillall_invariant : Nat
 ref08_Code : Nat
 source_block : Nat
 machine_block : Nat
 edge_total : Nat
 edge_pairs : Nat
 ref08_Instr : Nat
 ref08_Moves : Nat
 ref04_InRange : Nat
 ref11_Less : Nat
 edge_Entry : Nat
 align_Code : Nat
 align_Terms : Nat
 pairset_Make : Nat
 blockcheck_checker_run : Nat
 pairset_Missing : Nat
 ref13_Operations : Nat
 ref13_Others : Nat
 ref13_Same : Nat
 ref11_Add : Nat
 ref11_Same : Nat
 interp_begin : Nat
 interp_state_step : Nat
 execute_begin : Nat
 execute_state_step : Nat
 spillall_builder_instr : Nat
 spillall_builder_add : Nat
 spillall_load : Nat
 ref07_in : Nat
 location_Slot : Nat
 source_Instr : Nat
 source_Term : Nat
 machine_Instr : Nat
 location_InRange : Nat
 pairset_Less : Nat
 edge_Initial : Nat
 align_skip_Instr : Nat
 align_copied : Nat
 align_skip_Mach : Nat
 align_moved : Nat
 align_Same : Nat
 slices_Clone_Pair : Nat
 slices_SortFunc_Pair : Nat
 pairset_compare : Nat
 slices_Compact_Pair : Nat
 blockcheck_checker_run_1 : Nat
 blockcheck_checker_row : Nat
 blockcheck_checker_use : Nat
 interp_state_instr : Nat
 interp_state_term : Nat
 execute_state_instr : Nat
 execute_state_term : Nat
 opcode_Of : Nat
 spillall_store : Nat
 location_Reg : Nat
 opcode_Source : Nat
 source_within : Nat
 source_blank : Nat
 opcode_Machine : Nat
 machine_others : Nat
 machine_moves : Nat
 location_IsSlot : Nat
 location_Index : Nat
 slices_pdqsortCmpFunc_Pair : Nat
 math_bits_Len : Nat
 blockcheck_checker_cost : Nat
 blockcheck_checker_become : Nat
 transfer_Copy : Nat
 transfer_Move : Nat
 blockcheck_checker_instr : Nat
 pairset_Has : Nat
 alu_Eval : Nat
 execute_state_compute : Nat
 execute_state_move : Nat
 execute_state_emit : Nat
 opcode_known : Nat
 machine_others_1 : Nat
 machine_others_2 : Nat
 machine_moves_1 : Nat
 machine_moves_2 : Nat
 slices_insertionSortCmpFunc_Pair : Nat
 slices_heapSortCmpFunc_Pair : Nat
 slices_breakPatternsCmpFunc_Pair : Nat
 slices_choosePivotCmpFunc_Pair : Nat
 slices_reverseRangeCmpFunc_Pair : Nat
 slices_partialInsertionSortCmpFunc_Pair : Nat
 slices_partitionEqualCmpFunc_Pair : Nat
 slices_partitionCmpFunc_Pair : Nat
 math_bits_Len32 : Nat
 math_bits_Len64 : Nat
 transfer_rename : Nat
 pairset_DropV : Nat
 transfer_Copy_1 : Nat
 pairset_DropL : Nat
 transfer_Move_1 : Nat
 transfer_Define : Nat
 pairset_find : Nat
 alu_operation : Nat
 execute_state_at : Nat
 slices_siftDownCmpFunc_Pair : Nat
 slices_nextPowerOfTwo : Nat
 slices_xorshift_Next : Nat
 slices_medianAdjacentCmpFunc_Pair : Nat
 slices_medianCmpFunc_Pair : Nat
 pairset_Union : Nat
 pairset_filter : Nat
 pairset_DropV_1 : Nat
 pairset_DropL_1 : Nat
 pairset_Add : Nat
 alu_operation_1 : Nat
 alu_operation_2 : Nat
 alu_operation_3 : Nat
 alu_operation_4 : Nat
 alu_operation_5 : Nat
 alu_operation_6 : Nat
 alu_operation_7 : Nat
 alu_operation_8 : Nat
 alu_operation_9 : Nat
 alu_operation_10 : Nat
 alu_operation_11 : Nat
 alu_truth : Nat
 alu_operation_12 : Nat
 slices_order2CmpFunc_Pair : Nat
 law11_PairsetMatchesReference : Nat
 law11_PairsetMatchesSets : Nat
 law11_PairsetOrder : Nat
 law11_PairsetSubsets : Nat
 law23_LivenessMatchesReference : Nat
 law23_LivenessEquations : Nat
 law23_LivenessSound : Nat
 law23_LivenessNecessary : Nat
 law23_LivenessAppended : Nat
 law11_PairsetDrops : Nat
 law11_PairsetKeeps : Nat
 law11_awake : Nat
 ref11_Make : Nat
 pairset_Sorted : Nat
 ref11_Sorted : Nat
 pairset_Subset : Nat
 law23_awake : Nat
 ref23_Used : Nat
 ref23_Defines : Nat
 ref07_Numbers : Nat
 liveness_Uses : Nat
 liveness_Defs : Nat
 ref23_Same : Nat
 liveness_In : Nat
 ref23_In : Nat
 liveness_Out : Nat
 ref23_Out : Nat
 ref23_Has : Nat
 ref09_Right : Nat
 ref09_Exec : Nat
 ref09_Step : Nat
 ref09_Copy : Nat
 law11_spoil : Nat
 liveness_scan : Nat
 liveness_set_sorted : Nat
 liveness_solve : Nat
 ref23_live : Nat
 liveness_exit : Nat
 ref09_Start : Nat
 ref06_Eval : Nat
 liveness_scan_1 : Nat
 slices_Sort_int : Nat
 ref06_bits : Nat
 ref06_half : Nat
 ref06_truth : Nat
 slices_pdqsortOrdered_int : Nat
 ref06_bit : Nat
 slices_insertionSortOrdered_int : Nat
 slices_heapSortOrdered_int : Nat
 slices_breakPatternsOrdered_int : Nat
 slices_choosePivotOrdered_int : Nat
 slices_reverseRangeOrdered_int : Nat
 slices_partialInsertionSortOrdered_int : Nat
 cmp_Less_int : Nat
 slices_partitionEqualOrdered_int : Nat
 slices_partitionOrdered_int : Nat
 slices_siftDownOrdered_int : Nat
 slices_medianAdjacentOrdered_int : Nat
 slices_medianOrdered_int : Nat
 cmp_isNaN_int : Nat
 slices_order2Ordered_int : Nat
 law12_TransferMatchesReference : Nat
 law12_TransferSound : Nat
 law12_TransferComplete : Nat
 law12_TransferMonotone : Nat
 law12_TransferKeeps : Nat
 law14_BlockcheckMatchesReference : Nat
 law14_BlockcheckSound : Nat
 law14_BlockcheckMonotone : Nat
 law14_BlockcheckSteps : Nat
 law14_BlockcheckKeeps : Nat
 law12_awake : Nat
 law12_known : Nat
 law12_holds : Nat
 law12_subset : Nat
 law14_awake : Nat
 law14_right : Nat
 ref14_Same : Nat
 law14_result : Nat
 ref10_Step : Nat
 ref10_Read : Nat
 law22_SpillallMatchesReference : Nat
 law22_SpillallKeeps : Nat
 law22_SpillallSlots : Nat
 ref22_Cert : Nat
 ref22_Block : Nat
 ref22_move : Nat
 law04_LocationBijection : Nat
 law04_LocationTexts : Nat
 law04_LocationMatchesReference : Nat
 law04_LocationRange : Nat
 law04_awake : Nat
 location_Parse : Nat
 location_Text : Nat
 ref04_Parse : Nat
 ref04_Text : Nat
 strconv_Itoa : Nat
 ref04_Number : Nat
 ref04_Decimal : Nat
 ty_bcfail : Nat
@[simp] def Jq7y (p : Nums) : List IOp := [qo 6 (.call p.law16_awake []), qo 7 (.un .not (.t 6)), qo 8 (.mov (.t 7)), ⟨(some 9), (.load (some 8) (.t 1)), (some (8, false)), false⟩, ⟨(some 10), (.call p.ref16_Few [(.t 9)]), (some (8, false)), false⟩, ⟨(some 11), (.un .not (.t 10)), (some (8, false)), false⟩, qo 12 (.pick (.t 8) (.c (.d (.bool true))) (.t 11))]
def Jq7m (p : Nums) : IC := (.region (Jq7y p) [])
@[simp] theorem Je7m {p : Nums} : EqI (Jq7m p) (.region (Jq7y p) []) := eqi
def Jq7q (p : Nums) : IC := (.seq (.region [⟨(some 13), (.call p.law16_awake []), none, false⟩, ⟨(some 2), (.asg (.t 13)), none, false⟩] []) .ret)
@[simp] theorem Je7q {p : Nums} : EqI (Jq7q p) (.seq (.region [⟨(some 13), (.call p.law16_awake []), none, false⟩, ⟨(some 2), (.asg (.t 13)), none, false⟩] []) .ret) := eqi
@[simp] def Jq81 (p : Nums) : List IOp := [qo 14 (.load (some 8) (.t 1)), qo 15 (.call p.checker_Check [(.t 14)]), qo 3 (.alloc [(zi 0), (zi 0), (zi 0), (zi 0), (zi 0), (zi 0), (zi 0)]), qn (.store 7 (.t 3) (.t 15))]
def Jq7r (p : Nums) : IC := (.region (Jq81 p) [])
@[simp] theorem Je7r {p : Nums} : EqI (Jq7r p) (.region (Jq81 p) []) := eqi
@[simp] def Jq82 (p : Nums) : List IOp := [qo 16 (.load (some 8) (.t 1)), qo 17 (.call p.ref16_Valid [(.t 16)]), qo 18 (.bin .neq (.t 17) (ci 0))]
def Jq7s (p : Nums) : IC := (.region (Jq82 p) [])
@[simp] theorem Je7s {p : Nums} : EqI (Jq7s p) (.region (Jq82 p) []) := eqi
@[simp] def Jq83 (p : Nums) : List IOp := [qo 19 (.faddr 3 (.t 3)), qo 20 (.load none (.t 19)), qo 21 (.bin .eql (.t 20) (ci 0)), qo 22 (.mov (.t 21)), ⟨(some 23), (.faddr 4 (.t 3)), (some (22, true)), false⟩, ⟨(some 24), (.load none (.t 23)), (some (22, true)), false⟩, ⟨(some 25), (.bin .eql (.t 24) (ci 0)), (some (22, true)), false⟩, qo 26 (.pick (.t 22) (.t 25) (.c (.d (.bool false)))), qo 27 (.mov (.t 26)), ⟨(some 28), (.faddr 5 (.t 3)), (some (27, true)), false⟩, ⟨(some 29), (.load none (.t 28)), (some (27, true)), false⟩, ⟨(some 30), (.bin .eql (.t 29) (ci 0)), (some (27, true)), false⟩, qo 31 (.pick (.t 27) (.t 30) (.c (.d (.bool false)))), qo 32 (.mov (.t 31)), ⟨(some 33), (.faddr 0 (.t 3)), (some (32, true)), false⟩, ⟨(some 34), (.load none (.t 33)), (some (32, true)), false⟩, ⟨(some 35), (.bin .neq (.t 34) (ci 0)), (some (32, true)), false⟩, qo 36 (.pick (.t 32) (.t 35) (.c (.d (.bool false)))), qo 2 (.asg (.t 36))]
def Jq7t (p : Nums) : IC := (.region (Jq83 p) [])
@[simp] theorem Je7t {p : Nums} : EqI (Jq7t p) (.region (Jq83 p) []) := eqi
@[simp] def Jq84 (p : Nums) : List IOp := [qo 37 (.mov (.t 5)), qo 38 (.faddr 0 (.t 1)), qo 39 (.faddr 2 (.t 38)), qo 40 (.load none (.t 39)), qo 41 (.len (.t 40)), qo 42 (.bin .lss (.t 37) (.t 41))]
def Jq7u (p : Nums) : IC := (.region (Jq84 p) [])
@[simp] theorem Je7u {p : Nums} : EqI (Jq7u p) (.region (Jq84 p) []) := eqi
@[simp] def Jq85 (p : Nums) : List IOp := [qo 45 (.mov (.t 4)), qo 46 (.faddr 0 (.t 1)), qo 47 (.faddr 2 (.t 46)), qo 48 (.load none (.t 47)), qo 49 (.mov (.t 5)), qo 50 (.iaddr 5 (.t 48) (.t 49)), qo 51 (.faddr 1 (.t 50)), qo 52 (.load (some 4) (.t 51)), qo 53 (.call p.ref07_Successors [(.t 52)]), qo 54 (.len (.t 53)), qo 55 (.bin .add (.t 45) (.t 54)), qo 4 (.asg (.t 55))]
def Jq7v (p : Nums) : IC := (.region (Jq85 p) [])
@[simp] theorem Je7v {p : Nums} : EqI (Jq7v p) (.region (Jq85 p) []) := eqi
@[simp] def Jq86 (p : Nums) : List IOp := [qo 43 (.mov (.t 5)), qo 44 (.bin .add (.t 43) (ci 1)), qo 5 (.asg (.t 44))]
def Jq7w (p : Nums) : IC := (.region (Jq86 p) [])
@[simp] theorem Je7w {p : Nums} : EqI (Jq7w p) (.region (Jq86 p) []) := eqi
def Jq7x (p : Nums) : IC := (.seq (.seq (Jq7u p) (.cond (.t 42) .skip (.exit 0))) (.seq (.block 1 (Jq7v p)) (Jq7w p)))
@[simp] theorem Je7x {p : Nums} : EqI (Jq7x p) (.seq (.seq (Jq7u p) (.cond (.t 42) .skip (.exit 0))) (.seq (.block 1 (Jq7v p)) (Jq7w p))) := eqi
@[simp] def Jq7z (p : Nums) : List IOp := [qp 56 (.faddr 3 (.t 3)), qp 57 (.load none (.t 56)), qp 58 (.faddr 0 (.t 1)), qp 59 (.faddr 2 (.t 58)), qp 60 (.load none (.t 59)), qp 61 (.len (.t 60)), qo 62 (.bin .gtr (.t 57) (.t 61)), qo 63 (.mov (.t 62)), ⟨(some 64), (.faddr 4 (.t 3)), (some (63, false)), true⟩, ⟨(some 65), (.load none (.t 64)), (some (63, false)), true⟩, ⟨(some 66), (.mov (.t 4)), (some (63, false)), true⟩, ⟨(some 67), (.bin .gtr (.t 65) (.t 66)), (some (63, false)), false⟩, qo 68 (.pick (.t 63) (.c (.d (.bool true))) (.t 67)), qo 69 (.mov (.t 68)), ⟨(some 70), (.faddr 5 (.t 3)), (some (69, false)), true⟩, ⟨(some 71), (.load none (.t 70)), (some (69, false)), true⟩, ⟨(some 72), (.load (some 8) (.t 1)), (some (69, false)), true⟩, ⟨(some 73), (.faddr 6 (.t 3)), (some (69, false)), true⟩, ⟨(some 74), (.load none (.t 73)), (some (69, false)), true⟩, ⟨(some 75), (.call p.checker_Bound [(.t 72), (.t 74)]), (some (69, false)), true⟩, ⟨(some 76), (.bin .gtr (.t 71) (.t 75)), (some (69, false)), false⟩, qo 77 (.pick (.t 69) (.c (.d (.bool true))) (.t 76))]
def Jq7n (p : Nums) : IC := (.region (Jq7z p) [])
@[simp] theorem Je7n {p : Nums} : EqI (Jq7n p) (.region (Jq7z p) []) := eqi
def Jq7o (p : Nums) : IC := (.seq (.region [⟨(some 2), (.asg (.c (.d (.bool false)))), none, false⟩] []) .ret)
@[simp] theorem Je7o {p : Nums} : EqI (Jq7o p) (.seq (.region [⟨(some 2), (.asg (.c (.d (.bool false)))), none, false⟩] []) .ret) := eqi
@[simp] def Jq80 (p : Nums) : List IOp := [qo 78 (.faddr 0 (.t 3)), qo 79 (.load none (.t 78)), qo 80 (.bin .neq (.t 79) (ci 0)), qo 81 (.mov (.t 80)), ⟨(some 82), (.faddr 3 (.t 3)), (some (81, false)), false⟩, ⟨(some 83), (.load none (.t 82)), (some (81, false)), false⟩, ⟨(some 84), (.faddr 0 (.t 1)), (some (81, false)), false⟩, ⟨(some 85), (.faddr 2 (.t 84)), (some (81, false)), false⟩, ⟨(some 86), (.load none (.t 85)), (some (81, false)), false⟩, ⟨(some 87), (.len (.t 86)), (some (81, false)), false⟩, ⟨(some 88), (.bin .eql (.t 83) (.t 87)), (some (81, false)), false⟩, ⟨(some 89), (.mov (.t 88)), (some (81, false)), false⟩, ⟨(some 90), (.faddr 4 (.t 3)), (some (89, true)), false⟩, ⟨(some 91), (.load none (.t 90)), (some (89, true)), false⟩, ⟨(some 92), (.mov (.t 4)), (some (89, true)), false⟩, ⟨(some 93), (.bin .eql (.t 91) (.t 92)), (some (89, true)), false⟩, ⟨(some 94), (.pick (.t 89) (.t 93) (.c (.d (.bool false)))), (some (81, false)), false⟩, qo 95 (.pick (.t 81) (.c (.d (.bool true))) (.t 94)), qo 2 (.asg (.t 95))]
def Jq7p (p : Nums) : IC := (.region (Jq80 p) [])
@[simp] theorem Je7p {p : Nums} : EqI (Jq7p p) (.region (Jq80 p) []) := eqi
def Jtaf (p : Nums) : IC := (.seq (.region [⟨(some 1), (.box (.t 0)), none, false⟩, ⟨(some 2), (.asg (.c (.d (.bool false)))), none, false⟩] []) (.seq (.seq (Jq7m p) (.cond (.t 12) (Jq7q p) .skip)) (.seq (Jq7r p) (.seq (.seq (Jq7s p) (.cond (.t 18) (.seq (Jq7t p) .ret) .skip)) (.seq (.region [⟨(some 4), (.asg (.c (.d (.int .i64 0)))), none, false⟩] []) (.seq (.seq (.region [⟨(some 5), (.asg (.c (.d (.int .i64 0)))), none, false⟩] []) (.block 0 (.loop (Jq7x p)))) (.seq (.seq (Jq7n p) (.cond (.t 77) (Jq7o p) .skip)) (.seq (Jq7p p) .ret))))))))
@[simp] def Jq8e (p : Nums) : List IOp := [qo 6 (.build [(zi 0), (zi 0), (zi 0), (zi 0)] [(0, 1, (ci 3))]), qo 1 (.alloc [(zi 0), (zi 0), (zi 0), (zi 0)]), qn (.store 4 (.t 1) (.t 6))]
def Jq87 (p : Nums) : IC := (.region (Jq8e p) [])
@[simp] theorem Je87 {p : Nums} : EqI (Jq87 p) (.region (Jq8e p) []) := eqi
@[simp] def Jq8f (p : Nums) : List IOp := [qo 7 (.load (some 4) (.t 1)), qo 8 (.build [.nils, (zi 0), (zi 0), (zi 0), (zi 0)] [(1, 4, (.t 7))]), qo 9 (.bslice 5 1 [(.sl []), (.int .i64 0), (.int .i64 0), (.int .i64 0), (.int .i64 0)] [(0, (.t 8))]), qo 10 (.build [(zi 0), (zi 0), .nils] [(1, 1, (ci 1)), (2, 1, (.t 9))]), qo 11 (.load (some 4) (.t 1)), qo 12 (.build [.nils, (zi 0), (zi 0), (zi 0), (zi 0)] [(1, 4, (.t 11))]), qo 13 (.bslice 5 1 [(.sl []), (.int .i64 0), (.int .i64 0), (.int .i64 0), (.int .i64 0)] [(0, (.t 12))]), qo 14 (.build [(zi 0), (zi 0), (zi 0), .nils] [(1, 1, (ci 1)), (3, 1, (.t 13))]), qo 15 (.bslice 2 0 [(.int .i64 0), (.int .i64 0)] []), qo 16 (.bslice 1 1 [(.sl [])] [(0, (.t 15))]), qo 17 (.build [(zi 0), (zi 0), .nils, (zi 0), (zi 0), (zi 0), .nils, .nils] [(0, 3, (.t 10)), (3, 4, (.t 14)), (7, 1, (.t 16))]), qo 2 (.alloc [(zi 0), (zi 0), .nils, (zi 0), (zi 0), (zi 0), .nils, .nils]), qn (.store 8 (.t 2) (.t 17))]
def Jq88 (p : Nums) : IC := (.region (Jq8f p) [])
@[simp] theorem Je88 {p : Nums} : EqI (Jq88 p) (.region (Jq8f p) []) := eqi
@[simp] def Jq8g (p : Nums) : List IOp := [qo 18 (.load (some 8) (.t 2)), qo 3 (.alloc [(zi 0), (zi 0), .nils, (zi 0), (zi 0), (zi 0), .nils, .nils]), qn (.store 8 (.t 3) (.t 18))]
def Jq89 (p : Nums) : IC := (.region (Jq8g p) [])
@[simp] theorem Je89 {p : Nums} : EqI (Jq89 p) (.region (Jq8g p) []) := eqi
@[simp] def Jq8h (p : Nums) : List IOp := [qo 19 (.build [(zi 0), (zi 0)] [(0, 1, (ci 0)), (1, 1, (ci 0))]), qo 20 (.bslice 2 1 [(.int .i64 0), (.int .i64 0)] [(0, (.t 19))]), qo 21 (.bslice 1 1 [(.sl [])] [(0, (.t 20))]), qo 22 (.faddr 7 (.t 3)), qn (.store 1 (.t 22) (.t 21))]
def Jq8a (p : Nums) : IC := (.region (Jq8h p) [])
@[simp] theorem Je8a {p : Nums} : EqI (Jq8a p) (.region (Jq8h p) []) := eqi
@[simp] def Jq8i (p : Nums) : List IOp := [qo 23 (.load (some 8) (.t 2)), qo 24 (.call p.checker_Check [(.t 23)]), qo 4 (.alloc [(zi 0), (zi 0), (zi 0), (zi 0), (zi 0), (zi 0), (zi 0)]), qn (.store 7 (.t 4) (.t 24))]
def Jq8b (p : Nums) : IC := (.region (Jq8i p) [])
@[simp] theorem Je8b {p : Nums} : EqI (Jq8b p) (.region (Jq8i p) []) := eqi
@[simp] def Jq8j (p : Nums) : List IOp := [qo 25 (.load (some 8) (.t 3)), qo 26 (.call p.checker_Check [(.t 25)]), qo 5 (.alloc [(zi 0), (zi 0), (zi 0), (zi 0), (zi 0), (zi 0), (zi 0)]), qn (.store 7 (.t 5) (.t 26))]
def Jq8c (p : Nums) : IC := (.region (Jq8j p) [])
@[simp] theorem Je8c {p : Nums} : EqI (Jq8c p) (.region (Jq8j p) []) := eqi
@[simp] def Jq8k (p : Nums) : List IOp := [qo 27 (.load (some 7) (.t 4)), qo 28 (.build [(zi 0), (zi 0), (zi 0), (zi 0), (zi 0), (zi 0), (zi 0)] [(0, 1, (ci 21)), (3, 1, (ci 1)), (5, 1, (ci 2))]), qo 29 (.eqs false [.int, .int, .int, .int, .int, .int, .int] (.t 27) (.t 28)), qo 30 (.mov (.t 29)), ⟨(some 31), (.load (some 7) (.t 5)), (some (30, true)), false⟩, ⟨(some 32), (.build [(zi 0), (zi 0), (zi 0), (zi 0), (zi 0), (zi 0), (zi 0)] [(3, 1, (ci 1)), (5, 1, (ci 4)), (6, 1, (ci 1))]), (some (30, true)), false⟩, ⟨(some 33), (.eqs false [.int, .int, .int, .int, .int, .int, .int] (.t 31) (.t 32)), (some (30, true)), false⟩, qo 34 (.pick (.t 30) (.t 33) (.c (.d (.bool false)))), qo 35 (.mov (.t 34)), ⟨(some 36), (.load (some 8) (.t 2)), (some (35, true)), false⟩, ⟨(some 37), (.call p.checker_Valid [(.t 36)]), (some (35, true)), false⟩, ⟨(some 38), (.bin .eql (.t 37) (ci 0)), (some (35, true)), false⟩, qo 39 (.pick (.t 35) (.t 38) (.c (.d (.bool false)))), qo 40 (.mov (.t 39)), ⟨(some 41), (.build [(zi 0), (zi 0), .nils, (zi 0), (zi 0), (zi 0), .nils, .nils] []), (some (40, true)), false⟩, ⟨(some 42), (.call p.checker_Valid [(.t 41)]), (some (40, true)), false⟩, ⟨(some 43), (.bin .eql (.t 42) (ci 14)), (some (40, true)), false⟩, qo 44 (.pick (.t 40) (.t 43) (.c (.d (.bool false)))), qo 45 (.mov (.t 44)), ⟨(some 46), (.load (some 8) (.t 3)), (some (45, true)), false⟩, ⟨(some 47), (.call p.checker_Bound [(.t 46), (ci 1)]), (some (45, true)), false⟩, ⟨(some 48), (.bin .eql (.t 47) (ci 12)), (some (45, true)), false⟩, qo 49 (.pick (.t 45) (.t 48) (.c (.d (.bool false)))), qo 50 (.mov (.t 49)), ⟨(some 51), (.build [(zi 0), (zi 0), .nils, (zi 0), (zi 0), (zi 0), .nils, .nils] []), (some (50, true)), false⟩, ⟨(some 52), (.call p.checker_Check [(.t 51)]), (some (50, true)), false⟩, ⟨(some 53), (.build [(zi 0), (zi 0), (zi 0), (zi 0), (zi 0), (zi 0), (zi 0)] [(0, 1, (ci 14))]), (some (50, true)), false⟩, ⟨(some 54), (.eqs false [.int, .int, .int, .int, .int, .int, .int] (.t 52) (.t 53)), (some (50, true)), false⟩, qo 55 (.pick (.t 50) (.t 54) (.c (.d (.bool false)))), qo 0 (.asg (.t 55))]
def Jq8d (p : Nums) : IC := (.region (Jq8k p) [])
@[simp] theorem Je8d {p : Nums} : EqI (Jq8d p) (.region (Jq8k p) []) := eqi
def Jtag (p : Nums) : IC := (.seq (.region [⟨(some 0), (.asg (.c (.d (.bool false)))), none, false⟩] []) (.seq (Jq87 p) (.seq (Jq88 p) (.seq (Jq89 p) (.seq (Jq8a p) (.seq (Jq8b p) (.seq (Jq8c p) (.seq (Jq8d p) .ret))))))))
@[simp] def Jqm6 (p : Nums) : List IOp := [qo 3 (.faddr 0 (.t 1)), qo 4 (.load (some 3) (.t 3)), qo 5 (.call p.ref07_Few [(.t 4)]), qo 6 (.mov (.t 5)), ⟨(some 7), (.faddr 3 (.t 1)), (some (6, true)), false⟩, ⟨(some 8), (.load (some 4) (.t 7)), (some (6, true)), false⟩, ⟨(some 9), (.call p.ref08_Few [(.t 8)]), (some (6, true)), false⟩, qo 10 (.pick (.t 6) (.t 9) (.c (.d (.bool false)))), qo 11 (.mov (.t 10)), ⟨(some 12), (.faddr 7 (.t 1)), (some (11, true)), false⟩, ⟨(some 13), (.load none (.t 12)), (some (11, true)), false⟩, ⟨(some 14), (.call p.ref15_Few [(.t 13)]), (some (11, true)), false⟩, qo 15 (.pick (.t 11) (.t 14) (.c (.d (.bool false)))), qo 2 (.asg (.t 15))]
def Jqm5 (p : Nums) : IC := (.region (Jqm6 p) [])
@[simp] theorem Jem5 {p : Nums} : EqI (Jqm5 p) (.region (Jqm6 p) []) := eqi
def Jtbv (p : Nums) : IC := (.seq (.region [⟨(some 1), (.box (.t 0)), none, false⟩, ⟨(some 2), (.asg (.c (.d (.bool false)))), none, false⟩] []) (.seq (Jqm5 p) .ret))
@[simp] def Jq58 (p : Nums) : List IOp := [qo 5 (.faddr 0 (.t 1)), qo 6 (.load (some 3) (.t 5)), qo 7 (.call p.source_Check [(.t 6)]), qo 3 (.asg (.t 7))]
def Jq51 (p : Nums) : IC := (.region (Jq58 p) [])
@[simp] theorem Je51 {p : Nums} : EqI (Jq51 p) (.region (Jq58 p) []) := eqi
def Jq52 (p : Nums) : IC := (.seq (.region [⟨(some 10), (.mov (.t 3)), none, false⟩, ⟨(some 2), (.asg (.t 10)), none, false⟩] []) .ret)
@[simp] theorem Je52 {p : Nums} : EqI (Jq52 p) (.seq (.region [⟨(some 10), (.mov (.t 3)), none, false⟩, ⟨(some 2), (.asg (.t 10)), none, false⟩] []) .ret) := eqi
@[simp] def Jq59 (p : Nums) : List IOp := [qo 11 (.faddr 3 (.t 1)), qo 12 (.load (some 4) (.t 11)), qo 13 (.call p.machine_Check [(.t 12)]), qo 4 (.asg (.t 13))]
def Jq53 (p : Nums) : IC := (.region (Jq59 p) [])
@[simp] theorem Je53 {p : Nums} : EqI (Jq53 p) (.region (Jq59 p) []) := eqi
def Jq54 (p : Nums) : IC := (.seq (.region [⟨(some 16), (.mov (.t 4)), none, false⟩, ⟨(some 2), (.asg (.t 16)), none, false⟩] []) .ret)
@[simp] theorem Je54 {p : Nums} : EqI (Jq54 p) (.seq (.region [⟨(some 16), (.mov (.t 4)), none, false⟩, ⟨(some 2), (.asg (.t 16)), none, false⟩] []) .ret) := eqi
@[simp] def Jq5a (p : Nums) : List IOp := [qo 17 (.faddr 0 (.t 1)), qo 18 (.faddr 2 (.t 17)), qo 19 (.load none (.t 18)), qo 20 (.len (.t 19)), qo 21 (.faddr 3 (.t 1)), qo 22 (.faddr 3 (.t 21)), qo 23 (.load none (.t 22)), qo 24 (.len (.t 23)), qo 25 (.bin .neq (.t 20) (.t 24)), qo 26 (.mov (.t 25)), ⟨(some 27), (.faddr 0 (.t 1)), (some (26, false)), false⟩, ⟨(some 28), (.faddr 0 (.t 27)), (some (26, false)), false⟩, ⟨(some 29), (.load none (.t 28)), (some (26, false)), false⟩, ⟨(some 30), (.faddr 3 (.t 1)), (some (26, false)), false⟩, ⟨(some 31), (.faddr 0 (.t 30)), (some (26, false)), false⟩, ⟨(some 32), (.load none (.t 31)), (some (26, false)), false⟩, ⟨(some 33), (.bin .neq (.t 29) (.t 32)), (some (26, false)), false⟩, qo 34 (.pick (.t 26) (.c (.d (.bool true))) (.t 33))]
def Jq55 (p : Nums) : IC := (.region (Jq5a p) [])
@[simp] theorem Je55 {p : Nums} : EqI (Jq55 p) (.region (Jq5a p) []) := eqi
def Jq56 (p : Nums) : IC := (.seq (.region [⟨(some 2), (.asg (.c (.d (.int .i64 14)))), none, false⟩] []) .ret)
@[simp] theorem Je56 {p : Nums} : EqI (Jq56 p) (.seq (.region [⟨(some 2), (.asg (.c (.d (.int .i64 14)))), none, false⟩] []) .ret) := eqi
@[simp] def Jq5b (p : Nums) : List IOp := [qo 35 (.faddr 7 (.t 1)), qo 36 (.load none (.t 35)), qo 37 (.faddr 0 (.t 1)), qo 38 (.faddr 2 (.t 37)), qo 39 (.load none (.t 38)), qo 40 (.len (.t 39)), qo 41 (.faddr 0 (.t 1)), qo 42 (.faddr 1 (.t 41)), qo 43 (.load none (.t 42)), qo 44 (.faddr 3 (.t 1)), qo 45 (.faddr 1 (.t 44)), qo 46 (.load none (.t 45)), qo 47 (.faddr 3 (.t 1)), qo 48 (.faddr 2 (.t 47)), qo 49 (.load none (.t 48)), qo 50 (.call p.edge_Valid [(.t 36), (.t 40), (.t 43), (.t 46), (.t 49)]), qo 2 (.asg (.t 50))]
def Jq57 (p : Nums) : IC := (.region (Jq5b p) [])
@[simp] theorem Je57 {p : Nums} : EqI (Jq57 p) (.region (Jq5b p) []) := eqi
def Jta7 (p : Nums) : IC := (.seq (.region [⟨(some 1), (.box (.t 0)), none, false⟩, ⟨(some 2), (.asg (.c (.d (.int .i64 0)))), none, false⟩] []) (.seq (.seq (Jq51 p) (.seq (.region [⟨(some 8), (.mov (.t 3)), none, false⟩, ⟨(some 9), (.bin .neq (.t 8) (.c (.d (.int .i64 0)))), none, false⟩] []) (.cond (.t 9) (Jq52 p) .skip))) (.seq (.seq (Jq53 p) (.seq (.region [⟨(some 14), (.mov (.t 4)), none, false⟩, ⟨(some 15), (.bin .neq (.t 14) (.c (.d (.int .i64 0)))), none, false⟩] []) (.cond (.t 15) (Jq54 p) .skip))) (.seq (.seq (Jq55 p) (.cond (.t 34) (Jq56 p) .skip)) (.seq (Jq57 p) .ret)))))
@[simp] def Jqme (p : Nums) : List IOp := [qo 5 (.faddr 0 (.t 1)), qo 6 (.load (some 3) (.t 5)), qo 7 (.call p.ref07_Check [(.t 6)]), qo 3 (.asg (.t 7))]
def Jqm7 (p : Nums) : IC := (.region (Jqme p) [])
@[simp] theorem Jem7 {p : Nums} : EqI (Jqm7 p) (.region (Jqme p) []) := eqi
def Jqm8 (p : Nums) : IC := (.seq (.region [⟨(some 10), (.mov (.t 3)), none, false⟩, ⟨(some 2), (.asg (.t 10)), none, false⟩] []) .ret)
@[simp] theorem Jem8 {p : Nums} : EqI (Jqm8 p) (.seq (.region [⟨(some 10), (.mov (.t 3)), none, false⟩, ⟨(some 2), (.asg (.t 10)), none, false⟩] []) .ret) := eqi
@[simp] def Jqmf (p : Nums) : List IOp := [qo 11 (.faddr 3 (.t 1)), qo 12 (.load (some 4) (.t 11)), qo 13 (.call p.ref08_Check [(.t 12)]), qo 4 (.asg (.t 13))]
def Jqm9 (p : Nums) : IC := (.region (Jqmf p) [])
@[simp] theorem Jem9 {p : Nums} : EqI (Jqm9 p) (.region (Jqmf p) []) := eqi
def Jqma (p : Nums) : IC := (.seq (.region [⟨(some 16), (.mov (.t 4)), none, false⟩, ⟨(some 2), (.asg (.t 16)), none, false⟩] []) .ret)
@[simp] theorem Jema {p : Nums} : EqI (Jqma p) (.seq (.region [⟨(some 16), (.mov (.t 4)), none, false⟩, ⟨(some 2), (.asg (.t 16)), none, false⟩] []) .ret) := eqi
@[simp] def Jqmg (p : Nums) : List IOp := [qo 17 (.faddr 0 (.t 1)), qo 18 (.faddr 2 (.t 17)), qo 19 (.load none (.t 18)), qo 20 (.len (.t 19)), qo 21 (.faddr 3 (.t 1)), qo 22 (.faddr 3 (.t 21)), qo 23 (.load none (.t 22)), qo 24 (.len (.t 23)), qo 25 (.bin .neq (.t 20) (.t 24)), qo 26 (.mov (.t 25)), ⟨(some 27), (.faddr 0 (.t 1)), (some (26, false)), false⟩, ⟨(some 28), (.faddr 0 (.t 27)), (some (26, false)), false⟩, ⟨(some 29), (.load none (.t 28)), (some (26, false)), false⟩, ⟨(some 30), (.faddr 3 (.t 1)), (some (26, false)), false⟩, ⟨(some 31), (.faddr 0 (.t 30)), (some (26, false)), false⟩, ⟨(some 32), (.load none (.t 31)), (some (26, false)), false⟩, ⟨(some 33), (.bin .neq (.t 29) (.t 32)), (some (26, false)), false⟩, qo 34 (.pick (.t 26) (.c (.d (.bool true))) (.t 33))]
def Jqmb (p : Nums) : IC := (.region (Jqmg p) [])
@[simp] theorem Jemb {p : Nums} : EqI (Jqmb p) (.region (Jqmg p) []) := eqi
def Jqmc (p : Nums) : IC := (.seq (.region [⟨(some 2), (.asg (.c (.d (.int .i64 14)))), none, false⟩] []) .ret)
@[simp] theorem Jemc {p : Nums} : EqI (Jqmc p) (.seq (.region [⟨(some 2), (.asg (.c (.d (.int .i64 14)))), none, false⟩] []) .ret) := eqi
@[simp] def Jqmh (p : Nums) : List IOp := [qo 35 (.faddr 7 (.t 1)), qo 36 (.load none (.t 35)), qo 37 (.faddr 0 (.t 1)), qo 38 (.faddr 2 (.t 37)), qo 39 (.load none (.t 38)), qo 40 (.len (.t 39)), qo 41 (.faddr 0 (.t 1)), qo 42 (.faddr 1 (.t 41)), qo 43 (.load none (.t 42)), qo 44 (.faddr 3 (.t 1)), qo 45 (.faddr 1 (.t 44)), qo 46 (.load none (.t 45)), qo 47 (.faddr 3 (.t 1)), qo 48 (.faddr 2 (.t 47)), qo 49 (.load none (.t 48)), qo 50 (.call p.ref15_Valid [(.t 36), (.t 40), (.t 43), (.t 46), (.t 49)]), qo 2 (.asg (.t 50))]
def Jqmd (p : Nums) : IC := (.region (Jqmh p) [])
@[simp] theorem Jemd {p : Nums} : EqI (Jqmd p) (.region (Jqmh p) []) := eqi
def Jtbw (p : Nums) : IC := (.seq (.region [⟨(some 1), (.box (.t 0)), none, false⟩, ⟨(some 2), (.asg (.c (.d (.int .i64 0)))), none, false⟩] []) (.seq (Jqm7 p) (.seq (.seq (.region [⟨(some 8), (.mov (.t 3)), none, false⟩, ⟨(some 9), (.bin .neq (.t 8) (.c (.d (.int .i64 0)))), none, false⟩] []) (.cond (.t 9) (Jqm8 p) .skip)) (.seq (Jqm9 p) (.seq (.seq (.region [⟨(some 14), (.mov (.t 4)), none, false⟩, ⟨(some 15), (.bin .neq (.t 14) (.c (.d (.int .i64 0)))), none, false⟩] []) (.cond (.t 15) (Jqma p) .skip)) (.seq (.seq (Jqmb p) (.cond (.t 34) (Jqmc p) .skip)) (.seq (Jqmd p) .ret)))))))
@[simp] def Jq4l (p : Nums) : List IOp := [qo 1 (.box (.t 0)), qo 2 (.alloc [(zi 0), (zi 0), (zi 0), (zi 0), (zi 0), (zi 0), (zi 0)])]
def Jq40 (p : Nums) : IC := (.region (Jq4l p) [])
@[simp] theorem Je40 {p : Nums} : EqI (Jq40 p) (.region (Jq4l p) []) := eqi
@[simp] def Jq4u (p : Nums) : List IOp := [qo 12 (.load (some 8) (.t 1)), qo 13 (.call p.checker_Valid [(.t 12)]), qo 3 (.asg (.t 13))]
def Jq4b (p : Nums) : IC := (.region (Jq4u p) [])
@[simp] theorem Je4b {p : Nums} : EqI (Jq4b p) (.region (Jq4u p) []) := eqi
@[simp] def Jq4v (p : Nums) : List IOp := [qo 16 (.mov (.t 3)), qo 17 (.build [(zi 0), (zi 0), (zi 0), (zi 0), (zi 0), (zi 0), (zi 0)] [(0, 1, (.t 16))]), qn (.store 7 (.t 2) (.t 17))]
def Jq4e (p : Nums) : IC := (.region (Jq4v p) [])
@[simp] theorem Je4e {p : Nums} : EqI (Jq4e p) (.region (Jq4v p) []) := eqi
@[simp] def Jq4w (p : Nums) : List IOp := [qo 18 (.load (some 8) (.t 1)), qo 19 (.call p.checker_begin [(.t 18)]), qo 4 (.alloc [(zi 0), (zi 0), (zi 0), (zi 0), (zi 0), (zi 0), (zi 0)]), qn (.store 7 (.t 4) (.t 19))]
def Jq4f (p : Nums) : IC := (.region (Jq4w p) [])
@[simp] theorem Je4f {p : Nums} : EqI (Jq4f p) (.region (Jq4w p) []) := eqi
@[simp] def Jq4x (p : Nums) : List IOp := [qo 20 (.faddr 0 (.t 4)), qo 21 (.load none (.t 20)), qo 22 (.bin .neq (.t 21) (ci 0))]
def Jq4g (p : Nums) : IC := (.region (Jq4x p) [])
@[simp] theorem Je4g {p : Nums} : EqI (Jq4g p) (.region (Jq4x p) []) := eqi
def Jq4h (p : Nums) : IC := (.seq (.region [⟨(some 23), (.load (some 7) (.t 4)), none, false⟩, ⟨none, (.store 7 (.t 2) (.t 23)), none, false⟩] []) .ret)
@[simp] theorem Je4h {p : Nums} : EqI (Jq4h p) (.seq (.region [⟨(some 23), (.load (some 7) (.t 4)), none, false⟩, ⟨none, (.store 7 (.t 2) (.t 23)), none, false⟩] []) .ret) := eqi
@[simp] def Jq4y (p : Nums) : List IOp := [qo 24 (.faddr 0 (.t 1)), qo 25 (.faddr 2 (.t 24)), qo 26 (.load none (.t 25)), qo 27 (.len (.t 26)), qo 28 (.mov (ci 0))]
def Jq4i (p : Nums) : IC := (.region (Jq4y p) [])
@[simp] theorem Je4i {p : Nums} : EqI (Jq4i p) (.region (Jq4y p) []) := eqi
@[simp] def Jq4z (p : Nums) : List IOp := [qo 30 (.mov (.t 28)), qo 31 (.iaddr 5 (.t 26) (.t 28)), qo 32 (.load (some 5) (.t 31)), qo 6 (.alloc [.nils, (zi 0), (zi 0), (zi 0), (zi 0)]), qo 5 (.asg (.t 30)), qn (.store 5 (.t 6) (.t 32))]
def Jq4j (p : Nums) : IC := (.region (Jq4z p) [])
@[simp] theorem Je4j {p : Nums} : EqI (Jq4j p) (.region (Jq4z p) []) := eqi
@[simp] def Jq50 (p : Nums) : List IOp := [qp 33 (.load (some 5) (.t 6)), qp 34 (.faddr 3 (.t 1)), qp 35 (.faddr 3 (.t 34)), qp 36 (.load none (.t 35)), qp 37 (.mov (.t 5)), qp 38 (.iaddr 5 (.t 36) (.t 37)), qp 39 (.load (some 5) (.t 38)), qp 40 (.faddr 7 (.t 1)), qp 41 (.load none (.t 40)), qp 42 (.mov (.t 5)), qp 43 (.iaddr 1 (.t 41) (.t 42)), qp 44 (.load none (.t 43)), qp 45 (.call p.blockcheck_Check [(.t 33), (.t 39), (.t 44), (ci 1048576)]), qp 7 (.alloc [.nils, (zi 0), (zi 0), (zi 0), (zi 0)]), qn (.store 5 (.t 7) (.t 45))]
def Jq4k (p : Nums) : IC := (.region (Jq50 p) [])
@[simp] theorem Je4k {p : Nums} : EqI (Jq4k p) (.region (Jq50 p) []) := eqi
@[simp] def Jq4m (p : Nums) : List IOp := [qp 46 (.faddr 3 (.t 4)), qp 47 (.load none (.t 46)), qp 48 (.bin .add (.t 47) (ci 1)), qp 49 (.faddr 5 (.t 4)), qp 50 (.load none (.t 49)), qp 51 (.faddr 3 (.t 7)), qp 52 (.load none (.t 51)), qp 53 (.bin .add (.t 50) (.t 52)), qp 54 (.faddr 6 (.t 4)), qp 55 (.load none (.t 54)), qp 56 (.faddr 4 (.t 7)), qp 57 (.load none (.t 56)), qp 58 (.mx (.t 55) (.t 57)), qp 59 (.faddr 3 (.t 4)), qm (.storeq 1 (.t 59) (.t 48) [(51, 1), (56, 1)]), qp 60 (.faddr 5 (.t 4)), qm (.storeq 1 (.t 60) (.t 53) [(56, 1)]), qo 61 (.faddr 6 (.t 4)), qn (.store 1 (.t 61) (.t 58))]
def Jq41 (p : Nums) : IC := (.region (Jq4m p) [])
@[simp] theorem Je41 {p : Nums} : EqI (Jq41 p) (.region (Jq4m p) []) := eqi
@[simp] def Jq4n (p : Nums) : List IOp := [qo 62 (.faddr 1 (.t 7)), qo 63 (.load none (.t 62)), qo 64 (.bin .neq (.t 63) (ci 0))]
def Jq42 (p : Nums) : IC := (.region (Jq4n p) [])
@[simp] theorem Je42 {p : Nums} : EqI (Jq42 p) (.region (Jq4n p) []) := eqi
@[simp] def Jq4o (p : Nums) : List IOp := [qp 65 (.faddr 1 (.t 7)), qp 66 (.load none (.t 65)), qp 67 (.mov (.t 5)), qp 68 (.faddr 2 (.t 7)), qp 69 (.load none (.t 68)), qp 70 (.faddr 0 (.t 4)), qm (.storeq 1 (.t 70) (.t 66) [(68, 1)]), qp 71 (.faddr 1 (.t 4)), qm (.storeq 1 (.t 71) (.t 67) [(68, 1)]), qo 72 (.faddr 2 (.t 4)), qn (.store 1 (.t 72) (.t 69))]
def Jq43 (p : Nums) : IC := (.region (Jq4o p) [])
@[simp] theorem Je43 {p : Nums} : EqI (Jq43 p) (.region (Jq4o p) []) := eqi
@[simp] def Jq4p (p : Nums) : List IOp := [qo 73 (.faddr 1 (.t 6)), qo 74 (.load (some 4) (.t 73)), qo 75 (.call p.source_Successors [(.t 74)]), qo 76 (.len (.t 75)), qo 77 (.mov (ci 0))]
def Jq44 (p : Nums) : IC := (.region (Jq4p p) [])
@[simp] theorem Je44 {p : Nums} : EqI (Jq44 p) (.region (Jq4p p) []) := eqi
@[simp] def Jq4q (p : Nums) : List IOp := [qo 79 (.mov (.t 77)), qo 80 (.iaddr 1 (.t 75) (.t 77)), qo 81 (.load none (.t 80)), qo 8 (.asg (.t 79)), qo 9 (.asg (.t 81))]
def Jq45 (p : Nums) : IC := (.region (Jq4q p) [])
@[simp] theorem Je45 {p : Nums} : EqI (Jq45 p) (.region (Jq4q p) []) := eqi
@[simp] def Jq4r (p : Nums) : List IOp := [qp 82 (.faddr 4 (.t 4)), qp 83 (.load none (.t 82)), qp 84 (.bin .add (.t 83) (ci 1)), qp 85 (.faddr 5 (.t 4)), qp 86 (.load none (.t 85)), qp 87 (.bin .add (.t 86) (ci 1)), qp 88 (.faddr 0 (.t 7)), qp 89 (.load none (.t 88)), qp 90 (.len (.t 89)), qp 91 (.bin .add (.t 87) (.t 90)), qp 92 (.faddr 7 (.t 1)), qp 93 (.load none (.t 92)), qp 94 (.mov (.t 9)), qp 95 (.iaddr 1 (.t 93) (.t 94)), qp 96 (.load none (.t 95)), qp 97 (.len (.t 96)), qp 98 (.bin .add (.t 91) (.t 97)), qp 99 (.faddr 4 (.t 4)), qm (.storeq 1 (.t 99) (.t 84) [(88, 1), (92, 1), (95, 1)]), qo 100 (.faddr 5 (.t 4)), qn (.store 1 (.t 100) (.t 98))]
def Jq46 (p : Nums) : IC := (.region (Jq4r p) [])
@[simp] theorem Je46 {p : Nums} : EqI (Jq46 p) (.region (Jq4r p) []) := eqi
@[simp] def Jq4s (p : Nums) : List IOp := [qp 102 (.faddr 0 (.t 7)), qp 103 (.load none (.t 102)), qp 104 (.faddr 7 (.t 1)), qp 105 (.load none (.t 104)), qp 106 (.mov (.t 9)), qp 107 (.iaddr 1 (.t 105) (.t 106)), qp 108 (.load none (.t 107)), qp 109 (.call p.edge_Implies [(.t 103), (.t 108)]), qp 101 (.mov (.t 109)), qp 110 (.ext (.t 101) 0), qp 111 (.ext (.t 101) 1), qp 10 (.alloc [(zi 0), (zi 0)]), qm (.storeq 2 (.t 10) (.t 110) []), qo 11 (.asg (.t 111))]
def Jq47 (p : Nums) : IC := (.region (Jq4s p) [])
@[simp] theorem Je47 {p : Nums} : EqI (Jq47 p) (.region (Jq4s p) []) := eqi
@[simp] def Jq4t (p : Nums) : List IOp := [qo 114 (.mov (.t 11)), qo 115 (.mov (.t 5)), qo 116 (.mov (.t 8)), qo 117 (.faddr 0 (.t 4)), qn (.store 1 (.t 117) (.t 114)), qo 118 (.faddr 1 (.t 4)), qn (.store 1 (.t 118) (.t 115)), qo 119 (.faddr 2 (.t 4)), qn (.store 1 (.t 119) (.t 116))]
def Jq48 (p : Nums) : IC := (.region (Jq4t p) [])
@[simp] theorem Je48 {p : Nums} : EqI (Jq48 p) (.region (Jq4t p) []) := eqi
def Jq49 (p : Nums) : IC := (.seq (Jq45 p) (.seq (Jq46 p) (.seq (Jq47 p) (.seq (.region [⟨(some 112), (.mov (.t 11)), none, false⟩, ⟨(some 113), (.bin .neq (.t 112) (.c (.d (.int .i64 0)))), none, false⟩] []) (.cond (.t 113) (.seq (Jq48 p) (.exit 0)) .skip)))))
@[simp] theorem Je49 {p : Nums} : EqI (Jq49 p) (.seq (Jq45 p) (.seq (Jq46 p) (.seq (Jq47 p) (.seq (.region [⟨(some 112), (.mov (.t 11)), none, false⟩, ⟨(some 113), (.bin .neq (.t 112) (.c (.d (.int .i64 0)))), none, false⟩] []) (.cond (.t 113) (.seq (Jq48 p) (.exit 0)) .skip))))) := eqi
def Jq4a (p : Nums) : IC := (.seq (.region [⟨(some 78), (.bin .lss (.t 77) (.t 76)), none, false⟩] []) (.seq (.cond (.t 78) .skip (.exit 2)) (.seq (.block 3 (Jq49 p)) (.region [⟨(some 120), (.bin .add (.t 77) (.c (.d (.int .i64 1)))), none, false⟩, ⟨(some 77), (.mov (.t 120)), none, false⟩] []))))
@[simp] theorem Je4a {p : Nums} : EqI (Jq4a p) (.seq (.region [⟨(some 78), (.bin .lss (.t 77) (.t 76)), none, false⟩] []) (.seq (.cond (.t 78) .skip (.exit 2)) (.seq (.block 3 (Jq49 p)) (.region [⟨(some 120), (.bin .add (.t 77) (.c (.d (.int .i64 1)))), none, false⟩, ⟨(some 77), (.mov (.t 120)), none, false⟩] [])))) := eqi
def Jq4c (p : Nums) : IC := (.seq (Jq4j p) (.seq (Jq4k p) (.seq (Jq41 p) (.seq (.seq (Jq42 p) (.cond (.t 64) (.seq (Jq43 p) (.exit 0)) .skip)) (.seq (Jq44 p) (.block 2 (.loop (Jq4a p))))))))
@[simp] theorem Je4c {p : Nums} : EqI (Jq4c p) (.seq (Jq4j p) (.seq (Jq4k p) (.seq (Jq41 p) (.seq (.seq (Jq42 p) (.cond (.t 64) (.seq (Jq43 p) (.exit 0)) .skip)) (.seq (Jq44 p) (.block 2 (.loop (Jq4a p)))))))) := eqi
def Jq4d (p : Nums) : IC := (.seq (.region [⟨(some 29), (.bin .lss (.t 28) (.t 27)), none, false⟩] []) (.seq (.cond (.t 29) .skip (.exit 0)) (.seq (.block 1 (Jq4c p)) (.region [⟨(some 121), (.bin .add (.t 28) (.c (.d (.int .i64 1)))), none, false⟩, ⟨(some 28), (.mov (.t 121)), none, false⟩] []))))
@[simp] theorem Je4d {p : Nums} : EqI (Jq4d p) (.seq (.region [⟨(some 29), (.bin .lss (.t 28) (.t 27)), none, false⟩] []) (.seq (.cond (.t 29) .skip (.exit 0)) (.seq (.block 1 (Jq4c p)) (.region [⟨(some 121), (.bin .add (.t 28) (.c (.d (.int .i64 1)))), none, false⟩, ⟨(some 28), (.mov (.t 121)), none, false⟩] [])))) := eqi
def Jta6 (p : Nums) : IC := (.seq (Jq40 p) (.seq (.seq (Jq4b p) (.seq (.region [⟨(some 14), (.mov (.t 3)), none, false⟩, ⟨(some 15), (.bin .neq (.t 14) (.c (.d (.int .i64 0)))), none, false⟩] []) (.cond (.t 15) (.seq (Jq4e p) .ret) .skip))) (.seq (Jq4f p) (.seq (.seq (Jq4g p) (.cond (.t 22) (Jq4h p) .skip)) (.seq .skip (.seq (.seq (Jq4i p) (.block 0 (.loop (Jq4d p)))) (.seq (.region [⟨(some 122), (.load (some 7) (.t 4)), none, false⟩, ⟨none, (.store 7 (.t 2) (.t 122)), none, false⟩] []) .ret)))))))
@[simp] def Jqha (p : Nums) : List IOp := [qo 3 (.faddr 0 (.t 1)), qo 4 (.load none (.t 3)), qo 5 (.bin .eql (.t 4) (ci 1))]
def Jqh6 (p : Nums) : IC := (.region (Jqha p) [])
@[simp] theorem Jeh6 {p : Nums} : EqI (Jqh6 p) (.region (Jqha p) []) := eqi
@[simp] def Jqhb (p : Nums) : List IOp := [qo 6 (.faddr 2 (.t 1)), qo 7 (.load none (.t 6)), qo 8 (.bslice 1 1 [(.int .i64 0)] [(0, (.t 7))]), qo 2 (.asg (.t 8))]
def Jqh7 (p : Nums) : IC := (.region (Jqhb p) [])
@[simp] theorem Jeh7 {p : Nums} : EqI (Jqh7 p) (.region (Jqhb p) []) := eqi
@[simp] def Jqhc (p : Nums) : List IOp := [qo 9 (.faddr 0 (.t 1)), qo 10 (.load none (.t 9)), qo 11 (.bin .eql (.t 10) (ci 2))]
def Jqh8 (p : Nums) : IC := (.region (Jqhc p) [])
@[simp] theorem Jeh8 {p : Nums} : EqI (Jqh8 p) (.region (Jqhc p) []) := eqi
@[simp] def Jqhd (p : Nums) : List IOp := [qo 12 (.faddr 2 (.t 1)), qo 13 (.load none (.t 12)), qo 14 (.faddr 3 (.t 1)), qo 15 (.load none (.t 14)), qo 16 (.bslice 1 2 [(.int .i64 0)] [(0, (.t 13)), (1, (.t 15))]), qo 2 (.asg (.t 16))]
def Jqh9 (p : Nums) : IC := (.region (Jqhd p) [])
@[simp] theorem Jeh9 {p : Nums} : EqI (Jqh9 p) (.region (Jqhd p) []) := eqi
def Jtbk (p : Nums) : IC := (.seq (.region [⟨(some 1), (.box (.t 0)), none, false⟩, ⟨(some 2), (.asg (.c .nils)), none, false⟩] []) (.seq (.seq (Jqh6 p) (.cond (.t 5) (.seq (Jqh7 p) .ret) .skip)) (.seq (.seq (Jqh8 p) (.cond (.t 11) (.seq (Jqh9 p) .ret) .skip)) (.seq (.region [⟨(some 2), (.asg (.c .nils)), none, false⟩] []) .ret))))
@[simp] def Jq3v (p : Nums) : List IOp := [qp 8 (.faddr 0 (.t 2)), qp 9 (.load (some 3) (.t 8)), qp 10 (.call p.source_Code [(.t 9)]), qp 11 (.faddr 3 (.t 2)), qp 12 (.load (some 4) (.t 11)), qp 13 (.call p.machine_Code [(.t 12)]), qp 14 (.bin .add (.t 10) (.t 13)), qp 15 (.faddr 0 (.t 2)), qp 16 (.faddr 2 (.t 15)), qp 17 (.load none (.t 16)), qp 18 (.len (.t 17)), qo 19 (.bin .add (.t 14) (.t 18)), qo 20 (.bin .add (.t 19) (ci 1)), qo 5 (.asg (.t 20))]
def Jq3p (p : Nums) : IC := (.region (Jq3v p) [])
@[simp] theorem Je3p {p : Nums} : EqI (Jq3p p) (.region (Jq3v p) []) := eqi
@[simp] def Jq3w (p : Nums) : List IOp := [qo 21 (.faddr 0 (.t 2)), qo 22 (.faddr 2 (.t 21)), qo 23 (.load none (.t 22)), qo 24 (.len (.t 23)), qo 25 (.mov (ci 0))]
def Jq3q (p : Nums) : IC := (.region (Jq3w p) [])
@[simp] theorem Je3q {p : Nums} : EqI (Jq3q p) (.region (Jq3w p) []) := eqi
@[simp] def Jq3x (p : Nums) : List IOp := [qo 27 (.iaddr 5 (.t 23) (.t 25)), qo 28 (.load (some 5) (.t 27)), qo 7 (.alloc [.nils, (zi 0), (zi 0), (zi 0), (zi 0)]), qn (.store 5 (.t 7) (.t 28))]
def Jq3r (p : Nums) : IC := (.region (Jq3x p) [])
@[simp] theorem Je3r {p : Nums} : EqI (Jq3r p) (.region (Jq3x p) []) := eqi
@[simp] def Jq3y (p : Nums) : List IOp := [qo 29 (.mov (.t 5)), qo 30 (.faddr 1 (.t 7)), qo 31 (.load (some 4) (.t 30)), qo 32 (.call p.source_Successors [(.t 31)]), qo 33 (.len (.t 32)), qo 34 (.bin .add (.t 29) (.t 33)), qo 5 (.asg (.t 34))]
def Jq3s (p : Nums) : IC := (.region (Jq3y p) [])
@[simp] theorem Je3s {p : Nums} : EqI (Jq3s p) (.region (Jq3y p) []) := eqi
def Jq3t (p : Nums) : IC := (.seq (.region [⟨(some 26), (.bin .lss (.t 25) (.t 24)), none, false⟩] []) (.seq (.cond (.t 26) .skip (.exit 0)) (.seq (.block 1 (.seq (Jq3r p) (Jq3s p))) (.region [⟨(some 35), (.bin .add (.t 25) (.c (.d (.int .i64 1)))), none, false⟩, ⟨(some 25), (.mov (.t 35)), none, false⟩] []))))
@[simp] theorem Je3t {p : Nums} : EqI (Jq3t p) (.seq (.region [⟨(some 26), (.bin .lss (.t 25) (.t 24)), none, false⟩] []) (.seq (.cond (.t 26) .skip (.exit 0)) (.seq (.block 1 (.seq (Jq3r p) (Jq3s p))) (.region [⟨(some 35), (.bin .add (.t 25) (.c (.d (.int .i64 1)))), none, false⟩, ⟨(some 25), (.mov (.t 35)), none, false⟩] [])))) := eqi
@[simp] def Jq3z (p : Nums) : List IOp := [qo 36 (.mov (.t 5)), qo 37 (.bin .mul (ci 3) (.t 36)), qo 38 (.mov (.t 1)), qo 39 (.bin .add (.t 38) (ci 1)), qo 40 (.bin .mul (.t 37) (.t 39)), qo 4 (.asg (.t 40))]
def Jq3u (p : Nums) : IC := (.region (Jq3z p) [])
@[simp] theorem Je3u {p : Nums} : EqI (Jq3u p) (.region (Jq3z p) []) := eqi
def Jta5 (p : Nums) : IC := (.seq (.region [⟨(some 2), (.box (.t 0)), none, false⟩, ⟨(some 4), (.asg (.c (.d (.int .i64 0)))), none, false⟩] []) (.seq (Jq3p p) (.seq (.seq (Jq3q p) (.block 0 (.loop (Jq3t p)))) (.seq (Jq3u p) .ret))))
@[simp] def Jqgp (p : Nums) : List IOp := [qo 4 (.faddr 2 (.t 1)), qo 5 (.load none (.t 4)), qo 6 (.len (.t 5)), qo 7 (.bin .gtr (.t 6) (ci 40)), qo 8 (.mov (.t 7)), ⟨(some 9), (.faddr 1 (.t 1)), (some (8, false)), false⟩, ⟨(some 10), (.load none (.t 9)), (some (8, false)), false⟩, ⟨(some 11), (.bin .gtr (.t 10) (ci 60)), (some (8, false)), false⟩, qo 12 (.pick (.t 8) (.c (.d (.bool true))) (.t 11))]
def Jqgg (p : Nums) : IC := (.region (Jqgp p) [])
@[simp] theorem Jegg {p : Nums} : EqI (Jqgg p) (.region (Jqgp p) []) := eqi
def Jqgh (p : Nums) : IC := (.seq (.region [⟨(some 2), (.asg (.c (.d (.bool false)))), none, false⟩] []) .ret)
@[simp] theorem Jegh {p : Nums} : EqI (Jqgh p) (.seq (.region [⟨(some 2), (.asg (.c (.d (.bool false)))), none, false⟩] []) .ret) := eqi
@[simp] def Jqgq (p : Nums) : List IOp := [qo 13 (.mov (.t 3)), qo 14 (.faddr 2 (.t 1)), qo 15 (.load none (.t 14)), qo 16 (.len (.t 15)), qo 17 (.bin .lss (.t 13) (.t 16))]
def Jqgi (p : Nums) : IC := (.region (Jqgq p) [])
@[simp] theorem Jegi {p : Nums} : EqI (Jqgi p) (.region (Jqgq p) []) := eqi
@[simp] def Jqgr (p : Nums) : List IOp := [qo 20 (.faddr 2 (.t 1)), qo 21 (.load none (.t 20)), qo 22 (.mov (.t 3)), qo 23 (.iaddr 5 (.t 21) (.t 22)), qo 24 (.faddr 0 (.t 23)), qo 25 (.load none (.t 24)), qo 26 (.len (.t 25)), qo 27 (.bin .gtr (.t 26) (ci 100))]
def Jqgj (p : Nums) : IC := (.region (Jqgr p) [])
@[simp] theorem Jegj {p : Nums} : EqI (Jqgj p) (.region (Jqgr p) []) := eqi
def Jqgk (p : Nums) : IC := (.seq (.region [⟨(some 2), (.asg (.c (.d (.bool false)))), none, false⟩] []) .ret)
@[simp] theorem Jegk {p : Nums} : EqI (Jqgk p) (.seq (.region [⟨(some 2), (.asg (.c (.d (.bool false)))), none, false⟩] []) .ret) := eqi
def Jqgl (p : Nums) : IC := (.seq (Jqgj p) (.cond (.t 27) (Jqgk p) .skip))
@[simp] theorem Jegl {p : Nums} : EqI (Jqgl p) (.seq (Jqgj p) (.cond (.t 27) (Jqgk p) .skip)) := eqi
@[simp] def Jqgs (p : Nums) : List IOp := [qo 18 (.mov (.t 3)), qo 19 (.bin .add (.t 18) (ci 1)), qo 3 (.asg (.t 19))]
def Jqgm (p : Nums) : IC := (.region (Jqgs p) [])
@[simp] theorem Jegm {p : Nums} : EqI (Jqgm p) (.region (Jqgs p) []) := eqi
def Jqgn (p : Nums) : IC := (.seq (.seq (Jqgi p) (.cond (.t 17) .skip (.exit 0))) (.seq (.block 1 (Jqgl p)) (Jqgm p)))
@[simp] theorem Jegn {p : Nums} : EqI (Jqgn p) (.seq (.seq (Jqgi p) (.cond (.t 17) .skip (.exit 0))) (.seq (.block 1 (Jqgl p)) (Jqgm p))) := eqi
@[simp] def Jqgt (p : Nums) : List IOp := [qo 28 (.load (some 3) (.t 1)), qo 29 (.call p.ref07_Code [(.t 28)]), qo 30 (.bin .leq (.t 29) (ci 300)), qo 2 (.asg (.t 30))]
def Jqgo (p : Nums) : IC := (.region (Jqgt p) [])
@[simp] theorem Jego {p : Nums} : EqI (Jqgo p) (.region (Jqgt p) []) := eqi
def Jtbi (p : Nums) : IC := (.seq (.region [⟨(some 1), (.box (.t 0)), none, false⟩, ⟨(some 2), (.asg (.c (.d (.bool false)))), none, false⟩] []) (.seq (.seq (Jqgg p) (.cond (.t 12) (Jqgh p) .skip)) (.seq (.seq (.region [⟨(some 3), (.asg (.c (.d (.int .i64 0)))), none, false⟩] []) (.block 0 (.loop (Jqgn p)))) (.seq (Jqgo p) .ret))))
@[simp] def Jqfy (p : Nums) : List IOp := [qo 8 (.faddr 0 (.t 1)), qo 9 (.load none (.t 8)), qo 10 (.bin .lss (.t 9) (ci 0)), qo 11 (.mov (.t 10)), ⟨(some 12), (.faddr 0 (.t 1)), (some (11, false)), false⟩, ⟨(some 13), (.load none (.t 12)), (some (11, false)), false⟩, ⟨(some 14), (.faddr 1 (.t 1)), (some (11, false)), false⟩, ⟨(some 15), (.load none (.t 14)), (some (11, false)), false⟩, ⟨(some 16), (.bin .gtr (.t 13) (.t 15)), (some (11, false)), false⟩, qo 17 (.pick (.t 11) (.c (.d (.bool true))) (.t 16))]
def Jqfd (p : Nums) : IC := (.region (Jqfy p) [])
@[simp] theorem Jefd {p : Nums} : EqI (Jqfd p) (.region (Jqfy p) []) := eqi
def Jqfo (p : Nums) : IC := (.seq (.region [⟨(some 2), (.asg (.c (.d (.int .i64 9)))), none, false⟩] []) .ret)
@[simp] theorem Jefo {p : Nums} : EqI (Jqfo p) (.seq (.region [⟨(some 2), (.asg (.c (.d (.int .i64 9)))), none, false⟩] []) .ret) := eqi
@[simp] def Jqg5 (p : Nums) : List IOp := [qo 18 (.faddr 1 (.t 1)), qo 19 (.load none (.t 18)), qo 20 (.bin .gtr (.t 19) (ci 1048576))]
def Jqfr (p : Nums) : IC := (.region (Jqg5 p) [])
@[simp] theorem Jefr {p : Nums} : EqI (Jqfr p) (.region (Jqg5 p) []) := eqi
def Jqfs (p : Nums) : IC := (.seq (.region [⟨(some 2), (.asg (.c (.d (.int .i64 6)))), none, false⟩] []) .ret)
@[simp] theorem Jefs {p : Nums} : EqI (Jqfs p) (.seq (.region [⟨(some 2), (.asg (.c (.d (.int .i64 6)))), none, false⟩] []) .ret) := eqi
@[simp] def Jqg6 (p : Nums) : List IOp := [qo 21 (.faddr 2 (.t 1)), qo 22 (.load none (.t 21)), qo 23 (.len (.t 22)), qo 24 (.bin .eql (.t 23) (ci 0))]
def Jqft (p : Nums) : IC := (.region (Jqg6 p) [])
@[simp] theorem Jeft {p : Nums} : EqI (Jqft p) (.region (Jqg6 p) []) := eqi
def Jqfu (p : Nums) : IC := (.seq (.region [⟨(some 2), (.asg (.c (.d (.int .i64 14)))), none, false⟩] []) .ret)
@[simp] theorem Jefu {p : Nums} : EqI (Jqfu p) (.seq (.region [⟨(some 2), (.asg (.c (.d (.int .i64 14)))), none, false⟩] []) .ret) := eqi
@[simp] def Jqg7 (p : Nums) : List IOp := [qo 25 (.faddr 2 (.t 1)), qo 26 (.load none (.t 25)), qo 27 (.len (.t 26)), qo 28 (.bin .gtr (.t 27) (ci 1048576)), qo 29 (.mov (.t 28)), ⟨(some 30), (.load (some 3) (.t 1)), (some (29, false)), false⟩, ⟨(some 31), (.call p.ref07_Code [(.t 30)]), (some (29, false)), false⟩, ⟨(some 32), (.bin .gtr (.t 31) (ci 1048576)), (some (29, false)), false⟩, qo 33 (.pick (.t 29) (.c (.d (.bool true))) (.t 32))]
def Jqfv (p : Nums) : IC := (.region (Jqg7 p) [])
@[simp] theorem Jefv {p : Nums} : EqI (Jqfv p) (.region (Jqg7 p) []) := eqi
def Jqfw (p : Nums) : IC := (.seq (.region [⟨(some 2), (.asg (.c (.d (.int .i64 6)))), none, false⟩] []) .ret)
@[simp] theorem Jefw {p : Nums} : EqI (Jqfw p) (.seq (.region [⟨(some 2), (.asg (.c (.d (.int .i64 6)))), none, false⟩] []) .ret) := eqi
@[simp] def Jqg8 (p : Nums) : List IOp := [qo 34 (.mov (.t 3)), qo 35 (.faddr 2 (.t 1)), qo 36 (.load none (.t 35)), qo 37 (.len (.t 36)), qo 38 (.bin .lss (.t 34) (.t 37))]
def Jqfx (p : Nums) : IC := (.region (Jqg8 p) [])
@[simp] theorem Jefx {p : Nums} : EqI (Jqfx p) (.region (Jqg8 p) []) := eqi
@[simp] def Jqfz (p : Nums) : List IOp := [qo 41 (.faddr 2 (.t 1)), qo 42 (.load none (.t 41)), qo 43 (.mov (.t 3)), qo 44 (.iaddr 5 (.t 42) (.t 43)), qo 45 (.load (some 5) (.t 44)), qo 4 (.alloc [.nils, (zi 0), (zi 0), (zi 0), (zi 0)]), qn (.store 5 (.t 4) (.t 45))]
def Jqfe (p : Nums) : IC := (.region (Jqfz p) [])
@[simp] theorem Jefe {p : Nums} : EqI (Jqfe p) (.region (Jqfz p) []) := eqi
@[simp] def Jqg0 (p : Nums) : List IOp := [qo 46 (.mov (.t 5)), qo 47 (.faddr 0 (.t 4)), qo 48 (.load none (.t 47)), qo 49 (.len (.t 48)), qo 50 (.bin .lss (.t 46) (.t 49))]
def Jqff (p : Nums) : IC := (.region (Jqg0 p) [])
@[simp] theorem Jeff {p : Nums} : EqI (Jqff p) (.region (Jqg0 p) []) := eqi
@[simp] def Jqg1 (p : Nums) : List IOp := [qp 53 (.faddr 0 (.t 4)), qp 54 (.load none (.t 53)), qp 55 (.mov (.t 5)), qp 56 (.iaddr 5 (.t 54) (.t 55)), qp 57 (.load (some 5) (.t 56)), qp 58 (.faddr 1 (.t 1)), qp 59 (.load none (.t 58)), qo 60 (.call p.ref07_Instr [(.t 57), (.t 59)]), qo 6 (.asg (.t 60))]
def Jqfg (p : Nums) : IC := (.region (Jqg1 p) [])
@[simp] theorem Jefg {p : Nums} : EqI (Jqfg p) (.region (Jqg1 p) []) := eqi
def Jqfh (p : Nums) : IC := (.seq (.region [⟨(some 63), (.mov (.t 6)), none, false⟩, ⟨(some 2), (.asg (.t 63)), none, false⟩] []) .ret)
@[simp] theorem Jefh {p : Nums} : EqI (Jqfh p) (.seq (.region [⟨(some 63), (.mov (.t 6)), none, false⟩, ⟨(some 2), (.asg (.t 63)), none, false⟩] []) .ret) := eqi
def Jqfi (p : Nums) : IC := (.seq (Jqfg p) (.seq (.region [⟨(some 61), (.mov (.t 6)), none, false⟩, ⟨(some 62), (.bin .neq (.t 61) (.c (.d (.int .i64 0)))), none, false⟩] []) (.cond (.t 62) (Jqfh p) .skip)))
@[simp] theorem Jefi {p : Nums} : EqI (Jqfi p) (.seq (Jqfg p) (.seq (.region [⟨(some 61), (.mov (.t 6)), none, false⟩, ⟨(some 62), (.bin .neq (.t 61) (.c (.d (.int .i64 0)))), none, false⟩] []) (.cond (.t 62) (Jqfh p) .skip))) := eqi
@[simp] def Jqg2 (p : Nums) : List IOp := [qo 51 (.mov (.t 5)), qo 52 (.bin .add (.t 51) (ci 1)), qo 5 (.asg (.t 52))]
def Jqfj (p : Nums) : IC := (.region (Jqg2 p) [])
@[simp] theorem Jefj {p : Nums} : EqI (Jqfj p) (.region (Jqg2 p) []) := eqi
def Jqfk (p : Nums) : IC := (.seq (.seq (Jqff p) (.cond (.t 50) .skip (.exit 2))) (.seq (.block 3 (Jqfi p)) (Jqfj p)))
@[simp] theorem Jefk {p : Nums} : EqI (Jqfk p) (.seq (.seq (Jqff p) (.cond (.t 50) .skip (.exit 2))) (.seq (.block 3 (Jqfi p)) (Jqfj p))) := eqi
@[simp] def Jqg3 (p : Nums) : List IOp := [qo 64 (.faddr 1 (.t 4)), qo 65 (.load (some 4) (.t 64)), qo 66 (.faddr 1 (.t 1)), qo 67 (.load none (.t 66)), qo 68 (.faddr 2 (.t 1)), qo 69 (.load none (.t 68)), qo 70 (.len (.t 69)), qo 71 (.call p.ref07_Term [(.t 65), (.t 67), (.t 70)]), qo 7 (.asg (.t 71))]
def Jqfl (p : Nums) : IC := (.region (Jqg3 p) [])
@[simp] theorem Jefl {p : Nums} : EqI (Jqfl p) (.region (Jqg3 p) []) := eqi
def Jqfm (p : Nums) : IC := (.seq (.region [⟨(some 74), (.mov (.t 7)), none, false⟩, ⟨(some 2), (.asg (.t 74)), none, false⟩] []) .ret)
@[simp] theorem Jefm {p : Nums} : EqI (Jqfm p) (.seq (.region [⟨(some 74), (.mov (.t 7)), none, false⟩, ⟨(some 2), (.asg (.t 74)), none, false⟩] []) .ret) := eqi
def Jqfn (p : Nums) : IC := (.seq (Jqfe p) (.seq (.seq (.region [⟨(some 5), (.asg (.c (.d (.int .i64 0)))), none, false⟩] []) (.block 2 (.loop (Jqfk p)))) (.seq (Jqfl p) (.seq (.region [⟨(some 72), (.mov (.t 7)), none, false⟩, ⟨(some 73), (.bin .neq (.t 72) (.c (.d (.int .i64 0)))), none, false⟩] []) (.cond (.t 73) (Jqfm p) .skip)))))
@[simp] theorem Jefn {p : Nums} : EqI (Jqfn p) (.seq (Jqfe p) (.seq (.seq (.region [⟨(some 5), (.asg (.c (.d (.int .i64 0)))), none, false⟩] []) (.block 2 (.loop (Jqfk p)))) (.seq (Jqfl p) (.seq (.region [⟨(some 72), (.mov (.t 7)), none, false⟩, ⟨(some 73), (.bin .neq (.t 72) (.c (.d (.int .i64 0)))), none, false⟩] []) (.cond (.t 73) (Jqfm p) .skip))))) := eqi
@[simp] def Jqg4 (p : Nums) : List IOp := [qo 39 (.mov (.t 3)), qo 40 (.bin .add (.t 39) (ci 1)), qo 3 (.asg (.t 40))]
def Jqfp (p : Nums) : IC := (.region (Jqg4 p) [])
@[simp] theorem Jefp {p : Nums} : EqI (Jqfp p) (.region (Jqg4 p) []) := eqi
def Jqfq (p : Nums) : IC := (.seq (.seq (Jqfx p) (.cond (.t 38) .skip (.exit 0))) (.seq (.block 1 (Jqfn p)) (Jqfp p)))
@[simp] theorem Jefq {p : Nums} : EqI (Jqfq p) (.seq (.seq (Jqfx p) (.cond (.t 38) .skip (.exit 0))) (.seq (.block 1 (Jqfn p)) (Jqfp p))) := eqi
def Jtbg (p : Nums) : IC := (.seq (.region [⟨(some 1), (.box (.t 0)), none, false⟩, ⟨(some 2), (.asg (.c (.d (.int .i64 0)))), none, false⟩] []) (.seq (.seq (Jqfd p) (.cond (.t 17) (Jqfo p) .skip)) (.seq (.seq (Jqfr p) (.cond (.t 20) (Jqfs p) .skip)) (.seq (.seq (Jqft p) (.cond (.t 24) (Jqfu p) .skip)) (.seq (.seq (Jqfv p) (.cond (.t 33) (Jqfw p) .skip)) (.seq (.seq (.region [⟨(some 3), (.asg (.c (.d (.int .i64 0)))), none, false⟩] []) (.block 0 (.loop (Jqfq p)))) (.seq (.region [⟨(some 2), (.asg (.c (.d (.int .i64 0)))), none, false⟩] []) .ret)))))))
@[simp] def Jqjm (p : Nums) : List IOp := [qo 4 (.faddr 3 (.t 1)), qo 5 (.load none (.t 4)), qo 6 (.len (.t 5)), qo 7 (.bin .gtr (.t 6) (ci 40)), qo 8 (.mov (.t 7)), ⟨(some 9), (.faddr 1 (.t 1)), (some (8, false)), false⟩, ⟨(some 10), (.load none (.t 9)), (some (8, false)), false⟩, ⟨(some 11), (.bin .gtr (.t 10) (ci 60)), (some (8, false)), false⟩, qo 12 (.pick (.t 8) (.c (.d (.bool true))) (.t 11)), qo 13 (.mov (.t 12)), ⟨(some 14), (.faddr 2 (.t 1)), (some (13, false)), false⟩, ⟨(some 15), (.load none (.t 14)), (some (13, false)), false⟩, ⟨(some 16), (.bin .gtr (.t 15) (ci 60)), (some (13, false)), false⟩, qo 17 (.pick (.t 13) (.c (.d (.bool true))) (.t 16))]
def Jqjd (p : Nums) : IC := (.region (Jqjm p) [])
@[simp] theorem Jejd {p : Nums} : EqI (Jqjd p) (.region (Jqjm p) []) := eqi
def Jqje (p : Nums) : IC := (.seq (.region [⟨(some 2), (.asg (.c (.d (.bool false)))), none, false⟩] []) .ret)
@[simp] theorem Jeje {p : Nums} : EqI (Jqje p) (.seq (.region [⟨(some 2), (.asg (.c (.d (.bool false)))), none, false⟩] []) .ret) := eqi
@[simp] def Jqjn (p : Nums) : List IOp := [qo 18 (.mov (.t 3)), qo 19 (.faddr 3 (.t 1)), qo 20 (.load none (.t 19)), qo 21 (.len (.t 20)), qo 22 (.bin .lss (.t 18) (.t 21))]
def Jqjf (p : Nums) : IC := (.region (Jqjn p) [])
@[simp] theorem Jejf {p : Nums} : EqI (Jqjf p) (.region (Jqjn p) []) := eqi
@[simp] def Jqjo (p : Nums) : List IOp := [qo 25 (.faddr 3 (.t 1)), qo 26 (.load none (.t 25)), qo 27 (.mov (.t 3)), qo 28 (.iaddr 5 (.t 26) (.t 27)), qo 29 (.faddr 0 (.t 28)), qo 30 (.load none (.t 29)), qo 31 (.len (.t 30)), qo 32 (.bin .gtr (.t 31) (ci 300))]
def Jqjg (p : Nums) : IC := (.region (Jqjo p) [])
@[simp] theorem Jejg {p : Nums} : EqI (Jqjg p) (.region (Jqjo p) []) := eqi
def Jqjh (p : Nums) : IC := (.seq (.region [⟨(some 2), (.asg (.c (.d (.bool false)))), none, false⟩] []) .ret)
@[simp] theorem Jejh {p : Nums} : EqI (Jqjh p) (.seq (.region [⟨(some 2), (.asg (.c (.d (.bool false)))), none, false⟩] []) .ret) := eqi
def Jqji (p : Nums) : IC := (.seq (Jqjg p) (.cond (.t 32) (Jqjh p) .skip))
@[simp] theorem Jeji {p : Nums} : EqI (Jqji p) (.seq (Jqjg p) (.cond (.t 32) (Jqjh p) .skip)) := eqi
@[simp] def Jqjp (p : Nums) : List IOp := [qo 23 (.mov (.t 3)), qo 24 (.bin .add (.t 23) (ci 1)), qo 3 (.asg (.t 24))]
def Jqjj (p : Nums) : IC := (.region (Jqjp p) [])
@[simp] theorem Jejj {p : Nums} : EqI (Jqjj p) (.region (Jqjp p) []) := eqi
def Jqjk (p : Nums) : IC := (.seq (.seq (Jqjf p) (.cond (.t 22) .skip (.exit 0))) (.seq (.block 1 (Jqji p)) (Jqjj p)))
@[simp] theorem Jejk {p : Nums} : EqI (Jqjk p) (.seq (.seq (Jqjf p) (.cond (.t 22) .skip (.exit 0))) (.seq (.block 1 (Jqji p)) (Jqjj p))) := eqi
@[simp] def Jqjq (p : Nums) : List IOp := [qo 33 (.load (some 4) (.t 1)), qo 34 (.call p.ref08_Code [(.t 33)]), qo 35 (.bin .leq (.t 34) (ci 900)), qo 2 (.asg (.t 35))]
def Jqjl (p : Nums) : IC := (.region (Jqjq p) [])
@[simp] theorem Jejl {p : Nums} : EqI (Jqjl p) (.region (Jqjq p) []) := eqi
def Jtbp (p : Nums) : IC := (.seq (.region [⟨(some 1), (.box (.t 0)), none, false⟩, ⟨(some 2), (.asg (.c (.d (.bool false)))), none, false⟩] []) (.seq (.seq (Jqjd p) (.cond (.t 17) (Jqje p) .skip)) (.seq (.seq (.region [⟨(some 3), (.asg (.c (.d (.int .i64 0)))), none, false⟩] []) (.block 0 (.loop (Jqjk p)))) (.seq (Jqjl p) .ret))))
@[simp] def Jql2 (p : Nums) : List IOp := [qo 4 (.mov (.t 3)), qo 5 (.mov (.t 0)), qo 6 (.len (.t 5)), qo 7 (.bin .lss (.t 4) (.t 6)), qo 8 (.mov (.t 7)), ⟨(some 9), (.mov (.t 3)), (some (8, true)), false⟩, ⟨(some 10), (.bin .leq (.t 9) (ci 40)), (some (8, true)), false⟩, qo 11 (.pick (.t 8) (.t 10) (.c (.d (.bool false))))]
def Jqkv (p : Nums) : IC := (.region (Jql2 p) [])
@[simp] theorem Jekv {p : Nums} : EqI (Jqkv p) (.region (Jql2 p) []) := eqi
@[simp] def Jql3 (p : Nums) : List IOp := [qo 14 (.mov (.t 0)), qo 15 (.mov (.t 3)), qo 16 (.iaddr 1 (.t 14) (.t 15)), qo 17 (.load none (.t 16)), qo 18 (.len (.t 17)), qo 19 (.bin .gtr (.t 18) (ci 400))]
def Jqkw (p : Nums) : IC := (.region (Jql3 p) [])
@[simp] theorem Jekw {p : Nums} : EqI (Jqkw p) (.region (Jql3 p) []) := eqi
def Jqkx (p : Nums) : IC := (.seq (.region [⟨(some 2), (.asg (.c (.d (.bool false)))), none, false⟩] []) .ret)
@[simp] theorem Jekx {p : Nums} : EqI (Jqkx p) (.seq (.region [⟨(some 2), (.asg (.c (.d (.bool false)))), none, false⟩] []) .ret) := eqi
def Jqky (p : Nums) : IC := (.seq (Jqkw p) (.cond (.t 19) (Jqkx p) .skip))
@[simp] theorem Jeky {p : Nums} : EqI (Jqky p) (.seq (Jqkw p) (.cond (.t 19) (Jqkx p) .skip)) := eqi
@[simp] def Jql4 (p : Nums) : List IOp := [qo 12 (.mov (.t 3)), qo 13 (.bin .add (.t 12) (ci 1)), qo 3 (.asg (.t 13))]
def Jqkz (p : Nums) : IC := (.region (Jql4 p) [])
@[simp] theorem Jekz {p : Nums} : EqI (Jqkz p) (.region (Jql4 p) []) := eqi
def Jql0 (p : Nums) : IC := (.seq (.seq (Jqkv p) (.cond (.t 11) .skip (.exit 0))) (.seq (.block 1 (Jqky p)) (Jqkz p)))
@[simp] theorem Jel0 {p : Nums} : EqI (Jql0 p) (.seq (.seq (Jqkv p) (.cond (.t 11) .skip (.exit 0))) (.seq (.block 1 (Jqky p)) (Jqkz p))) := eqi
@[simp] def Jql5 (p : Nums) : List IOp := [qo 20 (.mov (.t 0)), qo 21 (.len (.t 20)), qo 22 (.bin .leq (.t 21) (ci 40)), qo 2 (.asg (.t 22))]
def Jql1 (p : Nums) : IC := (.region (Jql5 p) [])
@[simp] theorem Jel1 {p : Nums} : EqI (Jql1 p) (.region (Jql5 p) []) := eqi
def Jtbt (p : Nums) : IC := (.seq (.region [⟨(some 2), (.asg (.c (.d (.bool false)))), none, false⟩] []) (.seq (.seq (.region [⟨(some 3), (.asg (.c (.d (.int .i64 0)))), none, false⟩] []) (.block 0 (.loop (Jql0 p)))) (.seq (Jql1 p) .ret)))
@[simp] def Jqnx (p : Nums) : List IOp := [qo 7 (.faddr 0 (.t 1)), qo 8 (.load none (.t 7)), qo 9 (.bin .lss (.t 8) (ci 0)), qo 10 (.mov (.t 9)), ⟨(some 11), (.faddr 0 (.t 1)), (some (10, false)), false⟩, ⟨(some 12), (.load none (.t 11)), (some (10, false)), false⟩, ⟨(some 13), (.faddr 1 (.t 1)), (some (10, false)), false⟩, ⟨(some 14), (.load none (.t 13)), (some (10, false)), false⟩, ⟨(some 15), (.bin .gtr (.t 12) (.t 14)), (some (10, false)), false⟩, qo 16 (.pick (.t 10) (.c (.d (.bool true))) (.t 15)), qo 6 (.asg (.t 16))]
def Jqnf (p : Nums) : IC := (.region (Jqnx p) [])
@[simp] theorem Jenf {p : Nums} : EqI (Jqnf p) (.region (Jqnx p) []) := eqi
@[simp] def Jqo1 (p : Nums) : List IOp := [qo 18 (.faddr 1 (.t 1)), qo 19 (.load none (.t 18)), qo 20 (.bin .gtr (.t 19) (ci 1048576)), qo 17 (.asg (.t 20))]
def Jqnp (p : Nums) : IC := (.region (Jqo1 p) [])
@[simp] theorem Jenp {p : Nums} : EqI (Jqnp p) (.region (Jqo1 p) []) := eqi
@[simp] def Jqo2 (p : Nums) : List IOp := [qo 22 (.faddr 2 (.t 1)), qo 23 (.load none (.t 22)), qo 24 (.len (.t 23)), qo 25 (.bin .eql (.t 24) (ci 0)), qo 21 (.asg (.t 25))]
def Jqnq (p : Nums) : IC := (.region (Jqo2 p) [])
@[simp] theorem Jenq {p : Nums} : EqI (Jqnq p) (.region (Jqo2 p) []) := eqi
@[simp] def Jqo3 (p : Nums) : List IOp := [qo 27 (.faddr 2 (.t 1)), qo 28 (.load none (.t 27)), qo 29 (.len (.t 28)), qo 30 (.bin .gtr (.t 29) (ci 1048576)), qo 31 (.mov (.t 30)), ⟨(some 32), (.load (some 3) (.t 1)), (some (31, false)), false⟩, ⟨(some 33), (.call p.source_Code [(.t 32)]), (some (31, false)), false⟩, ⟨(some 34), (.bin .gtr (.t 33) (ci 1048576)), (some (31, false)), false⟩, qo 35 (.pick (.t 31) (.c (.d (.bool true))) (.t 34)), qo 26 (.asg (.t 35))]
def Jqnr (p : Nums) : IC := (.region (Jqo3 p) [])
@[simp] theorem Jenr {p : Nums} : EqI (Jqnr p) (.region (Jqo3 p) []) := eqi
def Jqns (p : Nums) : IC := (.seq (.region [⟨(some 2), (.asg (.c (.d (.int .i64 6)))), none, false⟩] []) .ret)
@[simp] theorem Jens {p : Nums} : EqI (Jqns p) (.seq (.region [⟨(some 2), (.asg (.c (.d (.int .i64 6)))), none, false⟩] []) .ret) := eqi
def Jqnt (p : Nums) : IC := (.seq (.region [⟨(some 2), (.asg (.c (.d (.int .i64 14)))), none, false⟩] []) .ret)
@[simp] theorem Jent {p : Nums} : EqI (Jqnt p) (.seq (.region [⟨(some 2), (.asg (.c (.d (.int .i64 14)))), none, false⟩] []) .ret) := eqi
def Jqnu (p : Nums) : IC := (.seq (Jqnr p) (.cond (.t 26) (Jqns p) .skip))
@[simp] theorem Jenu {p : Nums} : EqI (Jqnu p) (.seq (Jqnr p) (.cond (.t 26) (Jqns p) .skip)) := eqi
def Jqnv (p : Nums) : IC := (.seq (.region [⟨(some 2), (.asg (.c (.d (.int .i64 6)))), none, false⟩] []) .ret)
@[simp] theorem Jenv {p : Nums} : EqI (Jqnv p) (.seq (.region [⟨(some 2), (.asg (.c (.d (.int .i64 6)))), none, false⟩] []) .ret) := eqi
def Jqnw (p : Nums) : IC := (.seq (Jqnq p) (.cond (.t 21) (Jqnt p) (Jqnu p)))
@[simp] theorem Jenw {p : Nums} : EqI (Jqnw p) (.seq (Jqnq p) (.cond (.t 21) (Jqnt p) (Jqnu p))) := eqi
def Jqng (p : Nums) : IC := (.seq (.region [⟨(some 2), (.asg (.c (.d (.int .i64 9)))), none, false⟩] []) .ret)
@[simp] theorem Jeng {p : Nums} : EqI (Jqng p) (.seq (.region [⟨(some 2), (.asg (.c (.d (.int .i64 9)))), none, false⟩] []) .ret) := eqi
def Jqnh (p : Nums) : IC := (.seq (Jqnp p) (.cond (.t 17) (Jqnv p) (Jqnw p)))
@[simp] theorem Jenh {p : Nums} : EqI (Jqnh p) (.seq (Jqnp p) (.cond (.t 17) (Jqnv p) (Jqnw p))) := eqi
def Jqni (p : Nums) : IC := (.seq (Jqnf p) (.cond (.t 6) (Jqng p) (Jqnh p)))
@[simp] theorem Jeni {p : Nums} : EqI (Jqni p) (.seq (Jqnf p) (.cond (.t 6) (Jqng p) (Jqnh p))) := eqi
@[simp] def Jqny (p : Nums) : List IOp := [qo 36 (.faddr 2 (.t 1)), qo 37 (.load none (.t 36)), qo 38 (.len (.t 37)), qo 39 (.mov (ci 0))]
def Jqnj (p : Nums) : IC := (.region (Jqny p) [])
@[simp] theorem Jenj {p : Nums} : EqI (Jqnj p) (.region (Jqny p) []) := eqi
@[simp] def Jqnz (p : Nums) : List IOp := [qo 41 (.iaddr 5 (.t 37) (.t 39)), qo 42 (.load (some 5) (.t 41)), qo 4 (.alloc [.nils, (zi 0), (zi 0), (zi 0), (zi 0)]), qn (.store 5 (.t 4) (.t 42))]
def Jqnk (p : Nums) : IC := (.region (Jqnz p) [])
@[simp] theorem Jenk {p : Nums} : EqI (Jqnk p) (.region (Jqnz p) []) := eqi
@[simp] def Jqo0 (p : Nums) : List IOp := [qo 43 (.load (some 5) (.t 4)), qo 44 (.faddr 1 (.t 1)), qo 45 (.load none (.t 44)), qo 46 (.faddr 2 (.t 1)), qo 47 (.load none (.t 46)), qo 48 (.len (.t 47)), qo 49 (.call p.source_block [(.t 43), (.t 45), (.t 48)]), qo 5 (.asg (.t 49))]
def Jqnl (p : Nums) : IC := (.region (Jqo0 p) [])
@[simp] theorem Jenl {p : Nums} : EqI (Jqnl p) (.region (Jqo0 p) []) := eqi
def Jqnm (p : Nums) : IC := (.seq (.region [⟨(some 52), (.mov (.t 5)), none, false⟩, ⟨(some 2), (.asg (.t 52)), none, false⟩] []) .ret)
@[simp] theorem Jenm {p : Nums} : EqI (Jqnm p) (.seq (.region [⟨(some 52), (.mov (.t 5)), none, false⟩, ⟨(some 2), (.asg (.t 52)), none, false⟩] []) .ret) := eqi
def Jqnn (p : Nums) : IC := (.seq (Jqnk p) (.seq (Jqnl p) (.seq (.region [⟨(some 50), (.mov (.t 5)), none, false⟩, ⟨(some 51), (.bin .neq (.t 50) (.c (.d (.int .i64 0)))), none, false⟩] []) (.cond (.t 51) (Jqnm p) .skip))))
@[simp] theorem Jenn {p : Nums} : EqI (Jqnn p) (.seq (Jqnk p) (.seq (Jqnl p) (.seq (.region [⟨(some 50), (.mov (.t 5)), none, false⟩, ⟨(some 51), (.bin .neq (.t 50) (.c (.d (.int .i64 0)))), none, false⟩] []) (.cond (.t 51) (Jqnm p) .skip)))) := eqi
def Jqno (p : Nums) : IC := (.seq (.region [⟨(some 40), (.bin .lss (.t 39) (.t 38)), none, false⟩] []) (.seq (.cond (.t 40) .skip (.exit 1)) (.seq (.block 2 (Jqnn p)) (.region [⟨(some 53), (.bin .add (.t 39) (.c (.d (.int .i64 1)))), none, false⟩, ⟨(some 39), (.mov (.t 53)), none, false⟩] []))))
@[simp] theorem Jeno {p : Nums} : EqI (Jqno p) (.seq (.region [⟨(some 40), (.bin .lss (.t 39) (.t 38)), none, false⟩] []) (.seq (.cond (.t 40) .skip (.exit 1)) (.seq (.block 2 (Jqnn p)) (.region [⟨(some 53), (.bin .add (.t 39) (.c (.d (.int .i64 1)))), none, false⟩, ⟨(some 39), (.mov (.t 53)), none, false⟩] [])))) := eqi
def Jtbz (p : Nums) : IC := (.seq (.region [⟨(some 1), (.box (.t 0)), none, false⟩, ⟨(some 2), (.asg (.c (.d (.int .i64 0)))), none, false⟩] []) (.seq (.block 0 (Jqni p)) (.seq (.seq (Jqnj p) (.block 1 (.loop (Jqno p)))) (.seq (.region [⟨(some 2), (.asg (.c (.d (.int .i64 0)))), none, false⟩] []) .ret))))
@[simp] def Jq9i (p : Nums) : List IOp := [qo 7 (.faddr 0 (.t 1)), qo 8 (.load none (.t 7)), qo 9 (.bin .lss (.t 8) (ci 0)), qo 10 (.mov (.t 9)), ⟨(some 11), (.faddr 0 (.t 1)), (some (10, false)), false⟩, ⟨(some 12), (.load none (.t 11)), (some (10, false)), false⟩, ⟨(some 13), (.faddr 2 (.t 1)), (some (10, false)), false⟩, ⟨(some 14), (.load none (.t 13)), (some (10, false)), false⟩, ⟨(some 15), (.bin .gtr (.t 12) (.t 14)), (some (10, false)), false⟩, qo 16 (.pick (.t 10) (.c (.d (.bool true))) (.t 15)), qo 6 (.asg (.t 16))]
def Jq8x (p : Nums) : IC := (.region (Jq9i p) [])
@[simp] theorem Je8x {p : Nums} : EqI (Jq8x p) (.region (Jq9i p) []) := eqi
@[simp] def Jq9m (p : Nums) : List IOp := [qo 18 (.faddr 1 (.t 1)), qo 19 (.load none (.t 18)), qo 20 (.bin .lss (.t 19) (ci 0)), qo 17 (.asg (.t 20))]
def Jq98 (p : Nums) : IC := (.region (Jq9m p) [])
@[simp] theorem Je98 {p : Nums} : EqI (Jq98 p) (.region (Jq9m p) []) := eqi
@[simp] def Jq9n (p : Nums) : List IOp := [qo 22 (.faddr 2 (.t 1)), qo 23 (.load none (.t 22)), qo 24 (.bin .gtr (.t 23) (ci 1048576)), qo 25 (.mov (.t 24)), ⟨(some 26), (.faddr 1 (.t 1)), (some (25, false)), false⟩, ⟨(some 27), (.load none (.t 26)), (some (25, false)), false⟩, ⟨(some 28), (.bin .gtr (.t 27) (ci 1048576)), (some (25, false)), false⟩, qo 29 (.pick (.t 25) (.c (.d (.bool true))) (.t 28)), qo 21 (.asg (.t 29))]
def Jq9b (p : Nums) : IC := (.region (Jq9n p) [])
@[simp] theorem Je9b {p : Nums} : EqI (Jq9b p) (.region (Jq9n p) []) := eqi
@[simp] def Jq9o (p : Nums) : List IOp := [qo 31 (.faddr 3 (.t 1)), qo 32 (.load none (.t 31)), qo 33 (.len (.t 32)), qo 34 (.bin .eql (.t 33) (ci 0)), qo 30 (.asg (.t 34))]
def Jq9c (p : Nums) : IC := (.region (Jq9o p) [])
@[simp] theorem Je9c {p : Nums} : EqI (Jq9c p) (.region (Jq9o p) []) := eqi
@[simp] def Jq9p (p : Nums) : List IOp := [qo 36 (.faddr 3 (.t 1)), qo 37 (.load none (.t 36)), qo 38 (.len (.t 37)), qo 39 (.bin .gtr (.t 38) (ci 1048576)), qo 40 (.mov (.t 39)), ⟨(some 41), (.load (some 4) (.t 1)), (some (40, false)), false⟩, ⟨(some 42), (.call p.machine_Code [(.t 41)]), (some (40, false)), false⟩, ⟨(some 43), (.bin .gtr (.t 42) (ci 1048576)), (some (40, false)), false⟩, qo 44 (.pick (.t 40) (.c (.d (.bool true))) (.t 43)), qo 35 (.asg (.t 44))]
def Jq9d (p : Nums) : IC := (.region (Jq9p p) [])
@[simp] theorem Je9d {p : Nums} : EqI (Jq9d p) (.region (Jq9p p) []) := eqi
def Jq9e (p : Nums) : IC := (.seq (.region [⟨(some 2), (.asg (.c (.d (.int .i64 6)))), none, false⟩] []) .ret)
@[simp] theorem Je9e {p : Nums} : EqI (Jq9e p) (.seq (.region [⟨(some 2), (.asg (.c (.d (.int .i64 6)))), none, false⟩] []) .ret) := eqi
def Jq9f (p : Nums) : IC := (.seq (.region [⟨(some 2), (.asg (.c (.d (.int .i64 14)))), none, false⟩] []) .ret)
@[simp] theorem Je9f {p : Nums} : EqI (Jq9f p) (.seq (.region [⟨(some 2), (.asg (.c (.d (.int .i64 14)))), none, false⟩] []) .ret) := eqi
def Jq9g (p : Nums) : IC := (.seq (Jq9d p) (.cond (.t 35) (Jq9e p) .skip))
@[simp] theorem Je9g {p : Nums} : EqI (Jq9g p) (.seq (Jq9d p) (.cond (.t 35) (Jq9e p) .skip)) := eqi
def Jq9h (p : Nums) : IC := (.seq (.region [⟨(some 2), (.asg (.c (.d (.int .i64 6)))), none, false⟩] []) .ret)
@[simp] theorem Je9h {p : Nums} : EqI (Jq9h p) (.seq (.region [⟨(some 2), (.asg (.c (.d (.int .i64 6)))), none, false⟩] []) .ret) := eqi
def Jq8y (p : Nums) : IC := (.seq (Jq9c p) (.cond (.t 30) (Jq9f p) (Jq9g p)))
@[simp] theorem Je8y {p : Nums} : EqI (Jq8y p) (.seq (Jq9c p) (.cond (.t 30) (Jq9f p) (Jq9g p))) := eqi
def Jq8z (p : Nums) : IC := (.seq (.region [⟨(some 2), (.asg (.c (.d (.int .i64 9)))), none, false⟩] []) .ret)
@[simp] theorem Je8z {p : Nums} : EqI (Jq8z p) (.seq (.region [⟨(some 2), (.asg (.c (.d (.int .i64 9)))), none, false⟩] []) .ret) := eqi
def Jq90 (p : Nums) : IC := (.seq (Jq9b p) (.cond (.t 21) (Jq9h p) (Jq8y p)))
@[simp] theorem Je90 {p : Nums} : EqI (Jq90 p) (.seq (Jq9b p) (.cond (.t 21) (Jq9h p) (Jq8y p))) := eqi
def Jq91 (p : Nums) : IC := (.seq (.region [⟨(some 2), (.asg (.c (.d (.int .i64 10)))), none, false⟩] []) .ret)
@[simp] theorem Je91 {p : Nums} : EqI (Jq91 p) (.seq (.region [⟨(some 2), (.asg (.c (.d (.int .i64 10)))), none, false⟩] []) .ret) := eqi
def Jq92 (p : Nums) : IC := (.seq (Jq98 p) (.cond (.t 17) (Jq8z p) (Jq90 p)))
@[simp] theorem Je92 {p : Nums} : EqI (Jq92 p) (.seq (Jq98 p) (.cond (.t 17) (Jq8z p) (Jq90 p))) := eqi
def Jq93 (p : Nums) : IC := (.seq (Jq8x p) (.cond (.t 6) (Jq91 p) (Jq92 p)))
@[simp] theorem Je93 {p : Nums} : EqI (Jq93 p) (.seq (Jq8x p) (.cond (.t 6) (Jq91 p) (Jq92 p))) := eqi
@[simp] def Jq9j (p : Nums) : List IOp := [qo 45 (.faddr 3 (.t 1)), qo 46 (.load none (.t 45)), qo 47 (.len (.t 46)), qo 48 (.mov (ci 0))]
def Jq94 (p : Nums) : IC := (.region (Jq9j p) [])
@[simp] theorem Je94 {p : Nums} : EqI (Jq94 p) (.region (Jq9j p) []) := eqi
@[simp] def Jq9k (p : Nums) : List IOp := [qo 50 (.iaddr 5 (.t 46) (.t 48)), qo 51 (.load (some 5) (.t 50)), qo 4 (.alloc [.nils, (zi 0), (zi 0), (zi 0), (zi 0)]), qn (.store 5 (.t 4) (.t 51))]
def Jq95 (p : Nums) : IC := (.region (Jq9k p) [])
@[simp] theorem Je95 {p : Nums} : EqI (Jq95 p) (.region (Jq9k p) []) := eqi
@[simp] def Jq9l (p : Nums) : List IOp := [qo 52 (.load (some 4) (.t 1)), qo 53 (.load (some 5) (.t 4)), qo 54 (.call p.machine_block [(.t 52), (.t 53)]), qo 5 (.asg (.t 54))]
def Jq96 (p : Nums) : IC := (.region (Jq9l p) [])
@[simp] theorem Je96 {p : Nums} : EqI (Jq96 p) (.region (Jq9l p) []) := eqi
def Jq97 (p : Nums) : IC := (.seq (.region [⟨(some 57), (.mov (.t 5)), none, false⟩, ⟨(some 2), (.asg (.t 57)), none, false⟩] []) .ret)
@[simp] theorem Je97 {p : Nums} : EqI (Jq97 p) (.seq (.region [⟨(some 57), (.mov (.t 5)), none, false⟩, ⟨(some 2), (.asg (.t 57)), none, false⟩] []) .ret) := eqi
def Jq99 (p : Nums) : IC := (.seq (Jq95 p) (.seq (Jq96 p) (.seq (.region [⟨(some 55), (.mov (.t 5)), none, false⟩, ⟨(some 56), (.bin .neq (.t 55) (.c (.d (.int .i64 0)))), none, false⟩] []) (.cond (.t 56) (Jq97 p) .skip))))
@[simp] theorem Je99 {p : Nums} : EqI (Jq99 p) (.seq (Jq95 p) (.seq (Jq96 p) (.seq (.region [⟨(some 55), (.mov (.t 5)), none, false⟩, ⟨(some 56), (.bin .neq (.t 55) (.c (.d (.int .i64 0)))), none, false⟩] []) (.cond (.t 56) (Jq97 p) .skip)))) := eqi
def Jq9a (p : Nums) : IC := (.seq (.region [⟨(some 49), (.bin .lss (.t 48) (.t 47)), none, false⟩] []) (.seq (.cond (.t 49) .skip (.exit 1)) (.seq (.block 2 (Jq99 p)) (.region [⟨(some 58), (.bin .add (.t 48) (.c (.d (.int .i64 1)))), none, false⟩, ⟨(some 48), (.mov (.t 58)), none, false⟩] []))))
@[simp] theorem Je9a {p : Nums} : EqI (Jq9a p) (.seq (.region [⟨(some 49), (.bin .lss (.t 48) (.t 47)), none, false⟩] []) (.seq (.cond (.t 49) .skip (.exit 1)) (.seq (.block 2 (Jq99 p)) (.region [⟨(some 58), (.bin .add (.t 48) (.c (.d (.int .i64 1)))), none, false⟩, ⟨(some 48), (.mov (.t 58)), none, false⟩] [])))) := eqi
def Jtam (p : Nums) : IC := (.seq (.region [⟨(some 1), (.box (.t 0)), none, false⟩, ⟨(some 2), (.asg (.c (.d (.int .i64 0)))), none, false⟩] []) (.seq (.block 0 (Jq93 p)) (.seq (.seq (Jq94 p) (.block 1 (.loop (Jq9a p)))) (.seq (.region [⟨(some 2), (.asg (.c (.d (.int .i64 0)))), none, false⟩] []) .ret))))
@[simp] def Jq6t (p : Nums) : List IOp := [qo 15 (.mov (.t 0)), qo 16 (.len (.t 15)), qo 17 (.mov (.t 1)), qo 18 (.bin .neq (.t 16) (.t 17)), qo 14 (.asg (.t 18))]
def Jq6h (p : Nums) : IC := (.region (Jq6t p) [])
@[simp] theorem Je6h {p : Nums} : EqI (Jq6h p) (.region (Jq6t p) []) := eqi
@[simp] def Jq6u (p : Nums) : List IOp := [qo 20 (.mov (.t 0)), qo 21 (.call p.edge_total [(.t 20)]), qo 22 (.bin .gtr (.t 21) (ci 1048576)), qo 19 (.asg (.t 22))]
def Jq6l (p : Nums) : IC := (.region (Jq6u p) [])
@[simp] theorem Je6l {p : Nums} : EqI (Jq6l p) (.region (Jq6u p) []) := eqi
def Jq6m (p : Nums) : IC := (.seq (.region [⟨(some 10), (.asg (.c (.d (.int .i64 6)))), none, false⟩] []) .ret)
@[simp] theorem Je6m {p : Nums} : EqI (Jq6m p) (.seq (.region [⟨(some 10), (.asg (.c (.d (.int .i64 6)))), none, false⟩] []) .ret) := eqi
def Jq6n (p : Nums) : IC := (.seq (.region [⟨(some 10), (.asg (.c (.d (.int .i64 14)))), none, false⟩] []) .ret)
@[simp] theorem Je6n {p : Nums} : EqI (Jq6n p) (.seq (.region [⟨(some 10), (.asg (.c (.d (.int .i64 14)))), none, false⟩] []) .ret) := eqi
def Jq6o (p : Nums) : IC := (.seq (Jq6l p) (.cond (.t 19) (Jq6m p) .skip))
@[simp] theorem Je6o {p : Nums} : EqI (Jq6o p) (.seq (Jq6l p) (.cond (.t 19) (Jq6m p) .skip)) := eqi
def Jq6p (p : Nums) : IC := (.seq (Jq6h p) (.cond (.t 14) (Jq6n p) (Jq6o p)))
@[simp] theorem Je6p {p : Nums} : EqI (Jq6p p) (.seq (Jq6h p) (.cond (.t 14) (Jq6n p) (Jq6o p))) := eqi
@[simp] def Jq6v (p : Nums) : List IOp := [qo 23 (.mov (.t 0)), qo 24 (.len (.t 23)), qo 25 (.mov (ci 0))]
def Jq6q (p : Nums) : IC := (.region (Jq6v p) [])
@[simp] theorem Je6q {p : Nums} : EqI (Jq6q p) (.region (Jq6v p) []) := eqi
@[simp] def Jq6w (p : Nums) : List IOp := [qo 27 (.iaddr 1 (.t 23) (.t 25)), qo 28 (.load none (.t 27)), qo 12 (.asg (.t 28))]
def Jq6r (p : Nums) : IC := (.region (Jq6w p) [])
@[simp] theorem Je6r {p : Nums} : EqI (Jq6r p) (.region (Jq6w p) []) := eqi
@[simp] def Jq6x (p : Nums) : List IOp := [qo 29 (.mov (.t 12)), qo 30 (.mov (.t 2)), qo 31 (.mov (.t 3)), qo 32 (.mov (.t 4)), qo 33 (.call p.edge_pairs [(.t 29), (.t 30), (.t 31), (.t 32)]), qo 13 (.asg (.t 33))]
def Jq6s (p : Nums) : IC := (.region (Jq6x p) [])
@[simp] theorem Je6s {p : Nums} : EqI (Jq6s p) (.region (Jq6x p) []) := eqi
def Jq6i (p : Nums) : IC := (.seq (.region [⟨(some 36), (.mov (.t 13)), none, false⟩, ⟨(some 10), (.asg (.t 36)), none, false⟩] []) .ret)
@[simp] theorem Je6i {p : Nums} : EqI (Jq6i p) (.seq (.region [⟨(some 36), (.mov (.t 13)), none, false⟩, ⟨(some 10), (.asg (.t 36)), none, false⟩] []) .ret) := eqi
def Jq6j (p : Nums) : IC := (.seq (Jq6r p) (.seq (Jq6s p) (.seq (.region [⟨(some 34), (.mov (.t 13)), none, false⟩, ⟨(some 35), (.bin .neq (.t 34) (.c (.d (.int .i64 0)))), none, false⟩] []) (.cond (.t 35) (Jq6i p) .skip))))
@[simp] theorem Je6j {p : Nums} : EqI (Jq6j p) (.seq (Jq6r p) (.seq (Jq6s p) (.seq (.region [⟨(some 34), (.mov (.t 13)), none, false⟩, ⟨(some 35), (.bin .neq (.t 34) (.c (.d (.int .i64 0)))), none, false⟩] []) (.cond (.t 35) (Jq6i p) .skip)))) := eqi
def Jq6k (p : Nums) : IC := (.seq (.region [⟨(some 26), (.bin .lss (.t 25) (.t 24)), none, false⟩] []) (.seq (.cond (.t 26) .skip (.exit 1)) (.seq (.block 2 (Jq6j p)) (.region [⟨(some 37), (.bin .add (.t 25) (.c (.d (.int .i64 1)))), none, false⟩, ⟨(some 25), (.mov (.t 37)), none, false⟩] []))))
@[simp] theorem Je6k {p : Nums} : EqI (Jq6k p) (.seq (.region [⟨(some 26), (.bin .lss (.t 25) (.t 24)), none, false⟩] []) (.seq (.cond (.t 26) .skip (.exit 1)) (.seq (.block 2 (Jq6j p)) (.region [⟨(some 37), (.bin .add (.t 25) (.c (.d (.int .i64 1)))), none, false⟩, ⟨(some 25), (.mov (.t 37)), none, false⟩] [])))) := eqi
def Jtac (p : Nums) : IC := (.seq (.region [⟨(some 10), (.asg (.c (.d (.int .i64 0)))), none, false⟩] []) (.seq (.block 0 (Jq6p p)) (.seq (.seq (Jq6q p) (.block 1 (.loop (Jq6k p)))) (.seq (.region [⟨(some 10), (.asg (.c (.d (.int .i64 0)))), none, false⟩] []) .ret))))
@[simp] def Jqit (p : Nums) : List IOp := [qo 8 (.faddr 0 (.t 1)), qo 9 (.load none (.t 8)), qo 10 (.bin .lss (.t 9) (ci 0)), qo 11 (.mov (.t 10)), ⟨(some 12), (.faddr 0 (.t 1)), (some (11, false)), false⟩, ⟨(some 13), (.load none (.t 12)), (some (11, false)), false⟩, ⟨(some 14), (.faddr 2 (.t 1)), (some (11, false)), false⟩, ⟨(some 15), (.load none (.t 14)), (some (11, false)), false⟩, ⟨(some 16), (.bin .gtr (.t 13) (.t 15)), (some (11, false)), false⟩, qo 17 (.pick (.t 11) (.c (.d (.bool true))) (.t 16))]
def Jqi4 (p : Nums) : IC := (.region (Jqit p) [])
@[simp] theorem Jei4 {p : Nums} : EqI (Jqi4 p) (.region (Jqit p) []) := eqi
def Jqif (p : Nums) : IC := (.seq (.region [⟨(some 2), (.asg (.c (.d (.int .i64 10)))), none, false⟩] []) .ret)
@[simp] theorem Jeif {p : Nums} : EqI (Jqif p) (.seq (.region [⟨(some 2), (.asg (.c (.d (.int .i64 10)))), none, false⟩] []) .ret) := eqi
@[simp] def Jqj2 (p : Nums) : List IOp := [qo 18 (.faddr 1 (.t 1)), qo 19 (.load none (.t 18)), qo 20 (.bin .lss (.t 19) (ci 0))]
def Jqim (p : Nums) : IC := (.region (Jqj2 p) [])
@[simp] theorem Jeim {p : Nums} : EqI (Jqim p) (.region (Jqj2 p) []) := eqi
def Jqin (p : Nums) : IC := (.seq (.region [⟨(some 2), (.asg (.c (.d (.int .i64 9)))), none, false⟩] []) .ret)
@[simp] theorem Jein {p : Nums} : EqI (Jqin p) (.seq (.region [⟨(some 2), (.asg (.c (.d (.int .i64 9)))), none, false⟩] []) .ret) := eqi
@[simp] def Jqj3 (p : Nums) : List IOp := [qo 21 (.faddr 2 (.t 1)), qo 22 (.load none (.t 21)), qo 23 (.bin .gtr (.t 22) (ci 1048576)), qo 24 (.mov (.t 23)), ⟨(some 25), (.faddr 1 (.t 1)), (some (24, false)), false⟩, ⟨(some 26), (.load none (.t 25)), (some (24, false)), false⟩, ⟨(some 27), (.bin .gtr (.t 26) (ci 1048576)), (some (24, false)), false⟩, qo 28 (.pick (.t 24) (.c (.d (.bool true))) (.t 27))]
def Jqio (p : Nums) : IC := (.region (Jqj3 p) [])
@[simp] theorem Jeio {p : Nums} : EqI (Jqio p) (.region (Jqj3 p) []) := eqi
def Jqip (p : Nums) : IC := (.seq (.region [⟨(some 2), (.asg (.c (.d (.int .i64 6)))), none, false⟩] []) .ret)
@[simp] theorem Jeip {p : Nums} : EqI (Jqip p) (.seq (.region [⟨(some 2), (.asg (.c (.d (.int .i64 6)))), none, false⟩] []) .ret) := eqi
@[simp] def Jqj4 (p : Nums) : List IOp := [qo 29 (.faddr 3 (.t 1)), qo 30 (.load none (.t 29)), qo 31 (.len (.t 30)), qo 32 (.bin .eql (.t 31) (ci 0))]
def Jqiq (p : Nums) : IC := (.region (Jqj4 p) [])
@[simp] theorem Jeiq {p : Nums} : EqI (Jqiq p) (.region (Jqj4 p) []) := eqi
def Jqir (p : Nums) : IC := (.seq (.region [⟨(some 2), (.asg (.c (.d (.int .i64 14)))), none, false⟩] []) .ret)
@[simp] theorem Jeir {p : Nums} : EqI (Jqir p) (.seq (.region [⟨(some 2), (.asg (.c (.d (.int .i64 14)))), none, false⟩] []) .ret) := eqi
@[simp] def Jqj5 (p : Nums) : List IOp := [qo 33 (.faddr 3 (.t 1)), qo 34 (.load none (.t 33)), qo 35 (.len (.t 34)), qo 36 (.bin .gtr (.t 35) (ci 1048576)), qo 37 (.mov (.t 36)), ⟨(some 38), (.load (some 4) (.t 1)), (some (37, false)), false⟩, ⟨(some 39), (.call p.ref08_Code [(.t 38)]), (some (37, false)), false⟩, ⟨(some 40), (.bin .gtr (.t 39) (ci 1048576)), (some (37, false)), false⟩, qo 41 (.pick (.t 37) (.c (.d (.bool true))) (.t 40))]
def Jqis (p : Nums) : IC := (.region (Jqj5 p) [])
@[simp] theorem Jeis {p : Nums} : EqI (Jqis p) (.region (Jqj5 p) []) := eqi
def Jqi5 (p : Nums) : IC := (.seq (.region [⟨(some 2), (.asg (.c (.d (.int .i64 6)))), none, false⟩] []) .ret)
@[simp] theorem Jei5 {p : Nums} : EqI (Jqi5 p) (.seq (.region [⟨(some 2), (.asg (.c (.d (.int .i64 6)))), none, false⟩] []) .ret) := eqi
@[simp] def Jqiu (p : Nums) : List IOp := [qo 42 (.mov (.t 3)), qo 43 (.faddr 3 (.t 1)), qo 44 (.load none (.t 43)), qo 45 (.len (.t 44)), qo 46 (.bin .lss (.t 42) (.t 45))]
def Jqi6 (p : Nums) : IC := (.region (Jqiu p) [])
@[simp] theorem Jei6 {p : Nums} : EqI (Jqi6 p) (.region (Jqiu p) []) := eqi
@[simp] def Jqiv (p : Nums) : List IOp := [qo 49 (.faddr 3 (.t 1)), qo 50 (.load none (.t 49)), qo 51 (.mov (.t 3)), qo 52 (.iaddr 5 (.t 50) (.t 51)), qo 53 (.load (some 5) (.t 52)), qo 4 (.alloc [.nils, (zi 0), (zi 0), (zi 0), (zi 0)]), qn (.store 5 (.t 4) (.t 53))]
def Jqi7 (p : Nums) : IC := (.region (Jqiv p) [])
@[simp] theorem Jei7 {p : Nums} : EqI (Jqi7 p) (.region (Jqiv p) []) := eqi
@[simp] def Jqiw (p : Nums) : List IOp := [qo 54 (.mov (.t 5)), qo 55 (.faddr 0 (.t 4)), qo 56 (.load none (.t 55)), qo 57 (.len (.t 56)), qo 58 (.bin .lss (.t 54) (.t 57))]
def Jqi8 (p : Nums) : IC := (.region (Jqiw p) [])
@[simp] theorem Jei8 {p : Nums} : EqI (Jqi8 p) (.region (Jqiw p) []) := eqi
@[simp] def Jqix (p : Nums) : List IOp := [qp 61 (.faddr 0 (.t 4)), qp 62 (.load none (.t 61)), qp 63 (.mov (.t 5)), qp 64 (.iaddr 7 (.t 62) (.t 63)), qp 65 (.load (some 7) (.t 64)), qp 66 (.faddr 1 (.t 1)), qp 67 (.load none (.t 66)), qp 68 (.faddr 2 (.t 1)), qp 69 (.load none (.t 68)), qo 70 (.call p.ref08_Instr [(.t 65), (.t 67), (.t 69)]), qo 6 (.asg (.t 70))]
def Jqi9 (p : Nums) : IC := (.region (Jqix p) [])
@[simp] theorem Jei9 {p : Nums} : EqI (Jqi9 p) (.region (Jqix p) []) := eqi
def Jqia (p : Nums) : IC := (.seq (.region [⟨(some 73), (.mov (.t 6)), none, false⟩, ⟨(some 2), (.asg (.t 73)), none, false⟩] []) .ret)
@[simp] theorem Jeia {p : Nums} : EqI (Jqia p) (.seq (.region [⟨(some 73), (.mov (.t 6)), none, false⟩, ⟨(some 2), (.asg (.t 73)), none, false⟩] []) .ret) := eqi
@[simp] def Jqiy (p : Nums) : List IOp := [qo 74 (.mov (.t 5)), qo 75 (.bin .geq (.t 74) (ci 64)), qo 76 (.mov (.t 75)), ⟨(some 77), (.faddr 0 (.t 4)), (some (76, true)), false⟩, ⟨(some 78), (.load none (.t 77)), (some (76, true)), false⟩, ⟨(some 79), (.mov (.t 5)), (some (76, true)), false⟩, ⟨(some 80), (.bin .sub (.t 79) (ci 64)), (some (76, true)), false⟩, ⟨(some 81), (.mov (.t 5)), (some (76, true)), false⟩, ⟨(some 82), (.bin .add (.t 81) (ci 1)), (some (76, true)), false⟩, ⟨(some 83), (.slc 7 (.t 78) (some (.t 80)) (some (.t 82))), (some (76, true)), false⟩, ⟨(some 84), (.call p.ref08_Moves [(.t 83)]), (some (76, true)), false⟩, ⟨(some 85), (.bin .gtr (.t 84) (ci 64)), (some (76, true)), false⟩, qo 86 (.pick (.t 76) (.t 85) (.c (.d (.bool false))))]
def Jqib (p : Nums) : IC := (.region (Jqiy p) [])
@[simp] theorem Jeib {p : Nums} : EqI (Jqib p) (.region (Jqiy p) []) := eqi
def Jqic (p : Nums) : IC := (.seq (.region [⟨(some 2), (.asg (.c (.d (.int .i64 15)))), none, false⟩] []) .ret)
@[simp] theorem Jeic {p : Nums} : EqI (Jqic p) (.seq (.region [⟨(some 2), (.asg (.c (.d (.int .i64 15)))), none, false⟩] []) .ret) := eqi
def Jqid (p : Nums) : IC := (.seq (Jqi9 p) (.seq (.seq (.region [⟨(some 71), (.mov (.t 6)), none, false⟩, ⟨(some 72), (.bin .neq (.t 71) (.c (.d (.int .i64 0)))), none, false⟩] []) (.cond (.t 72) (Jqia p) .skip)) (.seq (Jqib p) (.cond (.t 86) (Jqic p) .skip))))
@[simp] theorem Jeid {p : Nums} : EqI (Jqid p) (.seq (Jqi9 p) (.seq (.seq (.region [⟨(some 71), (.mov (.t 6)), none, false⟩, ⟨(some 72), (.bin .neq (.t 71) (.c (.d (.int .i64 0)))), none, false⟩] []) (.cond (.t 72) (Jqia p) .skip)) (.seq (Jqib p) (.cond (.t 86) (Jqic p) .skip)))) := eqi
@[simp] def Jqiz (p : Nums) : List IOp := [qo 59 (.mov (.t 5)), qo 60 (.bin .add (.t 59) (ci 1)), qo 5 (.asg (.t 60))]
def Jqie (p : Nums) : IC := (.region (Jqiz p) [])
@[simp] theorem Jeie {p : Nums} : EqI (Jqie p) (.region (Jqiz p) []) := eqi
def Jqig (p : Nums) : IC := (.seq (.seq (Jqi8 p) (.cond (.t 58) .skip (.exit 2))) (.seq (.block 3 (Jqid p)) (Jqie p)))
@[simp] theorem Jeig {p : Nums} : EqI (Jqig p) (.seq (.seq (Jqi8 p) (.cond (.t 58) .skip (.exit 2))) (.seq (.block 3 (Jqid p)) (Jqie p))) := eqi
@[simp] def Jqj0 (p : Nums) : List IOp := [qo 87 (.faddr 1 (.t 4)), qo 88 (.load (some 4) (.t 87)), qo 89 (.faddr 1 (.t 1)), qo 90 (.load none (.t 89)), qo 91 (.faddr 3 (.t 1)), qo 92 (.load none (.t 91)), qo 93 (.len (.t 92)), qo 94 (.call p.ref07_Term [(.t 88), (.t 90), (.t 93)]), qo 7 (.asg (.t 94))]
def Jqih (p : Nums) : IC := (.region (Jqj0 p) [])
@[simp] theorem Jeih {p : Nums} : EqI (Jqih p) (.region (Jqj0 p) []) := eqi
def Jqii (p : Nums) : IC := (.seq (.region [⟨(some 97), (.mov (.t 7)), none, false⟩, ⟨(some 2), (.asg (.t 97)), none, false⟩] []) .ret)
@[simp] theorem Jeii {p : Nums} : EqI (Jqii p) (.seq (.region [⟨(some 97), (.mov (.t 7)), none, false⟩, ⟨(some 2), (.asg (.t 97)), none, false⟩] []) .ret) := eqi
def Jqij (p : Nums) : IC := (.seq (Jqi7 p) (.seq (.seq (.region [⟨(some 5), (.asg (.c (.d (.int .i64 0)))), none, false⟩] []) (.block 2 (.loop (Jqig p)))) (.seq (Jqih p) (.seq (.region [⟨(some 95), (.mov (.t 7)), none, false⟩, ⟨(some 96), (.bin .neq (.t 95) (.c (.d (.int .i64 0)))), none, false⟩] []) (.cond (.t 96) (Jqii p) .skip)))))
@[simp] theorem Jeij {p : Nums} : EqI (Jqij p) (.seq (Jqi7 p) (.seq (.seq (.region [⟨(some 5), (.asg (.c (.d (.int .i64 0)))), none, false⟩] []) (.block 2 (.loop (Jqig p)))) (.seq (Jqih p) (.seq (.region [⟨(some 95), (.mov (.t 7)), none, false⟩, ⟨(some 96), (.bin .neq (.t 95) (.c (.d (.int .i64 0)))), none, false⟩] []) (.cond (.t 96) (Jqii p) .skip))))) := eqi
@[simp] def Jqj1 (p : Nums) : List IOp := [qo 47 (.mov (.t 3)), qo 48 (.bin .add (.t 47) (ci 1)), qo 3 (.asg (.t 48))]
def Jqik (p : Nums) : IC := (.region (Jqj1 p) [])
@[simp] theorem Jeik {p : Nums} : EqI (Jqik p) (.region (Jqj1 p) []) := eqi
def Jqil (p : Nums) : IC := (.seq (.seq (Jqi6 p) (.cond (.t 46) .skip (.exit 0))) (.seq (.block 1 (Jqij p)) (Jqik p)))
@[simp] theorem Jeil {p : Nums} : EqI (Jqil p) (.seq (.seq (Jqi6 p) (.cond (.t 46) .skip (.exit 0))) (.seq (.block 1 (Jqij p)) (Jqik p))) := eqi
def Jtbn (p : Nums) : IC := (.seq (.region [⟨(some 1), (.box (.t 0)), none, false⟩, ⟨(some 2), (.asg (.c (.d (.int .i64 0)))), none, false⟩] []) (.seq (.seq (Jqi4 p) (.cond (.t 17) (Jqif p) .skip)) (.seq (.seq (Jqim p) (.cond (.t 20) (Jqin p) .skip)) (.seq (.seq (Jqio p) (.cond (.t 28) (Jqip p) .skip)) (.seq (.seq (Jqiq p) (.cond (.t 32) (Jqir p) .skip)) (.seq (.seq (Jqis p) (.cond (.t 41) (Jqi5 p) .skip)) (.seq (.seq (.region [⟨(some 3), (.asg (.c (.d (.int .i64 0)))), none, false⟩] []) (.block 0 (.loop (Jqil p)))) (.seq (.region [⟨(some 2), (.asg (.c (.d (.int .i64 0)))), none, false⟩] []) .ret))))))))
@[simp] def Jqlt (p : Nums) : List IOp := [qo 16 (.mov (.t 0)), qo 17 (.len (.t 16)), qo 18 (.mov (.t 1)), qo 19 (.bin .neq (.t 17) (.t 18))]
def Jql6 (p : Nums) : IC := (.region (Jqlt p) [])
@[simp] theorem Jel6 {p : Nums} : EqI (Jql6 p) (.region (Jqlt p) []) := eqi
def Jqlh (p : Nums) : IC := (.seq (.region [⟨(some 10), (.asg (.c (.d (.int .i64 14)))), none, false⟩] []) .ret)
@[simp] theorem Jelh {p : Nums} : EqI (Jqlh p) (.seq (.region [⟨(some 10), (.asg (.c (.d (.int .i64 14)))), none, false⟩] []) .ret) := eqi
@[simp] def Jqm1 (p : Nums) : List IOp := [qo 20 (.mov (.t 12)), qo 21 (.mov (.t 0)), qo 22 (.len (.t 21)), qo 23 (.bin .lss (.t 20) (.t 22))]
def Jqlm (p : Nums) : IC := (.region (Jqm1 p) [])
@[simp] theorem Jelm {p : Nums} : EqI (Jqlm p) (.region (Jqm1 p) []) := eqi
@[simp] def Jqm2 (p : Nums) : List IOp := [qo 26 (.mov (.t 11)), qo 27 (.mov (.t 0)), qo 28 (.mov (.t 12)), qo 29 (.iaddr 1 (.t 27) (.t 28)), qo 30 (.load none (.t 29)), qo 31 (.len (.t 30)), qo 32 (.bin .add (.t 26) (.t 31)), qo 11 (.asg (.t 32))]
def Jqln (p : Nums) : IC := (.region (Jqm2 p) [])
@[simp] theorem Jeln {p : Nums} : EqI (Jqln p) (.region (Jqm2 p) []) := eqi
def Jqlo (p : Nums) : IC := (.seq (.region [⟨(some 10), (.asg (.c (.d (.int .i64 6)))), none, false⟩] []) .ret)
@[simp] theorem Jelo {p : Nums} : EqI (Jqlo p) (.seq (.region [⟨(some 10), (.asg (.c (.d (.int .i64 6)))), none, false⟩] []) .ret) := eqi
def Jqlp (p : Nums) : IC := (.seq (Jqln p) (.seq (.region [⟨(some 33), (.mov (.t 11)), none, false⟩, ⟨(some 34), (.bin .gtr (.t 33) (.c (.d (.int .i64 1048576)))), none, false⟩] []) (.cond (.t 34) (Jqlo p) .skip)))
@[simp] theorem Jelp {p : Nums} : EqI (Jqlp p) (.seq (Jqln p) (.seq (.region [⟨(some 33), (.mov (.t 11)), none, false⟩, ⟨(some 34), (.bin .gtr (.t 33) (.c (.d (.int .i64 1048576)))), none, false⟩] []) (.cond (.t 34) (Jqlo p) .skip))) := eqi
@[simp] def Jqm3 (p : Nums) : List IOp := [qo 24 (.mov (.t 12)), qo 25 (.bin .add (.t 24) (ci 1)), qo 12 (.asg (.t 25))]
def Jqlq (p : Nums) : IC := (.region (Jqm3 p) [])
@[simp] theorem Jelq {p : Nums} : EqI (Jqlq p) (.region (Jqm3 p) []) := eqi
def Jqlr (p : Nums) : IC := (.seq (.seq (Jqlm p) (.cond (.t 23) .skip (.exit 0))) (.seq (.block 1 (Jqlp p)) (Jqlq p)))
@[simp] theorem Jelr {p : Nums} : EqI (Jqlr p) (.seq (.seq (Jqlm p) (.cond (.t 23) .skip (.exit 0))) (.seq (.block 1 (Jqlp p)) (Jqlq p))) := eqi
@[simp] def Jqm4 (p : Nums) : List IOp := [qo 35 (.mov (.t 13)), qo 36 (.mov (.t 0)), qo 37 (.len (.t 36)), qo 38 (.bin .lss (.t 35) (.t 37))]
def Jqls (p : Nums) : IC := (.region (Jqm4 p) [])
@[simp] theorem Jels {p : Nums} : EqI (Jqls p) (.region (Jqm4 p) []) := eqi
@[simp] def Jqlu (p : Nums) : List IOp := [qo 41 (.mov (.t 14)), qo 42 (.mov (.t 0)), qo 43 (.mov (.t 13)), qo 44 (.iaddr 1 (.t 42) (.t 43)), qo 45 (.load none (.t 44)), qo 46 (.len (.t 45)), qo 47 (.bin .lss (.t 41) (.t 46))]
def Jql7 (p : Nums) : IC := (.region (Jqlu p) [])
@[simp] theorem Jel7 {p : Nums} : EqI (Jql7 p) (.region (Jqlu p) []) := eqi
@[simp] def Jqlv (p : Nums) : List IOp := [qo 50 (.mov (.t 0)), qo 51 (.mov (.t 13)), qo 52 (.iaddr 1 (.t 50) (.t 51)), qo 53 (.load none (.t 52)), qo 54 (.mov (.t 14)), qo 55 (.iaddr 2 (.t 53) (.t 54)), qo 56 (.load (some 2) (.t 55)), qo 15 (.alloc [(zi 0), (zi 0)]), qn (.store 2 (.t 15) (.t 56))]
def Jql8 (p : Nums) : IC := (.region (Jqlv p) [])
@[simp] theorem Jel8 {p : Nums} : EqI (Jql8 p) (.region (Jqlv p) []) := eqi
@[simp] def Jqlw (p : Nums) : List IOp := [qo 57 (.faddr 0 (.t 15)), qo 58 (.load none (.t 57)), qo 59 (.bin .lss (.t 58) (ci 0)), qo 60 (.mov (.t 59)), ⟨(some 61), (.faddr 0 (.t 15)), (some (60, false)), false⟩, ⟨(some 62), (.load none (.t 61)), (some (60, false)), false⟩, ⟨(some 63), (.mov (.t 2)), (some (60, false)), false⟩, ⟨(some 64), (.bin .geq (.t 62) (.t 63)), (some (60, false)), false⟩, qo 65 (.pick (.t 60) (.c (.d (.bool true))) (.t 64))]
def Jql9 (p : Nums) : IC := (.region (Jqlw p) [])
@[simp] theorem Jel9 {p : Nums} : EqI (Jql9 p) (.region (Jqlw p) []) := eqi
def Jqla (p : Nums) : IC := (.seq (.region [⟨(some 10), (.asg (.c (.d (.int .i64 9)))), none, false⟩] []) .ret)
@[simp] theorem Jela {p : Nums} : EqI (Jqla p) (.seq (.region [⟨(some 10), (.asg (.c (.d (.int .i64 9)))), none, false⟩] []) .ret) := eqi
@[simp] def Jqlx (p : Nums) : List IOp := [qo 66 (.faddr 1 (.t 15)), qo 67 (.load none (.t 66)), qo 68 (.mov (.t 3)), qo 69 (.mov (.t 4)), qo 70 (.call p.ref04_InRange [(.t 67), (.t 68), (.t 69)]), qo 71 (.un .not (.t 70))]
def Jqlb (p : Nums) : IC := (.region (Jqlx p) [])
@[simp] theorem Jelb {p : Nums} : EqI (Jqlb p) (.region (Jqlx p) []) := eqi
def Jqlc (p : Nums) : IC := (.seq (.region [⟨(some 10), (.asg (.c (.d (.int .i64 10)))), none, false⟩] []) .ret)
@[simp] theorem Jelc {p : Nums} : EqI (Jqlc p) (.seq (.region [⟨(some 10), (.asg (.c (.d (.int .i64 10)))), none, false⟩] []) .ret) := eqi
@[simp] def Jqly (p : Nums) : List IOp := [qo 72 (.mov (.t 14)), qo 73 (.bin .gtr (.t 72) (ci 0)), qo 74 (.mov (.t 73)), ⟨(some 75), (.mov (.t 0)), (some (74, true)), true⟩, ⟨(some 76), (.mov (.t 13)), (some (74, true)), true⟩, ⟨(some 77), (.iaddr 1 (.t 75) (.t 76)), (some (74, true)), true⟩, ⟨(some 78), (.load none (.t 77)), (some (74, true)), true⟩, ⟨(some 79), (.mov (.t 14)), (some (74, true)), true⟩, ⟨(some 80), (.bin .sub (.t 79) (ci 1)), (some (74, true)), true⟩, ⟨(some 81), (.iaddr 2 (.t 78) (.t 80)), (some (74, true)), true⟩, ⟨(some 82), (.load (some 2) (.t 81)), (some (74, true)), true⟩, ⟨(some 83), (.load (some 2) (.t 15)), (some (74, true)), true⟩, ⟨(some 84), (.call p.ref11_Less [(.t 82), (.t 83)]), (some (74, true)), false⟩, ⟨(some 85), (.un .not (.t 84)), (some (74, true)), false⟩, qo 86 (.pick (.t 74) (.t 85) (.c (.d (.bool false))))]
def Jqld (p : Nums) : IC := (.region (Jqly p) [])
@[simp] theorem Jeld {p : Nums} : EqI (Jqld p) (.region (Jqly p) []) := eqi
def Jqle (p : Nums) : IC := (.seq (.region [⟨(some 10), (.asg (.c (.d (.int .i64 13)))), none, false⟩] []) .ret)
@[simp] theorem Jele {p : Nums} : EqI (Jqle p) (.seq (.region [⟨(some 10), (.asg (.c (.d (.int .i64 13)))), none, false⟩] []) .ret) := eqi
def Jqlf (p : Nums) : IC := (.seq (Jql8 p) (.seq (.seq (Jql9 p) (.cond (.t 65) (Jqla p) .skip)) (.seq (.seq (Jqlb p) (.cond (.t 71) (Jqlc p) .skip)) (.seq (Jqld p) (.cond (.t 86) (Jqle p) .skip)))))
@[simp] theorem Jelf {p : Nums} : EqI (Jqlf p) (.seq (Jql8 p) (.seq (.seq (Jql9 p) (.cond (.t 65) (Jqla p) .skip)) (.seq (.seq (Jqlb p) (.cond (.t 71) (Jqlc p) .skip)) (.seq (Jqld p) (.cond (.t 86) (Jqle p) .skip))))) := eqi
@[simp] def Jqlz (p : Nums) : List IOp := [qo 48 (.mov (.t 14)), qo 49 (.bin .add (.t 48) (ci 1)), qo 14 (.asg (.t 49))]
def Jqlg (p : Nums) : IC := (.region (Jqlz p) [])
@[simp] theorem Jelg {p : Nums} : EqI (Jqlg p) (.region (Jqlz p) []) := eqi
def Jqli (p : Nums) : IC := (.seq (.seq (Jql7 p) (.cond (.t 47) .skip (.exit 4))) (.seq (.block 5 (Jqlf p)) (Jqlg p)))
@[simp] theorem Jeli {p : Nums} : EqI (Jqli p) (.seq (.seq (Jql7 p) (.cond (.t 47) .skip (.exit 4))) (.seq (.block 5 (Jqlf p)) (Jqlg p))) := eqi
def Jqlj (p : Nums) : IC := (.seq (.region [⟨(some 14), (.asg (.c (.d (.int .i64 0)))), none, false⟩] []) (.block 4 (.loop (Jqli p))))
@[simp] theorem Jelj {p : Nums} : EqI (Jqlj p) (.seq (.region [⟨(some 14), (.asg (.c (.d (.int .i64 0)))), none, false⟩] []) (.block 4 (.loop (Jqli p)))) := eqi
@[simp] def Jqm0 (p : Nums) : List IOp := [qo 39 (.mov (.t 13)), qo 40 (.bin .add (.t 39) (ci 1)), qo 13 (.asg (.t 40))]
def Jqlk (p : Nums) : IC := (.region (Jqm0 p) [])
@[simp] theorem Jelk {p : Nums} : EqI (Jqlk p) (.region (Jqm0 p) []) := eqi
def Jqll (p : Nums) : IC := (.seq (.seq (Jqls p) (.cond (.t 38) .skip (.exit 2))) (.seq (.block 3 (Jqlj p)) (Jqlk p)))
@[simp] theorem Jell {p : Nums} : EqI (Jqll p) (.seq (.seq (Jqls p) (.cond (.t 38) .skip (.exit 2))) (.seq (.block 3 (Jqlj p)) (Jqlk p))) := eqi
def Jtbu (p : Nums) : IC := (.seq (.region [⟨(some 10), (.asg (.c (.d (.int .i64 0)))), none, false⟩] []) (.seq (.seq (Jql6 p) (.cond (.t 19) (Jqlh p) .skip)) (.seq (.region [⟨(some 11), (.asg (.c (.d (.int .i64 0)))), none, false⟩] []) (.seq (.seq (.region [⟨(some 12), (.asg (.c (.d (.int .i64 0)))), none, false⟩] []) (.block 0 (.loop (Jqlr p)))) (.seq (.seq (.region [⟨(some 13), (.asg (.c (.d (.int .i64 0)))), none, false⟩] []) (.block 2 (.loop (Jqll p)))) (.seq (.region [⟨(some 10), (.asg (.c (.d (.int .i64 0)))), none, false⟩] []) .ret))))))
@[simp] def Jq5j (p : Nums) : List IOp := [qo 1 (.box (.t 0)), qo 2 (.alloc [(zi 0), (zi 0), (zi 0), (zi 0), (zi 0), (zi 0), (zi 0)])]
def Jq5c (p : Nums) : IC := (.region (Jq5j p) [])
@[simp] theorem Je5c {p : Nums} : EqI (Jq5c p) (.region (Jq5j p) []) := eqi
@[simp] def Jq5k (p : Nums) : List IOp := [qo 6 (.faddr 7 (.t 1)), qo 7 (.load none (.t 6)), qo 8 (.iaddr 1 (.t 7) (ci 0)), qo 9 (.load none (.t 8)), qo 10 (.len (.t 9)), qo 11 (.bin .add (ci 1) (.t 10)), qo 12 (.build [(zi 0), (zi 0), (zi 0), (zi 0), (zi 0), (zi 0), (zi 0)] [(5, 1, (.t 11))]), qo 3 (.alloc [(zi 0), (zi 0), (zi 0), (zi 0), (zi 0), (zi 0), (zi 0)]), qn (.store 7 (.t 3) (.t 12))]
def Jq5d (p : Nums) : IC := (.region (Jq5k p) [])
@[simp] theorem Je5d {p : Nums} : EqI (Jq5d p) (.region (Jq5k p) []) := eqi
@[simp] def Jq5l (p : Nums) : List IOp := [qo 13 (.faddr 7 (.t 1)), qo 14 (.load none (.t 13)), qo 15 (.len (.t 14)), qo 16 (.mov (ci 0))]
def Jq5e (p : Nums) : IC := (.region (Jq5l p) [])
@[simp] theorem Je5e {p : Nums} : EqI (Jq5e p) (.region (Jq5l p) []) := eqi
@[simp] def Jq5m (p : Nums) : List IOp := [qo 18 (.iaddr 1 (.t 14) (.t 16)), qo 19 (.load none (.t 18)), qo 5 (.asg (.t 19))]
def Jq5f (p : Nums) : IC := (.region (Jq5m p) [])
@[simp] theorem Je5f {p : Nums} : EqI (Jq5f p) (.region (Jq5m p) []) := eqi
@[simp] def Jq5n (p : Nums) : List IOp := [qo 20 (.faddr 6 (.t 3)), qo 21 (.load none (.t 20)), qo 22 (.mov (.t 5)), qo 23 (.len (.t 22)), qo 24 (.mx (.t 21) (.t 23)), qo 25 (.faddr 6 (.t 3)), qn (.store 1 (.t 25) (.t 24))]
def Jq5g (p : Nums) : IC := (.region (Jq5n p) [])
@[simp] theorem Je5g {p : Nums} : EqI (Jq5g p) (.region (Jq5n p) []) := eqi
def Jq5h (p : Nums) : IC := (.seq (.region [⟨(some 17), (.bin .lss (.t 16) (.t 15)), none, false⟩] []) (.seq (.cond (.t 17) .skip (.exit 0)) (.seq (.block 1 (.seq (Jq5f p) (Jq5g p))) (.region [⟨(some 26), (.bin .add (.t 16) (.c (.d (.int .i64 1)))), none, false⟩, ⟨(some 16), (.mov (.t 26)), none, false⟩] []))))
@[simp] theorem Je5h {p : Nums} : EqI (Jq5h p) (.seq (.region [⟨(some 17), (.bin .lss (.t 16) (.t 15)), none, false⟩] []) (.seq (.cond (.t 17) .skip (.exit 0)) (.seq (.block 1 (.seq (Jq5f p) (Jq5g p))) (.region [⟨(some 26), (.bin .add (.t 16) (.c (.d (.int .i64 1)))), none, false⟩, ⟨(some 16), (.mov (.t 26)), none, false⟩] [])))) := eqi
@[simp] def Jq5o (p : Nums) : List IOp := [qp 28 (.faddr 7 (.t 1)), qp 29 (.load none (.t 28)), qp 30 (.iaddr 1 (.t 29) (ci 0)), qp 31 (.load none (.t 30)), qp 32 (.faddr 0 (.t 1)), qp 33 (.faddr 0 (.t 32)), qp 34 (.load none (.t 33)), qo 35 (.call p.edge_Entry [(.t 31), (.t 34)]), qo 27 (.mov (.t 35)), qp 36 (.ext (.t 27) 0), qp 37 (.ext (.t 27) 1), qo 38 (.faddr 0 (.t 3)), qn (.store 1 (.t 38) (.t 37))]
def Jq5i (p : Nums) : IC := (.region (Jq5o p) [])
@[simp] theorem Je5i {p : Nums} : EqI (Jq5i p) (.region (Jq5o p) []) := eqi
def Jta8 (p : Nums) : IC := (.seq (Jq5c p) (.seq (Jq5d p) (.seq (.seq (Jq5e p) (.block 0 (.loop (Jq5h p)))) (.seq (Jq5i p) (.seq (.region [⟨(some 39), (.load (some 7) (.t 3)), none, false⟩, ⟨none, (.store 7 (.t 2) (.t 39)), none, false⟩] []) .ret)))))
@[simp] def Jq1k (p : Nums) : List IOp := [qo 4 (.box (.t 0)), qo 5 (.box (.t 1)), qo 8 (.alloc [.nils, (zi 0), (zi 0), (zi 0), (zi 0)])]
def Jq19 (p : Nums) : IC := (.region (Jq1k p) [])
@[simp] theorem Je19 {p : Nums} : EqI (Jq19 p) (.region (Jq1k p) []) := eqi
@[simp] def Jq1n (p : Nums) : List IOp := [qo 14 (.mov (.t 2)), qo 15 (.len (.t 14)), qo 16 (.mov (.t 3)), qo 17 (.bin .gtr (.t 15) (.t 16))]
def Jq1c (p : Nums) : IC := (.region (Jq1n p) [])
@[simp] theorem Je1c {p : Nums} : EqI (Jq1c p) (.region (Jq1n p) []) := eqi
@[simp] def Jq1o (p : Nums) : List IOp := [qo 18 (.mov (.t 2)), qo 19 (.len (.t 18)), qo 20 (.build [.nils, (zi 0), (zi 0), (zi 0), (zi 0)] [(1, 1, (ci 24)), (4, 1, (.t 19))]), qn (.store 5 (.t 8) (.t 20))]
def Jq1d (p : Nums) : IC := (.region (Jq1o p) [])
@[simp] theorem Je1d {p : Nums} : EqI (Jq1d p) (.region (Jq1o p) []) := eqi
@[simp] def Jq1p (p : Nums) : List IOp := [qo 22 (.faddr 0 (.t 4)), qo 23 (.load none (.t 22)), qo 24 (.faddr 0 (.t 5)), qo 25 (.load none (.t 24)), qo 26 (.call p.align_Code [(.t 23), (.t 25)]), qo 21 (.mov (.t 26)), qo 27 (.ext (.t 21) 0), qo 28 (.ext (.t 21) 1), qo 29 (.ext (.t 21) 2), qo 9 (.asg (.t 27)), qo 10 (.asg (.t 28)), qo 11 (.asg (.t 29))]
def Jq1e (p : Nums) : IC := (.region (Jq1p p) [])
@[simp] theorem Je1e {p : Nums} : EqI (Jq1e p) (.region (Jq1p p) []) := eqi
@[simp] def Jq1q (p : Nums) : List IOp := [qo 30 (.mov (.t 11)), qo 31 (.bin .eql (.t 30) (ci 0)), qo 32 (.mov (.t 31)), ⟨(some 33), (.faddr 1 (.t 4)), (some (32, true)), false⟩, ⟨(some 34), (.load (some 4) (.t 33)), (some (32, true)), false⟩, ⟨(some 35), (.faddr 1 (.t 5)), (some (32, true)), false⟩, ⟨(some 36), (.load (some 4) (.t 35)), (some (32, true)), false⟩, ⟨(some 37), (.call p.align_Terms [(.t 34), (.t 36)]), (some (32, true)), false⟩, ⟨(some 38), (.un .not (.t 37)), (some (32, true)), false⟩, qo 39 (.pick (.t 32) (.t 38) (.c (.d (.bool false))))]
def Jq1f (p : Nums) : IC := (.region (Jq1q p) [])
@[simp] theorem Je1f {p : Nums} : EqI (Jq1f p) (.region (Jq1q p) []) := eqi
@[simp] def Jq1r (p : Nums) : List IOp := [qo 11 (.asg (ci 20))]
def Jq1g (p : Nums) : IC := (.region (Jq1r p) [])
@[simp] theorem Je1g {p : Nums} : EqI (Jq1g p) (.region (Jq1r p) []) := eqi
@[simp] def Jq1s (p : Nums) : List IOp := [qo 42 (.mov (.t 11)), qo 43 (.mov (.t 10)), qo 44 (.mov (.t 2)), qo 45 (.len (.t 44)), qo 46 (.build [.nils, (zi 0), (zi 0), (zi 0), (zi 0)] [(1, 1, (.t 42)), (2, 1, (.t 43)), (4, 1, (.t 45))]), qn (.store 5 (.t 8) (.t 46))]
def Jq1h (p : Nums) : IC := (.region (Jq1s p) [])
@[simp] theorem Je1h {p : Nums} : EqI (Jq1h p) (.region (Jq1s p) []) := eqi
@[simp] def Jq1t (p : Nums) : List IOp := [qo 47 (.mov (.t 2)), qo 48 (.call p.pairset_Make [(.t 47)]), qo 49 (.mov (.t 3)), qo 50 (.mov (.t 2)), qo 51 (.len (.t 50)), qo 52 (.build [.nils, (zi 0), (zi 0), (zi 0)] [(0, 1, (.t 48)), (1, 1, (.t 49)), (3, 1, (.t 51))]), qo 53 (.box (.t 52)), qo 12 (.asg (.t 53))]
def Jq1i (p : Nums) : IC := (.region (Jq1t p) [])
@[simp] theorem Je1i {p : Nums} : EqI (Jq1i p) (.region (Jq1t p) []) := eqi
@[simp] def Jq1u (p : Nums) : List IOp := [qo 55 (.mov (.t 12)), qo 56 (.load (some 5) (.t 4)), qo 57 (.load (some 5) (.t 5)), qo 58 (.mov (.t 9)), qo 59 (.call p.blockcheck_checker_run [(.t 55), (.t 56), (.t 57), (.t 58)]), qo 54 (.mov (.t 59)), qo 60 (.ext (.t 54) 0), qo 61 (.ext (.t 54) 1), qo 11 (.asg (.t 60)), qo 10 (.asg (.t 61))]
def Jq1j (p : Nums) : IC := (.region (Jq1u p) [])
@[simp] theorem Je1j {p : Nums} : EqI (Jq1j p) (.region (Jq1u p) []) := eqi
@[simp] def Jq1l (p : Nums) : List IOp := [qp 62 (.mov (.t 11)), qp 63 (.mov (.t 10)), qp 64 (.mov (.t 12)), qp 65 (.nilck (.t 64)), qp 66 (.faddr 2 (.t 65)), qp 67 (.load none (.t 66)), qp 68 (.mov (.t 12)), qp 69 (.nilck (.t 68)), qp 70 (.faddr 3 (.t 69)), qp 71 (.load none (.t 70)), qp 72 (.build [.nils, (zi 0), (zi 0), (zi 0), (zi 0)] [(1, 1, (.t 62)), (2, 1, (.t 63)), (3, 1, (.t 67)), (4, 1, (.t 71))]), qp 13 (.alloc [.nils, (zi 0), (zi 0), (zi 0), (zi 0)]), qn (.store 5 (.t 13) (.t 72))]
def Jq1a (p : Nums) : IC := (.region (Jq1l p) [])
@[simp] theorem Je1a {p : Nums} : EqI (Jq1a p) (.region (Jq1l p) []) := eqi
@[simp] def Jq1m (p : Nums) : List IOp := [qo 75 (.mov (.t 12)), qo 76 (.nilck (.t 75)), qo 77 (.faddr 0 (.t 76)), qo 78 (.load none (.t 77)), qo 79 (.faddr 0 (.t 13)), qn (.store 1 (.t 79) (.t 78))]
def Jq1b (p : Nums) : IC := (.region (Jq1m p) [])
@[simp] theorem Je1b {p : Nums} : EqI (Jq1b p) (.region (Jq1m p) []) := eqi
def Jt9w (p : Nums) : IC := (.seq (Jq19 p) (.seq (.seq (Jq1c p) (.cond (.t 17) (.seq (Jq1d p) .ret) .skip)) (.seq (Jq1e p) (.seq (.seq (Jq1f p) (.cond (.t 39) (Jq1g p) .skip)) (.seq (.seq (.region [⟨(some 40), (.mov (.t 11)), none, false⟩, ⟨(some 41), (.bin .neq (.t 40) (.c (.d (.int .i64 0)))), none, false⟩] []) (.cond (.t 41) (.seq (Jq1h p) .ret) .skip)) (.seq (Jq1i p) (.seq (Jq1j p) (.seq (Jq1a p) (.seq (.seq (.region [⟨(some 73), (.mov (.t 11)), none, false⟩, ⟨(some 74), (.bin .eql (.t 73) (.c (.d (.int .i64 0)))), none, false⟩] []) (.cond (.t 74) (Jq1b p) .skip)) (.seq (.region [⟨(some 80), (.load (some 5) (.t 13)), none, false⟩, ⟨none, (.store 5 (.t 8) (.t 80)), none, false⟩] []) .ret))))))))))
@[simp] def Jqov (p : Nums) : List IOp := [qo 7 (.faddr 2 (.t 1)), qo 8 (.load none (.t 7)), qo 9 (.bslice 1 1 [(.int .i64 0)] [(0, (.t 8))]), qo 2 (.asg (.t 9))]
def Jqor (p : Nums) : IC := (.region (Jqov p) [])
@[simp] theorem Jeor {p : Nums} : EqI (Jqor p) (.region (Jqov p) []) := eqi
@[simp] def Jqow (p : Nums) : List IOp := [qo 12 (.faddr 2 (.t 1)), qo 13 (.load none (.t 12)), qo 14 (.faddr 3 (.t 1)), qo 15 (.load none (.t 14)), qo 16 (.bslice 1 2 [(.int .i64 0)] [(0, (.t 13)), (1, (.t 15))]), qo 2 (.asg (.t 16))]
def Jqos (p : Nums) : IC := (.region (Jqow p) [])
@[simp] theorem Jeos {p : Nums} : EqI (Jqos p) (.region (Jqow p) []) := eqi
def Jqot (p : Nums) : IC := (.seq (.region [⟨(some 11), (.bin .eql (.t 4) (.c (.d (.int .i64 2)))), none, false⟩, ⟨(some 10), (.asg (.t 11)), none, false⟩] []) (.cond (.t 10) (.seq (Jqos p) .ret) .skip))
@[simp] theorem Jeot {p : Nums} : EqI (Jqot p) (.seq (.region [⟨(some 11), (.bin .eql (.t 4) (.c (.d (.int .i64 2)))), none, false⟩, ⟨(some 10), (.asg (.t 11)), none, false⟩] []) (.cond (.t 10) (.seq (Jqos p) .ret) .skip)) := eqi
def Jqou (p : Nums) : IC := (.seq (.region [⟨(some 6), (.bin .eql (.t 4) (.c (.d (.int .i64 1)))), none, false⟩, ⟨(some 5), (.asg (.t 6)), none, false⟩] []) (.cond (.t 5) (.seq (Jqor p) .ret) (Jqot p)))
@[simp] theorem Jeou {p : Nums} : EqI (Jqou p) (.seq (.region [⟨(some 6), (.bin .eql (.t 4) (.c (.d (.int .i64 1)))), none, false⟩, ⟨(some 5), (.asg (.t 6)), none, false⟩] []) (.cond (.t 5) (.seq (Jqor p) .ret) (Jqot p))) := eqi
def Jtc2 (p : Nums) : IC := (.seq (.region [⟨(some 1), (.box (.t 0)), none, false⟩, ⟨(some 2), (.asg (.c .nils)), none, false⟩] []) (.seq (.seq (.region [⟨(some 3), (.faddr 0 (.t 1)), none, false⟩, ⟨(some 4), (.load none (.t 3)), none, false⟩] []) (.block 0 (Jqou p))) (.seq (.region [⟨(some 2), (.asg (.c .nils)), none, false⟩] []) .ret)))
@[simp] def Jq67 (p : Nums) : List IOp := [qo 4 (.alloc [(zi 0), (zi 0)]), qo 5 (.asg (ci 0))]
def Jq63 (p : Nums) : IC := (.region (Jq67 p) [])
@[simp] theorem Je63 {p : Nums} : EqI (Jq63 p) (.region (Jq67 p) []) := eqi
@[simp] def Jq68 (p : Nums) : List IOp := [qo 9 (.mov (.t 1)), qo 10 (.mov (.t 0)), qo 11 (.call p.pairset_Missing [(.t 9), (.t 10)]), qo 8 (.mov (.t 11)), qo 12 (.ext (.t 8) 0), qo 13 (.ext (.t 8) 1), qo 6 (.alloc [(zi 0), (zi 0)]), qn (.store 2 (.t 6) (.t 12)), qo 7 (.asg (.t 13))]
def Jq64 (p : Nums) : IC := (.region (Jq68 p) [])
@[simp] theorem Je64 {p : Nums} : EqI (Jq64 p) (.region (Jq68 p) []) := eqi
@[simp] def Jq69 (p : Nums) : List IOp := [qo 15 (.load (some 2) (.t 6)), qn (.store 2 (.t 4) (.t 15)), qo 5 (.asg (ci 22))]
def Jq65 (p : Nums) : IC := (.region (Jq69 p) [])
@[simp] theorem Je65 {p : Nums} : EqI (Jq65 p) (.region (Jq69 p) []) := eqi
@[simp] def Jq6a (p : Nums) : List IOp := [qo 16 (.build [(zi 0), (zi 0)] []), qn (.store 2 (.t 4) (.t 16)), qo 5 (.asg (ci 0))]
def Jq66 (p : Nums) : IC := (.region (Jq6a p) [])
@[simp] theorem Je66 {p : Nums} : EqI (Jq66 p) (.region (Jq6a p) []) := eqi
def Jtaa (p : Nums) : IC := (.seq (Jq63 p) (.seq (.seq (Jq64 p) (.seq (.region [⟨(some 14), (.mov (.t 7)), none, false⟩] []) (.cond (.t 14) (.seq (Jq65 p) .ret) .skip))) (.seq (Jq66 p) .ret)))
@[simp] def Jqo8 (p : Nums) : List IOp := [qo 6 (.faddr 2 (.t 1)), qo 7 (.load none (.t 6)), qo 8 (.len (.t 7)), qo 9 (.mov (ci 0))]
def Jqo4 (p : Nums) : IC := (.region (Jqo8 p) [])
@[simp] theorem Jeo4 {p : Nums} : EqI (Jqo4 p) (.region (Jqo8 p) []) := eqi
@[simp] def Jqo9 (p : Nums) : List IOp := [qo 11 (.iaddr 5 (.t 7) (.t 9)), qo 12 (.load (some 5) (.t 11)), qo 5 (.alloc [.nils, (zi 0), (zi 0), (zi 0), (zi 0)]), qn (.store 5 (.t 5) (.t 12))]
def Jqo5 (p : Nums) : IC := (.region (Jqo9 p) [])
@[simp] theorem Jeo5 {p : Nums} : EqI (Jqo5 p) (.region (Jqo9 p) []) := eqi
@[simp] def Jqoa (p : Nums) : List IOp := [qo 13 (.mov (.t 3)), qo 14 (.faddr 0 (.t 5)), qo 15 (.load none (.t 14)), qo 16 (.len (.t 15)), qo 17 (.bin .add (.t 13) (.t 16)), qo 3 (.asg (.t 17))]
def Jqo6 (p : Nums) : IC := (.region (Jqoa p) [])
@[simp] theorem Jeo6 {p : Nums} : EqI (Jqo6 p) (.region (Jqoa p) []) := eqi
def Jqo7 (p : Nums) : IC := (.seq (.region [⟨(some 10), (.bin .lss (.t 9) (.t 8)), none, false⟩] []) (.seq (.cond (.t 10) .skip (.exit 0)) (.seq (.block 1 (.seq (Jqo5 p) (Jqo6 p))) (.region [⟨(some 18), (.bin .add (.t 9) (.c (.d (.int .i64 1)))), none, false⟩, ⟨(some 9), (.mov (.t 18)), none, false⟩] []))))
@[simp] theorem Jeo7 {p : Nums} : EqI (Jqo7 p) (.seq (.region [⟨(some 10), (.bin .lss (.t 9) (.t 8)), none, false⟩] []) (.seq (.cond (.t 10) .skip (.exit 0)) (.seq (.block 1 (.seq (Jqo5 p) (Jqo6 p))) (.region [⟨(some 18), (.bin .add (.t 9) (.c (.d (.int .i64 1)))), none, false⟩, ⟨(some 9), (.mov (.t 18)), none, false⟩] [])))) := eqi
def Jtc0 (p : Nums) : IC := (.seq (.region [⟨(some 1), (.box (.t 0)), none, false⟩, ⟨(some 2), (.asg (.c (.d (.int .i64 0)))), none, false⟩] []) (.seq (.region [⟨(some 3), (.asg (.c (.d (.int .i64 0)))), none, false⟩] []) (.seq (.seq (Jqo4 p) (.block 0 (.loop (Jqo7 p)))) (.seq (.region [⟨(some 19), (.mov (.t 3)), none, false⟩, ⟨(some 2), (.asg (.t 19)), none, false⟩] []) .ret))))
@[simp] def Jq9u (p : Nums) : List IOp := [qo 6 (.faddr 3 (.t 1)), qo 7 (.load none (.t 6)), qo 8 (.len (.t 7)), qo 9 (.mov (ci 0))]
def Jq9q (p : Nums) : IC := (.region (Jq9u p) [])
@[simp] theorem Je9q {p : Nums} : EqI (Jq9q p) (.region (Jq9u p) []) := eqi
@[simp] def Jq9v (p : Nums) : List IOp := [qo 11 (.iaddr 5 (.t 7) (.t 9)), qo 12 (.load (some 5) (.t 11)), qo 5 (.alloc [.nils, (zi 0), (zi 0), (zi 0), (zi 0)]), qn (.store 5 (.t 5) (.t 12))]
def Jq9r (p : Nums) : IC := (.region (Jq9v p) [])
@[simp] theorem Je9r {p : Nums} : EqI (Jq9r p) (.region (Jq9v p) []) := eqi
@[simp] def Jq9w (p : Nums) : List IOp := [qo 13 (.mov (.t 3)), qo 14 (.faddr 0 (.t 5)), qo 15 (.load none (.t 14)), qo 16 (.len (.t 15)), qo 17 (.bin .add (.t 13) (.t 16)), qo 3 (.asg (.t 17))]
def Jq9s (p : Nums) : IC := (.region (Jq9w p) [])
@[simp] theorem Je9s {p : Nums} : EqI (Jq9s p) (.region (Jq9w p) []) := eqi
def Jq9t (p : Nums) : IC := (.seq (.region [⟨(some 10), (.bin .lss (.t 9) (.t 8)), none, false⟩] []) (.seq (.cond (.t 10) .skip (.exit 0)) (.seq (.block 1 (.seq (Jq9r p) (Jq9s p))) (.region [⟨(some 18), (.bin .add (.t 9) (.c (.d (.int .i64 1)))), none, false⟩, ⟨(some 9), (.mov (.t 18)), none, false⟩] []))))
@[simp] theorem Je9t {p : Nums} : EqI (Jq9t p) (.seq (.region [⟨(some 10), (.bin .lss (.t 9) (.t 8)), none, false⟩] []) (.seq (.cond (.t 10) .skip (.exit 0)) (.seq (.block 1 (.seq (Jq9r p) (Jq9s p))) (.region [⟨(some 18), (.bin .add (.t 9) (.c (.d (.int .i64 1)))), none, false⟩, ⟨(some 9), (.mov (.t 18)), none, false⟩] [])))) := eqi
def Jtan (p : Nums) : IC := (.seq (.region [⟨(some 1), (.box (.t 0)), none, false⟩, ⟨(some 2), (.asg (.c (.d (.int .i64 0)))), none, false⟩] []) (.seq (.region [⟨(some 3), (.asg (.c (.d (.int .i64 0)))), none, false⟩] []) (.seq (.seq (Jq9q p) (.block 0 (.loop (Jq9t p)))) (.seq (.region [⟨(some 19), (.mov (.t 3)), none, false⟩, ⟨(some 2), (.asg (.t 19)), none, false⟩] []) .ret))))
@[simp] def Jqf8 (p : Nums) : List IOp := [qo 3 (.mov (.t 0)), qo 4 (.bin .geq (.t 3) (ci 2)), qo 5 (.mov (.t 4)), ⟨(some 6), (.mov (.t 0)), (some (5, true)), false⟩, ⟨(some 7), (.bin .leq (.t 6) (ci 17)), (some (5, true)), false⟩, qo 8 (.pick (.t 5) (.t 7) (.c (.d (.bool false)))), qo 2 (.asg (.t 8))]
def Jqf7 (p : Nums) : IC := (.region (Jqf8 p) [])
@[simp] theorem Jef7 {p : Nums} : EqI (Jqf7 p) (.region (Jqf8 p) []) := eqi
def Jtbd (p : Nums) : IC := (.seq (.region [⟨(some 2), (.asg (.c (.d (.bool false)))), none, false⟩] []) (.seq (Jqf7 p) .ret))
@[simp] def Jqfa (p : Nums) : List IOp := [qo 3 (.mov (.t 0)), qo 4 (.bin .geq (.t 3) (ci 5)), qo 5 (.mov (.t 4)), ⟨(some 6), (.mov (.t 0)), (some (5, true)), false⟩, ⟨(some 7), (.bin .leq (.t 6) (ci 16)), (some (5, true)), false⟩, qo 8 (.pick (.t 5) (.t 7) (.c (.d (.bool false)))), qo 2 (.asg (.t 8))]
def Jqf9 (p : Nums) : IC := (.region (Jqfa p) [])
@[simp] theorem Jef9 {p : Nums} : EqI (Jqf9 p) (.region (Jqfa p) []) := eqi
def Jtbe (p : Nums) : IC := (.seq (.region [⟨(some 2), (.asg (.c (.d (.bool false)))), none, false⟩] []) (.seq (Jqf9 p) .ret))
@[simp] def Jqfc (p : Nums) : List IOp := [qo 3 (.mov (.t 0)), qo 4 (.bin .geq (.t 3) (ci 1)), qo 5 (.mov (.t 4)), ⟨(some 6), (.mov (.t 0)), (some (5, true)), false⟩, ⟨(some 7), (.bin .leq (.t 6) (ci 16)), (some (5, true)), false⟩, qo 8 (.pick (.t 5) (.t 7) (.c (.d (.bool false)))), qo 2 (.asg (.t 8))]
def Jqfb (p : Nums) : IC := (.region (Jqfc p) [])
@[simp] theorem Jefb {p : Nums} : EqI (Jqfb p) (.region (Jqfc p) []) := eqi
def Jtbf (p : Nums) : IC := (.seq (.region [⟨(some 2), (.asg (.c (.d (.bool false)))), none, false⟩] []) (.seq (Jqfb p) .ret))
@[simp] def Jqgd (p : Nums) : List IOp := [qo 5 (.mov (.t 4)), qo 6 (.faddr 2 (.t 1)), qo 7 (.load none (.t 6)), qo 8 (.len (.t 7)), qo 9 (.bin .lss (.t 5) (.t 8))]
def Jqg9 (p : Nums) : IC := (.region (Jqgd p) [])
@[simp] theorem Jeg9 {p : Nums} : EqI (Jqg9 p) (.region (Jqgd p) []) := eqi
@[simp] def Jqge (p : Nums) : List IOp := [qo 12 (.mov (.t 3)), qo 13 (.faddr 2 (.t 1)), qo 14 (.load none (.t 13)), qo 15 (.mov (.t 4)), qo 16 (.iaddr 5 (.t 14) (.t 15)), qo 17 (.faddr 0 (.t 16)), qo 18 (.load none (.t 17)), qo 19 (.len (.t 18)), qo 20 (.bin .add (.t 12) (.t 19)), qo 3 (.asg (.t 20))]
def Jqga (p : Nums) : IC := (.region (Jqge p) [])
@[simp] theorem Jega {p : Nums} : EqI (Jqga p) (.region (Jqge p) []) := eqi
@[simp] def Jqgf (p : Nums) : List IOp := [qo 10 (.mov (.t 4)), qo 11 (.bin .add (.t 10) (ci 1)), qo 4 (.asg (.t 11))]
def Jqgb (p : Nums) : IC := (.region (Jqgf p) [])
@[simp] theorem Jegb {p : Nums} : EqI (Jqgb p) (.region (Jqgf p) []) := eqi
def Jqgc (p : Nums) : IC := (.seq (.seq (Jqg9 p) (.cond (.t 9) .skip (.exit 0))) (.seq (.block 1 (Jqga p)) (Jqgb p)))
@[simp] theorem Jegc {p : Nums} : EqI (Jqgc p) (.seq (.seq (Jqg9 p) (.cond (.t 9) .skip (.exit 0))) (.seq (.block 1 (Jqga p)) (Jqgb p))) := eqi
def Jtbh (p : Nums) : IC := (.seq (.region [⟨(some 1), (.box (.t 0)), none, false⟩, ⟨(some 2), (.asg (.c (.d (.int .i64 0)))), none, false⟩] []) (.seq (.region [⟨(some 3), (.asg (.c (.d (.int .i64 0)))), none, false⟩] []) (.seq (.seq (.region [⟨(some 4), (.asg (.c (.d (.int .i64 0)))), none, false⟩] []) (.block 0 (.loop (Jqgc p)))) (.seq (.region [⟨(some 21), (.mov (.t 3)), none, false⟩, ⟨(some 2), (.asg (.t 21)), none, false⟩] []) .ret))))
@[simp] def Jqh3 (p : Nums) : List IOp := [qo 5 (.faddr 0 (.t 2)), qo 6 (.load none (.t 5)), qo 7 (.bin .lss (.t 6) (ci 1)), qo 8 (.mov (.t 7)), ⟨(some 9), (.faddr 0 (.t 2)), (some (8, false)), false⟩, ⟨(some 10), (.load none (.t 9)), (some (8, false)), false⟩, ⟨(some 11), (.bin .gtr (.t 10) (ci 17)), (some (8, false)), false⟩, qo 12 (.pick (.t 8) (.c (.d (.bool true))) (.t 11))]
def Jqgu (p : Nums) : IC := (.region (Jqh3 p) [])
@[simp] theorem Jegu {p : Nums} : EqI (Jqgu p) (.region (Jqh3 p) []) := eqi
def Jqgv (p : Nums) : IC := (.seq (.region [⟨(some 4), (.asg (.c (.d (.int .i64 8)))), none, false⟩] []) .ret)
@[simp] theorem Jegv {p : Nums} : EqI (Jqgv p) (.seq (.region [⟨(some 4), (.asg (.c (.d (.int .i64 8)))), none, false⟩] []) .ret) := eqi
def Jqh0 (p : Nums) : IC := (.seq (.seq (Jqgu p) .cut) (.cond (.t 12) (Jqgv p) .skip))
theorem Jeh0 {p : Nums} : EqI (Jqh0 p) (.seq (.seq (Jqgu p) .cut) (.cond (.t 12) (Jqgv p) .skip)) := eqi
@[simp] def Jqh4 (p : Nums) : List IOp := [qo 13 (.faddr 0 (.t 2)), qo 14 (.load none (.t 13)), qo 15 (.call p.ref05_UsesD [(.t 14)]), qo 16 (.mov (.t 15)), ⟨(some 17), (.faddr 1 (.t 2)), (some (16, true)), false⟩, ⟨(some 18), (.load none (.t 17)), (some (16, true)), false⟩, ⟨(some 19), (.mov (.t 1)), (some (16, true)), false⟩, ⟨(some 20), (.call p.ref07_in [(.t 18), (.t 19)]), (some (16, true)), false⟩, ⟨(some 21), (.un .not (.t 20)), (some (16, true)), false⟩, qo 22 (.pick (.t 16) (.t 21) (.c (.d (.bool false)))), qo 23 (.mov (.t 22)), ⟨(some 24), (.faddr 0 (.t 2)), (some (23, false)), false⟩, ⟨(some 25), (.load none (.t 24)), (some (23, false)), false⟩, ⟨(some 26), (.call p.ref05_UsesA [(.t 25)]), (some (23, false)), false⟩, ⟨(some 27), (.mov (.t 26)), (some (23, false)), false⟩, ⟨(some 28), (.faddr 2 (.t 2)), (some (27, true)), false⟩, ⟨(some 29), (.load none (.t 28)), (some (27, true)), false⟩, ⟨(some 30), (.mov (.t 1)), (some (27, true)), false⟩, ⟨(some 31), (.call p.ref07_in [(.t 29), (.t 30)]), (some (27, true)), false⟩, ⟨(some 32), (.un .not (.t 31)), (some (27, true)), false⟩, ⟨(some 33), (.pick (.t 27) (.t 32) (.c (.d (.bool false)))), (some (23, false)), false⟩, qo 34 (.pick (.t 23) (.c (.d (.bool true))) (.t 33)), qo 35 (.mov (.t 34)), ⟨(some 36), (.faddr 0 (.t 2)), (some (35, false)), false⟩, ⟨(some 37), (.load none (.t 36)), (some (35, false)), false⟩, ⟨(some 38), (.call p.ref05_UsesB [(.t 37)]), (some (35, false)), false⟩, ⟨(some 39), (.mov (.t 38)), (some (35, false)), false⟩, ⟨(some 40), (.faddr 3 (.t 2)), (some (39, true)), false⟩, ⟨(some 41), (.load none (.t 40)), (some (39, true)), false⟩, ⟨(some 42), (.mov (.t 1)), (some (39, true)), false⟩, ⟨(some 43), (.call p.ref07_in [(.t 41), (.t 42)]), (some (39, true)), false⟩, ⟨(some 44), (.un .not (.t 43)), (some (39, true)), false⟩, ⟨(some 45), (.pick (.t 39) (.t 44) (.c (.d (.bool false)))), (some (35, false)), false⟩, qo 46 (.pick (.t 35) (.c (.d (.bool true))) (.t 45))]
def Jqgw (p : Nums) : IC := (.region (Jqh4 p) [])
@[simp] theorem Jegw {p : Nums} : EqI (Jqgw p) (.region (Jqh4 p) []) := eqi
def Jqgx (p : Nums) : IC := (.seq (.region [⟨(some 4), (.asg (.c (.d (.int .i64 9)))), none, false⟩] []) .ret)
@[simp] theorem Jegx {p : Nums} : EqI (Jqgx p) (.seq (.region [⟨(some 4), (.asg (.c (.d (.int .i64 9)))), none, false⟩] []) .ret) := eqi
def Jqh1 (p : Nums) : IC := (.seq (.seq (Jqgw p) .cut) (.cond (.t 46) (Jqgx p) .skip))
theorem Jeh1 {p : Nums} : EqI (Jqh1 p) (.seq (.seq (Jqgw p) .cut) (.cond (.t 46) (Jqgx p) .skip)) := eqi
@[simp] def Jqh5 (p : Nums) : List IOp := [qo 47 (.faddr 0 (.t 2)), qo 48 (.load none (.t 47)), qo 49 (.call p.ref05_UsesD [(.t 48)]), qo 50 (.un .not (.t 49)), qo 51 (.mov (.t 50)), ⟨(some 52), (.faddr 1 (.t 2)), (some (51, true)), false⟩, ⟨(some 53), (.load none (.t 52)), (some (51, true)), false⟩, ⟨(some 54), (.bin .neq (.t 53) (ci 0)), (some (51, true)), false⟩, qo 55 (.pick (.t 51) (.t 54) (.c (.d (.bool false)))), qo 56 (.mov (.t 55)), ⟨(some 57), (.faddr 0 (.t 2)), (some (56, false)), false⟩, ⟨(some 58), (.load none (.t 57)), (some (56, false)), false⟩, ⟨(some 59), (.call p.ref05_UsesA [(.t 58)]), (some (56, false)), false⟩, ⟨(some 60), (.un .not (.t 59)), (some (56, false)), false⟩, ⟨(some 61), (.mov (.t 60)), (some (56, false)), false⟩, ⟨(some 62), (.faddr 2 (.t 2)), (some (61, true)), false⟩, ⟨(some 63), (.load none (.t 62)), (some (61, true)), false⟩, ⟨(some 64), (.bin .neq (.t 63) (ci 0)), (some (61, true)), false⟩, ⟨(some 65), (.pick (.t 61) (.t 64) (.c (.d (.bool false)))), (some (56, false)), false⟩, qo 66 (.pick (.t 56) (.c (.d (.bool true))) (.t 65)), qo 67 (.mov (.t 66)), ⟨(some 68), (.faddr 0 (.t 2)), (some (67, false)), false⟩, ⟨(some 69), (.load none (.t 68)), (some (67, false)), false⟩, ⟨(some 70), (.call p.ref05_UsesB [(.t 69)]), (some (67, false)), false⟩, ⟨(some 71), (.un .not (.t 70)), (some (67, false)), false⟩, ⟨(some 72), (.mov (.t 71)), (some (67, false)), false⟩, ⟨(some 73), (.faddr 3 (.t 2)), (some (72, true)), false⟩, ⟨(some 74), (.load none (.t 73)), (some (72, true)), false⟩, ⟨(some 75), (.bin .neq (.t 74) (ci 0)), (some (72, true)), false⟩, ⟨(some 76), (.pick (.t 72) (.t 75) (.c (.d (.bool false)))), (some (67, false)), false⟩, qo 77 (.pick (.t 67) (.c (.d (.bool true))) (.t 76)), qo 78 (.mov (.t 77)), ⟨(some 79), (.faddr 0 (.t 2)), (some (78, false)), false⟩, ⟨(some 80), (.load none (.t 79)), (some (78, false)), false⟩, ⟨(some 81), (.bin .neq (.t 80) (ci 1)), (some (78, false)), false⟩, ⟨(some 82), (.mov (.t 81)), (some (78, false)), false⟩, ⟨(some 83), (.faddr 4 (.t 2)), (some (82, true)), false⟩, ⟨(some 84), (.load none (.t 83)), (some (82, true)), false⟩, ⟨(some 85), (.bin .neq (.t 84) (ci 0)), (some (82, true)), false⟩, ⟨(some 86), (.pick (.t 82) (.t 85) (.c (.d (.bool false)))), (some (78, false)), false⟩, qo 87 (.pick (.t 78) (.c (.d (.bool true))) (.t 86))]
def Jqgy (p : Nums) : IC := (.region (Jqh5 p) [])
@[simp] theorem Jegy {p : Nums} : EqI (Jqgy p) (.region (Jqh5 p) []) := eqi
def Jqgz (p : Nums) : IC := (.seq (.region [⟨(some 4), (.asg (.c (.d (.int .i64 12)))), none, false⟩] []) .ret)
@[simp] theorem Jegz {p : Nums} : EqI (Jqgz p) (.seq (.region [⟨(some 4), (.asg (.c (.d (.int .i64 12)))), none, false⟩] []) .ret) := eqi
def Jqh2 (p : Nums) : IC := (.seq (.seq (Jqgy p) .cut) (.cond (.t 87) (Jqgz p) .skip))
theorem Jeh2 {p : Nums} : EqI (Jqh2 p) (.seq (.seq (Jqgy p) .cut) (.cond (.t 87) (Jqgz p) .skip)) := eqi
def Jtbj (p : Nums) : IC := (.seq (.region [⟨(some 2), (.box (.t 0)), none, false⟩, ⟨(some 4), (.asg (.c (.d (.int .i64 0)))), none, false⟩] []) (.seq (Jqh0 p) (.seq (Jqh1 p) (.seq (Jqh2 p) (.seq (.region [⟨(some 4), (.asg (.c (.d (.int .i64 0)))), none, false⟩] []) .ret)))))
@[simp] def Jqhw (p : Nums) : List IOp := [qo 11 (.faddr 2 (.t 3)), qo 12 (.load none (.t 11)), qo 13 (.mov (.t 2)), qo 14 (.call p.ref07_in [(.t 12), (.t 13)]), qo 15 (.un .not (.t 14))]
def Jqhe (p : Nums) : IC := (.region (Jqhw p) [])
@[simp] theorem Jehe {p : Nums} : EqI (Jqhe p) (.region (Jqhw p) []) := eqi
def Jqho (p : Nums) : IC := (.seq (.region [⟨(some 6), (.asg (.c (.d (.int .i64 11)))), none, false⟩] []) .ret)
@[simp] theorem Jeho {p : Nums} : EqI (Jqho p) (.seq (.region [⟨(some 6), (.asg (.c (.d (.int .i64 11)))), none, false⟩] []) .ret) := eqi
@[simp] def Jqhy (p : Nums) : List IOp := [qo 16 (.faddr 1 (.t 3)), qo 17 (.load none (.t 16)), qo 18 (.bin .neq (.t 17) (ci 0)), qo 19 (.mov (.t 18)), ⟨(some 20), (.faddr 3 (.t 3)), (some (19, false)), false⟩, ⟨(some 21), (.load none (.t 20)), (some (19, false)), false⟩, ⟨(some 22), (.bin .neq (.t 21) (ci 0)), (some (19, false)), false⟩, qo 23 (.pick (.t 19) (.c (.d (.bool true))) (.t 22))]
def Jqhp (p : Nums) : IC := (.region (Jqhy p) [])
@[simp] theorem Jehp {p : Nums} : EqI (Jqhp p) (.region (Jqhy p) []) := eqi
def Jqhq (p : Nums) : IC := (.seq (.region [⟨(some 6), (.asg (.c (.d (.int .i64 12)))), none, false⟩] []) .ret)
@[simp] theorem Jehq {p : Nums} : EqI (Jqhq p) (.seq (.region [⟨(some 6), (.asg (.c (.d (.int .i64 12)))), none, false⟩] []) .ret) := eqi
@[simp] def Jqhz (p : Nums) : List IOp := [qo 26 (.faddr 1 (.t 3)), qo 27 (.load none (.t 26)), qo 28 (.mov (.t 1)), qo 29 (.call p.ref07_in [(.t 27), (.t 28)]), qo 30 (.un .not (.t 29))]
def Jqhr (p : Nums) : IC := (.region (Jqhz p) [])
@[simp] theorem Jehr {p : Nums} : EqI (Jqhr p) (.region (Jqhz p) []) := eqi
def Jqhs (p : Nums) : IC := (.seq (.region [⟨(some 6), (.asg (.c (.d (.int .i64 9)))), none, false⟩] []) .ret)
@[simp] theorem Jehs {p : Nums} : EqI (Jqhs p) (.seq (.region [⟨(some 6), (.asg (.c (.d (.int .i64 9)))), none, false⟩] []) .ret) := eqi
@[simp] def Jqi0 (p : Nums) : List IOp := [qo 31 (.faddr 2 (.t 3)), qo 32 (.load none (.t 31)), qo 33 (.mov (.t 2)), qo 34 (.call p.ref07_in [(.t 32), (.t 33)]), qo 35 (.un .not (.t 34)), qo 36 (.mov (.t 35)), ⟨(some 37), (.faddr 3 (.t 3)), (some (36, false)), false⟩, ⟨(some 38), (.load none (.t 37)), (some (36, false)), false⟩, ⟨(some 39), (.mov (.t 2)), (some (36, false)), false⟩, ⟨(some 40), (.call p.ref07_in [(.t 38), (.t 39)]), (some (36, false)), false⟩, ⟨(some 41), (.un .not (.t 40)), (some (36, false)), false⟩, qo 42 (.pick (.t 36) (.c (.d (.bool true))) (.t 41))]
def Jqht (p : Nums) : IC := (.region (Jqi0 p) [])
@[simp] theorem Jeht {p : Nums} : EqI (Jqht p) (.region (Jqi0 p) []) := eqi
def Jqhu (p : Nums) : IC := (.seq (.region [⟨(some 6), (.asg (.c (.d (.int .i64 11)))), none, false⟩] []) .ret)
@[simp] theorem Jehu {p : Nums} : EqI (Jqhu p) (.seq (.region [⟨(some 6), (.asg (.c (.d (.int .i64 11)))), none, false⟩] []) .ret) := eqi
@[simp] def Jqi1 (p : Nums) : List IOp := [qo 45 (.faddr 1 (.t 3)), qo 46 (.load none (.t 45)), qo 47 (.mov (.t 1)), qo 48 (.call p.ref07_in [(.t 46), (.t 47)]), qo 49 (.un .not (.t 48))]
def Jqhv (p : Nums) : IC := (.region (Jqi1 p) [])
@[simp] theorem Jehv {p : Nums} : EqI (Jqhv p) (.region (Jqi1 p) []) := eqi
def Jqhf (p : Nums) : IC := (.seq (.region [⟨(some 6), (.asg (.c (.d (.int .i64 9)))), none, false⟩] []) .ret)
@[simp] theorem Jehf {p : Nums} : EqI (Jqhf p) (.seq (.region [⟨(some 6), (.asg (.c (.d (.int .i64 9)))), none, false⟩] []) .ret) := eqi
@[simp] def Jqhx (p : Nums) : List IOp := [qo 50 (.faddr 2 (.t 3)), qo 51 (.load none (.t 50)), qo 52 (.bin .neq (.t 51) (ci 0)), qo 53 (.mov (.t 52)), ⟨(some 54), (.faddr 3 (.t 3)), (some (53, false)), false⟩, ⟨(some 55), (.load none (.t 54)), (some (53, false)), false⟩, ⟨(some 56), (.bin .neq (.t 55) (ci 0)), (some (53, false)), false⟩, qo 57 (.pick (.t 53) (.c (.d (.bool true))) (.t 56))]
def Jqhg (p : Nums) : IC := (.region (Jqhx p) [])
@[simp] theorem Jehg {p : Nums} : EqI (Jqhg p) (.region (Jqhx p) []) := eqi
def Jqhh (p : Nums) : IC := (.seq (.region [⟨(some 6), (.asg (.c (.d (.int .i64 12)))), none, false⟩] []) .ret)
@[simp] theorem Jehh {p : Nums} : EqI (Jqhh p) (.seq (.region [⟨(some 6), (.asg (.c (.d (.int .i64 12)))), none, false⟩] []) .ret) := eqi
def Jqhi (p : Nums) : IC := (.seq (.seq (Jqhv p) (.cond (.t 49) (Jqhf p) .skip)) (.seq (.seq (Jqhg p) (.cond (.t 57) (Jqhh p) .skip)) (.seq (.region [⟨(some 6), (.asg (.c (.d (.int .i64 0)))), none, false⟩] []) .ret)))
@[simp] theorem Jehi {p : Nums} : EqI (Jqhi p) (.seq (.seq (Jqhv p) (.cond (.t 49) (Jqhf p) .skip)) (.seq (.seq (Jqhg p) (.cond (.t 57) (Jqhh p) .skip)) (.seq (.region [⟨(some 6), (.asg (.c (.d (.int .i64 0)))), none, false⟩] []) .ret))) := eqi
def Jqhj (p : Nums) : IC := (.seq (.seq (Jqhr p) (.cond (.t 30) (Jqhs p) .skip)) (.seq (.seq (Jqht p) (.cond (.t 42) (Jqhu p) .skip)) (.seq (.region [⟨(some 6), (.asg (.c (.d (.int .i64 0)))), none, false⟩] []) .ret)))
@[simp] theorem Jehj {p : Nums} : EqI (Jqhj p) (.seq (.seq (Jqhr p) (.cond (.t 30) (Jqhs p) .skip)) (.seq (.seq (Jqht p) (.cond (.t 42) (Jqhu p) .skip)) (.seq (.region [⟨(some 6), (.asg (.c (.d (.int .i64 0)))), none, false⟩] []) .ret))) := eqi
def Jqhk (p : Nums) : IC := (.seq (.region [⟨(some 44), (.bin .eql (.t 8) (.c (.d (.int .i64 3)))), none, false⟩, ⟨(some 43), (.asg (.t 44)), none, false⟩] []) (.cond (.t 43) (Jqhi p) .skip))
@[simp] theorem Jehk {p : Nums} : EqI (Jqhk p) (.seq (.region [⟨(some 44), (.bin .eql (.t 8) (.c (.d (.int .i64 3)))), none, false⟩, ⟨(some 43), (.asg (.t 44)), none, false⟩] []) (.cond (.t 43) (Jqhi p) .skip)) := eqi
def Jqhl (p : Nums) : IC := (.seq (.seq (Jqhe p) (.cond (.t 15) (Jqho p) .skip)) (.seq (.seq (Jqhp p) (.cond (.t 23) (Jqhq p) .skip)) (.seq (.region [⟨(some 6), (.asg (.c (.d (.int .i64 0)))), none, false⟩] []) .ret)))
@[simp] theorem Jehl {p : Nums} : EqI (Jqhl p) (.seq (.seq (Jqhe p) (.cond (.t 15) (Jqho p) .skip)) (.seq (.seq (Jqhp p) (.cond (.t 23) (Jqhq p) .skip)) (.seq (.region [⟨(some 6), (.asg (.c (.d (.int .i64 0)))), none, false⟩] []) .ret))) := eqi
def Jqhm (p : Nums) : IC := (.seq (.region [⟨(some 25), (.bin .eql (.t 8) (.c (.d (.int .i64 2)))), none, false⟩, ⟨(some 24), (.asg (.t 25)), none, false⟩] []) (.cond (.t 24) (Jqhj p) (Jqhk p)))
@[simp] theorem Jehm {p : Nums} : EqI (Jqhm p) (.seq (.region [⟨(some 25), (.bin .eql (.t 8) (.c (.d (.int .i64 2)))), none, false⟩, ⟨(some 24), (.asg (.t 25)), none, false⟩] []) (.cond (.t 24) (Jqhj p) (Jqhk p))) := eqi
def Jqhn (p : Nums) : IC := (.seq (.region [⟨(some 10), (.bin .eql (.t 8) (.c (.d (.int .i64 1)))), none, false⟩, ⟨(some 9), (.asg (.t 10)), none, false⟩] []) (.cond (.t 9) (Jqhl p) (Jqhm p)))
@[simp] theorem Jehn {p : Nums} : EqI (Jqhn p) (.seq (.region [⟨(some 10), (.bin .eql (.t 8) (.c (.d (.int .i64 1)))), none, false⟩, ⟨(some 9), (.asg (.t 10)), none, false⟩] []) (.cond (.t 9) (Jqhl p) (Jqhm p))) := eqi
def Jtbl (p : Nums) : IC := (.seq (.region [⟨(some 3), (.box (.t 0)), none, false⟩, ⟨(some 6), (.asg (.c (.d (.int .i64 0)))), none, false⟩] []) (.seq (.seq (.region [⟨(some 7), (.faddr 0 (.t 3)), none, false⟩, ⟨(some 8), (.load none (.t 7)), none, false⟩] []) (.block 0 (Jqhn p))) (.seq (.region [⟨(some 6), (.asg (.c (.d (.int .i64 16)))), none, false⟩] []) .ret)))
@[simp] def Jqja (p : Nums) : List IOp := [qo 5 (.mov (.t 4)), qo 6 (.faddr 3 (.t 1)), qo 7 (.load none (.t 6)), qo 8 (.len (.t 7)), qo 9 (.bin .lss (.t 5) (.t 8))]
def Jqj6 (p : Nums) : IC := (.region (Jqja p) [])
@[simp] theorem Jej6 {p : Nums} : EqI (Jqj6 p) (.region (Jqja p) []) := eqi
@[simp] def Jqjb (p : Nums) : List IOp := [qo 12 (.mov (.t 3)), qo 13 (.faddr 3 (.t 1)), qo 14 (.load none (.t 13)), qo 15 (.mov (.t 4)), qo 16 (.iaddr 5 (.t 14) (.t 15)), qo 17 (.faddr 0 (.t 16)), qo 18 (.load none (.t 17)), qo 19 (.len (.t 18)), qo 20 (.bin .add (.t 12) (.t 19)), qo 3 (.asg (.t 20))]
def Jqj7 (p : Nums) : IC := (.region (Jqjb p) [])
@[simp] theorem Jej7 {p : Nums} : EqI (Jqj7 p) (.region (Jqjb p) []) := eqi
@[simp] def Jqjc (p : Nums) : List IOp := [qo 10 (.mov (.t 4)), qo 11 (.bin .add (.t 10) (ci 1)), qo 4 (.asg (.t 11))]
def Jqj8 (p : Nums) : IC := (.region (Jqjc p) [])
@[simp] theorem Jej8 {p : Nums} : EqI (Jqj8 p) (.region (Jqjc p) []) := eqi
def Jqj9 (p : Nums) : IC := (.seq (.seq (Jqj6 p) (.cond (.t 9) .skip (.exit 0))) (.seq (.block 1 (Jqj7 p)) (Jqj8 p)))
@[simp] theorem Jej9 {p : Nums} : EqI (Jqj9 p) (.seq (.seq (Jqj6 p) (.cond (.t 9) .skip (.exit 0))) (.seq (.block 1 (Jqj7 p)) (Jqj8 p))) := eqi
def Jtbo (p : Nums) : IC := (.seq (.region [⟨(some 1), (.box (.t 0)), none, false⟩, ⟨(some 2), (.asg (.c (.d (.int .i64 0)))), none, false⟩] []) (.seq (.region [⟨(some 3), (.asg (.c (.d (.int .i64 0)))), none, false⟩] []) (.seq (.seq (.region [⟨(some 4), (.asg (.c (.d (.int .i64 0)))), none, false⟩] []) (.block 0 (.loop (Jqj9 p)))) (.seq (.region [⟨(some 21), (.mov (.t 3)), none, false⟩, ⟨(some 2), (.asg (.t 21)), none, false⟩] []) .ret))))
@[simp] def Jqpz (p : Nums) : List IOp := [qo 10 (.faddr 0 (.t 3)), qo 11 (.load none (.t 10)), qo 12 (.len (.t 11)), qo 13 (.mov (ci 0))]
def Jqps (p : Nums) : IC := (.region (Jqpz p) [])
@[simp] theorem Jeps {p : Nums} : EqI (Jqps p) (.region (Jqpz p) []) := eqi
@[simp] def Jqq0 (p : Nums) : List IOp := [qo 15 (.iaddr 5 (.t 11) (.t 13)), qo 16 (.load (some 5) (.t 15)), qo 8 (.alloc [(zi 0), (zi 0), (zi 0), (zi 0), (zi 0)]), qn (.store 5 (.t 8) (.t 16))]
def Jqpt (p : Nums) : IC := (.region (Jqq0 p) [])
@[simp] theorem Jept {p : Nums} : EqI (Jqpt p) (.region (Jqq0 p) []) := eqi
@[simp] def Jqq1 (p : Nums) : List IOp := [qo 17 (.load (some 5) (.t 8)), qo 18 (.mov (.t 1)), qo 19 (.call p.source_Instr [(.t 17), (.t 18)]), qo 9 (.asg (.t 19))]
def Jqpu (p : Nums) : IC := (.region (Jqq1 p) [])
@[simp] theorem Jepu {p : Nums} : EqI (Jqpu p) (.region (Jqq1 p) []) := eqi
def Jqpv (p : Nums) : IC := (.seq (.region [⟨(some 22), (.mov (.t 9)), none, false⟩, ⟨(some 6), (.asg (.t 22)), none, false⟩] []) .ret)
@[simp] theorem Jepv {p : Nums} : EqI (Jqpv p) (.seq (.region [⟨(some 22), (.mov (.t 9)), none, false⟩, ⟨(some 6), (.asg (.t 22)), none, false⟩] []) .ret) := eqi
def Jqpw (p : Nums) : IC := (.seq (Jqpt p) (.seq (Jqpu p) (.seq (.region [⟨(some 20), (.mov (.t 9)), none, false⟩, ⟨(some 21), (.bin .neq (.t 20) (.c (.d (.int .i64 0)))), none, false⟩] []) (.cond (.t 21) (Jqpv p) .skip))))
@[simp] theorem Jepw {p : Nums} : EqI (Jqpw p) (.seq (Jqpt p) (.seq (Jqpu p) (.seq (.region [⟨(some 20), (.mov (.t 9)), none, false⟩, ⟨(some 21), (.bin .neq (.t 20) (.c (.d (.int .i64 0)))), none, false⟩] []) (.cond (.t 21) (Jqpv p) .skip)))) := eqi
def Jqpx (p : Nums) : IC := (.seq (.region [⟨(some 14), (.bin .lss (.t 13) (.t 12)), none, false⟩] []) (.seq (.cond (.t 14) .skip (.exit 0)) (.seq (.block 1 (Jqpw p)) (.region [⟨(some 23), (.bin .add (.t 13) (.c (.d (.int .i64 1)))), none, false⟩, ⟨(some 13), (.mov (.t 23)), none, false⟩] []))))
@[simp] theorem Jepx {p : Nums} : EqI (Jqpx p) (.seq (.region [⟨(some 14), (.bin .lss (.t 13) (.t 12)), none, false⟩] []) (.seq (.cond (.t 14) .skip (.exit 0)) (.seq (.block 1 (Jqpw p)) (.region [⟨(some 23), (.bin .add (.t 13) (.c (.d (.int .i64 1)))), none, false⟩, ⟨(some 13), (.mov (.t 23)), none, false⟩] [])))) := eqi
@[simp] def Jqq2 (p : Nums) : List IOp := [qo 24 (.faddr 1 (.t 3)), qo 25 (.load (some 4) (.t 24)), qo 26 (.mov (.t 1)), qo 27 (.mov (.t 2)), qo 28 (.call p.source_Term [(.t 25), (.t 26), (.t 27)]), qo 6 (.asg (.t 28))]
def Jqpy (p : Nums) : IC := (.region (Jqq2 p) [])
@[simp] theorem Jepy {p : Nums} : EqI (Jqpy p) (.region (Jqq2 p) []) := eqi
def Jtc5 (p : Nums) : IC := (.seq (.region [⟨(some 3), (.box (.t 0)), none, false⟩, ⟨(some 6), (.asg (.c (.d (.int .i64 0)))), none, false⟩] []) (.seq (.seq (Jqps p) (.block 0 (.loop (Jqpx p)))) (.seq (Jqpy p) .ret)))
@[simp] def Jqao (p : Nums) : List IOp := [qo 2 (.box (.t 0)), qo 3 (.box (.t 1)), qo 4 (.asg (ci 0))]
def Jqac (p : Nums) : IC := (.region (Jqao p) [])
@[simp] theorem Jeac {p : Nums} : EqI (Jqac p) (.region (Jqao p) []) := eqi
@[simp] def Jqaq (p : Nums) : List IOp := [qo 9 (.faddr 0 (.t 3)), qo 10 (.load none (.t 9)), qo 11 (.len (.t 10)), qo 12 (.mov (ci 0))]
def Jqag (p : Nums) : IC := (.region (Jqaq p) [])
@[simp] theorem Jeag {p : Nums} : EqI (Jqag p) (.region (Jqaq p) []) := eqi
@[simp] def Jqar (p : Nums) : List IOp := [qo 14 (.iaddr 7 (.t 10) (.t 12)), qo 15 (.load (some 7) (.t 14)), qo 7 (.alloc [(zi 0), (zi 0), (zi 0), (zi 0), (zi 0), (zi 0), (zi 0)]), qn (.store 7 (.t 7) (.t 15))]
def Jqah (p : Nums) : IC := (.region (Jqar p) [])
@[simp] theorem Jeah {p : Nums} : EqI (Jqah p) (.region (Jqar p) []) := eqi
@[simp] def Jqas (p : Nums) : List IOp := [qo 16 (.load (some 7) (.t 7)), qo 17 (.faddr 1 (.t 2)), qo 18 (.load none (.t 17)), qo 19 (.faddr 2 (.t 2)), qo 20 (.load none (.t 19)), qo 21 (.call p.machine_Instr [(.t 16), (.t 18), (.t 20)]), qo 8 (.asg (.t 21))]
def Jqai (p : Nums) : IC := (.region (Jqas p) [])
@[simp] theorem Jeai {p : Nums} : EqI (Jqai p) (.region (Jqas p) []) := eqi
def Jqaj (p : Nums) : IC := (.seq (.region [⟨(some 24), (.mov (.t 8)), none, false⟩, ⟨(some 4), (.asg (.t 24)), none, false⟩] []) .ret)
@[simp] theorem Jeaj {p : Nums} : EqI (Jqaj p) (.seq (.region [⟨(some 24), (.mov (.t 8)), none, false⟩, ⟨(some 4), (.asg (.t 24)), none, false⟩] []) .ret) := eqi
@[simp] def Jqat (p : Nums) : List IOp := [qo 25 (.mov (.t 5)), qo 26 (.bin .add (.t 25) (ci 1)), qo 5 (.asg (.t 26))]
def Jqak (p : Nums) : IC := (.region (Jqat p) [])
@[simp] theorem Jeak {p : Nums} : EqI (Jqak p) (.region (Jqat p) []) := eqi
@[simp] def Jqau (p : Nums) : List IOp := [qo 27 (.faddr 0 (.t 7)), qo 28 (.load none (.t 27)), qo 29 (.bin .neq (.t 28) (ci 18))]
def Jqal (p : Nums) : IC := (.region (Jqau p) [])
@[simp] theorem Jeal {p : Nums} : EqI (Jqal p) (.region (Jqau p) []) := eqi
@[simp] def Jqav (p : Nums) : List IOp := [qo 5 (.asg (ci 0))]
def Jqam (p : Nums) : IC := (.region (Jqav p) [])
@[simp] theorem Jeam {p : Nums} : EqI (Jqam p) (.region (Jqav p) []) := eqi
def Jqan (p : Nums) : IC := (.seq (.region [⟨(some 4), (.asg (.c (.d (.int .i64 15)))), none, false⟩] []) .ret)
@[simp] theorem Jean {p : Nums} : EqI (Jqan p) (.seq (.region [⟨(some 4), (.asg (.c (.d (.int .i64 15)))), none, false⟩] []) .ret) := eqi
def Jqad (p : Nums) : IC := (.seq (Jqah p) (.seq (.seq (Jqai p) (.seq (.region [⟨(some 22), (.mov (.t 8)), none, false⟩, ⟨(some 23), (.bin .neq (.t 22) (.c (.d (.int .i64 0)))), none, false⟩] []) (.cond (.t 23) (Jqaj p) .skip))) (.seq (Jqak p) (.seq (.seq (Jqal p) (.cond (.t 29) (Jqam p) .skip)) (.seq (.region [⟨(some 30), (.mov (.t 5)), none, false⟩, ⟨(some 31), (.bin .gtr (.t 30) (.c (.d (.int .i64 64)))), none, false⟩] []) (.cond (.t 31) (Jqan p) .skip))))))
@[simp] theorem Jead {p : Nums} : EqI (Jqad p) (.seq (Jqah p) (.seq (.seq (Jqai p) (.seq (.region [⟨(some 22), (.mov (.t 8)), none, false⟩, ⟨(some 23), (.bin .neq (.t 22) (.c (.d (.int .i64 0)))), none, false⟩] []) (.cond (.t 23) (Jqaj p) .skip))) (.seq (Jqak p) (.seq (.seq (Jqal p) (.cond (.t 29) (Jqam p) .skip)) (.seq (.region [⟨(some 30), (.mov (.t 5)), none, false⟩, ⟨(some 31), (.bin .gtr (.t 30) (.c (.d (.int .i64 64)))), none, false⟩] []) (.cond (.t 31) (Jqan p) .skip)))))) := eqi
def Jqae (p : Nums) : IC := (.seq (.region [⟨(some 13), (.bin .lss (.t 12) (.t 11)), none, false⟩] []) (.seq (.cond (.t 13) .skip (.exit 0)) (.seq (.block 1 (Jqad p)) (.region [⟨(some 32), (.bin .add (.t 12) (.c (.d (.int .i64 1)))), none, false⟩, ⟨(some 12), (.mov (.t 32)), none, false⟩] []))))
@[simp] theorem Jeae {p : Nums} : EqI (Jqae p) (.seq (.region [⟨(some 13), (.bin .lss (.t 12) (.t 11)), none, false⟩] []) (.seq (.cond (.t 13) .skip (.exit 0)) (.seq (.block 1 (Jqad p)) (.region [⟨(some 32), (.bin .add (.t 12) (.c (.d (.int .i64 1)))), none, false⟩, ⟨(some 12), (.mov (.t 32)), none, false⟩] [])))) := eqi
@[simp] def Jqap (p : Nums) : List IOp := [qo 33 (.faddr 1 (.t 3)), qo 34 (.load (some 4) (.t 33)), qo 35 (.faddr 1 (.t 2)), qo 36 (.load none (.t 35)), qo 37 (.faddr 3 (.t 2)), qo 38 (.load none (.t 37)), qo 39 (.len (.t 38)), qo 40 (.call p.source_Term [(.t 34), (.t 36), (.t 39)]), qo 4 (.asg (.t 40))]
def Jqaf (p : Nums) : IC := (.region (Jqap p) [])
@[simp] theorem Jeaf {p : Nums} : EqI (Jqaf p) (.region (Jqap p) []) := eqi
def Jtap (p : Nums) : IC := (.seq (Jqac p) (.seq (.region [⟨(some 5), (.asg (.c (.d (.int .i64 0)))), none, false⟩] []) (.seq (.seq (Jqag p) (.block 0 (.loop (Jqae p)))) (.seq (Jqaf p) .ret))))
@[simp] def Jq7j (p : Nums) : List IOp := [qo 6 (.mov (.t 0)), qo 7 (.len (.t 6)), qo 8 (.mov (ci 0))]
def Jq7f (p : Nums) : IC := (.region (Jq7j p) [])
@[simp] theorem Je7f {p : Nums} : EqI (Jq7f p) (.region (Jq7j p) []) := eqi
@[simp] def Jq7k (p : Nums) : List IOp := [qo 10 (.iaddr 1 (.t 6) (.t 8)), qo 11 (.load none (.t 10)), qo 5 (.asg (.t 11))]
def Jq7g (p : Nums) : IC := (.region (Jq7k p) [])
@[simp] theorem Je7g {p : Nums} : EqI (Jq7g p) (.region (Jq7k p) []) := eqi
@[simp] def Jq7l (p : Nums) : List IOp := [qo 12 (.mov (.t 3)), qo 13 (.mov (.t 5)), qo 14 (.len (.t 13)), qo 15 (.bin .add (.t 12) (.t 14)), qo 3 (.asg (.t 15))]
def Jq7h (p : Nums) : IC := (.region (Jq7l p) [])
@[simp] theorem Je7h {p : Nums} : EqI (Jq7h p) (.region (Jq7l p) []) := eqi
def Jq7i (p : Nums) : IC := (.seq (.region [⟨(some 9), (.bin .lss (.t 8) (.t 7)), none, false⟩] []) (.seq (.cond (.t 9) .skip (.exit 0)) (.seq (.block 1 (.seq (Jq7g p) (Jq7h p))) (.region [⟨(some 16), (.bin .add (.t 8) (.c (.d (.int .i64 1)))), none, false⟩, ⟨(some 8), (.mov (.t 16)), none, false⟩] []))))
@[simp] theorem Je7i {p : Nums} : EqI (Jq7i p) (.seq (.region [⟨(some 9), (.bin .lss (.t 8) (.t 7)), none, false⟩] []) (.seq (.cond (.t 9) .skip (.exit 0)) (.seq (.block 1 (.seq (Jq7g p) (Jq7h p))) (.region [⟨(some 16), (.bin .add (.t 8) (.c (.d (.int .i64 1)))), none, false⟩, ⟨(some 8), (.mov (.t 16)), none, false⟩] [])))) := eqi
def Jtae (p : Nums) : IC := (.seq (.region [⟨(some 2), (.asg (.c (.d (.int .i64 0)))), none, false⟩] []) (.seq (.region [⟨(some 3), (.asg (.c (.d (.int .i64 0)))), none, false⟩] []) (.seq (.seq (Jq7f p) (.block 0 (.loop (Jq7i p)))) (.seq (.region [⟨(some 17), (.mov (.t 3)), none, false⟩, ⟨(some 2), (.asg (.t 17)), none, false⟩] []) .ret))))
@[simp] def Jq7a (p : Nums) : List IOp := [qo 11 (.mov (.t 0)), qo 12 (.len (.t 11)), qo 13 (.mov (ci 0))]
def Jq6y (p : Nums) : IC := (.region (Jq7a p) [])
@[simp] theorem Je6y {p : Nums} : EqI (Jq6y p) (.region (Jq7a p) []) := eqi
@[simp] def Jq7b (p : Nums) : List IOp := [qo 15 (.mov (.t 13)), qo 16 (.iaddr 2 (.t 11) (.t 13)), qo 17 (.load (some 2) (.t 16)), qo 10 (.alloc [(zi 0), (zi 0)]), qo 9 (.asg (.t 15)), qn (.store 2 (.t 10) (.t 17))]
def Jq72 (p : Nums) : IC := (.region (Jq7b p) [])
@[simp] theorem Je72 {p : Nums} : EqI (Jq72 p) (.region (Jq7b p) []) := eqi
@[simp] def Jq7c (p : Nums) : List IOp := [qo 19 (.faddr 0 (.t 10)), qo 20 (.load none (.t 19)), qo 21 (.bin .lss (.t 20) (ci 0)), qo 22 (.mov (.t 21)), ⟨(some 23), (.faddr 0 (.t 10)), (some (22, false)), false⟩, ⟨(some 24), (.load none (.t 23)), (some (22, false)), false⟩, ⟨(some 25), (.mov (.t 1)), (some (22, false)), false⟩, ⟨(some 26), (.bin .geq (.t 24) (.t 25)), (some (22, false)), false⟩, qo 27 (.pick (.t 22) (.c (.d (.bool true))) (.t 26)), qo 18 (.asg (.t 27))]
def Jq73 (p : Nums) : IC := (.region (Jq7c p) [])
@[simp] theorem Je73 {p : Nums} : EqI (Jq73 p) (.region (Jq7c p) []) := eqi
@[simp] def Jq7d (p : Nums) : List IOp := [qo 29 (.faddr 1 (.t 10)), qo 30 (.load none (.t 29)), qo 31 (.mov (.t 2)), qo 32 (.mov (.t 3)), qo 33 (.call p.location_InRange [(.t 30), (.t 31), (.t 32)]), qo 34 (.un .not (.t 33)), qo 28 (.asg (.t 34))]
def Jq74 (p : Nums) : IC := (.region (Jq7d p) [])
@[simp] theorem Je74 {p : Nums} : EqI (Jq74 p) (.region (Jq7d p) []) := eqi
@[simp] def Jq7e (p : Nums) : List IOp := [qo 36 (.mov (.t 9)), qo 37 (.bin .gtr (.t 36) (ci 0)), qo 38 (.mov (.t 37)), ⟨(some 39), (.mov (.t 0)), (some (38, true)), true⟩, ⟨(some 40), (.mov (.t 9)), (some (38, true)), true⟩, ⟨(some 41), (.bin .sub (.t 40) (ci 1)), (some (38, true)), true⟩, ⟨(some 42), (.iaddr 2 (.t 39) (.t 41)), (some (38, true)), true⟩, ⟨(some 43), (.load (some 2) (.t 42)), (some (38, true)), true⟩, ⟨(some 44), (.load (some 2) (.t 10)), (some (38, true)), true⟩, ⟨(some 45), (.call p.pairset_Less [(.t 43), (.t 44)]), (some (38, true)), false⟩, ⟨(some 46), (.un .not (.t 45)), (some (38, true)), false⟩, qo 47 (.pick (.t 38) (.t 46) (.c (.d (.bool false)))), qo 35 (.asg (.t 47))]
def Jq75 (p : Nums) : IC := (.region (Jq7e p) [])
@[simp] theorem Je75 {p : Nums} : EqI (Jq75 p) (.region (Jq7e p) []) := eqi
def Jq76 (p : Nums) : IC := (.seq (.region [⟨(some 8), (.asg (.c (.d (.int .i64 13)))), none, false⟩] []) .ret)
@[simp] theorem Je76 {p : Nums} : EqI (Jq76 p) (.seq (.region [⟨(some 8), (.asg (.c (.d (.int .i64 13)))), none, false⟩] []) .ret) := eqi
def Jq77 (p : Nums) : IC := (.seq (.region [⟨(some 8), (.asg (.c (.d (.int .i64 10)))), none, false⟩] []) .ret)
@[simp] theorem Je77 {p : Nums} : EqI (Jq77 p) (.seq (.region [⟨(some 8), (.asg (.c (.d (.int .i64 10)))), none, false⟩] []) .ret) := eqi
def Jq78 (p : Nums) : IC := (.seq (Jq75 p) (.cond (.t 35) (Jq76 p) .skip))
@[simp] theorem Je78 {p : Nums} : EqI (Jq78 p) (.seq (Jq75 p) (.cond (.t 35) (Jq76 p) .skip)) := eqi
def Jq79 (p : Nums) : IC := (.seq (.region [⟨(some 8), (.asg (.c (.d (.int .i64 9)))), none, false⟩] []) .ret)
@[simp] theorem Je79 {p : Nums} : EqI (Jq79 p) (.seq (.region [⟨(some 8), (.asg (.c (.d (.int .i64 9)))), none, false⟩] []) .ret) := eqi
def Jq6z (p : Nums) : IC := (.seq (Jq74 p) (.cond (.t 28) (Jq77 p) (Jq78 p)))
@[simp] theorem Je6z {p : Nums} : EqI (Jq6z p) (.seq (Jq74 p) (.cond (.t 28) (Jq77 p) (Jq78 p))) := eqi
def Jq70 (p : Nums) : IC := (.seq (Jq73 p) (.cond (.t 18) (Jq79 p) (Jq6z p)))
@[simp] theorem Je70 {p : Nums} : EqI (Jq70 p) (.seq (Jq73 p) (.cond (.t 18) (Jq79 p) (Jq6z p))) := eqi
def Jq71 (p : Nums) : IC := (.seq (.region [⟨(some 14), (.bin .lss (.t 13) (.t 12)), none, false⟩] []) (.seq (.cond (.t 14) .skip (.exit 0)) (.seq (.block 1 (.seq (Jq72 p) (.block 2 (Jq70 p)))) (.region [⟨(some 48), (.bin .add (.t 13) (.c (.d (.int .i64 1)))), none, false⟩, ⟨(some 13), (.mov (.t 48)), none, false⟩] []))))
@[simp] theorem Je71 {p : Nums} : EqI (Jq71 p) (.seq (.region [⟨(some 14), (.bin .lss (.t 13) (.t 12)), none, false⟩] []) (.seq (.cond (.t 14) .skip (.exit 0)) (.seq (.block 1 (.seq (Jq72 p) (.block 2 (Jq70 p)))) (.region [⟨(some 48), (.bin .add (.t 13) (.c (.d (.int .i64 1)))), none, false⟩, ⟨(some 13), (.mov (.t 48)), none, false⟩] [])))) := eqi
def Jtad (p : Nums) : IC := (.seq (.region [⟨(some 8), (.asg (.c (.d (.int .i64 0)))), none, false⟩] []) (.seq (.seq (Jq6y p) (.block 0 (.loop (Jq71 p)))) (.seq (.region [⟨(some 8), (.asg (.c (.d (.int .i64 0)))), none, false⟩] []) .ret)))
@[simp] def Jqk2 (p : Nums) : List IOp := [qo 8 (.faddr 0 (.t 3)), qo 9 (.load none (.t 8)), qo 10 (.bin .lss (.t 9) (ci 1)), qo 11 (.mov (.t 10)), ⟨(some 12), (.faddr 0 (.t 3)), (some (11, false)), false⟩, ⟨(some 13), (.load none (.t 12)), (some (11, false)), false⟩, ⟨(some 14), (.bin .gtr (.t 13) (ci 18)), (some (11, false)), false⟩, qo 15 (.pick (.t 11) (.c (.d (.bool true))) (.t 14)), qo 16 (.mov (.t 15)), ⟨(some 17), (.faddr 0 (.t 3)), (some (16, false)), false⟩, ⟨(some 18), (.load none (.t 17)), (some (16, false)), false⟩, ⟨(some 19), (.bin .eql (.t 18) (ci 2)), (some (16, false)), false⟩, qo 20 (.pick (.t 16) (.c (.d (.bool true))) (.t 19))]
def Jqjr (p : Nums) : IC := (.region (Jqk2 p) [])
@[simp] theorem Jejr {p : Nums} : EqI (Jqjr p) (.region (Jqk2 p) []) := eqi
def Jqju (p : Nums) : IC := (.seq (.region [⟨(some 6), (.asg (.c (.d (.int .i64 8)))), none, false⟩] []) .ret)
@[simp] theorem Jeju {p : Nums} : EqI (Jqju p) (.seq (.region [⟨(some 6), (.asg (.c (.d (.int .i64 8)))), none, false⟩] []) .ret) := eqi
@[simp] def Jqk4 (p : Nums) : List IOp := [qo 21 (.faddr 0 (.t 3)), qo 22 (.load none (.t 21)), qo 23 (.bin .eql (.t 22) (ci 18))]
def Jqjv (p : Nums) : IC := (.region (Jqk4 p) [])
@[simp] theorem Jejv {p : Nums} : EqI (Jqjv p) (.region (Jqk4 p) []) := eqi
@[simp] def Jqk5 (p : Nums) : List IOp := [qo 24 (.faddr 5 (.t 3)), qo 25 (.load none (.t 24)), qo 26 (.mov (.t 1)), qo 27 (.mov (.t 2)), qo 28 (.call p.ref04_InRange [(.t 25), (.t 26), (.t 27)]), qo 29 (.un .not (.t 28)), qo 30 (.mov (.t 29)), ⟨(some 31), (.faddr 6 (.t 3)), (some (30, false)), false⟩, ⟨(some 32), (.load none (.t 31)), (some (30, false)), false⟩, ⟨(some 33), (.mov (.t 1)), (some (30, false)), false⟩, ⟨(some 34), (.mov (.t 2)), (some (30, false)), false⟩, ⟨(some 35), (.call p.ref04_InRange [(.t 32), (.t 33), (.t 34)]), (some (30, false)), false⟩, ⟨(some 36), (.un .not (.t 35)), (some (30, false)), false⟩, qo 37 (.pick (.t 30) (.c (.d (.bool true))) (.t 36)), qo 38 (.mov (.t 37)), ⟨(some 39), (.faddr 5 (.t 3)), (some (38, false)), false⟩, ⟨(some 40), (.load none (.t 39)), (some (38, false)), false⟩, ⟨(some 41), (.bin .rem (.t 40) (ci 2)), (some (38, false)), false⟩, ⟨(some 42), (.bin .eql (.t 41) (ci 1)), (some (38, false)), false⟩, ⟨(some 43), (.mov (.t 42)), (some (38, false)), false⟩, ⟨(some 44), (.faddr 6 (.t 3)), (some (43, true)), false⟩, ⟨(some 45), (.load none (.t 44)), (some (43, true)), false⟩, ⟨(some 46), (.bin .rem (.t 45) (ci 2)), (some (43, true)), false⟩, ⟨(some 47), (.bin .eql (.t 46) (ci 1)), (some (43, true)), false⟩, ⟨(some 48), (.pick (.t 43) (.t 47) (.c (.d (.bool false)))), (some (38, false)), false⟩, qo 49 (.pick (.t 38) (.c (.d (.bool true))) (.t 48))]
def Jqjw (p : Nums) : IC := (.region (Jqk5 p) [])
@[simp] theorem Jejw {p : Nums} : EqI (Jqjw p) (.region (Jqk5 p) []) := eqi
def Jqjx (p : Nums) : IC := (.seq (.region [⟨(some 6), (.asg (.c (.d (.int .i64 10)))), none, false⟩] []) .ret)
@[simp] theorem Jejx {p : Nums} : EqI (Jqjx p) (.seq (.region [⟨(some 6), (.asg (.c (.d (.int .i64 10)))), none, false⟩] []) .ret) := eqi
@[simp] def Jqk6 (p : Nums) : List IOp := [qo 50 (.faddr 1 (.t 3)), qo 51 (.load none (.t 50)), qo 52 (.bin .neq (.t 51) (ci 0)), qo 53 (.mov (.t 52)), ⟨(some 54), (.faddr 2 (.t 3)), (some (53, false)), false⟩, ⟨(some 55), (.load none (.t 54)), (some (53, false)), false⟩, ⟨(some 56), (.bin .neq (.t 55) (ci 0)), (some (53, false)), false⟩, qo 57 (.pick (.t 53) (.c (.d (.bool true))) (.t 56)), qo 58 (.mov (.t 57)), ⟨(some 59), (.faddr 3 (.t 3)), (some (58, false)), false⟩, ⟨(some 60), (.load none (.t 59)), (some (58, false)), false⟩, ⟨(some 61), (.bin .neq (.t 60) (ci 0)), (some (58, false)), false⟩, qo 62 (.pick (.t 58) (.c (.d (.bool true))) (.t 61)), qo 63 (.mov (.t 62)), ⟨(some 64), (.faddr 4 (.t 3)), (some (63, false)), false⟩, ⟨(some 65), (.load none (.t 64)), (some (63, false)), false⟩, ⟨(some 66), (.bin .neq (.t 65) (ci 0)), (some (63, false)), false⟩, qo 67 (.pick (.t 63) (.c (.d (.bool true))) (.t 66))]
def Jqjy (p : Nums) : IC := (.region (Jqk6 p) [])
@[simp] theorem Jejy {p : Nums} : EqI (Jqjy p) (.region (Jqk6 p) []) := eqi
def Jqjz (p : Nums) : IC := (.seq (.region [⟨(some 6), (.asg (.c (.d (.int .i64 12)))), none, false⟩] []) .ret)
@[simp] theorem Jejz {p : Nums} : EqI (Jqjz p) (.seq (.region [⟨(some 6), (.asg (.c (.d (.int .i64 12)))), none, false⟩] []) .ret) := eqi
def Jqk0 (p : Nums) : IC := (.seq (.seq (Jqjw p) (.cond (.t 49) (Jqjx p) .skip)) (.seq (.seq (Jqjy p) (.cond (.t 67) (Jqjz p) .skip)) (.seq (.region [⟨(some 6), (.asg (.c (.d (.int .i64 0)))), none, false⟩] []) .ret)))
@[simp] theorem Jek0 {p : Nums} : EqI (Jqk0 p) (.seq (.seq (Jqjw p) (.cond (.t 49) (Jqjx p) .skip)) (.seq (.seq (Jqjy p) (.cond (.t 67) (Jqjz p) .skip)) (.seq (.region [⟨(some 6), (.asg (.c (.d (.int .i64 0)))), none, false⟩] []) .ret))) := eqi
@[simp] def Jqk7 (p : Nums) : List IOp := [qo 68 (.faddr 0 (.t 3)), qo 69 (.load none (.t 68)), qo 70 (.faddr 1 (.t 3)), qo 71 (.load none (.t 70)), qo 72 (.faddr 2 (.t 3)), qo 73 (.load none (.t 72)), qo 74 (.faddr 3 (.t 3)), qo 75 (.load none (.t 74)), qo 76 (.faddr 4 (.t 3)), qo 77 (.load none (.t 76)), qo 78 (.build [(zi 0), (zi 0), (zi 0), (zi 0), (zi 0)] [(0, 1, (.t 69)), (1, 1, (.t 71)), (2, 1, (.t 73)), (3, 1, (.t 75)), (4, 1, (.t 77))]), qo 79 (.mov (.t 1)), qo 80 (.call p.ref07_Instr [(.t 78), (.t 79)]), qo 7 (.asg (.t 80))]
def Jqk1 (p : Nums) : IC := (.region (Jqk7 p) [])
@[simp] theorem Jek1 {p : Nums} : EqI (Jqk1 p) (.region (Jqk7 p) []) := eqi
@[simp] def Jqk3 (p : Nums) : List IOp := [qo 81 (.mov (.t 7)), qo 82 (.bin .eql (.t 81) (ci 0)), qo 83 (.mov (.t 82)), ⟨(some 84), (.faddr 5 (.t 3)), (some (83, true)), false⟩, ⟨(some 85), (.load none (.t 84)), (some (83, true)), false⟩, ⟨(some 86), (.bin .neq (.t 85) (ci 0)), (some (83, true)), false⟩, ⟨(some 87), (.mov (.t 86)), (some (83, true)), false⟩, ⟨(some 88), (.faddr 6 (.t 3)), (some (87, false)), false⟩, ⟨(some 89), (.load none (.t 88)), (some (87, false)), false⟩, ⟨(some 90), (.bin .neq (.t 89) (ci 0)), (some (87, false)), false⟩, ⟨(some 91), (.pick (.t 87) (.c (.d (.bool true))) (.t 90)), (some (83, true)), false⟩, qo 92 (.pick (.t 83) (.t 91) (.c (.d (.bool false))))]
def Jqjs (p : Nums) : IC := (.region (Jqk3 p) [])
@[simp] theorem Jejs {p : Nums} : EqI (Jqjs p) (.region (Jqk3 p) []) := eqi
def Jqjt (p : Nums) : IC := (.seq (.region [⟨(some 6), (.asg (.c (.d (.int .i64 12)))), none, false⟩] []) .ret)
@[simp] theorem Jejt {p : Nums} : EqI (Jqjt p) (.seq (.region [⟨(some 6), (.asg (.c (.d (.int .i64 12)))), none, false⟩] []) .ret) := eqi
def Jtbq (p : Nums) : IC := (.seq (.region [⟨(some 3), (.box (.t 0)), none, false⟩, ⟨(some 6), (.asg (.c (.d (.int .i64 0)))), none, false⟩] []) (.seq (.seq (Jqjr p) (.cond (.t 20) (Jqju p) .skip)) (.seq (.seq (Jqjv p) (.cond (.t 23) (Jqk0 p) .skip)) (.seq (Jqk1 p) (.seq (.seq (Jqjs p) (.cond (.t 92) (Jqjt p) .skip)) (.seq (.region [⟨(some 93), (.mov (.t 7)), none, false⟩, ⟨(some 6), (.asg (.t 93)), none, false⟩] []) .ret))))))
@[simp] def Jqkh (p : Nums) : List IOp := [qo 6 (.mov (.t 4)), qo 7 (.mov (.t 0)), qo 8 (.len (.t 7)), qo 9 (.bin .lss (.t 6) (.t 8))]
def Jqk8 (p : Nums) : IC := (.region (Jqkh p) [])
@[simp] theorem Jek8 {p : Nums} : EqI (Jqk8 p) (.region (Jqkh p) []) := eqi
@[simp] def Jqki (p : Nums) : List IOp := [qo 12 (.mov (.t 4)), qo 13 (.mov (.t 5)), qo 14 (.bin .add (.t 12) (.t 13)), qo 15 (.mov (.t 0)), qo 16 (.len (.t 15)), qo 17 (.bin .lss (.t 14) (.t 16)), qo 18 (.mov (.t 17)), ⟨(some 19), (.mov (.t 0)), (some (18, true)), false⟩, ⟨(some 20), (.mov (.t 4)), (some (18, true)), false⟩, ⟨(some 21), (.mov (.t 5)), (some (18, true)), false⟩, ⟨(some 22), (.bin .add (.t 20) (.t 21)), (some (18, true)), false⟩, ⟨(some 23), (.iaddr 7 (.t 19) (.t 22)), (some (18, true)), false⟩, ⟨(some 24), (.faddr 0 (.t 23)), (some (18, true)), false⟩, ⟨(some 25), (.load none (.t 24)), (some (18, true)), false⟩, ⟨(some 26), (.bin .eql (.t 25) (ci 18)), (some (18, true)), false⟩, qo 27 (.pick (.t 18) (.t 26) (.c (.d (.bool false))))]
def Jqk9 (p : Nums) : IC := (.region (Jqki p) [])
@[simp] theorem Jek9 {p : Nums} : EqI (Jqk9 p) (.region (Jqki p) []) := eqi
@[simp] def Jqkj (p : Nums) : List IOp := [qo 28 (.mov (.t 5)), qo 29 (.bin .add (.t 28) (ci 1)), qo 5 (.asg (.t 29))]
def Jqka (p : Nums) : IC := (.region (Jqkj p) [])
@[simp] theorem Jeka {p : Nums} : EqI (Jqka p) (.region (Jqkj p) []) := eqi
def Jqkb (p : Nums) : IC := (.seq (.seq (Jqk9 p) (.cond (.t 27) .skip (.exit 2))) (.block 3 (Jqka p)))
@[simp] theorem Jekb {p : Nums} : EqI (Jqkb p) (.seq (.seq (Jqk9 p) (.cond (.t 27) .skip (.exit 2))) (.block 3 (Jqka p))) := eqi
@[simp] def Jqkk (p : Nums) : List IOp := [qo 30 (.mov (.t 5)), qo 31 (.mov (.t 3)), qo 32 (.bin .gtr (.t 30) (.t 31))]
def Jqkc (p : Nums) : IC := (.region (Jqkk p) [])
@[simp] theorem Jekc {p : Nums} : EqI (Jqkc p) (.region (Jqkk p) []) := eqi
@[simp] def Jqkl (p : Nums) : List IOp := [qo 33 (.mov (.t 5)), qo 3 (.asg (.t 33))]
def Jqkd (p : Nums) : IC := (.region (Jqkl p) [])
@[simp] theorem Jekd {p : Nums} : EqI (Jqkd p) (.region (Jqkl p) []) := eqi
def Jqke (p : Nums) : IC := (.seq (.region [⟨(some 5), (.asg (.c (.d (.int .i64 0)))), none, false⟩] []) (.seq (.block 2 (.loop (Jqkb p))) (.seq (Jqkc p) (.cond (.t 32) (Jqkd p) .skip))))
@[simp] theorem Jeke {p : Nums} : EqI (Jqke p) (.seq (.region [⟨(some 5), (.asg (.c (.d (.int .i64 0)))), none, false⟩] []) (.seq (.block 2 (.loop (Jqkb p))) (.seq (Jqkc p) (.cond (.t 32) (Jqkd p) .skip)))) := eqi
@[simp] def Jqkm (p : Nums) : List IOp := [qo 10 (.mov (.t 4)), qo 11 (.bin .add (.t 10) (ci 1)), qo 4 (.asg (.t 11))]
def Jqkf (p : Nums) : IC := (.region (Jqkm p) [])
@[simp] theorem Jekf {p : Nums} : EqI (Jqkf p) (.region (Jqkm p) []) := eqi
def Jqkg (p : Nums) : IC := (.seq (.seq (Jqk8 p) (.cond (.t 9) .skip (.exit 0))) (.seq (.block 1 (Jqke p)) (Jqkf p)))
@[simp] theorem Jekg {p : Nums} : EqI (Jqkg p) (.seq (.seq (Jqk8 p) (.cond (.t 9) .skip (.exit 0))) (.seq (.block 1 (Jqke p)) (Jqkf p))) := eqi
def Jtbr (p : Nums) : IC := (.seq (.region [⟨(some 2), (.asg (.c (.d (.int .i64 0)))), none, false⟩] []) (.seq (.region [⟨(some 3), (.asg (.c (.d (.int .i64 0)))), none, false⟩] []) (.seq (.seq (.region [⟨(some 4), (.asg (.c (.d (.int .i64 0)))), none, false⟩] []) (.block 0 (.loop (Jqkg p)))) (.seq (.region [⟨(some 34), (.mov (.t 3)), none, false⟩, ⟨(some 2), (.asg (.t 34)), none, false⟩] []) .ret))))
def Jqf0 (p : Nums) : IC := (.seq (.region [⟨(some 6), (.asg (.c (.d (.bool false)))), none, false⟩] []) .ret)
@[simp] theorem Jef0 {p : Nums} : EqI (Jqf0 p) (.seq (.region [⟨(some 6), (.asg (.c (.d (.bool false)))), none, false⟩] []) .ret) := eqi
@[simp] def Jqf4 (p : Nums) : List IOp := [qo 9 (.mov (.t 0)), qo 10 (.bin .rem (.t 9) (ci 2)), qo 11 (.bin .eql (.t 10) (ci 1))]
def Jqf1 (p : Nums) : IC := (.region (Jqf4 p) [])
@[simp] theorem Jef1 {p : Nums} : EqI (Jqf1 p) (.region (Jqf4 p) []) := eqi
@[simp] def Jqf5 (p : Nums) : List IOp := [qo 12 (.mov (.t 0)), qo 13 (.bin .quo (.t 12) (ci 2)), qo 14 (.mov (.t 2)), qo 15 (.bin .lss (.t 13) (.t 14)), qo 6 (.asg (.t 15))]
def Jqf2 (p : Nums) : IC := (.region (Jqf5 p) [])
@[simp] theorem Jef2 {p : Nums} : EqI (Jqf2 p) (.region (Jqf5 p) []) := eqi
@[simp] def Jqf6 (p : Nums) : List IOp := [qo 16 (.mov (.t 0)), qo 17 (.bin .quo (.t 16) (ci 2)), qo 18 (.mov (.t 1)), qo 19 (.bin .lss (.t 17) (.t 18)), qo 6 (.asg (.t 19))]
def Jqf3 (p : Nums) : IC := (.region (Jqf6 p) [])
@[simp] theorem Jef3 {p : Nums} : EqI (Jqf3 p) (.region (Jqf6 p) []) := eqi
def Jtbc (p : Nums) : IC := (.seq (.region [⟨(some 6), (.asg (.c (.d (.bool false)))), none, false⟩] []) (.seq (.seq (.region [⟨(some 7), (.mov (.t 0)), none, false⟩, ⟨(some 8), (.bin .lss (.t 7) (.c (.d (.int .i64 0)))), none, false⟩] []) (.cond (.t 8) (Jqf0 p) .skip)) (.seq (.seq (Jqf1 p) (.cond (.t 11) (.seq (Jqf2 p) .ret) .skip)) (.seq (Jqf3 p) .ret))))
@[simp] def Jqkr (p : Nums) : List IOp := [qo 2 (.box (.t 0)), qo 3 (.box (.t 1)), qo 4 (.asg (.c (.d (.bool false))))]
def Jqkn (p : Nums) : IC := (.region (Jqkr p) [])
@[simp] theorem Jekn {p : Nums} : EqI (Jqkn p) (.region (Jqkr p) []) := eqi
@[simp] def Jqks (p : Nums) : List IOp := [qo 5 (.faddr 0 (.t 2)), qo 6 (.load none (.t 5)), qo 7 (.faddr 0 (.t 3)), qo 8 (.load none (.t 7)), qo 9 (.bin .neq (.t 6) (.t 8))]
def Jqko (p : Nums) : IC := (.region (Jqks p) [])
@[simp] theorem Jeko {p : Nums} : EqI (Jqko p) (.region (Jqks p) []) := eqi
@[simp] def Jqkt (p : Nums) : List IOp := [qo 10 (.faddr 0 (.t 2)), qo 11 (.load none (.t 10)), qo 12 (.faddr 0 (.t 3)), qo 13 (.load none (.t 12)), qo 14 (.bin .lss (.t 11) (.t 13)), qo 4 (.asg (.t 14))]
def Jqkp (p : Nums) : IC := (.region (Jqkt p) [])
@[simp] theorem Jekp {p : Nums} : EqI (Jqkp p) (.region (Jqkt p) []) := eqi
@[simp] def Jqku (p : Nums) : List IOp := [qo 15 (.faddr 1 (.t 2)), qo 16 (.load none (.t 15)), qo 17 (.faddr 1 (.t 3)), qo 18 (.load none (.t 17)), qo 19 (.bin .lss (.t 16) (.t 18)), qo 4 (.asg (.t 19))]
def Jqkq (p : Nums) : IC := (.region (Jqku p) [])
@[simp] theorem Jekq {p : Nums} : EqI (Jqkq p) (.region (Jqku p) []) := eqi
def Jtbs (p : Nums) : IC := (.seq (Jqkn p) (.seq (.seq (Jqko p) (.cond (.t 9) (.seq (Jqkp p) .ret) .skip)) (.seq (Jqkq p) .ret)))
@[simp] def Jq5x (p : Nums) : List IOp := [qo 4 (.alloc [(zi 0), (zi 0)]), qo 5 (.asg (ci 0))]
def Jq5p (p : Nums) : IC := (.region (Jq5x p) [])
@[simp] theorem Je5p {p : Nums} : EqI (Jq5p p) (.region (Jq5x p) []) := eqi
@[simp] def Jq5y (p : Nums) : List IOp := [qo 8 (.mov (.t 0)), qo 9 (.len (.t 8)), qo 10 (.mov (ci 0))]
def Jq5q (p : Nums) : IC := (.region (Jq5y p) [])
@[simp] theorem Je5q {p : Nums} : EqI (Jq5q p) (.region (Jq5y p) []) := eqi
@[simp] def Jq5z (p : Nums) : List IOp := [qo 12 (.iaddr 2 (.t 8) (.t 10)), qo 13 (.load (some 2) (.t 12)), qo 7 (.alloc [(zi 0), (zi 0)]), qn (.store 2 (.t 7) (.t 13))]
def Jq5r (p : Nums) : IC := (.region (Jq5z p) [])
@[simp] theorem Je5r {p : Nums} : EqI (Jq5r p) (.region (Jq5z p) []) := eqi
@[simp] def Jq60 (p : Nums) : List IOp := [qo 14 (.load (some 2) (.t 7)), qo 15 (.mov (.t 1)), qo 16 (.call p.edge_Initial [(.t 14), (.t 15)]), qo 17 (.un .not (.t 16))]
def Jq5s (p : Nums) : IC := (.region (Jq60 p) [])
@[simp] theorem Je5s {p : Nums} : EqI (Jq5s p) (.region (Jq60 p) []) := eqi
@[simp] def Jq61 (p : Nums) : List IOp := [qo 18 (.load (some 2) (.t 7)), qn (.store 2 (.t 4) (.t 18)), qo 5 (.asg (ci 23))]
def Jq5t (p : Nums) : IC := (.region (Jq61 p) [])
@[simp] theorem Je5t {p : Nums} : EqI (Jq5t p) (.region (Jq61 p) []) := eqi
def Jq5u (p : Nums) : IC := (.seq (Jq5r p) (.seq (Jq5s p) (.cond (.t 17) (.seq (Jq5t p) .ret) .skip)))
@[simp] theorem Je5u {p : Nums} : EqI (Jq5u p) (.seq (Jq5r p) (.seq (Jq5s p) (.cond (.t 17) (.seq (Jq5t p) .ret) .skip))) := eqi
def Jq5v (p : Nums) : IC := (.seq (.region [⟨(some 11), (.bin .lss (.t 10) (.t 9)), none, false⟩] []) (.seq (.cond (.t 11) .skip (.exit 0)) (.seq (.block 1 (Jq5u p)) (.region [⟨(some 19), (.bin .add (.t 10) (.c (.d (.int .i64 1)))), none, false⟩, ⟨(some 10), (.mov (.t 19)), none, false⟩] []))))
@[simp] theorem Je5v {p : Nums} : EqI (Jq5v p) (.seq (.region [⟨(some 11), (.bin .lss (.t 10) (.t 9)), none, false⟩] []) (.seq (.cond (.t 11) .skip (.exit 0)) (.seq (.block 1 (Jq5u p)) (.region [⟨(some 19), (.bin .add (.t 10) (.c (.d (.int .i64 1)))), none, false⟩, ⟨(some 10), (.mov (.t 19)), none, false⟩] [])))) := eqi
@[simp] def Jq62 (p : Nums) : List IOp := [qo 20 (.build [(zi 0), (zi 0)] []), qn (.store 2 (.t 4) (.t 20)), qo 5 (.asg (ci 0))]
def Jq5w (p : Nums) : IC := (.region (Jq62 p) [])
@[simp] theorem Je5w {p : Nums} : EqI (Jq5w p) (.region (Jq62 p) []) := eqi
def Jta9 (p : Nums) : IC := (.seq (Jq5p p) (.seq (.seq (Jq5q p) (.block 0 (.loop (Jq5v p)))) (.seq (Jq5w p) .ret)))
@[simp] def Jqc (p : Nums) : List IOp := [qo 4 (.asg (.c .nils)), qo 5 (.asg (ci 0)), qo 6 (.asg (ci 0))]
def Jq0 (p : Nums) : IC := (.region (Jqc p) [])
@[simp] theorem Je0 {p : Nums} : EqI (Jq0 p) (.region (Jqc p) []) := eqi
@[simp] def Jqf (p : Nums) : List IOp := [qo 11 (.mov (.t 8)), qo 12 (.mov (.t 0)), qo 13 (.mov (.t 8)), qo 14 (.call p.align_skip_Instr [(.t 12), (.t 13), (.c (.fn (.func p.align_copied) [] []))]), qo 15 (.mov (.t 9)), qo 16 (.mov (.t 1)), qo 17 (.mov (.t 9)), qo 18 (.call p.align_skip_Mach [(.t 16), (.t 17), (.c (.fn (.func p.align_moved) [] []))]), qo 19 (.build [(zi 0), (zi 0), (zi 0), (zi 0), (zi 0), (zi 0)] [(0, 1, (.t 11)), (1, 1, (.t 14)), (2, 1, (.t 15)), (3, 1, (.t 18))]), qo 10 (.alloc [(zi 0), (zi 0), (zi 0), (zi 0), (zi 0), (zi 0)]), qn (.store 6 (.t 10) (.t 19))]
def Jq4 (p : Nums) : IC := (.region (Jqf p) [])
@[simp] theorem Je4 {p : Nums} : EqI (Jq4 p) (.region (Jqf p) []) := eqi
@[simp] def Jqg (p : Nums) : List IOp := [qp 20 (.faddr 1 (.t 10)), qp 21 (.load none (.t 20)), qp 22 (.faddr 3 (.t 10)), qp 23 (.load none (.t 22)), qp 8 (.asg (.t 21)), qo 9 (.asg (.t 23))]
def Jq5 (p : Nums) : IC := (.region (Jqg p) [])
@[simp] theorem Je5 {p : Nums} : EqI (Jq5 p) (.region (Jqg p) []) := eqi
@[simp] def Jqh (p : Nums) : List IOp := [qo 24 (.mov (.t 8)), qo 25 (.mov (.t 0)), qo 26 (.len (.t 25)), qo 27 (.bin .eql (.t 24) (.t 26)), qo 28 (.mov (.t 27)), ⟨(some 29), (.mov (.t 9)), (some (28, true)), false⟩, ⟨(some 30), (.mov (.t 1)), (some (28, true)), false⟩, ⟨(some 31), (.len (.t 30)), (some (28, true)), false⟩, ⟨(some 32), (.bin .eql (.t 29) (.t 31)), (some (28, true)), false⟩, qo 33 (.pick (.t 28) (.t 32) (.c (.d (.bool false))))]
def Jq6 (p : Nums) : IC := (.region (Jqh p) [])
@[simp] theorem Je6 {p : Nums} : EqI (Jq6 p) (.region (Jqh p) []) := eqi
@[simp] def Jqi (p : Nums) : List IOp := [qo 34 (.faddr 4 (.t 10)), qn (.store 1 (.t 34) (ci (-1))), qo 35 (.faddr 5 (.t 10)), qn (.store 1 (.t 35) (ci (-1)))]
def Jq7 (p : Nums) : IC := (.region (Jqi p) [])
@[simp] theorem Je7 {p : Nums} : EqI (Jq7 p) (.region (Jqi p) []) := eqi
@[simp] def Jqj (p : Nums) : List IOp := [qo 36 (.mov (.t 7)), qo 37 (.load (some 6) (.t 10)), qo 38 (.bslice 6 1 [(.int .i64 0), (.int .i64 0), (.int .i64 0), (.int .i64 0), (.int .i64 0), (.int .i64 0)] [(0, (.t 37))]), qo 39 (.app 6 48 (.t 36) (.t 38)), qo 40 (.mov (.t 9)), qo 4 (.asg (.t 39)), qo 5 (.asg (.t 40)), qo 6 (.asg (ci 0))]
def Jq8 (p : Nums) : IC := (.region (Jqj p) [])
@[simp] theorem Je8 {p : Nums} : EqI (Jq8 p) (.region (Jqj p) []) := eqi
@[simp] def Jqk (p : Nums) : List IOp := [qp 41 (.mov (.t 8)), qp 42 (.mov (.t 0)), qp 43 (.len (.t 42)), qo 44 (.bin .eql (.t 41) (.t 43)), qo 45 (.mov (.t 44)), ⟨(some 46), (.mov (.t 9)), (some (45, false)), true⟩, ⟨(some 47), (.mov (.t 1)), (some (45, false)), true⟩, ⟨(some 48), (.len (.t 47)), (some (45, false)), true⟩, ⟨(some 49), (.bin .eql (.t 46) (.t 48)), (some (45, false)), false⟩, qo 50 (.pick (.t 45) (.c (.d (.bool true))) (.t 49)), qo 51 (.mov (.t 50)), ⟨(some 52), (.mov (.t 0)), (some (51, false)), true⟩, ⟨(some 53), (.mov (.t 8)), (some (51, false)), true⟩, ⟨(some 54), (.iaddr 5 (.t 52) (.t 53)), (some (51, false)), true⟩, ⟨(some 55), (.load (some 5) (.t 54)), (some (51, false)), true⟩, ⟨(some 56), (.mov (.t 1)), (some (51, false)), true⟩, ⟨(some 57), (.mov (.t 9)), (some (51, false)), true⟩, ⟨(some 58), (.iaddr 7 (.t 56) (.t 57)), (some (51, false)), true⟩, ⟨(some 59), (.load (some 7) (.t 58)), (some (51, false)), true⟩, ⟨(some 60), (.call p.align_Same [(.t 55), (.t 59)]), (some (51, false)), false⟩, ⟨(some 61), (.un .not (.t 60)), (some (51, false)), false⟩, qo 62 (.pick (.t 51) (.c (.d (.bool true))) (.t 61))]
def Jq9 (p : Nums) : IC := (.region (Jqk p) [])
@[simp] theorem Je9 {p : Nums} : EqI (Jq9 p) (.region (Jqk p) []) := eqi
@[simp] def Jql (p : Nums) : List IOp := [qo 63 (.mov (.t 9)), qo 4 (.asg (.c .nils)), qo 5 (.asg (.t 63)), qo 6 (.asg (ci 20))]
def Jqa (p : Nums) : IC := (.region (Jql p) [])
@[simp] theorem Jea {p : Nums} : EqI (Jqa p) (.region (Jql p) []) := eqi
@[simp] def Jqm (p : Nums) : List IOp := [qo 64 (.mov (.t 8)), qo 65 (.mov (.t 9)), qo 66 (.faddr 4 (.t 10)), qn (.store 1 (.t 66) (.t 64)), qo 67 (.faddr 5 (.t 10)), qn (.store 1 (.t 67) (.t 65))]
def Jqb (p : Nums) : IC := (.region (Jqm p) [])
@[simp] theorem Jeb {p : Nums} : EqI (Jqb p) (.region (Jqm p) []) := eqi
@[simp] def Jqd (p : Nums) : List IOp := [qo 68 (.mov (.t 7)), qo 69 (.load (some 6) (.t 10)), qo 70 (.bslice 6 1 [(.int .i64 0), (.int .i64 0), (.int .i64 0), (.int .i64 0), (.int .i64 0), (.int .i64 0)] [(0, (.t 69))]), qo 71 (.app 6 48 (.t 68) (.t 70)), qo 7 (.asg (.t 71))]
def Jq1 (p : Nums) : IC := (.region (Jqd p) [])
@[simp] theorem Je1 {p : Nums} : EqI (Jq1 p) (.region (Jqd p) []) := eqi
@[simp] def Jqe (p : Nums) : List IOp := [qo 72 (.mov (.t 8)), qo 73 (.bin .add (.t 72) (ci 1)), qo 74 (.mov (.t 9)), qo 75 (.bin .add (.t 74) (ci 1)), qo 8 (.asg (.t 73)), qo 9 (.asg (.t 75))]
def Jq2 (p : Nums) : IC := (.region (Jqe p) [])
@[simp] theorem Je2 {p : Nums} : EqI (Jq2 p) (.region (Jqe p) []) := eqi
def Jq3 (p : Nums) : IC := (.seq (Jq4 p) (.seq (Jq5 p) (.seq (.seq (Jq6 p) (.cond (.t 33) (.seq (Jq7 p) (.seq (Jq8 p) .ret)) .skip)) (.seq (.seq (Jq9 p) (.cond (.t 62) (.seq (Jqa p) .ret) .skip)) (.seq (Jqb p) (.seq (Jq1 p) (Jq2 p)))))))
@[simp] theorem Je3 {p : Nums} : EqI (Jq3 p) (.seq (Jq4 p) (.seq (Jq5 p) (.seq (.seq (Jq6 p) (.cond (.t 33) (.seq (Jq7 p) (.seq (Jq8 p) .ret)) .skip)) (.seq (.seq (Jq9 p) (.cond (.t 62) (.seq (Jqa p) .ret) .skip)) (.seq (Jqb p) (.seq (Jq1 p) (Jq2 p))))))) := eqi
def Jt9p (p : Nums) : IC := (.seq (Jq0 p) (.seq (.region [⟨(some 7), (.asg (.c .nils)), none, false⟩] []) (.seq (.region [⟨(some 8), (.asg (.c (.d (.int .i64 0)))), none, false⟩, ⟨(some 9), (.asg (.c (.d (.int .i64 0)))), none, false⟩] []) (.block 0 (.loop (.block 1 (Jq3 p)))))))
@[simp] def Jqt (p : Nums) : List IOp := [qo 2 (.box (.t 0)), qo 3 (.box (.t 1)), qo 4 (.asg (.c (.d (.bool false))))]
def Jqr (p : Nums) : IC := (.region (Jqt p) [])
@[simp] theorem Jer {p : Nums} : EqI (Jqr p) (.region (Jqt p) []) := eqi
@[simp] def Jqu (p : Nums) : List IOp := [qo 5 (.faddr 0 (.t 2)), qo 6 (.load none (.t 5)), qo 7 (.faddr 0 (.t 3)), qo 8 (.load none (.t 7)), qo 9 (.bin .eql (.t 6) (.t 8)), qo 10 (.mov (.t 9)), ⟨(some 11), (.faddr 2 (.t 2)), (some (10, true)), false⟩, ⟨(some 12), (.load none (.t 11)), (some (10, true)), false⟩, ⟨(some 13), (.faddr 2 (.t 3)), (some (10, true)), false⟩, ⟨(some 14), (.load none (.t 13)), (some (10, true)), false⟩, ⟨(some 15), (.bin .eql (.t 12) (.t 14)), (some (10, true)), false⟩, qo 16 (.pick (.t 10) (.t 15) (.c (.d (.bool false)))), qo 17 (.mov (.t 16)), ⟨(some 18), (.faddr 3 (.t 2)), (some (17, true)), false⟩, ⟨(some 19), (.load none (.t 18)), (some (17, true)), false⟩, ⟨(some 20), (.faddr 3 (.t 3)), (some (17, true)), false⟩, ⟨(some 21), (.load none (.t 20)), (some (17, true)), false⟩, ⟨(some 22), (.bin .eql (.t 19) (.t 21)), (some (17, true)), false⟩, qo 23 (.pick (.t 17) (.t 22) (.c (.d (.bool false)))), qo 4 (.asg (.t 23))]
def Jqs (p : Nums) : IC := (.region (Jqu p) [])
@[simp] theorem Jes {p : Nums} : EqI (Jqs p) (.region (Jqu p) []) := eqi
def Jt9r (p : Nums) : IC := (.seq (Jqr p) (.seq (Jqs p) .ret))
@[simp] def Jqd0 (p : Nums) : List IOp := [qo 4 (.mov (.t 0)), qo 5 (.call p.slices_Clone_Pair [(.t 4)]), qo 3 (.asg (.t 5))]
def Jqcx (p : Nums) : IC := (.region (Jqd0 p) [])
@[simp] theorem Jecx {p : Nums} : EqI (Jqcx p) (.region (Jqd0 p) []) := eqi
@[simp] def Jqd1 (p : Nums) : List IOp := [qo 6 (.mov (.t 3)), qo 7 (.call p.slices_SortFunc_Pair [(.t 6), (.c (.fn (.func p.pairset_compare) [] []))])]
def Jqcy (p : Nums) : IC := (.region (Jqd1 p) [])
@[simp] theorem Jecy {p : Nums} : EqI (Jqcy p) (.region (Jqd1 p) []) := eqi
@[simp] def Jqd2 (p : Nums) : List IOp := [qo 8 (.mov (.t 3)), qo 9 (.call p.slices_Compact_Pair [(.t 8)]), qo 2 (.asg (.t 9))]
def Jqcz (p : Nums) : IC := (.region (Jqd2 p) [])
@[simp] theorem Jecz {p : Nums} : EqI (Jqcz p) (.region (Jqd2 p) []) := eqi
def Jtb7 (p : Nums) : IC := (.seq (.region [⟨(some 2), (.asg (.c .nils)), none, false⟩] []) (.seq (Jqcx p) (.seq (Jqcy p) (.seq (Jqcz p) .ret))))
@[simp] def Jqde (p : Nums) : List IOp := [qo 4 (.alloc [(zi 0), (zi 0)]), qo 5 (.asg (.c (.d (.bool false))))]
def Jqd3 (p : Nums) : IC := (.region (Jqde p) [])
@[simp] theorem Jed3 {p : Nums} : EqI (Jqd3 p) (.region (Jqde p) []) := eqi
@[simp] def Jqdg (p : Nums) : List IOp := [qo 9 (.mov (.t 0)), qo 10 (.len (.t 9)), qo 11 (.mov (ci 0))]
def Jqd6 (p : Nums) : IC := (.region (Jqdg p) [])
@[simp] theorem Jed6 {p : Nums} : EqI (Jqd6 p) (.region (Jqdg p) []) := eqi
@[simp] def Jqdh (p : Nums) : List IOp := [qo 13 (.iaddr 2 (.t 9) (.t 11)), qo 14 (.load (some 2) (.t 13)), qo 8 (.alloc [(zi 0), (zi 0)]), qn (.store 2 (.t 8) (.t 14))]
def Jqd7 (p : Nums) : IC := (.region (Jqdh p) [])
@[simp] theorem Jed7 {p : Nums} : EqI (Jqd7 p) (.region (Jqdh p) []) := eqi
@[simp] def Jqdi (p : Nums) : List IOp := [qp 15 (.mov (.t 6)), qp 16 (.mov (.t 1)), qp 17 (.len (.t 16)), qo 18 (.bin .lss (.t 15) (.t 17)), qo 19 (.mov (.t 18)), ⟨(some 20), (.mov (.t 1)), (some (19, true)), true⟩, ⟨(some 21), (.mov (.t 6)), (some (19, true)), true⟩, ⟨(some 22), (.iaddr 2 (.t 20) (.t 21)), (some (19, true)), true⟩, ⟨(some 23), (.load (some 2) (.t 22)), (some (19, true)), true⟩, ⟨(some 24), (.load (some 2) (.t 8)), (some (19, true)), true⟩, ⟨(some 25), (.call p.pairset_Less [(.t 23), (.t 24)]), (some (19, true)), false⟩, qo 26 (.pick (.t 19) (.t 25) (.c (.d (.bool false))))]
def Jqd8 (p : Nums) : IC := (.region (Jqdi p) [])
@[simp] theorem Jed8 {p : Nums} : EqI (Jqd8 p) (.region (Jqdi p) []) := eqi
@[simp] def Jqdj (p : Nums) : List IOp := [qo 27 (.mov (.t 6)), qo 28 (.bin .add (.t 27) (ci 1)), qo 6 (.asg (.t 28))]
def Jqd9 (p : Nums) : IC := (.region (Jqdj p) [])
@[simp] theorem Jed9 {p : Nums} : EqI (Jqd9 p) (.region (Jqdj p) []) := eqi
def Jqda (p : Nums) : IC := (.seq (.seq (Jqd8 p) (.cond (.t 26) .skip (.exit 2))) (.block 3 (Jqd9 p)))
@[simp] theorem Jeda {p : Nums} : EqI (Jqda p) (.seq (.seq (Jqd8 p) (.cond (.t 26) .skip (.exit 2))) (.block 3 (Jqd9 p))) := eqi
@[simp] def Jqdk (p : Nums) : List IOp := [qp 29 (.mov (.t 6)), qp 30 (.mov (.t 1)), qp 31 (.len (.t 30)), qo 32 (.bin .eql (.t 29) (.t 31)), qo 33 (.mov (.t 32)), ⟨(some 34), (.mov (.t 1)), (some (33, false)), true⟩, ⟨(some 35), (.mov (.t 6)), (some (33, false)), true⟩, ⟨(some 36), (.iaddr 2 (.t 34) (.t 35)), (some (33, false)), true⟩, ⟨(some 37), (.load (some 2) (.t 36)), (some (33, false)), true⟩, ⟨(some 38), (.load (some 2) (.t 8)), (some (33, false)), true⟩, ⟨(some 39), (.eqs true [.int, .int] (.t 37) (.t 38)), (some (33, false)), false⟩, qo 40 (.pick (.t 33) (.c (.d (.bool true))) (.t 39))]
def Jqdb (p : Nums) : IC := (.region (Jqdk p) [])
@[simp] theorem Jedb {p : Nums} : EqI (Jqdb p) (.region (Jqdk p) []) := eqi
@[simp] def Jqdl (p : Nums) : List IOp := [qo 41 (.load (some 2) (.t 8)), qn (.store 2 (.t 4) (.t 41)), qo 5 (.asg (.c (.d (.bool true))))]
def Jqdc (p : Nums) : IC := (.region (Jqdl p) [])
@[simp] theorem Jedc {p : Nums} : EqI (Jqdc p) (.region (Jqdl p) []) := eqi
def Jqdd (p : Nums) : IC := (.seq (Jqd7 p) (.seq (.block 2 (.loop (Jqda p))) (.seq (Jqdb p) (.cond (.t 40) (.seq (Jqdc p) .ret) .skip))))
@[simp] theorem Jedd {p : Nums} : EqI (Jqdd p) (.seq (Jqd7 p) (.seq (.block 2 (.loop (Jqda p))) (.seq (Jqdb p) (.cond (.t 40) (.seq (Jqdc p) .ret) .skip)))) := eqi
def Jqd4 (p : Nums) : IC := (.seq (.region [⟨(some 12), (.bin .lss (.t 11) (.t 10)), none, false⟩] []) (.seq (.cond (.t 12) .skip (.exit 0)) (.seq (.block 1 (Jqdd p)) (.region [⟨(some 42), (.bin .add (.t 11) (.c (.d (.int .i64 1)))), none, false⟩, ⟨(some 11), (.mov (.t 42)), none, false⟩] []))))
@[simp] theorem Jed4 {p : Nums} : EqI (Jqd4 p) (.seq (.region [⟨(some 12), (.bin .lss (.t 11) (.t 10)), none, false⟩] []) (.seq (.cond (.t 12) .skip (.exit 0)) (.seq (.block 1 (Jqdd p)) (.region [⟨(some 42), (.bin .add (.t 11) (.c (.d (.int .i64 1)))), none, false⟩, ⟨(some 11), (.mov (.t 42)), none, false⟩] [])))) := eqi
@[simp] def Jqdf (p : Nums) : List IOp := [qo 43 (.build [(zi 0), (zi 0)] []), qn (.store 2 (.t 4) (.t 43)), qo 5 (.asg (.c (.d (.bool false))))]
def Jqd5 (p : Nums) : IC := (.region (Jqdf p) [])
@[simp] theorem Jed5 {p : Nums} : EqI (Jqd5 p) (.region (Jqdf p) []) := eqi
def Jtb8 (p : Nums) : IC := (.seq (Jqd3 p) (.seq (.region [⟨(some 6), (.asg (.c (.d (.int .i64 0)))), none, false⟩] []) (.seq (.seq (Jqd6 p) (.block 0 (.loop (Jqd4 p)))) (.seq (Jqd5 p) .ret))))
@[simp] def Jqi3 (p : Nums) : List IOp := [qo 5 (.mov (.t 0)), qo 6 (.bin .geq (.t 5) (ci 0)), qo 7 (.mov (.t 6)), ⟨(some 8), (.mov (.t 0)), (some (7, true)), false⟩, ⟨(some 9), (.mov (.t 1)), (some (7, true)), false⟩, ⟨(some 10), (.bin .lss (.t 8) (.t 9)), (some (7, true)), false⟩, qo 11 (.pick (.t 7) (.t 10) (.c (.d (.bool false)))), qo 4 (.asg (.t 11))]
def Jqi2 (p : Nums) : IC := (.region (Jqi3 p) [])
@[simp] theorem Jei2 {p : Nums} : EqI (Jqi2 p) (.region (Jqi3 p) []) := eqi
def Jtbm (p : Nums) : IC := (.seq (.region [⟨(some 4), (.asg (.c (.d (.bool false)))), none, false⟩] []) (.seq (Jqi2 p) .ret))
@[simp] def Jq8w (p : Nums) : List IOp := [qo 3 (.mov (.t 0)), qo 4 (.bin .mul (ci 2) (.t 3)), qo 5 (.bin .add (.t 4) (ci 1)), qo 2 (.asg (.t 5))]
def Jq8v (p : Nums) : IC := (.region (Jq8w p) [])
@[simp] theorem Je8v {p : Nums} : EqI (Jq8v p) (.region (Jq8w p) []) := eqi
def Jtal (p : Nums) : IC := (.seq (.region [⟨(some 2), (.asg (.c (.d (.int .i64 0)))), none, false⟩] []) (.seq (Jq8v p) .ret))
@[simp] def Jqom (p : Nums) : List IOp := [qo 9 (.faddr 0 (.t 2)), qo 10 (.load none (.t 9)), qo 11 (.call p.opcode_Of [(.t 10)]), qo 8 (.mov (.t 11)), qo 12 (.ext (.t 8) 0), qo 13 (.ext (.t 8) 1), qo 5 (.alloc [(.d (.bool false)), (.d (.bool false)), (.d (.bool false)), (.d (.bool false))]), qn (.store 4 (.t 5) (.t 12)), qo 6 (.asg (.t 13))]
def Jqob (p : Nums) : IC := (.region (Jqom p) [])
@[simp] theorem Jeob {p : Nums} : EqI (Jqob p) (.region (Jqom p) []) := eqi
@[simp] def Jqon (p : Nums) : List IOp := [qo 14 (.faddr 1 (.t 2)), qo 15 (.load none (.t 14)), qo 16 (.faddr 0 (.t 5)), qo 17 (.load none (.t 16)), qo 18 (.mov (.t 1)), qo 19 (.build [(zi 0), (.d (.bool false)), (zi 0)] [(0, 1, (.t 15)), (1, 1, (.t 17)), (2, 1, (.t 18))]), qo 20 (.faddr 2 (.t 2)), qo 21 (.load none (.t 20)), qo 22 (.faddr 1 (.t 5)), qo 23 (.load none (.t 22)), qo 24 (.mov (.t 1)), qo 25 (.build [(zi 0), (.d (.bool false)), (zi 0)] [(0, 1, (.t 21)), (1, 1, (.t 23)), (2, 1, (.t 24))]), qo 26 (.faddr 3 (.t 2)), qo 27 (.load none (.t 26)), qo 28 (.faddr 2 (.t 5)), qo 29 (.load none (.t 28)), qo 30 (.mov (.t 1)), qo 31 (.build [(zi 0), (.d (.bool false)), (zi 0)] [(0, 1, (.t 27)), (1, 1, (.t 29)), (2, 1, (.t 30))]), qo 32 (.bslice 3 3 [(.int .i64 0), (.bool false), (.int .i64 0)] [(0, (.t 19)), (1, (.t 25)), (2, (.t 31))]), qo 7 (.asg (.t 32))]
def Jqoe (p : Nums) : IC := (.region (Jqon p) [])
@[simp] theorem Jeoe {p : Nums} : EqI (Jqoe p) (.region (Jqon p) []) := eqi
@[simp] def Jqoo (p : Nums) : List IOp := [qo 34 (.faddr 0 (.t 2)), qo 35 (.load none (.t 34)), qo 36 (.call p.opcode_Source [(.t 35)]), qo 37 (.un .not (.t 36)), qo 33 (.asg (.t 37))]
def Jqof (p : Nums) : IC := (.region (Jqoo p) [])
@[simp] theorem Jeof {p : Nums} : EqI (Jqof p) (.region (Jqoo p) []) := eqi
@[simp] def Jqop (p : Nums) : List IOp := [qo 39 (.mov (.t 7)), qo 40 (.call p.source_within [(.t 39)]), qo 41 (.un .not (.t 40)), qo 38 (.asg (.t 41))]
def Jqog (p : Nums) : IC := (.region (Jqop p) [])
@[simp] theorem Jeog {p : Nums} : EqI (Jqog p) (.region (Jqop p) []) := eqi
@[simp] def Jqoq (p : Nums) : List IOp := [qo 43 (.mov (.t 7)), qo 44 (.call p.source_blank [(.t 43)]), qo 45 (.un .not (.t 44)), qo 46 (.mov (.t 45)), ⟨(some 47), (.faddr 3 (.t 5)), (some (46, false)), false⟩, ⟨(some 48), (.load none (.t 47)), (some (46, false)), false⟩, ⟨(some 49), (.un .not (.t 48)), (some (46, false)), false⟩, ⟨(some 50), (.mov (.t 49)), (some (46, false)), false⟩, ⟨(some 51), (.faddr 4 (.t 2)), (some (50, true)), false⟩, ⟨(some 52), (.load none (.t 51)), (some (50, true)), false⟩, ⟨(some 53), (.bin .neq (.t 52) (ci 0)), (some (50, true)), false⟩, ⟨(some 54), (.pick (.t 50) (.t 53) (.c (.d (.bool false)))), (some (46, false)), false⟩, qo 55 (.pick (.t 46) (.c (.d (.bool true))) (.t 54)), qo 42 (.asg (.t 55))]
def Jqoh (p : Nums) : IC := (.region (Jqoq p) [])
@[simp] theorem Jeoh {p : Nums} : EqI (Jqoh p) (.region (Jqoq p) []) := eqi
def Jqoi (p : Nums) : IC := (.seq (.region [⟨(some 4), (.asg (.c (.d (.int .i64 12)))), none, false⟩] []) .ret)
@[simp] theorem Jeoi {p : Nums} : EqI (Jqoi p) (.seq (.region [⟨(some 4), (.asg (.c (.d (.int .i64 12)))), none, false⟩] []) .ret) := eqi
def Jqoj (p : Nums) : IC := (.seq (.region [⟨(some 4), (.asg (.c (.d (.int .i64 9)))), none, false⟩] []) .ret)
@[simp] theorem Jeoj {p : Nums} : EqI (Jqoj p) (.seq (.region [⟨(some 4), (.asg (.c (.d (.int .i64 9)))), none, false⟩] []) .ret) := eqi
def Jqok (p : Nums) : IC := (.seq (Jqoh p) (.cond (.t 42) (Jqoi p) .skip))
@[simp] theorem Jeok {p : Nums} : EqI (Jqok p) (.seq (Jqoh p) (.cond (.t 42) (Jqoi p) .skip)) := eqi
def Jqol (p : Nums) : IC := (.seq (.region [⟨(some 4), (.asg (.c (.d (.int .i64 8)))), none, false⟩] []) .ret)
@[simp] theorem Jeol {p : Nums} : EqI (Jqol p) (.seq (.region [⟨(some 4), (.asg (.c (.d (.int .i64 8)))), none, false⟩] []) .ret) := eqi
def Jqoc (p : Nums) : IC := (.seq (Jqog p) (.cond (.t 38) (Jqoj p) (Jqok p)))
@[simp] theorem Jeoc {p : Nums} : EqI (Jqoc p) (.seq (Jqog p) (.cond (.t 38) (Jqoj p) (Jqok p))) := eqi
def Jqod (p : Nums) : IC := (.seq (Jqof p) (.cond (.t 33) (Jqol p) (Jqoc p)))
@[simp] theorem Jeod {p : Nums} : EqI (Jqod p) (.seq (Jqof p) (.cond (.t 33) (Jqol p) (Jqoc p))) := eqi
def Jtc1 (p : Nums) : IC := (.seq (.region [⟨(some 2), (.box (.t 0)), none, false⟩, ⟨(some 4), (.asg (.c (.d (.int .i64 0)))), none, false⟩] []) (.seq (Jqob p) (.seq (Jqoe p) (.seq (.block 0 (Jqod p)) (.seq (.region [⟨(some 4), (.asg (.c (.d (.int .i64 0)))), none, false⟩] []) .ret)))))
@[simp] def Jqpc (p : Nums) : List IOp := [qo 10 (.faddr 1 (.t 3)), qo 11 (.load none (.t 10)), qo 12 (.faddr 0 (.t 3)), qo 13 (.load none (.t 12)), qo 14 (.bin .neq (.t 13) (ci 1)), qo 15 (.mov (.t 1)), qo 16 (.build [(zi 0), (.d (.bool false)), (zi 0)] [(0, 1, (.t 11)), (1, 1, (.t 14)), (2, 1, (.t 15))]), qo 7 (.alloc [(zi 0), (.d (.bool false)), (zi 0)]), qn (.store 3 (.t 7) (.t 16))]
def Jqox (p : Nums) : IC := (.region (Jqpc p) [])
@[simp] theorem Jeox {p : Nums} : EqI (Jqox p) (.region (Jqpc p) []) := eqi
@[simp] def Jqpd (p : Nums) : List IOp := [qo 17 (.faddr 2 (.t 3)), qo 18 (.load none (.t 17)), qo 19 (.faddr 0 (.t 3)), qo 20 (.load none (.t 19)), qo 21 (.bin .neq (.t 20) (ci 3)), qo 22 (.mov (.t 2)), qo 23 (.build [(zi 0), (.d (.bool false)), (zi 0)] [(0, 1, (.t 18)), (1, 1, (.t 21)), (2, 1, (.t 22))]), qo 8 (.alloc [(zi 0), (.d (.bool false)), (zi 0)]), qn (.store 3 (.t 8) (.t 23))]
def Jqp4 (p : Nums) : IC := (.region (Jqpd p) [])
@[simp] theorem Jep4 {p : Nums} : EqI (Jqp4 p) (.region (Jqpd p) []) := eqi
@[simp] def Jqpe (p : Nums) : List IOp := [qo 24 (.faddr 3 (.t 3)), qo 25 (.load none (.t 24)), qo 26 (.faddr 0 (.t 3)), qo 27 (.load none (.t 26)), qo 28 (.bin .eql (.t 27) (ci 2)), qo 29 (.mov (.t 2)), qo 30 (.build [(zi 0), (.d (.bool false)), (zi 0)] [(0, 1, (.t 25)), (1, 1, (.t 28)), (2, 1, (.t 29))]), qo 9 (.alloc [(zi 0), (.d (.bool false)), (zi 0)]), qn (.store 3 (.t 9) (.t 30))]
def Jqp5 (p : Nums) : IC := (.region (Jqpe p) [])
@[simp] theorem Jep5 {p : Nums} : EqI (Jqp5 p) (.region (Jqpe p) []) := eqi
@[simp] def Jqpf (p : Nums) : List IOp := [qo 32 (.faddr 0 (.t 3)), qo 33 (.load none (.t 32)), qo 34 (.bin .lss (.t 33) (ci 1)), qo 35 (.mov (.t 34)), ⟨(some 36), (.faddr 0 (.t 3)), (some (35, false)), false⟩, ⟨(some 37), (.load none (.t 36)), (some (35, false)), false⟩, ⟨(some 38), (.bin .gtr (.t 37) (ci 3)), (some (35, false)), false⟩, qo 39 (.pick (.t 35) (.c (.d (.bool true))) (.t 38)), qo 31 (.asg (.t 39))]
def Jqp6 (p : Nums) : IC := (.region (Jqpf p) [])
@[simp] theorem Jep6 {p : Nums} : EqI (Jqp6 p) (.region (Jqpf p) []) := eqi
@[simp] def Jqpg (p : Nums) : List IOp := [qo 41 (.load (some 3) (.t 7)), qo 42 (.bslice 3 1 [(.int .i64 0), (.bool false), (.int .i64 0)] [(0, (.t 41))]), qo 43 (.call p.source_within [(.t 42)]), qo 44 (.un .not (.t 43)), qo 40 (.asg (.t 44))]
def Jqp7 (p : Nums) : IC := (.region (Jqpg p) [])
@[simp] theorem Jep7 {p : Nums} : EqI (Jqp7 p) (.region (Jqpg p) []) := eqi
@[simp] def Jqph (p : Nums) : List IOp := [qo 46 (.load (some 3) (.t 8)), qo 47 (.load (some 3) (.t 9)), qo 48 (.bslice 3 2 [(.int .i64 0), (.bool false), (.int .i64 0)] [(0, (.t 46)), (1, (.t 47))]), qo 49 (.call p.source_within [(.t 48)]), qo 50 (.un .not (.t 49)), qo 45 (.asg (.t 50))]
def Jqp8 (p : Nums) : IC := (.region (Jqph p) [])
@[simp] theorem Jep8 {p : Nums} : EqI (Jqp8 p) (.region (Jqph p) []) := eqi
@[simp] def Jqpi (p : Nums) : List IOp := [qo 52 (.load (some 3) (.t 7)), qo 53 (.load (some 3) (.t 8)), qo 54 (.load (some 3) (.t 9)), qo 55 (.bslice 3 3 [(.int .i64 0), (.bool false), (.int .i64 0)] [(0, (.t 52)), (1, (.t 53)), (2, (.t 54))]), qo 56 (.call p.source_blank [(.t 55)]), qo 57 (.un .not (.t 56)), qo 51 (.asg (.t 57))]
def Jqp9 (p : Nums) : IC := (.region (Jqpi p) [])
@[simp] theorem Jep9 {p : Nums} : EqI (Jqp9 p) (.region (Jqpi p) []) := eqi
def Jqpa (p : Nums) : IC := (.seq (.region [⟨(some 6), (.asg (.c (.d (.int .i64 12)))), none, false⟩] []) .ret)
@[simp] theorem Jepa {p : Nums} : EqI (Jqpa p) (.seq (.region [⟨(some 6), (.asg (.c (.d (.int .i64 12)))), none, false⟩] []) .ret) := eqi
def Jqpb (p : Nums) : IC := (.seq (.region [⟨(some 6), (.asg (.c (.d (.int .i64 11)))), none, false⟩] []) .ret)
@[simp] theorem Jepb {p : Nums} : EqI (Jqpb p) (.seq (.region [⟨(some 6), (.asg (.c (.d (.int .i64 11)))), none, false⟩] []) .ret) := eqi
def Jqoy (p : Nums) : IC := (.seq (Jqp9 p) (.cond (.t 51) (Jqpa p) .skip))
@[simp] theorem Jeoy {p : Nums} : EqI (Jqoy p) (.seq (Jqp9 p) (.cond (.t 51) (Jqpa p) .skip)) := eqi
def Jqoz (p : Nums) : IC := (.seq (.region [⟨(some 6), (.asg (.c (.d (.int .i64 9)))), none, false⟩] []) .ret)
@[simp] theorem Jeoz {p : Nums} : EqI (Jqoz p) (.seq (.region [⟨(some 6), (.asg (.c (.d (.int .i64 9)))), none, false⟩] []) .ret) := eqi
def Jqp0 (p : Nums) : IC := (.seq (Jqp8 p) (.cond (.t 45) (Jqpb p) (Jqoy p)))
@[simp] theorem Jep0 {p : Nums} : EqI (Jqp0 p) (.seq (Jqp8 p) (.cond (.t 45) (Jqpb p) (Jqoy p))) := eqi
def Jqp1 (p : Nums) : IC := (.seq (.region [⟨(some 6), (.asg (.c (.d (.int .i64 16)))), none, false⟩] []) .ret)
@[simp] theorem Jep1 {p : Nums} : EqI (Jqp1 p) (.seq (.region [⟨(some 6), (.asg (.c (.d (.int .i64 16)))), none, false⟩] []) .ret) := eqi
def Jqp2 (p : Nums) : IC := (.seq (Jqp7 p) (.cond (.t 40) (Jqoz p) (Jqp0 p)))
@[simp] theorem Jep2 {p : Nums} : EqI (Jqp2 p) (.seq (Jqp7 p) (.cond (.t 40) (Jqoz p) (Jqp0 p))) := eqi
def Jqp3 (p : Nums) : IC := (.seq (Jqp6 p) (.cond (.t 31) (Jqp1 p) (Jqp2 p)))
@[simp] theorem Jep3 {p : Nums} : EqI (Jqp3 p) (.seq (Jqp6 p) (.cond (.t 31) (Jqp1 p) (Jqp2 p))) := eqi
def Jtc3 (p : Nums) : IC := (.seq (.region [⟨(some 3), (.box (.t 0)), none, false⟩, ⟨(some 6), (.asg (.c (.d (.int .i64 0)))), none, false⟩] []) (.seq (Jqox p) (.seq (Jqp4 p) (.seq (Jqp5 p) (.seq (.block 0 (Jqp3 p)) (.seq (.region [⟨(some 6), (.asg (.c (.d (.int .i64 0)))), none, false⟩] []) .ret))))))
@[simp] def Jqa6 (p : Nums) : List IOp := [qo 9 (.faddr 0 (.t 3)), qo 10 (.load none (.t 9)), qo 11 (.call p.opcode_Machine [(.t 10)]), qo 12 (.un .not (.t 11))]
def Jq9x (p : Nums) : IC := (.region (Jqa6 p) [])
@[simp] theorem Je9x {p : Nums} : EqI (Jq9x p) (.region (Jqa6 p) []) := eqi
def Jq9y (p : Nums) : IC := (.seq (.region [⟨(some 6), (.asg (.c (.d (.int .i64 8)))), none, false⟩] []) .ret)
@[simp] theorem Je9y {p : Nums} : EqI (Jq9y p) (.seq (.region [⟨(some 6), (.asg (.c (.d (.int .i64 8)))), none, false⟩] []) .ret) := eqi
@[simp] def Jqa7 (p : Nums) : List IOp := [qo 13 (.call p.machine_others []), qo 7 (.alloc [.nilfn, .nilfn]), qn (.store 2 (.t 7) (.t 13))]
def Jq9z (p : Nums) : IC := (.region (Jqa7 p) [])
@[simp] theorem Je9z {p : Nums} : EqI (Jq9z p) (.region (Jqa7 p) []) := eqi
@[simp] def Jqa8 (p : Nums) : List IOp := [qo 14 (.faddr 0 (.t 3)), qo 15 (.load none (.t 14)), qo 16 (.bin .eql (.t 15) (ci 18))]
def Jqa0 (p : Nums) : IC := (.region (Jqa8 p) [])
@[simp] theorem Jea0 {p : Nums} : EqI (Jqa0 p) (.region (Jqa8 p) []) := eqi
@[simp] def Jqa9 (p : Nums) : List IOp := [qo 17 (.call p.machine_moves []), qn (.store 2 (.t 7) (.t 17))]
def Jqa1 (p : Nums) : IC := (.region (Jqa9 p) [])
@[simp] theorem Jea1 {p : Nums} : EqI (Jqa1 p) (.region (Jqa9 p) []) := eqi
@[simp] def Jqaa (p : Nums) : List IOp := [qo 18 (.faddr 0 (.t 7)), qo 19 (.load none (.t 18)), qo 20 (.load (some 7) (.t 3)), qo 21 (.mov (.t 1)), qo 22 (.mov (.t 2)), qo 23 (.callv (.t 19) [(.t 20), (.t 21), (.t 22)]), qo 8 (.asg (.t 23))]
def Jqa2 (p : Nums) : IC := (.region (Jqaa p) [])
@[simp] theorem Jea2 {p : Nums} : EqI (Jqa2 p) (.region (Jqaa p) []) := eqi
def Jqa3 (p : Nums) : IC := (.seq (.region [⟨(some 26), (.mov (.t 8)), none, false⟩, ⟨(some 6), (.asg (.t 26)), none, false⟩] []) .ret)
@[simp] theorem Jea3 {p : Nums} : EqI (Jqa3 p) (.seq (.region [⟨(some 26), (.mov (.t 8)), none, false⟩, ⟨(some 6), (.asg (.t 26)), none, false⟩] []) .ret) := eqi
@[simp] def Jqab (p : Nums) : List IOp := [qo 27 (.faddr 1 (.t 7)), qo 28 (.load none (.t 27)), qo 29 (.load (some 7) (.t 3)), qo 30 (.callv (.t 28) [(.t 29)]), qo 31 (.un .not (.t 30))]
def Jqa4 (p : Nums) : IC := (.region (Jqab p) [])
@[simp] theorem Jea4 {p : Nums} : EqI (Jqa4 p) (.region (Jqab p) []) := eqi
def Jqa5 (p : Nums) : IC := (.seq (.region [⟨(some 6), (.asg (.c (.d (.int .i64 12)))), none, false⟩] []) .ret)
@[simp] theorem Jea5 {p : Nums} : EqI (Jqa5 p) (.seq (.region [⟨(some 6), (.asg (.c (.d (.int .i64 12)))), none, false⟩] []) .ret) := eqi
def Jtao (p : Nums) : IC := (.seq (.region [⟨(some 3), (.box (.t 0)), none, false⟩, ⟨(some 6), (.asg (.c (.d (.int .i64 0)))), none, false⟩] []) (.seq (.seq (Jq9x p) (.cond (.t 12) (Jq9y p) .skip)) (.seq (Jq9z p) (.seq (.seq (Jqa0 p) (.cond (.t 16) (Jqa1 p) .skip)) (.seq (.seq (Jqa2 p) (.seq (.region [⟨(some 24), (.mov (.t 8)), none, false⟩, ⟨(some 25), (.bin .neq (.t 24) (.c (.d (.int .i64 0)))), none, false⟩] []) (.cond (.t 25) (Jqa3 p) .skip))) (.seq (.seq (Jqa4 p) (.cond (.t 31) (Jqa5 p) .skip)) (.seq (.region [⟨(some 6), (.asg (.c (.d (.int .i64 0)))), none, false⟩] []) .ret)))))))
@[simp] def Jq8n (p : Nums) : List IOp := [qo 9 (.mov (.t 0)), qo 10 (.bin .geq (.t 9) (ci 0)), qo 11 (.mov (.t 10)), ⟨(some 12), (.mov (.t 0)), (some (11, true)), false⟩, ⟨(some 13), (.call p.location_Index [(.t 12)]), (some (11, true)), false⟩, ⟨(some 14), (.mov (.t 2)), (some (11, true)), false⟩, ⟨(some 15), (.bin .lss (.t 13) (.t 14)), (some (11, true)), false⟩, qo 16 (.pick (.t 11) (.t 15) (.c (.d (.bool false)))), qo 6 (.asg (.t 16))]
def Jq8l (p : Nums) : IC := (.region (Jq8n p) [])
@[simp] theorem Je8l {p : Nums} : EqI (Jq8l p) (.region (Jq8n p) []) := eqi
@[simp] def Jq8o (p : Nums) : List IOp := [qo 17 (.mov (.t 0)), qo 18 (.bin .geq (.t 17) (ci 0)), qo 19 (.mov (.t 18)), ⟨(some 20), (.mov (.t 0)), (some (19, true)), false⟩, ⟨(some 21), (.call p.location_Index [(.t 20)]), (some (19, true)), false⟩, ⟨(some 22), (.mov (.t 1)), (some (19, true)), false⟩, ⟨(some 23), (.bin .lss (.t 21) (.t 22)), (some (19, true)), false⟩, qo 24 (.pick (.t 19) (.t 23) (.c (.d (.bool false)))), qo 6 (.asg (.t 24))]
def Jq8m (p : Nums) : IC := (.region (Jq8o p) [])
@[simp] theorem Je8m {p : Nums} : EqI (Jq8m p) (.region (Jq8o p) []) := eqi
def Jtah (p : Nums) : IC := (.seq (.region [⟨(some 6), (.asg (.c (.d (.bool false)))), none, false⟩] []) (.seq (.seq (.region [⟨(some 7), (.mov (.t 0)), none, false⟩, ⟨(some 8), (.call p.location_IsSlot [(.t 7)]), none, false⟩] []) (.cond (.t 8) (.seq (Jq8l p) .ret) .skip)) (.seq (Jq8m p) .ret)))
@[simp] def Jqcv (p : Nums) : List IOp := [qo 2 (.box (.t 0)), qo 3 (.box (.t 1)), qo 4 (.asg (.c (.d (.bool false))))]
def Jqct (p : Nums) : IC := (.region (Jqcv p) [])
@[simp] theorem Ject {p : Nums} : EqI (Jqct p) (.region (Jqcv p) []) := eqi
@[simp] def Jqcw (p : Nums) : List IOp := [qo 5 (.faddr 0 (.t 2)), qo 6 (.load none (.t 5)), qo 7 (.faddr 0 (.t 3)), qo 8 (.load none (.t 7)), qo 9 (.bin .lss (.t 6) (.t 8)), qo 10 (.mov (.t 9)), ⟨(some 11), (.faddr 0 (.t 2)), (some (10, false)), false⟩, ⟨(some 12), (.load none (.t 11)), (some (10, false)), false⟩, ⟨(some 13), (.faddr 0 (.t 3)), (some (10, false)), false⟩, ⟨(some 14), (.load none (.t 13)), (some (10, false)), false⟩, ⟨(some 15), (.bin .eql (.t 12) (.t 14)), (some (10, false)), false⟩, ⟨(some 16), (.mov (.t 15)), (some (10, false)), false⟩, ⟨(some 17), (.faddr 1 (.t 2)), (some (16, true)), false⟩, ⟨(some 18), (.load none (.t 17)), (some (16, true)), false⟩, ⟨(some 19), (.faddr 1 (.t 3)), (some (16, true)), false⟩, ⟨(some 20), (.load none (.t 19)), (some (16, true)), false⟩, ⟨(some 21), (.bin .lss (.t 18) (.t 20)), (some (16, true)), false⟩, ⟨(some 22), (.pick (.t 16) (.t 21) (.c (.d (.bool false)))), (some (10, false)), false⟩, qo 23 (.pick (.t 10) (.c (.d (.bool true))) (.t 22)), qo 4 (.asg (.t 23))]
def Jqcu (p : Nums) : IC := (.region (Jqcw p) [])
@[simp] theorem Jecu {p : Nums} : EqI (Jqcu p) (.region (Jqcw p) []) := eqi
def Jtb6 (p : Nums) : IC := (.seq (Jqct p) (.seq (Jqcu p) .ret))
@[simp] def Jq6e (p : Nums) : List IOp := [qo 5 (.faddr 0 (.t 2)), qo 6 (.load none (.t 5)), qo 7 (.mov (.t 1)), qo 8 (.bin .lss (.t 6) (.t 7))]
def Jq6b (p : Nums) : IC := (.region (Jq6e p) [])
@[simp] theorem Je6b {p : Nums} : EqI (Jq6b p) (.region (Jq6e p) []) := eqi
@[simp] def Jq6f (p : Nums) : List IOp := [qp 9 (.faddr 1 (.t 2)), qp 10 (.load none (.t 9)), qp 11 (.faddr 0 (.t 2)), qp 12 (.load none (.t 11)), qp 13 (.call p.location_Slot [(.t 12)]), qo 14 (.bin .eql (.t 10) (.t 13)), qo 4 (.asg (.t 14))]
def Jq6c (p : Nums) : IC := (.region (Jq6f p) [])
@[simp] theorem Je6c {p : Nums} : EqI (Jq6c p) (.region (Jq6f p) []) := eqi
@[simp] def Jq6g (p : Nums) : List IOp := [qo 15 (.faddr 1 (.t 2)), qo 16 (.load none (.t 15)), qo 17 (.call p.location_IsSlot [(.t 16)]), qo 18 (.un .not (.t 17)), qo 19 (.mov (.t 18)), ⟨(some 20), (.faddr 1 (.t 2)), (some (19, false)), false⟩, ⟨(some 21), (.load none (.t 20)), (some (19, false)), false⟩, ⟨(some 22), (.call p.location_Index [(.t 21)]), (some (19, false)), false⟩, ⟨(some 23), (.mov (.t 1)), (some (19, false)), false⟩, ⟨(some 24), (.bin .geq (.t 22) (.t 23)), (some (19, false)), false⟩, qo 25 (.pick (.t 19) (.c (.d (.bool true))) (.t 24)), qo 4 (.asg (.t 25))]
def Jq6d (p : Nums) : IC := (.region (Jq6g p) [])
@[simp] theorem Je6d {p : Nums} : EqI (Jq6d p) (.region (Jq6g p) []) := eqi
def Jtab (p : Nums) : IC := (.seq (.region [⟨(some 2), (.box (.t 0)), none, false⟩, ⟨(some 4), (.asg (.c (.d (.bool false)))), none, false⟩] []) (.seq (.seq (Jq6b p) (.cond (.t 8) (.seq (Jq6c p) .ret) .skip)) (.seq (Jq6d p) .ret)))
@[simp] def Jq12 (p : Nums) : List IOp := [qo 7 (.mov (.t 1)), qo 8 (.mov (.t 0)), qo 9 (.len (.t 8)), qo 10 (.bin .lss (.t 7) (.t 9)), qo 11 (.mov (.t 10)), ⟨(some 12), (.mov (.t 2)), (some (11, true)), false⟩, ⟨(some 13), (.mov (.t 0)), (some (11, true)), false⟩, ⟨(some 14), (.mov (.t 1)), (some (11, true)), false⟩, ⟨(some 15), (.iaddr 5 (.t 13) (.t 14)), (some (11, true)), false⟩, ⟨(some 16), (.load (some 5) (.t 15)), (some (11, true)), false⟩, ⟨(some 17), (.callv (.t 12) [(.t 16)]), (some (11, true)), false⟩, qo 18 (.pick (.t 11) (.t 17) (.c (.d (.bool false))))]
def Jqz (p : Nums) : IC := (.region (Jq12 p) [])
@[simp] theorem Jez {p : Nums} : EqI (Jqz p) (.region (Jq12 p) []) := eqi
@[simp] def Jq13 (p : Nums) : List IOp := [qo 19 (.mov (.t 1)), qo 20 (.bin .add (.t 19) (ci 1)), qo 1 (.asg (.t 20))]
def Jq10 (p : Nums) : IC := (.region (Jq13 p) [])
@[simp] theorem Je10 {p : Nums} : EqI (Jq10 p) (.region (Jq13 p) []) := eqi
def Jq11 (p : Nums) : IC := (.seq (.seq (Jqz p) (.cond (.t 18) .skip (.exit 0))) (.block 1 (Jq10 p)))
@[simp] theorem Je11 {p : Nums} : EqI (Jq11 p) (.seq (.seq (Jqz p) (.cond (.t 18) .skip (.exit 0))) (.block 1 (Jq10 p))) := eqi
def Jt9u (p : Nums) : IC := (.seq (.region [⟨(some 6), (.asg (.c (.d (.int .i64 0)))), none, false⟩] []) (.seq (.block 0 (.loop (Jq11 p))) (.seq (.region [⟨(some 21), (.mov (.t 1)), none, false⟩, ⟨(some 6), (.asg (.t 21)), none, false⟩] []) .ret)))
@[simp] def Jqw (p : Nums) : List IOp := [qo 3 (.faddr 0 (.t 1)), qo 4 (.load none (.t 3)), qo 5 (.bin .eql (.t 4) (ci 2)), qo 2 (.asg (.t 5))]
def Jqv (p : Nums) : IC := (.region (Jqw p) [])
@[simp] theorem Jev {p : Nums} : EqI (Jqv p) (.region (Jqw p) []) := eqi
def Jt9s (p : Nums) : IC := (.seq (.region [⟨(some 1), (.box (.t 0)), none, false⟩, ⟨(some 2), (.asg (.c (.d (.bool false)))), none, false⟩] []) (.seq (Jqv p) .ret))
@[simp] def Jq17 (p : Nums) : List IOp := [qo 7 (.mov (.t 1)), qo 8 (.mov (.t 0)), qo 9 (.len (.t 8)), qo 10 (.bin .lss (.t 7) (.t 9)), qo 11 (.mov (.t 10)), ⟨(some 12), (.mov (.t 2)), (some (11, true)), false⟩, ⟨(some 13), (.mov (.t 0)), (some (11, true)), false⟩, ⟨(some 14), (.mov (.t 1)), (some (11, true)), false⟩, ⟨(some 15), (.iaddr 7 (.t 13) (.t 14)), (some (11, true)), false⟩, ⟨(some 16), (.load (some 7) (.t 15)), (some (11, true)), false⟩, ⟨(some 17), (.callv (.t 12) [(.t 16)]), (some (11, true)), false⟩, qo 18 (.pick (.t 11) (.t 17) (.c (.d (.bool false))))]
def Jq14 (p : Nums) : IC := (.region (Jq17 p) [])
@[simp] theorem Je14 {p : Nums} : EqI (Jq14 p) (.region (Jq17 p) []) := eqi
@[simp] def Jq18 (p : Nums) : List IOp := [qo 19 (.mov (.t 1)), qo 20 (.bin .add (.t 19) (ci 1)), qo 1 (.asg (.t 20))]
def Jq15 (p : Nums) : IC := (.region (Jq18 p) [])
@[simp] theorem Je15 {p : Nums} : EqI (Jq15 p) (.region (Jq18 p) []) := eqi
def Jq16 (p : Nums) : IC := (.seq (.seq (Jq14 p) (.cond (.t 18) .skip (.exit 0))) (.block 1 (Jq15 p)))
@[simp] theorem Je16 {p : Nums} : EqI (Jq16 p) (.seq (.seq (Jq14 p) (.cond (.t 18) .skip (.exit 0))) (.block 1 (Jq15 p))) := eqi
def Jt9v (p : Nums) : IC := (.seq (.region [⟨(some 6), (.asg (.c (.d (.int .i64 0)))), none, false⟩] []) (.seq (.block 0 (.loop (Jq16 p))) (.seq (.region [⟨(some 21), (.mov (.t 1)), none, false⟩, ⟨(some 6), (.asg (.t 21)), none, false⟩] []) .ret)))
@[simp] def Jqy (p : Nums) : List IOp := [qo 3 (.faddr 0 (.t 1)), qo 4 (.load none (.t 3)), qo 5 (.bin .eql (.t 4) (ci 18)), qo 2 (.asg (.t 5))]
def Jqx (p : Nums) : IC := (.region (Jqy p) [])
@[simp] theorem Jex {p : Nums} : EqI (Jqx p) (.region (Jqy p) []) := eqi
def Jt9t (p : Nums) : IC := (.seq (.region [⟨(some 1), (.box (.t 0)), none, false⟩, ⟨(some 2), (.asg (.c (.d (.bool false)))), none, false⟩] []) (.seq (Jqx p) .ret))
@[simp] def Jqp (p : Nums) : List IOp := [qo 2 (.box (.t 0)), qo 3 (.box (.t 1)), qo 4 (.asg (.c (.d (.bool false))))]
def Jqn (p : Nums) : IC := (.region (Jqp p) [])
@[simp] theorem Jen {p : Nums} : EqI (Jqn p) (.region (Jqp p) []) := eqi
@[simp] def Jqq (p : Nums) : List IOp := [qo 5 (.faddr 0 (.t 2)), qo 6 (.load none (.t 5)), qo 7 (.faddr 0 (.t 3)), qo 8 (.load none (.t 7)), qo 9 (.bin .eql (.t 6) (.t 8)), qo 10 (.mov (.t 9)), ⟨(some 11), (.faddr 4 (.t 2)), (some (10, true)), false⟩, ⟨(some 12), (.load none (.t 11)), (some (10, true)), false⟩, ⟨(some 13), (.faddr 4 (.t 3)), (some (10, true)), false⟩, ⟨(some 14), (.load none (.t 13)), (some (10, true)), false⟩, ⟨(some 15), (.bin .eql (.t 12) (.t 14)), (some (10, true)), false⟩, qo 16 (.pick (.t 10) (.t 15) (.c (.d (.bool false)))), qo 17 (.mov (.t 16)), ⟨(some 18), (.faddr 0 (.t 2)), (some (17, true)), false⟩, ⟨(some 19), (.load none (.t 18)), (some (17, true)), false⟩, ⟨(some 20), (.bin .neq (.t 19) (ci 2)), (some (17, true)), false⟩, qo 21 (.pick (.t 17) (.t 20) (.c (.d (.bool false)))), qo 22 (.mov (.t 21)), ⟨(some 23), (.faddr 0 (.t 2)), (some (22, true)), false⟩, ⟨(some 24), (.load none (.t 23)), (some (22, true)), false⟩, ⟨(some 25), (.bin .neq (.t 24) (ci 18)), (some (22, true)), false⟩, qo 26 (.pick (.t 22) (.t 25) (.c (.d (.bool false)))), qo 4 (.asg (.t 26))]
def Jqo (p : Nums) : IC := (.region (Jqq p) [])
@[simp] theorem Jeo {p : Nums} : EqI (Jqo p) (.region (Jqq p) []) := eqi
def Jt9q (p : Nums) : IC := (.seq (Jqn p) (.seq (Jqo p) .ret))
def Jqmi (p : Nums) : IC := (.seq (.region [⟨(some 2), (.asg (.c .nils)), none, false⟩] []) .ret)
@[simp] theorem Jemi {p : Nums} : EqI (Jqmi p) (.seq (.region [⟨(some 2), (.asg (.c .nils)), none, false⟩] []) .ret) := eqi
@[simp] def Jqmk (p : Nums) : List IOp := [qo 5 (.bslice 2 0 [(.int .i64 0), (.int .i64 0)] []), qo 6 (.mov (.t 0)), qo 7 (.app 2 16 (.t 5) (.t 6)), qo 2 (.asg (.t 7))]
def Jqmj (p : Nums) : IC := (.region (Jqmk p) [])
@[simp] theorem Jemj {p : Nums} : EqI (Jqmj p) (.region (Jqmk p) []) := eqi
def Jtbx (p : Nums) : IC := (.seq (.region [⟨(some 2), (.asg (.c .nils)), none, false⟩] []) (.seq (.seq (.region [⟨(some 3), (.mov (.t 0)), none, false⟩, ⟨(some 4), (.isnil false (.t 3)), none, false⟩] []) (.cond (.t 4) (Jqmi p) .skip)) (.seq (Jqmj p) .ret)))
@[simp] def Jqn3 (p : Nums) : List IOp := [qo 6 (.mov (.t 0)), qo 7 (.len (.t 6)), qo 8 (.bin .lss (.t 7) (ci 2))]
def Jqml (p : Nums) : IC := (.region (Jqn3 p) [])
@[simp] theorem Jeml {p : Nums} : EqI (Jqml p) (.region (Jqn3 p) []) := eqi
def Jqmv (p : Nums) : IC := (.seq (.region [⟨(some 9), (.mov (.t 0)), none, false⟩, ⟨(some 2), (.asg (.t 9)), none, false⟩] []) .ret)
@[simp] theorem Jemv {p : Nums} : EqI (Jqmv p) (.seq (.region [⟨(some 9), (.mov (.t 0)), none, false⟩, ⟨(some 2), (.asg (.t 9)), none, false⟩] []) .ret) := eqi
@[simp] def Jqn8 (p : Nums) : List IOp := [qo 10 (.mov (.t 3)), qo 11 (.mov (.t 0)), qo 12 (.len (.t 11)), qo 13 (.bin .lss (.t 10) (.t 12))]
def Jqmw (p : Nums) : IC := (.region (Jqn8 p) [])
@[simp] theorem Jemw {p : Nums} : EqI (Jqmw p) (.region (Jqn8 p) []) := eqi
@[simp] def Jqn9 (p : Nums) : List IOp := [qp 16 (.mov (.t 0)), qp 17 (.mov (.t 3)), qp 18 (.iaddr 2 (.t 16) (.t 17)), qp 19 (.load (some 2) (.t 18)), qp 20 (.mov (.t 0)), qp 21 (.mov (.t 3)), qp 22 (.bin .sub (.t 21) (ci 1)), qp 23 (.iaddr 2 (.t 20) (.t 22)), qp 24 (.load (some 2) (.t 23)), qo 25 (.eqs false [.int, .int] (.t 19) (.t 24))]
def Jqmx (p : Nums) : IC := (.region (Jqn9 p) [])
@[simp] theorem Jemx {p : Nums} : EqI (Jqmx p) (.region (Jqn9 p) []) := eqi
@[simp] def Jqna (p : Nums) : List IOp := [qo 26 (.mov (.t 0)), qo 27 (.mov (.t 3)), qo 28 (.slc 2 (.t 26) (some (.t 27)) none), qo 4 (.asg (.t 28))]
def Jqmy (p : Nums) : IC := (.region (Jqna p) [])
@[simp] theorem Jemy {p : Nums} : EqI (Jqmy p) (.region (Jqna p) []) := eqi
@[simp] def Jqnb (p : Nums) : List IOp := [qo 29 (.mov (.t 5)), qo 30 (.mov (.t 4)), qo 31 (.len (.t 30)), qo 32 (.bin .lss (.t 29) (.t 31))]
def Jqmz (p : Nums) : IC := (.region (Jqnb p) [])
@[simp] theorem Jemz {p : Nums} : EqI (Jqmz p) (.region (Jqnb p) []) := eqi
@[simp] def Jqnc (p : Nums) : List IOp := [qp 35 (.mov (.t 4)), qp 36 (.mov (.t 5)), qp 37 (.iaddr 2 (.t 35) (.t 36)), qp 38 (.load (some 2) (.t 37)), qp 39 (.mov (.t 4)), qp 40 (.mov (.t 5)), qp 41 (.bin .sub (.t 40) (ci 1)), qp 42 (.iaddr 2 (.t 39) (.t 41)), qp 43 (.load (some 2) (.t 42)), qo 44 (.eqs true [.int, .int] (.t 38) (.t 43))]
def Jqn0 (p : Nums) : IC := (.region (Jqnc p) [])
@[simp] theorem Jen0 {p : Nums} : EqI (Jqn0 p) (.region (Jqnc p) []) := eqi
@[simp] def Jqnd (p : Nums) : List IOp := [qo 45 (.mov (.t 0)), qo 46 (.mov (.t 3)), qo 47 (.mov (.t 4)), qo 48 (.mov (.t 5)), qo 49 (.iaddr 2 (.t 47) (.t 48)), qo 50 (.load (some 2) (.t 49)), qo 51 (.iaddr 2 (.t 45) (.t 46)), qn (.store 2 (.t 51) (.t 50))]
def Jqn1 (p : Nums) : IC := (.region (Jqnd p) [])
@[simp] theorem Jen1 {p : Nums} : EqI (Jqn1 p) (.region (Jqnd p) []) := eqi
@[simp] def Jqne (p : Nums) : List IOp := [qo 52 (.mov (.t 3)), qo 53 (.bin .add (.t 52) (ci 1)), qo 3 (.asg (.t 53))]
def Jqn2 (p : Nums) : IC := (.region (Jqne p) [])
@[simp] theorem Jen2 {p : Nums} : EqI (Jqn2 p) (.region (Jqne p) []) := eqi
def Jqmm (p : Nums) : IC := (.seq (Jqn0 p) (.cond (.t 44) (.seq (Jqn1 p) (Jqn2 p)) .skip))
@[simp] theorem Jemm {p : Nums} : EqI (Jqmm p) (.seq (Jqn0 p) (.cond (.t 44) (.seq (Jqn1 p) (Jqn2 p)) .skip)) := eqi
@[simp] def Jqn4 (p : Nums) : List IOp := [qo 33 (.mov (.t 5)), qo 34 (.bin .add (.t 33) (ci 1)), qo 5 (.asg (.t 34))]
def Jqmn (p : Nums) : IC := (.region (Jqn4 p) [])
@[simp] theorem Jemn {p : Nums} : EqI (Jqmn p) (.region (Jqn4 p) []) := eqi
def Jqmo (p : Nums) : IC := (.seq (.seq (Jqmz p) (.cond (.t 32) .skip (.exit 2))) (.seq (.block 3 (Jqmm p)) (Jqmn p)))
@[simp] theorem Jemo {p : Nums} : EqI (Jqmo p) (.seq (.seq (Jqmz p) (.cond (.t 32) .skip (.exit 2))) (.seq (.block 3 (Jqmm p)) (Jqmn p))) := eqi
@[simp] def Jqn5 (p : Nums) : List IOp := [qo 54 (.mov (.t 0)), qo 55 (.mov (.t 3)), qo 56 (.slc 2 (.t 54) (some (.t 55)) none), qn (.clr 2 [(.int .i64 0), (.int .i64 0)] (.t 56))]
def Jqmp (p : Nums) : IC := (.region (Jqn5 p) [])
@[simp] theorem Jemp {p : Nums} : EqI (Jqmp p) (.region (Jqn5 p) []) := eqi
@[simp] def Jqn6 (p : Nums) : List IOp := [qo 57 (.mov (.t 0)), qo 58 (.mov (.t 3)), qo 59 (.slc 2 (.t 57) none (some (.t 58))), qo 2 (.asg (.t 59))]
def Jqmq (p : Nums) : IC := (.region (Jqn6 p) [])
@[simp] theorem Jemq {p : Nums} : EqI (Jqmq p) (.region (Jqn6 p) []) := eqi
def Jqmr (p : Nums) : IC := (.seq (Jqmy p) (.seq (.seq (.region [⟨(some 5), (.asg (.c (.d (.int .i64 1)))), none, false⟩] []) (.block 2 (.loop (Jqmo p)))) (.seq (Jqmp p) (.seq (Jqmq p) .ret))))
@[simp] theorem Jemr {p : Nums} : EqI (Jqmr p) (.seq (Jqmy p) (.seq (.seq (.region [⟨(some 5), (.asg (.c (.d (.int .i64 1)))), none, false⟩] []) (.block 2 (.loop (Jqmo p)))) (.seq (Jqmp p) (.seq (Jqmq p) .ret)))) := eqi
def Jqms (p : Nums) : IC := (.seq (Jqmx p) (.cond (.t 25) (Jqmr p) .skip))
@[simp] theorem Jems {p : Nums} : EqI (Jqms p) (.seq (Jqmx p) (.cond (.t 25) (Jqmr p) .skip)) := eqi
@[simp] def Jqn7 (p : Nums) : List IOp := [qo 14 (.mov (.t 3)), qo 15 (.bin .add (.t 14) (ci 1)), qo 3 (.asg (.t 15))]
def Jqmt (p : Nums) : IC := (.region (Jqn7 p) [])
@[simp] theorem Jemt {p : Nums} : EqI (Jqmt p) (.region (Jqn7 p) []) := eqi
def Jqmu (p : Nums) : IC := (.seq (.seq (Jqmw p) (.cond (.t 13) .skip (.exit 0))) (.seq (.block 1 (Jqms p)) (Jqmt p)))
@[simp] theorem Jemu {p : Nums} : EqI (Jqmu p) (.seq (.seq (Jqmw p) (.cond (.t 13) .skip (.exit 0))) (.seq (.block 1 (Jqms p)) (Jqmt p))) := eqi
def Jtby (p : Nums) : IC := (.seq (.region [⟨(some 2), (.asg (.c .nils)), none, false⟩] []) (.seq (.seq (Jqml p) (.cond (.t 8) (Jqmv p) .skip)) (.seq (.seq (.region [⟨(some 3), (.asg (.c (.d (.int .i64 1)))), none, false⟩] []) (.block 0 (.loop (Jqmu p)))) (.seq (.region [⟨(some 60), (.mov (.t 0)), none, false⟩, ⟨(some 2), (.asg (.t 60)), none, false⟩] []) .ret))))
@[simp] def Jq2p (p : Nums) : List IOp := [qo 11 (.faddr 0 (.t 5)), qo 12 (.load none (.t 11)), qo 13 (.faddr 0 (.t 7)), qo 14 (.load none (.t 13)), qo 15 (.faddr 1 (.t 7)), qo 16 (.load none (.t 15)), qo 17 (.slc 5 (.t 12) (some (.t 14)) (some (.t 16))), qo 18 (.len (.t 17)), qo 19 (.mov (ci 0))]
def Jq2c (p : Nums) : IC := (.region (Jq2p p) [])
@[simp] theorem Je2c {p : Nums} : EqI (Jq2c p) (.region (Jq2p p) []) := eqi
@[simp] def Jq2t (p : Nums) : List IOp := [qo 21 (.iaddr 5 (.t 17) (.t 19)), qo 22 (.load (some 5) (.t 21)), qo 9 (.alloc [(zi 0), (zi 0), (zi 0), (zi 0), (zi 0)]), qn (.store 5 (.t 9) (.t 22))]
def Jq2h (p : Nums) : IC := (.region (Jq2t p) [])
@[simp] theorem Je2h {p : Nums} : EqI (Jq2h p) (.region (Jq2t p) []) := eqi
@[simp] def Jq2u (p : Nums) : List IOp := [qp 25 (.mov (.t 0)), qp 26 (.mov (.t 0)), qp 27 (.nilck (.t 26)), qp 28 (.faddr 0 (.t 27)), qp 29 (.load none (.t 28)), qp 30 (.faddr 1 (.t 9)), qp 31 (.load none (.t 30)), qp 32 (.faddr 2 (.t 9)), qp 33 (.load none (.t 32)), qp 34 (.call p.transfer_Copy [(.t 29), (.t 31), (.t 33)]), qp 35 (.faddr 2 (.t 7)), qp 36 (.load none (.t 35)), qo 37 (.call p.blockcheck_checker_become [(.t 25), (.t 34), (.t 36)])]
def Jq2i (p : Nums) : IC := (.region (Jq2u p) [])
@[simp] theorem Je2i {p : Nums} : EqI (Jq2i p) (.region (Jq2u p) []) := eqi
def Jq2j (p : Nums) : IC := (.seq (Jq2h p) (.seq (.region [⟨(some 23), (.mov (.t 0)), none, false⟩, ⟨(some 24), (.call p.blockcheck_checker_cost [(.t 23)]), none, false⟩] []) (Jq2i p)))
@[simp] theorem Je2j {p : Nums} : EqI (Jq2j p) (.seq (Jq2h p) (.seq (.region [⟨(some 23), (.mov (.t 0)), none, false⟩, ⟨(some 24), (.call p.blockcheck_checker_cost [(.t 23)]), none, false⟩] []) (Jq2i p))) := eqi
def Jq2k (p : Nums) : IC := (.seq (.region [⟨(some 20), (.bin .lss (.t 19) (.t 18)), none, false⟩] []) (.seq (.cond (.t 20) .skip (.exit 0)) (.seq (.block 1 (Jq2j p)) (.region [⟨(some 38), (.bin .add (.t 19) (.c (.d (.int .i64 1)))), none, false⟩, ⟨(some 19), (.mov (.t 38)), none, false⟩] []))))
@[simp] theorem Je2k {p : Nums} : EqI (Jq2k p) (.seq (.region [⟨(some 20), (.bin .lss (.t 19) (.t 18)), none, false⟩] []) (.seq (.cond (.t 20) .skip (.exit 0)) (.seq (.block 1 (Jq2j p)) (.region [⟨(some 38), (.bin .add (.t 19) (.c (.d (.int .i64 1)))), none, false⟩, ⟨(some 19), (.mov (.t 38)), none, false⟩] [])))) := eqi
@[simp] def Jq2v (p : Nums) : List IOp := [qo 39 (.faddr 2 (.t 7)), qo 40 (.load none (.t 39)), qo 10 (.asg (.t 40))]
def Jq2l (p : Nums) : IC := (.region (Jq2v p) [])
@[simp] theorem Je2l {p : Nums} : EqI (Jq2l p) (.region (Jq2v p) []) := eqi
@[simp] def Jq2w (p : Nums) : List IOp := [qo 41 (.mov (.t 10)), qo 42 (.faddr 3 (.t 7)), qo 43 (.load none (.t 42)), qo 44 (.bin .lss (.t 41) (.t 43))]
def Jq2m (p : Nums) : IC := (.region (Jq2w p) [])
@[simp] theorem Je2m {p : Nums} : EqI (Jq2m p) (.region (Jq2w p) []) := eqi
@[simp] def Jq2x (p : Nums) : List IOp := [qp 49 (.mov (.t 0)), qp 50 (.mov (.t 0)), qp 51 (.nilck (.t 50)), qp 52 (.faddr 0 (.t 51)), qp 53 (.load none (.t 52)), qp 54 (.faddr 0 (.t 6)), qp 55 (.load none (.t 54)), qp 56 (.mov (.t 10)), qp 57 (.iaddr 7 (.t 55) (.t 56)), qp 58 (.faddr 5 (.t 57)), qp 59 (.load none (.t 58)), qp 60 (.faddr 0 (.t 6)), qp 61 (.load none (.t 60)), qp 62 (.mov (.t 10)), qp 63 (.iaddr 7 (.t 61) (.t 62)), qp 64 (.faddr 6 (.t 63)), qp 65 (.load none (.t 64)), qp 66 (.call p.transfer_Move [(.t 53), (.t 59), (.t 65)]), qp 67 (.mov (.t 10)), qo 68 (.call p.blockcheck_checker_become [(.t 49), (.t 66), (.t 67)])]
def Jq2n (p : Nums) : IC := (.region (Jq2x p) [])
@[simp] theorem Je2n {p : Nums} : EqI (Jq2n p) (.region (Jq2x p) []) := eqi
def Jq2o (p : Nums) : IC := (.seq (.region [⟨(some 47), (.mov (.t 0)), none, false⟩, ⟨(some 48), (.call p.blockcheck_checker_cost [(.t 47)]), none, false⟩] []) (Jq2n p))
@[simp] theorem Je2o {p : Nums} : EqI (Jq2o p) (.seq (.region [⟨(some 47), (.mov (.t 0)), none, false⟩, ⟨(some 48), (.call p.blockcheck_checker_cost [(.t 47)]), none, false⟩] []) (Jq2n p)) := eqi
@[simp] def Jq2q (p : Nums) : List IOp := [qo 45 (.mov (.t 10)), qo 46 (.bin .add (.t 45) (ci 1)), qo 10 (.asg (.t 46))]
def Jq2d (p : Nums) : IC := (.region (Jq2q p) [])
@[simp] theorem Je2d {p : Nums} : EqI (Jq2d p) (.region (Jq2q p) []) := eqi
def Jq2e (p : Nums) : IC := (.seq (.seq (Jq2m p) (.cond (.t 44) .skip (.exit 2))) (.seq (.block 3 (Jq2o p)) (Jq2d p)))
@[simp] theorem Je2e {p : Nums} : EqI (Jq2e p) (.seq (.seq (Jq2m p) (.cond (.t 44) .skip (.exit 2))) (.seq (.block 3 (Jq2o p)) (Jq2d p))) := eqi
@[simp] def Jq2r (p : Nums) : List IOp := [qo 69 (.faddr 4 (.t 7)), qo 70 (.load none (.t 69)), qo 71 (.bin .geq (.t 70) (ci 0))]
def Jq2f (p : Nums) : IC := (.region (Jq2r p) [])
@[simp] theorem Je2f {p : Nums} : EqI (Jq2f p) (.region (Jq2r p) []) := eqi
@[simp] def Jq2s (p : Nums) : List IOp := [qp 72 (.mov (.t 0)), qp 73 (.faddr 0 (.t 5)), qp 74 (.load none (.t 73)), qp 75 (.faddr 4 (.t 7)), qp 76 (.load none (.t 75)), qp 77 (.iaddr 5 (.t 74) (.t 76)), qp 78 (.load (some 5) (.t 77)), qp 79 (.faddr 0 (.t 6)), qp 80 (.load none (.t 79)), qp 81 (.faddr 5 (.t 7)), qp 82 (.load none (.t 81)), qp 83 (.iaddr 7 (.t 80) (.t 82)), qp 84 (.load (some 7) (.t 83)), qp 85 (.faddr 5 (.t 7)), qp 86 (.load none (.t 85)), qo 87 (.call p.blockcheck_checker_instr [(.t 72), (.t 78), (.t 84), (.t 86)])]
def Jq2g (p : Nums) : IC := (.region (Jq2s p) [])
@[simp] theorem Je2g {p : Nums} : EqI (Jq2g p) (.region (Jq2s p) []) := eqi
def Jta0 (p : Nums) : IC := (.seq (.region [⟨(some 5), (.box (.t 1)), none, false⟩, ⟨(some 6), (.box (.t 2)), none, false⟩, ⟨(some 7), (.box (.t 3)), none, false⟩] []) (.seq (.seq (Jq2c p) (.block 0 (.loop (Jq2k p)))) (.seq (.seq (Jq2l p) (.block 2 (.loop (Jq2e p)))) (.seq (Jq2f p) (.cond (.t 71) (Jq2g p) .skip)))))
@[simp] def Jq3n (p : Nums) : List IOp := [qp 10 (.mov (.t 0)), qp 11 (.nilck (.t 10)), qp 12 (.faddr 0 (.t 11)), qp 13 (.load none (.t 12)), qp 14 (.mov (.t 1)), qp 15 (.mov (.t 2)), qp 16 (.call p.location_Reg [(.t 15)]), qp 17 (.build [(zi 0), (zi 0)] [(0, 1, (.t 14)), (1, 1, (.t 16))]), qo 18 (.call p.pairset_Has [(.t 13), (.t 17)]), qo 19 (.un .not (.t 18))]
def Jq3l (p : Nums) : IC := (.region (Jq3n p) [])
@[simp] theorem Je3l {p : Nums} : EqI (Jq3l p) (.region (Jq3n p) []) := eqi
@[simp] def Jq3o (p : Nums) : List IOp := [qo 20 (.mov (.t 3)), qo 21 (.build [(zi 0), (zi 0)] [(0, 1, (ci 21)), (1, 1, (.t 20))]), qo 22 (.mkif p.ty_bcfail (.t 21)), qn (.pan (.t 22))]
def Jq3m (p : Nums) : IC := (.region (Jq3o p) [])
@[simp] theorem Je3m {p : Nums} : EqI (Jq3m p) (.region (Jq3o p) []) := eqi
def Jta4 (p : Nums) : IC := (.seq (.region [⟨(some 8), (.mov (.t 0)), none, false⟩, ⟨(some 9), (.call p.blockcheck_checker_cost [(.t 8)]), none, false⟩] []) (.seq (Jq3l p) (.cond (.t 19) (Jq3m p) .skip)))
@[simp] def Jqbr (p : Nums) : List IOp := [qo 2 (.alloc [(.d (.bool false)), (.d (.bool false)), (.d (.bool false)), (.d (.bool false))]), qo 3 (.asg (.c (.d (.bool false))))]
def Jqbd (p : Nums) : IC := (.region (Jqbr p) [])
@[simp] theorem Jebd {p : Nums} : EqI (Jqbd p) (.region (Jqbr p) []) := eqi
@[simp] def Jqbt (p : Nums) : List IOp := [qo 5 (.mov (.t 0)), qo 6 (.call p.opcode_known [(.t 5)]), qo 7 (.un .not (.t 6)), qo 4 (.asg (.t 7))]
def Jqbj (p : Nums) : IC := (.region (Jqbt p) [])
@[simp] theorem Jebj {p : Nums} : EqI (Jqbj p) (.region (Jqbt p) []) := eqi
@[simp] def Jqbu (p : Nums) : List IOp := [qo 8 (.build [(.d (.bool false)), (.d (.bool false)), (.d (.bool false)), (.d (.bool false))] []), qn (.store 4 (.t 2) (.t 8)), qo 3 (.asg (.c (.d (.bool false))))]
def Jqbk (p : Nums) : IC := (.region (Jqbu p) [])
@[simp] theorem Jebk {p : Nums} : EqI (Jqbk p) (.region (Jqbu p) []) := eqi
@[simp] def Jqbv (p : Nums) : List IOp := [qo 10 (.mov (.t 0)), qo 11 (.bin .eql (.t 10) (ci 1)), qo 9 (.asg (.t 11))]
def Jqbl (p : Nums) : IC := (.region (Jqbv p) [])
@[simp] theorem Jebl {p : Nums} : EqI (Jqbl p) (.region (Jqbv p) []) := eqi
@[simp] def Jqbw (p : Nums) : List IOp := [qo 12 (.build [(.d (.bool false)), (.d (.bool false)), (.d (.bool false)), (.d (.bool false))] [(0, 1, (.c (.d (.bool true)))), (3, 1, (.c (.d (.bool true))))]), qn (.store 4 (.t 2) (.t 12)), qo 3 (.asg (.c (.d (.bool true))))]
def Jqbm (p : Nums) : IC := (.region (Jqbw p) [])
@[simp] theorem Jebm {p : Nums} : EqI (Jqbm p) (.region (Jqbw p) []) := eqi
@[simp] def Jqbx (p : Nums) : List IOp := [qo 14 (.mov (.t 0)), qo 15 (.bin .leq (.t 14) (ci 4)), qo 13 (.asg (.t 15))]
def Jqbn (p : Nums) : IC := (.region (Jqbx p) [])
@[simp] theorem Jebn {p : Nums} : EqI (Jqbn p) (.region (Jqbx p) []) := eqi
@[simp] def Jqby (p : Nums) : List IOp := [qo 16 (.build [(.d (.bool false)), (.d (.bool false)), (.d (.bool false)), (.d (.bool false))] [(0, 1, (.c (.d (.bool true)))), (1, 1, (.c (.d (.bool true))))]), qn (.store 4 (.t 2) (.t 16)), qo 3 (.asg (.c (.d (.bool true))))]
def Jqbo (p : Nums) : IC := (.region (Jqby p) [])
@[simp] theorem Jebo {p : Nums} : EqI (Jqbo p) (.region (Jqby p) []) := eqi
@[simp] def Jqbz (p : Nums) : List IOp := [qo 18 (.mov (.t 0)), qo 19 (.bin .leq (.t 18) (ci 16)), qo 17 (.asg (.t 19))]
def Jqbp (p : Nums) : IC := (.region (Jqbz p) [])
@[simp] theorem Jebp {p : Nums} : EqI (Jqbp p) (.region (Jqbz p) []) := eqi
@[simp] def Jqc0 (p : Nums) : List IOp := [qo 20 (.build [(.d (.bool false)), (.d (.bool false)), (.d (.bool false)), (.d (.bool false))] [(0, 1, (.c (.d (.bool true)))), (1, 1, (.c (.d (.bool true)))), (2, 1, (.c (.d (.bool true))))]), qn (.store 4 (.t 2) (.t 20)), qo 3 (.asg (.c (.d (.bool true))))]
def Jqbq (p : Nums) : IC := (.region (Jqc0 p) [])
@[simp] theorem Jebq {p : Nums} : EqI (Jqbq p) (.region (Jqc0 p) []) := eqi
def Jqbe (p : Nums) : IC := (.seq (Jqbp p) (.cond (.t 17) (.seq (Jqbq p) .ret) .skip))
@[simp] theorem Jebe {p : Nums} : EqI (Jqbe p) (.seq (Jqbp p) (.cond (.t 17) (.seq (Jqbq p) .ret) .skip)) := eqi
def Jqbf (p : Nums) : IC := (.seq (Jqbn p) (.cond (.t 13) (.seq (Jqbo p) .ret) (Jqbe p)))
@[simp] theorem Jebf {p : Nums} : EqI (Jqbf p) (.seq (Jqbn p) (.cond (.t 13) (.seq (Jqbo p) .ret) (Jqbe p))) := eqi
def Jqbg (p : Nums) : IC := (.seq (Jqbl p) (.cond (.t 9) (.seq (Jqbm p) .ret) (Jqbf p)))
@[simp] theorem Jebg {p : Nums} : EqI (Jqbg p) (.seq (Jqbl p) (.cond (.t 9) (.seq (Jqbm p) .ret) (Jqbf p))) := eqi
def Jqbh (p : Nums) : IC := (.seq (Jqbj p) (.cond (.t 4) (.seq (Jqbk p) .ret) (Jqbg p)))
@[simp] theorem Jebh {p : Nums} : EqI (Jqbh p) (.seq (Jqbj p) (.cond (.t 4) (.seq (Jqbk p) .ret) (Jqbg p))) := eqi
@[simp] def Jqbs (p : Nums) : List IOp := [qo 21 (.mov (.t 0)), qo 22 (.bin .eql (.t 21) (ci 17)), qo 23 (.build [(.d (.bool false)), (.d (.bool false)), (.d (.bool false)), (.d (.bool false))] [(1, 1, (.t 22))]), qn (.store 4 (.t 2) (.t 23)), qo 3 (.asg (.c (.d (.bool true))))]
def Jqbi (p : Nums) : IC := (.region (Jqbs p) [])
@[simp] theorem Jebi {p : Nums} : EqI (Jqbi p) (.region (Jqbs p) []) := eqi
def Jtax (p : Nums) : IC := (.seq (Jqbd p) (.seq (.block 0 (Jqbh p)) (.seq (Jqbi p) .ret)))
@[simp] def Jq8u (p : Nums) : List IOp := [qo 3 (.mov (.t 0)), qo 4 (.bin .mul (ci 2) (.t 3)), qo 2 (.asg (.t 4))]
def Jq8t (p : Nums) : IC := (.region (Jq8u p) [])
@[simp] theorem Je8t {p : Nums} : EqI (Jq8t p) (.region (Jq8u p) []) := eqi
def Jtak (p : Nums) : IC := (.seq (.region [⟨(some 2), (.asg (.c (.d (.int .i64 0)))), none, false⟩] []) (.seq (Jq8t p) .ret))
@[simp] def Jqc2 (p : Nums) : List IOp := [qo 3 (.mov (.t 0)), qo 4 (.call p.opcode_known [(.t 3)]), qo 5 (.mov (.t 4)), ⟨(some 6), (.mov (.t 0)), (some (5, true)), false⟩, ⟨(some 7), (.bin .neq (.t 6) (ci 18)), (some (5, true)), false⟩, qo 8 (.pick (.t 5) (.t 7) (.c (.d (.bool false)))), qo 2 (.asg (.t 8))]
def Jqc1 (p : Nums) : IC := (.region (Jqc2 p) [])
@[simp] theorem Jec1 {p : Nums} : EqI (Jqc1 p) (.region (Jqc2 p) []) := eqi
def Jtay (p : Nums) : IC := (.seq (.region [⟨(some 2), (.asg (.c (.d (.bool false)))), none, false⟩] []) (.seq (Jqc1 p) .ret))
@[simp] def Jqq9 (p : Nums) : List IOp := [qo 5 (.mov (.t 0)), qo 6 (.len (.t 5)), qo 7 (.mov (ci 0))]
def Jqq3 (p : Nums) : IC := (.region (Jqq9 p) [])
@[simp] theorem Jeq3 {p : Nums} : EqI (Jqq3 p) (.region (Jqq9 p) []) := eqi
@[simp] def Jqqa (p : Nums) : List IOp := [qo 9 (.iaddr 3 (.t 5) (.t 7)), qo 10 (.load (some 3) (.t 9)), qo 4 (.alloc [(zi 0), (.d (.bool false)), (zi 0)]), qn (.store 3 (.t 4) (.t 10))]
def Jqq4 (p : Nums) : IC := (.region (Jqqa p) [])
@[simp] theorem Jeq4 {p : Nums} : EqI (Jqq4 p) (.region (Jqqa p) []) := eqi
@[simp] def Jqqb (p : Nums) : List IOp := [qo 11 (.faddr 1 (.t 4)), qo 12 (.load none (.t 11)), qo 13 (.mov (.t 12)), ⟨(some 14), (.faddr 0 (.t 4)), (some (13, true)), false⟩, ⟨(some 15), (.load none (.t 14)), (some (13, true)), false⟩, ⟨(some 16), (.bin .lss (.t 15) (ci 0)), (some (13, true)), false⟩, ⟨(some 17), (.mov (.t 16)), (some (13, true)), false⟩, ⟨(some 18), (.faddr 0 (.t 4)), (some (17, false)), false⟩, ⟨(some 19), (.load none (.t 18)), (some (17, false)), false⟩, ⟨(some 20), (.faddr 2 (.t 4)), (some (17, false)), false⟩, ⟨(some 21), (.load none (.t 20)), (some (17, false)), false⟩, ⟨(some 22), (.bin .geq (.t 19) (.t 21)), (some (17, false)), false⟩, ⟨(some 23), (.pick (.t 17) (.c (.d (.bool true))) (.t 22)), (some (13, true)), false⟩, qo 24 (.pick (.t 13) (.t 23) (.c (.d (.bool false))))]
def Jqq5 (p : Nums) : IC := (.region (Jqqb p) [])
@[simp] theorem Jeq5 {p : Nums} : EqI (Jqq5 p) (.region (Jqqb p) []) := eqi
def Jqq6 (p : Nums) : IC := (.seq (.region [⟨(some 2), (.asg (.c (.d (.bool false)))), none, false⟩] []) .ret)
@[simp] theorem Jeq6 {p : Nums} : EqI (Jqq6 p) (.seq (.region [⟨(some 2), (.asg (.c (.d (.bool false)))), none, false⟩] []) .ret) := eqi
def Jqq7 (p : Nums) : IC := (.seq (Jqq4 p) (.seq (Jqq5 p) (.cond (.t 24) (Jqq6 p) .skip)))
@[simp] theorem Jeq7 {p : Nums} : EqI (Jqq7 p) (.seq (Jqq4 p) (.seq (Jqq5 p) (.cond (.t 24) (Jqq6 p) .skip))) := eqi
def Jqq8 (p : Nums) : IC := (.seq (.region [⟨(some 8), (.bin .lss (.t 7) (.t 6)), none, false⟩] []) (.seq (.cond (.t 8) .skip (.exit 0)) (.seq (.block 1 (Jqq7 p)) (.region [⟨(some 25), (.bin .add (.t 7) (.c (.d (.int .i64 1)))), none, false⟩, ⟨(some 7), (.mov (.t 25)), none, false⟩] []))))
@[simp] theorem Jeq8 {p : Nums} : EqI (Jqq8 p) (.seq (.region [⟨(some 8), (.bin .lss (.t 7) (.t 6)), none, false⟩] []) (.seq (.cond (.t 8) .skip (.exit 0)) (.seq (.block 1 (Jqq7 p)) (.region [⟨(some 25), (.bin .add (.t 7) (.c (.d (.int .i64 1)))), none, false⟩, ⟨(some 7), (.mov (.t 25)), none, false⟩] [])))) := eqi
def Jtc6 (p : Nums) : IC := (.seq (.region [⟨(some 2), (.asg (.c (.d (.bool false)))), none, false⟩] []) (.seq (.seq (Jqq3 p) (.block 0 (.loop (Jqq8 p)))) (.seq (.region [⟨(some 2), (.asg (.c (.d (.bool true)))), none, false⟩] []) .ret)))
@[simp] def Jqpp (p : Nums) : List IOp := [qo 5 (.mov (.t 0)), qo 6 (.len (.t 5)), qo 7 (.mov (ci 0))]
def Jqpj (p : Nums) : IC := (.region (Jqpp p) [])
@[simp] theorem Jepj {p : Nums} : EqI (Jqpj p) (.region (Jqpp p) []) := eqi
@[simp] def Jqpq (p : Nums) : List IOp := [qo 9 (.iaddr 3 (.t 5) (.t 7)), qo 10 (.load (some 3) (.t 9)), qo 4 (.alloc [(zi 0), (.d (.bool false)), (zi 0)]), qn (.store 3 (.t 4) (.t 10))]
def Jqpk (p : Nums) : IC := (.region (Jqpq p) [])
@[simp] theorem Jepk {p : Nums} : EqI (Jqpk p) (.region (Jqpq p) []) := eqi
@[simp] def Jqpr (p : Nums) : List IOp := [qo 11 (.faddr 1 (.t 4)), qo 12 (.load none (.t 11)), qo 13 (.un .not (.t 12)), qo 14 (.mov (.t 13)), ⟨(some 15), (.faddr 0 (.t 4)), (some (14, true)), false⟩, ⟨(some 16), (.load none (.t 15)), (some (14, true)), false⟩, ⟨(some 17), (.bin .neq (.t 16) (ci 0)), (some (14, true)), false⟩, qo 18 (.pick (.t 14) (.t 17) (.c (.d (.bool false))))]
def Jqpl (p : Nums) : IC := (.region (Jqpr p) [])
@[simp] theorem Jepl {p : Nums} : EqI (Jqpl p) (.region (Jqpr p) []) := eqi
def Jqpm (p : Nums) : IC := (.seq (.region [⟨(some 2), (.asg (.c (.d (.bool false)))), none, false⟩] []) .ret)
@[simp] theorem Jepm {p : Nums} : EqI (Jqpm p) (.seq (.region [⟨(some 2), (.asg (.c (.d (.bool false)))), none, false⟩] []) .ret) := eqi
def Jqpn (p : Nums) : IC := (.seq (Jqpk p) (.seq (Jqpl p) (.cond (.t 18) (Jqpm p) .skip)))
@[simp] theorem Jepn {p : Nums} : EqI (Jqpn p) (.seq (Jqpk p) (.seq (Jqpl p) (.cond (.t 18) (Jqpm p) .skip))) := eqi
def Jqpo (p : Nums) : IC := (.seq (.region [⟨(some 8), (.bin .lss (.t 7) (.t 6)), none, false⟩] []) (.seq (.cond (.t 8) .skip (.exit 0)) (.seq (.block 1 (Jqpn p)) (.region [⟨(some 19), (.bin .add (.t 7) (.c (.d (.int .i64 1)))), none, false⟩, ⟨(some 7), (.mov (.t 19)), none, false⟩] []))))
@[simp] theorem Jepo {p : Nums} : EqI (Jqpo p) (.seq (.region [⟨(some 8), (.bin .lss (.t 7) (.t 6)), none, false⟩] []) (.seq (.cond (.t 8) .skip (.exit 0)) (.seq (.block 1 (Jqpn p)) (.region [⟨(some 19), (.bin .add (.t 7) (.c (.d (.int .i64 1)))), none, false⟩, ⟨(some 7), (.mov (.t 19)), none, false⟩] [])))) := eqi
def Jtc4 (p : Nums) : IC := (.seq (.region [⟨(some 2), (.asg (.c (.d (.bool false)))), none, false⟩] []) (.seq (.seq (Jqpj p) (.block 0 (.loop (Jqpo p)))) (.seq (.region [⟨(some 2), (.asg (.c (.d (.bool true)))), none, false⟩] []) .ret)))
@[simp] def Jqbc (p : Nums) : List IOp := [qo 3 (.mov (.t 0)), qo 4 (.call p.opcode_known [(.t 3)]), qo 5 (.mov (.t 4)), ⟨(some 6), (.mov (.t 0)), (some (5, true)), false⟩, ⟨(some 7), (.bin .neq (.t 6) (ci 2)), (some (5, true)), false⟩, qo 8 (.pick (.t 5) (.t 7) (.c (.d (.bool false)))), qo 2 (.asg (.t 8))]
def Jqbb (p : Nums) : IC := (.region (Jqbc p) [])
@[simp] theorem Jebb {p : Nums} : EqI (Jqbb p) (.region (Jqbc p) []) := eqi
def Jtaw (p : Nums) : IC := (.seq (.region [⟨(some 2), (.asg (.c (.d (.bool false)))), none, false⟩] []) (.seq (Jqbb p) .ret))
@[simp] def Jqba (p : Nums) : List IOp := [qo 1 (.build [.nilfn, .nilfn] [(0, 1, (.c (.fn (.func p.machine_others_1) [] []))), (1, 1, (.c (.fn (.func p.machine_others_2) [] [])))]), qn (.store 2 (.t 0) (.t 1))]
def Jqb9 (p : Nums) : IC := (.region (Jqba p) [])
@[simp] theorem Jeb9 {p : Nums} : EqI (Jqb9 p) (.region (Jqba p) []) := eqi
def Jtat (p : Nums) : IC := (.seq (.region [⟨(some 0), (.alloc [.nilfn, .nilfn]), none, false⟩] []) (.seq (Jqb9 p) .ret))
@[simp] def Jqb4 (p : Nums) : List IOp := [qo 1 (.build [.nilfn, .nilfn] [(0, 1, (.c (.fn (.func p.machine_moves_1) [] []))), (1, 1, (.c (.fn (.func p.machine_moves_2) [] [])))]), qn (.store 2 (.t 0) (.t 1))]
def Jqb3 (p : Nums) : IC := (.region (Jqb4 p) [])
@[simp] theorem Jeb3 {p : Nums} : EqI (Jqb3 p) (.region (Jqb4 p) []) := eqi
def Jtaq (p : Nums) : IC := (.seq (.region [⟨(some 0), (.alloc [.nilfn, .nilfn]), none, false⟩] []) (.seq (Jqb3 p) .ret))
@[simp] def Jq8s (p : Nums) : List IOp := [qo 3 (.mov (.t 0)), qo 4 (.bin .rem (.t 3) (ci 2)), qo 5 (.bin .eql (.t 4) (ci 1)), qo 2 (.asg (.t 5))]
def Jq8r (p : Nums) : IC := (.region (Jq8s p) [])
@[simp] theorem Je8r {p : Nums} : EqI (Jq8r p) (.region (Jq8s p) []) := eqi
def Jtaj (p : Nums) : IC := (.seq (.region [⟨(some 2), (.asg (.c (.d (.bool false)))), none, false⟩] []) (.seq (Jq8r p) .ret))
@[simp] def Jq8q (p : Nums) : List IOp := [qo 3 (.mov (.t 0)), qo 4 (.bin .quo (.t 3) (ci 2)), qo 2 (.asg (.t 4))]
def Jq8p (p : Nums) : IC := (.region (Jq8q p) [])
@[simp] theorem Je8p {p : Nums} : EqI (Jq8p p) (.region (Jq8q p) []) := eqi
def Jtai (p : Nums) : IC := (.seq (.region [⟨(some 2), (.asg (.c (.d (.int .i64 0)))), none, false⟩] []) (.seq (Jq8p p) .ret))
@[simp] def Jq22 (p : Nums) : List IOp := [qp 2 (.mov (.t 0)), qp 3 (.nilck (.t 2)), qp 4 (.faddr 2 (.t 3)), qp 5 (.load none (.t 4)), qp 6 (.mov (.t 0)), qp 7 (.nilck (.t 6)), qp 8 (.faddr 0 (.t 7)), qp 9 (.load none (.t 8)), qp 10 (.len (.t 9)), qp 11 (.bin .add (ci 1) (.t 10)), qo 12 (.bin .add (.t 5) (.t 11)), qo 13 (.nilck (.t 2)), qo 14 (.faddr 2 (.t 13)), qn (.store 1 (.t 14) (.t 12))]
def Jq21 (p : Nums) : IC := (.region (Jq22 p) [])
@[simp] theorem Je21 {p : Nums} : EqI (Jq21 p) (.region (Jq22 p) []) := eqi
def Jt9y (p : Nums) : IC := (Jq21 p)
@[simp] def Jq1y (p : Nums) : List IOp := [qo 6 (.mov (.t 0)), qo 7 (.mov (.t 0)), qo 8 (.mov (.t 1)), qo 9 (.mov (.t 0)), qo 10 (.nilck (.t 9)), qo 11 (.faddr 3 (.t 10)), qo 12 (.load none (.t 11)), qo 13 (.mov (.t 1)), qo 14 (.len (.t 13)), qo 15 (.mx (.t 12) (.t 14)), qo 16 (.nilck (.t 6)), qo 17 (.faddr 0 (.t 16)), qn (.store 1 (.t 17) (.t 8)), qo 18 (.nilck (.t 7)), qo 19 (.faddr 3 (.t 18)), qn (.store 1 (.t 19) (.t 15))]
def Jq1v (p : Nums) : IC := (.region (Jq1y p) [])
@[simp] theorem Je1v {p : Nums} : EqI (Jq1v p) (.region (Jq1y p) []) := eqi
@[simp] def Jq1z (p : Nums) : List IOp := [qo 20 (.mov (.t 1)), qo 21 (.len (.t 20)), qo 22 (.mov (.t 0)), qo 23 (.nilck (.t 22)), qo 24 (.faddr 1 (.t 23)), qo 25 (.load none (.t 24)), qo 26 (.bin .gtr (.t 21) (.t 25))]
def Jq1w (p : Nums) : IC := (.region (Jq1z p) [])
@[simp] theorem Je1w {p : Nums} : EqI (Jq1w p) (.region (Jq1z p) []) := eqi
@[simp] def Jq20 (p : Nums) : List IOp := [qo 27 (.mov (.t 2)), qo 28 (.build [(zi 0), (zi 0)] [(0, 1, (ci 24)), (1, 1, (.t 27))]), qo 29 (.mkif p.ty_bcfail (.t 28)), qn (.pan (.t 29))]
def Jq1x (p : Nums) : IC := (.region (Jq20 p) [])
@[simp] theorem Je1x {p : Nums} : EqI (Jq1x p) (.region (Jq20 p) []) := eqi
def Jt9x (p : Nums) : IC := (.seq (Jq1v p) (.seq (Jq1w p) (.cond (.t 26) (Jq1x p) .skip)))
@[simp] def Jqqf (p : Nums) : List IOp := [qo 7 (.load none (.t 4)), qo 8 (.load none (.t 5)), qo 9 (.bin .eql (.t 7) (.t 8))]
def Jqqc (p : Nums) : IC := (.region (Jqqf p) [])
@[simp] theorem Jeqc {p : Nums} : EqI (Jqqc p) (.region (Jqqf p) []) := eqi
@[simp] def Jqqg (p : Nums) : List IOp := [qo 10 (.mov (.t 0)), qo 11 (.call p.pairset_Make [(.t 10)]), qo 6 (.asg (.t 11))]
def Jqqd (p : Nums) : IC := (.region (Jqqg p) [])
@[simp] theorem Jeqd {p : Nums} : EqI (Jqqd p) (.region (Jqqg p) []) := eqi
@[simp] def Jqqh (p : Nums) : List IOp := [qo 12 (.mov (.t 0)), qo 13 (.load none (.t 4)), qo 14 (.call p.pairset_DropV [(.t 12), (.t 13)]), qo 15 (.mov (.t 0)), qo 16 (.mkfn (.func p.transfer_Copy_1) [] [(.t 4), (.t 5)]), qo 17 (.call p.transfer_rename [(.t 14), (.t 15), (.t 16)]), qo 6 (.asg (.t 17))]
def Jqqe (p : Nums) : IC := (.region (Jqqh p) [])
@[simp] theorem Jeqe {p : Nums} : EqI (Jqqe p) (.region (Jqqh p) []) := eqi
def Jtc7 (p : Nums) : IC := (.seq (.region [⟨(some 4), (.box (.t 1)), none, false⟩, ⟨(some 5), (.box (.t 2)), none, false⟩, ⟨(some 6), (.asg (.c .nils)), none, false⟩] []) (.seq (.seq (Jqqc p) (.cond (.t 9) (.seq (Jqqd p) .ret) .skip)) (.seq (Jqqe p) .ret)))
@[simp] def Jqqp (p : Nums) : List IOp := [qo 7 (.load none (.t 4)), qo 8 (.load none (.t 5)), qo 9 (.bin .eql (.t 7) (.t 8))]
def Jqqm (p : Nums) : IC := (.region (Jqqp p) [])
@[simp] theorem Jeqm {p : Nums} : EqI (Jqqm p) (.region (Jqqp p) []) := eqi
@[simp] def Jqqq (p : Nums) : List IOp := [qo 10 (.mov (.t 0)), qo 11 (.call p.pairset_Make [(.t 10)]), qo 6 (.asg (.t 11))]
def Jqqn (p : Nums) : IC := (.region (Jqqq p) [])
@[simp] theorem Jeqn {p : Nums} : EqI (Jqqn p) (.region (Jqqq p) []) := eqi
@[simp] def Jqqr (p : Nums) : List IOp := [qo 12 (.mov (.t 0)), qo 13 (.load none (.t 4)), qo 14 (.call p.pairset_DropL [(.t 12), (.t 13)]), qo 15 (.mov (.t 0)), qo 16 (.mkfn (.func p.transfer_Move_1) [] [(.t 4), (.t 5)]), qo 17 (.call p.transfer_rename [(.t 14), (.t 15), (.t 16)]), qo 6 (.asg (.t 17))]
def Jqqo (p : Nums) : IC := (.region (Jqqr p) [])
@[simp] theorem Jeqo {p : Nums} : EqI (Jqqo p) (.region (Jqqr p) []) := eqi
def Jtc9 (p : Nums) : IC := (.seq (.region [⟨(some 4), (.box (.t 1)), none, false⟩, ⟨(some 5), (.box (.t 2)), none, false⟩, ⟨(some 6), (.asg (.c .nils)), none, false⟩] []) (.seq (.seq (Jqqm p) (.cond (.t 9) (.seq (Jqqn p) .ret) .skip)) (.seq (Jqqo p) .ret)))
@[simp] def Jq28 (p : Nums) : List IOp := [qo 11 (.faddr 0 (.t 5)), qo 12 (.load none (.t 11)), qo 13 (.call p.opcode_Of [(.t 12)]), qo 10 (.mov (.t 13)), qo 14 (.ext (.t 10) 0), qo 15 (.ext (.t 10) 1), qo 8 (.alloc [(.d (.bool false)), (.d (.bool false)), (.d (.bool false)), (.d (.bool false))]), qn (.store 4 (.t 8) (.t 14)), qo 9 (.asg (.t 15))]
def Jq23 (p : Nums) : IC := (.region (Jq28 p) [])
@[simp] theorem Je23 {p : Nums} : EqI (Jq23 p) (.region (Jq28 p) []) := eqi
@[simp] def Jq29 (p : Nums) : List IOp := [qo 18 (.mov (.t 0)), qo 19 (.faddr 2 (.t 5)), qo 20 (.load none (.t 19)), qo 21 (.faddr 2 (.t 6)), qo 22 (.load none (.t 21)), qo 23 (.mov (.t 3)), qo 24 (.call p.blockcheck_checker_use [(.t 18), (.t 20), (.t 22), (.t 23)])]
def Jq24 (p : Nums) : IC := (.region (Jq29 p) [])
@[simp] theorem Je24 {p : Nums} : EqI (Jq24 p) (.region (Jq29 p) []) := eqi
@[simp] def Jq2a (p : Nums) : List IOp := [qo 27 (.mov (.t 0)), qo 28 (.faddr 3 (.t 5)), qo 29 (.load none (.t 28)), qo 30 (.faddr 3 (.t 6)), qo 31 (.load none (.t 30)), qo 32 (.mov (.t 3)), qo 33 (.call p.blockcheck_checker_use [(.t 27), (.t 29), (.t 31), (.t 32)])]
def Jq25 (p : Nums) : IC := (.region (Jq2a p) [])
@[simp] theorem Je25 {p : Nums} : EqI (Jq25 p) (.region (Jq2a p) []) := eqi
@[simp] def Jq2b (p : Nums) : List IOp := [qp 38 (.mov (.t 0)), qp 39 (.mov (.t 0)), qp 40 (.nilck (.t 39)), qp 41 (.faddr 0 (.t 40)), qp 42 (.load none (.t 41)), qp 43 (.faddr 1 (.t 5)), qp 44 (.load none (.t 43)), qp 45 (.faddr 1 (.t 6)), qp 46 (.load none (.t 45)), qp 47 (.call p.location_Reg [(.t 46)]), qp 48 (.call p.transfer_Define [(.t 42), (.t 44), (.t 47)]), qp 49 (.mov (.t 3)), qo 50 (.call p.blockcheck_checker_become [(.t 38), (.t 48), (.t 49)])]
def Jq26 (p : Nums) : IC := (.region (Jq2b p) [])
@[simp] theorem Je26 {p : Nums} : EqI (Jq26 p) (.region (Jq2b p) []) := eqi
def Jq27 (p : Nums) : IC := (.seq (.region [⟨(some 36), (.mov (.t 0)), none, false⟩, ⟨(some 37), (.call p.blockcheck_checker_cost [(.t 36)]), none, false⟩] []) (Jq26 p))
@[simp] theorem Je27 {p : Nums} : EqI (Jq27 p) (.seq (.region [⟨(some 36), (.mov (.t 0)), none, false⟩, ⟨(some 37), (.call p.blockcheck_checker_cost [(.t 36)]), none, false⟩] []) (Jq26 p)) := eqi
def Jt9z (p : Nums) : IC := (.seq (.region [⟨(some 5), (.box (.t 1)), none, false⟩, ⟨(some 6), (.box (.t 2)), none, false⟩] []) (.seq (Jq23 p) (.seq (.seq (.region [⟨(some 16), (.faddr 1 (.t 8)), none, false⟩, ⟨(some 17), (.load none (.t 16)), none, false⟩] []) (.cond (.t 17) (Jq24 p) .skip)) (.seq (.seq (.region [⟨(some 25), (.faddr 2 (.t 8)), none, false⟩, ⟨(some 26), (.load none (.t 25)), none, false⟩] []) (.cond (.t 26) (Jq25 p) .skip)) (.seq (.region [⟨(some 34), (.faddr 0 (.t 8)), none, false⟩, ⟨(some 35), (.load none (.t 34)), none, false⟩] []) (.cond (.t 35) (Jq27 p) .skip))))))
@[simp] def Jqcr (p : Nums) : List IOp := [qo 6 (.mov (.t 0)), qo 7 (.load (some 2) (.t 3)), qo 8 (.call p.pairset_find [(.t 6), (.t 7)]), qo 5 (.asg (.t 8))]
def Jqcp (p : Nums) : IC := (.region (Jqcr p) [])
@[simp] theorem Jecp {p : Nums} : EqI (Jqcp p) (.region (Jqcr p) []) := eqi
@[simp] def Jqcs (p : Nums) : List IOp := [qp 9 (.mov (.t 5)), qp 10 (.mov (.t 0)), qp 11 (.len (.t 10)), qo 12 (.bin .lss (.t 9) (.t 11)), qo 13 (.mov (.t 12)), ⟨(some 14), (.mov (.t 0)), (some (13, true)), true⟩, ⟨(some 15), (.mov (.t 5)), (some (13, true)), true⟩, ⟨(some 16), (.iaddr 2 (.t 14) (.t 15)), (some (13, true)), true⟩, ⟨(some 17), (.load (some 2) (.t 16)), (some (13, true)), true⟩, ⟨(some 18), (.load (some 2) (.t 3)), (some (13, true)), true⟩, ⟨(some 19), (.eqs false [.int, .int] (.t 17) (.t 18)), (some (13, true)), false⟩, qo 20 (.pick (.t 13) (.t 19) (.c (.d (.bool false)))), qo 4 (.asg (.t 20))]
def Jqcq (p : Nums) : IC := (.region (Jqcs p) [])
@[simp] theorem Jecq {p : Nums} : EqI (Jqcq p) (.region (Jqcs p) []) := eqi
def Jtb5 (p : Nums) : IC := (.seq (.region [⟨(some 3), (.box (.t 1)), none, false⟩, ⟨(some 4), (.asg (.c (.d (.bool false)))), none, false⟩] []) (.seq (Jqcp p) (.seq (Jqcq p) .ret)))
@[simp] def Jqc4 (p : Nums) : List IOp := [qo 3 (.mov (.t 0)), qo 4 (.bin .geq (.t 3) (ci 1)), qo 5 (.mov (.t 4)), ⟨(some 6), (.mov (.t 0)), (some (5, true)), false⟩, ⟨(some 7), (.bin .leq (.t 6) (ci 18)), (some (5, true)), false⟩, qo 8 (.pick (.t 5) (.t 7) (.c (.d (.bool false)))), qo 2 (.asg (.t 8))]
def Jqc3 (p : Nums) : IC := (.region (Jqc4 p) [])
@[simp] theorem Jec3 {p : Nums} : EqI (Jqc3 p) (.region (Jqc4 p) []) := eqi
def Jtaz (p : Nums) : IC := (.seq (.region [⟨(some 2), (.asg (.c (.d (.bool false)))), none, false⟩] []) (.seq (Jqc3 p) .ret))
@[simp] def Jqb6 (p : Nums) : List IOp := [qo 7 (.faddr 0 (.t 3)), qo 8 (.load none (.t 7)), qo 9 (.faddr 1 (.t 3)), qo 10 (.load none (.t 9)), qo 11 (.faddr 2 (.t 3)), qo 12 (.load none (.t 11)), qo 13 (.faddr 3 (.t 3)), qo 14 (.load none (.t 13)), qo 15 (.faddr 4 (.t 3)), qo 16 (.load none (.t 15)), qo 17 (.build [(zi 0), (zi 0), (zi 0), (zi 0), (zi 0)] [(0, 1, (.t 8)), (1, 1, (.t 10)), (2, 1, (.t 12)), (3, 1, (.t 14)), (4, 1, (.t 16))]), qo 18 (.mov (.t 1)), qo 19 (.call p.source_Instr [(.t 17), (.t 18)]), qo 6 (.asg (.t 19))]
def Jqb5 (p : Nums) : IC := (.region (Jqb6 p) [])
@[simp] theorem Jeb5 {p : Nums} : EqI (Jqb5 p) (.region (Jqb6 p) []) := eqi
def Jtau (p : Nums) : IC := (.seq (.region [⟨(some 3), (.box (.t 0)), none, false⟩, ⟨(some 6), (.asg (.c (.d (.int .i64 0)))), none, false⟩] []) (.seq (Jqb5 p) .ret))
@[simp] def Jqb8 (p : Nums) : List IOp := [qo 3 (.faddr 5 (.t 1)), qo 4 (.load none (.t 3)), qo 5 (.bin .eql (.t 4) (ci 0)), qo 6 (.mov (.t 5)), ⟨(some 7), (.faddr 6 (.t 1)), (some (6, true)), false⟩, ⟨(some 8), (.load none (.t 7)), (some (6, true)), false⟩, ⟨(some 9), (.bin .eql (.t 8) (ci 0)), (some (6, true)), false⟩, qo 10 (.pick (.t 6) (.t 9) (.c (.d (.bool false)))), qo 2 (.asg (.t 10))]
def Jqb7 (p : Nums) : IC := (.region (Jqb8 p) [])
@[simp] theorem Jeb7 {p : Nums} : EqI (Jqb7 p) (.region (Jqb8 p) []) := eqi
def Jtav (p : Nums) : IC := (.seq (.region [⟨(some 1), (.box (.t 0)), none, false⟩, ⟨(some 2), (.asg (.c (.d (.bool false)))), none, false⟩] []) (.seq (Jqb7 p) .ret))
@[simp] def Jqaz (p : Nums) : List IOp := [qo 8 (.faddr 5 (.t 3)), qo 9 (.load none (.t 8)), qo 10 (.call p.location_IsSlot [(.t 9)]), qo 11 (.mov (.t 10)), ⟨(some 12), (.faddr 6 (.t 3)), (some (11, true)), false⟩, ⟨(some 13), (.load none (.t 12)), (some (11, true)), false⟩, ⟨(some 14), (.call p.location_IsSlot [(.t 13)]), (some (11, true)), false⟩, qo 15 (.pick (.t 11) (.t 14) (.c (.d (.bool false)))), qo 7 (.asg (.t 15))]
def Jqaw (p : Nums) : IC := (.region (Jqaz p) [])
@[simp] theorem Jeaw {p : Nums} : EqI (Jqaw p) (.region (Jqaz p) []) := eqi
@[simp] def Jqb0 (p : Nums) : List IOp := [qo 16 (.mov (.t 7)), qo 17 (.mov (.t 16)), ⟨(some 18), (.faddr 5 (.t 3)), (some (17, false)), false⟩, ⟨(some 19), (.load none (.t 18)), (some (17, false)), false⟩, ⟨(some 20), (.mov (.t 1)), (some (17, false)), false⟩, ⟨(some 21), (.mov (.t 2)), (some (17, false)), false⟩, ⟨(some 22), (.call p.location_InRange [(.t 19), (.t 20), (.t 21)]), (some (17, false)), false⟩, ⟨(some 23), (.un .not (.t 22)), (some (17, false)), false⟩, qo 24 (.pick (.t 17) (.c (.d (.bool true))) (.t 23)), qo 25 (.mov (.t 24)), ⟨(some 26), (.faddr 6 (.t 3)), (some (25, false)), false⟩, ⟨(some 27), (.load none (.t 26)), (some (25, false)), false⟩, ⟨(some 28), (.mov (.t 1)), (some (25, false)), false⟩, ⟨(some 29), (.mov (.t 2)), (some (25, false)), false⟩, ⟨(some 30), (.call p.location_InRange [(.t 27), (.t 28), (.t 29)]), (some (25, false)), false⟩, ⟨(some 31), (.un .not (.t 30)), (some (25, false)), false⟩, qo 32 (.pick (.t 25) (.c (.d (.bool true))) (.t 31))]
def Jqax (p : Nums) : IC := (.region (Jqb0 p) [])
@[simp] theorem Jeax {p : Nums} : EqI (Jqax p) (.region (Jqb0 p) []) := eqi
def Jqay (p : Nums) : IC := (.seq (.region [⟨(some 6), (.asg (.c (.d (.int .i64 10)))), none, false⟩] []) .ret)
@[simp] theorem Jeay {p : Nums} : EqI (Jqay p) (.seq (.region [⟨(some 6), (.asg (.c (.d (.int .i64 10)))), none, false⟩] []) .ret) := eqi
def Jtar (p : Nums) : IC := (.seq (.region [⟨(some 3), (.box (.t 0)), none, false⟩, ⟨(some 6), (.asg (.c (.d (.int .i64 0)))), none, false⟩] []) (.seq (Jqaw p) (.seq (.seq (Jqax p) (.cond (.t 32) (Jqay p) .skip)) (.seq (.region [⟨(some 6), (.asg (.c (.d (.int .i64 0)))), none, false⟩] []) .ret))))
@[simp] def Jqb2 (p : Nums) : List IOp := [qo 3 (.faddr 1 (.t 1)), qo 4 (.load none (.t 3)), qo 5 (.bin .eql (.t 4) (ci 0)), qo 6 (.mov (.t 5)), ⟨(some 7), (.faddr 2 (.t 1)), (some (6, true)), false⟩, ⟨(some 8), (.load none (.t 7)), (some (6, true)), false⟩, ⟨(some 9), (.bin .eql (.t 8) (ci 0)), (some (6, true)), false⟩, qo 10 (.pick (.t 6) (.t 9) (.c (.d (.bool false)))), qo 11 (.mov (.t 10)), ⟨(some 12), (.faddr 3 (.t 1)), (some (11, true)), false⟩, ⟨(some 13), (.load none (.t 12)), (some (11, true)), false⟩, ⟨(some 14), (.bin .eql (.t 13) (ci 0)), (some (11, true)), false⟩, qo 15 (.pick (.t 11) (.t 14) (.c (.d (.bool false)))), qo 16 (.mov (.t 15)), ⟨(some 17), (.faddr 4 (.t 1)), (some (16, true)), false⟩, ⟨(some 18), (.load none (.t 17)), (some (16, true)), false⟩, ⟨(some 19), (.bin .eql (.t 18) (ci 0)), (some (16, true)), false⟩, qo 20 (.pick (.t 16) (.t 19) (.c (.d (.bool false)))), qo 2 (.asg (.t 20))]
def Jqb1 (p : Nums) : IC := (.region (Jqb2 p) [])
@[simp] theorem Jeb1 {p : Nums} : EqI (Jqb1 p) (.region (Jqb2 p) []) := eqi
def Jtas (p : Nums) : IC := (.seq (.region [⟨(some 1), (.box (.t 0)), none, false⟩, ⟨(some 2), (.asg (.c (.d (.bool false)))), none, false⟩] []) (.seq (Jqb1 p) .ret))
@[simp] def Jqqz (p : Nums) : List IOp := [qo 12 (.mov (.t 1)), qo 13 (.len (.t 12)), qo 14 (.mov (ci 0))]
def Jqqs (p : Nums) : IC := (.region (Jqqz p) [])
@[simp] theorem Jeqs {p : Nums} : EqI (Jqqs p) (.region (Jqqz p) []) := eqi
@[simp] def Jqr0 (p : Nums) : List IOp := [qo 16 (.iaddr 2 (.t 12) (.t 14)), qo 17 (.load (some 2) (.t 16)), qo 9 (.alloc [(zi 0), (zi 0)]), qn (.store 2 (.t 9) (.t 17))]
def Jqqt (p : Nums) : IC := (.region (Jqr0 p) [])
@[simp] theorem Jeqt {p : Nums} : EqI (Jqqt p) (.region (Jqr0 p) []) := eqi
@[simp] def Jqr1 (p : Nums) : List IOp := [qo 19 (.mov (.t 2)), qo 20 (.load (some 2) (.t 9)), qo 21 (.callv (.t 19) [(.t 20)]), qo 18 (.mov (.t 21)), qo 22 (.ext (.t 18) 0), qo 23 (.ext (.t 18) 1), qo 10 (.alloc [(zi 0), (zi 0)]), qn (.store 2 (.t 10) (.t 22)), qo 11 (.asg (.t 23))]
def Jqqu (p : Nums) : IC := (.region (Jqr1 p) [])
@[simp] theorem Jequ {p : Nums} : EqI (Jqqu p) (.region (Jqr1 p) []) := eqi
@[simp] def Jqr2 (p : Nums) : List IOp := [qo 25 (.mov (.t 7)), qo 26 (.load (some 2) (.t 10)), qo 27 (.bslice 2 1 [(.int .i64 0), (.int .i64 0)] [(0, (.t 26))]), qo 28 (.app 2 16 (.t 25) (.t 27)), qo 7 (.asg (.t 28))]
def Jqqv (p : Nums) : IC := (.region (Jqr2 p) [])
@[simp] theorem Jeqv {p : Nums} : EqI (Jqqv p) (.region (Jqr2 p) []) := eqi
def Jqqw (p : Nums) : IC := (.seq (Jqqt p) (.seq (Jqqu p) (.seq (.region [⟨(some 24), (.mov (.t 11)), none, false⟩] []) (.cond (.t 24) (Jqqv p) .skip))))
@[simp] theorem Jeqw {p : Nums} : EqI (Jqqw p) (.seq (Jqqt p) (.seq (Jqqu p) (.seq (.region [⟨(some 24), (.mov (.t 11)), none, false⟩] []) (.cond (.t 24) (Jqqv p) .skip)))) := eqi
def Jqqx (p : Nums) : IC := (.seq (.region [⟨(some 15), (.bin .lss (.t 14) (.t 13)), none, false⟩] []) (.seq (.cond (.t 15) .skip (.exit 0)) (.seq (.block 1 (Jqqw p)) (.region [⟨(some 29), (.bin .add (.t 14) (.c (.d (.int .i64 1)))), none, false⟩, ⟨(some 14), (.mov (.t 29)), none, false⟩] []))))
@[simp] theorem Jeqx {p : Nums} : EqI (Jqqx p) (.seq (.region [⟨(some 15), (.bin .lss (.t 14) (.t 13)), none, false⟩] []) (.seq (.cond (.t 15) .skip (.exit 0)) (.seq (.block 1 (Jqqw p)) (.region [⟨(some 29), (.bin .add (.t 14) (.c (.d (.int .i64 1)))), none, false⟩, ⟨(some 14), (.mov (.t 29)), none, false⟩] [])))) := eqi
@[simp] def Jqr3 (p : Nums) : List IOp := [qo 30 (.mov (.t 0)), qo 31 (.mov (.t 7)), qo 32 (.call p.pairset_Make [(.t 31)]), qo 33 (.call p.pairset_Union [(.t 30), (.t 32)]), qo 6 (.asg (.t 33))]
def Jqqy (p : Nums) : IC := (.region (Jqr3 p) [])
@[simp] theorem Jeqy {p : Nums} : EqI (Jqqy p) (.region (Jqr3 p) []) := eqi
def Jtca (p : Nums) : IC := (.seq (.region [⟨(some 6), (.asg (.c .nils)), none, false⟩] []) (.seq (.region [⟨(some 7), (.asg (.c .nils)), none, false⟩] []) (.seq (.seq (Jqqs p) (.block 0 (.loop (Jqqx p)))) (.seq (Jqqy p) .ret))))
@[simp] def Jqco (p : Nums) : List IOp := [qo 5 (.mov (.t 0)), qo 6 (.mkfn (.func p.pairset_DropV_1) [] [(.t 3)]), qo 7 (.call p.pairset_filter [(.t 5), (.t 6)]), qo 4 (.asg (.t 7))]
def Jqcn (p : Nums) : IC := (.region (Jqco p) [])
@[simp] theorem Jecn {p : Nums} : EqI (Jqcn p) (.region (Jqco p) []) := eqi
def Jtb3 (p : Nums) : IC := (.seq (.region [⟨(some 3), (.box (.t 1)), none, false⟩, ⟨(some 4), (.asg (.c .nils)), none, false⟩] []) (.seq (Jqcn p) .ret))
@[simp] def Jqck (p : Nums) : List IOp := [qo 5 (.mov (.t 0)), qo 6 (.mkfn (.func p.pairset_DropL_1) [] [(.t 3)]), qo 7 (.call p.pairset_filter [(.t 5), (.t 6)]), qo 4 (.asg (.t 7))]
def Jqcj (p : Nums) : IC := (.region (Jqck p) [])
@[simp] theorem Jecj {p : Nums} : EqI (Jqcj p) (.region (Jqck p) []) := eqi
def Jtb1 (p : Nums) : IC := (.seq (.region [⟨(some 3), (.box (.t 1)), none, false⟩, ⟨(some 4), (.asg (.c .nils)), none, false⟩] []) (.seq (Jqcj p) .ret))
@[simp] def Jqqk (p : Nums) : List IOp := [qo 8 (.mov (.t 0)), qo 9 (.mov (.t 1)), qo 10 (.call p.pairset_DropV [(.t 8), (.t 9)]), qo 11 (.mov (.t 2)), qo 12 (.call p.pairset_DropL [(.t 10), (.t 11)]), qo 7 (.asg (.t 12))]
def Jqqi (p : Nums) : IC := (.region (Jqqk p) [])
@[simp] theorem Jeqi {p : Nums} : EqI (Jqqi p) (.region (Jqqk p) []) := eqi
@[simp] def Jqql (p : Nums) : List IOp := [qo 13 (.mov (.t 7)), qo 14 (.mov (.t 1)), qo 15 (.mov (.t 2)), qo 16 (.build [(zi 0), (zi 0)] [(0, 1, (.t 14)), (1, 1, (.t 15))]), qo 17 (.call p.pairset_Add [(.t 13), (.t 16)]), qo 6 (.asg (.t 17))]
def Jqqj (p : Nums) : IC := (.region (Jqql p) [])
@[simp] theorem Jeqj {p : Nums} : EqI (Jqqj p) (.region (Jqql p) []) := eqi
def Jtc8 (p : Nums) : IC := (.seq (.region [⟨(some 6), (.asg (.c .nils)), none, false⟩] []) (.seq (Jqqi p) (.seq (Jqqj p) .ret)))
@[simp] def Jqeu (p : Nums) : List IOp := [qo 8 (.mov (.t 0)), qo 9 (.len (.t 8)), qo 5 (.asg (ci 0)), qo 6 (.asg (.t 9))]
def Jqem (p : Nums) : IC := (.region (Jqeu p) [])
@[simp] theorem Jeem {p : Nums} : EqI (Jqem p) (.region (Jqeu p) []) := eqi
@[simp] def Jqev (p : Nums) : List IOp := [qo 10 (.mov (.t 5)), qo 11 (.mov (.t 6)), qo 12 (.bin .lss (.t 10) (.t 11))]
def Jqen (p : Nums) : IC := (.region (Jqev p) [])
@[simp] theorem Jeen {p : Nums} : EqI (Jqen p) (.region (Jqev p) []) := eqi
@[simp] def Jqew (p : Nums) : List IOp := [qo 13 (.mov (.t 5)), qo 14 (.mov (.t 6)), qo 15 (.mov (.t 5)), qo 16 (.bin .sub (.t 14) (.t 15)), qo 17 (.bin .quo (.t 16) (ci 2)), qo 18 (.bin .add (.t 13) (.t 17)), qo 7 (.asg (.t 18))]
def Jqeo (p : Nums) : IC := (.region (Jqew p) [])
@[simp] theorem Jeeo {p : Nums} : EqI (Jqeo p) (.region (Jqew p) []) := eqi
@[simp] def Jqex (p : Nums) : List IOp := [qp 19 (.mov (.t 0)), qp 20 (.mov (.t 7)), qp 21 (.iaddr 2 (.t 19) (.t 20)), qp 22 (.load (some 2) (.t 21)), qp 23 (.load (some 2) (.t 3)), qo 24 (.call p.pairset_Less [(.t 22), (.t 23)])]
def Jqep (p : Nums) : IC := (.region (Jqex p) [])
@[simp] theorem Jeep {p : Nums} : EqI (Jqep p) (.region (Jqex p) []) := eqi
@[simp] def Jqey (p : Nums) : List IOp := [qo 25 (.mov (.t 7)), qo 26 (.bin .add (.t 25) (ci 1)), qo 5 (.asg (.t 26))]
def Jqeq (p : Nums) : IC := (.region (Jqey p) [])
@[simp] theorem Jeeq {p : Nums} : EqI (Jqeq p) (.region (Jqey p) []) := eqi
@[simp] def Jqez (p : Nums) : List IOp := [qo 27 (.mov (.t 7)), qo 6 (.asg (.t 27))]
def Jqer (p : Nums) : IC := (.region (Jqez p) [])
@[simp] theorem Jeer {p : Nums} : EqI (Jqer p) (.region (Jqez p) []) := eqi
def Jqes (p : Nums) : IC := (.seq (Jqeo p) (.seq (Jqep p) (.cond (.t 24) (Jqeq p) (Jqer p))))
@[simp] theorem Jees {p : Nums} : EqI (Jqes p) (.seq (Jqeo p) (.seq (Jqep p) (.cond (.t 24) (Jqeq p) (Jqer p)))) := eqi
def Jqet (p : Nums) : IC := (.seq (.seq (Jqen p) (.cond (.t 12) .skip (.exit 0))) (.block 1 (Jqes p)))
@[simp] theorem Jeet {p : Nums} : EqI (Jqet p) (.seq (.seq (Jqen p) (.cond (.t 12) .skip (.exit 0))) (.block 1 (Jqes p))) := eqi
def Jtbb (p : Nums) : IC := (.seq (.region [⟨(some 3), (.box (.t 1)), none, false⟩, ⟨(some 4), (.asg (.c (.d (.int .i64 0)))), none, false⟩] []) (.seq (Jqem p) (.seq (.block 0 (.loop (Jqet p))) (.seq (.region [⟨(some 28), (.mov (.t 5)), none, false⟩, ⟨(some 4), (.asg (.t 28)), none, false⟩] []) .ret))))
@[simp] def Jqdz (p : Nums) : List IOp := [qo 7 (.mov (.t 0)), qo 8 (.len (.t 7)), qo 9 (.mov (.t 1)), qo 10 (.len (.t 9)), qo 11 (.bin .add (.t 8) (.t 10)), qo 12 (.mkslice 2 16 [(.int .i64 0), (.int .i64 0)] (ci 0) (.t 11)), qo 5 (.asg (.t 12))]
def Jqdm (p : Nums) : IC := (.region (Jqdz p) [])
@[simp] theorem Jedm {p : Nums} : EqI (Jqdm p) (.region (Jqdz p) []) := eqi
@[simp] def Jqe2 (p : Nums) : List IOp := [qo 13 (.mov (.t 0)), qo 14 (.len (.t 13)), qo 15 (.bin .gtr (.t 14) (ci 0)), qo 16 (.mov (.t 15)), ⟨(some 17), (.mov (.t 1)), (some (16, true)), false⟩, ⟨(some 18), (.len (.t 17)), (some (16, true)), false⟩, ⟨(some 19), (.bin .gtr (.t 18) (ci 0)), (some (16, true)), false⟩, qo 20 (.pick (.t 16) (.t 19) (.c (.d (.bool false))))]
def Jqdr (p : Nums) : IC := (.region (Jqe2 p) [])
@[simp] theorem Jedr {p : Nums} : EqI (Jqdr p) (.region (Jqe2 p) []) := eqi
@[simp] def Jqe3 (p : Nums) : List IOp := [qo 21 (.mov (.t 0)), qo 22 (.iaddr 2 (.t 21) (ci 0)), qo 23 (.load (some 2) (.t 22)), qo 6 (.alloc [(zi 0), (zi 0)]), qn (.store 2 (.t 6) (.t 23))]
def Jqds (p : Nums) : IC := (.region (Jqe3 p) [])
@[simp] theorem Jeds {p : Nums} : EqI (Jqds p) (.region (Jqe3 p) []) := eqi
@[simp] def Jqe4 (p : Nums) : List IOp := [qp 24 (.mov (.t 1)), qp 25 (.iaddr 2 (.t 24) (ci 0)), qp 26 (.load (some 2) (.t 25)), qp 27 (.load (some 2) (.t 6)), qo 28 (.call p.pairset_Less [(.t 26), (.t 27)])]
def Jqdt (p : Nums) : IC := (.region (Jqe4 p) [])
@[simp] theorem Jedt {p : Nums} : EqI (Jqdt p) (.region (Jqe4 p) []) := eqi
@[simp] def Jqe5 (p : Nums) : List IOp := [qo 29 (.mov (.t 1)), qo 30 (.iaddr 2 (.t 29) (ci 0)), qo 31 (.load (some 2) (.t 30)), qn (.store 2 (.t 6) (.t 31))]
def Jqdu (p : Nums) : IC := (.region (Jqe5 p) [])
@[simp] theorem Jedu {p : Nums} : EqI (Jqdu p) (.region (Jqe5 p) []) := eqi
@[simp] def Jqe6 (p : Nums) : List IOp := [qo 32 (.mov (.t 5)), qo 33 (.load (some 2) (.t 6)), qo 34 (.bslice 2 1 [(.int .i64 0), (.int .i64 0)] [(0, (.t 33))]), qo 35 (.app 2 16 (.t 32) (.t 34)), qo 5 (.asg (.t 35))]
def Jqdv (p : Nums) : IC := (.region (Jqe6 p) [])
@[simp] theorem Jedv {p : Nums} : EqI (Jqdv p) (.region (Jqe6 p) []) := eqi
@[simp] def Jqe7 (p : Nums) : List IOp := [qp 36 (.mov (.t 0)), qp 37 (.iaddr 2 (.t 36) (ci 0)), qp 38 (.load (some 2) (.t 37)), qp 39 (.load (some 2) (.t 6)), qo 40 (.eqs false [.int, .int] (.t 38) (.t 39))]
def Jqdw (p : Nums) : IC := (.region (Jqe7 p) [])
@[simp] theorem Jedw {p : Nums} : EqI (Jqdw p) (.region (Jqe7 p) []) := eqi
@[simp] def Jqe8 (p : Nums) : List IOp := [qo 41 (.mov (.t 0)), qo 42 (.slc 2 (.t 41) (some (ci 1)) none), qo 0 (.asg (.t 42))]
def Jqdx (p : Nums) : IC := (.region (Jqe8 p) [])
@[simp] theorem Jedx {p : Nums} : EqI (Jqdx p) (.region (Jqe8 p) []) := eqi
@[simp] def Jqe9 (p : Nums) : List IOp := [qp 43 (.mov (.t 1)), qp 44 (.iaddr 2 (.t 43) (ci 0)), qp 45 (.load (some 2) (.t 44)), qp 46 (.load (some 2) (.t 6)), qo 47 (.eqs false [.int, .int] (.t 45) (.t 46))]
def Jqdy (p : Nums) : IC := (.region (Jqe9 p) [])
@[simp] theorem Jedy {p : Nums} : EqI (Jqdy p) (.region (Jqe9 p) []) := eqi
@[simp] def Jqe0 (p : Nums) : List IOp := [qo 48 (.mov (.t 1)), qo 49 (.slc 2 (.t 48) (some (ci 1)) none), qo 1 (.asg (.t 49))]
def Jqdn (p : Nums) : IC := (.region (Jqe0 p) [])
@[simp] theorem Jedn {p : Nums} : EqI (Jqdn p) (.region (Jqe0 p) []) := eqi
def Jqdo (p : Nums) : IC := (.seq (Jqds p) (.seq (.seq (Jqdt p) (.cond (.t 28) (Jqdu p) .skip)) (.seq (Jqdv p) (.seq (.seq (Jqdw p) (.cond (.t 40) (Jqdx p) .skip)) (.seq (Jqdy p) (.cond (.t 47) (Jqdn p) .skip))))))
@[simp] theorem Jedo {p : Nums} : EqI (Jqdo p) (.seq (Jqds p) (.seq (.seq (Jqdt p) (.cond (.t 28) (Jqdu p) .skip)) (.seq (Jqdv p) (.seq (.seq (Jqdw p) (.cond (.t 40) (Jqdx p) .skip)) (.seq (Jqdy p) (.cond (.t 47) (Jqdn p) .skip)))))) := eqi
def Jqdp (p : Nums) : IC := (.seq (.seq (Jqdr p) (.cond (.t 20) .skip (.exit 0))) (.block 1 (Jqdo p)))
@[simp] theorem Jedp {p : Nums} : EqI (Jqdp p) (.seq (.seq (Jqdr p) (.cond (.t 20) .skip (.exit 0))) (.block 1 (Jqdo p))) := eqi
@[simp] def Jqe1 (p : Nums) : List IOp := [qo 50 (.mov (.t 5)), qo 51 (.mov (.t 0)), qo 52 (.app 2 16 (.t 50) (.t 51)), qo 53 (.mov (.t 1)), qo 54 (.app 2 16 (.t 52) (.t 53)), qo 4 (.asg (.t 54))]
def Jqdq (p : Nums) : IC := (.region (Jqe1 p) [])
@[simp] theorem Jedq {p : Nums} : EqI (Jqdq p) (.region (Jqe1 p) []) := eqi
def Jtb9 (p : Nums) : IC := (.seq (.region [⟨(some 4), (.asg (.c .nils)), none, false⟩] []) (.seq (Jqdm p) (.seq (.block 0 (.loop (Jqdp p))) (.seq (Jqdq p) .ret))))
@[simp] def Jqeh (p : Nums) : List IOp := [qo 8 (.mov (.t 0)), qo 9 (.len (.t 8)), qo 10 (.mkslice 2 16 [(.int .i64 0), (.int .i64 0)] (ci 0) (.t 9)), qo 5 (.take (.t 10))]
def Jqea (p : Nums) : IC := (.region (Jqeh p) [])
@[simp] theorem Jeea {p : Nums} : EqI (Jqea p) (.region (Jqeh p) []) := eqi
@[simp] def Jqei (p : Nums) : List IOp := [qo 11 (.mov (.t 0)), qo 12 (.len (.t 11)), qo 13 (.mov (ci 0))]
def Jqeb (p : Nums) : IC := (.region (Jqei p) [])
@[simp] theorem Jeeb {p : Nums} : EqI (Jqeb p) (.region (Jqei p) []) := eqi
@[simp] def Jqej (p : Nums) : List IOp := [qo 15 (.iaddr 2 (.t 11) (.t 13)), qo 16 (.load (some 2) (.t 15)), qo 7 (.alloc [(zi 0), (zi 0)]), qn (.store 2 (.t 7) (.t 16))]
def Jqec (p : Nums) : IC := (.region (Jqej p) [])
@[simp] theorem Jeec {p : Nums} : EqI (Jqec p) (.region (Jqej p) []) := eqi
@[simp] def Jqek (p : Nums) : List IOp := [qo 17 (.mov (.t 1)), qo 18 (.load (some 2) (.t 7)), qo 19 (.callv (.t 17) [(.t 18)])]
def Jqed (p : Nums) : IC := (.region (Jqek p) [])
@[simp] theorem Jeed {p : Nums} : EqI (Jqed p) (.region (Jqek p) []) := eqi
@[simp] def Jqel (p : Nums) : List IOp := [qo 20 (.mov (.t 5)), qo 21 (.load (some 2) (.t 7)), qo 22 (.bslice 2 1 [(.int .i64 0), (.int .i64 0)] [(0, (.t 21))]), qo 23 (.app 2 16 (.t 20) (.t 22)), qo 5 (.take (.t 23))]
def Jqee (p : Nums) : IC := (.region (Jqel p) [])
@[simp] theorem Jeee {p : Nums} : EqI (Jqee p) (.region (Jqel p) []) := eqi
def Jqef (p : Nums) : IC := (.seq (Jqec p) (.seq (Jqed p) (.cond (.t 19) (Jqee p) .skip)))
@[simp] theorem Jeef {p : Nums} : EqI (Jqef p) (.seq (Jqec p) (.seq (Jqed p) (.cond (.t 19) (Jqee p) .skip))) := eqi
def Jqeg (p : Nums) : IC := (.seq (.region [⟨(some 14), (.bin .lss (.t 13) (.t 12)), none, false⟩] []) (.seq (.cond (.t 14) .skip (.exit 0)) (.seq (.block 1 (Jqef p)) (.region [⟨(some 24), (.bin .add (.t 13) (.c (.d (.int .i64 1)))), none, false⟩, ⟨(some 13), (.mov (.t 24)), none, false⟩] []))))
@[simp] theorem Jeeg {p : Nums} : EqI (Jqeg p) (.seq (.region [⟨(some 14), (.bin .lss (.t 13) (.t 12)), none, false⟩] []) (.seq (.cond (.t 14) .skip (.exit 0)) (.seq (.block 1 (Jqef p)) (.region [⟨(some 24), (.bin .add (.t 13) (.c (.d (.int .i64 1)))), none, false⟩, ⟨(some 13), (.mov (.t 24)), none, false⟩] [])))) := eqi
def Jtba (p : Nums) : IC := (.seq (.region [⟨(some 4), (.asg (.c .nils)), none, false⟩] []) (.seq (Jqea p) (.seq (.seq (Jqeb p) (.block 0 (.loop (Jqeg p)))) (.seq (.region [⟨(some 25), (.mov (.t 5)), none, false⟩, ⟨(some 4), (.take (.t 25)), none, false⟩] []) .ret))))
@[simp] def Jqcm (p : Nums) : List IOp := [qo 4 (.faddr 0 (.t 2)), qo 5 (.load none (.t 4)), qo 6 (.load none (.t 1)), qo 7 (.bin .neq (.t 5) (.t 6)), qo 3 (.asg (.t 7))]
def Jqcl (p : Nums) : IC := (.region (Jqcm p) [])
@[simp] theorem Jecl {p : Nums} : EqI (Jqcl p) (.region (Jqcm p) []) := eqi
def Jtb4 (p : Nums) : IC := (.seq (.region [⟨(some 2), (.box (.t 0)), none, false⟩, ⟨(some 3), (.asg (.c (.d (.bool false)))), none, false⟩] []) (.seq (Jqcl p) .ret))
@[simp] def Jqci (p : Nums) : List IOp := [qo 4 (.faddr 1 (.t 2)), qo 5 (.load none (.t 4)), qo 6 (.load none (.t 1)), qo 7 (.bin .neq (.t 5) (.t 6)), qo 3 (.asg (.t 7))]
def Jqch (p : Nums) : IC := (.region (Jqci p) [])
@[simp] theorem Jech {p : Nums} : EqI (Jqch p) (.region (Jqci p) []) := eqi
def Jtb2 (p : Nums) : IC := (.seq (.region [⟨(some 2), (.box (.t 0)), none, false⟩, ⟨(some 3), (.asg (.c (.d (.bool false)))), none, false⟩] []) (.seq (Jqch p) .ret))
@[simp] def Jqcb (p : Nums) : List IOp := [qo 7 (.mov (.t 0)), qo 8 (.load (some 2) (.t 3)), qo 9 (.call p.pairset_find [(.t 7), (.t 8)]), qo 5 (.asg (.t 9))]
def Jqc5 (p : Nums) : IC := (.region (Jqcb p) [])
@[simp] theorem Jec5 {p : Nums} : EqI (Jqc5 p) (.region (Jqcb p) []) := eqi
@[simp] def Jqcc (p : Nums) : List IOp := [qo 10 (.mov (.t 0)), qo 11 (.len (.t 10)), qo 12 (.bin .add (.t 11) (ci 1)), qo 13 (.mkslice 2 16 [(.int .i64 0), (.int .i64 0)] (ci 0) (.t 12)), qo 6 (.asg (.t 13))]
def Jqc6 (p : Nums) : IC := (.region (Jqcc p) [])
@[simp] theorem Jec6 {p : Nums} : EqI (Jqc6 p) (.region (Jqcc p) []) := eqi
@[simp] def Jqcd (p : Nums) : List IOp := [qp 14 (.mov (.t 6)), qp 15 (.mov (.t 0)), qp 16 (.mov (.t 5)), qp 17 (.slc 2 (.t 15) none (some (.t 16))), qp 18 (.appq 2 16 (.t 14) (.t 17) 6), qp 19 (.load (some 2) (.t 3)), qp 20 (.bslice 2 1 [(.int .i64 0), (.int .i64 0)] [(0, (.t 19))]), qo 21 (.app 2 16 (.t 18) (.t 20)), qo 6 (.asg (.t 21))]
def Jqc7 (p : Nums) : IC := (.region (Jqcd p) [41])
@[simp] theorem Jec7 {p : Nums} : EqI (Jqc7 p) (.region (Jqcd p) [41]) := eqi
@[simp] def Jqce (p : Nums) : List IOp := [qp 22 (.mov (.t 5)), qp 23 (.mov (.t 0)), qp 24 (.len (.t 23)), qo 25 (.bin .lss (.t 22) (.t 24)), qo 26 (.mov (.t 25)), ⟨(some 27), (.mov (.t 0)), (some (26, true)), true⟩, ⟨(some 28), (.mov (.t 5)), (some (26, true)), true⟩, ⟨(some 29), (.iaddr 2 (.t 27) (.t 28)), (some (26, true)), true⟩, ⟨(some 30), (.load (some 2) (.t 29)), (some (26, true)), true⟩, ⟨(some 31), (.load (some 2) (.t 3)), (some (26, true)), true⟩, ⟨(some 32), (.eqs false [.int, .int] (.t 30) (.t 31)), (some (26, true)), false⟩, qo 33 (.pick (.t 26) (.t 32) (.c (.d (.bool false))))]
def Jqc8 (p : Nums) : IC := (.region (Jqce p) [])
@[simp] theorem Jec8 {p : Nums} : EqI (Jqc8 p) (.region (Jqce p) []) := eqi
@[simp] def Jqcf (p : Nums) : List IOp := [qo 34 (.mov (.t 5)), qo 35 (.bin .add (.t 34) (ci 1)), qo 5 (.asg (.t 35))]
def Jqc9 (p : Nums) : IC := (.region (Jqcf p) [])
@[simp] theorem Jec9 {p : Nums} : EqI (Jqc9 p) (.region (Jqcf p) []) := eqi
@[simp] def Jqcg (p : Nums) : List IOp := [qo 36 (.mov (.t 6)), qo 37 (.mov (.t 0)), qo 38 (.mov (.t 5)), qo 39 (.slc 2 (.t 37) (some (.t 38)) none), qo 40 (.app 2 16 (.t 36) (.t 39)), qo 4 (.asg (.t 40))]
def Jqca (p : Nums) : IC := (.region (Jqcg p) [])
@[simp] theorem Jeca {p : Nums} : EqI (Jqca p) (.region (Jqcg p) []) := eqi
def Jtb0 (p : Nums) : IC := (.seq (.region [⟨(some 3), (.box (.t 1)), none, false⟩, ⟨(some 4), (.asg (.c .nils)), none, false⟩] []) (.seq (Jqc5 p) (.seq (Jqc6 p) (.seq (Jqc7 p) (.seq (.seq (Jqc8 p) (.cond (.t 33) (Jqc9 p) .skip)) (.seq (Jqca p) .ret))))))
@[simp] def Jq2z (p : Nums) : List IOp := [qo 5 (.box (.t 1)), qo 6 (.box (.t 2)), qo 8 (.alloc [(zi 0)]), qo 9 (.alloc [(zi 0)])]
def Jq2y (p : Nums) : IC := (.region (Jq2z p) [])
@[simp] theorem Je2y {p : Nums} : EqI (Jq2y p) (.region (Jq2z p) []) := eqi
def Jta1 (p : Nums) : IC := (Jq2y p)
@[simp] def Jq3f (p : Nums) : List IOp := [qo 13 (.mov (.t 3)), qo 14 (.len (.t 13)), qo 15 (.mov (ci 0))]
def Jq37 (p : Nums) : IC := (.region (Jq3f p) [])
@[simp] theorem Je37 {p : Nums} : EqI (Jq37 p) (.region (Jq3f p) []) := eqi
@[simp] def Jq3g (p : Nums) : List IOp := [qo 17 (.iaddr 6 (.t 13) (.t 15)), qo 18 (.load (some 6) (.t 17)), qo 11 (.alloc [(zi 0), (zi 0), (zi 0), (zi 0), (zi 0), (zi 0)]), qn (.store 6 (.t 11) (.t 18))]
def Jq38 (p : Nums) : IC := (.region (Jq3g p) [])
@[simp] theorem Je38 {p : Nums} : EqI (Jq38 p) (.region (Jq3g p) []) := eqi
@[simp] def Jq3h (p : Nums) : List IOp := [qo 19 (.mov (.t 0)), qo 20 (.load (some 5) (.t 5)), qo 21 (.load (some 5) (.t 6)), qo 22 (.load (some 6) (.t 11)), qo 23 (.call p.blockcheck_checker_row [(.t 19), (.t 20), (.t 21), (.t 22)])]
def Jq39 (p : Nums) : IC := (.region (Jq3h p) [])
@[simp] theorem Je39 {p : Nums} : EqI (Jq39 p) (.region (Jq3h p) []) := eqi
def Jq3a (p : Nums) : IC := (.seq (Jq38 p) (Jq39 p))
@[simp] theorem Je3a {p : Nums} : EqI (Jq3a p) (.seq (Jq38 p) (Jq39 p)) := eqi
def Jq3b (p : Nums) : IC := (.seq (.region [⟨(some 16), (.bin .lss (.t 15) (.t 14)), none, false⟩] []) (.seq (.cond (.t 16) .skip (.exit 0)) (.seq (.block 1 (Jq3a p)) (.region [⟨(some 24), (.bin .add (.t 15) (.c (.d (.int .i64 1)))), none, false⟩, ⟨(some 15), (.mov (.t 24)), none, false⟩] []))))
@[simp] theorem Je3b {p : Nums} : EqI (Jq3b p) (.seq (.region [⟨(some 16), (.bin .lss (.t 15) (.t 14)), none, false⟩] []) (.seq (.cond (.t 16) .skip (.exit 0)) (.seq (.block 1 (Jq3a p)) (.region [⟨(some 24), (.bin .add (.t 15) (.c (.d (.int .i64 1)))), none, false⟩, ⟨(some 15), (.mov (.t 24)), none, false⟩] [])))) := eqi
@[simp] def Jq3i (p : Nums) : List IOp := [qo 25 (.faddr 1 (.t 5)), qo 26 (.faddr 0 (.t 25)), qo 27 (.load none (.t 26)), qo 28 (.bin .neq (.t 27) (ci 1))]
def Jq3c (p : Nums) : IC := (.region (Jq3i p) [])
@[simp] theorem Je3c {p : Nums} : EqI (Jq3c p) (.region (Jq3i p) []) := eqi
@[simp] def Jq3j (p : Nums) : List IOp := [qo 29 (.mov (.t 0)), qo 30 (.faddr 1 (.t 5)), qo 31 (.faddr 1 (.t 30)), qo 32 (.load none (.t 31)), qo 33 (.faddr 1 (.t 6)), qo 34 (.faddr 1 (.t 33)), qo 35 (.load none (.t 34)), qo 36 (.faddr 0 (.t 6)), qo 37 (.load none (.t 36)), qo 38 (.len (.t 37)), qo 39 (.call p.blockcheck_checker_use [(.t 29), (.t 32), (.t 35), (.t 38)])]
def Jq3d (p : Nums) : IC := (.region (Jq3j p) [])
@[simp] theorem Je3d {p : Nums} : EqI (Jq3d p) (.region (Jq3j p) []) := eqi
@[simp] def Jq3k (p : Nums) : List IOp := [qp 40 (.faddr 0 (.t 6)), qp 41 (.load none (.t 40)), qp 42 (.len (.t 41)), qm (.storeq 1 (.t 8) (ci 0) [(40, 1)]), qn (.store 1 (.t 9) (.t 42))]
def Jq3e (p : Nums) : IC := (.region (Jq3k p) [])
@[simp] theorem Je3e {p : Nums} : EqI (Jq3e p) (.region (Jq3k p) []) := eqi
def Jta3 (p : Nums) : IC := (.seq (.seq (Jq37 p) (.block 0 (.loop (Jq3b p)))) (.seq (.seq (Jq3c p) (.cond (.t 28) (Jq3d p) .skip)) (.seq (Jq3e p) .ret)))
@[simp] def Jq34 (p : Nums) : List IOp := [qo 9 (.mov (.t 2)), qo 10 (.tas p.ty_bcfail (.t 9)), qo 8 (.mov (.t 10)), qo 11 (.ext (.t 8) 0), qo 12 (.ext (.t 8) 1), qo 3 (.alloc [(zi 0), (zi 0)]), qn (.store 2 (.t 3) (.t 11)), qo 4 (.asg (.t 12))]
def Jq30 (p : Nums) : IC := (.region (Jq34 p) [])
@[simp] theorem Je30 {p : Nums} : EqI (Jq30 p) (.region (Jq34 p) []) := eqi
@[simp] def Jq35 (p : Nums) : List IOp := [qo 15 (.mov (.t 2)), qn (.pan (.t 15))]
def Jq31 (p : Nums) : IC := (.region (Jq35 p) [])
@[simp] theorem Je31 {p : Nums} : EqI (Jq31 p) (.region (Jq35 p) []) := eqi
@[simp] def Jq36 (p : Nums) : List IOp := [qp 16 (.faddr 0 (.t 3)), qp 17 (.load none (.t 16)), qp 18 (.faddr 1 (.t 3)), qp 19 (.load none (.t 18)), qm (.storeq 1 (.t 0) (.t 17) [(18, 1)]), qn (.store 1 (.t 1) (.t 19))]
def Jq32 (p : Nums) : IC := (.region (Jq36 p) [])
@[simp] theorem Je32 {p : Nums} : EqI (Jq32 p) (.region (Jq36 p) []) := eqi
def Jq33 (p : Nums) : IC := (.seq (Jq30 p) (.seq (.seq (.region [⟨(some 13), (.mov (.t 4)), none, false⟩, ⟨(some 14), (.un .not (.t 13)), none, false⟩] []) (.cond (.t 14) (Jq31 p) .skip)) (Jq32 p)))
@[simp] theorem Je33 {p : Nums} : EqI (Jq33 p) (.seq (Jq30 p) (.seq (.seq (.region [⟨(some 13), (.mov (.t 4)), none, false⟩, ⟨(some 14), (.un .not (.t 13)), none, false⟩] []) (.cond (.t 14) (Jq31 p) .skip)) (Jq32 p))) := eqi
def Jta2 (p : Nums) : IC := (.seq (.region [⟨(some 6), (.mov (.t 2)), none, false⟩, ⟨(some 7), (.isnif true (.t 6)), none, false⟩] []) (.cond (.t 7) (Jq33 p) .skip))
structure All (P : Program) (p : Nums) : Prop where
 law16_CheckerOnce : Has P p.law16_CheckerOnce 1 [(.tmp 2)] (Jtaf p)
 law16_awake : Has P p.law16_awake 0 [(.tmp 0)] (Jtag p)
 ref16_Few : Has P p.ref16_Few 1 [(.tmp 2)] (Jtbv p)
 checker_Valid : Has P p.checker_Valid 1 [(.tmp 2)] (Jta7 p)
 ref16_Valid : Has P p.ref16_Valid 1 [(.tmp 2)] (Jtbw p)
 checker_Check : Has P p.checker_Check 1 [(.cell 2 (some 7))] (Jta6 p)
 ref07_Successors : Has P p.ref07_Successors 1 [(.tmp 2)] (Jtbk p)
 checker_Bound : Has P p.checker_Bound 2 [(.tmp 4)] (Jta5 p)
 ref07_Few : Has P p.ref07_Few 1 [(.tmp 2)] (Jtbi p)
 ref07_Check : Has P p.ref07_Check 1 [(.tmp 2)] (Jtbg p)
 ref08_Few : Has P p.ref08_Few 1 [(.tmp 2)] (Jtbp p)
 ref15_Few : Has P p.ref15_Few 1 [(.tmp 2)] (Jtbt p)
 source_Check : Has P p.source_Check 1 [(.tmp 2)] (Jtbz p)
 machine_Check : Has P p.machine_Check 1 [(.tmp 2)] (Jtam p)
 edge_Valid : Has P p.edge_Valid 5 [(.tmp 10)] (Jtac p)
 ref08_Check : Has P p.ref08_Check 1 [(.tmp 2)] (Jtbn p)
 ref15_Valid : Has P p.ref15_Valid 5 [(.tmp 10)] (Jtbu p)
 checker_begin : Has P p.checker_begin 1 [(.cell 2 (some 7))] (Jta8 p)
 blockcheck_Check : Has P p.blockcheck_Check 4 [(.cell 8 (some 5))] (Jt9w p)
 source_Successors : Has P p.source_Successors 1 [(.tmp 2)] (Jtc2 p)
 edge_Implies : Has P p.edge_Implies 2 [(.cell 4 (some 2)), (.tmp 5)] (Jtaa p)
 source_Code : Has P p.source_Code 1 [(.tmp 2)] (Jtc0 p)
 machine_Code : Has P p.machine_Code 1 [(.tmp 2)] (Jtan p)
 ref05_UsesA : Has P p.ref05_UsesA 1 [(.tmp 2)] (Jtbd p)
 ref05_UsesB : Has P p.ref05_UsesB 1 [(.tmp 2)] (Jtbe p)
 ref05_UsesD : Has P p.ref05_UsesD 1 [(.tmp 2)] (Jtbf p)
 ref07_Code : Has P p.ref07_Code 1 [(.tmp 2)] (Jtbh p)
 ref07_Instr : Has P p.ref07_Instr 2 [(.tmp 4)] (Jtbj p)
 ref07_Term : Has P p.ref07_Term 3 [(.tmp 6)] (Jtbl p)
 ref08_Code : Has P p.ref08_Code 1 [(.tmp 2)] (Jtbo p)
 source_block : Has P p.source_block 3 [(.tmp 6)] (Jtc5 p)
 machine_block : Has P p.machine_block 2 [(.tmp 4)] (Jtap p)
 edge_total : Has P p.edge_total 1 [(.tmp 2)] (Jtae p)
 edge_pairs : Has P p.edge_pairs 4 [(.tmp 8)] (Jtad p)
 ref08_Instr : Has P p.ref08_Instr 3 [(.tmp 6)] (Jtbq p)
 ref08_Moves : Has P p.ref08_Moves 1 [(.tmp 2)] (Jtbr p)
 ref04_InRange : Has P p.ref04_InRange 3 [(.tmp 6)] (Jtbc p)
 ref11_Less : Has P p.ref11_Less 2 [(.tmp 4)] (Jtbs p)
 edge_Entry : Has P p.edge_Entry 2 [(.cell 4 (some 2)), (.tmp 5)] (Jta9 p)
 align_Code : Has P p.align_Code 2 [(.tmp 4), (.tmp 5), (.tmp 6)] (Jt9p p)
 align_Terms : Has P p.align_Terms 2 [(.tmp 4)] (Jt9r p)
 pairset_Make : Has P p.pairset_Make 1 [(.tmp 2)] (Jtb7 p)
 blockcheck_checker_run : HasD P p.blockcheck_checker_run 4 [(.cell 8 none), (.cell 9 none)] (Jta1 p) (Jta3 p) 12 p.blockcheck_checker_run_1 [8, 9] (Jta2 p) 5 2
 pairset_Missing : Has P p.pairset_Missing 2 [(.cell 4 (some 2)), (.tmp 5)] (Jtb8 p)
 ref07_in : Has P p.ref07_in 2 [(.tmp 4)] (Jtbm p)
 location_Slot : Has P p.location_Slot 1 [(.tmp 2)] (Jtal p)
 source_Instr : Has P p.source_Instr 2 [(.tmp 4)] (Jtc1 p)
 source_Term : Has P p.source_Term 3 [(.tmp 6)] (Jtc3 p)
 machine_Instr : Has P p.machine_Instr 3 [(.tmp 6)] (Jtao p)
 location_InRange : Has P p.location_InRange 3 [(.tmp 6)] (Jtah p)
 pairset_Less : Has P p.pairset_Less 2 [(.tmp 4)] (Jtb6 p)
 edge_Initial : Has P p.edge_Initial 2 [(.tmp 4)] (Jtab p)
 align_skip_Instr : Has P p.align_skip_Instr 3 [(.tmp 6)] (Jt9u p)
 align_copied : Has P p.align_copied 1 [(.tmp 2)] (Jt9s p)
 align_skip_Mach : Has P p.align_skip_Mach 3 [(.tmp 6)] (Jt9v p)
 align_moved : Has P p.align_moved 1 [(.tmp 2)] (Jt9t p)
 align_Same : Has P p.align_Same 2 [(.tmp 4)] (Jt9q p)
 slices_Clone_Pair : Has P p.slices_Clone_Pair 1 [(.tmp 2)] (Jtbx p)
 slices_Compact_Pair : Has P p.slices_Compact_Pair 1 [(.tmp 2)] (Jtby p)
 blockcheck_checker_row : Has P p.blockcheck_checker_row 4 [] (Jta0 p)
 blockcheck_checker_use : Has P p.blockcheck_checker_use 4 [] (Jta4 p)
 opcode_Of : Has P p.opcode_Of 1 [(.cell 2 (some 4)), (.tmp 3)] (Jtax p)
 location_Reg : Has P p.location_Reg 1 [(.tmp 2)] (Jtak p)
 opcode_Source : Has P p.opcode_Source 1 [(.tmp 2)] (Jtay p)
 source_within : Has P p.source_within 1 [(.tmp 2)] (Jtc6 p)
 source_blank : Has P p.source_blank 1 [(.tmp 2)] (Jtc4 p)
 opcode_Machine : Has P p.opcode_Machine 1 [(.tmp 2)] (Jtaw p)
 machine_others : Has P p.machine_others 0 [(.cell 0 (some 2))] (Jtat p)
 machine_moves : Has P p.machine_moves 0 [(.cell 0 (some 2))] (Jtaq p)
 location_IsSlot : Has P p.location_IsSlot 1 [(.tmp 2)] (Jtaj p)
 location_Index : Has P p.location_Index 1 [(.tmp 2)] (Jtai p)
 blockcheck_checker_cost : Has P p.blockcheck_checker_cost 1 [] (Jt9y p)
 blockcheck_checker_become : Has P p.blockcheck_checker_become 3 [] (Jt9x p)
 transfer_Copy : Has P p.transfer_Copy 3 [(.tmp 6)] (Jtc7 p)
 transfer_Move : Has P p.transfer_Move 3 [(.tmp 6)] (Jtc9 p)
 blockcheck_checker_instr : Has P p.blockcheck_checker_instr 4 [] (Jt9z p)
 pairset_Has : Has P p.pairset_Has 2 [(.tmp 4)] (Jtb5 p)
 opcode_known : Has P p.opcode_known 1 [(.tmp 2)] (Jtaz p)
 machine_others_1 : Has P p.machine_others_1 3 [(.tmp 6)] (Jtau p)
 machine_others_2 : Has P p.machine_others_2 1 [(.tmp 2)] (Jtav p)
 machine_moves_1 : Has P p.machine_moves_1 3 [(.tmp 6)] (Jtar p)
 machine_moves_2 : Has P p.machine_moves_2 1 [(.tmp 2)] (Jtas p)
 transfer_rename : Has P p.transfer_rename 3 [(.tmp 6)] (Jtca p)
 pairset_DropV : Has P p.pairset_DropV 2 [(.tmp 4)] (Jtb3 p)
 pairset_DropL : Has P p.pairset_DropL 2 [(.tmp 4)] (Jtb1 p)
 transfer_Define : Has P p.transfer_Define 3 [(.tmp 6)] (Jtc8 p)
 pairset_find : Has P p.pairset_find 2 [(.tmp 4)] (Jtbb p)
 pairset_Union : Has P p.pairset_Union 2 [(.tmp 4)] (Jtb9 p)
 pairset_filter : Has P p.pairset_filter 2 [(.tmp 4)] (Jtba p)
 pairset_DropV_1 : Has P p.pairset_DropV_1 2 [(.tmp 3)] (Jtb4 p)
 pairset_DropL_1 : Has P p.pairset_DropL_1 2 [(.tmp 3)] (Jtb2 p)
 pairset_Add : Has P p.pairset_Add 2 [(.tmp 4)] (Jtb0 p)
end Go.AE
namespace Go.AE
open Go Go.Sort
theorem Jt61 {P : Program} {f : Nat} {args : List AV} {H : List Blk} {x : AV} (hx : ∀ e rows, x ≠ .own e rows) (hxv : ∀ org e rows, x ≠ .view org e rows)
  (hH : ∀ (b : Nat) (cells : List AV) (j e : Nat) (rows : List (List D)), H[b]? = some (Blk.mem cells) → cells[j]? ≠ some (AV.own e rows))
  (h : ∀ (g : Gh) (vs : Array Value) (w : World), vs.size = args.length → Sim args.length ⟨enum 0 args, H⟩ g ⟨vs, []⟩ w → ∃ v, (∀ F φ w, Rel F φ w x.erase v) ∧ Calls P f vs w fun e w' => e = .returned v ∧ ∃ q os, w' = grow (w.drewN q) os) :
  Jt3o P f args H fun o H' => o = .ret x ∧ H' = H := by
 intro g vs w hvs hs
 obtain ⟨v, hv, hc⟩ := h g vs w hvs hs
 refine hc.mono ?_
 rintro e w' ⟨rfl, q, os, rfl⟩
 have hheap : (grow (w.drewN q) os).heap = w.heap ++ os := rfl
 have hsame : ∀ r, r < w.heap.size → (grow (w.drewN q) os).heap[r]? = w.heap[r]? := by
  intro r hr; rw [hheap, Array.getElem?_append, if_pos hr]
 have hst : Stab g.F w g.F (grow (w.drewN q) os) := by
  refine ⟨fun _ _ => Nat.le_refl _, fun r j u hj hu => ?_, Jt70 hsame⟩
  have hlt := World.block_lt_of_cell? w ⟨r, j, none⟩ hu
  simp only [World.cell?] at hu ⊢
  rw [hsame r hlt]; exact hu
 have hno : ∀ p e rows, AP ⟨[(0, x)], H⟩ p ≠ some (.own e rows) := by
  intro p e rows hp
  cases p with
  | tmp t =>
   simp only [AP, get] at hp
   split at hp
   ·injection hp with hp; exact hx e rows hp
   ·cases hp
  | cell b j =>
   simp only [AP] at hp
   split at hp
   ·rename_i cells hb; exact hH b cells j e rows hb hp
   ·cases hp
 refine ⟨.ret x, H, g, v, ⟨rfl, rfl⟩, rfl, ?_, ⟨rfl, rfl, rfl, ?_, fun r hr _ => ⟨hsame r hr, rfl⟩, hst⟩, fun _ _ _ h => h, Nat.le_refl _, ?_⟩
 ·refine { size := by simp, env := ?_, inj := hs.inj, lt := ?_, dom := hs.dom, mem := ?_, iter := ?_, glob := ?_, own := ?_, excl := ?_, apart := ?_, view := ?_ }
  ·intro t y hy
   simp only [AOut.val, get] at hy
   split at hy
   ·rename_i h0; subst h0; injection hy with hy; subst hy; exact hv _ _ _
   ·cases hy
  ·intro b r hb
   obtain ⟨h1, h2, h3⟩ := hs.lt b r hb
   refine ⟨?_, h2, h3⟩
   rw [hheap]; simp only [Array.size_append]; omega
  ·intro b cells r hb hr
   obtain ⟨c, e, h1, h2, h3⟩ := hs.mem b cells r hb hr
   refine ⟨c, e, by rw [hsame r (hs.lt b r hr).1]; exact h1, h2, fun j y hy => ?_⟩
   obtain ⟨k1, u, k2, k3⟩ := h3 j y hy
   exact ⟨k1, u, k2, k3.stab hst fun _ _ h => h⟩
  ·intro b s pos r hb hr
   rw [hsame r (hs.lt b r hr).1]; exact hs.iter b s pos r hb hr
  ·intro b s pos r hb hr
   rw [hsame r (hs.lt b r hr).1]; exact hs.glob b s pos r hb hr
  ·exact fun p e rows v hp _ => absurd hp (hno p e rows)
  ·rintro p p' r ⟨e, rows, _, hp, _⟩; exact absurd hp (hno p e rows)
  ·rintro p r b ⟨e, rows, _, hp, _⟩; exact absurd hp (hno p e rows)
  ·intro t org e rows hy
   simp only [AOut.val, get] at hy
   split at hy
   ·injection hy with hy; exact absurd hy (hxv org e rows)
   ·cases hy
 ·rw [hheap]; simp only [Array.size_append]; exact Nat.le_add_right _ _
 ·rintro r (⟨b, hb⟩ | ⟨p, e, rows, _, hp, _⟩)
  ·exact .inl (.inl ⟨b, hb⟩)
  ·exact absurd hp (hno p e rows)
abbrev I (n : Int) : D := .int .i64 n
abbrev AI (n : Int) : AV := .d (.int .i64 n)
abbrev AB (b : Bool) : AV := .d (.bool b)
structure Pair where (v l : Int)
 deriving DecidableEq, Inhabited
def Pair.row (q : Pair) : List D := [I q.v, I q.l]
def Pair.av (q : Pair) : AV := .agg [AI q.v, AI q.l]
def pairsD (l : List Pair) : D := .sl (l.map Pair.row)
theorem HasL.cons_inv {l : LT} {ls : List LT} {ds : List D} (h : HasL (l :: ls) ds) : ∃ d ds', ds = d :: ds' ∧ HasT l d ∧ HasL ls ds' := by
 obtain ⟨h1, h2⟩ := h
 cases ds with
 | nil => simp at h1
 | cons d ds => exact ⟨d, ds, rfl, h2 0 l d rfl rfl, by simpa using h1, fun j l' x a b => h2 (j + 1) l' x (by simpa using a) (by simpa using b)⟩
theorem HasL.nil_inv {ds : List D} (h : HasL [] ds) : ds = [] := by
 have := h.1; simpa using this
theorem HasT.int_inv {k : IntKind} {d : D} (h : HasT (.int k) d) : ∃ n, d = .int k n ∧ (Lit.int k n).wf = true := by
 cases h with
 | int _ n h => exact ⟨n, rfl, h⟩
theorem HasT.sl_inv {ls : List LT} {d : D} (h : HasT (.sl ls) d) : ∃ rows, d = .sl rows ∧ rows.length ≤ maxLen ∧ ∀ r ∈ rows, HasL ls r := by
 cases h with
 | sl _ rows hl h0 h => exact ⟨rows, rfl, hl, fun r hr => ⟨h0 r hr, h r hr⟩⟩
theorem Jtix {α : Type} {g : α → List D} {Q : List D → Prop} (h : ∀ r, Q r → ∃ x, r = g x) : ∀ {rows : List (List D)}, (∀ r ∈ rows, Q r) → ∃ l : List α, rows = l.map g := by
 intro rows
 induction rows with
 | nil => intro _; exact ⟨[], rfl⟩
 | cons r rows ih =>
  intro hq
  obtain ⟨x, rfl⟩ := h r (hq r (by simp))
  obtain ⟨l, rfl⟩ := ih fun r hr => hq r (by simp [hr])
  exact ⟨x :: l, rfl⟩
def ltI : LT := .int .i64
def ltPair : List LT := [ltI, ltI]
def lessP (a b : Pair) : Bool := if a.v = b.v then decide (a.l < b.l) else decide (a.v < b.v)
theorem Jtd6 {a b : Pair} : lessP a b = true ↔ a.v < b.v ∨ (a.v = b.v ∧ a.l < b.l) := by
 unfold lessP; split <;> simp <;> omega
theorem Jtd9 {a b : Pair} (h1 : lessP a b = false) (h2 : lessP b a = false) : a = b := by
 have h1 : ¬ lessP a b = true := by simp [h1]
 have h2 : ¬ lessP b a = true := by simp [h2]
 rw [Jtd6] at h1 h2
 obtain ⟨a1, a2⟩ := a; obtain ⟨b1, b2⟩ := b
 simp only [Pair.mk.injEq]; simp only at h1 h2; omega
theorem Jtda {a b c : Pair} (h1 : lessP a b = true) (h2 : lessP b c = true) : lessP a c = true := by
 rw [Jtd6] at *; omega
theorem Jtd7 (a : Pair) : lessP a a = false := by
 cases h : lessP a a with
 | false => rfl
 | true => rw [Jtd6] at h; omega
theorem Jtd5 {a b : Pair} (h1 : lessP a b = true) : lessP b a = false := by
 cases h : lessP b a with
 | false => rfl
 | true => have := Jtda h1 h; rw [Jtd7] at this; cases this
def stepA (p : Pair) (s : List Pair × Bool) (q : Pair) : List Pair × Bool :=
 let s := if s.2 = false ∧ lessP q p = false then (s.1 ++ [p], true) else s
 if q = p then s else (s.1 ++ [q], s.2)
def foldA (p : Pair) (l : List Pair) : List Pair × Bool := l.foldl (stepA p) ([], false)
def addP (l : List Pair) (p : Pair) : List Pair := if (foldA p l).2 = true then (foldA p l).1 else (foldA p l).1 ++ [p]
def makeP (l : List Pair) : List Pair := l.foldl addP []
def missP (a b : List Pair) : Option Pair := a.find? fun q => !decide (q ∈ b)
theorem Jt7s {a b : Pair} (h1 : a.v = b.v) (h2 : a.l = b.l) : a = b := by cases a; cases b; simp_all
theorem Jtg7 (a b : Pair) : (decide (a.v = b.v) && decide (a.l = b.l)) = decide (a = b) := by
 by_cases h : a = b
 ·subst h; simp
 ·rw [decide_eq_false h]
  cases h1 : decide (a.v = b.v) <;> cases h2 : decide (a.l = b.l) <;> simp_all
  exact h (Jt7s h1 h2)
theorem Jtg6 (a b : Pair) : (a.v == b.v && a.l == b.l) = decide (a = b) := by
 rw [← Jtg7]; rfl
def Srt (l : List Pair) : Prop := l.Pairwise fun a b => lessP a b = true
theorem Jtkl {a : Pair} {l : List Pair} : Srt (a :: l) ↔ (∀ b ∈ l, lessP a b = true) ∧ Srt l := List.pairwise_cons
theorem Jtkq {l : List Pair} (h : Srt l) {i j : Nat} (hij : i < j) (hj : j < l.length) : lessP (l[i]'(by omega)) l[j] = true := List.pairwise_iff_getElem.1 h i j (by omega) hj hij
theorem Jtkk {l : List Pair} : Srt l ↔ ∀ k, (h : k + 1 < l.length) → lessP (l[k]) (l[k+1]) = true := by
 constructor
 ·intro h k hk; exact Jtkq h (by omega) hk
 ·intro h
  refine List.pairwise_iff_getElem.2 fun i j hi hj hij => ?_
  obtain ⟨n, rfl⟩ : ∃ n, j = i + 1 + n := ⟨j - (i + 1), by omega⟩
  induction n with
  | zero => exact h i hj
  | succ n ih => exact Jtda (ih (by omega) (by omega)) (h (i + 1 + n) (by omega))
theorem Jtko : ∀ {a b : List Pair}, Srt a → Srt b → (∀ q, q ∈ a ↔ q ∈ b) → a = b := by
 intro a
 induction a with
 | nil =>
  intro b _ _ h
  cases b with
  | nil => rfl
  | cons y b => have := (h y).2 (by simp); cases this
 | cons x a ih =>
  intro b ha hb h
  cases b with
  | nil => have := (h x).1 (by simp); cases this
  | cons y b =>
   rw [Jtkl] at ha hb
   have exy : x = y := by
    have h1 := (h x).1 (by simp)
    have h2 := (h y).2 (by simp)
    rw [List.mem_cons] at h1 h2
    rcases h1 with h1 | h1
    ·exact h1
    ·rcases h2 with h2 | h2
     ·exact h2.symm
     ·have := Jtd5 (hb.1 x h1); rw [ha.1 y h2] at this; cases this
   subst exy
   have : a = b := by
    refine ih ha.2 hb.2 fun q => ?_
    have hq := h q
    rw [List.mem_cons, List.mem_cons] at hq
    constructor
    ·intro hqa
     rcases hq.1 (.inr hqa) with e | e
     ·subst e; have := ha.1 q hqa; rw [Jtd7] at this; cases this
     ·exact e
    ·intro hqb
     rcases hq.2 (.inr hqb) with e | e
     ·subst e; have := hb.1 q hqb; rw [Jtd7] at this; cases this
     ·exact e
   rw [this]
def posP (l : List Pair) (p : Pair) : Nat := (l.takeWhile fun q => lessP q p).length
def insP (l : List Pair) (p : Pair) : List Pair := (l.takeWhile fun q => lessP q p) ++ p :: (l.dropWhile fun q => lessP q p).filter fun q => decide (q ≠ p)
theorem Jtd8 {a b : Pair} (h : lessP a b = true) : a ≠ b := by rintro rfl; rw [Jtd7] at h; cases h
theorem Jt8p (p : Pair) (l out : List Pair) : l.foldl (stepA p) (out, true) = (out ++ l.filter (fun q => decide (q ≠ p)), true) := by
 induction l generalizing out with
 | nil => simp
 | cons q l ih =>
  by_cases e : q = p
  ·simp [stepA, e, ih]
  ·simp [stepA, e, ih]
theorem Jt8q (p : Pair) (l out : List Pair) : l.foldl (stepA p) (out, false) = if (l.dropWhile fun q => lessP q p) = [] then (out ++ l, false) else (out ++ insP l p, true) := by
 induction l generalizing out with
 | nil => simp
 | cons q l ih =>
  cases h : lessP q p with
  | true =>
   have hne := Jtd8 h
   simp only [List.foldl_cons, stepA, h, hne, if_false, and_false, ih, List.dropWhile_cons, if_true, Bool.true_eq_false, insP, List.takeWhile_cons]
   split <;> simp [List.append_assoc]
  | false =>
   simp only [List.foldl_cons, stepA, h, and_self, if_true, List.dropWhile_cons, Bool.false_eq_true, if_false, reduceCtorEq, insP, List.takeWhile_cons, List.nil_append]
   by_cases e : q = p
   ·simp [e, Jt8p]
   ·simp [e, Jt8p]
theorem Jt4e (l : List Pair) (p : Pair) : addP l p = insP l p := by
 unfold addP foldA
 rw [Jt8q]
 split
 ·rename_i h
  simp only [List.nil_append, Bool.false_eq_true, if_false, insP, h, List.filter_nil]
  have : l.takeWhile (fun q => lessP q p) = l := by
   have e := List.takeWhile_append_dropWhile (p := fun q => lessP q p) (l := l)
   rw [h, List.append_nil] at e; exact e
  rw [this]
 ·simp
theorem Jtef {l : List Pair} {p q : Pair} : q ∈ addP l p ↔ q = p ∨ q ∈ l := by
 rw [Jt4e, insP]
 have e := List.takeWhile_append_dropWhile (p := fun q => lessP q p) (l := l)
 have e2 : q ∈ l ↔ q ∈ l.takeWhile (fun q => lessP q p) ∨ q ∈ l.dropWhile (fun q => lessP q p) := by
  rw [← List.mem_append, e]
 simp only [List.mem_append, List.mem_cons, List.mem_filter, decide_eq_true_eq, e2]
 by_cases h : q = p <;> simp [h]
theorem Jt7c {l : List Pair} {p : Pair} (h : Srt l) : ∀ q ∈ l.dropWhile (fun q => lessP q p), lessP q p = false := by
 induction l with
 | nil => intro q hq; simp at hq
 | cons x l ih =>
  intro q hq
  rw [Jtkl] at h
  cases hx : lessP x p with
  | true => rw [List.dropWhile_cons, hx, if_pos rfl] at hq; exact ih h.2 q hq
  | false =>
   rw [List.dropWhile_cons, hx, if_neg (by simp)] at hq
   rcases List.mem_cons.1 hq with rfl | hq
   ·exact hx
   ·cases hqp : lessP q p with
    | false => rfl
    | true => rw [Jtda (h.1 q hq) hqp] at hx; cases hx
theorem Jtlf {l : List Pair} {p : Pair} : ∀ q ∈ l.takeWhile (fun q => lessP q p), lessP q p = true := by
 induction l with
 | nil => intro q hq; simp at hq
 | cons x l ih =>
  intro q hq
  cases hx : lessP x p with
  | true =>
   rw [List.takeWhile_cons, hx, if_pos rfl] at hq
   rcases List.mem_cons.1 hq with rfl | hq
   ·exact hx
   ·exact ih q hq
  | false => rw [List.takeWhile_cons, hx, if_neg (by simp)] at hq; simp at hq
theorem Jtkv {a b : List Pair} (h : a.Sublist b) (hb : Srt b) : Srt a := List.Pairwise.sublist h hb
theorem Jtkj {l : List Pair} {p : Pair} (h : Srt l) : Srt (addP l p) := by
 rw [Jt4e, insP]
 refine List.pairwise_append.2 ⟨Jtkv (List.takeWhile_sublist _) h, Jtkl.2 ⟨?_, ?_⟩, ?_⟩
 ·intro b hb
  rw [List.mem_filter, decide_eq_true_eq] at hb
  have h1 := Jt7c h b hb.1
  cases h2 : lessP p b with
  | true => rfl
  | false => exact absurd (Jtd9 h2 h1).symm hb.2
 ·exact Jtkv (List.filter_sublist.trans (List.dropWhile_sublist _)) h
 ·intro a ha b hb
  have h1 := Jtlf a ha
  rcases List.mem_cons.1 hb with rfl | hb
  ·exact h1
  ·rw [List.mem_filter, decide_eq_true_eq] at hb
   have h2 := Jt7c h b hb.1
   cases h3 : lessP p b with
   | true => exact Jtda h1 h3
   | false => exact absurd (Jtd9 h3 h2).symm hb.2
theorem Jte6 (l : List Pair) (q : Pair) : makeP (l ++ [q]) = addP (makeP l) q := by simp [makeP]
theorem Jte5 {motive : List Pair → Prop} (h0 : motive []) (h1 : ∀ l q, motive l → motive (l ++ [q])) (l : List Pair) : motive l := by
 generalize hn : l.length = n
 induction n generalizing l with
 | zero => have : l = [] := List.length_eq_zero_iff.1 hn; subst this; exact h0
 | succ n ih =>
  have hne : l ≠ [] := by rintro rfl; simp at hn
  rw [← List.dropLast_concat_getLast hne]
  exact h1 _ _ (ih _ (by simp [hn]))
theorem Jtkr (l : List Pair) : Srt (makeP l) := by
 induction l using Jte5 with
 | h0 => exact List.Pairwise.nil
 | h1 l q ih => rw [Jte6]; exact Jtkj ih
theorem Jtei {l : List Pair} {q : Pair} : q ∈ makeP l ↔ q ∈ l := by
 induction l using Jte5 with
 | h0 => simp [makeP]
 | h1 l x ih => rw [Jte6, Jtef, ih]; simp [or_comm]
theorem Jtku {l : List Pair} (h : Srt l) : l.Nodup := List.Pairwise.imp (fun h => Jtd8 h) h
theorem Jt4f (l : List Pair) (p : Pair) : (addP l p).length ≤ l.length + 1 := by
 rw [Jt4e, insP]
 have e := congrArg List.length (List.takeWhile_append_dropWhile (p := fun q => lessP q p) (l := l))
 have e2 := List.length_filter_le (fun q => decide (q ≠ p)) (l.dropWhile fun q => lessP q p)
 simp only [List.length_append, List.length_cons] at e ⊢; omega
theorem Jte4 (l : List Pair) : (makeP l).length ≤ l.length := by
 induction l using Jte5 with
 | h0 => simp [makeP]
 | h1 l x ih => rw [Jte6]; have := Jt4f (makeP l) x; simp only [List.length_append, List.length_cons, List.length_nil]; omega
section
theorem Jthm {P : Program} {p : Nums} (A : All P p) (a b : Pair) : Jt3o P p.ref11_Less [a.av, b.av] [] fun o _ => o = .ret (AB (lessP a b)) := by
 refine A.ref11_Less.run rfl fun R hR => ?_
 (simp (maxSteps := 1000000) [Jtbs, Pair.av])
 ((first | refine Xc (fun h => ?_) (fun h => ?_) | refine Xo (fun h => ?_) (fun h => ?_)) <;> (try simp only [Xz, Xy] at h))
 ·(simp (maxSteps := 1000000) [h])
  (first | exact hR _ _ FrA | exact hR _ _ FnA | exact hR _ _ (Xf (hq := by simp [AV.erase, AV.unview, lessP, h]; done)))
 ·(simp (maxSteps := 1000000) [h])
  (first | exact hR _ _ FrA | exact hR _ _ FnA | exact hR _ _ (Xf (hq := by simp [AV.erase, AV.unview, lessP, h]; done)))
end
section
end
def missA (a b : List Pair) : AV := .tup [((missP a b).getD ⟨0, 0⟩).av, AB (missP a b).isSome]
theorem Jtet {a b : List Pair} {k : Nat} (h : k < a.length) (h1 : ∀ q ∈ a.take k, q ∈ b) (h2 : a[k] ∉ b) : missP a b = some a[k] := by
 unfold missP
 have e : a = a.take k ++ a[k] :: a.drop (k + 1) := by rw [List.getElem_cons_drop, List.take_append_drop]
 have e1 : (a.take k).find? (fun q => !decide (q ∈ b)) = none := by
  rw [List.find?_eq_none]; intro q hq; simp [h1 q hq]
 have e2 : (a[k] :: a.drop (k + 1)).find? (fun q => !decide (q ∈ b)) = some a[k] := by
  rw [List.find?_cons_of_pos (by simp [h2])]
 have e3 := congrArg (List.find? fun q => !decide (q ∈ b)) e
 rw [List.find?_append, e1, e2] at e3
 exact e3
theorem Jteu {a b : List Pair} (h1 : ∀ q ∈ a, q ∈ b) : missP a b = none := by
 unfold missP; rw [List.find?_eq_none]; intro q hq; simp [h1 q hq]
section
theorem Jtgh {P : Program} {p : Nums} (A : All P p) (a b : Pair) : Jt3o P p.pairset_Less [a.av, b.av] [] fun o _ => o = .ret (AB (lessP a b)) := by
 refine A.pairset_Less.run rfl fun R hR => ?_
 (simp (maxSteps := 1000000) [Jtb6, Pair.av])
 ((first | refine Xc (fun h => ?_) (fun h => ?_) | refine Xo (fun h => ?_) (fun h => ?_)) <;> (try simp only [Xz, Xy] at h))
 ·(simp (maxSteps := 1000000) [h])
  have e : lessP a b = true := by rw [Jtd6]; omega
  (first | exact hR _ _ FrA | exact hR _ _ FnA | exact hR _ _ (Xf (hq := by simp [AV.erase, AV.unview, e]; done)))
 (simp (maxSteps := 1000000) [h])
 ((first | refine Xc (fun h1 => ?_) (fun h1 => ?_) | refine Xo (fun h1 => ?_) (fun h1 => ?_)) <;> (try simp only [Xz, Xy] at h1))
 ·(simp (maxSteps := 1000000) [h1])
  (first | exact hR _ _ FrA | exact hR _ _ FnA | exact hR _ _ (Xf (hq := by simp [AV.erase, AV.unview, lessP, h1]; done)))
 ·(simp (maxSteps := 1000000) [h1])
  have e : lessP a b = false := by
   cases e : lessP a b with
   | false => rfl
   | true => rw [Jtd6] at e; omega
  (first | exact hR _ _ FrA | exact hR _ _ FnA | exact hR _ _ (Xf (hq := by simp [AV.erase, AV.unview, e]; done)))
end
end Go.AE
