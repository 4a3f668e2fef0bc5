/- A part of the proof: the evaluator over abstract values, its codes, the contracts of the functions. -/
import Derived.Test.YtagckbahjfhckaaGreatE2
set_option linter.unusedVariables false
set_option linter.unusedSimpArgs false
set_option maxRecDepth 100000
namespace Go.AE
@[simp] abbrev zi (n : Int) : AV := .d (.int .i64 n)
@[simp] abbrev ci (n : Int) : Opd := .c (.d (.int .i64 n))
@[simp] abbrev qo (d : Nat) (io : AO) : IOp := ⟨some d, io, none, false⟩
@[simp] abbrev qp (d : Nat) (io : AO) : IOp := ⟨some d, io, none, true⟩
@[simp] abbrev qn (io : AO) : IOp := ⟨none, io, none, false⟩
@[simp] abbrev qm (io : AO) : IOp := ⟨none, io, none, true⟩
structure Nums where
 law16_CheckerMatchesReference : Nat
 law16_CheckerOnce : Nat
 law16_CheckerLocal : Nat
 law16_CheckerSubset : Nat
 law16_CheckerKeeps : Nat
 law16_CheckerSound : Nat
 law22_SpillallAccepted : Nat
 law16_awake : Nat
 ref16_Few : Nat
 checker_Valid : Nat
 ref16_Valid : Nat
 checker_Check : Nat
 ref16_Check : Nat
 ref07_Successors : Nat
 checker_Bound : Nat
 ref14_Check : Nat
 ref11_Missing : Nat
 ref16_Copy : Nat
 ref16_Same : Nat
 law16_simulates : Nat
 law22_awake : Nat
 ref07_Few : Nat
 ref07_Check : Nat
 spillall_Cert : Nat
 ref07_Same : Nat
 ref08_Few : Nat
 ref15_Few : Nat
 source_Check : Nat
 machine_Check : Nat
 edge_Valid : Nat
 ref08_Check : Nat
 ref15_Valid : Nat
 checker_begin : Nat
 blockcheck_Check : Nat
 source_Successors : Nat
 edge_Implies : Nat
 ref15_Initial : Nat
 source_Code : Nat
 machine_Code : Nat
 ref14_fail : Nat
 ref13_Code : Nat
 ref13_Terms : Nat
 ref14_grow : Nat
 ref12_Copy : Nat
 ref12_Move : Nat
 ref05_UsesA : Nat
 ref14_use : Nat
 ref05_UsesB : Nat
 ref05_UsesD : Nat
 ref12_Define : Nat
 ref11_Has : Nat
 ref07_Copy : Nat
 ref08_Copy : Nat
 ref08_Same : Nat
 ref15_Same : Nat
 interp_Exec : Nat
 execute_Exec : Nat
 ref09_Values : Nat
 ref09_Prefix : Nat
 spillall_Block : Nat
 spillall_Moves : Nat
 ref07_Code : Nat
 ref07_Instr : Nat
 ref07_Term : Nat
 slices_Clone_Instr : Nat
 spillall_invariant : Nat
 ref08_Code : Nat
 source_block : Nat
 machine_block : Nat
 edge_total : Nat
 edge_pairs : Nat
 ref08_Instr : Nat
 ref08_Moves : Nat
 ref04_InRange : Nat
 ref11_Less : Nat
 edge_Entry : Nat
 align_Code : Nat
 align_Terms : Nat
 pairset_Make : Nat
 blockcheck_checker_run : Nat
 pairset_Missing : Nat
 ref13_Operations : Nat
 ref13_Others : Nat
 ref13_Same : Nat
 ref11_Add : Nat
 ref11_Same : Nat
 interp_begin : Nat
 interp_state_step : Nat
 execute_begin : Nat
 execute_state_step : Nat
 spillall_builder_instr : Nat
 spillall_builder_add : Nat
 spillall_load : Nat
 ref07_in : Nat
 location_Slot : Nat
 source_Instr : Nat
 source_Term : Nat
 machine_Instr : Nat
 location_InRange : Nat
 pairset_Less : Nat
 edge_Initial : Nat
 align_skip_Instr : Nat
 align_copied : Nat
 align_skip_Mach : Nat
 align_moved : Nat
 align_Same : Nat
 slices_Clone_Pair : Nat
 slices_SortFunc_Pair : Nat
 pairset_compare : Nat
 slices_Compact_Pair : Nat
 blockcheck_checker_run_1 : Nat
 blockcheck_checker_row : Nat
 blockcheck_checker_use : Nat
 interp_state_instr : Nat
 interp_state_term : Nat
 execute_state_instr : Nat
 execute_state_term : Nat
 opcode_Of : Nat
 spillall_store : Nat
 location_Reg : Nat
 opcode_Source : Nat
 source_within : Nat
 source_blank : Nat
 opcode_Machine : Nat
 machine_others : Nat
 machine_moves : Nat
 location_IsSlot : Nat
 location_Index : Nat
 slices_pdqsortCmpFunc_Pair : Nat
 math_bits_Len : Nat
 blockcheck_checker_cost : Nat
 blockcheck_checker_become : Nat
 transfer_Copy : Nat
 transfer_Move : Nat
 blockcheck_checker_instr : Nat
 pairset_Has : Nat
 alu_Eval : Nat
 execute_state_compute : Nat
 execute_state_move : Nat
 execute_state_emit : Nat
 opcode_known : Nat
 machine_others_1 : Nat
 machine_others_2 : Nat
 machine_moves_1 : Nat
 machine_moves_2 : Nat
 slices_insertionSortCmpFunc_Pair : Nat
 slices_heapSortCmpFunc_Pair : Nat
 slices_breakPatternsCmpFunc_Pair : Nat
 slices_choosePivotCmpFunc_Pair : Nat
 slices_reverseRangeCmpFunc_Pair : Nat
 slices_partialInsertionSortCmpFunc_Pair : Nat
 slices_partitionEqualCmpFunc_Pair : Nat
 slices_partitionCmpFunc_Pair : Nat
 math_bits_Len32 : Nat
 math_bits_Len64 : Nat
 transfer_rename : Nat
 pairset_DropV : Nat
 transfer_Copy_1 : Nat
 pairset_DropL : Nat
 transfer_Move_1 : Nat
 transfer_Define : Nat
 pairset_find : Nat
 alu_operation : Nat
 execute_state_at : Nat
 slices_siftDownCmpFunc_Pair : Nat
 slices_nextPowerOfTwo : Nat
 slices_xorshift_Next : Nat
 slices_medianAdjacentCmpFunc_Pair : Nat
 slices_medianCmpFunc_Pair : Nat
 pairset_Union : Nat
 pairset_filter : Nat
 pairset_DropV_1 : Nat
 pairset_DropL_1 : Nat
 pairset_Add : Nat
 alu_operation_1 : Nat
 alu_operation_2 : Nat
 alu_operation_3 : Nat
 alu_operation_4 : Nat
 alu_operation_5 : Nat
 alu_operation_6 : Nat
 alu_operation_7 : Nat
 alu_operation_8 : Nat
 alu_operation_9 : Nat
 alu_operation_10 : Nat
 alu_operation_11 : Nat
 alu_truth : Nat
 alu_operation_12 : Nat
 slices_order2CmpFunc_Pair : Nat
 law11_PairsetMatchesReference : Nat
 law11_PairsetMatchesSets : Nat
 law11_PairsetOrder : Nat
 law11_PairsetSubsets : Nat
 law23_LivenessMatchesReference : Nat
 law23_LivenessEquations : Nat
 law23_LivenessSound : Nat
 law23_LivenessNecessary : Nat
 law23_LivenessAppended : Nat
 law11_PairsetDrops : Nat
 law11_PairsetKeeps : Nat
 law11_awake : Nat
 ref11_Make : Nat
 pairset_Sorted : Nat
 ref11_Sorted : Nat
 pairset_Subset : Nat
 law23_awake : Nat
 ref23_Used : Nat
 ref23_Defines : Nat
 ref07_Numbers : Nat
 liveness_Uses : Nat
 liveness_Defs : Nat
 ref23_Same : Nat
 liveness_In : Nat
 ref23_In : Nat
 liveness_Out : Nat
 ref23_Out : Nat
 ref23_Has : Nat
 ref09_Right : Nat
 ref09_Exec : Nat
 ref09_Step : Nat
 ref09_Copy : Nat
 law11_spoil : Nat
 liveness_scan : Nat
 liveness_set_sorted : Nat
 liveness_solve : Nat
 ref23_live : Nat
 liveness_exit : Nat
 ref09_Start : Nat
 ref06_Eval : Nat
 liveness_scan_1 : Nat
 slices_Sort_int : Nat
 ref06_bits : Nat
 ref06_half : Nat
 ref06_truth : Nat
 slices_pdqsortOrdered_int : Nat
 ref06_bit : Nat
 slices_insertionSortOrdered_int : Nat
 slices_heapSortOrdered_int : Nat
 slices_breakPatternsOrdered_int : Nat
 slices_choosePivotOrdered_int : Nat
 slices_reverseRangeOrdered_int : Nat
 slices_partialInsertionSortOrdered_int : Nat
 cmp_Less_int : Nat
 slices_partitionEqualOrdered_int : Nat
 slices_partitionOrdered_int : Nat
 slices_siftDownOrdered_int : Nat
 slices_medianAdjacentOrdered_int : Nat
 slices_medianOrdered_int : Nat
 cmp_isNaN_int : Nat
 slices_order2Ordered_int : Nat
 law12_TransferMatchesReference : Nat
 law12_TransferSound : Nat
 law12_TransferComplete : Nat
 law12_TransferMonotone : Nat
 law12_TransferKeeps : Nat
 law14_BlockcheckMatchesReference : Nat
 law14_BlockcheckSound : Nat
 law14_BlockcheckMonotone : Nat
 law14_BlockcheckSteps : Nat
 law14_BlockcheckKeeps : Nat
 law12_awake : Nat
 law12_known : Nat
 law12_holds : Nat
 law12_subset : Nat
 law14_awake : Nat
 law14_right : Nat
 ref14_Same : Nat
 law14_result : Nat
 ref10_Step : Nat
 ref10_Read : Nat
 law22_SpillallMatchesReference : Nat
 law22_SpillallKeeps : Nat
 law22_SpillallSlots : Nat
 ref22_Cert : Nat
 ref22_Block : Nat
 ref22_move : Nat
 law04_LocationBijection : Nat
 law04_LocationTexts : Nat
 law04_LocationMatchesReference : Nat
 law04_LocationRange : Nat
 law04_awake : Nat
 location_Parse : Nat
 location_Text : Nat
 ref04_Parse : Nat
 ref04_Text : Nat
 strconv_Itoa : Nat
 ref04_Number : Nat
 ref04_Decimal : Nat
 ty_bcfail : Nat
@[simp] def Jq84 (p : Nums) : List IOp := [qo 11 (.call p.law16_awake []), qo 12 (.un .not (.t 11)), qo 13 (.mov (.t 12)), ⟨(some 14), (.load (some 8) (.t 1)), (some (13, false)), false⟩, ⟨(some 15), (.call p.ref16_Few [(.t 14)]), (some (13, false)), false⟩, ⟨(some 16), (.un .not (.t 15)), (some (13, false)), false⟩, qo 17 (.pick (.t 13) (.c (.d (.bool true))) (.t 16)), qo 18 (.mov (.t 17)), ⟨(some 19), (.load (some 8) (.t 1)), (some (18, false)), false⟩, ⟨(some 20), (.call p.ref16_Valid [(.t 19)]), (some (18, false)), false⟩, ⟨(some 21), (.bin .neq (.t 20) (ci 0)), (some (18, false)), false⟩, qo 22 (.pick (.t 18) (.c (.d (.bool true))) (.t 21))]
def Jq7m (p : Nums) : IC := (.region (Jq84 p) [])
@[simp] theorem Je7m {p : Nums} : EqI (Jq7m p) (.region (Jq84 p) []) := eqi
def Jq7w (p : Nums) : IC := (.seq (.region [⟨(some 23), (.call p.law16_awake []), none, false⟩, ⟨(some 2), (.asg (.t 23)), none, false⟩] []) .ret)
@[simp] theorem Je7w {p : Nums} : EqI (Jq7w p) (.seq (.region [⟨(some 23), (.call p.law16_awake []), none, false⟩, ⟨(some 2), (.asg (.t 23)), none, false⟩] []) .ret) := eqi
@[simp] def Jq8b (p : Nums) : List IOp := [qo 24 (.mov (.t 4)), qo 25 (.faddr 0 (.t 1)), qo 26 (.faddr 2 (.t 25)), qo 27 (.load none (.t 26)), qo 28 (.len (.t 27)), qo 29 (.bin .lss (.t 24) (.t 28))]
def Jq7x (p : Nums) : IC := (.region (Jq8b p) [])
@[simp] theorem Je7x {p : Nums} : EqI (Jq7x p) (.region (Jq8b p) []) := eqi
@[simp] def Jq8c (p : Nums) : List IOp := [qp 32 (.faddr 0 (.t 1)), qp 33 (.faddr 2 (.t 32)), qp 34 (.load none (.t 33)), qp 35 (.mov (.t 4)), qp 36 (.iaddr 5 (.t 34) (.t 35)), qp 37 (.load (some 5) (.t 36)), qp 38 (.faddr 3 (.t 1)), qp 39 (.faddr 3 (.t 38)), qp 40 (.load none (.t 39)), qp 41 (.mov (.t 4)), qp 42 (.iaddr 5 (.t 40) (.t 41)), qp 43 (.load (some 5) (.t 42)), qp 44 (.faddr 7 (.t 1)), qp 45 (.load none (.t 44)), qp 46 (.mov (.t 4)), qp 47 (.iaddr 1 (.t 45) (.t 46)), qp 48 (.load none (.t 47)), qp 49 (.call p.ref14_Check [(.t 37), (.t 43), (.t 48), (ci 1048576)]), qp 5 (.alloc [.nils, (zi 0), (zi 0), (zi 0), (zi 0)]), qn (.store 5 (.t 5) (.t 49))]
def Jq7y (p : Nums) : IC := (.region (Jq8c p) [])
@[simp] theorem Je7y {p : Nums} : EqI (Jq7y p) (.region (Jq8c p) []) := eqi
@[simp] def Jq8d (p : Nums) : List IOp := [qo 50 (.mov (.t 3)), qo 51 (.mov (.t 50)), ⟨(some 52), (.faddr 1 (.t 5)), (some (51, true)), false⟩, ⟨(some 53), (.load none (.t 52)), (some (51, true)), false⟩, ⟨(some 54), (.bin .eql (.t 53) (ci 0)), (some (51, true)), false⟩, qo 55 (.pick (.t 51) (.t 54) (.c (.d (.bool false)))), qo 3 (.asg (.t 55))]
def Jq7z (p : Nums) : IC := (.region (Jq8d p) [])
@[simp] theorem Je7z {p : Nums} : EqI (Jq7z p) (.region (Jq8d p) []) := eqi
@[simp] def Jq8e (p : Nums) : List IOp := [qo 56 (.faddr 0 (.t 1)), qo 57 (.faddr 2 (.t 56)), qo 58 (.load none (.t 57)), qo 59 (.mov (.t 4)), qo 60 (.iaddr 5 (.t 58) (.t 59)), qo 61 (.faddr 1 (.t 60)), qo 62 (.load (some 4) (.t 61)), qo 63 (.call p.ref07_Successors [(.t 62)]), qo 6 (.asg (.t 63))]
def Jq80 (p : Nums) : IC := (.region (Jq8e p) [])
@[simp] theorem Je80 {p : Nums} : EqI (Jq80 p) (.region (Jq8e p) []) := eqi
@[simp] def Jq8f (p : Nums) : List IOp := [qo 64 (.mov (.t 7)), qo 65 (.mov (.t 6)), qo 66 (.len (.t 65)), qo 67 (.bin .lss (.t 64) (.t 66)), qo 68 (.mov (.t 67)), ⟨(some 69), (.mov (.t 3)), (some (68, true)), false⟩, qo 70 (.pick (.t 68) (.t 69) (.c (.d (.bool false))))]
def Jq81 (p : Nums) : IC := (.region (Jq8f p) [])
@[simp] theorem Je81 {p : Nums} : EqI (Jq81 p) (.region (Jq8f p) []) := eqi
@[simp] def Jq8g (p : Nums) : List IOp := [qp 74 (.faddr 7 (.t 1)), qp 75 (.load none (.t 74)), qp 76 (.mov (.t 6)), qp 77 (.mov (.t 7)), qp 78 (.iaddr 1 (.t 76) (.t 77)), qp 79 (.load none (.t 78)), qp 80 (.iaddr 1 (.t 75) (.t 79)), qp 81 (.load none (.t 80)), qp 82 (.faddr 0 (.t 5)), qp 83 (.load none (.t 82)), qp 84 (.call p.ref11_Missing [(.t 81), (.t 83)]), qp 73 (.mov (.t 84)), qp 85 (.ext (.t 73) 0), qp 86 (.ext (.t 73) 1), qp 8 (.alloc [(zi 0), (zi 0)]), qm (.storeq 2 (.t 8) (.t 85) []), qo 9 (.asg (.t 86))]
def Jq82 (p : Nums) : IC := (.region (Jq8g p) [])
@[simp] theorem Je82 {p : Nums} : EqI (Jq82 p) (.region (Jq8g p) []) := eqi
@[simp] def Jq8h (p : Nums) : List IOp := [qo 87 (.mov (.t 3)), qo 88 (.mov (.t 87)), ⟨(some 89), (.mov (.t 9)), (some (88, true)), false⟩, ⟨(some 90), (.un .not (.t 89)), (some (88, true)), false⟩, qo 91 (.pick (.t 88) (.t 90) (.c (.d (.bool false)))), qo 3 (.asg (.t 91))]
def Jq83 (p : Nums) : IC := (.region (Jq8h p) [])
@[simp] theorem Je83 {p : Nums} : EqI (Jq83 p) (.region (Jq8h p) []) := eqi
@[simp] def Jq85 (p : Nums) : List IOp := [qo 71 (.mov (.t 7)), qo 72 (.bin .add (.t 71) (ci 1)), qo 7 (.asg (.t 72))]
def Jq7n (p : Nums) : IC := (.region (Jq85 p) [])
@[simp] theorem Je7n {p : Nums} : EqI (Jq7n p) (.region (Jq85 p) []) := eqi
def Jq7o (p : Nums) : IC := (.seq (.seq (Jq81 p) (.cond (.t 70) .skip (.exit 2))) (.seq (.block 3 (.seq (Jq82 p) (Jq83 p))) (Jq7n p)))
@[simp] theorem Je7o {p : Nums} : EqI (Jq7o p) (.seq (.seq (Jq81 p) (.cond (.t 70) .skip (.exit 2))) (.seq (.block 3 (.seq (Jq82 p) (Jq83 p))) (Jq7n p))) := eqi
def Jq7p (p : Nums) : IC := (.seq (Jq7y p) (.seq (Jq7z p) (.seq (Jq80 p) (.seq (.region [⟨(some 7), (.asg (.c (.d (.int .i64 0)))), none, false⟩] []) (.block 2 (.loop (Jq7o p)))))))
@[simp] theorem Je7p {p : Nums} : EqI (Jq7p p) (.seq (Jq7y p) (.seq (Jq7z p) (.seq (Jq80 p) (.seq (.region [⟨(some 7), (.asg (.c (.d (.int .i64 0)))), none, false⟩] []) (.block 2 (.loop (Jq7o p))))))) := eqi
@[simp] def Jq86 (p : Nums) : List IOp := [qo 30 (.mov (.t 4)), qo 31 (.bin .add (.t 30) (ci 1)), qo 4 (.asg (.t 31))]
def Jq7q (p : Nums) : IC := (.region (Jq86 p) [])
@[simp] theorem Je7q {p : Nums} : EqI (Jq7q p) (.region (Jq86 p) []) := eqi
def Jq7r (p : Nums) : IC := (.seq (.seq (Jq7x p) (.cond (.t 29) .skip (.exit 0))) (.seq (.block 1 (Jq7p p)) (Jq7q p)))
@[simp] theorem Je7r {p : Nums} : EqI (Jq7r p) (.seq (.seq (Jq7x p) (.cond (.t 29) .skip (.exit 0))) (.seq (.block 1 (Jq7p p)) (Jq7q p))) := eqi
@[simp] def Jq87 (p : Nums) : List IOp := [qo 92 (.load (some 8) (.t 1)), qo 93 (.call p.checker_Check [(.t 92)]), qo 10 (.alloc [(zi 0), (zi 0), (zi 0), (zi 0), (zi 0), (zi 0), (zi 0)]), qn (.store 7 (.t 10) (.t 93))]
def Jq7s (p : Nums) : IC := (.region (Jq87 p) [])
@[simp] theorem Je7s {p : Nums} : EqI (Jq7s p) (.region (Jq87 p) []) := eqi
@[simp] def Jq88 (p : Nums) : List IOp := [qo 94 (.faddr 0 (.t 10)), qo 95 (.load none (.t 94)), qo 96 (.bin .eql (.t 95) (ci 23))]
def Jq7t (p : Nums) : IC := (.region (Jq88 p) [])
@[simp] theorem Je7t {p : Nums} : EqI (Jq7t p) (.region (Jq88 p) []) := eqi
@[simp] def Jq89 (p : Nums) : List IOp := [qo 97 (.faddr 3 (.t 10)), qo 98 (.load none (.t 97)), qo 99 (.bin .eql (.t 98) (ci 0)), qo 2 (.asg (.t 99))]
def Jq7u (p : Nums) : IC := (.region (Jq89 p) [])
@[simp] theorem Je7u {p : Nums} : EqI (Jq7u p) (.region (Jq89 p) []) := eqi
@[simp] def Jq8a (p : Nums) : List IOp := [qo 100 (.mov (.t 3)), qo 101 (.faddr 0 (.t 10)), qo 102 (.load none (.t 101)), qo 103 (.bin .eql (.t 102) (ci 0)), qo 104 (.eqb false (.t 100) (.t 103)), qo 2 (.asg (.t 104))]
def Jq7v (p : Nums) : IC := (.region (Jq8a p) [])
@[simp] theorem Je7v {p : Nums} : EqI (Jq7v p) (.region (Jq8a p) []) := eqi
def Jtao (p : Nums) : IC := (.seq (.region [⟨(some 1), (.box (.t 0)), none, false⟩, ⟨(some 2), (.asg (.c (.d (.bool false)))), none, false⟩] []) (.seq (.seq (Jq7m p) (.cond (.t 22) (Jq7w p) .skip)) (.seq (.region [⟨(some 3), (.asg (.c (.d (.bool true)))), none, false⟩] []) (.seq (.seq (.region [⟨(some 4), (.asg (.c (.d (.int .i64 0)))), none, false⟩] []) (.block 0 (.loop (Jq7r p)))) (.seq (Jq7s p) (.seq (.seq (Jq7t p) (.cond (.t 96) (.seq (Jq7u p) .ret) .skip)) (.seq (Jq7v p) .ret)))))))
@[simp] def Jq8p (p : Nums) : List IOp := [qo 6 (.build [(zi 0), (zi 0), (zi 0), (zi 0)] [(0, 1, (ci 3))]), qo 1 (.alloc [(zi 0), (zi 0), (zi 0), (zi 0)]), qn (.store 4 (.t 1) (.t 6))]
def Jq8i (p : Nums) : IC := (.region (Jq8p p) [])
@[simp] theorem Je8i {p : Nums} : EqI (Jq8i p) (.region (Jq8p p) []) := eqi
@[simp] def Jq8q (p : Nums) : List IOp := [qo 7 (.load (some 4) (.t 1)), qo 8 (.build [.nils, (zi 0), (zi 0), (zi 0), (zi 0)] [(1, 4, (.t 7))]), qo 9 (.bslice 5 1 [(.sl []), (.int .i64 0), (.int .i64 0), (.int .i64 0), (.int .i64 0)] [(0, (.t 8))]), qo 10 (.build [(zi 0), (zi 0), .nils] [(1, 1, (ci 1)), (2, 1, (.t 9))]), qo 11 (.load (some 4) (.t 1)), qo 12 (.build [.nils, (zi 0), (zi 0), (zi 0), (zi 0)] [(1, 4, (.t 11))]), qo 13 (.bslice 5 1 [(.sl []), (.int .i64 0), (.int .i64 0), (.int .i64 0), (.int .i64 0)] [(0, (.t 12))]), qo 14 (.build [(zi 0), (zi 0), (zi 0), .nils] [(1, 1, (ci 1)), (3, 1, (.t 13))]), qo 15 (.bslice 2 0 [(.int .i64 0), (.int .i64 0)] []), qo 16 (.bslice 1 1 [(.sl [])] [(0, (.t 15))]), qo 17 (.build [(zi 0), (zi 0), .nils, (zi 0), (zi 0), (zi 0), .nils, .nils] [(0, 3, (.t 10)), (3, 4, (.t 14)), (7, 1, (.t 16))]), qo 2 (.alloc [(zi 0), (zi 0), .nils, (zi 0), (zi 0), (zi 0), .nils, .nils]), qn (.store 8 (.t 2) (.t 17))]
def Jq8j (p : Nums) : IC := (.region (Jq8q p) [])
@[simp] theorem Je8j {p : Nums} : EqI (Jq8j p) (.region (Jq8q p) []) := eqi
@[simp] def Jq8r (p : Nums) : List IOp := [qo 18 (.load (some 8) (.t 2)), qo 3 (.alloc [(zi 0), (zi 0), .nils, (zi 0), (zi 0), (zi 0), .nils, .nils]), qn (.store 8 (.t 3) (.t 18))]
def Jq8k (p : Nums) : IC := (.region (Jq8r p) [])
@[simp] theorem Je8k {p : Nums} : EqI (Jq8k p) (.region (Jq8r p) []) := eqi
@[simp] def Jq8s (p : Nums) : List IOp := [qo 19 (.build [(zi 0), (zi 0)] [(0, 1, (ci 0)), (1, 1, (ci 0))]), qo 20 (.bslice 2 1 [(.int .i64 0), (.int .i64 0)] [(0, (.t 19))]), qo 21 (.bslice 1 1 [(.sl [])] [(0, (.t 20))]), qo 22 (.faddr 7 (.t 3)), qn (.store 1 (.t 22) (.t 21))]
def Jq8l (p : Nums) : IC := (.region (Jq8s p) [])
@[simp] theorem Je8l {p : Nums} : EqI (Jq8l p) (.region (Jq8s p) []) := eqi
@[simp] def Jq8t (p : Nums) : List IOp := [qo 23 (.load (some 8) (.t 2)), qo 24 (.call p.checker_Check [(.t 23)]), qo 4 (.alloc [(zi 0), (zi 0), (zi 0), (zi 0), (zi 0), (zi 0), (zi 0)]), qn (.store 7 (.t 4) (.t 24))]
def Jq8m (p : Nums) : IC := (.region (Jq8t p) [])
@[simp] theorem Je8m {p : Nums} : EqI (Jq8m p) (.region (Jq8t p) []) := eqi
@[simp] def Jq8u (p : Nums) : List IOp := [qo 25 (.load (some 8) (.t 3)), qo 26 (.call p.checker_Check [(.t 25)]), qo 5 (.alloc [(zi 0), (zi 0), (zi 0), (zi 0), (zi 0), (zi 0), (zi 0)]), qn (.store 7 (.t 5) (.t 26))]
def Jq8n (p : Nums) : IC := (.region (Jq8u p) [])
@[simp] theorem Je8n {p : Nums} : EqI (Jq8n p) (.region (Jq8u p) []) := eqi
@[simp] def Jq8v (p : Nums) : List IOp := [qo 27 (.load (some 7) (.t 4)), qo 28 (.build [(zi 0), (zi 0), (zi 0), (zi 0), (zi 0), (zi 0), (zi 0)] [(0, 1, (ci 21)), (3, 1, (ci 1)), (5, 1, (ci 2))]), qo 29 (.eqs false [.int, .int, .int, .int, .int, .int, .int] (.t 27) (.t 28)), qo 30 (.mov (.t 29)), ⟨(some 31), (.load (some 7) (.t 5)), (some (30, true)), false⟩, ⟨(some 32), (.build [(zi 0), (zi 0), (zi 0), (zi 0), (zi 0), (zi 0), (zi 0)] [(3, 1, (ci 1)), (5, 1, (ci 4)), (6, 1, (ci 1))]), (some (30, true)), false⟩, ⟨(some 33), (.eqs false [.int, .int, .int, .int, .int, .int, .int] (.t 31) (.t 32)), (some (30, true)), false⟩, qo 34 (.pick (.t 30) (.t 33) (.c (.d (.bool false)))), qo 35 (.mov (.t 34)), ⟨(some 36), (.load (some 8) (.t 2)), (some (35, true)), false⟩, ⟨(some 37), (.call p.checker_Valid [(.t 36)]), (some (35, true)), false⟩, ⟨(some 38), (.bin .eql (.t 37) (ci 0)), (some (35, true)), false⟩, qo 39 (.pick (.t 35) (.t 38) (.c (.d (.bool false)))), qo 40 (.mov (.t 39)), ⟨(some 41), (.build [(zi 0), (zi 0), .nils, (zi 0), (zi 0), (zi 0), .nils, .nils] []), (some (40, true)), false⟩, ⟨(some 42), (.call p.checker_Valid [(.t 41)]), (some (40, true)), false⟩, ⟨(some 43), (.bin .eql (.t 42) (ci 14)), (some (40, true)), false⟩, qo 44 (.pick (.t 40) (.t 43) (.c (.d (.bool false)))), qo 45 (.mov (.t 44)), ⟨(some 46), (.load (some 8) (.t 3)), (some (45, true)), false⟩, ⟨(some 47), (.call p.checker_Bound [(.t 46), (ci 1)]), (some (45, true)), false⟩, ⟨(some 48), (.bin .eql (.t 47) (ci 12)), (some (45, true)), false⟩, qo 49 (.pick (.t 45) (.t 48) (.c (.d (.bool false)))), qo 50 (.mov (.t 49)), ⟨(some 51), (.build [(zi 0), (zi 0), .nils, (zi 0), (zi 0), (zi 0), .nils, .nils] []), (some (50, true)), false⟩, ⟨(some 52), (.call p.checker_Check [(.t 51)]), (some (50, true)), false⟩, ⟨(some 53), (.build [(zi 0), (zi 0), (zi 0), (zi 0), (zi 0), (zi 0), (zi 0)] [(0, 1, (ci 14))]), (some (50, true)), false⟩, ⟨(some 54), (.eqs false [.int, .int, .int, .int, .int, .int, .int] (.t 52) (.t 53)), (some (50, true)), false⟩, qo 55 (.pick (.t 50) (.t 54) (.c (.d (.bool false)))), qo 0 (.asg (.t 55))]
def Jq8o (p : Nums) : IC := (.region (Jq8v p) [])
@[simp] theorem Je8o {p : Nums} : EqI (Jq8o p) (.region (Jq8v p) []) := eqi
def Jtap (p : Nums) : IC := (.seq (.region [⟨(some 0), (.asg (.c (.d (.bool false)))), none, false⟩] []) (.seq (Jq8i p) (.seq (Jq8j p) (.seq (Jq8k p) (.seq (Jq8l p) (.seq (Jq8m p) (.seq (Jq8n p) (.seq (Jq8o p) .ret))))))))
@[simp] def Jqsz (p : Nums) : List IOp := [qo 3 (.faddr 0 (.t 1)), qo 4 (.load (some 3) (.t 3)), qo 5 (.call p.ref07_Few [(.t 4)]), qo 6 (.mov (.t 5)), ⟨(some 7), (.faddr 3 (.t 1)), (some (6, true)), false⟩, ⟨(some 8), (.load (some 4) (.t 7)), (some (6, true)), false⟩, ⟨(some 9), (.call p.ref08_Few [(.t 8)]), (some (6, true)), false⟩, qo 10 (.pick (.t 6) (.t 9) (.c (.d (.bool false)))), qo 11 (.mov (.t 10)), ⟨(some 12), (.faddr 7 (.t 1)), (some (11, true)), false⟩, ⟨(some 13), (.load none (.t 12)), (some (11, true)), false⟩, ⟨(some 14), (.call p.ref15_Few [(.t 13)]), (some (11, true)), false⟩, qo 15 (.pick (.t 11) (.t 14) (.c (.d (.bool false)))), qo 2 (.asg (.t 15))]
def Jqsy (p : Nums) : IC := (.region (Jqsz p) [])
@[simp] theorem Jesy {p : Nums} : EqI (Jqsy p) (.region (Jqsz p) []) := eqi
def Jtcj (p : Nums) : IC := (.seq (.region [⟨(some 1), (.box (.t 0)), none, false⟩, ⟨(some 2), (.asg (.c (.d (.bool false)))), none, false⟩] []) (.seq (Jqsy p) .ret))
@[simp] def Jq58 (p : Nums) : List IOp := [qo 5 (.faddr 0 (.t 1)), qo 6 (.load (some 3) (.t 5)), qo 7 (.call p.source_Check [(.t 6)]), qo 3 (.asg (.t 7))]
def Jq51 (p : Nums) : IC := (.region (Jq58 p) [])
@[simp] theorem Je51 {p : Nums} : EqI (Jq51 p) (.region (Jq58 p) []) := eqi
def Jq52 (p : Nums) : IC := (.seq (.region [⟨(some 10), (.mov (.t 3)), none, false⟩, ⟨(some 2), (.asg (.t 10)), none, false⟩] []) .ret)
@[simp] theorem Je52 {p : Nums} : EqI (Jq52 p) (.seq (.region [⟨(some 10), (.mov (.t 3)), none, false⟩, ⟨(some 2), (.asg (.t 10)), none, false⟩] []) .ret) := eqi
@[simp] def Jq59 (p : Nums) : List IOp := [qo 11 (.faddr 3 (.t 1)), qo 12 (.load (some 4) (.t 11)), qo 13 (.call p.machine_Check [(.t 12)]), qo 4 (.asg (.t 13))]
def Jq53 (p : Nums) : IC := (.region (Jq59 p) [])
@[simp] theorem Je53 {p : Nums} : EqI (Jq53 p) (.region (Jq59 p) []) := eqi
def Jq54 (p : Nums) : IC := (.seq (.region [⟨(some 16), (.mov (.t 4)), none, false⟩, ⟨(some 2), (.asg (.t 16)), none, false⟩] []) .ret)
@[simp] theorem Je54 {p : Nums} : EqI (Jq54 p) (.seq (.region [⟨(some 16), (.mov (.t 4)), none, false⟩, ⟨(some 2), (.asg (.t 16)), none, false⟩] []) .ret) := eqi
@[simp] def Jq5a (p : Nums) : List IOp := [qo 17 (.faddr 0 (.t 1)), qo 18 (.faddr 2 (.t 17)), qo 19 (.load none (.t 18)), qo 20 (.len (.t 19)), qo 21 (.faddr 3 (.t 1)), qo 22 (.faddr 3 (.t 21)), qo 23 (.load none (.t 22)), qo 24 (.len (.t 23)), qo 25 (.bin .neq (.t 20) (.t 24)), qo 26 (.mov (.t 25)), ⟨(some 27), (.faddr 0 (.t 1)), (some (26, false)), false⟩, ⟨(some 28), (.faddr 0 (.t 27)), (some (26, false)), false⟩, ⟨(some 29), (.load none (.t 28)), (some (26, false)), false⟩, ⟨(some 30), (.faddr 3 (.t 1)), (some (26, false)), false⟩, ⟨(some 31), (.faddr 0 (.t 30)), (some (26, false)), false⟩, ⟨(some 32), (.load none (.t 31)), (some (26, false)), false⟩, ⟨(some 33), (.bin .neq (.t 29) (.t 32)), (some (26, false)), false⟩, qo 34 (.pick (.t 26) (.c (.d (.bool true))) (.t 33))]
def Jq55 (p : Nums) : IC := (.region (Jq5a p) [])
@[simp] theorem Je55 {p : Nums} : EqI (Jq55 p) (.region (Jq5a p) []) := eqi
def Jq56 (p : Nums) : IC := (.seq (.region [⟨(some 2), (.asg (.c (.d (.int .i64 14)))), none, false⟩] []) .ret)
@[simp] theorem Je56 {p : Nums} : EqI (Jq56 p) (.seq (.region [⟨(some 2), (.asg (.c (.d (.int .i64 14)))), none, false⟩] []) .ret) := eqi
@[simp] def Jq5b (p : Nums) : List IOp := [qo 35 (.faddr 7 (.t 1)), qo 36 (.load none (.t 35)), qo 37 (.faddr 0 (.t 1)), qo 38 (.faddr 2 (.t 37)), qo 39 (.load none (.t 38)), qo 40 (.len (.t 39)), qo 41 (.faddr 0 (.t 1)), qo 42 (.faddr 1 (.t 41)), qo 43 (.load none (.t 42)), qo 44 (.faddr 3 (.t 1)), qo 45 (.faddr 1 (.t 44)), qo 46 (.load none (.t 45)), qo 47 (.faddr 3 (.t 1)), qo 48 (.faddr 2 (.t 47)), qo 49 (.load none (.t 48)), qo 50 (.call p.edge_Valid [(.t 36), (.t 40), (.t 43), (.t 46), (.t 49)]), qo 2 (.asg (.t 50))]
def Jq57 (p : Nums) : IC := (.region (Jq5b p) [])
@[simp] theorem Je57 {p : Nums} : EqI (Jq57 p) (.region (Jq5b p) []) := eqi
def Jtag (p : Nums) : IC := (.seq (.region [⟨(some 1), (.box (.t 0)), none, false⟩, ⟨(some 2), (.asg (.c (.d (.int .i64 0)))), none, false⟩] []) (.seq (.seq (Jq51 p) (.seq (.region [⟨(some 8), (.mov (.t 3)), none, false⟩, ⟨(some 9), (.bin .neq (.t 8) (.c (.d (.int .i64 0)))), none, false⟩] []) (.cond (.t 9) (Jq52 p) .skip))) (.seq (.seq (Jq53 p) (.seq (.region [⟨(some 14), (.mov (.t 4)), none, false⟩, ⟨(some 15), (.bin .neq (.t 14) (.c (.d (.int .i64 0)))), none, false⟩] []) (.cond (.t 15) (Jq54 p) .skip))) (.seq (.seq (Jq55 p) (.cond (.t 34) (Jq56 p) .skip)) (.seq (Jq57 p) .ret)))))
@[simp] def Jqt7 (p : Nums) : List IOp := [qo 5 (.faddr 0 (.t 1)), qo 6 (.load (some 3) (.t 5)), qo 7 (.call p.ref07_Check [(.t 6)]), qo 3 (.asg (.t 7))]
def Jqt0 (p : Nums) : IC := (.region (Jqt7 p) [])
@[simp] theorem Jet0 {p : Nums} : EqI (Jqt0 p) (.region (Jqt7 p) []) := eqi
def Jqt1 (p : Nums) : IC := (.seq (.region [⟨(some 10), (.mov (.t 3)), none, false⟩, ⟨(some 2), (.asg (.t 10)), none, false⟩] []) .ret)
@[simp] theorem Jet1 {p : Nums} : EqI (Jqt1 p) (.seq (.region [⟨(some 10), (.mov (.t 3)), none, false⟩, ⟨(some 2), (.asg (.t 10)), none, false⟩] []) .ret) := eqi
@[simp] def Jqt8 (p : Nums) : List IOp := [qo 11 (.faddr 3 (.t 1)), qo 12 (.load (some 4) (.t 11)), qo 13 (.call p.ref08_Check [(.t 12)]), qo 4 (.asg (.t 13))]
def Jqt2 (p : Nums) : IC := (.region (Jqt8 p) [])
@[simp] theorem Jet2 {p : Nums} : EqI (Jqt2 p) (.region (Jqt8 p) []) := eqi
def Jqt3 (p : Nums) : IC := (.seq (.region [⟨(some 16), (.mov (.t 4)), none, false⟩, ⟨(some 2), (.asg (.t 16)), none, false⟩] []) .ret)
@[simp] theorem Jet3 {p : Nums} : EqI (Jqt3 p) (.seq (.region [⟨(some 16), (.mov (.t 4)), none, false⟩, ⟨(some 2), (.asg (.t 16)), none, false⟩] []) .ret) := eqi
@[simp] def Jqt9 (p : Nums) : List IOp := [qo 17 (.faddr 0 (.t 1)), qo 18 (.faddr 2 (.t 17)), qo 19 (.load none (.t 18)), qo 20 (.len (.t 19)), qo 21 (.faddr 3 (.t 1)), qo 22 (.faddr 3 (.t 21)), qo 23 (.load none (.t 22)), qo 24 (.len (.t 23)), qo 25 (.bin .neq (.t 20) (.t 24)), qo 26 (.mov (.t 25)), ⟨(some 27), (.faddr 0 (.t 1)), (some (26, false)), false⟩, ⟨(some 28), (.faddr 0 (.t 27)), (some (26, false)), false⟩, ⟨(some 29), (.load none (.t 28)), (some (26, false)), false⟩, ⟨(some 30), (.faddr 3 (.t 1)), (some (26, false)), false⟩, ⟨(some 31), (.faddr 0 (.t 30)), (some (26, false)), false⟩, ⟨(some 32), (.load none (.t 31)), (some (26, false)), false⟩, ⟨(some 33), (.bin .neq (.t 29) (.t 32)), (some (26, false)), false⟩, qo 34 (.pick (.t 26) (.c (.d (.bool true))) (.t 33))]
def Jqt4 (p : Nums) : IC := (.region (Jqt9 p) [])
@[simp] theorem Jet4 {p : Nums} : EqI (Jqt4 p) (.region (Jqt9 p) []) := eqi
def Jqt5 (p : Nums) : IC := (.seq (.region [⟨(some 2), (.asg (.c (.d (.int .i64 14)))), none, false⟩] []) .ret)
@[simp] theorem Jet5 {p : Nums} : EqI (Jqt5 p) (.seq (.region [⟨(some 2), (.asg (.c (.d (.int .i64 14)))), none, false⟩] []) .ret) := eqi
@[simp] def Jqta (p : Nums) : List IOp := [qo 35 (.faddr 7 (.t 1)), qo 36 (.load none (.t 35)), qo 37 (.faddr 0 (.t 1)), qo 38 (.faddr 2 (.t 37)), qo 39 (.load none (.t 38)), qo 40 (.len (.t 39)), qo 41 (.faddr 0 (.t 1)), qo 42 (.faddr 1 (.t 41)), qo 43 (.load none (.t 42)), qo 44 (.faddr 3 (.t 1)), qo 45 (.faddr 1 (.t 44)), qo 46 (.load none (.t 45)), qo 47 (.faddr 3 (.t 1)), qo 48 (.faddr 2 (.t 47)), qo 49 (.load none (.t 48)), qo 50 (.call p.ref15_Valid [(.t 36), (.t 40), (.t 43), (.t 46), (.t 49)]), qo 2 (.asg (.t 50))]
def Jqt6 (p : Nums) : IC := (.region (Jqta p) [])
@[simp] theorem Jet6 {p : Nums} : EqI (Jqt6 p) (.region (Jqta p) []) := eqi
def Jtck (p : Nums) : IC := (.seq (.region [⟨(some 1), (.box (.t 0)), none, false⟩, ⟨(some 2), (.asg (.c (.d (.int .i64 0)))), none, false⟩] []) (.seq (Jqt0 p) (.seq (.seq (.region [⟨(some 8), (.mov (.t 3)), none, false⟩, ⟨(some 9), (.bin .neq (.t 8) (.c (.d (.int .i64 0)))), none, false⟩] []) (.cond (.t 9) (Jqt1 p) .skip)) (.seq (Jqt2 p) (.seq (.seq (.region [⟨(some 14), (.mov (.t 4)), none, false⟩, ⟨(some 15), (.bin .neq (.t 14) (.c (.d (.int .i64 0)))), none, false⟩] []) (.cond (.t 15) (Jqt3 p) .skip)) (.seq (.seq (Jqt4 p) (.cond (.t 34) (Jqt5 p) .skip)) (.seq (Jqt6 p) .ret)))))))
@[simp] def Jq4l (p : Nums) : List IOp := [qo 1 (.box (.t 0)), qo 2 (.alloc [(zi 0), (zi 0), (zi 0), (zi 0), (zi 0), (zi 0), (zi 0)])]
def Jq40 (p : Nums) : IC := (.region (Jq4l p) [])
@[simp] theorem Je40 {p : Nums} : EqI (Jq40 p) (.region (Jq4l p) []) := eqi
@[simp] def Jq4u (p : Nums) : List IOp := [qo 12 (.load (some 8) (.t 1)), qo 13 (.call p.checker_Valid [(.t 12)]), qo 3 (.asg (.t 13))]
def Jq4b (p : Nums) : IC := (.region (Jq4u p) [])
@[simp] theorem Je4b {p : Nums} : EqI (Jq4b p) (.region (Jq4u p) []) := eqi
@[simp] def Jq4v (p : Nums) : List IOp := [qo 16 (.mov (.t 3)), qo 17 (.build [(zi 0), (zi 0), (zi 0), (zi 0), (zi 0), (zi 0), (zi 0)] [(0, 1, (.t 16))]), qn (.store 7 (.t 2) (.t 17))]
def Jq4e (p : Nums) : IC := (.region (Jq4v p) [])
@[simp] theorem Je4e {p : Nums} : EqI (Jq4e p) (.region (Jq4v p) []) := eqi
@[simp] def Jq4w (p : Nums) : List IOp := [qo 18 (.load (some 8) (.t 1)), qo 19 (.call p.checker_begin [(.t 18)]), qo 4 (.alloc [(zi 0), (zi 0), (zi 0), (zi 0), (zi 0), (zi 0), (zi 0)]), qn (.store 7 (.t 4) (.t 19))]
def Jq4f (p : Nums) : IC := (.region (Jq4w p) [])
@[simp] theorem Je4f {p : Nums} : EqI (Jq4f p) (.region (Jq4w p) []) := eqi
@[simp] def Jq4x (p : Nums) : List IOp := [qo 20 (.faddr 0 (.t 4)), qo 21 (.load none (.t 20)), qo 22 (.bin .neq (.t 21) (ci 0))]
def Jq4g (p : Nums) : IC := (.region (Jq4x p) [])
@[simp] theorem Je4g {p : Nums} : EqI (Jq4g p) (.region (Jq4x p) []) := eqi
def Jq4h (p : Nums) : IC := (.seq (.region [⟨(some 23), (.load (some 7) (.t 4)), none, false⟩, ⟨none, (.store 7 (.t 2) (.t 23)), none, false⟩] []) .ret)
@[simp] theorem Je4h {p : Nums} : EqI (Jq4h p) (.seq (.region [⟨(some 23), (.load (some 7) (.t 4)), none, false⟩, ⟨none, (.store 7 (.t 2) (.t 23)), none, false⟩] []) .ret) := eqi
@[simp] def Jq4y (p : Nums) : List IOp := [qo 24 (.faddr 0 (.t 1)), qo 25 (.faddr 2 (.t 24)), qo 26 (.load none (.t 25)), qo 27 (.len (.t 26)), qo 28 (.mov (ci 0))]
def Jq4i (p : Nums) : IC := (.region (Jq4y p) [])
@[simp] theorem Je4i {p : Nums} : EqI (Jq4i p) (.region (Jq4y p) []) := eqi
@[simp] def Jq4z (p : Nums) : List IOp := [qo 30 (.mov (.t 28)), qo 31 (.iaddr 5 (.t 26) (.t 28)), qo 32 (.load (some 5) (.t 31)), qo 6 (.alloc [.nils, (zi 0), (zi 0), (zi 0), (zi 0)]), qo 5 (.asg (.t 30)), qn (.store 5 (.t 6) (.t 32))]
def Jq4j (p : Nums) : IC := (.region (Jq4z p) [])
@[simp] theorem Je4j {p : Nums} : EqI (Jq4j p) (.region (Jq4z p) []) := eqi
@[simp] def Jq50 (p : Nums) : List IOp := [qp 33 (.load (some 5) (.t 6)), qp 34 (.faddr 3 (.t 1)), qp 35 (.faddr 3 (.t 34)), qp 36 (.load none (.t 35)), qp 37 (.mov (.t 5)), qp 38 (.iaddr 5 (.t 36) (.t 37)), qp 39 (.load (some 5) (.t 38)), qp 40 (.faddr 7 (.t 1)), qp 41 (.load none (.t 40)), qp 42 (.mov (.t 5)), qp 43 (.iaddr 1 (.t 41) (.t 42)), qp 44 (.load none (.t 43)), qp 45 (.call p.blockcheck_Check [(.t 33), (.t 39), (.t 44), (ci 1048576)]), qp 7 (.alloc [.nils, (zi 0), (zi 0), (zi 0), (zi 0)]), qn (.store 5 (.t 7) (.t 45))]
def Jq4k (p : Nums) : IC := (.region (Jq50 p) [])
@[simp] theorem Je4k {p : Nums} : EqI (Jq4k p) (.region (Jq50 p) []) := eqi
@[simp] def Jq4m (p : Nums) : List IOp := [qp 46 (.faddr 3 (.t 4)), qp 47 (.load none (.t 46)), qp 48 (.bin .add (.t 47) (ci 1)), qp 49 (.faddr 5 (.t 4)), qp 50 (.load none (.t 49)), qp 51 (.faddr 3 (.t 7)), qp 52 (.load none (.t 51)), qp 53 (.bin .add (.t 50) (.t 52)), qp 54 (.faddr 6 (.t 4)), qp 55 (.load none (.t 54)), qp 56 (.faddr 4 (.t 7)), qp 57 (.load none (.t 56)), qp 58 (.mx (.t 55) (.t 57)), qp 59 (.faddr 3 (.t 4)), qm (.storeq 1 (.t 59) (.t 48) [(51, 1), (56, 1)]), qp 60 (.faddr 5 (.t 4)), qm (.storeq 1 (.t 60) (.t 53) [(56, 1)]), qo 61 (.faddr 6 (.t 4)), qn (.store 1 (.t 61) (.t 58))]
def Jq41 (p : Nums) : IC := (.region (Jq4m p) [])
@[simp] theorem Je41 {p : Nums} : EqI (Jq41 p) (.region (Jq4m p) []) := eqi
@[simp] def Jq4n (p : Nums) : List IOp := [qo 62 (.faddr 1 (.t 7)), qo 63 (.load none (.t 62)), qo 64 (.bin .neq (.t 63) (ci 0))]
def Jq42 (p : Nums) : IC := (.region (Jq4n p) [])
@[simp] theorem Je42 {p : Nums} : EqI (Jq42 p) (.region (Jq4n p) []) := eqi
@[simp] def Jq4o (p : Nums) : List IOp := [qp 65 (.faddr 1 (.t 7)), qp 66 (.load none (.t 65)), qp 67 (.mov (.t 5)), qp 68 (.faddr 2 (.t 7)), qp 69 (.load none (.t 68)), qp 70 (.faddr 0 (.t 4)), qm (.storeq 1 (.t 70) (.t 66) [(68, 1)]), qp 71 (.faddr 1 (.t 4)), qm (.storeq 1 (.t 71) (.t 67) [(68, 1)]), qo 72 (.faddr 2 (.t 4)), qn (.store 1 (.t 72) (.t 69))]
def Jq43 (p : Nums) : IC := (.region (Jq4o p) [])
@[simp] theorem Je43 {p : Nums} : EqI (Jq43 p) (.region (Jq4o p) []) := eqi
@[simp] def Jq4p (p : Nums) : List IOp := [qo 73 (.faddr 1 (.t 6)), qo 74 (.load (some 4) (.t 73)), qo 75 (.call p.source_Successors [(.t 74)]), qo 76 (.len (.t 75)), qo 77 (.mov (ci 0))]
def Jq44 (p : Nums) : IC := (.region (Jq4p p) [])
@[simp] theorem Je44 {p : Nums} : EqI (Jq44 p) (.region (Jq4p p) []) := eqi
@[simp] def Jq4q (p : Nums) : List IOp := [qo 79 (.mov (.t 77)), qo 80 (.iaddr 1 (.t 75) (.t 77)), qo 81 (.load none (.t 80)), qo 8 (.asg (.t 79)), qo 9 (.asg (.t 81))]
def Jq45 (p : Nums) : IC := (.region (Jq4q p) [])
@[simp] theorem Je45 {p : Nums} : EqI (Jq45 p) (.region (Jq4q p) []) := eqi
@[simp] def Jq4r (p : Nums) : List IOp := [qp 82 (.faddr 4 (.t 4)), qp 83 (.load none (.t 82)), qp 84 (.bin .add (.t 83) (ci 1)), qp 85 (.faddr 5 (.t 4)), qp 86 (.load none (.t 85)), qp 87 (.bin .add (.t 86) (ci 1)), qp 88 (.faddr 0 (.t 7)), qp 89 (.load none (.t 88)), qp 90 (.len (.t 89)), qp 91 (.bin .add (.t 87) (.t 90)), qp 92 (.faddr 7 (.t 1)), qp 93 (.load none (.t 92)), qp 94 (.mov (.t 9)), qp 95 (.iaddr 1 (.t 93) (.t 94)), qp 96 (.load none (.t 95)), qp 97 (.len (.t 96)), qp 98 (.bin .add (.t 91) (.t 97)), qp 99 (.faddr 4 (.t 4)), qm (.storeq 1 (.t 99) (.t 84) [(88, 1), (92, 1), (95, 1)]), qo 100 (.faddr 5 (.t 4)), qn (.store 1 (.t 100) (.t 98))]
def Jq46 (p : Nums) : IC := (.region (Jq4r p) [])
@[simp] theorem Je46 {p : Nums} : EqI (Jq46 p) (.region (Jq4r p) []) := eqi
@[simp] def Jq4s (p : Nums) : List IOp := [qp 102 (.faddr 0 (.t 7)), qp 103 (.load none (.t 102)), qp 104 (.faddr 7 (.t 1)), qp 105 (.load none (.t 104)), qp 106 (.mov (.t 9)), qp 107 (.iaddr 1 (.t 105) (.t 106)), qp 108 (.load none (.t 107)), qp 109 (.call p.edge_Implies [(.t 103), (.t 108)]), qp 101 (.mov (.t 109)), qp 110 (.ext (.t 101) 0), qp 111 (.ext (.t 101) 1), qp 10 (.alloc [(zi 0), (zi 0)]), qm (.storeq 2 (.t 10) (.t 110) []), qo 11 (.asg (.t 111))]
def Jq47 (p : Nums) : IC := (.region (Jq4s p) [])
@[simp] theorem Je47 {p : Nums} : EqI (Jq47 p) (.region (Jq4s p) []) := eqi
@[simp] def Jq4t (p : Nums) : List IOp := [qo 114 (.mov (.t 11)), qo 115 (.mov (.t 5)), qo 116 (.mov (.t 8)), qo 117 (.faddr 0 (.t 4)), qn (.store 1 (.t 117) (.t 114)), qo 118 (.faddr 1 (.t 4)), qn (.store 1 (.t 118) (.t 115)), qo 119 (.faddr 2 (.t 4)), qn (.store 1 (.t 119) (.t 116))]
def Jq48 (p : Nums) : IC := (.region (Jq4t p) [])
@[simp] theorem Je48 {p : Nums} : EqI (Jq48 p) (.region (Jq4t p) []) := eqi
def Jq49 (p : Nums) : IC := (.seq (Jq45 p) (.seq (Jq46 p) (.seq (Jq47 p) (.seq (.region [⟨(some 112), (.mov (.t 11)), none, false⟩, ⟨(some 113), (.bin .neq (.t 112) (.c (.d (.int .i64 0)))), none, false⟩] []) (.cond (.t 113) (.seq (Jq48 p) (.exit 0)) .skip)))))
@[simp] theorem Je49 {p : Nums} : EqI (Jq49 p) (.seq (Jq45 p) (.seq (Jq46 p) (.seq (Jq47 p) (.seq (.region [⟨(some 112), (.mov (.t 11)), none, false⟩, ⟨(some 113), (.bin .neq (.t 112) (.c (.d (.int .i64 0)))), none, false⟩] []) (.cond (.t 113) (.seq (Jq48 p) (.exit 0)) .skip))))) := eqi
def Jq4a (p : Nums) : IC := (.seq (.region [⟨(some 78), (.bin .lss (.t 77) (.t 76)), none, false⟩] []) (.seq (.cond (.t 78) .skip (.exit 2)) (.seq (.block 3 (Jq49 p)) (.region [⟨(some 120), (.bin .add (.t 77) (.c (.d (.int .i64 1)))), none, false⟩, ⟨(some 77), (.mov (.t 120)), none, false⟩] []))))
@[simp] theorem Je4a {p : Nums} : EqI (Jq4a p) (.seq (.region [⟨(some 78), (.bin .lss (.t 77) (.t 76)), none, false⟩] []) (.seq (.cond (.t 78) .skip (.exit 2)) (.seq (.block 3 (Jq49 p)) (.region [⟨(some 120), (.bin .add (.t 77) (.c (.d (.int .i64 1)))), none, false⟩, ⟨(some 77), (.mov (.t 120)), none, false⟩] [])))) := eqi
def Jq4c (p : Nums) : IC := (.seq (Jq4j p) (.seq (Jq4k p) (.seq (Jq41 p) (.seq (.seq (Jq42 p) (.cond (.t 64) (.seq (Jq43 p) (.exit 0)) .skip)) (.seq (Jq44 p) (.block 2 (.loop (Jq4a p))))))))
@[simp] theorem Je4c {p : Nums} : EqI (Jq4c p) (.seq (Jq4j p) (.seq (Jq4k p) (.seq (Jq41 p) (.seq (.seq (Jq42 p) (.cond (.t 64) (.seq (Jq43 p) (.exit 0)) .skip)) (.seq (Jq44 p) (.block 2 (.loop (Jq4a p)))))))) := eqi
def Jq4d (p : Nums) : IC := (.seq (.region [⟨(some 29), (.bin .lss (.t 28) (.t 27)), none, false⟩] []) (.seq (.cond (.t 29) .skip (.exit 0)) (.seq (.block 1 (Jq4c p)) (.region [⟨(some 121), (.bin .add (.t 28) (.c (.d (.int .i64 1)))), none, false⟩, ⟨(some 28), (.mov (.t 121)), none, false⟩] []))))
@[simp] theorem Je4d {p : Nums} : EqI (Jq4d p) (.seq (.region [⟨(some 29), (.bin .lss (.t 28) (.t 27)), none, false⟩] []) (.seq (.cond (.t 29) .skip (.exit 0)) (.seq (.block 1 (Jq4c p)) (.region [⟨(some 121), (.bin .add (.t 28) (.c (.d (.int .i64 1)))), none, false⟩, ⟨(some 28), (.mov (.t 121)), none, false⟩] [])))) := eqi
def Jtaf (p : Nums) : IC := (.seq (Jq40 p) (.seq (.seq (Jq4b p) (.seq (.region [⟨(some 14), (.mov (.t 3)), none, false⟩, ⟨(some 15), (.bin .neq (.t 14) (.c (.d (.int .i64 0)))), none, false⟩] []) (.cond (.t 15) (.seq (Jq4e p) .ret) .skip))) (.seq (Jq4f p) (.seq (.seq (Jq4g p) (.cond (.t 22) (Jq4h p) .skip)) (.seq .skip (.seq (.seq (Jq4i p) (.block 0 (.loop (Jq4d p)))) (.seq (.region [⟨(some 122), (.load (some 7) (.t 4)), none, false⟩, ⟨none, (.store 7 (.t 2) (.t 122)), none, false⟩] []) .ret)))))))
@[simp] def Jqhl (p : Nums) : List IOp := [qo 3 (.faddr 0 (.t 1)), qo 4 (.load none (.t 3)), qo 5 (.bin .eql (.t 4) (ci 1))]
def Jqhh (p : Nums) : IC := (.region (Jqhl p) [])
@[simp] theorem Jehh {p : Nums} : EqI (Jqhh p) (.region (Jqhl p) []) := eqi
@[simp] def Jqhm (p : Nums) : List IOp := [qo 6 (.faddr 2 (.t 1)), qo 7 (.load none (.t 6)), qo 8 (.bslice 1 1 [(.int .i64 0)] [(0, (.t 7))]), qo 2 (.asg (.t 8))]
def Jqhi (p : Nums) : IC := (.region (Jqhm p) [])
@[simp] theorem Jehi {p : Nums} : EqI (Jqhi p) (.region (Jqhm p) []) := eqi
@[simp] def Jqhn (p : Nums) : List IOp := [qo 9 (.faddr 0 (.t 1)), qo 10 (.load none (.t 9)), qo 11 (.bin .eql (.t 10) (ci 2))]
def Jqhj (p : Nums) : IC := (.region (Jqhn p) [])
@[simp] theorem Jehj {p : Nums} : EqI (Jqhj p) (.region (Jqhn p) []) := eqi
@[simp] def Jqho (p : Nums) : List IOp := [qo 12 (.faddr 2 (.t 1)), qo 13 (.load none (.t 12)), qo 14 (.faddr 3 (.t 1)), qo 15 (.load none (.t 14)), qo 16 (.bslice 1 2 [(.int .i64 0)] [(0, (.t 13)), (1, (.t 15))]), qo 2 (.asg (.t 16))]
def Jqhk (p : Nums) : IC := (.region (Jqho p) [])
@[simp] theorem Jehk {p : Nums} : EqI (Jqhk p) (.region (Jqho p) []) := eqi
def Jtbt (p : Nums) : IC := (.seq (.region [⟨(some 1), (.box (.t 0)), none, false⟩, ⟨(some 2), (.asg (.c .nils)), none, false⟩] []) (.seq (.seq (Jqhh p) (.cond (.t 5) (.seq (Jqhi p) .ret) .skip)) (.seq (.seq (Jqhj p) (.cond (.t 11) (.seq (Jqhk p) .ret) .skip)) (.seq (.region [⟨(some 2), (.asg (.c .nils)), none, false⟩] []) .ret))))
@[simp] def Jq3v (p : Nums) : List IOp := [qp 8 (.faddr 0 (.t 2)), qp 9 (.load (some 3) (.t 8)), qp 10 (.call p.source_Code [(.t 9)]), qp 11 (.faddr 3 (.t 2)), qp 12 (.load (some 4) (.t 11)), qp 13 (.call p.machine_Code [(.t 12)]), qp 14 (.bin .add (.t 10) (.t 13)), qp 15 (.faddr 0 (.t 2)), qp 16 (.faddr 2 (.t 15)), qp 17 (.load none (.t 16)), qp 18 (.len (.t 17)), qo 19 (.bin .add (.t 14) (.t 18)), qo 20 (.bin .add (.t 19) (ci 1)), qo 5 (.asg (.t 20))]
def Jq3p (p : Nums) : IC := (.region (Jq3v p) [])
@[simp] theorem Je3p {p : Nums} : EqI (Jq3p p) (.region (Jq3v p) []) := eqi
@[simp] def Jq3w (p : Nums) : List IOp := [qo 21 (.faddr 0 (.t 2)), qo 22 (.faddr 2 (.t 21)), qo 23 (.load none (.t 22)), qo 24 (.len (.t 23)), qo 25 (.mov (ci 0))]
def Jq3q (p : Nums) : IC := (.region (Jq3w p) [])
@[simp] theorem Je3q {p : Nums} : EqI (Jq3q p) (.region (Jq3w p) []) := eqi
@[simp] def Jq3x (p : Nums) : List IOp := [qo 27 (.iaddr 5 (.t 23) (.t 25)), qo 28 (.load (some 5) (.t 27)), qo 7 (.alloc [.nils, (zi 0), (zi 0), (zi 0), (zi 0)]), qn (.store 5 (.t 7) (.t 28))]
def Jq3r (p : Nums) : IC := (.region (Jq3x p) [])
@[simp] theorem Je3r {p : Nums} : EqI (Jq3r p) (.region (Jq3x p) []) := eqi
@[simp] def Jq3y (p : Nums) : List IOp := [qo 29 (.mov (.t 5)), qo 30 (.faddr 1 (.t 7)), qo 31 (.load (some 4) (.t 30)), qo 32 (.call p.source_Successors [(.t 31)]), qo 33 (.len (.t 32)), qo 34 (.bin .add (.t 29) (.t 33)), qo 5 (.asg (.t 34))]
def Jq3s (p : Nums) : IC := (.region (Jq3y p) [])
@[simp] theorem Je3s {p : Nums} : EqI (Jq3s p) (.region (Jq3y p) []) := eqi
def Jq3t (p : Nums) : IC := (.seq (.region [⟨(some 26), (.bin .lss (.t 25) (.t 24)), none, false⟩] []) (.seq (.cond (.t 26) .skip (.exit 0)) (.seq (.block 1 (.seq (Jq3r p) (Jq3s p))) (.region [⟨(some 35), (.bin .add (.t 25) (.c (.d (.int .i64 1)))), none, false⟩, ⟨(some 25), (.mov (.t 35)), none, false⟩] []))))
@[simp] theorem Je3t {p : Nums} : EqI (Jq3t p) (.seq (.region [⟨(some 26), (.bin .lss (.t 25) (.t 24)), none, false⟩] []) (.seq (.cond (.t 26) .skip (.exit 0)) (.seq (.block 1 (.seq (Jq3r p) (Jq3s p))) (.region [⟨(some 35), (.bin .add (.t 25) (.c (.d (.int .i64 1)))), none, false⟩, ⟨(some 25), (.mov (.t 35)), none, false⟩] [])))) := eqi
@[simp] def Jq3z (p : Nums) : List IOp := [qo 36 (.mov (.t 5)), qo 37 (.bin .mul (ci 3) (.t 36)), qo 38 (.mov (.t 1)), qo 39 (.bin .add (.t 38) (ci 1)), qo 40 (.bin .mul (.t 37) (.t 39)), qo 4 (.asg (.t 40))]
def Jq3u (p : Nums) : IC := (.region (Jq3z p) [])
@[simp] theorem Je3u {p : Nums} : EqI (Jq3u p) (.region (Jq3z p) []) := eqi
def Jtae (p : Nums) : IC := (.seq (.region [⟨(some 2), (.box (.t 0)), none, false⟩, ⟨(some 4), (.asg (.c (.d (.int .i64 0)))), none, false⟩] []) (.seq (Jq3p p) (.seq (.seq (Jq3q p) (.block 0 (.loop (Jq3t p)))) (.seq (Jq3u p) .ret))))
@[simp] def Jqpz (p : Nums) : List IOp := [qo 4 (.box (.t 0)), qo 5 (.box (.t 1)), qo 8 (.alloc [.nils, (zi 0), (zi 0), (zi 0), (zi 0)])]
def Jqoy (p : Nums) : IC := (.region (Jqpz p) [])
@[simp] theorem Jeoy {p : Nums} : EqI (Jqoy p) (.region (Jqpz p) []) := eqi
@[simp] def Jqq9 (p : Nums) : List IOp := [qo 20 (.bslice 2 0 [(.int .i64 0), (.int .i64 0)] []), qo 21 (.mov (.t 2)), qo 22 (.app 2 16 (.t 20) (.t 21)), qo 23 (.mov (.t 2)), qo 24 (.len (.t 23)), qo 25 (.build [.nils, (zi 0), (zi 0), (zi 0), (zi 0)] [(0, 1, (.t 22)), (4, 1, (.t 24))]), qo 9 (.alloc [.nils, (zi 0), (zi 0), (zi 0), (zi 0)]), qn (.store 5 (.t 9) (.t 25))]
def Jqp9 (p : Nums) : IC := (.region (Jqq9 p) [])
@[simp] theorem Jep9 {p : Nums} : EqI (Jqp9 p) (.region (Jqq9 p) []) := eqi
@[simp] def Jqqj (p : Nums) : List IOp := [qo 26 (.mov (.t 2)), qo 27 (.len (.t 26)), qo 28 (.mov (.t 3)), qo 29 (.bin .gtr (.t 27) (.t 28))]
def Jqpk (p : Nums) : IC := (.region (Jqqj p) [])
@[simp] theorem Jepk {p : Nums} : EqI (Jqpk p) (.region (Jqqj p) []) := eqi
@[simp] def Jqqq (p : Nums) : List IOp := [qo 30 (.load (some 5) (.t 9)), qo 31 (.call p.ref14_fail [(.t 30), (ci 24), (ci 0)]), qn (.store 5 (.t 8) (.t 31))]
def Jqpt (p : Nums) : IC := (.region (Jqqq p) [])
@[simp] theorem Jept {p : Nums} : EqI (Jqpt p) (.region (Jqqq p) []) := eqi
@[simp] def Jqqr (p : Nums) : List IOp := [qo 33 (.faddr 0 (.t 4)), qo 34 (.load none (.t 33)), qo 35 (.faddr 0 (.t 5)), qo 36 (.load none (.t 35)), qo 37 (.call p.ref13_Code [(.t 34), (.t 36)]), qo 32 (.mov (.t 37)), qo 38 (.ext (.t 32) 0), qo 39 (.ext (.t 32) 1), qo 40 (.ext (.t 32) 2), qo 10 (.asg (.t 38)), qo 11 (.asg (.t 39)), qo 12 (.asg (.t 40))]
def Jqpu (p : Nums) : IC := (.region (Jqqr p) [])
@[simp] theorem Jepu {p : Nums} : EqI (Jqpu p) (.region (Jqqr p) []) := eqi
@[simp] def Jqqs (p : Nums) : List IOp := [qo 43 (.load (some 5) (.t 9)), qo 44 (.mov (.t 11)), qo 45 (.call p.ref14_fail [(.t 43), (ci 20), (.t 44)]), qn (.store 5 (.t 8) (.t 45))]
def Jqpv (p : Nums) : IC := (.region (Jqqs p) [])
@[simp] theorem Jepv {p : Nums} : EqI (Jqpv p) (.region (Jqqs p) []) := eqi
@[simp] def Jqqt (p : Nums) : List IOp := [qo 46 (.faddr 0 (.t 5)), qo 47 (.load none (.t 46)), qo 48 (.len (.t 47)), qo 13 (.asg (.t 48))]
def Jqpw (p : Nums) : IC := (.region (Jqqt p) [])
@[simp] theorem Jepw {p : Nums} : EqI (Jqpw p) (.region (Jqqt p) []) := eqi
@[simp] def Jqqu (p : Nums) : List IOp := [qo 49 (.faddr 1 (.t 4)), qo 50 (.load (some 4) (.t 49)), qo 51 (.faddr 1 (.t 5)), qo 52 (.load (some 4) (.t 51)), qo 53 (.call p.ref13_Terms [(.t 50), (.t 52)]), qo 54 (.un .not (.t 53))]
def Jqpx (p : Nums) : IC := (.region (Jqqu p) [])
@[simp] theorem Jepx {p : Nums} : EqI (Jqpx p) (.region (Jqqu p) []) := eqi
@[simp] def Jqqv (p : Nums) : List IOp := [qo 55 (.load (some 5) (.t 9)), qo 56 (.mov (.t 13)), qo 57 (.call p.ref14_fail [(.t 55), (ci 20), (.t 56)]), qn (.store 5 (.t 8) (.t 57))]
def Jqpy (p : Nums) : IC := (.region (Jqqv p) [])
@[simp] theorem Jepy {p : Nums} : EqI (Jqpy p) (.region (Jqqv p) []) := eqi
@[simp] def Jqq0 (p : Nums) : List IOp := [qo 58 (.mov (.t 14)), qo 59 (.mov (.t 10)), qo 60 (.len (.t 59)), qo 61 (.bin .lss (.t 58) (.t 60))]
def Jqoz (p : Nums) : IC := (.region (Jqq0 p) [])
@[simp] theorem Jeoz {p : Nums} : EqI (Jqoz p) (.region (Jqq0 p) []) := eqi
@[simp] def Jqq1 (p : Nums) : List IOp := [qo 64 (.mov (.t 10)), qo 65 (.mov (.t 14)), qo 66 (.iaddr 6 (.t 64) (.t 65)), qo 67 (.load (some 6) (.t 66)), qo 15 (.alloc [(zi 0), (zi 0), (zi 0), (zi 0), (zi 0), (zi 0)]), qn (.store 6 (.t 15) (.t 67))]
def Jqp0 (p : Nums) : IC := (.region (Jqq1 p) [])
@[simp] theorem Jep0 {p : Nums} : EqI (Jqp0 p) (.region (Jqq1 p) []) := eqi
@[simp] def Jqq2 (p : Nums) : List IOp := [qo 68 (.faddr 0 (.t 15)), qo 69 (.load none (.t 68)), qo 16 (.asg (.t 69))]
def Jqp1 (p : Nums) : IC := (.region (Jqq2 p) [])
@[simp] theorem Jep1 {p : Nums} : EqI (Jqp1 p) (.region (Jqq2 p) []) := eqi
@[simp] def Jqq3 (p : Nums) : List IOp := [qo 70 (.mov (.t 16)), qo 71 (.faddr 1 (.t 15)), qo 72 (.load none (.t 71)), qo 73 (.bin .lss (.t 70) (.t 72)), qo 74 (.mov (.t 73)), ⟨(some 75), (.faddr 1 (.t 9)), (some (74, true)), false⟩, ⟨(some 76), (.load none (.t 75)), (some (74, true)), false⟩, ⟨(some 77), (.bin .eql (.t 76) (ci 0)), (some (74, true)), false⟩, qo 78 (.pick (.t 74) (.t 77) (.c (.d (.bool false))))]
def Jqp2 (p : Nums) : IC := (.region (Jqq3 p) [])
@[simp] theorem Jep2 {p : Nums} : EqI (Jqp2 p) (.region (Jqq3 p) []) := eqi
@[simp] def Jqq4 (p : Nums) : List IOp := [qp 81 (.load (some 5) (.t 9)), qp 82 (.faddr 0 (.t 9)), qp 83 (.load none (.t 82)), qp 84 (.faddr 0 (.t 4)), qp 85 (.load none (.t 84)), qp 86 (.mov (.t 16)), qp 87 (.iaddr 5 (.t 85) (.t 86)), qp 88 (.faddr 1 (.t 87)), qp 89 (.load none (.t 88)), qp 90 (.faddr 0 (.t 4)), qp 91 (.load none (.t 90)), qp 92 (.mov (.t 16)), qp 93 (.iaddr 5 (.t 91) (.t 92)), qp 94 (.faddr 2 (.t 93)), qp 95 (.load none (.t 94)), qp 96 (.call p.ref12_Copy [(.t 83), (.t 89), (.t 95)]), qp 97 (.mov (.t 3)), qp 98 (.faddr 2 (.t 15)), qp 99 (.load none (.t 98)), qo 100 (.call p.ref14_grow [(.t 81), (.t 96), (.t 97), (.t 99)]), qn (.store 5 (.t 9) (.t 100))]
def Jqp3 (p : Nums) : IC := (.region (Jqq4 p) [])
@[simp] theorem Jep3 {p : Nums} : EqI (Jqp3 p) (.region (Jqq4 p) []) := eqi
@[simp] def Jqq5 (p : Nums) : List IOp := [qo 79 (.mov (.t 16)), qo 80 (.bin .add (.t 79) (ci 1)), qo 16 (.asg (.t 80))]
def Jqp4 (p : Nums) : IC := (.region (Jqq5 p) [])
@[simp] theorem Jep4 {p : Nums} : EqI (Jqp4 p) (.region (Jqq5 p) []) := eqi
def Jqp5 (p : Nums) : IC := (.seq (.seq (Jqp2 p) (.cond (.t 78) .skip (.exit 2))) (.seq (.block 3 (Jqp3 p)) (Jqp4 p)))
@[simp] theorem Jep5 {p : Nums} : EqI (Jqp5 p) (.seq (.seq (Jqp2 p) (.cond (.t 78) .skip (.exit 2))) (.seq (.block 3 (Jqp3 p)) (Jqp4 p))) := eqi
@[simp] def Jqq6 (p : Nums) : List IOp := [qo 101 (.faddr 2 (.t 15)), qo 102 (.load none (.t 101)), qo 17 (.asg (.t 102))]
def Jqp6 (p : Nums) : IC := (.region (Jqq6 p) [])
@[simp] theorem Jep6 {p : Nums} : EqI (Jqp6 p) (.region (Jqq6 p) []) := eqi
@[simp] def Jqq7 (p : Nums) : List IOp := [qo 103 (.mov (.t 17)), qo 104 (.faddr 3 (.t 15)), qo 105 (.load none (.t 104)), qo 106 (.bin .lss (.t 103) (.t 105)), qo 107 (.mov (.t 106)), ⟨(some 108), (.faddr 1 (.t 9)), (some (107, true)), false⟩, ⟨(some 109), (.load none (.t 108)), (some (107, true)), false⟩, ⟨(some 110), (.bin .eql (.t 109) (ci 0)), (some (107, true)), false⟩, qo 111 (.pick (.t 107) (.t 110) (.c (.d (.bool false))))]
def Jqp7 (p : Nums) : IC := (.region (Jqq7 p) [])
@[simp] theorem Jep7 {p : Nums} : EqI (Jqp7 p) (.region (Jqq7 p) []) := eqi
@[simp] def Jqq8 (p : Nums) : List IOp := [qp 114 (.load (some 5) (.t 9)), qp 115 (.faddr 0 (.t 9)), qp 116 (.load none (.t 115)), qp 117 (.faddr 0 (.t 5)), qp 118 (.load none (.t 117)), qp 119 (.mov (.t 17)), qp 120 (.iaddr 7 (.t 118) (.t 119)), qp 121 (.faddr 5 (.t 120)), qp 122 (.load none (.t 121)), qp 123 (.faddr 0 (.t 5)), qp 124 (.load none (.t 123)), qp 125 (.mov (.t 17)), qp 126 (.iaddr 7 (.t 124) (.t 125)), qp 127 (.faddr 6 (.t 126)), qp 128 (.load none (.t 127)), qp 129 (.call p.ref12_Move [(.t 116), (.t 122), (.t 128)]), qp 130 (.mov (.t 3)), qp 131 (.mov (.t 17)), qo 132 (.call p.ref14_grow [(.t 114), (.t 129), (.t 130), (.t 131)]), qn (.store 5 (.t 9) (.t 132))]
def Jqp8 (p : Nums) : IC := (.region (Jqq8 p) [])
@[simp] theorem Jep8 {p : Nums} : EqI (Jqp8 p) (.region (Jqq8 p) []) := eqi
@[simp] def Jqqa (p : Nums) : List IOp := [qo 112 (.mov (.t 17)), qo 113 (.bin .add (.t 112) (ci 1)), qo 17 (.asg (.t 113))]
def Jqpa (p : Nums) : IC := (.region (Jqqa p) [])
@[simp] theorem Jepa {p : Nums} : EqI (Jqpa p) (.region (Jqqa p) []) := eqi
def Jqpb (p : Nums) : IC := (.seq (.seq (Jqp7 p) (.cond (.t 111) .skip (.exit 4))) (.seq (.block 5 (Jqp8 p)) (Jqpa p)))
@[simp] theorem Jepb {p : Nums} : EqI (Jqpb p) (.seq (.seq (Jqp7 p) (.cond (.t 111) .skip (.exit 4))) (.seq (.block 5 (Jqp8 p)) (Jqpa p))) := eqi
@[simp] def Jqqb (p : Nums) : List IOp := [qo 133 (.faddr 4 (.t 15)), qo 134 (.load none (.t 133)), qo 135 (.bin .lss (.t 134) (ci 0)), qo 136 (.mov (.t 135)), ⟨(some 137), (.faddr 1 (.t 9)), (some (136, false)), false⟩, ⟨(some 138), (.load none (.t 137)), (some (136, false)), false⟩, ⟨(some 139), (.bin .neq (.t 138) (ci 0)), (some (136, false)), false⟩, qo 140 (.pick (.t 136) (.c (.d (.bool true))) (.t 139))]
def Jqpc (p : Nums) : IC := (.region (Jqqb p) [])
@[simp] theorem Jepc {p : Nums} : EqI (Jqpc p) (.region (Jqqb p) []) := eqi
@[simp] def Jqqc (p : Nums) : List IOp := [qo 141 (.faddr 0 (.t 4)), qo 142 (.load none (.t 141)), qo 143 (.faddr 4 (.t 15)), qo 144 (.load none (.t 143)), qo 145 (.iaddr 5 (.t 142) (.t 144)), qo 146 (.load (some 5) (.t 145)), qo 18 (.alloc [(zi 0), (zi 0), (zi 0), (zi 0), (zi 0)]), qn (.store 5 (.t 18) (.t 146))]
def Jqpd (p : Nums) : IC := (.region (Jqqc p) [])
@[simp] theorem Jepd {p : Nums} : EqI (Jqpd p) (.region (Jqqc p) []) := eqi
@[simp] def Jqqd (p : Nums) : List IOp := [qo 147 (.faddr 0 (.t 5)), qo 148 (.load none (.t 147)), qo 149 (.faddr 5 (.t 15)), qo 150 (.load none (.t 149)), qo 151 (.iaddr 7 (.t 148) (.t 150)), qo 152 (.load (some 7) (.t 151)), qo 19 (.alloc [(zi 0), (zi 0), (zi 0), (zi 0), (zi 0), (zi 0), (zi 0)]), qn (.store 7 (.t 19) (.t 152))]
def Jqpe (p : Nums) : IC := (.region (Jqqd p) [])
@[simp] theorem Jepe {p : Nums} : EqI (Jqpe p) (.region (Jqqd p) []) := eqi
@[simp] def Jqqe (p : Nums) : List IOp := [qo 153 (.faddr 0 (.t 18)), qo 154 (.load none (.t 153)), qo 155 (.call p.ref05_UsesA [(.t 154)])]
def Jqpf (p : Nums) : IC := (.region (Jqqe p) [])
@[simp] theorem Jepf {p : Nums} : EqI (Jqpf p) (.region (Jqqe p) []) := eqi
@[simp] def Jqqf (p : Nums) : List IOp := [qo 156 (.load (some 5) (.t 9)), qo 157 (.faddr 2 (.t 18)), qo 158 (.load none (.t 157)), qo 159 (.faddr 2 (.t 19)), qo 160 (.load none (.t 159)), qo 161 (.faddr 5 (.t 15)), qo 162 (.load none (.t 161)), qo 163 (.call p.ref14_use [(.t 156), (.t 158), (.t 160), (.t 162)]), qn (.store 5 (.t 9) (.t 163))]
def Jqpg (p : Nums) : IC := (.region (Jqqf p) [])
@[simp] theorem Jepg {p : Nums} : EqI (Jqpg p) (.region (Jqqf p) []) := eqi
@[simp] def Jqqg (p : Nums) : List IOp := [qo 164 (.faddr 0 (.t 18)), qo 165 (.load none (.t 164)), qo 166 (.call p.ref05_UsesB [(.t 165)]), qo 167 (.mov (.t 166)), ⟨(some 168), (.faddr 1 (.t 9)), (some (167, true)), false⟩, ⟨(some 169), (.load none (.t 168)), (some (167, true)), false⟩, ⟨(some 170), (.bin .eql (.t 169) (ci 0)), (some (167, true)), false⟩, qo 171 (.pick (.t 167) (.t 170) (.c (.d (.bool false))))]
def Jqph (p : Nums) : IC := (.region (Jqqg p) [])
@[simp] theorem Jeph {p : Nums} : EqI (Jqph p) (.region (Jqqg p) []) := eqi
@[simp] def Jqqh (p : Nums) : List IOp := [qo 172 (.load (some 5) (.t 9)), qo 173 (.faddr 3 (.t 18)), qo 174 (.load none (.t 173)), qo 175 (.faddr 3 (.t 19)), qo 176 (.load none (.t 175)), qo 177 (.faddr 5 (.t 15)), qo 178 (.load none (.t 177)), qo 179 (.call p.ref14_use [(.t 172), (.t 174), (.t 176), (.t 178)]), qn (.store 5 (.t 9) (.t 179))]
def Jqpi (p : Nums) : IC := (.region (Jqqh p) [])
@[simp] theorem Jepi {p : Nums} : EqI (Jqpi p) (.region (Jqqh p) []) := eqi
@[simp] def Jqqi (p : Nums) : List IOp := [qo 180 (.faddr 0 (.t 18)), qo 181 (.load none (.t 180)), qo 182 (.call p.ref05_UsesD [(.t 181)]), qo 183 (.mov (.t 182)), ⟨(some 184), (.faddr 1 (.t 9)), (some (183, true)), false⟩, ⟨(some 185), (.load none (.t 184)), (some (183, true)), false⟩, ⟨(some 186), (.bin .eql (.t 185) (ci 0)), (some (183, true)), false⟩, qo 187 (.pick (.t 183) (.t 186) (.c (.d (.bool false))))]
def Jqpj (p : Nums) : IC := (.region (Jqqi p) [])
@[simp] theorem Jepj {p : Nums} : EqI (Jqpj p) (.region (Jqqi p) []) := eqi
@[simp] def Jqqk (p : Nums) : List IOp := [qp 188 (.load (some 5) (.t 9)), qp 189 (.faddr 0 (.t 9)), qp 190 (.load none (.t 189)), qp 191 (.faddr 1 (.t 18)), qp 192 (.load none (.t 191)), qp 193 (.faddr 1 (.t 19)), qp 194 (.load none (.t 193)), qp 195 (.bin .mul (ci 2) (.t 194)), qp 196 (.call p.ref12_Define [(.t 190), (.t 192), (.t 195)]), qp 197 (.mov (.t 3)), qp 198 (.faddr 5 (.t 15)), qp 199 (.load none (.t 198)), qo 200 (.call p.ref14_grow [(.t 188), (.t 196), (.t 197), (.t 199)]), qn (.store 5 (.t 9) (.t 200))]
def Jqpl (p : Nums) : IC := (.region (Jqqk p) [])
@[simp] theorem Jepl {p : Nums} : EqI (Jqpl p) (.region (Jqqk p) []) := eqi
def Jqpm (p : Nums) : IC := (.seq (Jqp0 p) (.seq (.seq (Jqp1 p) (.block 2 (.loop (Jqp5 p)))) (.seq (.seq (Jqp6 p) (.block 4 (.loop (Jqpb p)))) (.seq (.seq (Jqpc p) (.cond (.t 140) (.exit 1) .skip)) (.seq (Jqpd p) (.seq (Jqpe p) (.seq (.seq (Jqpf p) (.cond (.t 155) (Jqpg p) .skip)) (.seq (.seq (Jqph p) (.cond (.t 171) (Jqpi p) .skip)) (.seq (Jqpj p) (.cond (.t 187) (Jqpl p) .skip))))))))))
@[simp] theorem Jepm {p : Nums} : EqI (Jqpm p) (.seq (Jqp0 p) (.seq (.seq (Jqp1 p) (.block 2 (.loop (Jqp5 p)))) (.seq (.seq (Jqp6 p) (.block 4 (.loop (Jqpb p)))) (.seq (.seq (Jqpc p) (.cond (.t 140) (.exit 1) .skip)) (.seq (Jqpd p) (.seq (Jqpe p) (.seq (.seq (Jqpf p) (.cond (.t 155) (Jqpg p) .skip)) (.seq (.seq (Jqph p) (.cond (.t 171) (Jqpi p) .skip)) (.seq (Jqpj p) (.cond (.t 187) (Jqpl p) .skip)))))))))) := eqi
@[simp] def Jqql (p : Nums) : List IOp := [qo 62 (.mov (.t 14)), qo 63 (.bin .add (.t 62) (ci 1)), qo 14 (.asg (.t 63))]
def Jqpn (p : Nums) : IC := (.region (Jqql p) [])
@[simp] theorem Jepn {p : Nums} : EqI (Jqpn p) (.region (Jqql p) []) := eqi
def Jqpo (p : Nums) : IC := (.seq (.seq (Jqoz p) (.cond (.t 61) .skip (.exit 0))) (.seq (.block 1 (Jqpm p)) (Jqpn p)))
@[simp] theorem Jepo {p : Nums} : EqI (Jqpo p) (.seq (.seq (Jqoz p) (.cond (.t 61) .skip (.exit 0))) (.seq (.block 1 (Jqpm p)) (Jqpn p))) := eqi
@[simp] def Jqqm (p : Nums) : List IOp := [qo 201 (.faddr 1 (.t 4)), qo 202 (.faddr 0 (.t 201)), qo 203 (.load none (.t 202)), qo 204 (.bin .neq (.t 203) (ci 1)), qo 205 (.mov (.t 204)), ⟨(some 206), (.faddr 1 (.t 9)), (some (205, true)), false⟩, ⟨(some 207), (.load none (.t 206)), (some (205, true)), false⟩, ⟨(some 208), (.bin .eql (.t 207) (ci 0)), (some (205, true)), false⟩, qo 209 (.pick (.t 205) (.t 208) (.c (.d (.bool false))))]
def Jqpp (p : Nums) : IC := (.region (Jqqm p) [])
@[simp] theorem Jepp {p : Nums} : EqI (Jqpp p) (.region (Jqqm p) []) := eqi
@[simp] def Jqqn (p : Nums) : List IOp := [qo 210 (.load (some 5) (.t 9)), qo 211 (.faddr 1 (.t 4)), qo 212 (.faddr 1 (.t 211)), qo 213 (.load none (.t 212)), qo 214 (.faddr 1 (.t 5)), qo 215 (.faddr 1 (.t 214)), qo 216 (.load none (.t 215)), qo 217 (.mov (.t 13)), qo 218 (.call p.ref14_use [(.t 210), (.t 213), (.t 216), (.t 217)]), qn (.store 5 (.t 9) (.t 218))]
def Jqpq (p : Nums) : IC := (.region (Jqqn p) [])
@[simp] theorem Jepq {p : Nums} : EqI (Jqpq p) (.region (Jqqn p) []) := eqi
@[simp] def Jqqo (p : Nums) : List IOp := [qo 219 (.faddr 1 (.t 9)), qo 220 (.load none (.t 219)), qo 221 (.bin .eql (.t 220) (ci 0))]
def Jqpr (p : Nums) : IC := (.region (Jqqo p) [])
@[simp] theorem Jepr {p : Nums} : EqI (Jqpr p) (.region (Jqqo p) []) := eqi
@[simp] def Jqqp (p : Nums) : List IOp := [qo 222 (.mov (.t 13)), qo 223 (.faddr 2 (.t 9)), qn (.store 1 (.t 223) (.t 222))]
def Jqps (p : Nums) : IC := (.region (Jqqp p) [])
@[simp] theorem Jeps {p : Nums} : EqI (Jqps p) (.region (Jqqp p) []) := eqi
def Jtcd (p : Nums) : IC := (.seq (Jqoy p) (.seq (Jqp9 p) (.seq (.seq (Jqpk p) (.cond (.t 29) (.seq (Jqpt p) .ret) .skip)) (.seq (Jqpu p) (.seq (.seq (.region [⟨(some 41), (.mov (.t 12)), none, false⟩, ⟨(some 42), (.bin .neq (.t 41) (.c (.d (.int .i64 0)))), none, false⟩] []) (.cond (.t 42) (.seq (Jqpv p) .ret) .skip)) (.seq (Jqpw p) (.seq (.seq (Jqpx p) (.cond (.t 54) (.seq (Jqpy p) .ret) .skip)) (.seq (.seq (.region [⟨(some 14), (.asg (.c (.d (.int .i64 0)))), none, false⟩] []) (.block 0 (.loop (Jqpo p)))) (.seq (.seq (Jqpp p) (.cond (.t 209) (Jqpq p) .skip)) (.seq (.seq (Jqpr p) (.cond (.t 221) (Jqps p) .skip)) (.seq (.region [⟨(some 224), (.load (some 5) (.t 9)), none, false⟩, ⟨none, (.store 5 (.t 8) (.t 224)), none, false⟩] []) .ret)))))))))))
@[simp] def Jqm4 (p : Nums) : List IOp := [qo 4 (.alloc [(zi 0), (zi 0)]), qo 5 (.asg (.c (.d (.bool false))))]
def Jqlw (p : Nums) : IC := (.region (Jqm4 p) [])
@[simp] theorem Jelw {p : Nums} : EqI (Jqlw p) (.region (Jqm4 p) []) := eqi
@[simp] def Jqm5 (p : Nums) : List IOp := [qo 7 (.mov (.t 6)), qo 8 (.mov (.t 0)), qo 9 (.len (.t 8)), qo 10 (.bin .lss (.t 7) (.t 9))]
def Jqlx (p : Nums) : IC := (.region (Jqm5 p) [])
@[simp] theorem Jelx {p : Nums} : EqI (Jqlx p) (.region (Jqm5 p) []) := eqi
@[simp] def Jqm6 (p : Nums) : List IOp := [qo 13 (.mov (.t 1)), qo 14 (.mov (.t 0)), qo 15 (.mov (.t 6)), qo 16 (.iaddr 2 (.t 14) (.t 15)), qo 17 (.load (some 2) (.t 16)), qo 18 (.call p.ref11_Has [(.t 13), (.t 17)]), qo 19 (.un .not (.t 18))]
def Jqly (p : Nums) : IC := (.region (Jqm6 p) [])
@[simp] theorem Jely {p : Nums} : EqI (Jqly p) (.region (Jqm6 p) []) := eqi
@[simp] def Jqm7 (p : Nums) : List IOp := [qo 20 (.mov (.t 0)), qo 21 (.mov (.t 6)), qo 22 (.iaddr 2 (.t 20) (.t 21)), qo 23 (.load (some 2) (.t 22)), qn (.store 2 (.t 4) (.t 23)), qo 5 (.asg (.c (.d (.bool true))))]
def Jqlz (p : Nums) : IC := (.region (Jqm7 p) [])
@[simp] theorem Jelz {p : Nums} : EqI (Jqlz p) (.region (Jqm7 p) []) := eqi
def Jqm0 (p : Nums) : IC := (.seq (Jqly p) (.cond (.t 19) (.seq (Jqlz p) .ret) .skip))
@[simp] theorem Jem0 {p : Nums} : EqI (Jqm0 p) (.seq (Jqly p) (.cond (.t 19) (.seq (Jqlz p) .ret) .skip)) := eqi
@[simp] def Jqm8 (p : Nums) : List IOp := [qo 11 (.mov (.t 6)), qo 12 (.bin .add (.t 11) (ci 1)), qo 6 (.asg (.t 12))]
def Jqm1 (p : Nums) : IC := (.region (Jqm8 p) [])
@[simp] theorem Jem1 {p : Nums} : EqI (Jqm1 p) (.region (Jqm8 p) []) := eqi
def Jqm2 (p : Nums) : IC := (.seq (.seq (Jqlx p) (.cond (.t 10) .skip (.exit 0))) (.seq (.block 1 (Jqm0 p)) (Jqm1 p)))
@[simp] theorem Jem2 {p : Nums} : EqI (Jqm2 p) (.seq (.seq (Jqlx p) (.cond (.t 10) .skip (.exit 0))) (.seq (.block 1 (Jqm0 p)) (Jqm1 p))) := eqi
@[simp] def Jqm9 (p : Nums) : List IOp := [qo 24 (.build [(zi 0), (zi 0)] []), qn (.store 2 (.t 4) (.t 24)), qo 5 (.asg (.c (.d (.bool false))))]
def Jqm3 (p : Nums) : IC := (.region (Jqm9 p) [])
@[simp] theorem Jem3 {p : Nums} : EqI (Jqm3 p) (.region (Jqm9 p) []) := eqi
def Jtc4 (p : Nums) : IC := (.seq (Jqlw p) (.seq (.seq (.region [⟨(some 6), (.asg (.c (.d (.int .i64 0)))), none, false⟩] []) (.block 0 (.loop (Jqm2 p)))) (.seq (Jqm3 p) .ret)))
@[simp] def Jqh0 (p : Nums) : List IOp := [qo 4 (.faddr 2 (.t 1)), qo 5 (.load none (.t 4)), qo 6 (.len (.t 5)), qo 7 (.bin .gtr (.t 6) (ci 40)), qo 8 (.mov (.t 7)), ⟨(some 9), (.faddr 1 (.t 1)), (some (8, false)), false⟩, ⟨(some 10), (.load none (.t 9)), (some (8, false)), false⟩, ⟨(some 11), (.bin .gtr (.t 10) (ci 60)), (some (8, false)), false⟩, qo 12 (.pick (.t 8) (.c (.d (.bool true))) (.t 11))]
def Jqgr (p : Nums) : IC := (.region (Jqh0 p) [])
@[simp] theorem Jegr {p : Nums} : EqI (Jqgr p) (.region (Jqh0 p) []) := eqi
def Jqgs (p : Nums) : IC := (.seq (.region [⟨(some 2), (.asg (.c (.d (.bool false)))), none, false⟩] []) .ret)
@[simp] theorem Jegs {p : Nums} : EqI (Jqgs p) (.seq (.region [⟨(some 2), (.asg (.c (.d (.bool false)))), none, false⟩] []) .ret) := eqi
@[simp] def Jqh1 (p : Nums) : List IOp := [qo 13 (.mov (.t 3)), qo 14 (.faddr 2 (.t 1)), qo 15 (.load none (.t 14)), qo 16 (.len (.t 15)), qo 17 (.bin .lss (.t 13) (.t 16))]
def Jqgt (p : Nums) : IC := (.region (Jqh1 p) [])
@[simp] theorem Jegt {p : Nums} : EqI (Jqgt p) (.region (Jqh1 p) []) := eqi
@[simp] def Jqh2 (p : Nums) : List IOp := [qo 20 (.faddr 2 (.t 1)), qo 21 (.load none (.t 20)), qo 22 (.mov (.t 3)), qo 23 (.iaddr 5 (.t 21) (.t 22)), qo 24 (.faddr 0 (.t 23)), qo 25 (.load none (.t 24)), qo 26 (.len (.t 25)), qo 27 (.bin .gtr (.t 26) (ci 100))]
def Jqgu (p : Nums) : IC := (.region (Jqh2 p) [])
@[simp] theorem Jegu {p : Nums} : EqI (Jqgu p) (.region (Jqh2 p) []) := eqi
def Jqgv (p : Nums) : IC := (.seq (.region [⟨(some 2), (.asg (.c (.d (.bool false)))), none, false⟩] []) .ret)
@[simp] theorem Jegv {p : Nums} : EqI (Jqgv p) (.seq (.region [⟨(some 2), (.asg (.c (.d (.bool false)))), none, false⟩] []) .ret) := eqi
def Jqgw (p : Nums) : IC := (.seq (Jqgu p) (.cond (.t 27) (Jqgv p) .skip))
@[simp] theorem Jegw {p : Nums} : EqI (Jqgw p) (.seq (Jqgu p) (.cond (.t 27) (Jqgv p) .skip)) := eqi
@[simp] def Jqh3 (p : Nums) : List IOp := [qo 18 (.mov (.t 3)), qo 19 (.bin .add (.t 18) (ci 1)), qo 3 (.asg (.t 19))]
def Jqgx (p : Nums) : IC := (.region (Jqh3 p) [])
@[simp] theorem Jegx {p : Nums} : EqI (Jqgx p) (.region (Jqh3 p) []) := eqi
def Jqgy (p : Nums) : IC := (.seq (.seq (Jqgt p) (.cond (.t 17) .skip (.exit 0))) (.seq (.block 1 (Jqgw p)) (Jqgx p)))
@[simp] theorem Jegy {p : Nums} : EqI (Jqgy p) (.seq (.seq (Jqgt p) (.cond (.t 17) .skip (.exit 0))) (.seq (.block 1 (Jqgw p)) (Jqgx p))) := eqi
@[simp] def Jqh4 (p : Nums) : List IOp := [qo 28 (.load (some 3) (.t 1)), qo 29 (.call p.ref07_Code [(.t 28)]), qo 30 (.bin .leq (.t 29) (ci 300)), qo 2 (.asg (.t 30))]
def Jqgz (p : Nums) : IC := (.region (Jqh4 p) [])
@[simp] theorem Jegz {p : Nums} : EqI (Jqgz p) (.region (Jqh4 p) []) := eqi
def Jtbr (p : Nums) : IC := (.seq (.region [⟨(some 1), (.box (.t 0)), none, false⟩, ⟨(some 2), (.asg (.c (.d (.bool false)))), none, false⟩] []) (.seq (.seq (Jqgr p) (.cond (.t 12) (Jqgs p) .skip)) (.seq (.seq (.region [⟨(some 3), (.asg (.c (.d (.int .i64 0)))), none, false⟩] []) (.block 0 (.loop (Jqgy p)))) (.seq (Jqgz p) .ret))))
@[simp] def Jqg9 (p : Nums) : List IOp := [qo 8 (.faddr 0 (.t 1)), qo 9 (.load none (.t 8)), qo 10 (.bin .lss (.t 9) (ci 0)), qo 11 (.mov (.t 10)), ⟨(some 12), (.faddr 0 (.t 1)), (some (11, false)), false⟩, ⟨(some 13), (.load none (.t 12)), (some (11, false)), false⟩, ⟨(some 14), (.faddr 1 (.t 1)), (some (11, false)), false⟩, ⟨(some 15), (.load none (.t 14)), (some (11, false)), false⟩, ⟨(some 16), (.bin .gtr (.t 13) (.t 15)), (some (11, false)), false⟩, qo 17 (.pick (.t 11) (.c (.d (.bool true))) (.t 16))]
def Jqfo (p : Nums) : IC := (.region (Jqg9 p) [])
@[simp] theorem Jefo {p : Nums} : EqI (Jqfo p) (.region (Jqg9 p) []) := eqi
def Jqfz (p : Nums) : IC := (.seq (.region [⟨(some 2), (.asg (.c (.d (.int .i64 9)))), none, false⟩] []) .ret)
@[simp] theorem Jefz {p : Nums} : EqI (Jqfz p) (.seq (.region [⟨(some 2), (.asg (.c (.d (.int .i64 9)))), none, false⟩] []) .ret) := eqi
@[simp] def Jqgg (p : Nums) : List IOp := [qo 18 (.faddr 1 (.t 1)), qo 19 (.load none (.t 18)), qo 20 (.bin .gtr (.t 19) (ci 1048576))]
def Jqg2 (p : Nums) : IC := (.region (Jqgg p) [])
@[simp] theorem Jeg2 {p : Nums} : EqI (Jqg2 p) (.region (Jqgg p) []) := eqi
def Jqg3 (p : Nums) : IC := (.seq (.region [⟨(some 2), (.asg (.c (.d (.int .i64 6)))), none, false⟩] []) .ret)
@[simp] theorem Jeg3 {p : Nums} : EqI (Jqg3 p) (.seq (.region [⟨(some 2), (.asg (.c (.d (.int .i64 6)))), none, false⟩] []) .ret) := eqi
@[simp] def Jqgh (p : Nums) : List IOp := [qo 21 (.faddr 2 (.t 1)), qo 22 (.load none (.t 21)), qo 23 (.len (.t 22)), qo 24 (.bin .eql (.t 23) (ci 0))]
def Jqg4 (p : Nums) : IC := (.region (Jqgh p) [])
@[simp] theorem Jeg4 {p : Nums} : EqI (Jqg4 p) (.region (Jqgh p) []) := eqi
def Jqg5 (p : Nums) : IC := (.seq (.region [⟨(some 2), (.asg (.c (.d (.int .i64 14)))), none, false⟩] []) .ret)
@[simp] theorem Jeg5 {p : Nums} : EqI (Jqg5 p) (.seq (.region [⟨(some 2), (.asg (.c (.d (.int .i64 14)))), none, false⟩] []) .ret) := eqi
@[simp] def Jqgi (p : Nums) : List IOp := [qo 25 (.faddr 2 (.t 1)), qo 26 (.load none (.t 25)), qo 27 (.len (.t 26)), qo 28 (.bin .gtr (.t 27) (ci 1048576)), qo 29 (.mov (.t 28)), ⟨(some 30), (.load (some 3) (.t 1)), (some (29, false)), false⟩, ⟨(some 31), (.call p.ref07_Code [(.t 30)]), (some (29, false)), false⟩, ⟨(some 32), (.bin .gtr (.t 31) (ci 1048576)), (some (29, false)), false⟩, qo 33 (.pick (.t 29) (.c (.d (.bool true))) (.t 32))]
def Jqg6 (p : Nums) : IC := (.region (Jqgi p) [])
@[simp] theorem Jeg6 {p : Nums} : EqI (Jqg6 p) (.region (Jqgi p) []) := eqi
def Jqg7 (p : Nums) : IC := (.seq (.region [⟨(some 2), (.asg (.c (.d (.int .i64 6)))), none, false⟩] []) .ret)
@[simp] theorem Jeg7 {p : Nums} : EqI (Jqg7 p) (.seq (.region [⟨(some 2), (.asg (.c (.d (.int .i64 6)))), none, false⟩] []) .ret) := eqi
@[simp] def Jqgj (p : Nums) : List IOp := [qo 34 (.mov (.t 3)), qo 35 (.faddr 2 (.t 1)), qo 36 (.load none (.t 35)), qo 37 (.len (.t 36)), qo 38 (.bin .lss (.t 34) (.t 37))]
def Jqg8 (p : Nums) : IC := (.region (Jqgj p) [])
@[simp] theorem Jeg8 {p : Nums} : EqI (Jqg8 p) (.region (Jqgj p) []) := eqi
@[simp] def Jqga (p : Nums) : List IOp := [qo 41 (.faddr 2 (.t 1)), qo 42 (.load none (.t 41)), qo 43 (.mov (.t 3)), qo 44 (.iaddr 5 (.t 42) (.t 43)), qo 45 (.load (some 5) (.t 44)), qo 4 (.alloc [.nils, (zi 0), (zi 0), (zi 0), (zi 0)]), qn (.store 5 (.t 4) (.t 45))]
def Jqfp (p : Nums) : IC := (.region (Jqga p) [])
@[simp] theorem Jefp {p : Nums} : EqI (Jqfp p) (.region (Jqga p) []) := eqi
@[simp] def Jqgb (p : Nums) : List IOp := [qo 46 (.mov (.t 5)), qo 47 (.faddr 0 (.t 4)), qo 48 (.load none (.t 47)), qo 49 (.len (.t 48)), qo 50 (.bin .lss (.t 46) (.t 49))]
def Jqfq (p : Nums) : IC := (.region (Jqgb p) [])
@[simp] theorem Jefq {p : Nums} : EqI (Jqfq p) (.region (Jqgb p) []) := eqi
@[simp] def Jqgc (p : Nums) : List IOp := [qp 53 (.faddr 0 (.t 4)), qp 54 (.load none (.t 53)), qp 55 (.mov (.t 5)), qp 56 (.iaddr 5 (.t 54) (.t 55)), qp 57 (.load (some 5) (.t 56)), qp 58 (.faddr 1 (.t 1)), qp 59 (.load none (.t 58)), qo 60 (.call p.ref07_Instr [(.t 57), (.t 59)]), qo 6 (.asg (.t 60))]
def Jqfr (p : Nums) : IC := (.region (Jqgc p) [])
@[simp] theorem Jefr {p : Nums} : EqI (Jqfr p) (.region (Jqgc p) []) := eqi
def Jqfs (p : Nums) : IC := (.seq (.region [⟨(some 63), (.mov (.t 6)), none, false⟩, ⟨(some 2), (.asg (.t 63)), none, false⟩] []) .ret)
@[simp] theorem Jefs {p : Nums} : EqI (Jqfs p) (.seq (.region [⟨(some 63), (.mov (.t 6)), none, false⟩, ⟨(some 2), (.asg (.t 63)), none, false⟩] []) .ret) := eqi
def Jqft (p : Nums) : IC := (.seq (Jqfr p) (.seq (.region [⟨(some 61), (.mov (.t 6)), none, false⟩, ⟨(some 62), (.bin .neq (.t 61) (.c (.d (.int .i64 0)))), none, false⟩] []) (.cond (.t 62) (Jqfs p) .skip)))
@[simp] theorem Jeft {p : Nums} : EqI (Jqft p) (.seq (Jqfr p) (.seq (.region [⟨(some 61), (.mov (.t 6)), none, false⟩, ⟨(some 62), (.bin .neq (.t 61) (.c (.d (.int .i64 0)))), none, false⟩] []) (.cond (.t 62) (Jqfs p) .skip))) := eqi
@[simp] def Jqgd (p : Nums) : List IOp := [qo 51 (.mov (.t 5)), qo 52 (.bin .add (.t 51) (ci 1)), qo 5 (.asg (.t 52))]
def Jqfu (p : Nums) : IC := (.region (Jqgd p) [])
@[simp] theorem Jefu {p : Nums} : EqI (Jqfu p) (.region (Jqgd p) []) := eqi
def Jqfv (p : Nums) : IC := (.seq (.seq (Jqfq p) (.cond (.t 50) .skip (.exit 2))) (.seq (.block 3 (Jqft p)) (Jqfu p)))
@[simp] theorem Jefv {p : Nums} : EqI (Jqfv p) (.seq (.seq (Jqfq p) (.cond (.t 50) .skip (.exit 2))) (.seq (.block 3 (Jqft p)) (Jqfu p))) := eqi
@[simp] def Jqge (p : Nums) : List IOp := [qo 64 (.faddr 1 (.t 4)), qo 65 (.load (some 4) (.t 64)), qo 66 (.faddr 1 (.t 1)), qo 67 (.load none (.t 66)), qo 68 (.faddr 2 (.t 1)), qo 69 (.load none (.t 68)), qo 70 (.len (.t 69)), qo 71 (.call p.ref07_Term [(.t 65), (.t 67), (.t 70)]), qo 7 (.asg (.t 71))]
def Jqfw (p : Nums) : IC := (.region (Jqge p) [])
@[simp] theorem Jefw {p : Nums} : EqI (Jqfw p) (.region (Jqge p) []) := eqi
def Jqfx (p : Nums) : IC := (.seq (.region [⟨(some 74), (.mov (.t 7)), none, false⟩, ⟨(some 2), (.asg (.t 74)), none, false⟩] []) .ret)
@[simp] theorem Jefx {p : Nums} : EqI (Jqfx p) (.seq (.region [⟨(some 74), (.mov (.t 7)), none, false⟩, ⟨(some 2), (.asg (.t 74)), none, false⟩] []) .ret) := eqi
def Jqfy (p : Nums) : IC := (.seq (Jqfp p) (.seq (.seq (.region [⟨(some 5), (.asg (.c (.d (.int .i64 0)))), none, false⟩] []) (.block 2 (.loop (Jqfv p)))) (.seq (Jqfw p) (.seq (.region [⟨(some 72), (.mov (.t 7)), none, false⟩, ⟨(some 73), (.bin .neq (.t 72) (.c (.d (.int .i64 0)))), none, false⟩] []) (.cond (.t 73) (Jqfx p) .skip)))))
@[simp] theorem Jefy {p : Nums} : EqI (Jqfy p) (.seq (Jqfp p) (.seq (.seq (.region [⟨(some 5), (.asg (.c (.d (.int .i64 0)))), none, false⟩] []) (.block 2 (.loop (Jqfv p)))) (.seq (Jqfw p) (.seq (.region [⟨(some 72), (.mov (.t 7)), none, false⟩, ⟨(some 73), (.bin .neq (.t 72) (.c (.d (.int .i64 0)))), none, false⟩] []) (.cond (.t 73) (Jqfx p) .skip))))) := eqi
@[simp] def Jqgf (p : Nums) : List IOp := [qo 39 (.mov (.t 3)), qo 40 (.bin .add (.t 39) (ci 1)), qo 3 (.asg (.t 40))]
def Jqg0 (p : Nums) : IC := (.region (Jqgf p) [])
@[simp] theorem Jeg0 {p : Nums} : EqI (Jqg0 p) (.region (Jqgf p) []) := eqi
def Jqg1 (p : Nums) : IC := (.seq (.seq (Jqg8 p) (.cond (.t 38) .skip (.exit 0))) (.seq (.block 1 (Jqfy p)) (Jqg0 p)))
@[simp] theorem Jeg1 {p : Nums} : EqI (Jqg1 p) (.seq (.seq (Jqg8 p) (.cond (.t 38) .skip (.exit 0))) (.seq (.block 1 (Jqfy p)) (Jqg0 p))) := eqi
def Jtbp (p : Nums) : IC := (.seq (.region [⟨(some 1), (.box (.t 0)), none, false⟩, ⟨(some 2), (.asg (.c (.d (.int .i64 0)))), none, false⟩] []) (.seq (.seq (Jqfo p) (.cond (.t 17) (Jqfz p) .skip)) (.seq (.seq (Jqg2 p) (.cond (.t 20) (Jqg3 p) .skip)) (.seq (.seq (Jqg4 p) (.cond (.t 24) (Jqg5 p) .skip)) (.seq (.seq (Jqg6 p) (.cond (.t 33) (Jqg7 p) .skip)) (.seq (.seq (.region [⟨(some 3), (.asg (.c (.d (.int .i64 0)))), none, false⟩] []) (.block 0 (.loop (Jqg1 p)))) (.seq (.region [⟨(some 2), (.asg (.c (.d (.int .i64 0)))), none, false⟩] []) .ret)))))))
@[simp] def Jqjx (p : Nums) : List IOp := [qo 4 (.faddr 3 (.t 1)), qo 5 (.load none (.t 4)), qo 6 (.len (.t 5)), qo 7 (.bin .gtr (.t 6) (ci 40)), qo 8 (.mov (.t 7)), ⟨(some 9), (.faddr 1 (.t 1)), (some (8, false)), false⟩, ⟨(some 10), (.load none (.t 9)), (some (8, false)), false⟩, ⟨(some 11), (.bin .gtr (.t 10) (ci 60)), (some (8, false)), false⟩, qo 12 (.pick (.t 8) (.c (.d (.bool true))) (.t 11)), qo 13 (.mov (.t 12)), ⟨(some 14), (.faddr 2 (.t 1)), (some (13, false)), false⟩, ⟨(some 15), (.load none (.t 14)), (some (13, false)), false⟩, ⟨(some 16), (.bin .gtr (.t 15) (ci 60)), (some (13, false)), false⟩, qo 17 (.pick (.t 13) (.c (.d (.bool true))) (.t 16))]
def Jqjo (p : Nums) : IC := (.region (Jqjx p) [])
@[simp] theorem Jejo {p : Nums} : EqI (Jqjo p) (.region (Jqjx p) []) := eqi
def Jqjp (p : Nums) : IC := (.seq (.region [⟨(some 2), (.asg (.c (.d (.bool false)))), none, false⟩] []) .ret)
@[simp] theorem Jejp {p : Nums} : EqI (Jqjp p) (.seq (.region [⟨(some 2), (.asg (.c (.d (.bool false)))), none, false⟩] []) .ret) := eqi
@[simp] def Jqjy (p : Nums) : List IOp := [qo 18 (.mov (.t 3)), qo 19 (.faddr 3 (.t 1)), qo 20 (.load none (.t 19)), qo 21 (.len (.t 20)), qo 22 (.bin .lss (.t 18) (.t 21))]
def Jqjq (p : Nums) : IC := (.region (Jqjy p) [])
@[simp] theorem Jejq {p : Nums} : EqI (Jqjq p) (.region (Jqjy p) []) := eqi
@[simp] def Jqjz (p : Nums) : List IOp := [qo 25 (.faddr 3 (.t 1)), qo 26 (.load none (.t 25)), qo 27 (.mov (.t 3)), qo 28 (.iaddr 5 (.t 26) (.t 27)), qo 29 (.faddr 0 (.t 28)), qo 30 (.load none (.t 29)), qo 31 (.len (.t 30)), qo 32 (.bin .gtr (.t 31) (ci 300))]
def Jqjr (p : Nums) : IC := (.region (Jqjz p) [])
@[simp] theorem Jejr {p : Nums} : EqI (Jqjr p) (.region (Jqjz p) []) := eqi
def Jqjs (p : Nums) : IC := (.seq (.region [⟨(some 2), (.asg (.c (.d (.bool false)))), none, false⟩] []) .ret)
@[simp] theorem Jejs {p : Nums} : EqI (Jqjs p) (.seq (.region [⟨(some 2), (.asg (.c (.d (.bool false)))), none, false⟩] []) .ret) := eqi
def Jqjt (p : Nums) : IC := (.seq (Jqjr p) (.cond (.t 32) (Jqjs p) .skip))
@[simp] theorem Jejt {p : Nums} : EqI (Jqjt p) (.seq (Jqjr p) (.cond (.t 32) (Jqjs p) .skip)) := eqi
@[simp] def Jqk0 (p : Nums) : List IOp := [qo 23 (.mov (.t 3)), qo 24 (.bin .add (.t 23) (ci 1)), qo 3 (.asg (.t 24))]
def Jqju (p : Nums) : IC := (.region (Jqk0 p) [])
@[simp] theorem Jeju {p : Nums} : EqI (Jqju p) (.region (Jqk0 p) []) := eqi
def Jqjv (p : Nums) : IC := (.seq (.seq (Jqjq p) (.cond (.t 22) .skip (.exit 0))) (.seq (.block 1 (Jqjt p)) (Jqju p)))
@[simp] theorem Jejv {p : Nums} : EqI (Jqjv p) (.seq (.seq (Jqjq p) (.cond (.t 22) .skip (.exit 0))) (.seq (.block 1 (Jqjt p)) (Jqju p))) := eqi
@[simp] def Jqk1 (p : Nums) : List IOp := [qo 33 (.load (some 4) (.t 1)), qo 34 (.call p.ref08_Code [(.t 33)]), qo 35 (.bin .leq (.t 34) (ci 900)), qo 2 (.asg (.t 35))]
def Jqjw (p : Nums) : IC := (.region (Jqk1 p) [])
@[simp] theorem Jejw {p : Nums} : EqI (Jqjw p) (.region (Jqk1 p) []) := eqi
def Jtby (p : Nums) : IC := (.seq (.region [⟨(some 1), (.box (.t 0)), none, false⟩, ⟨(some 2), (.asg (.c (.d (.bool false)))), none, false⟩] []) (.seq (.seq (Jqjo p) (.cond (.t 17) (Jqjp p) .skip)) (.seq (.seq (.region [⟨(some 3), (.asg (.c (.d (.int .i64 0)))), none, false⟩] []) (.block 0 (.loop (Jqjv p)))) (.seq (Jqjw p) .ret))))
@[simp] def Jqrv (p : Nums) : List IOp := [qo 4 (.mov (.t 3)), qo 5 (.mov (.t 0)), qo 6 (.len (.t 5)), qo 7 (.bin .lss (.t 4) (.t 6)), qo 8 (.mov (.t 7)), ⟨(some 9), (.mov (.t 3)), (some (8, true)), false⟩, ⟨(some 10), (.bin .leq (.t 9) (ci 40)), (some (8, true)), false⟩, qo 11 (.pick (.t 8) (.t 10) (.c (.d (.bool false))))]
def Jqro (p : Nums) : IC := (.region (Jqrv p) [])
@[simp] theorem Jero {p : Nums} : EqI (Jqro p) (.region (Jqrv p) []) := eqi
@[simp] def Jqrw (p : Nums) : List IOp := [qo 14 (.mov (.t 0)), qo 15 (.mov (.t 3)), qo 16 (.iaddr 1 (.t 14) (.t 15)), qo 17 (.load none (.t 16)), qo 18 (.len (.t 17)), qo 19 (.bin .gtr (.t 18) (ci 400))]
def Jqrp (p : Nums) : IC := (.region (Jqrw p) [])
@[simp] theorem Jerp {p : Nums} : EqI (Jqrp p) (.region (Jqrw p) []) := eqi
def Jqrq (p : Nums) : IC := (.seq (.region [⟨(some 2), (.asg (.c (.d (.bool false)))), none, false⟩] []) .ret)
@[simp] theorem Jerq {p : Nums} : EqI (Jqrq p) (.seq (.region [⟨(some 2), (.asg (.c (.d (.bool false)))), none, false⟩] []) .ret) := eqi
def Jqrr (p : Nums) : IC := (.seq (Jqrp p) (.cond (.t 19) (Jqrq p) .skip))
@[simp] theorem Jerr {p : Nums} : EqI (Jqrr p) (.seq (Jqrp p) (.cond (.t 19) (Jqrq p) .skip)) := eqi
@[simp] def Jqrx (p : Nums) : List IOp := [qo 12 (.mov (.t 3)), qo 13 (.bin .add (.t 12) (ci 1)), qo 3 (.asg (.t 13))]
def Jqrs (p : Nums) : IC := (.region (Jqrx p) [])
@[simp] theorem Jers {p : Nums} : EqI (Jqrs p) (.region (Jqrx p) []) := eqi
def Jqrt (p : Nums) : IC := (.seq (.seq (Jqro p) (.cond (.t 11) .skip (.exit 0))) (.seq (.block 1 (Jqrr p)) (Jqrs p)))
@[simp] theorem Jert {p : Nums} : EqI (Jqrt p) (.seq (.seq (Jqro p) (.cond (.t 11) .skip (.exit 0))) (.seq (.block 1 (Jqrr p)) (Jqrs p))) := eqi
@[simp] def Jqry (p : Nums) : List IOp := [qo 20 (.mov (.t 0)), qo 21 (.len (.t 20)), qo 22 (.bin .leq (.t 21) (ci 40)), qo 2 (.asg (.t 22))]
def Jqru (p : Nums) : IC := (.region (Jqry p) [])
@[simp] theorem Jeru {p : Nums} : EqI (Jqru p) (.region (Jqry p) []) := eqi
def Jtch (p : Nums) : IC := (.seq (.region [⟨(some 2), (.asg (.c (.d (.bool false)))), none, false⟩] []) (.seq (.seq (.region [⟨(some 3), (.asg (.c (.d (.int .i64 0)))), none, false⟩] []) (.block 0 (.loop (Jqrt p)))) (.seq (Jqru p) .ret)))
@[simp] def Jquq (p : Nums) : List IOp := [qo 7 (.faddr 0 (.t 1)), qo 8 (.load none (.t 7)), qo 9 (.bin .lss (.t 8) (ci 0)), qo 10 (.mov (.t 9)), ⟨(some 11), (.faddr 0 (.t 1)), (some (10, false)), false⟩, ⟨(some 12), (.load none (.t 11)), (some (10, false)), false⟩, ⟨(some 13), (.faddr 1 (.t 1)), (some (10, false)), false⟩, ⟨(some 14), (.load none (.t 13)), (some (10, false)), false⟩, ⟨(some 15), (.bin .gtr (.t 12) (.t 14)), (some (10, false)), false⟩, qo 16 (.pick (.t 10) (.c (.d (.bool true))) (.t 15)), qo 6 (.asg (.t 16))]
def Jqu8 (p : Nums) : IC := (.region (Jquq p) [])
@[simp] theorem Jeu8 {p : Nums} : EqI (Jqu8 p) (.region (Jquq p) []) := eqi
@[simp] def Jquu (p : Nums) : List IOp := [qo 18 (.faddr 1 (.t 1)), qo 19 (.load none (.t 18)), qo 20 (.bin .gtr (.t 19) (ci 1048576)), qo 17 (.asg (.t 20))]
def Jqui (p : Nums) : IC := (.region (Jquu p) [])
@[simp] theorem Jeui {p : Nums} : EqI (Jqui p) (.region (Jquu p) []) := eqi
@[simp] def Jquv (p : Nums) : List IOp := [qo 22 (.faddr 2 (.t 1)), qo 23 (.load none (.t 22)), qo 24 (.len (.t 23)), qo 25 (.bin .eql (.t 24) (ci 0)), qo 21 (.asg (.t 25))]
def Jquj (p : Nums) : IC := (.region (Jquv p) [])
@[simp] theorem Jeuj {p : Nums} : EqI (Jquj p) (.region (Jquv p) []) := eqi
@[simp] def Jquw (p : Nums) : List IOp := [qo 27 (.faddr 2 (.t 1)), qo 28 (.load none (.t 27)), qo 29 (.len (.t 28)), qo 30 (.bin .gtr (.t 29) (ci 1048576)), qo 31 (.mov (.t 30)), ⟨(some 32), (.load (some 3) (.t 1)), (some (31, false)), false⟩, ⟨(some 33), (.call p.source_Code [(.t 32)]), (some (31, false)), false⟩, ⟨(some 34), (.bin .gtr (.t 33) (ci 1048576)), (some (31, false)), false⟩, qo 35 (.pick (.t 31) (.c (.d (.bool true))) (.t 34)), qo 26 (.asg (.t 35))]
def Jquk (p : Nums) : IC := (.region (Jquw p) [])
@[simp] theorem Jeuk {p : Nums} : EqI (Jquk p) (.region (Jquw p) []) := eqi
def Jqul (p : Nums) : IC := (.seq (.region [⟨(some 2), (.asg (.c (.d (.int .i64 6)))), none, false⟩] []) .ret)
@[simp] theorem Jeul {p : Nums} : EqI (Jqul p) (.seq (.region [⟨(some 2), (.asg (.c (.d (.int .i64 6)))), none, false⟩] []) .ret) := eqi
def Jqum (p : Nums) : IC := (.seq (.region [⟨(some 2), (.asg (.c (.d (.int .i64 14)))), none, false⟩] []) .ret)
@[simp] theorem Jeum {p : Nums} : EqI (Jqum p) (.seq (.region [⟨(some 2), (.asg (.c (.d (.int .i64 14)))), none, false⟩] []) .ret) := eqi
def Jqun (p : Nums) : IC := (.seq (Jquk p) (.cond (.t 26) (Jqul p) .skip))
@[simp] theorem Jeun {p : Nums} : EqI (Jqun p) (.seq (Jquk p) (.cond (.t 26) (Jqul p) .skip)) := eqi
def Jquo (p : Nums) : IC := (.seq (.region [⟨(some 2), (.asg (.c (.d (.int .i64 6)))), none, false⟩] []) .ret)
@[simp] theorem Jeuo {p : Nums} : EqI (Jquo p) (.seq (.region [⟨(some 2), (.asg (.c (.d (.int .i64 6)))), none, false⟩] []) .ret) := eqi
def Jqup (p : Nums) : IC := (.seq (Jquj p) (.cond (.t 21) (Jqum p) (Jqun p)))
@[simp] theorem Jeup {p : Nums} : EqI (Jqup p) (.seq (Jquj p) (.cond (.t 21) (Jqum p) (Jqun p))) := eqi
def Jqu9 (p : Nums) : IC := (.seq (.region [⟨(some 2), (.asg (.c (.d (.int .i64 9)))), none, false⟩] []) .ret)
@[simp] theorem Jeu9 {p : Nums} : EqI (Jqu9 p) (.seq (.region [⟨(some 2), (.asg (.c (.d (.int .i64 9)))), none, false⟩] []) .ret) := eqi
def Jqua (p : Nums) : IC := (.seq (Jqui p) (.cond (.t 17) (Jquo p) (Jqup p)))
@[simp] theorem Jeua {p : Nums} : EqI (Jqua p) (.seq (Jqui p) (.cond (.t 17) (Jquo p) (Jqup p))) := eqi
def Jqub (p : Nums) : IC := (.seq (Jqu8 p) (.cond (.t 6) (Jqu9 p) (Jqua p)))
@[simp] theorem Jeub {p : Nums} : EqI (Jqub p) (.seq (Jqu8 p) (.cond (.t 6) (Jqu9 p) (Jqua p))) := eqi
@[simp] def Jqur (p : Nums) : List IOp := [qo 36 (.faddr 2 (.t 1)), qo 37 (.load none (.t 36)), qo 38 (.len (.t 37)), qo 39 (.mov (ci 0))]
def Jquc (p : Nums) : IC := (.region (Jqur p) [])
@[simp] theorem Jeuc {p : Nums} : EqI (Jquc p) (.region (Jqur p) []) := eqi
@[simp] def Jqus (p : Nums) : List IOp := [qo 41 (.iaddr 5 (.t 37) (.t 39)), qo 42 (.load (some 5) (.t 41)), qo 4 (.alloc [.nils, (zi 0), (zi 0), (zi 0), (zi 0)]), qn (.store 5 (.t 4) (.t 42))]
def Jqud (p : Nums) : IC := (.region (Jqus p) [])
@[simp] theorem Jeud {p : Nums} : EqI (Jqud p) (.region (Jqus p) []) := eqi
@[simp] def Jqut (p : Nums) : List IOp := [qo 43 (.load (some 5) (.t 4)), qo 44 (.faddr 1 (.t 1)), qo 45 (.load none (.t 44)), qo 46 (.faddr 2 (.t 1)), qo 47 (.load none (.t 46)), qo 48 (.len (.t 47)), qo 49 (.call p.source_block [(.t 43), (.t 45), (.t 48)]), qo 5 (.asg (.t 49))]
def Jque (p : Nums) : IC := (.region (Jqut p) [])
@[simp] theorem Jeue {p : Nums} : EqI (Jque p) (.region (Jqut p) []) := eqi
def Jquf (p : Nums) : IC := (.seq (.region [⟨(some 52), (.mov (.t 5)), none, false⟩, ⟨(some 2), (.asg (.t 52)), none, false⟩] []) .ret)
@[simp] theorem Jeuf {p : Nums} : EqI (Jquf p) (.seq (.region [⟨(some 52), (.mov (.t 5)), none, false⟩, ⟨(some 2), (.asg (.t 52)), none, false⟩] []) .ret) := eqi
def Jqug (p : Nums) : IC := (.seq (Jqud p) (.seq (Jque p) (.seq (.region [⟨(some 50), (.mov (.t 5)), none, false⟩, ⟨(some 51), (.bin .neq (.t 50) (.c (.d (.int .i64 0)))), none, false⟩] []) (.cond (.t 51) (Jquf p) .skip))))
@[simp] theorem Jeug {p : Nums} : EqI (Jqug p) (.seq (Jqud p) (.seq (Jque p) (.seq (.region [⟨(some 50), (.mov (.t 5)), none, false⟩, ⟨(some 51), (.bin .neq (.t 50) (.c (.d (.int .i64 0)))), none, false⟩] []) (.cond (.t 51) (Jquf p) .skip)))) := eqi
def Jquh (p : Nums) : IC := (.seq (.region [⟨(some 40), (.bin .lss (.t 39) (.t 38)), none, false⟩] []) (.seq (.cond (.t 40) .skip (.exit 1)) (.seq (.block 2 (Jqug p)) (.region [⟨(some 53), (.bin .add (.t 39) (.c (.d (.int .i64 1)))), none, false⟩, ⟨(some 39), (.mov (.t 53)), none, false⟩] []))))
@[simp] theorem Jeuh {p : Nums} : EqI (Jquh p) (.seq (.region [⟨(some 40), (.bin .lss (.t 39) (.t 38)), none, false⟩] []) (.seq (.cond (.t 40) .skip (.exit 1)) (.seq (.block 2 (Jqug p)) (.region [⟨(some 53), (.bin .add (.t 39) (.c (.d (.int .i64 1)))), none, false⟩, ⟨(some 39), (.mov (.t 53)), none, false⟩] [])))) := eqi
def Jtcn (p : Nums) : IC := (.seq (.region [⟨(some 1), (.box (.t 0)), none, false⟩, ⟨(some 2), (.asg (.c (.d (.int .i64 0)))), none, false⟩] []) (.seq (.block 0 (Jqub p)) (.seq (.seq (Jquc p) (.block 1 (.loop (Jquh p)))) (.seq (.region [⟨(some 2), (.asg (.c (.d (.int .i64 0)))), none, false⟩] []) .ret))))
@[simp] def Jq9t (p : Nums) : List IOp := [qo 7 (.faddr 0 (.t 1)), qo 8 (.load none (.t 7)), qo 9 (.bin .lss (.t 8) (ci 0)), qo 10 (.mov (.t 9)), ⟨(some 11), (.faddr 0 (.t 1)), (some (10, false)), false⟩, ⟨(some 12), (.load none (.t 11)), (some (10, false)), false⟩, ⟨(some 13), (.faddr 2 (.t 1)), (some (10, false)), false⟩, ⟨(some 14), (.load none (.t 13)), (some (10, false)), false⟩, ⟨(some 15), (.bin .gtr (.t 12) (.t 14)), (some (10, false)), false⟩, qo 16 (.pick (.t 10) (.c (.d (.bool true))) (.t 15)), qo 6 (.asg (.t 16))]
def Jq98 (p : Nums) : IC := (.region (Jq9t p) [])
@[simp] theorem Je98 {p : Nums} : EqI (Jq98 p) (.region (Jq9t p) []) := eqi
@[simp] def Jq9x (p : Nums) : List IOp := [qo 18 (.faddr 1 (.t 1)), qo 19 (.load none (.t 18)), qo 20 (.bin .lss (.t 19) (ci 0)), qo 17 (.asg (.t 20))]
def Jq9j (p : Nums) : IC := (.region (Jq9x p) [])
@[simp] theorem Je9j {p : Nums} : EqI (Jq9j p) (.region (Jq9x p) []) := eqi
@[simp] def Jq9y (p : Nums) : List IOp := [qo 22 (.faddr 2 (.t 1)), qo 23 (.load none (.t 22)), qo 24 (.bin .gtr (.t 23) (ci 1048576)), qo 25 (.mov (.t 24)), ⟨(some 26), (.faddr 1 (.t 1)), (some (25, false)), false⟩, ⟨(some 27), (.load none (.t 26)), (some (25, false)), false⟩, ⟨(some 28), (.bin .gtr (.t 27) (ci 1048576)), (some (25, false)), false⟩, qo 29 (.pick (.t 25) (.c (.d (.bool true))) (.t 28)), qo 21 (.asg (.t 29))]
def Jq9m (p : Nums) : IC := (.region (Jq9y p) [])
@[simp] theorem Je9m {p : Nums} : EqI (Jq9m p) (.region (Jq9y p) []) := eqi
@[simp] def Jq9z (p : Nums) : List IOp := [qo 31 (.faddr 3 (.t 1)), qo 32 (.load none (.t 31)), qo 33 (.len (.t 32)), qo 34 (.bin .eql (.t 33) (ci 0)), qo 30 (.asg (.t 34))]
def Jq9n (p : Nums) : IC := (.region (Jq9z p) [])
@[simp] theorem Je9n {p : Nums} : EqI (Jq9n p) (.region (Jq9z p) []) := eqi
@[simp] def Jqa0 (p : Nums) : List IOp := [qo 36 (.faddr 3 (.t 1)), qo 37 (.load none (.t 36)), qo 38 (.len (.t 37)), qo 39 (.bin .gtr (.t 38) (ci 1048576)), qo 40 (.mov (.t 39)), ⟨(some 41), (.load (some 4) (.t 1)), (some (40, false)), false⟩, ⟨(some 42), (.call p.machine_Code [(.t 41)]), (some (40, false)), false⟩, ⟨(some 43), (.bin .gtr (.t 42) (ci 1048576)), (some (40, false)), false⟩, qo 44 (.pick (.t 40) (.c (.d (.bool true))) (.t 43)), qo 35 (.asg (.t 44))]
def Jq9o (p : Nums) : IC := (.region (Jqa0 p) [])
@[simp] theorem Je9o {p : Nums} : EqI (Jq9o p) (.region (Jqa0 p) []) := eqi
def Jq9p (p : Nums) : IC := (.seq (.region [⟨(some 2), (.asg (.c (.d (.int .i64 6)))), none, false⟩] []) .ret)
@[simp] theorem Je9p {p : Nums} : EqI (Jq9p p) (.seq (.region [⟨(some 2), (.asg (.c (.d (.int .i64 6)))), none, false⟩] []) .ret) := eqi
def Jq9q (p : Nums) : IC := (.seq (.region [⟨(some 2), (.asg (.c (.d (.int .i64 14)))), none, false⟩] []) .ret)
@[simp] theorem Je9q {p : Nums} : EqI (Jq9q p) (.seq (.region [⟨(some 2), (.asg (.c (.d (.int .i64 14)))), none, false⟩] []) .ret) := eqi
def Jq9r (p : Nums) : IC := (.seq (Jq9o p) (.cond (.t 35) (Jq9p p) .skip))
@[simp] theorem Je9r {p : Nums} : EqI (Jq9r p) (.seq (Jq9o p) (.cond (.t 35) (Jq9p p) .skip)) := eqi
def Jq9s (p : Nums) : IC := (.seq (.region [⟨(some 2), (.asg (.c (.d (.int .i64 6)))), none, false⟩] []) .ret)
@[simp] theorem Je9s {p : Nums} : EqI (Jq9s p) (.seq (.region [⟨(some 2), (.asg (.c (.d (.int .i64 6)))), none, false⟩] []) .ret) := eqi
def Jq99 (p : Nums) : IC := (.seq (Jq9n p) (.cond (.t 30) (Jq9q p) (Jq9r p)))
@[simp] theorem Je99 {p : Nums} : EqI (Jq99 p) (.seq (Jq9n p) (.cond (.t 30) (Jq9q p) (Jq9r p))) := eqi
def Jq9a (p : Nums) : IC := (.seq (.region [⟨(some 2), (.asg (.c (.d (.int .i64 9)))), none, false⟩] []) .ret)
@[simp] theorem Je9a {p : Nums} : EqI (Jq9a p) (.seq (.region [⟨(some 2), (.asg (.c (.d (.int .i64 9)))), none, false⟩] []) .ret) := eqi
def Jq9b (p : Nums) : IC := (.seq (Jq9m p) (.cond (.t 21) (Jq9s p) (Jq99 p)))
@[simp] theorem Je9b {p : Nums} : EqI (Jq9b p) (.seq (Jq9m p) (.cond (.t 21) (Jq9s p) (Jq99 p))) := eqi
def Jq9c (p : Nums) : IC := (.seq (.region [⟨(some 2), (.asg (.c (.d (.int .i64 10)))), none, false⟩] []) .ret)
@[simp] theorem Je9c {p : Nums} : EqI (Jq9c p) (.seq (.region [⟨(some 2), (.asg (.c (.d (.int .i64 10)))), none, false⟩] []) .ret) := eqi
def Jq9d (p : Nums) : IC := (.seq (Jq9j p) (.cond (.t 17) (Jq9a p) (Jq9b p)))
@[simp] theorem Je9d {p : Nums} : EqI (Jq9d p) (.seq (Jq9j p) (.cond (.t 17) (Jq9a p) (Jq9b p))) := eqi
def Jq9e (p : Nums) : IC := (.seq (Jq98 p) (.cond (.t 6) (Jq9c p) (Jq9d p)))
@[simp] theorem Je9e {p : Nums} : EqI (Jq9e p) (.seq (Jq98 p) (.cond (.t 6) (Jq9c p) (Jq9d p))) := eqi
@[simp] def Jq9u (p : Nums) : List IOp := [qo 45 (.faddr 3 (.t 1)), qo 46 (.load none (.t 45)), qo 47 (.len (.t 46)), qo 48 (.mov (ci 0))]
def Jq9f (p : Nums) : IC := (.region (Jq9u p) [])
@[simp] theorem Je9f {p : Nums} : EqI (Jq9f p) (.region (Jq9u p) []) := eqi
@[simp] def Jq9v (p : Nums) : List IOp := [qo 50 (.iaddr 5 (.t 46) (.t 48)), qo 51 (.load (some 5) (.t 50)), qo 4 (.alloc [.nils, (zi 0), (zi 0), (zi 0), (zi 0)]), qn (.store 5 (.t 4) (.t 51))]
def Jq9g (p : Nums) : IC := (.region (Jq9v p) [])
@[simp] theorem Je9g {p : Nums} : EqI (Jq9g p) (.region (Jq9v p) []) := eqi
@[simp] def Jq9w (p : Nums) : List IOp := [qo 52 (.load (some 4) (.t 1)), qo 53 (.load (some 5) (.t 4)), qo 54 (.call p.machine_block [(.t 52), (.t 53)]), qo 5 (.asg (.t 54))]
def Jq9h (p : Nums) : IC := (.region (Jq9w p) [])
@[simp] theorem Je9h {p : Nums} : EqI (Jq9h p) (.region (Jq9w p) []) := eqi
def Jq9i (p : Nums) : IC := (.seq (.region [⟨(some 57), (.mov (.t 5)), none, false⟩, ⟨(some 2), (.asg (.t 57)), none, false⟩] []) .ret)
@[simp] theorem Je9i {p : Nums} : EqI (Jq9i p) (.seq (.region [⟨(some 57), (.mov (.t 5)), none, false⟩, ⟨(some 2), (.asg (.t 57)), none, false⟩] []) .ret) := eqi
def Jq9k (p : Nums) : IC := (.seq (Jq9g p) (.seq (Jq9h p) (.seq (.region [⟨(some 55), (.mov (.t 5)), none, false⟩, ⟨(some 56), (.bin .neq (.t 55) (.c (.d (.int .i64 0)))), none, false⟩] []) (.cond (.t 56) (Jq9i p) .skip))))
@[simp] theorem Je9k {p : Nums} : EqI (Jq9k p) (.seq (Jq9g p) (.seq (Jq9h p) (.seq (.region [⟨(some 55), (.mov (.t 5)), none, false⟩, ⟨(some 56), (.bin .neq (.t 55) (.c (.d (.int .i64 0)))), none, false⟩] []) (.cond (.t 56) (Jq9i p) .skip)))) := eqi
def Jq9l (p : Nums) : IC := (.seq (.region [⟨(some 49), (.bin .lss (.t 48) (.t 47)), none, false⟩] []) (.seq (.cond (.t 49) .skip (.exit 1)) (.seq (.block 2 (Jq9k p)) (.region [⟨(some 58), (.bin .add (.t 48) (.c (.d (.int .i64 1)))), none, false⟩, ⟨(some 48), (.mov (.t 58)), none, false⟩] []))))
@[simp] theorem Je9l {p : Nums} : EqI (Jq9l p) (.seq (.region [⟨(some 49), (.bin .lss (.t 48) (.t 47)), none, false⟩] []) (.seq (.cond (.t 49) .skip (.exit 1)) (.seq (.block 2 (Jq9k p)) (.region [⟨(some 58), (.bin .add (.t 48) (.c (.d (.int .i64 1)))), none, false⟩, ⟨(some 48), (.mov (.t 58)), none, false⟩] [])))) := eqi
def Jtav (p : Nums) : IC := (.seq (.region [⟨(some 1), (.box (.t 0)), none, false⟩, ⟨(some 2), (.asg (.c (.d (.int .i64 0)))), none, false⟩] []) (.seq (.block 0 (Jq9e p)) (.seq (.seq (Jq9f p) (.block 1 (.loop (Jq9l p)))) (.seq (.region [⟨(some 2), (.asg (.c (.d (.int .i64 0)))), none, false⟩] []) .ret))))
@[simp] def Jq6t (p : Nums) : List IOp := [qo 15 (.mov (.t 0)), qo 16 (.len (.t 15)), qo 17 (.mov (.t 1)), qo 18 (.bin .neq (.t 16) (.t 17)), qo 14 (.asg (.t 18))]
def Jq6h (p : Nums) : IC := (.region (Jq6t p) [])
@[simp] theorem Je6h {p : Nums} : EqI (Jq6h p) (.region (Jq6t p) []) := eqi
@[simp] def Jq6u (p : Nums) : List IOp := [qo 20 (.mov (.t 0)), qo 21 (.call p.edge_total [(.t 20)]), qo 22 (.bin .gtr (.t 21) (ci 1048576)), qo 19 (.asg (.t 22))]
def Jq6l (p : Nums) : IC := (.region (Jq6u p) [])
@[simp] theorem Je6l {p : Nums} : EqI (Jq6l p) (.region (Jq6u p) []) := eqi
def Jq6m (p : Nums) : IC := (.seq (.region [⟨(some 10), (.asg (.c (.d (.int .i64 6)))), none, false⟩] []) .ret)
@[simp] theorem Je6m {p : Nums} : EqI (Jq6m p) (.seq (.region [⟨(some 10), (.asg (.c (.d (.int .i64 6)))), none, false⟩] []) .ret) := eqi
def Jq6n (p : Nums) : IC := (.seq (.region [⟨(some 10), (.asg (.c (.d (.int .i64 14)))), none, false⟩] []) .ret)
@[simp] theorem Je6n {p : Nums} : EqI (Jq6n p) (.seq (.region [⟨(some 10), (.asg (.c (.d (.int .i64 14)))), none, false⟩] []) .ret) := eqi
def Jq6o (p : Nums) : IC := (.seq (Jq6l p) (.cond (.t 19) (Jq6m p) .skip))
@[simp] theorem Je6o {p : Nums} : EqI (Jq6o p) (.seq (Jq6l p) (.cond (.t 19) (Jq6m p) .skip)) := eqi
def Jq6p (p : Nums) : IC := (.seq (Jq6h p) (.cond (.t 14) (Jq6n p) (Jq6o p)))
@[simp] theorem Je6p {p : Nums} : EqI (Jq6p p) (.seq (Jq6h p) (.cond (.t 14) (Jq6n p) (Jq6o p))) := eqi
@[simp] def Jq6v (p : Nums) : List IOp := [qo 23 (.mov (.t 0)), qo 24 (.len (.t 23)), qo 25 (.mov (ci 0))]
def Jq6q (p : Nums) : IC := (.region (Jq6v p) [])
@[simp] theorem Je6q {p : Nums} : EqI (Jq6q p) (.region (Jq6v p) []) := eqi
@[simp] def Jq6w (p : Nums) : List IOp := [qo 27 (.iaddr 1 (.t 23) (.t 25)), qo 28 (.load none (.t 27)), qo 12 (.asg (.t 28))]
def Jq6r (p : Nums) : IC := (.region (Jq6w p) [])
@[simp] theorem Je6r {p : Nums} : EqI (Jq6r p) (.region (Jq6w p) []) := eqi
@[simp] def Jq6x (p : Nums) : List IOp := [qo 29 (.mov (.t 12)), qo 30 (.mov (.t 2)), qo 31 (.mov (.t 3)), qo 32 (.mov (.t 4)), qo 33 (.call p.edge_pairs [(.t 29), (.t 30), (.t 31), (.t 32)]), qo 13 (.asg (.t 33))]
def Jq6s (p : Nums) : IC := (.region (Jq6x p) [])
@[simp] theorem Je6s {p : Nums} : EqI (Jq6s p) (.region (Jq6x p) []) := eqi
def Jq6i (p : Nums) : IC := (.seq (.region [⟨(some 36), (.mov (.t 13)), none, false⟩, ⟨(some 10), (.asg (.t 36)), none, false⟩] []) .ret)
@[simp] theorem Je6i {p : Nums} : EqI (Jq6i p) (.seq (.region [⟨(some 36), (.mov (.t 13)), none, false⟩, ⟨(some 10), (.asg (.t 36)), none, false⟩] []) .ret) := eqi
def Jq6j (p : Nums) : IC := (.seq (Jq6r p) (.seq (Jq6s p) (.seq (.region [⟨(some 34), (.mov (.t 13)), none, false⟩, ⟨(some 35), (.bin .neq (.t 34) (.c (.d (.int .i64 0)))), none, false⟩] []) (.cond (.t 35) (Jq6i p) .skip))))
@[simp] theorem Je6j {p : Nums} : EqI (Jq6j p) (.seq (Jq6r p) (.seq (Jq6s p) (.seq (.region [⟨(some 34), (.mov (.t 13)), none, false⟩, ⟨(some 35), (.bin .neq (.t 34) (.c (.d (.int .i64 0)))), none, false⟩] []) (.cond (.t 35) (Jq6i p) .skip)))) := eqi
def Jq6k (p : Nums) : IC := (.seq (.region [⟨(some 26), (.bin .lss (.t 25) (.t 24)), none, false⟩] []) (.seq (.cond (.t 26) .skip (.exit 1)) (.seq (.block 2 (Jq6j p)) (.region [⟨(some 37), (.bin .add (.t 25) (.c (.d (.int .i64 1)))), none, false⟩, ⟨(some 25), (.mov (.t 37)), none, false⟩] []))))
@[simp] theorem Je6k {p : Nums} : EqI (Jq6k p) (.seq (.region [⟨(some 26), (.bin .lss (.t 25) (.t 24)), none, false⟩] []) (.seq (.cond (.t 26) .skip (.exit 1)) (.seq (.block 2 (Jq6j p)) (.region [⟨(some 37), (.bin .add (.t 25) (.c (.d (.int .i64 1)))), none, false⟩, ⟨(some 25), (.mov (.t 37)), none, false⟩] [])))) := eqi
def Jtal (p : Nums) : IC := (.seq (.region [⟨(some 10), (.asg (.c (.d (.int .i64 0)))), none, false⟩] []) (.seq (.block 0 (Jq6p p)) (.seq (.seq (Jq6q p) (.block 1 (.loop (Jq6k p)))) (.seq (.region [⟨(some 10), (.asg (.c (.d (.int .i64 0)))), none, false⟩] []) .ret))))
@[simp] def Jqj4 (p : Nums) : List IOp := [qo 8 (.faddr 0 (.t 1)), qo 9 (.load none (.t 8)), qo 10 (.bin .lss (.t 9) (ci 0)), qo 11 (.mov (.t 10)), ⟨(some 12), (.faddr 0 (.t 1)), (some (11, false)), false⟩, ⟨(some 13), (.load none (.t 12)), (some (11, false)), false⟩, ⟨(some 14), (.faddr 2 (.t 1)), (some (11, false)), false⟩, ⟨(some 15), (.load none (.t 14)), (some (11, false)), false⟩, ⟨(some 16), (.bin .gtr (.t 13) (.t 15)), (some (11, false)), false⟩, qo 17 (.pick (.t 11) (.c (.d (.bool true))) (.t 16))]
def Jqif (p : Nums) : IC := (.region (Jqj4 p) [])
@[simp] theorem Jeif {p : Nums} : EqI (Jqif p) (.region (Jqj4 p) []) := eqi
def Jqiq (p : Nums) : IC := (.seq (.region [⟨(some 2), (.asg (.c (.d (.int .i64 10)))), none, false⟩] []) .ret)
@[simp] theorem Jeiq {p : Nums} : EqI (Jqiq p) (.seq (.region [⟨(some 2), (.asg (.c (.d (.int .i64 10)))), none, false⟩] []) .ret) := eqi
@[simp] def Jqjd (p : Nums) : List IOp := [qo 18 (.faddr 1 (.t 1)), qo 19 (.load none (.t 18)), qo 20 (.bin .lss (.t 19) (ci 0))]
def Jqix (p : Nums) : IC := (.region (Jqjd p) [])
@[simp] theorem Jeix {p : Nums} : EqI (Jqix p) (.region (Jqjd p) []) := eqi
def Jqiy (p : Nums) : IC := (.seq (.region [⟨(some 2), (.asg (.c (.d (.int .i64 9)))), none, false⟩] []) .ret)
@[simp] theorem Jeiy {p : Nums} : EqI (Jqiy p) (.seq (.region [⟨(some 2), (.asg (.c (.d (.int .i64 9)))), none, false⟩] []) .ret) := eqi
@[simp] def Jqje (p : Nums) : List IOp := [qo 21 (.faddr 2 (.t 1)), qo 22 (.load none (.t 21)), qo 23 (.bin .gtr (.t 22) (ci 1048576)), qo 24 (.mov (.t 23)), ⟨(some 25), (.faddr 1 (.t 1)), (some (24, false)), false⟩, ⟨(some 26), (.load none (.t 25)), (some (24, false)), false⟩, ⟨(some 27), (.bin .gtr (.t 26) (ci 1048576)), (some (24, false)), false⟩, qo 28 (.pick (.t 24) (.c (.d (.bool true))) (.t 27))]
def Jqiz (p : Nums) : IC := (.region (Jqje p) [])
@[simp] theorem Jeiz {p : Nums} : EqI (Jqiz p) (.region (Jqje p) []) := eqi
def Jqj0 (p : Nums) : IC := (.seq (.region [⟨(some 2), (.asg (.c (.d (.int .i64 6)))), none, false⟩] []) .ret)
@[simp] theorem Jej0 {p : Nums} : EqI (Jqj0 p) (.seq (.region [⟨(some 2), (.asg (.c (.d (.int .i64 6)))), none, false⟩] []) .ret) := eqi
@[simp] def Jqjf (p : Nums) : List IOp := [qo 29 (.faddr 3 (.t 1)), qo 30 (.load none (.t 29)), qo 31 (.len (.t 30)), qo 32 (.bin .eql (.t 31) (ci 0))]
def Jqj1 (p : Nums) : IC := (.region (Jqjf p) [])
@[simp] theorem Jej1 {p : Nums} : EqI (Jqj1 p) (.region (Jqjf p) []) := eqi
def Jqj2 (p : Nums) : IC := (.seq (.region [⟨(some 2), (.asg (.c (.d (.int .i64 14)))), none, false⟩] []) .ret)
@[simp] theorem Jej2 {p : Nums} : EqI (Jqj2 p) (.seq (.region [⟨(some 2), (.asg (.c (.d (.int .i64 14)))), none, false⟩] []) .ret) := eqi
@[simp] def Jqjg (p : Nums) : List IOp := [qo 33 (.faddr 3 (.t 1)), qo 34 (.load none (.t 33)), qo 35 (.len (.t 34)), qo 36 (.bin .gtr (.t 35) (ci 1048576)), qo 37 (.mov (.t 36)), ⟨(some 38), (.load (some 4) (.t 1)), (some (37, false)), false⟩, ⟨(some 39), (.call p.ref08_Code [(.t 38)]), (some (37, false)), false⟩, ⟨(some 40), (.bin .gtr (.t 39) (ci 1048576)), (some (37, false)), false⟩, qo 41 (.pick (.t 37) (.c (.d (.bool true))) (.t 40))]
def Jqj3 (p : Nums) : IC := (.region (Jqjg p) [])
@[simp] theorem Jej3 {p : Nums} : EqI (Jqj3 p) (.region (Jqjg p) []) := eqi
def Jqig (p : Nums) : IC := (.seq (.region [⟨(some 2), (.asg (.c (.d (.int .i64 6)))), none, false⟩] []) .ret)
@[simp] theorem Jeig {p : Nums} : EqI (Jqig p) (.seq (.region [⟨(some 2), (.asg (.c (.d (.int .i64 6)))), none, false⟩] []) .ret) := eqi
@[simp] def Jqj5 (p : Nums) : List IOp := [qo 42 (.mov (.t 3)), qo 43 (.faddr 3 (.t 1)), qo 44 (.load none (.t 43)), qo 45 (.len (.t 44)), qo 46 (.bin .lss (.t 42) (.t 45))]
def Jqih (p : Nums) : IC := (.region (Jqj5 p) [])
@[simp] theorem Jeih {p : Nums} : EqI (Jqih p) (.region (Jqj5 p) []) := eqi
@[simp] def Jqj6 (p : Nums) : List IOp := [qo 49 (.faddr 3 (.t 1)), qo 50 (.load none (.t 49)), qo 51 (.mov (.t 3)), qo 52 (.iaddr 5 (.t 50) (.t 51)), qo 53 (.load (some 5) (.t 52)), qo 4 (.alloc [.nils, (zi 0), (zi 0), (zi 0), (zi 0)]), qn (.store 5 (.t 4) (.t 53))]
def Jqii (p : Nums) : IC := (.region (Jqj6 p) [])
@[simp] theorem Jeii {p : Nums} : EqI (Jqii p) (.region (Jqj6 p) []) := eqi
@[simp] def Jqj7 (p : Nums) : List IOp := [qo 54 (.mov (.t 5)), qo 55 (.faddr 0 (.t 4)), qo 56 (.load none (.t 55)), qo 57 (.len (.t 56)), qo 58 (.bin .lss (.t 54) (.t 57))]
def Jqij (p : Nums) : IC := (.region (Jqj7 p) [])
@[simp] theorem Jeij {p : Nums} : EqI (Jqij p) (.region (Jqj7 p) []) := eqi
@[simp] def Jqj8 (p : Nums) : List IOp := [qp 61 (.faddr 0 (.t 4)), qp 62 (.load none (.t 61)), qp 63 (.mov (.t 5)), qp 64 (.iaddr 7 (.t 62) (.t 63)), qp 65 (.load (some 7) (.t 64)), qp 66 (.faddr 1 (.t 1)), qp 67 (.load none (.t 66)), qp 68 (.faddr 2 (.t 1)), qp 69 (.load none (.t 68)), qo 70 (.call p.ref08_Instr [(.t 65), (.t 67), (.t 69)]), qo 6 (.asg (.t 70))]
def Jqik (p : Nums) : IC := (.region (Jqj8 p) [])
@[simp] theorem Jeik {p : Nums} : EqI (Jqik p) (.region (Jqj8 p) []) := eqi
def Jqil (p : Nums) : IC := (.seq (.region [⟨(some 73), (.mov (.t 6)), none, false⟩, ⟨(some 2), (.asg (.t 73)), none, false⟩] []) .ret)
@[simp] theorem Jeil {p : Nums} : EqI (Jqil p) (.seq (.region [⟨(some 73), (.mov (.t 6)), none, false⟩, ⟨(some 2), (.asg (.t 73)), none, false⟩] []) .ret) := eqi
@[simp] def Jqj9 (p : Nums) : List IOp := [qo 74 (.mov (.t 5)), qo 75 (.bin .geq (.t 74) (ci 64)), qo 76 (.mov (.t 75)), ⟨(some 77), (.faddr 0 (.t 4)), (some (76, true)), false⟩, ⟨(some 78), (.load none (.t 77)), (some (76, true)), false⟩, ⟨(some 79), (.mov (.t 5)), (some (76, true)), false⟩, ⟨(some 80), (.bin .sub (.t 79) (ci 64)), (some (76, true)), false⟩, ⟨(some 81), (.mov (.t 5)), (some (76, true)), false⟩, ⟨(some 82), (.bin .add (.t 81) (ci 1)), (some (76, true)), false⟩, ⟨(some 83), (.slc 7 (.t 78) (some (.t 80)) (some (.t 82))), (some (76, true)), false⟩, ⟨(some 84), (.call p.ref08_Moves [(.t 83)]), (some (76, true)), false⟩, ⟨(some 85), (.bin .gtr (.t 84) (ci 64)), (some (76, true)), false⟩, qo 86 (.pick (.t 76) (.t 85) (.c (.d (.bool false))))]
def Jqim (p : Nums) : IC := (.region (Jqj9 p) [])
@[simp] theorem Jeim {p : Nums} : EqI (Jqim p) (.region (Jqj9 p) []) := eqi
def Jqin (p : Nums) : IC := (.seq (.region [⟨(some 2), (.asg (.c (.d (.int .i64 15)))), none, false⟩] []) .ret)
@[simp] theorem Jein {p : Nums} : EqI (Jqin p) (.seq (.region [⟨(some 2), (.asg (.c (.d (.int .i64 15)))), none, false⟩] []) .ret) := eqi
def Jqio (p : Nums) : IC := (.seq (Jqik p) (.seq (.seq (.region [⟨(some 71), (.mov (.t 6)), none, false⟩, ⟨(some 72), (.bin .neq (.t 71) (.c (.d (.int .i64 0)))), none, false⟩] []) (.cond (.t 72) (Jqil p) .skip)) (.seq (Jqim p) (.cond (.t 86) (Jqin p) .skip))))
@[simp] theorem Jeio {p : Nums} : EqI (Jqio p) (.seq (Jqik p) (.seq (.seq (.region [⟨(some 71), (.mov (.t 6)), none, false⟩, ⟨(some 72), (.bin .neq (.t 71) (.c (.d (.int .i64 0)))), none, false⟩] []) (.cond (.t 72) (Jqil p) .skip)) (.seq (Jqim p) (.cond (.t 86) (Jqin p) .skip)))) := eqi
@[simp] def Jqja (p : Nums) : List IOp := [qo 59 (.mov (.t 5)), qo 60 (.bin .add (.t 59) (ci 1)), qo 5 (.asg (.t 60))]
def Jqip (p : Nums) : IC := (.region (Jqja p) [])
@[simp] theorem Jeip {p : Nums} : EqI (Jqip p) (.region (Jqja p) []) := eqi
def Jqir (p : Nums) : IC := (.seq (.seq (Jqij p) (.cond (.t 58) .skip (.exit 2))) (.seq (.block 3 (Jqio p)) (Jqip p)))
@[simp] theorem Jeir {p : Nums} : EqI (Jqir p) (.seq (.seq (Jqij p) (.cond (.t 58) .skip (.exit 2))) (.seq (.block 3 (Jqio p)) (Jqip p))) := eqi
@[simp] def Jqjb (p : Nums) : List IOp := [qo 87 (.faddr 1 (.t 4)), qo 88 (.load (some 4) (.t 87)), qo 89 (.faddr 1 (.t 1)), qo 90 (.load none (.t 89)), qo 91 (.faddr 3 (.t 1)), qo 92 (.load none (.t 91)), qo 93 (.len (.t 92)), qo 94 (.call p.ref07_Term [(.t 88), (.t 90), (.t 93)]), qo 7 (.asg (.t 94))]
def Jqis (p : Nums) : IC := (.region (Jqjb p) [])
@[simp] theorem Jeis {p : Nums} : EqI (Jqis p) (.region (Jqjb p) []) := eqi
def Jqit (p : Nums) : IC := (.seq (.region [⟨(some 97), (.mov (.t 7)), none, false⟩, ⟨(some 2), (.asg (.t 97)), none, false⟩] []) .ret)
@[simp] theorem Jeit {p : Nums} : EqI (Jqit p) (.seq (.region [⟨(some 97), (.mov (.t 7)), none, false⟩, ⟨(some 2), (.asg (.t 97)), none, false⟩] []) .ret) := eqi
def Jqiu (p : Nums) : IC := (.seq (Jqii p) (.seq (.seq (.region [⟨(some 5), (.asg (.c (.d (.int .i64 0)))), none, false⟩] []) (.block 2 (.loop (Jqir p)))) (.seq (Jqis p) (.seq (.region [⟨(some 95), (.mov (.t 7)), none, false⟩, ⟨(some 96), (.bin .neq (.t 95) (.c (.d (.int .i64 0)))), none, false⟩] []) (.cond (.t 96) (Jqit p) .skip)))))
@[simp] theorem Jeiu {p : Nums} : EqI (Jqiu p) (.seq (Jqii p) (.seq (.seq (.region [⟨(some 5), (.asg (.c (.d (.int .i64 0)))), none, false⟩] []) (.block 2 (.loop (Jqir p)))) (.seq (Jqis p) (.seq (.region [⟨(some 95), (.mov (.t 7)), none, false⟩, ⟨(some 96), (.bin .neq (.t 95) (.c (.d (.int .i64 0)))), none, false⟩] []) (.cond (.t 96) (Jqit p) .skip))))) := eqi
@[simp] def Jqjc (p : Nums) : List IOp := [qo 47 (.mov (.t 3)), qo 48 (.bin .add (.t 47) (ci 1)), qo 3 (.asg (.t 48))]
def Jqiv (p : Nums) : IC := (.region (Jqjc p) [])
@[simp] theorem Jeiv {p : Nums} : EqI (Jqiv p) (.region (Jqjc p) []) := eqi
def Jqiw (p : Nums) : IC := (.seq (.seq (Jqih p) (.cond (.t 46) .skip (.exit 0))) (.seq (.block 1 (Jqiu p)) (Jqiv p)))
@[simp] theorem Jeiw {p : Nums} : EqI (Jqiw p) (.seq (.seq (Jqih p) (.cond (.t 46) .skip (.exit 0))) (.seq (.block 1 (Jqiu p)) (Jqiv p))) := eqi
def Jtbw (p : Nums) : IC := (.seq (.region [⟨(some 1), (.box (.t 0)), none, false⟩, ⟨(some 2), (.asg (.c (.d (.int .i64 0)))), none, false⟩] []) (.seq (.seq (Jqif p) (.cond (.t 17) (Jqiq p) .skip)) (.seq (.seq (Jqix p) (.cond (.t 20) (Jqiy p) .skip)) (.seq (.seq (Jqiz p) (.cond (.t 28) (Jqj0 p) .skip)) (.seq (.seq (Jqj1 p) (.cond (.t 32) (Jqj2 p) .skip)) (.seq (.seq (Jqj3 p) (.cond (.t 41) (Jqig p) .skip)) (.seq (.seq (.region [⟨(some 3), (.asg (.c (.d (.int .i64 0)))), none, false⟩] []) (.block 0 (.loop (Jqiw p)))) (.seq (.region [⟨(some 2), (.asg (.c (.d (.int .i64 0)))), none, false⟩] []) .ret))))))))
@[simp] def Jqsm (p : Nums) : List IOp := [qo 16 (.mov (.t 0)), qo 17 (.len (.t 16)), qo 18 (.mov (.t 1)), qo 19 (.bin .neq (.t 17) (.t 18))]
def Jqrz (p : Nums) : IC := (.region (Jqsm p) [])
@[simp] theorem Jerz {p : Nums} : EqI (Jqrz p) (.region (Jqsm p) []) := eqi
def Jqsa (p : Nums) : IC := (.seq (.region [⟨(some 10), (.asg (.c (.d (.int .i64 14)))), none, false⟩] []) .ret)
@[simp] theorem Jesa {p : Nums} : EqI (Jqsa p) (.seq (.region [⟨(some 10), (.asg (.c (.d (.int .i64 14)))), none, false⟩] []) .ret) := eqi
@[simp] def Jqsu (p : Nums) : List IOp := [qo 20 (.mov (.t 12)), qo 21 (.mov (.t 0)), qo 22 (.len (.t 21)), qo 23 (.bin .lss (.t 20) (.t 22))]
def Jqsf (p : Nums) : IC := (.region (Jqsu p) [])
@[simp] theorem Jesf {p : Nums} : EqI (Jqsf p) (.region (Jqsu p) []) := eqi
@[simp] def Jqsv (p : Nums) : List IOp := [qo 26 (.mov (.t 11)), qo 27 (.mov (.t 0)), qo 28 (.mov (.t 12)), qo 29 (.iaddr 1 (.t 27) (.t 28)), qo 30 (.load none (.t 29)), qo 31 (.len (.t 30)), qo 32 (.bin .add (.t 26) (.t 31)), qo 11 (.asg (.t 32))]
def Jqsg (p : Nums) : IC := (.region (Jqsv p) [])
@[simp] theorem Jesg {p : Nums} : EqI (Jqsg p) (.region (Jqsv p) []) := eqi
def Jqsh (p : Nums) : IC := (.seq (.region [⟨(some 10), (.asg (.c (.d (.int .i64 6)))), none, false⟩] []) .ret)
@[simp] theorem Jesh {p : Nums} : EqI (Jqsh p) (.seq (.region [⟨(some 10), (.asg (.c (.d (.int .i64 6)))), none, false⟩] []) .ret) := eqi
def Jqsi (p : Nums) : IC := (.seq (Jqsg p) (.seq (.region [⟨(some 33), (.mov (.t 11)), none, false⟩, ⟨(some 34), (.bin .gtr (.t 33) (.c (.d (.int .i64 1048576)))), none, false⟩] []) (.cond (.t 34) (Jqsh p) .skip)))
@[simp] theorem Jesi {p : Nums} : EqI (Jqsi p) (.seq (Jqsg p) (.seq (.region [⟨(some 33), (.mov (.t 11)), none, false⟩, ⟨(some 34), (.bin .gtr (.t 33) (.c (.d (.int .i64 1048576)))), none, false⟩] []) (.cond (.t 34) (Jqsh p) .skip))) := eqi
@[simp] def Jqsw (p : Nums) : List IOp := [qo 24 (.mov (.t 12)), qo 25 (.bin .add (.t 24) (ci 1)), qo 12 (.asg (.t 25))]
def Jqsj (p : Nums) : IC := (.region (Jqsw p) [])
@[simp] theorem Jesj {p : Nums} : EqI (Jqsj p) (.region (Jqsw p) []) := eqi
def Jqsk (p : Nums) : IC := (.seq (.seq (Jqsf p) (.cond (.t 23) .skip (.exit 0))) (.seq (.block 1 (Jqsi p)) (Jqsj p)))
@[simp] theorem Jesk {p : Nums} : EqI (Jqsk p) (.seq (.seq (Jqsf p) (.cond (.t 23) .skip (.exit 0))) (.seq (.block 1 (Jqsi p)) (Jqsj p))) := eqi
@[simp] def Jqsx (p : Nums) : List IOp := [qo 35 (.mov (.t 13)), qo 36 (.mov (.t 0)), qo 37 (.len (.t 36)), qo 38 (.bin .lss (.t 35) (.t 37))]
def Jqsl (p : Nums) : IC := (.region (Jqsx p) [])
@[simp] theorem Jesl {p : Nums} : EqI (Jqsl p) (.region (Jqsx p) []) := eqi
@[simp] def Jqsn (p : Nums) : List IOp := [qo 41 (.mov (.t 14)), qo 42 (.mov (.t 0)), qo 43 (.mov (.t 13)), qo 44 (.iaddr 1 (.t 42) (.t 43)), qo 45 (.load none (.t 44)), qo 46 (.len (.t 45)), qo 47 (.bin .lss (.t 41) (.t 46))]
def Jqs0 (p : Nums) : IC := (.region (Jqsn p) [])
@[simp] theorem Jes0 {p : Nums} : EqI (Jqs0 p) (.region (Jqsn p) []) := eqi
@[simp] def Jqso (p : Nums) : List IOp := [qo 50 (.mov (.t 0)), qo 51 (.mov (.t 13)), qo 52 (.iaddr 1 (.t 50) (.t 51)), qo 53 (.load none (.t 52)), qo 54 (.mov (.t 14)), qo 55 (.iaddr 2 (.t 53) (.t 54)), qo 56 (.load (some 2) (.t 55)), qo 15 (.alloc [(zi 0), (zi 0)]), qn (.store 2 (.t 15) (.t 56))]
def Jqs1 (p : Nums) : IC := (.region (Jqso p) [])
@[simp] theorem Jes1 {p : Nums} : EqI (Jqs1 p) (.region (Jqso p) []) := eqi
@[simp] def Jqsp (p : Nums) : List IOp := [qo 57 (.faddr 0 (.t 15)), qo 58 (.load none (.t 57)), qo 59 (.bin .lss (.t 58) (ci 0)), qo 60 (.mov (.t 59)), ⟨(some 61), (.faddr 0 (.t 15)), (some (60, false)), false⟩, ⟨(some 62), (.load none (.t 61)), (some (60, false)), false⟩, ⟨(some 63), (.mov (.t 2)), (some (60, false)), false⟩, ⟨(some 64), (.bin .geq (.t 62) (.t 63)), (some (60, false)), false⟩, qo 65 (.pick (.t 60) (.c (.d (.bool true))) (.t 64))]
def Jqs2 (p : Nums) : IC := (.region (Jqsp p) [])
@[simp] theorem Jes2 {p : Nums} : EqI (Jqs2 p) (.region (Jqsp p) []) := eqi
def Jqs3 (p : Nums) : IC := (.seq (.region [⟨(some 10), (.asg (.c (.d (.int .i64 9)))), none, false⟩] []) .ret)
@[simp] theorem Jes3 {p : Nums} : EqI (Jqs3 p) (.seq (.region [⟨(some 10), (.asg (.c (.d (.int .i64 9)))), none, false⟩] []) .ret) := eqi
@[simp] def Jqsq (p : Nums) : List IOp := [qo 66 (.faddr 1 (.t 15)), qo 67 (.load none (.t 66)), qo 68 (.mov (.t 3)), qo 69 (.mov (.t 4)), qo 70 (.call p.ref04_InRange [(.t 67), (.t 68), (.t 69)]), qo 71 (.un .not (.t 70))]
def Jqs4 (p : Nums) : IC := (.region (Jqsq p) [])
@[simp] theorem Jes4 {p : Nums} : EqI (Jqs4 p) (.region (Jqsq p) []) := eqi
def Jqs5 (p : Nums) : IC := (.seq (.region [⟨(some 10), (.asg (.c (.d (.int .i64 10)))), none, false⟩] []) .ret)
@[simp] theorem Jes5 {p : Nums} : EqI (Jqs5 p) (.seq (.region [⟨(some 10), (.asg (.c (.d (.int .i64 10)))), none, false⟩] []) .ret) := eqi
@[simp] def Jqsr (p : Nums) : List IOp := [qo 72 (.mov (.t 14)), qo 73 (.bin .gtr (.t 72) (ci 0)), qo 74 (.mov (.t 73)), ⟨(some 75), (.mov (.t 0)), (some (74, true)), true⟩, ⟨(some 76), (.mov (.t 13)), (some (74, true)), true⟩, ⟨(some 77), (.iaddr 1 (.t 75) (.t 76)), (some (74, true)), true⟩, ⟨(some 78), (.load none (.t 77)), (some (74, true)), true⟩, ⟨(some 79), (.mov (.t 14)), (some (74, true)), true⟩, ⟨(some 80), (.bin .sub (.t 79) (ci 1)), (some (74, true)), true⟩, ⟨(some 81), (.iaddr 2 (.t 78) (.t 80)), (some (74, true)), true⟩, ⟨(some 82), (.load (some 2) (.t 81)), (some (74, true)), true⟩, ⟨(some 83), (.load (some 2) (.t 15)), (some (74, true)), true⟩, ⟨(some 84), (.call p.ref11_Less [(.t 82), (.t 83)]), (some (74, true)), false⟩, ⟨(some 85), (.un .not (.t 84)), (some (74, true)), false⟩, qo 86 (.pick (.t 74) (.t 85) (.c (.d (.bool false))))]
def Jqs6 (p : Nums) : IC := (.region (Jqsr p) [])
@[simp] theorem Jes6 {p : Nums} : EqI (Jqs6 p) (.region (Jqsr p) []) := eqi
def Jqs7 (p : Nums) : IC := (.seq (.region [⟨(some 10), (.asg (.c (.d (.int .i64 13)))), none, false⟩] []) .ret)
@[simp] theorem Jes7 {p : Nums} : EqI (Jqs7 p) (.seq (.region [⟨(some 10), (.asg (.c (.d (.int .i64 13)))), none, false⟩] []) .ret) := eqi
def Jqs8 (p : Nums) : IC := (.seq (Jqs1 p) (.seq (.seq (Jqs2 p) (.cond (.t 65) (Jqs3 p) .skip)) (.seq (.seq (Jqs4 p) (.cond (.t 71) (Jqs5 p) .skip)) (.seq (Jqs6 p) (.cond (.t 86) (Jqs7 p) .skip)))))
@[simp] theorem Jes8 {p : Nums} : EqI (Jqs8 p) (.seq (Jqs1 p) (.seq (.seq (Jqs2 p) (.cond (.t 65) (Jqs3 p) .skip)) (.seq (.seq (Jqs4 p) (.cond (.t 71) (Jqs5 p) .skip)) (.seq (Jqs6 p) (.cond (.t 86) (Jqs7 p) .skip))))) := eqi
@[simp] def Jqss (p : Nums) : List IOp := [qo 48 (.mov (.t 14)), qo 49 (.bin .add (.t 48) (ci 1)), qo 14 (.asg (.t 49))]
def Jqs9 (p : Nums) : IC := (.region (Jqss p) [])
@[simp] theorem Jes9 {p : Nums} : EqI (Jqs9 p) (.region (Jqss p) []) := eqi
def Jqsb (p : Nums) : IC := (.seq (.seq (Jqs0 p) (.cond (.t 47) .skip (.exit 4))) (.seq (.block 5 (Jqs8 p)) (Jqs9 p)))
@[simp] theorem Jesb {p : Nums} : EqI (Jqsb p) (.seq (.seq (Jqs0 p) (.cond (.t 47) .skip (.exit 4))) (.seq (.block 5 (Jqs8 p)) (Jqs9 p))) := eqi
def Jqsc (p : Nums) : IC := (.seq (.region [⟨(some 14), (.asg (.c (.d (.int .i64 0)))), none, false⟩] []) (.block 4 (.loop (Jqsb p))))
@[simp] theorem Jesc {p : Nums} : EqI (Jqsc p) (.seq (.region [⟨(some 14), (.asg (.c (.d (.int .i64 0)))), none, false⟩] []) (.block 4 (.loop (Jqsb p)))) := eqi
@[simp] def Jqst (p : Nums) : List IOp := [qo 39 (.mov (.t 13)), qo 40 (.bin .add (.t 39) (ci 1)), qo 13 (.asg (.t 40))]
def Jqsd (p : Nums) : IC := (.region (Jqst p) [])
@[simp] theorem Jesd {p : Nums} : EqI (Jqsd p) (.region (Jqst p) []) := eqi
def Jqse (p : Nums) : IC := (.seq (.seq (Jqsl p) (.cond (.t 38) .skip (.exit 2))) (.seq (.block 3 (Jqsc p)) (Jqsd p)))
@[simp] theorem Jese {p : Nums} : EqI (Jqse p) (.seq (.seq (Jqsl p) (.cond (.t 38) .skip (.exit 2))) (.seq (.block 3 (Jqsc p)) (Jqsd p))) := eqi
def Jtci (p : Nums) : IC := (.seq (.region [⟨(some 10), (.asg (.c (.d (.int .i64 0)))), none, false⟩] []) (.seq (.seq (Jqrz p) (.cond (.t 19) (Jqsa p) .skip)) (.seq (.region [⟨(some 11), (.asg (.c (.d (.int .i64 0)))), none, false⟩] []) (.seq (.seq (.region [⟨(some 12), (.asg (.c (.d (.int .i64 0)))), none, false⟩] []) (.block 0 (.loop (Jqsk p)))) (.seq (.seq (.region [⟨(some 13), (.asg (.c (.d (.int .i64 0)))), none, false⟩] []) (.block 2 (.loop (Jqse p)))) (.seq (.region [⟨(some 10), (.asg (.c (.d (.int .i64 0)))), none, false⟩] []) .ret))))))
@[simp] def Jq5j (p : Nums) : List IOp := [qo 1 (.box (.t 0)), qo 2 (.alloc [(zi 0), (zi 0), (zi 0), (zi 0), (zi 0), (zi 0), (zi 0)])]
def Jq5c (p : Nums) : IC := (.region (Jq5j p) [])
@[simp] theorem Je5c {p : Nums} : EqI (Jq5c p) (.region (Jq5j p) []) := eqi
@[simp] def Jq5k (p : Nums) : List IOp := [qo 6 (.faddr 7 (.t 1)), qo 7 (.load none (.t 6)), qo 8 (.iaddr 1 (.t 7) (ci 0)), qo 9 (.load none (.t 8)), qo 10 (.len (.t 9)), qo 11 (.bin .add (ci 1) (.t 10)), qo 12 (.build [(zi 0), (zi 0), (zi 0), (zi 0), (zi 0), (zi 0), (zi 0)] [(5, 1, (.t 11))]), qo 3 (.alloc [(zi 0), (zi 0), (zi 0), (zi 0), (zi 0), (zi 0), (zi 0)]), qn (.store 7 (.t 3) (.t 12))]
def Jq5d (p : Nums) : IC := (.region (Jq5k p) [])
@[simp] theorem Je5d {p : Nums} : EqI (Jq5d p) (.region (Jq5k p) []) := eqi
@[simp] def Jq5l (p : Nums) : List IOp := [qo 13 (.faddr 7 (.t 1)), qo 14 (.load none (.t 13)), qo 15 (.len (.t 14)), qo 16 (.mov (ci 0))]
def Jq5e (p : Nums) : IC := (.region (Jq5l p) [])
@[simp] theorem Je5e {p : Nums} : EqI (Jq5e p) (.region (Jq5l p) []) := eqi
@[simp] def Jq5m (p : Nums) : List IOp := [qo 18 (.iaddr 1 (.t 14) (.t 16)), qo 19 (.load none (.t 18)), qo 5 (.asg (.t 19))]
def Jq5f (p : Nums) : IC := (.region (Jq5m p) [])
@[simp] theorem Je5f {p : Nums} : EqI (Jq5f p) (.region (Jq5m p) []) := eqi
@[simp] def Jq5n (p : Nums) : List IOp := [qo 20 (.faddr 6 (.t 3)), qo 21 (.load none (.t 20)), qo 22 (.mov (.t 5)), qo 23 (.len (.t 22)), qo 24 (.mx (.t 21) (.t 23)), qo 25 (.faddr 6 (.t 3)), qn (.store 1 (.t 25) (.t 24))]
def Jq5g (p : Nums) : IC := (.region (Jq5n p) [])
@[simp] theorem Je5g {p : Nums} : EqI (Jq5g p) (.region (Jq5n p) []) := eqi
def Jq5h (p : Nums) : IC := (.seq (.region [⟨(some 17), (.bin .lss (.t 16) (.t 15)), none, false⟩] []) (.seq (.cond (.t 17) .skip (.exit 0)) (.seq (.block 1 (.seq (Jq5f p) (Jq5g p))) (.region [⟨(some 26), (.bin .add (.t 16) (.c (.d (.int .i64 1)))), none, false⟩, ⟨(some 16), (.mov (.t 26)), none, false⟩] []))))
@[simp] theorem Je5h {p : Nums} : EqI (Jq5h p) (.seq (.region [⟨(some 17), (.bin .lss (.t 16) (.t 15)), none, false⟩] []) (.seq (.cond (.t 17) .skip (.exit 0)) (.seq (.block 1 (.seq (Jq5f p) (Jq5g p))) (.region [⟨(some 26), (.bin .add (.t 16) (.c (.d (.int .i64 1)))), none, false⟩, ⟨(some 16), (.mov (.t 26)), none, false⟩] [])))) := eqi
@[simp] def Jq5o (p : Nums) : List IOp := [qp 28 (.faddr 7 (.t 1)), qp 29 (.load none (.t 28)), qp 30 (.iaddr 1 (.t 29) (ci 0)), qp 31 (.load none (.t 30)), qp 32 (.faddr 0 (.t 1)), qp 33 (.faddr 0 (.t 32)), qp 34 (.load none (.t 33)), qo 35 (.call p.edge_Entry [(.t 31), (.t 34)]), qo 27 (.mov (.t 35)), qp 36 (.ext (.t 27) 0), qp 37 (.ext (.t 27) 1), qo 38 (.faddr 0 (.t 3)), qn (.store 1 (.t 38) (.t 37))]
def Jq5i (p : Nums) : IC := (.region (Jq5o p) [])
@[simp] theorem Je5i {p : Nums} : EqI (Jq5i p) (.region (Jq5o p) []) := eqi
def Jtah (p : Nums) : IC := (.seq (Jq5c p) (.seq (Jq5d p) (.seq (.seq (Jq5e p) (.block 0 (.loop (Jq5h p)))) (.seq (Jq5i p) (.seq (.region [⟨(some 39), (.load (some 7) (.t 3)), none, false⟩, ⟨none, (.store 7 (.t 2) (.t 39)), none, false⟩] []) .ret)))))
@[simp] def Jq1k (p : Nums) : List IOp := [qo 4 (.box (.t 0)), qo 5 (.box (.t 1)), qo 8 (.alloc [.nils, (zi 0), (zi 0), (zi 0), (zi 0)])]
def Jq19 (p : Nums) : IC := (.region (Jq1k p) [])
@[simp] theorem Je19 {p : Nums} : EqI (Jq19 p) (.region (Jq1k p) []) := eqi
@[simp] def Jq1n (p : Nums) : List IOp := [qo 14 (.mov (.t 2)), qo 15 (.len (.t 14)), qo 16 (.mov (.t 3)), qo 17 (.bin .gtr (.t 15) (.t 16))]
def Jq1c (p : Nums) : IC := (.region (Jq1n p) [])
@[simp] theorem Je1c {p : Nums} : EqI (Jq1c p) (.region (Jq1n p) []) := eqi
@[simp] def Jq1o (p : Nums) : List IOp := [qo 18 (.mov (.t 2)), qo 19 (.len (.t 18)), qo 20 (.build [.nils, (zi 0), (zi 0), (zi 0), (zi 0)] [(1, 1, (ci 24)), (4, 1, (.t 19))]), qn (.store 5 (.t 8) (.t 20))]
def Jq1d (p : Nums) : IC := (.region (Jq1o p) [])
@[simp] theorem Je1d {p : Nums} : EqI (Jq1d p) (.region (Jq1o p) []) := eqi
@[simp] def Jq1p (p : Nums) : List IOp := [qo 22 (.faddr 0 (.t 4)), qo 23 (.load none (.t 22)), qo 24 (.faddr 0 (.t 5)), qo 25 (.load none (.t 24)), qo 26 (.call p.align_Code [(.t 23), (.t 25)]), qo 21 (.mov (.t 26)), qo 27 (.ext (.t 21) 0), qo 28 (.ext (.t 21) 1), qo 29 (.ext (.t 21) 2), qo 9 (.asg (.t 27)), qo 10 (.asg (.t 28)), qo 11 (.asg (.t 29))]
def Jq1e (p : Nums) : IC := (.region (Jq1p p) [])
@[simp] theorem Je1e {p : Nums} : EqI (Jq1e p) (.region (Jq1p p) []) := eqi
@[simp] def Jq1q (p : Nums) : List IOp := [qo 30 (.mov (.t 11)), qo 31 (.bin .eql (.t 30) (ci 0)), qo 32 (.mov (.t 31)), ⟨(some 33), (.faddr 1 (.t 4)), (some (32, true)), false⟩, ⟨(some 34), (.load (some 4) (.t 33)), (some (32, true)), false⟩, ⟨(some 35), (.faddr 1 (.t 5)), (some (32, true)), false⟩, ⟨(some 36), (.load (some 4) (.t 35)), (some (32, true)), false⟩, ⟨(some 37), (.call p.align_Terms [(.t 34), (.t 36)]), (some (32, true)), false⟩, ⟨(some 38), (.un .not (.t 37)), (some (32, true)), false⟩, qo 39 (.pick (.t 32) (.t 38) (.c (.d (.bool false))))]
def Jq1f (p : Nums) : IC := (.region (Jq1q p) [])
@[simp] theorem Je1f {p : Nums} : EqI (Jq1f p) (.region (Jq1q p) []) := eqi
@[simp] def Jq1r (p : Nums) : List IOp := [qo 11 (.asg (ci 20))]
def Jq1g (p : Nums) : IC := (.region (Jq1r p) [])
@[simp] theorem Je1g {p : Nums} : EqI (Jq1g p) (.region (Jq1r p) []) := eqi
@[simp] def Jq1s (p : Nums) : List IOp := [qo 42 (.mov (.t 11)), qo 43 (.mov (.t 10)), qo 44 (.mov (.t 2)), qo 45 (.len (.t 44)), qo 46 (.build [.nils, (zi 0), (zi 0), (zi 0), (zi 0)] [(1, 1, (.t 42)), (2, 1, (.t 43)), (4, 1, (.t 45))]), qn (.store 5 (.t 8) (.t 46))]
def Jq1h (p : Nums) : IC := (.region (Jq1s p) [])
@[simp] theorem Je1h {p : Nums} : EqI (Jq1h p) (.region (Jq1s p) []) := eqi
@[simp] def Jq1t (p : Nums) : List IOp := [qo 47 (.mov (.t 2)), qo 48 (.call p.pairset_Make [(.t 47)]), qo 49 (.mov (.t 3)), qo 50 (.mov (.t 2)), qo 51 (.len (.t 50)), qo 52 (.build [.nils, (zi 0), (zi 0), (zi 0)] [(0, 1, (.t 48)), (1, 1, (.t 49)), (3, 1, (.t 51))]), qo 53 (.box (.t 52)), qo 12 (.asg (.t 53))]
def Jq1i (p : Nums) : IC := (.region (Jq1t p) [])
@[simp] theorem Je1i {p : Nums} : EqI (Jq1i p) (.region (Jq1t p) []) := eqi
@[simp] def Jq1u (p : Nums) : List IOp := [qo 55 (.mov (.t 12)), qo 56 (.load (some 5) (.t 4)), qo 57 (.load (some 5) (.t 5)), qo 58 (.mov (.t 9)), qo 59 (.call p.blockcheck_checker_run [(.t 55), (.t 56), (.t 57), (.t 58)]), qo 54 (.mov (.t 59)), qo 60 (.ext (.t 54) 0), qo 61 (.ext (.t 54) 1), qo 11 (.asg (.t 60)), qo 10 (.asg (.t 61))]
def Jq1j (p : Nums) : IC := (.region (Jq1u p) [])
@[simp] theorem Je1j {p : Nums} : EqI (Jq1j p) (.region (Jq1u p) []) := eqi
@[simp] def Jq1l (p : Nums) : List IOp := [qp 62 (.mov (.t 11)), qp 63 (.mov (.t 10)), qp 64 (.mov (.t 12)), qp 65 (.nilck (.t 64)), qp 66 (.faddr 2 (.t 65)), qp 67 (.load none (.t 66)), qp 68 (.mov (.t 12)), qp 69 (.nilck (.t 68)), qp 70 (.faddr 3 (.t 69)), qp 71 (.load none (.t 70)), qp 72 (.build [.nils, (zi 0), (zi 0), (zi 0), (zi 0)] [(1, 1, (.t 62)), (2, 1, (.t 63)), (3, 1, (.t 67)), (4, 1, (.t 71))]), qp 13 (.alloc [.nils, (zi 0), (zi 0), (zi 0), (zi 0)]), qn (.store 5 (.t 13) (.t 72))]
def Jq1a (p : Nums) : IC := (.region (Jq1l p) [])
@[simp] theorem Je1a {p : Nums} : EqI (Jq1a p) (.region (Jq1l p) []) := eqi
@[simp] def Jq1m (p : Nums) : List IOp := [qo 75 (.mov (.t 12)), qo 76 (.nilck (.t 75)), qo 77 (.faddr 0 (.t 76)), qo 78 (.load none (.t 77)), qo 79 (.faddr 0 (.t 13)), qn (.store 1 (.t 79) (.t 78))]
def Jq1b (p : Nums) : IC := (.region (Jq1m p) [])
@[simp] theorem Je1b {p : Nums} : EqI (Jq1b p) (.region (Jq1m p) []) := eqi
def Jta5 (p : Nums) : IC := (.seq (Jq19 p) (.seq (.seq (Jq1c p) (.cond (.t 17) (.seq (Jq1d p) .ret) .skip)) (.seq (Jq1e p) (.seq (.seq (Jq1f p) (.cond (.t 39) (Jq1g p) .skip)) (.seq (.seq (.region [⟨(some 40), (.mov (.t 11)), none, false⟩, ⟨(some 41), (.bin .neq (.t 40) (.c (.d (.int .i64 0)))), none, false⟩] []) (.cond (.t 41) (.seq (Jq1h p) .ret) .skip)) (.seq (Jq1i p) (.seq (Jq1j p) (.seq (Jq1a p) (.seq (.seq (.region [⟨(some 73), (.mov (.t 11)), none, false⟩, ⟨(some 74), (.bin .eql (.t 73) (.c (.d (.int .i64 0)))), none, false⟩] []) (.cond (.t 74) (Jq1b p) .skip)) (.seq (.region [⟨(some 80), (.load (some 5) (.t 13)), none, false⟩, ⟨none, (.store 5 (.t 8) (.t 80)), none, false⟩] []) .ret))))))))))
@[simp] def Jqvo (p : Nums) : List IOp := [qo 7 (.faddr 2 (.t 1)), qo 8 (.load none (.t 7)), qo 9 (.bslice 1 1 [(.int .i64 0)] [(0, (.t 8))]), qo 2 (.asg (.t 9))]
def Jqvk (p : Nums) : IC := (.region (Jqvo p) [])
@[simp] theorem Jevk {p : Nums} : EqI (Jqvk p) (.region (Jqvo p) []) := eqi
@[simp] def Jqvp (p : Nums) : List IOp := [qo 12 (.faddr 2 (.t 1)), qo 13 (.load none (.t 12)), qo 14 (.faddr 3 (.t 1)), qo 15 (.load none (.t 14)), qo 16 (.bslice 1 2 [(.int .i64 0)] [(0, (.t 13)), (1, (.t 15))]), qo 2 (.asg (.t 16))]
def Jqvl (p : Nums) : IC := (.region (Jqvp p) [])
@[simp] theorem Jevl {p : Nums} : EqI (Jqvl p) (.region (Jqvp p) []) := eqi
def Jqvm (p : Nums) : IC := (.seq (.region [⟨(some 11), (.bin .eql (.t 4) (.c (.d (.int .i64 2)))), none, false⟩, ⟨(some 10), (.asg (.t 11)), none, false⟩] []) (.cond (.t 10) (.seq (Jqvl p) .ret) .skip))
@[simp] theorem Jevm {p : Nums} : EqI (Jqvm p) (.seq (.region [⟨(some 11), (.bin .eql (.t 4) (.c (.d (.int .i64 2)))), none, false⟩, ⟨(some 10), (.asg (.t 11)), none, false⟩] []) (.cond (.t 10) (.seq (Jqvl p) .ret) .skip)) := eqi
def Jqvn (p : Nums) : IC := (.seq (.region [⟨(some 6), (.bin .eql (.t 4) (.c (.d (.int .i64 1)))), none, false⟩, ⟨(some 5), (.asg (.t 6)), none, false⟩] []) (.cond (.t 5) (.seq (Jqvk p) .ret) (Jqvm p)))
@[simp] theorem Jevn {p : Nums} : EqI (Jqvn p) (.seq (.region [⟨(some 6), (.bin .eql (.t 4) (.c (.d (.int .i64 1)))), none, false⟩, ⟨(some 5), (.asg (.t 6)), none, false⟩] []) (.cond (.t 5) (.seq (Jqvk p) .ret) (Jqvm p))) := eqi
def Jtcq (p : Nums) : IC := (.seq (.region [⟨(some 1), (.box (.t 0)), none, false⟩, ⟨(some 2), (.asg (.c .nils)), none, false⟩] []) (.seq (.seq (.region [⟨(some 3), (.faddr 0 (.t 1)), none, false⟩, ⟨(some 4), (.load none (.t 3)), none, false⟩] []) (.block 0 (Jqvn p))) (.seq (.region [⟨(some 2), (.asg (.c .nils)), none, false⟩] []) .ret)))
@[simp] def Jq67 (p : Nums) : List IOp := [qo 4 (.alloc [(zi 0), (zi 0)]), qo 5 (.asg (ci 0))]
def Jq63 (p : Nums) : IC := (.region (Jq67 p) [])
@[simp] theorem Je63 {p : Nums} : EqI (Jq63 p) (.region (Jq67 p) []) := eqi
@[simp] def Jq68 (p : Nums) : List IOp := [qo 9 (.mov (.t 1)), qo 10 (.mov (.t 0)), qo 11 (.call p.pairset_Missing [(.t 9), (.t 10)]), qo 8 (.mov (.t 11)), qo 12 (.ext (.t 8) 0), qo 13 (.ext (.t 8) 1), qo 6 (.alloc [(zi 0), (zi 0)]), qn (.store 2 (.t 6) (.t 12)), qo 7 (.asg (.t 13))]
def Jq64 (p : Nums) : IC := (.region (Jq68 p) [])
@[simp] theorem Je64 {p : Nums} : EqI (Jq64 p) (.region (Jq68 p) []) := eqi
@[simp] def Jq69 (p : Nums) : List IOp := [qo 15 (.load (some 2) (.t 6)), qn (.store 2 (.t 4) (.t 15)), qo 5 (.asg (ci 22))]
def Jq65 (p : Nums) : IC := (.region (Jq69 p) [])
@[simp] theorem Je65 {p : Nums} : EqI (Jq65 p) (.region (Jq69 p) []) := eqi
@[simp] def Jq6a (p : Nums) : List IOp := [qo 16 (.build [(zi 0), (zi 0)] []), qn (.store 2 (.t 4) (.t 16)), qo 5 (.asg (ci 0))]
def Jq66 (p : Nums) : IC := (.region (Jq6a p) [])
@[simp] theorem Je66 {p : Nums} : EqI (Jq66 p) (.region (Jq6a p) []) := eqi
def Jtaj (p : Nums) : IC := (.seq (Jq63 p) (.seq (.seq (Jq64 p) (.seq (.region [⟨(some 14), (.mov (.t 7)), none, false⟩] []) (.cond (.t 14) (.seq (Jq65 p) .ret) .skip))) (.seq (Jq66 p) .ret)))
@[simp] def Jqv1 (p : Nums) : List IOp := [qo 6 (.faddr 2 (.t 1)), qo 7 (.load none (.t 6)), qo 8 (.len (.t 7)), qo 9 (.mov (ci 0))]
def Jqux (p : Nums) : IC := (.region (Jqv1 p) [])
@[simp] theorem Jeux {p : Nums} : EqI (Jqux p) (.region (Jqv1 p) []) := eqi
@[simp] def Jqv2 (p : Nums) : List IOp := [qo 11 (.iaddr 5 (.t 7) (.t 9)), qo 12 (.load (some 5) (.t 11)), qo 5 (.alloc [.nils, (zi 0), (zi 0), (zi 0), (zi 0)]), qn (.store 5 (.t 5) (.t 12))]
def Jquy (p : Nums) : IC := (.region (Jqv2 p) [])
@[simp] theorem Jeuy {p : Nums} : EqI (Jquy p) (.region (Jqv2 p) []) := eqi
@[simp] def Jqv3 (p : Nums) : List IOp := [qo 13 (.mov (.t 3)), qo 14 (.faddr 0 (.t 5)), qo 15 (.load none (.t 14)), qo 16 (.len (.t 15)), qo 17 (.bin .add (.t 13) (.t 16)), qo 3 (.asg (.t 17))]
def Jquz (p : Nums) : IC := (.region (Jqv3 p) [])
@[simp] theorem Jeuz {p : Nums} : EqI (Jquz p) (.region (Jqv3 p) []) := eqi
def Jqv0 (p : Nums) : IC := (.seq (.region [⟨(some 10), (.bin .lss (.t 9) (.t 8)), none, false⟩] []) (.seq (.cond (.t 10) .skip (.exit 0)) (.seq (.block 1 (.seq (Jquy p) (Jquz p))) (.region [⟨(some 18), (.bin .add (.t 9) (.c (.d (.int .i64 1)))), none, false⟩, ⟨(some 9), (.mov (.t 18)), none, false⟩] []))))
@[simp] theorem Jev0 {p : Nums} : EqI (Jqv0 p) (.seq (.region [⟨(some 10), (.bin .lss (.t 9) (.t 8)), none, false⟩] []) (.seq (.cond (.t 10) .skip (.exit 0)) (.seq (.block 1 (.seq (Jquy p) (Jquz p))) (.region [⟨(some 18), (.bin .add (.t 9) (.c (.d (.int .i64 1)))), none, false⟩, ⟨(some 9), (.mov (.t 18)), none, false⟩] [])))) := eqi
def Jtco (p : Nums) : IC := (.seq (.region [⟨(some 1), (.box (.t 0)), none, false⟩, ⟨(some 2), (.asg (.c (.d (.int .i64 0)))), none, false⟩] []) (.seq (.region [⟨(some 3), (.asg (.c (.d (.int .i64 0)))), none, false⟩] []) (.seq (.seq (Jqux p) (.block 0 (.loop (Jqv0 p)))) (.seq (.region [⟨(some 19), (.mov (.t 3)), none, false⟩, ⟨(some 2), (.asg (.t 19)), none, false⟩] []) .ret))))
@[simp] def Jqa5 (p : Nums) : List IOp := [qo 6 (.faddr 3 (.t 1)), qo 7 (.load none (.t 6)), qo 8 (.len (.t 7)), qo 9 (.mov (ci 0))]
def Jqa1 (p : Nums) : IC := (.region (Jqa5 p) [])
@[simp] theorem Jea1 {p : Nums} : EqI (Jqa1 p) (.region (Jqa5 p) []) := eqi
@[simp] def Jqa6 (p : Nums) : List IOp := [qo 11 (.iaddr 5 (.t 7) (.t 9)), qo 12 (.load (some 5) (.t 11)), qo 5 (.alloc [.nils, (zi 0), (zi 0), (zi 0), (zi 0)]), qn (.store 5 (.t 5) (.t 12))]
def Jqa2 (p : Nums) : IC := (.region (Jqa6 p) [])
@[simp] theorem Jea2 {p : Nums} : EqI (Jqa2 p) (.region (Jqa6 p) []) := eqi
@[simp] def Jqa7 (p : Nums) : List IOp := [qo 13 (.mov (.t 3)), qo 14 (.faddr 0 (.t 5)), qo 15 (.load none (.t 14)), qo 16 (.len (.t 15)), qo 17 (.bin .add (.t 13) (.t 16)), qo 3 (.asg (.t 17))]
def Jqa3 (p : Nums) : IC := (.region (Jqa7 p) [])
@[simp] theorem Jea3 {p : Nums} : EqI (Jqa3 p) (.region (Jqa7 p) []) := eqi
def Jqa4 (p : Nums) : IC := (.seq (.region [⟨(some 10), (.bin .lss (.t 9) (.t 8)), none, false⟩] []) (.seq (.cond (.t 10) .skip (.exit 0)) (.seq (.block 1 (.seq (Jqa2 p) (Jqa3 p))) (.region [⟨(some 18), (.bin .add (.t 9) (.c (.d (.int .i64 1)))), none, false⟩, ⟨(some 9), (.mov (.t 18)), none, false⟩] []))))
@[simp] theorem Jea4 {p : Nums} : EqI (Jqa4 p) (.seq (.region [⟨(some 10), (.bin .lss (.t 9) (.t 8)), none, false⟩] []) (.seq (.cond (.t 10) .skip (.exit 0)) (.seq (.block 1 (.seq (Jqa2 p) (Jqa3 p))) (.region [⟨(some 18), (.bin .add (.t 9) (.c (.d (.int .i64 1)))), none, false⟩, ⟨(some 9), (.mov (.t 18)), none, false⟩] [])))) := eqi
def Jtaw (p : Nums) : IC := (.seq (.region [⟨(some 1), (.box (.t 0)), none, false⟩, ⟨(some 2), (.asg (.c (.d (.int .i64 0)))), none, false⟩] []) (.seq (.region [⟨(some 3), (.asg (.c (.d (.int .i64 0)))), none, false⟩] []) (.seq (.seq (Jqa1 p) (.block 0 (.loop (Jqa4 p)))) (.seq (.region [⟨(some 19), (.mov (.t 3)), none, false⟩, ⟨(some 2), (.asg (.t 19)), none, false⟩] []) .ret))))
@[simp] def Jqqz (p : Nums) : List IOp := [qo 3 (.box (.t 0)), qo 6 (.alloc [.nils, (zi 0), (zi 0), (zi 0), (zi 0)])]
def Jqqw (p : Nums) : IC := (.region (Jqqz p) [])
@[simp] theorem Jeqw {p : Nums} : EqI (Jqqw p) (.region (Jqqz p) []) := eqi
@[simp] def Jqr0 (p : Nums) : List IOp := [qo 8 (.mov (.t 1)), qo 9 (.faddr 1 (.t 3)), qn (.store 1 (.t 9) (.t 8))]
def Jqqx (p : Nums) : IC := (.region (Jqr0 p) [])
@[simp] theorem Jeqx {p : Nums} : EqI (Jqqx p) (.region (Jqr0 p) []) := eqi
@[simp] def Jqr1 (p : Nums) : List IOp := [qo 10 (.mov (.t 2)), qo 11 (.faddr 2 (.t 3)), qn (.store 1 (.t 11) (.t 10))]
def Jqqy (p : Nums) : IC := (.region (Jqr1 p) [])
@[simp] theorem Jeqy {p : Nums} : EqI (Jqqy p) (.region (Jqr1 p) []) := eqi
def Jtce (p : Nums) : IC := (.seq (Jqqw p) (.seq (.region [⟨(some 7), (.faddr 0 (.t 3)), none, false⟩, ⟨none, (.store 1 (.t 7) (.c .nils)), none, false⟩] []) (.seq (Jqqx p) (.seq (Jqqy p) (.seq (.region [⟨(some 12), (.load (some 5) (.t 3)), none, false⟩, ⟨none, (.store 5 (.t 6) (.t 12)), none, false⟩] []) .ret)))))
@[simp] def Jqnt (p : Nums) : List IOp := [qo 4 (.asg (.c .nils)), qo 5 (.asg (ci 0)), qo 6 (.asg (ci 0))]
def Jqne (p : Nums) : IC := (.region (Jqnt p) [])
@[simp] theorem Jene {p : Nums} : EqI (Jqne p) (.region (Jqnt p) []) := eqi
@[simp] def Jqny (p : Nums) : List IOp := [qo 13 (.mov (.t 0)), qo 14 (.call p.ref13_Operations [(.t 13)]), qo 7 (.asg (.t 14))]
def Jqnl (p : Nums) : IC := (.region (Jqny p) [])
@[simp] theorem Jenl {p : Nums} : EqI (Jqnl p) (.region (Jqny p) []) := eqi
@[simp] def Jqnz (p : Nums) : List IOp := [qo 15 (.mov (.t 1)), qo 16 (.call p.ref13_Others [(.t 15)]), qo 8 (.asg (.t 16))]
def Jqnm (p : Nums) : IC := (.region (Jqnz p) [])
@[simp] theorem Jenm {p : Nums} : EqI (Jqnm p) (.region (Jqnz p) []) := eqi
@[simp] def Jqo0 (p : Nums) : List IOp := [qo 17 (.mov (.t 12)), qo 18 (.mov (.t 8)), qo 19 (.len (.t 18)), qo 20 (.bin .lss (.t 17) (.t 19))]
def Jqnn (p : Nums) : IC := (.region (Jqo0 p) [])
@[simp] theorem Jenn {p : Nums} : EqI (Jqnn p) (.region (Jqo0 p) []) := eqi
@[simp] def Jqo1 (p : Nums) : List IOp := [qp 23 (.mov (.t 12)), qp 24 (.mov (.t 7)), qp 25 (.len (.t 24)), qo 26 (.bin .geq (.t 23) (.t 25)), qo 27 (.mov (.t 26)), ⟨(some 28), (.mov (.t 0)), (some (27, false)), true⟩, ⟨(some 29), (.mov (.t 7)), (some (27, false)), true⟩, ⟨(some 30), (.mov (.t 12)), (some (27, false)), true⟩, ⟨(some 31), (.iaddr 1 (.t 29) (.t 30)), (some (27, false)), true⟩, ⟨(some 32), (.load none (.t 31)), (some (27, false)), true⟩, ⟨(some 33), (.iaddr 5 (.t 28) (.t 32)), (some (27, false)), true⟩, ⟨(some 34), (.load (some 5) (.t 33)), (some (27, false)), true⟩, ⟨(some 35), (.mov (.t 1)), (some (27, false)), true⟩, ⟨(some 36), (.mov (.t 8)), (some (27, false)), true⟩, ⟨(some 37), (.mov (.t 12)), (some (27, false)), true⟩, ⟨(some 38), (.iaddr 1 (.t 36) (.t 37)), (some (27, false)), true⟩, ⟨(some 39), (.load none (.t 38)), (some (27, false)), true⟩, ⟨(some 40), (.iaddr 7 (.t 35) (.t 39)), (some (27, false)), true⟩, ⟨(some 41), (.load (some 7) (.t 40)), (some (27, false)), true⟩, ⟨(some 42), (.call p.ref13_Same [(.t 34), (.t 41)]), (some (27, false)), false⟩, ⟨(some 43), (.un .not (.t 42)), (some (27, false)), false⟩, qo 44 (.pick (.t 27) (.c (.d (.bool true))) (.t 43))]
def Jqno (p : Nums) : IC := (.region (Jqo1 p) [])
@[simp] theorem Jeno {p : Nums} : EqI (Jqno p) (.region (Jqo1 p) []) := eqi
@[simp] def Jqo2 (p : Nums) : List IOp := [qp 45 (.mov (.t 8)), qp 46 (.mov (.t 12)), qp 47 (.iaddr 1 (.t 45) (.t 46)), qp 48 (.load none (.t 47)), qp 4 (.asg (.c .nils)), qo 5 (.asg (.t 48)), qo 6 (.asg (ci 20))]
def Jqnp (p : Nums) : IC := (.region (Jqo2 p) [])
@[simp] theorem Jenp {p : Nums} : EqI (Jqnp p) (.region (Jqo2 p) []) := eqi
@[simp] def Jqo3 (p : Nums) : List IOp := [qp 49 (.mov (.t 9)), qp 50 (.mov (.t 10)), qp 51 (.mov (.t 7)), qp 52 (.mov (.t 12)), qp 53 (.iaddr 1 (.t 51) (.t 52)), qp 54 (.load none (.t 53)), qp 55 (.mov (.t 11)), qp 56 (.mov (.t 8)), qp 57 (.mov (.t 12)), qp 58 (.iaddr 1 (.t 56) (.t 57)), qp 59 (.load none (.t 58)), qp 60 (.mov (.t 7)), qp 61 (.mov (.t 12)), qp 62 (.iaddr 1 (.t 60) (.t 61)), qp 63 (.load none (.t 62)), qp 64 (.mov (.t 8)), qp 65 (.mov (.t 12)), qp 66 (.iaddr 1 (.t 64) (.t 65)), qp 67 (.load none (.t 66)), qp 68 (.build [(zi 0), (zi 0), (zi 0), (zi 0), (zi 0), (zi 0)] [(0, 1, (.t 50)), (1, 1, (.t 54)), (2, 1, (.t 55)), (3, 1, (.t 59)), (4, 1, (.t 63)), (5, 1, (.t 67))]), qp 69 (.bslice 6 1 [(.int .i64 0), (.int .i64 0), (.int .i64 0), (.int .i64 0), (.int .i64 0), (.int .i64 0)] [(0, (.t 68))]), qo 70 (.app 6 48 (.t 49) (.t 69)), qo 9 (.asg (.t 70))]
def Jqnq (p : Nums) : IC := (.region (Jqo3 p) [])
@[simp] theorem Jenq {p : Nums} : EqI (Jqnq p) (.region (Jqo3 p) []) := eqi
@[simp] def Jqo4 (p : Nums) : List IOp := [qo 71 (.mov (.t 7)), qo 72 (.mov (.t 12)), qo 73 (.iaddr 1 (.t 71) (.t 72)), qo 74 (.load none (.t 73)), qo 75 (.bin .add (.t 74) (ci 1)), qo 10 (.asg (.t 75))]
def Jqnr (p : Nums) : IC := (.region (Jqo4 p) [])
@[simp] theorem Jenr {p : Nums} : EqI (Jqnr p) (.region (Jqo4 p) []) := eqi
@[simp] def Jqo5 (p : Nums) : List IOp := [qo 76 (.mov (.t 8)), qo 77 (.mov (.t 12)), qo 78 (.iaddr 1 (.t 76) (.t 77)), qo 79 (.load none (.t 78)), qo 80 (.bin .add (.t 79) (ci 1)), qo 11 (.asg (.t 80))]
def Jqns (p : Nums) : IC := (.region (Jqo5 p) [])
@[simp] theorem Jens {p : Nums} : EqI (Jqns p) (.region (Jqo5 p) []) := eqi
def Jqnf (p : Nums) : IC := (.seq (.seq (Jqno p) (.cond (.t 44) (.seq (Jqnp p) .ret) .skip)) (.seq (Jqnq p) (.seq (Jqnr p) (Jqns p))))
@[simp] theorem Jenf {p : Nums} : EqI (Jqnf p) (.seq (.seq (Jqno p) (.cond (.t 44) (.seq (Jqnp p) .ret) .skip)) (.seq (Jqnq p) (.seq (Jqnr p) (Jqns p)))) := eqi
@[simp] def Jqnu (p : Nums) : List IOp := [qo 21 (.mov (.t 12)), qo 22 (.bin .add (.t 21) (ci 1)), qo 12 (.asg (.t 22))]
def Jqng (p : Nums) : IC := (.region (Jqnu p) [])
@[simp] theorem Jeng {p : Nums} : EqI (Jqng p) (.region (Jqnu p) []) := eqi
def Jqnh (p : Nums) : IC := (.seq (.seq (Jqnn p) (.cond (.t 20) .skip (.exit 0))) (.seq (.block 1 (Jqnf p)) (Jqng p)))
@[simp] theorem Jenh {p : Nums} : EqI (Jqnh p) (.seq (.seq (Jqnn p) (.cond (.t 20) .skip (.exit 0))) (.seq (.block 1 (Jqnf p)) (Jqng p))) := eqi
@[simp] def Jqnv (p : Nums) : List IOp := [qo 81 (.mov (.t 7)), qo 82 (.len (.t 81)), qo 83 (.mov (.t 8)), qo 84 (.len (.t 83)), qo 85 (.bin .gtr (.t 82) (.t 84))]
def Jqni (p : Nums) : IC := (.region (Jqnv p) [])
@[simp] theorem Jeni {p : Nums} : EqI (Jqni p) (.region (Jqnv p) []) := eqi
@[simp] def Jqnw (p : Nums) : List IOp := [qo 86 (.mov (.t 1)), qo 87 (.len (.t 86)), qo 4 (.asg (.c .nils)), qo 5 (.asg (.t 87)), qo 6 (.asg (ci 20))]
def Jqnj (p : Nums) : IC := (.region (Jqnw p) [])
@[simp] theorem Jenj {p : Nums} : EqI (Jqnj p) (.region (Jqnw p) []) := eqi
@[simp] def Jqnx (p : Nums) : List IOp := [qo 88 (.mov (.t 9)), qo 89 (.mov (.t 10)), qo 90 (.mov (.t 0)), qo 91 (.len (.t 90)), qo 92 (.mov (.t 11)), qo 93 (.mov (.t 1)), qo 94 (.len (.t 93)), qo 95 (.build [(zi 0), (zi 0), (zi 0), (zi 0), (zi 0), (zi 0)] [(0, 1, (.t 89)), (1, 1, (.t 91)), (2, 1, (.t 92)), (3, 1, (.t 94)), (4, 1, (ci (-1))), (5, 1, (ci (-1)))]), qo 96 (.bslice 6 1 [(.int .i64 0), (.int .i64 0), (.int .i64 0), (.int .i64 0), (.int .i64 0), (.int .i64 0)] [(0, (.t 95))]), qo 97 (.app 6 48 (.t 88) (.t 96)), qo 98 (.mov (.t 1)), qo 99 (.len (.t 98)), qo 4 (.asg (.t 97)), qo 5 (.asg (.t 99)), qo 6 (.asg (ci 0))]
def Jqnk (p : Nums) : IC := (.region (Jqnx p) [])
@[simp] theorem Jenk {p : Nums} : EqI (Jqnk p) (.region (Jqnx p) []) := eqi
def Jtc8 (p : Nums) : IC := (.seq (Jqne p) (.seq (Jqnl p) (.seq (Jqnm p) (.seq (.region [⟨(some 9), (.asg (.c .nils)), none, false⟩] []) (.seq (.region [⟨(some 10), (.asg (.c (.d (.int .i64 0)))), none, false⟩] []) (.seq (.region [⟨(some 11), (.asg (.c (.d (.int .i64 0)))), none, false⟩] []) (.seq (.seq (.region [⟨(some 12), (.asg (.c (.d (.int .i64 0)))), none, false⟩] []) (.block 0 (.loop (Jqnh p)))) (.seq (.seq (Jqni p) (.cond (.t 85) (.seq (Jqnj p) .ret) .skip)) (.seq (Jqnk p) .ret)))))))))
@[simp] def Jqow (p : Nums) : List IOp := [qo 2 (.box (.t 0)), qo 3 (.box (.t 1)), qo 4 (.asg (.c (.d (.bool false))))]
def Jqou (p : Nums) : IC := (.region (Jqow p) [])
@[simp] theorem Jeou {p : Nums} : EqI (Jqou p) (.region (Jqow p) []) := eqi
@[simp] def Jqox (p : Nums) : List IOp := [qo 7 (.load (some 4) (.t 2)), qo 8 (.load (some 4) (.t 3)), qo 9 (.eqs false [.int, .int, .int, .int] (.t 7) (.t 8)), qo 4 (.asg (.t 9))]
def Jqov (p : Nums) : IC := (.region (Jqox p) [])
@[simp] theorem Jeov {p : Nums} : EqI (Jqov p) (.region (Jqox p) []) := eqi
def Jtcc (p : Nums) : IC := (.seq (Jqou p) (.seq (.region [⟨(some 5), (.faddr 1 (.t 2)), none, false⟩, ⟨none, (.store 1 (.t 5) (.c (.d (.int .i64 0)))), none, false⟩] []) (.seq (.region [⟨(some 6), (.faddr 1 (.t 3)), none, false⟩, ⟨none, (.store 1 (.t 6) (.c (.d (.int .i64 0)))), none, false⟩] []) (.seq (Jqov p) .ret))))
@[simp] def Jqr9 (p : Nums) : List IOp := [qo 4 (.box (.t 0)), qo 8 (.alloc [.nils, (zi 0), (zi 0), (zi 0), (zi 0)])]
def Jqr2 (p : Nums) : IC := (.region (Jqr9 p) [])
@[simp] theorem Jer2 {p : Nums} : EqI (Jqr2 p) (.region (Jqr9 p) []) := eqi
@[simp] def Jqra (p : Nums) : List IOp := [qo 9 (.faddr 3 (.t 4)), qo 10 (.load none (.t 9)), qo 11 (.bin .add (.t 10) (ci 1)), qo 12 (.faddr 0 (.t 4)), qo 13 (.load none (.t 12)), qo 14 (.len (.t 13)), qo 15 (.bin .add (.t 11) (.t 14)), qo 16 (.faddr 3 (.t 4)), qn (.store 1 (.t 16) (.t 15))]
def Jqr3 (p : Nums) : IC := (.region (Jqra p) [])
@[simp] theorem Jer3 {p : Nums} : EqI (Jqr3 p) (.region (Jqra p) []) := eqi
@[simp] def Jqrb (p : Nums) : List IOp := [qo 17 (.mov (.t 1)), qo 18 (.faddr 0 (.t 4)), qn (.store 1 (.t 18) (.t 17))]
def Jqr4 (p : Nums) : IC := (.region (Jqrb p) [])
@[simp] theorem Jer4 {p : Nums} : EqI (Jqr4 p) (.region (Jqrb p) []) := eqi
@[simp] def Jqrc (p : Nums) : List IOp := [qo 19 (.mov (.t 1)), qo 20 (.len (.t 19)), qo 21 (.faddr 4 (.t 4)), qo 22 (.load none (.t 21)), qo 23 (.bin .gtr (.t 20) (.t 22))]
def Jqr5 (p : Nums) : IC := (.region (Jqrc p) [])
@[simp] theorem Jer5 {p : Nums} : EqI (Jqr5 p) (.region (Jqrc p) []) := eqi
@[simp] def Jqrd (p : Nums) : List IOp := [qo 24 (.mov (.t 1)), qo 25 (.len (.t 24)), qo 26 (.faddr 4 (.t 4)), qn (.store 1 (.t 26) (.t 25))]
def Jqr6 (p : Nums) : IC := (.region (Jqrd p) [])
@[simp] theorem Jer6 {p : Nums} : EqI (Jqr6 p) (.region (Jqrd p) []) := eqi
@[simp] def Jqre (p : Nums) : List IOp := [qo 27 (.mov (.t 1)), qo 28 (.len (.t 27)), qo 29 (.mov (.t 2)), qo 30 (.bin .gtr (.t 28) (.t 29))]
def Jqr7 (p : Nums) : IC := (.region (Jqre p) [])
@[simp] theorem Jer7 {p : Nums} : EqI (Jqr7 p) (.region (Jqre p) []) := eqi
@[simp] def Jqrf (p : Nums) : List IOp := [qo 31 (.load (some 5) (.t 4)), qo 32 (.mov (.t 3)), qo 33 (.call p.ref14_fail [(.t 31), (ci 24), (.t 32)]), qn (.store 5 (.t 8) (.t 33))]
def Jqr8 (p : Nums) : IC := (.region (Jqrf p) [])
@[simp] theorem Jer8 {p : Nums} : EqI (Jqr8 p) (.region (Jqrf p) []) := eqi
def Jtcf (p : Nums) : IC := (.seq (Jqr2 p) (.seq (Jqr3 p) (.seq (Jqr4 p) (.seq (.seq (Jqr5 p) (.cond (.t 23) (Jqr6 p) .skip)) (.seq (.seq (Jqr7 p) (.cond (.t 30) (.seq (Jqr8 p) .ret) .skip)) (.seq (.region [⟨(some 34), (.load (some 5) (.t 4)), none, false⟩, ⟨none, (.store 5 (.t 8) (.t 34)), none, false⟩] []) .ret))))))
@[simp] def Jqmi (p : Nums) : List IOp := [qo 9 (.mov (.t 8)), qo 10 (.mov (.t 0)), qo 11 (.len (.t 10)), qo 12 (.bin .lss (.t 9) (.t 11))]
def Jqma (p : Nums) : IC := (.region (Jqmi p) [])
@[simp] theorem Jema {p : Nums} : EqI (Jqma p) (.region (Jqmi p) []) := eqi
@[simp] def Jqmj (p : Nums) : List IOp := [qo 15 (.mov (.t 1)), qo 16 (.mov (.t 2)), qo 17 (.bin .eql (.t 15) (.t 16)), qo 18 (.mov (.t 17)), ⟨(some 19), (.mov (.t 0)), (some (18, false)), false⟩, ⟨(some 20), (.mov (.t 8)), (some (18, false)), false⟩, ⟨(some 21), (.iaddr 2 (.t 19) (.t 20)), (some (18, false)), false⟩, ⟨(some 22), (.faddr 0 (.t 21)), (some (18, false)), false⟩, ⟨(some 23), (.load none (.t 22)), (some (18, false)), false⟩, ⟨(some 24), (.mov (.t 1)), (some (18, false)), false⟩, ⟨(some 25), (.bin .neq (.t 23) (.t 24)), (some (18, false)), false⟩, qo 26 (.pick (.t 18) (.c (.d (.bool true))) (.t 25))]
def Jqmb (p : Nums) : IC := (.region (Jqmj p) [])
@[simp] theorem Jemb {p : Nums} : EqI (Jqmb p) (.region (Jqmj p) []) := eqi
@[simp] def Jqmk (p : Nums) : List IOp := [qo 27 (.mov (.t 7)), qo 28 (.mov (.t 0)), qo 29 (.mov (.t 8)), qo 30 (.iaddr 2 (.t 28) (.t 29)), qo 31 (.load (some 2) (.t 30)), qo 32 (.call p.ref11_Add [(.t 27), (.t 31)]), qo 7 (.asg (.t 32))]
def Jqmc (p : Nums) : IC := (.region (Jqmk p) [])
@[simp] theorem Jemc {p : Nums} : EqI (Jqmc p) (.region (Jqmk p) []) := eqi
@[simp] def Jqml (p : Nums) : List IOp := [qo 33 (.mov (.t 0)), qo 34 (.mov (.t 8)), qo 35 (.iaddr 2 (.t 33) (.t 34)), qo 36 (.faddr 0 (.t 35)), qo 37 (.load none (.t 36)), qo 38 (.mov (.t 2)), qo 39 (.bin .eql (.t 37) (.t 38))]
def Jqmd (p : Nums) : IC := (.region (Jqml p) [])
@[simp] theorem Jemd {p : Nums} : EqI (Jqmd p) (.region (Jqml p) []) := eqi
@[simp] def Jqmm (p : Nums) : List IOp := [qo 40 (.mov (.t 7)), qo 41 (.mov (.t 1)), qo 42 (.mov (.t 0)), qo 43 (.mov (.t 8)), qo 44 (.iaddr 2 (.t 42) (.t 43)), qo 45 (.faddr 1 (.t 44)), qo 46 (.load none (.t 45)), qo 47 (.build [(zi 0), (zi 0)] [(0, 1, (.t 41)), (1, 1, (.t 46))]), qo 48 (.call p.ref11_Add [(.t 40), (.t 47)]), qo 7 (.asg (.t 48))]
def Jqme (p : Nums) : IC := (.region (Jqmm p) [])
@[simp] theorem Jeme {p : Nums} : EqI (Jqme p) (.region (Jqmm p) []) := eqi
def Jqmf (p : Nums) : IC := (.seq (.seq (Jqmb p) (.cond (.t 26) (Jqmc p) .skip)) (.seq (Jqmd p) (.cond (.t 39) (Jqme p) .skip)))
@[simp] theorem Jemf {p : Nums} : EqI (Jqmf p) (.seq (.seq (Jqmb p) (.cond (.t 26) (Jqmc p) .skip)) (.seq (Jqmd p) (.cond (.t 39) (Jqme p) .skip))) := eqi
@[simp] def Jqmn (p : Nums) : List IOp := [qo 13 (.mov (.t 8)), qo 14 (.bin .add (.t 13) (ci 1)), qo 8 (.asg (.t 14))]
def Jqmg (p : Nums) : IC := (.region (Jqmn p) [])
@[simp] theorem Jemg {p : Nums} : EqI (Jqmg p) (.region (Jqmn p) []) := eqi
def Jqmh (p : Nums) : IC := (.seq (.seq (Jqma p) (.cond (.t 12) .skip (.exit 0))) (.seq (.block 1 (Jqmf p)) (Jqmg p)))
@[simp] theorem Jemh {p : Nums} : EqI (Jqmh p) (.seq (.seq (Jqma p) (.cond (.t 12) .skip (.exit 0))) (.seq (.block 1 (Jqmf p)) (Jqmg p))) := eqi
def Jtc5 (p : Nums) : IC := (.seq (.region [⟨(some 6), (.asg (.c .nils)), none, false⟩] []) (.seq (.region [⟨(some 7), (.asg (.c .nils)), none, false⟩] []) (.seq (.seq (.region [⟨(some 8), (.asg (.c (.d (.int .i64 0)))), none, false⟩] []) (.block 0 (.loop (Jqmh p)))) (.seq (.region [⟨(some 49), (.mov (.t 7)), none, false⟩, ⟨(some 6), (.asg (.t 49)), none, false⟩] []) .ret))))
@[simp] def Jqn8 (p : Nums) : List IOp := [qo 9 (.mov (.t 8)), qo 10 (.mov (.t 0)), qo 11 (.len (.t 10)), qo 12 (.bin .lss (.t 9) (.t 11))]
def Jqn0 (p : Nums) : IC := (.region (Jqn8 p) [])
@[simp] theorem Jen0 {p : Nums} : EqI (Jqn0 p) (.region (Jqn8 p) []) := eqi
@[simp] def Jqn9 (p : Nums) : List IOp := [qo 15 (.mov (.t 1)), qo 16 (.mov (.t 2)), qo 17 (.bin .eql (.t 15) (.t 16)), qo 18 (.mov (.t 17)), ⟨(some 19), (.mov (.t 0)), (some (18, false)), false⟩, ⟨(some 20), (.mov (.t 8)), (some (18, false)), false⟩, ⟨(some 21), (.iaddr 2 (.t 19) (.t 20)), (some (18, false)), false⟩, ⟨(some 22), (.faddr 1 (.t 21)), (some (18, false)), false⟩, ⟨(some 23), (.load none (.t 22)), (some (18, false)), false⟩, ⟨(some 24), (.mov (.t 1)), (some (18, false)), false⟩, ⟨(some 25), (.bin .neq (.t 23) (.t 24)), (some (18, false)), false⟩, qo 26 (.pick (.t 18) (.c (.d (.bool true))) (.t 25))]
def Jqn1 (p : Nums) : IC := (.region (Jqn9 p) [])
@[simp] theorem Jen1 {p : Nums} : EqI (Jqn1 p) (.region (Jqn9 p) []) := eqi
@[simp] def Jqna (p : Nums) : List IOp := [qo 27 (.mov (.t 7)), qo 28 (.mov (.t 0)), qo 29 (.mov (.t 8)), qo 30 (.iaddr 2 (.t 28) (.t 29)), qo 31 (.load (some 2) (.t 30)), qo 32 (.call p.ref11_Add [(.t 27), (.t 31)]), qo 7 (.asg (.t 32))]
def Jqn2 (p : Nums) : IC := (.region (Jqna p) [])
@[simp] theorem Jen2 {p : Nums} : EqI (Jqn2 p) (.region (Jqna p) []) := eqi
@[simp] def Jqnb (p : Nums) : List IOp := [qo 33 (.mov (.t 0)), qo 34 (.mov (.t 8)), qo 35 (.iaddr 2 (.t 33) (.t 34)), qo 36 (.faddr 1 (.t 35)), qo 37 (.load none (.t 36)), qo 38 (.mov (.t 2)), qo 39 (.bin .eql (.t 37) (.t 38))]
def Jqn3 (p : Nums) : IC := (.region (Jqnb p) [])
@[simp] theorem Jen3 {p : Nums} : EqI (Jqn3 p) (.region (Jqnb p) []) := eqi
@[simp] def Jqnc (p : Nums) : List IOp := [qo 40 (.mov (.t 7)), qo 41 (.mov (.t 0)), qo 42 (.mov (.t 8)), qo 43 (.iaddr 2 (.t 41) (.t 42)), qo 44 (.faddr 0 (.t 43)), qo 45 (.load none (.t 44)), qo 46 (.mov (.t 1)), qo 47 (.build [(zi 0), (zi 0)] [(0, 1, (.t 45)), (1, 1, (.t 46))]), qo 48 (.call p.ref11_Add [(.t 40), (.t 47)]), qo 7 (.asg (.t 48))]
def Jqn4 (p : Nums) : IC := (.region (Jqnc p) [])
@[simp] theorem Jen4 {p : Nums} : EqI (Jqn4 p) (.region (Jqnc p) []) := eqi
def Jqn5 (p : Nums) : IC := (.seq (.seq (Jqn1 p) (.cond (.t 26) (Jqn2 p) .skip)) (.seq (Jqn3 p) (.cond (.t 39) (Jqn4 p) .skip)))
@[simp] theorem Jen5 {p : Nums} : EqI (Jqn5 p) (.seq (.seq (Jqn1 p) (.cond (.t 26) (Jqn2 p) .skip)) (.seq (Jqn3 p) (.cond (.t 39) (Jqn4 p) .skip))) := eqi
@[simp] def Jqnd (p : Nums) : List IOp := [qo 13 (.mov (.t 8)), qo 14 (.bin .add (.t 13) (ci 1)), qo 8 (.asg (.t 14))]
def Jqn6 (p : Nums) : IC := (.region (Jqnd p) [])
@[simp] theorem Jen6 {p : Nums} : EqI (Jqn6 p) (.region (Jqnd p) []) := eqi
def Jqn7 (p : Nums) : IC := (.seq (.seq (Jqn0 p) (.cond (.t 12) .skip (.exit 0))) (.seq (.block 1 (Jqn5 p)) (Jqn6 p)))
@[simp] theorem Jen7 {p : Nums} : EqI (Jqn7 p) (.seq (.seq (Jqn0 p) (.cond (.t 12) .skip (.exit 0))) (.seq (.block 1 (Jqn5 p)) (Jqn6 p))) := eqi
def Jtc7 (p : Nums) : IC := (.seq (.region [⟨(some 6), (.asg (.c .nils)), none, false⟩] []) (.seq (.region [⟨(some 7), (.asg (.c .nils)), none, false⟩] []) (.seq (.seq (.region [⟨(some 8), (.asg (.c (.d (.int .i64 0)))), none, false⟩] []) (.block 0 (.loop (Jqn7 p)))) (.seq (.region [⟨(some 49), (.mov (.t 7)), none, false⟩, ⟨(some 6), (.asg (.t 49)), none, false⟩] []) .ret))))
@[simp] def Jqfj (p : Nums) : List IOp := [qo 3 (.mov (.t 0)), qo 4 (.bin .geq (.t 3) (ci 2)), qo 5 (.mov (.t 4)), ⟨(some 6), (.mov (.t 0)), (some (5, true)), false⟩, ⟨(some 7), (.bin .leq (.t 6) (ci 17)), (some (5, true)), false⟩, qo 8 (.pick (.t 5) (.t 7) (.c (.d (.bool false)))), qo 2 (.asg (.t 8))]
def Jqfi (p : Nums) : IC := (.region (Jqfj p) [])
@[simp] theorem Jefi {p : Nums} : EqI (Jqfi p) (.region (Jqfj p) []) := eqi
def Jtbm (p : Nums) : IC := (.seq (.region [⟨(some 2), (.asg (.c (.d (.bool false)))), none, false⟩] []) (.seq (Jqfi p) .ret))
@[simp] def Jqrk (p : Nums) : List IOp := [qo 4 (.box (.t 0)), qo 8 (.alloc [.nils, (zi 0), (zi 0), (zi 0), (zi 0)])]
def Jqrg (p : Nums) : IC := (.region (Jqrk p) [])
@[simp] theorem Jerg {p : Nums} : EqI (Jqrg p) (.region (Jqrk p) []) := eqi
@[simp] def Jqrl (p : Nums) : List IOp := [qo 9 (.faddr 3 (.t 4)), qo 10 (.load none (.t 9)), qo 11 (.bin .add (.t 10) (ci 1)), qo 12 (.faddr 0 (.t 4)), qo 13 (.load none (.t 12)), qo 14 (.len (.t 13)), qo 15 (.bin .add (.t 11) (.t 14)), qo 16 (.faddr 3 (.t 4)), qn (.store 1 (.t 16) (.t 15))]
def Jqrh (p : Nums) : IC := (.region (Jqrl p) [])
@[simp] theorem Jerh {p : Nums} : EqI (Jqrh p) (.region (Jqrl p) []) := eqi
@[simp] def Jqrm (p : Nums) : List IOp := [qo 17 (.faddr 0 (.t 4)), qo 18 (.load none (.t 17)), qo 19 (.mov (.t 1)), qo 20 (.mov (.t 2)), qo 21 (.bin .mul (ci 2) (.t 20)), qo 22 (.build [(zi 0), (zi 0)] [(0, 1, (.t 19)), (1, 1, (.t 21))]), qo 23 (.call p.ref11_Has [(.t 18), (.t 22)]), qo 24 (.un .not (.t 23))]
def Jqri (p : Nums) : IC := (.region (Jqrm p) [])
@[simp] theorem Jeri {p : Nums} : EqI (Jqri p) (.region (Jqrm p) []) := eqi
@[simp] def Jqrn (p : Nums) : List IOp := [qo 25 (.load (some 5) (.t 4)), qo 26 (.mov (.t 3)), qo 27 (.call p.ref14_fail [(.t 25), (ci 21), (.t 26)]), qn (.store 5 (.t 8) (.t 27))]
def Jqrj (p : Nums) : IC := (.region (Jqrn p) [])
@[simp] theorem Jerj {p : Nums} : EqI (Jqrj p) (.region (Jqrn p) []) := eqi
def Jtcg (p : Nums) : IC := (.seq (Jqrg p) (.seq (Jqrh p) (.seq (.seq (Jqri p) (.cond (.t 24) (.seq (Jqrj p) .ret) .skip)) (.seq (.region [⟨(some 28), (.load (some 5) (.t 4)), none, false⟩, ⟨none, (.store 5 (.t 8) (.t 28)), none, false⟩] []) .ret))))
@[simp] def Jqfl (p : Nums) : List IOp := [qo 3 (.mov (.t 0)), qo 4 (.bin .geq (.t 3) (ci 5)), qo 5 (.mov (.t 4)), ⟨(some 6), (.mov (.t 0)), (some (5, true)), false⟩, ⟨(some 7), (.bin .leq (.t 6) (ci 16)), (some (5, true)), false⟩, qo 8 (.pick (.t 5) (.t 7) (.c (.d (.bool false)))), qo 2 (.asg (.t 8))]
def Jqfk (p : Nums) : IC := (.region (Jqfl p) [])
@[simp] theorem Jefk {p : Nums} : EqI (Jqfk p) (.region (Jqfl p) []) := eqi
def Jtbn (p : Nums) : IC := (.seq (.region [⟨(some 2), (.asg (.c (.d (.bool false)))), none, false⟩] []) (.seq (Jqfk p) .ret))
@[simp] def Jqfn (p : Nums) : List IOp := [qo 3 (.mov (.t 0)), qo 4 (.bin .geq (.t 3) (ci 1)), qo 5 (.mov (.t 4)), ⟨(some 6), (.mov (.t 0)), (some (5, true)), false⟩, ⟨(some 7), (.bin .leq (.t 6) (ci 16)), (some (5, true)), false⟩, qo 8 (.pick (.t 5) (.t 7) (.c (.d (.bool false)))), qo 2 (.asg (.t 8))]
def Jqfm (p : Nums) : IC := (.region (Jqfn p) [])
@[simp] theorem Jefm {p : Nums} : EqI (Jqfm p) (.region (Jqfn p) []) := eqi
def Jtbo (p : Nums) : IC := (.seq (.region [⟨(some 2), (.asg (.c (.d (.bool false)))), none, false⟩] []) (.seq (Jqfm p) .ret))
@[simp] def Jqmv (p : Nums) : List IOp := [qo 9 (.mov (.t 1)), qo 10 (.mov (.t 2)), qo 11 (.build [(zi 0), (zi 0)] [(0, 1, (.t 9)), (1, 1, (.t 10))]), qo 12 (.bslice 2 1 [(.int .i64 0), (.int .i64 0)] [(0, (.t 11))]), qo 7 (.asg (.t 12))]
def Jqmo (p : Nums) : IC := (.region (Jqmv p) [])
@[simp] theorem Jemo {p : Nums} : EqI (Jqmo p) (.region (Jqmv p) []) := eqi
@[simp] def Jqmw (p : Nums) : List IOp := [qo 13 (.mov (.t 8)), qo 14 (.mov (.t 0)), qo 15 (.len (.t 14)), qo 16 (.bin .lss (.t 13) (.t 15))]
def Jqmp (p : Nums) : IC := (.region (Jqmw p) [])
@[simp] theorem Jemp {p : Nums} : EqI (Jqmp p) (.region (Jqmw p) []) := eqi
@[simp] def Jqmx (p : Nums) : List IOp := [qo 19 (.mov (.t 0)), qo 20 (.mov (.t 8)), qo 21 (.iaddr 2 (.t 19) (.t 20)), qo 22 (.faddr 0 (.t 21)), qo 23 (.load none (.t 22)), qo 24 (.mov (.t 1)), qo 25 (.bin .neq (.t 23) (.t 24)), qo 26 (.mov (.t 25)), ⟨(some 27), (.mov (.t 0)), (some (26, true)), false⟩, ⟨(some 28), (.mov (.t 8)), (some (26, true)), false⟩, ⟨(some 29), (.iaddr 2 (.t 27) (.t 28)), (some (26, true)), false⟩, ⟨(some 30), (.faddr 1 (.t 29)), (some (26, true)), false⟩, ⟨(some 31), (.load none (.t 30)), (some (26, true)), false⟩, ⟨(some 32), (.mov (.t 2)), (some (26, true)), false⟩, ⟨(some 33), (.bin .neq (.t 31) (.t 32)), (some (26, true)), false⟩, qo 34 (.pick (.t 26) (.t 33) (.c (.d (.bool false))))]
def Jqmq (p : Nums) : IC := (.region (Jqmx p) [])
@[simp] theorem Jemq {p : Nums} : EqI (Jqmq p) (.region (Jqmx p) []) := eqi
@[simp] def Jqmy (p : Nums) : List IOp := [qo 35 (.mov (.t 7)), qo 36 (.mov (.t 0)), qo 37 (.mov (.t 8)), qo 38 (.iaddr 2 (.t 36) (.t 37)), qo 39 (.load (some 2) (.t 38)), qo 40 (.call p.ref11_Add [(.t 35), (.t 39)]), qo 7 (.asg (.t 40))]
def Jqmr (p : Nums) : IC := (.region (Jqmy p) [])
@[simp] theorem Jemr {p : Nums} : EqI (Jqmr p) (.region (Jqmy p) []) := eqi
def Jqms (p : Nums) : IC := (.seq (Jqmq p) (.cond (.t 34) (Jqmr p) .skip))
@[simp] theorem Jems {p : Nums} : EqI (Jqms p) (.seq (Jqmq p) (.cond (.t 34) (Jqmr p) .skip)) := eqi
@[simp] def Jqmz (p : Nums) : List IOp := [qo 17 (.mov (.t 8)), qo 18 (.bin .add (.t 17) (ci 1)), qo 8 (.asg (.t 18))]
def Jqmt (p : Nums) : IC := (.region (Jqmz p) [])
@[simp] theorem Jemt {p : Nums} : EqI (Jqmt p) (.region (Jqmz p) []) := eqi
def Jqmu (p : Nums) : IC := (.seq (.seq (Jqmp p) (.cond (.t 16) .skip (.exit 0))) (.seq (.block 1 (Jqms p)) (Jqmt p)))
@[simp] theorem Jemu {p : Nums} : EqI (Jqmu p) (.seq (.seq (Jqmp p) (.cond (.t 16) .skip (.exit 0))) (.seq (.block 1 (Jqms p)) (Jqmt p))) := eqi
def Jtc6 (p : Nums) : IC := (.seq (.region [⟨(some 6), (.asg (.c .nils)), none, false⟩] []) (.seq (Jqmo p) (.seq (.seq (.region [⟨(some 8), (.asg (.c (.d (.int .i64 0)))), none, false⟩] []) (.block 0 (.loop (Jqmu p)))) (.seq (.region [⟨(some 41), (.mov (.t 7)), none, false⟩, ⟨(some 6), (.asg (.t 41)), none, false⟩] []) .ret))))
@[simp] def Jqll (p : Nums) : List IOp := [qo 6 (.mov (.t 5)), qo 7 (.mov (.t 0)), qo 8 (.len (.t 7)), qo 9 (.bin .lss (.t 6) (.t 8))]
def Jqlf (p : Nums) : IC := (.region (Jqll p) [])
@[simp] theorem Jelf {p : Nums} : EqI (Jqlf p) (.region (Jqll p) []) := eqi
@[simp] def Jqlm (p : Nums) : List IOp := [qp 12 (.mov (.t 0)), qp 13 (.mov (.t 5)), qp 14 (.iaddr 2 (.t 12) (.t 13)), qp 15 (.load (some 2) (.t 14)), qp 16 (.load (some 2) (.t 3)), qo 17 (.eqs false [.int, .int] (.t 15) (.t 16))]
def Jqlg (p : Nums) : IC := (.region (Jqlm p) [])
@[simp] theorem Jelg {p : Nums} : EqI (Jqlg p) (.region (Jqlm p) []) := eqi
def Jqlh (p : Nums) : IC := (.seq (.region [⟨(some 4), (.asg (.c (.d (.bool true)))), none, false⟩] []) .ret)
@[simp] theorem Jelh {p : Nums} : EqI (Jqlh p) (.seq (.region [⟨(some 4), (.asg (.c (.d (.bool true)))), none, false⟩] []) .ret) := eqi
def Jqli (p : Nums) : IC := (.seq (Jqlg p) (.cond (.t 17) (Jqlh p) .skip))
@[simp] theorem Jeli {p : Nums} : EqI (Jqli p) (.seq (Jqlg p) (.cond (.t 17) (Jqlh p) .skip)) := eqi
@[simp] def Jqln (p : Nums) : List IOp := [qo 10 (.mov (.t 5)), qo 11 (.bin .add (.t 10) (ci 1)), qo 5 (.asg (.t 11))]
def Jqlj (p : Nums) : IC := (.region (Jqln p) [])
@[simp] theorem Jelj {p : Nums} : EqI (Jqlj p) (.region (Jqln p) []) := eqi
def Jqlk (p : Nums) : IC := (.seq (.seq (Jqlf p) (.cond (.t 9) .skip (.exit 0))) (.seq (.block 1 (Jqli p)) (Jqlj p)))
@[simp] theorem Jelk {p : Nums} : EqI (Jqlk p) (.seq (.seq (Jqlf p) (.cond (.t 9) .skip (.exit 0))) (.seq (.block 1 (Jqli p)) (Jqlj p))) := eqi
def Jtc2 (p : Nums) : IC := (.seq (.region [⟨(some 3), (.box (.t 1)), none, false⟩, ⟨(some 4), (.asg (.c (.d (.bool false)))), none, false⟩] []) (.seq (.seq (.region [⟨(some 5), (.asg (.c (.d (.int .i64 0)))), none, false⟩] []) (.block 0 (.loop (Jqlk p)))) (.seq (.region [⟨(some 4), (.asg (.c (.d (.bool false)))), none, false⟩] []) .ret)))
@[simp] def Jqgo (p : Nums) : List IOp := [qo 5 (.mov (.t 4)), qo 6 (.faddr 2 (.t 1)), qo 7 (.load none (.t 6)), qo 8 (.len (.t 7)), qo 9 (.bin .lss (.t 5) (.t 8))]
def Jqgk (p : Nums) : IC := (.region (Jqgo p) [])
@[simp] theorem Jegk {p : Nums} : EqI (Jqgk p) (.region (Jqgo p) []) := eqi
@[simp] def Jqgp (p : Nums) : List IOp := [qo 12 (.mov (.t 3)), qo 13 (.faddr 2 (.t 1)), qo 14 (.load none (.t 13)), qo 15 (.mov (.t 4)), qo 16 (.iaddr 5 (.t 14) (.t 15)), qo 17 (.faddr 0 (.t 16)), qo 18 (.load none (.t 17)), qo 19 (.len (.t 18)), qo 20 (.bin .add (.t 12) (.t 19)), qo 3 (.asg (.t 20))]
def Jqgl (p : Nums) : IC := (.region (Jqgp p) [])
@[simp] theorem Jegl {p : Nums} : EqI (Jqgl p) (.region (Jqgp p) []) := eqi
@[simp] def Jqgq (p : Nums) : List IOp := [qo 10 (.mov (.t 4)), qo 11 (.bin .add (.t 10) (ci 1)), qo 4 (.asg (.t 11))]
def Jqgm (p : Nums) : IC := (.region (Jqgq p) [])
@[simp] theorem Jegm {p : Nums} : EqI (Jqgm p) (.region (Jqgq p) []) := eqi
def Jqgn (p : Nums) : IC := (.seq (.seq (Jqgk p) (.cond (.t 9) .skip (.exit 0))) (.seq (.block 1 (Jqgl p)) (Jqgm p)))
@[simp] theorem Jegn {p : Nums} : EqI (Jqgn p) (.seq (.seq (Jqgk p) (.cond (.t 9) .skip (.exit 0))) (.seq (.block 1 (Jqgl p)) (Jqgm p))) := eqi
def Jtbq (p : Nums) : IC := (.seq (.region [⟨(some 1), (.box (.t 0)), none, false⟩, ⟨(some 2), (.asg (.c (.d (.int .i64 0)))), none, false⟩] []) (.seq (.region [⟨(some 3), (.asg (.c (.d (.int .i64 0)))), none, false⟩] []) (.seq (.seq (.region [⟨(some 4), (.asg (.c (.d (.int .i64 0)))), none, false⟩] []) (.block 0 (.loop (Jqgn p)))) (.seq (.region [⟨(some 21), (.mov (.t 3)), none, false⟩, ⟨(some 2), (.asg (.t 21)), none, false⟩] []) .ret))))
@[simp] def Jqhe (p : Nums) : List IOp := [qo 5 (.faddr 0 (.t 2)), qo 6 (.load none (.t 5)), qo 7 (.bin .lss (.t 6) (ci 1)), qo 8 (.mov (.t 7)), ⟨(some 9), (.faddr 0 (.t 2)), (some (8, false)), false⟩, ⟨(some 10), (.load none (.t 9)), (some (8, false)), false⟩, ⟨(some 11), (.bin .gtr (.t 10) (ci 17)), (some (8, false)), false⟩, qo 12 (.pick (.t 8) (.c (.d (.bool true))) (.t 11))]
def Jqh5 (p : Nums) : IC := (.region (Jqhe p) [])
@[simp] theorem Jeh5 {p : Nums} : EqI (Jqh5 p) (.region (Jqhe p) []) := eqi
def Jqh6 (p : Nums) : IC := (.seq (.region [⟨(some 4), (.asg (.c (.d (.int .i64 8)))), none, false⟩] []) .ret)
@[simp] theorem Jeh6 {p : Nums} : EqI (Jqh6 p) (.seq (.region [⟨(some 4), (.asg (.c (.d (.int .i64 8)))), none, false⟩] []) .ret) := eqi
def Jqhb (p : Nums) : IC := (.seq (.seq (Jqh5 p) .cut) (.cond (.t 12) (Jqh6 p) .skip))
theorem Jehb {p : Nums} : EqI (Jqhb p) (.seq (.seq (Jqh5 p) .cut) (.cond (.t 12) (Jqh6 p) .skip)) := eqi
@[simp] def Jqhf (p : Nums) : List IOp := [qo 13 (.faddr 0 (.t 2)), qo 14 (.load none (.t 13)), qo 15 (.call p.ref05_UsesD [(.t 14)]), qo 16 (.mov (.t 15)), ⟨(some 17), (.faddr 1 (.t 2)), (some (16, true)), false⟩, ⟨(some 18), (.load none (.t 17)), (some (16, true)), false⟩, ⟨(some 19), (.mov (.t 1)), (some (16, true)), false⟩, ⟨(some 20), (.call p.ref07_in [(.t 18), (.t 19)]), (some (16, true)), false⟩, ⟨(some 21), (.un .not (.t 20)), (some (16, true)), false⟩, qo 22 (.pick (.t 16) (.t 21) (.c (.d (.bool false)))), qo 23 (.mov (.t 22)), ⟨(some 24), (.faddr 0 (.t 2)), (some (23, false)), false⟩, ⟨(some 25), (.load none (.t 24)), (some (23, false)), false⟩, ⟨(some 26), (.call p.ref05_UsesA [(.t 25)]), (some (23, false)), false⟩, ⟨(some 27), (.mov (.t 26)), (some (23, false)), false⟩, ⟨(some 28), (.faddr 2 (.t 2)), (some (27, true)), false⟩, ⟨(some 29), (.load none (.t 28)), (some (27, true)), false⟩, ⟨(some 30), (.mov (.t 1)), (some (27, true)), false⟩, ⟨(some 31), (.call p.ref07_in [(.t 29), (.t 30)]), (some (27, true)), false⟩, ⟨(some 32), (.un .not (.t 31)), (some (27, true)), false⟩, ⟨(some 33), (.pick (.t 27) (.t 32) (.c (.d (.bool false)))), (some (23, false)), false⟩, qo 34 (.pick (.t 23) (.c (.d (.bool true))) (.t 33)), qo 35 (.mov (.t 34)), ⟨(some 36), (.faddr 0 (.t 2)), (some (35, false)), false⟩, ⟨(some 37), (.load none (.t 36)), (some (35, false)), false⟩, ⟨(some 38), (.call p.ref05_UsesB [(.t 37)]), (some (35, false)), false⟩, ⟨(some 39), (.mov (.t 38)), (some (35, false)), false⟩, ⟨(some 40), (.faddr 3 (.t 2)), (some (39, true)), false⟩, ⟨(some 41), (.load none (.t 40)), (some (39, true)), false⟩, ⟨(some 42), (.mov (.t 1)), (some (39, true)), false⟩, ⟨(some 43), (.call p.ref07_in [(.t 41), (.t 42)]), (some (39, true)), false⟩, ⟨(some 44), (.un .not (.t 43)), (some (39, true)), false⟩, ⟨(some 45), (.pick (.t 39) (.t 44) (.c (.d (.bool false)))), (some (35, false)), false⟩, qo 46 (.pick (.t 35) (.c (.d (.bool true))) (.t 45))]
def Jqh7 (p : Nums) : IC := (.region (Jqhf p) [])
@[simp] theorem Jeh7 {p : Nums} : EqI (Jqh7 p) (.region (Jqhf p) []) := eqi
def Jqh8 (p : Nums) : IC := (.seq (.region [⟨(some 4), (.asg (.c (.d (.int .i64 9)))), none, false⟩] []) .ret)
@[simp] theorem Jeh8 {p : Nums} : EqI (Jqh8 p) (.seq (.region [⟨(some 4), (.asg (.c (.d (.int .i64 9)))), none, false⟩] []) .ret) := eqi
def Jqhc (p : Nums) : IC := (.seq (.seq (Jqh7 p) .cut) (.cond (.t 46) (Jqh8 p) .skip))
theorem Jehc {p : Nums} : EqI (Jqhc p) (.seq (.seq (Jqh7 p) .cut) (.cond (.t 46) (Jqh8 p) .skip)) := eqi
@[simp] def Jqhg (p : Nums) : List IOp := [qo 47 (.faddr 0 (.t 2)), qo 48 (.load none (.t 47)), qo 49 (.call p.ref05_UsesD [(.t 48)]), qo 50 (.un .not (.t 49)), qo 51 (.mov (.t 50)), ⟨(some 52), (.faddr 1 (.t 2)), (some (51, true)), false⟩, ⟨(some 53), (.load none (.t 52)), (some (51, true)), false⟩, ⟨(some 54), (.bin .neq (.t 53) (ci 0)), (some (51, true)), false⟩, qo 55 (.pick (.t 51) (.t 54) (.c (.d (.bool false)))), qo 56 (.mov (.t 55)), ⟨(some 57), (.faddr 0 (.t 2)), (some (56, false)), false⟩, ⟨(some 58), (.load none (.t 57)), (some (56, false)), false⟩, ⟨(some 59), (.call p.ref05_UsesA [(.t 58)]), (some (56, false)), false⟩, ⟨(some 60), (.un .not (.t 59)), (some (56, false)), false⟩, ⟨(some 61), (.mov (.t 60)), (some (56, false)), false⟩, ⟨(some 62), (.faddr 2 (.t 2)), (some (61, true)), false⟩, ⟨(some 63), (.load none (.t 62)), (some (61, true)), false⟩, ⟨(some 64), (.bin .neq (.t 63) (ci 0)), (some (61, true)), false⟩, ⟨(some 65), (.pick (.t 61) (.t 64) (.c (.d (.bool false)))), (some (56, false)), false⟩, qo 66 (.pick (.t 56) (.c (.d (.bool true))) (.t 65)), qo 67 (.mov (.t 66)), ⟨(some 68), (.faddr 0 (.t 2)), (some (67, false)), false⟩, ⟨(some 69), (.load none (.t 68)), (some (67, false)), false⟩, ⟨(some 70), (.call p.ref05_UsesB [(.t 69)]), (some (67, false)), false⟩, ⟨(some 71), (.un .not (.t 70)), (some (67, false)), false⟩, ⟨(some 72), (.mov (.t 71)), (some (67, false)), false⟩, ⟨(some 73), (.faddr 3 (.t 2)), (some (72, true)), false⟩, ⟨(some 74), (.load none (.t 73)), (some (72, true)), false⟩, ⟨(some 75), (.bin .neq (.t 74) (ci 0)), (some (72, true)), false⟩, ⟨(some 76), (.pick (.t 72) (.t 75) (.c (.d (.bool false)))), (some (67, false)), false⟩, qo 77 (.pick (.t 67) (.c (.d (.bool true))) (.t 76)), qo 78 (.mov (.t 77)), ⟨(some 79), (.faddr 0 (.t 2)), (some (78, false)), false⟩, ⟨(some 80), (.load none (.t 79)), (some (78, false)), false⟩, ⟨(some 81), (.bin .neq (.t 80) (ci 1)), (some (78, false)), false⟩, ⟨(some 82), (.mov (.t 81)), (some (78, false)), false⟩, ⟨(some 83), (.faddr 4 (.t 2)), (some (82, true)), false⟩, ⟨(some 84), (.load none (.t 83)), (some (82, true)), false⟩, ⟨(some 85), (.bin .neq (.t 84) (ci 0)), (some (82, true)), false⟩, ⟨(some 86), (.pick (.t 82) (.t 85) (.c (.d (.bool false)))), (some (78, false)), false⟩, qo 87 (.pick (.t 78) (.c (.d (.bool true))) (.t 86))]
def Jqh9 (p : Nums) : IC := (.region (Jqhg p) [])
@[simp] theorem Jeh9 {p : Nums} : EqI (Jqh9 p) (.region (Jqhg p) []) := eqi
def Jqha (p : Nums) : IC := (.seq (.region [⟨(some 4), (.asg (.c (.d (.int .i64 12)))), none, false⟩] []) .ret)
@[simp] theorem Jeha {p : Nums} : EqI (Jqha p) (.seq (.region [⟨(some 4), (.asg (.c (.d (.int .i64 12)))), none, false⟩] []) .ret) := eqi
def Jqhd (p : Nums) : IC := (.seq (.seq (Jqh9 p) .cut) (.cond (.t 87) (Jqha p) .skip))
theorem Jehd {p : Nums} : EqI (Jqhd p) (.seq (.seq (Jqh9 p) .cut) (.cond (.t 87) (Jqha p) .skip)) := eqi
def Jtbs (p : Nums) : IC := (.seq (.region [⟨(some 2), (.box (.t 0)), none, false⟩, ⟨(some 4), (.asg (.c (.d (.int .i64 0)))), none, false⟩] []) (.seq (Jqhb p) (.seq (Jqhc p) (.seq (Jqhd p) (.seq (.region [⟨(some 4), (.asg (.c (.d (.int .i64 0)))), none, false⟩] []) .ret)))))
@[simp] def Jqi7 (p : Nums) : List IOp := [qo 11 (.faddr 2 (.t 3)), qo 12 (.load none (.t 11)), qo 13 (.mov (.t 2)), qo 14 (.call p.ref07_in [(.t 12), (.t 13)]), qo 15 (.un .not (.t 14))]
def Jqhp (p : Nums) : IC := (.region (Jqi7 p) [])
@[simp] theorem Jehp {p : Nums} : EqI (Jqhp p) (.region (Jqi7 p) []) := eqi
def Jqhz (p : Nums) : IC := (.seq (.region [⟨(some 6), (.asg (.c (.d (.int .i64 11)))), none, false⟩] []) .ret)
@[simp] theorem Jehz {p : Nums} : EqI (Jqhz p) (.seq (.region [⟨(some 6), (.asg (.c (.d (.int .i64 11)))), none, false⟩] []) .ret) := eqi
@[simp] def Jqi9 (p : Nums) : List IOp := [qo 16 (.faddr 1 (.t 3)), qo 17 (.load none (.t 16)), qo 18 (.bin .neq (.t 17) (ci 0)), qo 19 (.mov (.t 18)), ⟨(some 20), (.faddr 3 (.t 3)), (some (19, false)), false⟩, ⟨(some 21), (.load none (.t 20)), (some (19, false)), false⟩, ⟨(some 22), (.bin .neq (.t 21) (ci 0)), (some (19, false)), false⟩, qo 23 (.pick (.t 19) (.c (.d (.bool true))) (.t 22))]
def Jqi0 (p : Nums) : IC := (.region (Jqi9 p) [])
@[simp] theorem Jei0 {p : Nums} : EqI (Jqi0 p) (.region (Jqi9 p) []) := eqi
def Jqi1 (p : Nums) : IC := (.seq (.region [⟨(some 6), (.asg (.c (.d (.int .i64 12)))), none, false⟩] []) .ret)
@[simp] theorem Jei1 {p : Nums} : EqI (Jqi1 p) (.seq (.region [⟨(some 6), (.asg (.c (.d (.int .i64 12)))), none, false⟩] []) .ret) := eqi
@[simp] def Jqia (p : Nums) : List IOp := [qo 26 (.faddr 1 (.t 3)), qo 27 (.load none (.t 26)), qo 28 (.mov (.t 1)), qo 29 (.call p.ref07_in [(.t 27), (.t 28)]), qo 30 (.un .not (.t 29))]
def Jqi2 (p : Nums) : IC := (.region (Jqia p) [])
@[simp] theorem Jei2 {p : Nums} : EqI (Jqi2 p) (.region (Jqia p) []) := eqi
def Jqi3 (p : Nums) : IC := (.seq (.region [⟨(some 6), (.asg (.c (.d (.int .i64 9)))), none, false⟩] []) .ret)
@[simp] theorem Jei3 {p : Nums} : EqI (Jqi3 p) (.seq (.region [⟨(some 6), (.asg (.c (.d (.int .i64 9)))), none, false⟩] []) .ret) := eqi
@[simp] def Jqib (p : Nums) : List IOp := [qo 31 (.faddr 2 (.t 3)), qo 32 (.load none (.t 31)), qo 33 (.mov (.t 2)), qo 34 (.call p.ref07_in [(.t 32), (.t 33)]), qo 35 (.un .not (.t 34)), qo 36 (.mov (.t 35)), ⟨(some 37), (.faddr 3 (.t 3)), (some (36, false)), false⟩, ⟨(some 38), (.load none (.t 37)), (some (36, false)), false⟩, ⟨(some 39), (.mov (.t 2)), (some (36, false)), false⟩, ⟨(some 40), (.call p.ref07_in [(.t 38), (.t 39)]), (some (36, false)), false⟩, ⟨(some 41), (.un .not (.t 40)), (some (36, false)), false⟩, qo 42 (.pick (.t 36) (.c (.d (.bool true))) (.t 41))]
def Jqi4 (p : Nums) : IC := (.region (Jqib p) [])
@[simp] theorem Jei4 {p : Nums} : EqI (Jqi4 p) (.region (Jqib p) []) := eqi
def Jqi5 (p : Nums) : IC := (.seq (.region [⟨(some 6), (.asg (.c (.d (.int .i64 11)))), none, false⟩] []) .ret)
@[simp] theorem Jei5 {p : Nums} : EqI (Jqi5 p) (.seq (.region [⟨(some 6), (.asg (.c (.d (.int .i64 11)))), none, false⟩] []) .ret) := eqi
@[simp] def Jqic (p : Nums) : List IOp := [qo 45 (.faddr 1 (.t 3)), qo 46 (.load none (.t 45)), qo 47 (.mov (.t 1)), qo 48 (.call p.ref07_in [(.t 46), (.t 47)]), qo 49 (.un .not (.t 48))]
def Jqi6 (p : Nums) : IC := (.region (Jqic p) [])
@[simp] theorem Jei6 {p : Nums} : EqI (Jqi6 p) (.region (Jqic p) []) := eqi
def Jqhq (p : Nums) : IC := (.seq (.region [⟨(some 6), (.asg (.c (.d (.int .i64 9)))), none, false⟩] []) .ret)
@[simp] theorem Jehq {p : Nums} : EqI (Jqhq p) (.seq (.region [⟨(some 6), (.asg (.c (.d (.int .i64 9)))), none, false⟩] []) .ret) := eqi
@[simp] def Jqi8 (p : Nums) : List IOp := [qo 50 (.faddr 2 (.t 3)), qo 51 (.load none (.t 50)), qo 52 (.bin .neq (.t 51) (ci 0)), qo 53 (.mov (.t 52)), ⟨(some 54), (.faddr 3 (.t 3)), (some (53, false)), false⟩, ⟨(some 55), (.load none (.t 54)), (some (53, false)), false⟩, ⟨(some 56), (.bin .neq (.t 55) (ci 0)), (some (53, false)), false⟩, qo 57 (.pick (.t 53) (.c (.d (.bool true))) (.t 56))]
def Jqhr (p : Nums) : IC := (.region (Jqi8 p) [])
@[simp] theorem Jehr {p : Nums} : EqI (Jqhr p) (.region (Jqi8 p) []) := eqi
def Jqhs (p : Nums) : IC := (.seq (.region [⟨(some 6), (.asg (.c (.d (.int .i64 12)))), none, false⟩] []) .ret)
@[simp] theorem Jehs {p : Nums} : EqI (Jqhs p) (.seq (.region [⟨(some 6), (.asg (.c (.d (.int .i64 12)))), none, false⟩] []) .ret) := eqi
def Jqht (p : Nums) : IC := (.seq (.seq (Jqi6 p) (.cond (.t 49) (Jqhq p) .skip)) (.seq (.seq (Jqhr p) (.cond (.t 57) (Jqhs p) .skip)) (.seq (.region [⟨(some 6), (.asg (.c (.d (.int .i64 0)))), none, false⟩] []) .ret)))
@[simp] theorem Jeht {p : Nums} : EqI (Jqht p) (.seq (.seq (Jqi6 p) (.cond (.t 49) (Jqhq p) .skip)) (.seq (.seq (Jqhr p) (.cond (.t 57) (Jqhs p) .skip)) (.seq (.region [⟨(some 6), (.asg (.c (.d (.int .i64 0)))), none, false⟩] []) .ret))) := eqi
def Jqhu (p : Nums) : IC := (.seq (.seq (Jqi2 p) (.cond (.t 30) (Jqi3 p) .skip)) (.seq (.seq (Jqi4 p) (.cond (.t 42) (Jqi5 p) .skip)) (.seq (.region [⟨(some 6), (.asg (.c (.d (.int .i64 0)))), none, false⟩] []) .ret)))
@[simp] theorem Jehu {p : Nums} : EqI (Jqhu p) (.seq (.seq (Jqi2 p) (.cond (.t 30) (Jqi3 p) .skip)) (.seq (.seq (Jqi4 p) (.cond (.t 42) (Jqi5 p) .skip)) (.seq (.region [⟨(some 6), (.asg (.c (.d (.int .i64 0)))), none, false⟩] []) .ret))) := eqi
def Jqhv (p : Nums) : IC := (.seq (.region [⟨(some 44), (.bin .eql (.t 8) (.c (.d (.int .i64 3)))), none, false⟩, ⟨(some 43), (.asg (.t 44)), none, false⟩] []) (.cond (.t 43) (Jqht p) .skip))
@[simp] theorem Jehv {p : Nums} : EqI (Jqhv p) (.seq (.region [⟨(some 44), (.bin .eql (.t 8) (.c (.d (.int .i64 3)))), none, false⟩, ⟨(some 43), (.asg (.t 44)), none, false⟩] []) (.cond (.t 43) (Jqht p) .skip)) := eqi
def Jqhw (p : Nums) : IC := (.seq (.seq (Jqhp p) (.cond (.t 15) (Jqhz p) .skip)) (.seq (.seq (Jqi0 p) (.cond (.t 23) (Jqi1 p) .skip)) (.seq (.region [⟨(some 6), (.asg (.c (.d (.int .i64 0)))), none, false⟩] []) .ret)))
@[simp] theorem Jehw {p : Nums} : EqI (Jqhw p) (.seq (.seq (Jqhp p) (.cond (.t 15) (Jqhz p) .skip)) (.seq (.seq (Jqi0 p) (.cond (.t 23) (Jqi1 p) .skip)) (.seq (.region [⟨(some 6), (.asg (.c (.d (.int .i64 0)))), none, false⟩] []) .ret))) := eqi
def Jqhx (p : Nums) : IC := (.seq (.region [⟨(some 25), (.bin .eql (.t 8) (.c (.d (.int .i64 2)))), none, false⟩, ⟨(some 24), (.asg (.t 25)), none, false⟩] []) (.cond (.t 24) (Jqhu p) (Jqhv p)))
@[simp] theorem Jehx {p : Nums} : EqI (Jqhx p) (.seq (.region [⟨(some 25), (.bin .eql (.t 8) (.c (.d (.int .i64 2)))), none, false⟩, ⟨(some 24), (.asg (.t 25)), none, false⟩] []) (.cond (.t 24) (Jqhu p) (Jqhv p))) := eqi
def Jqhy (p : Nums) : IC := (.seq (.region [⟨(some 10), (.bin .eql (.t 8) (.c (.d (.int .i64 1)))), none, false⟩, ⟨(some 9), (.asg (.t 10)), none, false⟩] []) (.cond (.t 9) (Jqhw p) (Jqhx p)))
@[simp] theorem Jehy {p : Nums} : EqI (Jqhy p) (.seq (.region [⟨(some 10), (.bin .eql (.t 8) (.c (.d (.int .i64 1)))), none, false⟩, ⟨(some 9), (.asg (.t 10)), none, false⟩] []) (.cond (.t 9) (Jqhw p) (Jqhx p))) := eqi
def Jtbu (p : Nums) : IC := (.seq (.region [⟨(some 3), (.box (.t 0)), none, false⟩, ⟨(some 6), (.asg (.c (.d (.int .i64 0)))), none, false⟩] []) (.seq (.seq (.region [⟨(some 7), (.faddr 0 (.t 3)), none, false⟩, ⟨(some 8), (.load none (.t 7)), none, false⟩] []) (.block 0 (Jqhy p))) (.seq (.region [⟨(some 6), (.asg (.c (.d (.int .i64 16)))), none, false⟩] []) .ret)))
@[simp] def Jqjl (p : Nums) : List IOp := [qo 5 (.mov (.t 4)), qo 6 (.faddr 3 (.t 1)), qo 7 (.load none (.t 6)), qo 8 (.len (.t 7)), qo 9 (.bin .lss (.t 5) (.t 8))]
def Jqjh (p : Nums) : IC := (.region (Jqjl p) [])
@[simp] theorem Jejh {p : Nums} : EqI (Jqjh p) (.region (Jqjl p) []) := eqi
@[simp] def Jqjm (p : Nums) : List IOp := [qo 12 (.mov (.t 3)), qo 13 (.faddr 3 (.t 1)), qo 14 (.load none (.t 13)), qo 15 (.mov (.t 4)), qo 16 (.iaddr 5 (.t 14) (.t 15)), qo 17 (.faddr 0 (.t 16)), qo 18 (.load none (.t 17)), qo 19 (.len (.t 18)), qo 20 (.bin .add (.t 12) (.t 19)), qo 3 (.asg (.t 20))]
def Jqji (p : Nums) : IC := (.region (Jqjm p) [])
@[simp] theorem Jeji {p : Nums} : EqI (Jqji p) (.region (Jqjm p) []) := eqi
@[simp] def Jqjn (p : Nums) : List IOp := [qo 10 (.mov (.t 4)), qo 11 (.bin .add (.t 10) (ci 1)), qo 4 (.asg (.t 11))]
def Jqjj (p : Nums) : IC := (.region (Jqjn p) [])
@[simp] theorem Jejj {p : Nums} : EqI (Jqjj p) (.region (Jqjn p) []) := eqi
def Jqjk (p : Nums) : IC := (.seq (.seq (Jqjh p) (.cond (.t 9) .skip (.exit 0))) (.seq (.block 1 (Jqji p)) (Jqjj p)))
@[simp] theorem Jejk {p : Nums} : EqI (Jqjk p) (.seq (.seq (Jqjh p) (.cond (.t 9) .skip (.exit 0))) (.seq (.block 1 (Jqji p)) (Jqjj p))) := eqi
def Jtbx (p : Nums) : IC := (.seq (.region [⟨(some 1), (.box (.t 0)), none, false⟩, ⟨(some 2), (.asg (.c (.d (.int .i64 0)))), none, false⟩] []) (.seq (.region [⟨(some 3), (.asg (.c (.d (.int .i64 0)))), none, false⟩] []) (.seq (.seq (.region [⟨(some 4), (.asg (.c (.d (.int .i64 0)))), none, false⟩] []) (.block 0 (.loop (Jqjk p)))) (.seq (.region [⟨(some 21), (.mov (.t 3)), none, false⟩, ⟨(some 2), (.asg (.t 21)), none, false⟩] []) .ret))))
@[simp] def Jqws (p : Nums) : List IOp := [qo 10 (.faddr 0 (.t 3)), qo 11 (.load none (.t 10)), qo 12 (.len (.t 11)), qo 13 (.mov (ci 0))]
def Jqwl (p : Nums) : IC := (.region (Jqws p) [])
@[simp] theorem Jewl {p : Nums} : EqI (Jqwl p) (.region (Jqws p) []) := eqi
@[simp] def Jqwt (p : Nums) : List IOp := [qo 15 (.iaddr 5 (.t 11) (.t 13)), qo 16 (.load (some 5) (.t 15)), qo 8 (.alloc [(zi 0), (zi 0), (zi 0), (zi 0), (zi 0)]), qn (.store 5 (.t 8) (.t 16))]
def Jqwm (p : Nums) : IC := (.region (Jqwt p) [])
@[simp] theorem Jewm {p : Nums} : EqI (Jqwm p) (.region (Jqwt p) []) := eqi
@[simp] def Jqwu (p : Nums) : List IOp := [qo 17 (.load (some 5) (.t 8)), qo 18 (.mov (.t 1)), qo 19 (.call p.source_Instr [(.t 17), (.t 18)]), qo 9 (.asg (.t 19))]
def Jqwn (p : Nums) : IC := (.region (Jqwu p) [])
@[simp] theorem Jewn {p : Nums} : EqI (Jqwn p) (.region (Jqwu p) []) := eqi
def Jqwo (p : Nums) : IC := (.seq (.region [⟨(some 22), (.mov (.t 9)), none, false⟩, ⟨(some 6), (.asg (.t 22)), none, false⟩] []) .ret)
@[simp] theorem Jewo {p : Nums} : EqI (Jqwo p) (.seq (.region [⟨(some 22), (.mov (.t 9)), none, false⟩, ⟨(some 6), (.asg (.t 22)), none, false⟩] []) .ret) := eqi
def Jqwp (p : Nums) : IC := (.seq (Jqwm p) (.seq (Jqwn p) (.seq (.region [⟨(some 20), (.mov (.t 9)), none, false⟩, ⟨(some 21), (.bin .neq (.t 20) (.c (.d (.int .i64 0)))), none, false⟩] []) (.cond (.t 21) (Jqwo p) .skip))))
@[simp] theorem Jewp {p : Nums} : EqI (Jqwp p) (.seq (Jqwm p) (.seq (Jqwn p) (.seq (.region [⟨(some 20), (.mov (.t 9)), none, false⟩, ⟨(some 21), (.bin .neq (.t 20) (.c (.d (.int .i64 0)))), none, false⟩] []) (.cond (.t 21) (Jqwo p) .skip)))) := eqi
def Jqwq (p : Nums) : IC := (.seq (.region [⟨(some 14), (.bin .lss (.t 13) (.t 12)), none, false⟩] []) (.seq (.cond (.t 14) .skip (.exit 0)) (.seq (.block 1 (Jqwp p)) (.region [⟨(some 23), (.bin .add (.t 13) (.c (.d (.int .i64 1)))), none, false⟩, ⟨(some 13), (.mov (.t 23)), none, false⟩] []))))
@[simp] theorem Jewq {p : Nums} : EqI (Jqwq p) (.seq (.region [⟨(some 14), (.bin .lss (.t 13) (.t 12)), none, false⟩] []) (.seq (.cond (.t 14) .skip (.exit 0)) (.seq (.block 1 (Jqwp p)) (.region [⟨(some 23), (.bin .add (.t 13) (.c (.d (.int .i64 1)))), none, false⟩, ⟨(some 13), (.mov (.t 23)), none, false⟩] [])))) := eqi
@[simp] def Jqwv (p : Nums) : List IOp := [qo 24 (.faddr 1 (.t 3)), qo 25 (.load (some 4) (.t 24)), qo 26 (.mov (.t 1)), qo 27 (.mov (.t 2)), qo 28 (.call p.source_Term [(.t 25), (.t 26), (.t 27)]), qo 6 (.asg (.t 28))]
def Jqwr (p : Nums) : IC := (.region (Jqwv p) [])
@[simp] theorem Jewr {p : Nums} : EqI (Jqwr p) (.region (Jqwv p) []) := eqi
def Jtct (p : Nums) : IC := (.seq (.region [⟨(some 3), (.box (.t 0)), none, false⟩, ⟨(some 6), (.asg (.c (.d (.int .i64 0)))), none, false⟩] []) (.seq (.seq (Jqwl p) (.block 0 (.loop (Jqwq p)))) (.seq (Jqwr p) .ret)))
@[simp] def Jqaz (p : Nums) : List IOp := [qo 2 (.box (.t 0)), qo 3 (.box (.t 1)), qo 4 (.asg (ci 0))]
def Jqan (p : Nums) : IC := (.region (Jqaz p) [])
@[simp] theorem Jean {p : Nums} : EqI (Jqan p) (.region (Jqaz p) []) := eqi
@[simp] def Jqb1 (p : Nums) : List IOp := [qo 9 (.faddr 0 (.t 3)), qo 10 (.load none (.t 9)), qo 11 (.len (.t 10)), qo 12 (.mov (ci 0))]
def Jqar (p : Nums) : IC := (.region (Jqb1 p) [])
@[simp] theorem Jear {p : Nums} : EqI (Jqar p) (.region (Jqb1 p) []) := eqi
@[simp] def Jqb2 (p : Nums) : List IOp := [qo 14 (.iaddr 7 (.t 10) (.t 12)), qo 15 (.load (some 7) (.t 14)), qo 7 (.alloc [(zi 0), (zi 0), (zi 0), (zi 0), (zi 0), (zi 0), (zi 0)]), qn (.store 7 (.t 7) (.t 15))]
def Jqas (p : Nums) : IC := (.region (Jqb2 p) [])
@[simp] theorem Jeas {p : Nums} : EqI (Jqas p) (.region (Jqb2 p) []) := eqi
@[simp] def Jqb3 (p : Nums) : List IOp := [qo 16 (.load (some 7) (.t 7)), qo 17 (.faddr 1 (.t 2)), qo 18 (.load none (.t 17)), qo 19 (.faddr 2 (.t 2)), qo 20 (.load none (.t 19)), qo 21 (.call p.machine_Instr [(.t 16), (.t 18), (.t 20)]), qo 8 (.asg (.t 21))]
def Jqat (p : Nums) : IC := (.region (Jqb3 p) [])
@[simp] theorem Jeat {p : Nums} : EqI (Jqat p) (.region (Jqb3 p) []) := eqi
def Jqau (p : Nums) : IC := (.seq (.region [⟨(some 24), (.mov (.t 8)), none, false⟩, ⟨(some 4), (.asg (.t 24)), none, false⟩] []) .ret)
@[simp] theorem Jeau {p : Nums} : EqI (Jqau p) (.seq (.region [⟨(some 24), (.mov (.t 8)), none, false⟩, ⟨(some 4), (.asg (.t 24)), none, false⟩] []) .ret) := eqi
@[simp] def Jqb4 (p : Nums) : List IOp := [qo 25 (.mov (.t 5)), qo 26 (.bin .add (.t 25) (ci 1)), qo 5 (.asg (.t 26))]
def Jqav (p : Nums) : IC := (.region (Jqb4 p) [])
@[simp] theorem Jeav {p : Nums} : EqI (Jqav p) (.region (Jqb4 p) []) := eqi
@[simp] def Jqb5 (p : Nums) : List IOp := [qo 27 (.faddr 0 (.t 7)), qo 28 (.load none (.t 27)), qo 29 (.bin .neq (.t 28) (ci 18))]
def Jqaw (p : Nums) : IC := (.region (Jqb5 p) [])
@[simp] theorem Jeaw {p : Nums} : EqI (Jqaw p) (.region (Jqb5 p) []) := eqi
@[simp] def Jqb6 (p : Nums) : List IOp := [qo 5 (.asg (ci 0))]
def Jqax (p : Nums) : IC := (.region (Jqb6 p) [])
@[simp] theorem Jeax {p : Nums} : EqI (Jqax p) (.region (Jqb6 p) []) := eqi
def Jqay (p : Nums) : IC := (.seq (.region [⟨(some 4), (.asg (.c (.d (.int .i64 15)))), none, false⟩] []) .ret)
@[simp] theorem Jeay {p : Nums} : EqI (Jqay p) (.seq (.region [⟨(some 4), (.asg (.c (.d (.int .i64 15)))), none, false⟩] []) .ret) := eqi
def Jqao (p : Nums) : IC := (.seq (Jqas p) (.seq (.seq (Jqat p) (.seq (.region [⟨(some 22), (.mov (.t 8)), none, false⟩, ⟨(some 23), (.bin .neq (.t 22) (.c (.d (.int .i64 0)))), none, false⟩] []) (.cond (.t 23) (Jqau p) .skip))) (.seq (Jqav p) (.seq (.seq (Jqaw p) (.cond (.t 29) (Jqax p) .skip)) (.seq (.region [⟨(some 30), (.mov (.t 5)), none, false⟩, ⟨(some 31), (.bin .gtr (.t 30) (.c (.d (.int .i64 64)))), none, false⟩] []) (.cond (.t 31) (Jqay p) .skip))))))
@[simp] theorem Jeao {p : Nums} : EqI (Jqao p) (.seq (Jqas p) (.seq (.seq (Jqat p) (.seq (.region [⟨(some 22), (.mov (.t 8)), none, false⟩, ⟨(some 23), (.bin .neq (.t 22) (.c (.d (.int .i64 0)))), none, false⟩] []) (.cond (.t 23) (Jqau p) .skip))) (.seq (Jqav p) (.seq (.seq (Jqaw p) (.cond (.t 29) (Jqax p) .skip)) (.seq (.region [⟨(some 30), (.mov (.t 5)), none, false⟩, ⟨(some 31), (.bin .gtr (.t 30) (.c (.d (.int .i64 64)))), none, false⟩] []) (.cond (.t 31) (Jqay p) .skip)))))) := eqi
def Jqap (p : Nums) : IC := (.seq (.region [⟨(some 13), (.bin .lss (.t 12) (.t 11)), none, false⟩] []) (.seq (.cond (.t 13) .skip (.exit 0)) (.seq (.block 1 (Jqao p)) (.region [⟨(some 32), (.bin .add (.t 12) (.c (.d (.int .i64 1)))), none, false⟩, ⟨(some 12), (.mov (.t 32)), none, false⟩] []))))
@[simp] theorem Jeap {p : Nums} : EqI (Jqap p) (.seq (.region [⟨(some 13), (.bin .lss (.t 12) (.t 11)), none, false⟩] []) (.seq (.cond (.t 13) .skip (.exit 0)) (.seq (.block 1 (Jqao p)) (.region [⟨(some 32), (.bin .add (.t 12) (.c (.d (.int .i64 1)))), none, false⟩, ⟨(some 12), (.mov (.t 32)), none, false⟩] [])))) := eqi
@[simp] def Jqb0 (p : Nums) : List IOp := [qo 33 (.faddr 1 (.t 3)), qo 34 (.load (some 4) (.t 33)), qo 35 (.faddr 1 (.t 2)), qo 36 (.load none (.t 35)), qo 37 (.faddr 3 (.t 2)), qo 38 (.load none (.t 37)), qo 39 (.len (.t 38)), qo 40 (.call p.source_Term [(.t 34), (.t 36), (.t 39)]), qo 4 (.asg (.t 40))]
def Jqaq (p : Nums) : IC := (.region (Jqb0 p) [])
@[simp] theorem Jeaq {p : Nums} : EqI (Jqaq p) (.region (Jqb0 p) []) := eqi
def Jtay (p : Nums) : IC := (.seq (Jqan p) (.seq (.region [⟨(some 5), (.asg (.c (.d (.int .i64 0)))), none, false⟩] []) (.seq (.seq (Jqar p) (.block 0 (.loop (Jqap p)))) (.seq (Jqaq p) .ret))))
@[simp] def Jq7j (p : Nums) : List IOp := [qo 6 (.mov (.t 0)), qo 7 (.len (.t 6)), qo 8 (.mov (ci 0))]
def Jq7f (p : Nums) : IC := (.region (Jq7j p) [])
@[simp] theorem Je7f {p : Nums} : EqI (Jq7f p) (.region (Jq7j p) []) := eqi
@[simp] def Jq7k (p : Nums) : List IOp := [qo 10 (.iaddr 1 (.t 6) (.t 8)), qo 11 (.load none (.t 10)), qo 5 (.asg (.t 11))]
def Jq7g (p : Nums) : IC := (.region (Jq7k p) [])
@[simp] theorem Je7g {p : Nums} : EqI (Jq7g p) (.region (Jq7k p) []) := eqi
@[simp] def Jq7l (p : Nums) : List IOp := [qo 12 (.mov (.t 3)), qo 13 (.mov (.t 5)), qo 14 (.len (.t 13)), qo 15 (.bin .add (.t 12) (.t 14)), qo 3 (.asg (.t 15))]
def Jq7h (p : Nums) : IC := (.region (Jq7l p) [])
@[simp] theorem Je7h {p : Nums} : EqI (Jq7h p) (.region (Jq7l p) []) := eqi
def Jq7i (p : Nums) : IC := (.seq (.region [⟨(some 9), (.bin .lss (.t 8) (.t 7)), none, false⟩] []) (.seq (.cond (.t 9) .skip (.exit 0)) (.seq (.block 1 (.seq (Jq7g p) (Jq7h p))) (.region [⟨(some 16), (.bin .add (.t 8) (.c (.d (.int .i64 1)))), none, false⟩, ⟨(some 8), (.mov (.t 16)), none, false⟩] []))))
@[simp] theorem Je7i {p : Nums} : EqI (Jq7i p) (.seq (.region [⟨(some 9), (.bin .lss (.t 8) (.t 7)), none, false⟩] []) (.seq (.cond (.t 9) .skip (.exit 0)) (.seq (.block 1 (.seq (Jq7g p) (Jq7h p))) (.region [⟨(some 16), (.bin .add (.t 8) (.c (.d (.int .i64 1)))), none, false⟩, ⟨(some 8), (.mov (.t 16)), none, false⟩] [])))) := eqi
def Jtan (p : Nums) : IC := (.seq (.region [⟨(some 2), (.asg (.c (.d (.int .i64 0)))), none, false⟩] []) (.seq (.region [⟨(some 3), (.asg (.c (.d (.int .i64 0)))), none, false⟩] []) (.seq (.seq (Jq7f p) (.block 0 (.loop (Jq7i p)))) (.seq (.region [⟨(some 17), (.mov (.t 3)), none, false⟩, ⟨(some 2), (.asg (.t 17)), none, false⟩] []) .ret))))
@[simp] def Jq7a (p : Nums) : List IOp := [qo 11 (.mov (.t 0)), qo 12 (.len (.t 11)), qo 13 (.mov (ci 0))]
def Jq6y (p : Nums) : IC := (.region (Jq7a p) [])
@[simp] theorem Je6y {p : Nums} : EqI (Jq6y p) (.region (Jq7a p) []) := eqi
@[simp] def Jq7b (p : Nums) : List IOp := [qo 15 (.mov (.t 13)), qo 16 (.iaddr 2 (.t 11) (.t 13)), qo 17 (.load (some 2) (.t 16)), qo 10 (.alloc [(zi 0), (zi 0)]), qo 9 (.asg (.t 15)), qn (.store 2 (.t 10) (.t 17))]
def Jq72 (p : Nums) : IC := (.region (Jq7b p) [])
@[simp] theorem Je72 {p : Nums} : EqI (Jq72 p) (.region (Jq7b p) []) := eqi
@[simp] def Jq7c (p : Nums) : List IOp := [qo 19 (.faddr 0 (.t 10)), qo 20 (.load none (.t 19)), qo 21 (.bin .lss (.t 20) (ci 0)), qo 22 (.mov (.t 21)), ⟨(some 23), (.faddr 0 (.t 10)), (some (22, false)), false⟩, ⟨(some 24), (.load none (.t 23)), (some (22, false)), false⟩, ⟨(some 25), (.mov (.t 1)), (some (22, false)), false⟩, ⟨(some 26), (.bin .geq (.t 24) (.t 25)), (some (22, false)), false⟩, qo 27 (.pick (.t 22) (.c (.d (.bool true))) (.t 26)), qo 18 (.asg (.t 27))]
def Jq73 (p : Nums) : IC := (.region (Jq7c p) [])
@[simp] theorem Je73 {p : Nums} : EqI (Jq73 p) (.region (Jq7c p) []) := eqi
@[simp] def Jq7d (p : Nums) : List IOp := [qo 29 (.faddr 1 (.t 10)), qo 30 (.load none (.t 29)), qo 31 (.mov (.t 2)), qo 32 (.mov (.t 3)), qo 33 (.call p.location_InRange [(.t 30), (.t 31), (.t 32)]), qo 34 (.un .not (.t 33)), qo 28 (.asg (.t 34))]
def Jq74 (p : Nums) : IC := (.region (Jq7d p) [])
@[simp] theorem Je74 {p : Nums} : EqI (Jq74 p) (.region (Jq7d p) []) := eqi
@[simp] def Jq7e (p : Nums) : List IOp := [qo 36 (.mov (.t 9)), qo 37 (.bin .gtr (.t 36) (ci 0)), qo 38 (.mov (.t 37)), ⟨(some 39), (.mov (.t 0)), (some (38, true)), true⟩, ⟨(some 40), (.mov (.t 9)), (some (38, true)), true⟩, ⟨(some 41), (.bin .sub (.t 40) (ci 1)), (some (38, true)), true⟩, ⟨(some 42), (.iaddr 2 (.t 39) (.t 41)), (some (38, true)), true⟩, ⟨(some 43), (.load (some 2) (.t 42)), (some (38, true)), true⟩, ⟨(some 44), (.load (some 2) (.t 10)), (some (38, true)), true⟩, ⟨(some 45), (.call p.pairset_Less [(.t 43), (.t 44)]), (some (38, true)), false⟩, ⟨(some 46), (.un .not (.t 45)), (some (38, true)), false⟩, qo 47 (.pick (.t 38) (.t 46) (.c (.d (.bool false)))), qo 35 (.asg (.t 47))]
def Jq75 (p : Nums) : IC := (.region (Jq7e p) [])
@[simp] theorem Je75 {p : Nums} : EqI (Jq75 p) (.region (Jq7e p) []) := eqi
def Jq76 (p : Nums) : IC := (.seq (.region [⟨(some 8), (.asg (.c (.d (.int .i64 13)))), none, false⟩] []) .ret)
@[simp] theorem Je76 {p : Nums} : EqI (Jq76 p) (.seq (.region [⟨(some 8), (.asg (.c (.d (.int .i64 13)))), none, false⟩] []) .ret) := eqi
def Jq77 (p : Nums) : IC := (.seq (.region [⟨(some 8), (.asg (.c (.d (.int .i64 10)))), none, false⟩] []) .ret)
@[simp] theorem Je77 {p : Nums} : EqI (Jq77 p) (.seq (.region [⟨(some 8), (.asg (.c (.d (.int .i64 10)))), none, false⟩] []) .ret) := eqi
def Jq78 (p : Nums) : IC := (.seq (Jq75 p) (.cond (.t 35) (Jq76 p) .skip))
@[simp] theorem Je78 {p : Nums} : EqI (Jq78 p) (.seq (Jq75 p) (.cond (.t 35) (Jq76 p) .skip)) := eqi
def Jq79 (p : Nums) : IC := (.seq (.region [⟨(some 8), (.asg (.c (.d (.int .i64 9)))), none, false⟩] []) .ret)
@[simp] theorem Je79 {p : Nums} : EqI (Jq79 p) (.seq (.region [⟨(some 8), (.asg (.c (.d (.int .i64 9)))), none, false⟩] []) .ret) := eqi
def Jq6z (p : Nums) : IC := (.seq (Jq74 p) (.cond (.t 28) (Jq77 p) (Jq78 p)))
@[simp] theorem Je6z {p : Nums} : EqI (Jq6z p) (.seq (Jq74 p) (.cond (.t 28) (Jq77 p) (Jq78 p))) := eqi
def Jq70 (p : Nums) : IC := (.seq (Jq73 p) (.cond (.t 18) (Jq79 p) (Jq6z p)))
@[simp] theorem Je70 {p : Nums} : EqI (Jq70 p) (.seq (Jq73 p) (.cond (.t 18) (Jq79 p) (Jq6z p))) := eqi
def Jq71 (p : Nums) : IC := (.seq (.region [⟨(some 14), (.bin .lss (.t 13) (.t 12)), none, false⟩] []) (.seq (.cond (.t 14) .skip (.exit 0)) (.seq (.block 1 (.seq (Jq72 p) (.block 2 (Jq70 p)))) (.region [⟨(some 48), (.bin .add (.t 13) (.c (.d (.int .i64 1)))), none, false⟩, ⟨(some 13), (.mov (.t 48)), none, false⟩] []))))
@[simp] theorem Je71 {p : Nums} : EqI (Jq71 p) (.seq (.region [⟨(some 14), (.bin .lss (.t 13) (.t 12)), none, false⟩] []) (.seq (.cond (.t 14) .skip (.exit 0)) (.seq (.block 1 (.seq (Jq72 p) (.block 2 (Jq70 p)))) (.region [⟨(some 48), (.bin .add (.t 13) (.c (.d (.int .i64 1)))), none, false⟩, ⟨(some 13), (.mov (.t 48)), none, false⟩] [])))) := eqi
def Jtam (p : Nums) : IC := (.seq (.region [⟨(some 8), (.asg (.c (.d (.int .i64 0)))), none, false⟩] []) (.seq (.seq (Jq6y p) (.block 0 (.loop (Jq71 p)))) (.seq (.region [⟨(some 8), (.asg (.c (.d (.int .i64 0)))), none, false⟩] []) .ret)))
@[simp] def Jqkd (p : Nums) : List IOp := [qo 8 (.faddr 0 (.t 3)), qo 9 (.load none (.t 8)), qo 10 (.bin .lss (.t 9) (ci 1)), qo 11 (.mov (.t 10)), ⟨(some 12), (.faddr 0 (.t 3)), (some (11, false)), false⟩, ⟨(some 13), (.load none (.t 12)), (some (11, false)), false⟩, ⟨(some 14), (.bin .gtr (.t 13) (ci 18)), (some (11, false)), false⟩, qo 15 (.pick (.t 11) (.c (.d (.bool true))) (.t 14)), qo 16 (.mov (.t 15)), ⟨(some 17), (.faddr 0 (.t 3)), (some (16, false)), false⟩, ⟨(some 18), (.load none (.t 17)), (some (16, false)), false⟩, ⟨(some 19), (.bin .eql (.t 18) (ci 2)), (some (16, false)), false⟩, qo 20 (.pick (.t 16) (.c (.d (.bool true))) (.t 19))]
def Jqk2 (p : Nums) : IC := (.region (Jqkd p) [])
@[simp] theorem Jek2 {p : Nums} : EqI (Jqk2 p) (.region (Jqkd p) []) := eqi
def Jqk5 (p : Nums) : IC := (.seq (.region [⟨(some 6), (.asg (.c (.d (.int .i64 8)))), none, false⟩] []) .ret)
@[simp] theorem Jek5 {p : Nums} : EqI (Jqk5 p) (.seq (.region [⟨(some 6), (.asg (.c (.d (.int .i64 8)))), none, false⟩] []) .ret) := eqi
@[simp] def Jqkf (p : Nums) : List IOp := [qo 21 (.faddr 0 (.t 3)), qo 22 (.load none (.t 21)), qo 23 (.bin .eql (.t 22) (ci 18))]
def Jqk6 (p : Nums) : IC := (.region (Jqkf p) [])
@[simp] theorem Jek6 {p : Nums} : EqI (Jqk6 p) (.region (Jqkf p) []) := eqi
@[simp] def Jqkg (p : Nums) : List IOp := [qo 24 (.faddr 5 (.t 3)), qo 25 (.load none (.t 24)), qo 26 (.mov (.t 1)), qo 27 (.mov (.t 2)), qo 28 (.call p.ref04_InRange [(.t 25), (.t 26), (.t 27)]), qo 29 (.un .not (.t 28)), qo 30 (.mov (.t 29)), ⟨(some 31), (.faddr 6 (.t 3)), (some (30, false)), false⟩, ⟨(some 32), (.load none (.t 31)), (some (30, false)), false⟩, ⟨(some 33), (.mov (.t 1)), (some (30, false)), false⟩, ⟨(some 34), (.mov (.t 2)), (some (30, false)), false⟩, ⟨(some 35), (.call p.ref04_InRange [(.t 32), (.t 33), (.t 34)]), (some (30, false)), false⟩, ⟨(some 36), (.un .not (.t 35)), (some (30, false)), false⟩, qo 37 (.pick (.t 30) (.c (.d (.bool true))) (.t 36)), qo 38 (.mov (.t 37)), ⟨(some 39), (.faddr 5 (.t 3)), (some (38, false)), false⟩, ⟨(some 40), (.load none (.t 39)), (some (38, false)), false⟩, ⟨(some 41), (.bin .rem (.t 40) (ci 2)), (some (38, false)), false⟩, ⟨(some 42), (.bin .eql (.t 41) (ci 1)), (some (38, false)), false⟩, ⟨(some 43), (.mov (.t 42)), (some (38, false)), false⟩, ⟨(some 44), (.faddr 6 (.t 3)), (some (43, true)), false⟩, ⟨(some 45), (.load none (.t 44)), (some (43, true)), false⟩, ⟨(some 46), (.bin .rem (.t 45) (ci 2)), (some (43, true)), false⟩, ⟨(some 47), (.bin .eql (.t 46) (ci 1)), (some (43, true)), false⟩, ⟨(some 48), (.pick (.t 43) (.t 47) (.c (.d (.bool false)))), (some (38, false)), false⟩, qo 49 (.pick (.t 38) (.c (.d (.bool true))) (.t 48))]
def Jqk7 (p : Nums) : IC := (.region (Jqkg p) [])
@[simp] theorem Jek7 {p : Nums} : EqI (Jqk7 p) (.region (Jqkg p) []) := eqi
def Jqk8 (p : Nums) : IC := (.seq (.region [⟨(some 6), (.asg (.c (.d (.int .i64 10)))), none, false⟩] []) .ret)
@[simp] theorem Jek8 {p : Nums} : EqI (Jqk8 p) (.seq (.region [⟨(some 6), (.asg (.c (.d (.int .i64 10)))), none, false⟩] []) .ret) := eqi
@[simp] def Jqkh (p : Nums) : List IOp := [qo 50 (.faddr 1 (.t 3)), qo 51 (.load none (.t 50)), qo 52 (.bin .neq (.t 51) (ci 0)), qo 53 (.mov (.t 52)), ⟨(some 54), (.faddr 2 (.t 3)), (some (53, false)), false⟩, ⟨(some 55), (.load none (.t 54)), (some (53, false)), false⟩, ⟨(some 56), (.bin .neq (.t 55) (ci 0)), (some (53, false)), false⟩, qo 57 (.pick (.t 53) (.c (.d (.bool true))) (.t 56)), qo 58 (.mov (.t 57)), ⟨(some 59), (.faddr 3 (.t 3)), (some (58, false)), false⟩, ⟨(some 60), (.load none (.t 59)), (some (58, false)), false⟩, ⟨(some 61), (.bin .neq (.t 60) (ci 0)), (some (58, false)), false⟩, qo 62 (.pick (.t 58) (.c (.d (.bool true))) (.t 61)), qo 63 (.mov (.t 62)), ⟨(some 64), (.faddr 4 (.t 3)), (some (63, false)), false⟩, ⟨(some 65), (.load none (.t 64)), (some (63, false)), false⟩, ⟨(some 66), (.bin .neq (.t 65) (ci 0)), (some (63, false)), false⟩, qo 67 (.pick (.t 63) (.c (.d (.bool true))) (.t 66))]
def Jqk9 (p : Nums) : IC := (.region (Jqkh p) [])
@[simp] theorem Jek9 {p : Nums} : EqI (Jqk9 p) (.region (Jqkh p) []) := eqi
def Jqka (p : Nums) : IC := (.seq (.region [⟨(some 6), (.asg (.c (.d (.int .i64 12)))), none, false⟩] []) .ret)
@[simp] theorem Jeka {p : Nums} : EqI (Jqka p) (.seq (.region [⟨(some 6), (.asg (.c (.d (.int .i64 12)))), none, false⟩] []) .ret) := eqi
def Jqkb (p : Nums) : IC := (.seq (.seq (Jqk7 p) (.cond (.t 49) (Jqk8 p) .skip)) (.seq (.seq (Jqk9 p) (.cond (.t 67) (Jqka p) .skip)) (.seq (.region [⟨(some 6), (.asg (.c (.d (.int .i64 0)))), none, false⟩] []) .ret)))
@[simp] theorem Jekb {p : Nums} : EqI (Jqkb p) (.seq (.seq (Jqk7 p) (.cond (.t 49) (Jqk8 p) .skip)) (.seq (.seq (Jqk9 p) (.cond (.t 67) (Jqka p) .skip)) (.seq (.region [⟨(some 6), (.asg (.c (.d (.int .i64 0)))), none, false⟩] []) .ret))) := eqi
@[simp] def Jqki (p : Nums) : List IOp := [qo 68 (.faddr 0 (.t 3)), qo 69 (.load none (.t 68)), qo 70 (.faddr 1 (.t 3)), qo 71 (.load none (.t 70)), qo 72 (.faddr 2 (.t 3)), qo 73 (.load none (.t 72)), qo 74 (.faddr 3 (.t 3)), qo 75 (.load none (.t 74)), qo 76 (.faddr 4 (.t 3)), qo 77 (.load none (.t 76)), qo 78 (.build [(zi 0), (zi 0), (zi 0), (zi 0), (zi 0)] [(0, 1, (.t 69)), (1, 1, (.t 71)), (2, 1, (.t 73)), (3, 1, (.t 75)), (4, 1, (.t 77))]), qo 79 (.mov (.t 1)), qo 80 (.call p.ref07_Instr [(.t 78), (.t 79)]), qo 7 (.asg (.t 80))]
def Jqkc (p : Nums) : IC := (.region (Jqki p) [])
@[simp] theorem Jekc {p : Nums} : EqI (Jqkc p) (.region (Jqki p) []) := eqi
@[simp] def Jqke (p : Nums) : List IOp := [qo 81 (.mov (.t 7)), qo 82 (.bin .eql (.t 81) (ci 0)), qo 83 (.mov (.t 82)), ⟨(some 84), (.faddr 5 (.t 3)), (some (83, true)), false⟩, ⟨(some 85), (.load none (.t 84)), (some (83, true)), false⟩, ⟨(some 86), (.bin .neq (.t 85) (ci 0)), (some (83, true)), false⟩, ⟨(some 87), (.mov (.t 86)), (some (83, true)), false⟩, ⟨(some 88), (.faddr 6 (.t 3)), (some (87, false)), false⟩, ⟨(some 89), (.load none (.t 88)), (some (87, false)), false⟩, ⟨(some 90), (.bin .neq (.t 89) (ci 0)), (some (87, false)), false⟩, ⟨(some 91), (.pick (.t 87) (.c (.d (.bool true))) (.t 90)), (some (83, true)), false⟩, qo 92 (.pick (.t 83) (.t 91) (.c (.d (.bool false))))]
def Jqk3 (p : Nums) : IC := (.region (Jqke p) [])
@[simp] theorem Jek3 {p : Nums} : EqI (Jqk3 p) (.region (Jqke p) []) := eqi
def Jqk4 (p : Nums) : IC := (.seq (.region [⟨(some 6), (.asg (.c (.d (.int .i64 12)))), none, false⟩] []) .ret)
@[simp] theorem Jek4 {p : Nums} : EqI (Jqk4 p) (.seq (.region [⟨(some 6), (.asg (.c (.d (.int .i64 12)))), none, false⟩] []) .ret) := eqi
def Jtbz (p : Nums) : IC := (.seq (.region [⟨(some 3), (.box (.t 0)), none, false⟩, ⟨(some 6), (.asg (.c (.d (.int .i64 0)))), none, false⟩] []) (.seq (.seq (Jqk2 p) (.cond (.t 20) (Jqk5 p) .skip)) (.seq (.seq (Jqk6 p) (.cond (.t 23) (Jqkb p) .skip)) (.seq (Jqkc p) (.seq (.seq (Jqk3 p) (.cond (.t 92) (Jqk4 p) .skip)) (.seq (.region [⟨(some 93), (.mov (.t 7)), none, false⟩, ⟨(some 6), (.asg (.t 93)), none, false⟩] []) .ret))))))
@[simp] def Jqks (p : Nums) : List IOp := [qo 6 (.mov (.t 4)), qo 7 (.mov (.t 0)), qo 8 (.len (.t 7)), qo 9 (.bin .lss (.t 6) (.t 8))]
def Jqkj (p : Nums) : IC := (.region (Jqks p) [])
@[simp] theorem Jekj {p : Nums} : EqI (Jqkj p) (.region (Jqks p) []) := eqi
@[simp] def Jqkt (p : Nums) : List IOp := [qo 12 (.mov (.t 4)), qo 13 (.mov (.t 5)), qo 14 (.bin .add (.t 12) (.t 13)), qo 15 (.mov (.t 0)), qo 16 (.len (.t 15)), qo 17 (.bin .lss (.t 14) (.t 16)), qo 18 (.mov (.t 17)), ⟨(some 19), (.mov (.t 0)), (some (18, true)), false⟩, ⟨(some 20), (.mov (.t 4)), (some (18, true)), false⟩, ⟨(some 21), (.mov (.t 5)), (some (18, true)), false⟩, ⟨(some 22), (.bin .add (.t 20) (.t 21)), (some (18, true)), false⟩, ⟨(some 23), (.iaddr 7 (.t 19) (.t 22)), (some (18, true)), false⟩, ⟨(some 24), (.faddr 0 (.t 23)), (some (18, true)), false⟩, ⟨(some 25), (.load none (.t 24)), (some (18, true)), false⟩, ⟨(some 26), (.bin .eql (.t 25) (ci 18)), (some (18, true)), false⟩, qo 27 (.pick (.t 18) (.t 26) (.c (.d (.bool false))))]
def Jqkk (p : Nums) : IC := (.region (Jqkt p) [])
@[simp] theorem Jekk {p : Nums} : EqI (Jqkk p) (.region (Jqkt p) []) := eqi
@[simp] def Jqku (p : Nums) : List IOp := [qo 28 (.mov (.t 5)), qo 29 (.bin .add (.t 28) (ci 1)), qo 5 (.asg (.t 29))]
def Jqkl (p : Nums) : IC := (.region (Jqku p) [])
@[simp] theorem Jekl {p : Nums} : EqI (Jqkl p) (.region (Jqku p) []) := eqi
def Jqkm (p : Nums) : IC := (.seq (.seq (Jqkk p) (.cond (.t 27) .skip (.exit 2))) (.block 3 (Jqkl p)))
@[simp] theorem Jekm {p : Nums} : EqI (Jqkm p) (.seq (.seq (Jqkk p) (.cond (.t 27) .skip (.exit 2))) (.block 3 (Jqkl p))) := eqi
@[simp] def Jqkv (p : Nums) : List IOp := [qo 30 (.mov (.t 5)), qo 31 (.mov (.t 3)), qo 32 (.bin .gtr (.t 30) (.t 31))]
def Jqkn (p : Nums) : IC := (.region (Jqkv p) [])
@[simp] theorem Jekn {p : Nums} : EqI (Jqkn p) (.region (Jqkv p) []) := eqi
@[simp] def Jqkw (p : Nums) : List IOp := [qo 33 (.mov (.t 5)), qo 3 (.asg (.t 33))]
def Jqko (p : Nums) : IC := (.region (Jqkw p) [])
@[simp] theorem Jeko {p : Nums} : EqI (Jqko p) (.region (Jqkw p) []) := eqi
def Jqkp (p : Nums) : IC := (.seq (.region [⟨(some 5), (.asg (.c (.d (.int .i64 0)))), none, false⟩] []) (.seq (.block 2 (.loop (Jqkm p))) (.seq (Jqkn p) (.cond (.t 32) (Jqko p) .skip))))
@[simp] theorem Jekp {p : Nums} : EqI (Jqkp p) (.seq (.region [⟨(some 5), (.asg (.c (.d (.int .i64 0)))), none, false⟩] []) (.seq (.block 2 (.loop (Jqkm p))) (.seq (Jqkn p) (.cond (.t 32) (Jqko p) .skip)))) := eqi
@[simp] def Jqkx (p : Nums) : List IOp := [qo 10 (.mov (.t 4)), qo 11 (.bin .add (.t 10) (ci 1)), qo 4 (.asg (.t 11))]
def Jqkq (p : Nums) : IC := (.region (Jqkx p) [])
@[simp] theorem Jekq {p : Nums} : EqI (Jqkq p) (.region (Jqkx p) []) := eqi
def Jqkr (p : Nums) : IC := (.seq (.seq (Jqkj p) (.cond (.t 9) .skip (.exit 0))) (.seq (.block 1 (Jqkp p)) (Jqkq p)))
@[simp] theorem Jekr {p : Nums} : EqI (Jqkr p) (.seq (.seq (Jqkj p) (.cond (.t 9) .skip (.exit 0))) (.seq (.block 1 (Jqkp p)) (Jqkq p))) := eqi
def Jtc0 (p : Nums) : IC := (.seq (.region [⟨(some 2), (.asg (.c (.d (.int .i64 0)))), none, false⟩] []) (.seq (.region [⟨(some 3), (.asg (.c (.d (.int .i64 0)))), none, false⟩] []) (.seq (.seq (.region [⟨(some 4), (.asg (.c (.d (.int .i64 0)))), none, false⟩] []) (.block 0 (.loop (Jqkr p)))) (.seq (.region [⟨(some 34), (.mov (.t 3)), none, false⟩, ⟨(some 2), (.asg (.t 34)), none, false⟩] []) .ret))))
def Jqfb (p : Nums) : IC := (.seq (.region [⟨(some 6), (.asg (.c (.d (.bool false)))), none, false⟩] []) .ret)
@[simp] theorem Jefb {p : Nums} : EqI (Jqfb p) (.seq (.region [⟨(some 6), (.asg (.c (.d (.bool false)))), none, false⟩] []) .ret) := eqi
@[simp] def Jqff (p : Nums) : List IOp := [qo 9 (.mov (.t 0)), qo 10 (.bin .rem (.t 9) (ci 2)), qo 11 (.bin .eql (.t 10) (ci 1))]
def Jqfc (p : Nums) : IC := (.region (Jqff p) [])
@[simp] theorem Jefc {p : Nums} : EqI (Jqfc p) (.region (Jqff p) []) := eqi
@[simp] def Jqfg (p : Nums) : List IOp := [qo 12 (.mov (.t 0)), qo 13 (.bin .quo (.t 12) (ci 2)), qo 14 (.mov (.t 2)), qo 15 (.bin .lss (.t 13) (.t 14)), qo 6 (.asg (.t 15))]
def Jqfd (p : Nums) : IC := (.region (Jqfg p) [])
@[simp] theorem Jefd {p : Nums} : EqI (Jqfd p) (.region (Jqfg p) []) := eqi
@[simp] def Jqfh (p : Nums) : List IOp := [qo 16 (.mov (.t 0)), qo 17 (.bin .quo (.t 16) (ci 2)), qo 18 (.mov (.t 1)), qo 19 (.bin .lss (.t 17) (.t 18)), qo 6 (.asg (.t 19))]
def Jqfe (p : Nums) : IC := (.region (Jqfh p) [])
@[simp] theorem Jefe {p : Nums} : EqI (Jqfe p) (.region (Jqfh p) []) := eqi
def Jtbl (p : Nums) : IC := (.seq (.region [⟨(some 6), (.asg (.c (.d (.bool false)))), none, false⟩] []) (.seq (.seq (.region [⟨(some 7), (.mov (.t 0)), none, false⟩, ⟨(some 8), (.bin .lss (.t 7) (.c (.d (.int .i64 0)))), none, false⟩] []) (.cond (.t 8) (Jqfb p) .skip)) (.seq (.seq (Jqfc p) (.cond (.t 11) (.seq (Jqfd p) .ret) .skip)) (.seq (Jqfe p) .ret))))
@[simp] def Jqls (p : Nums) : List IOp := [qo 2 (.box (.t 0)), qo 3 (.box (.t 1)), qo 4 (.asg (.c (.d (.bool false))))]
def Jqlo (p : Nums) : IC := (.region (Jqls p) [])
@[simp] theorem Jelo {p : Nums} : EqI (Jqlo p) (.region (Jqls p) []) := eqi
@[simp] def Jqlt (p : Nums) : List IOp := [qo 5 (.faddr 0 (.t 2)), qo 6 (.load none (.t 5)), qo 7 (.faddr 0 (.t 3)), qo 8 (.load none (.t 7)), qo 9 (.bin .neq (.t 6) (.t 8))]
def Jqlp (p : Nums) : IC := (.region (Jqlt p) [])
@[simp] theorem Jelp {p : Nums} : EqI (Jqlp p) (.region (Jqlt p) []) := eqi
@[simp] def Jqlu (p : Nums) : List IOp := [qo 10 (.faddr 0 (.t 2)), qo 11 (.load none (.t 10)), qo 12 (.faddr 0 (.t 3)), qo 13 (.load none (.t 12)), qo 14 (.bin .lss (.t 11) (.t 13)), qo 4 (.asg (.t 14))]
def Jqlq (p : Nums) : IC := (.region (Jqlu p) [])
@[simp] theorem Jelq {p : Nums} : EqI (Jqlq p) (.region (Jqlu p) []) := eqi
@[simp] def Jqlv (p : Nums) : List IOp := [qo 15 (.faddr 1 (.t 2)), qo 16 (.load none (.t 15)), qo 17 (.faddr 1 (.t 3)), qo 18 (.load none (.t 17)), qo 19 (.bin .lss (.t 16) (.t 18)), qo 4 (.asg (.t 19))]
def Jqlr (p : Nums) : IC := (.region (Jqlv p) [])
@[simp] theorem Jelr {p : Nums} : EqI (Jqlr p) (.region (Jqlv p) []) := eqi
def Jtc3 (p : Nums) : IC := (.seq (Jqlo p) (.seq (.seq (Jqlp p) (.cond (.t 9) (.seq (Jqlq p) .ret) .skip)) (.seq (Jqlr p) .ret)))
@[simp] def Jq5x (p : Nums) : List IOp := [qo 4 (.alloc [(zi 0), (zi 0)]), qo 5 (.asg (ci 0))]
def Jq5p (p : Nums) : IC := (.region (Jq5x p) [])
@[simp] theorem Je5p {p : Nums} : EqI (Jq5p p) (.region (Jq5x p) []) := eqi
@[simp] def Jq5y (p : Nums) : List IOp := [qo 8 (.mov (.t 0)), qo 9 (.len (.t 8)), qo 10 (.mov (ci 0))]
def Jq5q (p : Nums) : IC := (.region (Jq5y p) [])
@[simp] theorem Je5q {p : Nums} : EqI (Jq5q p) (.region (Jq5y p) []) := eqi
@[simp] def Jq5z (p : Nums) : List IOp := [qo 12 (.iaddr 2 (.t 8) (.t 10)), qo 13 (.load (some 2) (.t 12)), qo 7 (.alloc [(zi 0), (zi 0)]), qn (.store 2 (.t 7) (.t 13))]
def Jq5r (p : Nums) : IC := (.region (Jq5z p) [])
@[simp] theorem Je5r {p : Nums} : EqI (Jq5r p) (.region (Jq5z p) []) := eqi
@[simp] def Jq60 (p : Nums) : List IOp := [qo 14 (.load (some 2) (.t 7)), qo 15 (.mov (.t 1)), qo 16 (.call p.edge_Initial [(.t 14), (.t 15)]), qo 17 (.un .not (.t 16))]
def Jq5s (p : Nums) : IC := (.region (Jq60 p) [])
@[simp] theorem Je5s {p : Nums} : EqI (Jq5s p) (.region (Jq60 p) []) := eqi
@[simp] def Jq61 (p : Nums) : List IOp := [qo 18 (.load (some 2) (.t 7)), qn (.store 2 (.t 4) (.t 18)), qo 5 (.asg (ci 23))]
def Jq5t (p : Nums) : IC := (.region (Jq61 p) [])
@[simp] theorem Je5t {p : Nums} : EqI (Jq5t p) (.region (Jq61 p) []) := eqi
def Jq5u (p : Nums) : IC := (.seq (Jq5r p) (.seq (Jq5s p) (.cond (.t 17) (.seq (Jq5t p) .ret) .skip)))
@[simp] theorem Je5u {p : Nums} : EqI (Jq5u p) (.seq (Jq5r p) (.seq (Jq5s p) (.cond (.t 17) (.seq (Jq5t p) .ret) .skip))) := eqi
def Jq5v (p : Nums) : IC := (.seq (.region [⟨(some 11), (.bin .lss (.t 10) (.t 9)), none, false⟩] []) (.seq (.cond (.t 11) .skip (.exit 0)) (.seq (.block 1 (Jq5u p)) (.region [⟨(some 19), (.bin .add (.t 10) (.c (.d (.int .i64 1)))), none, false⟩, ⟨(some 10), (.mov (.t 19)), none, false⟩] []))))
@[simp] theorem Je5v {p : Nums} : EqI (Jq5v p) (.seq (.region [⟨(some 11), (.bin .lss (.t 10) (.t 9)), none, false⟩] []) (.seq (.cond (.t 11) .skip (.exit 0)) (.seq (.block 1 (Jq5u p)) (.region [⟨(some 19), (.bin .add (.t 10) (.c (.d (.int .i64 1)))), none, false⟩, ⟨(some 10), (.mov (.t 19)), none, false⟩] [])))) := eqi
@[simp] def Jq62 (p : Nums) : List IOp := [qo 20 (.build [(zi 0), (zi 0)] []), qn (.store 2 (.t 4) (.t 20)), qo 5 (.asg (ci 0))]
def Jq5w (p : Nums) : IC := (.region (Jq62 p) [])
@[simp] theorem Je5w {p : Nums} : EqI (Jq5w p) (.region (Jq62 p) []) := eqi
def Jtai (p : Nums) : IC := (.seq (Jq5p p) (.seq (.seq (Jq5q p) (.block 0 (.loop (Jq5v p)))) (.seq (Jq5w p) .ret)))
@[simp] def Jqc (p : Nums) : List IOp := [qo 4 (.asg (.c .nils)), qo 5 (.asg (ci 0)), qo 6 (.asg (ci 0))]
def Jq0 (p : Nums) : IC := (.region (Jqc p) [])
@[simp] theorem Je0 {p : Nums} : EqI (Jq0 p) (.region (Jqc p) []) := eqi
@[simp] def Jqf (p : Nums) : List IOp := [qo 11 (.mov (.t 8)), qo 12 (.mov (.t 0)), qo 13 (.mov (.t 8)), qo 14 (.call p.align_skip_Instr [(.t 12), (.t 13), (.c (.fn (.func p.align_copied) [] []))]), qo 15 (.mov (.t 9)), qo 16 (.mov (.t 1)), qo 17 (.mov (.t 9)), qo 18 (.call p.align_skip_Mach [(.t 16), (.t 17), (.c (.fn (.func p.align_moved) [] []))]), qo 19 (.build [(zi 0), (zi 0), (zi 0), (zi 0), (zi 0), (zi 0)] [(0, 1, (.t 11)), (1, 1, (.t 14)), (2, 1, (.t 15)), (3, 1, (.t 18))]), qo 10 (.alloc [(zi 0), (zi 0), (zi 0), (zi 0), (zi 0), (zi 0)]), qn (.store 6 (.t 10) (.t 19))]
def Jq4 (p : Nums) : IC := (.region (Jqf p) [])
@[simp] theorem Je4 {p : Nums} : EqI (Jq4 p) (.region (Jqf p) []) := eqi
@[simp] def Jqg (p : Nums) : List IOp := [qp 20 (.faddr 1 (.t 10)), qp 21 (.load none (.t 20)), qp 22 (.faddr 3 (.t 10)), qp 23 (.load none (.t 22)), qp 8 (.asg (.t 21)), qo 9 (.asg (.t 23))]
def Jq5 (p : Nums) : IC := (.region (Jqg p) [])
@[simp] theorem Je5 {p : Nums} : EqI (Jq5 p) (.region (Jqg p) []) := eqi
@[simp] def Jqh (p : Nums) : List IOp := [qo 24 (.mov (.t 8)), qo 25 (.mov (.t 0)), qo 26 (.len (.t 25)), qo 27 (.bin .eql (.t 24) (.t 26)), qo 28 (.mov (.t 27)), ⟨(some 29), (.mov (.t 9)), (some (28, true)), false⟩, ⟨(some 30), (.mov (.t 1)), (some (28, true)), false⟩, ⟨(some 31), (.len (.t 30)), (some (28, true)), false⟩, ⟨(some 32), (.bin .eql (.t 29) (.t 31)), (some (28, true)), false⟩, qo 33 (.pick (.t 28) (.t 32) (.c (.d (.bool false))))]
def Jq6 (p : Nums) : IC := (.region (Jqh p) [])
@[simp] theorem Je6 {p : Nums} : EqI (Jq6 p) (.region (Jqh p) []) := eqi
@[simp] def Jqi (p : Nums) : List IOp := [qo 34 (.faddr 4 (.t 10)), qn (.store 1 (.t 34) (ci (-1))), qo 35 (.faddr 5 (.t 10)), qn (.store 1 (.t 35) (ci (-1)))]
def Jq7 (p : Nums) : IC := (.region (Jqi p) [])
@[simp] theorem Je7 {p : Nums} : EqI (Jq7 p) (.region (Jqi p) []) := eqi
@[simp] def Jqj (p : Nums) : List IOp := [qo 36 (.mov (.t 7)), qo 37 (.load (some 6) (.t 10)), qo 38 (.bslice 6 1 [(.int .i64 0), (.int .i64 0), (.int .i64 0), (.int .i64 0), (.int .i64 0), (.int .i64 0)] [(0, (.t 37))]), qo 39 (.app 6 48 (.t 36) (.t 38)), qo 40 (.mov (.t 9)), qo 4 (.asg (.t 39)), qo 5 (.asg (.t 40)), qo 6 (.asg (ci 0))]
def Jq8 (p : Nums) : IC := (.region (Jqj p) [])
@[simp] theorem Je8 {p : Nums} : EqI (Jq8 p) (.region (Jqj p) []) := eqi
@[simp] def Jqk (p : Nums) : List IOp := [qp 41 (.mov (.t 8)), qp 42 (.mov (.t 0)), qp 43 (.len (.t 42)), qo 44 (.bin .eql (.t 41) (.t 43)), qo 45 (.mov (.t 44)), ⟨(some 46), (.mov (.t 9)), (some (45, false)), true⟩, ⟨(some 47), (.mov (.t 1)), (some (45, false)), true⟩, ⟨(some 48), (.len (.t 47)), (some (45, false)), true⟩, ⟨(some 49), (.bin .eql (.t 46) (.t 48)), (some (45, false)), false⟩, qo 50 (.pick (.t 45) (.c (.d (.bool true))) (.t 49)), qo 51 (.mov (.t 50)), ⟨(some 52), (.mov (.t 0)), (some (51, false)), true⟩, ⟨(some 53), (.mov (.t 8)), (some (51, false)), true⟩, ⟨(some 54), (.iaddr 5 (.t 52) (.t 53)), (some (51, false)), true⟩, ⟨(some 55), (.load (some 5) (.t 54)), (some (51, false)), true⟩, ⟨(some 56), (.mov (.t 1)), (some (51, false)), true⟩, ⟨(some 57), (.mov (.t 9)), (some (51, false)), true⟩, ⟨(some 58), (.iaddr 7 (.t 56) (.t 57)), (some (51, false)), true⟩, ⟨(some 59), (.load (some 7) (.t 58)), (some (51, false)), true⟩, ⟨(some 60), (.call p.align_Same [(.t 55), (.t 59)]), (some (51, false)), false⟩, ⟨(some 61), (.un .not (.t 60)), (some (51, false)), false⟩, qo 62 (.pick (.t 51) (.c (.d (.bool true))) (.t 61))]
def Jq9 (p : Nums) : IC := (.region (Jqk p) [])
@[simp] theorem Je9 {p : Nums} : EqI (Jq9 p) (.region (Jqk p) []) := eqi
@[simp] def Jql (p : Nums) : List IOp := [qo 63 (.mov (.t 9)), qo 4 (.asg (.c .nils)), qo 5 (.asg (.t 63)), qo 6 (.asg (ci 20))]
def Jqa (p : Nums) : IC := (.region (Jql p) [])
@[simp] theorem Jea {p : Nums} : EqI (Jqa p) (.region (Jql p) []) := eqi
@[simp] def Jqm (p : Nums) : List IOp := [qo 64 (.mov (.t 8)), qo 65 (.mov (.t 9)), qo 66 (.faddr 4 (.t 10)), qn (.store 1 (.t 66) (.t 64)), qo 67 (.faddr 5 (.t 10)), qn (.store 1 (.t 67) (.t 65))]
def Jqb (p : Nums) : IC := (.region (Jqm p) [])
@[simp] theorem Jeb {p : Nums} : EqI (Jqb p) (.region (Jqm p) []) := eqi
@[simp] def Jqd (p : Nums) : List IOp := [qo 68 (.mov (.t 7)), qo 69 (.load (some 6) (.t 10)), qo 70 (.bslice 6 1 [(.int .i64 0), (.int .i64 0), (.int .i64 0), (.int .i64 0), (.int .i64 0), (.int .i64 0)] [(0, (.t 69))]), qo 71 (.app 6 48 (.t 68) (.t 70)), qo 7 (.asg (.t 71))]
def Jq1 (p : Nums) : IC := (.region (Jqd p) [])
@[simp] theorem Je1 {p : Nums} : EqI (Jq1 p) (.region (Jqd p) []) := eqi
@[simp] def Jqe (p : Nums) : List IOp := [qo 72 (.mov (.t 8)), qo 73 (.bin .add (.t 72) (ci 1)), qo 74 (.mov (.t 9)), qo 75 (.bin .add (.t 74) (ci 1)), qo 8 (.asg (.t 73)), qo 9 (.asg (.t 75))]
def Jq2 (p : Nums) : IC := (.region (Jqe p) [])
@[simp] theorem Je2 {p : Nums} : EqI (Jq2 p) (.region (Jqe p) []) := eqi
def Jq3 (p : Nums) : IC := (.seq (Jq4 p) (.seq (Jq5 p) (.seq (.seq (Jq6 p) (.cond (.t 33) (.seq (Jq7 p) (.seq (Jq8 p) .ret)) .skip)) (.seq (.seq (Jq9 p) (.cond (.t 62) (.seq (Jqa p) .ret) .skip)) (.seq (Jqb p) (.seq (Jq1 p) (Jq2 p)))))))
@[simp] theorem Je3 {p : Nums} : EqI (Jq3 p) (.seq (Jq4 p) (.seq (Jq5 p) (.seq (.seq (Jq6 p) (.cond (.t 33) (.seq (Jq7 p) (.seq (Jq8 p) .ret)) .skip)) (.seq (.seq (Jq9 p) (.cond (.t 62) (.seq (Jqa p) .ret) .skip)) (.seq (Jqb p) (.seq (Jq1 p) (Jq2 p))))))) := eqi
def Jt9y (p : Nums) : IC := (.seq (Jq0 p) (.seq (.region [⟨(some 7), (.asg (.c .nils)), none, false⟩] []) (.seq (.region [⟨(some 8), (.asg (.c (.d (.int .i64 0)))), none, false⟩, ⟨(some 9), (.asg (.c (.d (.int .i64 0)))), none, false⟩] []) (.block 0 (.loop (.block 1 (Jq3 p)))))))
@[simp] def Jqt (p : Nums) : List IOp := [qo 2 (.box (.t 0)), qo 3 (.box (.t 1)), qo 4 (.asg (.c (.d (.bool false))))]
def Jqr (p : Nums) : IC := (.region (Jqt p) [])
@[simp] theorem Jer {p : Nums} : EqI (Jqr p) (.region (Jqt p) []) := eqi
@[simp] def Jqu (p : Nums) : List IOp := [qo 5 (.faddr 0 (.t 2)), qo 6 (.load none (.t 5)), qo 7 (.faddr 0 (.t 3)), qo 8 (.load none (.t 7)), qo 9 (.bin .eql (.t 6) (.t 8)), qo 10 (.mov (.t 9)), ⟨(some 11), (.faddr 2 (.t 2)), (some (10, true)), false⟩, ⟨(some 12), (.load none (.t 11)), (some (10, true)), false⟩, ⟨(some 13), (.faddr 2 (.t 3)), (some (10, true)), false⟩, ⟨(some 14), (.load none (.t 13)), (some (10, true)), false⟩, ⟨(some 15), (.bin .eql (.t 12) (.t 14)), (some (10, true)), false⟩, qo 16 (.pick (.t 10) (.t 15) (.c (.d (.bool false)))), qo 17 (.mov (.t 16)), ⟨(some 18), (.faddr 3 (.t 2)), (some (17, true)), false⟩, ⟨(some 19), (.load none (.t 18)), (some (17, true)), false⟩, ⟨(some 20), (.faddr 3 (.t 3)), (some (17, true)), false⟩, ⟨(some 21), (.load none (.t 20)), (some (17, true)), false⟩, ⟨(some 22), (.bin .eql (.t 19) (.t 21)), (some (17, true)), false⟩, qo 23 (.pick (.t 17) (.t 22) (.c (.d (.bool false)))), qo 4 (.asg (.t 23))]
def Jqs (p : Nums) : IC := (.region (Jqu p) [])
@[simp] theorem Jes {p : Nums} : EqI (Jqs p) (.region (Jqu p) []) := eqi
def Jta0 (p : Nums) : IC := (.seq (Jqr p) (.seq (Jqs p) .ret))
@[simp] def Jqdb (p : Nums) : List IOp := [qo 4 (.mov (.t 0)), qo 5 (.call p.slices_Clone_Pair [(.t 4)]), qo 3 (.asg (.t 5))]
def Jqd8 (p : Nums) : IC := (.region (Jqdb p) [])
@[simp] theorem Jed8 {p : Nums} : EqI (Jqd8 p) (.region (Jqdb p) []) := eqi
@[simp] def Jqdc (p : Nums) : List IOp := [qo 6 (.mov (.t 3)), qo 7 (.call p.slices_SortFunc_Pair [(.t 6), (.c (.fn (.func p.pairset_compare) [] []))])]
def Jqd9 (p : Nums) : IC := (.region (Jqdc p) [])
@[simp] theorem Jed9 {p : Nums} : EqI (Jqd9 p) (.region (Jqdc p) []) := eqi
@[simp] def Jqdd (p : Nums) : List IOp := [qo 8 (.mov (.t 3)), qo 9 (.call p.slices_Compact_Pair [(.t 8)]), qo 2 (.asg (.t 9))]
def Jqda (p : Nums) : IC := (.region (Jqdd p) [])
@[simp] theorem Jeda {p : Nums} : EqI (Jqda p) (.region (Jqdd p) []) := eqi
def Jtbg (p : Nums) : IC := (.seq (.region [⟨(some 2), (.asg (.c .nils)), none, false⟩] []) (.seq (Jqd8 p) (.seq (Jqd9 p) (.seq (Jqda p) .ret))))
@[simp] def Jqdp (p : Nums) : List IOp := [qo 4 (.alloc [(zi 0), (zi 0)]), qo 5 (.asg (.c (.d (.bool false))))]
def Jqde (p : Nums) : IC := (.region (Jqdp p) [])
@[simp] theorem Jede {p : Nums} : EqI (Jqde p) (.region (Jqdp p) []) := eqi
@[simp] def Jqdr (p : Nums) : List IOp := [qo 9 (.mov (.t 0)), qo 10 (.len (.t 9)), qo 11 (.mov (ci 0))]
def Jqdh (p : Nums) : IC := (.region (Jqdr p) [])
@[simp] theorem Jedh {p : Nums} : EqI (Jqdh p) (.region (Jqdr p) []) := eqi
@[simp] def Jqds (p : Nums) : List IOp := [qo 13 (.iaddr 2 (.t 9) (.t 11)), qo 14 (.load (some 2) (.t 13)), qo 8 (.alloc [(zi 0), (zi 0)]), qn (.store 2 (.t 8) (.t 14))]
def Jqdi (p : Nums) : IC := (.region (Jqds p) [])
@[simp] theorem Jedi {p : Nums} : EqI (Jqdi p) (.region (Jqds p) []) := eqi
@[simp] def Jqdt (p : Nums) : List IOp := [qp 15 (.mov (.t 6)), qp 16 (.mov (.t 1)), qp 17 (.len (.t 16)), qo 18 (.bin .lss (.t 15) (.t 17)), qo 19 (.mov (.t 18)), ⟨(some 20), (.mov (.t 1)), (some (19, true)), true⟩, ⟨(some 21), (.mov (.t 6)), (some (19, true)), true⟩, ⟨(some 22), (.iaddr 2 (.t 20) (.t 21)), (some (19, true)), true⟩, ⟨(some 23), (.load (some 2) (.t 22)), (some (19, true)), true⟩, ⟨(some 24), (.load (some 2) (.t 8)), (some (19, true)), true⟩, ⟨(some 25), (.call p.pairset_Less [(.t 23), (.t 24)]), (some (19, true)), false⟩, qo 26 (.pick (.t 19) (.t 25) (.c (.d (.bool false))))]
def Jqdj (p : Nums) : IC := (.region (Jqdt p) [])
@[simp] theorem Jedj {p : Nums} : EqI (Jqdj p) (.region (Jqdt p) []) := eqi
@[simp] def Jqdu (p : Nums) : List IOp := [qo 27 (.mov (.t 6)), qo 28 (.bin .add (.t 27) (ci 1)), qo 6 (.asg (.t 28))]
def Jqdk (p : Nums) : IC := (.region (Jqdu p) [])
@[simp] theorem Jedk {p : Nums} : EqI (Jqdk p) (.region (Jqdu p) []) := eqi
def Jqdl (p : Nums) : IC := (.seq (.seq (Jqdj p) (.cond (.t 26) .skip (.exit 2))) (.block 3 (Jqdk p)))
@[simp] theorem Jedl {p : Nums} : EqI (Jqdl p) (.seq (.seq (Jqdj p) (.cond (.t 26) .skip (.exit 2))) (.block 3 (Jqdk p))) := eqi
@[simp] def Jqdv (p : Nums) : List IOp := [qp 29 (.mov (.t 6)), qp 30 (.mov (.t 1)), qp 31 (.len (.t 30)), qo 32 (.bin .eql (.t 29) (.t 31)), qo 33 (.mov (.t 32)), ⟨(some 34), (.mov (.t 1)), (some (33, false)), true⟩, ⟨(some 35), (.mov (.t 6)), (some (33, false)), true⟩, ⟨(some 36), (.iaddr 2 (.t 34) (.t 35)), (some (33, false)), true⟩, ⟨(some 37), (.load (some 2) (.t 36)), (some (33, false)), true⟩, ⟨(some 38), (.load (some 2) (.t 8)), (some (33, false)), true⟩, ⟨(some 39), (.eqs true [.int, .int] (.t 37) (.t 38)), (some (33, false)), false⟩, qo 40 (.pick (.t 33) (.c (.d (.bool true))) (.t 39))]
def Jqdm (p : Nums) : IC := (.region (Jqdv p) [])
@[simp] theorem Jedm {p : Nums} : EqI (Jqdm p) (.region (Jqdv p) []) := eqi
@[simp] def Jqdw (p : Nums) : List IOp := [qo 41 (.load (some 2) (.t 8)), qn (.store 2 (.t 4) (.t 41)), qo 5 (.asg (.c (.d (.bool true))))]
def Jqdn (p : Nums) : IC := (.region (Jqdw p) [])
@[simp] theorem Jedn {p : Nums} : EqI (Jqdn p) (.region (Jqdw p) []) := eqi
def Jqdo (p : Nums) : IC := (.seq (Jqdi p) (.seq (.block 2 (.loop (Jqdl p))) (.seq (Jqdm p) (.cond (.t 40) (.seq (Jqdn p) .ret) .skip))))
@[simp] theorem Jedo {p : Nums} : EqI (Jqdo p) (.seq (Jqdi p) (.seq (.block 2 (.loop (Jqdl p))) (.seq (Jqdm p) (.cond (.t 40) (.seq (Jqdn p) .ret) .skip)))) := eqi
def Jqdf (p : Nums) : IC := (.seq (.region [⟨(some 12), (.bin .lss (.t 11) (.t 10)), none, false⟩] []) (.seq (.cond (.t 12) .skip (.exit 0)) (.seq (.block 1 (Jqdo p)) (.region [⟨(some 42), (.bin .add (.t 11) (.c (.d (.int .i64 1)))), none, false⟩, ⟨(some 11), (.mov (.t 42)), none, false⟩] []))))
@[simp] theorem Jedf {p : Nums} : EqI (Jqdf p) (.seq (.region [⟨(some 12), (.bin .lss (.t 11) (.t 10)), none, false⟩] []) (.seq (.cond (.t 12) .skip (.exit 0)) (.seq (.block 1 (Jqdo p)) (.region [⟨(some 42), (.bin .add (.t 11) (.c (.d (.int .i64 1)))), none, false⟩, ⟨(some 11), (.mov (.t 42)), none, false⟩] [])))) := eqi
@[simp] def Jqdq (p : Nums) : List IOp := [qo 43 (.build [(zi 0), (zi 0)] []), qn (.store 2 (.t 4) (.t 43)), qo 5 (.asg (.c (.d (.bool false))))]
def Jqdg (p : Nums) : IC := (.region (Jqdq p) [])
@[simp] theorem Jedg {p : Nums} : EqI (Jqdg p) (.region (Jqdq p) []) := eqi
def Jtbh (p : Nums) : IC := (.seq (Jqde p) (.seq (.region [⟨(some 6), (.asg (.c (.d (.int .i64 0)))), none, false⟩] []) (.seq (.seq (Jqdh p) (.block 0 (.loop (Jqdf p)))) (.seq (Jqdg p) .ret))))
@[simp] def Jqoc (p : Nums) : List IOp := [qo 5 (.mov (.t 4)), qo 6 (.mov (.t 0)), qo 7 (.len (.t 6)), qo 8 (.bin .lss (.t 5) (.t 7))]
def Jqo6 (p : Nums) : IC := (.region (Jqoc p) [])
@[simp] theorem Jeo6 {p : Nums} : EqI (Jqo6 p) (.region (Jqoc p) []) := eqi
@[simp] def Jqod (p : Nums) : List IOp := [qo 11 (.mov (.t 0)), qo 12 (.mov (.t 4)), qo 13 (.iaddr 5 (.t 11) (.t 12)), qo 14 (.faddr 0 (.t 13)), qo 15 (.load none (.t 14)), qo 16 (.bin .neq (.t 15) (ci 2))]
def Jqo7 (p : Nums) : IC := (.region (Jqod p) [])
@[simp] theorem Jeo7 {p : Nums} : EqI (Jqo7 p) (.region (Jqod p) []) := eqi
@[simp] def Jqoe (p : Nums) : List IOp := [qo 17 (.mov (.t 3)), qo 18 (.mov (.t 4)), qo 19 (.bslice 1 1 [(.int .i64 0)] [(0, (.t 18))]), qo 20 (.app 1 8 (.t 17) (.t 19)), qo 3 (.asg (.t 20))]
def Jqo8 (p : Nums) : IC := (.region (Jqoe p) [])
@[simp] theorem Jeo8 {p : Nums} : EqI (Jqo8 p) (.region (Jqoe p) []) := eqi
def Jqo9 (p : Nums) : IC := (.seq (Jqo7 p) (.cond (.t 16) (Jqo8 p) .skip))
@[simp] theorem Jeo9 {p : Nums} : EqI (Jqo9 p) (.seq (Jqo7 p) (.cond (.t 16) (Jqo8 p) .skip)) := eqi
@[simp] def Jqof (p : Nums) : List IOp := [qo 9 (.mov (.t 4)), qo 10 (.bin .add (.t 9) (ci 1)), qo 4 (.asg (.t 10))]
def Jqoa (p : Nums) : IC := (.region (Jqof p) [])
@[simp] theorem Jeoa {p : Nums} : EqI (Jqoa p) (.region (Jqof p) []) := eqi
def Jqob (p : Nums) : IC := (.seq (.seq (Jqo6 p) (.cond (.t 8) .skip (.exit 0))) (.seq (.block 1 (Jqo9 p)) (Jqoa p)))
@[simp] theorem Jeob {p : Nums} : EqI (Jqob p) (.seq (.seq (Jqo6 p) (.cond (.t 8) .skip (.exit 0))) (.seq (.block 1 (Jqo9 p)) (Jqoa p))) := eqi
def Jtc9 (p : Nums) : IC := (.seq (.region [⟨(some 2), (.asg (.c .nils)), none, false⟩] []) (.seq (.region [⟨(some 3), (.asg (.c .nils)), none, false⟩] []) (.seq (.seq (.region [⟨(some 4), (.asg (.c (.d (.int .i64 0)))), none, false⟩] []) (.block 0 (.loop (Jqob p)))) (.seq (.region [⟨(some 21), (.mov (.t 3)), none, false⟩, ⟨(some 2), (.asg (.t 21)), none, false⟩] []) .ret))))
@[simp] def Jqom (p : Nums) : List IOp := [qo 5 (.mov (.t 4)), qo 6 (.mov (.t 0)), qo 7 (.len (.t 6)), qo 8 (.bin .lss (.t 5) (.t 7))]
def Jqog (p : Nums) : IC := (.region (Jqom p) [])
@[simp] theorem Jeog {p : Nums} : EqI (Jqog p) (.region (Jqom p) []) := eqi
@[simp] def Jqon (p : Nums) : List IOp := [qo 11 (.mov (.t 0)), qo 12 (.mov (.t 4)), qo 13 (.iaddr 7 (.t 11) (.t 12)), qo 14 (.faddr 0 (.t 13)), qo 15 (.load none (.t 14)), qo 16 (.bin .neq (.t 15) (ci 18))]
def Jqoh (p : Nums) : IC := (.region (Jqon p) [])
@[simp] theorem Jeoh {p : Nums} : EqI (Jqoh p) (.region (Jqon p) []) := eqi
@[simp] def Jqoo (p : Nums) : List IOp := [qo 17 (.mov (.t 3)), qo 18 (.mov (.t 4)), qo 19 (.bslice 1 1 [(.int .i64 0)] [(0, (.t 18))]), qo 20 (.app 1 8 (.t 17) (.t 19)), qo 3 (.asg (.t 20))]
def Jqoi (p : Nums) : IC := (.region (Jqoo p) [])
@[simp] theorem Jeoi {p : Nums} : EqI (Jqoi p) (.region (Jqoo p) []) := eqi
def Jqoj (p : Nums) : IC := (.seq (Jqoh p) (.cond (.t 16) (Jqoi p) .skip))
@[simp] theorem Jeoj {p : Nums} : EqI (Jqoj p) (.seq (Jqoh p) (.cond (.t 16) (Jqoi p) .skip)) := eqi
@[simp] def Jqop (p : Nums) : List IOp := [qo 9 (.mov (.t 4)), qo 10 (.bin .add (.t 9) (ci 1)), qo 4 (.asg (.t 10))]
def Jqok (p : Nums) : IC := (.region (Jqop p) [])
@[simp] theorem Jeok {p : Nums} : EqI (Jqok p) (.region (Jqop p) []) := eqi
def Jqol (p : Nums) : IC := (.seq (.seq (Jqog p) (.cond (.t 8) .skip (.exit 0))) (.seq (.block 1 (Jqoj p)) (Jqok p)))
@[simp] theorem Jeol {p : Nums} : EqI (Jqol p) (.seq (.seq (Jqog p) (.cond (.t 8) .skip (.exit 0))) (.seq (.block 1 (Jqoj p)) (Jqok p))) := eqi
def Jtca (p : Nums) : IC := (.seq (.region [⟨(some 2), (.asg (.c .nils)), none, false⟩] []) (.seq (.region [⟨(some 3), (.asg (.c .nils)), none, false⟩] []) (.seq (.seq (.region [⟨(some 4), (.asg (.c (.d (.int .i64 0)))), none, false⟩] []) (.block 0 (.loop (Jqol p)))) (.seq (.region [⟨(some 21), (.mov (.t 3)), none, false⟩, ⟨(some 2), (.asg (.t 21)), none, false⟩] []) .ret))))
@[simp] def Jqos (p : Nums) : List IOp := [qo 2 (.box (.t 0)), qo 3 (.box (.t 1)), qo 4 (.asg (.c (.d (.bool false))))]
def Jqoq (p : Nums) : IC := (.region (Jqos p) [])
@[simp] theorem Jeoq {p : Nums} : EqI (Jqoq p) (.region (Jqos p) []) := eqi
@[simp] def Jqot (p : Nums) : List IOp := [qo 5 (.faddr 0 (.t 2)), qo 6 (.load none (.t 5)), qo 7 (.bin .neq (.t 6) (ci 2)), qo 8 (.mov (.t 7)), ⟨(some 9), (.faddr 0 (.t 2)), (some (8, true)), false⟩, ⟨(some 10), (.load none (.t 9)), (some (8, true)), false⟩, ⟨(some 11), (.bin .neq (.t 10) (ci 18)), (some (8, true)), false⟩, qo 12 (.pick (.t 8) (.t 11) (.c (.d (.bool false)))), qo 13 (.mov (.t 12)), ⟨(some 14), (.faddr 0 (.t 2)), (some (13, true)), false⟩, ⟨(some 15), (.load none (.t 14)), (some (13, true)), false⟩, ⟨(some 16), (.faddr 0 (.t 3)), (some (13, true)), false⟩, ⟨(some 17), (.load none (.t 16)), (some (13, true)), false⟩, ⟨(some 18), (.bin .eql (.t 15) (.t 17)), (some (13, true)), false⟩, qo 19 (.pick (.t 13) (.t 18) (.c (.d (.bool false)))), qo 20 (.mov (.t 19)), ⟨(some 21), (.faddr 4 (.t 2)), (some (20, true)), false⟩, ⟨(some 22), (.load none (.t 21)), (some (20, true)), false⟩, ⟨(some 23), (.faddr 4 (.t 3)), (some (20, true)), false⟩, ⟨(some 24), (.load none (.t 23)), (some (20, true)), false⟩, ⟨(some 25), (.bin .eql (.t 22) (.t 24)), (some (20, true)), false⟩, qo 26 (.pick (.t 20) (.t 25) (.c (.d (.bool false)))), qo 4 (.asg (.t 26))]
def Jqor (p : Nums) : IC := (.region (Jqot p) [])
@[simp] theorem Jeor {p : Nums} : EqI (Jqor p) (.region (Jqot p) []) := eqi
def Jtcb (p : Nums) : IC := (.seq (Jqoq p) (.seq (Jqor p) .ret))
@[simp] def Jql8 (p : Nums) : List IOp := [qo 8 (.mov (.t 7)), qo 9 (.mov (.t 0)), qo 10 (.len (.t 9)), qo 11 (.bin .lss (.t 8) (.t 10))]
def Jqky (p : Nums) : IC := (.region (Jql8 p) [])
@[simp] theorem Jeky {p : Nums} : EqI (Jqky p) (.region (Jql8 p) []) := eqi
@[simp] def Jqla (p : Nums) : List IOp := [qo 14 (.mov (.t 6)), qo 15 (.un .not (.t 14)), qo 16 (.mov (.t 15)), ⟨(some 17), (.mov (.t 0)), (some (16, true)), true⟩, ⟨(some 18), (.mov (.t 7)), (some (16, true)), true⟩, ⟨(some 19), (.iaddr 2 (.t 17) (.t 18)), (some (16, true)), true⟩, ⟨(some 20), (.load (some 2) (.t 19)), (some (16, true)), true⟩, ⟨(some 21), (.load (some 2) (.t 3)), (some (16, true)), true⟩, ⟨(some 22), (.call p.ref11_Less [(.t 20), (.t 21)]), (some (16, true)), false⟩, ⟨(some 23), (.un .not (.t 22)), (some (16, true)), false⟩, qo 24 (.pick (.t 16) (.t 23) (.c (.d (.bool false))))]
def Jql0 (p : Nums) : IC := (.region (Jqla p) [])
@[simp] theorem Jel0 {p : Nums} : EqI (Jql0 p) (.region (Jqla p) []) := eqi
@[simp] def Jqlb (p : Nums) : List IOp := [qo 25 (.mov (.t 5)), qo 26 (.load (some 2) (.t 3)), qo 27 (.bslice 2 1 [(.int .i64 0), (.int .i64 0)] [(0, (.t 26))]), qo 28 (.app 2 16 (.t 25) (.t 27)), qo 5 (.asg (.t 28))]
def Jql1 (p : Nums) : IC := (.region (Jqlb p) [])
@[simp] theorem Jel1 {p : Nums} : EqI (Jql1 p) (.region (Jqlb p) []) := eqi
def Jql2 (p : Nums) : IC := (.seq (Jql1 p) (.region [⟨(some 6), (.asg (.c (.d (.bool true)))), none, false⟩] []))
@[simp] theorem Jel2 {p : Nums} : EqI (Jql2 p) (.seq (Jql1 p) (.region [⟨(some 6), (.asg (.c (.d (.bool true)))), none, false⟩] [])) := eqi
@[simp] def Jqlc (p : Nums) : List IOp := [qp 29 (.mov (.t 0)), qp 30 (.mov (.t 7)), qp 31 (.iaddr 2 (.t 29) (.t 30)), qp 32 (.load (some 2) (.t 31)), qp 33 (.load (some 2) (.t 3)), qo 34 (.eqs true [.int, .int] (.t 32) (.t 33))]
def Jql3 (p : Nums) : IC := (.region (Jqlc p) [])
@[simp] theorem Jel3 {p : Nums} : EqI (Jql3 p) (.region (Jqlc p) []) := eqi
@[simp] def Jqld (p : Nums) : List IOp := [qo 35 (.mov (.t 5)), qo 36 (.mov (.t 0)), qo 37 (.mov (.t 7)), qo 38 (.iaddr 2 (.t 36) (.t 37)), qo 39 (.load (some 2) (.t 38)), qo 40 (.bslice 2 1 [(.int .i64 0), (.int .i64 0)] [(0, (.t 39))]), qo 41 (.app 2 16 (.t 35) (.t 40)), qo 5 (.asg (.t 41))]
def Jql4 (p : Nums) : IC := (.region (Jqld p) [])
@[simp] theorem Jel4 {p : Nums} : EqI (Jql4 p) (.region (Jqld p) []) := eqi
def Jql5 (p : Nums) : IC := (.seq (.seq (Jql0 p) (.cond (.t 24) (Jql2 p) .skip)) (.seq (Jql3 p) (.cond (.t 34) (Jql4 p) .skip)))
@[simp] theorem Jel5 {p : Nums} : EqI (Jql5 p) (.seq (.seq (Jql0 p) (.cond (.t 24) (Jql2 p) .skip)) (.seq (Jql3 p) (.cond (.t 34) (Jql4 p) .skip))) := eqi
@[simp] def Jqle (p : Nums) : List IOp := [qo 12 (.mov (.t 7)), qo 13 (.bin .add (.t 12) (ci 1)), qo 7 (.asg (.t 13))]
def Jql6 (p : Nums) : IC := (.region (Jqle p) [])
@[simp] theorem Jel6 {p : Nums} : EqI (Jql6 p) (.region (Jqle p) []) := eqi
def Jql7 (p : Nums) : IC := (.seq (.seq (Jqky p) (.cond (.t 11) .skip (.exit 0))) (.seq (.block 1 (Jql5 p)) (Jql6 p)))
@[simp] theorem Jel7 {p : Nums} : EqI (Jql7 p) (.seq (.seq (Jqky p) (.cond (.t 11) .skip (.exit 0))) (.seq (.block 1 (Jql5 p)) (Jql6 p))) := eqi
@[simp] def Jql9 (p : Nums) : List IOp := [qo 44 (.mov (.t 5)), qo 45 (.load (some 2) (.t 3)), qo 46 (.bslice 2 1 [(.int .i64 0), (.int .i64 0)] [(0, (.t 45))]), qo 47 (.app 2 16 (.t 44) (.t 46)), qo 5 (.asg (.t 47))]
def Jqkz (p : Nums) : IC := (.region (Jql9 p) [])
@[simp] theorem Jekz {p : Nums} : EqI (Jqkz p) (.region (Jql9 p) []) := eqi
def Jtc1 (p : Nums) : IC := (.seq (.region [⟨(some 3), (.box (.t 1)), none, false⟩, ⟨(some 4), (.asg (.c .nils)), none, false⟩] []) (.seq (.region [⟨(some 5), (.asg (.c .nils)), none, false⟩] []) (.seq (.region [⟨(some 6), (.asg (.c (.d (.bool false)))), none, false⟩] []) (.seq (.seq (.region [⟨(some 7), (.asg (.c (.d (.int .i64 0)))), none, false⟩] []) (.block 0 (.loop (Jql7 p)))) (.seq (.seq (.region [⟨(some 42), (.mov (.t 6)), none, false⟩, ⟨(some 43), (.un .not (.t 42)), none, false⟩] []) (.cond (.t 43) (Jqkz p) .skip)) (.seq (.region [⟨(some 48), (.mov (.t 5)), none, false⟩, ⟨(some 4), (.asg (.t 48)), none, false⟩] []) .ret))))))
@[simp] def Jqie (p : Nums) : List IOp := [qo 5 (.mov (.t 0)), qo 6 (.bin .geq (.t 5) (ci 0)), qo 7 (.mov (.t 6)), ⟨(some 8), (.mov (.t 0)), (some (7, true)), false⟩, ⟨(some 9), (.mov (.t 1)), (some (7, true)), false⟩, ⟨(some 10), (.bin .lss (.t 8) (.t 9)), (some (7, true)), false⟩, qo 11 (.pick (.t 7) (.t 10) (.c (.d (.bool false)))), qo 4 (.asg (.t 11))]
def Jqid (p : Nums) : IC := (.region (Jqie p) [])
@[simp] theorem Jeid {p : Nums} : EqI (Jqid p) (.region (Jqie p) []) := eqi
def Jtbv (p : Nums) : IC := (.seq (.region [⟨(some 4), (.asg (.c (.d (.bool false)))), none, false⟩] []) (.seq (Jqid p) .ret))
@[simp] def Jq97 (p : Nums) : List IOp := [qo 3 (.mov (.t 0)), qo 4 (.bin .mul (ci 2) (.t 3)), qo 5 (.bin .add (.t 4) (ci 1)), qo 2 (.asg (.t 5))]
def Jq96 (p : Nums) : IC := (.region (Jq97 p) [])
@[simp] theorem Je96 {p : Nums} : EqI (Jq96 p) (.region (Jq97 p) []) := eqi
def Jtau (p : Nums) : IC := (.seq (.region [⟨(some 2), (.asg (.c (.d (.int .i64 0)))), none, false⟩] []) (.seq (Jq96 p) .ret))
@[simp] def Jqvf (p : Nums) : List IOp := [qo 9 (.faddr 0 (.t 2)), qo 10 (.load none (.t 9)), qo 11 (.call p.opcode_Of [(.t 10)]), qo 8 (.mov (.t 11)), qo 12 (.ext (.t 8) 0), qo 13 (.ext (.t 8) 1), qo 5 (.alloc [(.d (.bool false)), (.d (.bool false)), (.d (.bool false)), (.d (.bool false))]), qn (.store 4 (.t 5) (.t 12)), qo 6 (.asg (.t 13))]
def Jqv4 (p : Nums) : IC := (.region (Jqvf p) [])
@[simp] theorem Jev4 {p : Nums} : EqI (Jqv4 p) (.region (Jqvf p) []) := eqi
@[simp] def Jqvg (p : Nums) : List IOp := [qo 14 (.faddr 1 (.t 2)), qo 15 (.load none (.t 14)), qo 16 (.faddr 0 (.t 5)), qo 17 (.load none (.t 16)), qo 18 (.mov (.t 1)), qo 19 (.build [(zi 0), (.d (.bool false)), (zi 0)] [(0, 1, (.t 15)), (1, 1, (.t 17)), (2, 1, (.t 18))]), qo 20 (.faddr 2 (.t 2)), qo 21 (.load none (.t 20)), qo 22 (.faddr 1 (.t 5)), qo 23 (.load none (.t 22)), qo 24 (.mov (.t 1)), qo 25 (.build [(zi 0), (.d (.bool false)), (zi 0)] [(0, 1, (.t 21)), (1, 1, (.t 23)), (2, 1, (.t 24))]), qo 26 (.faddr 3 (.t 2)), qo 27 (.load none (.t 26)), qo 28 (.faddr 2 (.t 5)), qo 29 (.load none (.t 28)), qo 30 (.mov (.t 1)), qo 31 (.build [(zi 0), (.d (.bool false)), (zi 0)] [(0, 1, (.t 27)), (1, 1, (.t 29)), (2, 1, (.t 30))]), qo 32 (.bslice 3 3 [(.int .i64 0), (.bool false), (.int .i64 0)] [(0, (.t 19)), (1, (.t 25)), (2, (.t 31))]), qo 7 (.asg (.t 32))]
def Jqv7 (p : Nums) : IC := (.region (Jqvg p) [])
@[simp] theorem Jev7 {p : Nums} : EqI (Jqv7 p) (.region (Jqvg p) []) := eqi
@[simp] def Jqvh (p : Nums) : List IOp := [qo 34 (.faddr 0 (.t 2)), qo 35 (.load none (.t 34)), qo 36 (.call p.opcode_Source [(.t 35)]), qo 37 (.un .not (.t 36)), qo 33 (.asg (.t 37))]
def Jqv8 (p : Nums) : IC := (.region (Jqvh p) [])
@[simp] theorem Jev8 {p : Nums} : EqI (Jqv8 p) (.region (Jqvh p) []) := eqi
@[simp] def Jqvi (p : Nums) : List IOp := [qo 39 (.mov (.t 7)), qo 40 (.call p.source_within [(.t 39)]), qo 41 (.un .not (.t 40)), qo 38 (.asg (.t 41))]
def Jqv9 (p : Nums) : IC := (.region (Jqvi p) [])
@[simp] theorem Jev9 {p : Nums} : EqI (Jqv9 p) (.region (Jqvi p) []) := eqi
@[simp] def Jqvj (p : Nums) : List IOp := [qo 43 (.mov (.t 7)), qo 44 (.call p.source_blank [(.t 43)]), qo 45 (.un .not (.t 44)), qo 46 (.mov (.t 45)), ⟨(some 47), (.faddr 3 (.t 5)), (some (46, false)), false⟩, ⟨(some 48), (.load none (.t 47)), (some (46, false)), false⟩, ⟨(some 49), (.un .not (.t 48)), (some (46, false)), false⟩, ⟨(some 50), (.mov (.t 49)), (some (46, false)), false⟩, ⟨(some 51), (.faddr 4 (.t 2)), (some (50, true)), false⟩, ⟨(some 52), (.load none (.t 51)), (some (50, true)), false⟩, ⟨(some 53), (.bin .neq (.t 52) (ci 0)), (some (50, true)), false⟩, ⟨(some 54), (.pick (.t 50) (.t 53) (.c (.d (.bool false)))), (some (46, false)), false⟩, qo 55 (.pick (.t 46) (.c (.d (.bool true))) (.t 54)), qo 42 (.asg (.t 55))]
def Jqva (p : Nums) : IC := (.region (Jqvj p) [])
@[simp] theorem Jeva {p : Nums} : EqI (Jqva p) (.region (Jqvj p) []) := eqi
def Jqvb (p : Nums) : IC := (.seq (.region [⟨(some 4), (.asg (.c (.d (.int .i64 12)))), none, false⟩] []) .ret)
@[simp] theorem Jevb {p : Nums} : EqI (Jqvb p) (.seq (.region [⟨(some 4), (.asg (.c (.d (.int .i64 12)))), none, false⟩] []) .ret) := eqi
def Jqvc (p : Nums) : IC := (.seq (.region [⟨(some 4), (.asg (.c (.d (.int .i64 9)))), none, false⟩] []) .ret)
@[simp] theorem Jevc {p : Nums} : EqI (Jqvc p) (.seq (.region [⟨(some 4), (.asg (.c (.d (.int .i64 9)))), none, false⟩] []) .ret) := eqi
def Jqvd (p : Nums) : IC := (.seq (Jqva p) (.cond (.t 42) (Jqvb p) .skip))
@[simp] theorem Jevd {p : Nums} : EqI (Jqvd p) (.seq (Jqva p) (.cond (.t 42) (Jqvb p) .skip)) := eqi
def Jqve (p : Nums) : IC := (.seq (.region [⟨(some 4), (.asg (.c (.d (.int .i64 8)))), none, false⟩] []) .ret)
@[simp] theorem Jeve {p : Nums} : EqI (Jqve p) (.seq (.region [⟨(some 4), (.asg (.c (.d (.int .i64 8)))), none, false⟩] []) .ret) := eqi
def Jqv5 (p : Nums) : IC := (.seq (Jqv9 p) (.cond (.t 38) (Jqvc p) (Jqvd p)))
@[simp] theorem Jev5 {p : Nums} : EqI (Jqv5 p) (.seq (Jqv9 p) (.cond (.t 38) (Jqvc p) (Jqvd p))) := eqi
def Jqv6 (p : Nums) : IC := (.seq (Jqv8 p) (.cond (.t 33) (Jqve p) (Jqv5 p)))
@[simp] theorem Jev6 {p : Nums} : EqI (Jqv6 p) (.seq (Jqv8 p) (.cond (.t 33) (Jqve p) (Jqv5 p))) := eqi
def Jtcp (p : Nums) : IC := (.seq (.region [⟨(some 2), (.box (.t 0)), none, false⟩, ⟨(some 4), (.asg (.c (.d (.int .i64 0)))), none, false⟩] []) (.seq (Jqv4 p) (.seq (Jqv7 p) (.seq (.block 0 (Jqv6 p)) (.seq (.region [⟨(some 4), (.asg (.c (.d (.int .i64 0)))), none, false⟩] []) .ret)))))
@[simp] def Jqw5 (p : Nums) : List IOp := [qo 10 (.faddr 1 (.t 3)), qo 11 (.load none (.t 10)), qo 12 (.faddr 0 (.t 3)), qo 13 (.load none (.t 12)), qo 14 (.bin .neq (.t 13) (ci 1)), qo 15 (.mov (.t 1)), qo 16 (.build [(zi 0), (.d (.bool false)), (zi 0)] [(0, 1, (.t 11)), (1, 1, (.t 14)), (2, 1, (.t 15))]), qo 7 (.alloc [(zi 0), (.d (.bool false)), (zi 0)]), qn (.store 3 (.t 7) (.t 16))]
def Jqvq (p : Nums) : IC := (.region (Jqw5 p) [])
@[simp] theorem Jevq {p : Nums} : EqI (Jqvq p) (.region (Jqw5 p) []) := eqi
@[simp] def Jqw6 (p : Nums) : List IOp := [qo 17 (.faddr 2 (.t 3)), qo 18 (.load none (.t 17)), qo 19 (.faddr 0 (.t 3)), qo 20 (.load none (.t 19)), qo 21 (.bin .neq (.t 20) (ci 3)), qo 22 (.mov (.t 2)), qo 23 (.build [(zi 0), (.d (.bool false)), (zi 0)] [(0, 1, (.t 18)), (1, 1, (.t 21)), (2, 1, (.t 22))]), qo 8 (.alloc [(zi 0), (.d (.bool false)), (zi 0)]), qn (.store 3 (.t 8) (.t 23))]
def Jqvx (p : Nums) : IC := (.region (Jqw6 p) [])
@[simp] theorem Jevx {p : Nums} : EqI (Jqvx p) (.region (Jqw6 p) []) := eqi
@[simp] def Jqw7 (p : Nums) : List IOp := [qo 24 (.faddr 3 (.t 3)), qo 25 (.load none (.t 24)), qo 26 (.faddr 0 (.t 3)), qo 27 (.load none (.t 26)), qo 28 (.bin .eql (.t 27) (ci 2)), qo 29 (.mov (.t 2)), qo 30 (.build [(zi 0), (.d (.bool false)), (zi 0)] [(0, 1, (.t 25)), (1, 1, (.t 28)), (2, 1, (.t 29))]), qo 9 (.alloc [(zi 0), (.d (.bool false)), (zi 0)]), qn (.store 3 (.t 9) (.t 30))]
def Jqvy (p : Nums) : IC := (.region (Jqw7 p) [])
@[simp] theorem Jevy {p : Nums} : EqI (Jqvy p) (.region (Jqw7 p) []) := eqi
@[simp] def Jqw8 (p : Nums) : List IOp := [qo 32 (.faddr 0 (.t 3)), qo 33 (.load none (.t 32)), qo 34 (.bin .lss (.t 33) (ci 1)), qo 35 (.mov (.t 34)), ⟨(some 36), (.faddr 0 (.t 3)), (some (35, false)), false⟩, ⟨(some 37), (.load none (.t 36)), (some (35, false)), false⟩, ⟨(some 38), (.bin .gtr (.t 37) (ci 3)), (some (35, false)), false⟩, qo 39 (.pick (.t 35) (.c (.d (.bool true))) (.t 38)), qo 31 (.asg (.t 39))]
def Jqvz (p : Nums) : IC := (.region (Jqw8 p) [])
@[simp] theorem Jevz {p : Nums} : EqI (Jqvz p) (.region (Jqw8 p) []) := eqi
@[simp] def Jqw9 (p : Nums) : List IOp := [qo 41 (.load (some 3) (.t 7)), qo 42 (.bslice 3 1 [(.int .i64 0), (.bool false), (.int .i64 0)] [(0, (.t 41))]), qo 43 (.call p.source_within [(.t 42)]), qo 44 (.un .not (.t 43)), qo 40 (.asg (.t 44))]
def Jqw0 (p : Nums) : IC := (.region (Jqw9 p) [])
@[simp] theorem Jew0 {p : Nums} : EqI (Jqw0 p) (.region (Jqw9 p) []) := eqi
@[simp] def Jqwa (p : Nums) : List IOp := [qo 46 (.load (some 3) (.t 8)), qo 47 (.load (some 3) (.t 9)), qo 48 (.bslice 3 2 [(.int .i64 0), (.bool false), (.int .i64 0)] [(0, (.t 46)), (1, (.t 47))]), qo 49 (.call p.source_within [(.t 48)]), qo 50 (.un .not (.t 49)), qo 45 (.asg (.t 50))]
def Jqw1 (p : Nums) : IC := (.region (Jqwa p) [])
@[simp] theorem Jew1 {p : Nums} : EqI (Jqw1 p) (.region (Jqwa p) []) := eqi
@[simp] def Jqwb (p : Nums) : List IOp := [qo 52 (.load (some 3) (.t 7)), qo 53 (.load (some 3) (.t 8)), qo 54 (.load (some 3) (.t 9)), qo 55 (.bslice 3 3 [(.int .i64 0), (.bool false), (.int .i64 0)] [(0, (.t 52)), (1, (.t 53)), (2, (.t 54))]), qo 56 (.call p.source_blank [(.t 55)]), qo 57 (.un .not (.t 56)), qo 51 (.asg (.t 57))]
def Jqw2 (p : Nums) : IC := (.region (Jqwb p) [])
@[simp] theorem Jew2 {p : Nums} : EqI (Jqw2 p) (.region (Jqwb p) []) := eqi
def Jqw3 (p : Nums) : IC := (.seq (.region [⟨(some 6), (.asg (.c (.d (.int .i64 12)))), none, false⟩] []) .ret)
@[simp] theorem Jew3 {p : Nums} : EqI (Jqw3 p) (.seq (.region [⟨(some 6), (.asg (.c (.d (.int .i64 12)))), none, false⟩] []) .ret) := eqi
def Jqw4 (p : Nums) : IC := (.seq (.region [⟨(some 6), (.asg (.c (.d (.int .i64 11)))), none, false⟩] []) .ret)
@[simp] theorem Jew4 {p : Nums} : EqI (Jqw4 p) (.seq (.region [⟨(some 6), (.asg (.c (.d (.int .i64 11)))), none, false⟩] []) .ret) := eqi
def Jqvr (p : Nums) : IC := (.seq (Jqw2 p) (.cond (.t 51) (Jqw3 p) .skip))
@[simp] theorem Jevr {p : Nums} : EqI (Jqvr p) (.seq (Jqw2 p) (.cond (.t 51) (Jqw3 p) .skip)) := eqi
def Jqvs (p : Nums) : IC := (.seq (.region [⟨(some 6), (.asg (.c (.d (.int .i64 9)))), none, false⟩] []) .ret)
@[simp] theorem Jevs {p : Nums} : EqI (Jqvs p) (.seq (.region [⟨(some 6), (.asg (.c (.d (.int .i64 9)))), none, false⟩] []) .ret) := eqi
def Jqvt (p : Nums) : IC := (.seq (Jqw1 p) (.cond (.t 45) (Jqw4 p) (Jqvr p)))
@[simp] theorem Jevt {p : Nums} : EqI (Jqvt p) (.seq (Jqw1 p) (.cond (.t 45) (Jqw4 p) (Jqvr p))) := eqi
def Jqvu (p : Nums) : IC := (.seq (.region [⟨(some 6), (.asg (.c (.d (.int .i64 16)))), none, false⟩] []) .ret)
@[simp] theorem Jevu {p : Nums} : EqI (Jqvu p) (.seq (.region [⟨(some 6), (.asg (.c (.d (.int .i64 16)))), none, false⟩] []) .ret) := eqi
def Jqvv (p : Nums) : IC := (.seq (Jqw0 p) (.cond (.t 40) (Jqvs p) (Jqvt p)))
@[simp] theorem Jevv {p : Nums} : EqI (Jqvv p) (.seq (Jqw0 p) (.cond (.t 40) (Jqvs p) (Jqvt p))) := eqi
def Jqvw (p : Nums) : IC := (.seq (Jqvz p) (.cond (.t 31) (Jqvu p) (Jqvv p)))
@[simp] theorem Jevw {p : Nums} : EqI (Jqvw p) (.seq (Jqvz p) (.cond (.t 31) (Jqvu p) (Jqvv p))) := eqi
def Jtcr (p : Nums) : IC := (.seq (.region [⟨(some 3), (.box (.t 0)), none, false⟩, ⟨(some 6), (.asg (.c (.d (.int .i64 0)))), none, false⟩] []) (.seq (Jqvq p) (.seq (Jqvx p) (.seq (Jqvy p) (.seq (.block 0 (Jqvw p)) (.seq (.region [⟨(some 6), (.asg (.c (.d (.int .i64 0)))), none, false⟩] []) .ret))))))
@[simp] def Jqah (p : Nums) : List IOp := [qo 9 (.faddr 0 (.t 3)), qo 10 (.load none (.t 9)), qo 11 (.call p.opcode_Machine [(.t 10)]), qo 12 (.un .not (.t 11))]
def Jqa8 (p : Nums) : IC := (.region (Jqah p) [])
@[simp] theorem Jea8 {p : Nums} : EqI (Jqa8 p) (.region (Jqah p) []) := eqi
def Jqa9 (p : Nums) : IC := (.seq (.region [⟨(some 6), (.asg (.c (.d (.int .i64 8)))), none, false⟩] []) .ret)
@[simp] theorem Jea9 {p : Nums} : EqI (Jqa9 p) (.seq (.region [⟨(some 6), (.asg (.c (.d (.int .i64 8)))), none, false⟩] []) .ret) := eqi
@[simp] def Jqai (p : Nums) : List IOp := [qo 13 (.call p.machine_others []), qo 7 (.alloc [.nilfn, .nilfn]), qn (.store 2 (.t 7) (.t 13))]
def Jqaa (p : Nums) : IC := (.region (Jqai p) [])
@[simp] theorem Jeaa {p : Nums} : EqI (Jqaa p) (.region (Jqai p) []) := eqi
@[simp] def Jqaj (p : Nums) : List IOp := [qo 14 (.faddr 0 (.t 3)), qo 15 (.load none (.t 14)), qo 16 (.bin .eql (.t 15) (ci 18))]
def Jqab (p : Nums) : IC := (.region (Jqaj p) [])
@[simp] theorem Jeab {p : Nums} : EqI (Jqab p) (.region (Jqaj p) []) := eqi
@[simp] def Jqak (p : Nums) : List IOp := [qo 17 (.call p.machine_moves []), qn (.store 2 (.t 7) (.t 17))]
def Jqac (p : Nums) : IC := (.region (Jqak p) [])
@[simp] theorem Jeac {p : Nums} : EqI (Jqac p) (.region (Jqak p) []) := eqi
@[simp] def Jqal (p : Nums) : List IOp := [qo 18 (.faddr 0 (.t 7)), qo 19 (.load none (.t 18)), qo 20 (.load (some 7) (.t 3)), qo 21 (.mov (.t 1)), qo 22 (.mov (.t 2)), qo 23 (.callv (.t 19) [(.t 20), (.t 21), (.t 22)]), qo 8 (.asg (.t 23))]
def Jqad (p : Nums) : IC := (.region (Jqal p) [])
@[simp] theorem Jead {p : Nums} : EqI (Jqad p) (.region (Jqal p) []) := eqi
def Jqae (p : Nums) : IC := (.seq (.region [⟨(some 26), (.mov (.t 8)), none, false⟩, ⟨(some 6), (.asg (.t 26)), none, false⟩] []) .ret)
@[simp] theorem Jeae {p : Nums} : EqI (Jqae p) (.seq (.region [⟨(some 26), (.mov (.t 8)), none, false⟩, ⟨(some 6), (.asg (.t 26)), none, false⟩] []) .ret) := eqi
@[simp] def Jqam (p : Nums) : List IOp := [qo 27 (.faddr 1 (.t 7)), qo 28 (.load none (.t 27)), qo 29 (.load (some 7) (.t 3)), qo 30 (.callv (.t 28) [(.t 29)]), qo 31 (.un .not (.t 30))]
def Jqaf (p : Nums) : IC := (.region (Jqam p) [])
@[simp] theorem Jeaf {p : Nums} : EqI (Jqaf p) (.region (Jqam p) []) := eqi
def Jqag (p : Nums) : IC := (.seq (.region [⟨(some 6), (.asg (.c (.d (.int .i64 12)))), none, false⟩] []) .ret)
@[simp] theorem Jeag {p : Nums} : EqI (Jqag p) (.seq (.region [⟨(some 6), (.asg (.c (.d (.int .i64 12)))), none, false⟩] []) .ret) := eqi
def Jtax (p : Nums) : IC := (.seq (.region [⟨(some 3), (.box (.t 0)), none, false⟩, ⟨(some 6), (.asg (.c (.d (.int .i64 0)))), none, false⟩] []) (.seq (.seq (Jqa8 p) (.cond (.t 12) (Jqa9 p) .skip)) (.seq (Jqaa p) (.seq (.seq (Jqab p) (.cond (.t 16) (Jqac p) .skip)) (.seq (.seq (Jqad p) (.seq (.region [⟨(some 24), (.mov (.t 8)), none, false⟩, ⟨(some 25), (.bin .neq (.t 24) (.c (.d (.int .i64 0)))), none, false⟩] []) (.cond (.t 25) (Jqae p) .skip))) (.seq (.seq (Jqaf p) (.cond (.t 31) (Jqag p) .skip)) (.seq (.region [⟨(some 6), (.asg (.c (.d (.int .i64 0)))), none, false⟩] []) .ret)))))))
@[simp] def Jq8y (p : Nums) : List IOp := [qo 9 (.mov (.t 0)), qo 10 (.bin .geq (.t 9) (ci 0)), qo 11 (.mov (.t 10)), ⟨(some 12), (.mov (.t 0)), (some (11, true)), false⟩, ⟨(some 13), (.call p.location_Index [(.t 12)]), (some (11, true)), false⟩, ⟨(some 14), (.mov (.t 2)), (some (11, true)), false⟩, ⟨(some 15), (.bin .lss (.t 13) (.t 14)), (some (11, true)), false⟩, qo 16 (.pick (.t 11) (.t 15) (.c (.d (.bool false)))), qo 6 (.asg (.t 16))]
def Jq8w (p : Nums) : IC := (.region (Jq8y p) [])
@[simp] theorem Je8w {p : Nums} : EqI (Jq8w p) (.region (Jq8y p) []) := eqi
@[simp] def Jq8z (p : Nums) : List IOp := [qo 17 (.mov (.t 0)), qo 18 (.bin .geq (.t 17) (ci 0)), qo 19 (.mov (.t 18)), ⟨(some 20), (.mov (.t 0)), (some (19, true)), false⟩, ⟨(some 21), (.call p.location_Index [(.t 20)]), (some (19, true)), false⟩, ⟨(some 22), (.mov (.t 1)), (some (19, true)), false⟩, ⟨(some 23), (.bin .lss (.t 21) (.t 22)), (some (19, true)), false⟩, qo 24 (.pick (.t 19) (.t 23) (.c (.d (.bool false)))), qo 6 (.asg (.t 24))]
def Jq8x (p : Nums) : IC := (.region (Jq8z p) [])
@[simp] theorem Je8x {p : Nums} : EqI (Jq8x p) (.region (Jq8z p) []) := eqi
def Jtaq (p : Nums) : IC := (.seq (.region [⟨(some 6), (.asg (.c (.d (.bool false)))), none, false⟩] []) (.seq (.seq (.region [⟨(some 7), (.mov (.t 0)), none, false⟩, ⟨(some 8), (.call p.location_IsSlot [(.t 7)]), none, false⟩] []) (.cond (.t 8) (.seq (Jq8w p) .ret) .skip)) (.seq (Jq8x p) .ret)))
@[simp] def Jqd6 (p : Nums) : List IOp := [qo 2 (.box (.t 0)), qo 3 (.box (.t 1)), qo 4 (.asg (.c (.d (.bool false))))]
def Jqd4 (p : Nums) : IC := (.region (Jqd6 p) [])
@[simp] theorem Jed4 {p : Nums} : EqI (Jqd4 p) (.region (Jqd6 p) []) := eqi
@[simp] def Jqd7 (p : Nums) : List IOp := [qo 5 (.faddr 0 (.t 2)), qo 6 (.load none (.t 5)), qo 7 (.faddr 0 (.t 3)), qo 8 (.load none (.t 7)), qo 9 (.bin .lss (.t 6) (.t 8)), qo 10 (.mov (.t 9)), ⟨(some 11), (.faddr 0 (.t 2)), (some (10, false)), false⟩, ⟨(some 12), (.load none (.t 11)), (some (10, false)), false⟩, ⟨(some 13), (.faddr 0 (.t 3)), (some (10, false)), false⟩, ⟨(some 14), (.load none (.t 13)), (some (10, false)), false⟩, ⟨(some 15), (.bin .eql (.t 12) (.t 14)), (some (10, false)), false⟩, ⟨(some 16), (.mov (.t 15)), (some (10, false)), false⟩, ⟨(some 17), (.faddr 1 (.t 2)), (some (16, true)), false⟩, ⟨(some 18), (.load none (.t 17)), (some (16, true)), false⟩, ⟨(some 19), (.faddr 1 (.t 3)), (some (16, true)), false⟩, ⟨(some 20), (.load none (.t 19)), (some (16, true)), false⟩, ⟨(some 21), (.bin .lss (.t 18) (.t 20)), (some (16, true)), false⟩, ⟨(some 22), (.pick (.t 16) (.t 21) (.c (.d (.bool false)))), (some (10, false)), false⟩, qo 23 (.pick (.t 10) (.c (.d (.bool true))) (.t 22)), qo 4 (.asg (.t 23))]
def Jqd5 (p : Nums) : IC := (.region (Jqd7 p) [])
@[simp] theorem Jed5 {p : Nums} : EqI (Jqd5 p) (.region (Jqd7 p) []) := eqi
def Jtbf (p : Nums) : IC := (.seq (Jqd4 p) (.seq (Jqd5 p) .ret))
@[simp] def Jq6e (p : Nums) : List IOp := [qo 5 (.faddr 0 (.t 2)), qo 6 (.load none (.t 5)), qo 7 (.mov (.t 1)), qo 8 (.bin .lss (.t 6) (.t 7))]
def Jq6b (p : Nums) : IC := (.region (Jq6e p) [])
@[simp] theorem Je6b {p : Nums} : EqI (Jq6b p) (.region (Jq6e p) []) := eqi
@[simp] def Jq6f (p : Nums) : List IOp := [qp 9 (.faddr 1 (.t 2)), qp 10 (.load none (.t 9)), qp 11 (.faddr 0 (.t 2)), qp 12 (.load none (.t 11)), qp 13 (.call p.location_Slot [(.t 12)]), qo 14 (.bin .eql (.t 10) (.t 13)), qo 4 (.asg (.t 14))]
def Jq6c (p : Nums) : IC := (.region (Jq6f p) [])
@[simp] theorem Je6c {p : Nums} : EqI (Jq6c p) (.region (Jq6f p) []) := eqi
@[simp] def Jq6g (p : Nums) : List IOp := [qo 15 (.faddr 1 (.t 2)), qo 16 (.load none (.t 15)), qo 17 (.call p.location_IsSlot [(.t 16)]), qo 18 (.un .not (.t 17)), qo 19 (.mov (.t 18)), ⟨(some 20), (.faddr 1 (.t 2)), (some (19, false)), false⟩, ⟨(some 21), (.load none (.t 20)), (some (19, false)), false⟩, ⟨(some 22), (.call p.location_Index [(.t 21)]), (some (19, false)), false⟩, ⟨(some 23), (.mov (.t 1)), (some (19, false)), false⟩, ⟨(some 24), (.bin .geq (.t 22) (.t 23)), (some (19, false)), false⟩, qo 25 (.pick (.t 19) (.c (.d (.bool true))) (.t 24)), qo 4 (.asg (.t 25))]
def Jq6d (p : Nums) : IC := (.region (Jq6g p) [])
@[simp] theorem Je6d {p : Nums} : EqI (Jq6d p) (.region (Jq6g p) []) := eqi
def Jtak (p : Nums) : IC := (.seq (.region [⟨(some 2), (.box (.t 0)), none, false⟩, ⟨(some 4), (.asg (.c (.d (.bool false)))), none, false⟩] []) (.seq (.seq (Jq6b p) (.cond (.t 8) (.seq (Jq6c p) .ret) .skip)) (.seq (Jq6d p) .ret)))
@[simp] def Jq12 (p : Nums) : List IOp := [qo 7 (.mov (.t 1)), qo 8 (.mov (.t 0)), qo 9 (.len (.t 8)), qo 10 (.bin .lss (.t 7) (.t 9)), qo 11 (.mov (.t 10)), ⟨(some 12), (.mov (.t 2)), (some (11, true)), false⟩, ⟨(some 13), (.mov (.t 0)), (some (11, true)), false⟩, ⟨(some 14), (.mov (.t 1)), (some (11, true)), false⟩, ⟨(some 15), (.iaddr 5 (.t 13) (.t 14)), (some (11, true)), false⟩, ⟨(some 16), (.load (some 5) (.t 15)), (some (11, true)), false⟩, ⟨(some 17), (.callv (.t 12) [(.t 16)]), (some (11, true)), false⟩, qo 18 (.pick (.t 11) (.t 17) (.c (.d (.bool false))))]
def Jqz (p : Nums) : IC := (.region (Jq12 p) [])
@[simp] theorem Jez {p : Nums} : EqI (Jqz p) (.region (Jq12 p) []) := eqi
@[simp] def Jq13 (p : Nums) : List IOp := [qo 19 (.mov (.t 1)), qo 20 (.bin .add (.t 19) (ci 1)), qo 1 (.asg (.t 20))]
def Jq10 (p : Nums) : IC := (.region (Jq13 p) [])
@[simp] theorem Je10 {p : Nums} : EqI (Jq10 p) (.region (Jq13 p) []) := eqi
def Jq11 (p : Nums) : IC := (.seq (.seq (Jqz p) (.cond (.t 18) .skip (.exit 0))) (.block 1 (Jq10 p)))
@[simp] theorem Je11 {p : Nums} : EqI (Jq11 p) (.seq (.seq (Jqz p) (.cond (.t 18) .skip (.exit 0))) (.block 1 (Jq10 p))) := eqi
def Jta3 (p : Nums) : IC := (.seq (.region [⟨(some 6), (.asg (.c (.d (.int .i64 0)))), none, false⟩] []) (.seq (.block 0 (.loop (Jq11 p))) (.seq (.region [⟨(some 21), (.mov (.t 1)), none, false⟩, ⟨(some 6), (.asg (.t 21)), none, false⟩] []) .ret)))
@[simp] def Jqw (p : Nums) : List IOp := [qo 3 (.faddr 0 (.t 1)), qo 4 (.load none (.t 3)), qo 5 (.bin .eql (.t 4) (ci 2)), qo 2 (.asg (.t 5))]
def Jqv (p : Nums) : IC := (.region (Jqw p) [])
@[simp] theorem Jev {p : Nums} : EqI (Jqv p) (.region (Jqw p) []) := eqi
def Jta1 (p : Nums) : IC := (.seq (.region [⟨(some 1), (.box (.t 0)), none, false⟩, ⟨(some 2), (.asg (.c (.d (.bool false)))), none, false⟩] []) (.seq (Jqv p) .ret))
@[simp] def Jq17 (p : Nums) : List IOp := [qo 7 (.mov (.t 1)), qo 8 (.mov (.t 0)), qo 9 (.len (.t 8)), qo 10 (.bin .lss (.t 7) (.t 9)), qo 11 (.mov (.t 10)), ⟨(some 12), (.mov (.t 2)), (some (11, true)), false⟩, ⟨(some 13), (.mov (.t 0)), (some (11, true)), false⟩, ⟨(some 14), (.mov (.t 1)), (some (11, true)), false⟩, ⟨(some 15), (.iaddr 7 (.t 13) (.t 14)), (some (11, true)), false⟩, ⟨(some 16), (.load (some 7) (.t 15)), (some (11, true)), false⟩, ⟨(some 17), (.callv (.t 12) [(.t 16)]), (some (11, true)), false⟩, qo 18 (.pick (.t 11) (.t 17) (.c (.d (.bool false))))]
def Jq14 (p : Nums) : IC := (.region (Jq17 p) [])
@[simp] theorem Je14 {p : Nums} : EqI (Jq14 p) (.region (Jq17 p) []) := eqi
@[simp] def Jq18 (p : Nums) : List IOp := [qo 19 (.mov (.t 1)), qo 20 (.bin .add (.t 19) (ci 1)), qo 1 (.asg (.t 20))]
def Jq15 (p : Nums) : IC := (.region (Jq18 p) [])
@[simp] theorem Je15 {p : Nums} : EqI (Jq15 p) (.region (Jq18 p) []) := eqi
def Jq16 (p : Nums) : IC := (.seq (.seq (Jq14 p) (.cond (.t 18) .skip (.exit 0))) (.block 1 (Jq15 p)))
@[simp] theorem Je16 {p : Nums} : EqI (Jq16 p) (.seq (.seq (Jq14 p) (.cond (.t 18) .skip (.exit 0))) (.block 1 (Jq15 p))) := eqi
def Jta4 (p : Nums) : IC := (.seq (.region [⟨(some 6), (.asg (.c (.d (.int .i64 0)))), none, false⟩] []) (.seq (.block 0 (.loop (Jq16 p))) (.seq (.region [⟨(some 21), (.mov (.t 1)), none, false⟩, ⟨(some 6), (.asg (.t 21)), none, false⟩] []) .ret)))
@[simp] def Jqy (p : Nums) : List IOp := [qo 3 (.faddr 0 (.t 1)), qo 4 (.load none (.t 3)), qo 5 (.bin .eql (.t 4) (ci 18)), qo 2 (.asg (.t 5))]
def Jqx (p : Nums) : IC := (.region (Jqy p) [])
@[simp] theorem Jex {p : Nums} : EqI (Jqx p) (.region (Jqy p) []) := eqi
def Jta2 (p : Nums) : IC := (.seq (.region [⟨(some 1), (.box (.t 0)), none, false⟩, ⟨(some 2), (.asg (.c (.d (.bool false)))), none, false⟩] []) (.seq (Jqx p) .ret))
@[simp] def Jqp (p : Nums) : List IOp := [qo 2 (.box (.t 0)), qo 3 (.box (.t 1)), qo 4 (.asg (.c (.d (.bool false))))]
def Jqn (p : Nums) : IC := (.region (Jqp p) [])
@[simp] theorem Jen {p : Nums} : EqI (Jqn p) (.region (Jqp p) []) := eqi
@[simp] def Jqq (p : Nums) : List IOp := [qo 5 (.faddr 0 (.t 2)), qo 6 (.load none (.t 5)), qo 7 (.faddr 0 (.t 3)), qo 8 (.load none (.t 7)), qo 9 (.bin .eql (.t 6) (.t 8)), qo 10 (.mov (.t 9)), ⟨(some 11), (.faddr 4 (.t 2)), (some (10, true)), false⟩, ⟨(some 12), (.load none (.t 11)), (some (10, true)), false⟩, ⟨(some 13), (.faddr 4 (.t 3)), (some (10, true)), false⟩, ⟨(some 14), (.load none (.t 13)), (some (10, true)), false⟩, ⟨(some 15), (.bin .eql (.t 12) (.t 14)), (some (10, true)), false⟩, qo 16 (.pick (.t 10) (.t 15) (.c (.d (.bool false)))), qo 17 (.mov (.t 16)), ⟨(some 18), (.faddr 0 (.t 2)), (some (17, true)), false⟩, ⟨(some 19), (.load none (.t 18)), (some (17, true)), false⟩, ⟨(some 20), (.bin .neq (.t 19) (ci 2)), (some (17, true)), false⟩, qo 21 (.pick (.t 17) (.t 20) (.c (.d (.bool false)))), qo 22 (.mov (.t 21)), ⟨(some 23), (.faddr 0 (.t 2)), (some (22, true)), false⟩, ⟨(some 24), (.load none (.t 23)), (some (22, true)), false⟩, ⟨(some 25), (.bin .neq (.t 24) (ci 18)), (some (22, true)), false⟩, qo 26 (.pick (.t 22) (.t 25) (.c (.d (.bool false)))), qo 4 (.asg (.t 26))]
def Jqo (p : Nums) : IC := (.region (Jqq p) [])
@[simp] theorem Jeo {p : Nums} : EqI (Jqo p) (.region (Jqq p) []) := eqi
def Jt9z (p : Nums) : IC := (.seq (Jqn p) (.seq (Jqo p) .ret))
def Jqtb (p : Nums) : IC := (.seq (.region [⟨(some 2), (.asg (.c .nils)), none, false⟩] []) .ret)
@[simp] theorem Jetb {p : Nums} : EqI (Jqtb p) (.seq (.region [⟨(some 2), (.asg (.c .nils)), none, false⟩] []) .ret) := eqi
@[simp] def Jqtd (p : Nums) : List IOp := [qo 5 (.bslice 2 0 [(.int .i64 0), (.int .i64 0)] []), qo 6 (.mov (.t 0)), qo 7 (.app 2 16 (.t 5) (.t 6)), qo 2 (.asg (.t 7))]
def Jqtc (p : Nums) : IC := (.region (Jqtd p) [])
@[simp] theorem Jetc {p : Nums} : EqI (Jqtc p) (.region (Jqtd p) []) := eqi
def Jtcl (p : Nums) : IC := (.seq (.region [⟨(some 2), (.asg (.c .nils)), none, false⟩] []) (.seq (.seq (.region [⟨(some 3), (.mov (.t 0)), none, false⟩, ⟨(some 4), (.isnil false (.t 3)), none, false⟩] []) (.cond (.t 4) (Jqtb p) .skip)) (.seq (Jqtc p) .ret)))
@[simp] def Jqtw (p : Nums) : List IOp := [qo 6 (.mov (.t 0)), qo 7 (.len (.t 6)), qo 8 (.bin .lss (.t 7) (ci 2))]
def Jqte (p : Nums) : IC := (.region (Jqtw p) [])
@[simp] theorem Jete {p : Nums} : EqI (Jqte p) (.region (Jqtw p) []) := eqi
def Jqto (p : Nums) : IC := (.seq (.region [⟨(some 9), (.mov (.t 0)), none, false⟩, ⟨(some 2), (.asg (.t 9)), none, false⟩] []) .ret)
@[simp] theorem Jeto {p : Nums} : EqI (Jqto p) (.seq (.region [⟨(some 9), (.mov (.t 0)), none, false⟩, ⟨(some 2), (.asg (.t 9)), none, false⟩] []) .ret) := eqi
@[simp] def Jqu1 (p : Nums) : List IOp := [qo 10 (.mov (.t 3)), qo 11 (.mov (.t 0)), qo 12 (.len (.t 11)), qo 13 (.bin .lss (.t 10) (.t 12))]
def Jqtp (p : Nums) : IC := (.region (Jqu1 p) [])
@[simp] theorem Jetp {p : Nums} : EqI (Jqtp p) (.region (Jqu1 p) []) := eqi
@[simp] def Jqu2 (p : Nums) : List IOp := [qp 16 (.mov (.t 0)), qp 17 (.mov (.t 3)), qp 18 (.iaddr 2 (.t 16) (.t 17)), qp 19 (.load (some 2) (.t 18)), qp 20 (.mov (.t 0)), qp 21 (.mov (.t 3)), qp 22 (.bin .sub (.t 21) (ci 1)), qp 23 (.iaddr 2 (.t 20) (.t 22)), qp 24 (.load (some 2) (.t 23)), qo 25 (.eqs false [.int, .int] (.t 19) (.t 24))]
def Jqtq (p : Nums) : IC := (.region (Jqu2 p) [])
@[simp] theorem Jetq {p : Nums} : EqI (Jqtq p) (.region (Jqu2 p) []) := eqi
@[simp] def Jqu3 (p : Nums) : List IOp := [qo 26 (.mov (.t 0)), qo 27 (.mov (.t 3)), qo 28 (.slc 2 (.t 26) (some (.t 27)) none), qo 4 (.asg (.t 28))]
def Jqtr (p : Nums) : IC := (.region (Jqu3 p) [])
@[simp] theorem Jetr {p : Nums} : EqI (Jqtr p) (.region (Jqu3 p) []) := eqi
@[simp] def Jqu4 (p : Nums) : List IOp := [qo 29 (.mov (.t 5)), qo 30 (.mov (.t 4)), qo 31 (.len (.t 30)), qo 32 (.bin .lss (.t 29) (.t 31))]
def Jqts (p : Nums) : IC := (.region (Jqu4 p) [])
@[simp] theorem Jets {p : Nums} : EqI (Jqts p) (.region (Jqu4 p) []) := eqi
@[simp] def Jqu5 (p : Nums) : List IOp := [qp 35 (.mov (.t 4)), qp 36 (.mov (.t 5)), qp 37 (.iaddr 2 (.t 35) (.t 36)), qp 38 (.load (some 2) (.t 37)), qp 39 (.mov (.t 4)), qp 40 (.mov (.t 5)), qp 41 (.bin .sub (.t 40) (ci 1)), qp 42 (.iaddr 2 (.t 39) (.t 41)), qp 43 (.load (some 2) (.t 42)), qo 44 (.eqs true [.int, .int] (.t 38) (.t 43))]
def Jqtt (p : Nums) : IC := (.region (Jqu5 p) [])
@[simp] theorem Jett {p : Nums} : EqI (Jqtt p) (.region (Jqu5 p) []) := eqi
@[simp] def Jqu6 (p : Nums) : List IOp := [qo 45 (.mov (.t 0)), qo 46 (.mov (.t 3)), qo 47 (.mov (.t 4)), qo 48 (.mov (.t 5)), qo 49 (.iaddr 2 (.t 47) (.t 48)), qo 50 (.load (some 2) (.t 49)), qo 51 (.iaddr 2 (.t 45) (.t 46)), qn (.store 2 (.t 51) (.t 50))]
def Jqtu (p : Nums) : IC := (.region (Jqu6 p) [])
@[simp] theorem Jetu {p : Nums} : EqI (Jqtu p) (.region (Jqu6 p) []) := eqi
@[simp] def Jqu7 (p : Nums) : List IOp := [qo 52 (.mov (.t 3)), qo 53 (.bin .add (.t 52) (ci 1)), qo 3 (.asg (.t 53))]
def Jqtv (p : Nums) : IC := (.region (Jqu7 p) [])
@[simp] theorem Jetv {p : Nums} : EqI (Jqtv p) (.region (Jqu7 p) []) := eqi
def Jqtf (p : Nums) : IC := (.seq (Jqtt p) (.cond (.t 44) (.seq (Jqtu p) (Jqtv p)) .skip))
@[simp] theorem Jetf {p : Nums} : EqI (Jqtf p) (.seq (Jqtt p) (.cond (.t 44) (.seq (Jqtu p) (Jqtv p)) .skip)) := eqi
@[simp] def Jqtx (p : Nums) : List IOp := [qo 33 (.mov (.t 5)), qo 34 (.bin .add (.t 33) (ci 1)), qo 5 (.asg (.t 34))]
def Jqtg (p : Nums) : IC := (.region (Jqtx p) [])
@[simp] theorem Jetg {p : Nums} : EqI (Jqtg p) (.region (Jqtx p) []) := eqi
def Jqth (p : Nums) : IC := (.seq (.seq (Jqts p) (.cond (.t 32) .skip (.exit 2))) (.seq (.block 3 (Jqtf p)) (Jqtg p)))
@[simp] theorem Jeth {p : Nums} : EqI (Jqth p) (.seq (.seq (Jqts p) (.cond (.t 32) .skip (.exit 2))) (.seq (.block 3 (Jqtf p)) (Jqtg p))) := eqi
@[simp] def Jqty (p : Nums) : List IOp := [qo 54 (.mov (.t 0)), qo 55 (.mov (.t 3)), qo 56 (.slc 2 (.t 54) (some (.t 55)) none), qn (.clr 2 [(.int .i64 0), (.int .i64 0)] (.t 56))]
def Jqti (p : Nums) : IC := (.region (Jqty p) [])
@[simp] theorem Jeti {p : Nums} : EqI (Jqti p) (.region (Jqty p) []) := eqi
@[simp] def Jqtz (p : Nums) : List IOp := [qo 57 (.mov (.t 0)), qo 58 (.mov (.t 3)), qo 59 (.slc 2 (.t 57) none (some (.t 58))), qo 2 (.asg (.t 59))]
def Jqtj (p : Nums) : IC := (.region (Jqtz p) [])
@[simp] theorem Jetj {p : Nums} : EqI (Jqtj p) (.region (Jqtz p) []) := eqi
def Jqtk (p : Nums) : IC := (.seq (Jqtr p) (.seq (.seq (.region [⟨(some 5), (.asg (.c (.d (.int .i64 1)))), none, false⟩] []) (.block 2 (.loop (Jqth p)))) (.seq (Jqti p) (.seq (Jqtj p) .ret))))
@[simp] theorem Jetk {p : Nums} : EqI (Jqtk p) (.seq (Jqtr p) (.seq (.seq (.region [⟨(some 5), (.asg (.c (.d (.int .i64 1)))), none, false⟩] []) (.block 2 (.loop (Jqth p)))) (.seq (Jqti p) (.seq (Jqtj p) .ret)))) := eqi
def Jqtl (p : Nums) : IC := (.seq (Jqtq p) (.cond (.t 25) (Jqtk p) .skip))
@[simp] theorem Jetl {p : Nums} : EqI (Jqtl p) (.seq (Jqtq p) (.cond (.t 25) (Jqtk p) .skip)) := eqi
@[simp] def Jqu0 (p : Nums) : List IOp := [qo 14 (.mov (.t 3)), qo 15 (.bin .add (.t 14) (ci 1)), qo 3 (.asg (.t 15))]
def Jqtm (p : Nums) : IC := (.region (Jqu0 p) [])
@[simp] theorem Jetm {p : Nums} : EqI (Jqtm p) (.region (Jqu0 p) []) := eqi
def Jqtn (p : Nums) : IC := (.seq (.seq (Jqtp p) (.cond (.t 13) .skip (.exit 0))) (.seq (.block 1 (Jqtl p)) (Jqtm p)))
@[simp] theorem Jetn {p : Nums} : EqI (Jqtn p) (.seq (.seq (Jqtp p) (.cond (.t 13) .skip (.exit 0))) (.seq (.block 1 (Jqtl p)) (Jqtm p))) := eqi
def Jtcm (p : Nums) : IC := (.seq (.region [⟨(some 2), (.asg (.c .nils)), none, false⟩] []) (.seq (.seq (Jqte p) (.cond (.t 8) (Jqto p) .skip)) (.seq (.seq (.region [⟨(some 3), (.asg (.c (.d (.int .i64 1)))), none, false⟩] []) (.block 0 (.loop (Jqtn p)))) (.seq (.region [⟨(some 60), (.mov (.t 0)), none, false⟩, ⟨(some 2), (.asg (.t 60)), none, false⟩] []) .ret))))
@[simp] def Jq2p (p : Nums) : List IOp := [qo 11 (.faddr 0 (.t 5)), qo 12 (.load none (.t 11)), qo 13 (.faddr 0 (.t 7)), qo 14 (.load none (.t 13)), qo 15 (.faddr 1 (.t 7)), qo 16 (.load none (.t 15)), qo 17 (.slc 5 (.t 12) (some (.t 14)) (some (.t 16))), qo 18 (.len (.t 17)), qo 19 (.mov (ci 0))]
def Jq2c (p : Nums) : IC := (.region (Jq2p p) [])
@[simp] theorem Je2c {p : Nums} : EqI (Jq2c p) (.region (Jq2p p) []) := eqi
@[simp] def Jq2t (p : Nums) : List IOp := [qo 21 (.iaddr 5 (.t 17) (.t 19)), qo 22 (.load (some 5) (.t 21)), qo 9 (.alloc [(zi 0), (zi 0), (zi 0), (zi 0), (zi 0)]), qn (.store 5 (.t 9) (.t 22))]
def Jq2h (p : Nums) : IC := (.region (Jq2t p) [])
@[simp] theorem Je2h {p : Nums} : EqI (Jq2h p) (.region (Jq2t p) []) := eqi
@[simp] def Jq2u (p : Nums) : List IOp := [qp 25 (.mov (.t 0)), qp 26 (.mov (.t 0)), qp 27 (.nilck (.t 26)), qp 28 (.faddr 0 (.t 27)), qp 29 (.load none (.t 28)), qp 30 (.faddr 1 (.t 9)), qp 31 (.load none (.t 30)), qp 32 (.faddr 2 (.t 9)), qp 33 (.load none (.t 32)), qp 34 (.call p.transfer_Copy [(.t 29), (.t 31), (.t 33)]), qp 35 (.faddr 2 (.t 7)), qp 36 (.load none (.t 35)), qo 37 (.call p.blockcheck_checker_become [(.t 25), (.t 34), (.t 36)])]
def Jq2i (p : Nums) : IC := (.region (Jq2u p) [])
@[simp] theorem Je2i {p : Nums} : EqI (Jq2i p) (.region (Jq2u p) []) := eqi
def Jq2j (p : Nums) : IC := (.seq (Jq2h p) (.seq (.region [⟨(some 23), (.mov (.t 0)), none, false⟩, ⟨(some 24), (.call p.blockcheck_checker_cost [(.t 23)]), none, false⟩] []) (Jq2i p)))
@[simp] theorem Je2j {p : Nums} : EqI (Jq2j p) (.seq (Jq2h p) (.seq (.region [⟨(some 23), (.mov (.t 0)), none, false⟩, ⟨(some 24), (.call p.blockcheck_checker_cost [(.t 23)]), none, false⟩] []) (Jq2i p))) := eqi
def Jq2k (p : Nums) : IC := (.seq (.region [⟨(some 20), (.bin .lss (.t 19) (.t 18)), none, false⟩] []) (.seq (.cond (.t 20) .skip (.exit 0)) (.seq (.block 1 (Jq2j p)) (.region [⟨(some 38), (.bin .add (.t 19) (.c (.d (.int .i64 1)))), none, false⟩, ⟨(some 19), (.mov (.t 38)), none, false⟩] []))))
@[simp] theorem Je2k {p : Nums} : EqI (Jq2k p) (.seq (.region [⟨(some 20), (.bin .lss (.t 19) (.t 18)), none, false⟩] []) (.seq (.cond (.t 20) .skip (.exit 0)) (.seq (.block 1 (Jq2j p)) (.region [⟨(some 38), (.bin .add (.t 19) (.c (.d (.int .i64 1)))), none, false⟩, ⟨(some 19), (.mov (.t 38)), none, false⟩] [])))) := eqi
@[simp] def Jq2v (p : Nums) : List IOp := [qo 39 (.faddr 2 (.t 7)), qo 40 (.load none (.t 39)), qo 10 (.asg (.t 40))]
def Jq2l (p : Nums) : IC := (.region (Jq2v p) [])
@[simp] theorem Je2l {p : Nums} : EqI (Jq2l p) (.region (Jq2v p) []) := eqi
@[simp] def Jq2w (p : Nums) : List IOp := [qo 41 (.mov (.t 10)), qo 42 (.faddr 3 (.t 7)), qo 43 (.load none (.t 42)), qo 44 (.bin .lss (.t 41) (.t 43))]
def Jq2m (p : Nums) : IC := (.region (Jq2w p) [])
@[simp] theorem Je2m {p : Nums} : EqI (Jq2m p) (.region (Jq2w p) []) := eqi
@[simp] def Jq2x (p : Nums) : List IOp := [qp 49 (.mov (.t 0)), qp 50 (.mov (.t 0)), qp 51 (.nilck (.t 50)), qp 52 (.faddr 0 (.t 51)), qp 53 (.load none (.t 52)), qp 54 (.faddr 0 (.t 6)), qp 55 (.load none (.t 54)), qp 56 (.mov (.t 10)), qp 57 (.iaddr 7 (.t 55) (.t 56)), qp 58 (.faddr 5 (.t 57)), qp 59 (.load none (.t 58)), qp 60 (.faddr 0 (.t 6)), qp 61 (.load none (.t 60)), qp 62 (.mov (.t 10)), qp 63 (.iaddr 7 (.t 61) (.t 62)), qp 64 (.faddr 6 (.t 63)), qp 65 (.load none (.t 64)), qp 66 (.call p.transfer_Move [(.t 53), (.t 59), (.t 65)]), qp 67 (.mov (.t 10)), qo 68 (.call p.blockcheck_checker_become [(.t 49), (.t 66), (.t 67)])]
def Jq2n (p : Nums) : IC := (.region (Jq2x p) [])
@[simp] theorem Je2n {p : Nums} : EqI (Jq2n p) (.region (Jq2x p) []) := eqi
def Jq2o (p : Nums) : IC := (.seq (.region [⟨(some 47), (.mov (.t 0)), none, false⟩, ⟨(some 48), (.call p.blockcheck_checker_cost [(.t 47)]), none, false⟩] []) (Jq2n p))
@[simp] theorem Je2o {p : Nums} : EqI (Jq2o p) (.seq (.region [⟨(some 47), (.mov (.t 0)), none, false⟩, ⟨(some 48), (.call p.blockcheck_checker_cost [(.t 47)]), none, false⟩] []) (Jq2n p)) := eqi
@[simp] def Jq2q (p : Nums) : List IOp := [qo 45 (.mov (.t 10)), qo 46 (.bin .add (.t 45) (ci 1)), qo 10 (.asg (.t 46))]
def Jq2d (p : Nums) : IC := (.region (Jq2q p) [])
@[simp] theorem Je2d {p : Nums} : EqI (Jq2d p) (.region (Jq2q p) []) := eqi
def Jq2e (p : Nums) : IC := (.seq (.seq (Jq2m p) (.cond (.t 44) .skip (.exit 2))) (.seq (.block 3 (Jq2o p)) (Jq2d p)))
@[simp] theorem Je2e {p : Nums} : EqI (Jq2e p) (.seq (.seq (Jq2m p) (.cond (.t 44) .skip (.exit 2))) (.seq (.block 3 (Jq2o p)) (Jq2d p))) := eqi
@[simp] def Jq2r (p : Nums) : List IOp := [qo 69 (.faddr 4 (.t 7)), qo 70 (.load none (.t 69)), qo 71 (.bin .geq (.t 70) (ci 0))]
def Jq2f (p : Nums) : IC := (.region (Jq2r p) [])
@[simp] theorem Je2f {p : Nums} : EqI (Jq2f p) (.region (Jq2r p) []) := eqi
@[simp] def Jq2s (p : Nums) : List IOp := [qp 72 (.mov (.t 0)), qp 73 (.faddr 0 (.t 5)), qp 74 (.load none (.t 73)), qp 75 (.faddr 4 (.t 7)), qp 76 (.load none (.t 75)), qp 77 (.iaddr 5 (.t 74) (.t 76)), qp 78 (.load (some 5) (.t 77)), qp 79 (.faddr 0 (.t 6)), qp 80 (.load none (.t 79)), qp 81 (.faddr 5 (.t 7)), qp 82 (.load none (.t 81)), qp 83 (.iaddr 7 (.t 80) (.t 82)), qp 84 (.load (some 7) (.t 83)), qp 85 (.faddr 5 (.t 7)), qp 86 (.load none (.t 85)), qo 87 (.call p.blockcheck_checker_instr [(.t 72), (.t 78), (.t 84), (.t 86)])]
def Jq2g (p : Nums) : IC := (.region (Jq2s p) [])
@[simp] theorem Je2g {p : Nums} : EqI (Jq2g p) (.region (Jq2s p) []) := eqi
def Jta9 (p : Nums) : IC := (.seq (.region [⟨(some 5), (.box (.t 1)), none, false⟩, ⟨(some 6), (.box (.t 2)), none, false⟩, ⟨(some 7), (.box (.t 3)), none, false⟩] []) (.seq (.seq (Jq2c p) (.block 0 (.loop (Jq2k p)))) (.seq (.seq (Jq2l p) (.block 2 (.loop (Jq2e p)))) (.seq (Jq2f p) (.cond (.t 71) (Jq2g p) .skip)))))
@[simp] def Jq3n (p : Nums) : List IOp := [qp 10 (.mov (.t 0)), qp 11 (.nilck (.t 10)), qp 12 (.faddr 0 (.t 11)), qp 13 (.load none (.t 12)), qp 14 (.mov (.t 1)), qp 15 (.mov (.t 2)), qp 16 (.call p.location_Reg [(.t 15)]), qp 17 (.build [(zi 0), (zi 0)] [(0, 1, (.t 14)), (1, 1, (.t 16))]), qo 18 (.call p.pairset_Has [(.t 13), (.t 17)]), qo 19 (.un .not (.t 18))]
def Jq3l (p : Nums) : IC := (.region (Jq3n p) [])
@[simp] theorem Je3l {p : Nums} : EqI (Jq3l p) (.region (Jq3n p) []) := eqi
@[simp] def Jq3o (p : Nums) : List IOp := [qo 20 (.mov (.t 3)), qo 21 (.build [(zi 0), (zi 0)] [(0, 1, (ci 21)), (1, 1, (.t 20))]), qo 22 (.mkif p.ty_bcfail (.t 21)), qn (.pan (.t 22))]
def Jq3m (p : Nums) : IC := (.region (Jq3o p) [])
@[simp] theorem Je3m {p : Nums} : EqI (Jq3m p) (.region (Jq3o p) []) := eqi
def Jtad (p : Nums) : IC := (.seq (.region [⟨(some 8), (.mov (.t 0)), none, false⟩, ⟨(some 9), (.call p.blockcheck_checker_cost [(.t 8)]), none, false⟩] []) (.seq (Jq3l p) (.cond (.t 19) (Jq3m p) .skip)))
@[simp] def Jqc2 (p : Nums) : List IOp := [qo 2 (.alloc [(.d (.bool false)), (.d (.bool false)), (.d (.bool false)), (.d (.bool false))]), qo 3 (.asg (.c (.d (.bool false))))]
def Jqbo (p : Nums) : IC := (.region (Jqc2 p) [])
@[simp] theorem Jebo {p : Nums} : EqI (Jqbo p) (.region (Jqc2 p) []) := eqi
@[simp] def Jqc4 (p : Nums) : List IOp := [qo 5 (.mov (.t 0)), qo 6 (.call p.opcode_known [(.t 5)]), qo 7 (.un .not (.t 6)), qo 4 (.asg (.t 7))]
def Jqbu (p : Nums) : IC := (.region (Jqc4 p) [])
@[simp] theorem Jebu {p : Nums} : EqI (Jqbu p) (.region (Jqc4 p) []) := eqi
@[simp] def Jqc5 (p : Nums) : List IOp := [qo 8 (.build [(.d (.bool false)), (.d (.bool false)), (.d (.bool false)), (.d (.bool false))] []), qn (.store 4 (.t 2) (.t 8)), qo 3 (.asg (.c (.d (.bool false))))]
end Go.AE
