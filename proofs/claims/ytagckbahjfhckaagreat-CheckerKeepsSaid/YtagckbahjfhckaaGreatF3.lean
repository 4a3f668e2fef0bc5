/- A part of the proof: the evaluator over abstract values, its codes, the contracts of the functions. -/
import Derived.Test.YtagckbahjfhckaaGreatF2
import Derived.Sort.Grow
import Derived.Deep.Draws
set_option linter.unusedVariables false
set_option linter.unusedSimpArgs false
set_option maxRecDepth 100000
namespace Go.AE
@[simp] abbrev zi (n : Int) : AV := .d (.int .i64 n)
@[simp] abbrev ci (n : Int) : Opd := .c (.d (.int .i64 n))
@[simp] abbrev qo (d : Nat) (io : AO) : IOp := ⟨some d, io, none, false⟩
@[simp] abbrev qp (d : Nat) (io : AO) : IOp := ⟨some d, io, none, true⟩
@[simp] abbrev qn (io : AO) : IOp := ⟨none, io, none, false⟩
@[simp] abbrev qm (io : AO) : IOp := ⟨none, io, none, true⟩
structure Nums where
 law16_CheckerMatchesReference : Nat
 law16_CheckerOnce : Nat
 law16_CheckerLocal : Nat
 law16_CheckerSubset : Nat
 law16_CheckerKeeps : Nat
 law16_CheckerSound : Nat
 law22_SpillallAccepted : Nat
 law16_awake : Nat
 ref16_Few : Nat
 checker_Valid : Nat
 ref16_Valid : Nat
 checker_Check : Nat
 ref16_Check : Nat
 ref07_Successors : Nat
 checker_Bound : Nat
 ref14_Check : Nat
 ref11_Missing : Nat
 ref16_Copy : Nat
 ref16_Same : Nat
 law16_simulates : Nat
 law22_awake : Nat
 ref07_Few : Nat
 ref07_Check : Nat
 spillall_Cert : Nat
 ref07_Same : Nat
 ref08_Few : Nat
 ref15_Few : Nat
 source_Check : Nat
 machine_Check : Nat
 edge_Valid : Nat
 ref08_Check : Nat
 ref15_Valid : Nat
 checker_begin : Nat
 blockcheck_Check : Nat
 source_Successors : Nat
 edge_Implies : Nat
 ref15_Initial : Nat
 source_Code : Nat
 machine_Code : Nat
 ref14_fail : Nat
 ref13_Code : Nat
 ref13_Terms : Nat
 ref14_grow : Nat
 ref12_Copy : Nat
 ref12_Move : Nat
 ref05_UsesA : Nat
 ref14_use : Nat
 ref05_UsesB : Nat
 ref05_UsesD : Nat
 ref12_Define : Nat
 ref11_Has : Nat
 ref07_Copy : Nat
 ref08_Copy : Nat
 ref08_Same : Nat
 ref15_Same : Nat
 interp_Exec : Nat
 execute_Exec : Nat
 ref09_Values : Nat
 ref09_Prefix : Nat
 spillall_Block : Nat
 spillall_Moves : Nat
 ref07_Code : Nat
 ref07_Instr : Nat
 ref07_Term : Nat
 slices_Clone_Instr : Nat
 spillall_invariant : Nat
 ref08_Code : Nat
 source_block : Nat
 machine_block : Nat
 edge_total : Nat
 edge_pairs : Nat
 ref08_Instr : Nat
 ref08_Moves : Nat
 ref04_InRange : Nat
 ref11_Less : Nat
 edge_Entry : Nat
 align_Code : Nat
 align_Terms : Nat
 pairset_Make : Nat
 blockcheck_checker_run : Nat
 pairset_Missing : Nat
 ref13_Operations : Nat
 ref13_Others : Nat
 ref13_Same : Nat
 ref11_Add : Nat
 ref11_Same : Nat
 interp_begin : Nat
 interp_state_step : Nat
 execute_begin : Nat
 execute_state_step : Nat
 spillall_builder_instr : Nat
 spillall_builder_add : Nat
 spillall_load : Nat
 ref07_in : Nat
 location_Slot : Nat
 source_Instr : Nat
 source_Term : Nat
 machine_Instr : Nat
 location_InRange : Nat
 pairset_Less : Nat
 edge_Initial : Nat
 align_skip_Instr : Nat
 align_copied : Nat
 align_skip_Mach : Nat
 align_moved : Nat
 align_Same : Nat
 slices_Clone_Pair : Nat
 slices_SortFunc_Pair : Nat
 pairset_compare : Nat
 slices_Compact_Pair : Nat
 blockcheck_checker_run_1 : Nat
 blockcheck_checker_row : Nat
 blockcheck_checker_use : Nat
 interp_state_instr : Nat
 interp_state_term : Nat
 execute_state_instr : Nat
 execute_state_term : Nat
 opcode_Of : Nat
 spillall_store : Nat
 location_Reg : Nat
 opcode_Source : Nat
 source_within : Nat
 source_blank : Nat
 opcode_Machine : Nat
 machine_others : Nat
 machine_moves : Nat
 location_IsSlot : Nat
 location_Index : Nat
 slices_pdqsortCmpFunc_Pair : Nat
 math_bits_Len : Nat
 blockcheck_checker_cost : Nat
 blockcheck_checker_become : Nat
 transfer_Copy : Nat
 transfer_Move : Nat
 blockcheck_checker_instr : Nat
 pairset_Has : Nat
 alu_Eval : Nat
 execute_state_compute : Nat
 execute_state_move : Nat
 execute_state_emit : Nat
 opcode_known : Nat
 machine_others_1 : Nat
 machine_others_2 : Nat
 machine_moves_1 : Nat
 machine_moves_2 : Nat
 slices_insertionSortCmpFunc_Pair : Nat
 slices_heapSortCmpFunc_Pair : Nat
 slices_breakPatternsCmpFunc_Pair : Nat
 slices_choosePivotCmpFunc_Pair : Nat
 slices_reverseRangeCmpFunc_Pair : Nat
 slices_partialInsertionSortCmpFunc_Pair : Nat
 slices_partitionEqualCmpFunc_Pair : Nat
 slices_partitionCmpFunc_Pair : Nat
 math_bits_Len32 : Nat
 math_bits_Len64 : Nat
 transfer_rename : Nat
 pairset_DropV : Nat
 transfer_Copy_1 : Nat
 pairset_DropL : Nat
 transfer_Move_1 : Nat
 transfer_Define : Nat
 pairset_find : Nat
 alu_operation : Nat
 execute_state_at : Nat
 slices_siftDownCmpFunc_Pair : Nat
 slices_nextPowerOfTwo : Nat
 slices_xorshift_Next : Nat
 slices_medianAdjacentCmpFunc_Pair : Nat
 slices_medianCmpFunc_Pair : Nat
 pairset_Union : Nat
 pairset_filter : Nat
 pairset_DropV_1 : Nat
 pairset_DropL_1 : Nat
 pairset_Add : Nat
 alu_operation_1 : Nat
 alu_operation_2 : Nat
 alu_operation_3 : Nat
 alu_operation_4 : Nat
 alu_operation_5 : Nat
 alu_operation_6 : Nat
 alu_operation_7 : Nat
 alu_operation_8 : Nat
 alu_operation_9 : Nat
 alu_operation_10 : Nat
 alu_operation_11 : Nat
 alu_truth : Nat
 alu_operation_12 : Nat
 slices_order2CmpFunc_Pair : Nat
 law11_PairsetMatchesReference : Nat
 law11_PairsetMatchesSets : Nat
 law11_PairsetOrder : Nat
 law11_PairsetSubsets : Nat
 law23_LivenessMatchesReference : Nat
 law23_LivenessEquations : Nat
 law23_LivenessSound : Nat
 law23_LivenessNecessary : Nat
 law23_LivenessAppended : Nat
 law11_PairsetDrops : Nat
 law11_PairsetKeeps : Nat
 law11_awake : Nat
 ref11_Make : Nat
 pairset_Sorted : Nat
 ref11_Sorted : Nat
 pairset_Subset : Nat
 law23_awake : Nat
 ref23_Used : Nat
 ref23_Defines : Nat
 ref07_Numbers : Nat
 liveness_Uses : Nat
 liveness_Defs : Nat
 ref23_Same : Nat
 liveness_In : Nat
 ref23_In : Nat
 liveness_Out : Nat
 ref23_Out : Nat
 ref23_Has : Nat
 ref09_Right : Nat
 ref09_Exec : Nat
 ref09_Step : Nat
 ref09_Copy : Nat
 law11_spoil : Nat
 liveness_scan : Nat
 liveness_set_sorted : Nat
 liveness_solve : Nat
 ref23_live : Nat
 liveness_exit : Nat
 ref09_Start : Nat
 ref06_Eval : Nat
 liveness_scan_1 : Nat
 slices_Sort_int : Nat
 ref06_bits : Nat
 ref06_half : Nat
 ref06_truth : Nat
 slices_pdqsortOrdered_int : Nat
 ref06_bit : Nat
 slices_insertionSortOrdered_int : Nat
 slices_heapSortOrdered_int : Nat
 slices_breakPatternsOrdered_int : Nat
 slices_choosePivotOrdered_int : Nat
 slices_reverseRangeOrdered_int : Nat
 slices_partialInsertionSortOrdered_int : Nat
 cmp_Less_int : Nat
 slices_partitionEqualOrdered_int : Nat
 slices_partitionOrdered_int : Nat
 slices_siftDownOrdered_int : Nat
 slices_medianAdjacentOrdered_int : Nat
 slices_medianOrdered_int : Nat
 cmp_isNaN_int : Nat
 slices_order2Ordered_int : Nat
 law12_TransferMatchesReference : Nat
 law12_TransferSound : Nat
 law12_TransferComplete : Nat
 law12_TransferMonotone : Nat
 law12_TransferKeeps : Nat
 law14_BlockcheckMatchesReference : Nat
 law14_BlockcheckSound : Nat
 law14_BlockcheckMonotone : Nat
 law14_BlockcheckSteps : Nat
 law14_BlockcheckKeeps : Nat
 law12_awake : Nat
 law12_known : Nat
 law12_holds : Nat
 law12_subset : Nat
 law14_awake : Nat
 law14_right : Nat
 ref14_Same : Nat
 law14_result : Nat
 ref10_Step : Nat
 ref10_Read : Nat
 law22_SpillallMatchesReference : Nat
 law22_SpillallKeeps : Nat
 law22_SpillallSlots : Nat
 ref22_Cert : Nat
 ref22_Block : Nat
 ref22_move : Nat
 law04_LocationBijection : Nat
 law04_LocationTexts : Nat
 law04_LocationMatchesReference : Nat
 law04_LocationRange : Nat
 law04_awake : Nat
 location_Parse : Nat
 location_Text : Nat
 ref04_Parse : Nat
 ref04_Text : Nat
 strconv_Itoa : Nat
 ref04_Number : Nat
 ref04_Decimal : Nat
 ty_bcfail : Nat
@[simp] def Jq7q (p : Nums) : List IOp := [qo 4 (.call p.law16_awake []), qo 5 (.un .not (.t 4)), qo 6 (.mov (.t 5)), ⟨(some 7), (.load (some 8) (.t 1)), (some (6, false)), false⟩, ⟨(some 8), (.call p.ref16_Few [(.t 7)]), (some (6, false)), false⟩, ⟨(some 9), (.un .not (.t 8)), (some (6, false)), false⟩, qo 10 (.pick (.t 6) (.c (.d (.bool true))) (.t 9))]
def Jq7m (p : Nums) : IC := (.region (Jq7q p) [])
@[simp] theorem Je7m {p : Nums} : EqI (Jq7m p) (.region (Jq7q p) []) := eqi
def Jq7n (p : Nums) : IC := (.seq (.region [⟨(some 11), (.call p.law16_awake []), none, false⟩, ⟨(some 2), (.asg (.t 11)), none, false⟩] []) .ret)
@[simp] theorem Je7n {p : Nums} : EqI (Jq7n p) (.seq (.region [⟨(some 11), (.call p.law16_awake []), none, false⟩, ⟨(some 2), (.asg (.t 11)), none, false⟩] []) .ret) := eqi
@[simp] def Jq7r (p : Nums) : List IOp := [qo 12 (.load (some 8) (.t 1)), qo 13 (.call p.ref16_Copy [(.t 12)]), qo 3 (.alloc [(zi 0), (zi 0), .nils, (zi 0), (zi 0), (zi 0), .nils, .nils]), qn (.store 8 (.t 3) (.t 13))]
def Jq7o (p : Nums) : IC := (.region (Jq7r p) [])
@[simp] theorem Je7o {p : Nums} : EqI (Jq7o p) (.region (Jq7r p) []) := eqi
@[simp] def Jq7s (p : Nums) : List IOp := [qo 18 (.load (some 8) (.t 3)), qo 19 (.load (some 8) (.t 1)), qo 20 (.call p.ref16_Same [(.t 18), (.t 19)]), qo 2 (.asg (.t 20))]
def Jq7p (p : Nums) : IC := (.region (Jq7s p) [])
@[simp] theorem Je7p {p : Nums} : EqI (Jq7p p) (.region (Jq7s p) []) := eqi
def Jtab (p : Nums) : IC := (.seq (.region [⟨(some 1), (.box (.t 0)), none, false⟩, ⟨(some 2), (.asg (.c (.d (.bool false)))), none, false⟩] []) (.seq (.seq (Jq7m p) (.cond (.t 10) (Jq7n p) .skip)) (.seq (Jq7o p) (.seq (.region [⟨(some 14), (.load (some 8) (.t 3)), none, false⟩, ⟨(some 15), (.call p.checker_Check [(.t 14)]), none, false⟩] []) (.seq (.region [⟨(some 16), (.load (some 8) (.t 3)), none, false⟩, ⟨(some 17), (.call p.checker_Valid [(.t 16)]), none, false⟩] []) (.seq (Jq7p p) .ret))))))
@[simp] def Jq80 (p : Nums) : List IOp := [qo 6 (.build [(zi 0), (zi 0), (zi 0), (zi 0)] [(0, 1, (ci 3))]), qo 1 (.alloc [(zi 0), (zi 0), (zi 0), (zi 0)]), qn (.store 4 (.t 1) (.t 6))]
def Jq7t (p : Nums) : IC := (.region (Jq80 p) [])
@[simp] theorem Je7t {p : Nums} : EqI (Jq7t p) (.region (Jq80 p) []) := eqi
@[simp] def Jq81 (p : Nums) : List IOp := [qo 7 (.load (some 4) (.t 1)), qo 8 (.build [.nils, (zi 0), (zi 0), (zi 0), (zi 0)] [(1, 4, (.t 7))]), qo 9 (.bslice 5 1 [(.sl []), (.int .i64 0), (.int .i64 0), (.int .i64 0), (.int .i64 0)] [(0, (.t 8))]), qo 10 (.build [(zi 0), (zi 0), .nils] [(1, 1, (ci 1)), (2, 1, (.t 9))]), qo 11 (.load (some 4) (.t 1)), qo 12 (.build [.nils, (zi 0), (zi 0), (zi 0), (zi 0)] [(1, 4, (.t 11))]), qo 13 (.bslice 5 1 [(.sl []), (.int .i64 0), (.int .i64 0), (.int .i64 0), (.int .i64 0)] [(0, (.t 12))]), qo 14 (.build [(zi 0), (zi 0), (zi 0), .nils] [(1, 1, (ci 1)), (3, 1, (.t 13))]), qo 15 (.bslice 2 0 [(.int .i64 0), (.int .i64 0)] []), qo 16 (.bslice 1 1 [(.sl [])] [(0, (.t 15))]), qo 17 (.build [(zi 0), (zi 0), .nils, (zi 0), (zi 0), (zi 0), .nils, .nils] [(0, 3, (.t 10)), (3, 4, (.t 14)), (7, 1, (.t 16))]), qo 2 (.alloc [(zi 0), (zi 0), .nils, (zi 0), (zi 0), (zi 0), .nils, .nils]), qn (.store 8 (.t 2) (.t 17))]
def Jq7u (p : Nums) : IC := (.region (Jq81 p) [])
@[simp] theorem Je7u {p : Nums} : EqI (Jq7u p) (.region (Jq81 p) []) := eqi
@[simp] def Jq82 (p : Nums) : List IOp := [qo 18 (.load (some 8) (.t 2)), qo 3 (.alloc [(zi 0), (zi 0), .nils, (zi 0), (zi 0), (zi 0), .nils, .nils]), qn (.store 8 (.t 3) (.t 18))]
def Jq7v (p : Nums) : IC := (.region (Jq82 p) [])
@[simp] theorem Je7v {p : Nums} : EqI (Jq7v p) (.region (Jq82 p) []) := eqi
@[simp] def Jq83 (p : Nums) : List IOp := [qo 19 (.build [(zi 0), (zi 0)] [(0, 1, (ci 0)), (1, 1, (ci 0))]), qo 20 (.bslice 2 1 [(.int .i64 0), (.int .i64 0)] [(0, (.t 19))]), qo 21 (.bslice 1 1 [(.sl [])] [(0, (.t 20))]), qo 22 (.faddr 7 (.t 3)), qn (.store 1 (.t 22) (.t 21))]
def Jq7w (p : Nums) : IC := (.region (Jq83 p) [])
@[simp] theorem Je7w {p : Nums} : EqI (Jq7w p) (.region (Jq83 p) []) := eqi
@[simp] def Jq84 (p : Nums) : List IOp := [qo 23 (.load (some 8) (.t 2)), qo 24 (.call p.checker_Check [(.t 23)]), qo 4 (.alloc [(zi 0), (zi 0), (zi 0), (zi 0), (zi 0), (zi 0), (zi 0)]), qn (.store 7 (.t 4) (.t 24))]
def Jq7x (p : Nums) : IC := (.region (Jq84 p) [])
@[simp] theorem Je7x {p : Nums} : EqI (Jq7x p) (.region (Jq84 p) []) := eqi
@[simp] def Jq85 (p : Nums) : List IOp := [qo 25 (.load (some 8) (.t 3)), qo 26 (.call p.checker_Check [(.t 25)]), qo 5 (.alloc [(zi 0), (zi 0), (zi 0), (zi 0), (zi 0), (zi 0), (zi 0)]), qn (.store 7 (.t 5) (.t 26))]
def Jq7y (p : Nums) : IC := (.region (Jq85 p) [])
@[simp] theorem Je7y {p : Nums} : EqI (Jq7y p) (.region (Jq85 p) []) := eqi
@[simp] def Jq86 (p : Nums) : List IOp := [qo 27 (.load (some 7) (.t 4)), qo 28 (.build [(zi 0), (zi 0), (zi 0), (zi 0), (zi 0), (zi 0), (zi 0)] [(0, 1, (ci 21)), (3, 1, (ci 1)), (5, 1, (ci 2))]), qo 29 (.eqs false [.int, .int, .int, .int, .int, .int, .int] (.t 27) (.t 28)), qo 30 (.mov (.t 29)), ⟨(some 31), (.load (some 7) (.t 5)), (some (30, true)), false⟩, ⟨(some 32), (.build [(zi 0), (zi 0), (zi 0), (zi 0), (zi 0), (zi 0), (zi 0)] [(3, 1, (ci 1)), (5, 1, (ci 4)), (6, 1, (ci 1))]), (some (30, true)), false⟩, ⟨(some 33), (.eqs false [.int, .int, .int, .int, .int, .int, .int] (.t 31) (.t 32)), (some (30, true)), false⟩, qo 34 (.pick (.t 30) (.t 33) (.c (.d (.bool false)))), qo 35 (.mov (.t 34)), ⟨(some 36), (.load (some 8) (.t 2)), (some (35, true)), false⟩, ⟨(some 37), (.call p.checker_Valid [(.t 36)]), (some (35, true)), false⟩, ⟨(some 38), (.bin .eql (.t 37) (ci 0)), (some (35, true)), false⟩, qo 39 (.pick (.t 35) (.t 38) (.c (.d (.bool false)))), qo 40 (.mov (.t 39)), ⟨(some 41), (.build [(zi 0), (zi 0), .nils, (zi 0), (zi 0), (zi 0), .nils, .nils] []), (some (40, true)), false⟩, ⟨(some 42), (.call p.checker_Valid [(.t 41)]), (some (40, true)), false⟩, ⟨(some 43), (.bin .eql (.t 42) (ci 14)), (some (40, true)), false⟩, qo 44 (.pick (.t 40) (.t 43) (.c (.d (.bool false)))), qo 45 (.mov (.t 44)), ⟨(some 46), (.load (some 8) (.t 3)), (some (45, true)), false⟩, ⟨(some 47), (.call p.checker_Bound [(.t 46), (ci 1)]), (some (45, true)), false⟩, ⟨(some 48), (.bin .eql (.t 47) (ci 12)), (some (45, true)), false⟩, qo 49 (.pick (.t 45) (.t 48) (.c (.d (.bool false)))), qo 50 (.mov (.t 49)), ⟨(some 51), (.build [(zi 0), (zi 0), .nils, (zi 0), (zi 0), (zi 0), .nils, .nils] []), (some (50, true)), false⟩, ⟨(some 52), (.call p.checker_Check [(.t 51)]), (some (50, true)), false⟩, ⟨(some 53), (.build [(zi 0), (zi 0), (zi 0), (zi 0), (zi 0), (zi 0), (zi 0)] [(0, 1, (ci 14))]), (some (50, true)), false⟩, ⟨(some 54), (.eqs false [.int, .int, .int, .int, .int, .int, .int] (.t 52) (.t 53)), (some (50, true)), false⟩, qo 55 (.pick (.t 50) (.t 54) (.c (.d (.bool false)))), qo 0 (.asg (.t 55))]
def Jq7z (p : Nums) : IC := (.region (Jq86 p) [])
@[simp] theorem Je7z {p : Nums} : EqI (Jq7z p) (.region (Jq86 p) []) := eqi
def Jtac (p : Nums) : IC := (.seq (.region [⟨(some 0), (.asg (.c (.d (.bool false)))), none, false⟩] []) (.seq (Jq7t p) (.seq (Jq7u p) (.seq (Jq7v p) (.seq (Jq7w p) (.seq (Jq7x p) (.seq (Jq7y p) (.seq (Jq7z p) .ret))))))))
@[simp] def Jqix (p : Nums) : List IOp := [qo 3 (.faddr 0 (.t 1)), qo 4 (.load (some 3) (.t 3)), qo 5 (.call p.ref07_Few [(.t 4)]), qo 6 (.mov (.t 5)), ⟨(some 7), (.faddr 3 (.t 1)), (some (6, true)), false⟩, ⟨(some 8), (.load (some 4) (.t 7)), (some (6, true)), false⟩, ⟨(some 9), (.call p.ref08_Few [(.t 8)]), (some (6, true)), false⟩, qo 10 (.pick (.t 6) (.t 9) (.c (.d (.bool false)))), qo 11 (.mov (.t 10)), ⟨(some 12), (.faddr 7 (.t 1)), (some (11, true)), false⟩, ⟨(some 13), (.load none (.t 12)), (some (11, true)), false⟩, ⟨(some 14), (.call p.ref15_Few [(.t 13)]), (some (11, true)), false⟩, qo 15 (.pick (.t 11) (.t 14) (.c (.d (.bool false)))), qo 2 (.asg (.t 15))]
def Jqiw (p : Nums) : IC := (.region (Jqix p) [])
@[simp] theorem Jeiw {p : Nums} : EqI (Jqiw p) (.region (Jqix p) []) := eqi
def Jtbk (p : Nums) : IC := (.seq (.region [⟨(some 1), (.box (.t 0)), none, false⟩, ⟨(some 2), (.asg (.c (.d (.bool false)))), none, false⟩] []) (.seq (Jqiw p) .ret))
@[simp] def Jq58 (p : Nums) : List IOp := [qo 5 (.faddr 0 (.t 1)), qo 6 (.load (some 3) (.t 5)), qo 7 (.call p.source_Check [(.t 6)]), qo 3 (.asg (.t 7))]
def Jq51 (p : Nums) : IC := (.region (Jq58 p) [])
@[simp] theorem Je51 {p : Nums} : EqI (Jq51 p) (.region (Jq58 p) []) := eqi
def Jq52 (p : Nums) : IC := (.seq (.region [⟨(some 10), (.mov (.t 3)), none, false⟩, ⟨(some 2), (.asg (.t 10)), none, false⟩] []) .ret)
@[simp] theorem Je52 {p : Nums} : EqI (Jq52 p) (.seq (.region [⟨(some 10), (.mov (.t 3)), none, false⟩, ⟨(some 2), (.asg (.t 10)), none, false⟩] []) .ret) := eqi
@[simp] def Jq59 (p : Nums) : List IOp := [qo 11 (.faddr 3 (.t 1)), qo 12 (.load (some 4) (.t 11)), qo 13 (.call p.machine_Check [(.t 12)]), qo 4 (.asg (.t 13))]
def Jq53 (p : Nums) : IC := (.region (Jq59 p) [])
@[simp] theorem Je53 {p : Nums} : EqI (Jq53 p) (.region (Jq59 p) []) := eqi
def Jq54 (p : Nums) : IC := (.seq (.region [⟨(some 16), (.mov (.t 4)), none, false⟩, ⟨(some 2), (.asg (.t 16)), none, false⟩] []) .ret)
@[simp] theorem Je54 {p : Nums} : EqI (Jq54 p) (.seq (.region [⟨(some 16), (.mov (.t 4)), none, false⟩, ⟨(some 2), (.asg (.t 16)), none, false⟩] []) .ret) := eqi
@[simp] def Jq5a (p : Nums) : List IOp := [qo 17 (.faddr 0 (.t 1)), qo 18 (.faddr 2 (.t 17)), qo 19 (.load none (.t 18)), qo 20 (.len (.t 19)), qo 21 (.faddr 3 (.t 1)), qo 22 (.faddr 3 (.t 21)), qo 23 (.load none (.t 22)), qo 24 (.len (.t 23)), qo 25 (.bin .neq (.t 20) (.t 24)), qo 26 (.mov (.t 25)), ⟨(some 27), (.faddr 0 (.t 1)), (some (26, false)), false⟩, ⟨(some 28), (.faddr 0 (.t 27)), (some (26, false)), false⟩, ⟨(some 29), (.load none (.t 28)), (some (26, false)), false⟩, ⟨(some 30), (.faddr 3 (.t 1)), (some (26, false)), false⟩, ⟨(some 31), (.faddr 0 (.t 30)), (some (26, false)), false⟩, ⟨(some 32), (.load none (.t 31)), (some (26, false)), false⟩, ⟨(some 33), (.bin .neq (.t 29) (.t 32)), (some (26, false)), false⟩, qo 34 (.pick (.t 26) (.c (.d (.bool true))) (.t 33))]
def Jq55 (p : Nums) : IC := (.region (Jq5a p) [])
@[simp] theorem Je55 {p : Nums} : EqI (Jq55 p) (.region (Jq5a p) []) := eqi
def Jq56 (p : Nums) : IC := (.seq (.region [⟨(some 2), (.asg (.c (.d (.int .i64 14)))), none, false⟩] []) .ret)
@[simp] theorem Je56 {p : Nums} : EqI (Jq56 p) (.seq (.region [⟨(some 2), (.asg (.c (.d (.int .i64 14)))), none, false⟩] []) .ret) := eqi
@[simp] def Jq5b (p : Nums) : List IOp := [qo 35 (.faddr 7 (.t 1)), qo 36 (.load none (.t 35)), qo 37 (.faddr 0 (.t 1)), qo 38 (.faddr 2 (.t 37)), qo 39 (.load none (.t 38)), qo 40 (.len (.t 39)), qo 41 (.faddr 0 (.t 1)), qo 42 (.faddr 1 (.t 41)), qo 43 (.load none (.t 42)), qo 44 (.faddr 3 (.t 1)), qo 45 (.faddr 1 (.t 44)), qo 46 (.load none (.t 45)), qo 47 (.faddr 3 (.t 1)), qo 48 (.faddr 2 (.t 47)), qo 49 (.load none (.t 48)), qo 50 (.call p.edge_Valid [(.t 36), (.t 40), (.t 43), (.t 46), (.t 49)]), qo 2 (.asg (.t 50))]
def Jq57 (p : Nums) : IC := (.region (Jq5b p) [])
@[simp] theorem Je57 {p : Nums} : EqI (Jq57 p) (.region (Jq5b p) []) := eqi
def Jta3 (p : Nums) : IC := (.seq (.region [⟨(some 1), (.box (.t 0)), none, false⟩, ⟨(some 2), (.asg (.c (.d (.int .i64 0)))), none, false⟩] []) (.seq (.seq (Jq51 p) (.seq (.region [⟨(some 8), (.mov (.t 3)), none, false⟩, ⟨(some 9), (.bin .neq (.t 8) (.c (.d (.int .i64 0)))), none, false⟩] []) (.cond (.t 9) (Jq52 p) .skip))) (.seq (.seq (Jq53 p) (.seq (.region [⟨(some 14), (.mov (.t 4)), none, false⟩, ⟨(some 15), (.bin .neq (.t 14) (.c (.d (.int .i64 0)))), none, false⟩] []) (.cond (.t 15) (Jq54 p) .skip))) (.seq (.seq (Jq55 p) (.cond (.t 34) (Jq56 p) .skip)) (.seq (Jq57 p) .ret)))))
@[simp] def Jq4l (p : Nums) : List IOp := [qo 1 (.box (.t 0)), qo 2 (.alloc [(zi 0), (zi 0), (zi 0), (zi 0), (zi 0), (zi 0), (zi 0)])]
def Jq40 (p : Nums) : IC := (.region (Jq4l p) [])
@[simp] theorem Je40 {p : Nums} : EqI (Jq40 p) (.region (Jq4l p) []) := eqi
@[simp] def Jq4u (p : Nums) : List IOp := [qo 12 (.load (some 8) (.t 1)), qo 13 (.call p.checker_Valid [(.t 12)]), qo 3 (.asg (.t 13))]
def Jq4b (p : Nums) : IC := (.region (Jq4u p) [])
@[simp] theorem Je4b {p : Nums} : EqI (Jq4b p) (.region (Jq4u p) []) := eqi
@[simp] def Jq4v (p : Nums) : List IOp := [qo 16 (.mov (.t 3)), qo 17 (.build [(zi 0), (zi 0), (zi 0), (zi 0), (zi 0), (zi 0), (zi 0)] [(0, 1, (.t 16))]), qn (.store 7 (.t 2) (.t 17))]
def Jq4e (p : Nums) : IC := (.region (Jq4v p) [])
@[simp] theorem Je4e {p : Nums} : EqI (Jq4e p) (.region (Jq4v p) []) := eqi
@[simp] def Jq4w (p : Nums) : List IOp := [qo 18 (.load (some 8) (.t 1)), qo 19 (.call p.checker_begin [(.t 18)]), qo 4 (.alloc [(zi 0), (zi 0), (zi 0), (zi 0), (zi 0), (zi 0), (zi 0)]), qn (.store 7 (.t 4) (.t 19))]
def Jq4f (p : Nums) : IC := (.region (Jq4w p) [])
@[simp] theorem Je4f {p : Nums} : EqI (Jq4f p) (.region (Jq4w p) []) := eqi
@[simp] def Jq4x (p : Nums) : List IOp := [qo 20 (.faddr 0 (.t 4)), qo 21 (.load none (.t 20)), qo 22 (.bin .neq (.t 21) (ci 0))]
def Jq4g (p : Nums) : IC := (.region (Jq4x p) [])
@[simp] theorem Je4g {p : Nums} : EqI (Jq4g p) (.region (Jq4x p) []) := eqi
def Jq4h (p : Nums) : IC := (.seq (.region [⟨(some 23), (.load (some 7) (.t 4)), none, false⟩, ⟨none, (.store 7 (.t 2) (.t 23)), none, false⟩] []) .ret)
@[simp] theorem Je4h {p : Nums} : EqI (Jq4h p) (.seq (.region [⟨(some 23), (.load (some 7) (.t 4)), none, false⟩, ⟨none, (.store 7 (.t 2) (.t 23)), none, false⟩] []) .ret) := eqi
@[simp] def Jq4y (p : Nums) : List IOp := [qo 24 (.faddr 0 (.t 1)), qo 25 (.faddr 2 (.t 24)), qo 26 (.load none (.t 25)), qo 27 (.len (.t 26)), qo 28 (.mov (ci 0))]
def Jq4i (p : Nums) : IC := (.region (Jq4y p) [])
@[simp] theorem Je4i {p : Nums} : EqI (Jq4i p) (.region (Jq4y p) []) := eqi
@[simp] def Jq4z (p : Nums) : List IOp := [qo 30 (.mov (.t 28)), qo 31 (.iaddr 5 (.t 26) (.t 28)), qo 32 (.load (some 5) (.t 31)), qo 6 (.alloc [.nils, (zi 0), (zi 0), (zi 0), (zi 0)]), qo 5 (.asg (.t 30)), qn (.store 5 (.t 6) (.t 32))]
def Jq4j (p : Nums) : IC := (.region (Jq4z p) [])
@[simp] theorem Je4j {p : Nums} : EqI (Jq4j p) (.region (Jq4z p) []) := eqi
@[simp] def Jq50 (p : Nums) : List IOp := [qp 33 (.load (some 5) (.t 6)), qp 34 (.faddr 3 (.t 1)), qp 35 (.faddr 3 (.t 34)), qp 36 (.load none (.t 35)), qp 37 (.mov (.t 5)), qp 38 (.iaddr 5 (.t 36) (.t 37)), qp 39 (.load (some 5) (.t 38)), qp 40 (.faddr 7 (.t 1)), qp 41 (.load none (.t 40)), qp 42 (.mov (.t 5)), qp 43 (.iaddr 1 (.t 41) (.t 42)), qp 44 (.load none (.t 43)), qp 45 (.call p.blockcheck_Check [(.t 33), (.t 39), (.t 44), (ci 1048576)]), qp 7 (.alloc [.nils, (zi 0), (zi 0), (zi 0), (zi 0)]), qn (.store 5 (.t 7) (.t 45))]
def Jq4k (p : Nums) : IC := (.region (Jq50 p) [])
@[simp] theorem Je4k {p : Nums} : EqI (Jq4k p) (.region (Jq50 p) []) := eqi
@[simp] def Jq4m (p : Nums) : List IOp := [qp 46 (.faddr 3 (.t 4)), qp 47 (.load none (.t 46)), qp 48 (.bin .add (.t 47) (ci 1)), qp 49 (.faddr 5 (.t 4)), qp 50 (.load none (.t 49)), qp 51 (.faddr 3 (.t 7)), qp 52 (.load none (.t 51)), qp 53 (.bin .add (.t 50) (.t 52)), qp 54 (.faddr 6 (.t 4)), qp 55 (.load none (.t 54)), qp 56 (.faddr 4 (.t 7)), qp 57 (.load none (.t 56)), qp 58 (.mx (.t 55) (.t 57)), qp 59 (.faddr 3 (.t 4)), qm (.storeq 1 (.t 59) (.t 48) [(51, 1), (56, 1)]), qp 60 (.faddr 5 (.t 4)), qm (.storeq 1 (.t 60) (.t 53) [(56, 1)]), qo 61 (.faddr 6 (.t 4)), qn (.store 1 (.t 61) (.t 58))]
def Jq41 (p : Nums) : IC := (.region (Jq4m p) [])
@[simp] theorem Je41 {p : Nums} : EqI (Jq41 p) (.region (Jq4m p) []) := eqi
@[simp] def Jq4n (p : Nums) : List IOp := [qo 62 (.faddr 1 (.t 7)), qo 63 (.load none (.t 62)), qo 64 (.bin .neq (.t 63) (ci 0))]
def Jq42 (p : Nums) : IC := (.region (Jq4n p) [])
@[simp] theorem Je42 {p : Nums} : EqI (Jq42 p) (.region (Jq4n p) []) := eqi
@[simp] def Jq4o (p : Nums) : List IOp := [qp 65 (.faddr 1 (.t 7)), qp 66 (.load none (.t 65)), qp 67 (.mov (.t 5)), qp 68 (.faddr 2 (.t 7)), qp 69 (.load none (.t 68)), qp 70 (.faddr 0 (.t 4)), qm (.storeq 1 (.t 70) (.t 66) [(68, 1)]), qp 71 (.faddr 1 (.t 4)), qm (.storeq 1 (.t 71) (.t 67) [(68, 1)]), qo 72 (.faddr 2 (.t 4)), qn (.store 1 (.t 72) (.t 69))]
def Jq43 (p : Nums) : IC := (.region (Jq4o p) [])
@[simp] theorem Je43 {p : Nums} : EqI (Jq43 p) (.region (Jq4o p) []) := eqi
@[simp] def Jq4p (p : Nums) : List IOp := [qo 73 (.faddr 1 (.t 6)), qo 74 (.load (some 4) (.t 73)), qo 75 (.call p.source_Successors [(.t 74)]), qo 76 (.len (.t 75)), qo 77 (.mov (ci 0))]
def Jq44 (p : Nums) : IC := (.region (Jq4p p) [])
@[simp] theorem Je44 {p : Nums} : EqI (Jq44 p) (.region (Jq4p p) []) := eqi
@[simp] def Jq4q (p : Nums) : List IOp := [qo 79 (.mov (.t 77)), qo 80 (.iaddr 1 (.t 75) (.t 77)), qo 81 (.load none (.t 80)), qo 8 (.asg (.t 79)), qo 9 (.asg (.t 81))]
def Jq45 (p : Nums) : IC := (.region (Jq4q p) [])
@[simp] theorem Je45 {p : Nums} : EqI (Jq45 p) (.region (Jq4q p) []) := eqi
@[simp] def Jq4r (p : Nums) : List IOp := [qp 82 (.faddr 4 (.t 4)), qp 83 (.load none (.t 82)), qp 84 (.bin .add (.t 83) (ci 1)), qp 85 (.faddr 5 (.t 4)), qp 86 (.load none (.t 85)), qp 87 (.bin .add (.t 86) (ci 1)), qp 88 (.faddr 0 (.t 7)), qp 89 (.load none (.t 88)), qp 90 (.len (.t 89)), qp 91 (.bin .add (.t 87) (.t 90)), qp 92 (.faddr 7 (.t 1)), qp 93 (.load none (.t 92)), qp 94 (.mov (.t 9)), qp 95 (.iaddr 1 (.t 93) (.t 94)), qp 96 (.load none (.t 95)), qp 97 (.len (.t 96)), qp 98 (.bin .add (.t 91) (.t 97)), qp 99 (.faddr 4 (.t 4)), qm (.storeq 1 (.t 99) (.t 84) [(88, 1), (92, 1), (95, 1)]), qo 100 (.faddr 5 (.t 4)), qn (.store 1 (.t 100) (.t 98))]
def Jq46 (p : Nums) : IC := (.region (Jq4r p) [])
@[simp] theorem Je46 {p : Nums} : EqI (Jq46 p) (.region (Jq4r p) []) := eqi
@[simp] def Jq4s (p : Nums) : List IOp := [qp 102 (.faddr 0 (.t 7)), qp 103 (.load none (.t 102)), qp 104 (.faddr 7 (.t 1)), qp 105 (.load none (.t 104)), qp 106 (.mov (.t 9)), qp 107 (.iaddr 1 (.t 105) (.t 106)), qp 108 (.load none (.t 107)), qp 109 (.call p.edge_Implies [(.t 103), (.t 108)]), qp 101 (.mov (.t 109)), qp 110 (.ext (.t 101) 0), qp 111 (.ext (.t 101) 1), qp 10 (.alloc [(zi 0), (zi 0)]), qm (.storeq 2 (.t 10) (.t 110) []), qo 11 (.asg (.t 111))]
def Jq47 (p : Nums) : IC := (.region (Jq4s p) [])
@[simp] theorem Je47 {p : Nums} : EqI (Jq47 p) (.region (Jq4s p) []) := eqi
@[simp] def Jq4t (p : Nums) : List IOp := [qo 114 (.mov (.t 11)), qo 115 (.mov (.t 5)), qo 116 (.mov (.t 8)), qo 117 (.faddr 0 (.t 4)), qn (.store 1 (.t 117) (.t 114)), qo 118 (.faddr 1 (.t 4)), qn (.store 1 (.t 118) (.t 115)), qo 119 (.faddr 2 (.t 4)), qn (.store 1 (.t 119) (.t 116))]
def Jq48 (p : Nums) : IC := (.region (Jq4t p) [])
@[simp] theorem Je48 {p : Nums} : EqI (Jq48 p) (.region (Jq4t p) []) := eqi
def Jq49 (p : Nums) : IC := (.seq (Jq45 p) (.seq (Jq46 p) (.seq (Jq47 p) (.seq (.region [⟨(some 112), (.mov (.t 11)), none, false⟩, ⟨(some 113), (.bin .neq (.t 112) (.c (.d (.int .i64 0)))), none, false⟩] []) (.cond (.t 113) (.seq (Jq48 p) (.exit 0)) .skip)))))
@[simp] theorem Je49 {p : Nums} : EqI (Jq49 p) (.seq (Jq45 p) (.seq (Jq46 p) (.seq (Jq47 p) (.seq (.region [⟨(some 112), (.mov (.t 11)), none, false⟩, ⟨(some 113), (.bin .neq (.t 112) (.c (.d (.int .i64 0)))), none, false⟩] []) (.cond (.t 113) (.seq (Jq48 p) (.exit 0)) .skip))))) := eqi
def Jq4a (p : Nums) : IC := (.seq (.region [⟨(some 78), (.bin .lss (.t 77) (.t 76)), none, false⟩] []) (.seq (.cond (.t 78) .skip (.exit 2)) (.seq (.block 3 (Jq49 p)) (.region [⟨(some 120), (.bin .add (.t 77) (.c (.d (.int .i64 1)))), none, false⟩, ⟨(some 77), (.mov (.t 120)), none, false⟩] []))))
@[simp] theorem Je4a {p : Nums} : EqI (Jq4a p) (.seq (.region [⟨(some 78), (.bin .lss (.t 77) (.t 76)), none, false⟩] []) (.seq (.cond (.t 78) .skip (.exit 2)) (.seq (.block 3 (Jq49 p)) (.region [⟨(some 120), (.bin .add (.t 77) (.c (.d (.int .i64 1)))), none, false⟩, ⟨(some 77), (.mov (.t 120)), none, false⟩] [])))) := eqi
def Jq4c (p : Nums) : IC := (.seq (Jq4j p) (.seq (Jq4k p) (.seq (Jq41 p) (.seq (.seq (Jq42 p) (.cond (.t 64) (.seq (Jq43 p) (.exit 0)) .skip)) (.seq (Jq44 p) (.block 2 (.loop (Jq4a p))))))))
@[simp] theorem Je4c {p : Nums} : EqI (Jq4c p) (.seq (Jq4j p) (.seq (Jq4k p) (.seq (Jq41 p) (.seq (.seq (Jq42 p) (.cond (.t 64) (.seq (Jq43 p) (.exit 0)) .skip)) (.seq (Jq44 p) (.block 2 (.loop (Jq4a p)))))))) := eqi
def Jq4d (p : Nums) : IC := (.seq (.region [⟨(some 29), (.bin .lss (.t 28) (.t 27)), none, false⟩] []) (.seq (.cond (.t 29) .skip (.exit 0)) (.seq (.block 1 (Jq4c p)) (.region [⟨(some 121), (.bin .add (.t 28) (.c (.d (.int .i64 1)))), none, false⟩, ⟨(some 28), (.mov (.t 121)), none, false⟩] []))))
@[simp] theorem Je4d {p : Nums} : EqI (Jq4d p) (.seq (.region [⟨(some 29), (.bin .lss (.t 28) (.t 27)), none, false⟩] []) (.seq (.cond (.t 29) .skip (.exit 0)) (.seq (.block 1 (Jq4c p)) (.region [⟨(some 121), (.bin .add (.t 28) (.c (.d (.int .i64 1)))), none, false⟩, ⟨(some 28), (.mov (.t 121)), none, false⟩] [])))) := eqi
def Jta2 (p : Nums) : IC := (.seq (Jq40 p) (.seq (.seq (Jq4b p) (.seq (.region [⟨(some 14), (.mov (.t 3)), none, false⟩, ⟨(some 15), (.bin .neq (.t 14) (.c (.d (.int .i64 0)))), none, false⟩] []) (.cond (.t 15) (.seq (Jq4e p) .ret) .skip))) (.seq (Jq4f p) (.seq (.seq (Jq4g p) (.cond (.t 22) (Jq4h p) .skip)) (.seq .skip (.seq (.seq (Jq4i p) (.block 0 (.loop (Jq4d p)))) (.seq (.region [⟨(some 122), (.load (some 7) (.t 4)), none, false⟩, ⟨none, (.store 7 (.t 2) (.t 122)), none, false⟩] []) .ret)))))))
@[simp] def Jq3v (p : Nums) : List IOp := [qp 8 (.faddr 0 (.t 2)), qp 9 (.load (some 3) (.t 8)), qp 10 (.call p.source_Code [(.t 9)]), qp 11 (.faddr 3 (.t 2)), qp 12 (.load (some 4) (.t 11)), qp 13 (.call p.machine_Code [(.t 12)]), qp 14 (.bin .add (.t 10) (.t 13)), qp 15 (.faddr 0 (.t 2)), qp 16 (.faddr 2 (.t 15)), qp 17 (.load none (.t 16)), qp 18 (.len (.t 17)), qo 19 (.bin .add (.t 14) (.t 18)), qo 20 (.bin .add (.t 19) (ci 1)), qo 5 (.asg (.t 20))]
def Jq3p (p : Nums) : IC := (.region (Jq3v p) [])
@[simp] theorem Je3p {p : Nums} : EqI (Jq3p p) (.region (Jq3v p) []) := eqi
@[simp] def Jq3w (p : Nums) : List IOp := [qo 21 (.faddr 0 (.t 2)), qo 22 (.faddr 2 (.t 21)), qo 23 (.load none (.t 22)), qo 24 (.len (.t 23)), qo 25 (.mov (ci 0))]
def Jq3q (p : Nums) : IC := (.region (Jq3w p) [])
@[simp] theorem Je3q {p : Nums} : EqI (Jq3q p) (.region (Jq3w p) []) := eqi
@[simp] def Jq3x (p : Nums) : List IOp := [qo 27 (.iaddr 5 (.t 23) (.t 25)), qo 28 (.load (some 5) (.t 27)), qo 7 (.alloc [.nils, (zi 0), (zi 0), (zi 0), (zi 0)]), qn (.store 5 (.t 7) (.t 28))]
def Jq3r (p : Nums) : IC := (.region (Jq3x p) [])
@[simp] theorem Je3r {p : Nums} : EqI (Jq3r p) (.region (Jq3x p) []) := eqi
@[simp] def Jq3y (p : Nums) : List IOp := [qo 29 (.mov (.t 5)), qo 30 (.faddr 1 (.t 7)), qo 31 (.load (some 4) (.t 30)), qo 32 (.call p.source_Successors [(.t 31)]), qo 33 (.len (.t 32)), qo 34 (.bin .add (.t 29) (.t 33)), qo 5 (.asg (.t 34))]
def Jq3s (p : Nums) : IC := (.region (Jq3y p) [])
@[simp] theorem Je3s {p : Nums} : EqI (Jq3s p) (.region (Jq3y p) []) := eqi
def Jq3t (p : Nums) : IC := (.seq (.region [⟨(some 26), (.bin .lss (.t 25) (.t 24)), none, false⟩] []) (.seq (.cond (.t 26) .skip (.exit 0)) (.seq (.block 1 (.seq (Jq3r p) (Jq3s p))) (.region [⟨(some 35), (.bin .add (.t 25) (.c (.d (.int .i64 1)))), none, false⟩, ⟨(some 25), (.mov (.t 35)), none, false⟩] []))))
@[simp] theorem Je3t {p : Nums} : EqI (Jq3t p) (.seq (.region [⟨(some 26), (.bin .lss (.t 25) (.t 24)), none, false⟩] []) (.seq (.cond (.t 26) .skip (.exit 0)) (.seq (.block 1 (.seq (Jq3r p) (Jq3s p))) (.region [⟨(some 35), (.bin .add (.t 25) (.c (.d (.int .i64 1)))), none, false⟩, ⟨(some 25), (.mov (.t 35)), none, false⟩] [])))) := eqi
@[simp] def Jq3z (p : Nums) : List IOp := [qo 36 (.mov (.t 5)), qo 37 (.bin .mul (ci 3) (.t 36)), qo 38 (.mov (.t 1)), qo 39 (.bin .add (.t 38) (ci 1)), qo 40 (.bin .mul (.t 37) (.t 39)), qo 4 (.asg (.t 40))]
def Jq3u (p : Nums) : IC := (.region (Jq3z p) [])
@[simp] theorem Je3u {p : Nums} : EqI (Jq3u p) (.region (Jq3z p) []) := eqi
def Jta1 (p : Nums) : IC := (.seq (.region [⟨(some 2), (.box (.t 0)), none, false⟩, ⟨(some 4), (.asg (.c (.d (.int .i64 0)))), none, false⟩] []) (.seq (Jq3p p) (.seq (.seq (Jq3q p) (.block 0 (.loop (Jq3t p)))) (.seq (Jq3u p) .ret))))
@[simp] def Jqir (p : Nums) : List IOp := [qo 1 (.box (.t 0)), qo 2 (.alloc [(zi 0), (zi 0), .nils, (zi 0), (zi 0), (zi 0), .nils, .nils])]
def Jqil (p : Nums) : IC := (.region (Jqir p) [])
@[simp] theorem Jeil {p : Nums} : EqI (Jqil p) (.region (Jqir p) []) := eqi
@[simp] def Jqis (p : Nums) : List IOp := [qp 5 (.faddr 0 (.t 1)), qp 6 (.load (some 3) (.t 5)), qp 7 (.call p.ref07_Copy [(.t 6)]), qp 8 (.faddr 3 (.t 1)), qp 9 (.load (some 4) (.t 8)), qp 10 (.call p.ref08_Copy [(.t 9)]), qp 11 (.build [(zi 0), (zi 0), .nils, (zi 0), (zi 0), (zi 0), .nils, .nils] [(0, 3, (.t 7)), (3, 4, (.t 10))]), qp 3 (.alloc [(zi 0), (zi 0), .nils, (zi 0), (zi 0), (zi 0), .nils, .nils]), qn (.store 8 (.t 3) (.t 11))]
def Jqim (p : Nums) : IC := (.region (Jqis p) [])
@[simp] theorem Jeim {p : Nums} : EqI (Jqim p) (.region (Jqis p) []) := eqi
@[simp] def Jqit (p : Nums) : List IOp := [qo 12 (.mov (.t 4)), qo 13 (.faddr 7 (.t 1)), qo 14 (.load none (.t 13)), qo 15 (.len (.t 14)), qo 16 (.bin .lss (.t 12) (.t 15))]
def Jqin (p : Nums) : IC := (.region (Jqit p) [])
@[simp] theorem Jein {p : Nums} : EqI (Jqin p) (.region (Jqit p) []) := eqi
@[simp] def Jqiu (p : Nums) : List IOp := [qp 19 (.faddr 7 (.t 3)), qp 20 (.load none (.t 19)), qp 21 (.bslice 2 0 [(.int .i64 0), (.int .i64 0)] []), qp 22 (.faddr 7 (.t 1)), qp 23 (.load none (.t 22)), qp 24 (.mov (.t 4)), qp 25 (.iaddr 1 (.t 23) (.t 24)), qp 26 (.load none (.t 25)), qp 27 (.app 2 16 (.t 21) (.t 26)), qp 28 (.bslice 1 1 [(.sl [])] [(0, (.t 27))]), qo 29 (.app 1 24 (.t 20) (.t 28)), qo 30 (.faddr 7 (.t 3)), qn (.store 1 (.t 30) (.t 29))]
def Jqio (p : Nums) : IC := (.region (Jqiu p) [])
@[simp] theorem Jeio {p : Nums} : EqI (Jqio p) (.region (Jqiu p) []) := eqi
@[simp] def Jqiv (p : Nums) : List IOp := [qo 17 (.mov (.t 4)), qo 18 (.bin .add (.t 17) (ci 1)), qo 4 (.asg (.t 18))]
def Jqip (p : Nums) : IC := (.region (Jqiv p) [])
@[simp] theorem Jeip {p : Nums} : EqI (Jqip p) (.region (Jqiv p) []) := eqi
def Jqiq (p : Nums) : IC := (.seq (.seq (Jqin p) (.cond (.t 16) .skip (.exit 0))) (.seq (.block 1 (Jqio p)) (Jqip p)))
@[simp] theorem Jeiq {p : Nums} : EqI (Jqiq p) (.seq (.seq (Jqin p) (.cond (.t 16) .skip (.exit 0))) (.seq (.block 1 (Jqio p)) (Jqip p))) := eqi
def Jtbj (p : Nums) : IC := (.seq (Jqil p) (.seq (Jqim p) (.seq (.seq (.region [⟨(some 4), (.asg (.c (.d (.int .i64 0)))), none, false⟩] []) (.block 0 (.loop (Jqiq p)))) (.seq (.region [⟨(some 31), (.load (some 8) (.t 3)), none, false⟩, ⟨none, (.store 8 (.t 2) (.t 31)), none, false⟩] []) .ret))))
@[simp] def Jqj0 (p : Nums) : List IOp := [qo 2 (.box (.t 0)), qo 3 (.box (.t 1)), qo 4 (.asg (.c (.d (.bool false))))]
def Jqiy (p : Nums) : IC := (.region (Jqj0 p) [])
@[simp] theorem Jeiy {p : Nums} : EqI (Jqiy p) (.region (Jqj0 p) []) := eqi
@[simp] def Jqj1 (p : Nums) : List IOp := [qo 5 (.faddr 0 (.t 2)), qo 6 (.load (some 3) (.t 5)), qo 7 (.faddr 0 (.t 3)), qo 8 (.load (some 3) (.t 7)), qo 9 (.call p.ref07_Same [(.t 6), (.t 8)]), qo 10 (.mov (.t 9)), ⟨(some 11), (.faddr 3 (.t 2)), (some (10, true)), false⟩, ⟨(some 12), (.load (some 4) (.t 11)), (some (10, true)), false⟩, ⟨(some 13), (.faddr 3 (.t 3)), (some (10, true)), false⟩, ⟨(some 14), (.load (some 4) (.t 13)), (some (10, true)), false⟩, ⟨(some 15), (.call p.ref08_Same [(.t 12), (.t 14)]), (some (10, true)), false⟩, qo 16 (.pick (.t 10) (.t 15) (.c (.d (.bool false)))), qo 17 (.mov (.t 16)), ⟨(some 18), (.faddr 7 (.t 2)), (some (17, true)), false⟩, ⟨(some 19), (.load none (.t 18)), (some (17, true)), false⟩, ⟨(some 20), (.faddr 7 (.t 3)), (some (17, true)), false⟩, ⟨(some 21), (.load none (.t 20)), (some (17, true)), false⟩, ⟨(some 22), (.call p.ref15_Same [(.t 19), (.t 21)]), (some (17, true)), false⟩, qo 23 (.pick (.t 17) (.t 22) (.c (.d (.bool false)))), qo 4 (.asg (.t 23))]
def Jqiz (p : Nums) : IC := (.region (Jqj1 p) [])
@[simp] theorem Jeiz {p : Nums} : EqI (Jqiz p) (.region (Jqj1 p) []) := eqi
def Jtbl (p : Nums) : IC := (.seq (Jqiy p) (.seq (Jqiz p) .ret))
@[simp] def Jqfb (p : Nums) : List IOp := [qo 4 (.faddr 2 (.t 1)), qo 5 (.load none (.t 4)), qo 6 (.len (.t 5)), qo 7 (.bin .gtr (.t 6) (ci 40)), qo 8 (.mov (.t 7)), ⟨(some 9), (.faddr 1 (.t 1)), (some (8, false)), false⟩, ⟨(some 10), (.load none (.t 9)), (some (8, false)), false⟩, ⟨(some 11), (.bin .gtr (.t 10) (ci 60)), (some (8, false)), false⟩, qo 12 (.pick (.t 8) (.c (.d (.bool true))) (.t 11))]
def Jqf2 (p : Nums) : IC := (.region (Jqfb p) [])
@[simp] theorem Jef2 {p : Nums} : EqI (Jqf2 p) (.region (Jqfb p) []) := eqi
def Jqf3 (p : Nums) : IC := (.seq (.region [⟨(some 2), (.asg (.c (.d (.bool false)))), none, false⟩] []) .ret)
@[simp] theorem Jef3 {p : Nums} : EqI (Jqf3 p) (.seq (.region [⟨(some 2), (.asg (.c (.d (.bool false)))), none, false⟩] []) .ret) := eqi
@[simp] def Jqfc (p : Nums) : List IOp := [qo 13 (.mov (.t 3)), qo 14 (.faddr 2 (.t 1)), qo 15 (.load none (.t 14)), qo 16 (.len (.t 15)), qo 17 (.bin .lss (.t 13) (.t 16))]
def Jqf4 (p : Nums) : IC := (.region (Jqfc p) [])
@[simp] theorem Jef4 {p : Nums} : EqI (Jqf4 p) (.region (Jqfc p) []) := eqi
@[simp] def Jqfd (p : Nums) : List IOp := [qo 20 (.faddr 2 (.t 1)), qo 21 (.load none (.t 20)), qo 22 (.mov (.t 3)), qo 23 (.iaddr 5 (.t 21) (.t 22)), qo 24 (.faddr 0 (.t 23)), qo 25 (.load none (.t 24)), qo 26 (.len (.t 25)), qo 27 (.bin .gtr (.t 26) (ci 100))]
def Jqf5 (p : Nums) : IC := (.region (Jqfd p) [])
@[simp] theorem Jef5 {p : Nums} : EqI (Jqf5 p) (.region (Jqfd p) []) := eqi
def Jqf6 (p : Nums) : IC := (.seq (.region [⟨(some 2), (.asg (.c (.d (.bool false)))), none, false⟩] []) .ret)
@[simp] theorem Jef6 {p : Nums} : EqI (Jqf6 p) (.seq (.region [⟨(some 2), (.asg (.c (.d (.bool false)))), none, false⟩] []) .ret) := eqi
def Jqf7 (p : Nums) : IC := (.seq (Jqf5 p) (.cond (.t 27) (Jqf6 p) .skip))
@[simp] theorem Jef7 {p : Nums} : EqI (Jqf7 p) (.seq (Jqf5 p) (.cond (.t 27) (Jqf6 p) .skip)) := eqi
@[simp] def Jqfe (p : Nums) : List IOp := [qo 18 (.mov (.t 3)), qo 19 (.bin .add (.t 18) (ci 1)), qo 3 (.asg (.t 19))]
def Jqf8 (p : Nums) : IC := (.region (Jqfe p) [])
@[simp] theorem Jef8 {p : Nums} : EqI (Jqf8 p) (.region (Jqfe p) []) := eqi
def Jqf9 (p : Nums) : IC := (.seq (.seq (Jqf4 p) (.cond (.t 17) .skip (.exit 0))) (.seq (.block 1 (Jqf7 p)) (Jqf8 p)))
@[simp] theorem Jef9 {p : Nums} : EqI (Jqf9 p) (.seq (.seq (Jqf4 p) (.cond (.t 17) .skip (.exit 0))) (.seq (.block 1 (Jqf7 p)) (Jqf8 p))) := eqi
@[simp] def Jqff (p : Nums) : List IOp := [qo 28 (.load (some 3) (.t 1)), qo 29 (.call p.ref07_Code [(.t 28)]), qo 30 (.bin .leq (.t 29) (ci 300)), qo 2 (.asg (.t 30))]
def Jqfa (p : Nums) : IC := (.region (Jqff p) [])
@[simp] theorem Jefa {p : Nums} : EqI (Jqfa p) (.region (Jqff p) []) := eqi
def Jtba (p : Nums) : IC := (.seq (.region [⟨(some 1), (.box (.t 0)), none, false⟩, ⟨(some 2), (.asg (.c (.d (.bool false)))), none, false⟩] []) (.seq (.seq (Jqf2 p) (.cond (.t 12) (Jqf3 p) .skip)) (.seq (.seq (.region [⟨(some 3), (.asg (.c (.d (.int .i64 0)))), none, false⟩] []) (.block 0 (.loop (Jqf9 p)))) (.seq (Jqfa p) .ret))))
@[simp] def Jqfv (p : Nums) : List IOp := [qo 2 (.box (.t 0)), qo 3 (.box (.t 1)), qo 4 (.asg (.c (.d (.bool false))))]
def Jqfg (p : Nums) : IC := (.region (Jqfv p) [])
@[simp] theorem Jefg {p : Nums} : EqI (Jqfg p) (.region (Jqfv p) []) := eqi
@[simp] def Jqfy (p : Nums) : List IOp := [qo 7 (.faddr 0 (.t 2)), qo 8 (.load none (.t 7)), qo 9 (.faddr 0 (.t 3)), qo 10 (.load none (.t 9)), qo 11 (.bin .neq (.t 8) (.t 10)), qo 12 (.mov (.t 11)), ⟨(some 13), (.faddr 1 (.t 2)), (some (12, false)), false⟩, ⟨(some 14), (.load none (.t 13)), (some (12, false)), false⟩, ⟨(some 15), (.faddr 1 (.t 3)), (some (12, false)), false⟩, ⟨(some 16), (.load none (.t 15)), (some (12, false)), false⟩, ⟨(some 17), (.bin .neq (.t 14) (.t 16)), (some (12, false)), false⟩, qo 18 (.pick (.t 12) (.c (.d (.bool true))) (.t 17)), qo 19 (.mov (.t 18)), ⟨(some 20), (.faddr 2 (.t 2)), (some (19, false)), false⟩, ⟨(some 21), (.load none (.t 20)), (some (19, false)), false⟩, ⟨(some 22), (.len (.t 21)), (some (19, false)), false⟩, ⟨(some 23), (.faddr 2 (.t 3)), (some (19, false)), false⟩, ⟨(some 24), (.load none (.t 23)), (some (19, false)), false⟩, ⟨(some 25), (.len (.t 24)), (some (19, false)), false⟩, ⟨(some 26), (.bin .neq (.t 22) (.t 25)), (some (19, false)), false⟩, qo 27 (.pick (.t 19) (.c (.d (.bool true))) (.t 26))]
def Jqfn (p : Nums) : IC := (.region (Jqfy p) [])
@[simp] theorem Jefn {p : Nums} : EqI (Jqfn p) (.region (Jqfy p) []) := eqi
def Jqfo (p : Nums) : IC := (.seq (.region [⟨(some 4), (.asg (.c (.d (.bool false)))), none, false⟩] []) .ret)
@[simp] theorem Jefo {p : Nums} : EqI (Jqfo p) (.seq (.region [⟨(some 4), (.asg (.c (.d (.bool false)))), none, false⟩] []) .ret) := eqi
@[simp] def Jqfz (p : Nums) : List IOp := [qo 28 (.mov (.t 5)), qo 29 (.faddr 2 (.t 2)), qo 30 (.load none (.t 29)), qo 31 (.len (.t 30)), qo 32 (.bin .lss (.t 28) (.t 31))]
def Jqfp (p : Nums) : IC := (.region (Jqfz p) [])
@[simp] theorem Jefp {p : Nums} : EqI (Jqfp p) (.region (Jqfz p) []) := eqi
@[simp] def Jqg0 (p : Nums) : List IOp := [qp 35 (.faddr 2 (.t 2)), qp 36 (.load none (.t 35)), qp 37 (.mov (.t 5)), qp 38 (.iaddr 5 (.t 36) (.t 37)), qp 39 (.faddr 1 (.t 38)), qp 40 (.load (some 4) (.t 39)), qp 41 (.faddr 2 (.t 3)), qp 42 (.load none (.t 41)), qp 43 (.mov (.t 5)), qp 44 (.iaddr 5 (.t 42) (.t 43)), qp 45 (.faddr 1 (.t 44)), qp 46 (.load (some 4) (.t 45)), qo 47 (.eqs true [.int, .int, .int, .int] (.t 40) (.t 46)), qo 48 (.mov (.t 47)), ⟨(some 49), (.faddr 2 (.t 2)), (some (48, false)), true⟩, ⟨(some 50), (.load none (.t 49)), (some (48, false)), true⟩, ⟨(some 51), (.mov (.t 5)), (some (48, false)), true⟩, ⟨(some 52), (.iaddr 5 (.t 50) (.t 51)), (some (48, false)), true⟩, ⟨(some 53), (.faddr 0 (.t 52)), (some (48, false)), true⟩, ⟨(some 54), (.load none (.t 53)), (some (48, false)), true⟩, ⟨(some 55), (.len (.t 54)), (some (48, false)), true⟩, ⟨(some 56), (.faddr 2 (.t 3)), (some (48, false)), true⟩, ⟨(some 57), (.load none (.t 56)), (some (48, false)), true⟩, ⟨(some 58), (.mov (.t 5)), (some (48, false)), true⟩, ⟨(some 59), (.iaddr 5 (.t 57) (.t 58)), (some (48, false)), true⟩, ⟨(some 60), (.faddr 0 (.t 59)), (some (48, false)), true⟩, ⟨(some 61), (.load none (.t 60)), (some (48, false)), true⟩, ⟨(some 62), (.len (.t 61)), (some (48, false)), true⟩, ⟨(some 63), (.bin .neq (.t 55) (.t 62)), (some (48, false)), false⟩, qo 64 (.pick (.t 48) (.c (.d (.bool true))) (.t 63))]
def Jqfq (p : Nums) : IC := (.region (Jqg0 p) [])
@[simp] theorem Jefq {p : Nums} : EqI (Jqfq p) (.region (Jqg0 p) []) := eqi
def Jqfr (p : Nums) : IC := (.seq (.region [⟨(some 4), (.asg (.c (.d (.bool false)))), none, false⟩] []) .ret)
@[simp] theorem Jefr {p : Nums} : EqI (Jqfr p) (.seq (.region [⟨(some 4), (.asg (.c (.d (.bool false)))), none, false⟩] []) .ret) := eqi
@[simp] def Jqg1 (p : Nums) : List IOp := [qo 65 (.mov (.t 6)), qo 66 (.faddr 2 (.t 2)), qo 67 (.load none (.t 66)), qo 68 (.mov (.t 5)), qo 69 (.iaddr 5 (.t 67) (.t 68)), qo 70 (.faddr 0 (.t 69)), qo 71 (.load none (.t 70)), qo 72 (.len (.t 71)), qo 73 (.bin .lss (.t 65) (.t 72))]
def Jqfs (p : Nums) : IC := (.region (Jqg1 p) [])
@[simp] theorem Jefs {p : Nums} : EqI (Jqfs p) (.region (Jqg1 p) []) := eqi
@[simp] def Jqg2 (p : Nums) : List IOp := [qp 76 (.faddr 2 (.t 2)), qp 77 (.load none (.t 76)), qp 78 (.mov (.t 5)), qp 79 (.iaddr 5 (.t 77) (.t 78)), qp 80 (.faddr 0 (.t 79)), qp 81 (.load none (.t 80)), qp 82 (.mov (.t 6)), qp 83 (.iaddr 5 (.t 81) (.t 82)), qp 84 (.load (some 5) (.t 83)), qp 85 (.faddr 2 (.t 3)), qp 86 (.load none (.t 85)), qp 87 (.mov (.t 5)), qp 88 (.iaddr 5 (.t 86) (.t 87)), qp 89 (.faddr 0 (.t 88)), qp 90 (.load none (.t 89)), qp 91 (.mov (.t 6)), qp 92 (.iaddr 5 (.t 90) (.t 91)), qp 93 (.load (some 5) (.t 92)), qo 94 (.eqs true [.int, .int, .int, .int, .int] (.t 84) (.t 93))]
def Jqft (p : Nums) : IC := (.region (Jqg2 p) [])
@[simp] theorem Jeft {p : Nums} : EqI (Jqft p) (.region (Jqg2 p) []) := eqi
def Jqfu (p : Nums) : IC := (.seq (.region [⟨(some 4), (.asg (.c (.d (.bool false)))), none, false⟩] []) .ret)
@[simp] theorem Jefu {p : Nums} : EqI (Jqfu p) (.seq (.region [⟨(some 4), (.asg (.c (.d (.bool false)))), none, false⟩] []) .ret) := eqi
def Jqfh (p : Nums) : IC := (.seq (Jqft p) (.cond (.t 94) (Jqfu p) .skip))
@[simp] theorem Jefh {p : Nums} : EqI (Jqfh p) (.seq (Jqft p) (.cond (.t 94) (Jqfu p) .skip)) := eqi
@[simp] def Jqfw (p : Nums) : List IOp := [qo 74 (.mov (.t 6)), qo 75 (.bin .add (.t 74) (ci 1)), qo 6 (.asg (.t 75))]
def Jqfi (p : Nums) : IC := (.region (Jqfw p) [])
@[simp] theorem Jefi {p : Nums} : EqI (Jqfi p) (.region (Jqfw p) []) := eqi
def Jqfj (p : Nums) : IC := (.seq (.seq (Jqfs p) (.cond (.t 73) .skip (.exit 2))) (.seq (.block 3 (Jqfh p)) (Jqfi p)))
@[simp] theorem Jefj {p : Nums} : EqI (Jqfj p) (.seq (.seq (Jqfs p) (.cond (.t 73) .skip (.exit 2))) (.seq (.block 3 (Jqfh p)) (Jqfi p))) := eqi
def Jqfk (p : Nums) : IC := (.seq (.seq (Jqfq p) (.cond (.t 64) (Jqfr p) .skip)) (.seq (.region [⟨(some 6), (.asg (.c (.d (.int .i64 0)))), none, false⟩] []) (.block 2 (.loop (Jqfj p)))))
@[simp] theorem Jefk {p : Nums} : EqI (Jqfk p) (.seq (.seq (Jqfq p) (.cond (.t 64) (Jqfr p) .skip)) (.seq (.region [⟨(some 6), (.asg (.c (.d (.int .i64 0)))), none, false⟩] []) (.block 2 (.loop (Jqfj p))))) := eqi
@[simp] def Jqfx (p : Nums) : List IOp := [qo 33 (.mov (.t 5)), qo 34 (.bin .add (.t 33) (ci 1)), qo 5 (.asg (.t 34))]
def Jqfl (p : Nums) : IC := (.region (Jqfx p) [])
@[simp] theorem Jefl {p : Nums} : EqI (Jqfl p) (.region (Jqfx p) []) := eqi
def Jqfm (p : Nums) : IC := (.seq (.seq (Jqfp p) (.cond (.t 32) .skip (.exit 0))) (.seq (.block 1 (Jqfk p)) (Jqfl p)))
@[simp] theorem Jefm {p : Nums} : EqI (Jqfm p) (.seq (.seq (Jqfp p) (.cond (.t 32) .skip (.exit 0))) (.seq (.block 1 (Jqfk p)) (Jqfl p))) := eqi
def Jtbb (p : Nums) : IC := (.seq (Jqfg p) (.seq (.seq (Jqfn p) (.cond (.t 27) (Jqfo p) .skip)) (.seq (.seq (.region [⟨(some 5), (.asg (.c (.d (.int .i64 0)))), none, false⟩] []) (.block 0 (.loop (Jqfm p)))) (.seq (.region [⟨(some 4), (.asg (.c (.d (.bool true)))), none, false⟩] []) .ret))))
@[simp] def Jqgu (p : Nums) : List IOp := [qo 4 (.faddr 3 (.t 1)), qo 5 (.load none (.t 4)), qo 6 (.len (.t 5)), qo 7 (.bin .gtr (.t 6) (ci 40)), qo 8 (.mov (.t 7)), ⟨(some 9), (.faddr 1 (.t 1)), (some (8, false)), false⟩, ⟨(some 10), (.load none (.t 9)), (some (8, false)), false⟩, ⟨(some 11), (.bin .gtr (.t 10) (ci 60)), (some (8, false)), false⟩, qo 12 (.pick (.t 8) (.c (.d (.bool true))) (.t 11)), qo 13 (.mov (.t 12)), ⟨(some 14), (.faddr 2 (.t 1)), (some (13, false)), false⟩, ⟨(some 15), (.load none (.t 14)), (some (13, false)), false⟩, ⟨(some 16), (.bin .gtr (.t 15) (ci 60)), (some (13, false)), false⟩, qo 17 (.pick (.t 13) (.c (.d (.bool true))) (.t 16))]
def Jqgl (p : Nums) : IC := (.region (Jqgu p) [])
@[simp] theorem Jegl {p : Nums} : EqI (Jqgl p) (.region (Jqgu p) []) := eqi
def Jqgm (p : Nums) : IC := (.seq (.region [⟨(some 2), (.asg (.c (.d (.bool false)))), none, false⟩] []) .ret)
@[simp] theorem Jegm {p : Nums} : EqI (Jqgm p) (.seq (.region [⟨(some 2), (.asg (.c (.d (.bool false)))), none, false⟩] []) .ret) := eqi
@[simp] def Jqgv (p : Nums) : List IOp := [qo 18 (.mov (.t 3)), qo 19 (.faddr 3 (.t 1)), qo 20 (.load none (.t 19)), qo 21 (.len (.t 20)), qo 22 (.bin .lss (.t 18) (.t 21))]
def Jqgn (p : Nums) : IC := (.region (Jqgv p) [])
@[simp] theorem Jegn {p : Nums} : EqI (Jqgn p) (.region (Jqgv p) []) := eqi
@[simp] def Jqgw (p : Nums) : List IOp := [qo 25 (.faddr 3 (.t 1)), qo 26 (.load none (.t 25)), qo 27 (.mov (.t 3)), qo 28 (.iaddr 5 (.t 26) (.t 27)), qo 29 (.faddr 0 (.t 28)), qo 30 (.load none (.t 29)), qo 31 (.len (.t 30)), qo 32 (.bin .gtr (.t 31) (ci 300))]
def Jqgo (p : Nums) : IC := (.region (Jqgw p) [])
@[simp] theorem Jego {p : Nums} : EqI (Jqgo p) (.region (Jqgw p) []) := eqi
def Jqgp (p : Nums) : IC := (.seq (.region [⟨(some 2), (.asg (.c (.d (.bool false)))), none, false⟩] []) .ret)
@[simp] theorem Jegp {p : Nums} : EqI (Jqgp p) (.seq (.region [⟨(some 2), (.asg (.c (.d (.bool false)))), none, false⟩] []) .ret) := eqi
def Jqgq (p : Nums) : IC := (.seq (Jqgo p) (.cond (.t 32) (Jqgp p) .skip))
@[simp] theorem Jegq {p : Nums} : EqI (Jqgq p) (.seq (Jqgo p) (.cond (.t 32) (Jqgp p) .skip)) := eqi
@[simp] def Jqgx (p : Nums) : List IOp := [qo 23 (.mov (.t 3)), qo 24 (.bin .add (.t 23) (ci 1)), qo 3 (.asg (.t 24))]
def Jqgr (p : Nums) : IC := (.region (Jqgx p) [])
@[simp] theorem Jegr {p : Nums} : EqI (Jqgr p) (.region (Jqgx p) []) := eqi
def Jqgs (p : Nums) : IC := (.seq (.seq (Jqgn p) (.cond (.t 22) .skip (.exit 0))) (.seq (.block 1 (Jqgq p)) (Jqgr p)))
@[simp] theorem Jegs {p : Nums} : EqI (Jqgs p) (.seq (.seq (Jqgn p) (.cond (.t 22) .skip (.exit 0))) (.seq (.block 1 (Jqgq p)) (Jqgr p))) := eqi
@[simp] def Jqgy (p : Nums) : List IOp := [qo 33 (.load (some 4) (.t 1)), qo 34 (.call p.ref08_Code [(.t 33)]), qo 35 (.bin .leq (.t 34) (ci 900)), qo 2 (.asg (.t 35))]
def Jqgt (p : Nums) : IC := (.region (Jqgy p) [])
@[simp] theorem Jegt {p : Nums} : EqI (Jqgt p) (.region (Jqgy p) []) := eqi
def Jtbe (p : Nums) : IC := (.seq (.region [⟨(some 1), (.box (.t 0)), none, false⟩, ⟨(some 2), (.asg (.c (.d (.bool false)))), none, false⟩] []) (.seq (.seq (Jqgl p) (.cond (.t 17) (Jqgm p) .skip)) (.seq (.seq (.region [⟨(some 3), (.asg (.c (.d (.int .i64 0)))), none, false⟩] []) (.block 0 (.loop (Jqgs p)))) (.seq (Jqgt p) .ret))))
@[simp] def Jqi5 (p : Nums) : List IOp := [qo 4 (.mov (.t 3)), qo 5 (.mov (.t 0)), qo 6 (.len (.t 5)), qo 7 (.bin .lss (.t 4) (.t 6)), qo 8 (.mov (.t 7)), ⟨(some 9), (.mov (.t 3)), (some (8, true)), false⟩, ⟨(some 10), (.bin .leq (.t 9) (ci 40)), (some (8, true)), false⟩, qo 11 (.pick (.t 8) (.t 10) (.c (.d (.bool false))))]
def Jqhy (p : Nums) : IC := (.region (Jqi5 p) [])
@[simp] theorem Jehy {p : Nums} : EqI (Jqhy p) (.region (Jqi5 p) []) := eqi
@[simp] def Jqi6 (p : Nums) : List IOp := [qo 14 (.mov (.t 0)), qo 15 (.mov (.t 3)), qo 16 (.iaddr 1 (.t 14) (.t 15)), qo 17 (.load none (.t 16)), qo 18 (.len (.t 17)), qo 19 (.bin .gtr (.t 18) (ci 400))]
def Jqhz (p : Nums) : IC := (.region (Jqi6 p) [])
@[simp] theorem Jehz {p : Nums} : EqI (Jqhz p) (.region (Jqi6 p) []) := eqi
def Jqi0 (p : Nums) : IC := (.seq (.region [⟨(some 2), (.asg (.c (.d (.bool false)))), none, false⟩] []) .ret)
@[simp] theorem Jei0 {p : Nums} : EqI (Jqi0 p) (.seq (.region [⟨(some 2), (.asg (.c (.d (.bool false)))), none, false⟩] []) .ret) := eqi
def Jqi1 (p : Nums) : IC := (.seq (Jqhz p) (.cond (.t 19) (Jqi0 p) .skip))
@[simp] theorem Jei1 {p : Nums} : EqI (Jqi1 p) (.seq (Jqhz p) (.cond (.t 19) (Jqi0 p) .skip)) := eqi
@[simp] def Jqi7 (p : Nums) : List IOp := [qo 12 (.mov (.t 3)), qo 13 (.bin .add (.t 12) (ci 1)), qo 3 (.asg (.t 13))]
def Jqi2 (p : Nums) : IC := (.region (Jqi7 p) [])
@[simp] theorem Jei2 {p : Nums} : EqI (Jqi2 p) (.region (Jqi7 p) []) := eqi
def Jqi3 (p : Nums) : IC := (.seq (.seq (Jqhy p) (.cond (.t 11) .skip (.exit 0))) (.seq (.block 1 (Jqi1 p)) (Jqi2 p)))
@[simp] theorem Jei3 {p : Nums} : EqI (Jqi3 p) (.seq (.seq (Jqhy p) (.cond (.t 11) .skip (.exit 0))) (.seq (.block 1 (Jqi1 p)) (Jqi2 p))) := eqi
@[simp] def Jqi8 (p : Nums) : List IOp := [qo 20 (.mov (.t 0)), qo 21 (.len (.t 20)), qo 22 (.bin .leq (.t 21) (ci 40)), qo 2 (.asg (.t 22))]
def Jqi4 (p : Nums) : IC := (.region (Jqi8 p) [])
@[simp] theorem Jei4 {p : Nums} : EqI (Jqi4 p) (.region (Jqi8 p) []) := eqi
def Jtbh (p : Nums) : IC := (.seq (.region [⟨(some 2), (.asg (.c (.d (.bool false)))), none, false⟩] []) (.seq (.seq (.region [⟨(some 3), (.asg (.c (.d (.int .i64 0)))), none, false⟩] []) (.block 0 (.loop (Jqi3 p)))) (.seq (Jqi4 p) .ret)))
@[simp] def Jqkh (p : Nums) : List IOp := [qo 7 (.faddr 0 (.t 1)), qo 8 (.load none (.t 7)), qo 9 (.bin .lss (.t 8) (ci 0)), qo 10 (.mov (.t 9)), ⟨(some 11), (.faddr 0 (.t 1)), (some (10, false)), false⟩, ⟨(some 12), (.load none (.t 11)), (some (10, false)), false⟩, ⟨(some 13), (.faddr 1 (.t 1)), (some (10, false)), false⟩, ⟨(some 14), (.load none (.t 13)), (some (10, false)), false⟩, ⟨(some 15), (.bin .gtr (.t 12) (.t 14)), (some (10, false)), false⟩, qo 16 (.pick (.t 10) (.c (.d (.bool true))) (.t 15)), qo 6 (.asg (.t 16))]
def Jqjz (p : Nums) : IC := (.region (Jqkh p) [])
@[simp] theorem Jejz {p : Nums} : EqI (Jqjz p) (.region (Jqkh p) []) := eqi
@[simp] def Jqkl (p : Nums) : List IOp := [qo 18 (.faddr 1 (.t 1)), qo 19 (.load none (.t 18)), qo 20 (.bin .gtr (.t 19) (ci 1048576)), qo 17 (.asg (.t 20))]
def Jqk9 (p : Nums) : IC := (.region (Jqkl p) [])
@[simp] theorem Jek9 {p : Nums} : EqI (Jqk9 p) (.region (Jqkl p) []) := eqi
@[simp] def Jqkm (p : Nums) : List IOp := [qo 22 (.faddr 2 (.t 1)), qo 23 (.load none (.t 22)), qo 24 (.len (.t 23)), qo 25 (.bin .eql (.t 24) (ci 0)), qo 21 (.asg (.t 25))]
def Jqka (p : Nums) : IC := (.region (Jqkm p) [])
@[simp] theorem Jeka {p : Nums} : EqI (Jqka p) (.region (Jqkm p) []) := eqi
@[simp] def Jqkn (p : Nums) : List IOp := [qo 27 (.faddr 2 (.t 1)), qo 28 (.load none (.t 27)), qo 29 (.len (.t 28)), qo 30 (.bin .gtr (.t 29) (ci 1048576)), qo 31 (.mov (.t 30)), ⟨(some 32), (.load (some 3) (.t 1)), (some (31, false)), false⟩, ⟨(some 33), (.call p.source_Code [(.t 32)]), (some (31, false)), false⟩, ⟨(some 34), (.bin .gtr (.t 33) (ci 1048576)), (some (31, false)), false⟩, qo 35 (.pick (.t 31) (.c (.d (.bool true))) (.t 34)), qo 26 (.asg (.t 35))]
def Jqkb (p : Nums) : IC := (.region (Jqkn p) [])
@[simp] theorem Jekb {p : Nums} : EqI (Jqkb p) (.region (Jqkn p) []) := eqi
def Jqkc (p : Nums) : IC := (.seq (.region [⟨(some 2), (.asg (.c (.d (.int .i64 6)))), none, false⟩] []) .ret)
@[simp] theorem Jekc {p : Nums} : EqI (Jqkc p) (.seq (.region [⟨(some 2), (.asg (.c (.d (.int .i64 6)))), none, false⟩] []) .ret) := eqi
def Jqkd (p : Nums) : IC := (.seq (.region [⟨(some 2), (.asg (.c (.d (.int .i64 14)))), none, false⟩] []) .ret)
@[simp] theorem Jekd {p : Nums} : EqI (Jqkd p) (.seq (.region [⟨(some 2), (.asg (.c (.d (.int .i64 14)))), none, false⟩] []) .ret) := eqi
def Jqke (p : Nums) : IC := (.seq (Jqkb p) (.cond (.t 26) (Jqkc p) .skip))
@[simp] theorem Jeke {p : Nums} : EqI (Jqke p) (.seq (Jqkb p) (.cond (.t 26) (Jqkc p) .skip)) := eqi
def Jqkf (p : Nums) : IC := (.seq (.region [⟨(some 2), (.asg (.c (.d (.int .i64 6)))), none, false⟩] []) .ret)
@[simp] theorem Jekf {p : Nums} : EqI (Jqkf p) (.seq (.region [⟨(some 2), (.asg (.c (.d (.int .i64 6)))), none, false⟩] []) .ret) := eqi
def Jqkg (p : Nums) : IC := (.seq (Jqka p) (.cond (.t 21) (Jqkd p) (Jqke p)))
@[simp] theorem Jekg {p : Nums} : EqI (Jqkg p) (.seq (Jqka p) (.cond (.t 21) (Jqkd p) (Jqke p))) := eqi
def Jqk0 (p : Nums) : IC := (.seq (.region [⟨(some 2), (.asg (.c (.d (.int .i64 9)))), none, false⟩] []) .ret)
@[simp] theorem Jek0 {p : Nums} : EqI (Jqk0 p) (.seq (.region [⟨(some 2), (.asg (.c (.d (.int .i64 9)))), none, false⟩] []) .ret) := eqi
def Jqk1 (p : Nums) : IC := (.seq (Jqk9 p) (.cond (.t 17) (Jqkf p) (Jqkg p)))
@[simp] theorem Jek1 {p : Nums} : EqI (Jqk1 p) (.seq (Jqk9 p) (.cond (.t 17) (Jqkf p) (Jqkg p))) := eqi
def Jqk2 (p : Nums) : IC := (.seq (Jqjz p) (.cond (.t 6) (Jqk0 p) (Jqk1 p)))
@[simp] theorem Jek2 {p : Nums} : EqI (Jqk2 p) (.seq (Jqjz p) (.cond (.t 6) (Jqk0 p) (Jqk1 p))) := eqi
@[simp] def Jqki (p : Nums) : List IOp := [qo 36 (.faddr 2 (.t 1)), qo 37 (.load none (.t 36)), qo 38 (.len (.t 37)), qo 39 (.mov (ci 0))]
def Jqk3 (p : Nums) : IC := (.region (Jqki p) [])
@[simp] theorem Jek3 {p : Nums} : EqI (Jqk3 p) (.region (Jqki p) []) := eqi
@[simp] def Jqkj (p : Nums) : List IOp := [qo 41 (.iaddr 5 (.t 37) (.t 39)), qo 42 (.load (some 5) (.t 41)), qo 4 (.alloc [.nils, (zi 0), (zi 0), (zi 0), (zi 0)]), qn (.store 5 (.t 4) (.t 42))]
def Jqk4 (p : Nums) : IC := (.region (Jqkj p) [])
@[simp] theorem Jek4 {p : Nums} : EqI (Jqk4 p) (.region (Jqkj p) []) := eqi
@[simp] def Jqkk (p : Nums) : List IOp := [qo 43 (.load (some 5) (.t 4)), qo 44 (.faddr 1 (.t 1)), qo 45 (.load none (.t 44)), qo 46 (.faddr 2 (.t 1)), qo 47 (.load none (.t 46)), qo 48 (.len (.t 47)), qo 49 (.call p.source_block [(.t 43), (.t 45), (.t 48)]), qo 5 (.asg (.t 49))]
def Jqk5 (p : Nums) : IC := (.region (Jqkk p) [])
@[simp] theorem Jek5 {p : Nums} : EqI (Jqk5 p) (.region (Jqkk p) []) := eqi
def Jqk6 (p : Nums) : IC := (.seq (.region [⟨(some 52), (.mov (.t 5)), none, false⟩, ⟨(some 2), (.asg (.t 52)), none, false⟩] []) .ret)
@[simp] theorem Jek6 {p : Nums} : EqI (Jqk6 p) (.seq (.region [⟨(some 52), (.mov (.t 5)), none, false⟩, ⟨(some 2), (.asg (.t 52)), none, false⟩] []) .ret) := eqi
def Jqk7 (p : Nums) : IC := (.seq (Jqk4 p) (.seq (Jqk5 p) (.seq (.region [⟨(some 50), (.mov (.t 5)), none, false⟩, ⟨(some 51), (.bin .neq (.t 50) (.c (.d (.int .i64 0)))), none, false⟩] []) (.cond (.t 51) (Jqk6 p) .skip))))
@[simp] theorem Jek7 {p : Nums} : EqI (Jqk7 p) (.seq (Jqk4 p) (.seq (Jqk5 p) (.seq (.region [⟨(some 50), (.mov (.t 5)), none, false⟩, ⟨(some 51), (.bin .neq (.t 50) (.c (.d (.int .i64 0)))), none, false⟩] []) (.cond (.t 51) (Jqk6 p) .skip)))) := eqi
def Jqk8 (p : Nums) : IC := (.seq (.region [⟨(some 40), (.bin .lss (.t 39) (.t 38)), none, false⟩] []) (.seq (.cond (.t 40) .skip (.exit 1)) (.seq (.block 2 (Jqk7 p)) (.region [⟨(some 53), (.bin .add (.t 39) (.c (.d (.int .i64 1)))), none, false⟩, ⟨(some 39), (.mov (.t 53)), none, false⟩] []))))
@[simp] theorem Jek8 {p : Nums} : EqI (Jqk8 p) (.seq (.region [⟨(some 40), (.bin .lss (.t 39) (.t 38)), none, false⟩] []) (.seq (.cond (.t 40) .skip (.exit 1)) (.seq (.block 2 (Jqk7 p)) (.region [⟨(some 53), (.bin .add (.t 39) (.c (.d (.int .i64 1)))), none, false⟩, ⟨(some 39), (.mov (.t 53)), none, false⟩] [])))) := eqi
def Jtbo (p : Nums) : IC := (.seq (.region [⟨(some 1), (.box (.t 0)), none, false⟩, ⟨(some 2), (.asg (.c (.d (.int .i64 0)))), none, false⟩] []) (.seq (.block 0 (Jqk2 p)) (.seq (.seq (Jqk3 p) (.block 1 (.loop (Jqk8 p)))) (.seq (.region [⟨(some 2), (.asg (.c (.d (.int .i64 0)))), none, false⟩] []) .ret))))
@[simp] def Jq94 (p : Nums) : List IOp := [qo 7 (.faddr 0 (.t 1)), qo 8 (.load none (.t 7)), qo 9 (.bin .lss (.t 8) (ci 0)), qo 10 (.mov (.t 9)), ⟨(some 11), (.faddr 0 (.t 1)), (some (10, false)), false⟩, ⟨(some 12), (.load none (.t 11)), (some (10, false)), false⟩, ⟨(some 13), (.faddr 2 (.t 1)), (some (10, false)), false⟩, ⟨(some 14), (.load none (.t 13)), (some (10, false)), false⟩, ⟨(some 15), (.bin .gtr (.t 12) (.t 14)), (some (10, false)), false⟩, qo 16 (.pick (.t 10) (.c (.d (.bool true))) (.t 15)), qo 6 (.asg (.t 16))]
def Jq8j (p : Nums) : IC := (.region (Jq94 p) [])
@[simp] theorem Je8j {p : Nums} : EqI (Jq8j p) (.region (Jq94 p) []) := eqi
@[simp] def Jq98 (p : Nums) : List IOp := [qo 18 (.faddr 1 (.t 1)), qo 19 (.load none (.t 18)), qo 20 (.bin .lss (.t 19) (ci 0)), qo 17 (.asg (.t 20))]
def Jq8u (p : Nums) : IC := (.region (Jq98 p) [])
@[simp] theorem Je8u {p : Nums} : EqI (Jq8u p) (.region (Jq98 p) []) := eqi
@[simp] def Jq99 (p : Nums) : List IOp := [qo 22 (.faddr 2 (.t 1)), qo 23 (.load none (.t 22)), qo 24 (.bin .gtr (.t 23) (ci 1048576)), qo 25 (.mov (.t 24)), ⟨(some 26), (.faddr 1 (.t 1)), (some (25, false)), false⟩, ⟨(some 27), (.load none (.t 26)), (some (25, false)), false⟩, ⟨(some 28), (.bin .gtr (.t 27) (ci 1048576)), (some (25, false)), false⟩, qo 29 (.pick (.t 25) (.c (.d (.bool true))) (.t 28)), qo 21 (.asg (.t 29))]
def Jq8x (p : Nums) : IC := (.region (Jq99 p) [])
@[simp] theorem Je8x {p : Nums} : EqI (Jq8x p) (.region (Jq99 p) []) := eqi
@[simp] def Jq9a (p : Nums) : List IOp := [qo 31 (.faddr 3 (.t 1)), qo 32 (.load none (.t 31)), qo 33 (.len (.t 32)), qo 34 (.bin .eql (.t 33) (ci 0)), qo 30 (.asg (.t 34))]
def Jq8y (p : Nums) : IC := (.region (Jq9a p) [])
@[simp] theorem Je8y {p : Nums} : EqI (Jq8y p) (.region (Jq9a p) []) := eqi
@[simp] def Jq9b (p : Nums) : List IOp := [qo 36 (.faddr 3 (.t 1)), qo 37 (.load none (.t 36)), qo 38 (.len (.t 37)), qo 39 (.bin .gtr (.t 38) (ci 1048576)), qo 40 (.mov (.t 39)), ⟨(some 41), (.load (some 4) (.t 1)), (some (40, false)), false⟩, ⟨(some 42), (.call p.machine_Code [(.t 41)]), (some (40, false)), false⟩, ⟨(some 43), (.bin .gtr (.t 42) (ci 1048576)), (some (40, false)), false⟩, qo 44 (.pick (.t 40) (.c (.d (.bool true))) (.t 43)), qo 35 (.asg (.t 44))]
def Jq8z (p : Nums) : IC := (.region (Jq9b p) [])
@[simp] theorem Je8z {p : Nums} : EqI (Jq8z p) (.region (Jq9b p) []) := eqi
def Jq90 (p : Nums) : IC := (.seq (.region [⟨(some 2), (.asg (.c (.d (.int .i64 6)))), none, false⟩] []) .ret)
@[simp] theorem Je90 {p : Nums} : EqI (Jq90 p) (.seq (.region [⟨(some 2), (.asg (.c (.d (.int .i64 6)))), none, false⟩] []) .ret) := eqi
def Jq91 (p : Nums) : IC := (.seq (.region [⟨(some 2), (.asg (.c (.d (.int .i64 14)))), none, false⟩] []) .ret)
@[simp] theorem Je91 {p : Nums} : EqI (Jq91 p) (.seq (.region [⟨(some 2), (.asg (.c (.d (.int .i64 14)))), none, false⟩] []) .ret) := eqi
def Jq92 (p : Nums) : IC := (.seq (Jq8z p) (.cond (.t 35) (Jq90 p) .skip))
@[simp] theorem Je92 {p : Nums} : EqI (Jq92 p) (.seq (Jq8z p) (.cond (.t 35) (Jq90 p) .skip)) := eqi
def Jq93 (p : Nums) : IC := (.seq (.region [⟨(some 2), (.asg (.c (.d (.int .i64 6)))), none, false⟩] []) .ret)
@[simp] theorem Je93 {p : Nums} : EqI (Jq93 p) (.seq (.region [⟨(some 2), (.asg (.c (.d (.int .i64 6)))), none, false⟩] []) .ret) := eqi
def Jq8k (p : Nums) : IC := (.seq (Jq8y p) (.cond (.t 30) (Jq91 p) (Jq92 p)))
@[simp] theorem Je8k {p : Nums} : EqI (Jq8k p) (.seq (Jq8y p) (.cond (.t 30) (Jq91 p) (Jq92 p))) := eqi
def Jq8l (p : Nums) : IC := (.seq (.region [⟨(some 2), (.asg (.c (.d (.int .i64 9)))), none, false⟩] []) .ret)
@[simp] theorem Je8l {p : Nums} : EqI (Jq8l p) (.seq (.region [⟨(some 2), (.asg (.c (.d (.int .i64 9)))), none, false⟩] []) .ret) := eqi
def Jq8m (p : Nums) : IC := (.seq (Jq8x p) (.cond (.t 21) (Jq93 p) (Jq8k p)))
@[simp] theorem Je8m {p : Nums} : EqI (Jq8m p) (.seq (Jq8x p) (.cond (.t 21) (Jq93 p) (Jq8k p))) := eqi
def Jq8n (p : Nums) : IC := (.seq (.region [⟨(some 2), (.asg (.c (.d (.int .i64 10)))), none, false⟩] []) .ret)
@[simp] theorem Je8n {p : Nums} : EqI (Jq8n p) (.seq (.region [⟨(some 2), (.asg (.c (.d (.int .i64 10)))), none, false⟩] []) .ret) := eqi
def Jq8o (p : Nums) : IC := (.seq (Jq8u p) (.cond (.t 17) (Jq8l p) (Jq8m p)))
@[simp] theorem Je8o {p : Nums} : EqI (Jq8o p) (.seq (Jq8u p) (.cond (.t 17) (Jq8l p) (Jq8m p))) := eqi
def Jq8p (p : Nums) : IC := (.seq (Jq8j p) (.cond (.t 6) (Jq8n p) (Jq8o p)))
@[simp] theorem Je8p {p : Nums} : EqI (Jq8p p) (.seq (Jq8j p) (.cond (.t 6) (Jq8n p) (Jq8o p))) := eqi
@[simp] def Jq95 (p : Nums) : List IOp := [qo 45 (.faddr 3 (.t 1)), qo 46 (.load none (.t 45)), qo 47 (.len (.t 46)), qo 48 (.mov (ci 0))]
def Jq8q (p : Nums) : IC := (.region (Jq95 p) [])
@[simp] theorem Je8q {p : Nums} : EqI (Jq8q p) (.region (Jq95 p) []) := eqi
@[simp] def Jq96 (p : Nums) : List IOp := [qo 50 (.iaddr 5 (.t 46) (.t 48)), qo 51 (.load (some 5) (.t 50)), qo 4 (.alloc [.nils, (zi 0), (zi 0), (zi 0), (zi 0)]), qn (.store 5 (.t 4) (.t 51))]
def Jq8r (p : Nums) : IC := (.region (Jq96 p) [])
@[simp] theorem Je8r {p : Nums} : EqI (Jq8r p) (.region (Jq96 p) []) := eqi
@[simp] def Jq97 (p : Nums) : List IOp := [qo 52 (.load (some 4) (.t 1)), qo 53 (.load (some 5) (.t 4)), qo 54 (.call p.machine_block [(.t 52), (.t 53)]), qo 5 (.asg (.t 54))]
def Jq8s (p : Nums) : IC := (.region (Jq97 p) [])
@[simp] theorem Je8s {p : Nums} : EqI (Jq8s p) (.region (Jq97 p) []) := eqi
def Jq8t (p : Nums) : IC := (.seq (.region [⟨(some 57), (.mov (.t 5)), none, false⟩, ⟨(some 2), (.asg (.t 57)), none, false⟩] []) .ret)
@[simp] theorem Je8t {p : Nums} : EqI (Jq8t p) (.seq (.region [⟨(some 57), (.mov (.t 5)), none, false⟩, ⟨(some 2), (.asg (.t 57)), none, false⟩] []) .ret) := eqi
def Jq8v (p : Nums) : IC := (.seq (Jq8r p) (.seq (Jq8s p) (.seq (.region [⟨(some 55), (.mov (.t 5)), none, false⟩, ⟨(some 56), (.bin .neq (.t 55) (.c (.d (.int .i64 0)))), none, false⟩] []) (.cond (.t 56) (Jq8t p) .skip))))
@[simp] theorem Je8v {p : Nums} : EqI (Jq8v p) (.seq (Jq8r p) (.seq (Jq8s p) (.seq (.region [⟨(some 55), (.mov (.t 5)), none, false⟩, ⟨(some 56), (.bin .neq (.t 55) (.c (.d (.int .i64 0)))), none, false⟩] []) (.cond (.t 56) (Jq8t p) .skip)))) := eqi
def Jq8w (p : Nums) : IC := (.seq (.region [⟨(some 49), (.bin .lss (.t 48) (.t 47)), none, false⟩] []) (.seq (.cond (.t 49) .skip (.exit 1)) (.seq (.block 2 (Jq8v p)) (.region [⟨(some 58), (.bin .add (.t 48) (.c (.d (.int .i64 1)))), none, false⟩, ⟨(some 48), (.mov (.t 58)), none, false⟩] []))))
@[simp] theorem Je8w {p : Nums} : EqI (Jq8w p) (.seq (.region [⟨(some 49), (.bin .lss (.t 48) (.t 47)), none, false⟩] []) (.seq (.cond (.t 49) .skip (.exit 1)) (.seq (.block 2 (Jq8v p)) (.region [⟨(some 58), (.bin .add (.t 48) (.c (.d (.int .i64 1)))), none, false⟩, ⟨(some 48), (.mov (.t 58)), none, false⟩] [])))) := eqi
def Jtai (p : Nums) : IC := (.seq (.region [⟨(some 1), (.box (.t 0)), none, false⟩, ⟨(some 2), (.asg (.c (.d (.int .i64 0)))), none, false⟩] []) (.seq (.block 0 (Jq8p p)) (.seq (.seq (Jq8q p) (.block 1 (.loop (Jq8w p)))) (.seq (.region [⟨(some 2), (.asg (.c (.d (.int .i64 0)))), none, false⟩] []) .ret))))
@[simp] def Jq6t (p : Nums) : List IOp := [qo 15 (.mov (.t 0)), qo 16 (.len (.t 15)), qo 17 (.mov (.t 1)), qo 18 (.bin .neq (.t 16) (.t 17)), qo 14 (.asg (.t 18))]
def Jq6h (p : Nums) : IC := (.region (Jq6t p) [])
@[simp] theorem Je6h {p : Nums} : EqI (Jq6h p) (.region (Jq6t p) []) := eqi
@[simp] def Jq6u (p : Nums) : List IOp := [qo 20 (.mov (.t 0)), qo 21 (.call p.edge_total [(.t 20)]), qo 22 (.bin .gtr (.t 21) (ci 1048576)), qo 19 (.asg (.t 22))]
def Jq6l (p : Nums) : IC := (.region (Jq6u p) [])
@[simp] theorem Je6l {p : Nums} : EqI (Jq6l p) (.region (Jq6u p) []) := eqi
def Jq6m (p : Nums) : IC := (.seq (.region [⟨(some 10), (.asg (.c (.d (.int .i64 6)))), none, false⟩] []) .ret)
@[simp] theorem Je6m {p : Nums} : EqI (Jq6m p) (.seq (.region [⟨(some 10), (.asg (.c (.d (.int .i64 6)))), none, false⟩] []) .ret) := eqi
def Jq6n (p : Nums) : IC := (.seq (.region [⟨(some 10), (.asg (.c (.d (.int .i64 14)))), none, false⟩] []) .ret)
@[simp] theorem Je6n {p : Nums} : EqI (Jq6n p) (.seq (.region [⟨(some 10), (.asg (.c (.d (.int .i64 14)))), none, false⟩] []) .ret) := eqi
def Jq6o (p : Nums) : IC := (.seq (Jq6l p) (.cond (.t 19) (Jq6m p) .skip))
@[simp] theorem Je6o {p : Nums} : EqI (Jq6o p) (.seq (Jq6l p) (.cond (.t 19) (Jq6m p) .skip)) := eqi
def Jq6p (p : Nums) : IC := (.seq (Jq6h p) (.cond (.t 14) (Jq6n p) (Jq6o p)))
@[simp] theorem Je6p {p : Nums} : EqI (Jq6p p) (.seq (Jq6h p) (.cond (.t 14) (Jq6n p) (Jq6o p))) := eqi
@[simp] def Jq6v (p : Nums) : List IOp := [qo 23 (.mov (.t 0)), qo 24 (.len (.t 23)), qo 25 (.mov (ci 0))]
def Jq6q (p : Nums) : IC := (.region (Jq6v p) [])
@[simp] theorem Je6q {p : Nums} : EqI (Jq6q p) (.region (Jq6v p) []) := eqi
@[simp] def Jq6w (p : Nums) : List IOp := [qo 27 (.iaddr 1 (.t 23) (.t 25)), qo 28 (.load none (.t 27)), qo 12 (.asg (.t 28))]
def Jq6r (p : Nums) : IC := (.region (Jq6w p) [])
@[simp] theorem Je6r {p : Nums} : EqI (Jq6r p) (.region (Jq6w p) []) := eqi
@[simp] def Jq6x (p : Nums) : List IOp := [qo 29 (.mov (.t 12)), qo 30 (.mov (.t 2)), qo 31 (.mov (.t 3)), qo 32 (.mov (.t 4)), qo 33 (.call p.edge_pairs [(.t 29), (.t 30), (.t 31), (.t 32)]), qo 13 (.asg (.t 33))]
def Jq6s (p : Nums) : IC := (.region (Jq6x p) [])
@[simp] theorem Je6s {p : Nums} : EqI (Jq6s p) (.region (Jq6x p) []) := eqi
def Jq6i (p : Nums) : IC := (.seq (.region [⟨(some 36), (.mov (.t 13)), none, false⟩, ⟨(some 10), (.asg (.t 36)), none, false⟩] []) .ret)
@[simp] theorem Je6i {p : Nums} : EqI (Jq6i p) (.seq (.region [⟨(some 36), (.mov (.t 13)), none, false⟩, ⟨(some 10), (.asg (.t 36)), none, false⟩] []) .ret) := eqi
def Jq6j (p : Nums) : IC := (.seq (Jq6r p) (.seq (Jq6s p) (.seq (.region [⟨(some 34), (.mov (.t 13)), none, false⟩, ⟨(some 35), (.bin .neq (.t 34) (.c (.d (.int .i64 0)))), none, false⟩] []) (.cond (.t 35) (Jq6i p) .skip))))
@[simp] theorem Je6j {p : Nums} : EqI (Jq6j p) (.seq (Jq6r p) (.seq (Jq6s p) (.seq (.region [⟨(some 34), (.mov (.t 13)), none, false⟩, ⟨(some 35), (.bin .neq (.t 34) (.c (.d (.int .i64 0)))), none, false⟩] []) (.cond (.t 35) (Jq6i p) .skip)))) := eqi
def Jq6k (p : Nums) : IC := (.seq (.region [⟨(some 26), (.bin .lss (.t 25) (.t 24)), none, false⟩] []) (.seq (.cond (.t 26) .skip (.exit 1)) (.seq (.block 2 (Jq6j p)) (.region [⟨(some 37), (.bin .add (.t 25) (.c (.d (.int .i64 1)))), none, false⟩, ⟨(some 25), (.mov (.t 37)), none, false⟩] []))))
@[simp] theorem Je6k {p : Nums} : EqI (Jq6k p) (.seq (.region [⟨(some 26), (.bin .lss (.t 25) (.t 24)), none, false⟩] []) (.seq (.cond (.t 26) .skip (.exit 1)) (.seq (.block 2 (Jq6j p)) (.region [⟨(some 37), (.bin .add (.t 25) (.c (.d (.int .i64 1)))), none, false⟩, ⟨(some 25), (.mov (.t 37)), none, false⟩] [])))) := eqi
def Jta8 (p : Nums) : IC := (.seq (.region [⟨(some 10), (.asg (.c (.d (.int .i64 0)))), none, false⟩] []) (.seq (.block 0 (Jq6p p)) (.seq (.seq (Jq6q p) (.block 1 (.loop (Jq6k p)))) (.seq (.region [⟨(some 10), (.asg (.c (.d (.int .i64 0)))), none, false⟩] []) .ret))))
@[simp] def Jq5j (p : Nums) : List IOp := [qo 1 (.box (.t 0)), qo 2 (.alloc [(zi 0), (zi 0), (zi 0), (zi 0), (zi 0), (zi 0), (zi 0)])]
def Jq5c (p : Nums) : IC := (.region (Jq5j p) [])
@[simp] theorem Je5c {p : Nums} : EqI (Jq5c p) (.region (Jq5j p) []) := eqi
@[simp] def Jq5k (p : Nums) : List IOp := [qo 6 (.faddr 7 (.t 1)), qo 7 (.load none (.t 6)), qo 8 (.iaddr 1 (.t 7) (ci 0)), qo 9 (.load none (.t 8)), qo 10 (.len (.t 9)), qo 11 (.bin .add (ci 1) (.t 10)), qo 12 (.build [(zi 0), (zi 0), (zi 0), (zi 0), (zi 0), (zi 0), (zi 0)] [(5, 1, (.t 11))]), qo 3 (.alloc [(zi 0), (zi 0), (zi 0), (zi 0), (zi 0), (zi 0), (zi 0)]), qn (.store 7 (.t 3) (.t 12))]
def Jq5d (p : Nums) : IC := (.region (Jq5k p) [])
@[simp] theorem Je5d {p : Nums} : EqI (Jq5d p) (.region (Jq5k p) []) := eqi
@[simp] def Jq5l (p : Nums) : List IOp := [qo 13 (.faddr 7 (.t 1)), qo 14 (.load none (.t 13)), qo 15 (.len (.t 14)), qo 16 (.mov (ci 0))]
def Jq5e (p : Nums) : IC := (.region (Jq5l p) [])
@[simp] theorem Je5e {p : Nums} : EqI (Jq5e p) (.region (Jq5l p) []) := eqi
@[simp] def Jq5m (p : Nums) : List IOp := [qo 18 (.iaddr 1 (.t 14) (.t 16)), qo 19 (.load none (.t 18)), qo 5 (.asg (.t 19))]
def Jq5f (p : Nums) : IC := (.region (Jq5m p) [])
@[simp] theorem Je5f {p : Nums} : EqI (Jq5f p) (.region (Jq5m p) []) := eqi
@[simp] def Jq5n (p : Nums) : List IOp := [qo 20 (.faddr 6 (.t 3)), qo 21 (.load none (.t 20)), qo 22 (.mov (.t 5)), qo 23 (.len (.t 22)), qo 24 (.mx (.t 21) (.t 23)), qo 25 (.faddr 6 (.t 3)), qn (.store 1 (.t 25) (.t 24))]
def Jq5g (p : Nums) : IC := (.region (Jq5n p) [])
@[simp] theorem Je5g {p : Nums} : EqI (Jq5g p) (.region (Jq5n p) []) := eqi
def Jq5h (p : Nums) : IC := (.seq (.region [⟨(some 17), (.bin .lss (.t 16) (.t 15)), none, false⟩] []) (.seq (.cond (.t 17) .skip (.exit 0)) (.seq (.block 1 (.seq (Jq5f p) (Jq5g p))) (.region [⟨(some 26), (.bin .add (.t 16) (.c (.d (.int .i64 1)))), none, false⟩, ⟨(some 16), (.mov (.t 26)), none, false⟩] []))))
@[simp] theorem Je5h {p : Nums} : EqI (Jq5h p) (.seq (.region [⟨(some 17), (.bin .lss (.t 16) (.t 15)), none, false⟩] []) (.seq (.cond (.t 17) .skip (.exit 0)) (.seq (.block 1 (.seq (Jq5f p) (Jq5g p))) (.region [⟨(some 26), (.bin .add (.t 16) (.c (.d (.int .i64 1)))), none, false⟩, ⟨(some 16), (.mov (.t 26)), none, false⟩] [])))) := eqi
@[simp] def Jq5o (p : Nums) : List IOp := [qp 28 (.faddr 7 (.t 1)), qp 29 (.load none (.t 28)), qp 30 (.iaddr 1 (.t 29) (ci 0)), qp 31 (.load none (.t 30)), qp 32 (.faddr 0 (.t 1)), qp 33 (.faddr 0 (.t 32)), qp 34 (.load none (.t 33)), qo 35 (.call p.edge_Entry [(.t 31), (.t 34)]), qo 27 (.mov (.t 35)), qp 36 (.ext (.t 27) 0), qp 37 (.ext (.t 27) 1), qo 38 (.faddr 0 (.t 3)), qn (.store 1 (.t 38) (.t 37))]
def Jq5i (p : Nums) : IC := (.region (Jq5o p) [])
@[simp] theorem Je5i {p : Nums} : EqI (Jq5i p) (.region (Jq5o p) []) := eqi
def Jta4 (p : Nums) : IC := (.seq (Jq5c p) (.seq (Jq5d p) (.seq (.seq (Jq5e p) (.block 0 (.loop (Jq5h p)))) (.seq (Jq5i p) (.seq (.region [⟨(some 39), (.load (some 7) (.t 3)), none, false⟩, ⟨none, (.store 7 (.t 2) (.t 39)), none, false⟩] []) .ret)))))
@[simp] def Jq1k (p : Nums) : List IOp := [qo 4 (.box (.t 0)), qo 5 (.box (.t 1)), qo 8 (.alloc [.nils, (zi 0), (zi 0), (zi 0), (zi 0)])]
def Jq19 (p : Nums) : IC := (.region (Jq1k p) [])
@[simp] theorem Je19 {p : Nums} : EqI (Jq19 p) (.region (Jq1k p) []) := eqi
@[simp] def Jq1n (p : Nums) : List IOp := [qo 14 (.mov (.t 2)), qo 15 (.len (.t 14)), qo 16 (.mov (.t 3)), qo 17 (.bin .gtr (.t 15) (.t 16))]
def Jq1c (p : Nums) : IC := (.region (Jq1n p) [])
@[simp] theorem Je1c {p : Nums} : EqI (Jq1c p) (.region (Jq1n p) []) := eqi
@[simp] def Jq1o (p : Nums) : List IOp := [qo 18 (.mov (.t 2)), qo 19 (.len (.t 18)), qo 20 (.build [.nils, (zi 0), (zi 0), (zi 0), (zi 0)] [(1, 1, (ci 24)), (4, 1, (.t 19))]), qn (.store 5 (.t 8) (.t 20))]
def Jq1d (p : Nums) : IC := (.region (Jq1o p) [])
@[simp] theorem Je1d {p : Nums} : EqI (Jq1d p) (.region (Jq1o p) []) := eqi
@[simp] def Jq1p (p : Nums) : List IOp := [qo 22 (.faddr 0 (.t 4)), qo 23 (.load none (.t 22)), qo 24 (.faddr 0 (.t 5)), qo 25 (.load none (.t 24)), qo 26 (.call p.align_Code [(.t 23), (.t 25)]), qo 21 (.mov (.t 26)), qo 27 (.ext (.t 21) 0), qo 28 (.ext (.t 21) 1), qo 29 (.ext (.t 21) 2), qo 9 (.asg (.t 27)), qo 10 (.asg (.t 28)), qo 11 (.asg (.t 29))]
def Jq1e (p : Nums) : IC := (.region (Jq1p p) [])
@[simp] theorem Je1e {p : Nums} : EqI (Jq1e p) (.region (Jq1p p) []) := eqi
@[simp] def Jq1q (p : Nums) : List IOp := [qo 30 (.mov (.t 11)), qo 31 (.bin .eql (.t 30) (ci 0)), qo 32 (.mov (.t 31)), ⟨(some 33), (.faddr 1 (.t 4)), (some (32, true)), false⟩, ⟨(some 34), (.load (some 4) (.t 33)), (some (32, true)), false⟩, ⟨(some 35), (.faddr 1 (.t 5)), (some (32, true)), false⟩, ⟨(some 36), (.load (some 4) (.t 35)), (some (32, true)), false⟩, ⟨(some 37), (.call p.align_Terms [(.t 34), (.t 36)]), (some (32, true)), false⟩, ⟨(some 38), (.un .not (.t 37)), (some (32, true)), false⟩, qo 39 (.pick (.t 32) (.t 38) (.c (.d (.bool false))))]
def Jq1f (p : Nums) : IC := (.region (Jq1q p) [])
@[simp] theorem Je1f {p : Nums} : EqI (Jq1f p) (.region (Jq1q p) []) := eqi
@[simp] def Jq1r (p : Nums) : List IOp := [qo 11 (.asg (ci 20))]
def Jq1g (p : Nums) : IC := (.region (Jq1r p) [])
@[simp] theorem Je1g {p : Nums} : EqI (Jq1g p) (.region (Jq1r p) []) := eqi
@[simp] def Jq1s (p : Nums) : List IOp := [qo 42 (.mov (.t 11)), qo 43 (.mov (.t 10)), qo 44 (.mov (.t 2)), qo 45 (.len (.t 44)), qo 46 (.build [.nils, (zi 0), (zi 0), (zi 0), (zi 0)] [(1, 1, (.t 42)), (2, 1, (.t 43)), (4, 1, (.t 45))]), qn (.store 5 (.t 8) (.t 46))]
def Jq1h (p : Nums) : IC := (.region (Jq1s p) [])
@[simp] theorem Je1h {p : Nums} : EqI (Jq1h p) (.region (Jq1s p) []) := eqi
@[simp] def Jq1t (p : Nums) : List IOp := [qo 47 (.mov (.t 2)), qo 48 (.call p.pairset_Make [(.t 47)]), qo 49 (.mov (.t 3)), qo 50 (.mov (.t 2)), qo 51 (.len (.t 50)), qo 52 (.build [.nils, (zi 0), (zi 0), (zi 0)] [(0, 1, (.t 48)), (1, 1, (.t 49)), (3, 1, (.t 51))]), qo 53 (.box (.t 52)), qo 12 (.asg (.t 53))]
def Jq1i (p : Nums) : IC := (.region (Jq1t p) [])
@[simp] theorem Je1i {p : Nums} : EqI (Jq1i p) (.region (Jq1t p) []) := eqi
@[simp] def Jq1u (p : Nums) : List IOp := [qo 55 (.mov (.t 12)), qo 56 (.load (some 5) (.t 4)), qo 57 (.load (some 5) (.t 5)), qo 58 (.mov (.t 9)), qo 59 (.call p.blockcheck_checker_run [(.t 55), (.t 56), (.t 57), (.t 58)]), qo 54 (.mov (.t 59)), qo 60 (.ext (.t 54) 0), qo 61 (.ext (.t 54) 1), qo 11 (.asg (.t 60)), qo 10 (.asg (.t 61))]
def Jq1j (p : Nums) : IC := (.region (Jq1u p) [])
@[simp] theorem Je1j {p : Nums} : EqI (Jq1j p) (.region (Jq1u p) []) := eqi
@[simp] def Jq1l (p : Nums) : List IOp := [qp 62 (.mov (.t 11)), qp 63 (.mov (.t 10)), qp 64 (.mov (.t 12)), qp 65 (.nilck (.t 64)), qp 66 (.faddr 2 (.t 65)), qp 67 (.load none (.t 66)), qp 68 (.mov (.t 12)), qp 69 (.nilck (.t 68)), qp 70 (.faddr 3 (.t 69)), qp 71 (.load none (.t 70)), qp 72 (.build [.nils, (zi 0), (zi 0), (zi 0), (zi 0)] [(1, 1, (.t 62)), (2, 1, (.t 63)), (3, 1, (.t 67)), (4, 1, (.t 71))]), qp 13 (.alloc [.nils, (zi 0), (zi 0), (zi 0), (zi 0)]), qn (.store 5 (.t 13) (.t 72))]
def Jq1a (p : Nums) : IC := (.region (Jq1l p) [])
@[simp] theorem Je1a {p : Nums} : EqI (Jq1a p) (.region (Jq1l p) []) := eqi
@[simp] def Jq1m (p : Nums) : List IOp := [qo 75 (.mov (.t 12)), qo 76 (.nilck (.t 75)), qo 77 (.faddr 0 (.t 76)), qo 78 (.load none (.t 77)), qo 79 (.faddr 0 (.t 13)), qn (.store 1 (.t 79) (.t 78))]
def Jq1b (p : Nums) : IC := (.region (Jq1m p) [])
@[simp] theorem Je1b {p : Nums} : EqI (Jq1b p) (.region (Jq1m p) []) := eqi
def Jt9s (p : Nums) : IC := (.seq (Jq19 p) (.seq (.seq (Jq1c p) (.cond (.t 17) (.seq (Jq1d p) .ret) .skip)) (.seq (Jq1e p) (.seq (.seq (Jq1f p) (.cond (.t 39) (Jq1g p) .skip)) (.seq (.seq (.region [⟨(some 40), (.mov (.t 11)), none, false⟩, ⟨(some 41), (.bin .neq (.t 40) (.c (.d (.int .i64 0)))), none, false⟩] []) (.cond (.t 41) (.seq (Jq1h p) .ret) .skip)) (.seq (Jq1i p) (.seq (Jq1j p) (.seq (Jq1a p) (.seq (.seq (.region [⟨(some 73), (.mov (.t 11)), none, false⟩, ⟨(some 74), (.bin .eql (.t 73) (.c (.d (.int .i64 0)))), none, false⟩] []) (.cond (.t 74) (Jq1b p) .skip)) (.seq (.region [⟨(some 80), (.load (some 5) (.t 13)), none, false⟩, ⟨none, (.store 5 (.t 8) (.t 80)), none, false⟩] []) .ret))))))))))
@[simp] def Jqlf (p : Nums) : List IOp := [qo 7 (.faddr 2 (.t 1)), qo 8 (.load none (.t 7)), qo 9 (.bslice 1 1 [(.int .i64 0)] [(0, (.t 8))]), qo 2 (.asg (.t 9))]
def Jqlb (p : Nums) : IC := (.region (Jqlf p) [])
@[simp] theorem Jelb {p : Nums} : EqI (Jqlb p) (.region (Jqlf p) []) := eqi
@[simp] def Jqlg (p : Nums) : List IOp := [qo 12 (.faddr 2 (.t 1)), qo 13 (.load none (.t 12)), qo 14 (.faddr 3 (.t 1)), qo 15 (.load none (.t 14)), qo 16 (.bslice 1 2 [(.int .i64 0)] [(0, (.t 13)), (1, (.t 15))]), qo 2 (.asg (.t 16))]
def Jqlc (p : Nums) : IC := (.region (Jqlg p) [])
@[simp] theorem Jelc {p : Nums} : EqI (Jqlc p) (.region (Jqlg p) []) := eqi
def Jqld (p : Nums) : IC := (.seq (.region [⟨(some 11), (.bin .eql (.t 4) (.c (.d (.int .i64 2)))), none, false⟩, ⟨(some 10), (.asg (.t 11)), none, false⟩] []) (.cond (.t 10) (.seq (Jqlc p) .ret) .skip))
@[simp] theorem Jeld {p : Nums} : EqI (Jqld p) (.seq (.region [⟨(some 11), (.bin .eql (.t 4) (.c (.d (.int .i64 2)))), none, false⟩, ⟨(some 10), (.asg (.t 11)), none, false⟩] []) (.cond (.t 10) (.seq (Jqlc p) .ret) .skip)) := eqi
def Jqle (p : Nums) : IC := (.seq (.region [⟨(some 6), (.bin .eql (.t 4) (.c (.d (.int .i64 1)))), none, false⟩, ⟨(some 5), (.asg (.t 6)), none, false⟩] []) (.cond (.t 5) (.seq (Jqlb p) .ret) (Jqld p)))
@[simp] theorem Jele {p : Nums} : EqI (Jqle p) (.seq (.region [⟨(some 6), (.bin .eql (.t 4) (.c (.d (.int .i64 1)))), none, false⟩, ⟨(some 5), (.asg (.t 6)), none, false⟩] []) (.cond (.t 5) (.seq (Jqlb p) .ret) (Jqld p))) := eqi
def Jtbr (p : Nums) : IC := (.seq (.region [⟨(some 1), (.box (.t 0)), none, false⟩, ⟨(some 2), (.asg (.c .nils)), none, false⟩] []) (.seq (.seq (.region [⟨(some 3), (.faddr 0 (.t 1)), none, false⟩, ⟨(some 4), (.load none (.t 3)), none, false⟩] []) (.block 0 (Jqle p))) (.seq (.region [⟨(some 2), (.asg (.c .nils)), none, false⟩] []) .ret)))
@[simp] def Jq67 (p : Nums) : List IOp := [qo 4 (.alloc [(zi 0), (zi 0)]), qo 5 (.asg (ci 0))]
def Jq63 (p : Nums) : IC := (.region (Jq67 p) [])
@[simp] theorem Je63 {p : Nums} : EqI (Jq63 p) (.region (Jq67 p) []) := eqi
@[simp] def Jq68 (p : Nums) : List IOp := [qo 9 (.mov (.t 1)), qo 10 (.mov (.t 0)), qo 11 (.call p.pairset_Missing [(.t 9), (.t 10)]), qo 8 (.mov (.t 11)), qo 12 (.ext (.t 8) 0), qo 13 (.ext (.t 8) 1), qo 6 (.alloc [(zi 0), (zi 0)]), qn (.store 2 (.t 6) (.t 12)), qo 7 (.asg (.t 13))]
def Jq64 (p : Nums) : IC := (.region (Jq68 p) [])
@[simp] theorem Je64 {p : Nums} : EqI (Jq64 p) (.region (Jq68 p) []) := eqi
@[simp] def Jq69 (p : Nums) : List IOp := [qo 15 (.load (some 2) (.t 6)), qn (.store 2 (.t 4) (.t 15)), qo 5 (.asg (ci 22))]
def Jq65 (p : Nums) : IC := (.region (Jq69 p) [])
@[simp] theorem Je65 {p : Nums} : EqI (Jq65 p) (.region (Jq69 p) []) := eqi
@[simp] def Jq6a (p : Nums) : List IOp := [qo 16 (.build [(zi 0), (zi 0)] []), qn (.store 2 (.t 4) (.t 16)), qo 5 (.asg (ci 0))]
def Jq66 (p : Nums) : IC := (.region (Jq6a p) [])
@[simp] theorem Je66 {p : Nums} : EqI (Jq66 p) (.region (Jq6a p) []) := eqi
def Jta6 (p : Nums) : IC := (.seq (Jq63 p) (.seq (.seq (Jq64 p) (.seq (.region [⟨(some 14), (.mov (.t 7)), none, false⟩] []) (.cond (.t 14) (.seq (Jq65 p) .ret) .skip))) (.seq (Jq66 p) .ret)))
@[simp] def Jqks (p : Nums) : List IOp := [qo 6 (.faddr 2 (.t 1)), qo 7 (.load none (.t 6)), qo 8 (.len (.t 7)), qo 9 (.mov (ci 0))]
def Jqko (p : Nums) : IC := (.region (Jqks p) [])
@[simp] theorem Jeko {p : Nums} : EqI (Jqko p) (.region (Jqks p) []) := eqi
@[simp] def Jqkt (p : Nums) : List IOp := [qo 11 (.iaddr 5 (.t 7) (.t 9)), qo 12 (.load (some 5) (.t 11)), qo 5 (.alloc [.nils, (zi 0), (zi 0), (zi 0), (zi 0)]), qn (.store 5 (.t 5) (.t 12))]
def Jqkp (p : Nums) : IC := (.region (Jqkt p) [])
@[simp] theorem Jekp {p : Nums} : EqI (Jqkp p) (.region (Jqkt p) []) := eqi
@[simp] def Jqku (p : Nums) : List IOp := [qo 13 (.mov (.t 3)), qo 14 (.faddr 0 (.t 5)), qo 15 (.load none (.t 14)), qo 16 (.len (.t 15)), qo 17 (.bin .add (.t 13) (.t 16)), qo 3 (.asg (.t 17))]
def Jqkq (p : Nums) : IC := (.region (Jqku p) [])
@[simp] theorem Jekq {p : Nums} : EqI (Jqkq p) (.region (Jqku p) []) := eqi
def Jqkr (p : Nums) : IC := (.seq (.region [⟨(some 10), (.bin .lss (.t 9) (.t 8)), none, false⟩] []) (.seq (.cond (.t 10) .skip (.exit 0)) (.seq (.block 1 (.seq (Jqkp p) (Jqkq p))) (.region [⟨(some 18), (.bin .add (.t 9) (.c (.d (.int .i64 1)))), none, false⟩, ⟨(some 9), (.mov (.t 18)), none, false⟩] []))))
@[simp] theorem Jekr {p : Nums} : EqI (Jqkr p) (.seq (.region [⟨(some 10), (.bin .lss (.t 9) (.t 8)), none, false⟩] []) (.seq (.cond (.t 10) .skip (.exit 0)) (.seq (.block 1 (.seq (Jqkp p) (Jqkq p))) (.region [⟨(some 18), (.bin .add (.t 9) (.c (.d (.int .i64 1)))), none, false⟩, ⟨(some 9), (.mov (.t 18)), none, false⟩] [])))) := eqi
def Jtbp (p : Nums) : IC := (.seq (.region [⟨(some 1), (.box (.t 0)), none, false⟩, ⟨(some 2), (.asg (.c (.d (.int .i64 0)))), none, false⟩] []) (.seq (.region [⟨(some 3), (.asg (.c (.d (.int .i64 0)))), none, false⟩] []) (.seq (.seq (Jqko p) (.block 0 (.loop (Jqkr p)))) (.seq (.region [⟨(some 19), (.mov (.t 3)), none, false⟩, ⟨(some 2), (.asg (.t 19)), none, false⟩] []) .ret))))
@[simp] def Jq9g (p : Nums) : List IOp := [qo 6 (.faddr 3 (.t 1)), qo 7 (.load none (.t 6)), qo 8 (.len (.t 7)), qo 9 (.mov (ci 0))]
def Jq9c (p : Nums) : IC := (.region (Jq9g p) [])
@[simp] theorem Je9c {p : Nums} : EqI (Jq9c p) (.region (Jq9g p) []) := eqi
@[simp] def Jq9h (p : Nums) : List IOp := [qo 11 (.iaddr 5 (.t 7) (.t 9)), qo 12 (.load (some 5) (.t 11)), qo 5 (.alloc [.nils, (zi 0), (zi 0), (zi 0), (zi 0)]), qn (.store 5 (.t 5) (.t 12))]
def Jq9d (p : Nums) : IC := (.region (Jq9h p) [])
@[simp] theorem Je9d {p : Nums} : EqI (Jq9d p) (.region (Jq9h p) []) := eqi
@[simp] def Jq9i (p : Nums) : List IOp := [qo 13 (.mov (.t 3)), qo 14 (.faddr 0 (.t 5)), qo 15 (.load none (.t 14)), qo 16 (.len (.t 15)), qo 17 (.bin .add (.t 13) (.t 16)), qo 3 (.asg (.t 17))]
def Jq9e (p : Nums) : IC := (.region (Jq9i p) [])
@[simp] theorem Je9e {p : Nums} : EqI (Jq9e p) (.region (Jq9i p) []) := eqi
def Jq9f (p : Nums) : IC := (.seq (.region [⟨(some 10), (.bin .lss (.t 9) (.t 8)), none, false⟩] []) (.seq (.cond (.t 10) .skip (.exit 0)) (.seq (.block 1 (.seq (Jq9d p) (Jq9e p))) (.region [⟨(some 18), (.bin .add (.t 9) (.c (.d (.int .i64 1)))), none, false⟩, ⟨(some 9), (.mov (.t 18)), none, false⟩] []))))
@[simp] theorem Je9f {p : Nums} : EqI (Jq9f p) (.seq (.region [⟨(some 10), (.bin .lss (.t 9) (.t 8)), none, false⟩] []) (.seq (.cond (.t 10) .skip (.exit 0)) (.seq (.block 1 (.seq (Jq9d p) (Jq9e p))) (.region [⟨(some 18), (.bin .add (.t 9) (.c (.d (.int .i64 1)))), none, false⟩, ⟨(some 9), (.mov (.t 18)), none, false⟩] [])))) := eqi
def Jtaj (p : Nums) : IC := (.seq (.region [⟨(some 1), (.box (.t 0)), none, false⟩, ⟨(some 2), (.asg (.c (.d (.int .i64 0)))), none, false⟩] []) (.seq (.region [⟨(some 3), (.asg (.c (.d (.int .i64 0)))), none, false⟩] []) (.seq (.seq (Jq9c p) (.block 0 (.loop (Jq9f p)))) (.seq (.region [⟨(some 19), (.mov (.t 3)), none, false⟩, ⟨(some 2), (.asg (.t 19)), none, false⟩] []) .ret))))
@[simp] def Jqey (p : Nums) : List IOp := [qo 5 (.faddr 0 (.t 1)), qo 6 (.load none (.t 5)), qo 7 (.faddr 1 (.t 1)), qo 8 (.load none (.t 7)), qo 9 (.build [(zi 0), (zi 0), .nils] [(0, 1, (.t 6)), (1, 1, (.t 8))]), qo 3 (.alloc [(zi 0), (zi 0), .nils]), qn (.store 3 (.t 3) (.t 9))]
def Jqet (p : Nums) : IC := (.region (Jqey p) [])
@[simp] theorem Jeet {p : Nums} : EqI (Jqet p) (.region (Jqey p) []) := eqi
@[simp] def Jqez (p : Nums) : List IOp := [qo 10 (.mov (.t 4)), qo 11 (.faddr 2 (.t 1)), qo 12 (.load none (.t 11)), qo 13 (.len (.t 12)), qo 14 (.bin .lss (.t 10) (.t 13))]
def Jqeu (p : Nums) : IC := (.region (Jqez p) [])
@[simp] theorem Jeeu {p : Nums} : EqI (Jqeu p) (.region (Jqez p) []) := eqi
@[simp] def Jqf0 (p : Nums) : List IOp := [qp 17 (.faddr 2 (.t 3)), qp 18 (.load none (.t 17)), qp 19 (.bslice 5 0 [(.int .i64 0), (.int .i64 0), (.int .i64 0), (.int .i64 0), (.int .i64 0)] []), qp 20 (.faddr 2 (.t 1)), qp 21 (.load none (.t 20)), qp 22 (.mov (.t 4)), qp 23 (.iaddr 5 (.t 21) (.t 22)), qp 24 (.faddr 0 (.t 23)), qp 25 (.load none (.t 24)), qp 26 (.app 5 40 (.t 19) (.t 25)), qp 27 (.faddr 2 (.t 1)), qp 28 (.load none (.t 27)), qp 29 (.mov (.t 4)), qp 30 (.iaddr 5 (.t 28) (.t 29)), qp 31 (.faddr 1 (.t 30)), qp 32 (.load (some 4) (.t 31)), qp 33 (.build [.nils, (zi 0), (zi 0), (zi 0), (zi 0)] [(0, 1, (.t 26)), (1, 4, (.t 32))]), qp 34 (.bslice 5 1 [(.sl []), (.int .i64 0), (.int .i64 0), (.int .i64 0), (.int .i64 0)] [(0, (.t 33))]), qo 35 (.app 5 56 (.t 18) (.t 34)), qo 36 (.faddr 2 (.t 3)), qn (.store 1 (.t 36) (.t 35))]
def Jqev (p : Nums) : IC := (.region (Jqf0 p) [])
@[simp] theorem Jeev {p : Nums} : EqI (Jqev p) (.region (Jqf0 p) []) := eqi
@[simp] def Jqf1 (p : Nums) : List IOp := [qo 15 (.mov (.t 4)), qo 16 (.bin .add (.t 15) (ci 1)), qo 4 (.asg (.t 16))]
def Jqew (p : Nums) : IC := (.region (Jqf1 p) [])
@[simp] theorem Jeew {p : Nums} : EqI (Jqew p) (.region (Jqf1 p) []) := eqi
def Jqex (p : Nums) : IC := (.seq (.seq (Jqeu p) (.cond (.t 14) .skip (.exit 0))) (.seq (.block 1 (Jqev p)) (Jqew p)))
@[simp] theorem Jeex {p : Nums} : EqI (Jqex p) (.seq (.seq (Jqeu p) (.cond (.t 14) .skip (.exit 0))) (.seq (.block 1 (Jqev p)) (Jqew p))) := eqi
def Jtb9 (p : Nums) : IC := (.seq (.region [⟨(some 1), (.box (.t 0)), none, false⟩, ⟨(some 2), (.alloc [(.d (.int .i64 0)), (.d (.int .i64 0)), .nils]), none, false⟩] []) (.seq (Jqet p) (.seq (.seq (.region [⟨(some 4), (.asg (.c (.d (.int .i64 0)))), none, false⟩] []) (.block 0 (.loop (Jqex p)))) (.seq (.region [⟨(some 37), (.load (some 3) (.t 3)), none, false⟩, ⟨none, (.store 3 (.t 2) (.t 37)), none, false⟩] []) .ret))))
@[simp] def Jqgg (p : Nums) : List IOp := [qo 1 (.box (.t 0)), qo 2 (.alloc [(zi 0), (zi 0), (zi 0), .nils])]
def Jqga (p : Nums) : IC := (.region (Jqgg p) [])
@[simp] theorem Jega {p : Nums} : EqI (Jqga p) (.region (Jqgg p) []) := eqi
@[simp] def Jqgh (p : Nums) : List IOp := [qo 5 (.faddr 0 (.t 1)), qo 6 (.load none (.t 5)), qo 7 (.faddr 1 (.t 1)), qo 8 (.load none (.t 7)), qo 9 (.faddr 2 (.t 1)), qo 10 (.load none (.t 9)), qo 11 (.build [(zi 0), (zi 0), (zi 0), .nils] [(0, 1, (.t 6)), (1, 1, (.t 8)), (2, 1, (.t 10))]), qo 3 (.alloc [(zi 0), (zi 0), (zi 0), .nils]), qn (.store 4 (.t 3) (.t 11))]
def Jqgb (p : Nums) : IC := (.region (Jqgh p) [])
@[simp] theorem Jegb {p : Nums} : EqI (Jqgb p) (.region (Jqgh p) []) := eqi
@[simp] def Jqgi (p : Nums) : List IOp := [qo 12 (.mov (.t 4)), qo 13 (.faddr 3 (.t 1)), qo 14 (.load none (.t 13)), qo 15 (.len (.t 14)), qo 16 (.bin .lss (.t 12) (.t 15))]
def Jqgc (p : Nums) : IC := (.region (Jqgi p) [])
@[simp] theorem Jegc {p : Nums} : EqI (Jqgc p) (.region (Jqgi p) []) := eqi
@[simp] def Jqgj (p : Nums) : List IOp := [qp 19 (.faddr 3 (.t 3)), qp 20 (.load none (.t 19)), qp 21 (.bslice 7 0 [(.int .i64 0), (.int .i64 0), (.int .i64 0), (.int .i64 0), (.int .i64 0), (.int .i64 0), (.int .i64 0)] []), qp 22 (.faddr 3 (.t 1)), qp 23 (.load none (.t 22)), qp 24 (.mov (.t 4)), qp 25 (.iaddr 5 (.t 23) (.t 24)), qp 26 (.faddr 0 (.t 25)), qp 27 (.load none (.t 26)), qp 28 (.app 7 56 (.t 21) (.t 27)), qp 29 (.faddr 3 (.t 1)), qp 30 (.load none (.t 29)), qp 31 (.mov (.t 4)), qp 32 (.iaddr 5 (.t 30) (.t 31)), qp 33 (.faddr 1 (.t 32)), qp 34 (.load (some 4) (.t 33)), qp 35 (.build [.nils, (zi 0), (zi 0), (zi 0), (zi 0)] [(0, 1, (.t 28)), (1, 4, (.t 34))]), qp 36 (.bslice 5 1 [(.sl []), (.int .i64 0), (.int .i64 0), (.int .i64 0), (.int .i64 0)] [(0, (.t 35))]), qo 37 (.app 5 56 (.t 20) (.t 36)), qo 38 (.faddr 3 (.t 3)), qn (.store 1 (.t 38) (.t 37))]
def Jqgd (p : Nums) : IC := (.region (Jqgj p) [])
@[simp] theorem Jegd {p : Nums} : EqI (Jqgd p) (.region (Jqgj p) []) := eqi
@[simp] def Jqgk (p : Nums) : List IOp := [qo 17 (.mov (.t 4)), qo 18 (.bin .add (.t 17) (ci 1)), qo 4 (.asg (.t 18))]
def Jqge (p : Nums) : IC := (.region (Jqgk p) [])
@[simp] theorem Jege {p : Nums} : EqI (Jqge p) (.region (Jqgk p) []) := eqi
def Jqgf (p : Nums) : IC := (.seq (.seq (Jqgc p) (.cond (.t 16) .skip (.exit 0))) (.seq (.block 1 (Jqgd p)) (Jqge p)))
@[simp] theorem Jegf {p : Nums} : EqI (Jqgf p) (.seq (.seq (Jqgc p) (.cond (.t 16) .skip (.exit 0))) (.seq (.block 1 (Jqgd p)) (Jqge p))) := eqi
def Jtbd (p : Nums) : IC := (.seq (Jqga p) (.seq (Jqgb p) (.seq (.seq (.region [⟨(some 4), (.asg (.c (.d (.int .i64 0)))), none, false⟩] []) (.block 0 (.loop (Jqgf p)))) (.seq (.region [⟨(some 39), (.load (some 4) (.t 3)), none, false⟩, ⟨none, (.store 4 (.t 2) (.t 39)), none, false⟩] []) .ret))))
@[simp] def Jqhe (p : Nums) : List IOp := [qo 2 (.box (.t 0)), qo 3 (.box (.t 1)), qo 4 (.asg (.c (.d (.bool false))))]
def Jqgz (p : Nums) : IC := (.region (Jqhe p) [])
@[simp] theorem Jegz {p : Nums} : EqI (Jqgz p) (.region (Jqhe p) []) := eqi
@[simp] def Jqhh (p : Nums) : List IOp := [qo 7 (.faddr 0 (.t 2)), qo 8 (.load none (.t 7)), qo 9 (.faddr 0 (.t 3)), qo 10 (.load none (.t 9)), qo 11 (.bin .neq (.t 8) (.t 10)), qo 12 (.mov (.t 11)), ⟨(some 13), (.faddr 1 (.t 2)), (some (12, false)), false⟩, ⟨(some 14), (.load none (.t 13)), (some (12, false)), false⟩, ⟨(some 15), (.faddr 1 (.t 3)), (some (12, false)), false⟩, ⟨(some 16), (.load none (.t 15)), (some (12, false)), false⟩, ⟨(some 17), (.bin .neq (.t 14) (.t 16)), (some (12, false)), false⟩, qo 18 (.pick (.t 12) (.c (.d (.bool true))) (.t 17)), qo 19 (.mov (.t 18)), ⟨(some 20), (.faddr 2 (.t 2)), (some (19, false)), false⟩, ⟨(some 21), (.load none (.t 20)), (some (19, false)), false⟩, ⟨(some 22), (.faddr 2 (.t 3)), (some (19, false)), false⟩, ⟨(some 23), (.load none (.t 22)), (some (19, false)), false⟩, ⟨(some 24), (.bin .neq (.t 21) (.t 23)), (some (19, false)), false⟩, qo 25 (.pick (.t 19) (.c (.d (.bool true))) (.t 24)), qo 26 (.mov (.t 25)), ⟨(some 27), (.faddr 3 (.t 2)), (some (26, false)), false⟩, ⟨(some 28), (.load none (.t 27)), (some (26, false)), false⟩, ⟨(some 29), (.len (.t 28)), (some (26, false)), false⟩, ⟨(some 30), (.faddr 3 (.t 3)), (some (26, false)), false⟩, ⟨(some 31), (.load none (.t 30)), (some (26, false)), false⟩, ⟨(some 32), (.len (.t 31)), (some (26, false)), false⟩, ⟨(some 33), (.bin .neq (.t 29) (.t 32)), (some (26, false)), false⟩, qo 34 (.pick (.t 26) (.c (.d (.bool true))) (.t 33))]
def Jqh6 (p : Nums) : IC := (.region (Jqhh p) [])
@[simp] theorem Jeh6 {p : Nums} : EqI (Jqh6 p) (.region (Jqhh p) []) := eqi
def Jqh7 (p : Nums) : IC := (.seq (.region [⟨(some 4), (.asg (.c (.d (.bool false)))), none, false⟩] []) .ret)
@[simp] theorem Jeh7 {p : Nums} : EqI (Jqh7 p) (.seq (.region [⟨(some 4), (.asg (.c (.d (.bool false)))), none, false⟩] []) .ret) := eqi
@[simp] def Jqhi (p : Nums) : List IOp := [qo 35 (.mov (.t 5)), qo 36 (.faddr 3 (.t 2)), qo 37 (.load none (.t 36)), qo 38 (.len (.t 37)), qo 39 (.bin .lss (.t 35) (.t 38))]
def Jqh8 (p : Nums) : IC := (.region (Jqhi p) [])
@[simp] theorem Jeh8 {p : Nums} : EqI (Jqh8 p) (.region (Jqhi p) []) := eqi
@[simp] def Jqhj (p : Nums) : List IOp := [qp 42 (.faddr 3 (.t 2)), qp 43 (.load none (.t 42)), qp 44 (.mov (.t 5)), qp 45 (.iaddr 5 (.t 43) (.t 44)), qp 46 (.faddr 1 (.t 45)), qp 47 (.load (some 4) (.t 46)), qp 48 (.faddr 3 (.t 3)), qp 49 (.load none (.t 48)), qp 50 (.mov (.t 5)), qp 51 (.iaddr 5 (.t 49) (.t 50)), qp 52 (.faddr 1 (.t 51)), qp 53 (.load (some 4) (.t 52)), qo 54 (.eqs true [.int, .int, .int, .int] (.t 47) (.t 53)), qo 55 (.mov (.t 54)), ⟨(some 56), (.faddr 3 (.t 2)), (some (55, false)), true⟩, ⟨(some 57), (.load none (.t 56)), (some (55, false)), true⟩, ⟨(some 58), (.mov (.t 5)), (some (55, false)), true⟩, ⟨(some 59), (.iaddr 5 (.t 57) (.t 58)), (some (55, false)), true⟩, ⟨(some 60), (.faddr 0 (.t 59)), (some (55, false)), true⟩, ⟨(some 61), (.load none (.t 60)), (some (55, false)), true⟩, ⟨(some 62), (.len (.t 61)), (some (55, false)), true⟩, ⟨(some 63), (.faddr 3 (.t 3)), (some (55, false)), true⟩, ⟨(some 64), (.load none (.t 63)), (some (55, false)), true⟩, ⟨(some 65), (.mov (.t 5)), (some (55, false)), true⟩, ⟨(some 66), (.iaddr 5 (.t 64) (.t 65)), (some (55, false)), true⟩, ⟨(some 67), (.faddr 0 (.t 66)), (some (55, false)), true⟩, ⟨(some 68), (.load none (.t 67)), (some (55, false)), true⟩, ⟨(some 69), (.len (.t 68)), (some (55, false)), true⟩, ⟨(some 70), (.bin .neq (.t 62) (.t 69)), (some (55, false)), false⟩, qo 71 (.pick (.t 55) (.c (.d (.bool true))) (.t 70))]
def Jqh9 (p : Nums) : IC := (.region (Jqhj p) [])
@[simp] theorem Jeh9 {p : Nums} : EqI (Jqh9 p) (.region (Jqhj p) []) := eqi
def Jqha (p : Nums) : IC := (.seq (.region [⟨(some 4), (.asg (.c (.d (.bool false)))), none, false⟩] []) .ret)
@[simp] theorem Jeha {p : Nums} : EqI (Jqha p) (.seq (.region [⟨(some 4), (.asg (.c (.d (.bool false)))), none, false⟩] []) .ret) := eqi
@[simp] def Jqhk (p : Nums) : List IOp := [qo 72 (.mov (.t 6)), qo 73 (.faddr 3 (.t 2)), qo 74 (.load none (.t 73)), qo 75 (.mov (.t 5)), qo 76 (.iaddr 5 (.t 74) (.t 75)), qo 77 (.faddr 0 (.t 76)), qo 78 (.load none (.t 77)), qo 79 (.len (.t 78)), qo 80 (.bin .lss (.t 72) (.t 79))]
def Jqhb (p : Nums) : IC := (.region (Jqhk p) [])
@[simp] theorem Jehb {p : Nums} : EqI (Jqhb p) (.region (Jqhk p) []) := eqi
@[simp] def Jqhl (p : Nums) : List IOp := [qp 83 (.faddr 3 (.t 2)), qp 84 (.load none (.t 83)), qp 85 (.mov (.t 5)), qp 86 (.iaddr 5 (.t 84) (.t 85)), qp 87 (.faddr 0 (.t 86)), qp 88 (.load none (.t 87)), qp 89 (.mov (.t 6)), qp 90 (.iaddr 7 (.t 88) (.t 89)), qp 91 (.load (some 7) (.t 90)), qp 92 (.faddr 3 (.t 3)), qp 93 (.load none (.t 92)), qp 94 (.mov (.t 5)), qp 95 (.iaddr 5 (.t 93) (.t 94)), qp 96 (.faddr 0 (.t 95)), qp 97 (.load none (.t 96)), qp 98 (.mov (.t 6)), qp 99 (.iaddr 7 (.t 97) (.t 98)), qp 100 (.load (some 7) (.t 99)), qo 101 (.eqs true [.int, .int, .int, .int, .int, .int, .int] (.t 91) (.t 100))]
def Jqhc (p : Nums) : IC := (.region (Jqhl p) [])
@[simp] theorem Jehc {p : Nums} : EqI (Jqhc p) (.region (Jqhl p) []) := eqi
def Jqhd (p : Nums) : IC := (.seq (.region [⟨(some 4), (.asg (.c (.d (.bool false)))), none, false⟩] []) .ret)
@[simp] theorem Jehd {p : Nums} : EqI (Jqhd p) (.seq (.region [⟨(some 4), (.asg (.c (.d (.bool false)))), none, false⟩] []) .ret) := eqi
def Jqh0 (p : Nums) : IC := (.seq (Jqhc p) (.cond (.t 101) (Jqhd p) .skip))
@[simp] theorem Jeh0 {p : Nums} : EqI (Jqh0 p) (.seq (Jqhc p) (.cond (.t 101) (Jqhd p) .skip)) := eqi
@[simp] def Jqhf (p : Nums) : List IOp := [qo 81 (.mov (.t 6)), qo 82 (.bin .add (.t 81) (ci 1)), qo 6 (.asg (.t 82))]
def Jqh1 (p : Nums) : IC := (.region (Jqhf p) [])
@[simp] theorem Jeh1 {p : Nums} : EqI (Jqh1 p) (.region (Jqhf p) []) := eqi
def Jqh2 (p : Nums) : IC := (.seq (.seq (Jqhb p) (.cond (.t 80) .skip (.exit 2))) (.seq (.block 3 (Jqh0 p)) (Jqh1 p)))
@[simp] theorem Jeh2 {p : Nums} : EqI (Jqh2 p) (.seq (.seq (Jqhb p) (.cond (.t 80) .skip (.exit 2))) (.seq (.block 3 (Jqh0 p)) (Jqh1 p))) := eqi
def Jqh3 (p : Nums) : IC := (.seq (.seq (Jqh9 p) (.cond (.t 71) (Jqha p) .skip)) (.seq (.region [⟨(some 6), (.asg (.c (.d (.int .i64 0)))), none, false⟩] []) (.block 2 (.loop (Jqh2 p)))))
@[simp] theorem Jeh3 {p : Nums} : EqI (Jqh3 p) (.seq (.seq (Jqh9 p) (.cond (.t 71) (Jqha p) .skip)) (.seq (.region [⟨(some 6), (.asg (.c (.d (.int .i64 0)))), none, false⟩] []) (.block 2 (.loop (Jqh2 p))))) := eqi
@[simp] def Jqhg (p : Nums) : List IOp := [qo 40 (.mov (.t 5)), qo 41 (.bin .add (.t 40) (ci 1)), qo 5 (.asg (.t 41))]
def Jqh4 (p : Nums) : IC := (.region (Jqhg p) [])
@[simp] theorem Jeh4 {p : Nums} : EqI (Jqh4 p) (.region (Jqhg p) []) := eqi
def Jqh5 (p : Nums) : IC := (.seq (.seq (Jqh8 p) (.cond (.t 39) .skip (.exit 0))) (.seq (.block 1 (Jqh3 p)) (Jqh4 p)))
@[simp] theorem Jeh5 {p : Nums} : EqI (Jqh5 p) (.seq (.seq (Jqh8 p) (.cond (.t 39) .skip (.exit 0))) (.seq (.block 1 (Jqh3 p)) (Jqh4 p))) := eqi
def Jtbf (p : Nums) : IC := (.seq (Jqgz p) (.seq (.seq (Jqh6 p) (.cond (.t 34) (Jqh7 p) .skip)) (.seq (.seq (.region [⟨(some 5), (.asg (.c (.d (.int .i64 0)))), none, false⟩] []) (.block 0 (.loop (Jqh5 p)))) (.seq (.region [⟨(some 4), (.asg (.c (.d (.bool true)))), none, false⟩] []) .ret))))
@[simp] def Jqih (p : Nums) : List IOp := [qo 6 (.mov (.t 0)), qo 7 (.len (.t 6)), qo 8 (.mov (.t 1)), qo 9 (.len (.t 8)), qo 10 (.bin .neq (.t 7) (.t 9))]
def Jqi9 (p : Nums) : IC := (.region (Jqih p) [])
@[simp] theorem Jei9 {p : Nums} : EqI (Jqi9 p) (.region (Jqih p) []) := eqi
def Jqia (p : Nums) : IC := (.seq (.region [⟨(some 4), (.asg (.c (.d (.bool false)))), none, false⟩] []) .ret)
@[simp] theorem Jeia {p : Nums} : EqI (Jqia p) (.seq (.region [⟨(some 4), (.asg (.c (.d (.bool false)))), none, false⟩] []) .ret) := eqi
@[simp] def Jqii (p : Nums) : List IOp := [qo 11 (.mov (.t 5)), qo 12 (.mov (.t 0)), qo 13 (.len (.t 12)), qo 14 (.bin .lss (.t 11) (.t 13))]
def Jqib (p : Nums) : IC := (.region (Jqii p) [])
@[simp] theorem Jeib {p : Nums} : EqI (Jqib p) (.region (Jqii p) []) := eqi
@[simp] def Jqij (p : Nums) : List IOp := [qp 17 (.mov (.t 0)), qp 18 (.mov (.t 5)), qp 19 (.iaddr 1 (.t 17) (.t 18)), qp 20 (.load none (.t 19)), qp 21 (.mov (.t 1)), qp 22 (.mov (.t 5)), qp 23 (.iaddr 1 (.t 21) (.t 22)), qp 24 (.load none (.t 23)), qo 25 (.call p.ref11_Same [(.t 20), (.t 24)]), qo 26 (.un .not (.t 25))]
def Jqic (p : Nums) : IC := (.region (Jqij p) [])
@[simp] theorem Jeic {p : Nums} : EqI (Jqic p) (.region (Jqij p) []) := eqi
def Jqid (p : Nums) : IC := (.seq (.region [⟨(some 4), (.asg (.c (.d (.bool false)))), none, false⟩] []) .ret)
@[simp] theorem Jeid {p : Nums} : EqI (Jqid p) (.seq (.region [⟨(some 4), (.asg (.c (.d (.bool false)))), none, false⟩] []) .ret) := eqi
def Jqie (p : Nums) : IC := (.seq (Jqic p) (.cond (.t 26) (Jqid p) .skip))
@[simp] theorem Jeie {p : Nums} : EqI (Jqie p) (.seq (Jqic p) (.cond (.t 26) (Jqid p) .skip)) := eqi
@[simp] def Jqik (p : Nums) : List IOp := [qo 15 (.mov (.t 5)), qo 16 (.bin .add (.t 15) (ci 1)), qo 5 (.asg (.t 16))]
def Jqif (p : Nums) : IC := (.region (Jqik p) [])
@[simp] theorem Jeif {p : Nums} : EqI (Jqif p) (.region (Jqik p) []) := eqi
def Jqig (p : Nums) : IC := (.seq (.seq (Jqib p) (.cond (.t 14) .skip (.exit 0))) (.seq (.block 1 (Jqie p)) (Jqif p)))
@[simp] theorem Jeig {p : Nums} : EqI (Jqig p) (.seq (.seq (Jqib p) (.cond (.t 14) .skip (.exit 0))) (.seq (.block 1 (Jqie p)) (Jqif p))) := eqi
def Jtbi (p : Nums) : IC := (.seq (.region [⟨(some 4), (.asg (.c (.d (.bool false)))), none, false⟩] []) (.seq (.seq (Jqi9 p) (.cond (.t 10) (Jqia p) .skip)) (.seq (.seq (.region [⟨(some 5), (.asg (.c (.d (.int .i64 0)))), none, false⟩] []) (.block 0 (.loop (Jqig p)))) (.seq (.region [⟨(some 4), (.asg (.c (.d (.bool true)))), none, false⟩] []) .ret))))
@[simp] def Jqeq (p : Nums) : List IOp := [qo 5 (.mov (.t 4)), qo 6 (.faddr 2 (.t 1)), qo 7 (.load none (.t 6)), qo 8 (.len (.t 7)), qo 9 (.bin .lss (.t 5) (.t 8))]
def Jqem (p : Nums) : IC := (.region (Jqeq p) [])
@[simp] theorem Jeem {p : Nums} : EqI (Jqem p) (.region (Jqeq p) []) := eqi
@[simp] def Jqer (p : Nums) : List IOp := [qo 12 (.mov (.t 3)), qo 13 (.faddr 2 (.t 1)), qo 14 (.load none (.t 13)), qo 15 (.mov (.t 4)), qo 16 (.iaddr 5 (.t 14) (.t 15)), qo 17 (.faddr 0 (.t 16)), qo 18 (.load none (.t 17)), qo 19 (.len (.t 18)), qo 20 (.bin .add (.t 12) (.t 19)), qo 3 (.asg (.t 20))]
def Jqen (p : Nums) : IC := (.region (Jqer p) [])
@[simp] theorem Jeen {p : Nums} : EqI (Jqen p) (.region (Jqer p) []) := eqi
@[simp] def Jqes (p : Nums) : List IOp := [qo 10 (.mov (.t 4)), qo 11 (.bin .add (.t 10) (ci 1)), qo 4 (.asg (.t 11))]
def Jqeo (p : Nums) : IC := (.region (Jqes p) [])
@[simp] theorem Jeeo {p : Nums} : EqI (Jqeo p) (.region (Jqes p) []) := eqi
def Jqep (p : Nums) : IC := (.seq (.seq (Jqem p) (.cond (.t 9) .skip (.exit 0))) (.seq (.block 1 (Jqen p)) (Jqeo p)))
@[simp] theorem Jeep {p : Nums} : EqI (Jqep p) (.seq (.seq (Jqem p) (.cond (.t 9) .skip (.exit 0))) (.seq (.block 1 (Jqen p)) (Jqeo p))) := eqi
def Jtb8 (p : Nums) : IC := (.seq (.region [⟨(some 1), (.box (.t 0)), none, false⟩, ⟨(some 2), (.asg (.c (.d (.int .i64 0)))), none, false⟩] []) (.seq (.region [⟨(some 3), (.asg (.c (.d (.int .i64 0)))), none, false⟩] []) (.seq (.seq (.region [⟨(some 4), (.asg (.c (.d (.int .i64 0)))), none, false⟩] []) (.block 0 (.loop (Jqep p)))) (.seq (.region [⟨(some 21), (.mov (.t 3)), none, false⟩, ⟨(some 2), (.asg (.t 21)), none, false⟩] []) .ret))))
@[simp] def Jqg7 (p : Nums) : List IOp := [qo 5 (.mov (.t 4)), qo 6 (.faddr 3 (.t 1)), qo 7 (.load none (.t 6)), qo 8 (.len (.t 7)), qo 9 (.bin .lss (.t 5) (.t 8))]
def Jqg3 (p : Nums) : IC := (.region (Jqg7 p) [])
@[simp] theorem Jeg3 {p : Nums} : EqI (Jqg3 p) (.region (Jqg7 p) []) := eqi
@[simp] def Jqg8 (p : Nums) : List IOp := [qo 12 (.mov (.t 3)), qo 13 (.faddr 3 (.t 1)), qo 14 (.load none (.t 13)), qo 15 (.mov (.t 4)), qo 16 (.iaddr 5 (.t 14) (.t 15)), qo 17 (.faddr 0 (.t 16)), qo 18 (.load none (.t 17)), qo 19 (.len (.t 18)), qo 20 (.bin .add (.t 12) (.t 19)), qo 3 (.asg (.t 20))]
def Jqg4 (p : Nums) : IC := (.region (Jqg8 p) [])
@[simp] theorem Jeg4 {p : Nums} : EqI (Jqg4 p) (.region (Jqg8 p) []) := eqi
@[simp] def Jqg9 (p : Nums) : List IOp := [qo 10 (.mov (.t 4)), qo 11 (.bin .add (.t 10) (ci 1)), qo 4 (.asg (.t 11))]
def Jqg5 (p : Nums) : IC := (.region (Jqg9 p) [])
@[simp] theorem Jeg5 {p : Nums} : EqI (Jqg5 p) (.region (Jqg9 p) []) := eqi
def Jqg6 (p : Nums) : IC := (.seq (.seq (Jqg3 p) (.cond (.t 9) .skip (.exit 0))) (.seq (.block 1 (Jqg4 p)) (Jqg5 p)))
@[simp] theorem Jeg6 {p : Nums} : EqI (Jqg6 p) (.seq (.seq (Jqg3 p) (.cond (.t 9) .skip (.exit 0))) (.seq (.block 1 (Jqg4 p)) (Jqg5 p))) := eqi
def Jtbc (p : Nums) : IC := (.seq (.region [⟨(some 1), (.box (.t 0)), none, false⟩, ⟨(some 2), (.asg (.c (.d (.int .i64 0)))), none, false⟩] []) (.seq (.region [⟨(some 3), (.asg (.c (.d (.int .i64 0)))), none, false⟩] []) (.seq (.seq (.region [⟨(some 4), (.asg (.c (.d (.int .i64 0)))), none, false⟩] []) (.block 0 (.loop (Jqg6 p)))) (.seq (.region [⟨(some 21), (.mov (.t 3)), none, false⟩, ⟨(some 2), (.asg (.t 21)), none, false⟩] []) .ret))))
@[simp] def Jqmj (p : Nums) : List IOp := [qo 10 (.faddr 0 (.t 3)), qo 11 (.load none (.t 10)), qo 12 (.len (.t 11)), qo 13 (.mov (ci 0))]
def Jqmc (p : Nums) : IC := (.region (Jqmj p) [])
@[simp] theorem Jemc {p : Nums} : EqI (Jqmc p) (.region (Jqmj p) []) := eqi
@[simp] def Jqmk (p : Nums) : List IOp := [qo 15 (.iaddr 5 (.t 11) (.t 13)), qo 16 (.load (some 5) (.t 15)), qo 8 (.alloc [(zi 0), (zi 0), (zi 0), (zi 0), (zi 0)]), qn (.store 5 (.t 8) (.t 16))]
def Jqmd (p : Nums) : IC := (.region (Jqmk p) [])
@[simp] theorem Jemd {p : Nums} : EqI (Jqmd p) (.region (Jqmk p) []) := eqi
@[simp] def Jqml (p : Nums) : List IOp := [qo 17 (.load (some 5) (.t 8)), qo 18 (.mov (.t 1)), qo 19 (.call p.source_Instr [(.t 17), (.t 18)]), qo 9 (.asg (.t 19))]
def Jqme (p : Nums) : IC := (.region (Jqml p) [])
@[simp] theorem Jeme {p : Nums} : EqI (Jqme p) (.region (Jqml p) []) := eqi
def Jqmf (p : Nums) : IC := (.seq (.region [⟨(some 22), (.mov (.t 9)), none, false⟩, ⟨(some 6), (.asg (.t 22)), none, false⟩] []) .ret)
@[simp] theorem Jemf {p : Nums} : EqI (Jqmf p) (.seq (.region [⟨(some 22), (.mov (.t 9)), none, false⟩, ⟨(some 6), (.asg (.t 22)), none, false⟩] []) .ret) := eqi
def Jqmg (p : Nums) : IC := (.seq (Jqmd p) (.seq (Jqme p) (.seq (.region [⟨(some 20), (.mov (.t 9)), none, false⟩, ⟨(some 21), (.bin .neq (.t 20) (.c (.d (.int .i64 0)))), none, false⟩] []) (.cond (.t 21) (Jqmf p) .skip))))
@[simp] theorem Jemg {p : Nums} : EqI (Jqmg p) (.seq (Jqmd p) (.seq (Jqme p) (.seq (.region [⟨(some 20), (.mov (.t 9)), none, false⟩, ⟨(some 21), (.bin .neq (.t 20) (.c (.d (.int .i64 0)))), none, false⟩] []) (.cond (.t 21) (Jqmf p) .skip)))) := eqi
def Jqmh (p : Nums) : IC := (.seq (.region [⟨(some 14), (.bin .lss (.t 13) (.t 12)), none, false⟩] []) (.seq (.cond (.t 14) .skip (.exit 0)) (.seq (.block 1 (Jqmg p)) (.region [⟨(some 23), (.bin .add (.t 13) (.c (.d (.int .i64 1)))), none, false⟩, ⟨(some 13), (.mov (.t 23)), none, false⟩] []))))
@[simp] theorem Jemh {p : Nums} : EqI (Jqmh p) (.seq (.region [⟨(some 14), (.bin .lss (.t 13) (.t 12)), none, false⟩] []) (.seq (.cond (.t 14) .skip (.exit 0)) (.seq (.block 1 (Jqmg p)) (.region [⟨(some 23), (.bin .add (.t 13) (.c (.d (.int .i64 1)))), none, false⟩, ⟨(some 13), (.mov (.t 23)), none, false⟩] [])))) := eqi
@[simp] def Jqmm (p : Nums) : List IOp := [qo 24 (.faddr 1 (.t 3)), qo 25 (.load (some 4) (.t 24)), qo 26 (.mov (.t 1)), qo 27 (.mov (.t 2)), qo 28 (.call p.source_Term [(.t 25), (.t 26), (.t 27)]), qo 6 (.asg (.t 28))]
def Jqmi (p : Nums) : IC := (.region (Jqmm p) [])
@[simp] theorem Jemi {p : Nums} : EqI (Jqmi p) (.region (Jqmm p) []) := eqi
def Jtbu (p : Nums) : IC := (.seq (.region [⟨(some 3), (.box (.t 0)), none, false⟩, ⟨(some 6), (.asg (.c (.d (.int .i64 0)))), none, false⟩] []) (.seq (.seq (Jqmc p) (.block 0 (.loop (Jqmh p)))) (.seq (Jqmi p) .ret)))
@[simp] def Jqaa (p : Nums) : List IOp := [qo 2 (.box (.t 0)), qo 3 (.box (.t 1)), qo 4 (.asg (ci 0))]
def Jq9y (p : Nums) : IC := (.region (Jqaa p) [])
@[simp] theorem Je9y {p : Nums} : EqI (Jq9y p) (.region (Jqaa p) []) := eqi
@[simp] def Jqac (p : Nums) : List IOp := [qo 9 (.faddr 0 (.t 3)), qo 10 (.load none (.t 9)), qo 11 (.len (.t 10)), qo 12 (.mov (ci 0))]
def Jqa2 (p : Nums) : IC := (.region (Jqac p) [])
@[simp] theorem Jea2 {p : Nums} : EqI (Jqa2 p) (.region (Jqac p) []) := eqi
@[simp] def Jqad (p : Nums) : List IOp := [qo 14 (.iaddr 7 (.t 10) (.t 12)), qo 15 (.load (some 7) (.t 14)), qo 7 (.alloc [(zi 0), (zi 0), (zi 0), (zi 0), (zi 0), (zi 0), (zi 0)]), qn (.store 7 (.t 7) (.t 15))]
def Jqa3 (p : Nums) : IC := (.region (Jqad p) [])
@[simp] theorem Jea3 {p : Nums} : EqI (Jqa3 p) (.region (Jqad p) []) := eqi
@[simp] def Jqae (p : Nums) : List IOp := [qo 16 (.load (some 7) (.t 7)), qo 17 (.faddr 1 (.t 2)), qo 18 (.load none (.t 17)), qo 19 (.faddr 2 (.t 2)), qo 20 (.load none (.t 19)), qo 21 (.call p.machine_Instr [(.t 16), (.t 18), (.t 20)]), qo 8 (.asg (.t 21))]
def Jqa4 (p : Nums) : IC := (.region (Jqae p) [])
@[simp] theorem Jea4 {p : Nums} : EqI (Jqa4 p) (.region (Jqae p) []) := eqi
def Jqa5 (p : Nums) : IC := (.seq (.region [⟨(some 24), (.mov (.t 8)), none, false⟩, ⟨(some 4), (.asg (.t 24)), none, false⟩] []) .ret)
@[simp] theorem Jea5 {p : Nums} : EqI (Jqa5 p) (.seq (.region [⟨(some 24), (.mov (.t 8)), none, false⟩, ⟨(some 4), (.asg (.t 24)), none, false⟩] []) .ret) := eqi
@[simp] def Jqaf (p : Nums) : List IOp := [qo 25 (.mov (.t 5)), qo 26 (.bin .add (.t 25) (ci 1)), qo 5 (.asg (.t 26))]
def Jqa6 (p : Nums) : IC := (.region (Jqaf p) [])
@[simp] theorem Jea6 {p : Nums} : EqI (Jqa6 p) (.region (Jqaf p) []) := eqi
@[simp] def Jqag (p : Nums) : List IOp := [qo 27 (.faddr 0 (.t 7)), qo 28 (.load none (.t 27)), qo 29 (.bin .neq (.t 28) (ci 18))]
def Jqa7 (p : Nums) : IC := (.region (Jqag p) [])
@[simp] theorem Jea7 {p : Nums} : EqI (Jqa7 p) (.region (Jqag p) []) := eqi
@[simp] def Jqah (p : Nums) : List IOp := [qo 5 (.asg (ci 0))]
def Jqa8 (p : Nums) : IC := (.region (Jqah p) [])
@[simp] theorem Jea8 {p : Nums} : EqI (Jqa8 p) (.region (Jqah p) []) := eqi
def Jqa9 (p : Nums) : IC := (.seq (.region [⟨(some 4), (.asg (.c (.d (.int .i64 15)))), none, false⟩] []) .ret)
@[simp] theorem Jea9 {p : Nums} : EqI (Jqa9 p) (.seq (.region [⟨(some 4), (.asg (.c (.d (.int .i64 15)))), none, false⟩] []) .ret) := eqi
def Jq9z (p : Nums) : IC := (.seq (Jqa3 p) (.seq (.seq (Jqa4 p) (.seq (.region [⟨(some 22), (.mov (.t 8)), none, false⟩, ⟨(some 23), (.bin .neq (.t 22) (.c (.d (.int .i64 0)))), none, false⟩] []) (.cond (.t 23) (Jqa5 p) .skip))) (.seq (Jqa6 p) (.seq (.seq (Jqa7 p) (.cond (.t 29) (Jqa8 p) .skip)) (.seq (.region [⟨(some 30), (.mov (.t 5)), none, false⟩, ⟨(some 31), (.bin .gtr (.t 30) (.c (.d (.int .i64 64)))), none, false⟩] []) (.cond (.t 31) (Jqa9 p) .skip))))))
@[simp] theorem Je9z {p : Nums} : EqI (Jq9z p) (.seq (Jqa3 p) (.seq (.seq (Jqa4 p) (.seq (.region [⟨(some 22), (.mov (.t 8)), none, false⟩, ⟨(some 23), (.bin .neq (.t 22) (.c (.d (.int .i64 0)))), none, false⟩] []) (.cond (.t 23) (Jqa5 p) .skip))) (.seq (Jqa6 p) (.seq (.seq (Jqa7 p) (.cond (.t 29) (Jqa8 p) .skip)) (.seq (.region [⟨(some 30), (.mov (.t 5)), none, false⟩, ⟨(some 31), (.bin .gtr (.t 30) (.c (.d (.int .i64 64)))), none, false⟩] []) (.cond (.t 31) (Jqa9 p) .skip)))))) := eqi
def Jqa0 (p : Nums) : IC := (.seq (.region [⟨(some 13), (.bin .lss (.t 12) (.t 11)), none, false⟩] []) (.seq (.cond (.t 13) .skip (.exit 0)) (.seq (.block 1 (Jq9z p)) (.region [⟨(some 32), (.bin .add (.t 12) (.c (.d (.int .i64 1)))), none, false⟩, ⟨(some 12), (.mov (.t 32)), none, false⟩] []))))
@[simp] theorem Jea0 {p : Nums} : EqI (Jqa0 p) (.seq (.region [⟨(some 13), (.bin .lss (.t 12) (.t 11)), none, false⟩] []) (.seq (.cond (.t 13) .skip (.exit 0)) (.seq (.block 1 (Jq9z p)) (.region [⟨(some 32), (.bin .add (.t 12) (.c (.d (.int .i64 1)))), none, false⟩, ⟨(some 12), (.mov (.t 32)), none, false⟩] [])))) := eqi
@[simp] def Jqab (p : Nums) : List IOp := [qo 33 (.faddr 1 (.t 3)), qo 34 (.load (some 4) (.t 33)), qo 35 (.faddr 1 (.t 2)), qo 36 (.load none (.t 35)), qo 37 (.faddr 3 (.t 2)), qo 38 (.load none (.t 37)), qo 39 (.len (.t 38)), qo 40 (.call p.source_Term [(.t 34), (.t 36), (.t 39)]), qo 4 (.asg (.t 40))]
def Jqa1 (p : Nums) : IC := (.region (Jqab p) [])
@[simp] theorem Jea1 {p : Nums} : EqI (Jqa1 p) (.region (Jqab p) []) := eqi
def Jtal (p : Nums) : IC := (.seq (Jq9y p) (.seq (.region [⟨(some 5), (.asg (.c (.d (.int .i64 0)))), none, false⟩] []) (.seq (.seq (Jqa2 p) (.block 0 (.loop (Jqa0 p)))) (.seq (Jqa1 p) .ret))))
@[simp] def Jq7j (p : Nums) : List IOp := [qo 6 (.mov (.t 0)), qo 7 (.len (.t 6)), qo 8 (.mov (ci 0))]
def Jq7f (p : Nums) : IC := (.region (Jq7j p) [])
@[simp] theorem Je7f {p : Nums} : EqI (Jq7f p) (.region (Jq7j p) []) := eqi
@[simp] def Jq7k (p : Nums) : List IOp := [qo 10 (.iaddr 1 (.t 6) (.t 8)), qo 11 (.load none (.t 10)), qo 5 (.asg (.t 11))]
def Jq7g (p : Nums) : IC := (.region (Jq7k p) [])
@[simp] theorem Je7g {p : Nums} : EqI (Jq7g p) (.region (Jq7k p) []) := eqi
@[simp] def Jq7l (p : Nums) : List IOp := [qo 12 (.mov (.t 3)), qo 13 (.mov (.t 5)), qo 14 (.len (.t 13)), qo 15 (.bin .add (.t 12) (.t 14)), qo 3 (.asg (.t 15))]
def Jq7h (p : Nums) : IC := (.region (Jq7l p) [])
@[simp] theorem Je7h {p : Nums} : EqI (Jq7h p) (.region (Jq7l p) []) := eqi
def Jq7i (p : Nums) : IC := (.seq (.region [⟨(some 9), (.bin .lss (.t 8) (.t 7)), none, false⟩] []) (.seq (.cond (.t 9) .skip (.exit 0)) (.seq (.block 1 (.seq (Jq7g p) (Jq7h p))) (.region [⟨(some 16), (.bin .add (.t 8) (.c (.d (.int .i64 1)))), none, false⟩, ⟨(some 8), (.mov (.t 16)), none, false⟩] []))))
@[simp] theorem Je7i {p : Nums} : EqI (Jq7i p) (.seq (.region [⟨(some 9), (.bin .lss (.t 8) (.t 7)), none, false⟩] []) (.seq (.cond (.t 9) .skip (.exit 0)) (.seq (.block 1 (.seq (Jq7g p) (Jq7h p))) (.region [⟨(some 16), (.bin .add (.t 8) (.c (.d (.int .i64 1)))), none, false⟩, ⟨(some 8), (.mov (.t 16)), none, false⟩] [])))) := eqi
def Jtaa (p : Nums) : IC := (.seq (.region [⟨(some 2), (.asg (.c (.d (.int .i64 0)))), none, false⟩] []) (.seq (.region [⟨(some 3), (.asg (.c (.d (.int .i64 0)))), none, false⟩] []) (.seq (.seq (Jq7f p) (.block 0 (.loop (Jq7i p)))) (.seq (.region [⟨(some 17), (.mov (.t 3)), none, false⟩, ⟨(some 2), (.asg (.t 17)), none, false⟩] []) .ret))))
@[simp] def Jq7a (p : Nums) : List IOp := [qo 11 (.mov (.t 0)), qo 12 (.len (.t 11)), qo 13 (.mov (ci 0))]
def Jq6y (p : Nums) : IC := (.region (Jq7a p) [])
@[simp] theorem Je6y {p : Nums} : EqI (Jq6y p) (.region (Jq7a p) []) := eqi
@[simp] def Jq7b (p : Nums) : List IOp := [qo 15 (.mov (.t 13)), qo 16 (.iaddr 2 (.t 11) (.t 13)), qo 17 (.load (some 2) (.t 16)), qo 10 (.alloc [(zi 0), (zi 0)]), qo 9 (.asg (.t 15)), qn (.store 2 (.t 10) (.t 17))]
def Jq72 (p : Nums) : IC := (.region (Jq7b p) [])
@[simp] theorem Je72 {p : Nums} : EqI (Jq72 p) (.region (Jq7b p) []) := eqi
@[simp] def Jq7c (p : Nums) : List IOp := [qo 19 (.faddr 0 (.t 10)), qo 20 (.load none (.t 19)), qo 21 (.bin .lss (.t 20) (ci 0)), qo 22 (.mov (.t 21)), ⟨(some 23), (.faddr 0 (.t 10)), (some (22, false)), false⟩, ⟨(some 24), (.load none (.t 23)), (some (22, false)), false⟩, ⟨(some 25), (.mov (.t 1)), (some (22, false)), false⟩, ⟨(some 26), (.bin .geq (.t 24) (.t 25)), (some (22, false)), false⟩, qo 27 (.pick (.t 22) (.c (.d (.bool true))) (.t 26)), qo 18 (.asg (.t 27))]
def Jq73 (p : Nums) : IC := (.region (Jq7c p) [])
@[simp] theorem Je73 {p : Nums} : EqI (Jq73 p) (.region (Jq7c p) []) := eqi
@[simp] def Jq7d (p : Nums) : List IOp := [qo 29 (.faddr 1 (.t 10)), qo 30 (.load none (.t 29)), qo 31 (.mov (.t 2)), qo 32 (.mov (.t 3)), qo 33 (.call p.location_InRange [(.t 30), (.t 31), (.t 32)]), qo 34 (.un .not (.t 33)), qo 28 (.asg (.t 34))]
def Jq74 (p : Nums) : IC := (.region (Jq7d p) [])
@[simp] theorem Je74 {p : Nums} : EqI (Jq74 p) (.region (Jq7d p) []) := eqi
@[simp] def Jq7e (p : Nums) : List IOp := [qo 36 (.mov (.t 9)), qo 37 (.bin .gtr (.t 36) (ci 0)), qo 38 (.mov (.t 37)), ⟨(some 39), (.mov (.t 0)), (some (38, true)), true⟩, ⟨(some 40), (.mov (.t 9)), (some (38, true)), true⟩, ⟨(some 41), (.bin .sub (.t 40) (ci 1)), (some (38, true)), true⟩, ⟨(some 42), (.iaddr 2 (.t 39) (.t 41)), (some (38, true)), true⟩, ⟨(some 43), (.load (some 2) (.t 42)), (some (38, true)), true⟩, ⟨(some 44), (.load (some 2) (.t 10)), (some (38, true)), true⟩, ⟨(some 45), (.call p.pairset_Less [(.t 43), (.t 44)]), (some (38, true)), false⟩, ⟨(some 46), (.un .not (.t 45)), (some (38, true)), false⟩, qo 47 (.pick (.t 38) (.t 46) (.c (.d (.bool false)))), qo 35 (.asg (.t 47))]
def Jq75 (p : Nums) : IC := (.region (Jq7e p) [])
@[simp] theorem Je75 {p : Nums} : EqI (Jq75 p) (.region (Jq7e p) []) := eqi
def Jq76 (p : Nums) : IC := (.seq (.region [⟨(some 8), (.asg (.c (.d (.int .i64 13)))), none, false⟩] []) .ret)
@[simp] theorem Je76 {p : Nums} : EqI (Jq76 p) (.seq (.region [⟨(some 8), (.asg (.c (.d (.int .i64 13)))), none, false⟩] []) .ret) := eqi
def Jq77 (p : Nums) : IC := (.seq (.region [⟨(some 8), (.asg (.c (.d (.int .i64 10)))), none, false⟩] []) .ret)
@[simp] theorem Je77 {p : Nums} : EqI (Jq77 p) (.seq (.region [⟨(some 8), (.asg (.c (.d (.int .i64 10)))), none, false⟩] []) .ret) := eqi
def Jq78 (p : Nums) : IC := (.seq (Jq75 p) (.cond (.t 35) (Jq76 p) .skip))
@[simp] theorem Je78 {p : Nums} : EqI (Jq78 p) (.seq (Jq75 p) (.cond (.t 35) (Jq76 p) .skip)) := eqi
def Jq79 (p : Nums) : IC := (.seq (.region [⟨(some 8), (.asg (.c (.d (.int .i64 9)))), none, false⟩] []) .ret)
@[simp] theorem Je79 {p : Nums} : EqI (Jq79 p) (.seq (.region [⟨(some 8), (.asg (.c (.d (.int .i64 9)))), none, false⟩] []) .ret) := eqi
def Jq6z (p : Nums) : IC := (.seq (Jq74 p) (.cond (.t 28) (Jq77 p) (Jq78 p)))
@[simp] theorem Je6z {p : Nums} : EqI (Jq6z p) (.seq (Jq74 p) (.cond (.t 28) (Jq77 p) (Jq78 p))) := eqi
def Jq70 (p : Nums) : IC := (.seq (Jq73 p) (.cond (.t 18) (Jq79 p) (Jq6z p)))
@[simp] theorem Je70 {p : Nums} : EqI (Jq70 p) (.seq (Jq73 p) (.cond (.t 18) (Jq79 p) (Jq6z p))) := eqi
def Jq71 (p : Nums) : IC := (.seq (.region [⟨(some 14), (.bin .lss (.t 13) (.t 12)), none, false⟩] []) (.seq (.cond (.t 14) .skip (.exit 0)) (.seq (.block 1 (.seq (Jq72 p) (.block 2 (Jq70 p)))) (.region [⟨(some 48), (.bin .add (.t 13) (.c (.d (.int .i64 1)))), none, false⟩, ⟨(some 13), (.mov (.t 48)), none, false⟩] []))))
@[simp] theorem Je71 {p : Nums} : EqI (Jq71 p) (.seq (.region [⟨(some 14), (.bin .lss (.t 13) (.t 12)), none, false⟩] []) (.seq (.cond (.t 14) .skip (.exit 0)) (.seq (.block 1 (.seq (Jq72 p) (.block 2 (Jq70 p)))) (.region [⟨(some 48), (.bin .add (.t 13) (.c (.d (.int .i64 1)))), none, false⟩, ⟨(some 13), (.mov (.t 48)), none, false⟩] [])))) := eqi
def Jta9 (p : Nums) : IC := (.seq (.region [⟨(some 8), (.asg (.c (.d (.int .i64 0)))), none, false⟩] []) (.seq (.seq (Jq6y p) (.block 0 (.loop (Jq71 p)))) (.seq (.region [⟨(some 8), (.asg (.c (.d (.int .i64 0)))), none, false⟩] []) .ret)))
@[simp] def Jq5x (p : Nums) : List IOp := [qo 4 (.alloc [(zi 0), (zi 0)]), qo 5 (.asg (ci 0))]
def Jq5p (p : Nums) : IC := (.region (Jq5x p) [])
@[simp] theorem Je5p {p : Nums} : EqI (Jq5p p) (.region (Jq5x p) []) := eqi
@[simp] def Jq5y (p : Nums) : List IOp := [qo 8 (.mov (.t 0)), qo 9 (.len (.t 8)), qo 10 (.mov (ci 0))]
def Jq5q (p : Nums) : IC := (.region (Jq5y p) [])
@[simp] theorem Je5q {p : Nums} : EqI (Jq5q p) (.region (Jq5y p) []) := eqi
@[simp] def Jq5z (p : Nums) : List IOp := [qo 12 (.iaddr 2 (.t 8) (.t 10)), qo 13 (.load (some 2) (.t 12)), qo 7 (.alloc [(zi 0), (zi 0)]), qn (.store 2 (.t 7) (.t 13))]
def Jq5r (p : Nums) : IC := (.region (Jq5z p) [])
@[simp] theorem Je5r {p : Nums} : EqI (Jq5r p) (.region (Jq5z p) []) := eqi
@[simp] def Jq60 (p : Nums) : List IOp := [qo 14 (.load (some 2) (.t 7)), qo 15 (.mov (.t 1)), qo 16 (.call p.edge_Initial [(.t 14), (.t 15)]), qo 17 (.un .not (.t 16))]
def Jq5s (p : Nums) : IC := (.region (Jq60 p) [])
@[simp] theorem Je5s {p : Nums} : EqI (Jq5s p) (.region (Jq60 p) []) := eqi
@[simp] def Jq61 (p : Nums) : List IOp := [qo 18 (.load (some 2) (.t 7)), qn (.store 2 (.t 4) (.t 18)), qo 5 (.asg (ci 23))]
def Jq5t (p : Nums) : IC := (.region (Jq61 p) [])
@[simp] theorem Je5t {p : Nums} : EqI (Jq5t p) (.region (Jq61 p) []) := eqi
def Jq5u (p : Nums) : IC := (.seq (Jq5r p) (.seq (Jq5s p) (.cond (.t 17) (.seq (Jq5t p) .ret) .skip)))
@[simp] theorem Je5u {p : Nums} : EqI (Jq5u p) (.seq (Jq5r p) (.seq (Jq5s p) (.cond (.t 17) (.seq (Jq5t p) .ret) .skip))) := eqi
def Jq5v (p : Nums) : IC := (.seq (.region [⟨(some 11), (.bin .lss (.t 10) (.t 9)), none, false⟩] []) (.seq (.cond (.t 11) .skip (.exit 0)) (.seq (.block 1 (Jq5u p)) (.region [⟨(some 19), (.bin .add (.t 10) (.c (.d (.int .i64 1)))), none, false⟩, ⟨(some 10), (.mov (.t 19)), none, false⟩] []))))
@[simp] theorem Je5v {p : Nums} : EqI (Jq5v p) (.seq (.region [⟨(some 11), (.bin .lss (.t 10) (.t 9)), none, false⟩] []) (.seq (.cond (.t 11) .skip (.exit 0)) (.seq (.block 1 (Jq5u p)) (.region [⟨(some 19), (.bin .add (.t 10) (.c (.d (.int .i64 1)))), none, false⟩, ⟨(some 10), (.mov (.t 19)), none, false⟩] [])))) := eqi
@[simp] def Jq62 (p : Nums) : List IOp := [qo 20 (.build [(zi 0), (zi 0)] []), qn (.store 2 (.t 4) (.t 20)), qo 5 (.asg (ci 0))]
def Jq5w (p : Nums) : IC := (.region (Jq62 p) [])
@[simp] theorem Je5w {p : Nums} : EqI (Jq5w p) (.region (Jq62 p) []) := eqi
def Jta5 (p : Nums) : IC := (.seq (Jq5p p) (.seq (.seq (Jq5q p) (.block 0 (.loop (Jq5v p)))) (.seq (Jq5w p) .ret)))
@[simp] def Jqc (p : Nums) : List IOp := [qo 4 (.asg (.c .nils)), qo 5 (.asg (ci 0)), qo 6 (.asg (ci 0))]
def Jq0 (p : Nums) : IC := (.region (Jqc p) [])
@[simp] theorem Je0 {p : Nums} : EqI (Jq0 p) (.region (Jqc p) []) := eqi
@[simp] def Jqf (p : Nums) : List IOp := [qo 11 (.mov (.t 8)), qo 12 (.mov (.t 0)), qo 13 (.mov (.t 8)), qo 14 (.call p.align_skip_Instr [(.t 12), (.t 13), (.c (.fn (.func p.align_copied) [] []))]), qo 15 (.mov (.t 9)), qo 16 (.mov (.t 1)), qo 17 (.mov (.t 9)), qo 18 (.call p.align_skip_Mach [(.t 16), (.t 17), (.c (.fn (.func p.align_moved) [] []))]), qo 19 (.build [(zi 0), (zi 0), (zi 0), (zi 0), (zi 0), (zi 0)] [(0, 1, (.t 11)), (1, 1, (.t 14)), (2, 1, (.t 15)), (3, 1, (.t 18))]), qo 10 (.alloc [(zi 0), (zi 0), (zi 0), (zi 0), (zi 0), (zi 0)]), qn (.store 6 (.t 10) (.t 19))]
def Jq4 (p : Nums) : IC := (.region (Jqf p) [])
@[simp] theorem Je4 {p : Nums} : EqI (Jq4 p) (.region (Jqf p) []) := eqi
@[simp] def Jqg (p : Nums) : List IOp := [qp 20 (.faddr 1 (.t 10)), qp 21 (.load none (.t 20)), qp 22 (.faddr 3 (.t 10)), qp 23 (.load none (.t 22)), qp 8 (.asg (.t 21)), qo 9 (.asg (.t 23))]
def Jq5 (p : Nums) : IC := (.region (Jqg p) [])
@[simp] theorem Je5 {p : Nums} : EqI (Jq5 p) (.region (Jqg p) []) := eqi
@[simp] def Jqh (p : Nums) : List IOp := [qo 24 (.mov (.t 8)), qo 25 (.mov (.t 0)), qo 26 (.len (.t 25)), qo 27 (.bin .eql (.t 24) (.t 26)), qo 28 (.mov (.t 27)), ⟨(some 29), (.mov (.t 9)), (some (28, true)), false⟩, ⟨(some 30), (.mov (.t 1)), (some (28, true)), false⟩, ⟨(some 31), (.len (.t 30)), (some (28, true)), false⟩, ⟨(some 32), (.bin .eql (.t 29) (.t 31)), (some (28, true)), false⟩, qo 33 (.pick (.t 28) (.t 32) (.c (.d (.bool false))))]
def Jq6 (p : Nums) : IC := (.region (Jqh p) [])
@[simp] theorem Je6 {p : Nums} : EqI (Jq6 p) (.region (Jqh p) []) := eqi
@[simp] def Jqi (p : Nums) : List IOp := [qo 34 (.faddr 4 (.t 10)), qn (.store 1 (.t 34) (ci (-1))), qo 35 (.faddr 5 (.t 10)), qn (.store 1 (.t 35) (ci (-1)))]
def Jq7 (p : Nums) : IC := (.region (Jqi p) [])
@[simp] theorem Je7 {p : Nums} : EqI (Jq7 p) (.region (Jqi p) []) := eqi
@[simp] def Jqj (p : Nums) : List IOp := [qo 36 (.mov (.t 7)), qo 37 (.load (some 6) (.t 10)), qo 38 (.bslice 6 1 [(.int .i64 0), (.int .i64 0), (.int .i64 0), (.int .i64 0), (.int .i64 0), (.int .i64 0)] [(0, (.t 37))]), qo 39 (.app 6 48 (.t 36) (.t 38)), qo 40 (.mov (.t 9)), qo 4 (.asg (.t 39)), qo 5 (.asg (.t 40)), qo 6 (.asg (ci 0))]
def Jq8 (p : Nums) : IC := (.region (Jqj p) [])
@[simp] theorem Je8 {p : Nums} : EqI (Jq8 p) (.region (Jqj p) []) := eqi
@[simp] def Jqk (p : Nums) : List IOp := [qp 41 (.mov (.t 8)), qp 42 (.mov (.t 0)), qp 43 (.len (.t 42)), qo 44 (.bin .eql (.t 41) (.t 43)), qo 45 (.mov (.t 44)), ⟨(some 46), (.mov (.t 9)), (some (45, false)), true⟩, ⟨(some 47), (.mov (.t 1)), (some (45, false)), true⟩, ⟨(some 48), (.len (.t 47)), (some (45, false)), true⟩, ⟨(some 49), (.bin .eql (.t 46) (.t 48)), (some (45, false)), false⟩, qo 50 (.pick (.t 45) (.c (.d (.bool true))) (.t 49)), qo 51 (.mov (.t 50)), ⟨(some 52), (.mov (.t 0)), (some (51, false)), true⟩, ⟨(some 53), (.mov (.t 8)), (some (51, false)), true⟩, ⟨(some 54), (.iaddr 5 (.t 52) (.t 53)), (some (51, false)), true⟩, ⟨(some 55), (.load (some 5) (.t 54)), (some (51, false)), true⟩, ⟨(some 56), (.mov (.t 1)), (some (51, false)), true⟩, ⟨(some 57), (.mov (.t 9)), (some (51, false)), true⟩, ⟨(some 58), (.iaddr 7 (.t 56) (.t 57)), (some (51, false)), true⟩, ⟨(some 59), (.load (some 7) (.t 58)), (some (51, false)), true⟩, ⟨(some 60), (.call p.align_Same [(.t 55), (.t 59)]), (some (51, false)), false⟩, ⟨(some 61), (.un .not (.t 60)), (some (51, false)), false⟩, qo 62 (.pick (.t 51) (.c (.d (.bool true))) (.t 61))]
def Jq9 (p : Nums) : IC := (.region (Jqk p) [])
@[simp] theorem Je9 {p : Nums} : EqI (Jq9 p) (.region (Jqk p) []) := eqi
@[simp] def Jql (p : Nums) : List IOp := [qo 63 (.mov (.t 9)), qo 4 (.asg (.c .nils)), qo 5 (.asg (.t 63)), qo 6 (.asg (ci 20))]
def Jqa (p : Nums) : IC := (.region (Jql p) [])
@[simp] theorem Jea {p : Nums} : EqI (Jqa p) (.region (Jql p) []) := eqi
@[simp] def Jqm (p : Nums) : List IOp := [qo 64 (.mov (.t 8)), qo 65 (.mov (.t 9)), qo 66 (.faddr 4 (.t 10)), qn (.store 1 (.t 66) (.t 64)), qo 67 (.faddr 5 (.t 10)), qn (.store 1 (.t 67) (.t 65))]
def Jqb (p : Nums) : IC := (.region (Jqm p) [])
@[simp] theorem Jeb {p : Nums} : EqI (Jqb p) (.region (Jqm p) []) := eqi
@[simp] def Jqd (p : Nums) : List IOp := [qo 68 (.mov (.t 7)), qo 69 (.load (some 6) (.t 10)), qo 70 (.bslice 6 1 [(.int .i64 0), (.int .i64 0), (.int .i64 0), (.int .i64 0), (.int .i64 0), (.int .i64 0)] [(0, (.t 69))]), qo 71 (.app 6 48 (.t 68) (.t 70)), qo 7 (.asg (.t 71))]
def Jq1 (p : Nums) : IC := (.region (Jqd p) [])
@[simp] theorem Je1 {p : Nums} : EqI (Jq1 p) (.region (Jqd p) []) := eqi
@[simp] def Jqe (p : Nums) : List IOp := [qo 72 (.mov (.t 8)), qo 73 (.bin .add (.t 72) (ci 1)), qo 74 (.mov (.t 9)), qo 75 (.bin .add (.t 74) (ci 1)), qo 8 (.asg (.t 73)), qo 9 (.asg (.t 75))]
def Jq2 (p : Nums) : IC := (.region (Jqe p) [])
@[simp] theorem Je2 {p : Nums} : EqI (Jq2 p) (.region (Jqe p) []) := eqi
def Jq3 (p : Nums) : IC := (.seq (Jq4 p) (.seq (Jq5 p) (.seq (.seq (Jq6 p) (.cond (.t 33) (.seq (Jq7 p) (.seq (Jq8 p) .ret)) .skip)) (.seq (.seq (Jq9 p) (.cond (.t 62) (.seq (Jqa p) .ret) .skip)) (.seq (Jqb p) (.seq (Jq1 p) (Jq2 p)))))))
@[simp] theorem Je3 {p : Nums} : EqI (Jq3 p) (.seq (Jq4 p) (.seq (Jq5 p) (.seq (.seq (Jq6 p) (.cond (.t 33) (.seq (Jq7 p) (.seq (Jq8 p) .ret)) .skip)) (.seq (.seq (Jq9 p) (.cond (.t 62) (.seq (Jqa p) .ret) .skip)) (.seq (Jqb p) (.seq (Jq1 p) (Jq2 p))))))) := eqi
def Jt9l (p : Nums) : IC := (.seq (Jq0 p) (.seq (.region [⟨(some 7), (.asg (.c .nils)), none, false⟩] []) (.seq (.region [⟨(some 8), (.asg (.c (.d (.int .i64 0)))), none, false⟩, ⟨(some 9), (.asg (.c (.d (.int .i64 0)))), none, false⟩] []) (.block 0 (.loop (.block 1 (Jq3 p)))))))
@[simp] def Jqt (p : Nums) : List IOp := [qo 2 (.box (.t 0)), qo 3 (.box (.t 1)), qo 4 (.asg (.c (.d (.bool false))))]
def Jqr (p : Nums) : IC := (.region (Jqt p) [])
@[simp] theorem Jer {p : Nums} : EqI (Jqr p) (.region (Jqt p) []) := eqi
@[simp] def Jqu (p : Nums) : List IOp := [qo 5 (.faddr 0 (.t 2)), qo 6 (.load none (.t 5)), qo 7 (.faddr 0 (.t 3)), qo 8 (.load none (.t 7)), qo 9 (.bin .eql (.t 6) (.t 8)), qo 10 (.mov (.t 9)), ⟨(some 11), (.faddr 2 (.t 2)), (some (10, true)), false⟩, ⟨(some 12), (.load none (.t 11)), (some (10, true)), false⟩, ⟨(some 13), (.faddr 2 (.t 3)), (some (10, true)), false⟩, ⟨(some 14), (.load none (.t 13)), (some (10, true)), false⟩, ⟨(some 15), (.bin .eql (.t 12) (.t 14)), (some (10, true)), false⟩, qo 16 (.pick (.t 10) (.t 15) (.c (.d (.bool false)))), qo 17 (.mov (.t 16)), ⟨(some 18), (.faddr 3 (.t 2)), (some (17, true)), false⟩, ⟨(some 19), (.load none (.t 18)), (some (17, true)), false⟩, ⟨(some 20), (.faddr 3 (.t 3)), (some (17, true)), false⟩, ⟨(some 21), (.load none (.t 20)), (some (17, true)), false⟩, ⟨(some 22), (.bin .eql (.t 19) (.t 21)), (some (17, true)), false⟩, qo 23 (.pick (.t 17) (.t 22) (.c (.d (.bool false)))), qo 4 (.asg (.t 23))]
def Jqs (p : Nums) : IC := (.region (Jqu p) [])
@[simp] theorem Jes {p : Nums} : EqI (Jqs p) (.region (Jqu p) []) := eqi
def Jt9n (p : Nums) : IC := (.seq (Jqr p) (.seq (Jqs p) .ret))
@[simp] def Jqcm (p : Nums) : List IOp := [qo 4 (.mov (.t 0)), qo 5 (.call p.slices_Clone_Pair [(.t 4)]), qo 3 (.asg (.t 5))]
def Jqcj (p : Nums) : IC := (.region (Jqcm p) [])
@[simp] theorem Jecj {p : Nums} : EqI (Jqcj p) (.region (Jqcm p) []) := eqi
@[simp] def Jqcn (p : Nums) : List IOp := [qo 6 (.mov (.t 3)), qo 7 (.call p.slices_SortFunc_Pair [(.t 6), (.c (.fn (.func p.pairset_compare) [] []))])]
def Jqck (p : Nums) : IC := (.region (Jqcn p) [])
@[simp] theorem Jeck {p : Nums} : EqI (Jqck p) (.region (Jqcn p) []) := eqi
@[simp] def Jqco (p : Nums) : List IOp := [qo 8 (.mov (.t 3)), qo 9 (.call p.slices_Compact_Pair [(.t 8)]), qo 2 (.asg (.t 9))]
def Jqcl (p : Nums) : IC := (.region (Jqco p) [])
@[simp] theorem Jecl {p : Nums} : EqI (Jqcl p) (.region (Jqco p) []) := eqi
def Jtb3 (p : Nums) : IC := (.seq (.region [⟨(some 2), (.asg (.c .nils)), none, false⟩] []) (.seq (Jqcj p) (.seq (Jqck p) (.seq (Jqcl p) .ret))))
@[simp] def Jqd0 (p : Nums) : List IOp := [qo 4 (.alloc [(zi 0), (zi 0)]), qo 5 (.asg (.c (.d (.bool false))))]
def Jqcp (p : Nums) : IC := (.region (Jqd0 p) [])
@[simp] theorem Jecp {p : Nums} : EqI (Jqcp p) (.region (Jqd0 p) []) := eqi
@[simp] def Jqd2 (p : Nums) : List IOp := [qo 9 (.mov (.t 0)), qo 10 (.len (.t 9)), qo 11 (.mov (ci 0))]
def Jqcs (p : Nums) : IC := (.region (Jqd2 p) [])
@[simp] theorem Jecs {p : Nums} : EqI (Jqcs p) (.region (Jqd2 p) []) := eqi
@[simp] def Jqd3 (p : Nums) : List IOp := [qo 13 (.iaddr 2 (.t 9) (.t 11)), qo 14 (.load (some 2) (.t 13)), qo 8 (.alloc [(zi 0), (zi 0)]), qn (.store 2 (.t 8) (.t 14))]
def Jqct (p : Nums) : IC := (.region (Jqd3 p) [])
@[simp] theorem Ject {p : Nums} : EqI (Jqct p) (.region (Jqd3 p) []) := eqi
@[simp] def Jqd4 (p : Nums) : List IOp := [qp 15 (.mov (.t 6)), qp 16 (.mov (.t 1)), qp 17 (.len (.t 16)), qo 18 (.bin .lss (.t 15) (.t 17)), qo 19 (.mov (.t 18)), ⟨(some 20), (.mov (.t 1)), (some (19, true)), true⟩, ⟨(some 21), (.mov (.t 6)), (some (19, true)), true⟩, ⟨(some 22), (.iaddr 2 (.t 20) (.t 21)), (some (19, true)), true⟩, ⟨(some 23), (.load (some 2) (.t 22)), (some (19, true)), true⟩, ⟨(some 24), (.load (some 2) (.t 8)), (some (19, true)), true⟩, ⟨(some 25), (.call p.pairset_Less [(.t 23), (.t 24)]), (some (19, true)), false⟩, qo 26 (.pick (.t 19) (.t 25) (.c (.d (.bool false))))]
def Jqcu (p : Nums) : IC := (.region (Jqd4 p) [])
@[simp] theorem Jecu {p : Nums} : EqI (Jqcu p) (.region (Jqd4 p) []) := eqi
@[simp] def Jqd5 (p : Nums) : List IOp := [qo 27 (.mov (.t 6)), qo 28 (.bin .add (.t 27) (ci 1)), qo 6 (.asg (.t 28))]
def Jqcv (p : Nums) : IC := (.region (Jqd5 p) [])
@[simp] theorem Jecv {p : Nums} : EqI (Jqcv p) (.region (Jqd5 p) []) := eqi
def Jqcw (p : Nums) : IC := (.seq (.seq (Jqcu p) (.cond (.t 26) .skip (.exit 2))) (.block 3 (Jqcv p)))
@[simp] theorem Jecw {p : Nums} : EqI (Jqcw p) (.seq (.seq (Jqcu p) (.cond (.t 26) .skip (.exit 2))) (.block 3 (Jqcv p))) := eqi
@[simp] def Jqd6 (p : Nums) : List IOp := [qp 29 (.mov (.t 6)), qp 30 (.mov (.t 1)), qp 31 (.len (.t 30)), qo 32 (.bin .eql (.t 29) (.t 31)), qo 33 (.mov (.t 32)), ⟨(some 34), (.mov (.t 1)), (some (33, false)), true⟩, ⟨(some 35), (.mov (.t 6)), (some (33, false)), true⟩, ⟨(some 36), (.iaddr 2 (.t 34) (.t 35)), (some (33, false)), true⟩, ⟨(some 37), (.load (some 2) (.t 36)), (some (33, false)), true⟩, ⟨(some 38), (.load (some 2) (.t 8)), (some (33, false)), true⟩, ⟨(some 39), (.eqs true [.int, .int] (.t 37) (.t 38)), (some (33, false)), false⟩, qo 40 (.pick (.t 33) (.c (.d (.bool true))) (.t 39))]
def Jqcx (p : Nums) : IC := (.region (Jqd6 p) [])
@[simp] theorem Jecx {p : Nums} : EqI (Jqcx p) (.region (Jqd6 p) []) := eqi
@[simp] def Jqd7 (p : Nums) : List IOp := [qo 41 (.load (some 2) (.t 8)), qn (.store 2 (.t 4) (.t 41)), qo 5 (.asg (.c (.d (.bool true))))]
def Jqcy (p : Nums) : IC := (.region (Jqd7 p) [])
@[simp] theorem Jecy {p : Nums} : EqI (Jqcy p) (.region (Jqd7 p) []) := eqi
def Jqcz (p : Nums) : IC := (.seq (Jqct p) (.seq (.block 2 (.loop (Jqcw p))) (.seq (Jqcx p) (.cond (.t 40) (.seq (Jqcy p) .ret) .skip))))
@[simp] theorem Jecz {p : Nums} : EqI (Jqcz p) (.seq (Jqct p) (.seq (.block 2 (.loop (Jqcw p))) (.seq (Jqcx p) (.cond (.t 40) (.seq (Jqcy p) .ret) .skip)))) := eqi
def Jqcq (p : Nums) : IC := (.seq (.region [⟨(some 12), (.bin .lss (.t 11) (.t 10)), none, false⟩] []) (.seq (.cond (.t 12) .skip (.exit 0)) (.seq (.block 1 (Jqcz p)) (.region [⟨(some 42), (.bin .add (.t 11) (.c (.d (.int .i64 1)))), none, false⟩, ⟨(some 11), (.mov (.t 42)), none, false⟩] []))))
@[simp] theorem Jecq {p : Nums} : EqI (Jqcq p) (.seq (.region [⟨(some 12), (.bin .lss (.t 11) (.t 10)), none, false⟩] []) (.seq (.cond (.t 12) .skip (.exit 0)) (.seq (.block 1 (Jqcz p)) (.region [⟨(some 42), (.bin .add (.t 11) (.c (.d (.int .i64 1)))), none, false⟩, ⟨(some 11), (.mov (.t 42)), none, false⟩] [])))) := eqi
@[simp] def Jqd1 (p : Nums) : List IOp := [qo 43 (.build [(zi 0), (zi 0)] []), qn (.store 2 (.t 4) (.t 43)), qo 5 (.asg (.c (.d (.bool false))))]
def Jqcr (p : Nums) : IC := (.region (Jqd1 p) [])
@[simp] theorem Jecr {p : Nums} : EqI (Jqcr p) (.region (Jqd1 p) []) := eqi
def Jtb4 (p : Nums) : IC := (.seq (Jqcp p) (.seq (.region [⟨(some 6), (.asg (.c (.d (.int .i64 0)))), none, false⟩] []) (.seq (.seq (Jqcs p) (.block 0 (.loop (Jqcq p)))) (.seq (Jqcr p) .ret))))
@[simp] def Jqhu (p : Nums) : List IOp := [qo 6 (.mov (.t 0)), qo 7 (.len (.t 6)), qo 8 (.mov (.t 1)), qo 9 (.len (.t 8)), qo 10 (.bin .neq (.t 7) (.t 9))]
def Jqhm (p : Nums) : IC := (.region (Jqhu p) [])
@[simp] theorem Jehm {p : Nums} : EqI (Jqhm p) (.region (Jqhu p) []) := eqi
def Jqhn (p : Nums) : IC := (.seq (.region [⟨(some 4), (.asg (.c (.d (.bool false)))), none, false⟩] []) .ret)
@[simp] theorem Jehn {p : Nums} : EqI (Jqhn p) (.seq (.region [⟨(some 4), (.asg (.c (.d (.bool false)))), none, false⟩] []) .ret) := eqi
@[simp] def Jqhv (p : Nums) : List IOp := [qo 11 (.mov (.t 5)), qo 12 (.mov (.t 0)), qo 13 (.len (.t 12)), qo 14 (.bin .lss (.t 11) (.t 13))]
def Jqho (p : Nums) : IC := (.region (Jqhv p) [])
@[simp] theorem Jeho {p : Nums} : EqI (Jqho p) (.region (Jqhv p) []) := eqi
@[simp] def Jqhw (p : Nums) : List IOp := [qp 17 (.mov (.t 0)), qp 18 (.mov (.t 5)), qp 19 (.iaddr 2 (.t 17) (.t 18)), qp 20 (.load (some 2) (.t 19)), qp 21 (.mov (.t 1)), qp 22 (.mov (.t 5)), qp 23 (.iaddr 2 (.t 21) (.t 22)), qp 24 (.load (some 2) (.t 23)), qo 25 (.eqs true [.int, .int] (.t 20) (.t 24))]
def Jqhp (p : Nums) : IC := (.region (Jqhw p) [])
@[simp] theorem Jehp {p : Nums} : EqI (Jqhp p) (.region (Jqhw p) []) := eqi
def Jqhq (p : Nums) : IC := (.seq (.region [⟨(some 4), (.asg (.c (.d (.bool false)))), none, false⟩] []) .ret)
@[simp] theorem Jehq {p : Nums} : EqI (Jqhq p) (.seq (.region [⟨(some 4), (.asg (.c (.d (.bool false)))), none, false⟩] []) .ret) := eqi
def Jqhr (p : Nums) : IC := (.seq (Jqhp p) (.cond (.t 25) (Jqhq p) .skip))
@[simp] theorem Jehr {p : Nums} : EqI (Jqhr p) (.seq (Jqhp p) (.cond (.t 25) (Jqhq p) .skip)) := eqi
@[simp] def Jqhx (p : Nums) : List IOp := [qo 15 (.mov (.t 5)), qo 16 (.bin .add (.t 15) (ci 1)), qo 5 (.asg (.t 16))]
def Jqhs (p : Nums) : IC := (.region (Jqhx p) [])
@[simp] theorem Jehs {p : Nums} : EqI (Jqhs p) (.region (Jqhx p) []) := eqi
def Jqht (p : Nums) : IC := (.seq (.seq (Jqho p) (.cond (.t 14) .skip (.exit 0))) (.seq (.block 1 (Jqhr p)) (Jqhs p)))
@[simp] theorem Jeht {p : Nums} : EqI (Jqht p) (.seq (.seq (Jqho p) (.cond (.t 14) .skip (.exit 0))) (.seq (.block 1 (Jqhr p)) (Jqhs p))) := eqi
def Jtbg (p : Nums) : IC := (.seq (.region [⟨(some 4), (.asg (.c (.d (.bool false)))), none, false⟩] []) (.seq (.seq (Jqhm p) (.cond (.t 10) (Jqhn p) .skip)) (.seq (.seq (.region [⟨(some 5), (.asg (.c (.d (.int .i64 0)))), none, false⟩] []) (.block 0 (.loop (Jqht p)))) (.seq (.region [⟨(some 4), (.asg (.c (.d (.bool true)))), none, false⟩] []) .ret))))
@[simp] def Jq8i (p : Nums) : List IOp := [qo 3 (.mov (.t 0)), qo 4 (.bin .mul (ci 2) (.t 3)), qo 5 (.bin .add (.t 4) (ci 1)), qo 2 (.asg (.t 5))]
def Jq8h (p : Nums) : IC := (.region (Jq8i p) [])
@[simp] theorem Je8h {p : Nums} : EqI (Jq8h p) (.region (Jq8i p) []) := eqi
def Jtah (p : Nums) : IC := (.seq (.region [⟨(some 2), (.asg (.c (.d (.int .i64 0)))), none, false⟩] []) (.seq (Jq8h p) .ret))
@[simp] def Jql6 (p : Nums) : List IOp := [qo 9 (.faddr 0 (.t 2)), qo 10 (.load none (.t 9)), qo 11 (.call p.opcode_Of [(.t 10)]), qo 8 (.mov (.t 11)), qo 12 (.ext (.t 8) 0), qo 13 (.ext (.t 8) 1), qo 5 (.alloc [(.d (.bool false)), (.d (.bool false)), (.d (.bool false)), (.d (.bool false))]), qn (.store 4 (.t 5) (.t 12)), qo 6 (.asg (.t 13))]
def Jqkv (p : Nums) : IC := (.region (Jql6 p) [])
@[simp] theorem Jekv {p : Nums} : EqI (Jqkv p) (.region (Jql6 p) []) := eqi
@[simp] def Jql7 (p : Nums) : List IOp := [qo 14 (.faddr 1 (.t 2)), qo 15 (.load none (.t 14)), qo 16 (.faddr 0 (.t 5)), qo 17 (.load none (.t 16)), qo 18 (.mov (.t 1)), qo 19 (.build [(zi 0), (.d (.bool false)), (zi 0)] [(0, 1, (.t 15)), (1, 1, (.t 17)), (2, 1, (.t 18))]), qo 20 (.faddr 2 (.t 2)), qo 21 (.load none (.t 20)), qo 22 (.faddr 1 (.t 5)), qo 23 (.load none (.t 22)), qo 24 (.mov (.t 1)), qo 25 (.build [(zi 0), (.d (.bool false)), (zi 0)] [(0, 1, (.t 21)), (1, 1, (.t 23)), (2, 1, (.t 24))]), qo 26 (.faddr 3 (.t 2)), qo 27 (.load none (.t 26)), qo 28 (.faddr 2 (.t 5)), qo 29 (.load none (.t 28)), qo 30 (.mov (.t 1)), qo 31 (.build [(zi 0), (.d (.bool false)), (zi 0)] [(0, 1, (.t 27)), (1, 1, (.t 29)), (2, 1, (.t 30))]), qo 32 (.bslice 3 3 [(.int .i64 0), (.bool false), (.int .i64 0)] [(0, (.t 19)), (1, (.t 25)), (2, (.t 31))]), qo 7 (.asg (.t 32))]
def Jqky (p : Nums) : IC := (.region (Jql7 p) [])
@[simp] theorem Jeky {p : Nums} : EqI (Jqky p) (.region (Jql7 p) []) := eqi
@[simp] def Jql8 (p : Nums) : List IOp := [qo 34 (.faddr 0 (.t 2)), qo 35 (.load none (.t 34)), qo 36 (.call p.opcode_Source [(.t 35)]), qo 37 (.un .not (.t 36)), qo 33 (.asg (.t 37))]
def Jqkz (p : Nums) : IC := (.region (Jql8 p) [])
@[simp] theorem Jekz {p : Nums} : EqI (Jqkz p) (.region (Jql8 p) []) := eqi
@[simp] def Jql9 (p : Nums) : List IOp := [qo 39 (.mov (.t 7)), qo 40 (.call p.source_within [(.t 39)]), qo 41 (.un .not (.t 40)), qo 38 (.asg (.t 41))]
def Jql0 (p : Nums) : IC := (.region (Jql9 p) [])
@[simp] theorem Jel0 {p : Nums} : EqI (Jql0 p) (.region (Jql9 p) []) := eqi
@[simp] def Jqla (p : Nums) : List IOp := [qo 43 (.mov (.t 7)), qo 44 (.call p.source_blank [(.t 43)]), qo 45 (.un .not (.t 44)), qo 46 (.mov (.t 45)), ⟨(some 47), (.faddr 3 (.t 5)), (some (46, false)), false⟩, ⟨(some 48), (.load none (.t 47)), (some (46, false)), false⟩, ⟨(some 49), (.un .not (.t 48)), (some (46, false)), false⟩, ⟨(some 50), (.mov (.t 49)), (some (46, false)), false⟩, ⟨(some 51), (.faddr 4 (.t 2)), (some (50, true)), false⟩, ⟨(some 52), (.load none (.t 51)), (some (50, true)), false⟩, ⟨(some 53), (.bin .neq (.t 52) (ci 0)), (some (50, true)), false⟩, ⟨(some 54), (.pick (.t 50) (.t 53) (.c (.d (.bool false)))), (some (46, false)), false⟩, qo 55 (.pick (.t 46) (.c (.d (.bool true))) (.t 54)), qo 42 (.asg (.t 55))]
def Jql1 (p : Nums) : IC := (.region (Jqla p) [])
@[simp] theorem Jel1 {p : Nums} : EqI (Jql1 p) (.region (Jqla p) []) := eqi
def Jql2 (p : Nums) : IC := (.seq (.region [⟨(some 4), (.asg (.c (.d (.int .i64 12)))), none, false⟩] []) .ret)
@[simp] theorem Jel2 {p : Nums} : EqI (Jql2 p) (.seq (.region [⟨(some 4), (.asg (.c (.d (.int .i64 12)))), none, false⟩] []) .ret) := eqi
def Jql3 (p : Nums) : IC := (.seq (.region [⟨(some 4), (.asg (.c (.d (.int .i64 9)))), none, false⟩] []) .ret)
@[simp] theorem Jel3 {p : Nums} : EqI (Jql3 p) (.seq (.region [⟨(some 4), (.asg (.c (.d (.int .i64 9)))), none, false⟩] []) .ret) := eqi
def Jql4 (p : Nums) : IC := (.seq (Jql1 p) (.cond (.t 42) (Jql2 p) .skip))
@[simp] theorem Jel4 {p : Nums} : EqI (Jql4 p) (.seq (Jql1 p) (.cond (.t 42) (Jql2 p) .skip)) := eqi
def Jql5 (p : Nums) : IC := (.seq (.region [⟨(some 4), (.asg (.c (.d (.int .i64 8)))), none, false⟩] []) .ret)
@[simp] theorem Jel5 {p : Nums} : EqI (Jql5 p) (.seq (.region [⟨(some 4), (.asg (.c (.d (.int .i64 8)))), none, false⟩] []) .ret) := eqi
def Jqkw (p : Nums) : IC := (.seq (Jql0 p) (.cond (.t 38) (Jql3 p) (Jql4 p)))
@[simp] theorem Jekw {p : Nums} : EqI (Jqkw p) (.seq (Jql0 p) (.cond (.t 38) (Jql3 p) (Jql4 p))) := eqi
def Jqkx (p : Nums) : IC := (.seq (Jqkz p) (.cond (.t 33) (Jql5 p) (Jqkw p)))
@[simp] theorem Jekx {p : Nums} : EqI (Jqkx p) (.seq (Jqkz p) (.cond (.t 33) (Jql5 p) (Jqkw p))) := eqi
def Jtbq (p : Nums) : IC := (.seq (.region [⟨(some 2), (.box (.t 0)), none, false⟩, ⟨(some 4), (.asg (.c (.d (.int .i64 0)))), none, false⟩] []) (.seq (Jqkv p) (.seq (Jqky p) (.seq (.block 0 (Jqkx p)) (.seq (.region [⟨(some 4), (.asg (.c (.d (.int .i64 0)))), none, false⟩] []) .ret)))))
@[simp] def Jqlw (p : Nums) : List IOp := [qo 10 (.faddr 1 (.t 3)), qo 11 (.load none (.t 10)), qo 12 (.faddr 0 (.t 3)), qo 13 (.load none (.t 12)), qo 14 (.bin .neq (.t 13) (ci 1)), qo 15 (.mov (.t 1)), qo 16 (.build [(zi 0), (.d (.bool false)), (zi 0)] [(0, 1, (.t 11)), (1, 1, (.t 14)), (2, 1, (.t 15))]), qo 7 (.alloc [(zi 0), (.d (.bool false)), (zi 0)]), qn (.store 3 (.t 7) (.t 16))]
def Jqlh (p : Nums) : IC := (.region (Jqlw p) [])
@[simp] theorem Jelh {p : Nums} : EqI (Jqlh p) (.region (Jqlw p) []) := eqi
@[simp] def Jqlx (p : Nums) : List IOp := [qo 17 (.faddr 2 (.t 3)), qo 18 (.load none (.t 17)), qo 19 (.faddr 0 (.t 3)), qo 20 (.load none (.t 19)), qo 21 (.bin .neq (.t 20) (ci 3)), qo 22 (.mov (.t 2)), qo 23 (.build [(zi 0), (.d (.bool false)), (zi 0)] [(0, 1, (.t 18)), (1, 1, (.t 21)), (2, 1, (.t 22))]), qo 8 (.alloc [(zi 0), (.d (.bool false)), (zi 0)]), qn (.store 3 (.t 8) (.t 23))]
def Jqlo (p : Nums) : IC := (.region (Jqlx p) [])
@[simp] theorem Jelo {p : Nums} : EqI (Jqlo p) (.region (Jqlx p) []) := eqi
@[simp] def Jqly (p : Nums) : List IOp := [qo 24 (.faddr 3 (.t 3)), qo 25 (.load none (.t 24)), qo 26 (.faddr 0 (.t 3)), qo 27 (.load none (.t 26)), qo 28 (.bin .eql (.t 27) (ci 2)), qo 29 (.mov (.t 2)), qo 30 (.build [(zi 0), (.d (.bool false)), (zi 0)] [(0, 1, (.t 25)), (1, 1, (.t 28)), (2, 1, (.t 29))]), qo 9 (.alloc [(zi 0), (.d (.bool false)), (zi 0)]), qn (.store 3 (.t 9) (.t 30))]
def Jqlp (p : Nums) : IC := (.region (Jqly p) [])
@[simp] theorem Jelp {p : Nums} : EqI (Jqlp p) (.region (Jqly p) []) := eqi
@[simp] def Jqlz (p : Nums) : List IOp := [qo 32 (.faddr 0 (.t 3)), qo 33 (.load none (.t 32)), qo 34 (.bin .lss (.t 33) (ci 1)), qo 35 (.mov (.t 34)), ⟨(some 36), (.faddr 0 (.t 3)), (some (35, false)), false⟩, ⟨(some 37), (.load none (.t 36)), (some (35, false)), false⟩, ⟨(some 38), (.bin .gtr (.t 37) (ci 3)), (some (35, false)), false⟩, qo 39 (.pick (.t 35) (.c (.d (.bool true))) (.t 38)), qo 31 (.asg (.t 39))]
def Jqlq (p : Nums) : IC := (.region (Jqlz p) [])
@[simp] theorem Jelq {p : Nums} : EqI (Jqlq p) (.region (Jqlz p) []) := eqi
@[simp] def Jqm0 (p : Nums) : List IOp := [qo 41 (.load (some 3) (.t 7)), qo 42 (.bslice 3 1 [(.int .i64 0), (.bool false), (.int .i64 0)] [(0, (.t 41))]), qo 43 (.call p.source_within [(.t 42)]), qo 44 (.un .not (.t 43)), qo 40 (.asg (.t 44))]
def Jqlr (p : Nums) : IC := (.region (Jqm0 p) [])
@[simp] theorem Jelr {p : Nums} : EqI (Jqlr p) (.region (Jqm0 p) []) := eqi
@[simp] def Jqm1 (p : Nums) : List IOp := [qo 46 (.load (some 3) (.t 8)), qo 47 (.load (some 3) (.t 9)), qo 48 (.bslice 3 2 [(.int .i64 0), (.bool false), (.int .i64 0)] [(0, (.t 46)), (1, (.t 47))]), qo 49 (.call p.source_within [(.t 48)]), qo 50 (.un .not (.t 49)), qo 45 (.asg (.t 50))]
def Jqls (p : Nums) : IC := (.region (Jqm1 p) [])
@[simp] theorem Jels {p : Nums} : EqI (Jqls p) (.region (Jqm1 p) []) := eqi
@[simp] def Jqm2 (p : Nums) : List IOp := [qo 52 (.load (some 3) (.t 7)), qo 53 (.load (some 3) (.t 8)), qo 54 (.load (some 3) (.t 9)), qo 55 (.bslice 3 3 [(.int .i64 0), (.bool false), (.int .i64 0)] [(0, (.t 52)), (1, (.t 53)), (2, (.t 54))]), qo 56 (.call p.source_blank [(.t 55)]), qo 57 (.un .not (.t 56)), qo 51 (.asg (.t 57))]
def Jqlt (p : Nums) : IC := (.region (Jqm2 p) [])
@[simp] theorem Jelt {p : Nums} : EqI (Jqlt p) (.region (Jqm2 p) []) := eqi
def Jqlu (p : Nums) : IC := (.seq (.region [⟨(some 6), (.asg (.c (.d (.int .i64 12)))), none, false⟩] []) .ret)
@[simp] theorem Jelu {p : Nums} : EqI (Jqlu p) (.seq (.region [⟨(some 6), (.asg (.c (.d (.int .i64 12)))), none, false⟩] []) .ret) := eqi
def Jqlv (p : Nums) : IC := (.seq (.region [⟨(some 6), (.asg (.c (.d (.int .i64 11)))), none, false⟩] []) .ret)
@[simp] theorem Jelv {p : Nums} : EqI (Jqlv p) (.seq (.region [⟨(some 6), (.asg (.c (.d (.int .i64 11)))), none, false⟩] []) .ret) := eqi
def Jqli (p : Nums) : IC := (.seq (Jqlt p) (.cond (.t 51) (Jqlu p) .skip))
@[simp] theorem Jeli {p : Nums} : EqI (Jqli p) (.seq (Jqlt p) (.cond (.t 51) (Jqlu p) .skip)) := eqi
def Jqlj (p : Nums) : IC := (.seq (.region [⟨(some 6), (.asg (.c (.d (.int .i64 9)))), none, false⟩] []) .ret)
@[simp] theorem Jelj {p : Nums} : EqI (Jqlj p) (.seq (.region [⟨(some 6), (.asg (.c (.d (.int .i64 9)))), none, false⟩] []) .ret) := eqi
def Jqlk (p : Nums) : IC := (.seq (Jqls p) (.cond (.t 45) (Jqlv p) (Jqli p)))
@[simp] theorem Jelk {p : Nums} : EqI (Jqlk p) (.seq (Jqls p) (.cond (.t 45) (Jqlv p) (Jqli p))) := eqi
def Jqll (p : Nums) : IC := (.seq (.region [⟨(some 6), (.asg (.c (.d (.int .i64 16)))), none, false⟩] []) .ret)
@[simp] theorem Jell {p : Nums} : EqI (Jqll p) (.seq (.region [⟨(some 6), (.asg (.c (.d (.int .i64 16)))), none, false⟩] []) .ret) := eqi
def Jqlm (p : Nums) : IC := (.seq (Jqlr p) (.cond (.t 40) (Jqlj p) (Jqlk p)))
@[simp] theorem Jelm {p : Nums} : EqI (Jqlm p) (.seq (Jqlr p) (.cond (.t 40) (Jqlj p) (Jqlk p))) := eqi
def Jqln (p : Nums) : IC := (.seq (Jqlq p) (.cond (.t 31) (Jqll p) (Jqlm p)))
@[simp] theorem Jeln {p : Nums} : EqI (Jqln p) (.seq (Jqlq p) (.cond (.t 31) (Jqll p) (Jqlm p))) := eqi
def Jtbs (p : Nums) : IC := (.seq (.region [⟨(some 3), (.box (.t 0)), none, false⟩, ⟨(some 6), (.asg (.c (.d (.int .i64 0)))), none, false⟩] []) (.seq (Jqlh p) (.seq (Jqlo p) (.seq (Jqlp p) (.seq (.block 0 (Jqln p)) (.seq (.region [⟨(some 6), (.asg (.c (.d (.int .i64 0)))), none, false⟩] []) .ret))))))
@[simp] def Jq9s (p : Nums) : List IOp := [qo 9 (.faddr 0 (.t 3)), qo 10 (.load none (.t 9)), qo 11 (.call p.opcode_Machine [(.t 10)]), qo 12 (.un .not (.t 11))]
def Jq9j (p : Nums) : IC := (.region (Jq9s p) [])
@[simp] theorem Je9j {p : Nums} : EqI (Jq9j p) (.region (Jq9s p) []) := eqi
def Jq9k (p : Nums) : IC := (.seq (.region [⟨(some 6), (.asg (.c (.d (.int .i64 8)))), none, false⟩] []) .ret)
@[simp] theorem Je9k {p : Nums} : EqI (Jq9k p) (.seq (.region [⟨(some 6), (.asg (.c (.d (.int .i64 8)))), none, false⟩] []) .ret) := eqi
@[simp] def Jq9t (p : Nums) : List IOp := [qo 13 (.call p.machine_others []), qo 7 (.alloc [.nilfn, .nilfn]), qn (.store 2 (.t 7) (.t 13))]
def Jq9l (p : Nums) : IC := (.region (Jq9t p) [])
@[simp] theorem Je9l {p : Nums} : EqI (Jq9l p) (.region (Jq9t p) []) := eqi
@[simp] def Jq9u (p : Nums) : List IOp := [qo 14 (.faddr 0 (.t 3)), qo 15 (.load none (.t 14)), qo 16 (.bin .eql (.t 15) (ci 18))]
def Jq9m (p : Nums) : IC := (.region (Jq9u p) [])
@[simp] theorem Je9m {p : Nums} : EqI (Jq9m p) (.region (Jq9u p) []) := eqi
@[simp] def Jq9v (p : Nums) : List IOp := [qo 17 (.call p.machine_moves []), qn (.store 2 (.t 7) (.t 17))]
def Jq9n (p : Nums) : IC := (.region (Jq9v p) [])
@[simp] theorem Je9n {p : Nums} : EqI (Jq9n p) (.region (Jq9v p) []) := eqi
@[simp] def Jq9w (p : Nums) : List IOp := [qo 18 (.faddr 0 (.t 7)), qo 19 (.load none (.t 18)), qo 20 (.load (some 7) (.t 3)), qo 21 (.mov (.t 1)), qo 22 (.mov (.t 2)), qo 23 (.callv (.t 19) [(.t 20), (.t 21), (.t 22)]), qo 8 (.asg (.t 23))]
def Jq9o (p : Nums) : IC := (.region (Jq9w p) [])
@[simp] theorem Je9o {p : Nums} : EqI (Jq9o p) (.region (Jq9w p) []) := eqi
def Jq9p (p : Nums) : IC := (.seq (.region [⟨(some 26), (.mov (.t 8)), none, false⟩, ⟨(some 6), (.asg (.t 26)), none, false⟩] []) .ret)
@[simp] theorem Je9p {p : Nums} : EqI (Jq9p p) (.seq (.region [⟨(some 26), (.mov (.t 8)), none, false⟩, ⟨(some 6), (.asg (.t 26)), none, false⟩] []) .ret) := eqi
@[simp] def Jq9x (p : Nums) : List IOp := [qo 27 (.faddr 1 (.t 7)), qo 28 (.load none (.t 27)), qo 29 (.load (some 7) (.t 3)), qo 30 (.callv (.t 28) [(.t 29)]), qo 31 (.un .not (.t 30))]
def Jq9q (p : Nums) : IC := (.region (Jq9x p) [])
@[simp] theorem Je9q {p : Nums} : EqI (Jq9q p) (.region (Jq9x p) []) := eqi
def Jq9r (p : Nums) : IC := (.seq (.region [⟨(some 6), (.asg (.c (.d (.int .i64 12)))), none, false⟩] []) .ret)
@[simp] theorem Je9r {p : Nums} : EqI (Jq9r p) (.seq (.region [⟨(some 6), (.asg (.c (.d (.int .i64 12)))), none, false⟩] []) .ret) := eqi
def Jtak (p : Nums) : IC := (.seq (.region [⟨(some 3), (.box (.t 0)), none, false⟩, ⟨(some 6), (.asg (.c (.d (.int .i64 0)))), none, false⟩] []) (.seq (.seq (Jq9j p) (.cond (.t 12) (Jq9k p) .skip)) (.seq (Jq9l p) (.seq (.seq (Jq9m p) (.cond (.t 16) (Jq9n p) .skip)) (.seq (.seq (Jq9o p) (.seq (.region [⟨(some 24), (.mov (.t 8)), none, false⟩, ⟨(some 25), (.bin .neq (.t 24) (.c (.d (.int .i64 0)))), none, false⟩] []) (.cond (.t 25) (Jq9p p) .skip))) (.seq (.seq (Jq9q p) (.cond (.t 31) (Jq9r p) .skip)) (.seq (.region [⟨(some 6), (.asg (.c (.d (.int .i64 0)))), none, false⟩] []) .ret)))))))
@[simp] def Jq89 (p : Nums) : List IOp := [qo 9 (.mov (.t 0)), qo 10 (.bin .geq (.t 9) (ci 0)), qo 11 (.mov (.t 10)), ⟨(some 12), (.mov (.t 0)), (some (11, true)), false⟩, ⟨(some 13), (.call p.location_Index [(.t 12)]), (some (11, true)), false⟩, ⟨(some 14), (.mov (.t 2)), (some (11, true)), false⟩, ⟨(some 15), (.bin .lss (.t 13) (.t 14)), (some (11, true)), false⟩, qo 16 (.pick (.t 11) (.t 15) (.c (.d (.bool false)))), qo 6 (.asg (.t 16))]
def Jq87 (p : Nums) : IC := (.region (Jq89 p) [])
@[simp] theorem Je87 {p : Nums} : EqI (Jq87 p) (.region (Jq89 p) []) := eqi
@[simp] def Jq8a (p : Nums) : List IOp := [qo 17 (.mov (.t 0)), qo 18 (.bin .geq (.t 17) (ci 0)), qo 19 (.mov (.t 18)), ⟨(some 20), (.mov (.t 0)), (some (19, true)), false⟩, ⟨(some 21), (.call p.location_Index [(.t 20)]), (some (19, true)), false⟩, ⟨(some 22), (.mov (.t 1)), (some (19, true)), false⟩, ⟨(some 23), (.bin .lss (.t 21) (.t 22)), (some (19, true)), false⟩, qo 24 (.pick (.t 19) (.t 23) (.c (.d (.bool false)))), qo 6 (.asg (.t 24))]
def Jq88 (p : Nums) : IC := (.region (Jq8a p) [])
@[simp] theorem Je88 {p : Nums} : EqI (Jq88 p) (.region (Jq8a p) []) := eqi
def Jtad (p : Nums) : IC := (.seq (.region [⟨(some 6), (.asg (.c (.d (.bool false)))), none, false⟩] []) (.seq (.seq (.region [⟨(some 7), (.mov (.t 0)), none, false⟩, ⟨(some 8), (.call p.location_IsSlot [(.t 7)]), none, false⟩] []) (.cond (.t 8) (.seq (Jq87 p) .ret) .skip)) (.seq (Jq88 p) .ret)))
@[simp] def Jqch (p : Nums) : List IOp := [qo 2 (.box (.t 0)), qo 3 (.box (.t 1)), qo 4 (.asg (.c (.d (.bool false))))]
def Jqcf (p : Nums) : IC := (.region (Jqch p) [])
@[simp] theorem Jecf {p : Nums} : EqI (Jqcf p) (.region (Jqch p) []) := eqi
@[simp] def Jqci (p : Nums) : List IOp := [qo 5 (.faddr 0 (.t 2)), qo 6 (.load none (.t 5)), qo 7 (.faddr 0 (.t 3)), qo 8 (.load none (.t 7)), qo 9 (.bin .lss (.t 6) (.t 8)), qo 10 (.mov (.t 9)), ⟨(some 11), (.faddr 0 (.t 2)), (some (10, false)), false⟩, ⟨(some 12), (.load none (.t 11)), (some (10, false)), false⟩, ⟨(some 13), (.faddr 0 (.t 3)), (some (10, false)), false⟩, ⟨(some 14), (.load none (.t 13)), (some (10, false)), false⟩, ⟨(some 15), (.bin .eql (.t 12) (.t 14)), (some (10, false)), false⟩, ⟨(some 16), (.mov (.t 15)), (some (10, false)), false⟩, ⟨(some 17), (.faddr 1 (.t 2)), (some (16, true)), false⟩, ⟨(some 18), (.load none (.t 17)), (some (16, true)), false⟩, ⟨(some 19), (.faddr 1 (.t 3)), (some (16, true)), false⟩, ⟨(some 20), (.load none (.t 19)), (some (16, true)), false⟩, ⟨(some 21), (.bin .lss (.t 18) (.t 20)), (some (16, true)), false⟩, ⟨(some 22), (.pick (.t 16) (.t 21) (.c (.d (.bool false)))), (some (10, false)), false⟩, qo 23 (.pick (.t 10) (.c (.d (.bool true))) (.t 22)), qo 4 (.asg (.t 23))]
def Jqcg (p : Nums) : IC := (.region (Jqci p) [])
@[simp] theorem Jecg {p : Nums} : EqI (Jqcg p) (.region (Jqci p) []) := eqi
def Jtb2 (p : Nums) : IC := (.seq (Jqcf p) (.seq (Jqcg p) .ret))
@[simp] def Jq6e (p : Nums) : List IOp := [qo 5 (.faddr 0 (.t 2)), qo 6 (.load none (.t 5)), qo 7 (.mov (.t 1)), qo 8 (.bin .lss (.t 6) (.t 7))]
def Jq6b (p : Nums) : IC := (.region (Jq6e p) [])
@[simp] theorem Je6b {p : Nums} : EqI (Jq6b p) (.region (Jq6e p) []) := eqi
@[simp] def Jq6f (p : Nums) : List IOp := [qp 9 (.faddr 1 (.t 2)), qp 10 (.load none (.t 9)), qp 11 (.faddr 0 (.t 2)), qp 12 (.load none (.t 11)), qp 13 (.call p.location_Slot [(.t 12)]), qo 14 (.bin .eql (.t 10) (.t 13)), qo 4 (.asg (.t 14))]
def Jq6c (p : Nums) : IC := (.region (Jq6f p) [])
@[simp] theorem Je6c {p : Nums} : EqI (Jq6c p) (.region (Jq6f p) []) := eqi
@[simp] def Jq6g (p : Nums) : List IOp := [qo 15 (.faddr 1 (.t 2)), qo 16 (.load none (.t 15)), qo 17 (.call p.location_IsSlot [(.t 16)]), qo 18 (.un .not (.t 17)), qo 19 (.mov (.t 18)), ⟨(some 20), (.faddr 1 (.t 2)), (some (19, false)), false⟩, ⟨(some 21), (.load none (.t 20)), (some (19, false)), false⟩, ⟨(some 22), (.call p.location_Index [(.t 21)]), (some (19, false)), false⟩, ⟨(some 23), (.mov (.t 1)), (some (19, false)), false⟩, ⟨(some 24), (.bin .geq (.t 22) (.t 23)), (some (19, false)), false⟩, qo 25 (.pick (.t 19) (.c (.d (.bool true))) (.t 24)), qo 4 (.asg (.t 25))]
def Jq6d (p : Nums) : IC := (.region (Jq6g p) [])
@[simp] theorem Je6d {p : Nums} : EqI (Jq6d p) (.region (Jq6g p) []) := eqi
def Jta7 (p : Nums) : IC := (.seq (.region [⟨(some 2), (.box (.t 0)), none, false⟩, ⟨(some 4), (.asg (.c (.d (.bool false)))), none, false⟩] []) (.seq (.seq (Jq6b p) (.cond (.t 8) (.seq (Jq6c p) .ret) .skip)) (.seq (Jq6d p) .ret)))
@[simp] def Jq12 (p : Nums) : List IOp := [qo 7 (.mov (.t 1)), qo 8 (.mov (.t 0)), qo 9 (.len (.t 8)), qo 10 (.bin .lss (.t 7) (.t 9)), qo 11 (.mov (.t 10)), ⟨(some 12), (.mov (.t 2)), (some (11, true)), false⟩, ⟨(some 13), (.mov (.t 0)), (some (11, true)), false⟩, ⟨(some 14), (.mov (.t 1)), (some (11, true)), false⟩, ⟨(some 15), (.iaddr 5 (.t 13) (.t 14)), (some (11, true)), false⟩, ⟨(some 16), (.load (some 5) (.t 15)), (some (11, true)), false⟩, ⟨(some 17), (.callv (.t 12) [(.t 16)]), (some (11, true)), false⟩, qo 18 (.pick (.t 11) (.t 17) (.c (.d (.bool false))))]
def Jqz (p : Nums) : IC := (.region (Jq12 p) [])
@[simp] theorem Jez {p : Nums} : EqI (Jqz p) (.region (Jq12 p) []) := eqi
@[simp] def Jq13 (p : Nums) : List IOp := [qo 19 (.mov (.t 1)), qo 20 (.bin .add (.t 19) (ci 1)), qo 1 (.asg (.t 20))]
def Jq10 (p : Nums) : IC := (.region (Jq13 p) [])
@[simp] theorem Je10 {p : Nums} : EqI (Jq10 p) (.region (Jq13 p) []) := eqi
def Jq11 (p : Nums) : IC := (.seq (.seq (Jqz p) (.cond (.t 18) .skip (.exit 0))) (.block 1 (Jq10 p)))
@[simp] theorem Je11 {p : Nums} : EqI (Jq11 p) (.seq (.seq (Jqz p) (.cond (.t 18) .skip (.exit 0))) (.block 1 (Jq10 p))) := eqi
def Jt9q (p : Nums) : IC := (.seq (.region [⟨(some 6), (.asg (.c (.d (.int .i64 0)))), none, false⟩] []) (.seq (.block 0 (.loop (Jq11 p))) (.seq (.region [⟨(some 21), (.mov (.t 1)), none, false⟩, ⟨(some 6), (.asg (.t 21)), none, false⟩] []) .ret)))
@[simp] def Jqw (p : Nums) : List IOp := [qo 3 (.faddr 0 (.t 1)), qo 4 (.load none (.t 3)), qo 5 (.bin .eql (.t 4) (ci 2)), qo 2 (.asg (.t 5))]
def Jqv (p : Nums) : IC := (.region (Jqw p) [])
@[simp] theorem Jev {p : Nums} : EqI (Jqv p) (.region (Jqw p) []) := eqi
def Jt9o (p : Nums) : IC := (.seq (.region [⟨(some 1), (.box (.t 0)), none, false⟩, ⟨(some 2), (.asg (.c (.d (.bool false)))), none, false⟩] []) (.seq (Jqv p) .ret))
@[simp] def Jq17 (p : Nums) : List IOp := [qo 7 (.mov (.t 1)), qo 8 (.mov (.t 0)), qo 9 (.len (.t 8)), qo 10 (.bin .lss (.t 7) (.t 9)), qo 11 (.mov (.t 10)), ⟨(some 12), (.mov (.t 2)), (some (11, true)), false⟩, ⟨(some 13), (.mov (.t 0)), (some (11, true)), false⟩, ⟨(some 14), (.mov (.t 1)), (some (11, true)), false⟩, ⟨(some 15), (.iaddr 7 (.t 13) (.t 14)), (some (11, true)), false⟩, ⟨(some 16), (.load (some 7) (.t 15)), (some (11, true)), false⟩, ⟨(some 17), (.callv (.t 12) [(.t 16)]), (some (11, true)), false⟩, qo 18 (.pick (.t 11) (.t 17) (.c (.d (.bool false))))]
def Jq14 (p : Nums) : IC := (.region (Jq17 p) [])
@[simp] theorem Je14 {p : Nums} : EqI (Jq14 p) (.region (Jq17 p) []) := eqi
@[simp] def Jq18 (p : Nums) : List IOp := [qo 19 (.mov (.t 1)), qo 20 (.bin .add (.t 19) (ci 1)), qo 1 (.asg (.t 20))]
def Jq15 (p : Nums) : IC := (.region (Jq18 p) [])
@[simp] theorem Je15 {p : Nums} : EqI (Jq15 p) (.region (Jq18 p) []) := eqi
def Jq16 (p : Nums) : IC := (.seq (.seq (Jq14 p) (.cond (.t 18) .skip (.exit 0))) (.block 1 (Jq15 p)))
@[simp] theorem Je16 {p : Nums} : EqI (Jq16 p) (.seq (.seq (Jq14 p) (.cond (.t 18) .skip (.exit 0))) (.block 1 (Jq15 p))) := eqi
def Jt9r (p : Nums) : IC := (.seq (.region [⟨(some 6), (.asg (.c (.d (.int .i64 0)))), none, false⟩] []) (.seq (.block 0 (.loop (Jq16 p))) (.seq (.region [⟨(some 21), (.mov (.t 1)), none, false⟩, ⟨(some 6), (.asg (.t 21)), none, false⟩] []) .ret)))
@[simp] def Jqy (p : Nums) : List IOp := [qo 3 (.faddr 0 (.t 1)), qo 4 (.load none (.t 3)), qo 5 (.bin .eql (.t 4) (ci 18)), qo 2 (.asg (.t 5))]
def Jqx (p : Nums) : IC := (.region (Jqy p) [])
@[simp] theorem Jex {p : Nums} : EqI (Jqx p) (.region (Jqy p) []) := eqi
def Jt9p (p : Nums) : IC := (.seq (.region [⟨(some 1), (.box (.t 0)), none, false⟩, ⟨(some 2), (.asg (.c (.d (.bool false)))), none, false⟩] []) (.seq (Jqx p) .ret))
@[simp] def Jqp (p : Nums) : List IOp := [qo 2 (.box (.t 0)), qo 3 (.box (.t 1)), qo 4 (.asg (.c (.d (.bool false))))]
def Jqn (p : Nums) : IC := (.region (Jqp p) [])
@[simp] theorem Jen {p : Nums} : EqI (Jqn p) (.region (Jqp p) []) := eqi
@[simp] def Jqq (p : Nums) : List IOp := [qo 5 (.faddr 0 (.t 2)), qo 6 (.load none (.t 5)), qo 7 (.faddr 0 (.t 3)), qo 8 (.load none (.t 7)), qo 9 (.bin .eql (.t 6) (.t 8)), qo 10 (.mov (.t 9)), ⟨(some 11), (.faddr 4 (.t 2)), (some (10, true)), false⟩, ⟨(some 12), (.load none (.t 11)), (some (10, true)), false⟩, ⟨(some 13), (.faddr 4 (.t 3)), (some (10, true)), false⟩, ⟨(some 14), (.load none (.t 13)), (some (10, true)), false⟩, ⟨(some 15), (.bin .eql (.t 12) (.t 14)), (some (10, true)), false⟩, qo 16 (.pick (.t 10) (.t 15) (.c (.d (.bool false)))), qo 17 (.mov (.t 16)), ⟨(some 18), (.faddr 0 (.t 2)), (some (17, true)), false⟩, ⟨(some 19), (.load none (.t 18)), (some (17, true)), false⟩, ⟨(some 20), (.bin .neq (.t 19) (ci 2)), (some (17, true)), false⟩, qo 21 (.pick (.t 17) (.t 20) (.c (.d (.bool false)))), qo 22 (.mov (.t 21)), ⟨(some 23), (.faddr 0 (.t 2)), (some (22, true)), false⟩, ⟨(some 24), (.load none (.t 23)), (some (22, true)), false⟩, ⟨(some 25), (.bin .neq (.t 24) (ci 18)), (some (22, true)), false⟩, qo 26 (.pick (.t 22) (.t 25) (.c (.d (.bool false)))), qo 4 (.asg (.t 26))]
def Jqo (p : Nums) : IC := (.region (Jqq p) [])
@[simp] theorem Jeo {p : Nums} : EqI (Jqo p) (.region (Jqq p) []) := eqi
def Jt9m (p : Nums) : IC := (.seq (Jqn p) (.seq (Jqo p) .ret))
def Jqj2 (p : Nums) : IC := (.seq (.region [⟨(some 2), (.asg (.c .nils)), none, false⟩] []) .ret)
@[simp] theorem Jej2 {p : Nums} : EqI (Jqj2 p) (.seq (.region [⟨(some 2), (.asg (.c .nils)), none, false⟩] []) .ret) := eqi
@[simp] def Jqj4 (p : Nums) : List IOp := [qo 5 (.bslice 2 0 [(.int .i64 0), (.int .i64 0)] []), qo 6 (.mov (.t 0)), qo 7 (.app 2 16 (.t 5) (.t 6)), qo 2 (.asg (.t 7))]
def Jqj3 (p : Nums) : IC := (.region (Jqj4 p) [])
@[simp] theorem Jej3 {p : Nums} : EqI (Jqj3 p) (.region (Jqj4 p) []) := eqi
def Jtbm (p : Nums) : IC := (.seq (.region [⟨(some 2), (.asg (.c .nils)), none, false⟩] []) (.seq (.seq (.region [⟨(some 3), (.mov (.t 0)), none, false⟩, ⟨(some 4), (.isnil false (.t 3)), none, false⟩] []) (.cond (.t 4) (Jqj2 p) .skip)) (.seq (Jqj3 p) .ret)))
@[simp] def Jqjn (p : Nums) : List IOp := [qo 6 (.mov (.t 0)), qo 7 (.len (.t 6)), qo 8 (.bin .lss (.t 7) (ci 2))]
def Jqj5 (p : Nums) : IC := (.region (Jqjn p) [])
@[simp] theorem Jej5 {p : Nums} : EqI (Jqj5 p) (.region (Jqjn p) []) := eqi
def Jqjf (p : Nums) : IC := (.seq (.region [⟨(some 9), (.mov (.t 0)), none, false⟩, ⟨(some 2), (.asg (.t 9)), none, false⟩] []) .ret)
@[simp] theorem Jejf {p : Nums} : EqI (Jqjf p) (.seq (.region [⟨(some 9), (.mov (.t 0)), none, false⟩, ⟨(some 2), (.asg (.t 9)), none, false⟩] []) .ret) := eqi
@[simp] def Jqjs (p : Nums) : List IOp := [qo 10 (.mov (.t 3)), qo 11 (.mov (.t 0)), qo 12 (.len (.t 11)), qo 13 (.bin .lss (.t 10) (.t 12))]
def Jqjg (p : Nums) : IC := (.region (Jqjs p) [])
@[simp] theorem Jejg {p : Nums} : EqI (Jqjg p) (.region (Jqjs p) []) := eqi
@[simp] def Jqjt (p : Nums) : List IOp := [qp 16 (.mov (.t 0)), qp 17 (.mov (.t 3)), qp 18 (.iaddr 2 (.t 16) (.t 17)), qp 19 (.load (some 2) (.t 18)), qp 20 (.mov (.t 0)), qp 21 (.mov (.t 3)), qp 22 (.bin .sub (.t 21) (ci 1)), qp 23 (.iaddr 2 (.t 20) (.t 22)), qp 24 (.load (some 2) (.t 23)), qo 25 (.eqs false [.int, .int] (.t 19) (.t 24))]
def Jqjh (p : Nums) : IC := (.region (Jqjt p) [])
@[simp] theorem Jejh {p : Nums} : EqI (Jqjh p) (.region (Jqjt p) []) := eqi
@[simp] def Jqju (p : Nums) : List IOp := [qo 26 (.mov (.t 0)), qo 27 (.mov (.t 3)), qo 28 (.slc 2 (.t 26) (some (.t 27)) none), qo 4 (.asg (.t 28))]
def Jqji (p : Nums) : IC := (.region (Jqju p) [])
@[simp] theorem Jeji {p : Nums} : EqI (Jqji p) (.region (Jqju p) []) := eqi
@[simp] def Jqjv (p : Nums) : List IOp := [qo 29 (.mov (.t 5)), qo 30 (.mov (.t 4)), qo 31 (.len (.t 30)), qo 32 (.bin .lss (.t 29) (.t 31))]
def Jqjj (p : Nums) : IC := (.region (Jqjv p) [])
@[simp] theorem Jejj {p : Nums} : EqI (Jqjj p) (.region (Jqjv p) []) := eqi
@[simp] def Jqjw (p : Nums) : List IOp := [qp 35 (.mov (.t 4)), qp 36 (.mov (.t 5)), qp 37 (.iaddr 2 (.t 35) (.t 36)), qp 38 (.load (some 2) (.t 37)), qp 39 (.mov (.t 4)), qp 40 (.mov (.t 5)), qp 41 (.bin .sub (.t 40) (ci 1)), qp 42 (.iaddr 2 (.t 39) (.t 41)), qp 43 (.load (some 2) (.t 42)), qo 44 (.eqs true [.int, .int] (.t 38) (.t 43))]
def Jqjk (p : Nums) : IC := (.region (Jqjw p) [])
@[simp] theorem Jejk {p : Nums} : EqI (Jqjk p) (.region (Jqjw p) []) := eqi
@[simp] def Jqjx (p : Nums) : List IOp := [qo 45 (.mov (.t 0)), qo 46 (.mov (.t 3)), qo 47 (.mov (.t 4)), qo 48 (.mov (.t 5)), qo 49 (.iaddr 2 (.t 47) (.t 48)), qo 50 (.load (some 2) (.t 49)), qo 51 (.iaddr 2 (.t 45) (.t 46)), qn (.store 2 (.t 51) (.t 50))]
def Jqjl (p : Nums) : IC := (.region (Jqjx p) [])
@[simp] theorem Jejl {p : Nums} : EqI (Jqjl p) (.region (Jqjx p) []) := eqi
@[simp] def Jqjy (p : Nums) : List IOp := [qo 52 (.mov (.t 3)), qo 53 (.bin .add (.t 52) (ci 1)), qo 3 (.asg (.t 53))]
def Jqjm (p : Nums) : IC := (.region (Jqjy p) [])
@[simp] theorem Jejm {p : Nums} : EqI (Jqjm p) (.region (Jqjy p) []) := eqi
def Jqj6 (p : Nums) : IC := (.seq (Jqjk p) (.cond (.t 44) (.seq (Jqjl p) (Jqjm p)) .skip))
@[simp] theorem Jej6 {p : Nums} : EqI (Jqj6 p) (.seq (Jqjk p) (.cond (.t 44) (.seq (Jqjl p) (Jqjm p)) .skip)) := eqi
@[simp] def Jqjo (p : Nums) : List IOp := [qo 33 (.mov (.t 5)), qo 34 (.bin .add (.t 33) (ci 1)), qo 5 (.asg (.t 34))]
def Jqj7 (p : Nums) : IC := (.region (Jqjo p) [])
@[simp] theorem Jej7 {p : Nums} : EqI (Jqj7 p) (.region (Jqjo p) []) := eqi
def Jqj8 (p : Nums) : IC := (.seq (.seq (Jqjj p) (.cond (.t 32) .skip (.exit 2))) (.seq (.block 3 (Jqj6 p)) (Jqj7 p)))
@[simp] theorem Jej8 {p : Nums} : EqI (Jqj8 p) (.seq (.seq (Jqjj p) (.cond (.t 32) .skip (.exit 2))) (.seq (.block 3 (Jqj6 p)) (Jqj7 p))) := eqi
@[simp] def Jqjp (p : Nums) : List IOp := [qo 54 (.mov (.t 0)), qo 55 (.mov (.t 3)), qo 56 (.slc 2 (.t 54) (some (.t 55)) none), qn (.clr 2 [(.int .i64 0), (.int .i64 0)] (.t 56))]
def Jqj9 (p : Nums) : IC := (.region (Jqjp p) [])
@[simp] theorem Jej9 {p : Nums} : EqI (Jqj9 p) (.region (Jqjp p) []) := eqi
@[simp] def Jqjq (p : Nums) : List IOp := [qo 57 (.mov (.t 0)), qo 58 (.mov (.t 3)), qo 59 (.slc 2 (.t 57) none (some (.t 58))), qo 2 (.asg (.t 59))]
def Jqja (p : Nums) : IC := (.region (Jqjq p) [])
@[simp] theorem Jeja {p : Nums} : EqI (Jqja p) (.region (Jqjq p) []) := eqi
def Jqjb (p : Nums) : IC := (.seq (Jqji p) (.seq (.seq (.region [⟨(some 5), (.asg (.c (.d (.int .i64 1)))), none, false⟩] []) (.block 2 (.loop (Jqj8 p)))) (.seq (Jqj9 p) (.seq (Jqja p) .ret))))
@[simp] theorem Jejb {p : Nums} : EqI (Jqjb p) (.seq (Jqji p) (.seq (.seq (.region [⟨(some 5), (.asg (.c (.d (.int .i64 1)))), none, false⟩] []) (.block 2 (.loop (Jqj8 p)))) (.seq (Jqj9 p) (.seq (Jqja p) .ret)))) := eqi
def Jqjc (p : Nums) : IC := (.seq (Jqjh p) (.cond (.t 25) (Jqjb p) .skip))
@[simp] theorem Jejc {p : Nums} : EqI (Jqjc p) (.seq (Jqjh p) (.cond (.t 25) (Jqjb p) .skip)) := eqi
@[simp] def Jqjr (p : Nums) : List IOp := [qo 14 (.mov (.t 3)), qo 15 (.bin .add (.t 14) (ci 1)), qo 3 (.asg (.t 15))]
def Jqjd (p : Nums) : IC := (.region (Jqjr p) [])
@[simp] theorem Jejd {p : Nums} : EqI (Jqjd p) (.region (Jqjr p) []) := eqi
def Jqje (p : Nums) : IC := (.seq (.seq (Jqjg p) (.cond (.t 13) .skip (.exit 0))) (.seq (.block 1 (Jqjc p)) (Jqjd p)))
@[simp] theorem Jeje {p : Nums} : EqI (Jqje p) (.seq (.seq (Jqjg p) (.cond (.t 13) .skip (.exit 0))) (.seq (.block 1 (Jqjc p)) (Jqjd p))) := eqi
def Jtbn (p : Nums) : IC := (.seq (.region [⟨(some 2), (.asg (.c .nils)), none, false⟩] []) (.seq (.seq (Jqj5 p) (.cond (.t 8) (Jqjf p) .skip)) (.seq (.seq (.region [⟨(some 3), (.asg (.c (.d (.int .i64 1)))), none, false⟩] []) (.block 0 (.loop (Jqje p)))) (.seq (.region [⟨(some 60), (.mov (.t 0)), none, false⟩, ⟨(some 2), (.asg (.t 60)), none, false⟩] []) .ret))))
@[simp] def Jq2p (p : Nums) : List IOp := [qo 11 (.faddr 0 (.t 5)), qo 12 (.load none (.t 11)), qo 13 (.faddr 0 (.t 7)), qo 14 (.load none (.t 13)), qo 15 (.faddr 1 (.t 7)), qo 16 (.load none (.t 15)), qo 17 (.slc 5 (.t 12) (some (.t 14)) (some (.t 16))), qo 18 (.len (.t 17)), qo 19 (.mov (ci 0))]
def Jq2c (p : Nums) : IC := (.region (Jq2p p) [])
@[simp] theorem Je2c {p : Nums} : EqI (Jq2c p) (.region (Jq2p p) []) := eqi
@[simp] def Jq2t (p : Nums) : List IOp := [qo 21 (.iaddr 5 (.t 17) (.t 19)), qo 22 (.load (some 5) (.t 21)), qo 9 (.alloc [(zi 0), (zi 0), (zi 0), (zi 0), (zi 0)]), qn (.store 5 (.t 9) (.t 22))]
def Jq2h (p : Nums) : IC := (.region (Jq2t p) [])
@[simp] theorem Je2h {p : Nums} : EqI (Jq2h p) (.region (Jq2t p) []) := eqi
@[simp] def Jq2u (p : Nums) : List IOp := [qp 25 (.mov (.t 0)), qp 26 (.mov (.t 0)), qp 27 (.nilck (.t 26)), qp 28 (.faddr 0 (.t 27)), qp 29 (.load none (.t 28)), qp 30 (.faddr 1 (.t 9)), qp 31 (.load none (.t 30)), qp 32 (.faddr 2 (.t 9)), qp 33 (.load none (.t 32)), qp 34 (.call p.transfer_Copy [(.t 29), (.t 31), (.t 33)]), qp 35 (.faddr 2 (.t 7)), qp 36 (.load none (.t 35)), qo 37 (.call p.blockcheck_checker_become [(.t 25), (.t 34), (.t 36)])]
def Jq2i (p : Nums) : IC := (.region (Jq2u p) [])
@[simp] theorem Je2i {p : Nums} : EqI (Jq2i p) (.region (Jq2u p) []) := eqi
def Jq2j (p : Nums) : IC := (.seq (Jq2h p) (.seq (.region [⟨(some 23), (.mov (.t 0)), none, false⟩, ⟨(some 24), (.call p.blockcheck_checker_cost [(.t 23)]), none, false⟩] []) (Jq2i p)))
@[simp] theorem Je2j {p : Nums} : EqI (Jq2j p) (.seq (Jq2h p) (.seq (.region [⟨(some 23), (.mov (.t 0)), none, false⟩, ⟨(some 24), (.call p.blockcheck_checker_cost [(.t 23)]), none, false⟩] []) (Jq2i p))) := eqi
def Jq2k (p : Nums) : IC := (.seq (.region [⟨(some 20), (.bin .lss (.t 19) (.t 18)), none, false⟩] []) (.seq (.cond (.t 20) .skip (.exit 0)) (.seq (.block 1 (Jq2j p)) (.region [⟨(some 38), (.bin .add (.t 19) (.c (.d (.int .i64 1)))), none, false⟩, ⟨(some 19), (.mov (.t 38)), none, false⟩] []))))
@[simp] theorem Je2k {p : Nums} : EqI (Jq2k p) (.seq (.region [⟨(some 20), (.bin .lss (.t 19) (.t 18)), none, false⟩] []) (.seq (.cond (.t 20) .skip (.exit 0)) (.seq (.block 1 (Jq2j p)) (.region [⟨(some 38), (.bin .add (.t 19) (.c (.d (.int .i64 1)))), none, false⟩, ⟨(some 19), (.mov (.t 38)), none, false⟩] [])))) := eqi
@[simp] def Jq2v (p : Nums) : List IOp := [qo 39 (.faddr 2 (.t 7)), qo 40 (.load none (.t 39)), qo 10 (.asg (.t 40))]
def Jq2l (p : Nums) : IC := (.region (Jq2v p) [])
@[simp] theorem Je2l {p : Nums} : EqI (Jq2l p) (.region (Jq2v p) []) := eqi
@[simp] def Jq2w (p : Nums) : List IOp := [qo 41 (.mov (.t 10)), qo 42 (.faddr 3 (.t 7)), qo 43 (.load none (.t 42)), qo 44 (.bin .lss (.t 41) (.t 43))]
def Jq2m (p : Nums) : IC := (.region (Jq2w p) [])
@[simp] theorem Je2m {p : Nums} : EqI (Jq2m p) (.region (Jq2w p) []) := eqi
@[simp] def Jq2x (p : Nums) : List IOp := [qp 49 (.mov (.t 0)), qp 50 (.mov (.t 0)), qp 51 (.nilck (.t 50)), qp 52 (.faddr 0 (.t 51)), qp 53 (.load none (.t 52)), qp 54 (.faddr 0 (.t 6)), qp 55 (.load none (.t 54)), qp 56 (.mov (.t 10)), qp 57 (.iaddr 7 (.t 55) (.t 56)), qp 58 (.faddr 5 (.t 57)), qp 59 (.load none (.t 58)), qp 60 (.faddr 0 (.t 6)), qp 61 (.load none (.t 60)), qp 62 (.mov (.t 10)), qp 63 (.iaddr 7 (.t 61) (.t 62)), qp 64 (.faddr 6 (.t 63)), qp 65 (.load none (.t 64)), qp 66 (.call p.transfer_Move [(.t 53), (.t 59), (.t 65)]), qp 67 (.mov (.t 10)), qo 68 (.call p.blockcheck_checker_become [(.t 49), (.t 66), (.t 67)])]
def Jq2n (p : Nums) : IC := (.region (Jq2x p) [])
@[simp] theorem Je2n {p : Nums} : EqI (Jq2n p) (.region (Jq2x p) []) := eqi
def Jq2o (p : Nums) : IC := (.seq (.region [⟨(some 47), (.mov (.t 0)), none, false⟩, ⟨(some 48), (.call p.blockcheck_checker_cost [(.t 47)]), none, false⟩] []) (Jq2n p))
@[simp] theorem Je2o {p : Nums} : EqI (Jq2o p) (.seq (.region [⟨(some 47), (.mov (.t 0)), none, false⟩, ⟨(some 48), (.call p.blockcheck_checker_cost [(.t 47)]), none, false⟩] []) (Jq2n p)) := eqi
@[simp] def Jq2q (p : Nums) : List IOp := [qo 45 (.mov (.t 10)), qo 46 (.bin .add (.t 45) (ci 1)), qo 10 (.asg (.t 46))]
def Jq2d (p : Nums) : IC := (.region (Jq2q p) [])
@[simp] theorem Je2d {p : Nums} : EqI (Jq2d p) (.region (Jq2q p) []) := eqi
def Jq2e (p : Nums) : IC := (.seq (.seq (Jq2m p) (.cond (.t 44) .skip (.exit 2))) (.seq (.block 3 (Jq2o p)) (Jq2d p)))
@[simp] theorem Je2e {p : Nums} : EqI (Jq2e p) (.seq (.seq (Jq2m p) (.cond (.t 44) .skip (.exit 2))) (.seq (.block 3 (Jq2o p)) (Jq2d p))) := eqi
@[simp] def Jq2r (p : Nums) : List IOp := [qo 69 (.faddr 4 (.t 7)), qo 70 (.load none (.t 69)), qo 71 (.bin .geq (.t 70) (ci 0))]
def Jq2f (p : Nums) : IC := (.region (Jq2r p) [])
@[simp] theorem Je2f {p : Nums} : EqI (Jq2f p) (.region (Jq2r p) []) := eqi
@[simp] def Jq2s (p : Nums) : List IOp := [qp 72 (.mov (.t 0)), qp 73 (.faddr 0 (.t 5)), qp 74 (.load none (.t 73)), qp 75 (.faddr 4 (.t 7)), qp 76 (.load none (.t 75)), qp 77 (.iaddr 5 (.t 74) (.t 76)), qp 78 (.load (some 5) (.t 77)), qp 79 (.faddr 0 (.t 6)), qp 80 (.load none (.t 79)), qp 81 (.faddr 5 (.t 7)), qp 82 (.load none (.t 81)), qp 83 (.iaddr 7 (.t 80) (.t 82)), qp 84 (.load (some 7) (.t 83)), qp 85 (.faddr 5 (.t 7)), qp 86 (.load none (.t 85)), qo 87 (.call p.blockcheck_checker_instr [(.t 72), (.t 78), (.t 84), (.t 86)])]
def Jq2g (p : Nums) : IC := (.region (Jq2s p) [])
@[simp] theorem Je2g {p : Nums} : EqI (Jq2g p) (.region (Jq2s p) []) := eqi
def Jt9w (p : Nums) : IC := (.seq (.region [⟨(some 5), (.box (.t 1)), none, false⟩, ⟨(some 6), (.box (.t 2)), none, false⟩, ⟨(some 7), (.box (.t 3)), none, false⟩] []) (.seq (.seq (Jq2c p) (.block 0 (.loop (Jq2k p)))) (.seq (.seq (Jq2l p) (.block 2 (.loop (Jq2e p)))) (.seq (Jq2f p) (.cond (.t 71) (Jq2g p) .skip)))))
@[simp] def Jq3n (p : Nums) : List IOp := [qp 10 (.mov (.t 0)), qp 11 (.nilck (.t 10)), qp 12 (.faddr 0 (.t 11)), qp 13 (.load none (.t 12)), qp 14 (.mov (.t 1)), qp 15 (.mov (.t 2)), qp 16 (.call p.location_Reg [(.t 15)]), qp 17 (.build [(zi 0), (zi 0)] [(0, 1, (.t 14)), (1, 1, (.t 16))]), qo 18 (.call p.pairset_Has [(.t 13), (.t 17)]), qo 19 (.un .not (.t 18))]
def Jq3l (p : Nums) : IC := (.region (Jq3n p) [])
@[simp] theorem Je3l {p : Nums} : EqI (Jq3l p) (.region (Jq3n p) []) := eqi
@[simp] def Jq3o (p : Nums) : List IOp := [qo 20 (.mov (.t 3)), qo 21 (.build [(zi 0), (zi 0)] [(0, 1, (ci 21)), (1, 1, (.t 20))]), qo 22 (.mkif p.ty_bcfail (.t 21)), qn (.pan (.t 22))]
def Jq3m (p : Nums) : IC := (.region (Jq3o p) [])
@[simp] theorem Je3m {p : Nums} : EqI (Jq3m p) (.region (Jq3o p) []) := eqi
def Jta0 (p : Nums) : IC := (.seq (.region [⟨(some 8), (.mov (.t 0)), none, false⟩, ⟨(some 9), (.call p.blockcheck_checker_cost [(.t 8)]), none, false⟩] []) (.seq (Jq3l p) (.cond (.t 19) (Jq3m p) .skip)))
@[simp] def Jqbd (p : Nums) : List IOp := [qo 2 (.alloc [(.d (.bool false)), (.d (.bool false)), (.d (.bool false)), (.d (.bool false))]), qo 3 (.asg (.c (.d (.bool false))))]
def Jqaz (p : Nums) : IC := (.region (Jqbd p) [])
@[simp] theorem Jeaz {p : Nums} : EqI (Jqaz p) (.region (Jqbd p) []) := eqi
@[simp] def Jqbf (p : Nums) : List IOp := [qo 5 (.mov (.t 0)), qo 6 (.call p.opcode_known [(.t 5)]), qo 7 (.un .not (.t 6)), qo 4 (.asg (.t 7))]
def Jqb5 (p : Nums) : IC := (.region (Jqbf p) [])
@[simp] theorem Jeb5 {p : Nums} : EqI (Jqb5 p) (.region (Jqbf p) []) := eqi
@[simp] def Jqbg (p : Nums) : List IOp := [qo 8 (.build [(.d (.bool false)), (.d (.bool false)), (.d (.bool false)), (.d (.bool false))] []), qn (.store 4 (.t 2) (.t 8)), qo 3 (.asg (.c (.d (.bool false))))]
def Jqb6 (p : Nums) : IC := (.region (Jqbg p) [])
@[simp] theorem Jeb6 {p : Nums} : EqI (Jqb6 p) (.region (Jqbg p) []) := eqi
@[simp] def Jqbh (p : Nums) : List IOp := [qo 10 (.mov (.t 0)), qo 11 (.bin .eql (.t 10) (ci 1)), qo 9 (.asg (.t 11))]
def Jqb7 (p : Nums) : IC := (.region (Jqbh p) [])
@[simp] theorem Jeb7 {p : Nums} : EqI (Jqb7 p) (.region (Jqbh p) []) := eqi
@[simp] def Jqbi (p : Nums) : List IOp := [qo 12 (.build [(.d (.bool false)), (.d (.bool false)), (.d (.bool false)), (.d (.bool false))] [(0, 1, (.c (.d (.bool true)))), (3, 1, (.c (.d (.bool true))))]), qn (.store 4 (.t 2) (.t 12)), qo 3 (.asg (.c (.d (.bool true))))]
def Jqb8 (p : Nums) : IC := (.region (Jqbi p) [])
@[simp] theorem Jeb8 {p : Nums} : EqI (Jqb8 p) (.region (Jqbi p) []) := eqi
@[simp] def Jqbj (p : Nums) : List IOp := [qo 14 (.mov (.t 0)), qo 15 (.bin .leq (.t 14) (ci 4)), qo 13 (.asg (.t 15))]
def Jqb9 (p : Nums) : IC := (.region (Jqbj p) [])
@[simp] theorem Jeb9 {p : Nums} : EqI (Jqb9 p) (.region (Jqbj p) []) := eqi
@[simp] def Jqbk (p : Nums) : List IOp := [qo 16 (.build [(.d (.bool false)), (.d (.bool false)), (.d (.bool false)), (.d (.bool false))] [(0, 1, (.c (.d (.bool true)))), (1, 1, (.c (.d (.bool true))))]), qn (.store 4 (.t 2) (.t 16)), qo 3 (.asg (.c (.d (.bool true))))]
def Jqba (p : Nums) : IC := (.region (Jqbk p) [])
@[simp] theorem Jeba {p : Nums} : EqI (Jqba p) (.region (Jqbk p) []) := eqi
@[simp] def Jqbl (p : Nums) : List IOp := [qo 18 (.mov (.t 0)), qo 19 (.bin .leq (.t 18) (ci 16)), qo 17 (.asg (.t 19))]
def Jqbb (p : Nums) : IC := (.region (Jqbl p) [])
@[simp] theorem Jebb {p : Nums} : EqI (Jqbb p) (.region (Jqbl p) []) := eqi
@[simp] def Jqbm (p : Nums) : List IOp := [qo 20 (.build [(.d (.bool false)), (.d (.bool false)), (.d (.bool false)), (.d (.bool false))] [(0, 1, (.c (.d (.bool true)))), (1, 1, (.c (.d (.bool true)))), (2, 1, (.c (.d (.bool true))))]), qn (.store 4 (.t 2) (.t 20)), qo 3 (.asg (.c (.d (.bool true))))]
def Jqbc (p : Nums) : IC := (.region (Jqbm p) [])
@[simp] theorem Jebc {p : Nums} : EqI (Jqbc p) (.region (Jqbm p) []) := eqi
def Jqb0 (p : Nums) : IC := (.seq (Jqbb p) (.cond (.t 17) (.seq (Jqbc p) .ret) .skip))
@[simp] theorem Jeb0 {p : Nums} : EqI (Jqb0 p) (.seq (Jqbb p) (.cond (.t 17) (.seq (Jqbc p) .ret) .skip)) := eqi
def Jqb1 (p : Nums) : IC := (.seq (Jqb9 p) (.cond (.t 13) (.seq (Jqba p) .ret) (Jqb0 p)))
@[simp] theorem Jeb1 {p : Nums} : EqI (Jqb1 p) (.seq (Jqb9 p) (.cond (.t 13) (.seq (Jqba p) .ret) (Jqb0 p))) := eqi
def Jqb2 (p : Nums) : IC := (.seq (Jqb7 p) (.cond (.t 9) (.seq (Jqb8 p) .ret) (Jqb1 p)))
@[simp] theorem Jeb2 {p : Nums} : EqI (Jqb2 p) (.seq (Jqb7 p) (.cond (.t 9) (.seq (Jqb8 p) .ret) (Jqb1 p))) := eqi
def Jqb3 (p : Nums) : IC := (.seq (Jqb5 p) (.cond (.t 4) (.seq (Jqb6 p) .ret) (Jqb2 p)))
@[simp] theorem Jeb3 {p : Nums} : EqI (Jqb3 p) (.seq (Jqb5 p) (.cond (.t 4) (.seq (Jqb6 p) .ret) (Jqb2 p))) := eqi
@[simp] def Jqbe (p : Nums) : List IOp := [qo 21 (.mov (.t 0)), qo 22 (.bin .eql (.t 21) (ci 17)), qo 23 (.build [(.d (.bool false)), (.d (.bool false)), (.d (.bool false)), (.d (.bool false))] [(1, 1, (.t 22))]), qn (.store 4 (.t 2) (.t 23)), qo 3 (.asg (.c (.d (.bool true))))]
def Jqb4 (p : Nums) : IC := (.region (Jqbe p) [])
@[simp] theorem Jeb4 {p : Nums} : EqI (Jqb4 p) (.region (Jqbe p) []) := eqi
def Jtat (p : Nums) : IC := (.seq (Jqaz p) (.seq (.block 0 (Jqb3 p)) (.seq (Jqb4 p) .ret)))
@[simp] def Jq8g (p : Nums) : List IOp := [qo 3 (.mov (.t 0)), qo 4 (.bin .mul (ci 2) (.t 3)), qo 2 (.asg (.t 4))]
def Jq8f (p : Nums) : IC := (.region (Jq8g p) [])
@[simp] theorem Je8f {p : Nums} : EqI (Jq8f p) (.region (Jq8g p) []) := eqi
def Jtag (p : Nums) : IC := (.seq (.region [⟨(some 2), (.asg (.c (.d (.int .i64 0)))), none, false⟩] []) (.seq (Jq8f p) .ret))
@[simp] def Jqbo (p : Nums) : List IOp := [qo 3 (.mov (.t 0)), qo 4 (.call p.opcode_known [(.t 3)]), qo 5 (.mov (.t 4)), ⟨(some 6), (.mov (.t 0)), (some (5, true)), false⟩, ⟨(some 7), (.bin .neq (.t 6) (ci 18)), (some (5, true)), false⟩, qo 8 (.pick (.t 5) (.t 7) (.c (.d (.bool false)))), qo 2 (.asg (.t 8))]
def Jqbn (p : Nums) : IC := (.region (Jqbo p) [])
@[simp] theorem Jebn {p : Nums} : EqI (Jqbn p) (.region (Jqbo p) []) := eqi
def Jtau (p : Nums) : IC := (.seq (.region [⟨(some 2), (.asg (.c (.d (.bool false)))), none, false⟩] []) (.seq (Jqbn p) .ret))
@[simp] def Jqmt (p : Nums) : List IOp := [qo 5 (.mov (.t 0)), qo 6 (.len (.t 5)), qo 7 (.mov (ci 0))]
def Jqmn (p : Nums) : IC := (.region (Jqmt p) [])
@[simp] theorem Jemn {p : Nums} : EqI (Jqmn p) (.region (Jqmt p) []) := eqi
@[simp] def Jqmu (p : Nums) : List IOp := [qo 9 (.iaddr 3 (.t 5) (.t 7)), qo 10 (.load (some 3) (.t 9)), qo 4 (.alloc [(zi 0), (.d (.bool false)), (zi 0)]), qn (.store 3 (.t 4) (.t 10))]
def Jqmo (p : Nums) : IC := (.region (Jqmu p) [])
@[simp] theorem Jemo {p : Nums} : EqI (Jqmo p) (.region (Jqmu p) []) := eqi
@[simp] def Jqmv (p : Nums) : List IOp := [qo 11 (.faddr 1 (.t 4)), qo 12 (.load none (.t 11)), qo 13 (.mov (.t 12)), ⟨(some 14), (.faddr 0 (.t 4)), (some (13, true)), false⟩, ⟨(some 15), (.load none (.t 14)), (some (13, true)), false⟩, ⟨(some 16), (.bin .lss (.t 15) (ci 0)), (some (13, true)), false⟩, ⟨(some 17), (.mov (.t 16)), (some (13, true)), false⟩, ⟨(some 18), (.faddr 0 (.t 4)), (some (17, false)), false⟩, ⟨(some 19), (.load none (.t 18)), (some (17, false)), false⟩, ⟨(some 20), (.faddr 2 (.t 4)), (some (17, false)), false⟩, ⟨(some 21), (.load none (.t 20)), (some (17, false)), false⟩, ⟨(some 22), (.bin .geq (.t 19) (.t 21)), (some (17, false)), false⟩, ⟨(some 23), (.pick (.t 17) (.c (.d (.bool true))) (.t 22)), (some (13, true)), false⟩, qo 24 (.pick (.t 13) (.t 23) (.c (.d (.bool false))))]
def Jqmp (p : Nums) : IC := (.region (Jqmv p) [])
@[simp] theorem Jemp {p : Nums} : EqI (Jqmp p) (.region (Jqmv p) []) := eqi
def Jqmq (p : Nums) : IC := (.seq (.region [⟨(some 2), (.asg (.c (.d (.bool false)))), none, false⟩] []) .ret)
@[simp] theorem Jemq {p : Nums} : EqI (Jqmq p) (.seq (.region [⟨(some 2), (.asg (.c (.d (.bool false)))), none, false⟩] []) .ret) := eqi
def Jqmr (p : Nums) : IC := (.seq (Jqmo p) (.seq (Jqmp p) (.cond (.t 24) (Jqmq p) .skip)))
@[simp] theorem Jemr {p : Nums} : EqI (Jqmr p) (.seq (Jqmo p) (.seq (Jqmp p) (.cond (.t 24) (Jqmq p) .skip))) := eqi
def Jqms (p : Nums) : IC := (.seq (.region [⟨(some 8), (.bin .lss (.t 7) (.t 6)), none, false⟩] []) (.seq (.cond (.t 8) .skip (.exit 0)) (.seq (.block 1 (Jqmr p)) (.region [⟨(some 25), (.bin .add (.t 7) (.c (.d (.int .i64 1)))), none, false⟩, ⟨(some 7), (.mov (.t 25)), none, false⟩] []))))
@[simp] theorem Jems {p : Nums} : EqI (Jqms p) (.seq (.region [⟨(some 8), (.bin .lss (.t 7) (.t 6)), none, false⟩] []) (.seq (.cond (.t 8) .skip (.exit 0)) (.seq (.block 1 (Jqmr p)) (.region [⟨(some 25), (.bin .add (.t 7) (.c (.d (.int .i64 1)))), none, false⟩, ⟨(some 7), (.mov (.t 25)), none, false⟩] [])))) := eqi
def Jtbv (p : Nums) : IC := (.seq (.region [⟨(some 2), (.asg (.c (.d (.bool false)))), none, false⟩] []) (.seq (.seq (Jqmn p) (.block 0 (.loop (Jqms p)))) (.seq (.region [⟨(some 2), (.asg (.c (.d (.bool true)))), none, false⟩] []) .ret)))
@[simp] def Jqm9 (p : Nums) : List IOp := [qo 5 (.mov (.t 0)), qo 6 (.len (.t 5)), qo 7 (.mov (ci 0))]
def Jqm3 (p : Nums) : IC := (.region (Jqm9 p) [])
@[simp] theorem Jem3 {p : Nums} : EqI (Jqm3 p) (.region (Jqm9 p) []) := eqi
@[simp] def Jqma (p : Nums) : List IOp := [qo 9 (.iaddr 3 (.t 5) (.t 7)), qo 10 (.load (some 3) (.t 9)), qo 4 (.alloc [(zi 0), (.d (.bool false)), (zi 0)]), qn (.store 3 (.t 4) (.t 10))]
def Jqm4 (p : Nums) : IC := (.region (Jqma p) [])
@[simp] theorem Jem4 {p : Nums} : EqI (Jqm4 p) (.region (Jqma p) []) := eqi
@[simp] def Jqmb (p : Nums) : List IOp := [qo 11 (.faddr 1 (.t 4)), qo 12 (.load none (.t 11)), qo 13 (.un .not (.t 12)), qo 14 (.mov (.t 13)), ⟨(some 15), (.faddr 0 (.t 4)), (some (14, true)), false⟩, ⟨(some 16), (.load none (.t 15)), (some (14, true)), false⟩, ⟨(some 17), (.bin .neq (.t 16) (ci 0)), (some (14, true)), false⟩, qo 18 (.pick (.t 14) (.t 17) (.c (.d (.bool false))))]
def Jqm5 (p : Nums) : IC := (.region (Jqmb p) [])
@[simp] theorem Jem5 {p : Nums} : EqI (Jqm5 p) (.region (Jqmb p) []) := eqi
def Jqm6 (p : Nums) : IC := (.seq (.region [⟨(some 2), (.asg (.c (.d (.bool false)))), none, false⟩] []) .ret)
@[simp] theorem Jem6 {p : Nums} : EqI (Jqm6 p) (.seq (.region [⟨(some 2), (.asg (.c (.d (.bool false)))), none, false⟩] []) .ret) := eqi
def Jqm7 (p : Nums) : IC := (.seq (Jqm4 p) (.seq (Jqm5 p) (.cond (.t 18) (Jqm6 p) .skip)))
@[simp] theorem Jem7 {p : Nums} : EqI (Jqm7 p) (.seq (Jqm4 p) (.seq (Jqm5 p) (.cond (.t 18) (Jqm6 p) .skip))) := eqi
def Jqm8 (p : Nums) : IC := (.seq (.region [⟨(some 8), (.bin .lss (.t 7) (.t 6)), none, false⟩] []) (.seq (.cond (.t 8) .skip (.exit 0)) (.seq (.block 1 (Jqm7 p)) (.region [⟨(some 19), (.bin .add (.t 7) (.c (.d (.int .i64 1)))), none, false⟩, ⟨(some 7), (.mov (.t 19)), none, false⟩] []))))
@[simp] theorem Jem8 {p : Nums} : EqI (Jqm8 p) (.seq (.region [⟨(some 8), (.bin .lss (.t 7) (.t 6)), none, false⟩] []) (.seq (.cond (.t 8) .skip (.exit 0)) (.seq (.block 1 (Jqm7 p)) (.region [⟨(some 19), (.bin .add (.t 7) (.c (.d (.int .i64 1)))), none, false⟩, ⟨(some 7), (.mov (.t 19)), none, false⟩] [])))) := eqi
def Jtbt (p : Nums) : IC := (.seq (.region [⟨(some 2), (.asg (.c (.d (.bool false)))), none, false⟩] []) (.seq (.seq (Jqm3 p) (.block 0 (.loop (Jqm8 p)))) (.seq (.region [⟨(some 2), (.asg (.c (.d (.bool true)))), none, false⟩] []) .ret)))
@[simp] def Jqay (p : Nums) : List IOp := [qo 3 (.mov (.t 0)), qo 4 (.call p.opcode_known [(.t 3)]), qo 5 (.mov (.t 4)), ⟨(some 6), (.mov (.t 0)), (some (5, true)), false⟩, ⟨(some 7), (.bin .neq (.t 6) (ci 2)), (some (5, true)), false⟩, qo 8 (.pick (.t 5) (.t 7) (.c (.d (.bool false)))), qo 2 (.asg (.t 8))]
def Jqax (p : Nums) : IC := (.region (Jqay p) [])
@[simp] theorem Jeax {p : Nums} : EqI (Jqax p) (.region (Jqay p) []) := eqi
def Jtas (p : Nums) : IC := (.seq (.region [⟨(some 2), (.asg (.c (.d (.bool false)))), none, false⟩] []) (.seq (Jqax p) .ret))
@[simp] def Jqaw (p : Nums) : List IOp := [qo 1 (.build [.nilfn, .nilfn] [(0, 1, (.c (.fn (.func p.machine_others_1) [] []))), (1, 1, (.c (.fn (.func p.machine_others_2) [] [])))]), qn (.store 2 (.t 0) (.t 1))]
def Jqav (p : Nums) : IC := (.region (Jqaw p) [])
@[simp] theorem Jeav {p : Nums} : EqI (Jqav p) (.region (Jqaw p) []) := eqi
def Jtap (p : Nums) : IC := (.seq (.region [⟨(some 0), (.alloc [.nilfn, .nilfn]), none, false⟩] []) (.seq (Jqav p) .ret))
@[simp] def Jqaq (p : Nums) : List IOp := [qo 1 (.build [.nilfn, .nilfn] [(0, 1, (.c (.fn (.func p.machine_moves_1) [] []))), (1, 1, (.c (.fn (.func p.machine_moves_2) [] [])))]), qn (.store 2 (.t 0) (.t 1))]
def Jqap (p : Nums) : IC := (.region (Jqaq p) [])
@[simp] theorem Jeap {p : Nums} : EqI (Jqap p) (.region (Jqaq p) []) := eqi
def Jtam (p : Nums) : IC := (.seq (.region [⟨(some 0), (.alloc [.nilfn, .nilfn]), none, false⟩] []) (.seq (Jqap p) .ret))
@[simp] def Jq8e (p : Nums) : List IOp := [qo 3 (.mov (.t 0)), qo 4 (.bin .rem (.t 3) (ci 2)), qo 5 (.bin .eql (.t 4) (ci 1)), qo 2 (.asg (.t 5))]
def Jq8d (p : Nums) : IC := (.region (Jq8e p) [])
@[simp] theorem Je8d {p : Nums} : EqI (Jq8d p) (.region (Jq8e p) []) := eqi
def Jtaf (p : Nums) : IC := (.seq (.region [⟨(some 2), (.asg (.c (.d (.bool false)))), none, false⟩] []) (.seq (Jq8d p) .ret))
@[simp] def Jq8c (p : Nums) : List IOp := [qo 3 (.mov (.t 0)), qo 4 (.bin .quo (.t 3) (ci 2)), qo 2 (.asg (.t 4))]
def Jq8b (p : Nums) : IC := (.region (Jq8c p) [])
@[simp] theorem Je8b {p : Nums} : EqI (Jq8b p) (.region (Jq8c p) []) := eqi
def Jtae (p : Nums) : IC := (.seq (.region [⟨(some 2), (.asg (.c (.d (.int .i64 0)))), none, false⟩] []) (.seq (Jq8b p) .ret))
@[simp] def Jq22 (p : Nums) : List IOp := [qp 2 (.mov (.t 0)), qp 3 (.nilck (.t 2)), qp 4 (.faddr 2 (.t 3)), qp 5 (.load none (.t 4)), qp 6 (.mov (.t 0)), qp 7 (.nilck (.t 6)), qp 8 (.faddr 0 (.t 7)), qp 9 (.load none (.t 8)), qp 10 (.len (.t 9)), qp 11 (.bin .add (ci 1) (.t 10)), qo 12 (.bin .add (.t 5) (.t 11)), qo 13 (.nilck (.t 2)), qo 14 (.faddr 2 (.t 13)), qn (.store 1 (.t 14) (.t 12))]
def Jq21 (p : Nums) : IC := (.region (Jq22 p) [])
@[simp] theorem Je21 {p : Nums} : EqI (Jq21 p) (.region (Jq22 p) []) := eqi
def Jt9u (p : Nums) : IC := (Jq21 p)
@[simp] def Jq1y (p : Nums) : List IOp := [qo 6 (.mov (.t 0)), qo 7 (.mov (.t 0)), qo 8 (.mov (.t 1)), qo 9 (.mov (.t 0)), qo 10 (.nilck (.t 9)), qo 11 (.faddr 3 (.t 10)), qo 12 (.load none (.t 11)), qo 13 (.mov (.t 1)), qo 14 (.len (.t 13)), qo 15 (.mx (.t 12) (.t 14)), qo 16 (.nilck (.t 6)), qo 17 (.faddr 0 (.t 16)), qn (.store 1 (.t 17) (.t 8)), qo 18 (.nilck (.t 7)), qo 19 (.faddr 3 (.t 18)), qn (.store 1 (.t 19) (.t 15))]
def Jq1v (p : Nums) : IC := (.region (Jq1y p) [])
@[simp] theorem Je1v {p : Nums} : EqI (Jq1v p) (.region (Jq1y p) []) := eqi
@[simp] def Jq1z (p : Nums) : List IOp := [qo 20 (.mov (.t 1)), qo 21 (.len (.t 20)), qo 22 (.mov (.t 0)), qo 23 (.nilck (.t 22)), qo 24 (.faddr 1 (.t 23)), qo 25 (.load none (.t 24)), qo 26 (.bin .gtr (.t 21) (.t 25))]
def Jq1w (p : Nums) : IC := (.region (Jq1z p) [])
@[simp] theorem Je1w {p : Nums} : EqI (Jq1w p) (.region (Jq1z p) []) := eqi
@[simp] def Jq20 (p : Nums) : List IOp := [qo 27 (.mov (.t 2)), qo 28 (.build [(zi 0), (zi 0)] [(0, 1, (ci 24)), (1, 1, (.t 27))]), qo 29 (.mkif p.ty_bcfail (.t 28)), qn (.pan (.t 29))]
def Jq1x (p : Nums) : IC := (.region (Jq20 p) [])
@[simp] theorem Je1x {p : Nums} : EqI (Jq1x p) (.region (Jq20 p) []) := eqi
def Jt9t (p : Nums) : IC := (.seq (Jq1v p) (.seq (Jq1w p) (.cond (.t 26) (Jq1x p) .skip)))
@[simp] def Jqmz (p : Nums) : List IOp := [qo 7 (.load none (.t 4)), qo 8 (.load none (.t 5)), qo 9 (.bin .eql (.t 7) (.t 8))]
def Jqmw (p : Nums) : IC := (.region (Jqmz p) [])
@[simp] theorem Jemw {p : Nums} : EqI (Jqmw p) (.region (Jqmz p) []) := eqi
@[simp] def Jqn0 (p : Nums) : List IOp := [qo 10 (.mov (.t 0)), qo 11 (.call p.pairset_Make [(.t 10)]), qo 6 (.asg (.t 11))]
def Jqmx (p : Nums) : IC := (.region (Jqn0 p) [])
@[simp] theorem Jemx {p : Nums} : EqI (Jqmx p) (.region (Jqn0 p) []) := eqi
@[simp] def Jqn1 (p : Nums) : List IOp := [qo 12 (.mov (.t 0)), qo 13 (.load none (.t 4)), qo 14 (.call p.pairset_DropV [(.t 12), (.t 13)]), qo 15 (.mov (.t 0)), qo 16 (.mkfn (.func p.transfer_Copy_1) [] [(.t 4), (.t 5)]), qo 17 (.call p.transfer_rename [(.t 14), (.t 15), (.t 16)]), qo 6 (.asg (.t 17))]
def Jqmy (p : Nums) : IC := (.region (Jqn1 p) [])
@[simp] theorem Jemy {p : Nums} : EqI (Jqmy p) (.region (Jqn1 p) []) := eqi
def Jtbw (p : Nums) : IC := (.seq (.region [⟨(some 4), (.box (.t 1)), none, false⟩, ⟨(some 5), (.box (.t 2)), none, false⟩, ⟨(some 6), (.asg (.c .nils)), none, false⟩] []) (.seq (.seq (Jqmw p) (.cond (.t 9) (.seq (Jqmx p) .ret) .skip)) (.seq (Jqmy p) .ret)))
@[simp] def Jqn9 (p : Nums) : List IOp := [qo 7 (.load none (.t 4)), qo 8 (.load none (.t 5)), qo 9 (.bin .eql (.t 7) (.t 8))]
def Jqn6 (p : Nums) : IC := (.region (Jqn9 p) [])
@[simp] theorem Jen6 {p : Nums} : EqI (Jqn6 p) (.region (Jqn9 p) []) := eqi
@[simp] def Jqna (p : Nums) : List IOp := [qo 10 (.mov (.t 0)), qo 11 (.call p.pairset_Make [(.t 10)]), qo 6 (.asg (.t 11))]
def Jqn7 (p : Nums) : IC := (.region (Jqna p) [])
@[simp] theorem Jen7 {p : Nums} : EqI (Jqn7 p) (.region (Jqna p) []) := eqi
@[simp] def Jqnb (p : Nums) : List IOp := [qo 12 (.mov (.t 0)), qo 13 (.load none (.t 4)), qo 14 (.call p.pairset_DropL [(.t 12), (.t 13)]), qo 15 (.mov (.t 0)), qo 16 (.mkfn (.func p.transfer_Move_1) [] [(.t 4), (.t 5)]), qo 17 (.call p.transfer_rename [(.t 14), (.t 15), (.t 16)]), qo 6 (.asg (.t 17))]
def Jqn8 (p : Nums) : IC := (.region (Jqnb p) [])
@[simp] theorem Jen8 {p : Nums} : EqI (Jqn8 p) (.region (Jqnb p) []) := eqi
def Jtby (p : Nums) : IC := (.seq (.region [⟨(some 4), (.box (.t 1)), none, false⟩, ⟨(some 5), (.box (.t 2)), none, false⟩, ⟨(some 6), (.asg (.c .nils)), none, false⟩] []) (.seq (.seq (Jqn6 p) (.cond (.t 9) (.seq (Jqn7 p) .ret) .skip)) (.seq (Jqn8 p) .ret)))
@[simp] def Jq28 (p : Nums) : List IOp := [qo 11 (.faddr 0 (.t 5)), qo 12 (.load none (.t 11)), qo 13 (.call p.opcode_Of [(.t 12)]), qo 10 (.mov (.t 13)), qo 14 (.ext (.t 10) 0), qo 15 (.ext (.t 10) 1), qo 8 (.alloc [(.d (.bool false)), (.d (.bool false)), (.d (.bool false)), (.d (.bool false))]), qn (.store 4 (.t 8) (.t 14)), qo 9 (.asg (.t 15))]
def Jq23 (p : Nums) : IC := (.region (Jq28 p) [])
@[simp] theorem Je23 {p : Nums} : EqI (Jq23 p) (.region (Jq28 p) []) := eqi
@[simp] def Jq29 (p : Nums) : List IOp := [qo 18 (.mov (.t 0)), qo 19 (.faddr 2 (.t 5)), qo 20 (.load none (.t 19)), qo 21 (.faddr 2 (.t 6)), qo 22 (.load none (.t 21)), qo 23 (.mov (.t 3)), qo 24 (.call p.blockcheck_checker_use [(.t 18), (.t 20), (.t 22), (.t 23)])]
def Jq24 (p : Nums) : IC := (.region (Jq29 p) [])
@[simp] theorem Je24 {p : Nums} : EqI (Jq24 p) (.region (Jq29 p) []) := eqi
@[simp] def Jq2a (p : Nums) : List IOp := [qo 27 (.mov (.t 0)), qo 28 (.faddr 3 (.t 5)), qo 29 (.load none (.t 28)), qo 30 (.faddr 3 (.t 6)), qo 31 (.load none (.t 30)), qo 32 (.mov (.t 3)), qo 33 (.call p.blockcheck_checker_use [(.t 27), (.t 29), (.t 31), (.t 32)])]
def Jq25 (p : Nums) : IC := (.region (Jq2a p) [])
@[simp] theorem Je25 {p : Nums} : EqI (Jq25 p) (.region (Jq2a p) []) := eqi
@[simp] def Jq2b (p : Nums) : List IOp := [qp 38 (.mov (.t 0)), qp 39 (.mov (.t 0)), qp 40 (.nilck (.t 39)), qp 41 (.faddr 0 (.t 40)), qp 42 (.load none (.t 41)), qp 43 (.faddr 1 (.t 5)), qp 44 (.load none (.t 43)), qp 45 (.faddr 1 (.t 6)), qp 46 (.load none (.t 45)), qp 47 (.call p.location_Reg [(.t 46)]), qp 48 (.call p.transfer_Define [(.t 42), (.t 44), (.t 47)]), qp 49 (.mov (.t 3)), qo 50 (.call p.blockcheck_checker_become [(.t 38), (.t 48), (.t 49)])]
def Jq26 (p : Nums) : IC := (.region (Jq2b p) [])
@[simp] theorem Je26 {p : Nums} : EqI (Jq26 p) (.region (Jq2b p) []) := eqi
def Jq27 (p : Nums) : IC := (.seq (.region [⟨(some 36), (.mov (.t 0)), none, false⟩, ⟨(some 37), (.call p.blockcheck_checker_cost [(.t 36)]), none, false⟩] []) (Jq26 p))
@[simp] theorem Je27 {p : Nums} : EqI (Jq27 p) (.seq (.region [⟨(some 36), (.mov (.t 0)), none, false⟩, ⟨(some 37), (.call p.blockcheck_checker_cost [(.t 36)]), none, false⟩] []) (Jq26 p)) := eqi
def Jt9v (p : Nums) : IC := (.seq (.region [⟨(some 5), (.box (.t 1)), none, false⟩, ⟨(some 6), (.box (.t 2)), none, false⟩] []) (.seq (Jq23 p) (.seq (.seq (.region [⟨(some 16), (.faddr 1 (.t 8)), none, false⟩, ⟨(some 17), (.load none (.t 16)), none, false⟩] []) (.cond (.t 17) (Jq24 p) .skip)) (.seq (.seq (.region [⟨(some 25), (.faddr 2 (.t 8)), none, false⟩, ⟨(some 26), (.load none (.t 25)), none, false⟩] []) (.cond (.t 26) (Jq25 p) .skip)) (.seq (.region [⟨(some 34), (.faddr 0 (.t 8)), none, false⟩, ⟨(some 35), (.load none (.t 34)), none, false⟩] []) (.cond (.t 35) (Jq27 p) .skip))))))
@[simp] def Jqcd (p : Nums) : List IOp := [qo 6 (.mov (.t 0)), qo 7 (.load (some 2) (.t 3)), qo 8 (.call p.pairset_find [(.t 6), (.t 7)]), qo 5 (.asg (.t 8))]
def Jqcb (p : Nums) : IC := (.region (Jqcd p) [])
@[simp] theorem Jecb {p : Nums} : EqI (Jqcb p) (.region (Jqcd p) []) := eqi
@[simp] def Jqce (p : Nums) : List IOp := [qp 9 (.mov (.t 5)), qp 10 (.mov (.t 0)), qp 11 (.len (.t 10)), qo 12 (.bin .lss (.t 9) (.t 11)), qo 13 (.mov (.t 12)), ⟨(some 14), (.mov (.t 0)), (some (13, true)), true⟩, ⟨(some 15), (.mov (.t 5)), (some (13, true)), true⟩, ⟨(some 16), (.iaddr 2 (.t 14) (.t 15)), (some (13, true)), true⟩, ⟨(some 17), (.load (some 2) (.t 16)), (some (13, true)), true⟩, ⟨(some 18), (.load (some 2) (.t 3)), (some (13, true)), true⟩, ⟨(some 19), (.eqs false [.int, .int] (.t 17) (.t 18)), (some (13, true)), false⟩, qo 20 (.pick (.t 13) (.t 19) (.c (.d (.bool false)))), qo 4 (.asg (.t 20))]
def Jqcc (p : Nums) : IC := (.region (Jqce p) [])
@[simp] theorem Jecc {p : Nums} : EqI (Jqcc p) (.region (Jqce p) []) := eqi
def Jtb1 (p : Nums) : IC := (.seq (.region [⟨(some 3), (.box (.t 1)), none, false⟩, ⟨(some 4), (.asg (.c (.d (.bool false)))), none, false⟩] []) (.seq (Jqcb p) (.seq (Jqcc p) .ret)))
@[simp] def Jqbq (p : Nums) : List IOp := [qo 3 (.mov (.t 0)), qo 4 (.bin .geq (.t 3) (ci 1)), qo 5 (.mov (.t 4)), ⟨(some 6), (.mov (.t 0)), (some (5, true)), false⟩, ⟨(some 7), (.bin .leq (.t 6) (ci 18)), (some (5, true)), false⟩, qo 8 (.pick (.t 5) (.t 7) (.c (.d (.bool false)))), qo 2 (.asg (.t 8))]
def Jqbp (p : Nums) : IC := (.region (Jqbq p) [])
@[simp] theorem Jebp {p : Nums} : EqI (Jqbp p) (.region (Jqbq p) []) := eqi
def Jtav (p : Nums) : IC := (.seq (.region [⟨(some 2), (.asg (.c (.d (.bool false)))), none, false⟩] []) (.seq (Jqbp p) .ret))
@[simp] def Jqas (p : Nums) : List IOp := [qo 7 (.faddr 0 (.t 3)), qo 8 (.load none (.t 7)), qo 9 (.faddr 1 (.t 3)), qo 10 (.load none (.t 9)), qo 11 (.faddr 2 (.t 3)), qo 12 (.load none (.t 11)), qo 13 (.faddr 3 (.t 3)), qo 14 (.load none (.t 13)), qo 15 (.faddr 4 (.t 3)), qo 16 (.load none (.t 15)), qo 17 (.build [(zi 0), (zi 0), (zi 0), (zi 0), (zi 0)] [(0, 1, (.t 8)), (1, 1, (.t 10)), (2, 1, (.t 12)), (3, 1, (.t 14)), (4, 1, (.t 16))]), qo 18 (.mov (.t 1)), qo 19 (.call p.source_Instr [(.t 17), (.t 18)]), qo 6 (.asg (.t 19))]
def Jqar (p : Nums) : IC := (.region (Jqas p) [])
@[simp] theorem Jear {p : Nums} : EqI (Jqar p) (.region (Jqas p) []) := eqi
def Jtaq (p : Nums) : IC := (.seq (.region [⟨(some 3), (.box (.t 0)), none, false⟩, ⟨(some 6), (.asg (.c (.d (.int .i64 0)))), none, false⟩] []) (.seq (Jqar p) .ret))
@[simp] def Jqau (p : Nums) : List IOp := [qo 3 (.faddr 5 (.t 1)), qo 4 (.load none (.t 3)), qo 5 (.bin .eql (.t 4) (ci 0)), qo 6 (.mov (.t 5)), ⟨(some 7), (.faddr 6 (.t 1)), (some (6, true)), false⟩, ⟨(some 8), (.load none (.t 7)), (some (6, true)), false⟩, ⟨(some 9), (.bin .eql (.t 8) (ci 0)), (some (6, true)), false⟩, qo 10 (.pick (.t 6) (.t 9) (.c (.d (.bool false)))), qo 2 (.asg (.t 10))]
def Jqat (p : Nums) : IC := (.region (Jqau p) [])
@[simp] theorem Jeat {p : Nums} : EqI (Jqat p) (.region (Jqau p) []) := eqi
def Jtar (p : Nums) : IC := (.seq (.region [⟨(some 1), (.box (.t 0)), none, false⟩, ⟨(some 2), (.asg (.c (.d (.bool false)))), none, false⟩] []) (.seq (Jqat p) .ret))
@[simp] def Jqal (p : Nums) : List IOp := [qo 8 (.faddr 5 (.t 3)), qo 9 (.load none (.t 8)), qo 10 (.call p.location_IsSlot [(.t 9)]), qo 11 (.mov (.t 10)), ⟨(some 12), (.faddr 6 (.t 3)), (some (11, true)), false⟩, ⟨(some 13), (.load none (.t 12)), (some (11, true)), false⟩, ⟨(some 14), (.call p.location_IsSlot [(.t 13)]), (some (11, true)), false⟩, qo 15 (.pick (.t 11) (.t 14) (.c (.d (.bool false)))), qo 7 (.asg (.t 15))]
def Jqai (p : Nums) : IC := (.region (Jqal p) [])
@[simp] theorem Jeai {p : Nums} : EqI (Jqai p) (.region (Jqal p) []) := eqi
@[simp] def Jqam (p : Nums) : List IOp := [qo 16 (.mov (.t 7)), qo 17 (.mov (.t 16)), ⟨(some 18), (.faddr 5 (.t 3)), (some (17, false)), false⟩, ⟨(some 19), (.load none (.t 18)), (some (17, false)), false⟩, ⟨(some 20), (.mov (.t 1)), (some (17, false)), false⟩, ⟨(some 21), (.mov (.t 2)), (some (17, false)), false⟩, ⟨(some 22), (.call p.location_InRange [(.t 19), (.t 20), (.t 21)]), (some (17, false)), false⟩, ⟨(some 23), (.un .not (.t 22)), (some (17, false)), false⟩, qo 24 (.pick (.t 17) (.c (.d (.bool true))) (.t 23)), qo 25 (.mov (.t 24)), ⟨(some 26), (.faddr 6 (.t 3)), (some (25, false)), false⟩, ⟨(some 27), (.load none (.t 26)), (some (25, false)), false⟩, ⟨(some 28), (.mov (.t 1)), (some (25, false)), false⟩, ⟨(some 29), (.mov (.t 2)), (some (25, false)), false⟩, ⟨(some 30), (.call p.location_InRange [(.t 27), (.t 28), (.t 29)]), (some (25, false)), false⟩, ⟨(some 31), (.un .not (.t 30)), (some (25, false)), false⟩, qo 32 (.pick (.t 25) (.c (.d (.bool true))) (.t 31))]
def Jqaj (p : Nums) : IC := (.region (Jqam p) [])
@[simp] theorem Jeaj {p : Nums} : EqI (Jqaj p) (.region (Jqam p) []) := eqi
def Jqak (p : Nums) : IC := (.seq (.region [⟨(some 6), (.asg (.c (.d (.int .i64 10)))), none, false⟩] []) .ret)
@[simp] theorem Jeak {p : Nums} : EqI (Jqak p) (.seq (.region [⟨(some 6), (.asg (.c (.d (.int .i64 10)))), none, false⟩] []) .ret) := eqi
def Jtan (p : Nums) : IC := (.seq (.region [⟨(some 3), (.box (.t 0)), none, false⟩, ⟨(some 6), (.asg (.c (.d (.int .i64 0)))), none, false⟩] []) (.seq (Jqai p) (.seq (.seq (Jqaj p) (.cond (.t 32) (Jqak p) .skip)) (.seq (.region [⟨(some 6), (.asg (.c (.d (.int .i64 0)))), none, false⟩] []) .ret))))
@[simp] def Jqao (p : Nums) : List IOp := [qo 3 (.faddr 1 (.t 1)), qo 4 (.load none (.t 3)), qo 5 (.bin .eql (.t 4) (ci 0)), qo 6 (.mov (.t 5)), ⟨(some 7), (.faddr 2 (.t 1)), (some (6, true)), false⟩, ⟨(some 8), (.load none (.t 7)), (some (6, true)), false⟩, ⟨(some 9), (.bin .eql (.t 8) (ci 0)), (some (6, true)), false⟩, qo 10 (.pick (.t 6) (.t 9) (.c (.d (.bool false)))), qo 11 (.mov (.t 10)), ⟨(some 12), (.faddr 3 (.t 1)), (some (11, true)), false⟩, ⟨(some 13), (.load none (.t 12)), (some (11, true)), false⟩, ⟨(some 14), (.bin .eql (.t 13) (ci 0)), (some (11, true)), false⟩, qo 15 (.pick (.t 11) (.t 14) (.c (.d (.bool false)))), qo 16 (.mov (.t 15)), ⟨(some 17), (.faddr 4 (.t 1)), (some (16, true)), false⟩, ⟨(some 18), (.load none (.t 17)), (some (16, true)), false⟩, ⟨(some 19), (.bin .eql (.t 18) (ci 0)), (some (16, true)), false⟩, qo 20 (.pick (.t 16) (.t 19) (.c (.d (.bool false)))), qo 2 (.asg (.t 20))]
def Jqan (p : Nums) : IC := (.region (Jqao p) [])
@[simp] theorem Jean {p : Nums} : EqI (Jqan p) (.region (Jqao p) []) := eqi
def Jtao (p : Nums) : IC := (.seq (.region [⟨(some 1), (.box (.t 0)), none, false⟩, ⟨(some 2), (.asg (.c (.d (.bool false)))), none, false⟩] []) (.seq (Jqan p) .ret))
@[simp] def Jqnj (p : Nums) : List IOp := [qo 12 (.mov (.t 1)), qo 13 (.len (.t 12)), qo 14 (.mov (ci 0))]
def Jqnc (p : Nums) : IC := (.region (Jqnj p) [])
@[simp] theorem Jenc {p : Nums} : EqI (Jqnc p) (.region (Jqnj p) []) := eqi
@[simp] def Jqnk (p : Nums) : List IOp := [qo 16 (.iaddr 2 (.t 12) (.t 14)), qo 17 (.load (some 2) (.t 16)), qo 9 (.alloc [(zi 0), (zi 0)]), qn (.store 2 (.t 9) (.t 17))]
def Jqnd (p : Nums) : IC := (.region (Jqnk p) [])
@[simp] theorem Jend {p : Nums} : EqI (Jqnd p) (.region (Jqnk p) []) := eqi
@[simp] def Jqnl (p : Nums) : List IOp := [qo 19 (.mov (.t 2)), qo 20 (.load (some 2) (.t 9)), qo 21 (.callv (.t 19) [(.t 20)]), qo 18 (.mov (.t 21)), qo 22 (.ext (.t 18) 0), qo 23 (.ext (.t 18) 1), qo 10 (.alloc [(zi 0), (zi 0)]), qn (.store 2 (.t 10) (.t 22)), qo 11 (.asg (.t 23))]
def Jqne (p : Nums) : IC := (.region (Jqnl p) [])
@[simp] theorem Jene {p : Nums} : EqI (Jqne p) (.region (Jqnl p) []) := eqi
@[simp] def Jqnm (p : Nums) : List IOp := [qo 25 (.mov (.t 7)), qo 26 (.load (some 2) (.t 10)), qo 27 (.bslice 2 1 [(.int .i64 0), (.int .i64 0)] [(0, (.t 26))]), qo 28 (.app 2 16 (.t 25) (.t 27)), qo 7 (.asg (.t 28))]
def Jqnf (p : Nums) : IC := (.region (Jqnm p) [])
@[simp] theorem Jenf {p : Nums} : EqI (Jqnf p) (.region (Jqnm p) []) := eqi
def Jqng (p : Nums) : IC := (.seq (Jqnd p) (.seq (Jqne p) (.seq (.region [⟨(some 24), (.mov (.t 11)), none, false⟩] []) (.cond (.t 24) (Jqnf p) .skip))))
@[simp] theorem Jeng {p : Nums} : EqI (Jqng p) (.seq (Jqnd p) (.seq (Jqne p) (.seq (.region [⟨(some 24), (.mov (.t 11)), none, false⟩] []) (.cond (.t 24) (Jqnf p) .skip)))) := eqi
def Jqnh (p : Nums) : IC := (.seq (.region [⟨(some 15), (.bin .lss (.t 14) (.t 13)), none, false⟩] []) (.seq (.cond (.t 15) .skip (.exit 0)) (.seq (.block 1 (Jqng p)) (.region [⟨(some 29), (.bin .add (.t 14) (.c (.d (.int .i64 1)))), none, false⟩, ⟨(some 14), (.mov (.t 29)), none, false⟩] []))))
@[simp] theorem Jenh {p : Nums} : EqI (Jqnh p) (.seq (.region [⟨(some 15), (.bin .lss (.t 14) (.t 13)), none, false⟩] []) (.seq (.cond (.t 15) .skip (.exit 0)) (.seq (.block 1 (Jqng p)) (.region [⟨(some 29), (.bin .add (.t 14) (.c (.d (.int .i64 1)))), none, false⟩, ⟨(some 14), (.mov (.t 29)), none, false⟩] [])))) := eqi
@[simp] def Jqnn (p : Nums) : List IOp := [qo 30 (.mov (.t 0)), qo 31 (.mov (.t 7)), qo 32 (.call p.pairset_Make [(.t 31)]), qo 33 (.call p.pairset_Union [(.t 30), (.t 32)]), qo 6 (.asg (.t 33))]
def Jqni (p : Nums) : IC := (.region (Jqnn p) [])
@[simp] theorem Jeni {p : Nums} : EqI (Jqni p) (.region (Jqnn p) []) := eqi
def Jtbz (p : Nums) : IC := (.seq (.region [⟨(some 6), (.asg (.c .nils)), none, false⟩] []) (.seq (.region [⟨(some 7), (.asg (.c .nils)), none, false⟩] []) (.seq (.seq (Jqnc p) (.block 0 (.loop (Jqnh p)))) (.seq (Jqni p) .ret))))
@[simp] def Jqca (p : Nums) : List IOp := [qo 5 (.mov (.t 0)), qo 6 (.mkfn (.func p.pairset_DropV_1) [] [(.t 3)]), qo 7 (.call p.pairset_filter [(.t 5), (.t 6)]), qo 4 (.asg (.t 7))]
def Jqc9 (p : Nums) : IC := (.region (Jqca p) [])
@[simp] theorem Jec9 {p : Nums} : EqI (Jqc9 p) (.region (Jqca p) []) := eqi
def Jtaz (p : Nums) : IC := (.seq (.region [⟨(some 3), (.box (.t 1)), none, false⟩, ⟨(some 4), (.asg (.c .nils)), none, false⟩] []) (.seq (Jqc9 p) .ret))
@[simp] def Jqc6 (p : Nums) : List IOp := [qo 5 (.mov (.t 0)), qo 6 (.mkfn (.func p.pairset_DropL_1) [] [(.t 3)]), qo 7 (.call p.pairset_filter [(.t 5), (.t 6)]), qo 4 (.asg (.t 7))]
def Jqc5 (p : Nums) : IC := (.region (Jqc6 p) [])
@[simp] theorem Jec5 {p : Nums} : EqI (Jqc5 p) (.region (Jqc6 p) []) := eqi
def Jtax (p : Nums) : IC := (.seq (.region [⟨(some 3), (.box (.t 1)), none, false⟩, ⟨(some 4), (.asg (.c .nils)), none, false⟩] []) (.seq (Jqc5 p) .ret))
@[simp] def Jqn4 (p : Nums) : List IOp := [qo 8 (.mov (.t 0)), qo 9 (.mov (.t 1)), qo 10 (.call p.pairset_DropV [(.t 8), (.t 9)]), qo 11 (.mov (.t 2)), qo 12 (.call p.pairset_DropL [(.t 10), (.t 11)]), qo 7 (.asg (.t 12))]
def Jqn2 (p : Nums) : IC := (.region (Jqn4 p) [])
@[simp] theorem Jen2 {p : Nums} : EqI (Jqn2 p) (.region (Jqn4 p) []) := eqi
@[simp] def Jqn5 (p : Nums) : List IOp := [qo 13 (.mov (.t 7)), qo 14 (.mov (.t 1)), qo 15 (.mov (.t 2)), qo 16 (.build [(zi 0), (zi 0)] [(0, 1, (.t 14)), (1, 1, (.t 15))]), qo 17 (.call p.pairset_Add [(.t 13), (.t 16)]), qo 6 (.asg (.t 17))]
def Jqn3 (p : Nums) : IC := (.region (Jqn5 p) [])
@[simp] theorem Jen3 {p : Nums} : EqI (Jqn3 p) (.region (Jqn5 p) []) := eqi
def Jtbx (p : Nums) : IC := (.seq (.region [⟨(some 6), (.asg (.c .nils)), none, false⟩] []) (.seq (Jqn2 p) (.seq (Jqn3 p) .ret)))
@[simp] def Jqeg (p : Nums) : List IOp := [qo 8 (.mov (.t 0)), qo 9 (.len (.t 8)), qo 5 (.asg (ci 0)), qo 6 (.asg (.t 9))]
def Jqe8 (p : Nums) : IC := (.region (Jqeg p) [])
@[simp] theorem Jee8 {p : Nums} : EqI (Jqe8 p) (.region (Jqeg p) []) := eqi
@[simp] def Jqeh (p : Nums) : List IOp := [qo 10 (.mov (.t 5)), qo 11 (.mov (.t 6)), qo 12 (.bin .lss (.t 10) (.t 11))]
def Jqe9 (p : Nums) : IC := (.region (Jqeh p) [])
@[simp] theorem Jee9 {p : Nums} : EqI (Jqe9 p) (.region (Jqeh p) []) := eqi
@[simp] def Jqei (p : Nums) : List IOp := [qo 13 (.mov (.t 5)), qo 14 (.mov (.t 6)), qo 15 (.mov (.t 5)), qo 16 (.bin .sub (.t 14) (.t 15)), qo 17 (.bin .quo (.t 16) (ci 2)), qo 18 (.bin .add (.t 13) (.t 17)), qo 7 (.asg (.t 18))]
def Jqea (p : Nums) : IC := (.region (Jqei p) [])
@[simp] theorem Jeea {p : Nums} : EqI (Jqea p) (.region (Jqei p) []) := eqi
@[simp] def Jqej (p : Nums) : List IOp := [qp 19 (.mov (.t 0)), qp 20 (.mov (.t 7)), qp 21 (.iaddr 2 (.t 19) (.t 20)), qp 22 (.load (some 2) (.t 21)), qp 23 (.load (some 2) (.t 3)), qo 24 (.call p.pairset_Less [(.t 22), (.t 23)])]
def Jqeb (p : Nums) : IC := (.region (Jqej p) [])
@[simp] theorem Jeeb {p : Nums} : EqI (Jqeb p) (.region (Jqej p) []) := eqi
@[simp] def Jqek (p : Nums) : List IOp := [qo 25 (.mov (.t 7)), qo 26 (.bin .add (.t 25) (ci 1)), qo 5 (.asg (.t 26))]
def Jqec (p : Nums) : IC := (.region (Jqek p) [])
@[simp] theorem Jeec {p : Nums} : EqI (Jqec p) (.region (Jqek p) []) := eqi
@[simp] def Jqel (p : Nums) : List IOp := [qo 27 (.mov (.t 7)), qo 6 (.asg (.t 27))]
def Jqed (p : Nums) : IC := (.region (Jqel p) [])
@[simp] theorem Jeed {p : Nums} : EqI (Jqed p) (.region (Jqel p) []) := eqi
def Jqee (p : Nums) : IC := (.seq (Jqea p) (.seq (Jqeb p) (.cond (.t 24) (Jqec p) (Jqed p))))
@[simp] theorem Jeee {p : Nums} : EqI (Jqee p) (.seq (Jqea p) (.seq (Jqeb p) (.cond (.t 24) (Jqec p) (Jqed p)))) := eqi
def Jqef (p : Nums) : IC := (.seq (.seq (Jqe9 p) (.cond (.t 12) .skip (.exit 0))) (.block 1 (Jqee p)))
@[simp] theorem Jeef {p : Nums} : EqI (Jqef p) (.seq (.seq (Jqe9 p) (.cond (.t 12) .skip (.exit 0))) (.block 1 (Jqee p))) := eqi
def Jtb7 (p : Nums) : IC := (.seq (.region [⟨(some 3), (.box (.t 1)), none, false⟩, ⟨(some 4), (.asg (.c (.d (.int .i64 0)))), none, false⟩] []) (.seq (Jqe8 p) (.seq (.block 0 (.loop (Jqef p))) (.seq (.region [⟨(some 28), (.mov (.t 5)), none, false⟩, ⟨(some 4), (.asg (.t 28)), none, false⟩] []) .ret))))
@[simp] def Jqdl (p : Nums) : List IOp := [qo 7 (.mov (.t 0)), qo 8 (.len (.t 7)), qo 9 (.mov (.t 1)), qo 10 (.len (.t 9)), qo 11 (.bin .add (.t 8) (.t 10)), qo 12 (.mkslice 2 16 [(.int .i64 0), (.int .i64 0)] (ci 0) (.t 11)), qo 5 (.asg (.t 12))]
def Jqd8 (p : Nums) : IC := (.region (Jqdl p) [])
@[simp] theorem Jed8 {p : Nums} : EqI (Jqd8 p) (.region (Jqdl p) []) := eqi
@[simp] def Jqdo (p : Nums) : List IOp := [qo 13 (.mov (.t 0)), qo 14 (.len (.t 13)), qo 15 (.bin .gtr (.t 14) (ci 0)), qo 16 (.mov (.t 15)), ⟨(some 17), (.mov (.t 1)), (some (16, true)), false⟩, ⟨(some 18), (.len (.t 17)), (some (16, true)), false⟩, ⟨(some 19), (.bin .gtr (.t 18) (ci 0)), (some (16, true)), false⟩, qo 20 (.pick (.t 16) (.t 19) (.c (.d (.bool false))))]
def Jqdd (p : Nums) : IC := (.region (Jqdo p) [])
@[simp] theorem Jedd {p : Nums} : EqI (Jqdd p) (.region (Jqdo p) []) := eqi
@[simp] def Jqdp (p : Nums) : List IOp := [qo 21 (.mov (.t 0)), qo 22 (.iaddr 2 (.t 21) (ci 0)), qo 23 (.load (some 2) (.t 22)), qo 6 (.alloc [(zi 0), (zi 0)]), qn (.store 2 (.t 6) (.t 23))]
def Jqde (p : Nums) : IC := (.region (Jqdp p) [])
@[simp] theorem Jede {p : Nums} : EqI (Jqde p) (.region (Jqdp p) []) := eqi
@[simp] def Jqdq (p : Nums) : List IOp := [qp 24 (.mov (.t 1)), qp 25 (.iaddr 2 (.t 24) (ci 0)), qp 26 (.load (some 2) (.t 25)), qp 27 (.load (some 2) (.t 6)), qo 28 (.call p.pairset_Less [(.t 26), (.t 27)])]
def Jqdf (p : Nums) : IC := (.region (Jqdq p) [])
@[simp] theorem Jedf {p : Nums} : EqI (Jqdf p) (.region (Jqdq p) []) := eqi
@[simp] def Jqdr (p : Nums) : List IOp := [qo 29 (.mov (.t 1)), qo 30 (.iaddr 2 (.t 29) (ci 0)), qo 31 (.load (some 2) (.t 30)), qn (.store 2 (.t 6) (.t 31))]
def Jqdg (p : Nums) : IC := (.region (Jqdr p) [])
@[simp] theorem Jedg {p : Nums} : EqI (Jqdg p) (.region (Jqdr p) []) := eqi
@[simp] def Jqds (p : Nums) : List IOp := [qo 32 (.mov (.t 5)), qo 33 (.load (some 2) (.t 6)), qo 34 (.bslice 2 1 [(.int .i64 0), (.int .i64 0)] [(0, (.t 33))]), qo 35 (.app 2 16 (.t 32) (.t 34)), qo 5 (.asg (.t 35))]
def Jqdh (p : Nums) : IC := (.region (Jqds p) [])
@[simp] theorem Jedh {p : Nums} : EqI (Jqdh p) (.region (Jqds p) []) := eqi
@[simp] def Jqdt (p : Nums) : List IOp := [qp 36 (.mov (.t 0)), qp 37 (.iaddr 2 (.t 36) (ci 0)), qp 38 (.load (some 2) (.t 37)), qp 39 (.load (some 2) (.t 6)), qo 40 (.eqs false [.int, .int] (.t 38) (.t 39))]
def Jqdi (p : Nums) : IC := (.region (Jqdt p) [])
@[simp] theorem Jedi {p : Nums} : EqI (Jqdi p) (.region (Jqdt p) []) := eqi
@[simp] def Jqdu (p : Nums) : List IOp := [qo 41 (.mov (.t 0)), qo 42 (.slc 2 (.t 41) (some (ci 1)) none), qo 0 (.asg (.t 42))]
def Jqdj (p : Nums) : IC := (.region (Jqdu p) [])
@[simp] theorem Jedj {p : Nums} : EqI (Jqdj p) (.region (Jqdu p) []) := eqi
@[simp] def Jqdv (p : Nums) : List IOp := [qp 43 (.mov (.t 1)), qp 44 (.iaddr 2 (.t 43) (ci 0)), qp 45 (.load (some 2) (.t 44)), qp 46 (.load (some 2) (.t 6)), qo 47 (.eqs false [.int, .int] (.t 45) (.t 46))]
def Jqdk (p : Nums) : IC := (.region (Jqdv p) [])
@[simp] theorem Jedk {p : Nums} : EqI (Jqdk p) (.region (Jqdv p) []) := eqi
@[simp] def Jqdm (p : Nums) : List IOp := [qo 48 (.mov (.t 1)), qo 49 (.slc 2 (.t 48) (some (ci 1)) none), qo 1 (.asg (.t 49))]
def Jqd9 (p : Nums) : IC := (.region (Jqdm p) [])
@[simp] theorem Jed9 {p : Nums} : EqI (Jqd9 p) (.region (Jqdm p) []) := eqi
def Jqda (p : Nums) : IC := (.seq (Jqde p) (.seq (.seq (Jqdf p) (.cond (.t 28) (Jqdg p) .skip)) (.seq (Jqdh p) (.seq (.seq (Jqdi p) (.cond (.t 40) (Jqdj p) .skip)) (.seq (Jqdk p) (.cond (.t 47) (Jqd9 p) .skip))))))
@[simp] theorem Jeda {p : Nums} : EqI (Jqda p) (.seq (Jqde p) (.seq (.seq (Jqdf p) (.cond (.t 28) (Jqdg p) .skip)) (.seq (Jqdh p) (.seq (.seq (Jqdi p) (.cond (.t 40) (Jqdj p) .skip)) (.seq (Jqdk p) (.cond (.t 47) (Jqd9 p) .skip)))))) := eqi
def Jqdb (p : Nums) : IC := (.seq (.seq (Jqdd p) (.cond (.t 20) .skip (.exit 0))) (.block 1 (Jqda p)))
@[simp] theorem Jedb {p : Nums} : EqI (Jqdb p) (.seq (.seq (Jqdd p) (.cond (.t 20) .skip (.exit 0))) (.block 1 (Jqda p))) := eqi
@[simp] def Jqdn (p : Nums) : List IOp := [qo 50 (.mov (.t 5)), qo 51 (.mov (.t 0)), qo 52 (.app 2 16 (.t 50) (.t 51)), qo 53 (.mov (.t 1)), qo 54 (.app 2 16 (.t 52) (.t 53)), qo 4 (.asg (.t 54))]
def Jqdc (p : Nums) : IC := (.region (Jqdn p) [])
@[simp] theorem Jedc {p : Nums} : EqI (Jqdc p) (.region (Jqdn p) []) := eqi
def Jtb5 (p : Nums) : IC := (.seq (.region [⟨(some 4), (.asg (.c .nils)), none, false⟩] []) (.seq (Jqd8 p) (.seq (.block 0 (.loop (Jqdb p))) (.seq (Jqdc p) .ret))))
@[simp] def Jqe3 (p : Nums) : List IOp := [qo 8 (.mov (.t 0)), qo 9 (.len (.t 8)), qo 10 (.mkslice 2 16 [(.int .i64 0), (.int .i64 0)] (ci 0) (.t 9)), qo 5 (.take (.t 10))]
def Jqdw (p : Nums) : IC := (.region (Jqe3 p) [])
@[simp] theorem Jedw {p : Nums} : EqI (Jqdw p) (.region (Jqe3 p) []) := eqi
@[simp] def Jqe4 (p : Nums) : List IOp := [qo 11 (.mov (.t 0)), qo 12 (.len (.t 11)), qo 13 (.mov (ci 0))]
def Jqdx (p : Nums) : IC := (.region (Jqe4 p) [])
@[simp] theorem Jedx {p : Nums} : EqI (Jqdx p) (.region (Jqe4 p) []) := eqi
@[simp] def Jqe5 (p : Nums) : List IOp := [qo 15 (.iaddr 2 (.t 11) (.t 13)), qo 16 (.load (some 2) (.t 15)), qo 7 (.alloc [(zi 0), (zi 0)]), qn (.store 2 (.t 7) (.t 16))]
def Jqdy (p : Nums) : IC := (.region (Jqe5 p) [])
@[simp] theorem Jedy {p : Nums} : EqI (Jqdy p) (.region (Jqe5 p) []) := eqi
@[simp] def Jqe6 (p : Nums) : List IOp := [qo 17 (.mov (.t 1)), qo 18 (.load (some 2) (.t 7)), qo 19 (.callv (.t 17) [(.t 18)])]
def Jqdz (p : Nums) : IC := (.region (Jqe6 p) [])
@[simp] theorem Jedz {p : Nums} : EqI (Jqdz p) (.region (Jqe6 p) []) := eqi
@[simp] def Jqe7 (p : Nums) : List IOp := [qo 20 (.mov (.t 5)), qo 21 (.load (some 2) (.t 7)), qo 22 (.bslice 2 1 [(.int .i64 0), (.int .i64 0)] [(0, (.t 21))]), qo 23 (.app 2 16 (.t 20) (.t 22)), qo 5 (.take (.t 23))]
def Jqe0 (p : Nums) : IC := (.region (Jqe7 p) [])
@[simp] theorem Jee0 {p : Nums} : EqI (Jqe0 p) (.region (Jqe7 p) []) := eqi
def Jqe1 (p : Nums) : IC := (.seq (Jqdy p) (.seq (Jqdz p) (.cond (.t 19) (Jqe0 p) .skip)))
@[simp] theorem Jee1 {p : Nums} : EqI (Jqe1 p) (.seq (Jqdy p) (.seq (Jqdz p) (.cond (.t 19) (Jqe0 p) .skip))) := eqi
def Jqe2 (p : Nums) : IC := (.seq (.region [⟨(some 14), (.bin .lss (.t 13) (.t 12)), none, false⟩] []) (.seq (.cond (.t 14) .skip (.exit 0)) (.seq (.block 1 (Jqe1 p)) (.region [⟨(some 24), (.bin .add (.t 13) (.c (.d (.int .i64 1)))), none, false⟩, ⟨(some 13), (.mov (.t 24)), none, false⟩] []))))
@[simp] theorem Jee2 {p : Nums} : EqI (Jqe2 p) (.seq (.region [⟨(some 14), (.bin .lss (.t 13) (.t 12)), none, false⟩] []) (.seq (.cond (.t 14) .skip (.exit 0)) (.seq (.block 1 (Jqe1 p)) (.region [⟨(some 24), (.bin .add (.t 13) (.c (.d (.int .i64 1)))), none, false⟩, ⟨(some 13), (.mov (.t 24)), none, false⟩] [])))) := eqi
def Jtb6 (p : Nums) : IC := (.seq (.region [⟨(some 4), (.asg (.c .nils)), none, false⟩] []) (.seq (Jqdw p) (.seq (.seq (Jqdx p) (.block 0 (.loop (Jqe2 p)))) (.seq (.region [⟨(some 25), (.mov (.t 5)), none, false⟩, ⟨(some 4), (.take (.t 25)), none, false⟩] []) .ret))))
@[simp] def Jqc8 (p : Nums) : List IOp := [qo 4 (.faddr 0 (.t 2)), qo 5 (.load none (.t 4)), qo 6 (.load none (.t 1)), qo 7 (.bin .neq (.t 5) (.t 6)), qo 3 (.asg (.t 7))]
def Jqc7 (p : Nums) : IC := (.region (Jqc8 p) [])
@[simp] theorem Jec7 {p : Nums} : EqI (Jqc7 p) (.region (Jqc8 p) []) := eqi
def Jtb0 (p : Nums) : IC := (.seq (.region [⟨(some 2), (.box (.t 0)), none, false⟩, ⟨(some 3), (.asg (.c (.d (.bool false)))), none, false⟩] []) (.seq (Jqc7 p) .ret))
@[simp] def Jqc4 (p : Nums) : List IOp := [qo 4 (.faddr 1 (.t 2)), qo 5 (.load none (.t 4)), qo 6 (.load none (.t 1)), qo 7 (.bin .neq (.t 5) (.t 6)), qo 3 (.asg (.t 7))]
def Jqc3 (p : Nums) : IC := (.region (Jqc4 p) [])
@[simp] theorem Jec3 {p : Nums} : EqI (Jqc3 p) (.region (Jqc4 p) []) := eqi
def Jtay (p : Nums) : IC := (.seq (.region [⟨(some 2), (.box (.t 0)), none, false⟩, ⟨(some 3), (.asg (.c (.d (.bool false)))), none, false⟩] []) (.seq (Jqc3 p) .ret))
@[simp] def Jqbx (p : Nums) : List IOp := [qo 7 (.mov (.t 0)), qo 8 (.load (some 2) (.t 3)), qo 9 (.call p.pairset_find [(.t 7), (.t 8)]), qo 5 (.asg (.t 9))]
def Jqbr (p : Nums) : IC := (.region (Jqbx p) [])
@[simp] theorem Jebr {p : Nums} : EqI (Jqbr p) (.region (Jqbx p) []) := eqi
@[simp] def Jqby (p : Nums) : List IOp := [qo 10 (.mov (.t 0)), qo 11 (.len (.t 10)), qo 12 (.bin .add (.t 11) (ci 1)), qo 13 (.mkslice 2 16 [(.int .i64 0), (.int .i64 0)] (ci 0) (.t 12)), qo 6 (.asg (.t 13))]
def Jqbs (p : Nums) : IC := (.region (Jqby p) [])
@[simp] theorem Jebs {p : Nums} : EqI (Jqbs p) (.region (Jqby p) []) := eqi
@[simp] def Jqbz (p : Nums) : List IOp := [qp 14 (.mov (.t 6)), qp 15 (.mov (.t 0)), qp 16 (.mov (.t 5)), qp 17 (.slc 2 (.t 15) none (some (.t 16))), qp 18 (.appq 2 16 (.t 14) (.t 17) 6), qp 19 (.load (some 2) (.t 3)), qp 20 (.bslice 2 1 [(.int .i64 0), (.int .i64 0)] [(0, (.t 19))]), qo 21 (.app 2 16 (.t 18) (.t 20)), qo 6 (.asg (.t 21))]
def Jqbt (p : Nums) : IC := (.region (Jqbz p) [41])
@[simp] theorem Jebt {p : Nums} : EqI (Jqbt p) (.region (Jqbz p) [41]) := eqi
@[simp] def Jqc0 (p : Nums) : List IOp := [qp 22 (.mov (.t 5)), qp 23 (.mov (.t 0)), qp 24 (.len (.t 23)), qo 25 (.bin .lss (.t 22) (.t 24)), qo 26 (.mov (.t 25)), ⟨(some 27), (.mov (.t 0)), (some (26, true)), true⟩, ⟨(some 28), (.mov (.t 5)), (some (26, true)), true⟩, ⟨(some 29), (.iaddr 2 (.t 27) (.t 28)), (some (26, true)), true⟩, ⟨(some 30), (.load (some 2) (.t 29)), (some (26, true)), true⟩, ⟨(some 31), (.load (some 2) (.t 3)), (some (26, true)), true⟩, ⟨(some 32), (.eqs false [.int, .int] (.t 30) (.t 31)), (some (26, true)), false⟩, qo 33 (.pick (.t 26) (.t 32) (.c (.d (.bool false))))]
def Jqbu (p : Nums) : IC := (.region (Jqc0 p) [])
@[simp] theorem Jebu {p : Nums} : EqI (Jqbu p) (.region (Jqc0 p) []) := eqi
@[simp] def Jqc1 (p : Nums) : List IOp := [qo 34 (.mov (.t 5)), qo 35 (.bin .add (.t 34) (ci 1)), qo 5 (.asg (.t 35))]
def Jqbv (p : Nums) : IC := (.region (Jqc1 p) [])
@[simp] theorem Jebv {p : Nums} : EqI (Jqbv p) (.region (Jqc1 p) []) := eqi
@[simp] def Jqc2 (p : Nums) : List IOp := [qo 36 (.mov (.t 6)), qo 37 (.mov (.t 0)), qo 38 (.mov (.t 5)), qo 39 (.slc 2 (.t 37) (some (.t 38)) none), qo 40 (.app 2 16 (.t 36) (.t 39)), qo 4 (.asg (.t 40))]
def Jqbw (p : Nums) : IC := (.region (Jqc2 p) [])
@[simp] theorem Jebw {p : Nums} : EqI (Jqbw p) (.region (Jqc2 p) []) := eqi
def Jtaw (p : Nums) : IC := (.seq (.region [⟨(some 3), (.box (.t 1)), none, false⟩, ⟨(some 4), (.asg (.c .nils)), none, false⟩] []) (.seq (Jqbr p) (.seq (Jqbs p) (.seq (Jqbt p) (.seq (.seq (Jqbu p) (.cond (.t 33) (Jqbv p) .skip)) (.seq (Jqbw p) .ret))))))
@[simp] def Jq2z (p : Nums) : List IOp := [qo 5 (.box (.t 1)), qo 6 (.box (.t 2)), qo 8 (.alloc [(zi 0)]), qo 9 (.alloc [(zi 0)])]
def Jq2y (p : Nums) : IC := (.region (Jq2z p) [])
@[simp] theorem Je2y {p : Nums} : EqI (Jq2y p) (.region (Jq2z p) []) := eqi
def Jt9x (p : Nums) : IC := (Jq2y p)
@[simp] def Jq3f (p : Nums) : List IOp := [qo 13 (.mov (.t 3)), qo 14 (.len (.t 13)), qo 15 (.mov (ci 0))]
def Jq37 (p : Nums) : IC := (.region (Jq3f p) [])
@[simp] theorem Je37 {p : Nums} : EqI (Jq37 p) (.region (Jq3f p) []) := eqi
@[simp] def Jq3g (p : Nums) : List IOp := [qo 17 (.iaddr 6 (.t 13) (.t 15)), qo 18 (.load (some 6) (.t 17)), qo 11 (.alloc [(zi 0), (zi 0), (zi 0), (zi 0), (zi 0), (zi 0)]), qn (.store 6 (.t 11) (.t 18))]
def Jq38 (p : Nums) : IC := (.region (Jq3g p) [])
@[simp] theorem Je38 {p : Nums} : EqI (Jq38 p) (.region (Jq3g p) []) := eqi
@[simp] def Jq3h (p : Nums) : List IOp := [qo 19 (.mov (.t 0)), qo 20 (.load (some 5) (.t 5)), qo 21 (.load (some 5) (.t 6)), qo 22 (.load (some 6) (.t 11)), qo 23 (.call p.blockcheck_checker_row [(.t 19), (.t 20), (.t 21), (.t 22)])]
def Jq39 (p : Nums) : IC := (.region (Jq3h p) [])
@[simp] theorem Je39 {p : Nums} : EqI (Jq39 p) (.region (Jq3h p) []) := eqi
def Jq3a (p : Nums) : IC := (.seq (Jq38 p) (Jq39 p))
@[simp] theorem Je3a {p : Nums} : EqI (Jq3a p) (.seq (Jq38 p) (Jq39 p)) := eqi
def Jq3b (p : Nums) : IC := (.seq (.region [⟨(some 16), (.bin .lss (.t 15) (.t 14)), none, false⟩] []) (.seq (.cond (.t 16) .skip (.exit 0)) (.seq (.block 1 (Jq3a p)) (.region [⟨(some 24), (.bin .add (.t 15) (.c (.d (.int .i64 1)))), none, false⟩, ⟨(some 15), (.mov (.t 24)), none, false⟩] []))))
@[simp] theorem Je3b {p : Nums} : EqI (Jq3b p) (.seq (.region [⟨(some 16), (.bin .lss (.t 15) (.t 14)), none, false⟩] []) (.seq (.cond (.t 16) .skip (.exit 0)) (.seq (.block 1 (Jq3a p)) (.region [⟨(some 24), (.bin .add (.t 15) (.c (.d (.int .i64 1)))), none, false⟩, ⟨(some 15), (.mov (.t 24)), none, false⟩] [])))) := eqi
@[simp] def Jq3i (p : Nums) : List IOp := [qo 25 (.faddr 1 (.t 5)), qo 26 (.faddr 0 (.t 25)), qo 27 (.load none (.t 26)), qo 28 (.bin .neq (.t 27) (ci 1))]
def Jq3c (p : Nums) : IC := (.region (Jq3i p) [])
@[simp] theorem Je3c {p : Nums} : EqI (Jq3c p) (.region (Jq3i p) []) := eqi
@[simp] def Jq3j (p : Nums) : List IOp := [qo 29 (.mov (.t 0)), qo 30 (.faddr 1 (.t 5)), qo 31 (.faddr 1 (.t 30)), qo 32 (.load none (.t 31)), qo 33 (.faddr 1 (.t 6)), qo 34 (.faddr 1 (.t 33)), qo 35 (.load none (.t 34)), qo 36 (.faddr 0 (.t 6)), qo 37 (.load none (.t 36)), qo 38 (.len (.t 37)), qo 39 (.call p.blockcheck_checker_use [(.t 29), (.t 32), (.t 35), (.t 38)])]
def Jq3d (p : Nums) : IC := (.region (Jq3j p) [])
@[simp] theorem Je3d {p : Nums} : EqI (Jq3d p) (.region (Jq3j p) []) := eqi
@[simp] def Jq3k (p : Nums) : List IOp := [qp 40 (.faddr 0 (.t 6)), qp 41 (.load none (.t 40)), qp 42 (.len (.t 41)), qm (.storeq 1 (.t 8) (ci 0) [(40, 1)]), qn (.store 1 (.t 9) (.t 42))]
def Jq3e (p : Nums) : IC := (.region (Jq3k p) [])
@[simp] theorem Je3e {p : Nums} : EqI (Jq3e p) (.region (Jq3k p) []) := eqi
def Jt9z (p : Nums) : IC := (.seq (.seq (Jq37 p) (.block 0 (.loop (Jq3b p)))) (.seq (.seq (Jq3c p) (.cond (.t 28) (Jq3d p) .skip)) (.seq (Jq3e p) .ret)))
@[simp] def Jq34 (p : Nums) : List IOp := [qo 9 (.mov (.t 2)), qo 10 (.tas p.ty_bcfail (.t 9)), qo 8 (.mov (.t 10)), qo 11 (.ext (.t 8) 0), qo 12 (.ext (.t 8) 1), qo 3 (.alloc [(zi 0), (zi 0)]), qn (.store 2 (.t 3) (.t 11)), qo 4 (.asg (.t 12))]
def Jq30 (p : Nums) : IC := (.region (Jq34 p) [])
@[simp] theorem Je30 {p : Nums} : EqI (Jq30 p) (.region (Jq34 p) []) := eqi
@[simp] def Jq35 (p : Nums) : List IOp := [qo 15 (.mov (.t 2)), qn (.pan (.t 15))]
def Jq31 (p : Nums) : IC := (.region (Jq35 p) [])
@[simp] theorem Je31 {p : Nums} : EqI (Jq31 p) (.region (Jq35 p) []) := eqi
@[simp] def Jq36 (p : Nums) : List IOp := [qp 16 (.faddr 0 (.t 3)), qp 17 (.load none (.t 16)), qp 18 (.faddr 1 (.t 3)), qp 19 (.load none (.t 18)), qm (.storeq 1 (.t 0) (.t 17) [(18, 1)]), qn (.store 1 (.t 1) (.t 19))]
def Jq32 (p : Nums) : IC := (.region (Jq36 p) [])
@[simp] theorem Je32 {p : Nums} : EqI (Jq32 p) (.region (Jq36 p) []) := eqi
def Jq33 (p : Nums) : IC := (.seq (Jq30 p) (.seq (.seq (.region [⟨(some 13), (.mov (.t 4)), none, false⟩, ⟨(some 14), (.un .not (.t 13)), none, false⟩] []) (.cond (.t 14) (Jq31 p) .skip)) (Jq32 p)))
@[simp] theorem Je33 {p : Nums} : EqI (Jq33 p) (.seq (Jq30 p) (.seq (.seq (.region [⟨(some 13), (.mov (.t 4)), none, false⟩, ⟨(some 14), (.un .not (.t 13)), none, false⟩] []) (.cond (.t 14) (Jq31 p) .skip)) (Jq32 p))) := eqi
def Jt9y (p : Nums) : IC := (.seq (.region [⟨(some 6), (.mov (.t 2)), none, false⟩, ⟨(some 7), (.isnif true (.t 6)), none, false⟩] []) (.cond (.t 7) (Jq33 p) .skip))
structure All (P : Program) (p : Nums) : Prop where
 law16_CheckerKeeps : Has P p.law16_CheckerKeeps 1 [(.tmp 2)] (Jtab p)
 law16_awake : Has P p.law16_awake 0 [(.tmp 0)] (Jtac p)
 ref16_Few : Has P p.ref16_Few 1 [(.tmp 2)] (Jtbk p)
 checker_Valid : Has P p.checker_Valid 1 [(.tmp 2)] (Jta3 p)
 checker_Check : Has P p.checker_Check 1 [(.cell 2 (some 7))] (Jta2 p)
 checker_Bound : Has P p.checker_Bound 2 [(.tmp 4)] (Jta1 p)
 ref16_Copy : Has P p.ref16_Copy 1 [(.cell 2 (some 8))] (Jtbj p)
 ref16_Same : Has P p.ref16_Same 2 [(.tmp 4)] (Jtbl p)
 ref07_Few : Has P p.ref07_Few 1 [(.tmp 2)] (Jtba p)
 ref07_Same : Has P p.ref07_Same 2 [(.tmp 4)] (Jtbb p)
 ref08_Few : Has P p.ref08_Few 1 [(.tmp 2)] (Jtbe p)
 ref15_Few : Has P p.ref15_Few 1 [(.tmp 2)] (Jtbh p)
 source_Check : Has P p.source_Check 1 [(.tmp 2)] (Jtbo p)
 machine_Check : Has P p.machine_Check 1 [(.tmp 2)] (Jtai p)
 edge_Valid : Has P p.edge_Valid 5 [(.tmp 10)] (Jta8 p)
 checker_begin : Has P p.checker_begin 1 [(.cell 2 (some 7))] (Jta4 p)
 blockcheck_Check : Has P p.blockcheck_Check 4 [(.cell 8 (some 5))] (Jt9s p)
 source_Successors : Has P p.source_Successors 1 [(.tmp 2)] (Jtbr p)
 edge_Implies : Has P p.edge_Implies 2 [(.cell 4 (some 2)), (.tmp 5)] (Jta6 p)
 source_Code : Has P p.source_Code 1 [(.tmp 2)] (Jtbp p)
 machine_Code : Has P p.machine_Code 1 [(.tmp 2)] (Jtaj p)
 ref07_Copy : Has P p.ref07_Copy 1 [(.cell 2 (some 3))] (Jtb9 p)
 ref08_Copy : Has P p.ref08_Copy 1 [(.cell 2 (some 4))] (Jtbd p)
 ref08_Same : Has P p.ref08_Same 2 [(.tmp 4)] (Jtbf p)
 ref15_Same : Has P p.ref15_Same 2 [(.tmp 4)] (Jtbi p)
 ref07_Code : Has P p.ref07_Code 1 [(.tmp 2)] (Jtb8 p)
 ref08_Code : Has P p.ref08_Code 1 [(.tmp 2)] (Jtbc p)
 source_block : Has P p.source_block 3 [(.tmp 6)] (Jtbu p)
 machine_block : Has P p.machine_block 2 [(.tmp 4)] (Jtal p)
 edge_total : Has P p.edge_total 1 [(.tmp 2)] (Jtaa p)
 edge_pairs : Has P p.edge_pairs 4 [(.tmp 8)] (Jta9 p)
 edge_Entry : Has P p.edge_Entry 2 [(.cell 4 (some 2)), (.tmp 5)] (Jta5 p)
 align_Code : Has P p.align_Code 2 [(.tmp 4), (.tmp 5), (.tmp 6)] (Jt9l p)
 align_Terms : Has P p.align_Terms 2 [(.tmp 4)] (Jt9n p)
 pairset_Make : Has P p.pairset_Make 1 [(.tmp 2)] (Jtb3 p)
 blockcheck_checker_run : HasD P p.blockcheck_checker_run 4 [(.cell 8 none), (.cell 9 none)] (Jt9x p) (Jt9z p) 12 p.blockcheck_checker_run_1 [8, 9] (Jt9y p) 5 2
 pairset_Missing : Has P p.pairset_Missing 2 [(.cell 4 (some 2)), (.tmp 5)] (Jtb4 p)
 ref11_Same : Has P p.ref11_Same 2 [(.tmp 4)] (Jtbg p)
 location_Slot : Has P p.location_Slot 1 [(.tmp 2)] (Jtah p)
 source_Instr : Has P p.source_Instr 2 [(.tmp 4)] (Jtbq p)
 source_Term : Has P p.source_Term 3 [(.tmp 6)] (Jtbs p)
 machine_Instr : Has P p.machine_Instr 3 [(.tmp 6)] (Jtak p)
 location_InRange : Has P p.location_InRange 3 [(.tmp 6)] (Jtad p)
 pairset_Less : Has P p.pairset_Less 2 [(.tmp 4)] (Jtb2 p)
 edge_Initial : Has P p.edge_Initial 2 [(.tmp 4)] (Jta7 p)
 align_skip_Instr : Has P p.align_skip_Instr 3 [(.tmp 6)] (Jt9q p)
 align_copied : Has P p.align_copied 1 [(.tmp 2)] (Jt9o p)
 align_skip_Mach : Has P p.align_skip_Mach 3 [(.tmp 6)] (Jt9r p)
 align_moved : Has P p.align_moved 1 [(.tmp 2)] (Jt9p p)
 align_Same : Has P p.align_Same 2 [(.tmp 4)] (Jt9m p)
 slices_Clone_Pair : Has P p.slices_Clone_Pair 1 [(.tmp 2)] (Jtbm p)
 slices_Compact_Pair : Has P p.slices_Compact_Pair 1 [(.tmp 2)] (Jtbn p)
 blockcheck_checker_row : Has P p.blockcheck_checker_row 4 [] (Jt9w p)
 blockcheck_checker_use : Has P p.blockcheck_checker_use 4 [] (Jta0 p)
 opcode_Of : Has P p.opcode_Of 1 [(.cell 2 (some 4)), (.tmp 3)] (Jtat p)
 location_Reg : Has P p.location_Reg 1 [(.tmp 2)] (Jtag p)
 opcode_Source : Has P p.opcode_Source 1 [(.tmp 2)] (Jtau p)
 source_within : Has P p.source_within 1 [(.tmp 2)] (Jtbv p)
 source_blank : Has P p.source_blank 1 [(.tmp 2)] (Jtbt p)
 opcode_Machine : Has P p.opcode_Machine 1 [(.tmp 2)] (Jtas p)
 machine_others : Has P p.machine_others 0 [(.cell 0 (some 2))] (Jtap p)
 machine_moves : Has P p.machine_moves 0 [(.cell 0 (some 2))] (Jtam p)
 location_IsSlot : Has P p.location_IsSlot 1 [(.tmp 2)] (Jtaf p)
 location_Index : Has P p.location_Index 1 [(.tmp 2)] (Jtae p)
 blockcheck_checker_cost : Has P p.blockcheck_checker_cost 1 [] (Jt9u p)
 blockcheck_checker_become : Has P p.blockcheck_checker_become 3 [] (Jt9t p)
 transfer_Copy : Has P p.transfer_Copy 3 [(.tmp 6)] (Jtbw p)
 transfer_Move : Has P p.transfer_Move 3 [(.tmp 6)] (Jtby p)
 blockcheck_checker_instr : Has P p.blockcheck_checker_instr 4 [] (Jt9v p)
 pairset_Has : Has P p.pairset_Has 2 [(.tmp 4)] (Jtb1 p)
 opcode_known : Has P p.opcode_known 1 [(.tmp 2)] (Jtav p)
 machine_others_1 : Has P p.machine_others_1 3 [(.tmp 6)] (Jtaq p)
 machine_others_2 : Has P p.machine_others_2 1 [(.tmp 2)] (Jtar p)
 machine_moves_1 : Has P p.machine_moves_1 3 [(.tmp 6)] (Jtan p)
 machine_moves_2 : Has P p.machine_moves_2 1 [(.tmp 2)] (Jtao p)
 transfer_rename : Has P p.transfer_rename 3 [(.tmp 6)] (Jtbz p)
 pairset_DropV : Has P p.pairset_DropV 2 [(.tmp 4)] (Jtaz p)
 pairset_DropL : Has P p.pairset_DropL 2 [(.tmp 4)] (Jtax p)
 transfer_Define : Has P p.transfer_Define 3 [(.tmp 6)] (Jtbx p)
 pairset_find : Has P p.pairset_find 2 [(.tmp 4)] (Jtb7 p)
 pairset_Union : Has P p.pairset_Union 2 [(.tmp 4)] (Jtb5 p)
 pairset_filter : Has P p.pairset_filter 2 [(.tmp 4)] (Jtb6 p)
 pairset_DropV_1 : Has P p.pairset_DropV_1 2 [(.tmp 3)] (Jtb0 p)
 pairset_DropL_1 : Has P p.pairset_DropL_1 2 [(.tmp 3)] (Jtay p)
 pairset_Add : Has P p.pairset_Add 2 [(.tmp 4)] (Jtaw p)
end Go.AE
namespace Go.AE
open Go Go.Sort
theorem Jt60 {P : Program} {f : Nat} {args : List AV} {H : List Blk} {x : AV} (hx : ∀ e rows, x ≠ .own e rows) (hxv : ∀ org e rows, x ≠ .view org e rows)
  (hH : ∀ (b : Nat) (cells : List AV) (j e : Nat) (rows : List (List D)), H[b]? = some (Blk.mem cells) → cells[j]? ≠ some (AV.own e rows))
  (h : ∀ (g : Gh) (vs : Array Value) (w : World), vs.size = args.length → Sim args.length ⟨enum 0 args, H⟩ g ⟨vs, []⟩ w → ∃ v, (∀ F φ w, Rel F φ w x.erase v) ∧ Calls P f vs w fun e w' => e = .returned v ∧ ∃ q os, w' = grow (w.drewN q) os) :
  Jt3n P f args H fun o H' => o = .ret x ∧ H' = H := by
 intro g vs w hvs hs
 obtain ⟨v, hv, hc⟩ := h g vs w hvs hs
 refine hc.mono ?_
 rintro e w' ⟨rfl, q, os, rfl⟩
 have hheap : (grow (w.drewN q) os).heap = w.heap ++ os := rfl
 have hsame : ∀ r, r < w.heap.size → (grow (w.drewN q) os).heap[r]? = w.heap[r]? := by
  intro r hr; rw [hheap, Array.getElem?_append, if_pos hr]
 have hst : Stab g.F w g.F (grow (w.drewN q) os) := by
  refine ⟨fun _ _ => Nat.le_refl _, fun r j u hj hu => ?_, Jt6y hsame⟩
  have hlt := World.block_lt_of_cell? w ⟨r, j, none⟩ hu
  simp only [World.cell?] at hu ⊢
  rw [hsame r hlt]; exact hu
 have hno : ∀ p e rows, AP ⟨[(0, x)], H⟩ p ≠ some (.own e rows) := by
  intro p e rows hp
  cases p with
  | tmp t =>
   simp only [AP, get] at hp
   split at hp
   ·injection hp with hp; exact hx e rows hp
   ·cases hp
  | cell b j =>
   simp only [AP] at hp
   split at hp
   ·rename_i cells hb; exact hH b cells j e rows hb hp
   ·cases hp
 refine ⟨.ret x, H, g, v, ⟨rfl, rfl⟩, rfl, ?_, ⟨rfl, rfl, rfl, ?_, fun r hr _ => ⟨hsame r hr, rfl⟩, hst⟩, fun _ _ _ h => h, Nat.le_refl _, ?_⟩
 ·refine { size := by simp, env := ?_, inj := hs.inj, lt := ?_, dom := hs.dom, mem := ?_, iter := ?_, glob := ?_, own := ?_, excl := ?_, apart := ?_, view := ?_ }
  ·intro t y hy
   simp only [AOut.val, get] at hy
   split at hy
   ·rename_i h0; subst h0; injection hy with hy; subst hy; exact hv _ _ _
   ·cases hy
  ·intro b r hb
   obtain ⟨h1, h2, h3⟩ := hs.lt b r hb
   refine ⟨?_, h2, h3⟩
   rw [hheap]; simp only [Array.size_append]; omega
  ·intro b cells r hb hr
   obtain ⟨c, e, h1, h2, h3⟩ := hs.mem b cells r hb hr
   refine ⟨c, e, by rw [hsame r (hs.lt b r hr).1]; exact h1, h2, fun j y hy => ?_⟩
   obtain ⟨k1, u, k2, k3⟩ := h3 j y hy
   exact ⟨k1, u, k2, k3.stab hst fun _ _ h => h⟩
  ·intro b s pos r hb hr
   rw [hsame r (hs.lt b r hr).1]; exact hs.iter b s pos r hb hr
  ·intro b s pos r hb hr
   rw [hsame r (hs.lt b r hr).1]; exact hs.glob b s pos r hb hr
  ·exact fun p e rows v hp _ => absurd hp (hno p e rows)
  ·rintro p p' r ⟨e, rows, _, hp, _⟩; exact absurd hp (hno p e rows)
  ·rintro p r b ⟨e, rows, _, hp, _⟩; exact absurd hp (hno p e rows)
  ·intro t org e rows hy
   simp only [AOut.val, get] at hy
   split at hy
   ·injection hy with hy; exact absurd hy (hxv org e rows)
   ·cases hy
 ·rw [hheap]; simp only [Array.size_append]; exact Nat.le_add_right _ _
 ·rintro r (⟨b, hb⟩ | ⟨p, e, rows, _, hp, _⟩)
  ·exact .inl (.inl ⟨b, hb⟩)
  ·exact absurd hp (hno p e rows)
abbrev I (n : Int) : D := .int .i64 n
abbrev AI (n : Int) : AV := .d (.int .i64 n)
abbrev AB (b : Bool) : AV := .d (.bool b)
structure Pair where (v l : Int)
 deriving DecidableEq, Inhabited
def Pair.row (q : Pair) : List D := [I q.v, I q.l]
def Pair.av (q : Pair) : AV := .agg [AI q.v, AI q.l]
def pairsD (l : List Pair) : D := .sl (l.map Pair.row)
theorem HasL.cons_inv {l : LT} {ls : List LT} {ds : List D} (h : HasL (l :: ls) ds) : ∃ d ds', ds = d :: ds' ∧ HasT l d ∧ HasL ls ds' := by
 obtain ⟨h1, h2⟩ := h
 cases ds with
 | nil => simp at h1
 | cons d ds => exact ⟨d, ds, rfl, h2 0 l d rfl rfl, by simpa using h1, fun j l' x a b => h2 (j + 1) l' x (by simpa using a) (by simpa using b)⟩
theorem HasL.nil_inv {ds : List D} (h : HasL [] ds) : ds = [] := by
 have := h.1; simpa using this
theorem HasT.int_inv {k : IntKind} {d : D} (h : HasT (.int k) d) : ∃ n, d = .int k n ∧ (Lit.int k n).wf = true := by
 cases h with
 | int _ n h => exact ⟨n, rfl, h⟩
theorem HasT.sl_inv {ls : List LT} {d : D} (h : HasT (.sl ls) d) : ∃ rows, d = .sl rows ∧ rows.length ≤ maxLen ∧ ∀ r ∈ rows, HasL ls r := by
 cases h with
 | sl _ rows hl h0 h => exact ⟨rows, rfl, hl, fun r hr => ⟨h0 r hr, h r hr⟩⟩
theorem Jti9 {α : Type} {g : α → List D} {Q : List D → Prop} (h : ∀ r, Q r → ∃ x, r = g x) : ∀ {rows : List (List D)}, (∀ r ∈ rows, Q r) → ∃ l : List α, rows = l.map g := by
 intro rows
 induction rows with
 | nil => intro _; exact ⟨[], rfl⟩
 | cons r rows ih =>
  intro hq
  obtain ⟨x, rfl⟩ := h r (hq r (by simp))
  obtain ⟨l, rfl⟩ := ih fun r hr => hq r (by simp [hr])
  exact ⟨x :: l, rfl⟩
def ltI : LT := .int .i64
def ltPair : List LT := [ltI, ltI]
def lessP (a b : Pair) : Bool := if a.v = b.v then decide (a.l < b.l) else decide (a.v < b.v)
theorem Jtcu {a b : Pair} : lessP a b = true ↔ a.v < b.v ∨ (a.v = b.v ∧ a.l < b.l) := by
 unfold lessP; split <;> simp <;> omega
theorem Jtcx {a b : Pair} (h1 : lessP a b = false) (h2 : lessP b a = false) : a = b := by
 have h1 : ¬ lessP a b = true := by simp [h1]
 have h2 : ¬ lessP b a = true := by simp [h2]
 rw [Jtcu] at h1 h2
 obtain ⟨a1, a2⟩ := a; obtain ⟨b1, b2⟩ := b
 simp only [Pair.mk.injEq]; simp only at h1 h2; omega
theorem Jtcy {a b c : Pair} (h1 : lessP a b = true) (h2 : lessP b c = true) : lessP a c = true := by
 rw [Jtcu] at *; omega
theorem Jtcv (a : Pair) : lessP a a = false := by
 cases h : lessP a a with
 | false => rfl
 | true => rw [Jtcu] at h; omega
theorem Jtct {a b : Pair} (h1 : lessP a b = true) : lessP b a = false := by
 cases h : lessP b a with
 | false => rfl
 | true => have := Jtcy h1 h; rw [Jtcv] at this; cases this
def stepA (p : Pair) (s : List Pair × Bool) (q : Pair) : List Pair × Bool :=
 let s := if s.2 = false ∧ lessP q p = false then (s.1 ++ [p], true) else s
 if q = p then s else (s.1 ++ [q], s.2)
def foldA (p : Pair) (l : List Pair) : List Pair × Bool := l.foldl (stepA p) ([], false)
def addP (l : List Pair) (p : Pair) : List Pair := if (foldA p l).2 = true then (foldA p l).1 else (foldA p l).1 ++ [p]
def makeP (l : List Pair) : List Pair := l.foldl addP []
def missP (a b : List Pair) : Option Pair := a.find? fun q => !decide (q ∈ b)
theorem Jt7p {a b : Pair} (h1 : a.v = b.v) (h2 : a.l = b.l) : a = b := by cases a; cases b; simp_all
theorem Jtfq (a b : Pair) : (decide (a.v = b.v) && decide (a.l = b.l)) = decide (a = b) := by
 by_cases h : a = b
 ·subst h; simp
 ·rw [decide_eq_false h]
  cases h1 : decide (a.v = b.v) <;> cases h2 : decide (a.l = b.l) <;> simp_all
  exact h (Jt7p h1 h2)
theorem Jtfp (a b : Pair) : (a.v == b.v && a.l == b.l) = decide (a = b) := by
 rw [← Jtfq]; rfl
def Srt (l : List Pair) : Prop := l.Pairwise fun a b => lessP a b = true
theorem Jtjx {a : Pair} {l : List Pair} : Srt (a :: l) ↔ (∀ b ∈ l, lessP a b = true) ∧ Srt l := List.pairwise_cons
theorem Jtk2 {l : List Pair} (h : Srt l) {i j : Nat} (hij : i < j) (hj : j < l.length) : lessP (l[i]'(by omega)) l[j] = true := List.pairwise_iff_getElem.1 h i j (by omega) hj hij
theorem Jtjw {l : List Pair} : Srt l ↔ ∀ k, (h : k + 1 < l.length) → lessP (l[k]) (l[k+1]) = true := by
 constructor
 ·intro h k hk; exact Jtk2 h (by omega) hk
 ·intro h
  refine List.pairwise_iff_getElem.2 fun i j hi hj hij => ?_
  obtain ⟨n, rfl⟩ : ∃ n, j = i + 1 + n := ⟨j - (i + 1), by omega⟩
  induction n with
  | zero => exact h i hj
  | succ n ih => exact Jtcy (ih (by omega) (by omega)) (h (i + 1 + n) (by omega))
theorem Jtk0 : ∀ {a b : List Pair}, Srt a → Srt b → (∀ q, q ∈ a ↔ q ∈ b) → a = b := by
 intro a
 induction a with
 | nil =>
  intro b _ _ h
  cases b with
  | nil => rfl
  | cons y b => have := (h y).2 (by simp); cases this
 | cons x a ih =>
  intro b ha hb h
  cases b with
  | nil => have := (h x).1 (by simp); cases this
  | cons y b =>
   rw [Jtjx] at ha hb
   have exy : x = y := by
    have h1 := (h x).1 (by simp)
    have h2 := (h y).2 (by simp)
    rw [List.mem_cons] at h1 h2
    rcases h1 with h1 | h1
    ·exact h1
    ·rcases h2 with h2 | h2
     ·exact h2.symm
     ·have := Jtct (hb.1 x h1); rw [ha.1 y h2] at this; cases this
   subst exy
   have : a = b := by
    refine ih ha.2 hb.2 fun q => ?_
    have hq := h q
    rw [List.mem_cons, List.mem_cons] at hq
    constructor
    ·intro hqa
     rcases hq.1 (.inr hqa) with e | e
     ·subst e; have := ha.1 q hqa; rw [Jtcv] at this; cases this
     ·exact e
    ·intro hqb
     rcases hq.2 (.inr hqb) with e | e
     ·subst e; have := hb.1 q hqb; rw [Jtcv] at this; cases this
     ·exact e
   rw [this]
def posP (l : List Pair) (p : Pair) : Nat := (l.takeWhile fun q => lessP q p).length
def insP (l : List Pair) (p : Pair) : List Pair := (l.takeWhile fun q => lessP q p) ++ p :: (l.dropWhile fun q => lessP q p).filter fun q => decide (q ≠ p)
theorem Jtcw {a b : Pair} (h : lessP a b = true) : a ≠ b := by rintro rfl; rw [Jtcv] at h; cases h
theorem Jt8l (p : Pair) (l out : List Pair) : l.foldl (stepA p) (out, true) = (out ++ l.filter (fun q => decide (q ≠ p)), true) := by
 induction l generalizing out with
 | nil => simp
 | cons q l ih =>
  by_cases e : q = p
  ·simp [stepA, e, ih]
  ·simp [stepA, e, ih]
theorem Jt8m (p : Pair) (l out : List Pair) : l.foldl (stepA p) (out, false) = if (l.dropWhile fun q => lessP q p) = [] then (out ++ l, false) else (out ++ insP l p, true) := by
 induction l generalizing out with
 | nil => simp
 | cons q l ih =>
  cases h : lessP q p with
  | true =>
   have hne := Jtcw h
   simp only [List.foldl_cons, stepA, h, hne, if_false, and_false, ih, List.dropWhile_cons, if_true, Bool.true_eq_false, insP, List.takeWhile_cons]
   split <;> simp [List.append_assoc]
  | false =>
   simp only [List.foldl_cons, stepA, h, and_self, if_true, List.dropWhile_cons, Bool.false_eq_true, if_false, reduceCtorEq, insP, List.takeWhile_cons, List.nil_append]
   by_cases e : q = p
   ·simp [e, Jt8l]
   ·simp [e, Jt8l]
theorem Jt4d (l : List Pair) (p : Pair) : addP l p = insP l p := by
 unfold addP foldA
 rw [Jt8m]
 split
 ·rename_i h
  simp only [List.nil_append, Bool.false_eq_true, if_false, insP, h, List.filter_nil]
  have : l.takeWhile (fun q => lessP q p) = l := by
   have e := List.takeWhile_append_dropWhile (p := fun q => lessP q p) (l := l)
   rw [h, List.append_nil] at e; exact e
  rw [this]
 ·simp
theorem Jte3 {l : List Pair} {p q : Pair} : q ∈ addP l p ↔ q = p ∨ q ∈ l := by
 rw [Jt4d, insP]
 have e := List.takeWhile_append_dropWhile (p := fun q => lessP q p) (l := l)
 have e2 : q ∈ l ↔ q ∈ l.takeWhile (fun q => lessP q p) ∨ q ∈ l.dropWhile (fun q => lessP q p) := by
  rw [← List.mem_append, e]
 simp only [List.mem_append, List.mem_cons, List.mem_filter, decide_eq_true_eq, e2]
 by_cases h : q = p <;> simp [h]
theorem Jt7a {l : List Pair} {p : Pair} (h : Srt l) : ∀ q ∈ l.dropWhile (fun q => lessP q p), lessP q p = false := by
 induction l with
 | nil => intro q hq; simp at hq
 | cons x l ih =>
  intro q hq
  rw [Jtjx] at h
  cases hx : lessP x p with
  | true => rw [List.dropWhile_cons, hx, if_pos rfl] at hq; exact ih h.2 q hq
  | false =>
   rw [List.dropWhile_cons, hx, if_neg (by simp)] at hq
   rcases List.mem_cons.1 hq with rfl | hq
   ·exact hx
   ·cases hqp : lessP q p with
    | false => rfl
    | true => rw [Jtcy (h.1 q hq) hqp] at hx; cases hx
theorem Jtkq {l : List Pair} {p : Pair} : ∀ q ∈ l.takeWhile (fun q => lessP q p), lessP q p = true := by
 induction l with
 | nil => intro q hq; simp at hq
 | cons x l ih =>
  intro q hq
  cases hx : lessP x p with
  | true =>
   rw [List.takeWhile_cons, hx, if_pos rfl] at hq
   rcases List.mem_cons.1 hq with rfl | hq
   ·exact hx
   ·exact ih q hq
  | false => rw [List.takeWhile_cons, hx, if_neg (by simp)] at hq; simp at hq
theorem Jtk7 {a b : List Pair} (h : a.Sublist b) (hb : Srt b) : Srt a := List.Pairwise.sublist h hb
theorem Jtjv {l : List Pair} {p : Pair} (h : Srt l) : Srt (addP l p) := by
 rw [Jt4d, insP]
 refine List.pairwise_append.2 ⟨Jtk7 (List.takeWhile_sublist _) h, Jtjx.2 ⟨?_, ?_⟩, ?_⟩
 ·intro b hb
  rw [List.mem_filter, decide_eq_true_eq] at hb
  have h1 := Jt7a h b hb.1
  cases h2 : lessP p b with
  | true => rfl
  | false => exact absurd (Jtcx h2 h1).symm hb.2
 ·exact Jtk7 (List.filter_sublist.trans (List.dropWhile_sublist _)) h
 ·intro a ha b hb
  have h1 := Jtkq a ha
  rcases List.mem_cons.1 hb with rfl | hb
  ·exact h1
  ·rw [List.mem_filter, decide_eq_true_eq] at hb
   have h2 := Jt7a h b hb.1
   cases h3 : lessP p b with
   | true => exact Jtcy h1 h3
   | false => exact absurd (Jtcx h3 h2).symm hb.2
theorem Jtdu (l : List Pair) (q : Pair) : makeP (l ++ [q]) = addP (makeP l) q := by simp [makeP]
theorem Jtdt {motive : List Pair → Prop} (h0 : motive []) (h1 : ∀ l q, motive l → motive (l ++ [q])) (l : List Pair) : motive l := by
 generalize hn : l.length = n
 induction n generalizing l with
 | zero => have : l = [] := List.length_eq_zero_iff.1 hn; subst this; exact h0
 | succ n ih =>
  have hne : l ≠ [] := by rintro rfl; simp at hn
  rw [← List.dropLast_concat_getLast hne]
  exact h1 _ _ (ih _ (by simp [hn]))
theorem Jtk3 (l : List Pair) : Srt (makeP l) := by
 induction l using Jtdt with
 | h0 => exact List.Pairwise.nil
 | h1 l q ih => rw [Jtdu]; exact Jtjv ih
theorem Jte6 {l : List Pair} {q : Pair} : q ∈ makeP l ↔ q ∈ l := by
 induction l using Jtdt with
 | h0 => simp [makeP]
 | h1 l x ih => rw [Jtdu, Jte3, ih]; simp [or_comm]
theorem Jtk6 {l : List Pair} (h : Srt l) : l.Nodup := List.Pairwise.imp (fun h => Jtcw h) h
theorem Jt4e (l : List Pair) (p : Pair) : (addP l p).length ≤ l.length + 1 := by
 rw [Jt4d, insP]
 have e := congrArg List.length (List.takeWhile_append_dropWhile (p := fun q => lessP q p) (l := l))
 have e2 := List.length_filter_le (fun q => decide (q ≠ p)) (l.dropWhile fun q => lessP q p)
 simp only [List.length_append, List.length_cons] at e ⊢; omega
theorem Jtds (l : List Pair) : (makeP l).length ≤ l.length := by
 induction l using Jtdt with
 | h0 => simp [makeP]
 | h1 l x ih => rw [Jtdu]; have := Jt4e (makeP l) x; simp only [List.length_append, List.length_cons, List.length_nil]; omega
section
end
section
end
def missA (a b : List Pair) : AV := .tup [((missP a b).getD ⟨0, 0⟩).av, AB (missP a b).isSome]
theorem Jteh {a b : List Pair} {k : Nat} (h : k < a.length) (h1 : ∀ q ∈ a.take k, q ∈ b) (h2 : a[k] ∉ b) : missP a b = some a[k] := by
 unfold missP
 have e : a = a.take k ++ a[k] :: a.drop (k + 1) := by rw [List.getElem_cons_drop, List.take_append_drop]
 have e1 : (a.take k).find? (fun q => !decide (q ∈ b)) = none := by
  rw [List.find?_eq_none]; intro q hq; simp [h1 q hq]
 have e2 : (a[k] :: a.drop (k + 1)).find? (fun q => !decide (q ∈ b)) = some a[k] := by
  rw [List.find?_cons_of_pos (by simp [h2])]
 have e3 := congrArg (List.find? fun q => !decide (q ∈ b)) e
 rw [List.find?_append, e1, e2] at e3
 exact e3
theorem Jtei {a b : List Pair} (h1 : ∀ q ∈ a, q ∈ b) : missP a b = none := by
 unfold missP; rw [List.find?_eq_none]; intro q hq; simp [h1 q hq]
section
theorem Jtg0 {P : Program} {p : Nums} (A : All P p) (a b : Pair) : Jt3n P p.pairset_Less [a.av, b.av] [] fun o _ => o = .ret (AB (lessP a b)) := by
 refine A.pairset_Less.run rfl fun R hR => ?_
 (simp (maxSteps := 1000000) [Jtb2, Pair.av])
 ((first | refine Xc (fun h => ?_) (fun h => ?_) | refine Xo (fun h => ?_) (fun h => ?_)) <;> (try simp only [Xz, Xy] at h))
 ·(simp (maxSteps := 1000000) [h])
  have e : lessP a b = true := by rw [Jtcu]; omega
  (first | exact hR _ _ FrA | exact hR _ _ FnA | exact hR _ _ (Xf (hq := by simp [AV.erase, AV.unview, e]; done)))
 (simp (maxSteps := 1000000) [h])
 ((first | refine Xc (fun h1 => ?_) (fun h1 => ?_) | refine Xo (fun h1 => ?_) (fun h1 => ?_)) <;> (try simp only [Xz, Xy] at h1))
 ·(simp (maxSteps := 1000000) [h1])
  (first | exact hR _ _ FrA | exact hR _ _ FnA | exact hR _ _ (Xf (hq := by simp [AV.erase, AV.unview, lessP, h1]; done)))
 ·(simp (maxSteps := 1000000) [h1])
  have e : lessP a b = false := by
   cases e : lessP a b with
   | false => rfl
   | true => rw [Jtcu] at e; omega
  (first | exact hR _ _ FrA | exact hR _ _ FnA | exact hR _ _ (Xf (hq := by simp [AV.erase, AV.unview, e]; done)))
end
theorem Jtkp {α : Type} (f : α → Bool) (l : List α) : l.takeWhile f = l.take (l.takeWhile f).length := by
 have e := List.takeWhile_append_dropWhile (p := f) (l := l)
 have := congrArg (List.take (l.takeWhile f).length) e
 rw [List.take_left'] at this
 ·exact this
 ·rfl
theorem Jt79 {α : Type} (f : α → Bool) (l : List α) : l.dropWhile f = l.drop (l.takeWhile f).length := by
 have e := List.takeWhile_append_dropWhile (p := f) (l := l)
 have := congrArg (List.drop (l.takeWhile f).length) e
 rw [List.drop_left'] at this
 ·exact this
 ·rfl
theorem Jtko {α : Type} (f : α → Bool) (l : List α) (i : Nat) (hi : i ≤ l.length) (h1 : ∀ j, j < i → (h : j < l.length) → f l[j] = true) (h2 : (h : i < l.length) → f l[i] = false) : (l.takeWhile f).length = i := by
 induction l generalizing i with
 | nil => simp at hi; simp [hi]
 | cons x l ih =>
  cases i with
  | zero => have := h2 (by simp); simp at this; simp [List.takeWhile_cons, this]
  | succ i =>
   have h0 := h1 0 (by omega) (by simp)
   simp at h0
   rw [List.takeWhile_cons, h0, if_pos rfl, List.length_cons]
   have := ih i (by simpa using hi) (fun j hj h => by have := h1 (j + 1) (by omega) (by simpa using h); simpa using this) (fun h => by have := h2 (by simpa using h); simpa using this)
   rw [this]
theorem Jtgh (l : List Pair) (p : Pair) : posP l p ≤ l.length := (List.takeWhile_sublist _).length_le
theorem Jtgi {l : List Pair} {p : Pair} {j : Nat} (h : j < posP l p) (hl : j < l.length) : lessP l[j] p = true := by
 have h1 : (l.takeWhile fun q => lessP q p)[j]? = some l[j] := by
  rw [Jtkp, List.getElem?_take]; simp only [posP] at h; simp [h]
 exact Jtkq _ (List.mem_of_getElem? h1)
theorem Jtgg {l : List Pair} {p : Pair} (hs : Srt l) {j : Nat} (h : posP l p ≤ j) (hl : j < l.length) : lessP l[j] p = false := by
 refine Jt7a hs _ ?_
 rw [Jt79]
 have : (l.drop (posP l p))[j - posP l p]? = some l[j] := by rw [List.getElem?_drop]; simp [Nat.add_sub_cancel' h]
 exact List.mem_of_getElem? this
theorem Jte9 {l : List Pair} {p : Pair} (hs : Srt l) : p ∈ l ↔ l[posP l p]? = some p := by
 constructor
 ·intro h
  obtain ⟨j, hj, e⟩ := List.getElem_of_mem h
  have h1 : posP l p ≤ j := by
   rcases Nat.lt_or_ge j (posP l p) with h2 | h2
   ·have := Jtgi h2 hj; rw [e, Jtcv] at this; cases this
   ·exact h2
  have h2 : j ≤ posP l p := by
   rcases Nat.lt_or_ge (posP l p) j with h2 | h2
   ·have h3 := Jtk2 hs h2 hj
    rw [e, Jtgg hs (Nat.le_refl _) (by omega)] at h3; cases h3
   ·exact h2
  have : posP l p = j := by omega
  rw [this, List.getElem?_eq_getElem hj, e]
 ·exact List.mem_of_getElem?
theorem Jt84 {l : List Pair} {p : Pair} (h : p ∉ l) : l.filter (fun q => decide (q ≠ p)) = l := by
 rw [List.filter_eq_self]; intro a ha; simp; rintro rfl; exact h ha
theorem Jt4f {l : List Pair} {p : Pair} (hs : Srt l) : addP l p = l.take (posP l p) ++ p :: l.drop (if p ∈ l then posP l p + 1 else posP l p) := by
 rw [Jt4d, insP, Jtkp, Jt79]
 show l.take (posP l p) ++ p :: (l.drop (posP l p)).filter _ = _
 congr 2
 split
 ·rename_i h
  have hp := (Jte9 hs).1 h
  have hlt := (List.getElem?_eq_some_iff.1 hp).1
  have he := (List.getElem?_eq_some_iff.1 hp).2
  have hs' : Srt (l.drop (posP l p)) := Jtk7 (List.drop_sublist _ _) hs
  rw [List.drop_eq_getElem_cons hlt, he] at hs' ⊢
  rw [List.filter_cons_of_neg (by simp)]
  refine Jt84 fun hm => ?_
  have := (Jtjx.1 hs').1 p hm
  rw [Jtcv] at this; cases this
 ·rename_i h
  exact Jt84 fun hm => h (List.drop_subset _ _ hm)
section
theorem Jtg6 {P : Program} {p : Nums} (A : All P p) (l : List Pair) (q : Pair) (h0 : l.length < 1000000000) (hs : Srt l) : Jt3n P p.pairset_find [.d (pairsD l), q.av] [] fun o _ => o = .ret (AI (posP l q)) := by
 refine A.pairset_find.run rfl fun R hR => ?_
 (simp (maxSteps := 1000000) [Jtb7, pairsD, Pair.av])
 refine Jt9 (fun k : Nat × Nat => ⟨[(5, AI k.1), (6, AI k.2), (4, AI 0), (3, .ptr 0 0), (0, .d (.sl (l.map Pair.row)))], [.mem [AI q.v, AI q.l]]⟩)
  (fun k => k.1 ≤ k.2 ∧ k.2 ≤ l.length ∧ (∀ j, j < k.1 → (h : j < l.length) → lessP l[j] q = true) ∧ ∀ j, k.2 ≤ j → (h : j < l.length) → lessP l[j] q = false) (fun k => k.2 - k.1) (0, l.length) (by simp; intro j h1 h2; omega) (by (exact wkA)) ?_
 rintro ⟨a, b⟩ ⟨hab, hb, hlo, hhi⟩ N hN
 simp only at hab hb hlo hhi hN ⊢
 (simp (maxSteps := 1000000) [])
 ((first | refine Xc (fun h2 => ?_) (fun h2 => ?_) | refine Xo (fun h2 => ?_) (fun h2 => ?_)) <;> (try simp only [Xz, Xy] at h2))
 ·have hm : a + (b - a) / 2 < l.length := by omega
  have hma : a ≤ a + (b - a) / 2 := by omega
  have hmb : a + (b - a) / 2 < b := by omega
  have hw1 : IntKind.i64.wrap ((b : Int) - (a : Int)) = ((b - a : Nat) : Int) := by rw [wrap_i64 (by omega) (by omega)]; omega
  have hw2 : IntKind.i64.wrap (((b - a : Nat) : Int) / 2) = (((b - a) / 2 : Nat) : Int) := by rw [wrap_i64 (by omega) (by omega)]; omega
  have hw3 : IntKind.i64.wrap ((a : Int) + (((b - a) / 2 : Nat) : Int)) = ((a + (b - a) / 2 : Nat) : Int) := by rw [wrap_i64 (by omega) (by omega)]; omega
  obtain ⟨d, hd⟩ : ∃ d, d = b - a := ⟨_, rfl⟩
  obtain ⟨d2, hd2⟩ : ∃ d2, d2 = d / 2 := ⟨_, rfl⟩
  obtain ⟨m, hmm⟩ : ∃ m, m = a + d2 := ⟨_, rfl⟩
  have hw := Jtlx (k := m) (by omega)
  simp only [← hd, ← hd2, ← hmm] at hm hma hmb hw1 hw2 hw3
  have hbm : l[m]? = some l[m] := by simp
  (simp (maxSteps := 1000000) [h2, hw1])
  (simp (maxSteps := 1000000) [hw2])
  (simp (maxSteps := 1000000) [hw3, hbm, Pair.row])
  (refine Jts (Jtg0 A l[m] q) (by rfl) (by rfl) ?_)
  (simp (maxSteps := 1000000) [])
  ((first | refine Xc (fun h3 => ?_) (fun h3 => ?_) | refine Xo (fun h3 => ?_) (fun h3 => ?_)) <;> (try simp only [Xz, Xy] at h3))
  ·(simp (maxSteps := 1000000) [h3, hw])
   refine hN _ (m + 1, b) ⟨by simp only; omega, hb, ?_, hhi⟩ (by (exact wkA)) (by simp only; omega)
   intro j hj h
   simp only at hj
   by_cases e : j = m
   ·subst e; exact h3
   ·exact Jtcy (Jtk2 hs (by omega : j < m) hm) h3
  ·(simp (maxSteps := 1000000) [h3])
   refine hN _ (a, m) ⟨by simp only; omega, by simp only; omega, hlo, ?_⟩ (by (exact wkA)) (by simp only; omega)
   intro j hj h
   simp only at hj
   cases e : lessP l[j] q with
   | false => rfl
   | true =>
    by_cases e2 : j = m
    ·subst e2; rw [e] at h3; simp at h3
    ·rw [Jtcy (Jtk2 hs (by omega : m < j) h) e] at h3; simp at h3
 ·have e : a = b := by omega
  subst e
  have : posP l q = a := Jtko _ l a hb hlo fun h => hhi a (by omega) h
  (simp (maxSteps := 1000000) [])
  (first | exact hR _ _ FrA | exact hR _ _ FnA | exact hR _ _ (Xf (hq := by simp [AV.erase, AV.unview, this]; done)))
theorem Jtfz {P : Program} {p : Nums} (A : All P p) (l : List Pair) (q : Pair) (h0 : l.length < 1000000000) (hs : Srt l) : Jt3n P p.pairset_Has [.d (pairsD l), q.av] [] fun o _ => o = .ret (AB (decide (q ∈ l))) := by
 refine A.pairset_Has.run rfl fun R hR => ?_
 (simp (maxSteps := 1000000) [Jtb1, pairsD, Pair.av])
 (refine Jts (Jtg6 A l q h0 hs) (by rfl) (by rfl) ?_)
 (simp (maxSteps := 1000000) [])
 have hp := Jte9 (p := q) hs
 have hle := Jtgh l q
 obtain ⟨i, hi⟩ : ∃ i, i = posP l q := ⟨_, rfl⟩
 rw [← hi] at hp hle ⊢
 ((first | refine Xc (fun h1 => ?_) (fun h1 => ?_) | refine Xo (fun h1 => ?_) (fun h1 => ?_)) <;> (try simp only [Xz, Xy] at h1))
 ·have hil : i < l.length := by omega
  have hb : l[i]? = some l[i] := by simp
  rw [hb] at hp
  (simp (maxSteps := 1000000) [h1, hb, Pair.row])
  have e : (l[i].v == q.v && l[i].l == q.l) = decide (q ∈ l) := by
   rw [Jtfp]; simp only [Option.some.injEq] at hp; simp [hp]
  (first | exact hR _ _ FrA | exact hR _ _ FnA | exact hR _ _ (Xf (hq := by simp [AV.erase, AV.unview, e, Pair.row]; done)))
 ·(simp (maxSteps := 1000000) [h1])
  have hb : l[i]? = none := by simp; omega
  rw [hb] at hp
  have e : q ∉ l := by simpa using hp
  (first | exact hR _ _ FrA | exact hR _ _ FnA | exact hR _ _ (Xf (hq := by simp [AV.erase, AV.unview, e]; done)))
end
section
theorem Jtfs {P : Program} {p : Nums} (A : All P p) (l : List Pair) (q : Pair) (h0 : l.length < 1000000) (hs : Srt l) : Jt3n P p.pairset_Add [.d (pairsD l), q.av] [] fun o H' => o = .ret (.own 2 ((addP l q).map Pair.row)) ∧ H' = [] := by
 refine A.pairset_Add.run rfl fun R hR => ?_
 (simp (maxSteps := 1000000) [Jtaw, pairsD, Pair.av])
 (refine Jts (Jtg6 A l q (by omega) hs) (by rfl) (by rfl) ?_)
 have hw := Jtlx (k := l.length) (by omega)
 have hp := Jte9 (p := q) hs
 have hle := Jtgh l q
 have hadd := Jt4f (p := q) hs
 obtain ⟨i, hi⟩ : ∃ i, i = posP l q := ⟨_, rfl⟩
 rw [← hi] at hp hle hadd ⊢
 (simp (maxSteps := 1000000) [hw])
 refine Jt1x (n := l.length + 1) (by rfl) (by rfl) (by omega) (by omega) (by decide) (by rfl) ?_
 (simp (maxSteps := 1000000) [hle, Pair.row])
 have hrow : ∀ m : List (List D), (∀ r ∈ m, r ∈ l.map Pair.row) → ∀ r ∈ m, r.length = 2 := fun m hm r hr => Jti8 (f := Pair.row) (fun _ => rfl) r (hm r hr)
 refine ⟨hrow _ fun r hr => List.take_subset _ _ hr, by omega, by omega, ?_⟩
 (refine Jt15 (by rfl) (by rfl) (by rfl) ?_ (by decide) ?_ ?_ ?_)
 ·simp
 ·simp; omega
 ·simp; omega
 (simp (maxSteps := 1000000) [])
 have hln : (l.map Pair.row).length = l.length := by simp
 have fin : ∀ j, addP l q = l.take i ++ q :: l.drop j → (List.take i (l.map Pair.row) ++ [[D.int IntKind.i64 q.v, D.int IntKind.i64 q.l]]) ++ List.drop j (List.take l.length (l.map Pair.row)) = (addP l q).map Pair.row := by
  intro j hj
  rw [hj, List.take_of_length_le (i := l.length) (l := l.map Pair.row) (by simp)]
  simp [Pair.row]
 ((first | refine Xc (fun h1 => ?_) (fun h1 => ?_) | refine Xo (fun h1 => ?_) (fun h1 => ?_)) <;> (try simp only [Xz, Xy] at h1))
 ·have hil : i < l.length := by omega
  have hb : l[i]? = some l[i] := by simp
  rw [hb, Option.some.injEq] at hp
  (simp (maxSteps := 1000000) [h1, hb, Pair.row])
  ((first | refine Xc (fun h2 => ?_) (fun h2 => ?_) | refine Xo (fun h2 => ?_) (fun h2 => ?_)) <;> (try simp only [Xz, Xy] at h2))
  ·have e : l[i] = q := Jt7p h2.1 h2.2
   have hm := hp.2 e
   rw [if_pos hm] at hadd
   have hw2 := Jtlx (k := i) (by omega)
   obtain ⟨i1, hi1⟩ : ∃ i1, i1 = i + 1 := ⟨_, rfl⟩
   rw [← hi1] at hw2 hadd
   have hle1 : i1 ≤ l.length := by omega
   (simp (maxSteps := 1000000) [hw2, h2])
   (simp (maxSteps := 1000000) [hle1, Pair.row])
   (refine Jt15 (by rfl) (by rfl) (by rfl) ?_ (by decide) ?_ ?_ ?_)
   ·exact hrow _ fun r hr => List.take_subset _ _ (List.drop_subset _ _ hr)
   ·simp; omega
   ·simp; omega
   rw [fin i1 hadd]
   (simp (maxSteps := 1000000) [])
   exact hR _ _ (Jt3p _ _ rfl ⟨rfl, rfl⟩)
  ·have hm : q ∉ l := by
    intro hm; have := hp.1 hm
    rw [this] at h2; simp at h2
   rw [if_neg hm] at hadd
   (simp (maxSteps := 1000000) [h2, hle, Pair.row])
   (refine Jt15 (by rfl) (by rfl) (by rfl) ?_ (by decide) ?_ ?_ ?_)
   ·exact hrow _ fun r hr => List.take_subset _ _ (List.drop_subset _ _ hr)
   ·simp; omega
   ·simp; omega
   rw [fin i hadd]
   (simp (maxSteps := 1000000) [])
   exact hR _ _ (Jt3p _ _ rfl ⟨rfl, rfl⟩)
 ·have hm : q ∉ l := by
   intro hm; have := hp.1 hm
   rw [List.getElem?_eq_none (by omega)] at this; cases this
  rw [if_neg hm] at hadd
  (simp (maxSteps := 1000000) [h1, hle, Pair.row])
  (refine Jt15 (by rfl) (by rfl) (by rfl) ?_ (by decide) ?_ ?_ ?_)
  ·exact hrow _ fun r hr => List.take_subset _ _ (List.drop_subset _ _ hr)
  ·simp; omega
  ·simp; omega
  rw [fin i hadd]
  (simp (maxSteps := 1000000) [])
  exact hR _ _ (Jt3p _ _ rfl ⟨rfl, rfl⟩)
end
section
theorem Jtg3 {P : Program} {p : Nums} (A : All P p) (a b : List Pair) (h0 : a.length < 1000000) (h1 : b.length < 1000000) (ha : Srt a) (hb : Srt b) : Jt3n P p.pairset_Missing [.d (pairsD a), .d (pairsD b)] [] fun o _ => o = .ret (missA a b) := by
 refine A.pairset_Missing.run rfl fun R hR => ?_
 (simp (maxSteps := 1000000) [Jtb4, pairsD])
 refine Jt9 (fun k : Nat × Nat => ⟨[(11, AI k.1), (10, AI a.length), (9, .d (.sl (a.map Pair.row))), (6, AI k.2), (5, AB false), (4, .ptr 0 0), (1, .d (.sl (b.map Pair.row)))], [.mem [AI 0, AI 0]]⟩)
  (fun k => k.1 ≤ a.length ∧ k.2 ≤ b.length ∧ (∀ q ∈ a.take k.1, q ∈ b) ∧ ∀ j k', j < k.2 → k.1 ≤ k' → (h : j < b.length) → (h' : k' < a.length) → lessP b[j] a[k'] = true) (fun k => a.length - k.1) (0, 0) (by simp) (by (exact wkA)) ?_
 rintro ⟨k, i⟩ ⟨hk, hi, hz, hj⟩ N hN
 simp only at hk hi hz hj hN ⊢
 (simp (maxSteps := 1000000) [])
 ((first | refine Xc (fun h2 => ?_) (fun h2 => ?_) | refine Xo (fun h2 => ?_) (fun h2 => ?_)) <;> (try simp only [Xz, Xy] at h2))
 ·have hkl : k < a.length := by omega
  have hbk : a[k]? = some a[k] := by simp
  have hw := Jtlx (k := k) (by omega)
  (simp (maxSteps := 1000000) [h2, hbk, Pair.row])
  refine Jt9 (fun i : Nat => ⟨[(8, .ptr 1 0), (11, AI k), (10, AI a.length), (9, .d (.sl (a.map Pair.row))), (6, AI i), (5, AB false), (4, .ptr 0 0), (1, .d (.sl (b.map Pair.row)))], [.mem [AI 0, AI 0], .mem [AI a[k].v, AI a[k].l]]⟩)
   (fun i => i ≤ b.length ∧ ∀ j k', j < i → k ≤ k' → (h : j < b.length) → (h' : k' < a.length) → lessP b[j] a[k'] = true) (fun i => b.length - i) i ⟨hi, hj⟩ (by (exact wkA)) ?_
  rintro i ⟨hi, hj⟩ N2 hN2
  have stop : (i = b.length ∨ ∃ h : i < b.length, lessP b[i] a[k] = false ∧ b[i] ≠ a[k]) → a[k] ∉ b := by
   intro hc hm
   obtain ⟨j, hjl, e⟩ := List.getElem_of_mem hm
   have h3 : i ≤ j := by
    rcases Nat.lt_or_ge j i with h | h
    ·have := hj j k h (Nat.le_refl _) hjl hkl
     rw [e, Jtcv] at this; cases this
    ·exact h
   rcases hc with hc | ⟨h, h4, h5⟩
   ·omega
   ·rcases Nat.lt_or_eq_of_le h3 with h3 | h3
    ·have := Jtk2 hb h3 hjl
     rw [e, h4] at this; cases this
    ·subst h3; exact h5 e
  have go : ∀ (h : i < b.length), b[i] = a[k] → (∀ q ∈ a.take (k + 1), q ∈ b) ∧ ∀ j k', j < i → k + 1 ≤ k' → (h : j < b.length) → (h' : k' < a.length) → lessP b[j] a[k'] = true := by
   intro h e
   refine ⟨?_, fun j k' h1 h2 h3 h4 => hj j k' h1 (by omega) h3 h4⟩
   intro q hq
   rw [List.take_add_one, hbk] at hq
   rcases List.mem_append.1 hq with hq | hq
   ·exact hz q hq
   ·simp at hq; subst hq; rw [← e]; exact List.getElem_mem _
  (simp (maxSteps := 1000000) [])
  ((first | refine Xc (fun h3 => ?_) (fun h3 => ?_) | refine Xo (fun h3 => ?_) (fun h3 => ?_)) <;> (try simp only [Xz, Xy] at h3))
  ·have hil : i < b.length := by omega
   have hbi : b[i]? = some b[i] := by simp
   (simp (maxSteps := 1000000) [h3, hbi, Pair.row])
   (refine Jts (Jtg0 A b[i] a[k]) (by rfl) (by rfl) ?_)
   (simp (maxSteps := 1000000) [])
   ((first | refine Xc (fun h4 => ?_) (fun h4 => ?_) | refine Xo (fun h4 => ?_) (fun h4 => ?_)) <;> (try simp only [Xz, Xy] at h4))
   ·have hwi := Jtlx (k := i) (by omega)
    (simp (maxSteps := 1000000) [h4, hwi])
    refine hN2 _ (i + 1) ⟨hil, ?_⟩ (by (exact wkA)) (by omega)
    intro j k' h5 h6 h7 h8
    by_cases e : j = i
    ·subst e
     rcases Nat.lt_or_eq_of_le h6 with h6 | h6
     ·refine Jtcy (b := a[k]) h4 (Jtk2 ha h6 h8)
     ·subst h6; exact h4
    ·exact hj j k' (by omega) h6 h7 h8
   ·have hne : ¬ ((i : Int) = (b.length : Int)) := by omega
    have h4' : lessP b[i] a[k] = false := by simpa using h4
    (simp (maxSteps := 1000000) [h4', hne, hbi, Pair.row])
    ((first | refine Xc (fun h5 => ?_) (fun h5 => ?_) | refine Xo (fun h5 => ?_) (fun h5 => ?_)) <;> (try simp only [Xz, Xy] at h5))
    ·have hx2 : a[k] ∉ b := stop (.inr ⟨hil, h4', fun e => by rw [e] at h5; simp at h5⟩)
     have := Jteh hkl hz hx2
     (simp (maxSteps := 1000000) [h5])
     (first | exact hR _ _ FrA | exact hR _ _ FnA | exact hR _ _ (Xf (hq := by simp [AV.erase, AV.unview, missA, this, Pair.av]; done)))
    ·have e : b[i] = a[k] := Jt7p (by simp at h5; exact h5.1) (by simp at h5; exact h5.2)
     have := go hil e
     (simp (maxSteps := 1000000) [h5, hw])
     exact hN _ (k + 1, i) ⟨hkl, hi, this.1, this.2⟩ (by simp only; (exact wkA)) (by simp only; omega)
  ·have e : i = b.length := by omega
   have hx2 : a[k] ∉ b := stop (.inl e)
   have := Jteh hkl hz hx2
   (simp (maxSteps := 1000000) [h3, e])
   (first | exact hR _ _ FrA | exact hR _ _ FnA | exact hR _ _ (Xf (hq := by simp [AV.erase, AV.unview, missA, this, Pair.av]; done)))
 ·have hk' : k = a.length := by omega
  subst hk'
  have := Jtei (a := a) (b := b) (by simpa using hz)
  (simp (maxSteps := 1000000) [])
  (first | exact hR _ _ FrA | exact hR _ _ FnA | exact hR _ _ (Xf (hq := by simp [AV.erase, AV.unview, missA, this, Pair.av]; done)))
end
def mergeP : List Pair → List Pair → List Pair
 | [], b => b
 | x :: a, [] => x :: a
 | x :: a, y :: b => if lessP y x = true then y :: mergeP (x :: a) b else if y = x then x :: mergeP a b else x :: mergeP a (y :: b)
termination_by a b => a.length + b.length
theorem Jtee (a : List Pair) : mergeP a [] = a := by cases a <;> simp [mergeP]
theorem Jte7 {a b : List Pair} {q : Pair} : q ∈ mergeP a b ↔ q ∈ a ∨ q ∈ b := by
 induction a, b using mergeP.induct with
 | case1 b => simp [mergeP]
 | case2 x a => simp [mergeP]
 | case3 x a y b h ih => rw [mergeP, if_pos h, List.mem_cons, ih]; simp only [List.mem_cons]; constructor <;> (intro h; rcases h with h | h | h <;> simp_all)
 | case4 a b x h ih => rw [mergeP, if_neg h, if_pos rfl, List.mem_cons, ih]; simp only [List.mem_cons]; constructor <;> grind
 | case5 x a y b h h2 ih => rw [mergeP, if_neg h, if_neg h2, List.mem_cons, ih]; simp only [List.mem_cons]; constructor <;> grind
theorem Jtk4 {a b : List Pair} (ha : Srt a) (hb : Srt b) : Srt (mergeP a b) := by
 induction a, b using mergeP.induct with
 | case1 b => simpa [mergeP] using hb
 | case2 x a => simpa [mergeP] using ha
 | case3 x a y b h ih =>
  rw [mergeP, if_pos h]
  refine Jtjx.2 ⟨fun q hq => ?_, ih ha (Jtjx.1 hb).2⟩
  rw [Jte7, List.mem_cons] at hq
  rcases hq with (rfl | hq) | hq
  ·exact h
  ·exact Jtcy h ((Jtjx.1 ha).1 q hq)
  ·exact (Jtjx.1 hb).1 q hq
 | case4 a b x h ih =>
  rw [mergeP, if_neg h, if_pos rfl]
  refine Jtjx.2 ⟨fun q hq => ?_, ih (Jtjx.1 ha).2 (Jtjx.1 hb).2⟩
  rw [Jte7] at hq
  rcases hq with hq | hq
  ·exact (Jtjx.1 ha).1 q hq
  ·exact (Jtjx.1 hb).1 q hq
 | case5 x a y b h h2 ih =>
  rw [mergeP, if_neg h, if_neg h2]
  have hxy : lessP x y = true := by
   cases e : lessP x y with
   | true => rfl
   | false => exact absurd (Jtcx (by simpa using h) e) h2
  refine Jtjx.2 ⟨fun q hq => ?_, ih (Jtjx.1 ha).2 hb⟩
  rw [Jte7, List.mem_cons] at hq
  rcases hq with hq | rfl | hq
  ·exact (Jtjx.1 ha).1 q hq
  ·exact hxy
  ·exact Jtcy hxy ((Jtjx.1 hb).1 q hq)
section
theorem Jtg4 {P : Program} {p : Nums} (A : All P p) (a b : List Pair) (h0 : a.length < 1000000) (h1 : b.length < 1000000) : Jt3n P p.pairset_Union [.d (pairsD a), .d (pairsD b)] [] fun o H' => o = .ret (.own 2 ((mergeP a b).map Pair.row)) ∧ H' = [] := by
 refine A.pairset_Union.run rfl fun R hR => ?_
 have hw : IntKind.i64.wrap ((a.length : Int) + (b.length : Int)) = ((a.length + b.length : Nat) : Int) := Jtlw (by omega)
 obtain ⟨n, hn⟩ : ∃ n, n = a.length + b.length := ⟨_, rfl⟩
 rw [← hn] at hw
 (simp (maxSteps := 1000000) [Jtb5, pairsD, hw])
 refine Jt1x (n := n) (by rfl) (by rfl) (by omega) (by omega) (by decide) (by rfl) ?_
 (simp (maxSteps := 1000000) [])
 have hrow : ∀ l : List Pair, ∀ r ∈ l.map Pair.row, r.length = 2 := fun l => Jti8 fun x => rfl
 refine Jt9 (fun s : List Pair × List Pair × List Pair => ⟨[(5, .own 2 (s.2.2.map Pair.row)), (4, .nils), (1, .d (.sl (s.2.1.map Pair.row))), (0, .d (.sl (s.1.map Pair.row)))], []⟩)
  (fun s => s.2.2 ++ mergeP s.1 s.2.1 = mergeP a b ∧ s.1.length + s.2.1.length + s.2.2.length ≤ n) (fun s => s.1.length + s.2.1.length) (a, b, []) ⟨by simp, by simp; omega⟩ (by simp only [List.map_nil]; (exact wkA)) ?_
 rintro ⟨xs, ys, out⟩ ⟨hm, hlen⟩ N hN
 simp only at hm hlen hN ⊢
 have fin : xs = [] ∨ ys = [] → (out.map Pair.row ++ xs.map Pair.row) ++ ys.map Pair.row = (mergeP a b).map Pair.row := by
  intro h
  rw [← hm]
  rcases h with rfl | rfl
  ·simp [mergeP]
  ·simp [Jtee]
 cases xs with
 | nil =>
  (simp (maxSteps := 1000000) [])
  (refine Jt15 (by rfl) (by rfl) (by rfl) ?_ (by decide) ?_ ?_ ?_)
  ·simp
  ·simp; omega
  ·simp; omega
  (simp (maxSteps := 1000000) [])
  (refine Jt15 (by rfl) (by rfl) (by rfl) ?_ (by decide) ?_ ?_ ?_)
  ·exact hrow _
  ·simp at hlen ⊢; omega
  ·simp at hlen ⊢; omega
  (simp (maxSteps := 1000000) [])
  exact hR _ _ (Jt3p _ _ rfl ⟨by simp [← fin (.inl rfl)], rfl⟩)
 | cons x xs =>
  have hx0 : ¬ ((xs.length : Int) + 1 ≤ 0) := by omega
  have hx1 : (0 : Int) < (xs.length : Int) + 1 := by omega
  cases ys with
  | nil =>
   (simp (maxSteps := 1000000) [hx1])
   (refine Jt15 (by rfl) (by rfl) (by rfl) ?_ (by decide) ?_ ?_ ?_)
   ·simpa using hrow (x :: xs)
   ·simp at hlen ⊢; omega
   ·simp at hlen ⊢; omega
   (simp (maxSteps := 1000000) [])
   (refine Jt15 (by rfl) (by rfl) (by rfl) ?_ (by decide) ?_ ?_ ?_)
   ·simp
   ·simp at hlen ⊢; omega
   ·simp at hlen ⊢; omega
   (simp (maxSteps := 1000000) [])
   have := fin (.inr rfl)
   simp only [List.map_cons, List.map_nil, List.append_nil] at this
   exact hR _ _ (Jt3p _ _ rfl ⟨by simp [← this], rfl⟩)
  | cons y ys =>
   have hy1 : (0 : Int) < (ys.length : Int) + 1 := by omega
   have hx2 : (1 : Int) ≤ (xs.length : Int) + 1 := by omega
   have hy2 : (1 : Int) ≤ (ys.length : Int) + 1 := by omega
   have htx : (xs.map Pair.row).take xs.length = xs.map Pair.row := List.take_of_length_le (by simp)
   have hty : (ys.map Pair.row).take ys.length = ys.map Pair.row := List.take_of_length_le (by simp)
   simp only [List.length_cons] at hlen
   rw [mergeP] at hm
   (simp (maxSteps := 1000000) [hx1, hy1, Pair.row])
   (refine Jts (Jtg0 A y x) (by rfl) (by rfl) ?_)
   (simp (maxSteps := 1000000) [])
   ((first | refine Xc (fun h2 => ?_) (fun h2 => ?_) | refine Xo (fun h2 => ?_) (fun h2 => ?_)) <;> (try simp only [Xz, Xy] at h2))
   ·rw [if_pos h2] at hm
    have hne : ¬ x = y := fun h => Jtcw h2 h.symm
    have hs1 : IntKind.i64.wrap 1 = 1 := by rw [wrap_i64 (by omega) (by omega)]
    (simp (maxSteps := 1000000) [h2, Pair.row])
    (refine Jt15 (by rfl) (by rfl) (by rfl) ?_ (by decide) ?_ ?_ ?_)
    ·simp
    ·simp at hlen ⊢; omega
    ·simp at hlen ⊢; omega
    (simp (maxSteps := 1000000) [Pair.row, Jtfp, hne, hy2, hty])
    refine hN _ (x :: xs, ys, out ++ [y]) ⟨by simp only; rw [← hm]; simp, by simp; omega⟩ ?_ (by simp only [List.length_cons]; omega)
    simp only [List.map_cons, List.map_append, List.map_nil, Pair.row]
    (exact wkA)
   ·have h2' : lessP y x = false := by simpa using h2
    rw [if_neg (by rw [h2']; simp)] at hm
    (simp (maxSteps := 1000000) [h2', Pair.row])
    (refine Jt15 (by rfl) (by rfl) (by rfl) ?_ (by decide) ?_ ?_ ?_)
    ·simp
    ·simp at hlen ⊢; omega
    ·simp at hlen ⊢; omega
    by_cases e : y = x
    ·rw [if_pos e] at hm
     subst e
     (simp (maxSteps := 1000000) [Pair.row, Jtfp, hx2, hy2, htx, hty])
     refine hN _ (xs, ys, out ++ [y]) ⟨by simp only; rw [← hm]; simp, by simp; omega⟩ ?_ (by simp only [List.length_cons]; omega)
     simp only [List.map_cons, List.map_append, List.map_nil, Pair.row]
     (exact wkA)
    ·rw [if_neg e] at hm
     (simp (maxSteps := 1000000) [Pair.row, Jtfp, e, hx2, htx])
     refine hN _ (xs, y :: ys, out ++ [x]) ⟨by simp only; rw [← hm]; simp, by simp; omega⟩ ?_ (by simp only [List.length_cons]; omega)
     simp only [List.map_cons, List.map_append, List.map_nil, Pair.row]
     (exact wkA)
end
theorem Jti2 {rows : List (List D)} {e k : Nat} (he : ∀ r ∈ rows, r.length = e) (hk : k < rows.length) : ((Jthz rows).drop (k * e)).take e = rows[k].map AV.d := by
 unfold Jthz
 induction rows generalizing k with
 | nil => simp at hk
 | cons r rows ih =>
  have h1 := he r (by simp)
  cases k with
  | zero => simp only [Nat.zero_mul, List.drop_zero, List.flatten_cons, List.map_append, List.getElem_cons_zero]; rw [List.take_left' (by simp [h1])]
  | succ k =>
   have h2 := ih (fun r hr => he r (by simp [hr])) (k := k) (by simpa using hk)
   simp only [List.flatten_cons, List.map_append, List.getElem_cons_succ]
   have e1 : (k + 1) * e = (r.map AV.d).length + k * e := by rw [Nat.add_mul]; simp [h1]; omega
   rw [e1, List.drop_length_add_append]; exact h2
theorem Jtfo {l : List Pair} {k : Nat} (hk : k < l.length) : ((Jthz (l.map Pair.row)).drop (k * 2)).take 2 = [AI l[k].v, AI l[k].l] := by
 rw [Jti2 (e := 2) (rows := l.map Pair.row) (Jti8 (f := Pair.row) fun _ => rfl) (by simpa using hk)]; simp [Pair.row]
theorem Jti1 (l : List Pair) : (Jthz (l.map Pair.row)).length = l.length * 2 := by
 rw [Jti4 (e := 2) (Jti8 fun _ => rfl)]; simp
theorem Jti3 (rows : List (List D)) : (Jthz rows).map AV.erase = Jthz rows := by
 simp [Jthz, AV.erase, Function.comp_def]
def ddStep (out : List Pair) (q : Pair) : List Pair := if out.getLast? = some q then out else out ++ [q]
def dd (l : List Pair) : List Pair := l.foldl ddStep []
theorem Jt74 (l : List Pair) (q : Pair) : dd (l ++ [q]) = ddStep (dd l) q := by simp [dd]
theorem Jt73 (l : List Pair) : (dd l).getLast? = l.getLast? := by
 induction l using Jtdt with
 | h0 => rfl
 | h1 l q ih =>
  rw [Jt74, ddStep]
  split
  ·rename_i h; rw [h]; simp
  ·simp
theorem mem_dd {l : List Pair} {q : Pair} : q ∈ dd l ↔ q ∈ l := by
 induction l using Jtdt with
 | h0 => simp [dd]
 | h1 l x ih =>
  rw [Jt74, ddStep]
  split
  ·rename_i h
   rw [ih, List.mem_append]
   have : x ∈ l := by rw [Jt73] at h; exact List.mem_of_getLast? h
   constructor
   ·exact .inl
   ·rintro (h | h)
    ·exact h
    ·simp at h; subst h; exact this
  ·rw [List.mem_append, List.mem_append, ih]
theorem Jt76 {l : List Pair} {k : Nat} (h0 : 0 < k) (h : k < l.length) : dd (l.take (k + 1)) = if l[k - 1]'(by omega) = l[k] then dd (l.take k) else dd (l.take k) ++ [l[k]] := by
 have e : l.take (k + 1) = l.take k ++ [l[k]] := by rw [List.take_add_one, List.getElem?_eq_getElem h]; rfl
 rw [e, Jt74, ddStep, Jt73]
 have : (l.take k).getLast? = some (l[k - 1]'(by omega)) := by
  rw [List.getLast?_eq_getElem?, List.getElem?_take]; simp only [List.length_take, Option.ite_none_right_eq_some]; rw [show min k l.length - 1 = k - 1 by omega, List.getElem?_eq_getElem (by omega)]; exact ⟨by omega, rfl⟩
 rw [this]; simp
def cptP (l : List Pair) : List Pair := dd l ++ List.replicate (l.length - (dd l).length) (⟨0, 0⟩ : Pair)
theorem Jt6x {l : List Pair} (h : dd l = l) : cptP l = l := by unfold cptP; rw [h]; simp
theorem srt_dd {l : List Pair} (h : l.Pairwise fun a b => lessP b a = false) : Srt (dd l) := by
 induction l using Jtdt with
 | h0 => exact List.Pairwise.nil
 | h1 l x ih =>
  have h2 := List.pairwise_append.1 h
  have ih := ih h2.1
  rw [Jt74, ddStep]
  split
  ·exact ih
  ·rename_i hl
   refine List.pairwise_append.2 ⟨ih, List.pairwise_singleton _ _, ?_⟩
   intro a ha b hb
   simp at hb; subst hb
   have hab := h2.2.2 a (mem_dd.1 ha) b (by simp)
   cases e : lessP a b with
   | true => rfl
   | false =>
    have eab := Jtcx e hab
    subst eab
    obtain ⟨j, hj, ej⟩ := List.getElem_of_mem ha
    have hne : dd l ≠ [] := List.ne_nil_of_mem ha
    have hjl : j < (dd l).length - 1 := by
     rcases Nat.lt_or_ge j ((dd l).length - 1) with h | h
     ·exact h
     ·refine absurd ?_ hl
      rw [List.getLast?_eq_getElem?, show (dd l).length - 1 = j by omega, List.getElem?_eq_getElem hj, ej]
    have h3 := Jtk2 ih hjl (by omega)
    rw [ej] at h3
    have hm : (dd l)[(dd l).length - 1]'(by omega) ∈ l := mem_dd.1 (List.getElem_mem _)
    rw [h2.2.2 _ hm a (by simp)] at h3; cases h3
section
theorem Jtj1 {P : Program} {p : Nums} (A : All P p) : Jt3n P p.slices_Clone_Pair [.d (.sl [])] [] fun o H' => o = .ret (.d (.sl [])) ∧ H' = [] := by
 refine A.slices_Clone_Pair.run rfl fun R hR => ?_
 (simp (maxSteps := 1000000) [Jtbm])
 refine Jt1p (by rfl) (fun _ => ?_) ?_
 ·(simp (maxSteps := 1000000) [])
  exact hR _ _ (Jt3t _ _ rfl (by (exact wkvA)) ⟨rfl, rfl⟩)
 ·(simp (maxSteps := 1000000) [])
  refine Jt14 (by rfl) (by rfl) (by simp) (by decide) (by simp) (by simp) (fun hn => ?_) fun hn => absurd rfl hn
  (simp (maxSteps := 1000000) [])
  exact hR _ _ (Jt3t _ _ rfl (by (exact wkvA)) ⟨rfl, rfl⟩)
theorem Jtj0 {P : Program} {p : Nums} (A : All P p) (l : List Pair) (hl : l ≠ []) (h0 : l.length < 1000000) : Jt3n P p.slices_Clone_Pair [.d (pairsD l)] [] fun o H' => o = .ret (.hsl 0 0 2 l.length) ∧ H' = [.mem (Jthz (l.map Pair.row))] := by
 refine A.slices_Clone_Pair.run rfl fun R hR => ?_
 (simp (maxSteps := 1000000) [Jtbm, pairsD])
 refine Jt1p (by rfl) (fun h => absurd (by simpa using h) hl) ?_
 (simp (maxSteps := 1000000) [])
 refine Jt13 (.inl (by rfl)) (by rfl) (Jti8 fun _ => rfl) (by decide) (by simp; omega) (by simp; omega) (by simpa using hl) ?_
 (simp (maxSteps := 1000000) [])
 exact hR _ _ (Jt3s _ _ _ rfl (by (exact wkA)) ⟨by simp, rfl⟩)
theorem Jtj3 {P : Program} {p : Nums} (A : All P p) : Jt3n P p.slices_Compact_Pair [.d (.sl [])] [] fun o H' => o = .ret (.d (.sl [])) ∧ H' = [] := by
 refine A.slices_Compact_Pair.run rfl fun R hR => ?_
 (simp (maxSteps := 1000000) [Jtbn])
 exact hR _ _ (Jt3t _ _ rfl (by (exact wkvA)) ⟨rfl, rfl⟩)
theorem Jtj2 {P : Program} {p : Nums} (A : All P p) (l : List Pair) (hl : l ≠ []) (h0 : l.length < 1000000) : Jt3n P p.slices_Compact_Pair [.hsl 0 0 2 l.length] [.mem (Jthz (l.map Pair.row))] fun o H' => o = .ret (.hsl 0 0 2 (dd l).length) ∧ H' = [.mem (Jthz ((cptP l).map Pair.row))] := by
 refine A.slices_Compact_Pair.run rfl fun R hR => ?_
 (simp (maxSteps := 1000000) [Jtbn])
 have hpos : 0 < l.length := List.length_pos_iff.2 hl
 have dd1 : dd (l.take 1) = l.take 1 := by
  cases l with
  | nil => exact absurd rfl hl
  | cons x l => simp [dd, ddStep]
 have done : dd l = l → R .ret ⟨[(2, .hsl 0 0 2 l.length)], [.mem (Jthz (l.map Pair.row))]⟩ := by
  intro e
  refine hR _ _ (Jt3s _ (.hsl 0 0 2 l.length) [.mem (Jthz (l.map Pair.row))] rfl (by (exact wkA)) ⟨by rw [e], by rw [Jt6x e]⟩)
 ((first | refine Xc (fun h1 => ?_) (fun h1 => ?_) | refine Xo (fun h1 => ?_) (fun h1 => ?_)) <;> (try simp only [Xz, Xy] at h1))
 ·have e1 : l.length = 1 := by omega
  have : dd l = l := by rw [show l.take 1 = l from List.take_of_length_le (by omega)] at dd1; exact dd1
  (simp (maxSteps := 1000000) [h1])
  refine hR _ _ (Jt3s _ (.hsl 0 0 2 l.length) [.mem (Jthz (l.map Pair.row))] rfl (by (exact wkA)) ⟨by rw [this], by rw [Jt6x this]⟩)
 (simp (maxSteps := 1000000) [h1])
 refine Jt9 (fun k : Nat => ⟨[(3, AI k), (2, .nils), (0, .hsl 0 0 2 l.length)], [.mem (Jthz (l.map Pair.row))]⟩) (fun k => 1 ≤ k ∧ k ≤ l.length ∧ dd (l.take k) = l.take k) (fun k => l.length - k) 1 ⟨by omega, by omega, dd1⟩ (by (exact wkA)) ?_
 rintro k ⟨hk1, hk, hd⟩ N hN
 have hlc := Jti1 l
 (simp (maxSteps := 1000000) [])
 ((first | refine Xc (fun h2 => ?_) (fun h2 => ?_) | refine Xo (fun h2 => ?_) (fun h2 => ?_)) <;> (try simp only [Xz, Xy] at h2))
 ·have hkl : k < l.length := by omega
  have hw := Jtlx (k := k) (by omega)
  obtain ⟨km, hkm⟩ : ∃ km, km = k - 1 := ⟨_, rfl⟩
  have hw2 : IntKind.i64.wrap ((k : Int) - 1) = (km : Int) := by rw [wrap_i64 (by omega) (by omega)]; omega
  have hp1 := Jtfo (l := l) (k := km) (by omega)
  have hp2 := Jtfo (l := l) (k := k) hkl
  have hce := Jti3 (l.map Pair.row)
  obtain ⟨C, hC⟩ : ∃ C, C = Jthz (l.map Pair.row) := ⟨_, rfl⟩
  have hkml : km < l.length := by omega
  obtain ⟨x, hx⟩ : ∃ x, x = l[k] := ⟨_, rfl⟩
  obtain ⟨y, hy⟩ : ∃ y, y = l[km] := ⟨_, rfl⟩
  rw [← hC] at hlc hp1 hp2 hce ⊢
  rw [← hx] at hp2
  rw [← hy] at hp1
  have hl1 : km * 2 + 2 ≤ C.length := by omega
  have hl2 : k * 2 + 2 ≤ C.length := by omega
  have hk2 : (km : Int) < (l.length : Int) := by omega
  (simp (maxSteps := 1000000) [h2, hw2, hk2, hl1, hl2, hp1, hp2, hce, Jtfp])
  ((first | refine Xc (fun h3 => ?_) (fun h3 => ?_) | refine Xo (fun h3 => ?_) (fun h3 => ?_)) <;> (try simp only [Xz, Xy] at h3))
  ·have hsl : IntKind.i64.wrap 1 = 1 := by rw [wrap_i64 (by omega) (by omega)]
   have hkle : k ≤ l.length := by omega
   (simp (maxSteps := 1000000) [h3, hkle])
   have hdk : dd (l.take (k + 1)) = l.take k := by
    rw [Jt76 hk1 hkl, if_pos, hd]
    rw [← hx, h3, hy]; simp only [hkm]
   refine Jt9 (fun s : Nat × Nat × List Pair => ⟨[(5, AI s.1), (4, .hsl 0 (k * 2) 2 (l.length - k)), (3, AI s.2.1), (2, .nils), (0, .hsl 0 0 2 l.length)], [.mem (Jthz (s.2.2.map Pair.row))]⟩)
    (fun s => 1 ≤ s.1 ∧ k + s.1 ≤ l.length ∧ s.2.1 + 1 ≤ k + s.1 ∧ s.2.2.length = l.length ∧ s.2.2.take s.2.1 = dd (l.take (k + s.1)) ∧ s.2.2.drop (k + s.1 - 1) = l.drop (k + s.1 - 1)) (fun s => l.length - s.1) (1, k, l)
    ⟨by simp, by simp; omega, by simp, rfl, hdk.symm, rfl⟩ (by rw [hC]; (exact wkA)) ?_
   rintro ⟨j, i, cur⟩ ⟨hj1, hjn, hij, hcl, hct, hcd⟩ N2 hN2
   simp only at hj1 hjn hij hcl hct hcd hN2 ⊢
   have hlc2 := Jti1 cur
   have hce2 := Jti3 (cur.map Pair.row)
   (simp (maxSteps := 1000000) [])
   ((first | refine Xc (fun h4 => ?_) (fun h4 => ?_) | refine Xo (fun h4 => ?_) (fun h4 => ?_)) <;> (try simp only [Xz, Xy] at h4))
   ·have h4' : k + j < l.length := by omega
    have hcur : ∀ m, k + j - 1 ≤ m → (h : m < l.length) → cur[m]'(by omega) = l[m] := by
     intro m h5 h6
     have e1 : (cur.drop (k + j - 1))[m - (k + j - 1)]? = cur[m]? := by rw [List.getElem?_drop, Nat.add_sub_cancel' h5]
     have e2 : (l.drop (k + j - 1))[m - (k + j - 1)]? = l[m]? := by rw [List.getElem?_drop, Nat.add_sub_cancel' h5]
     rw [hcd, e2, List.getElem?_eq_getElem h6, List.getElem?_eq_getElem (by omega)] at e1
     injection e1 with e1; exact e1.symm
    obtain ⟨jm, hjm⟩ : ∃ jm, jm = j - 1 := ⟨_, rfl⟩
    have hwj := Jtlx (k := j) (by omega)
    have hwi := Jtlx (k := i) (by omega)
    have hwjm : IntKind.i64.wrap ((j : Int) - 1) = (jm : Int) := by rw [wrap_i64 (by omega) (by omega)]; omega
    have hq1 := Jtfo (l := cur) (k := k + j) (by omega)
    have hq2 := Jtfo (l := cur) (k := k + jm) (by omega)
    rw [hcur _ (by omega) (by omega), Nat.add_mul] at hq1 hq2
    have hdj := Jt76 (l := l) (k := k + j) (by omega) h4'
    have ejm : k + j - 1 = k + jm := by omega
    simp only [ejm] at hdj hcur hcd
    obtain ⟨u, hu⟩ : ∃ u, u = l[k + j] := ⟨_, rfl⟩
    obtain ⟨v, hv⟩ : ∃ v, v = l[k + jm]'(by omega) := ⟨_, rfl⟩
    rw [← hu] at hq1 hdj
    rw [← hv] at hq2 hdj
    have hset := Jtjn (rows := cur.map Pair.row) (e := 2) (k := i) (row := u.row) (Jti8 fun _ => rfl) rfl (by simp; omega)
    obtain ⟨E, hE⟩ : ∃ E, E = Jthz (cur.map Pair.row) := ⟨_, rfl⟩
    rw [← hE] at hlc2 hce2 hq1 hq2 hset ⊢
    have hm1 : k * 2 + j * 2 + 2 ≤ E.length := by omega
    have hm2 : k * 2 + jm * 2 + 2 ≤ E.length := by omega
    have hm3 : i * 2 + 2 ≤ E.length := by omega
    have hn1 : (j : Int) < ((l.length - k : Nat) : Int) := by omega
    have hn2 : (jm : Int) < ((l.length - k : Nat) : Int) := by omega
    have hn3 : (i : Int) < (l.length : Int) := by omega
    have hcd' : ∀ c : List Pair, c.drop (k + jm) = l.drop (k + jm) → c.drop (k + j) = l.drop (k + j) := by
     intro c hc
     have := congrArg (List.drop 1) hc
     rw [List.drop_drop, List.drop_drop] at this
     rwa [show k + jm + 1 = k + j by omega] at this
    (simp (maxSteps := 1000000) [h4, hwjm, hn1, hn2, hm1, hm2, hq1, hq2, hce2, Jtfp])
    ((first | refine Xc (fun h5 => ?_) (fun h5 => ?_) | refine Xo (fun h5 => ?_) (fun h5 => ?_)) <;> (try simp only [Xz, Xy] at h5))
    ·(simp (maxSteps := 1000000) [h5, hn1, hn2, hn3, hm1, hm2, hm3, hq1, hq2, hce2, hwi, hwj])
     rw [if_neg (by intro e; exact h5 e.symm)] at hdj
     have hset' : List.take (i * 2) E ++ AI u.v :: AI u.l :: List.drop (i * 2 + 2) E = Jthz ((cur.set i u).map Pair.row) := by
      rw [List.map_set, ← hset]; simp [spl, Pair.row]
     rw [hset']
     refine hN2 _ (j + 1, i + 1, cur.set i u) ⟨by simp only; omega, by simp only; omega, by simp only; omega, by simpa using hcl, ?_, ?_⟩ (by simp only; (exact wkA)) (by simp only; omega)
     ·simp only
      rw [← Nat.add_assoc, hdj, ← hct, List.take_add_one, List.getElem?_set_self (by omega), List.take_set_of_le (by omega)]; rfl
     ·simp only
      rw [show k + (j + 1) - 1 = k + j by omega, List.drop_set_of_lt (by omega)]; exact hcd' _ hcd
    ·(simp (maxSteps := 1000000) [h5, hwj])
     rw [if_pos (by simpa using Eq.symm (by simpa using h5))] at hdj
     refine hN2 _ (j + 1, i, cur) ⟨by simp only; omega, by simp only; omega, by simp only; omega, hcl, ?_, ?_⟩ (by simp only; rw [hE]; (exact wkA)) (by simp only; omega)
     ·simp only; rw [hct, ← Nat.add_assoc, hdj]
     ·simp only; rw [show k + (j + 1) - 1 = k + j by omega]; exact hcd' _ hcd
   ·have hj2 : k + j = l.length := by omega
    rw [hj2, List.take_length] at hct
    have hil : i < l.length := by omega
    have hil' : i ≤ l.length := by omega
    have hdl : (dd l).length = i := by rw [← hct]; simp; omega
    have hzero : ¬ (l.length - i = 0) := by omega
    (simp (maxSteps := 1000000) [hil'])
    refine Jt1f (by rfl) (by rfl) (by decide) (by omega) (by rfl) (by omega) ?_
    obtain ⟨T, hT⟩ : ∃ T : List Pair, T = List.replicate (l.length - i) (⟨0, 0⟩ : Pair) := ⟨_, rfl⟩
    obtain ⟨U, hU⟩ : ∃ U : List Pair, U = dd l ++ T := ⟨_, rfl⟩
    have hfin : spl (Jthz (cur.map Pair.row)) (i * 2) (Jthz (List.replicate (l.length - i) [I 0, I 0])) = Jthz (U.map Pair.row) := by
     have h7 : (Jthz (List.replicate (l.length - i) [I 0, I 0])).length = (l.length - i) * 2 := by
      rw [Jti4 (e := 2) (fun r hr => by rw [List.eq_of_mem_replicate hr]; rfl)]; simp
     rw [spl, Jti5 (e := 2) (rows := cur.map Pair.row) (Jti8 (f := Pair.row) fun _ => rfl), h7, List.drop_of_length_le (by omega), List.append_nil, ← List.map_take, hct, hU, hT]
     simp [Jthz, Pair.row]
    rw [hfin]
    (simp (maxSteps := 1000000) [hil'])
    refine hR _ _ (Jt3s _ (.hsl 0 0 2 i) [.mem (Jthz (U.map Pair.row))] rfl (by (exact wkA)) ⟨by rw [hdl], by rw [hU, hT, cptP, hdl]⟩)
  ·(simp (maxSteps := 1000000) [h3, hw])
   refine hN _ (k + 1) ⟨by omega, hkl, ?_⟩ (by rw [hC]; (exact wkA)) (by omega)
   have e : ¬ l[k - 1]'(by omega) = l[k] := by
    rw [← hx]; intro e; apply h3; rw [← e, hy]; simp only [hkm]
   rw [Jt76 hk1 hkl, if_neg e, hd, List.take_add_one, List.getElem?_eq_getElem hkl]; rfl
 ·have hk' : k = l.length := by omega
  subst hk'
  rw [List.take_length] at hd
  (simp (maxSteps := 1000000) [])
  refine hR _ _ (Jt3s _ (.hsl 0 0 2 l.length) [.mem (Jthz (l.map Pair.row))] rfl (by (exact wkA)) ⟨by rw [hd], by rw [Jt6x hd]⟩)
end
end Go.AE
