/- A part of the proof: the evaluator over abstract values, its codes, the contracts of the functions. -/
import Derived.Test.YtagckbahjfhckaaGreatC2
set_option linter.unusedVariables false
set_option linter.unusedSimpArgs false
set_option maxRecDepth 100000
namespace Go.AE
@[simp] abbrev zi (n : Int) : AV := .d (.int .i64 n)
@[simp] abbrev ci (n : Int) : Opd := .c (.d (.int .i64 n))
@[simp] abbrev qo (d : Nat) (io : AO) : IOp := ⟨some d, io, none, false⟩
@[simp] abbrev qp (d : Nat) (io : AO) : IOp := ⟨some d, io, none, true⟩
@[simp] abbrev qn (io : AO) : IOp := ⟨none, io, none, false⟩
@[simp] abbrev qm (io : AO) : IOp := ⟨none, io, none, true⟩
structure Nums where
 law16_CheckerMatchesReference : Nat
 law16_CheckerOnce : Nat
 law16_CheckerLocal : Nat
 law16_CheckerSubset : Nat
 law16_CheckerKeeps : Nat
 law16_CheckerSound : Nat
 law22_SpillallAccepted : Nat
 law16_awake : Nat
 ref16_Few : Nat
 checker_Valid : Nat
 ref16_Valid : Nat
 checker_Check : Nat
 ref16_Check : Nat
 ref07_Successors : Nat
 checker_Bound : Nat
 ref14_Check : Nat
 ref11_Missing : Nat
 ref16_Copy : Nat
 ref16_Same : Nat
 law16_simulates : Nat
 law22_awake : Nat
 ref07_Few : Nat
 ref07_Check : Nat
 spillall_Cert : Nat
 ref07_Same : Nat
 ref08_Few : Nat
 ref15_Few : Nat
 source_Check : Nat
 machine_Check : Nat
 edge_Valid : Nat
 ref08_Check : Nat
 ref15_Valid : Nat
 checker_begin : Nat
 blockcheck_Check : Nat
 source_Successors : Nat
 edge_Implies : Nat
 ref15_Initial : Nat
 source_Code : Nat
 machine_Code : Nat
 ref14_fail : Nat
 ref13_Code : Nat
 ref13_Terms : Nat
 ref14_grow : Nat
 ref12_Copy : Nat
 ref12_Move : Nat
 ref05_UsesA : Nat
 ref14_use : Nat
 ref05_UsesB : Nat
 ref05_UsesD : Nat
 ref12_Define : Nat
 ref11_Has : Nat
 ref07_Copy : Nat
 ref08_Copy : Nat
 ref08_Same : Nat
 ref15_Same : Nat
 interp_Exec : Nat
 execute_Exec : Nat
 ref09_Values : Nat
 ref09_Prefix : Nat
 spillall_Block : Nat
 spillall_Moves : Nat
 ref07_Code : Nat
 ref07_Instr : Nat
 ref07_Term : Nat
 slices_Clone_Instr : Nat
 spillall_invariant : Nat
 ref08_Code : Nat
 source_block : Nat
 machine_block : Nat
 edge_total : Nat
 edge_pairs : Nat
 ref08_Instr : Nat
 ref08_Moves : Nat
 ref04_InRange : Nat
 ref11_Less : Nat
 edge_Entry : Nat
 align_Code : Nat
 align_Terms : Nat
 pairset_Make : Nat
 blockcheck_checker_run : Nat
 pairset_Missing : Nat
 ref13_Operations : Nat
 ref13_Others : Nat
 ref13_Same : Nat
 ref11_Add : Nat
 ref11_Same : Nat
 interp_begin : Nat
 interp_state_step : Nat
 execute_begin : Nat
 execute_state_step : Nat
 spillall_builder_instr : Nat
 spillall_builder_add : Nat
 spillall_load : Nat
 ref07_in : Nat
 location_Slot : Nat
 source_Instr : Nat
 source_Term : Nat
 machine_Instr : Nat
 location_InRange : Nat
 pairset_Less : Nat
 edge_Initial : Nat
 align_skip_Instr : Nat
 align_copied : Nat
 align_skip_Mach : Nat
 align_moved : Nat
 align_Same : Nat
 slices_Clone_Pair : Nat
 slices_SortFunc_Pair : Nat
 pairset_compare : Nat
 slices_Compact_Pair : Nat
 blockcheck_checker_run_1 : Nat
 blockcheck_checker_row : Nat
 blockcheck_checker_use : Nat
 interp_state_instr : Nat
 interp_state_term : Nat
 execute_state_instr : Nat
 execute_state_term : Nat
 opcode_Of : Nat
 spillall_store : Nat
 location_Reg : Nat
 opcode_Source : Nat
 source_within : Nat
 source_blank : Nat
 opcode_Machine : Nat
 machine_others : Nat
 machine_moves : Nat
 location_IsSlot : Nat
 location_Index : Nat
 slices_pdqsortCmpFunc_Pair : Nat
 math_bits_Len : Nat
 blockcheck_checker_cost : Nat
 blockcheck_checker_become : Nat
 transfer_Copy : Nat
 transfer_Move : Nat
 blockcheck_checker_instr : Nat
 pairset_Has : Nat
 alu_Eval : Nat
 execute_state_compute : Nat
 execute_state_move : Nat
 execute_state_emit : Nat
 opcode_known : Nat
 machine_others_1 : Nat
 machine_others_2 : Nat
 machine_moves_1 : Nat
 machine_moves_2 : Nat
 slices_insertionSortCmpFunc_Pair : Nat
 slices_heapSortCmpFunc_Pair : Nat
 slices_breakPatternsCmpFunc_Pair : Nat
 slices_choosePivotCmpFunc_Pair : Nat
 slices_reverseRangeCmpFunc_Pair : Nat
 slices_partialInsertionSortCmpFunc_Pair : Nat
 slices_partitionEqualCmpFunc_Pair : Nat
 slices_partitionCmpFunc_Pair : Nat
 math_bits_Len32 : Nat
 math_bits_Len64 : Nat
 transfer_rename : Nat
 pairset_DropV : Nat
 transfer_Copy_1 : Nat
 pairset_DropL : Nat
 transfer_Move_1 : Nat
 transfer_Define : Nat
 pairset_find : Nat
 alu_operation : Nat
 execute_state_at : Nat
 slices_siftDownCmpFunc_Pair : Nat
 slices_nextPowerOfTwo : Nat
 slices_xorshift_Next : Nat
 slices_medianAdjacentCmpFunc_Pair : Nat
 slices_medianCmpFunc_Pair : Nat
 pairset_Union : Nat
 pairset_filter : Nat
 pairset_DropV_1 : Nat
 pairset_DropL_1 : Nat
 pairset_Add : Nat
 alu_operation_1 : Nat
 alu_operation_2 : Nat
 alu_operation_3 : Nat
 alu_operation_4 : Nat
 alu_operation_5 : Nat
 alu_operation_6 : Nat
 alu_operation_7 : Nat
 alu_operation_8 : Nat
 alu_operation_9 : Nat
 alu_operation_10 : Nat
 alu_operation_11 : Nat
 alu_truth : Nat
 alu_operation_12 : Nat
 slices_order2CmpFunc_Pair : Nat
 law11_PairsetMatchesReference : Nat
 law11_PairsetMatchesSets : Nat
 law11_PairsetOrder : Nat
 law11_PairsetSubsets : Nat
 law23_LivenessMatchesReference : Nat
 law23_LivenessEquations : Nat
 law23_LivenessSound : Nat
 law23_LivenessNecessary : Nat
 law23_LivenessAppended : Nat
 law11_PairsetDrops : Nat
 law11_PairsetKeeps : Nat
 law11_awake : Nat
 ref11_Make : Nat
 pairset_Sorted : Nat
 ref11_Sorted : Nat
 pairset_Subset : Nat
 law23_awake : Nat
 ref23_Used : Nat
 ref23_Defines : Nat
 ref07_Numbers : Nat
 liveness_Uses : Nat
 liveness_Defs : Nat
 ref23_Same : Nat
 liveness_In : Nat
 ref23_In : Nat
 liveness_Out : Nat
 ref23_Out : Nat
 ref23_Has : Nat
 ref09_Right : Nat
 ref09_Exec : Nat
 ref09_Step : Nat
 ref09_Copy : Nat
 law11_spoil : Nat
 liveness_scan : Nat
 liveness_set_sorted : Nat
 liveness_solve : Nat
 ref23_live : Nat
 liveness_exit : Nat
 ref09_Start : Nat
 ref06_Eval : Nat
 liveness_scan_1 : Nat
 slices_Sort_int : Nat
 ref06_bits : Nat
 ref06_half : Nat
 ref06_truth : Nat
 slices_pdqsortOrdered_int : Nat
 ref06_bit : Nat
 slices_insertionSortOrdered_int : Nat
 slices_heapSortOrdered_int : Nat
 slices_breakPatternsOrdered_int : Nat
 slices_choosePivotOrdered_int : Nat
 slices_reverseRangeOrdered_int : Nat
 slices_partialInsertionSortOrdered_int : Nat
 cmp_Less_int : Nat
 slices_partitionEqualOrdered_int : Nat
 slices_partitionOrdered_int : Nat
 slices_siftDownOrdered_int : Nat
 slices_medianAdjacentOrdered_int : Nat
 slices_medianOrdered_int : Nat
 cmp_isNaN_int : Nat
 slices_order2Ordered_int : Nat
 law12_TransferMatchesReference : Nat
 law12_TransferSound : Nat
 law12_TransferComplete : Nat
 law12_TransferMonotone : Nat
 law12_TransferKeeps : Nat
 law14_BlockcheckMatchesReference : Nat
 law14_BlockcheckSound : Nat
 law14_BlockcheckMonotone : Nat
 law14_BlockcheckSteps : Nat
 law14_BlockcheckKeeps : Nat
 law12_awake : Nat
 law12_known : Nat
 law12_holds : Nat
 law12_subset : Nat
 law14_awake : Nat
 law14_right : Nat
 ref14_Same : Nat
 law14_result : Nat
 ref10_Step : Nat
 ref10_Read : Nat
 law22_SpillallMatchesReference : Nat
 law22_SpillallKeeps : Nat
 law22_SpillallSlots : Nat
 ref22_Cert : Nat
 ref22_Block : Nat
 ref22_move : Nat
 law04_LocationBijection : Nat
 law04_LocationTexts : Nat
 law04_LocationMatchesReference : Nat
 law04_LocationRange : Nat
 law04_awake : Nat
 location_Parse : Nat
 location_Text : Nat
 ref04_Parse : Nat
 ref04_Text : Nat
 strconv_Itoa : Nat
 ref04_Number : Nat
 ref04_Decimal : Nat
 ty_bcfail : Nat
@[simp] def Jq7p (p : Nums) : List IOp := [qo 3 (.call p.law16_awake []), qo 4 (.un .not (.t 3)), qo 5 (.mov (.t 4)), ⟨(some 6), (.load (some 8) (.t 1)), (some (5, false)), false⟩, ⟨(some 7), (.call p.ref16_Few [(.t 6)]), (some (5, false)), false⟩, ⟨(some 8), (.un .not (.t 7)), (some (5, false)), false⟩, qo 9 (.pick (.t 5) (.c (.d (.bool true))) (.t 8))]
def Jq7m (p : Nums) : IC := (.region (Jq7p p) [])
@[simp] theorem Je7m {p : Nums} : EqI (Jq7m p) (.region (Jq7p p) []) := eqi
def Jq7n (p : Nums) : IC := (.seq (.region [⟨(some 10), (.call p.law16_awake []), none, false⟩, ⟨(some 2), (.asg (.t 10)), none, false⟩] []) .ret)
@[simp] theorem Je7n {p : Nums} : EqI (Jq7n p) (.seq (.region [⟨(some 10), (.call p.law16_awake []), none, false⟩, ⟨(some 2), (.asg (.t 10)), none, false⟩] []) .ret) := eqi
@[simp] def Jq7q (p : Nums) : List IOp := [qp 11 (.load (some 8) (.t 1)), qp 12 (.call p.checker_Valid [(.t 11)]), qp 13 (.load (some 8) (.t 1)), qo 14 (.call p.ref16_Valid [(.t 13)]), qo 15 (.bin .eql (.t 12) (.t 14)), qo 16 (.mov (.t 15)), ⟨(some 17), (.load (some 8) (.t 1)), (some (16, true)), true⟩, ⟨(some 18), (.call p.checker_Check [(.t 17)]), (some (16, true)), true⟩, ⟨(some 19), (.load (some 8) (.t 1)), (some (16, true)), true⟩, ⟨(some 20), (.call p.ref16_Check [(.t 19)]), (some (16, true)), false⟩, ⟨(some 21), (.eqs false [.int, .int, .int, .int, .int, .int, .int] (.t 18) (.t 20)), (some (16, true)), false⟩, qo 22 (.pick (.t 16) (.t 21) (.c (.d (.bool false)))), qo 2 (.asg (.t 22))]
def Jq7o (p : Nums) : IC := (.region (Jq7q p) [])
@[simp] theorem Je7o {p : Nums} : EqI (Jq7o p) (.region (Jq7q p) []) := eqi
def Jtai (p : Nums) : IC := (.seq (.region [⟨(some 1), (.box (.t 0)), none, false⟩, ⟨(some 2), (.asg (.c (.d (.bool false)))), none, false⟩] []) (.seq (.seq (Jq7m p) (.cond (.t 9) (Jq7n p) .skip)) (.seq (Jq7o p) .ret)))
@[simp] def Jq7y (p : Nums) : List IOp := [qo 6 (.build [(zi 0), (zi 0), (zi 0), (zi 0)] [(0, 1, (ci 3))]), qo 1 (.alloc [(zi 0), (zi 0), (zi 0), (zi 0)]), qn (.store 4 (.t 1) (.t 6))]
def Jq7r (p : Nums) : IC := (.region (Jq7y p) [])
@[simp] theorem Je7r {p : Nums} : EqI (Jq7r p) (.region (Jq7y p) []) := eqi
@[simp] def Jq7z (p : Nums) : List IOp := [qo 7 (.load (some 4) (.t 1)), qo 8 (.build [.nils, (zi 0), (zi 0), (zi 0), (zi 0)] [(1, 4, (.t 7))]), qo 9 (.bslice 5 1 [(.sl []), (.int .i64 0), (.int .i64 0), (.int .i64 0), (.int .i64 0)] [(0, (.t 8))]), qo 10 (.build [(zi 0), (zi 0), .nils] [(1, 1, (ci 1)), (2, 1, (.t 9))]), qo 11 (.load (some 4) (.t 1)), qo 12 (.build [.nils, (zi 0), (zi 0), (zi 0), (zi 0)] [(1, 4, (.t 11))]), qo 13 (.bslice 5 1 [(.sl []), (.int .i64 0), (.int .i64 0), (.int .i64 0), (.int .i64 0)] [(0, (.t 12))]), qo 14 (.build [(zi 0), (zi 0), (zi 0), .nils] [(1, 1, (ci 1)), (3, 1, (.t 13))]), qo 15 (.bslice 2 0 [(.int .i64 0), (.int .i64 0)] []), qo 16 (.bslice 1 1 [(.sl [])] [(0, (.t 15))]), qo 17 (.build [(zi 0), (zi 0), .nils, (zi 0), (zi 0), (zi 0), .nils, .nils] [(0, 3, (.t 10)), (3, 4, (.t 14)), (7, 1, (.t 16))]), qo 2 (.alloc [(zi 0), (zi 0), .nils, (zi 0), (zi 0), (zi 0), .nils, .nils]), qn (.store 8 (.t 2) (.t 17))]
def Jq7s (p : Nums) : IC := (.region (Jq7z p) [])
@[simp] theorem Je7s {p : Nums} : EqI (Jq7s p) (.region (Jq7z p) []) := eqi
@[simp] def Jq80 (p : Nums) : List IOp := [qo 18 (.load (some 8) (.t 2)), qo 3 (.alloc [(zi 0), (zi 0), .nils, (zi 0), (zi 0), (zi 0), .nils, .nils]), qn (.store 8 (.t 3) (.t 18))]
def Jq7t (p : Nums) : IC := (.region (Jq80 p) [])
@[simp] theorem Je7t {p : Nums} : EqI (Jq7t p) (.region (Jq80 p) []) := eqi
@[simp] def Jq81 (p : Nums) : List IOp := [qo 19 (.build [(zi 0), (zi 0)] [(0, 1, (ci 0)), (1, 1, (ci 0))]), qo 20 (.bslice 2 1 [(.int .i64 0), (.int .i64 0)] [(0, (.t 19))]), qo 21 (.bslice 1 1 [(.sl [])] [(0, (.t 20))]), qo 22 (.faddr 7 (.t 3)), qn (.store 1 (.t 22) (.t 21))]
def Jq7u (p : Nums) : IC := (.region (Jq81 p) [])
@[simp] theorem Je7u {p : Nums} : EqI (Jq7u p) (.region (Jq81 p) []) := eqi
@[simp] def Jq82 (p : Nums) : List IOp := [qo 23 (.load (some 8) (.t 2)), qo 24 (.call p.checker_Check [(.t 23)]), qo 4 (.alloc [(zi 0), (zi 0), (zi 0), (zi 0), (zi 0), (zi 0), (zi 0)]), qn (.store 7 (.t 4) (.t 24))]
def Jq7v (p : Nums) : IC := (.region (Jq82 p) [])
@[simp] theorem Je7v {p : Nums} : EqI (Jq7v p) (.region (Jq82 p) []) := eqi
@[simp] def Jq83 (p : Nums) : List IOp := [qo 25 (.load (some 8) (.t 3)), qo 26 (.call p.checker_Check [(.t 25)]), qo 5 (.alloc [(zi 0), (zi 0), (zi 0), (zi 0), (zi 0), (zi 0), (zi 0)]), qn (.store 7 (.t 5) (.t 26))]
def Jq7w (p : Nums) : IC := (.region (Jq83 p) [])
@[simp] theorem Je7w {p : Nums} : EqI (Jq7w p) (.region (Jq83 p) []) := eqi
@[simp] def Jq84 (p : Nums) : List IOp := [qo 27 (.load (some 7) (.t 4)), qo 28 (.build [(zi 0), (zi 0), (zi 0), (zi 0), (zi 0), (zi 0), (zi 0)] [(0, 1, (ci 21)), (3, 1, (ci 1)), (5, 1, (ci 2))]), qo 29 (.eqs false [.int, .int, .int, .int, .int, .int, .int] (.t 27) (.t 28)), qo 30 (.mov (.t 29)), ⟨(some 31), (.load (some 7) (.t 5)), (some (30, true)), false⟩, ⟨(some 32), (.build [(zi 0), (zi 0), (zi 0), (zi 0), (zi 0), (zi 0), (zi 0)] [(3, 1, (ci 1)), (5, 1, (ci 4)), (6, 1, (ci 1))]), (some (30, true)), false⟩, ⟨(some 33), (.eqs false [.int, .int, .int, .int, .int, .int, .int] (.t 31) (.t 32)), (some (30, true)), false⟩, qo 34 (.pick (.t 30) (.t 33) (.c (.d (.bool false)))), qo 35 (.mov (.t 34)), ⟨(some 36), (.load (some 8) (.t 2)), (some (35, true)), false⟩, ⟨(some 37), (.call p.checker_Valid [(.t 36)]), (some (35, true)), false⟩, ⟨(some 38), (.bin .eql (.t 37) (ci 0)), (some (35, true)), false⟩, qo 39 (.pick (.t 35) (.t 38) (.c (.d (.bool false)))), qo 40 (.mov (.t 39)), ⟨(some 41), (.build [(zi 0), (zi 0), .nils, (zi 0), (zi 0), (zi 0), .nils, .nils] []), (some (40, true)), false⟩, ⟨(some 42), (.call p.checker_Valid [(.t 41)]), (some (40, true)), false⟩, ⟨(some 43), (.bin .eql (.t 42) (ci 14)), (some (40, true)), false⟩, qo 44 (.pick (.t 40) (.t 43) (.c (.d (.bool false)))), qo 45 (.mov (.t 44)), ⟨(some 46), (.load (some 8) (.t 3)), (some (45, true)), false⟩, ⟨(some 47), (.call p.checker_Bound [(.t 46), (ci 1)]), (some (45, true)), false⟩, ⟨(some 48), (.bin .eql (.t 47) (ci 12)), (some (45, true)), false⟩, qo 49 (.pick (.t 45) (.t 48) (.c (.d (.bool false)))), qo 50 (.mov (.t 49)), ⟨(some 51), (.build [(zi 0), (zi 0), .nils, (zi 0), (zi 0), (zi 0), .nils, .nils] []), (some (50, true)), false⟩, ⟨(some 52), (.call p.checker_Check [(.t 51)]), (some (50, true)), false⟩, ⟨(some 53), (.build [(zi 0), (zi 0), (zi 0), (zi 0), (zi 0), (zi 0), (zi 0)] [(0, 1, (ci 14))]), (some (50, true)), false⟩, ⟨(some 54), (.eqs false [.int, .int, .int, .int, .int, .int, .int] (.t 52) (.t 53)), (some (50, true)), false⟩, qo 55 (.pick (.t 50) (.t 54) (.c (.d (.bool false)))), qo 0 (.asg (.t 55))]
def Jq7x (p : Nums) : IC := (.region (Jq84 p) [])
@[simp] theorem Je7x {p : Nums} : EqI (Jq7x p) (.region (Jq84 p) []) := eqi
def Jtaj (p : Nums) : IC := (.seq (.region [⟨(some 0), (.asg (.c (.d (.bool false)))), none, false⟩] []) (.seq (Jq7r p) (.seq (Jq7s p) (.seq (Jq7t p) (.seq (Jq7u p) (.seq (Jq7v p) (.seq (Jq7w p) (.seq (Jq7x p) .ret))))))))
@[simp] def Jquk (p : Nums) : List IOp := [qo 3 (.faddr 0 (.t 1)), qo 4 (.load (some 3) (.t 3)), qo 5 (.call p.ref07_Few [(.t 4)]), qo 6 (.mov (.t 5)), ⟨(some 7), (.faddr 3 (.t 1)), (some (6, true)), false⟩, ⟨(some 8), (.load (some 4) (.t 7)), (some (6, true)), false⟩, ⟨(some 9), (.call p.ref08_Few [(.t 8)]), (some (6, true)), false⟩, qo 10 (.pick (.t 6) (.t 9) (.c (.d (.bool false)))), qo 11 (.mov (.t 10)), ⟨(some 12), (.faddr 7 (.t 1)), (some (11, true)), false⟩, ⟨(some 13), (.load none (.t 12)), (some (11, true)), false⟩, ⟨(some 14), (.call p.ref15_Few [(.t 13)]), (some (11, true)), false⟩, qo 15 (.pick (.t 11) (.t 14) (.c (.d (.bool false)))), qo 2 (.asg (.t 15))]
def Jquj (p : Nums) : IC := (.region (Jquk p) [])
@[simp] theorem Jeuj {p : Nums} : EqI (Jquj p) (.region (Jquk p) []) := eqi
def Jtcf (p : Nums) : IC := (.seq (.region [⟨(some 1), (.box (.t 0)), none, false⟩, ⟨(some 2), (.asg (.c (.d (.bool false)))), none, false⟩] []) (.seq (Jquj p) .ret))
@[simp] def Jq58 (p : Nums) : List IOp := [qo 5 (.faddr 0 (.t 1)), qo 6 (.load (some 3) (.t 5)), qo 7 (.call p.source_Check [(.t 6)]), qo 3 (.asg (.t 7))]
def Jq51 (p : Nums) : IC := (.region (Jq58 p) [])
@[simp] theorem Je51 {p : Nums} : EqI (Jq51 p) (.region (Jq58 p) []) := eqi
def Jq52 (p : Nums) : IC := (.seq (.region [⟨(some 10), (.mov (.t 3)), none, false⟩, ⟨(some 2), (.asg (.t 10)), none, false⟩] []) .ret)
@[simp] theorem Je52 {p : Nums} : EqI (Jq52 p) (.seq (.region [⟨(some 10), (.mov (.t 3)), none, false⟩, ⟨(some 2), (.asg (.t 10)), none, false⟩] []) .ret) := eqi
@[simp] def Jq59 (p : Nums) : List IOp := [qo 11 (.faddr 3 (.t 1)), qo 12 (.load (some 4) (.t 11)), qo 13 (.call p.machine_Check [(.t 12)]), qo 4 (.asg (.t 13))]
def Jq53 (p : Nums) : IC := (.region (Jq59 p) [])
@[simp] theorem Je53 {p : Nums} : EqI (Jq53 p) (.region (Jq59 p) []) := eqi
def Jq54 (p : Nums) : IC := (.seq (.region [⟨(some 16), (.mov (.t 4)), none, false⟩, ⟨(some 2), (.asg (.t 16)), none, false⟩] []) .ret)
@[simp] theorem Je54 {p : Nums} : EqI (Jq54 p) (.seq (.region [⟨(some 16), (.mov (.t 4)), none, false⟩, ⟨(some 2), (.asg (.t 16)), none, false⟩] []) .ret) := eqi
@[simp] def Jq5a (p : Nums) : List IOp := [qo 17 (.faddr 0 (.t 1)), qo 18 (.faddr 2 (.t 17)), qo 19 (.load none (.t 18)), qo 20 (.len (.t 19)), qo 21 (.faddr 3 (.t 1)), qo 22 (.faddr 3 (.t 21)), qo 23 (.load none (.t 22)), qo 24 (.len (.t 23)), qo 25 (.bin .neq (.t 20) (.t 24)), qo 26 (.mov (.t 25)), ⟨(some 27), (.faddr 0 (.t 1)), (some (26, false)), false⟩, ⟨(some 28), (.faddr 0 (.t 27)), (some (26, false)), false⟩, ⟨(some 29), (.load none (.t 28)), (some (26, false)), false⟩, ⟨(some 30), (.faddr 3 (.t 1)), (some (26, false)), false⟩, ⟨(some 31), (.faddr 0 (.t 30)), (some (26, false)), false⟩, ⟨(some 32), (.load none (.t 31)), (some (26, false)), false⟩, ⟨(some 33), (.bin .neq (.t 29) (.t 32)), (some (26, false)), false⟩, qo 34 (.pick (.t 26) (.c (.d (.bool true))) (.t 33))]
def Jq55 (p : Nums) : IC := (.region (Jq5a p) [])
@[simp] theorem Je55 {p : Nums} : EqI (Jq55 p) (.region (Jq5a p) []) := eqi
def Jq56 (p : Nums) : IC := (.seq (.region [⟨(some 2), (.asg (.c (.d (.int .i64 14)))), none, false⟩] []) .ret)
@[simp] theorem Je56 {p : Nums} : EqI (Jq56 p) (.seq (.region [⟨(some 2), (.asg (.c (.d (.int .i64 14)))), none, false⟩] []) .ret) := eqi
@[simp] def Jq5b (p : Nums) : List IOp := [qo 35 (.faddr 7 (.t 1)), qo 36 (.load none (.t 35)), qo 37 (.faddr 0 (.t 1)), qo 38 (.faddr 2 (.t 37)), qo 39 (.load none (.t 38)), qo 40 (.len (.t 39)), qo 41 (.faddr 0 (.t 1)), qo 42 (.faddr 1 (.t 41)), qo 43 (.load none (.t 42)), qo 44 (.faddr 3 (.t 1)), qo 45 (.faddr 1 (.t 44)), qo 46 (.load none (.t 45)), qo 47 (.faddr 3 (.t 1)), qo 48 (.faddr 2 (.t 47)), qo 49 (.load none (.t 48)), qo 50 (.call p.edge_Valid [(.t 36), (.t 40), (.t 43), (.t 46), (.t 49)]), qo 2 (.asg (.t 50))]
def Jq57 (p : Nums) : IC := (.region (Jq5b p) [])
@[simp] theorem Je57 {p : Nums} : EqI (Jq57 p) (.region (Jq5b p) []) := eqi
def Jtaa (p : Nums) : IC := (.seq (.region [⟨(some 1), (.box (.t 0)), none, false⟩, ⟨(some 2), (.asg (.c (.d (.int .i64 0)))), none, false⟩] []) (.seq (.seq (Jq51 p) (.seq (.region [⟨(some 8), (.mov (.t 3)), none, false⟩, ⟨(some 9), (.bin .neq (.t 8) (.c (.d (.int .i64 0)))), none, false⟩] []) (.cond (.t 9) (Jq52 p) .skip))) (.seq (.seq (Jq53 p) (.seq (.region [⟨(some 14), (.mov (.t 4)), none, false⟩, ⟨(some 15), (.bin .neq (.t 14) (.c (.d (.int .i64 0)))), none, false⟩] []) (.cond (.t 15) (Jq54 p) .skip))) (.seq (.seq (Jq55 p) (.cond (.t 34) (Jq56 p) .skip)) (.seq (Jq57 p) .ret)))))
@[simp] def Jqus (p : Nums) : List IOp := [qo 5 (.faddr 0 (.t 1)), qo 6 (.load (some 3) (.t 5)), qo 7 (.call p.ref07_Check [(.t 6)]), qo 3 (.asg (.t 7))]
def Jqul (p : Nums) : IC := (.region (Jqus p) [])
@[simp] theorem Jeul {p : Nums} : EqI (Jqul p) (.region (Jqus p) []) := eqi
def Jqum (p : Nums) : IC := (.seq (.region [⟨(some 10), (.mov (.t 3)), none, false⟩, ⟨(some 2), (.asg (.t 10)), none, false⟩] []) .ret)
@[simp] theorem Jeum {p : Nums} : EqI (Jqum p) (.seq (.region [⟨(some 10), (.mov (.t 3)), none, false⟩, ⟨(some 2), (.asg (.t 10)), none, false⟩] []) .ret) := eqi
@[simp] def Jqut (p : Nums) : List IOp := [qo 11 (.faddr 3 (.t 1)), qo 12 (.load (some 4) (.t 11)), qo 13 (.call p.ref08_Check [(.t 12)]), qo 4 (.asg (.t 13))]
def Jqun (p : Nums) : IC := (.region (Jqut p) [])
@[simp] theorem Jeun {p : Nums} : EqI (Jqun p) (.region (Jqut p) []) := eqi
def Jquo (p : Nums) : IC := (.seq (.region [⟨(some 16), (.mov (.t 4)), none, false⟩, ⟨(some 2), (.asg (.t 16)), none, false⟩] []) .ret)
@[simp] theorem Jeuo {p : Nums} : EqI (Jquo p) (.seq (.region [⟨(some 16), (.mov (.t 4)), none, false⟩, ⟨(some 2), (.asg (.t 16)), none, false⟩] []) .ret) := eqi
@[simp] def Jquu (p : Nums) : List IOp := [qo 17 (.faddr 0 (.t 1)), qo 18 (.faddr 2 (.t 17)), qo 19 (.load none (.t 18)), qo 20 (.len (.t 19)), qo 21 (.faddr 3 (.t 1)), qo 22 (.faddr 3 (.t 21)), qo 23 (.load none (.t 22)), qo 24 (.len (.t 23)), qo 25 (.bin .neq (.t 20) (.t 24)), qo 26 (.mov (.t 25)), ⟨(some 27), (.faddr 0 (.t 1)), (some (26, false)), false⟩, ⟨(some 28), (.faddr 0 (.t 27)), (some (26, false)), false⟩, ⟨(some 29), (.load none (.t 28)), (some (26, false)), false⟩, ⟨(some 30), (.faddr 3 (.t 1)), (some (26, false)), false⟩, ⟨(some 31), (.faddr 0 (.t 30)), (some (26, false)), false⟩, ⟨(some 32), (.load none (.t 31)), (some (26, false)), false⟩, ⟨(some 33), (.bin .neq (.t 29) (.t 32)), (some (26, false)), false⟩, qo 34 (.pick (.t 26) (.c (.d (.bool true))) (.t 33))]
def Jqup (p : Nums) : IC := (.region (Jquu p) [])
@[simp] theorem Jeup {p : Nums} : EqI (Jqup p) (.region (Jquu p) []) := eqi
def Jquq (p : Nums) : IC := (.seq (.region [⟨(some 2), (.asg (.c (.d (.int .i64 14)))), none, false⟩] []) .ret)
@[simp] theorem Jeuq {p : Nums} : EqI (Jquq p) (.seq (.region [⟨(some 2), (.asg (.c (.d (.int .i64 14)))), none, false⟩] []) .ret) := eqi
@[simp] def Jquv (p : Nums) : List IOp := [qo 35 (.faddr 7 (.t 1)), qo 36 (.load none (.t 35)), qo 37 (.faddr 0 (.t 1)), qo 38 (.faddr 2 (.t 37)), qo 39 (.load none (.t 38)), qo 40 (.len (.t 39)), qo 41 (.faddr 0 (.t 1)), qo 42 (.faddr 1 (.t 41)), qo 43 (.load none (.t 42)), qo 44 (.faddr 3 (.t 1)), qo 45 (.faddr 1 (.t 44)), qo 46 (.load none (.t 45)), qo 47 (.faddr 3 (.t 1)), qo 48 (.faddr 2 (.t 47)), qo 49 (.load none (.t 48)), qo 50 (.call p.ref15_Valid [(.t 36), (.t 40), (.t 43), (.t 46), (.t 49)]), qo 2 (.asg (.t 50))]
def Jqur (p : Nums) : IC := (.region (Jquv p) [])
@[simp] theorem Jeur {p : Nums} : EqI (Jqur p) (.region (Jquv p) []) := eqi
def Jtcg (p : Nums) : IC := (.seq (.region [⟨(some 1), (.box (.t 0)), none, false⟩, ⟨(some 2), (.asg (.c (.d (.int .i64 0)))), none, false⟩] []) (.seq (Jqul p) (.seq (.seq (.region [⟨(some 8), (.mov (.t 3)), none, false⟩, ⟨(some 9), (.bin .neq (.t 8) (.c (.d (.int .i64 0)))), none, false⟩] []) (.cond (.t 9) (Jqum p) .skip)) (.seq (Jqun p) (.seq (.seq (.region [⟨(some 14), (.mov (.t 4)), none, false⟩, ⟨(some 15), (.bin .neq (.t 14) (.c (.d (.int .i64 0)))), none, false⟩] []) (.cond (.t 15) (Jquo p) .skip)) (.seq (.seq (Jqup p) (.cond (.t 34) (Jquq p) .skip)) (.seq (Jqur p) .ret)))))))
@[simp] def Jq4l (p : Nums) : List IOp := [qo 1 (.box (.t 0)), qo 2 (.alloc [(zi 0), (zi 0), (zi 0), (zi 0), (zi 0), (zi 0), (zi 0)])]
def Jq40 (p : Nums) : IC := (.region (Jq4l p) [])
@[simp] theorem Je40 {p : Nums} : EqI (Jq40 p) (.region (Jq4l p) []) := eqi
@[simp] def Jq4u (p : Nums) : List IOp := [qo 12 (.load (some 8) (.t 1)), qo 13 (.call p.checker_Valid [(.t 12)]), qo 3 (.asg (.t 13))]
def Jq4b (p : Nums) : IC := (.region (Jq4u p) [])
@[simp] theorem Je4b {p : Nums} : EqI (Jq4b p) (.region (Jq4u p) []) := eqi
@[simp] def Jq4v (p : Nums) : List IOp := [qo 16 (.mov (.t 3)), qo 17 (.build [(zi 0), (zi 0), (zi 0), (zi 0), (zi 0), (zi 0), (zi 0)] [(0, 1, (.t 16))]), qn (.store 7 (.t 2) (.t 17))]
def Jq4e (p : Nums) : IC := (.region (Jq4v p) [])
@[simp] theorem Je4e {p : Nums} : EqI (Jq4e p) (.region (Jq4v p) []) := eqi
@[simp] def Jq4w (p : Nums) : List IOp := [qo 18 (.load (some 8) (.t 1)), qo 19 (.call p.checker_begin [(.t 18)]), qo 4 (.alloc [(zi 0), (zi 0), (zi 0), (zi 0), (zi 0), (zi 0), (zi 0)]), qn (.store 7 (.t 4) (.t 19))]
def Jq4f (p : Nums) : IC := (.region (Jq4w p) [])
@[simp] theorem Je4f {p : Nums} : EqI (Jq4f p) (.region (Jq4w p) []) := eqi
@[simp] def Jq4x (p : Nums) : List IOp := [qo 20 (.faddr 0 (.t 4)), qo 21 (.load none (.t 20)), qo 22 (.bin .neq (.t 21) (ci 0))]
def Jq4g (p : Nums) : IC := (.region (Jq4x p) [])
@[simp] theorem Je4g {p : Nums} : EqI (Jq4g p) (.region (Jq4x p) []) := eqi
def Jq4h (p : Nums) : IC := (.seq (.region [⟨(some 23), (.load (some 7) (.t 4)), none, false⟩, ⟨none, (.store 7 (.t 2) (.t 23)), none, false⟩] []) .ret)
@[simp] theorem Je4h {p : Nums} : EqI (Jq4h p) (.seq (.region [⟨(some 23), (.load (some 7) (.t 4)), none, false⟩, ⟨none, (.store 7 (.t 2) (.t 23)), none, false⟩] []) .ret) := eqi
@[simp] def Jq4y (p : Nums) : List IOp := [qo 24 (.faddr 0 (.t 1)), qo 25 (.faddr 2 (.t 24)), qo 26 (.load none (.t 25)), qo 27 (.len (.t 26)), qo 28 (.mov (ci 0))]
def Jq4i (p : Nums) : IC := (.region (Jq4y p) [])
@[simp] theorem Je4i {p : Nums} : EqI (Jq4i p) (.region (Jq4y p) []) := eqi
@[simp] def Jq4z (p : Nums) : List IOp := [qo 30 (.mov (.t 28)), qo 31 (.iaddr 5 (.t 26) (.t 28)), qo 32 (.load (some 5) (.t 31)), qo 6 (.alloc [.nils, (zi 0), (zi 0), (zi 0), (zi 0)]), qo 5 (.asg (.t 30)), qn (.store 5 (.t 6) (.t 32))]
def Jq4j (p : Nums) : IC := (.region (Jq4z p) [])
@[simp] theorem Je4j {p : Nums} : EqI (Jq4j p) (.region (Jq4z p) []) := eqi
@[simp] def Jq50 (p : Nums) : List IOp := [qp 33 (.load (some 5) (.t 6)), qp 34 (.faddr 3 (.t 1)), qp 35 (.faddr 3 (.t 34)), qp 36 (.load none (.t 35)), qp 37 (.mov (.t 5)), qp 38 (.iaddr 5 (.t 36) (.t 37)), qp 39 (.load (some 5) (.t 38)), qp 40 (.faddr 7 (.t 1)), qp 41 (.load none (.t 40)), qp 42 (.mov (.t 5)), qp 43 (.iaddr 1 (.t 41) (.t 42)), qp 44 (.load none (.t 43)), qp 45 (.call p.blockcheck_Check [(.t 33), (.t 39), (.t 44), (ci 1048576)]), qp 7 (.alloc [.nils, (zi 0), (zi 0), (zi 0), (zi 0)]), qn (.store 5 (.t 7) (.t 45))]
def Jq4k (p : Nums) : IC := (.region (Jq50 p) [])
@[simp] theorem Je4k {p : Nums} : EqI (Jq4k p) (.region (Jq50 p) []) := eqi
@[simp] def Jq4m (p : Nums) : List IOp := [qp 46 (.faddr 3 (.t 4)), qp 47 (.load none (.t 46)), qp 48 (.bin .add (.t 47) (ci 1)), qp 49 (.faddr 5 (.t 4)), qp 50 (.load none (.t 49)), qp 51 (.faddr 3 (.t 7)), qp 52 (.load none (.t 51)), qp 53 (.bin .add (.t 50) (.t 52)), qp 54 (.faddr 6 (.t 4)), qp 55 (.load none (.t 54)), qp 56 (.faddr 4 (.t 7)), qp 57 (.load none (.t 56)), qp 58 (.mx (.t 55) (.t 57)), qp 59 (.faddr 3 (.t 4)), qm (.storeq 1 (.t 59) (.t 48) [(51, 1), (56, 1)]), qp 60 (.faddr 5 (.t 4)), qm (.storeq 1 (.t 60) (.t 53) [(56, 1)]), qo 61 (.faddr 6 (.t 4)), qn (.store 1 (.t 61) (.t 58))]
def Jq41 (p : Nums) : IC := (.region (Jq4m p) [])
@[simp] theorem Je41 {p : Nums} : EqI (Jq41 p) (.region (Jq4m p) []) := eqi
@[simp] def Jq4n (p : Nums) : List IOp := [qo 62 (.faddr 1 (.t 7)), qo 63 (.load none (.t 62)), qo 64 (.bin .neq (.t 63) (ci 0))]
def Jq42 (p : Nums) : IC := (.region (Jq4n p) [])
@[simp] theorem Je42 {p : Nums} : EqI (Jq42 p) (.region (Jq4n p) []) := eqi
@[simp] def Jq4o (p : Nums) : List IOp := [qp 65 (.faddr 1 (.t 7)), qp 66 (.load none (.t 65)), qp 67 (.mov (.t 5)), qp 68 (.faddr 2 (.t 7)), qp 69 (.load none (.t 68)), qp 70 (.faddr 0 (.t 4)), qm (.storeq 1 (.t 70) (.t 66) [(68, 1)]), qp 71 (.faddr 1 (.t 4)), qm (.storeq 1 (.t 71) (.t 67) [(68, 1)]), qo 72 (.faddr 2 (.t 4)), qn (.store 1 (.t 72) (.t 69))]
def Jq43 (p : Nums) : IC := (.region (Jq4o p) [])
@[simp] theorem Je43 {p : Nums} : EqI (Jq43 p) (.region (Jq4o p) []) := eqi
@[simp] def Jq4p (p : Nums) : List IOp := [qo 73 (.faddr 1 (.t 6)), qo 74 (.load (some 4) (.t 73)), qo 75 (.call p.source_Successors [(.t 74)]), qo 76 (.len (.t 75)), qo 77 (.mov (ci 0))]
def Jq44 (p : Nums) : IC := (.region (Jq4p p) [])
@[simp] theorem Je44 {p : Nums} : EqI (Jq44 p) (.region (Jq4p p) []) := eqi
@[simp] def Jq4q (p : Nums) : List IOp := [qo 79 (.mov (.t 77)), qo 80 (.iaddr 1 (.t 75) (.t 77)), qo 81 (.load none (.t 80)), qo 8 (.asg (.t 79)), qo 9 (.asg (.t 81))]
def Jq45 (p : Nums) : IC := (.region (Jq4q p) [])
@[simp] theorem Je45 {p : Nums} : EqI (Jq45 p) (.region (Jq4q p) []) := eqi
@[simp] def Jq4r (p : Nums) : List IOp := [qp 82 (.faddr 4 (.t 4)), qp 83 (.load none (.t 82)), qp 84 (.bin .add (.t 83) (ci 1)), qp 85 (.faddr 5 (.t 4)), qp 86 (.load none (.t 85)), qp 87 (.bin .add (.t 86) (ci 1)), qp 88 (.faddr 0 (.t 7)), qp 89 (.load none (.t 88)), qp 90 (.len (.t 89)), qp 91 (.bin .add (.t 87) (.t 90)), qp 92 (.faddr 7 (.t 1)), qp 93 (.load none (.t 92)), qp 94 (.mov (.t 9)), qp 95 (.iaddr 1 (.t 93) (.t 94)), qp 96 (.load none (.t 95)), qp 97 (.len (.t 96)), qp 98 (.bin .add (.t 91) (.t 97)), qp 99 (.faddr 4 (.t 4)), qm (.storeq 1 (.t 99) (.t 84) [(88, 1), (92, 1), (95, 1)]), qo 100 (.faddr 5 (.t 4)), qn (.store 1 (.t 100) (.t 98))]
def Jq46 (p : Nums) : IC := (.region (Jq4r p) [])
@[simp] theorem Je46 {p : Nums} : EqI (Jq46 p) (.region (Jq4r p) []) := eqi
@[simp] def Jq4s (p : Nums) : List IOp := [qp 102 (.faddr 0 (.t 7)), qp 103 (.load none (.t 102)), qp 104 (.faddr 7 (.t 1)), qp 105 (.load none (.t 104)), qp 106 (.mov (.t 9)), qp 107 (.iaddr 1 (.t 105) (.t 106)), qp 108 (.load none (.t 107)), qp 109 (.call p.edge_Implies [(.t 103), (.t 108)]), qp 101 (.mov (.t 109)), qp 110 (.ext (.t 101) 0), qp 111 (.ext (.t 101) 1), qp 10 (.alloc [(zi 0), (zi 0)]), qm (.storeq 2 (.t 10) (.t 110) []), qo 11 (.asg (.t 111))]
def Jq47 (p : Nums) : IC := (.region (Jq4s p) [])
@[simp] theorem Je47 {p : Nums} : EqI (Jq47 p) (.region (Jq4s p) []) := eqi
@[simp] def Jq4t (p : Nums) : List IOp := [qo 114 (.mov (.t 11)), qo 115 (.mov (.t 5)), qo 116 (.mov (.t 8)), qo 117 (.faddr 0 (.t 4)), qn (.store 1 (.t 117) (.t 114)), qo 118 (.faddr 1 (.t 4)), qn (.store 1 (.t 118) (.t 115)), qo 119 (.faddr 2 (.t 4)), qn (.store 1 (.t 119) (.t 116))]
def Jq48 (p : Nums) : IC := (.region (Jq4t p) [])
@[simp] theorem Je48 {p : Nums} : EqI (Jq48 p) (.region (Jq4t p) []) := eqi
def Jq49 (p : Nums) : IC := (.seq (Jq45 p) (.seq (Jq46 p) (.seq (Jq47 p) (.seq (.region [⟨(some 112), (.mov (.t 11)), none, false⟩, ⟨(some 113), (.bin .neq (.t 112) (.c (.d (.int .i64 0)))), none, false⟩] []) (.cond (.t 113) (.seq (Jq48 p) (.exit 0)) .skip)))))
@[simp] theorem Je49 {p : Nums} : EqI (Jq49 p) (.seq (Jq45 p) (.seq (Jq46 p) (.seq (Jq47 p) (.seq (.region [⟨(some 112), (.mov (.t 11)), none, false⟩, ⟨(some 113), (.bin .neq (.t 112) (.c (.d (.int .i64 0)))), none, false⟩] []) (.cond (.t 113) (.seq (Jq48 p) (.exit 0)) .skip))))) := eqi
def Jq4a (p : Nums) : IC := (.seq (.region [⟨(some 78), (.bin .lss (.t 77) (.t 76)), none, false⟩] []) (.seq (.cond (.t 78) .skip (.exit 2)) (.seq (.block 3 (Jq49 p)) (.region [⟨(some 120), (.bin .add (.t 77) (.c (.d (.int .i64 1)))), none, false⟩, ⟨(some 77), (.mov (.t 120)), none, false⟩] []))))
@[simp] theorem Je4a {p : Nums} : EqI (Jq4a p) (.seq (.region [⟨(some 78), (.bin .lss (.t 77) (.t 76)), none, false⟩] []) (.seq (.cond (.t 78) .skip (.exit 2)) (.seq (.block 3 (Jq49 p)) (.region [⟨(some 120), (.bin .add (.t 77) (.c (.d (.int .i64 1)))), none, false⟩, ⟨(some 77), (.mov (.t 120)), none, false⟩] [])))) := eqi
def Jq4c (p : Nums) : IC := (.seq (Jq4j p) (.seq (Jq4k p) (.seq (Jq41 p) (.seq (.seq (Jq42 p) (.cond (.t 64) (.seq (Jq43 p) (.exit 0)) .skip)) (.seq (Jq44 p) (.block 2 (.loop (Jq4a p))))))))
@[simp] theorem Je4c {p : Nums} : EqI (Jq4c p) (.seq (Jq4j p) (.seq (Jq4k p) (.seq (Jq41 p) (.seq (.seq (Jq42 p) (.cond (.t 64) (.seq (Jq43 p) (.exit 0)) .skip)) (.seq (Jq44 p) (.block 2 (.loop (Jq4a p)))))))) := eqi
def Jq4d (p : Nums) : IC := (.seq (.region [⟨(some 29), (.bin .lss (.t 28) (.t 27)), none, false⟩] []) (.seq (.cond (.t 29) .skip (.exit 0)) (.seq (.block 1 (Jq4c p)) (.region [⟨(some 121), (.bin .add (.t 28) (.c (.d (.int .i64 1)))), none, false⟩, ⟨(some 28), (.mov (.t 121)), none, false⟩] []))))
@[simp] theorem Je4d {p : Nums} : EqI (Jq4d p) (.seq (.region [⟨(some 29), (.bin .lss (.t 28) (.t 27)), none, false⟩] []) (.seq (.cond (.t 29) .skip (.exit 0)) (.seq (.block 1 (Jq4c p)) (.region [⟨(some 121), (.bin .add (.t 28) (.c (.d (.int .i64 1)))), none, false⟩, ⟨(some 28), (.mov (.t 121)), none, false⟩] [])))) := eqi
def Jta9 (p : Nums) : IC := (.seq (Jq40 p) (.seq (.seq (Jq4b p) (.seq (.region [⟨(some 14), (.mov (.t 3)), none, false⟩, ⟨(some 15), (.bin .neq (.t 14) (.c (.d (.int .i64 0)))), none, false⟩] []) (.cond (.t 15) (.seq (Jq4e p) .ret) .skip))) (.seq (Jq4f p) (.seq (.seq (Jq4g p) (.cond (.t 22) (Jq4h p) .skip)) (.seq .skip (.seq (.seq (Jq4i p) (.block 0 (.loop (Jq4d p)))) (.seq (.region [⟨(some 122), (.load (some 7) (.t 4)), none, false⟩, ⟨none, (.store 7 (.t 2) (.t 122)), none, false⟩] []) .ret)))))))
@[simp] def Jqto (p : Nums) : List IOp := [qo 1 (.box (.t 0)), qo 2 (.alloc [(zi 0), (zi 0), (zi 0), (zi 0), (zi 0), (zi 0), (zi 0)])]
def Jqsh (p : Nums) : IC := (.region (Jqto p) [])
@[simp] theorem Jesh {p : Nums} : EqI (Jqsh p) (.region (Jqto p) []) := eqi
@[simp] def Jqtv (p : Nums) : List IOp := [qo 3 (.alloc [(zi 0), (zi 0), (zi 0), (zi 0), (zi 0), (zi 0), (zi 0)])]
def Jqss (p : Nums) : IC := (.region (Jqtv p) [])
@[simp] theorem Jess {p : Nums} : EqI (Jqss p) (.region (Jqtv p) []) := eqi
@[simp] def Jqu5 (p : Nums) : List IOp := [qo 13 (.load (some 8) (.t 1)), qo 14 (.call p.ref16_Valid [(.t 13)]), qo 4 (.asg (.t 14))]
def Jqt3 (p : Nums) : IC := (.region (Jqu5 p) [])
@[simp] theorem Jet3 {p : Nums} : EqI (Jqt3 p) (.region (Jqu5 p) []) := eqi
@[simp] def Jque (p : Nums) : List IOp := [qo 17 (.mov (.t 4)), qo 18 (.faddr 0 (.t 3)), qn (.store 1 (.t 18) (.t 17))]
def Jqte (p : Nums) : IC := (.region (Jque p) [])
@[simp] theorem Jete {p : Nums} : EqI (Jqte p) (.region (Jque p) []) := eqi
def Jqtj (p : Nums) : IC := (.seq (Jqte p) (.seq (.region [⟨(some 19), (.load (some 7) (.t 3)), none, false⟩, ⟨none, (.store 7 (.t 2) (.t 19)), none, false⟩] []) .ret))
@[simp] theorem Jetj {p : Nums} : EqI (Jqtj p) (.seq (Jqte p) (.seq (.region [⟨(some 19), (.load (some 7) (.t 3)), none, false⟩, ⟨none, (.store 7 (.t 2) (.t 19)), none, false⟩] []) .ret)) := eqi
@[simp] def Jqug (p : Nums) : List IOp := [qo 20 (.mov (.t 5)), qo 21 (.faddr 7 (.t 1)), qo 22 (.load none (.t 21)), qo 23 (.len (.t 22)), qo 24 (.bin .lss (.t 20) (.t 23))]
def Jqtk (p : Nums) : IC := (.region (Jqug p) [])
@[simp] theorem Jetk {p : Nums} : EqI (Jqtk p) (.region (Jqug p) []) := eqi
@[simp] def Jquh (p : Nums) : List IOp := [qp 27 (.faddr 7 (.t 1)), qp 28 (.load none (.t 27)), qp 29 (.mov (.t 5)), qp 30 (.iaddr 1 (.t 28) (.t 29)), qp 31 (.load none (.t 30)), qp 32 (.len (.t 31)), qp 33 (.faddr 6 (.t 3)), qp 34 (.load none (.t 33)), qo 35 (.bin .gtr (.t 32) (.t 34))]
def Jqtl (p : Nums) : IC := (.region (Jquh p) [])
@[simp] theorem Jetl {p : Nums} : EqI (Jqtl p) (.region (Jquh p) []) := eqi
@[simp] def Jqui (p : Nums) : List IOp := [qo 36 (.faddr 7 (.t 1)), qo 37 (.load none (.t 36)), qo 38 (.mov (.t 5)), qo 39 (.iaddr 1 (.t 37) (.t 38)), qo 40 (.load none (.t 39)), qo 41 (.len (.t 40)), qo 42 (.faddr 6 (.t 3)), qn (.store 1 (.t 42) (.t 41))]
def Jqtm (p : Nums) : IC := (.region (Jqui p) [])
@[simp] theorem Jetm {p : Nums} : EqI (Jqtm p) (.region (Jqui p) []) := eqi
def Jqtn (p : Nums) : IC := (.seq (Jqtl p) (.cond (.t 35) (Jqtm p) .skip))
@[simp] theorem Jetn {p : Nums} : EqI (Jqtn p) (.seq (Jqtl p) (.cond (.t 35) (Jqtm p) .skip)) := eqi
@[simp] def Jqtp (p : Nums) : List IOp := [qo 25 (.mov (.t 5)), qo 26 (.bin .add (.t 25) (ci 1)), qo 5 (.asg (.t 26))]
def Jqsi (p : Nums) : IC := (.region (Jqtp p) [])
@[simp] theorem Jesi {p : Nums} : EqI (Jqsi p) (.region (Jqtp p) []) := eqi
def Jqsj (p : Nums) : IC := (.seq (.seq (Jqtk p) (.cond (.t 24) .skip (.exit 0))) (.seq (.block 1 (Jqtn p)) (Jqsi p)))
@[simp] theorem Jesj {p : Nums} : EqI (Jqsj p) (.seq (.seq (Jqtk p) (.cond (.t 24) .skip (.exit 0))) (.seq (.block 1 (Jqtn p)) (Jqsi p))) := eqi
@[simp] def Jqtq (p : Nums) : List IOp := [qo 43 (.faddr 7 (.t 1)), qo 44 (.load none (.t 43)), qo 45 (.iaddr 1 (.t 44) (ci 0)), qo 46 (.load none (.t 45)), qo 47 (.len (.t 46)), qo 48 (.bin .add (ci 1) (.t 47)), qo 49 (.faddr 5 (.t 3)), qn (.store 1 (.t 49) (.t 48))]
def Jqsk (p : Nums) : IC := (.region (Jqtq p) [])
@[simp] theorem Jesk {p : Nums} : EqI (Jqsk p) (.region (Jqtq p) []) := eqi
@[simp] def Jqtr (p : Nums) : List IOp := [qo 50 (.mov (.t 6)), qo 51 (.faddr 7 (.t 1)), qo 52 (.load none (.t 51)), qo 53 (.iaddr 1 (.t 52) (ci 0)), qo 54 (.load none (.t 53)), qo 55 (.len (.t 54)), qo 56 (.bin .lss (.t 50) (.t 55))]
def Jqsl (p : Nums) : IC := (.region (Jqtr p) [])
@[simp] theorem Jesl {p : Nums} : EqI (Jqsl p) (.region (Jqtr p) []) := eqi
@[simp] def Jqts (p : Nums) : List IOp := [qp 59 (.faddr 7 (.t 1)), qp 60 (.load none (.t 59)), qp 61 (.iaddr 1 (.t 60) (ci 0)), qp 62 (.load none (.t 61)), qp 63 (.mov (.t 6)), qp 64 (.iaddr 2 (.t 62) (.t 63)), qp 65 (.load (some 2) (.t 64)), qp 66 (.faddr 0 (.t 1)), qp 67 (.faddr 0 (.t 66)), qp 68 (.load none (.t 67)), qo 69 (.call p.ref15_Initial [(.t 65), (.t 68)]), qo 70 (.un .not (.t 69))]
def Jqsm (p : Nums) : IC := (.region (Jqts p) [])
@[simp] theorem Jesm {p : Nums} : EqI (Jqsm p) (.region (Jqts p) []) := eqi
def Jqsn (p : Nums) : IC := (.seq (.region [⟨(some 71), (.faddr 0 (.t 3)), none, false⟩, ⟨none, (.store 1 (.t 71) (.c (.d (.int .i64 23)))), none, false⟩] []) (.seq (.region [⟨(some 72), (.load (some 7) (.t 3)), none, false⟩, ⟨none, (.store 7 (.t 2) (.t 72)), none, false⟩] []) .ret))
@[simp] theorem Jesn {p : Nums} : EqI (Jqsn p) (.seq (.region [⟨(some 71), (.faddr 0 (.t 3)), none, false⟩, ⟨none, (.store 1 (.t 71) (.c (.d (.int .i64 23)))), none, false⟩] []) (.seq (.region [⟨(some 72), (.load (some 7) (.t 3)), none, false⟩, ⟨none, (.store 7 (.t 2) (.t 72)), none, false⟩] []) .ret)) := eqi
def Jqso (p : Nums) : IC := (.seq (Jqsm p) (.cond (.t 70) (Jqsn p) .skip))
@[simp] theorem Jeso {p : Nums} : EqI (Jqso p) (.seq (Jqsm p) (.cond (.t 70) (Jqsn p) .skip)) := eqi
@[simp] def Jqtt (p : Nums) : List IOp := [qo 57 (.mov (.t 6)), qo 58 (.bin .add (.t 57) (ci 1)), qo 6 (.asg (.t 58))]
def Jqsp (p : Nums) : IC := (.region (Jqtt p) [])
@[simp] theorem Jesp {p : Nums} : EqI (Jqsp p) (.region (Jqtt p) []) := eqi
def Jqsq (p : Nums) : IC := (.seq (.seq (Jqsl p) (.cond (.t 56) .skip (.exit 2))) (.seq (.block 3 (Jqso p)) (Jqsp p)))
@[simp] theorem Jesq {p : Nums} : EqI (Jqsq p) (.seq (.seq (Jqsl p) (.cond (.t 56) .skip (.exit 2))) (.seq (.block 3 (Jqso p)) (Jqsp p))) := eqi
@[simp] def Jqtu (p : Nums) : List IOp := [qo 73 (.mov (.t 7)), qo 74 (.faddr 0 (.t 1)), qo 75 (.faddr 2 (.t 74)), qo 76 (.load none (.t 75)), qo 77 (.len (.t 76)), qo 78 (.bin .lss (.t 73) (.t 77))]
def Jqsr (p : Nums) : IC := (.region (Jqtu p) [])
@[simp] theorem Jesr {p : Nums} : EqI (Jqsr p) (.region (Jqtu p) []) := eqi
@[simp] def Jqtw (p : Nums) : List IOp := [qp 81 (.faddr 0 (.t 1)), qp 82 (.faddr 2 (.t 81)), qp 83 (.load none (.t 82)), qp 84 (.mov (.t 7)), qp 85 (.iaddr 5 (.t 83) (.t 84)), qp 86 (.load (some 5) (.t 85)), qp 87 (.faddr 3 (.t 1)), qp 88 (.faddr 3 (.t 87)), qp 89 (.load none (.t 88)), qp 90 (.mov (.t 7)), qp 91 (.iaddr 5 (.t 89) (.t 90)), qp 92 (.load (some 5) (.t 91)), qp 93 (.faddr 7 (.t 1)), qp 94 (.load none (.t 93)), qp 95 (.mov (.t 7)), qp 96 (.iaddr 1 (.t 94) (.t 95)), qp 97 (.load none (.t 96)), qp 98 (.call p.ref14_Check [(.t 86), (.t 92), (.t 97), (ci 1048576)]), qp 8 (.alloc [.nils, (zi 0), (zi 0), (zi 0), (zi 0)]), qn (.store 5 (.t 8) (.t 98))]
def Jqst (p : Nums) : IC := (.region (Jqtw p) [])
@[simp] theorem Jest {p : Nums} : EqI (Jqst p) (.region (Jqtw p) []) := eqi
@[simp] def Jqtx (p : Nums) : List IOp := [qo 99 (.faddr 3 (.t 3)), qo 100 (.load none (.t 99)), qo 101 (.bin .add (.t 100) (ci 1)), qo 102 (.faddr 3 (.t 3)), qn (.store 1 (.t 102) (.t 101))]
def Jqsu (p : Nums) : IC := (.region (Jqtx p) [])
@[simp] theorem Jesu {p : Nums} : EqI (Jqsu p) (.region (Jqtx p) []) := eqi
@[simp] def Jqty (p : Nums) : List IOp := [qo 103 (.faddr 5 (.t 3)), qo 104 (.load none (.t 103)), qo 105 (.faddr 3 (.t 8)), qo 106 (.load none (.t 105)), qo 107 (.bin .add (.t 104) (.t 106)), qo 108 (.faddr 5 (.t 3)), qn (.store 1 (.t 108) (.t 107))]
def Jqsv (p : Nums) : IC := (.region (Jqty p) [])
@[simp] theorem Jesv {p : Nums} : EqI (Jqsv p) (.region (Jqty p) []) := eqi
@[simp] def Jqtz (p : Nums) : List IOp := [qo 109 (.faddr 4 (.t 8)), qo 110 (.load none (.t 109)), qo 111 (.faddr 6 (.t 3)), qo 112 (.load none (.t 111)), qo 113 (.bin .gtr (.t 110) (.t 112))]
def Jqsw (p : Nums) : IC := (.region (Jqtz p) [])
@[simp] theorem Jesw {p : Nums} : EqI (Jqsw p) (.region (Jqtz p) []) := eqi
@[simp] def Jqu0 (p : Nums) : List IOp := [qo 114 (.faddr 4 (.t 8)), qo 115 (.load none (.t 114)), qo 116 (.faddr 6 (.t 3)), qn (.store 1 (.t 116) (.t 115))]
def Jqsx (p : Nums) : IC := (.region (Jqu0 p) [])
@[simp] theorem Jesx {p : Nums} : EqI (Jqsx p) (.region (Jqu0 p) []) := eqi
@[simp] def Jqu1 (p : Nums) : List IOp := [qo 117 (.faddr 1 (.t 8)), qo 118 (.load none (.t 117)), qo 119 (.bin .neq (.t 118) (ci 0))]
def Jqsy (p : Nums) : IC := (.region (Jqu1 p) [])
@[simp] theorem Jesy {p : Nums} : EqI (Jqsy p) (.region (Jqu1 p) []) := eqi
@[simp] def Jqu2 (p : Nums) : List IOp := [qo 120 (.faddr 1 (.t 8)), qo 121 (.load none (.t 120)), qo 122 (.faddr 0 (.t 3)), qn (.store 1 (.t 122) (.t 121))]
def Jqsz (p : Nums) : IC := (.region (Jqu2 p) [])
@[simp] theorem Jesz {p : Nums} : EqI (Jqsz p) (.region (Jqu2 p) []) := eqi
@[simp] def Jqu3 (p : Nums) : List IOp := [qo 123 (.mov (.t 7)), qo 124 (.faddr 1 (.t 3)), qn (.store 1 (.t 124) (.t 123))]
def Jqt0 (p : Nums) : IC := (.region (Jqu3 p) [])
@[simp] theorem Jet0 {p : Nums} : EqI (Jqt0 p) (.region (Jqu3 p) []) := eqi
@[simp] def Jqu4 (p : Nums) : List IOp := [qo 125 (.faddr 2 (.t 8)), qo 126 (.load none (.t 125)), qo 127 (.faddr 2 (.t 3)), qn (.store 1 (.t 127) (.t 126))]
def Jqt1 (p : Nums) : IC := (.region (Jqu4 p) [])
@[simp] theorem Jet1 {p : Nums} : EqI (Jqt1 p) (.region (Jqu4 p) []) := eqi
def Jqt2 (p : Nums) : IC := (.seq (Jqsz p) (.seq (Jqt0 p) (.seq (Jqt1 p) (.seq (.region [⟨(some 128), (.load (some 7) (.t 3)), none, false⟩, ⟨none, (.store 7 (.t 2) (.t 128)), none, false⟩] []) .ret))))
@[simp] theorem Jet2 {p : Nums} : EqI (Jqt2 p) (.seq (Jqsz p) (.seq (Jqt0 p) (.seq (Jqt1 p) (.seq (.region [⟨(some 128), (.load (some 7) (.t 3)), none, false⟩, ⟨none, (.store 7 (.t 2) (.t 128)), none, false⟩] []) .ret)))) := eqi
@[simp] def Jqu6 (p : Nums) : List IOp := [qo 129 (.faddr 0 (.t 1)), qo 130 (.faddr 2 (.t 129)), qo 131 (.load none (.t 130)), qo 132 (.mov (.t 7)), qo 133 (.iaddr 5 (.t 131) (.t 132)), qo 134 (.faddr 1 (.t 133)), qo 135 (.load (some 4) (.t 134)), qo 136 (.call p.ref07_Successors [(.t 135)]), qo 9 (.asg (.t 136))]
def Jqt4 (p : Nums) : IC := (.region (Jqu6 p) [])
@[simp] theorem Jet4 {p : Nums} : EqI (Jqt4 p) (.region (Jqu6 p) []) := eqi
@[simp] def Jqu7 (p : Nums) : List IOp := [qo 137 (.mov (.t 10)), qo 138 (.mov (.t 9)), qo 139 (.len (.t 138)), qo 140 (.bin .lss (.t 137) (.t 139))]
def Jqt5 (p : Nums) : IC := (.region (Jqu7 p) [])
@[simp] theorem Jet5 {p : Nums} : EqI (Jqt5 p) (.region (Jqu7 p) []) := eqi
@[simp] def Jqu8 (p : Nums) : List IOp := [qo 143 (.faddr 4 (.t 3)), qo 144 (.load none (.t 143)), qo 145 (.bin .add (.t 144) (ci 1)), qo 146 (.faddr 4 (.t 3)), qn (.store 1 (.t 146) (.t 145))]
def Jqt6 (p : Nums) : IC := (.region (Jqu8 p) [])
@[simp] theorem Jet6 {p : Nums} : EqI (Jqt6 p) (.region (Jqu8 p) []) := eqi
@[simp] def Jqu9 (p : Nums) : List IOp := [qp 147 (.faddr 5 (.t 3)), qp 148 (.load none (.t 147)), qp 149 (.bin .add (.t 148) (ci 1)), qp 150 (.faddr 0 (.t 8)), qp 151 (.load none (.t 150)), qp 152 (.len (.t 151)), qp 153 (.bin .add (.t 149) (.t 152)), qp 154 (.faddr 7 (.t 1)), qp 155 (.load none (.t 154)), qp 156 (.mov (.t 9)), qp 157 (.mov (.t 10)), qp 158 (.iaddr 1 (.t 156) (.t 157)), qp 159 (.load none (.t 158)), qp 160 (.iaddr 1 (.t 155) (.t 159)), qp 161 (.load none (.t 160)), qp 162 (.len (.t 161)), qo 163 (.bin .add (.t 153) (.t 162)), qo 164 (.faddr 5 (.t 3)), qn (.store 1 (.t 164) (.t 163))]
def Jqt7 (p : Nums) : IC := (.region (Jqu9 p) [])
@[simp] theorem Jet7 {p : Nums} : EqI (Jqt7 p) (.region (Jqu9 p) []) := eqi
@[simp] def Jqua (p : Nums) : List IOp := [qp 166 (.faddr 7 (.t 1)), qp 167 (.load none (.t 166)), qp 168 (.mov (.t 9)), qp 169 (.mov (.t 10)), qp 170 (.iaddr 1 (.t 168) (.t 169)), qp 171 (.load none (.t 170)), qp 172 (.iaddr 1 (.t 167) (.t 171)), qp 173 (.load none (.t 172)), qp 174 (.faddr 0 (.t 8)), qp 175 (.load none (.t 174)), qp 176 (.call p.ref11_Missing [(.t 173), (.t 175)]), qp 165 (.mov (.t 176)), qp 177 (.ext (.t 165) 0), qp 178 (.ext (.t 165) 1), qp 11 (.alloc [(zi 0), (zi 0)]), qm (.storeq 2 (.t 11) (.t 177) []), qo 12 (.asg (.t 178))]
def Jqt8 (p : Nums) : IC := (.region (Jqua p) [])
@[simp] theorem Jet8 {p : Nums} : EqI (Jqt8 p) (.region (Jqua p) []) := eqi
@[simp] def Jqub (p : Nums) : List IOp := [qo 181 (.mov (.t 7)), qo 182 (.faddr 1 (.t 3)), qn (.store 1 (.t 182) (.t 181))]
def Jqt9 (p : Nums) : IC := (.region (Jqub p) [])
@[simp] theorem Jet9 {p : Nums} : EqI (Jqt9 p) (.region (Jqub p) []) := eqi
@[simp] def Jquc (p : Nums) : List IOp := [qo 183 (.mov (.t 10)), qo 184 (.faddr 2 (.t 3)), qn (.store 1 (.t 184) (.t 183))]
def Jqta (p : Nums) : IC := (.region (Jquc p) [])
@[simp] theorem Jeta {p : Nums} : EqI (Jqta p) (.region (Jquc p) []) := eqi
def Jqtb (p : Nums) : IC := (.seq (.region [⟨(some 180), (.faddr 0 (.t 3)), none, false⟩, ⟨none, (.store 1 (.t 180) (.c (.d (.int .i64 22)))), none, false⟩] []) (.seq (Jqt9 p) (.seq (Jqta p) (.seq (.region [⟨(some 185), (.load (some 7) (.t 3)), none, false⟩, ⟨none, (.store 7 (.t 2) (.t 185)), none, false⟩] []) .ret))))
@[simp] theorem Jetb {p : Nums} : EqI (Jqtb p) (.seq (.region [⟨(some 180), (.faddr 0 (.t 3)), none, false⟩, ⟨none, (.store 1 (.t 180) (.c (.d (.int .i64 22)))), none, false⟩] []) (.seq (Jqt9 p) (.seq (Jqta p) (.seq (.region [⟨(some 185), (.load (some 7) (.t 3)), none, false⟩, ⟨none, (.store 7 (.t 2) (.t 185)), none, false⟩] []) .ret)))) := eqi
def Jqtc (p : Nums) : IC := (.seq (Jqt6 p) (.seq (Jqt7 p) (.seq (Jqt8 p) (.seq (.region [⟨(some 179), (.mov (.t 12)), none, false⟩] []) (.cond (.t 179) (Jqtb p) .skip)))))
@[simp] theorem Jetc {p : Nums} : EqI (Jqtc p) (.seq (Jqt6 p) (.seq (Jqt7 p) (.seq (Jqt8 p) (.seq (.region [⟨(some 179), (.mov (.t 12)), none, false⟩] []) (.cond (.t 179) (Jqtb p) .skip))))) := eqi
@[simp] def Jqud (p : Nums) : List IOp := [qo 141 (.mov (.t 10)), qo 142 (.bin .add (.t 141) (ci 1)), qo 10 (.asg (.t 142))]
def Jqtd (p : Nums) : IC := (.region (Jqud p) [])
@[simp] theorem Jetd {p : Nums} : EqI (Jqtd p) (.region (Jqud p) []) := eqi
def Jqtf (p : Nums) : IC := (.seq (.seq (Jqt5 p) (.cond (.t 140) .skip (.exit 6))) (.seq (.block 7 (Jqtc p)) (Jqtd p)))
@[simp] theorem Jetf {p : Nums} : EqI (Jqtf p) (.seq (.seq (Jqt5 p) (.cond (.t 140) .skip (.exit 6))) (.seq (.block 7 (Jqtc p)) (Jqtd p))) := eqi
def Jqtg (p : Nums) : IC := (.seq (Jqst p) (.seq (Jqsu p) (.seq (Jqsv p) (.seq (.seq (Jqsw p) (.cond (.t 113) (Jqsx p) .skip)) (.seq (.seq (Jqsy p) (.cond (.t 119) (Jqt2 p) .skip)) (.seq (Jqt4 p) (.seq (.region [⟨(some 10), (.asg (.c (.d (.int .i64 0)))), none, false⟩] []) (.block 6 (.loop (Jqtf p))))))))))
@[simp] theorem Jetg {p : Nums} : EqI (Jqtg p) (.seq (Jqst p) (.seq (Jqsu p) (.seq (Jqsv p) (.seq (.seq (Jqsw p) (.cond (.t 113) (Jqsx p) .skip)) (.seq (.seq (Jqsy p) (.cond (.t 119) (Jqt2 p) .skip)) (.seq (Jqt4 p) (.seq (.region [⟨(some 10), (.asg (.c (.d (.int .i64 0)))), none, false⟩] []) (.block 6 (.loop (Jqtf p)))))))))) := eqi
@[simp] def Jquf (p : Nums) : List IOp := [qo 79 (.mov (.t 7)), qo 80 (.bin .add (.t 79) (ci 1)), qo 7 (.asg (.t 80))]
def Jqth (p : Nums) : IC := (.region (Jquf p) [])
@[simp] theorem Jeth {p : Nums} : EqI (Jqth p) (.region (Jquf p) []) := eqi
def Jqti (p : Nums) : IC := (.seq (.seq (Jqsr p) (.cond (.t 78) .skip (.exit 4))) (.seq (.block 5 (Jqtg p)) (Jqth p)))
@[simp] theorem Jeti {p : Nums} : EqI (Jqti p) (.seq (.seq (Jqsr p) (.cond (.t 78) .skip (.exit 4))) (.seq (.block 5 (Jqtg p)) (Jqth p))) := eqi
def Jtce (p : Nums) : IC := (.seq (Jqsh p) (.seq (Jqss p) (.seq (Jqt3 p) (.seq (.seq (.region [⟨(some 15), (.mov (.t 4)), none, false⟩, ⟨(some 16), (.bin .neq (.t 15) (.c (.d (.int .i64 0)))), none, false⟩] []) (.cond (.t 16) (Jqtj p) .skip)) (.seq (.seq (.region [⟨(some 5), (.asg (.c (.d (.int .i64 0)))), none, false⟩] []) (.block 0 (.loop (Jqsj p)))) (.seq (Jqsk p) (.seq (.seq (.region [⟨(some 6), (.asg (.c (.d (.int .i64 0)))), none, false⟩] []) (.block 2 (.loop (Jqsq p)))) (.seq (.seq (.region [⟨(some 7), (.asg (.c (.d (.int .i64 0)))), none, false⟩] []) (.block 4 (.loop (Jqti p)))) (.seq (.region [⟨(some 186), (.load (some 7) (.t 3)), none, false⟩, ⟨none, (.store 7 (.t 2) (.t 186)), none, false⟩] []) .ret)))))))))
@[simp] def Jqgu (p : Nums) : List IOp := [qo 3 (.faddr 0 (.t 1)), qo 4 (.load none (.t 3)), qo 5 (.bin .eql (.t 4) (ci 1))]
def Jqgq (p : Nums) : IC := (.region (Jqgu p) [])
@[simp] theorem Jegq {p : Nums} : EqI (Jqgq p) (.region (Jqgu p) []) := eqi
@[simp] def Jqgv (p : Nums) : List IOp := [qo 6 (.faddr 2 (.t 1)), qo 7 (.load none (.t 6)), qo 8 (.bslice 1 1 [(.int .i64 0)] [(0, (.t 7))]), qo 2 (.asg (.t 8))]
def Jqgr (p : Nums) : IC := (.region (Jqgv p) [])
@[simp] theorem Jegr {p : Nums} : EqI (Jqgr p) (.region (Jqgv p) []) := eqi
@[simp] def Jqgw (p : Nums) : List IOp := [qo 9 (.faddr 0 (.t 1)), qo 10 (.load none (.t 9)), qo 11 (.bin .eql (.t 10) (ci 2))]
def Jqgs (p : Nums) : IC := (.region (Jqgw p) [])
@[simp] theorem Jegs {p : Nums} : EqI (Jqgs p) (.region (Jqgw p) []) := eqi
@[simp] def Jqgx (p : Nums) : List IOp := [qo 12 (.faddr 2 (.t 1)), qo 13 (.load none (.t 12)), qo 14 (.faddr 3 (.t 1)), qo 15 (.load none (.t 14)), qo 16 (.bslice 1 2 [(.int .i64 0)] [(0, (.t 13)), (1, (.t 15))]), qo 2 (.asg (.t 16))]
def Jqgt (p : Nums) : IC := (.region (Jqgx p) [])
@[simp] theorem Jegt {p : Nums} : EqI (Jqgt p) (.region (Jqgx p) []) := eqi
def Jtbn (p : Nums) : IC := (.seq (.region [⟨(some 1), (.box (.t 0)), none, false⟩, ⟨(some 2), (.asg (.c .nils)), none, false⟩] []) (.seq (.seq (Jqgq p) (.cond (.t 5) (.seq (Jqgr p) .ret) .skip)) (.seq (.seq (Jqgs p) (.cond (.t 11) (.seq (Jqgt p) .ret) .skip)) (.seq (.region [⟨(some 2), (.asg (.c .nils)), none, false⟩] []) .ret))))
@[simp] def Jq3v (p : Nums) : List IOp := [qp 8 (.faddr 0 (.t 2)), qp 9 (.load (some 3) (.t 8)), qp 10 (.call p.source_Code [(.t 9)]), qp 11 (.faddr 3 (.t 2)), qp 12 (.load (some 4) (.t 11)), qp 13 (.call p.machine_Code [(.t 12)]), qp 14 (.bin .add (.t 10) (.t 13)), qp 15 (.faddr 0 (.t 2)), qp 16 (.faddr 2 (.t 15)), qp 17 (.load none (.t 16)), qp 18 (.len (.t 17)), qo 19 (.bin .add (.t 14) (.t 18)), qo 20 (.bin .add (.t 19) (ci 1)), qo 5 (.asg (.t 20))]
def Jq3p (p : Nums) : IC := (.region (Jq3v p) [])
@[simp] theorem Je3p {p : Nums} : EqI (Jq3p p) (.region (Jq3v p) []) := eqi
@[simp] def Jq3w (p : Nums) : List IOp := [qo 21 (.faddr 0 (.t 2)), qo 22 (.faddr 2 (.t 21)), qo 23 (.load none (.t 22)), qo 24 (.len (.t 23)), qo 25 (.mov (ci 0))]
def Jq3q (p : Nums) : IC := (.region (Jq3w p) [])
@[simp] theorem Je3q {p : Nums} : EqI (Jq3q p) (.region (Jq3w p) []) := eqi
@[simp] def Jq3x (p : Nums) : List IOp := [qo 27 (.iaddr 5 (.t 23) (.t 25)), qo 28 (.load (some 5) (.t 27)), qo 7 (.alloc [.nils, (zi 0), (zi 0), (zi 0), (zi 0)]), qn (.store 5 (.t 7) (.t 28))]
def Jq3r (p : Nums) : IC := (.region (Jq3x p) [])
@[simp] theorem Je3r {p : Nums} : EqI (Jq3r p) (.region (Jq3x p) []) := eqi
@[simp] def Jq3y (p : Nums) : List IOp := [qo 29 (.mov (.t 5)), qo 30 (.faddr 1 (.t 7)), qo 31 (.load (some 4) (.t 30)), qo 32 (.call p.source_Successors [(.t 31)]), qo 33 (.len (.t 32)), qo 34 (.bin .add (.t 29) (.t 33)), qo 5 (.asg (.t 34))]
def Jq3s (p : Nums) : IC := (.region (Jq3y p) [])
@[simp] theorem Je3s {p : Nums} : EqI (Jq3s p) (.region (Jq3y p) []) := eqi
def Jq3t (p : Nums) : IC := (.seq (.region [⟨(some 26), (.bin .lss (.t 25) (.t 24)), none, false⟩] []) (.seq (.cond (.t 26) .skip (.exit 0)) (.seq (.block 1 (.seq (Jq3r p) (Jq3s p))) (.region [⟨(some 35), (.bin .add (.t 25) (.c (.d (.int .i64 1)))), none, false⟩, ⟨(some 25), (.mov (.t 35)), none, false⟩] []))))
@[simp] theorem Je3t {p : Nums} : EqI (Jq3t p) (.seq (.region [⟨(some 26), (.bin .lss (.t 25) (.t 24)), none, false⟩] []) (.seq (.cond (.t 26) .skip (.exit 0)) (.seq (.block 1 (.seq (Jq3r p) (Jq3s p))) (.region [⟨(some 35), (.bin .add (.t 25) (.c (.d (.int .i64 1)))), none, false⟩, ⟨(some 25), (.mov (.t 35)), none, false⟩] [])))) := eqi
@[simp] def Jq3z (p : Nums) : List IOp := [qo 36 (.mov (.t 5)), qo 37 (.bin .mul (ci 3) (.t 36)), qo 38 (.mov (.t 1)), qo 39 (.bin .add (.t 38) (ci 1)), qo 40 (.bin .mul (.t 37) (.t 39)), qo 4 (.asg (.t 40))]
def Jq3u (p : Nums) : IC := (.region (Jq3z p) [])
@[simp] theorem Je3u {p : Nums} : EqI (Jq3u p) (.region (Jq3z p) []) := eqi
def Jta8 (p : Nums) : IC := (.seq (.region [⟨(some 2), (.box (.t 0)), none, false⟩, ⟨(some 4), (.asg (.c (.d (.int .i64 0)))), none, false⟩] []) (.seq (Jq3p p) (.seq (.seq (Jq3q p) (.block 0 (.loop (Jq3t p)))) (.seq (Jq3u p) .ret))))
@[simp] def Jqp8 (p : Nums) : List IOp := [qo 4 (.box (.t 0)), qo 5 (.box (.t 1)), qo 8 (.alloc [.nils, (zi 0), (zi 0), (zi 0), (zi 0)])]
def Jqo7 (p : Nums) : IC := (.region (Jqp8 p) [])
@[simp] theorem Jeo7 {p : Nums} : EqI (Jqo7 p) (.region (Jqp8 p) []) := eqi
@[simp] def Jqpi (p : Nums) : List IOp := [qo 20 (.bslice 2 0 [(.int .i64 0), (.int .i64 0)] []), qo 21 (.mov (.t 2)), qo 22 (.app 2 16 (.t 20) (.t 21)), qo 23 (.mov (.t 2)), qo 24 (.len (.t 23)), qo 25 (.build [.nils, (zi 0), (zi 0), (zi 0), (zi 0)] [(0, 1, (.t 22)), (4, 1, (.t 24))]), qo 9 (.alloc [.nils, (zi 0), (zi 0), (zi 0), (zi 0)]), qn (.store 5 (.t 9) (.t 25))]
def Jqoi (p : Nums) : IC := (.region (Jqpi p) [])
@[simp] theorem Jeoi {p : Nums} : EqI (Jqoi p) (.region (Jqpi p) []) := eqi
@[simp] def Jqps (p : Nums) : List IOp := [qo 26 (.mov (.t 2)), qo 27 (.len (.t 26)), qo 28 (.mov (.t 3)), qo 29 (.bin .gtr (.t 27) (.t 28))]
def Jqot (p : Nums) : IC := (.region (Jqps p) [])
@[simp] theorem Jeot {p : Nums} : EqI (Jqot p) (.region (Jqps p) []) := eqi
@[simp] def Jqpz (p : Nums) : List IOp := [qo 30 (.load (some 5) (.t 9)), qo 31 (.call p.ref14_fail [(.t 30), (ci 24), (ci 0)]), qn (.store 5 (.t 8) (.t 31))]
def Jqp2 (p : Nums) : IC := (.region (Jqpz p) [])
@[simp] theorem Jep2 {p : Nums} : EqI (Jqp2 p) (.region (Jqpz p) []) := eqi
@[simp] def Jqq0 (p : Nums) : List IOp := [qo 33 (.faddr 0 (.t 4)), qo 34 (.load none (.t 33)), qo 35 (.faddr 0 (.t 5)), qo 36 (.load none (.t 35)), qo 37 (.call p.ref13_Code [(.t 34), (.t 36)]), qo 32 (.mov (.t 37)), qo 38 (.ext (.t 32) 0), qo 39 (.ext (.t 32) 1), qo 40 (.ext (.t 32) 2), qo 10 (.asg (.t 38)), qo 11 (.asg (.t 39)), qo 12 (.asg (.t 40))]
def Jqp3 (p : Nums) : IC := (.region (Jqq0 p) [])
@[simp] theorem Jep3 {p : Nums} : EqI (Jqp3 p) (.region (Jqq0 p) []) := eqi
@[simp] def Jqq1 (p : Nums) : List IOp := [qo 43 (.load (some 5) (.t 9)), qo 44 (.mov (.t 11)), qo 45 (.call p.ref14_fail [(.t 43), (ci 20), (.t 44)]), qn (.store 5 (.t 8) (.t 45))]
def Jqp4 (p : Nums) : IC := (.region (Jqq1 p) [])
@[simp] theorem Jep4 {p : Nums} : EqI (Jqp4 p) (.region (Jqq1 p) []) := eqi
@[simp] def Jqq2 (p : Nums) : List IOp := [qo 46 (.faddr 0 (.t 5)), qo 47 (.load none (.t 46)), qo 48 (.len (.t 47)), qo 13 (.asg (.t 48))]
def Jqp5 (p : Nums) : IC := (.region (Jqq2 p) [])
@[simp] theorem Jep5 {p : Nums} : EqI (Jqp5 p) (.region (Jqq2 p) []) := eqi
@[simp] def Jqq3 (p : Nums) : List IOp := [qo 49 (.faddr 1 (.t 4)), qo 50 (.load (some 4) (.t 49)), qo 51 (.faddr 1 (.t 5)), qo 52 (.load (some 4) (.t 51)), qo 53 (.call p.ref13_Terms [(.t 50), (.t 52)]), qo 54 (.un .not (.t 53))]
def Jqp6 (p : Nums) : IC := (.region (Jqq3 p) [])
@[simp] theorem Jep6 {p : Nums} : EqI (Jqp6 p) (.region (Jqq3 p) []) := eqi
@[simp] def Jqq4 (p : Nums) : List IOp := [qo 55 (.load (some 5) (.t 9)), qo 56 (.mov (.t 13)), qo 57 (.call p.ref14_fail [(.t 55), (ci 20), (.t 56)]), qn (.store 5 (.t 8) (.t 57))]
def Jqp7 (p : Nums) : IC := (.region (Jqq4 p) [])
@[simp] theorem Jep7 {p : Nums} : EqI (Jqp7 p) (.region (Jqq4 p) []) := eqi
@[simp] def Jqp9 (p : Nums) : List IOp := [qo 58 (.mov (.t 14)), qo 59 (.mov (.t 10)), qo 60 (.len (.t 59)), qo 61 (.bin .lss (.t 58) (.t 60))]
def Jqo8 (p : Nums) : IC := (.region (Jqp9 p) [])
@[simp] theorem Jeo8 {p : Nums} : EqI (Jqo8 p) (.region (Jqp9 p) []) := eqi
@[simp] def Jqpa (p : Nums) : List IOp := [qo 64 (.mov (.t 10)), qo 65 (.mov (.t 14)), qo 66 (.iaddr 6 (.t 64) (.t 65)), qo 67 (.load (some 6) (.t 66)), qo 15 (.alloc [(zi 0), (zi 0), (zi 0), (zi 0), (zi 0), (zi 0)]), qn (.store 6 (.t 15) (.t 67))]
def Jqo9 (p : Nums) : IC := (.region (Jqpa p) [])
@[simp] theorem Jeo9 {p : Nums} : EqI (Jqo9 p) (.region (Jqpa p) []) := eqi
@[simp] def Jqpb (p : Nums) : List IOp := [qo 68 (.faddr 0 (.t 15)), qo 69 (.load none (.t 68)), qo 16 (.asg (.t 69))]
def Jqoa (p : Nums) : IC := (.region (Jqpb p) [])
@[simp] theorem Jeoa {p : Nums} : EqI (Jqoa p) (.region (Jqpb p) []) := eqi
@[simp] def Jqpc (p : Nums) : List IOp := [qo 70 (.mov (.t 16)), qo 71 (.faddr 1 (.t 15)), qo 72 (.load none (.t 71)), qo 73 (.bin .lss (.t 70) (.t 72)), qo 74 (.mov (.t 73)), ⟨(some 75), (.faddr 1 (.t 9)), (some (74, true)), false⟩, ⟨(some 76), (.load none (.t 75)), (some (74, true)), false⟩, ⟨(some 77), (.bin .eql (.t 76) (ci 0)), (some (74, true)), false⟩, qo 78 (.pick (.t 74) (.t 77) (.c (.d (.bool false))))]
def Jqob (p : Nums) : IC := (.region (Jqpc p) [])
@[simp] theorem Jeob {p : Nums} : EqI (Jqob p) (.region (Jqpc p) []) := eqi
@[simp] def Jqpd (p : Nums) : List IOp := [qp 81 (.load (some 5) (.t 9)), qp 82 (.faddr 0 (.t 9)), qp 83 (.load none (.t 82)), qp 84 (.faddr 0 (.t 4)), qp 85 (.load none (.t 84)), qp 86 (.mov (.t 16)), qp 87 (.iaddr 5 (.t 85) (.t 86)), qp 88 (.faddr 1 (.t 87)), qp 89 (.load none (.t 88)), qp 90 (.faddr 0 (.t 4)), qp 91 (.load none (.t 90)), qp 92 (.mov (.t 16)), qp 93 (.iaddr 5 (.t 91) (.t 92)), qp 94 (.faddr 2 (.t 93)), qp 95 (.load none (.t 94)), qp 96 (.call p.ref12_Copy [(.t 83), (.t 89), (.t 95)]), qp 97 (.mov (.t 3)), qp 98 (.faddr 2 (.t 15)), qp 99 (.load none (.t 98)), qo 100 (.call p.ref14_grow [(.t 81), (.t 96), (.t 97), (.t 99)]), qn (.store 5 (.t 9) (.t 100))]
def Jqoc (p : Nums) : IC := (.region (Jqpd p) [])
@[simp] theorem Jeoc {p : Nums} : EqI (Jqoc p) (.region (Jqpd p) []) := eqi
@[simp] def Jqpe (p : Nums) : List IOp := [qo 79 (.mov (.t 16)), qo 80 (.bin .add (.t 79) (ci 1)), qo 16 (.asg (.t 80))]
def Jqod (p : Nums) : IC := (.region (Jqpe p) [])
@[simp] theorem Jeod {p : Nums} : EqI (Jqod p) (.region (Jqpe p) []) := eqi
def Jqoe (p : Nums) : IC := (.seq (.seq (Jqob p) (.cond (.t 78) .skip (.exit 2))) (.seq (.block 3 (Jqoc p)) (Jqod p)))
@[simp] theorem Jeoe {p : Nums} : EqI (Jqoe p) (.seq (.seq (Jqob p) (.cond (.t 78) .skip (.exit 2))) (.seq (.block 3 (Jqoc p)) (Jqod p))) := eqi
@[simp] def Jqpf (p : Nums) : List IOp := [qo 101 (.faddr 2 (.t 15)), qo 102 (.load none (.t 101)), qo 17 (.asg (.t 102))]
def Jqof (p : Nums) : IC := (.region (Jqpf p) [])
@[simp] theorem Jeof {p : Nums} : EqI (Jqof p) (.region (Jqpf p) []) := eqi
@[simp] def Jqpg (p : Nums) : List IOp := [qo 103 (.mov (.t 17)), qo 104 (.faddr 3 (.t 15)), qo 105 (.load none (.t 104)), qo 106 (.bin .lss (.t 103) (.t 105)), qo 107 (.mov (.t 106)), ⟨(some 108), (.faddr 1 (.t 9)), (some (107, true)), false⟩, ⟨(some 109), (.load none (.t 108)), (some (107, true)), false⟩, ⟨(some 110), (.bin .eql (.t 109) (ci 0)), (some (107, true)), false⟩, qo 111 (.pick (.t 107) (.t 110) (.c (.d (.bool false))))]
def Jqog (p : Nums) : IC := (.region (Jqpg p) [])
@[simp] theorem Jeog {p : Nums} : EqI (Jqog p) (.region (Jqpg p) []) := eqi
@[simp] def Jqph (p : Nums) : List IOp := [qp 114 (.load (some 5) (.t 9)), qp 115 (.faddr 0 (.t 9)), qp 116 (.load none (.t 115)), qp 117 (.faddr 0 (.t 5)), qp 118 (.load none (.t 117)), qp 119 (.mov (.t 17)), qp 120 (.iaddr 7 (.t 118) (.t 119)), qp 121 (.faddr 5 (.t 120)), qp 122 (.load none (.t 121)), qp 123 (.faddr 0 (.t 5)), qp 124 (.load none (.t 123)), qp 125 (.mov (.t 17)), qp 126 (.iaddr 7 (.t 124) (.t 125)), qp 127 (.faddr 6 (.t 126)), qp 128 (.load none (.t 127)), qp 129 (.call p.ref12_Move [(.t 116), (.t 122), (.t 128)]), qp 130 (.mov (.t 3)), qp 131 (.mov (.t 17)), qo 132 (.call p.ref14_grow [(.t 114), (.t 129), (.t 130), (.t 131)]), qn (.store 5 (.t 9) (.t 132))]
def Jqoh (p : Nums) : IC := (.region (Jqph p) [])
@[simp] theorem Jeoh {p : Nums} : EqI (Jqoh p) (.region (Jqph p) []) := eqi
@[simp] def Jqpj (p : Nums) : List IOp := [qo 112 (.mov (.t 17)), qo 113 (.bin .add (.t 112) (ci 1)), qo 17 (.asg (.t 113))]
def Jqoj (p : Nums) : IC := (.region (Jqpj p) [])
@[simp] theorem Jeoj {p : Nums} : EqI (Jqoj p) (.region (Jqpj p) []) := eqi
def Jqok (p : Nums) : IC := (.seq (.seq (Jqog p) (.cond (.t 111) .skip (.exit 4))) (.seq (.block 5 (Jqoh p)) (Jqoj p)))
@[simp] theorem Jeok {p : Nums} : EqI (Jqok p) (.seq (.seq (Jqog p) (.cond (.t 111) .skip (.exit 4))) (.seq (.block 5 (Jqoh p)) (Jqoj p))) := eqi
@[simp] def Jqpk (p : Nums) : List IOp := [qo 133 (.faddr 4 (.t 15)), qo 134 (.load none (.t 133)), qo 135 (.bin .lss (.t 134) (ci 0)), qo 136 (.mov (.t 135)), ⟨(some 137), (.faddr 1 (.t 9)), (some (136, false)), false⟩, ⟨(some 138), (.load none (.t 137)), (some (136, false)), false⟩, ⟨(some 139), (.bin .neq (.t 138) (ci 0)), (some (136, false)), false⟩, qo 140 (.pick (.t 136) (.c (.d (.bool true))) (.t 139))]
def Jqol (p : Nums) : IC := (.region (Jqpk p) [])
@[simp] theorem Jeol {p : Nums} : EqI (Jqol p) (.region (Jqpk p) []) := eqi
@[simp] def Jqpl (p : Nums) : List IOp := [qo 141 (.faddr 0 (.t 4)), qo 142 (.load none (.t 141)), qo 143 (.faddr 4 (.t 15)), qo 144 (.load none (.t 143)), qo 145 (.iaddr 5 (.t 142) (.t 144)), qo 146 (.load (some 5) (.t 145)), qo 18 (.alloc [(zi 0), (zi 0), (zi 0), (zi 0), (zi 0)]), qn (.store 5 (.t 18) (.t 146))]
def Jqom (p : Nums) : IC := (.region (Jqpl p) [])
@[simp] theorem Jeom {p : Nums} : EqI (Jqom p) (.region (Jqpl p) []) := eqi
@[simp] def Jqpm (p : Nums) : List IOp := [qo 147 (.faddr 0 (.t 5)), qo 148 (.load none (.t 147)), qo 149 (.faddr 5 (.t 15)), qo 150 (.load none (.t 149)), qo 151 (.iaddr 7 (.t 148) (.t 150)), qo 152 (.load (some 7) (.t 151)), qo 19 (.alloc [(zi 0), (zi 0), (zi 0), (zi 0), (zi 0), (zi 0), (zi 0)]), qn (.store 7 (.t 19) (.t 152))]
def Jqon (p : Nums) : IC := (.region (Jqpm p) [])
@[simp] theorem Jeon {p : Nums} : EqI (Jqon p) (.region (Jqpm p) []) := eqi
@[simp] def Jqpn (p : Nums) : List IOp := [qo 153 (.faddr 0 (.t 18)), qo 154 (.load none (.t 153)), qo 155 (.call p.ref05_UsesA [(.t 154)])]
def Jqoo (p : Nums) : IC := (.region (Jqpn p) [])
@[simp] theorem Jeoo {p : Nums} : EqI (Jqoo p) (.region (Jqpn p) []) := eqi
@[simp] def Jqpo (p : Nums) : List IOp := [qo 156 (.load (some 5) (.t 9)), qo 157 (.faddr 2 (.t 18)), qo 158 (.load none (.t 157)), qo 159 (.faddr 2 (.t 19)), qo 160 (.load none (.t 159)), qo 161 (.faddr 5 (.t 15)), qo 162 (.load none (.t 161)), qo 163 (.call p.ref14_use [(.t 156), (.t 158), (.t 160), (.t 162)]), qn (.store 5 (.t 9) (.t 163))]
def Jqop (p : Nums) : IC := (.region (Jqpo p) [])
@[simp] theorem Jeop {p : Nums} : EqI (Jqop p) (.region (Jqpo p) []) := eqi
@[simp] def Jqpp (p : Nums) : List IOp := [qo 164 (.faddr 0 (.t 18)), qo 165 (.load none (.t 164)), qo 166 (.call p.ref05_UsesB [(.t 165)]), qo 167 (.mov (.t 166)), ⟨(some 168), (.faddr 1 (.t 9)), (some (167, true)), false⟩, ⟨(some 169), (.load none (.t 168)), (some (167, true)), false⟩, ⟨(some 170), (.bin .eql (.t 169) (ci 0)), (some (167, true)), false⟩, qo 171 (.pick (.t 167) (.t 170) (.c (.d (.bool false))))]
def Jqoq (p : Nums) : IC := (.region (Jqpp p) [])
@[simp] theorem Jeoq {p : Nums} : EqI (Jqoq p) (.region (Jqpp p) []) := eqi
@[simp] def Jqpq (p : Nums) : List IOp := [qo 172 (.load (some 5) (.t 9)), qo 173 (.faddr 3 (.t 18)), qo 174 (.load none (.t 173)), qo 175 (.faddr 3 (.t 19)), qo 176 (.load none (.t 175)), qo 177 (.faddr 5 (.t 15)), qo 178 (.load none (.t 177)), qo 179 (.call p.ref14_use [(.t 172), (.t 174), (.t 176), (.t 178)]), qn (.store 5 (.t 9) (.t 179))]
def Jqor (p : Nums) : IC := (.region (Jqpq p) [])
@[simp] theorem Jeor {p : Nums} : EqI (Jqor p) (.region (Jqpq p) []) := eqi
@[simp] def Jqpr (p : Nums) : List IOp := [qo 180 (.faddr 0 (.t 18)), qo 181 (.load none (.t 180)), qo 182 (.call p.ref05_UsesD [(.t 181)]), qo 183 (.mov (.t 182)), ⟨(some 184), (.faddr 1 (.t 9)), (some (183, true)), false⟩, ⟨(some 185), (.load none (.t 184)), (some (183, true)), false⟩, ⟨(some 186), (.bin .eql (.t 185) (ci 0)), (some (183, true)), false⟩, qo 187 (.pick (.t 183) (.t 186) (.c (.d (.bool false))))]
def Jqos (p : Nums) : IC := (.region (Jqpr p) [])
@[simp] theorem Jeos {p : Nums} : EqI (Jqos p) (.region (Jqpr p) []) := eqi
@[simp] def Jqpt (p : Nums) : List IOp := [qp 188 (.load (some 5) (.t 9)), qp 189 (.faddr 0 (.t 9)), qp 190 (.load none (.t 189)), qp 191 (.faddr 1 (.t 18)), qp 192 (.load none (.t 191)), qp 193 (.faddr 1 (.t 19)), qp 194 (.load none (.t 193)), qp 195 (.bin .mul (ci 2) (.t 194)), qp 196 (.call p.ref12_Define [(.t 190), (.t 192), (.t 195)]), qp 197 (.mov (.t 3)), qp 198 (.faddr 5 (.t 15)), qp 199 (.load none (.t 198)), qo 200 (.call p.ref14_grow [(.t 188), (.t 196), (.t 197), (.t 199)]), qn (.store 5 (.t 9) (.t 200))]
def Jqou (p : Nums) : IC := (.region (Jqpt p) [])
@[simp] theorem Jeou {p : Nums} : EqI (Jqou p) (.region (Jqpt p) []) := eqi
def Jqov (p : Nums) : IC := (.seq (Jqo9 p) (.seq (.seq (Jqoa p) (.block 2 (.loop (Jqoe p)))) (.seq (.seq (Jqof p) (.block 4 (.loop (Jqok p)))) (.seq (.seq (Jqol p) (.cond (.t 140) (.exit 1) .skip)) (.seq (Jqom p) (.seq (Jqon p) (.seq (.seq (Jqoo p) (.cond (.t 155) (Jqop p) .skip)) (.seq (.seq (Jqoq p) (.cond (.t 171) (Jqor p) .skip)) (.seq (Jqos p) (.cond (.t 187) (Jqou p) .skip))))))))))
@[simp] theorem Jeov {p : Nums} : EqI (Jqov p) (.seq (Jqo9 p) (.seq (.seq (Jqoa p) (.block 2 (.loop (Jqoe p)))) (.seq (.seq (Jqof p) (.block 4 (.loop (Jqok p)))) (.seq (.seq (Jqol p) (.cond (.t 140) (.exit 1) .skip)) (.seq (Jqom p) (.seq (Jqon p) (.seq (.seq (Jqoo p) (.cond (.t 155) (Jqop p) .skip)) (.seq (.seq (Jqoq p) (.cond (.t 171) (Jqor p) .skip)) (.seq (Jqos p) (.cond (.t 187) (Jqou p) .skip)))))))))) := eqi
@[simp] def Jqpu (p : Nums) : List IOp := [qo 62 (.mov (.t 14)), qo 63 (.bin .add (.t 62) (ci 1)), qo 14 (.asg (.t 63))]
def Jqow (p : Nums) : IC := (.region (Jqpu p) [])
@[simp] theorem Jeow {p : Nums} : EqI (Jqow p) (.region (Jqpu p) []) := eqi
def Jqox (p : Nums) : IC := (.seq (.seq (Jqo8 p) (.cond (.t 61) .skip (.exit 0))) (.seq (.block 1 (Jqov p)) (Jqow p)))
@[simp] theorem Jeox {p : Nums} : EqI (Jqox p) (.seq (.seq (Jqo8 p) (.cond (.t 61) .skip (.exit 0))) (.seq (.block 1 (Jqov p)) (Jqow p))) := eqi
@[simp] def Jqpv (p : Nums) : List IOp := [qo 201 (.faddr 1 (.t 4)), qo 202 (.faddr 0 (.t 201)), qo 203 (.load none (.t 202)), qo 204 (.bin .neq (.t 203) (ci 1)), qo 205 (.mov (.t 204)), ⟨(some 206), (.faddr 1 (.t 9)), (some (205, true)), false⟩, ⟨(some 207), (.load none (.t 206)), (some (205, true)), false⟩, ⟨(some 208), (.bin .eql (.t 207) (ci 0)), (some (205, true)), false⟩, qo 209 (.pick (.t 205) (.t 208) (.c (.d (.bool false))))]
def Jqoy (p : Nums) : IC := (.region (Jqpv p) [])
@[simp] theorem Jeoy {p : Nums} : EqI (Jqoy p) (.region (Jqpv p) []) := eqi
@[simp] def Jqpw (p : Nums) : List IOp := [qo 210 (.load (some 5) (.t 9)), qo 211 (.faddr 1 (.t 4)), qo 212 (.faddr 1 (.t 211)), qo 213 (.load none (.t 212)), qo 214 (.faddr 1 (.t 5)), qo 215 (.faddr 1 (.t 214)), qo 216 (.load none (.t 215)), qo 217 (.mov (.t 13)), qo 218 (.call p.ref14_use [(.t 210), (.t 213), (.t 216), (.t 217)]), qn (.store 5 (.t 9) (.t 218))]
def Jqoz (p : Nums) : IC := (.region (Jqpw p) [])
@[simp] theorem Jeoz {p : Nums} : EqI (Jqoz p) (.region (Jqpw p) []) := eqi
@[simp] def Jqpx (p : Nums) : List IOp := [qo 219 (.faddr 1 (.t 9)), qo 220 (.load none (.t 219)), qo 221 (.bin .eql (.t 220) (ci 0))]
def Jqp0 (p : Nums) : IC := (.region (Jqpx p) [])
@[simp] theorem Jep0 {p : Nums} : EqI (Jqp0 p) (.region (Jqpx p) []) := eqi
@[simp] def Jqpy (p : Nums) : List IOp := [qo 222 (.mov (.t 13)), qo 223 (.faddr 2 (.t 9)), qn (.store 1 (.t 223) (.t 222))]
def Jqp1 (p : Nums) : IC := (.region (Jqpy p) [])
@[simp] theorem Jep1 {p : Nums} : EqI (Jqp1 p) (.region (Jqpy p) []) := eqi
def Jtc7 (p : Nums) : IC := (.seq (Jqo7 p) (.seq (Jqoi p) (.seq (.seq (Jqot p) (.cond (.t 29) (.seq (Jqp2 p) .ret) .skip)) (.seq (Jqp3 p) (.seq (.seq (.region [⟨(some 41), (.mov (.t 12)), none, false⟩, ⟨(some 42), (.bin .neq (.t 41) (.c (.d (.int .i64 0)))), none, false⟩] []) (.cond (.t 42) (.seq (Jqp4 p) .ret) .skip)) (.seq (Jqp5 p) (.seq (.seq (Jqp6 p) (.cond (.t 54) (.seq (Jqp7 p) .ret) .skip)) (.seq (.seq (.region [⟨(some 14), (.asg (.c (.d (.int .i64 0)))), none, false⟩] []) (.block 0 (.loop (Jqox p)))) (.seq (.seq (Jqoy p) (.cond (.t 209) (Jqoz p) .skip)) (.seq (.seq (Jqp0 p) (.cond (.t 221) (Jqp1 p) .skip)) (.seq (.region [⟨(some 224), (.load (some 5) (.t 9)), none, false⟩, ⟨none, (.store 5 (.t 8) (.t 224)), none, false⟩] []) .ret)))))))))))
@[simp] def Jqld (p : Nums) : List IOp := [qo 4 (.alloc [(zi 0), (zi 0)]), qo 5 (.asg (.c (.d (.bool false))))]
def Jql5 (p : Nums) : IC := (.region (Jqld p) [])
@[simp] theorem Jel5 {p : Nums} : EqI (Jql5 p) (.region (Jqld p) []) := eqi
@[simp] def Jqle (p : Nums) : List IOp := [qo 7 (.mov (.t 6)), qo 8 (.mov (.t 0)), qo 9 (.len (.t 8)), qo 10 (.bin .lss (.t 7) (.t 9))]
def Jql6 (p : Nums) : IC := (.region (Jqle p) [])
@[simp] theorem Jel6 {p : Nums} : EqI (Jql6 p) (.region (Jqle p) []) := eqi
@[simp] def Jqlf (p : Nums) : List IOp := [qo 13 (.mov (.t 1)), qo 14 (.mov (.t 0)), qo 15 (.mov (.t 6)), qo 16 (.iaddr 2 (.t 14) (.t 15)), qo 17 (.load (some 2) (.t 16)), qo 18 (.call p.ref11_Has [(.t 13), (.t 17)]), qo 19 (.un .not (.t 18))]
def Jql7 (p : Nums) : IC := (.region (Jqlf p) [])
@[simp] theorem Jel7 {p : Nums} : EqI (Jql7 p) (.region (Jqlf p) []) := eqi
@[simp] def Jqlg (p : Nums) : List IOp := [qo 20 (.mov (.t 0)), qo 21 (.mov (.t 6)), qo 22 (.iaddr 2 (.t 20) (.t 21)), qo 23 (.load (some 2) (.t 22)), qn (.store 2 (.t 4) (.t 23)), qo 5 (.asg (.c (.d (.bool true))))]
def Jql8 (p : Nums) : IC := (.region (Jqlg p) [])
@[simp] theorem Jel8 {p : Nums} : EqI (Jql8 p) (.region (Jqlg p) []) := eqi
def Jql9 (p : Nums) : IC := (.seq (Jql7 p) (.cond (.t 19) (.seq (Jql8 p) .ret) .skip))
@[simp] theorem Jel9 {p : Nums} : EqI (Jql9 p) (.seq (Jql7 p) (.cond (.t 19) (.seq (Jql8 p) .ret) .skip)) := eqi
@[simp] def Jqlh (p : Nums) : List IOp := [qo 11 (.mov (.t 6)), qo 12 (.bin .add (.t 11) (ci 1)), qo 6 (.asg (.t 12))]
def Jqla (p : Nums) : IC := (.region (Jqlh p) [])
@[simp] theorem Jela {p : Nums} : EqI (Jqla p) (.region (Jqlh p) []) := eqi
def Jqlb (p : Nums) : IC := (.seq (.seq (Jql6 p) (.cond (.t 10) .skip (.exit 0))) (.seq (.block 1 (Jql9 p)) (Jqla p)))
@[simp] theorem Jelb {p : Nums} : EqI (Jqlb p) (.seq (.seq (Jql6 p) (.cond (.t 10) .skip (.exit 0))) (.seq (.block 1 (Jql9 p)) (Jqla p))) := eqi
@[simp] def Jqli (p : Nums) : List IOp := [qo 24 (.build [(zi 0), (zi 0)] []), qn (.store 2 (.t 4) (.t 24)), qo 5 (.asg (.c (.d (.bool false))))]
def Jqlc (p : Nums) : IC := (.region (Jqli p) [])
@[simp] theorem Jelc {p : Nums} : EqI (Jqlc p) (.region (Jqli p) []) := eqi
def Jtby (p : Nums) : IC := (.seq (Jql5 p) (.seq (.seq (.region [⟨(some 6), (.asg (.c (.d (.int .i64 0)))), none, false⟩] []) (.block 0 (.loop (Jqlb p)))) (.seq (Jqlc p) .ret)))
@[simp] def Jqg9 (p : Nums) : List IOp := [qo 4 (.faddr 2 (.t 1)), qo 5 (.load none (.t 4)), qo 6 (.len (.t 5)), qo 7 (.bin .gtr (.t 6) (ci 40)), qo 8 (.mov (.t 7)), ⟨(some 9), (.faddr 1 (.t 1)), (some (8, false)), false⟩, ⟨(some 10), (.load none (.t 9)), (some (8, false)), false⟩, ⟨(some 11), (.bin .gtr (.t 10) (ci 60)), (some (8, false)), false⟩, qo 12 (.pick (.t 8) (.c (.d (.bool true))) (.t 11))]
def Jqg0 (p : Nums) : IC := (.region (Jqg9 p) [])
@[simp] theorem Jeg0 {p : Nums} : EqI (Jqg0 p) (.region (Jqg9 p) []) := eqi
def Jqg1 (p : Nums) : IC := (.seq (.region [⟨(some 2), (.asg (.c (.d (.bool false)))), none, false⟩] []) .ret)
@[simp] theorem Jeg1 {p : Nums} : EqI (Jqg1 p) (.seq (.region [⟨(some 2), (.asg (.c (.d (.bool false)))), none, false⟩] []) .ret) := eqi
@[simp] def Jqga (p : Nums) : List IOp := [qo 13 (.mov (.t 3)), qo 14 (.faddr 2 (.t 1)), qo 15 (.load none (.t 14)), qo 16 (.len (.t 15)), qo 17 (.bin .lss (.t 13) (.t 16))]
def Jqg2 (p : Nums) : IC := (.region (Jqga p) [])
@[simp] theorem Jeg2 {p : Nums} : EqI (Jqg2 p) (.region (Jqga p) []) := eqi
@[simp] def Jqgb (p : Nums) : List IOp := [qo 20 (.faddr 2 (.t 1)), qo 21 (.load none (.t 20)), qo 22 (.mov (.t 3)), qo 23 (.iaddr 5 (.t 21) (.t 22)), qo 24 (.faddr 0 (.t 23)), qo 25 (.load none (.t 24)), qo 26 (.len (.t 25)), qo 27 (.bin .gtr (.t 26) (ci 100))]
def Jqg3 (p : Nums) : IC := (.region (Jqgb p) [])
@[simp] theorem Jeg3 {p : Nums} : EqI (Jqg3 p) (.region (Jqgb p) []) := eqi
def Jqg4 (p : Nums) : IC := (.seq (.region [⟨(some 2), (.asg (.c (.d (.bool false)))), none, false⟩] []) .ret)
@[simp] theorem Jeg4 {p : Nums} : EqI (Jqg4 p) (.seq (.region [⟨(some 2), (.asg (.c (.d (.bool false)))), none, false⟩] []) .ret) := eqi
def Jqg5 (p : Nums) : IC := (.seq (Jqg3 p) (.cond (.t 27) (Jqg4 p) .skip))
@[simp] theorem Jeg5 {p : Nums} : EqI (Jqg5 p) (.seq (Jqg3 p) (.cond (.t 27) (Jqg4 p) .skip)) := eqi
@[simp] def Jqgc (p : Nums) : List IOp := [qo 18 (.mov (.t 3)), qo 19 (.bin .add (.t 18) (ci 1)), qo 3 (.asg (.t 19))]
def Jqg6 (p : Nums) : IC := (.region (Jqgc p) [])
@[simp] theorem Jeg6 {p : Nums} : EqI (Jqg6 p) (.region (Jqgc p) []) := eqi
def Jqg7 (p : Nums) : IC := (.seq (.seq (Jqg2 p) (.cond (.t 17) .skip (.exit 0))) (.seq (.block 1 (Jqg5 p)) (Jqg6 p)))
@[simp] theorem Jeg7 {p : Nums} : EqI (Jqg7 p) (.seq (.seq (Jqg2 p) (.cond (.t 17) .skip (.exit 0))) (.seq (.block 1 (Jqg5 p)) (Jqg6 p))) := eqi
@[simp] def Jqgd (p : Nums) : List IOp := [qo 28 (.load (some 3) (.t 1)), qo 29 (.call p.ref07_Code [(.t 28)]), qo 30 (.bin .leq (.t 29) (ci 300)), qo 2 (.asg (.t 30))]
def Jqg8 (p : Nums) : IC := (.region (Jqgd p) [])
@[simp] theorem Jeg8 {p : Nums} : EqI (Jqg8 p) (.region (Jqgd p) []) := eqi
def Jtbl (p : Nums) : IC := (.seq (.region [⟨(some 1), (.box (.t 0)), none, false⟩, ⟨(some 2), (.asg (.c (.d (.bool false)))), none, false⟩] []) (.seq (.seq (Jqg0 p) (.cond (.t 12) (Jqg1 p) .skip)) (.seq (.seq (.region [⟨(some 3), (.asg (.c (.d (.int .i64 0)))), none, false⟩] []) (.block 0 (.loop (Jqg7 p)))) (.seq (Jqg8 p) .ret))))
@[simp] def Jqfi (p : Nums) : List IOp := [qo 8 (.faddr 0 (.t 1)), qo 9 (.load none (.t 8)), qo 10 (.bin .lss (.t 9) (ci 0)), qo 11 (.mov (.t 10)), ⟨(some 12), (.faddr 0 (.t 1)), (some (11, false)), false⟩, ⟨(some 13), (.load none (.t 12)), (some (11, false)), false⟩, ⟨(some 14), (.faddr 1 (.t 1)), (some (11, false)), false⟩, ⟨(some 15), (.load none (.t 14)), (some (11, false)), false⟩, ⟨(some 16), (.bin .gtr (.t 13) (.t 15)), (some (11, false)), false⟩, qo 17 (.pick (.t 11) (.c (.d (.bool true))) (.t 16))]
def Jqex (p : Nums) : IC := (.region (Jqfi p) [])
@[simp] theorem Jeex {p : Nums} : EqI (Jqex p) (.region (Jqfi p) []) := eqi
def Jqf8 (p : Nums) : IC := (.seq (.region [⟨(some 2), (.asg (.c (.d (.int .i64 9)))), none, false⟩] []) .ret)
@[simp] theorem Jef8 {p : Nums} : EqI (Jqf8 p) (.seq (.region [⟨(some 2), (.asg (.c (.d (.int .i64 9)))), none, false⟩] []) .ret) := eqi
@[simp] def Jqfp (p : Nums) : List IOp := [qo 18 (.faddr 1 (.t 1)), qo 19 (.load none (.t 18)), qo 20 (.bin .gtr (.t 19) (ci 1048576))]
def Jqfb (p : Nums) : IC := (.region (Jqfp p) [])
@[simp] theorem Jefb {p : Nums} : EqI (Jqfb p) (.region (Jqfp p) []) := eqi
def Jqfc (p : Nums) : IC := (.seq (.region [⟨(some 2), (.asg (.c (.d (.int .i64 6)))), none, false⟩] []) .ret)
@[simp] theorem Jefc {p : Nums} : EqI (Jqfc p) (.seq (.region [⟨(some 2), (.asg (.c (.d (.int .i64 6)))), none, false⟩] []) .ret) := eqi
@[simp] def Jqfq (p : Nums) : List IOp := [qo 21 (.faddr 2 (.t 1)), qo 22 (.load none (.t 21)), qo 23 (.len (.t 22)), qo 24 (.bin .eql (.t 23) (ci 0))]
def Jqfd (p : Nums) : IC := (.region (Jqfq p) [])
@[simp] theorem Jefd {p : Nums} : EqI (Jqfd p) (.region (Jqfq p) []) := eqi
def Jqfe (p : Nums) : IC := (.seq (.region [⟨(some 2), (.asg (.c (.d (.int .i64 14)))), none, false⟩] []) .ret)
@[simp] theorem Jefe {p : Nums} : EqI (Jqfe p) (.seq (.region [⟨(some 2), (.asg (.c (.d (.int .i64 14)))), none, false⟩] []) .ret) := eqi
@[simp] def Jqfr (p : Nums) : List IOp := [qo 25 (.faddr 2 (.t 1)), qo 26 (.load none (.t 25)), qo 27 (.len (.t 26)), qo 28 (.bin .gtr (.t 27) (ci 1048576)), qo 29 (.mov (.t 28)), ⟨(some 30), (.load (some 3) (.t 1)), (some (29, false)), false⟩, ⟨(some 31), (.call p.ref07_Code [(.t 30)]), (some (29, false)), false⟩, ⟨(some 32), (.bin .gtr (.t 31) (ci 1048576)), (some (29, false)), false⟩, qo 33 (.pick (.t 29) (.c (.d (.bool true))) (.t 32))]
def Jqff (p : Nums) : IC := (.region (Jqfr p) [])
@[simp] theorem Jeff {p : Nums} : EqI (Jqff p) (.region (Jqfr p) []) := eqi
def Jqfg (p : Nums) : IC := (.seq (.region [⟨(some 2), (.asg (.c (.d (.int .i64 6)))), none, false⟩] []) .ret)
@[simp] theorem Jefg {p : Nums} : EqI (Jqfg p) (.seq (.region [⟨(some 2), (.asg (.c (.d (.int .i64 6)))), none, false⟩] []) .ret) := eqi
@[simp] def Jqfs (p : Nums) : List IOp := [qo 34 (.mov (.t 3)), qo 35 (.faddr 2 (.t 1)), qo 36 (.load none (.t 35)), qo 37 (.len (.t 36)), qo 38 (.bin .lss (.t 34) (.t 37))]
def Jqfh (p : Nums) : IC := (.region (Jqfs p) [])
@[simp] theorem Jefh {p : Nums} : EqI (Jqfh p) (.region (Jqfs p) []) := eqi
@[simp] def Jqfj (p : Nums) : List IOp := [qo 41 (.faddr 2 (.t 1)), qo 42 (.load none (.t 41)), qo 43 (.mov (.t 3)), qo 44 (.iaddr 5 (.t 42) (.t 43)), qo 45 (.load (some 5) (.t 44)), qo 4 (.alloc [.nils, (zi 0), (zi 0), (zi 0), (zi 0)]), qn (.store 5 (.t 4) (.t 45))]
def Jqey (p : Nums) : IC := (.region (Jqfj p) [])
@[simp] theorem Jeey {p : Nums} : EqI (Jqey p) (.region (Jqfj p) []) := eqi
@[simp] def Jqfk (p : Nums) : List IOp := [qo 46 (.mov (.t 5)), qo 47 (.faddr 0 (.t 4)), qo 48 (.load none (.t 47)), qo 49 (.len (.t 48)), qo 50 (.bin .lss (.t 46) (.t 49))]
def Jqez (p : Nums) : IC := (.region (Jqfk p) [])
@[simp] theorem Jeez {p : Nums} : EqI (Jqez p) (.region (Jqfk p) []) := eqi
@[simp] def Jqfl (p : Nums) : List IOp := [qp 53 (.faddr 0 (.t 4)), qp 54 (.load none (.t 53)), qp 55 (.mov (.t 5)), qp 56 (.iaddr 5 (.t 54) (.t 55)), qp 57 (.load (some 5) (.t 56)), qp 58 (.faddr 1 (.t 1)), qp 59 (.load none (.t 58)), qo 60 (.call p.ref07_Instr [(.t 57), (.t 59)]), qo 6 (.asg (.t 60))]
def Jqf0 (p : Nums) : IC := (.region (Jqfl p) [])
@[simp] theorem Jef0 {p : Nums} : EqI (Jqf0 p) (.region (Jqfl p) []) := eqi
def Jqf1 (p : Nums) : IC := (.seq (.region [⟨(some 63), (.mov (.t 6)), none, false⟩, ⟨(some 2), (.asg (.t 63)), none, false⟩] []) .ret)
@[simp] theorem Jef1 {p : Nums} : EqI (Jqf1 p) (.seq (.region [⟨(some 63), (.mov (.t 6)), none, false⟩, ⟨(some 2), (.asg (.t 63)), none, false⟩] []) .ret) := eqi
def Jqf2 (p : Nums) : IC := (.seq (Jqf0 p) (.seq (.region [⟨(some 61), (.mov (.t 6)), none, false⟩, ⟨(some 62), (.bin .neq (.t 61) (.c (.d (.int .i64 0)))), none, false⟩] []) (.cond (.t 62) (Jqf1 p) .skip)))
@[simp] theorem Jef2 {p : Nums} : EqI (Jqf2 p) (.seq (Jqf0 p) (.seq (.region [⟨(some 61), (.mov (.t 6)), none, false⟩, ⟨(some 62), (.bin .neq (.t 61) (.c (.d (.int .i64 0)))), none, false⟩] []) (.cond (.t 62) (Jqf1 p) .skip))) := eqi
@[simp] def Jqfm (p : Nums) : List IOp := [qo 51 (.mov (.t 5)), qo 52 (.bin .add (.t 51) (ci 1)), qo 5 (.asg (.t 52))]
def Jqf3 (p : Nums) : IC := (.region (Jqfm p) [])
@[simp] theorem Jef3 {p : Nums} : EqI (Jqf3 p) (.region (Jqfm p) []) := eqi
def Jqf4 (p : Nums) : IC := (.seq (.seq (Jqez p) (.cond (.t 50) .skip (.exit 2))) (.seq (.block 3 (Jqf2 p)) (Jqf3 p)))
@[simp] theorem Jef4 {p : Nums} : EqI (Jqf4 p) (.seq (.seq (Jqez p) (.cond (.t 50) .skip (.exit 2))) (.seq (.block 3 (Jqf2 p)) (Jqf3 p))) := eqi
@[simp] def Jqfn (p : Nums) : List IOp := [qo 64 (.faddr 1 (.t 4)), qo 65 (.load (some 4) (.t 64)), qo 66 (.faddr 1 (.t 1)), qo 67 (.load none (.t 66)), qo 68 (.faddr 2 (.t 1)), qo 69 (.load none (.t 68)), qo 70 (.len (.t 69)), qo 71 (.call p.ref07_Term [(.t 65), (.t 67), (.t 70)]), qo 7 (.asg (.t 71))]
def Jqf5 (p : Nums) : IC := (.region (Jqfn p) [])
@[simp] theorem Jef5 {p : Nums} : EqI (Jqf5 p) (.region (Jqfn p) []) := eqi
def Jqf6 (p : Nums) : IC := (.seq (.region [⟨(some 74), (.mov (.t 7)), none, false⟩, ⟨(some 2), (.asg (.t 74)), none, false⟩] []) .ret)
@[simp] theorem Jef6 {p : Nums} : EqI (Jqf6 p) (.seq (.region [⟨(some 74), (.mov (.t 7)), none, false⟩, ⟨(some 2), (.asg (.t 74)), none, false⟩] []) .ret) := eqi
def Jqf7 (p : Nums) : IC := (.seq (Jqey p) (.seq (.seq (.region [⟨(some 5), (.asg (.c (.d (.int .i64 0)))), none, false⟩] []) (.block 2 (.loop (Jqf4 p)))) (.seq (Jqf5 p) (.seq (.region [⟨(some 72), (.mov (.t 7)), none, false⟩, ⟨(some 73), (.bin .neq (.t 72) (.c (.d (.int .i64 0)))), none, false⟩] []) (.cond (.t 73) (Jqf6 p) .skip)))))
@[simp] theorem Jef7 {p : Nums} : EqI (Jqf7 p) (.seq (Jqey p) (.seq (.seq (.region [⟨(some 5), (.asg (.c (.d (.int .i64 0)))), none, false⟩] []) (.block 2 (.loop (Jqf4 p)))) (.seq (Jqf5 p) (.seq (.region [⟨(some 72), (.mov (.t 7)), none, false⟩, ⟨(some 73), (.bin .neq (.t 72) (.c (.d (.int .i64 0)))), none, false⟩] []) (.cond (.t 73) (Jqf6 p) .skip))))) := eqi
@[simp] def Jqfo (p : Nums) : List IOp := [qo 39 (.mov (.t 3)), qo 40 (.bin .add (.t 39) (ci 1)), qo 3 (.asg (.t 40))]
def Jqf9 (p : Nums) : IC := (.region (Jqfo p) [])
@[simp] theorem Jef9 {p : Nums} : EqI (Jqf9 p) (.region (Jqfo p) []) := eqi
def Jqfa (p : Nums) : IC := (.seq (.seq (Jqfh p) (.cond (.t 38) .skip (.exit 0))) (.seq (.block 1 (Jqf7 p)) (Jqf9 p)))
@[simp] theorem Jefa {p : Nums} : EqI (Jqfa p) (.seq (.seq (Jqfh p) (.cond (.t 38) .skip (.exit 0))) (.seq (.block 1 (Jqf7 p)) (Jqf9 p))) := eqi
def Jtbj (p : Nums) : IC := (.seq (.region [⟨(some 1), (.box (.t 0)), none, false⟩, ⟨(some 2), (.asg (.c (.d (.int .i64 0)))), none, false⟩] []) (.seq (.seq (Jqex p) (.cond (.t 17) (Jqf8 p) .skip)) (.seq (.seq (Jqfb p) (.cond (.t 20) (Jqfc p) .skip)) (.seq (.seq (Jqfd p) (.cond (.t 24) (Jqfe p) .skip)) (.seq (.seq (Jqff p) (.cond (.t 33) (Jqfg p) .skip)) (.seq (.seq (.region [⟨(some 3), (.asg (.c (.d (.int .i64 0)))), none, false⟩] []) (.block 0 (.loop (Jqfa p)))) (.seq (.region [⟨(some 2), (.asg (.c (.d (.int .i64 0)))), none, false⟩] []) .ret)))))))
@[simp] def Jqj6 (p : Nums) : List IOp := [qo 4 (.faddr 3 (.t 1)), qo 5 (.load none (.t 4)), qo 6 (.len (.t 5)), qo 7 (.bin .gtr (.t 6) (ci 40)), qo 8 (.mov (.t 7)), ⟨(some 9), (.faddr 1 (.t 1)), (some (8, false)), false⟩, ⟨(some 10), (.load none (.t 9)), (some (8, false)), false⟩, ⟨(some 11), (.bin .gtr (.t 10) (ci 60)), (some (8, false)), false⟩, qo 12 (.pick (.t 8) (.c (.d (.bool true))) (.t 11)), qo 13 (.mov (.t 12)), ⟨(some 14), (.faddr 2 (.t 1)), (some (13, false)), false⟩, ⟨(some 15), (.load none (.t 14)), (some (13, false)), false⟩, ⟨(some 16), (.bin .gtr (.t 15) (ci 60)), (some (13, false)), false⟩, qo 17 (.pick (.t 13) (.c (.d (.bool true))) (.t 16))]
def Jqix (p : Nums) : IC := (.region (Jqj6 p) [])
@[simp] theorem Jeix {p : Nums} : EqI (Jqix p) (.region (Jqj6 p) []) := eqi
def Jqiy (p : Nums) : IC := (.seq (.region [⟨(some 2), (.asg (.c (.d (.bool false)))), none, false⟩] []) .ret)
@[simp] theorem Jeiy {p : Nums} : EqI (Jqiy p) (.seq (.region [⟨(some 2), (.asg (.c (.d (.bool false)))), none, false⟩] []) .ret) := eqi
@[simp] def Jqj7 (p : Nums) : List IOp := [qo 18 (.mov (.t 3)), qo 19 (.faddr 3 (.t 1)), qo 20 (.load none (.t 19)), qo 21 (.len (.t 20)), qo 22 (.bin .lss (.t 18) (.t 21))]
def Jqiz (p : Nums) : IC := (.region (Jqj7 p) [])
@[simp] theorem Jeiz {p : Nums} : EqI (Jqiz p) (.region (Jqj7 p) []) := eqi
@[simp] def Jqj8 (p : Nums) : List IOp := [qo 25 (.faddr 3 (.t 1)), qo 26 (.load none (.t 25)), qo 27 (.mov (.t 3)), qo 28 (.iaddr 5 (.t 26) (.t 27)), qo 29 (.faddr 0 (.t 28)), qo 30 (.load none (.t 29)), qo 31 (.len (.t 30)), qo 32 (.bin .gtr (.t 31) (ci 300))]
def Jqj0 (p : Nums) : IC := (.region (Jqj8 p) [])
@[simp] theorem Jej0 {p : Nums} : EqI (Jqj0 p) (.region (Jqj8 p) []) := eqi
def Jqj1 (p : Nums) : IC := (.seq (.region [⟨(some 2), (.asg (.c (.d (.bool false)))), none, false⟩] []) .ret)
@[simp] theorem Jej1 {p : Nums} : EqI (Jqj1 p) (.seq (.region [⟨(some 2), (.asg (.c (.d (.bool false)))), none, false⟩] []) .ret) := eqi
def Jqj2 (p : Nums) : IC := (.seq (Jqj0 p) (.cond (.t 32) (Jqj1 p) .skip))
@[simp] theorem Jej2 {p : Nums} : EqI (Jqj2 p) (.seq (Jqj0 p) (.cond (.t 32) (Jqj1 p) .skip)) := eqi
@[simp] def Jqj9 (p : Nums) : List IOp := [qo 23 (.mov (.t 3)), qo 24 (.bin .add (.t 23) (ci 1)), qo 3 (.asg (.t 24))]
def Jqj3 (p : Nums) : IC := (.region (Jqj9 p) [])
@[simp] theorem Jej3 {p : Nums} : EqI (Jqj3 p) (.region (Jqj9 p) []) := eqi
def Jqj4 (p : Nums) : IC := (.seq (.seq (Jqiz p) (.cond (.t 22) .skip (.exit 0))) (.seq (.block 1 (Jqj2 p)) (Jqj3 p)))
@[simp] theorem Jej4 {p : Nums} : EqI (Jqj4 p) (.seq (.seq (Jqiz p) (.cond (.t 22) .skip (.exit 0))) (.seq (.block 1 (Jqj2 p)) (Jqj3 p))) := eqi
@[simp] def Jqja (p : Nums) : List IOp := [qo 33 (.load (some 4) (.t 1)), qo 34 (.call p.ref08_Code [(.t 33)]), qo 35 (.bin .leq (.t 34) (ci 900)), qo 2 (.asg (.t 35))]
def Jqj5 (p : Nums) : IC := (.region (Jqja p) [])
@[simp] theorem Jej5 {p : Nums} : EqI (Jqj5 p) (.region (Jqja p) []) := eqi
def Jtbs (p : Nums) : IC := (.seq (.region [⟨(some 1), (.box (.t 0)), none, false⟩, ⟨(some 2), (.asg (.c (.d (.bool false)))), none, false⟩] []) (.seq (.seq (Jqix p) (.cond (.t 17) (Jqiy p) .skip)) (.seq (.seq (.region [⟨(some 3), (.asg (.c (.d (.int .i64 0)))), none, false⟩] []) (.block 0 (.loop (Jqj4 p)))) (.seq (Jqj5 p) .ret))))
@[simp] def Jqr4 (p : Nums) : List IOp := [qo 4 (.mov (.t 3)), qo 5 (.mov (.t 0)), qo 6 (.len (.t 5)), qo 7 (.bin .lss (.t 4) (.t 6)), qo 8 (.mov (.t 7)), ⟨(some 9), (.mov (.t 3)), (some (8, true)), false⟩, ⟨(some 10), (.bin .leq (.t 9) (ci 40)), (some (8, true)), false⟩, qo 11 (.pick (.t 8) (.t 10) (.c (.d (.bool false))))]
def Jqqx (p : Nums) : IC := (.region (Jqr4 p) [])
@[simp] theorem Jeqx {p : Nums} : EqI (Jqqx p) (.region (Jqr4 p) []) := eqi
@[simp] def Jqr5 (p : Nums) : List IOp := [qo 14 (.mov (.t 0)), qo 15 (.mov (.t 3)), qo 16 (.iaddr 1 (.t 14) (.t 15)), qo 17 (.load none (.t 16)), qo 18 (.len (.t 17)), qo 19 (.bin .gtr (.t 18) (ci 400))]
def Jqqy (p : Nums) : IC := (.region (Jqr5 p) [])
@[simp] theorem Jeqy {p : Nums} : EqI (Jqqy p) (.region (Jqr5 p) []) := eqi
def Jqqz (p : Nums) : IC := (.seq (.region [⟨(some 2), (.asg (.c (.d (.bool false)))), none, false⟩] []) .ret)
@[simp] theorem Jeqz {p : Nums} : EqI (Jqqz p) (.seq (.region [⟨(some 2), (.asg (.c (.d (.bool false)))), none, false⟩] []) .ret) := eqi
def Jqr0 (p : Nums) : IC := (.seq (Jqqy p) (.cond (.t 19) (Jqqz p) .skip))
@[simp] theorem Jer0 {p : Nums} : EqI (Jqr0 p) (.seq (Jqqy p) (.cond (.t 19) (Jqqz p) .skip)) := eqi
@[simp] def Jqr6 (p : Nums) : List IOp := [qo 12 (.mov (.t 3)), qo 13 (.bin .add (.t 12) (ci 1)), qo 3 (.asg (.t 13))]
def Jqr1 (p : Nums) : IC := (.region (Jqr6 p) [])
@[simp] theorem Jer1 {p : Nums} : EqI (Jqr1 p) (.region (Jqr6 p) []) := eqi
def Jqr2 (p : Nums) : IC := (.seq (.seq (Jqqx p) (.cond (.t 11) .skip (.exit 0))) (.seq (.block 1 (Jqr0 p)) (Jqr1 p)))
@[simp] theorem Jer2 {p : Nums} : EqI (Jqr2 p) (.seq (.seq (Jqqx p) (.cond (.t 11) .skip (.exit 0))) (.seq (.block 1 (Jqr0 p)) (Jqr1 p))) := eqi
@[simp] def Jqr7 (p : Nums) : List IOp := [qo 20 (.mov (.t 0)), qo 21 (.len (.t 20)), qo 22 (.bin .leq (.t 21) (ci 40)), qo 2 (.asg (.t 22))]
def Jqr3 (p : Nums) : IC := (.region (Jqr7 p) [])
@[simp] theorem Jer3 {p : Nums} : EqI (Jqr3 p) (.region (Jqr7 p) []) := eqi
def Jtcb (p : Nums) : IC := (.seq (.region [⟨(some 2), (.asg (.c (.d (.bool false)))), none, false⟩] []) (.seq (.seq (.region [⟨(some 3), (.asg (.c (.d (.int .i64 0)))), none, false⟩] []) (.block 0 (.loop (Jqr2 p)))) (.seq (Jqr3 p) .ret)))
@[simp] def Jqwb (p : Nums) : List IOp := [qo 7 (.faddr 0 (.t 1)), qo 8 (.load none (.t 7)), qo 9 (.bin .lss (.t 8) (ci 0)), qo 10 (.mov (.t 9)), ⟨(some 11), (.faddr 0 (.t 1)), (some (10, false)), false⟩, ⟨(some 12), (.load none (.t 11)), (some (10, false)), false⟩, ⟨(some 13), (.faddr 1 (.t 1)), (some (10, false)), false⟩, ⟨(some 14), (.load none (.t 13)), (some (10, false)), false⟩, ⟨(some 15), (.bin .gtr (.t 12) (.t 14)), (some (10, false)), false⟩, qo 16 (.pick (.t 10) (.c (.d (.bool true))) (.t 15)), qo 6 (.asg (.t 16))]
def Jqvt (p : Nums) : IC := (.region (Jqwb p) [])
@[simp] theorem Jevt {p : Nums} : EqI (Jqvt p) (.region (Jqwb p) []) := eqi
@[simp] def Jqwf (p : Nums) : List IOp := [qo 18 (.faddr 1 (.t 1)), qo 19 (.load none (.t 18)), qo 20 (.bin .gtr (.t 19) (ci 1048576)), qo 17 (.asg (.t 20))]
def Jqw3 (p : Nums) : IC := (.region (Jqwf p) [])
@[simp] theorem Jew3 {p : Nums} : EqI (Jqw3 p) (.region (Jqwf p) []) := eqi
@[simp] def Jqwg (p : Nums) : List IOp := [qo 22 (.faddr 2 (.t 1)), qo 23 (.load none (.t 22)), qo 24 (.len (.t 23)), qo 25 (.bin .eql (.t 24) (ci 0)), qo 21 (.asg (.t 25))]
def Jqw4 (p : Nums) : IC := (.region (Jqwg p) [])
@[simp] theorem Jew4 {p : Nums} : EqI (Jqw4 p) (.region (Jqwg p) []) := eqi
@[simp] def Jqwh (p : Nums) : List IOp := [qo 27 (.faddr 2 (.t 1)), qo 28 (.load none (.t 27)), qo 29 (.len (.t 28)), qo 30 (.bin .gtr (.t 29) (ci 1048576)), qo 31 (.mov (.t 30)), ⟨(some 32), (.load (some 3) (.t 1)), (some (31, false)), false⟩, ⟨(some 33), (.call p.source_Code [(.t 32)]), (some (31, false)), false⟩, ⟨(some 34), (.bin .gtr (.t 33) (ci 1048576)), (some (31, false)), false⟩, qo 35 (.pick (.t 31) (.c (.d (.bool true))) (.t 34)), qo 26 (.asg (.t 35))]
def Jqw5 (p : Nums) : IC := (.region (Jqwh p) [])
@[simp] theorem Jew5 {p : Nums} : EqI (Jqw5 p) (.region (Jqwh p) []) := eqi
def Jqw6 (p : Nums) : IC := (.seq (.region [⟨(some 2), (.asg (.c (.d (.int .i64 6)))), none, false⟩] []) .ret)
@[simp] theorem Jew6 {p : Nums} : EqI (Jqw6 p) (.seq (.region [⟨(some 2), (.asg (.c (.d (.int .i64 6)))), none, false⟩] []) .ret) := eqi
def Jqw7 (p : Nums) : IC := (.seq (.region [⟨(some 2), (.asg (.c (.d (.int .i64 14)))), none, false⟩] []) .ret)
@[simp] theorem Jew7 {p : Nums} : EqI (Jqw7 p) (.seq (.region [⟨(some 2), (.asg (.c (.d (.int .i64 14)))), none, false⟩] []) .ret) := eqi
def Jqw8 (p : Nums) : IC := (.seq (Jqw5 p) (.cond (.t 26) (Jqw6 p) .skip))
@[simp] theorem Jew8 {p : Nums} : EqI (Jqw8 p) (.seq (Jqw5 p) (.cond (.t 26) (Jqw6 p) .skip)) := eqi
def Jqw9 (p : Nums) : IC := (.seq (.region [⟨(some 2), (.asg (.c (.d (.int .i64 6)))), none, false⟩] []) .ret)
@[simp] theorem Jew9 {p : Nums} : EqI (Jqw9 p) (.seq (.region [⟨(some 2), (.asg (.c (.d (.int .i64 6)))), none, false⟩] []) .ret) := eqi
def Jqwa (p : Nums) : IC := (.seq (Jqw4 p) (.cond (.t 21) (Jqw7 p) (Jqw8 p)))
@[simp] theorem Jewa {p : Nums} : EqI (Jqwa p) (.seq (Jqw4 p) (.cond (.t 21) (Jqw7 p) (Jqw8 p))) := eqi
def Jqvu (p : Nums) : IC := (.seq (.region [⟨(some 2), (.asg (.c (.d (.int .i64 9)))), none, false⟩] []) .ret)
@[simp] theorem Jevu {p : Nums} : EqI (Jqvu p) (.seq (.region [⟨(some 2), (.asg (.c (.d (.int .i64 9)))), none, false⟩] []) .ret) := eqi
def Jqvv (p : Nums) : IC := (.seq (Jqw3 p) (.cond (.t 17) (Jqw9 p) (Jqwa p)))
@[simp] theorem Jevv {p : Nums} : EqI (Jqvv p) (.seq (Jqw3 p) (.cond (.t 17) (Jqw9 p) (Jqwa p))) := eqi
def Jqvw (p : Nums) : IC := (.seq (Jqvt p) (.cond (.t 6) (Jqvu p) (Jqvv p)))
@[simp] theorem Jevw {p : Nums} : EqI (Jqvw p) (.seq (Jqvt p) (.cond (.t 6) (Jqvu p) (Jqvv p))) := eqi
@[simp] def Jqwc (p : Nums) : List IOp := [qo 36 (.faddr 2 (.t 1)), qo 37 (.load none (.t 36)), qo 38 (.len (.t 37)), qo 39 (.mov (ci 0))]
def Jqvx (p : Nums) : IC := (.region (Jqwc p) [])
@[simp] theorem Jevx {p : Nums} : EqI (Jqvx p) (.region (Jqwc p) []) := eqi
@[simp] def Jqwd (p : Nums) : List IOp := [qo 41 (.iaddr 5 (.t 37) (.t 39)), qo 42 (.load (some 5) (.t 41)), qo 4 (.alloc [.nils, (zi 0), (zi 0), (zi 0), (zi 0)]), qn (.store 5 (.t 4) (.t 42))]
def Jqvy (p : Nums) : IC := (.region (Jqwd p) [])
@[simp] theorem Jevy {p : Nums} : EqI (Jqvy p) (.region (Jqwd p) []) := eqi
@[simp] def Jqwe (p : Nums) : List IOp := [qo 43 (.load (some 5) (.t 4)), qo 44 (.faddr 1 (.t 1)), qo 45 (.load none (.t 44)), qo 46 (.faddr 2 (.t 1)), qo 47 (.load none (.t 46)), qo 48 (.len (.t 47)), qo 49 (.call p.source_block [(.t 43), (.t 45), (.t 48)]), qo 5 (.asg (.t 49))]
def Jqvz (p : Nums) : IC := (.region (Jqwe p) [])
@[simp] theorem Jevz {p : Nums} : EqI (Jqvz p) (.region (Jqwe p) []) := eqi
def Jqw0 (p : Nums) : IC := (.seq (.region [⟨(some 52), (.mov (.t 5)), none, false⟩, ⟨(some 2), (.asg (.t 52)), none, false⟩] []) .ret)
@[simp] theorem Jew0 {p : Nums} : EqI (Jqw0 p) (.seq (.region [⟨(some 52), (.mov (.t 5)), none, false⟩, ⟨(some 2), (.asg (.t 52)), none, false⟩] []) .ret) := eqi
def Jqw1 (p : Nums) : IC := (.seq (Jqvy p) (.seq (Jqvz p) (.seq (.region [⟨(some 50), (.mov (.t 5)), none, false⟩, ⟨(some 51), (.bin .neq (.t 50) (.c (.d (.int .i64 0)))), none, false⟩] []) (.cond (.t 51) (Jqw0 p) .skip))))
@[simp] theorem Jew1 {p : Nums} : EqI (Jqw1 p) (.seq (Jqvy p) (.seq (Jqvz p) (.seq (.region [⟨(some 50), (.mov (.t 5)), none, false⟩, ⟨(some 51), (.bin .neq (.t 50) (.c (.d (.int .i64 0)))), none, false⟩] []) (.cond (.t 51) (Jqw0 p) .skip)))) := eqi
def Jqw2 (p : Nums) : IC := (.seq (.region [⟨(some 40), (.bin .lss (.t 39) (.t 38)), none, false⟩] []) (.seq (.cond (.t 40) .skip (.exit 1)) (.seq (.block 2 (Jqw1 p)) (.region [⟨(some 53), (.bin .add (.t 39) (.c (.d (.int .i64 1)))), none, false⟩, ⟨(some 39), (.mov (.t 53)), none, false⟩] []))))
@[simp] theorem Jew2 {p : Nums} : EqI (Jqw2 p) (.seq (.region [⟨(some 40), (.bin .lss (.t 39) (.t 38)), none, false⟩] []) (.seq (.cond (.t 40) .skip (.exit 1)) (.seq (.block 2 (Jqw1 p)) (.region [⟨(some 53), (.bin .add (.t 39) (.c (.d (.int .i64 1)))), none, false⟩, ⟨(some 39), (.mov (.t 53)), none, false⟩] [])))) := eqi
def Jtcj (p : Nums) : IC := (.seq (.region [⟨(some 1), (.box (.t 0)), none, false⟩, ⟨(some 2), (.asg (.c (.d (.int .i64 0)))), none, false⟩] []) (.seq (.block 0 (Jqvw p)) (.seq (.seq (Jqvx p) (.block 1 (.loop (Jqw2 p)))) (.seq (.region [⟨(some 2), (.asg (.c (.d (.int .i64 0)))), none, false⟩] []) .ret))))
@[simp] def Jq92 (p : Nums) : List IOp := [qo 7 (.faddr 0 (.t 1)), qo 8 (.load none (.t 7)), qo 9 (.bin .lss (.t 8) (ci 0)), qo 10 (.mov (.t 9)), ⟨(some 11), (.faddr 0 (.t 1)), (some (10, false)), false⟩, ⟨(some 12), (.load none (.t 11)), (some (10, false)), false⟩, ⟨(some 13), (.faddr 2 (.t 1)), (some (10, false)), false⟩, ⟨(some 14), (.load none (.t 13)), (some (10, false)), false⟩, ⟨(some 15), (.bin .gtr (.t 12) (.t 14)), (some (10, false)), false⟩, qo 16 (.pick (.t 10) (.c (.d (.bool true))) (.t 15)), qo 6 (.asg (.t 16))]
def Jq8h (p : Nums) : IC := (.region (Jq92 p) [])
@[simp] theorem Je8h {p : Nums} : EqI (Jq8h p) (.region (Jq92 p) []) := eqi
@[simp] def Jq96 (p : Nums) : List IOp := [qo 18 (.faddr 1 (.t 1)), qo 19 (.load none (.t 18)), qo 20 (.bin .lss (.t 19) (ci 0)), qo 17 (.asg (.t 20))]
def Jq8s (p : Nums) : IC := (.region (Jq96 p) [])
@[simp] theorem Je8s {p : Nums} : EqI (Jq8s p) (.region (Jq96 p) []) := eqi
@[simp] def Jq97 (p : Nums) : List IOp := [qo 22 (.faddr 2 (.t 1)), qo 23 (.load none (.t 22)), qo 24 (.bin .gtr (.t 23) (ci 1048576)), qo 25 (.mov (.t 24)), ⟨(some 26), (.faddr 1 (.t 1)), (some (25, false)), false⟩, ⟨(some 27), (.load none (.t 26)), (some (25, false)), false⟩, ⟨(some 28), (.bin .gtr (.t 27) (ci 1048576)), (some (25, false)), false⟩, qo 29 (.pick (.t 25) (.c (.d (.bool true))) (.t 28)), qo 21 (.asg (.t 29))]
def Jq8v (p : Nums) : IC := (.region (Jq97 p) [])
@[simp] theorem Je8v {p : Nums} : EqI (Jq8v p) (.region (Jq97 p) []) := eqi
@[simp] def Jq98 (p : Nums) : List IOp := [qo 31 (.faddr 3 (.t 1)), qo 32 (.load none (.t 31)), qo 33 (.len (.t 32)), qo 34 (.bin .eql (.t 33) (ci 0)), qo 30 (.asg (.t 34))]
def Jq8w (p : Nums) : IC := (.region (Jq98 p) [])
@[simp] theorem Je8w {p : Nums} : EqI (Jq8w p) (.region (Jq98 p) []) := eqi
@[simp] def Jq99 (p : Nums) : List IOp := [qo 36 (.faddr 3 (.t 1)), qo 37 (.load none (.t 36)), qo 38 (.len (.t 37)), qo 39 (.bin .gtr (.t 38) (ci 1048576)), qo 40 (.mov (.t 39)), ⟨(some 41), (.load (some 4) (.t 1)), (some (40, false)), false⟩, ⟨(some 42), (.call p.machine_Code [(.t 41)]), (some (40, false)), false⟩, ⟨(some 43), (.bin .gtr (.t 42) (ci 1048576)), (some (40, false)), false⟩, qo 44 (.pick (.t 40) (.c (.d (.bool true))) (.t 43)), qo 35 (.asg (.t 44))]
def Jq8x (p : Nums) : IC := (.region (Jq99 p) [])
@[simp] theorem Je8x {p : Nums} : EqI (Jq8x p) (.region (Jq99 p) []) := eqi
def Jq8y (p : Nums) : IC := (.seq (.region [⟨(some 2), (.asg (.c (.d (.int .i64 6)))), none, false⟩] []) .ret)
@[simp] theorem Je8y {p : Nums} : EqI (Jq8y p) (.seq (.region [⟨(some 2), (.asg (.c (.d (.int .i64 6)))), none, false⟩] []) .ret) := eqi
def Jq8z (p : Nums) : IC := (.seq (.region [⟨(some 2), (.asg (.c (.d (.int .i64 14)))), none, false⟩] []) .ret)
@[simp] theorem Je8z {p : Nums} : EqI (Jq8z p) (.seq (.region [⟨(some 2), (.asg (.c (.d (.int .i64 14)))), none, false⟩] []) .ret) := eqi
def Jq90 (p : Nums) : IC := (.seq (Jq8x p) (.cond (.t 35) (Jq8y p) .skip))
@[simp] theorem Je90 {p : Nums} : EqI (Jq90 p) (.seq (Jq8x p) (.cond (.t 35) (Jq8y p) .skip)) := eqi
def Jq91 (p : Nums) : IC := (.seq (.region [⟨(some 2), (.asg (.c (.d (.int .i64 6)))), none, false⟩] []) .ret)
@[simp] theorem Je91 {p : Nums} : EqI (Jq91 p) (.seq (.region [⟨(some 2), (.asg (.c (.d (.int .i64 6)))), none, false⟩] []) .ret) := eqi
def Jq8i (p : Nums) : IC := (.seq (Jq8w p) (.cond (.t 30) (Jq8z p) (Jq90 p)))
@[simp] theorem Je8i {p : Nums} : EqI (Jq8i p) (.seq (Jq8w p) (.cond (.t 30) (Jq8z p) (Jq90 p))) := eqi
def Jq8j (p : Nums) : IC := (.seq (.region [⟨(some 2), (.asg (.c (.d (.int .i64 9)))), none, false⟩] []) .ret)
@[simp] theorem Je8j {p : Nums} : EqI (Jq8j p) (.seq (.region [⟨(some 2), (.asg (.c (.d (.int .i64 9)))), none, false⟩] []) .ret) := eqi
def Jq8k (p : Nums) : IC := (.seq (Jq8v p) (.cond (.t 21) (Jq91 p) (Jq8i p)))
@[simp] theorem Je8k {p : Nums} : EqI (Jq8k p) (.seq (Jq8v p) (.cond (.t 21) (Jq91 p) (Jq8i p))) := eqi
def Jq8l (p : Nums) : IC := (.seq (.region [⟨(some 2), (.asg (.c (.d (.int .i64 10)))), none, false⟩] []) .ret)
@[simp] theorem Je8l {p : Nums} : EqI (Jq8l p) (.seq (.region [⟨(some 2), (.asg (.c (.d (.int .i64 10)))), none, false⟩] []) .ret) := eqi
def Jq8m (p : Nums) : IC := (.seq (Jq8s p) (.cond (.t 17) (Jq8j p) (Jq8k p)))
@[simp] theorem Je8m {p : Nums} : EqI (Jq8m p) (.seq (Jq8s p) (.cond (.t 17) (Jq8j p) (Jq8k p))) := eqi
def Jq8n (p : Nums) : IC := (.seq (Jq8h p) (.cond (.t 6) (Jq8l p) (Jq8m p)))
@[simp] theorem Je8n {p : Nums} : EqI (Jq8n p) (.seq (Jq8h p) (.cond (.t 6) (Jq8l p) (Jq8m p))) := eqi
@[simp] def Jq93 (p : Nums) : List IOp := [qo 45 (.faddr 3 (.t 1)), qo 46 (.load none (.t 45)), qo 47 (.len (.t 46)), qo 48 (.mov (ci 0))]
def Jq8o (p : Nums) : IC := (.region (Jq93 p) [])
@[simp] theorem Je8o {p : Nums} : EqI (Jq8o p) (.region (Jq93 p) []) := eqi
@[simp] def Jq94 (p : Nums) : List IOp := [qo 50 (.iaddr 5 (.t 46) (.t 48)), qo 51 (.load (some 5) (.t 50)), qo 4 (.alloc [.nils, (zi 0), (zi 0), (zi 0), (zi 0)]), qn (.store 5 (.t 4) (.t 51))]
def Jq8p (p : Nums) : IC := (.region (Jq94 p) [])
@[simp] theorem Je8p {p : Nums} : EqI (Jq8p p) (.region (Jq94 p) []) := eqi
@[simp] def Jq95 (p : Nums) : List IOp := [qo 52 (.load (some 4) (.t 1)), qo 53 (.load (some 5) (.t 4)), qo 54 (.call p.machine_block [(.t 52), (.t 53)]), qo 5 (.asg (.t 54))]
def Jq8q (p : Nums) : IC := (.region (Jq95 p) [])
@[simp] theorem Je8q {p : Nums} : EqI (Jq8q p) (.region (Jq95 p) []) := eqi
def Jq8r (p : Nums) : IC := (.seq (.region [⟨(some 57), (.mov (.t 5)), none, false⟩, ⟨(some 2), (.asg (.t 57)), none, false⟩] []) .ret)
@[simp] theorem Je8r {p : Nums} : EqI (Jq8r p) (.seq (.region [⟨(some 57), (.mov (.t 5)), none, false⟩, ⟨(some 2), (.asg (.t 57)), none, false⟩] []) .ret) := eqi
def Jq8t (p : Nums) : IC := (.seq (Jq8p p) (.seq (Jq8q p) (.seq (.region [⟨(some 55), (.mov (.t 5)), none, false⟩, ⟨(some 56), (.bin .neq (.t 55) (.c (.d (.int .i64 0)))), none, false⟩] []) (.cond (.t 56) (Jq8r p) .skip))))
@[simp] theorem Je8t {p : Nums} : EqI (Jq8t p) (.seq (Jq8p p) (.seq (Jq8q p) (.seq (.region [⟨(some 55), (.mov (.t 5)), none, false⟩, ⟨(some 56), (.bin .neq (.t 55) (.c (.d (.int .i64 0)))), none, false⟩] []) (.cond (.t 56) (Jq8r p) .skip)))) := eqi
def Jq8u (p : Nums) : IC := (.seq (.region [⟨(some 49), (.bin .lss (.t 48) (.t 47)), none, false⟩] []) (.seq (.cond (.t 49) .skip (.exit 1)) (.seq (.block 2 (Jq8t p)) (.region [⟨(some 58), (.bin .add (.t 48) (.c (.d (.int .i64 1)))), none, false⟩, ⟨(some 48), (.mov (.t 58)), none, false⟩] []))))
@[simp] theorem Je8u {p : Nums} : EqI (Jq8u p) (.seq (.region [⟨(some 49), (.bin .lss (.t 48) (.t 47)), none, false⟩] []) (.seq (.cond (.t 49) .skip (.exit 1)) (.seq (.block 2 (Jq8t p)) (.region [⟨(some 58), (.bin .add (.t 48) (.c (.d (.int .i64 1)))), none, false⟩, ⟨(some 48), (.mov (.t 58)), none, false⟩] [])))) := eqi
def Jtap (p : Nums) : IC := (.seq (.region [⟨(some 1), (.box (.t 0)), none, false⟩, ⟨(some 2), (.asg (.c (.d (.int .i64 0)))), none, false⟩] []) (.seq (.block 0 (Jq8n p)) (.seq (.seq (Jq8o p) (.block 1 (.loop (Jq8u p)))) (.seq (.region [⟨(some 2), (.asg (.c (.d (.int .i64 0)))), none, false⟩] []) .ret))))
@[simp] def Jq6t (p : Nums) : List IOp := [qo 15 (.mov (.t 0)), qo 16 (.len (.t 15)), qo 17 (.mov (.t 1)), qo 18 (.bin .neq (.t 16) (.t 17)), qo 14 (.asg (.t 18))]
def Jq6h (p : Nums) : IC := (.region (Jq6t p) [])
@[simp] theorem Je6h {p : Nums} : EqI (Jq6h p) (.region (Jq6t p) []) := eqi
@[simp] def Jq6u (p : Nums) : List IOp := [qo 20 (.mov (.t 0)), qo 21 (.call p.edge_total [(.t 20)]), qo 22 (.bin .gtr (.t 21) (ci 1048576)), qo 19 (.asg (.t 22))]
def Jq6l (p : Nums) : IC := (.region (Jq6u p) [])
@[simp] theorem Je6l {p : Nums} : EqI (Jq6l p) (.region (Jq6u p) []) := eqi
def Jq6m (p : Nums) : IC := (.seq (.region [⟨(some 10), (.asg (.c (.d (.int .i64 6)))), none, false⟩] []) .ret)
@[simp] theorem Je6m {p : Nums} : EqI (Jq6m p) (.seq (.region [⟨(some 10), (.asg (.c (.d (.int .i64 6)))), none, false⟩] []) .ret) := eqi
def Jq6n (p : Nums) : IC := (.seq (.region [⟨(some 10), (.asg (.c (.d (.int .i64 14)))), none, false⟩] []) .ret)
@[simp] theorem Je6n {p : Nums} : EqI (Jq6n p) (.seq (.region [⟨(some 10), (.asg (.c (.d (.int .i64 14)))), none, false⟩] []) .ret) := eqi
def Jq6o (p : Nums) : IC := (.seq (Jq6l p) (.cond (.t 19) (Jq6m p) .skip))
@[simp] theorem Je6o {p : Nums} : EqI (Jq6o p) (.seq (Jq6l p) (.cond (.t 19) (Jq6m p) .skip)) := eqi
def Jq6p (p : Nums) : IC := (.seq (Jq6h p) (.cond (.t 14) (Jq6n p) (Jq6o p)))
@[simp] theorem Je6p {p : Nums} : EqI (Jq6p p) (.seq (Jq6h p) (.cond (.t 14) (Jq6n p) (Jq6o p))) := eqi
@[simp] def Jq6v (p : Nums) : List IOp := [qo 23 (.mov (.t 0)), qo 24 (.len (.t 23)), qo 25 (.mov (ci 0))]
def Jq6q (p : Nums) : IC := (.region (Jq6v p) [])
@[simp] theorem Je6q {p : Nums} : EqI (Jq6q p) (.region (Jq6v p) []) := eqi
@[simp] def Jq6w (p : Nums) : List IOp := [qo 27 (.iaddr 1 (.t 23) (.t 25)), qo 28 (.load none (.t 27)), qo 12 (.asg (.t 28))]
def Jq6r (p : Nums) : IC := (.region (Jq6w p) [])
@[simp] theorem Je6r {p : Nums} : EqI (Jq6r p) (.region (Jq6w p) []) := eqi
@[simp] def Jq6x (p : Nums) : List IOp := [qo 29 (.mov (.t 12)), qo 30 (.mov (.t 2)), qo 31 (.mov (.t 3)), qo 32 (.mov (.t 4)), qo 33 (.call p.edge_pairs [(.t 29), (.t 30), (.t 31), (.t 32)]), qo 13 (.asg (.t 33))]
def Jq6s (p : Nums) : IC := (.region (Jq6x p) [])
@[simp] theorem Je6s {p : Nums} : EqI (Jq6s p) (.region (Jq6x p) []) := eqi
def Jq6i (p : Nums) : IC := (.seq (.region [⟨(some 36), (.mov (.t 13)), none, false⟩, ⟨(some 10), (.asg (.t 36)), none, false⟩] []) .ret)
@[simp] theorem Je6i {p : Nums} : EqI (Jq6i p) (.seq (.region [⟨(some 36), (.mov (.t 13)), none, false⟩, ⟨(some 10), (.asg (.t 36)), none, false⟩] []) .ret) := eqi
def Jq6j (p : Nums) : IC := (.seq (Jq6r p) (.seq (Jq6s p) (.seq (.region [⟨(some 34), (.mov (.t 13)), none, false⟩, ⟨(some 35), (.bin .neq (.t 34) (.c (.d (.int .i64 0)))), none, false⟩] []) (.cond (.t 35) (Jq6i p) .skip))))
@[simp] theorem Je6j {p : Nums} : EqI (Jq6j p) (.seq (Jq6r p) (.seq (Jq6s p) (.seq (.region [⟨(some 34), (.mov (.t 13)), none, false⟩, ⟨(some 35), (.bin .neq (.t 34) (.c (.d (.int .i64 0)))), none, false⟩] []) (.cond (.t 35) (Jq6i p) .skip)))) := eqi
def Jq6k (p : Nums) : IC := (.seq (.region [⟨(some 26), (.bin .lss (.t 25) (.t 24)), none, false⟩] []) (.seq (.cond (.t 26) .skip (.exit 1)) (.seq (.block 2 (Jq6j p)) (.region [⟨(some 37), (.bin .add (.t 25) (.c (.d (.int .i64 1)))), none, false⟩, ⟨(some 25), (.mov (.t 37)), none, false⟩] []))))
@[simp] theorem Je6k {p : Nums} : EqI (Jq6k p) (.seq (.region [⟨(some 26), (.bin .lss (.t 25) (.t 24)), none, false⟩] []) (.seq (.cond (.t 26) .skip (.exit 1)) (.seq (.block 2 (Jq6j p)) (.region [⟨(some 37), (.bin .add (.t 25) (.c (.d (.int .i64 1)))), none, false⟩, ⟨(some 25), (.mov (.t 37)), none, false⟩] [])))) := eqi
def Jtaf (p : Nums) : IC := (.seq (.region [⟨(some 10), (.asg (.c (.d (.int .i64 0)))), none, false⟩] []) (.seq (.block 0 (Jq6p p)) (.seq (.seq (Jq6q p) (.block 1 (.loop (Jq6k p)))) (.seq (.region [⟨(some 10), (.asg (.c (.d (.int .i64 0)))), none, false⟩] []) .ret))))
@[simp] def Jqid (p : Nums) : List IOp := [qo 8 (.faddr 0 (.t 1)), qo 9 (.load none (.t 8)), qo 10 (.bin .lss (.t 9) (ci 0)), qo 11 (.mov (.t 10)), ⟨(some 12), (.faddr 0 (.t 1)), (some (11, false)), false⟩, ⟨(some 13), (.load none (.t 12)), (some (11, false)), false⟩, ⟨(some 14), (.faddr 2 (.t 1)), (some (11, false)), false⟩, ⟨(some 15), (.load none (.t 14)), (some (11, false)), false⟩, ⟨(some 16), (.bin .gtr (.t 13) (.t 15)), (some (11, false)), false⟩, qo 17 (.pick (.t 11) (.c (.d (.bool true))) (.t 16))]
def Jqho (p : Nums) : IC := (.region (Jqid p) [])
@[simp] theorem Jeho {p : Nums} : EqI (Jqho p) (.region (Jqid p) []) := eqi
def Jqhz (p : Nums) : IC := (.seq (.region [⟨(some 2), (.asg (.c (.d (.int .i64 10)))), none, false⟩] []) .ret)
@[simp] theorem Jehz {p : Nums} : EqI (Jqhz p) (.seq (.region [⟨(some 2), (.asg (.c (.d (.int .i64 10)))), none, false⟩] []) .ret) := eqi
@[simp] def Jqim (p : Nums) : List IOp := [qo 18 (.faddr 1 (.t 1)), qo 19 (.load none (.t 18)), qo 20 (.bin .lss (.t 19) (ci 0))]
def Jqi6 (p : Nums) : IC := (.region (Jqim p) [])
@[simp] theorem Jei6 {p : Nums} : EqI (Jqi6 p) (.region (Jqim p) []) := eqi
def Jqi7 (p : Nums) : IC := (.seq (.region [⟨(some 2), (.asg (.c (.d (.int .i64 9)))), none, false⟩] []) .ret)
@[simp] theorem Jei7 {p : Nums} : EqI (Jqi7 p) (.seq (.region [⟨(some 2), (.asg (.c (.d (.int .i64 9)))), none, false⟩] []) .ret) := eqi
@[simp] def Jqin (p : Nums) : List IOp := [qo 21 (.faddr 2 (.t 1)), qo 22 (.load none (.t 21)), qo 23 (.bin .gtr (.t 22) (ci 1048576)), qo 24 (.mov (.t 23)), ⟨(some 25), (.faddr 1 (.t 1)), (some (24, false)), false⟩, ⟨(some 26), (.load none (.t 25)), (some (24, false)), false⟩, ⟨(some 27), (.bin .gtr (.t 26) (ci 1048576)), (some (24, false)), false⟩, qo 28 (.pick (.t 24) (.c (.d (.bool true))) (.t 27))]
def Jqi8 (p : Nums) : IC := (.region (Jqin p) [])
@[simp] theorem Jei8 {p : Nums} : EqI (Jqi8 p) (.region (Jqin p) []) := eqi
def Jqi9 (p : Nums) : IC := (.seq (.region [⟨(some 2), (.asg (.c (.d (.int .i64 6)))), none, false⟩] []) .ret)
@[simp] theorem Jei9 {p : Nums} : EqI (Jqi9 p) (.seq (.region [⟨(some 2), (.asg (.c (.d (.int .i64 6)))), none, false⟩] []) .ret) := eqi
@[simp] def Jqio (p : Nums) : List IOp := [qo 29 (.faddr 3 (.t 1)), qo 30 (.load none (.t 29)), qo 31 (.len (.t 30)), qo 32 (.bin .eql (.t 31) (ci 0))]
def Jqia (p : Nums) : IC := (.region (Jqio p) [])
@[simp] theorem Jeia {p : Nums} : EqI (Jqia p) (.region (Jqio p) []) := eqi
def Jqib (p : Nums) : IC := (.seq (.region [⟨(some 2), (.asg (.c (.d (.int .i64 14)))), none, false⟩] []) .ret)
@[simp] theorem Jeib {p : Nums} : EqI (Jqib p) (.seq (.region [⟨(some 2), (.asg (.c (.d (.int .i64 14)))), none, false⟩] []) .ret) := eqi
@[simp] def Jqip (p : Nums) : List IOp := [qo 33 (.faddr 3 (.t 1)), qo 34 (.load none (.t 33)), qo 35 (.len (.t 34)), qo 36 (.bin .gtr (.t 35) (ci 1048576)), qo 37 (.mov (.t 36)), ⟨(some 38), (.load (some 4) (.t 1)), (some (37, false)), false⟩, ⟨(some 39), (.call p.ref08_Code [(.t 38)]), (some (37, false)), false⟩, ⟨(some 40), (.bin .gtr (.t 39) (ci 1048576)), (some (37, false)), false⟩, qo 41 (.pick (.t 37) (.c (.d (.bool true))) (.t 40))]
def Jqic (p : Nums) : IC := (.region (Jqip p) [])
@[simp] theorem Jeic {p : Nums} : EqI (Jqic p) (.region (Jqip p) []) := eqi
def Jqhp (p : Nums) : IC := (.seq (.region [⟨(some 2), (.asg (.c (.d (.int .i64 6)))), none, false⟩] []) .ret)
@[simp] theorem Jehp {p : Nums} : EqI (Jqhp p) (.seq (.region [⟨(some 2), (.asg (.c (.d (.int .i64 6)))), none, false⟩] []) .ret) := eqi
@[simp] def Jqie (p : Nums) : List IOp := [qo 42 (.mov (.t 3)), qo 43 (.faddr 3 (.t 1)), qo 44 (.load none (.t 43)), qo 45 (.len (.t 44)), qo 46 (.bin .lss (.t 42) (.t 45))]
def Jqhq (p : Nums) : IC := (.region (Jqie p) [])
@[simp] theorem Jehq {p : Nums} : EqI (Jqhq p) (.region (Jqie p) []) := eqi
@[simp] def Jqif (p : Nums) : List IOp := [qo 49 (.faddr 3 (.t 1)), qo 50 (.load none (.t 49)), qo 51 (.mov (.t 3)), qo 52 (.iaddr 5 (.t 50) (.t 51)), qo 53 (.load (some 5) (.t 52)), qo 4 (.alloc [.nils, (zi 0), (zi 0), (zi 0), (zi 0)]), qn (.store 5 (.t 4) (.t 53))]
def Jqhr (p : Nums) : IC := (.region (Jqif p) [])
@[simp] theorem Jehr {p : Nums} : EqI (Jqhr p) (.region (Jqif p) []) := eqi
@[simp] def Jqig (p : Nums) : List IOp := [qo 54 (.mov (.t 5)), qo 55 (.faddr 0 (.t 4)), qo 56 (.load none (.t 55)), qo 57 (.len (.t 56)), qo 58 (.bin .lss (.t 54) (.t 57))]
def Jqhs (p : Nums) : IC := (.region (Jqig p) [])
@[simp] theorem Jehs {p : Nums} : EqI (Jqhs p) (.region (Jqig p) []) := eqi
@[simp] def Jqih (p : Nums) : List IOp := [qp 61 (.faddr 0 (.t 4)), qp 62 (.load none (.t 61)), qp 63 (.mov (.t 5)), qp 64 (.iaddr 7 (.t 62) (.t 63)), qp 65 (.load (some 7) (.t 64)), qp 66 (.faddr 1 (.t 1)), qp 67 (.load none (.t 66)), qp 68 (.faddr 2 (.t 1)), qp 69 (.load none (.t 68)), qo 70 (.call p.ref08_Instr [(.t 65), (.t 67), (.t 69)]), qo 6 (.asg (.t 70))]
def Jqht (p : Nums) : IC := (.region (Jqih p) [])
@[simp] theorem Jeht {p : Nums} : EqI (Jqht p) (.region (Jqih p) []) := eqi
def Jqhu (p : Nums) : IC := (.seq (.region [⟨(some 73), (.mov (.t 6)), none, false⟩, ⟨(some 2), (.asg (.t 73)), none, false⟩] []) .ret)
@[simp] theorem Jehu {p : Nums} : EqI (Jqhu p) (.seq (.region [⟨(some 73), (.mov (.t 6)), none, false⟩, ⟨(some 2), (.asg (.t 73)), none, false⟩] []) .ret) := eqi
@[simp] def Jqii (p : Nums) : List IOp := [qo 74 (.mov (.t 5)), qo 75 (.bin .geq (.t 74) (ci 64)), qo 76 (.mov (.t 75)), ⟨(some 77), (.faddr 0 (.t 4)), (some (76, true)), false⟩, ⟨(some 78), (.load none (.t 77)), (some (76, true)), false⟩, ⟨(some 79), (.mov (.t 5)), (some (76, true)), false⟩, ⟨(some 80), (.bin .sub (.t 79) (ci 64)), (some (76, true)), false⟩, ⟨(some 81), (.mov (.t 5)), (some (76, true)), false⟩, ⟨(some 82), (.bin .add (.t 81) (ci 1)), (some (76, true)), false⟩, ⟨(some 83), (.slc 7 (.t 78) (some (.t 80)) (some (.t 82))), (some (76, true)), false⟩, ⟨(some 84), (.call p.ref08_Moves [(.t 83)]), (some (76, true)), false⟩, ⟨(some 85), (.bin .gtr (.t 84) (ci 64)), (some (76, true)), false⟩, qo 86 (.pick (.t 76) (.t 85) (.c (.d (.bool false))))]
def Jqhv (p : Nums) : IC := (.region (Jqii p) [])
@[simp] theorem Jehv {p : Nums} : EqI (Jqhv p) (.region (Jqii p) []) := eqi
def Jqhw (p : Nums) : IC := (.seq (.region [⟨(some 2), (.asg (.c (.d (.int .i64 15)))), none, false⟩] []) .ret)
@[simp] theorem Jehw {p : Nums} : EqI (Jqhw p) (.seq (.region [⟨(some 2), (.asg (.c (.d (.int .i64 15)))), none, false⟩] []) .ret) := eqi
def Jqhx (p : Nums) : IC := (.seq (Jqht p) (.seq (.seq (.region [⟨(some 71), (.mov (.t 6)), none, false⟩, ⟨(some 72), (.bin .neq (.t 71) (.c (.d (.int .i64 0)))), none, false⟩] []) (.cond (.t 72) (Jqhu p) .skip)) (.seq (Jqhv p) (.cond (.t 86) (Jqhw p) .skip))))
@[simp] theorem Jehx {p : Nums} : EqI (Jqhx p) (.seq (Jqht p) (.seq (.seq (.region [⟨(some 71), (.mov (.t 6)), none, false⟩, ⟨(some 72), (.bin .neq (.t 71) (.c (.d (.int .i64 0)))), none, false⟩] []) (.cond (.t 72) (Jqhu p) .skip)) (.seq (Jqhv p) (.cond (.t 86) (Jqhw p) .skip)))) := eqi
@[simp] def Jqij (p : Nums) : List IOp := [qo 59 (.mov (.t 5)), qo 60 (.bin .add (.t 59) (ci 1)), qo 5 (.asg (.t 60))]
def Jqhy (p : Nums) : IC := (.region (Jqij p) [])
@[simp] theorem Jehy {p : Nums} : EqI (Jqhy p) (.region (Jqij p) []) := eqi
def Jqi0 (p : Nums) : IC := (.seq (.seq (Jqhs p) (.cond (.t 58) .skip (.exit 2))) (.seq (.block 3 (Jqhx p)) (Jqhy p)))
@[simp] theorem Jei0 {p : Nums} : EqI (Jqi0 p) (.seq (.seq (Jqhs p) (.cond (.t 58) .skip (.exit 2))) (.seq (.block 3 (Jqhx p)) (Jqhy p))) := eqi
@[simp] def Jqik (p : Nums) : List IOp := [qo 87 (.faddr 1 (.t 4)), qo 88 (.load (some 4) (.t 87)), qo 89 (.faddr 1 (.t 1)), qo 90 (.load none (.t 89)), qo 91 (.faddr 3 (.t 1)), qo 92 (.load none (.t 91)), qo 93 (.len (.t 92)), qo 94 (.call p.ref07_Term [(.t 88), (.t 90), (.t 93)]), qo 7 (.asg (.t 94))]
def Jqi1 (p : Nums) : IC := (.region (Jqik p) [])
@[simp] theorem Jei1 {p : Nums} : EqI (Jqi1 p) (.region (Jqik p) []) := eqi
def Jqi2 (p : Nums) : IC := (.seq (.region [⟨(some 97), (.mov (.t 7)), none, false⟩, ⟨(some 2), (.asg (.t 97)), none, false⟩] []) .ret)
@[simp] theorem Jei2 {p : Nums} : EqI (Jqi2 p) (.seq (.region [⟨(some 97), (.mov (.t 7)), none, false⟩, ⟨(some 2), (.asg (.t 97)), none, false⟩] []) .ret) := eqi
def Jqi3 (p : Nums) : IC := (.seq (Jqhr p) (.seq (.seq (.region [⟨(some 5), (.asg (.c (.d (.int .i64 0)))), none, false⟩] []) (.block 2 (.loop (Jqi0 p)))) (.seq (Jqi1 p) (.seq (.region [⟨(some 95), (.mov (.t 7)), none, false⟩, ⟨(some 96), (.bin .neq (.t 95) (.c (.d (.int .i64 0)))), none, false⟩] []) (.cond (.t 96) (Jqi2 p) .skip)))))
@[simp] theorem Jei3 {p : Nums} : EqI (Jqi3 p) (.seq (Jqhr p) (.seq (.seq (.region [⟨(some 5), (.asg (.c (.d (.int .i64 0)))), none, false⟩] []) (.block 2 (.loop (Jqi0 p)))) (.seq (Jqi1 p) (.seq (.region [⟨(some 95), (.mov (.t 7)), none, false⟩, ⟨(some 96), (.bin .neq (.t 95) (.c (.d (.int .i64 0)))), none, false⟩] []) (.cond (.t 96) (Jqi2 p) .skip))))) := eqi
@[simp] def Jqil (p : Nums) : List IOp := [qo 47 (.mov (.t 3)), qo 48 (.bin .add (.t 47) (ci 1)), qo 3 (.asg (.t 48))]
def Jqi4 (p : Nums) : IC := (.region (Jqil p) [])
@[simp] theorem Jei4 {p : Nums} : EqI (Jqi4 p) (.region (Jqil p) []) := eqi
def Jqi5 (p : Nums) : IC := (.seq (.seq (Jqhq p) (.cond (.t 46) .skip (.exit 0))) (.seq (.block 1 (Jqi3 p)) (Jqi4 p)))
@[simp] theorem Jei5 {p : Nums} : EqI (Jqi5 p) (.seq (.seq (Jqhq p) (.cond (.t 46) .skip (.exit 0))) (.seq (.block 1 (Jqi3 p)) (Jqi4 p))) := eqi
def Jtbq (p : Nums) : IC := (.seq (.region [⟨(some 1), (.box (.t 0)), none, false⟩, ⟨(some 2), (.asg (.c (.d (.int .i64 0)))), none, false⟩] []) (.seq (.seq (Jqho p) (.cond (.t 17) (Jqhz p) .skip)) (.seq (.seq (Jqi6 p) (.cond (.t 20) (Jqi7 p) .skip)) (.seq (.seq (Jqi8 p) (.cond (.t 28) (Jqi9 p) .skip)) (.seq (.seq (Jqia p) (.cond (.t 32) (Jqib p) .skip)) (.seq (.seq (Jqic p) (.cond (.t 41) (Jqhp p) .skip)) (.seq (.seq (.region [⟨(some 3), (.asg (.c (.d (.int .i64 0)))), none, false⟩] []) (.block 0 (.loop (Jqi5 p)))) (.seq (.region [⟨(some 2), (.asg (.c (.d (.int .i64 0)))), none, false⟩] []) .ret))))))))
@[simp] def Jqs5 (p : Nums) : List IOp := [qo 16 (.mov (.t 0)), qo 17 (.len (.t 16)), qo 18 (.mov (.t 1)), qo 19 (.bin .neq (.t 17) (.t 18))]
def Jqri (p : Nums) : IC := (.region (Jqs5 p) [])
@[simp] theorem Jeri {p : Nums} : EqI (Jqri p) (.region (Jqs5 p) []) := eqi
def Jqrt (p : Nums) : IC := (.seq (.region [⟨(some 10), (.asg (.c (.d (.int .i64 14)))), none, false⟩] []) .ret)
@[simp] theorem Jert {p : Nums} : EqI (Jqrt p) (.seq (.region [⟨(some 10), (.asg (.c (.d (.int .i64 14)))), none, false⟩] []) .ret) := eqi
@[simp] def Jqsd (p : Nums) : List IOp := [qo 20 (.mov (.t 12)), qo 21 (.mov (.t 0)), qo 22 (.len (.t 21)), qo 23 (.bin .lss (.t 20) (.t 22))]
def Jqry (p : Nums) : IC := (.region (Jqsd p) [])
@[simp] theorem Jery {p : Nums} : EqI (Jqry p) (.region (Jqsd p) []) := eqi
@[simp] def Jqse (p : Nums) : List IOp := [qo 26 (.mov (.t 11)), qo 27 (.mov (.t 0)), qo 28 (.mov (.t 12)), qo 29 (.iaddr 1 (.t 27) (.t 28)), qo 30 (.load none (.t 29)), qo 31 (.len (.t 30)), qo 32 (.bin .add (.t 26) (.t 31)), qo 11 (.asg (.t 32))]
def Jqrz (p : Nums) : IC := (.region (Jqse p) [])
@[simp] theorem Jerz {p : Nums} : EqI (Jqrz p) (.region (Jqse p) []) := eqi
def Jqs0 (p : Nums) : IC := (.seq (.region [⟨(some 10), (.asg (.c (.d (.int .i64 6)))), none, false⟩] []) .ret)
@[simp] theorem Jes0 {p : Nums} : EqI (Jqs0 p) (.seq (.region [⟨(some 10), (.asg (.c (.d (.int .i64 6)))), none, false⟩] []) .ret) := eqi
def Jqs1 (p : Nums) : IC := (.seq (Jqrz p) (.seq (.region [⟨(some 33), (.mov (.t 11)), none, false⟩, ⟨(some 34), (.bin .gtr (.t 33) (.c (.d (.int .i64 1048576)))), none, false⟩] []) (.cond (.t 34) (Jqs0 p) .skip)))
@[simp] theorem Jes1 {p : Nums} : EqI (Jqs1 p) (.seq (Jqrz p) (.seq (.region [⟨(some 33), (.mov (.t 11)), none, false⟩, ⟨(some 34), (.bin .gtr (.t 33) (.c (.d (.int .i64 1048576)))), none, false⟩] []) (.cond (.t 34) (Jqs0 p) .skip))) := eqi
@[simp] def Jqsf (p : Nums) : List IOp := [qo 24 (.mov (.t 12)), qo 25 (.bin .add (.t 24) (ci 1)), qo 12 (.asg (.t 25))]
def Jqs2 (p : Nums) : IC := (.region (Jqsf p) [])
@[simp] theorem Jes2 {p : Nums} : EqI (Jqs2 p) (.region (Jqsf p) []) := eqi
def Jqs3 (p : Nums) : IC := (.seq (.seq (Jqry p) (.cond (.t 23) .skip (.exit 0))) (.seq (.block 1 (Jqs1 p)) (Jqs2 p)))
@[simp] theorem Jes3 {p : Nums} : EqI (Jqs3 p) (.seq (.seq (Jqry p) (.cond (.t 23) .skip (.exit 0))) (.seq (.block 1 (Jqs1 p)) (Jqs2 p))) := eqi
@[simp] def Jqsg (p : Nums) : List IOp := [qo 35 (.mov (.t 13)), qo 36 (.mov (.t 0)), qo 37 (.len (.t 36)), qo 38 (.bin .lss (.t 35) (.t 37))]
def Jqs4 (p : Nums) : IC := (.region (Jqsg p) [])
@[simp] theorem Jes4 {p : Nums} : EqI (Jqs4 p) (.region (Jqsg p) []) := eqi
@[simp] def Jqs6 (p : Nums) : List IOp := [qo 41 (.mov (.t 14)), qo 42 (.mov (.t 0)), qo 43 (.mov (.t 13)), qo 44 (.iaddr 1 (.t 42) (.t 43)), qo 45 (.load none (.t 44)), qo 46 (.len (.t 45)), qo 47 (.bin .lss (.t 41) (.t 46))]
def Jqrj (p : Nums) : IC := (.region (Jqs6 p) [])
@[simp] theorem Jerj {p : Nums} : EqI (Jqrj p) (.region (Jqs6 p) []) := eqi
@[simp] def Jqs7 (p : Nums) : List IOp := [qo 50 (.mov (.t 0)), qo 51 (.mov (.t 13)), qo 52 (.iaddr 1 (.t 50) (.t 51)), qo 53 (.load none (.t 52)), qo 54 (.mov (.t 14)), qo 55 (.iaddr 2 (.t 53) (.t 54)), qo 56 (.load (some 2) (.t 55)), qo 15 (.alloc [(zi 0), (zi 0)]), qn (.store 2 (.t 15) (.t 56))]
def Jqrk (p : Nums) : IC := (.region (Jqs7 p) [])
@[simp] theorem Jerk {p : Nums} : EqI (Jqrk p) (.region (Jqs7 p) []) := eqi
@[simp] def Jqs8 (p : Nums) : List IOp := [qo 57 (.faddr 0 (.t 15)), qo 58 (.load none (.t 57)), qo 59 (.bin .lss (.t 58) (ci 0)), qo 60 (.mov (.t 59)), ⟨(some 61), (.faddr 0 (.t 15)), (some (60, false)), false⟩, ⟨(some 62), (.load none (.t 61)), (some (60, false)), false⟩, ⟨(some 63), (.mov (.t 2)), (some (60, false)), false⟩, ⟨(some 64), (.bin .geq (.t 62) (.t 63)), (some (60, false)), false⟩, qo 65 (.pick (.t 60) (.c (.d (.bool true))) (.t 64))]
def Jqrl (p : Nums) : IC := (.region (Jqs8 p) [])
@[simp] theorem Jerl {p : Nums} : EqI (Jqrl p) (.region (Jqs8 p) []) := eqi
def Jqrm (p : Nums) : IC := (.seq (.region [⟨(some 10), (.asg (.c (.d (.int .i64 9)))), none, false⟩] []) .ret)
@[simp] theorem Jerm {p : Nums} : EqI (Jqrm p) (.seq (.region [⟨(some 10), (.asg (.c (.d (.int .i64 9)))), none, false⟩] []) .ret) := eqi
@[simp] def Jqs9 (p : Nums) : List IOp := [qo 66 (.faddr 1 (.t 15)), qo 67 (.load none (.t 66)), qo 68 (.mov (.t 3)), qo 69 (.mov (.t 4)), qo 70 (.call p.ref04_InRange [(.t 67), (.t 68), (.t 69)]), qo 71 (.un .not (.t 70))]
def Jqrn (p : Nums) : IC := (.region (Jqs9 p) [])
@[simp] theorem Jern {p : Nums} : EqI (Jqrn p) (.region (Jqs9 p) []) := eqi
def Jqro (p : Nums) : IC := (.seq (.region [⟨(some 10), (.asg (.c (.d (.int .i64 10)))), none, false⟩] []) .ret)
@[simp] theorem Jero {p : Nums} : EqI (Jqro p) (.seq (.region [⟨(some 10), (.asg (.c (.d (.int .i64 10)))), none, false⟩] []) .ret) := eqi
@[simp] def Jqsa (p : Nums) : List IOp := [qo 72 (.mov (.t 14)), qo 73 (.bin .gtr (.t 72) (ci 0)), qo 74 (.mov (.t 73)), ⟨(some 75), (.mov (.t 0)), (some (74, true)), true⟩, ⟨(some 76), (.mov (.t 13)), (some (74, true)), true⟩, ⟨(some 77), (.iaddr 1 (.t 75) (.t 76)), (some (74, true)), true⟩, ⟨(some 78), (.load none (.t 77)), (some (74, true)), true⟩, ⟨(some 79), (.mov (.t 14)), (some (74, true)), true⟩, ⟨(some 80), (.bin .sub (.t 79) (ci 1)), (some (74, true)), true⟩, ⟨(some 81), (.iaddr 2 (.t 78) (.t 80)), (some (74, true)), true⟩, ⟨(some 82), (.load (some 2) (.t 81)), (some (74, true)), true⟩, ⟨(some 83), (.load (some 2) (.t 15)), (some (74, true)), true⟩, ⟨(some 84), (.call p.ref11_Less [(.t 82), (.t 83)]), (some (74, true)), false⟩, ⟨(some 85), (.un .not (.t 84)), (some (74, true)), false⟩, qo 86 (.pick (.t 74) (.t 85) (.c (.d (.bool false))))]
def Jqrp (p : Nums) : IC := (.region (Jqsa p) [])
@[simp] theorem Jerp {p : Nums} : EqI (Jqrp p) (.region (Jqsa p) []) := eqi
def Jqrq (p : Nums) : IC := (.seq (.region [⟨(some 10), (.asg (.c (.d (.int .i64 13)))), none, false⟩] []) .ret)
@[simp] theorem Jerq {p : Nums} : EqI (Jqrq p) (.seq (.region [⟨(some 10), (.asg (.c (.d (.int .i64 13)))), none, false⟩] []) .ret) := eqi
def Jqrr (p : Nums) : IC := (.seq (Jqrk p) (.seq (.seq (Jqrl p) (.cond (.t 65) (Jqrm p) .skip)) (.seq (.seq (Jqrn p) (.cond (.t 71) (Jqro p) .skip)) (.seq (Jqrp p) (.cond (.t 86) (Jqrq p) .skip)))))
@[simp] theorem Jerr {p : Nums} : EqI (Jqrr p) (.seq (Jqrk p) (.seq (.seq (Jqrl p) (.cond (.t 65) (Jqrm p) .skip)) (.seq (.seq (Jqrn p) (.cond (.t 71) (Jqro p) .skip)) (.seq (Jqrp p) (.cond (.t 86) (Jqrq p) .skip))))) := eqi
@[simp] def Jqsb (p : Nums) : List IOp := [qo 48 (.mov (.t 14)), qo 49 (.bin .add (.t 48) (ci 1)), qo 14 (.asg (.t 49))]
def Jqrs (p : Nums) : IC := (.region (Jqsb p) [])
@[simp] theorem Jers {p : Nums} : EqI (Jqrs p) (.region (Jqsb p) []) := eqi
def Jqru (p : Nums) : IC := (.seq (.seq (Jqrj p) (.cond (.t 47) .skip (.exit 4))) (.seq (.block 5 (Jqrr p)) (Jqrs p)))
@[simp] theorem Jeru {p : Nums} : EqI (Jqru p) (.seq (.seq (Jqrj p) (.cond (.t 47) .skip (.exit 4))) (.seq (.block 5 (Jqrr p)) (Jqrs p))) := eqi
def Jqrv (p : Nums) : IC := (.seq (.region [⟨(some 14), (.asg (.c (.d (.int .i64 0)))), none, false⟩] []) (.block 4 (.loop (Jqru p))))
@[simp] theorem Jerv {p : Nums} : EqI (Jqrv p) (.seq (.region [⟨(some 14), (.asg (.c (.d (.int .i64 0)))), none, false⟩] []) (.block 4 (.loop (Jqru p)))) := eqi
@[simp] def Jqsc (p : Nums) : List IOp := [qo 39 (.mov (.t 13)), qo 40 (.bin .add (.t 39) (ci 1)), qo 13 (.asg (.t 40))]
def Jqrw (p : Nums) : IC := (.region (Jqsc p) [])
@[simp] theorem Jerw {p : Nums} : EqI (Jqrw p) (.region (Jqsc p) []) := eqi
def Jqrx (p : Nums) : IC := (.seq (.seq (Jqs4 p) (.cond (.t 38) .skip (.exit 2))) (.seq (.block 3 (Jqrv p)) (Jqrw p)))
@[simp] theorem Jerx {p : Nums} : EqI (Jqrx p) (.seq (.seq (Jqs4 p) (.cond (.t 38) .skip (.exit 2))) (.seq (.block 3 (Jqrv p)) (Jqrw p))) := eqi
def Jtcd (p : Nums) : IC := (.seq (.region [⟨(some 10), (.asg (.c (.d (.int .i64 0)))), none, false⟩] []) (.seq (.seq (Jqri p) (.cond (.t 19) (Jqrt p) .skip)) (.seq (.region [⟨(some 11), (.asg (.c (.d (.int .i64 0)))), none, false⟩] []) (.seq (.seq (.region [⟨(some 12), (.asg (.c (.d (.int .i64 0)))), none, false⟩] []) (.block 0 (.loop (Jqs3 p)))) (.seq (.seq (.region [⟨(some 13), (.asg (.c (.d (.int .i64 0)))), none, false⟩] []) (.block 2 (.loop (Jqrx p)))) (.seq (.region [⟨(some 10), (.asg (.c (.d (.int .i64 0)))), none, false⟩] []) .ret))))))
@[simp] def Jq5j (p : Nums) : List IOp := [qo 1 (.box (.t 0)), qo 2 (.alloc [(zi 0), (zi 0), (zi 0), (zi 0), (zi 0), (zi 0), (zi 0)])]
def Jq5c (p : Nums) : IC := (.region (Jq5j p) [])
@[simp] theorem Je5c {p : Nums} : EqI (Jq5c p) (.region (Jq5j p) []) := eqi
@[simp] def Jq5k (p : Nums) : List IOp := [qo 6 (.faddr 7 (.t 1)), qo 7 (.load none (.t 6)), qo 8 (.iaddr 1 (.t 7) (ci 0)), qo 9 (.load none (.t 8)), qo 10 (.len (.t 9)), qo 11 (.bin .add (ci 1) (.t 10)), qo 12 (.build [(zi 0), (zi 0), (zi 0), (zi 0), (zi 0), (zi 0), (zi 0)] [(5, 1, (.t 11))]), qo 3 (.alloc [(zi 0), (zi 0), (zi 0), (zi 0), (zi 0), (zi 0), (zi 0)]), qn (.store 7 (.t 3) (.t 12))]
def Jq5d (p : Nums) : IC := (.region (Jq5k p) [])
@[simp] theorem Je5d {p : Nums} : EqI (Jq5d p) (.region (Jq5k p) []) := eqi
@[simp] def Jq5l (p : Nums) : List IOp := [qo 13 (.faddr 7 (.t 1)), qo 14 (.load none (.t 13)), qo 15 (.len (.t 14)), qo 16 (.mov (ci 0))]
def Jq5e (p : Nums) : IC := (.region (Jq5l p) [])
@[simp] theorem Je5e {p : Nums} : EqI (Jq5e p) (.region (Jq5l p) []) := eqi
@[simp] def Jq5m (p : Nums) : List IOp := [qo 18 (.iaddr 1 (.t 14) (.t 16)), qo 19 (.load none (.t 18)), qo 5 (.asg (.t 19))]
def Jq5f (p : Nums) : IC := (.region (Jq5m p) [])
@[simp] theorem Je5f {p : Nums} : EqI (Jq5f p) (.region (Jq5m p) []) := eqi
@[simp] def Jq5n (p : Nums) : List IOp := [qo 20 (.faddr 6 (.t 3)), qo 21 (.load none (.t 20)), qo 22 (.mov (.t 5)), qo 23 (.len (.t 22)), qo 24 (.mx (.t 21) (.t 23)), qo 25 (.faddr 6 (.t 3)), qn (.store 1 (.t 25) (.t 24))]
def Jq5g (p : Nums) : IC := (.region (Jq5n p) [])
@[simp] theorem Je5g {p : Nums} : EqI (Jq5g p) (.region (Jq5n p) []) := eqi
def Jq5h (p : Nums) : IC := (.seq (.region [⟨(some 17), (.bin .lss (.t 16) (.t 15)), none, false⟩] []) (.seq (.cond (.t 17) .skip (.exit 0)) (.seq (.block 1 (.seq (Jq5f p) (Jq5g p))) (.region [⟨(some 26), (.bin .add (.t 16) (.c (.d (.int .i64 1)))), none, false⟩, ⟨(some 16), (.mov (.t 26)), none, false⟩] []))))
@[simp] theorem Je5h {p : Nums} : EqI (Jq5h p) (.seq (.region [⟨(some 17), (.bin .lss (.t 16) (.t 15)), none, false⟩] []) (.seq (.cond (.t 17) .skip (.exit 0)) (.seq (.block 1 (.seq (Jq5f p) (Jq5g p))) (.region [⟨(some 26), (.bin .add (.t 16) (.c (.d (.int .i64 1)))), none, false⟩, ⟨(some 16), (.mov (.t 26)), none, false⟩] [])))) := eqi
@[simp] def Jq5o (p : Nums) : List IOp := [qp 28 (.faddr 7 (.t 1)), qp 29 (.load none (.t 28)), qp 30 (.iaddr 1 (.t 29) (ci 0)), qp 31 (.load none (.t 30)), qp 32 (.faddr 0 (.t 1)), qp 33 (.faddr 0 (.t 32)), qp 34 (.load none (.t 33)), qo 35 (.call p.edge_Entry [(.t 31), (.t 34)]), qo 27 (.mov (.t 35)), qp 36 (.ext (.t 27) 0), qp 37 (.ext (.t 27) 1), qo 38 (.faddr 0 (.t 3)), qn (.store 1 (.t 38) (.t 37))]
def Jq5i (p : Nums) : IC := (.region (Jq5o p) [])
@[simp] theorem Je5i {p : Nums} : EqI (Jq5i p) (.region (Jq5o p) []) := eqi
def Jtab (p : Nums) : IC := (.seq (Jq5c p) (.seq (Jq5d p) (.seq (.seq (Jq5e p) (.block 0 (.loop (Jq5h p)))) (.seq (Jq5i p) (.seq (.region [⟨(some 39), (.load (some 7) (.t 3)), none, false⟩, ⟨none, (.store 7 (.t 2) (.t 39)), none, false⟩] []) .ret)))))
@[simp] def Jq1k (p : Nums) : List IOp := [qo 4 (.box (.t 0)), qo 5 (.box (.t 1)), qo 8 (.alloc [.nils, (zi 0), (zi 0), (zi 0), (zi 0)])]
def Jq19 (p : Nums) : IC := (.region (Jq1k p) [])
@[simp] theorem Je19 {p : Nums} : EqI (Jq19 p) (.region (Jq1k p) []) := eqi
@[simp] def Jq1n (p : Nums) : List IOp := [qo 14 (.mov (.t 2)), qo 15 (.len (.t 14)), qo 16 (.mov (.t 3)), qo 17 (.bin .gtr (.t 15) (.t 16))]
def Jq1c (p : Nums) : IC := (.region (Jq1n p) [])
@[simp] theorem Je1c {p : Nums} : EqI (Jq1c p) (.region (Jq1n p) []) := eqi
@[simp] def Jq1o (p : Nums) : List IOp := [qo 18 (.mov (.t 2)), qo 19 (.len (.t 18)), qo 20 (.build [.nils, (zi 0), (zi 0), (zi 0), (zi 0)] [(1, 1, (ci 24)), (4, 1, (.t 19))]), qn (.store 5 (.t 8) (.t 20))]
def Jq1d (p : Nums) : IC := (.region (Jq1o p) [])
@[simp] theorem Je1d {p : Nums} : EqI (Jq1d p) (.region (Jq1o p) []) := eqi
@[simp] def Jq1p (p : Nums) : List IOp := [qo 22 (.faddr 0 (.t 4)), qo 23 (.load none (.t 22)), qo 24 (.faddr 0 (.t 5)), qo 25 (.load none (.t 24)), qo 26 (.call p.align_Code [(.t 23), (.t 25)]), qo 21 (.mov (.t 26)), qo 27 (.ext (.t 21) 0), qo 28 (.ext (.t 21) 1), qo 29 (.ext (.t 21) 2), qo 9 (.asg (.t 27)), qo 10 (.asg (.t 28)), qo 11 (.asg (.t 29))]
def Jq1e (p : Nums) : IC := (.region (Jq1p p) [])
@[simp] theorem Je1e {p : Nums} : EqI (Jq1e p) (.region (Jq1p p) []) := eqi
@[simp] def Jq1q (p : Nums) : List IOp := [qo 30 (.mov (.t 11)), qo 31 (.bin .eql (.t 30) (ci 0)), qo 32 (.mov (.t 31)), ⟨(some 33), (.faddr 1 (.t 4)), (some (32, true)), false⟩, ⟨(some 34), (.load (some 4) (.t 33)), (some (32, true)), false⟩, ⟨(some 35), (.faddr 1 (.t 5)), (some (32, true)), false⟩, ⟨(some 36), (.load (some 4) (.t 35)), (some (32, true)), false⟩, ⟨(some 37), (.call p.align_Terms [(.t 34), (.t 36)]), (some (32, true)), false⟩, ⟨(some 38), (.un .not (.t 37)), (some (32, true)), false⟩, qo 39 (.pick (.t 32) (.t 38) (.c (.d (.bool false))))]
def Jq1f (p : Nums) : IC := (.region (Jq1q p) [])
@[simp] theorem Je1f {p : Nums} : EqI (Jq1f p) (.region (Jq1q p) []) := eqi
@[simp] def Jq1r (p : Nums) : List IOp := [qo 11 (.asg (ci 20))]
def Jq1g (p : Nums) : IC := (.region (Jq1r p) [])
@[simp] theorem Je1g {p : Nums} : EqI (Jq1g p) (.region (Jq1r p) []) := eqi
@[simp] def Jq1s (p : Nums) : List IOp := [qo 42 (.mov (.t 11)), qo 43 (.mov (.t 10)), qo 44 (.mov (.t 2)), qo 45 (.len (.t 44)), qo 46 (.build [.nils, (zi 0), (zi 0), (zi 0), (zi 0)] [(1, 1, (.t 42)), (2, 1, (.t 43)), (4, 1, (.t 45))]), qn (.store 5 (.t 8) (.t 46))]
def Jq1h (p : Nums) : IC := (.region (Jq1s p) [])
@[simp] theorem Je1h {p : Nums} : EqI (Jq1h p) (.region (Jq1s p) []) := eqi
@[simp] def Jq1t (p : Nums) : List IOp := [qo 47 (.mov (.t 2)), qo 48 (.call p.pairset_Make [(.t 47)]), qo 49 (.mov (.t 3)), qo 50 (.mov (.t 2)), qo 51 (.len (.t 50)), qo 52 (.build [.nils, (zi 0), (zi 0), (zi 0)] [(0, 1, (.t 48)), (1, 1, (.t 49)), (3, 1, (.t 51))]), qo 53 (.box (.t 52)), qo 12 (.asg (.t 53))]
def Jq1i (p : Nums) : IC := (.region (Jq1t p) [])
@[simp] theorem Je1i {p : Nums} : EqI (Jq1i p) (.region (Jq1t p) []) := eqi
@[simp] def Jq1u (p : Nums) : List IOp := [qo 55 (.mov (.t 12)), qo 56 (.load (some 5) (.t 4)), qo 57 (.load (some 5) (.t 5)), qo 58 (.mov (.t 9)), qo 59 (.call p.blockcheck_checker_run [(.t 55), (.t 56), (.t 57), (.t 58)]), qo 54 (.mov (.t 59)), qo 60 (.ext (.t 54) 0), qo 61 (.ext (.t 54) 1), qo 11 (.asg (.t 60)), qo 10 (.asg (.t 61))]
def Jq1j (p : Nums) : IC := (.region (Jq1u p) [])
@[simp] theorem Je1j {p : Nums} : EqI (Jq1j p) (.region (Jq1u p) []) := eqi
@[simp] def Jq1l (p : Nums) : List IOp := [qp 62 (.mov (.t 11)), qp 63 (.mov (.t 10)), qp 64 (.mov (.t 12)), qp 65 (.nilck (.t 64)), qp 66 (.faddr 2 (.t 65)), qp 67 (.load none (.t 66)), qp 68 (.mov (.t 12)), qp 69 (.nilck (.t 68)), qp 70 (.faddr 3 (.t 69)), qp 71 (.load none (.t 70)), qp 72 (.build [.nils, (zi 0), (zi 0), (zi 0), (zi 0)] [(1, 1, (.t 62)), (2, 1, (.t 63)), (3, 1, (.t 67)), (4, 1, (.t 71))]), qp 13 (.alloc [.nils, (zi 0), (zi 0), (zi 0), (zi 0)]), qn (.store 5 (.t 13) (.t 72))]
def Jq1a (p : Nums) : IC := (.region (Jq1l p) [])
@[simp] theorem Je1a {p : Nums} : EqI (Jq1a p) (.region (Jq1l p) []) := eqi
@[simp] def Jq1m (p : Nums) : List IOp := [qo 75 (.mov (.t 12)), qo 76 (.nilck (.t 75)), qo 77 (.faddr 0 (.t 76)), qo 78 (.load none (.t 77)), qo 79 (.faddr 0 (.t 13)), qn (.store 1 (.t 79) (.t 78))]
def Jq1b (p : Nums) : IC := (.region (Jq1m p) [])
@[simp] theorem Je1b {p : Nums} : EqI (Jq1b p) (.region (Jq1m p) []) := eqi
def Jt9z (p : Nums) : IC := (.seq (Jq19 p) (.seq (.seq (Jq1c p) (.cond (.t 17) (.seq (Jq1d p) .ret) .skip)) (.seq (Jq1e p) (.seq (.seq (Jq1f p) (.cond (.t 39) (Jq1g p) .skip)) (.seq (.seq (.region [⟨(some 40), (.mov (.t 11)), none, false⟩, ⟨(some 41), (.bin .neq (.t 40) (.c (.d (.int .i64 0)))), none, false⟩] []) (.cond (.t 41) (.seq (Jq1h p) .ret) .skip)) (.seq (Jq1i p) (.seq (Jq1j p) (.seq (Jq1a p) (.seq (.seq (.region [⟨(some 73), (.mov (.t 11)), none, false⟩, ⟨(some 74), (.bin .eql (.t 73) (.c (.d (.int .i64 0)))), none, false⟩] []) (.cond (.t 74) (Jq1b p) .skip)) (.seq (.region [⟨(some 80), (.load (some 5) (.t 13)), none, false⟩, ⟨none, (.store 5 (.t 8) (.t 80)), none, false⟩] []) .ret))))))))))
@[simp] def Jqx9 (p : Nums) : List IOp := [qo 7 (.faddr 2 (.t 1)), qo 8 (.load none (.t 7)), qo 9 (.bslice 1 1 [(.int .i64 0)] [(0, (.t 8))]), qo 2 (.asg (.t 9))]
def Jqx5 (p : Nums) : IC := (.region (Jqx9 p) [])
@[simp] theorem Jex5 {p : Nums} : EqI (Jqx5 p) (.region (Jqx9 p) []) := eqi
@[simp] def Jqxa (p : Nums) : List IOp := [qo 12 (.faddr 2 (.t 1)), qo 13 (.load none (.t 12)), qo 14 (.faddr 3 (.t 1)), qo 15 (.load none (.t 14)), qo 16 (.bslice 1 2 [(.int .i64 0)] [(0, (.t 13)), (1, (.t 15))]), qo 2 (.asg (.t 16))]
def Jqx6 (p : Nums) : IC := (.region (Jqxa p) [])
@[simp] theorem Jex6 {p : Nums} : EqI (Jqx6 p) (.region (Jqxa p) []) := eqi
def Jqx7 (p : Nums) : IC := (.seq (.region [⟨(some 11), (.bin .eql (.t 4) (.c (.d (.int .i64 2)))), none, false⟩, ⟨(some 10), (.asg (.t 11)), none, false⟩] []) (.cond (.t 10) (.seq (Jqx6 p) .ret) .skip))
@[simp] theorem Jex7 {p : Nums} : EqI (Jqx7 p) (.seq (.region [⟨(some 11), (.bin .eql (.t 4) (.c (.d (.int .i64 2)))), none, false⟩, ⟨(some 10), (.asg (.t 11)), none, false⟩] []) (.cond (.t 10) (.seq (Jqx6 p) .ret) .skip)) := eqi
def Jqx8 (p : Nums) : IC := (.seq (.region [⟨(some 6), (.bin .eql (.t 4) (.c (.d (.int .i64 1)))), none, false⟩, ⟨(some 5), (.asg (.t 6)), none, false⟩] []) (.cond (.t 5) (.seq (Jqx5 p) .ret) (Jqx7 p)))
@[simp] theorem Jex8 {p : Nums} : EqI (Jqx8 p) (.seq (.region [⟨(some 6), (.bin .eql (.t 4) (.c (.d (.int .i64 1)))), none, false⟩, ⟨(some 5), (.asg (.t 6)), none, false⟩] []) (.cond (.t 5) (.seq (Jqx5 p) .ret) (Jqx7 p))) := eqi
def Jtcm (p : Nums) : IC := (.seq (.region [⟨(some 1), (.box (.t 0)), none, false⟩, ⟨(some 2), (.asg (.c .nils)), none, false⟩] []) (.seq (.seq (.region [⟨(some 3), (.faddr 0 (.t 1)), none, false⟩, ⟨(some 4), (.load none (.t 3)), none, false⟩] []) (.block 0 (Jqx8 p))) (.seq (.region [⟨(some 2), (.asg (.c .nils)), none, false⟩] []) .ret)))
@[simp] def Jq67 (p : Nums) : List IOp := [qo 4 (.alloc [(zi 0), (zi 0)]), qo 5 (.asg (ci 0))]
def Jq63 (p : Nums) : IC := (.region (Jq67 p) [])
@[simp] theorem Je63 {p : Nums} : EqI (Jq63 p) (.region (Jq67 p) []) := eqi
@[simp] def Jq68 (p : Nums) : List IOp := [qo 9 (.mov (.t 1)), qo 10 (.mov (.t 0)), qo 11 (.call p.pairset_Missing [(.t 9), (.t 10)]), qo 8 (.mov (.t 11)), qo 12 (.ext (.t 8) 0), qo 13 (.ext (.t 8) 1), qo 6 (.alloc [(zi 0), (zi 0)]), qn (.store 2 (.t 6) (.t 12)), qo 7 (.asg (.t 13))]
def Jq64 (p : Nums) : IC := (.region (Jq68 p) [])
@[simp] theorem Je64 {p : Nums} : EqI (Jq64 p) (.region (Jq68 p) []) := eqi
@[simp] def Jq69 (p : Nums) : List IOp := [qo 15 (.load (some 2) (.t 6)), qn (.store 2 (.t 4) (.t 15)), qo 5 (.asg (ci 22))]
def Jq65 (p : Nums) : IC := (.region (Jq69 p) [])
@[simp] theorem Je65 {p : Nums} : EqI (Jq65 p) (.region (Jq69 p) []) := eqi
@[simp] def Jq6a (p : Nums) : List IOp := [qo 16 (.build [(zi 0), (zi 0)] []), qn (.store 2 (.t 4) (.t 16)), qo 5 (.asg (ci 0))]
def Jq66 (p : Nums) : IC := (.region (Jq6a p) [])
@[simp] theorem Je66 {p : Nums} : EqI (Jq66 p) (.region (Jq6a p) []) := eqi
def Jtad (p : Nums) : IC := (.seq (Jq63 p) (.seq (.seq (Jq64 p) (.seq (.region [⟨(some 14), (.mov (.t 7)), none, false⟩] []) (.cond (.t 14) (.seq (Jq65 p) .ret) .skip))) (.seq (Jq66 p) .ret)))
@[simp] def Jqrd (p : Nums) : List IOp := [qo 7 (.faddr 1 (.t 2)), qo 8 (.load none (.t 7)), qo 9 (.bin .rem (.t 8) (ci 2)), qo 10 (.bin .eql (.t 9) (ci 1)), qo 5 (.asg (.t 10))]
def Jqr8 (p : Nums) : IC := (.region (Jqrd p) [])
@[simp] theorem Jer8 {p : Nums} : EqI (Jqr8 p) (.region (Jqrd p) []) := eqi
@[simp] def Jqre (p : Nums) : List IOp := [qo 11 (.faddr 1 (.t 2)), qo 12 (.load none (.t 11)), qo 13 (.bin .quo (.t 12) (ci 2)), qo 6 (.asg (.t 13))]
def Jqr9 (p : Nums) : IC := (.region (Jqre p) [])
@[simp] theorem Jer9 {p : Nums} : EqI (Jqr9 p) (.region (Jqre p) []) := eqi
@[simp] def Jqrf (p : Nums) : List IOp := [qo 14 (.faddr 0 (.t 2)), qo 15 (.load none (.t 14)), qo 16 (.mov (.t 1)), qo 17 (.bin .lss (.t 15) (.t 16))]
def Jqra (p : Nums) : IC := (.region (Jqrf p) [])
@[simp] theorem Jera {p : Nums} : EqI (Jqra p) (.region (Jqrf p) []) := eqi
@[simp] def Jqrg (p : Nums) : List IOp := [qo 18 (.mov (.t 5)), qo 19 (.mov (.t 18)), ⟨(some 20), (.mov (.t 6)), (some (19, true)), false⟩, ⟨(some 21), (.faddr 0 (.t 2)), (some (19, true)), false⟩, ⟨(some 22), (.load none (.t 21)), (some (19, true)), false⟩, ⟨(some 23), (.bin .eql (.t 20) (.t 22)), (some (19, true)), false⟩, qo 24 (.pick (.t 19) (.t 23) (.c (.d (.bool false)))), qo 4 (.asg (.t 24))]
def Jqrb (p : Nums) : IC := (.region (Jqrg p) [])
@[simp] theorem Jerb {p : Nums} : EqI (Jqrb p) (.region (Jqrg p) []) := eqi
@[simp] def Jqrh (p : Nums) : List IOp := [qo 25 (.mov (.t 5)), qo 26 (.un .not (.t 25)), qo 27 (.mov (.t 26)), ⟨(some 28), (.mov (.t 6)), (some (27, false)), false⟩, ⟨(some 29), (.mov (.t 1)), (some (27, false)), false⟩, ⟨(some 30), (.bin .geq (.t 28) (.t 29)), (some (27, false)), false⟩, qo 31 (.pick (.t 27) (.c (.d (.bool true))) (.t 30)), qo 4 (.asg (.t 31))]
def Jqrc (p : Nums) : IC := (.region (Jqrh p) [])
@[simp] theorem Jerc {p : Nums} : EqI (Jqrc p) (.region (Jqrh p) []) := eqi
def Jtcc (p : Nums) : IC := (.seq (.region [⟨(some 2), (.box (.t 0)), none, false⟩, ⟨(some 4), (.asg (.c (.d (.bool false)))), none, false⟩] []) (.seq (Jqr8 p) (.seq (Jqr9 p) (.seq (.seq (Jqra p) (.cond (.t 17) (.seq (Jqrb p) .ret) .skip)) (.seq (Jqrc p) .ret)))))
@[simp] def Jqwm (p : Nums) : List IOp := [qo 6 (.faddr 2 (.t 1)), qo 7 (.load none (.t 6)), qo 8 (.len (.t 7)), qo 9 (.mov (ci 0))]
def Jqwi (p : Nums) : IC := (.region (Jqwm p) [])
@[simp] theorem Jewi {p : Nums} : EqI (Jqwi p) (.region (Jqwm p) []) := eqi
@[simp] def Jqwn (p : Nums) : List IOp := [qo 11 (.iaddr 5 (.t 7) (.t 9)), qo 12 (.load (some 5) (.t 11)), qo 5 (.alloc [.nils, (zi 0), (zi 0), (zi 0), (zi 0)]), qn (.store 5 (.t 5) (.t 12))]
def Jqwj (p : Nums) : IC := (.region (Jqwn p) [])
@[simp] theorem Jewj {p : Nums} : EqI (Jqwj p) (.region (Jqwn p) []) := eqi
@[simp] def Jqwo (p : Nums) : List IOp := [qo 13 (.mov (.t 3)), qo 14 (.faddr 0 (.t 5)), qo 15 (.load none (.t 14)), qo 16 (.len (.t 15)), qo 17 (.bin .add (.t 13) (.t 16)), qo 3 (.asg (.t 17))]
def Jqwk (p : Nums) : IC := (.region (Jqwo p) [])
@[simp] theorem Jewk {p : Nums} : EqI (Jqwk p) (.region (Jqwo p) []) := eqi
def Jqwl (p : Nums) : IC := (.seq (.region [⟨(some 10), (.bin .lss (.t 9) (.t 8)), none, false⟩] []) (.seq (.cond (.t 10) .skip (.exit 0)) (.seq (.block 1 (.seq (Jqwj p) (Jqwk p))) (.region [⟨(some 18), (.bin .add (.t 9) (.c (.d (.int .i64 1)))), none, false⟩, ⟨(some 9), (.mov (.t 18)), none, false⟩] []))))
@[simp] theorem Jewl {p : Nums} : EqI (Jqwl p) (.seq (.region [⟨(some 10), (.bin .lss (.t 9) (.t 8)), none, false⟩] []) (.seq (.cond (.t 10) .skip (.exit 0)) (.seq (.block 1 (.seq (Jqwj p) (Jqwk p))) (.region [⟨(some 18), (.bin .add (.t 9) (.c (.d (.int .i64 1)))), none, false⟩, ⟨(some 9), (.mov (.t 18)), none, false⟩] [])))) := eqi
def Jtck (p : Nums) : IC := (.seq (.region [⟨(some 1), (.box (.t 0)), none, false⟩, ⟨(some 2), (.asg (.c (.d (.int .i64 0)))), none, false⟩] []) (.seq (.region [⟨(some 3), (.asg (.c (.d (.int .i64 0)))), none, false⟩] []) (.seq (.seq (Jqwi p) (.block 0 (.loop (Jqwl p)))) (.seq (.region [⟨(some 19), (.mov (.t 3)), none, false⟩, ⟨(some 2), (.asg (.t 19)), none, false⟩] []) .ret))))
@[simp] def Jq9e (p : Nums) : List IOp := [qo 6 (.faddr 3 (.t 1)), qo 7 (.load none (.t 6)), qo 8 (.len (.t 7)), qo 9 (.mov (ci 0))]
def Jq9a (p : Nums) : IC := (.region (Jq9e p) [])
@[simp] theorem Je9a {p : Nums} : EqI (Jq9a p) (.region (Jq9e p) []) := eqi
@[simp] def Jq9f (p : Nums) : List IOp := [qo 11 (.iaddr 5 (.t 7) (.t 9)), qo 12 (.load (some 5) (.t 11)), qo 5 (.alloc [.nils, (zi 0), (zi 0), (zi 0), (zi 0)]), qn (.store 5 (.t 5) (.t 12))]
def Jq9b (p : Nums) : IC := (.region (Jq9f p) [])
@[simp] theorem Je9b {p : Nums} : EqI (Jq9b p) (.region (Jq9f p) []) := eqi
@[simp] def Jq9g (p : Nums) : List IOp := [qo 13 (.mov (.t 3)), qo 14 (.faddr 0 (.t 5)), qo 15 (.load none (.t 14)), qo 16 (.len (.t 15)), qo 17 (.bin .add (.t 13) (.t 16)), qo 3 (.asg (.t 17))]
def Jq9c (p : Nums) : IC := (.region (Jq9g p) [])
@[simp] theorem Je9c {p : Nums} : EqI (Jq9c p) (.region (Jq9g p) []) := eqi
def Jq9d (p : Nums) : IC := (.seq (.region [⟨(some 10), (.bin .lss (.t 9) (.t 8)), none, false⟩] []) (.seq (.cond (.t 10) .skip (.exit 0)) (.seq (.block 1 (.seq (Jq9b p) (Jq9c p))) (.region [⟨(some 18), (.bin .add (.t 9) (.c (.d (.int .i64 1)))), none, false⟩, ⟨(some 9), (.mov (.t 18)), none, false⟩] []))))
@[simp] theorem Je9d {p : Nums} : EqI (Jq9d p) (.seq (.region [⟨(some 10), (.bin .lss (.t 9) (.t 8)), none, false⟩] []) (.seq (.cond (.t 10) .skip (.exit 0)) (.seq (.block 1 (.seq (Jq9b p) (Jq9c p))) (.region [⟨(some 18), (.bin .add (.t 9) (.c (.d (.int .i64 1)))), none, false⟩, ⟨(some 9), (.mov (.t 18)), none, false⟩] [])))) := eqi
def Jtaq (p : Nums) : IC := (.seq (.region [⟨(some 1), (.box (.t 0)), none, false⟩, ⟨(some 2), (.asg (.c (.d (.int .i64 0)))), none, false⟩] []) (.seq (.region [⟨(some 3), (.asg (.c (.d (.int .i64 0)))), none, false⟩] []) (.seq (.seq (Jq9a p) (.block 0 (.loop (Jq9d p)))) (.seq (.region [⟨(some 19), (.mov (.t 3)), none, false⟩, ⟨(some 2), (.asg (.t 19)), none, false⟩] []) .ret))))
@[simp] def Jqq8 (p : Nums) : List IOp := [qo 3 (.box (.t 0)), qo 6 (.alloc [.nils, (zi 0), (zi 0), (zi 0), (zi 0)])]
def Jqq5 (p : Nums) : IC := (.region (Jqq8 p) [])
@[simp] theorem Jeq5 {p : Nums} : EqI (Jqq5 p) (.region (Jqq8 p) []) := eqi
@[simp] def Jqq9 (p : Nums) : List IOp := [qo 8 (.mov (.t 1)), qo 9 (.faddr 1 (.t 3)), qn (.store 1 (.t 9) (.t 8))]
def Jqq6 (p : Nums) : IC := (.region (Jqq9 p) [])
@[simp] theorem Jeq6 {p : Nums} : EqI (Jqq6 p) (.region (Jqq9 p) []) := eqi
@[simp] def Jqqa (p : Nums) : List IOp := [qo 10 (.mov (.t 2)), qo 11 (.faddr 2 (.t 3)), qn (.store 1 (.t 11) (.t 10))]
def Jqq7 (p : Nums) : IC := (.region (Jqqa p) [])
@[simp] theorem Jeq7 {p : Nums} : EqI (Jqq7 p) (.region (Jqqa p) []) := eqi
def Jtc8 (p : Nums) : IC := (.seq (Jqq5 p) (.seq (.region [⟨(some 7), (.faddr 0 (.t 3)), none, false⟩, ⟨none, (.store 1 (.t 7) (.c .nils)), none, false⟩] []) (.seq (Jqq6 p) (.seq (Jqq7 p) (.seq (.region [⟨(some 12), (.load (some 5) (.t 3)), none, false⟩, ⟨none, (.store 5 (.t 6) (.t 12)), none, false⟩] []) .ret)))))
@[simp] def Jqn2 (p : Nums) : List IOp := [qo 4 (.asg (.c .nils)), qo 5 (.asg (ci 0)), qo 6 (.asg (ci 0))]
def Jqmn (p : Nums) : IC := (.region (Jqn2 p) [])
@[simp] theorem Jemn {p : Nums} : EqI (Jqmn p) (.region (Jqn2 p) []) := eqi
@[simp] def Jqn7 (p : Nums) : List IOp := [qo 13 (.mov (.t 0)), qo 14 (.call p.ref13_Operations [(.t 13)]), qo 7 (.asg (.t 14))]
def Jqmu (p : Nums) : IC := (.region (Jqn7 p) [])
@[simp] theorem Jemu {p : Nums} : EqI (Jqmu p) (.region (Jqn7 p) []) := eqi
@[simp] def Jqn8 (p : Nums) : List IOp := [qo 15 (.mov (.t 1)), qo 16 (.call p.ref13_Others [(.t 15)]), qo 8 (.asg (.t 16))]
def Jqmv (p : Nums) : IC := (.region (Jqn8 p) [])
@[simp] theorem Jemv {p : Nums} : EqI (Jqmv p) (.region (Jqn8 p) []) := eqi
@[simp] def Jqn9 (p : Nums) : List IOp := [qo 17 (.mov (.t 12)), qo 18 (.mov (.t 8)), qo 19 (.len (.t 18)), qo 20 (.bin .lss (.t 17) (.t 19))]
def Jqmw (p : Nums) : IC := (.region (Jqn9 p) [])
@[simp] theorem Jemw {p : Nums} : EqI (Jqmw p) (.region (Jqn9 p) []) := eqi
@[simp] def Jqna (p : Nums) : List IOp := [qp 23 (.mov (.t 12)), qp 24 (.mov (.t 7)), qp 25 (.len (.t 24)), qo 26 (.bin .geq (.t 23) (.t 25)), qo 27 (.mov (.t 26)), ⟨(some 28), (.mov (.t 0)), (some (27, false)), true⟩, ⟨(some 29), (.mov (.t 7)), (some (27, false)), true⟩, ⟨(some 30), (.mov (.t 12)), (some (27, false)), true⟩, ⟨(some 31), (.iaddr 1 (.t 29) (.t 30)), (some (27, false)), true⟩, ⟨(some 32), (.load none (.t 31)), (some (27, false)), true⟩, ⟨(some 33), (.iaddr 5 (.t 28) (.t 32)), (some (27, false)), true⟩, ⟨(some 34), (.load (some 5) (.t 33)), (some (27, false)), true⟩, ⟨(some 35), (.mov (.t 1)), (some (27, false)), true⟩, ⟨(some 36), (.mov (.t 8)), (some (27, false)), true⟩, ⟨(some 37), (.mov (.t 12)), (some (27, false)), true⟩, ⟨(some 38), (.iaddr 1 (.t 36) (.t 37)), (some (27, false)), true⟩, ⟨(some 39), (.load none (.t 38)), (some (27, false)), true⟩, ⟨(some 40), (.iaddr 7 (.t 35) (.t 39)), (some (27, false)), true⟩, ⟨(some 41), (.load (some 7) (.t 40)), (some (27, false)), true⟩, ⟨(some 42), (.call p.ref13_Same [(.t 34), (.t 41)]), (some (27, false)), false⟩, ⟨(some 43), (.un .not (.t 42)), (some (27, false)), false⟩, qo 44 (.pick (.t 27) (.c (.d (.bool true))) (.t 43))]
def Jqmx (p : Nums) : IC := (.region (Jqna p) [])
@[simp] theorem Jemx {p : Nums} : EqI (Jqmx p) (.region (Jqna p) []) := eqi
@[simp] def Jqnb (p : Nums) : List IOp := [qp 45 (.mov (.t 8)), qp 46 (.mov (.t 12)), qp 47 (.iaddr 1 (.t 45) (.t 46)), qp 48 (.load none (.t 47)), qp 4 (.asg (.c .nils)), qo 5 (.asg (.t 48)), qo 6 (.asg (ci 20))]
def Jqmy (p : Nums) : IC := (.region (Jqnb p) [])
@[simp] theorem Jemy {p : Nums} : EqI (Jqmy p) (.region (Jqnb p) []) := eqi
@[simp] def Jqnc (p : Nums) : List IOp := [qp 49 (.mov (.t 9)), qp 50 (.mov (.t 10)), qp 51 (.mov (.t 7)), qp 52 (.mov (.t 12)), qp 53 (.iaddr 1 (.t 51) (.t 52)), qp 54 (.load none (.t 53)), qp 55 (.mov (.t 11)), qp 56 (.mov (.t 8)), qp 57 (.mov (.t 12)), qp 58 (.iaddr 1 (.t 56) (.t 57)), qp 59 (.load none (.t 58)), qp 60 (.mov (.t 7)), qp 61 (.mov (.t 12)), qp 62 (.iaddr 1 (.t 60) (.t 61)), qp 63 (.load none (.t 62)), qp 64 (.mov (.t 8)), qp 65 (.mov (.t 12)), qp 66 (.iaddr 1 (.t 64) (.t 65)), qp 67 (.load none (.t 66)), qp 68 (.build [(zi 0), (zi 0), (zi 0), (zi 0), (zi 0), (zi 0)] [(0, 1, (.t 50)), (1, 1, (.t 54)), (2, 1, (.t 55)), (3, 1, (.t 59)), (4, 1, (.t 63)), (5, 1, (.t 67))]), qp 69 (.bslice 6 1 [(.int .i64 0), (.int .i64 0), (.int .i64 0), (.int .i64 0), (.int .i64 0), (.int .i64 0)] [(0, (.t 68))]), qo 70 (.app 6 48 (.t 49) (.t 69)), qo 9 (.asg (.t 70))]
def Jqmz (p : Nums) : IC := (.region (Jqnc p) [])
@[simp] theorem Jemz {p : Nums} : EqI (Jqmz p) (.region (Jqnc p) []) := eqi
@[simp] def Jqnd (p : Nums) : List IOp := [qo 71 (.mov (.t 7)), qo 72 (.mov (.t 12)), qo 73 (.iaddr 1 (.t 71) (.t 72)), qo 74 (.load none (.t 73)), qo 75 (.bin .add (.t 74) (ci 1)), qo 10 (.asg (.t 75))]
def Jqn0 (p : Nums) : IC := (.region (Jqnd p) [])
@[simp] theorem Jen0 {p : Nums} : EqI (Jqn0 p) (.region (Jqnd p) []) := eqi
@[simp] def Jqne (p : Nums) : List IOp := [qo 76 (.mov (.t 8)), qo 77 (.mov (.t 12)), qo 78 (.iaddr 1 (.t 76) (.t 77)), qo 79 (.load none (.t 78)), qo 80 (.bin .add (.t 79) (ci 1)), qo 11 (.asg (.t 80))]
def Jqn1 (p : Nums) : IC := (.region (Jqne p) [])
@[simp] theorem Jen1 {p : Nums} : EqI (Jqn1 p) (.region (Jqne p) []) := eqi
def Jqmo (p : Nums) : IC := (.seq (.seq (Jqmx p) (.cond (.t 44) (.seq (Jqmy p) .ret) .skip)) (.seq (Jqmz p) (.seq (Jqn0 p) (Jqn1 p))))
@[simp] theorem Jemo {p : Nums} : EqI (Jqmo p) (.seq (.seq (Jqmx p) (.cond (.t 44) (.seq (Jqmy p) .ret) .skip)) (.seq (Jqmz p) (.seq (Jqn0 p) (Jqn1 p)))) := eqi
@[simp] def Jqn3 (p : Nums) : List IOp := [qo 21 (.mov (.t 12)), qo 22 (.bin .add (.t 21) (ci 1)), qo 12 (.asg (.t 22))]
def Jqmp (p : Nums) : IC := (.region (Jqn3 p) [])
@[simp] theorem Jemp {p : Nums} : EqI (Jqmp p) (.region (Jqn3 p) []) := eqi
def Jqmq (p : Nums) : IC := (.seq (.seq (Jqmw p) (.cond (.t 20) .skip (.exit 0))) (.seq (.block 1 (Jqmo p)) (Jqmp p)))
@[simp] theorem Jemq {p : Nums} : EqI (Jqmq p) (.seq (.seq (Jqmw p) (.cond (.t 20) .skip (.exit 0))) (.seq (.block 1 (Jqmo p)) (Jqmp p))) := eqi
@[simp] def Jqn4 (p : Nums) : List IOp := [qo 81 (.mov (.t 7)), qo 82 (.len (.t 81)), qo 83 (.mov (.t 8)), qo 84 (.len (.t 83)), qo 85 (.bin .gtr (.t 82) (.t 84))]
def Jqmr (p : Nums) : IC := (.region (Jqn4 p) [])
@[simp] theorem Jemr {p : Nums} : EqI (Jqmr p) (.region (Jqn4 p) []) := eqi
@[simp] def Jqn5 (p : Nums) : List IOp := [qo 86 (.mov (.t 1)), qo 87 (.len (.t 86)), qo 4 (.asg (.c .nils)), qo 5 (.asg (.t 87)), qo 6 (.asg (ci 20))]
def Jqms (p : Nums) : IC := (.region (Jqn5 p) [])
@[simp] theorem Jems {p : Nums} : EqI (Jqms p) (.region (Jqn5 p) []) := eqi
@[simp] def Jqn6 (p : Nums) : List IOp := [qo 88 (.mov (.t 9)), qo 89 (.mov (.t 10)), qo 90 (.mov (.t 0)), qo 91 (.len (.t 90)), qo 92 (.mov (.t 11)), qo 93 (.mov (.t 1)), qo 94 (.len (.t 93)), qo 95 (.build [(zi 0), (zi 0), (zi 0), (zi 0), (zi 0), (zi 0)] [(0, 1, (.t 89)), (1, 1, (.t 91)), (2, 1, (.t 92)), (3, 1, (.t 94)), (4, 1, (ci (-1))), (5, 1, (ci (-1)))]), qo 96 (.bslice 6 1 [(.int .i64 0), (.int .i64 0), (.int .i64 0), (.int .i64 0), (.int .i64 0), (.int .i64 0)] [(0, (.t 95))]), qo 97 (.app 6 48 (.t 88) (.t 96)), qo 98 (.mov (.t 1)), qo 99 (.len (.t 98)), qo 4 (.asg (.t 97)), qo 5 (.asg (.t 99)), qo 6 (.asg (ci 0))]
def Jqmt (p : Nums) : IC := (.region (Jqn6 p) [])
@[simp] theorem Jemt {p : Nums} : EqI (Jqmt p) (.region (Jqn6 p) []) := eqi
def Jtc2 (p : Nums) : IC := (.seq (Jqmn p) (.seq (Jqmu p) (.seq (Jqmv p) (.seq (.region [⟨(some 9), (.asg (.c .nils)), none, false⟩] []) (.seq (.region [⟨(some 10), (.asg (.c (.d (.int .i64 0)))), none, false⟩] []) (.seq (.region [⟨(some 11), (.asg (.c (.d (.int .i64 0)))), none, false⟩] []) (.seq (.seq (.region [⟨(some 12), (.asg (.c (.d (.int .i64 0)))), none, false⟩] []) (.block 0 (.loop (Jqmq p)))) (.seq (.seq (Jqmr p) (.cond (.t 85) (.seq (Jqms p) .ret) .skip)) (.seq (Jqmt p) .ret)))))))))
@[simp] def Jqo5 (p : Nums) : List IOp := [qo 2 (.box (.t 0)), qo 3 (.box (.t 1)), qo 4 (.asg (.c (.d (.bool false))))]
def Jqo3 (p : Nums) : IC := (.region (Jqo5 p) [])
@[simp] theorem Jeo3 {p : Nums} : EqI (Jqo3 p) (.region (Jqo5 p) []) := eqi
@[simp] def Jqo6 (p : Nums) : List IOp := [qo 7 (.load (some 4) (.t 2)), qo 8 (.load (some 4) (.t 3)), qo 9 (.eqs false [.int, .int, .int, .int] (.t 7) (.t 8)), qo 4 (.asg (.t 9))]
def Jqo4 (p : Nums) : IC := (.region (Jqo6 p) [])
@[simp] theorem Jeo4 {p : Nums} : EqI (Jqo4 p) (.region (Jqo6 p) []) := eqi
def Jtc6 (p : Nums) : IC := (.seq (Jqo3 p) (.seq (.region [⟨(some 5), (.faddr 1 (.t 2)), none, false⟩, ⟨none, (.store 1 (.t 5) (.c (.d (.int .i64 0)))), none, false⟩] []) (.seq (.region [⟨(some 6), (.faddr 1 (.t 3)), none, false⟩, ⟨none, (.store 1 (.t 6) (.c (.d (.int .i64 0)))), none, false⟩] []) (.seq (Jqo4 p) .ret))))
@[simp] def Jqqi (p : Nums) : List IOp := [qo 4 (.box (.t 0)), qo 8 (.alloc [.nils, (zi 0), (zi 0), (zi 0), (zi 0)])]
def Jqqb (p : Nums) : IC := (.region (Jqqi p) [])
@[simp] theorem Jeqb {p : Nums} : EqI (Jqqb p) (.region (Jqqi p) []) := eqi
@[simp] def Jqqj (p : Nums) : List IOp := [qo 9 (.faddr 3 (.t 4)), qo 10 (.load none (.t 9)), qo 11 (.bin .add (.t 10) (ci 1)), qo 12 (.faddr 0 (.t 4)), qo 13 (.load none (.t 12)), qo 14 (.len (.t 13)), qo 15 (.bin .add (.t 11) (.t 14)), qo 16 (.faddr 3 (.t 4)), qn (.store 1 (.t 16) (.t 15))]
def Jqqc (p : Nums) : IC := (.region (Jqqj p) [])
@[simp] theorem Jeqc {p : Nums} : EqI (Jqqc p) (.region (Jqqj p) []) := eqi
@[simp] def Jqqk (p : Nums) : List IOp := [qo 17 (.mov (.t 1)), qo 18 (.faddr 0 (.t 4)), qn (.store 1 (.t 18) (.t 17))]
def Jqqd (p : Nums) : IC := (.region (Jqqk p) [])
@[simp] theorem Jeqd {p : Nums} : EqI (Jqqd p) (.region (Jqqk p) []) := eqi
@[simp] def Jqql (p : Nums) : List IOp := [qo 19 (.mov (.t 1)), qo 20 (.len (.t 19)), qo 21 (.faddr 4 (.t 4)), qo 22 (.load none (.t 21)), qo 23 (.bin .gtr (.t 20) (.t 22))]
def Jqqe (p : Nums) : IC := (.region (Jqql p) [])
@[simp] theorem Jeqe {p : Nums} : EqI (Jqqe p) (.region (Jqql p) []) := eqi
@[simp] def Jqqm (p : Nums) : List IOp := [qo 24 (.mov (.t 1)), qo 25 (.len (.t 24)), qo 26 (.faddr 4 (.t 4)), qn (.store 1 (.t 26) (.t 25))]
def Jqqf (p : Nums) : IC := (.region (Jqqm p) [])
@[simp] theorem Jeqf {p : Nums} : EqI (Jqqf p) (.region (Jqqm p) []) := eqi
@[simp] def Jqqn (p : Nums) : List IOp := [qo 27 (.mov (.t 1)), qo 28 (.len (.t 27)), qo 29 (.mov (.t 2)), qo 30 (.bin .gtr (.t 28) (.t 29))]
def Jqqg (p : Nums) : IC := (.region (Jqqn p) [])
@[simp] theorem Jeqg {p : Nums} : EqI (Jqqg p) (.region (Jqqn p) []) := eqi
@[simp] def Jqqo (p : Nums) : List IOp := [qo 31 (.load (some 5) (.t 4)), qo 32 (.mov (.t 3)), qo 33 (.call p.ref14_fail [(.t 31), (ci 24), (.t 32)]), qn (.store 5 (.t 8) (.t 33))]
def Jqqh (p : Nums) : IC := (.region (Jqqo p) [])
@[simp] theorem Jeqh {p : Nums} : EqI (Jqqh p) (.region (Jqqo p) []) := eqi
def Jtc9 (p : Nums) : IC := (.seq (Jqqb p) (.seq (Jqqc p) (.seq (Jqqd p) (.seq (.seq (Jqqe p) (.cond (.t 23) (Jqqf p) .skip)) (.seq (.seq (Jqqg p) (.cond (.t 30) (.seq (Jqqh p) .ret) .skip)) (.seq (.region [⟨(some 34), (.load (some 5) (.t 4)), none, false⟩, ⟨none, (.store 5 (.t 8) (.t 34)), none, false⟩] []) .ret))))))
@[simp] def Jqlr (p : Nums) : List IOp := [qo 9 (.mov (.t 8)), qo 10 (.mov (.t 0)), qo 11 (.len (.t 10)), qo 12 (.bin .lss (.t 9) (.t 11))]
def Jqlj (p : Nums) : IC := (.region (Jqlr p) [])
@[simp] theorem Jelj {p : Nums} : EqI (Jqlj p) (.region (Jqlr p) []) := eqi
@[simp] def Jqls (p : Nums) : List IOp := [qo 15 (.mov (.t 1)), qo 16 (.mov (.t 2)), qo 17 (.bin .eql (.t 15) (.t 16)), qo 18 (.mov (.t 17)), ⟨(some 19), (.mov (.t 0)), (some (18, false)), false⟩, ⟨(some 20), (.mov (.t 8)), (some (18, false)), false⟩, ⟨(some 21), (.iaddr 2 (.t 19) (.t 20)), (some (18, false)), false⟩, ⟨(some 22), (.faddr 0 (.t 21)), (some (18, false)), false⟩, ⟨(some 23), (.load none (.t 22)), (some (18, false)), false⟩, ⟨(some 24), (.mov (.t 1)), (some (18, false)), false⟩, ⟨(some 25), (.bin .neq (.t 23) (.t 24)), (some (18, false)), false⟩, qo 26 (.pick (.t 18) (.c (.d (.bool true))) (.t 25))]
def Jqlk (p : Nums) : IC := (.region (Jqls p) [])
@[simp] theorem Jelk {p : Nums} : EqI (Jqlk p) (.region (Jqls p) []) := eqi
@[simp] def Jqlt (p : Nums) : List IOp := [qo 27 (.mov (.t 7)), qo 28 (.mov (.t 0)), qo 29 (.mov (.t 8)), qo 30 (.iaddr 2 (.t 28) (.t 29)), qo 31 (.load (some 2) (.t 30)), qo 32 (.call p.ref11_Add [(.t 27), (.t 31)]), qo 7 (.asg (.t 32))]
def Jqll (p : Nums) : IC := (.region (Jqlt p) [])
@[simp] theorem Jell {p : Nums} : EqI (Jqll p) (.region (Jqlt p) []) := eqi
@[simp] def Jqlu (p : Nums) : List IOp := [qo 33 (.mov (.t 0)), qo 34 (.mov (.t 8)), qo 35 (.iaddr 2 (.t 33) (.t 34)), qo 36 (.faddr 0 (.t 35)), qo 37 (.load none (.t 36)), qo 38 (.mov (.t 2)), qo 39 (.bin .eql (.t 37) (.t 38))]
def Jqlm (p : Nums) : IC := (.region (Jqlu p) [])
@[simp] theorem Jelm {p : Nums} : EqI (Jqlm p) (.region (Jqlu p) []) := eqi
@[simp] def Jqlv (p : Nums) : List IOp := [qo 40 (.mov (.t 7)), qo 41 (.mov (.t 1)), qo 42 (.mov (.t 0)), qo 43 (.mov (.t 8)), qo 44 (.iaddr 2 (.t 42) (.t 43)), qo 45 (.faddr 1 (.t 44)), qo 46 (.load none (.t 45)), qo 47 (.build [(zi 0), (zi 0)] [(0, 1, (.t 41)), (1, 1, (.t 46))]), qo 48 (.call p.ref11_Add [(.t 40), (.t 47)]), qo 7 (.asg (.t 48))]
def Jqln (p : Nums) : IC := (.region (Jqlv p) [])
@[simp] theorem Jeln {p : Nums} : EqI (Jqln p) (.region (Jqlv p) []) := eqi
def Jqlo (p : Nums) : IC := (.seq (.seq (Jqlk p) (.cond (.t 26) (Jqll p) .skip)) (.seq (Jqlm p) (.cond (.t 39) (Jqln p) .skip)))
@[simp] theorem Jelo {p : Nums} : EqI (Jqlo p) (.seq (.seq (Jqlk p) (.cond (.t 26) (Jqll p) .skip)) (.seq (Jqlm p) (.cond (.t 39) (Jqln p) .skip))) := eqi
@[simp] def Jqlw (p : Nums) : List IOp := [qo 13 (.mov (.t 8)), qo 14 (.bin .add (.t 13) (ci 1)), qo 8 (.asg (.t 14))]
def Jqlp (p : Nums) : IC := (.region (Jqlw p) [])
@[simp] theorem Jelp {p : Nums} : EqI (Jqlp p) (.region (Jqlw p) []) := eqi
def Jqlq (p : Nums) : IC := (.seq (.seq (Jqlj p) (.cond (.t 12) .skip (.exit 0))) (.seq (.block 1 (Jqlo p)) (Jqlp p)))
@[simp] theorem Jelq {p : Nums} : EqI (Jqlq p) (.seq (.seq (Jqlj p) (.cond (.t 12) .skip (.exit 0))) (.seq (.block 1 (Jqlo p)) (Jqlp p))) := eqi
def Jtbz (p : Nums) : IC := (.seq (.region [⟨(some 6), (.asg (.c .nils)), none, false⟩] []) (.seq (.region [⟨(some 7), (.asg (.c .nils)), none, false⟩] []) (.seq (.seq (.region [⟨(some 8), (.asg (.c (.d (.int .i64 0)))), none, false⟩] []) (.block 0 (.loop (Jqlq p)))) (.seq (.region [⟨(some 49), (.mov (.t 7)), none, false⟩, ⟨(some 6), (.asg (.t 49)), none, false⟩] []) .ret))))
@[simp] def Jqmh (p : Nums) : List IOp := [qo 9 (.mov (.t 8)), qo 10 (.mov (.t 0)), qo 11 (.len (.t 10)), qo 12 (.bin .lss (.t 9) (.t 11))]
def Jqm9 (p : Nums) : IC := (.region (Jqmh p) [])
@[simp] theorem Jem9 {p : Nums} : EqI (Jqm9 p) (.region (Jqmh p) []) := eqi
@[simp] def Jqmi (p : Nums) : List IOp := [qo 15 (.mov (.t 1)), qo 16 (.mov (.t 2)), qo 17 (.bin .eql (.t 15) (.t 16)), qo 18 (.mov (.t 17)), ⟨(some 19), (.mov (.t 0)), (some (18, false)), false⟩, ⟨(some 20), (.mov (.t 8)), (some (18, false)), false⟩, ⟨(some 21), (.iaddr 2 (.t 19) (.t 20)), (some (18, false)), false⟩, ⟨(some 22), (.faddr 1 (.t 21)), (some (18, false)), false⟩, ⟨(some 23), (.load none (.t 22)), (some (18, false)), false⟩, ⟨(some 24), (.mov (.t 1)), (some (18, false)), false⟩, ⟨(some 25), (.bin .neq (.t 23) (.t 24)), (some (18, false)), false⟩, qo 26 (.pick (.t 18) (.c (.d (.bool true))) (.t 25))]
def Jqma (p : Nums) : IC := (.region (Jqmi p) [])
@[simp] theorem Jema {p : Nums} : EqI (Jqma p) (.region (Jqmi p) []) := eqi
@[simp] def Jqmj (p : Nums) : List IOp := [qo 27 (.mov (.t 7)), qo 28 (.mov (.t 0)), qo 29 (.mov (.t 8)), qo 30 (.iaddr 2 (.t 28) (.t 29)), qo 31 (.load (some 2) (.t 30)), qo 32 (.call p.ref11_Add [(.t 27), (.t 31)]), qo 7 (.asg (.t 32))]
def Jqmb (p : Nums) : IC := (.region (Jqmj p) [])
@[simp] theorem Jemb {p : Nums} : EqI (Jqmb p) (.region (Jqmj p) []) := eqi
@[simp] def Jqmk (p : Nums) : List IOp := [qo 33 (.mov (.t 0)), qo 34 (.mov (.t 8)), qo 35 (.iaddr 2 (.t 33) (.t 34)), qo 36 (.faddr 1 (.t 35)), qo 37 (.load none (.t 36)), qo 38 (.mov (.t 2)), qo 39 (.bin .eql (.t 37) (.t 38))]
def Jqmc (p : Nums) : IC := (.region (Jqmk p) [])
@[simp] theorem Jemc {p : Nums} : EqI (Jqmc p) (.region (Jqmk p) []) := eqi
@[simp] def Jqml (p : Nums) : List IOp := [qo 40 (.mov (.t 7)), qo 41 (.mov (.t 0)), qo 42 (.mov (.t 8)), qo 43 (.iaddr 2 (.t 41) (.t 42)), qo 44 (.faddr 0 (.t 43)), qo 45 (.load none (.t 44)), qo 46 (.mov (.t 1)), qo 47 (.build [(zi 0), (zi 0)] [(0, 1, (.t 45)), (1, 1, (.t 46))]), qo 48 (.call p.ref11_Add [(.t 40), (.t 47)]), qo 7 (.asg (.t 48))]
def Jqmd (p : Nums) : IC := (.region (Jqml p) [])
@[simp] theorem Jemd {p : Nums} : EqI (Jqmd p) (.region (Jqml p) []) := eqi
def Jqme (p : Nums) : IC := (.seq (.seq (Jqma p) (.cond (.t 26) (Jqmb p) .skip)) (.seq (Jqmc p) (.cond (.t 39) (Jqmd p) .skip)))
@[simp] theorem Jeme {p : Nums} : EqI (Jqme p) (.seq (.seq (Jqma p) (.cond (.t 26) (Jqmb p) .skip)) (.seq (Jqmc p) (.cond (.t 39) (Jqmd p) .skip))) := eqi
@[simp] def Jqmm (p : Nums) : List IOp := [qo 13 (.mov (.t 8)), qo 14 (.bin .add (.t 13) (ci 1)), qo 8 (.asg (.t 14))]
def Jqmf (p : Nums) : IC := (.region (Jqmm p) [])
@[simp] theorem Jemf {p : Nums} : EqI (Jqmf p) (.region (Jqmm p) []) := eqi
def Jqmg (p : Nums) : IC := (.seq (.seq (Jqm9 p) (.cond (.t 12) .skip (.exit 0))) (.seq (.block 1 (Jqme p)) (Jqmf p)))
@[simp] theorem Jemg {p : Nums} : EqI (Jqmg p) (.seq (.seq (Jqm9 p) (.cond (.t 12) .skip (.exit 0))) (.seq (.block 1 (Jqme p)) (Jqmf p))) := eqi
def Jtc1 (p : Nums) : IC := (.seq (.region [⟨(some 6), (.asg (.c .nils)), none, false⟩] []) (.seq (.region [⟨(some 7), (.asg (.c .nils)), none, false⟩] []) (.seq (.seq (.region [⟨(some 8), (.asg (.c (.d (.int .i64 0)))), none, false⟩] []) (.block 0 (.loop (Jqmg p)))) (.seq (.region [⟨(some 49), (.mov (.t 7)), none, false⟩, ⟨(some 6), (.asg (.t 49)), none, false⟩] []) .ret))))
@[simp] def Jqes (p : Nums) : List IOp := [qo 3 (.mov (.t 0)), qo 4 (.bin .geq (.t 3) (ci 2)), qo 5 (.mov (.t 4)), ⟨(some 6), (.mov (.t 0)), (some (5, true)), false⟩, ⟨(some 7), (.bin .leq (.t 6) (ci 17)), (some (5, true)), false⟩, qo 8 (.pick (.t 5) (.t 7) (.c (.d (.bool false)))), qo 2 (.asg (.t 8))]
def Jqer (p : Nums) : IC := (.region (Jqes p) [])
@[simp] theorem Jeer {p : Nums} : EqI (Jqer p) (.region (Jqes p) []) := eqi
def Jtbg (p : Nums) : IC := (.seq (.region [⟨(some 2), (.asg (.c (.d (.bool false)))), none, false⟩] []) (.seq (Jqer p) .ret))
@[simp] def Jqqt (p : Nums) : List IOp := [qo 4 (.box (.t 0)), qo 8 (.alloc [.nils, (zi 0), (zi 0), (zi 0), (zi 0)])]
def Jqqp (p : Nums) : IC := (.region (Jqqt p) [])
@[simp] theorem Jeqp {p : Nums} : EqI (Jqqp p) (.region (Jqqt p) []) := eqi
@[simp] def Jqqu (p : Nums) : List IOp := [qo 9 (.faddr 3 (.t 4)), qo 10 (.load none (.t 9)), qo 11 (.bin .add (.t 10) (ci 1)), qo 12 (.faddr 0 (.t 4)), qo 13 (.load none (.t 12)), qo 14 (.len (.t 13)), qo 15 (.bin .add (.t 11) (.t 14)), qo 16 (.faddr 3 (.t 4)), qn (.store 1 (.t 16) (.t 15))]
def Jqqq (p : Nums) : IC := (.region (Jqqu p) [])
@[simp] theorem Jeqq {p : Nums} : EqI (Jqqq p) (.region (Jqqu p) []) := eqi
@[simp] def Jqqv (p : Nums) : List IOp := [qo 17 (.faddr 0 (.t 4)), qo 18 (.load none (.t 17)), qo 19 (.mov (.t 1)), qo 20 (.mov (.t 2)), qo 21 (.bin .mul (ci 2) (.t 20)), qo 22 (.build [(zi 0), (zi 0)] [(0, 1, (.t 19)), (1, 1, (.t 21))]), qo 23 (.call p.ref11_Has [(.t 18), (.t 22)]), qo 24 (.un .not (.t 23))]
def Jqqr (p : Nums) : IC := (.region (Jqqv p) [])
@[simp] theorem Jeqr {p : Nums} : EqI (Jqqr p) (.region (Jqqv p) []) := eqi
@[simp] def Jqqw (p : Nums) : List IOp := [qo 25 (.load (some 5) (.t 4)), qo 26 (.mov (.t 3)), qo 27 (.call p.ref14_fail [(.t 25), (ci 21), (.t 26)]), qn (.store 5 (.t 8) (.t 27))]
def Jqqs (p : Nums) : IC := (.region (Jqqw p) [])
@[simp] theorem Jeqs {p : Nums} : EqI (Jqqs p) (.region (Jqqw p) []) := eqi
def Jtca (p : Nums) : IC := (.seq (Jqqp p) (.seq (Jqqq p) (.seq (.seq (Jqqr p) (.cond (.t 24) (.seq (Jqqs p) .ret) .skip)) (.seq (.region [⟨(some 28), (.load (some 5) (.t 4)), none, false⟩, ⟨none, (.store 5 (.t 8) (.t 28)), none, false⟩] []) .ret))))
@[simp] def Jqeu (p : Nums) : List IOp := [qo 3 (.mov (.t 0)), qo 4 (.bin .geq (.t 3) (ci 5)), qo 5 (.mov (.t 4)), ⟨(some 6), (.mov (.t 0)), (some (5, true)), false⟩, ⟨(some 7), (.bin .leq (.t 6) (ci 16)), (some (5, true)), false⟩, qo 8 (.pick (.t 5) (.t 7) (.c (.d (.bool false)))), qo 2 (.asg (.t 8))]
def Jqet (p : Nums) : IC := (.region (Jqeu p) [])
@[simp] theorem Jeet {p : Nums} : EqI (Jqet p) (.region (Jqeu p) []) := eqi
def Jtbh (p : Nums) : IC := (.seq (.region [⟨(some 2), (.asg (.c (.d (.bool false)))), none, false⟩] []) (.seq (Jqet p) .ret))
@[simp] def Jqew (p : Nums) : List IOp := [qo 3 (.mov (.t 0)), qo 4 (.bin .geq (.t 3) (ci 1)), qo 5 (.mov (.t 4)), ⟨(some 6), (.mov (.t 0)), (some (5, true)), false⟩, ⟨(some 7), (.bin .leq (.t 6) (ci 16)), (some (5, true)), false⟩, qo 8 (.pick (.t 5) (.t 7) (.c (.d (.bool false)))), qo 2 (.asg (.t 8))]
def Jqev (p : Nums) : IC := (.region (Jqew p) [])
@[simp] theorem Jeev {p : Nums} : EqI (Jqev p) (.region (Jqew p) []) := eqi
def Jtbi (p : Nums) : IC := (.seq (.region [⟨(some 2), (.asg (.c (.d (.bool false)))), none, false⟩] []) (.seq (Jqev p) .ret))
@[simp] def Jqm4 (p : Nums) : List IOp := [qo 9 (.mov (.t 1)), qo 10 (.mov (.t 2)), qo 11 (.build [(zi 0), (zi 0)] [(0, 1, (.t 9)), (1, 1, (.t 10))]), qo 12 (.bslice 2 1 [(.int .i64 0), (.int .i64 0)] [(0, (.t 11))]), qo 7 (.asg (.t 12))]
def Jqlx (p : Nums) : IC := (.region (Jqm4 p) [])
@[simp] theorem Jelx {p : Nums} : EqI (Jqlx p) (.region (Jqm4 p) []) := eqi
@[simp] def Jqm5 (p : Nums) : List IOp := [qo 13 (.mov (.t 8)), qo 14 (.mov (.t 0)), qo 15 (.len (.t 14)), qo 16 (.bin .lss (.t 13) (.t 15))]
def Jqly (p : Nums) : IC := (.region (Jqm5 p) [])
@[simp] theorem Jely {p : Nums} : EqI (Jqly p) (.region (Jqm5 p) []) := eqi
@[simp] def Jqm6 (p : Nums) : List IOp := [qo 19 (.mov (.t 0)), qo 20 (.mov (.t 8)), qo 21 (.iaddr 2 (.t 19) (.t 20)), qo 22 (.faddr 0 (.t 21)), qo 23 (.load none (.t 22)), qo 24 (.mov (.t 1)), qo 25 (.bin .neq (.t 23) (.t 24)), qo 26 (.mov (.t 25)), ⟨(some 27), (.mov (.t 0)), (some (26, true)), false⟩, ⟨(some 28), (.mov (.t 8)), (some (26, true)), false⟩, ⟨(some 29), (.iaddr 2 (.t 27) (.t 28)), (some (26, true)), false⟩, ⟨(some 30), (.faddr 1 (.t 29)), (some (26, true)), false⟩, ⟨(some 31), (.load none (.t 30)), (some (26, true)), false⟩, ⟨(some 32), (.mov (.t 2)), (some (26, true)), false⟩, ⟨(some 33), (.bin .neq (.t 31) (.t 32)), (some (26, true)), false⟩, qo 34 (.pick (.t 26) (.t 33) (.c (.d (.bool false))))]
def Jqlz (p : Nums) : IC := (.region (Jqm6 p) [])
@[simp] theorem Jelz {p : Nums} : EqI (Jqlz p) (.region (Jqm6 p) []) := eqi
@[simp] def Jqm7 (p : Nums) : List IOp := [qo 35 (.mov (.t 7)), qo 36 (.mov (.t 0)), qo 37 (.mov (.t 8)), qo 38 (.iaddr 2 (.t 36) (.t 37)), qo 39 (.load (some 2) (.t 38)), qo 40 (.call p.ref11_Add [(.t 35), (.t 39)]), qo 7 (.asg (.t 40))]
def Jqm0 (p : Nums) : IC := (.region (Jqm7 p) [])
@[simp] theorem Jem0 {p : Nums} : EqI (Jqm0 p) (.region (Jqm7 p) []) := eqi
def Jqm1 (p : Nums) : IC := (.seq (Jqlz p) (.cond (.t 34) (Jqm0 p) .skip))
@[simp] theorem Jem1 {p : Nums} : EqI (Jqm1 p) (.seq (Jqlz p) (.cond (.t 34) (Jqm0 p) .skip)) := eqi
@[simp] def Jqm8 (p : Nums) : List IOp := [qo 17 (.mov (.t 8)), qo 18 (.bin .add (.t 17) (ci 1)), qo 8 (.asg (.t 18))]
def Jqm2 (p : Nums) : IC := (.region (Jqm8 p) [])
@[simp] theorem Jem2 {p : Nums} : EqI (Jqm2 p) (.region (Jqm8 p) []) := eqi
def Jqm3 (p : Nums) : IC := (.seq (.seq (Jqly p) (.cond (.t 16) .skip (.exit 0))) (.seq (.block 1 (Jqm1 p)) (Jqm2 p)))
@[simp] theorem Jem3 {p : Nums} : EqI (Jqm3 p) (.seq (.seq (Jqly p) (.cond (.t 16) .skip (.exit 0))) (.seq (.block 1 (Jqm1 p)) (Jqm2 p))) := eqi
def Jtc0 (p : Nums) : IC := (.seq (.region [⟨(some 6), (.asg (.c .nils)), none, false⟩] []) (.seq (Jqlx p) (.seq (.seq (.region [⟨(some 8), (.asg (.c (.d (.int .i64 0)))), none, false⟩] []) (.block 0 (.loop (Jqm3 p)))) (.seq (.region [⟨(some 41), (.mov (.t 7)), none, false⟩, ⟨(some 6), (.asg (.t 41)), none, false⟩] []) .ret))))
@[simp] def Jqku (p : Nums) : List IOp := [qo 6 (.mov (.t 5)), qo 7 (.mov (.t 0)), qo 8 (.len (.t 7)), qo 9 (.bin .lss (.t 6) (.t 8))]
def Jqko (p : Nums) : IC := (.region (Jqku p) [])
@[simp] theorem Jeko {p : Nums} : EqI (Jqko p) (.region (Jqku p) []) := eqi
@[simp] def Jqkv (p : Nums) : List IOp := [qp 12 (.mov (.t 0)), qp 13 (.mov (.t 5)), qp 14 (.iaddr 2 (.t 12) (.t 13)), qp 15 (.load (some 2) (.t 14)), qp 16 (.load (some 2) (.t 3)), qo 17 (.eqs false [.int, .int] (.t 15) (.t 16))]
def Jqkp (p : Nums) : IC := (.region (Jqkv p) [])
@[simp] theorem Jekp {p : Nums} : EqI (Jqkp p) (.region (Jqkv p) []) := eqi
def Jqkq (p : Nums) : IC := (.seq (.region [⟨(some 4), (.asg (.c (.d (.bool true)))), none, false⟩] []) .ret)
@[simp] theorem Jekq {p : Nums} : EqI (Jqkq p) (.seq (.region [⟨(some 4), (.asg (.c (.d (.bool true)))), none, false⟩] []) .ret) := eqi
def Jqkr (p : Nums) : IC := (.seq (Jqkp p) (.cond (.t 17) (Jqkq p) .skip))
@[simp] theorem Jekr {p : Nums} : EqI (Jqkr p) (.seq (Jqkp p) (.cond (.t 17) (Jqkq p) .skip)) := eqi
@[simp] def Jqkw (p : Nums) : List IOp := [qo 10 (.mov (.t 5)), qo 11 (.bin .add (.t 10) (ci 1)), qo 5 (.asg (.t 11))]
def Jqks (p : Nums) : IC := (.region (Jqkw p) [])
@[simp] theorem Jeks {p : Nums} : EqI (Jqks p) (.region (Jqkw p) []) := eqi
def Jqkt (p : Nums) : IC := (.seq (.seq (Jqko p) (.cond (.t 9) .skip (.exit 0))) (.seq (.block 1 (Jqkr p)) (Jqks p)))
@[simp] theorem Jekt {p : Nums} : EqI (Jqkt p) (.seq (.seq (Jqko p) (.cond (.t 9) .skip (.exit 0))) (.seq (.block 1 (Jqkr p)) (Jqks p))) := eqi
def Jtbw (p : Nums) : IC := (.seq (.region [⟨(some 3), (.box (.t 1)), none, false⟩, ⟨(some 4), (.asg (.c (.d (.bool false)))), none, false⟩] []) (.seq (.seq (.region [⟨(some 5), (.asg (.c (.d (.int .i64 0)))), none, false⟩] []) (.block 0 (.loop (Jqkt p)))) (.seq (.region [⟨(some 4), (.asg (.c (.d (.bool false)))), none, false⟩] []) .ret)))
@[simp] def Jqfx (p : Nums) : List IOp := [qo 5 (.mov (.t 4)), qo 6 (.faddr 2 (.t 1)), qo 7 (.load none (.t 6)), qo 8 (.len (.t 7)), qo 9 (.bin .lss (.t 5) (.t 8))]
def Jqft (p : Nums) : IC := (.region (Jqfx p) [])
@[simp] theorem Jeft {p : Nums} : EqI (Jqft p) (.region (Jqfx p) []) := eqi
@[simp] def Jqfy (p : Nums) : List IOp := [qo 12 (.mov (.t 3)), qo 13 (.faddr 2 (.t 1)), qo 14 (.load none (.t 13)), qo 15 (.mov (.t 4)), qo 16 (.iaddr 5 (.t 14) (.t 15)), qo 17 (.faddr 0 (.t 16)), qo 18 (.load none (.t 17)), qo 19 (.len (.t 18)), qo 20 (.bin .add (.t 12) (.t 19)), qo 3 (.asg (.t 20))]
def Jqfu (p : Nums) : IC := (.region (Jqfy p) [])
@[simp] theorem Jefu {p : Nums} : EqI (Jqfu p) (.region (Jqfy p) []) := eqi
@[simp] def Jqfz (p : Nums) : List IOp := [qo 10 (.mov (.t 4)), qo 11 (.bin .add (.t 10) (ci 1)), qo 4 (.asg (.t 11))]
def Jqfv (p : Nums) : IC := (.region (Jqfz p) [])
@[simp] theorem Jefv {p : Nums} : EqI (Jqfv p) (.region (Jqfz p) []) := eqi
def Jqfw (p : Nums) : IC := (.seq (.seq (Jqft p) (.cond (.t 9) .skip (.exit 0))) (.seq (.block 1 (Jqfu p)) (Jqfv p)))
@[simp] theorem Jefw {p : Nums} : EqI (Jqfw p) (.seq (.seq (Jqft p) (.cond (.t 9) .skip (.exit 0))) (.seq (.block 1 (Jqfu p)) (Jqfv p))) := eqi
def Jtbk (p : Nums) : IC := (.seq (.region [⟨(some 1), (.box (.t 0)), none, false⟩, ⟨(some 2), (.asg (.c (.d (.int .i64 0)))), none, false⟩] []) (.seq (.region [⟨(some 3), (.asg (.c (.d (.int .i64 0)))), none, false⟩] []) (.seq (.seq (.region [⟨(some 4), (.asg (.c (.d (.int .i64 0)))), none, false⟩] []) (.block 0 (.loop (Jqfw p)))) (.seq (.region [⟨(some 21), (.mov (.t 3)), none, false⟩, ⟨(some 2), (.asg (.t 21)), none, false⟩] []) .ret))))
@[simp] def Jqgn (p : Nums) : List IOp := [qo 5 (.faddr 0 (.t 2)), qo 6 (.load none (.t 5)), qo 7 (.bin .lss (.t 6) (ci 1)), qo 8 (.mov (.t 7)), ⟨(some 9), (.faddr 0 (.t 2)), (some (8, false)), false⟩, ⟨(some 10), (.load none (.t 9)), (some (8, false)), false⟩, ⟨(some 11), (.bin .gtr (.t 10) (ci 17)), (some (8, false)), false⟩, qo 12 (.pick (.t 8) (.c (.d (.bool true))) (.t 11))]
def Jqge (p : Nums) : IC := (.region (Jqgn p) [])
@[simp] theorem Jege {p : Nums} : EqI (Jqge p) (.region (Jqgn p) []) := eqi
def Jqgf (p : Nums) : IC := (.seq (.region [⟨(some 4), (.asg (.c (.d (.int .i64 8)))), none, false⟩] []) .ret)
@[simp] theorem Jegf {p : Nums} : EqI (Jqgf p) (.seq (.region [⟨(some 4), (.asg (.c (.d (.int .i64 8)))), none, false⟩] []) .ret) := eqi
def Jqgk (p : Nums) : IC := (.seq (.seq (Jqge p) .cut) (.cond (.t 12) (Jqgf p) .skip))
theorem Jegk {p : Nums} : EqI (Jqgk p) (.seq (.seq (Jqge p) .cut) (.cond (.t 12) (Jqgf p) .skip)) := eqi
@[simp] def Jqgo (p : Nums) : List IOp := [qo 13 (.faddr 0 (.t 2)), qo 14 (.load none (.t 13)), qo 15 (.call p.ref05_UsesD [(.t 14)]), qo 16 (.mov (.t 15)), ⟨(some 17), (.faddr 1 (.t 2)), (some (16, true)), false⟩, ⟨(some 18), (.load none (.t 17)), (some (16, true)), false⟩, ⟨(some 19), (.mov (.t 1)), (some (16, true)), false⟩, ⟨(some 20), (.call p.ref07_in [(.t 18), (.t 19)]), (some (16, true)), false⟩, ⟨(some 21), (.un .not (.t 20)), (some (16, true)), false⟩, qo 22 (.pick (.t 16) (.t 21) (.c (.d (.bool false)))), qo 23 (.mov (.t 22)), ⟨(some 24), (.faddr 0 (.t 2)), (some (23, false)), false⟩, ⟨(some 25), (.load none (.t 24)), (some (23, false)), false⟩, ⟨(some 26), (.call p.ref05_UsesA [(.t 25)]), (some (23, false)), false⟩, ⟨(some 27), (.mov (.t 26)), (some (23, false)), false⟩, ⟨(some 28), (.faddr 2 (.t 2)), (some (27, true)), false⟩, ⟨(some 29), (.load none (.t 28)), (some (27, true)), false⟩, ⟨(some 30), (.mov (.t 1)), (some (27, true)), false⟩, ⟨(some 31), (.call p.ref07_in [(.t 29), (.t 30)]), (some (27, true)), false⟩, ⟨(some 32), (.un .not (.t 31)), (some (27, true)), false⟩, ⟨(some 33), (.pick (.t 27) (.t 32) (.c (.d (.bool false)))), (some (23, false)), false⟩, qo 34 (.pick (.t 23) (.c (.d (.bool true))) (.t 33)), qo 35 (.mov (.t 34)), ⟨(some 36), (.faddr 0 (.t 2)), (some (35, false)), false⟩, ⟨(some 37), (.load none (.t 36)), (some (35, false)), false⟩, ⟨(some 38), (.call p.ref05_UsesB [(.t 37)]), (some (35, false)), false⟩, ⟨(some 39), (.mov (.t 38)), (some (35, false)), false⟩, ⟨(some 40), (.faddr 3 (.t 2)), (some (39, true)), false⟩, ⟨(some 41), (.load none (.t 40)), (some (39, true)), false⟩, ⟨(some 42), (.mov (.t 1)), (some (39, true)), false⟩, ⟨(some 43), (.call p.ref07_in [(.t 41), (.t 42)]), (some (39, true)), false⟩, ⟨(some 44), (.un .not (.t 43)), (some (39, true)), false⟩, ⟨(some 45), (.pick (.t 39) (.t 44) (.c (.d (.bool false)))), (some (35, false)), false⟩, qo 46 (.pick (.t 35) (.c (.d (.bool true))) (.t 45))]
def Jqgg (p : Nums) : IC := (.region (Jqgo p) [])
@[simp] theorem Jegg {p : Nums} : EqI (Jqgg p) (.region (Jqgo p) []) := eqi
def Jqgh (p : Nums) : IC := (.seq (.region [⟨(some 4), (.asg (.c (.d (.int .i64 9)))), none, false⟩] []) .ret)
@[simp] theorem Jegh {p : Nums} : EqI (Jqgh p) (.seq (.region [⟨(some 4), (.asg (.c (.d (.int .i64 9)))), none, false⟩] []) .ret) := eqi
def Jqgl (p : Nums) : IC := (.seq (.seq (Jqgg p) .cut) (.cond (.t 46) (Jqgh p) .skip))
theorem Jegl {p : Nums} : EqI (Jqgl p) (.seq (.seq (Jqgg p) .cut) (.cond (.t 46) (Jqgh p) .skip)) := eqi
@[simp] def Jqgp (p : Nums) : List IOp := [qo 47 (.faddr 0 (.t 2)), qo 48 (.load none (.t 47)), qo 49 (.call p.ref05_UsesD [(.t 48)]), qo 50 (.un .not (.t 49)), qo 51 (.mov (.t 50)), ⟨(some 52), (.faddr 1 (.t 2)), (some (51, true)), false⟩, ⟨(some 53), (.load none (.t 52)), (some (51, true)), false⟩, ⟨(some 54), (.bin .neq (.t 53) (ci 0)), (some (51, true)), false⟩, qo 55 (.pick (.t 51) (.t 54) (.c (.d (.bool false)))), qo 56 (.mov (.t 55)), ⟨(some 57), (.faddr 0 (.t 2)), (some (56, false)), false⟩, ⟨(some 58), (.load none (.t 57)), (some (56, false)), false⟩, ⟨(some 59), (.call p.ref05_UsesA [(.t 58)]), (some (56, false)), false⟩, ⟨(some 60), (.un .not (.t 59)), (some (56, false)), false⟩, ⟨(some 61), (.mov (.t 60)), (some (56, false)), false⟩, ⟨(some 62), (.faddr 2 (.t 2)), (some (61, true)), false⟩, ⟨(some 63), (.load none (.t 62)), (some (61, true)), false⟩, ⟨(some 64), (.bin .neq (.t 63) (ci 0)), (some (61, true)), false⟩, ⟨(some 65), (.pick (.t 61) (.t 64) (.c (.d (.bool false)))), (some (56, false)), false⟩, qo 66 (.pick (.t 56) (.c (.d (.bool true))) (.t 65)), qo 67 (.mov (.t 66)), ⟨(some 68), (.faddr 0 (.t 2)), (some (67, false)), false⟩, ⟨(some 69), (.load none (.t 68)), (some (67, false)), false⟩, ⟨(some 70), (.call p.ref05_UsesB [(.t 69)]), (some (67, false)), false⟩, ⟨(some 71), (.un .not (.t 70)), (some (67, false)), false⟩, ⟨(some 72), (.mov (.t 71)), (some (67, false)), false⟩, ⟨(some 73), (.faddr 3 (.t 2)), (some (72, true)), false⟩, ⟨(some 74), (.load none (.t 73)), (some (72, true)), false⟩, ⟨(some 75), (.bin .neq (.t 74) (ci 0)), (some (72, true)), false⟩, ⟨(some 76), (.pick (.t 72) (.t 75) (.c (.d (.bool false)))), (some (67, false)), false⟩, qo 77 (.pick (.t 67) (.c (.d (.bool true))) (.t 76)), qo 78 (.mov (.t 77)), ⟨(some 79), (.faddr 0 (.t 2)), (some (78, false)), false⟩, ⟨(some 80), (.load none (.t 79)), (some (78, false)), false⟩, ⟨(some 81), (.bin .neq (.t 80) (ci 1)), (some (78, false)), false⟩, ⟨(some 82), (.mov (.t 81)), (some (78, false)), false⟩, ⟨(some 83), (.faddr 4 (.t 2)), (some (82, true)), false⟩, ⟨(some 84), (.load none (.t 83)), (some (82, true)), false⟩, ⟨(some 85), (.bin .neq (.t 84) (ci 0)), (some (82, true)), false⟩, ⟨(some 86), (.pick (.t 82) (.t 85) (.c (.d (.bool false)))), (some (78, false)), false⟩, qo 87 (.pick (.t 78) (.c (.d (.bool true))) (.t 86))]
def Jqgi (p : Nums) : IC := (.region (Jqgp p) [])
@[simp] theorem Jegi {p : Nums} : EqI (Jqgi p) (.region (Jqgp p) []) := eqi
def Jqgj (p : Nums) : IC := (.seq (.region [⟨(some 4), (.asg (.c (.d (.int .i64 12)))), none, false⟩] []) .ret)
@[simp] theorem Jegj {p : Nums} : EqI (Jqgj p) (.seq (.region [⟨(some 4), (.asg (.c (.d (.int .i64 12)))), none, false⟩] []) .ret) := eqi
def Jqgm (p : Nums) : IC := (.seq (.seq (Jqgi p) .cut) (.cond (.t 87) (Jqgj p) .skip))
theorem Jegm {p : Nums} : EqI (Jqgm p) (.seq (.seq (Jqgi p) .cut) (.cond (.t 87) (Jqgj p) .skip)) := eqi
def Jtbm (p : Nums) : IC := (.seq (.region [⟨(some 2), (.box (.t 0)), none, false⟩, ⟨(some 4), (.asg (.c (.d (.int .i64 0)))), none, false⟩] []) (.seq (Jqgk p) (.seq (Jqgl p) (.seq (Jqgm p) (.seq (.region [⟨(some 4), (.asg (.c (.d (.int .i64 0)))), none, false⟩] []) .ret)))))
@[simp] def Jqhg (p : Nums) : List IOp := [qo 11 (.faddr 2 (.t 3)), qo 12 (.load none (.t 11)), qo 13 (.mov (.t 2)), qo 14 (.call p.ref07_in [(.t 12), (.t 13)]), qo 15 (.un .not (.t 14))]
def Jqgy (p : Nums) : IC := (.region (Jqhg p) [])
@[simp] theorem Jegy {p : Nums} : EqI (Jqgy p) (.region (Jqhg p) []) := eqi
def Jqh8 (p : Nums) : IC := (.seq (.region [⟨(some 6), (.asg (.c (.d (.int .i64 11)))), none, false⟩] []) .ret)
@[simp] theorem Jeh8 {p : Nums} : EqI (Jqh8 p) (.seq (.region [⟨(some 6), (.asg (.c (.d (.int .i64 11)))), none, false⟩] []) .ret) := eqi
@[simp] def Jqhi (p : Nums) : List IOp := [qo 16 (.faddr 1 (.t 3)), qo 17 (.load none (.t 16)), qo 18 (.bin .neq (.t 17) (ci 0)), qo 19 (.mov (.t 18)), ⟨(some 20), (.faddr 3 (.t 3)), (some (19, false)), false⟩, ⟨(some 21), (.load none (.t 20)), (some (19, false)), false⟩, ⟨(some 22), (.bin .neq (.t 21) (ci 0)), (some (19, false)), false⟩, qo 23 (.pick (.t 19) (.c (.d (.bool true))) (.t 22))]
def Jqh9 (p : Nums) : IC := (.region (Jqhi p) [])
@[simp] theorem Jeh9 {p : Nums} : EqI (Jqh9 p) (.region (Jqhi p) []) := eqi
def Jqha (p : Nums) : IC := (.seq (.region [⟨(some 6), (.asg (.c (.d (.int .i64 12)))), none, false⟩] []) .ret)
@[simp] theorem Jeha {p : Nums} : EqI (Jqha p) (.seq (.region [⟨(some 6), (.asg (.c (.d (.int .i64 12)))), none, false⟩] []) .ret) := eqi
@[simp] def Jqhj (p : Nums) : List IOp := [qo 26 (.faddr 1 (.t 3)), qo 27 (.load none (.t 26)), qo 28 (.mov (.t 1)), qo 29 (.call p.ref07_in [(.t 27), (.t 28)]), qo 30 (.un .not (.t 29))]
def Jqhb (p : Nums) : IC := (.region (Jqhj p) [])
@[simp] theorem Jehb {p : Nums} : EqI (Jqhb p) (.region (Jqhj p) []) := eqi
def Jqhc (p : Nums) : IC := (.seq (.region [⟨(some 6), (.asg (.c (.d (.int .i64 9)))), none, false⟩] []) .ret)
@[simp] theorem Jehc {p : Nums} : EqI (Jqhc p) (.seq (.region [⟨(some 6), (.asg (.c (.d (.int .i64 9)))), none, false⟩] []) .ret) := eqi
@[simp] def Jqhk (p : Nums) : List IOp := [qo 31 (.faddr 2 (.t 3)), qo 32 (.load none (.t 31)), qo 33 (.mov (.t 2)), qo 34 (.call p.ref07_in [(.t 32), (.t 33)]), qo 35 (.un .not (.t 34)), qo 36 (.mov (.t 35)), ⟨(some 37), (.faddr 3 (.t 3)), (some (36, false)), false⟩, ⟨(some 38), (.load none (.t 37)), (some (36, false)), false⟩, ⟨(some 39), (.mov (.t 2)), (some (36, false)), false⟩, ⟨(some 40), (.call p.ref07_in [(.t 38), (.t 39)]), (some (36, false)), false⟩, ⟨(some 41), (.un .not (.t 40)), (some (36, false)), false⟩, qo 42 (.pick (.t 36) (.c (.d (.bool true))) (.t 41))]
def Jqhd (p : Nums) : IC := (.region (Jqhk p) [])
@[simp] theorem Jehd {p : Nums} : EqI (Jqhd p) (.region (Jqhk p) []) := eqi
def Jqhe (p : Nums) : IC := (.seq (.region [⟨(some 6), (.asg (.c (.d (.int .i64 11)))), none, false⟩] []) .ret)
@[simp] theorem Jehe {p : Nums} : EqI (Jqhe p) (.seq (.region [⟨(some 6), (.asg (.c (.d (.int .i64 11)))), none, false⟩] []) .ret) := eqi
@[simp] def Jqhl (p : Nums) : List IOp := [qo 45 (.faddr 1 (.t 3)), qo 46 (.load none (.t 45)), qo 47 (.mov (.t 1)), qo 48 (.call p.ref07_in [(.t 46), (.t 47)]), qo 49 (.un .not (.t 48))]
def Jqhf (p : Nums) : IC := (.region (Jqhl p) [])
@[simp] theorem Jehf {p : Nums} : EqI (Jqhf p) (.region (Jqhl p) []) := eqi
def Jqgz (p : Nums) : IC := (.seq (.region [⟨(some 6), (.asg (.c (.d (.int .i64 9)))), none, false⟩] []) .ret)
@[simp] theorem Jegz {p : Nums} : EqI (Jqgz p) (.seq (.region [⟨(some 6), (.asg (.c (.d (.int .i64 9)))), none, false⟩] []) .ret) := eqi
@[simp] def Jqhh (p : Nums) : List IOp := [qo 50 (.faddr 2 (.t 3)), qo 51 (.load none (.t 50)), qo 52 (.bin .neq (.t 51) (ci 0)), qo 53 (.mov (.t 52)), ⟨(some 54), (.faddr 3 (.t 3)), (some (53, false)), false⟩, ⟨(some 55), (.load none (.t 54)), (some (53, false)), false⟩, ⟨(some 56), (.bin .neq (.t 55) (ci 0)), (some (53, false)), false⟩, qo 57 (.pick (.t 53) (.c (.d (.bool true))) (.t 56))]
def Jqh0 (p : Nums) : IC := (.region (Jqhh p) [])
@[simp] theorem Jeh0 {p : Nums} : EqI (Jqh0 p) (.region (Jqhh p) []) := eqi
def Jqh1 (p : Nums) : IC := (.seq (.region [⟨(some 6), (.asg (.c (.d (.int .i64 12)))), none, false⟩] []) .ret)
@[simp] theorem Jeh1 {p : Nums} : EqI (Jqh1 p) (.seq (.region [⟨(some 6), (.asg (.c (.d (.int .i64 12)))), none, false⟩] []) .ret) := eqi
def Jqh2 (p : Nums) : IC := (.seq (.seq (Jqhf p) (.cond (.t 49) (Jqgz p) .skip)) (.seq (.seq (Jqh0 p) (.cond (.t 57) (Jqh1 p) .skip)) (.seq (.region [⟨(some 6), (.asg (.c (.d (.int .i64 0)))), none, false⟩] []) .ret)))
@[simp] theorem Jeh2 {p : Nums} : EqI (Jqh2 p) (.seq (.seq (Jqhf p) (.cond (.t 49) (Jqgz p) .skip)) (.seq (.seq (Jqh0 p) (.cond (.t 57) (Jqh1 p) .skip)) (.seq (.region [⟨(some 6), (.asg (.c (.d (.int .i64 0)))), none, false⟩] []) .ret))) := eqi
def Jqh3 (p : Nums) : IC := (.seq (.seq (Jqhb p) (.cond (.t 30) (Jqhc p) .skip)) (.seq (.seq (Jqhd p) (.cond (.t 42) (Jqhe p) .skip)) (.seq (.region [⟨(some 6), (.asg (.c (.d (.int .i64 0)))), none, false⟩] []) .ret)))
@[simp] theorem Jeh3 {p : Nums} : EqI (Jqh3 p) (.seq (.seq (Jqhb p) (.cond (.t 30) (Jqhc p) .skip)) (.seq (.seq (Jqhd p) (.cond (.t 42) (Jqhe p) .skip)) (.seq (.region [⟨(some 6), (.asg (.c (.d (.int .i64 0)))), none, false⟩] []) .ret))) := eqi
def Jqh4 (p : Nums) : IC := (.seq (.region [⟨(some 44), (.bin .eql (.t 8) (.c (.d (.int .i64 3)))), none, false⟩, ⟨(some 43), (.asg (.t 44)), none, false⟩] []) (.cond (.t 43) (Jqh2 p) .skip))
@[simp] theorem Jeh4 {p : Nums} : EqI (Jqh4 p) (.seq (.region [⟨(some 44), (.bin .eql (.t 8) (.c (.d (.int .i64 3)))), none, false⟩, ⟨(some 43), (.asg (.t 44)), none, false⟩] []) (.cond (.t 43) (Jqh2 p) .skip)) := eqi
def Jqh5 (p : Nums) : IC := (.seq (.seq (Jqgy p) (.cond (.t 15) (Jqh8 p) .skip)) (.seq (.seq (Jqh9 p) (.cond (.t 23) (Jqha p) .skip)) (.seq (.region [⟨(some 6), (.asg (.c (.d (.int .i64 0)))), none, false⟩] []) .ret)))
@[simp] theorem Jeh5 {p : Nums} : EqI (Jqh5 p) (.seq (.seq (Jqgy p) (.cond (.t 15) (Jqh8 p) .skip)) (.seq (.seq (Jqh9 p) (.cond (.t 23) (Jqha p) .skip)) (.seq (.region [⟨(some 6), (.asg (.c (.d (.int .i64 0)))), none, false⟩] []) .ret))) := eqi
def Jqh6 (p : Nums) : IC := (.seq (.region [⟨(some 25), (.bin .eql (.t 8) (.c (.d (.int .i64 2)))), none, false⟩, ⟨(some 24), (.asg (.t 25)), none, false⟩] []) (.cond (.t 24) (Jqh3 p) (Jqh4 p)))
@[simp] theorem Jeh6 {p : Nums} : EqI (Jqh6 p) (.seq (.region [⟨(some 25), (.bin .eql (.t 8) (.c (.d (.int .i64 2)))), none, false⟩, ⟨(some 24), (.asg (.t 25)), none, false⟩] []) (.cond (.t 24) (Jqh3 p) (Jqh4 p))) := eqi
def Jqh7 (p : Nums) : IC := (.seq (.region [⟨(some 10), (.bin .eql (.t 8) (.c (.d (.int .i64 1)))), none, false⟩, ⟨(some 9), (.asg (.t 10)), none, false⟩] []) (.cond (.t 9) (Jqh5 p) (Jqh6 p)))
@[simp] theorem Jeh7 {p : Nums} : EqI (Jqh7 p) (.seq (.region [⟨(some 10), (.bin .eql (.t 8) (.c (.d (.int .i64 1)))), none, false⟩, ⟨(some 9), (.asg (.t 10)), none, false⟩] []) (.cond (.t 9) (Jqh5 p) (Jqh6 p))) := eqi
def Jtbo (p : Nums) : IC := (.seq (.region [⟨(some 3), (.box (.t 0)), none, false⟩, ⟨(some 6), (.asg (.c (.d (.int .i64 0)))), none, false⟩] []) (.seq (.seq (.region [⟨(some 7), (.faddr 0 (.t 3)), none, false⟩, ⟨(some 8), (.load none (.t 7)), none, false⟩] []) (.block 0 (Jqh7 p))) (.seq (.region [⟨(some 6), (.asg (.c (.d (.int .i64 16)))), none, false⟩] []) .ret)))
@[simp] def Jqiu (p : Nums) : List IOp := [qo 5 (.mov (.t 4)), qo 6 (.faddr 3 (.t 1)), qo 7 (.load none (.t 6)), qo 8 (.len (.t 7)), qo 9 (.bin .lss (.t 5) (.t 8))]
def Jqiq (p : Nums) : IC := (.region (Jqiu p) [])
@[simp] theorem Jeiq {p : Nums} : EqI (Jqiq p) (.region (Jqiu p) []) := eqi
@[simp] def Jqiv (p : Nums) : List IOp := [qo 12 (.mov (.t 3)), qo 13 (.faddr 3 (.t 1)), qo 14 (.load none (.t 13)), qo 15 (.mov (.t 4)), qo 16 (.iaddr 5 (.t 14) (.t 15)), qo 17 (.faddr 0 (.t 16)), qo 18 (.load none (.t 17)), qo 19 (.len (.t 18)), qo 20 (.bin .add (.t 12) (.t 19)), qo 3 (.asg (.t 20))]
def Jqir (p : Nums) : IC := (.region (Jqiv p) [])
@[simp] theorem Jeir {p : Nums} : EqI (Jqir p) (.region (Jqiv p) []) := eqi
@[simp] def Jqiw (p : Nums) : List IOp := [qo 10 (.mov (.t 4)), qo 11 (.bin .add (.t 10) (ci 1)), qo 4 (.asg (.t 11))]
def Jqis (p : Nums) : IC := (.region (Jqiw p) [])
@[simp] theorem Jeis {p : Nums} : EqI (Jqis p) (.region (Jqiw p) []) := eqi
def Jqit (p : Nums) : IC := (.seq (.seq (Jqiq p) (.cond (.t 9) .skip (.exit 0))) (.seq (.block 1 (Jqir p)) (Jqis p)))
@[simp] theorem Jeit {p : Nums} : EqI (Jqit p) (.seq (.seq (Jqiq p) (.cond (.t 9) .skip (.exit 0))) (.seq (.block 1 (Jqir p)) (Jqis p))) := eqi
def Jtbr (p : Nums) : IC := (.seq (.region [⟨(some 1), (.box (.t 0)), none, false⟩, ⟨(some 2), (.asg (.c (.d (.int .i64 0)))), none, false⟩] []) (.seq (.region [⟨(some 3), (.asg (.c (.d (.int .i64 0)))), none, false⟩] []) (.seq (.seq (.region [⟨(some 4), (.asg (.c (.d (.int .i64 0)))), none, false⟩] []) (.block 0 (.loop (Jqit p)))) (.seq (.region [⟨(some 21), (.mov (.t 3)), none, false⟩, ⟨(some 2), (.asg (.t 21)), none, false⟩] []) .ret))))
@[simp] def Jqyd (p : Nums) : List IOp := [qo 10 (.faddr 0 (.t 3)), qo 11 (.load none (.t 10)), qo 12 (.len (.t 11)), qo 13 (.mov (ci 0))]
def Jqy6 (p : Nums) : IC := (.region (Jqyd p) [])
@[simp] theorem Jey6 {p : Nums} : EqI (Jqy6 p) (.region (Jqyd p) []) := eqi
@[simp] def Jqye (p : Nums) : List IOp := [qo 15 (.iaddr 5 (.t 11) (.t 13)), qo 16 (.load (some 5) (.t 15)), qo 8 (.alloc [(zi 0), (zi 0), (zi 0), (zi 0), (zi 0)]), qn (.store 5 (.t 8) (.t 16))]
def Jqy7 (p : Nums) : IC := (.region (Jqye p) [])
@[simp] theorem Jey7 {p : Nums} : EqI (Jqy7 p) (.region (Jqye p) []) := eqi
@[simp] def Jqyf (p : Nums) : List IOp := [qo 17 (.load (some 5) (.t 8)), qo 18 (.mov (.t 1)), qo 19 (.call p.source_Instr [(.t 17), (.t 18)]), qo 9 (.asg (.t 19))]
def Jqy8 (p : Nums) : IC := (.region (Jqyf p) [])
@[simp] theorem Jey8 {p : Nums} : EqI (Jqy8 p) (.region (Jqyf p) []) := eqi
def Jqy9 (p : Nums) : IC := (.seq (.region [⟨(some 22), (.mov (.t 9)), none, false⟩, ⟨(some 6), (.asg (.t 22)), none, false⟩] []) .ret)
@[simp] theorem Jey9 {p : Nums} : EqI (Jqy9 p) (.seq (.region [⟨(some 22), (.mov (.t 9)), none, false⟩, ⟨(some 6), (.asg (.t 22)), none, false⟩] []) .ret) := eqi
def Jqya (p : Nums) : IC := (.seq (Jqy7 p) (.seq (Jqy8 p) (.seq (.region [⟨(some 20), (.mov (.t 9)), none, false⟩, ⟨(some 21), (.bin .neq (.t 20) (.c (.d (.int .i64 0)))), none, false⟩] []) (.cond (.t 21) (Jqy9 p) .skip))))
@[simp] theorem Jeya {p : Nums} : EqI (Jqya p) (.seq (Jqy7 p) (.seq (Jqy8 p) (.seq (.region [⟨(some 20), (.mov (.t 9)), none, false⟩, ⟨(some 21), (.bin .neq (.t 20) (.c (.d (.int .i64 0)))), none, false⟩] []) (.cond (.t 21) (Jqy9 p) .skip)))) := eqi
def Jqyb (p : Nums) : IC := (.seq (.region [⟨(some 14), (.bin .lss (.t 13) (.t 12)), none, false⟩] []) (.seq (.cond (.t 14) .skip (.exit 0)) (.seq (.block 1 (Jqya p)) (.region [⟨(some 23), (.bin .add (.t 13) (.c (.d (.int .i64 1)))), none, false⟩, ⟨(some 13), (.mov (.t 23)), none, false⟩] []))))
@[simp] theorem Jeyb {p : Nums} : EqI (Jqyb p) (.seq (.region [⟨(some 14), (.bin .lss (.t 13) (.t 12)), none, false⟩] []) (.seq (.cond (.t 14) .skip (.exit 0)) (.seq (.block 1 (Jqya p)) (.region [⟨(some 23), (.bin .add (.t 13) (.c (.d (.int .i64 1)))), none, false⟩, ⟨(some 13), (.mov (.t 23)), none, false⟩] [])))) := eqi
@[simp] def Jqyg (p : Nums) : List IOp := [qo 24 (.faddr 1 (.t 3)), qo 25 (.load (some 4) (.t 24)), qo 26 (.mov (.t 1)), qo 27 (.mov (.t 2)), qo 28 (.call p.source_Term [(.t 25), (.t 26), (.t 27)]), qo 6 (.asg (.t 28))]
def Jqyc (p : Nums) : IC := (.region (Jqyg p) [])
@[simp] theorem Jeyc {p : Nums} : EqI (Jqyc p) (.region (Jqyg p) []) := eqi
def Jtcp (p : Nums) : IC := (.seq (.region [⟨(some 3), (.box (.t 0)), none, false⟩, ⟨(some 6), (.asg (.c (.d (.int .i64 0)))), none, false⟩] []) (.seq (.seq (Jqy6 p) (.block 0 (.loop (Jqyb p)))) (.seq (Jqyc p) .ret)))
@[simp] def Jqa8 (p : Nums) : List IOp := [qo 2 (.box (.t 0)), qo 3 (.box (.t 1)), qo 4 (.asg (ci 0))]
def Jq9w (p : Nums) : IC := (.region (Jqa8 p) [])
@[simp] theorem Je9w {p : Nums} : EqI (Jq9w p) (.region (Jqa8 p) []) := eqi
@[simp] def Jqaa (p : Nums) : List IOp := [qo 9 (.faddr 0 (.t 3)), qo 10 (.load none (.t 9)), qo 11 (.len (.t 10)), qo 12 (.mov (ci 0))]
def Jqa0 (p : Nums) : IC := (.region (Jqaa p) [])
@[simp] theorem Jea0 {p : Nums} : EqI (Jqa0 p) (.region (Jqaa p) []) := eqi
@[simp] def Jqab (p : Nums) : List IOp := [qo 14 (.iaddr 7 (.t 10) (.t 12)), qo 15 (.load (some 7) (.t 14)), qo 7 (.alloc [(zi 0), (zi 0), (zi 0), (zi 0), (zi 0), (zi 0), (zi 0)]), qn (.store 7 (.t 7) (.t 15))]
def Jqa1 (p : Nums) : IC := (.region (Jqab p) [])
@[simp] theorem Jea1 {p : Nums} : EqI (Jqa1 p) (.region (Jqab p) []) := eqi
@[simp] def Jqac (p : Nums) : List IOp := [qo 16 (.load (some 7) (.t 7)), qo 17 (.faddr 1 (.t 2)), qo 18 (.load none (.t 17)), qo 19 (.faddr 2 (.t 2)), qo 20 (.load none (.t 19)), qo 21 (.call p.machine_Instr [(.t 16), (.t 18), (.t 20)]), qo 8 (.asg (.t 21))]
def Jqa2 (p : Nums) : IC := (.region (Jqac p) [])
@[simp] theorem Jea2 {p : Nums} : EqI (Jqa2 p) (.region (Jqac p) []) := eqi
def Jqa3 (p : Nums) : IC := (.seq (.region [⟨(some 24), (.mov (.t 8)), none, false⟩, ⟨(some 4), (.asg (.t 24)), none, false⟩] []) .ret)
@[simp] theorem Jea3 {p : Nums} : EqI (Jqa3 p) (.seq (.region [⟨(some 24), (.mov (.t 8)), none, false⟩, ⟨(some 4), (.asg (.t 24)), none, false⟩] []) .ret) := eqi
@[simp] def Jqad (p : Nums) : List IOp := [qo 25 (.mov (.t 5)), qo 26 (.bin .add (.t 25) (ci 1)), qo 5 (.asg (.t 26))]
def Jqa4 (p : Nums) : IC := (.region (Jqad p) [])
@[simp] theorem Jea4 {p : Nums} : EqI (Jqa4 p) (.region (Jqad p) []) := eqi
@[simp] def Jqae (p : Nums) : List IOp := [qo 27 (.faddr 0 (.t 7)), qo 28 (.load none (.t 27)), qo 29 (.bin .neq (.t 28) (ci 18))]
def Jqa5 (p : Nums) : IC := (.region (Jqae p) [])
@[simp] theorem Jea5 {p : Nums} : EqI (Jqa5 p) (.region (Jqae p) []) := eqi
@[simp] def Jqaf (p : Nums) : List IOp := [qo 5 (.asg (ci 0))]
def Jqa6 (p : Nums) : IC := (.region (Jqaf p) [])
@[simp] theorem Jea6 {p : Nums} : EqI (Jqa6 p) (.region (Jqaf p) []) := eqi
def Jqa7 (p : Nums) : IC := (.seq (.region [⟨(some 4), (.asg (.c (.d (.int .i64 15)))), none, false⟩] []) .ret)
@[simp] theorem Jea7 {p : Nums} : EqI (Jqa7 p) (.seq (.region [⟨(some 4), (.asg (.c (.d (.int .i64 15)))), none, false⟩] []) .ret) := eqi
def Jq9x (p : Nums) : IC := (.seq (Jqa1 p) (.seq (.seq (Jqa2 p) (.seq (.region [⟨(some 22), (.mov (.t 8)), none, false⟩, ⟨(some 23), (.bin .neq (.t 22) (.c (.d (.int .i64 0)))), none, false⟩] []) (.cond (.t 23) (Jqa3 p) .skip))) (.seq (Jqa4 p) (.seq (.seq (Jqa5 p) (.cond (.t 29) (Jqa6 p) .skip)) (.seq (.region [⟨(some 30), (.mov (.t 5)), none, false⟩, ⟨(some 31), (.bin .gtr (.t 30) (.c (.d (.int .i64 64)))), none, false⟩] []) (.cond (.t 31) (Jqa7 p) .skip))))))
@[simp] theorem Je9x {p : Nums} : EqI (Jq9x p) (.seq (Jqa1 p) (.seq (.seq (Jqa2 p) (.seq (.region [⟨(some 22), (.mov (.t 8)), none, false⟩, ⟨(some 23), (.bin .neq (.t 22) (.c (.d (.int .i64 0)))), none, false⟩] []) (.cond (.t 23) (Jqa3 p) .skip))) (.seq (Jqa4 p) (.seq (.seq (Jqa5 p) (.cond (.t 29) (Jqa6 p) .skip)) (.seq (.region [⟨(some 30), (.mov (.t 5)), none, false⟩, ⟨(some 31), (.bin .gtr (.t 30) (.c (.d (.int .i64 64)))), none, false⟩] []) (.cond (.t 31) (Jqa7 p) .skip)))))) := eqi
def Jq9y (p : Nums) : IC := (.seq (.region [⟨(some 13), (.bin .lss (.t 12) (.t 11)), none, false⟩] []) (.seq (.cond (.t 13) .skip (.exit 0)) (.seq (.block 1 (Jq9x p)) (.region [⟨(some 32), (.bin .add (.t 12) (.c (.d (.int .i64 1)))), none, false⟩, ⟨(some 12), (.mov (.t 32)), none, false⟩] []))))
@[simp] theorem Je9y {p : Nums} : EqI (Jq9y p) (.seq (.region [⟨(some 13), (.bin .lss (.t 12) (.t 11)), none, false⟩] []) (.seq (.cond (.t 13) .skip (.exit 0)) (.seq (.block 1 (Jq9x p)) (.region [⟨(some 32), (.bin .add (.t 12) (.c (.d (.int .i64 1)))), none, false⟩, ⟨(some 12), (.mov (.t 32)), none, false⟩] [])))) := eqi
@[simp] def Jqa9 (p : Nums) : List IOp := [qo 33 (.faddr 1 (.t 3)), qo 34 (.load (some 4) (.t 33)), qo 35 (.faddr 1 (.t 2)), qo 36 (.load none (.t 35)), qo 37 (.faddr 3 (.t 2)), qo 38 (.load none (.t 37)), qo 39 (.len (.t 38)), qo 40 (.call p.source_Term [(.t 34), (.t 36), (.t 39)]), qo 4 (.asg (.t 40))]
def Jq9z (p : Nums) : IC := (.region (Jqa9 p) [])
@[simp] theorem Je9z {p : Nums} : EqI (Jq9z p) (.region (Jqa9 p) []) := eqi
def Jtas (p : Nums) : IC := (.seq (Jq9w p) (.seq (.region [⟨(some 5), (.asg (.c (.d (.int .i64 0)))), none, false⟩] []) (.seq (.seq (Jqa0 p) (.block 0 (.loop (Jq9y p)))) (.seq (Jq9z p) .ret))))
@[simp] def Jq7j (p : Nums) : List IOp := [qo 6 (.mov (.t 0)), qo 7 (.len (.t 6)), qo 8 (.mov (ci 0))]
def Jq7f (p : Nums) : IC := (.region (Jq7j p) [])
@[simp] theorem Je7f {p : Nums} : EqI (Jq7f p) (.region (Jq7j p) []) := eqi
@[simp] def Jq7k (p : Nums) : List IOp := [qo 10 (.iaddr 1 (.t 6) (.t 8)), qo 11 (.load none (.t 10)), qo 5 (.asg (.t 11))]
def Jq7g (p : Nums) : IC := (.region (Jq7k p) [])
@[simp] theorem Je7g {p : Nums} : EqI (Jq7g p) (.region (Jq7k p) []) := eqi
@[simp] def Jq7l (p : Nums) : List IOp := [qo 12 (.mov (.t 3)), qo 13 (.mov (.t 5)), qo 14 (.len (.t 13)), qo 15 (.bin .add (.t 12) (.t 14)), qo 3 (.asg (.t 15))]
def Jq7h (p : Nums) : IC := (.region (Jq7l p) [])
@[simp] theorem Je7h {p : Nums} : EqI (Jq7h p) (.region (Jq7l p) []) := eqi
def Jq7i (p : Nums) : IC := (.seq (.region [⟨(some 9), (.bin .lss (.t 8) (.t 7)), none, false⟩] []) (.seq (.cond (.t 9) .skip (.exit 0)) (.seq (.block 1 (.seq (Jq7g p) (Jq7h p))) (.region [⟨(some 16), (.bin .add (.t 8) (.c (.d (.int .i64 1)))), none, false⟩, ⟨(some 8), (.mov (.t 16)), none, false⟩] []))))
@[simp] theorem Je7i {p : Nums} : EqI (Jq7i p) (.seq (.region [⟨(some 9), (.bin .lss (.t 8) (.t 7)), none, false⟩] []) (.seq (.cond (.t 9) .skip (.exit 0)) (.seq (.block 1 (.seq (Jq7g p) (Jq7h p))) (.region [⟨(some 16), (.bin .add (.t 8) (.c (.d (.int .i64 1)))), none, false⟩, ⟨(some 8), (.mov (.t 16)), none, false⟩] [])))) := eqi
def Jtah (p : Nums) : IC := (.seq (.region [⟨(some 2), (.asg (.c (.d (.int .i64 0)))), none, false⟩] []) (.seq (.region [⟨(some 3), (.asg (.c (.d (.int .i64 0)))), none, false⟩] []) (.seq (.seq (Jq7f p) (.block 0 (.loop (Jq7i p)))) (.seq (.region [⟨(some 17), (.mov (.t 3)), none, false⟩, ⟨(some 2), (.asg (.t 17)), none, false⟩] []) .ret))))
@[simp] def Jq7a (p : Nums) : List IOp := [qo 11 (.mov (.t 0)), qo 12 (.len (.t 11)), qo 13 (.mov (ci 0))]
def Jq6y (p : Nums) : IC := (.region (Jq7a p) [])
@[simp] theorem Je6y {p : Nums} : EqI (Jq6y p) (.region (Jq7a p) []) := eqi
@[simp] def Jq7b (p : Nums) : List IOp := [qo 15 (.mov (.t 13)), qo 16 (.iaddr 2 (.t 11) (.t 13)), qo 17 (.load (some 2) (.t 16)), qo 10 (.alloc [(zi 0), (zi 0)]), qo 9 (.asg (.t 15)), qn (.store 2 (.t 10) (.t 17))]
def Jq72 (p : Nums) : IC := (.region (Jq7b p) [])
@[simp] theorem Je72 {p : Nums} : EqI (Jq72 p) (.region (Jq7b p) []) := eqi
@[simp] def Jq7c (p : Nums) : List IOp := [qo 19 (.faddr 0 (.t 10)), qo 20 (.load none (.t 19)), qo 21 (.bin .lss (.t 20) (ci 0)), qo 22 (.mov (.t 21)), ⟨(some 23), (.faddr 0 (.t 10)), (some (22, false)), false⟩, ⟨(some 24), (.load none (.t 23)), (some (22, false)), false⟩, ⟨(some 25), (.mov (.t 1)), (some (22, false)), false⟩, ⟨(some 26), (.bin .geq (.t 24) (.t 25)), (some (22, false)), false⟩, qo 27 (.pick (.t 22) (.c (.d (.bool true))) (.t 26)), qo 18 (.asg (.t 27))]
def Jq73 (p : Nums) : IC := (.region (Jq7c p) [])
@[simp] theorem Je73 {p : Nums} : EqI (Jq73 p) (.region (Jq7c p) []) := eqi
@[simp] def Jq7d (p : Nums) : List IOp := [qo 29 (.faddr 1 (.t 10)), qo 30 (.load none (.t 29)), qo 31 (.mov (.t 2)), qo 32 (.mov (.t 3)), qo 33 (.call p.location_InRange [(.t 30), (.t 31), (.t 32)]), qo 34 (.un .not (.t 33)), qo 28 (.asg (.t 34))]
def Jq74 (p : Nums) : IC := (.region (Jq7d p) [])
@[simp] theorem Je74 {p : Nums} : EqI (Jq74 p) (.region (Jq7d p) []) := eqi
@[simp] def Jq7e (p : Nums) : List IOp := [qo 36 (.mov (.t 9)), qo 37 (.bin .gtr (.t 36) (ci 0)), qo 38 (.mov (.t 37)), ⟨(some 39), (.mov (.t 0)), (some (38, true)), true⟩, ⟨(some 40), (.mov (.t 9)), (some (38, true)), true⟩, ⟨(some 41), (.bin .sub (.t 40) (ci 1)), (some (38, true)), true⟩, ⟨(some 42), (.iaddr 2 (.t 39) (.t 41)), (some (38, true)), true⟩, ⟨(some 43), (.load (some 2) (.t 42)), (some (38, true)), true⟩, ⟨(some 44), (.load (some 2) (.t 10)), (some (38, true)), true⟩, ⟨(some 45), (.call p.pairset_Less [(.t 43), (.t 44)]), (some (38, true)), false⟩, ⟨(some 46), (.un .not (.t 45)), (some (38, true)), false⟩, qo 47 (.pick (.t 38) (.t 46) (.c (.d (.bool false)))), qo 35 (.asg (.t 47))]
def Jq75 (p : Nums) : IC := (.region (Jq7e p) [])
@[simp] theorem Je75 {p : Nums} : EqI (Jq75 p) (.region (Jq7e p) []) := eqi
def Jq76 (p : Nums) : IC := (.seq (.region [⟨(some 8), (.asg (.c (.d (.int .i64 13)))), none, false⟩] []) .ret)
@[simp] theorem Je76 {p : Nums} : EqI (Jq76 p) (.seq (.region [⟨(some 8), (.asg (.c (.d (.int .i64 13)))), none, false⟩] []) .ret) := eqi
def Jq77 (p : Nums) : IC := (.seq (.region [⟨(some 8), (.asg (.c (.d (.int .i64 10)))), none, false⟩] []) .ret)
@[simp] theorem Je77 {p : Nums} : EqI (Jq77 p) (.seq (.region [⟨(some 8), (.asg (.c (.d (.int .i64 10)))), none, false⟩] []) .ret) := eqi
def Jq78 (p : Nums) : IC := (.seq (Jq75 p) (.cond (.t 35) (Jq76 p) .skip))
@[simp] theorem Je78 {p : Nums} : EqI (Jq78 p) (.seq (Jq75 p) (.cond (.t 35) (Jq76 p) .skip)) := eqi
def Jq79 (p : Nums) : IC := (.seq (.region [⟨(some 8), (.asg (.c (.d (.int .i64 9)))), none, false⟩] []) .ret)
@[simp] theorem Je79 {p : Nums} : EqI (Jq79 p) (.seq (.region [⟨(some 8), (.asg (.c (.d (.int .i64 9)))), none, false⟩] []) .ret) := eqi
def Jq6z (p : Nums) : IC := (.seq (Jq74 p) (.cond (.t 28) (Jq77 p) (Jq78 p)))
@[simp] theorem Je6z {p : Nums} : EqI (Jq6z p) (.seq (Jq74 p) (.cond (.t 28) (Jq77 p) (Jq78 p))) := eqi
def Jq70 (p : Nums) : IC := (.seq (Jq73 p) (.cond (.t 18) (Jq79 p) (Jq6z p)))
@[simp] theorem Je70 {p : Nums} : EqI (Jq70 p) (.seq (Jq73 p) (.cond (.t 18) (Jq79 p) (Jq6z p))) := eqi
def Jq71 (p : Nums) : IC := (.seq (.region [⟨(some 14), (.bin .lss (.t 13) (.t 12)), none, false⟩] []) (.seq (.cond (.t 14) .skip (.exit 0)) (.seq (.block 1 (.seq (Jq72 p) (.block 2 (Jq70 p)))) (.region [⟨(some 48), (.bin .add (.t 13) (.c (.d (.int .i64 1)))), none, false⟩, ⟨(some 13), (.mov (.t 48)), none, false⟩] []))))
@[simp] theorem Je71 {p : Nums} : EqI (Jq71 p) (.seq (.region [⟨(some 14), (.bin .lss (.t 13) (.t 12)), none, false⟩] []) (.seq (.cond (.t 14) .skip (.exit 0)) (.seq (.block 1 (.seq (Jq72 p) (.block 2 (Jq70 p)))) (.region [⟨(some 48), (.bin .add (.t 13) (.c (.d (.int .i64 1)))), none, false⟩, ⟨(some 13), (.mov (.t 48)), none, false⟩] [])))) := eqi
def Jtag (p : Nums) : IC := (.seq (.region [⟨(some 8), (.asg (.c (.d (.int .i64 0)))), none, false⟩] []) (.seq (.seq (Jq6y p) (.block 0 (.loop (Jq71 p)))) (.seq (.region [⟨(some 8), (.asg (.c (.d (.int .i64 0)))), none, false⟩] []) .ret)))
@[simp] def Jqjm (p : Nums) : List IOp := [qo 8 (.faddr 0 (.t 3)), qo 9 (.load none (.t 8)), qo 10 (.bin .lss (.t 9) (ci 1)), qo 11 (.mov (.t 10)), ⟨(some 12), (.faddr 0 (.t 3)), (some (11, false)), false⟩, ⟨(some 13), (.load none (.t 12)), (some (11, false)), false⟩, ⟨(some 14), (.bin .gtr (.t 13) (ci 18)), (some (11, false)), false⟩, qo 15 (.pick (.t 11) (.c (.d (.bool true))) (.t 14)), qo 16 (.mov (.t 15)), ⟨(some 17), (.faddr 0 (.t 3)), (some (16, false)), false⟩, ⟨(some 18), (.load none (.t 17)), (some (16, false)), false⟩, ⟨(some 19), (.bin .eql (.t 18) (ci 2)), (some (16, false)), false⟩, qo 20 (.pick (.t 16) (.c (.d (.bool true))) (.t 19))]
def Jqjb (p : Nums) : IC := (.region (Jqjm p) [])
@[simp] theorem Jejb {p : Nums} : EqI (Jqjb p) (.region (Jqjm p) []) := eqi
def Jqje (p : Nums) : IC := (.seq (.region [⟨(some 6), (.asg (.c (.d (.int .i64 8)))), none, false⟩] []) .ret)
@[simp] theorem Jeje {p : Nums} : EqI (Jqje p) (.seq (.region [⟨(some 6), (.asg (.c (.d (.int .i64 8)))), none, false⟩] []) .ret) := eqi
@[simp] def Jqjo (p : Nums) : List IOp := [qo 21 (.faddr 0 (.t 3)), qo 22 (.load none (.t 21)), qo 23 (.bin .eql (.t 22) (ci 18))]
def Jqjf (p : Nums) : IC := (.region (Jqjo p) [])
@[simp] theorem Jejf {p : Nums} : EqI (Jqjf p) (.region (Jqjo p) []) := eqi
@[simp] def Jqjp (p : Nums) : List IOp := [qo 24 (.faddr 5 (.t 3)), qo 25 (.load none (.t 24)), qo 26 (.mov (.t 1)), qo 27 (.mov (.t 2)), qo 28 (.call p.ref04_InRange [(.t 25), (.t 26), (.t 27)]), qo 29 (.un .not (.t 28)), qo 30 (.mov (.t 29)), ⟨(some 31), (.faddr 6 (.t 3)), (some (30, false)), false⟩, ⟨(some 32), (.load none (.t 31)), (some (30, false)), false⟩, ⟨(some 33), (.mov (.t 1)), (some (30, false)), false⟩, ⟨(some 34), (.mov (.t 2)), (some (30, false)), false⟩, ⟨(some 35), (.call p.ref04_InRange [(.t 32), (.t 33), (.t 34)]), (some (30, false)), false⟩, ⟨(some 36), (.un .not (.t 35)), (some (30, false)), false⟩, qo 37 (.pick (.t 30) (.c (.d (.bool true))) (.t 36)), qo 38 (.mov (.t 37)), ⟨(some 39), (.faddr 5 (.t 3)), (some (38, false)), false⟩, ⟨(some 40), (.load none (.t 39)), (some (38, false)), false⟩, ⟨(some 41), (.bin .rem (.t 40) (ci 2)), (some (38, false)), false⟩, ⟨(some 42), (.bin .eql (.t 41) (ci 1)), (some (38, false)), false⟩, ⟨(some 43), (.mov (.t 42)), (some (38, false)), false⟩, ⟨(some 44), (.faddr 6 (.t 3)), (some (43, true)), false⟩, ⟨(some 45), (.load none (.t 44)), (some (43, true)), false⟩, ⟨(some 46), (.bin .rem (.t 45) (ci 2)), (some (43, true)), false⟩, ⟨(some 47), (.bin .eql (.t 46) (ci 1)), (some (43, true)), false⟩, ⟨(some 48), (.pick (.t 43) (.t 47) (.c (.d (.bool false)))), (some (38, false)), false⟩, qo 49 (.pick (.t 38) (.c (.d (.bool true))) (.t 48))]
def Jqjg (p : Nums) : IC := (.region (Jqjp p) [])
@[simp] theorem Jejg {p : Nums} : EqI (Jqjg p) (.region (Jqjp p) []) := eqi
def Jqjh (p : Nums) : IC := (.seq (.region [⟨(some 6), (.asg (.c (.d (.int .i64 10)))), none, false⟩] []) .ret)
@[simp] theorem Jejh {p : Nums} : EqI (Jqjh p) (.seq (.region [⟨(some 6), (.asg (.c (.d (.int .i64 10)))), none, false⟩] []) .ret) := eqi
@[simp] def Jqjq (p : Nums) : List IOp := [qo 50 (.faddr 1 (.t 3)), qo 51 (.load none (.t 50)), qo 52 (.bin .neq (.t 51) (ci 0)), qo 53 (.mov (.t 52)), ⟨(some 54), (.faddr 2 (.t 3)), (some (53, false)), false⟩, ⟨(some 55), (.load none (.t 54)), (some (53, false)), false⟩, ⟨(some 56), (.bin .neq (.t 55) (ci 0)), (some (53, false)), false⟩, qo 57 (.pick (.t 53) (.c (.d (.bool true))) (.t 56)), qo 58 (.mov (.t 57)), ⟨(some 59), (.faddr 3 (.t 3)), (some (58, false)), false⟩, ⟨(some 60), (.load none (.t 59)), (some (58, false)), false⟩, ⟨(some 61), (.bin .neq (.t 60) (ci 0)), (some (58, false)), false⟩, qo 62 (.pick (.t 58) (.c (.d (.bool true))) (.t 61)), qo 63 (.mov (.t 62)), ⟨(some 64), (.faddr 4 (.t 3)), (some (63, false)), false⟩, ⟨(some 65), (.load none (.t 64)), (some (63, false)), false⟩, ⟨(some 66), (.bin .neq (.t 65) (ci 0)), (some (63, false)), false⟩, qo 67 (.pick (.t 63) (.c (.d (.bool true))) (.t 66))]
def Jqji (p : Nums) : IC := (.region (Jqjq p) [])
@[simp] theorem Jeji {p : Nums} : EqI (Jqji p) (.region (Jqjq p) []) := eqi
def Jqjj (p : Nums) : IC := (.seq (.region [⟨(some 6), (.asg (.c (.d (.int .i64 12)))), none, false⟩] []) .ret)
@[simp] theorem Jejj {p : Nums} : EqI (Jqjj p) (.seq (.region [⟨(some 6), (.asg (.c (.d (.int .i64 12)))), none, false⟩] []) .ret) := eqi
def Jqjk (p : Nums) : IC := (.seq (.seq (Jqjg p) (.cond (.t 49) (Jqjh p) .skip)) (.seq (.seq (Jqji p) (.cond (.t 67) (Jqjj p) .skip)) (.seq (.region [⟨(some 6), (.asg (.c (.d (.int .i64 0)))), none, false⟩] []) .ret)))
@[simp] theorem Jejk {p : Nums} : EqI (Jqjk p) (.seq (.seq (Jqjg p) (.cond (.t 49) (Jqjh p) .skip)) (.seq (.seq (Jqji p) (.cond (.t 67) (Jqjj p) .skip)) (.seq (.region [⟨(some 6), (.asg (.c (.d (.int .i64 0)))), none, false⟩] []) .ret))) := eqi
@[simp] def Jqjr (p : Nums) : List IOp := [qo 68 (.faddr 0 (.t 3)), qo 69 (.load none (.t 68)), qo 70 (.faddr 1 (.t 3)), qo 71 (.load none (.t 70)), qo 72 (.faddr 2 (.t 3)), qo 73 (.load none (.t 72)), qo 74 (.faddr 3 (.t 3)), qo 75 (.load none (.t 74)), qo 76 (.faddr 4 (.t 3)), qo 77 (.load none (.t 76)), qo 78 (.build [(zi 0), (zi 0), (zi 0), (zi 0), (zi 0)] [(0, 1, (.t 69)), (1, 1, (.t 71)), (2, 1, (.t 73)), (3, 1, (.t 75)), (4, 1, (.t 77))]), qo 79 (.mov (.t 1)), qo 80 (.call p.ref07_Instr [(.t 78), (.t 79)]), qo 7 (.asg (.t 80))]
def Jqjl (p : Nums) : IC := (.region (Jqjr p) [])
@[simp] theorem Jejl {p : Nums} : EqI (Jqjl p) (.region (Jqjr p) []) := eqi
@[simp] def Jqjn (p : Nums) : List IOp := [qo 81 (.mov (.t 7)), qo 82 (.bin .eql (.t 81) (ci 0)), qo 83 (.mov (.t 82)), ⟨(some 84), (.faddr 5 (.t 3)), (some (83, true)), false⟩, ⟨(some 85), (.load none (.t 84)), (some (83, true)), false⟩, ⟨(some 86), (.bin .neq (.t 85) (ci 0)), (some (83, true)), false⟩, ⟨(some 87), (.mov (.t 86)), (some (83, true)), false⟩, ⟨(some 88), (.faddr 6 (.t 3)), (some (87, false)), false⟩, ⟨(some 89), (.load none (.t 88)), (some (87, false)), false⟩, ⟨(some 90), (.bin .neq (.t 89) (ci 0)), (some (87, false)), false⟩, ⟨(some 91), (.pick (.t 87) (.c (.d (.bool true))) (.t 90)), (some (83, true)), false⟩, qo 92 (.pick (.t 83) (.t 91) (.c (.d (.bool false))))]
def Jqjc (p : Nums) : IC := (.region (Jqjn p) [])
@[simp] theorem Jejc {p : Nums} : EqI (Jqjc p) (.region (Jqjn p) []) := eqi
def Jqjd (p : Nums) : IC := (.seq (.region [⟨(some 6), (.asg (.c (.d (.int .i64 12)))), none, false⟩] []) .ret)
@[simp] theorem Jejd {p : Nums} : EqI (Jqjd p) (.seq (.region [⟨(some 6), (.asg (.c (.d (.int .i64 12)))), none, false⟩] []) .ret) := eqi
def Jtbt (p : Nums) : IC := (.seq (.region [⟨(some 3), (.box (.t 0)), none, false⟩, ⟨(some 6), (.asg (.c (.d (.int .i64 0)))), none, false⟩] []) (.seq (.seq (Jqjb p) (.cond (.t 20) (Jqje p) .skip)) (.seq (.seq (Jqjf p) (.cond (.t 23) (Jqjk p) .skip)) (.seq (Jqjl p) (.seq (.seq (Jqjc p) (.cond (.t 92) (Jqjd p) .skip)) (.seq (.region [⟨(some 93), (.mov (.t 7)), none, false⟩, ⟨(some 6), (.asg (.t 93)), none, false⟩] []) .ret))))))
@[simp] def Jqk1 (p : Nums) : List IOp := [qo 6 (.mov (.t 4)), qo 7 (.mov (.t 0)), qo 8 (.len (.t 7)), qo 9 (.bin .lss (.t 6) (.t 8))]
def Jqjs (p : Nums) : IC := (.region (Jqk1 p) [])
@[simp] theorem Jejs {p : Nums} : EqI (Jqjs p) (.region (Jqk1 p) []) := eqi
@[simp] def Jqk2 (p : Nums) : List IOp := [qo 12 (.mov (.t 4)), qo 13 (.mov (.t 5)), qo 14 (.bin .add (.t 12) (.t 13)), qo 15 (.mov (.t 0)), qo 16 (.len (.t 15)), qo 17 (.bin .lss (.t 14) (.t 16)), qo 18 (.mov (.t 17)), ⟨(some 19), (.mov (.t 0)), (some (18, true)), false⟩, ⟨(some 20), (.mov (.t 4)), (some (18, true)), false⟩, ⟨(some 21), (.mov (.t 5)), (some (18, true)), false⟩, ⟨(some 22), (.bin .add (.t 20) (.t 21)), (some (18, true)), false⟩, ⟨(some 23), (.iaddr 7 (.t 19) (.t 22)), (some (18, true)), false⟩, ⟨(some 24), (.faddr 0 (.t 23)), (some (18, true)), false⟩, ⟨(some 25), (.load none (.t 24)), (some (18, true)), false⟩, ⟨(some 26), (.bin .eql (.t 25) (ci 18)), (some (18, true)), false⟩, qo 27 (.pick (.t 18) (.t 26) (.c (.d (.bool false))))]
def Jqjt (p : Nums) : IC := (.region (Jqk2 p) [])
@[simp] theorem Jejt {p : Nums} : EqI (Jqjt p) (.region (Jqk2 p) []) := eqi
@[simp] def Jqk3 (p : Nums) : List IOp := [qo 28 (.mov (.t 5)), qo 29 (.bin .add (.t 28) (ci 1)), qo 5 (.asg (.t 29))]
def Jqju (p : Nums) : IC := (.region (Jqk3 p) [])
@[simp] theorem Jeju {p : Nums} : EqI (Jqju p) (.region (Jqk3 p) []) := eqi
def Jqjv (p : Nums) : IC := (.seq (.seq (Jqjt p) (.cond (.t 27) .skip (.exit 2))) (.block 3 (Jqju p)))
@[simp] theorem Jejv {p : Nums} : EqI (Jqjv p) (.seq (.seq (Jqjt p) (.cond (.t 27) .skip (.exit 2))) (.block 3 (Jqju p))) := eqi
@[simp] def Jqk4 (p : Nums) : List IOp := [qo 30 (.mov (.t 5)), qo 31 (.mov (.t 3)), qo 32 (.bin .gtr (.t 30) (.t 31))]
def Jqjw (p : Nums) : IC := (.region (Jqk4 p) [])
@[simp] theorem Jejw {p : Nums} : EqI (Jqjw p) (.region (Jqk4 p) []) := eqi
@[simp] def Jqk5 (p : Nums) : List IOp := [qo 33 (.mov (.t 5)), qo 3 (.asg (.t 33))]
def Jqjx (p : Nums) : IC := (.region (Jqk5 p) [])
@[simp] theorem Jejx {p : Nums} : EqI (Jqjx p) (.region (Jqk5 p) []) := eqi
def Jqjy (p : Nums) : IC := (.seq (.region [⟨(some 5), (.asg (.c (.d (.int .i64 0)))), none, false⟩] []) (.seq (.block 2 (.loop (Jqjv p))) (.seq (Jqjw p) (.cond (.t 32) (Jqjx p) .skip))))
@[simp] theorem Jejy {p : Nums} : EqI (Jqjy p) (.seq (.region [⟨(some 5), (.asg (.c (.d (.int .i64 0)))), none, false⟩] []) (.seq (.block 2 (.loop (Jqjv p))) (.seq (Jqjw p) (.cond (.t 32) (Jqjx p) .skip)))) := eqi
@[simp] def Jqk6 (p : Nums) : List IOp := [qo 10 (.mov (.t 4)), qo 11 (.bin .add (.t 10) (ci 1)), qo 4 (.asg (.t 11))]
def Jqjz (p : Nums) : IC := (.region (Jqk6 p) [])
@[simp] theorem Jejz {p : Nums} : EqI (Jqjz p) (.region (Jqk6 p) []) := eqi
def Jqk0 (p : Nums) : IC := (.seq (.seq (Jqjs p) (.cond (.t 9) .skip (.exit 0))) (.seq (.block 1 (Jqjy p)) (Jqjz p)))
@[simp] theorem Jek0 {p : Nums} : EqI (Jqk0 p) (.seq (.seq (Jqjs p) (.cond (.t 9) .skip (.exit 0))) (.seq (.block 1 (Jqjy p)) (Jqjz p))) := eqi
def Jtbu (p : Nums) : IC := (.seq (.region [⟨(some 2), (.asg (.c (.d (.int .i64 0)))), none, false⟩] []) (.seq (.region [⟨(some 3), (.asg (.c (.d (.int .i64 0)))), none, false⟩] []) (.seq (.seq (.region [⟨(some 4), (.asg (.c (.d (.int .i64 0)))), none, false⟩] []) (.block 0 (.loop (Jqk0 p)))) (.seq (.region [⟨(some 34), (.mov (.t 3)), none, false⟩, ⟨(some 2), (.asg (.t 34)), none, false⟩] []) .ret))))
def Jqek (p : Nums) : IC := (.seq (.region [⟨(some 6), (.asg (.c (.d (.bool false)))), none, false⟩] []) .ret)
@[simp] theorem Jeek {p : Nums} : EqI (Jqek p) (.seq (.region [⟨(some 6), (.asg (.c (.d (.bool false)))), none, false⟩] []) .ret) := eqi
@[simp] def Jqeo (p : Nums) : List IOp := [qo 9 (.mov (.t 0)), qo 10 (.bin .rem (.t 9) (ci 2)), qo 11 (.bin .eql (.t 10) (ci 1))]
def Jqel (p : Nums) : IC := (.region (Jqeo p) [])
@[simp] theorem Jeel {p : Nums} : EqI (Jqel p) (.region (Jqeo p) []) := eqi
@[simp] def Jqep (p : Nums) : List IOp := [qo 12 (.mov (.t 0)), qo 13 (.bin .quo (.t 12) (ci 2)), qo 14 (.mov (.t 2)), qo 15 (.bin .lss (.t 13) (.t 14)), qo 6 (.asg (.t 15))]
def Jqem (p : Nums) : IC := (.region (Jqep p) [])
@[simp] theorem Jeem {p : Nums} : EqI (Jqem p) (.region (Jqep p) []) := eqi
@[simp] def Jqeq (p : Nums) : List IOp := [qo 16 (.mov (.t 0)), qo 17 (.bin .quo (.t 16) (ci 2)), qo 18 (.mov (.t 1)), qo 19 (.bin .lss (.t 17) (.t 18)), qo 6 (.asg (.t 19))]
def Jqen (p : Nums) : IC := (.region (Jqeq p) [])
@[simp] theorem Jeen {p : Nums} : EqI (Jqen p) (.region (Jqeq p) []) := eqi
def Jtbf (p : Nums) : IC := (.seq (.region [⟨(some 6), (.asg (.c (.d (.bool false)))), none, false⟩] []) (.seq (.seq (.region [⟨(some 7), (.mov (.t 0)), none, false⟩, ⟨(some 8), (.bin .lss (.t 7) (.c (.d (.int .i64 0)))), none, false⟩] []) (.cond (.t 8) (Jqek p) .skip)) (.seq (.seq (Jqel p) (.cond (.t 11) (.seq (Jqem p) .ret) .skip)) (.seq (Jqen p) .ret))))
@[simp] def Jql1 (p : Nums) : List IOp := [qo 2 (.box (.t 0)), qo 3 (.box (.t 1)), qo 4 (.asg (.c (.d (.bool false))))]
def Jqkx (p : Nums) : IC := (.region (Jql1 p) [])
@[simp] theorem Jekx {p : Nums} : EqI (Jqkx p) (.region (Jql1 p) []) := eqi
@[simp] def Jql2 (p : Nums) : List IOp := [qo 5 (.faddr 0 (.t 2)), qo 6 (.load none (.t 5)), qo 7 (.faddr 0 (.t 3)), qo 8 (.load none (.t 7)), qo 9 (.bin .neq (.t 6) (.t 8))]
def Jqky (p : Nums) : IC := (.region (Jql2 p) [])
@[simp] theorem Jeky {p : Nums} : EqI (Jqky p) (.region (Jql2 p) []) := eqi
@[simp] def Jql3 (p : Nums) : List IOp := [qo 10 (.faddr 0 (.t 2)), qo 11 (.load none (.t 10)), qo 12 (.faddr 0 (.t 3)), qo 13 (.load none (.t 12)), qo 14 (.bin .lss (.t 11) (.t 13)), qo 4 (.asg (.t 14))]
def Jqkz (p : Nums) : IC := (.region (Jql3 p) [])
@[simp] theorem Jekz {p : Nums} : EqI (Jqkz p) (.region (Jql3 p) []) := eqi
@[simp] def Jql4 (p : Nums) : List IOp := [qo 15 (.faddr 1 (.t 2)), qo 16 (.load none (.t 15)), qo 17 (.faddr 1 (.t 3)), qo 18 (.load none (.t 17)), qo 19 (.bin .lss (.t 16) (.t 18)), qo 4 (.asg (.t 19))]
def Jql0 (p : Nums) : IC := (.region (Jql4 p) [])
@[simp] theorem Jel0 {p : Nums} : EqI (Jql0 p) (.region (Jql4 p) []) := eqi
def Jtbx (p : Nums) : IC := (.seq (Jqkx p) (.seq (.seq (Jqky p) (.cond (.t 9) (.seq (Jqkz p) .ret) .skip)) (.seq (Jql0 p) .ret)))
@[simp] def Jq5x (p : Nums) : List IOp := [qo 4 (.alloc [(zi 0), (zi 0)]), qo 5 (.asg (ci 0))]
def Jq5p (p : Nums) : IC := (.region (Jq5x p) [])
@[simp] theorem Je5p {p : Nums} : EqI (Jq5p p) (.region (Jq5x p) []) := eqi
@[simp] def Jq5y (p : Nums) : List IOp := [qo 8 (.mov (.t 0)), qo 9 (.len (.t 8)), qo 10 (.mov (ci 0))]
def Jq5q (p : Nums) : IC := (.region (Jq5y p) [])
@[simp] theorem Je5q {p : Nums} : EqI (Jq5q p) (.region (Jq5y p) []) := eqi
@[simp] def Jq5z (p : Nums) : List IOp := [qo 12 (.iaddr 2 (.t 8) (.t 10)), qo 13 (.load (some 2) (.t 12)), qo 7 (.alloc [(zi 0), (zi 0)]), qn (.store 2 (.t 7) (.t 13))]
def Jq5r (p : Nums) : IC := (.region (Jq5z p) [])
@[simp] theorem Je5r {p : Nums} : EqI (Jq5r p) (.region (Jq5z p) []) := eqi
@[simp] def Jq60 (p : Nums) : List IOp := [qo 14 (.load (some 2) (.t 7)), qo 15 (.mov (.t 1)), qo 16 (.call p.edge_Initial [(.t 14), (.t 15)]), qo 17 (.un .not (.t 16))]
def Jq5s (p : Nums) : IC := (.region (Jq60 p) [])
@[simp] theorem Je5s {p : Nums} : EqI (Jq5s p) (.region (Jq60 p) []) := eqi
@[simp] def Jq61 (p : Nums) : List IOp := [qo 18 (.load (some 2) (.t 7)), qn (.store 2 (.t 4) (.t 18)), qo 5 (.asg (ci 23))]
def Jq5t (p : Nums) : IC := (.region (Jq61 p) [])
@[simp] theorem Je5t {p : Nums} : EqI (Jq5t p) (.region (Jq61 p) []) := eqi
def Jq5u (p : Nums) : IC := (.seq (Jq5r p) (.seq (Jq5s p) (.cond (.t 17) (.seq (Jq5t p) .ret) .skip)))
@[simp] theorem Je5u {p : Nums} : EqI (Jq5u p) (.seq (Jq5r p) (.seq (Jq5s p) (.cond (.t 17) (.seq (Jq5t p) .ret) .skip))) := eqi
def Jq5v (p : Nums) : IC := (.seq (.region [⟨(some 11), (.bin .lss (.t 10) (.t 9)), none, false⟩] []) (.seq (.cond (.t 11) .skip (.exit 0)) (.seq (.block 1 (Jq5u p)) (.region [⟨(some 19), (.bin .add (.t 10) (.c (.d (.int .i64 1)))), none, false⟩, ⟨(some 10), (.mov (.t 19)), none, false⟩] []))))
@[simp] theorem Je5v {p : Nums} : EqI (Jq5v p) (.seq (.region [⟨(some 11), (.bin .lss (.t 10) (.t 9)), none, false⟩] []) (.seq (.cond (.t 11) .skip (.exit 0)) (.seq (.block 1 (Jq5u p)) (.region [⟨(some 19), (.bin .add (.t 10) (.c (.d (.int .i64 1)))), none, false⟩, ⟨(some 10), (.mov (.t 19)), none, false⟩] [])))) := eqi
@[simp] def Jq62 (p : Nums) : List IOp := [qo 20 (.build [(zi 0), (zi 0)] []), qn (.store 2 (.t 4) (.t 20)), qo 5 (.asg (ci 0))]
def Jq5w (p : Nums) : IC := (.region (Jq62 p) [])
@[simp] theorem Je5w {p : Nums} : EqI (Jq5w p) (.region (Jq62 p) []) := eqi
def Jtac (p : Nums) : IC := (.seq (Jq5p p) (.seq (.seq (Jq5q p) (.block 0 (.loop (Jq5v p)))) (.seq (Jq5w p) .ret)))
@[simp] def Jqc (p : Nums) : List IOp := [qo 4 (.asg (.c .nils)), qo 5 (.asg (ci 0)), qo 6 (.asg (ci 0))]
def Jq0 (p : Nums) : IC := (.region (Jqc p) [])
@[simp] theorem Je0 {p : Nums} : EqI (Jq0 p) (.region (Jqc p) []) := eqi
@[simp] def Jqf (p : Nums) : List IOp := [qo 11 (.mov (.t 8)), qo 12 (.mov (.t 0)), qo 13 (.mov (.t 8)), qo 14 (.call p.align_skip_Instr [(.t 12), (.t 13), (.c (.fn (.func p.align_copied) [] []))]), qo 15 (.mov (.t 9)), qo 16 (.mov (.t 1)), qo 17 (.mov (.t 9)), qo 18 (.call p.align_skip_Mach [(.t 16), (.t 17), (.c (.fn (.func p.align_moved) [] []))]), qo 19 (.build [(zi 0), (zi 0), (zi 0), (zi 0), (zi 0), (zi 0)] [(0, 1, (.t 11)), (1, 1, (.t 14)), (2, 1, (.t 15)), (3, 1, (.t 18))]), qo 10 (.alloc [(zi 0), (zi 0), (zi 0), (zi 0), (zi 0), (zi 0)]), qn (.store 6 (.t 10) (.t 19))]
def Jq4 (p : Nums) : IC := (.region (Jqf p) [])
@[simp] theorem Je4 {p : Nums} : EqI (Jq4 p) (.region (Jqf p) []) := eqi
@[simp] def Jqg (p : Nums) : List IOp := [qp 20 (.faddr 1 (.t 10)), qp 21 (.load none (.t 20)), qp 22 (.faddr 3 (.t 10)), qp 23 (.load none (.t 22)), qp 8 (.asg (.t 21)), qo 9 (.asg (.t 23))]
def Jq5 (p : Nums) : IC := (.region (Jqg p) [])
@[simp] theorem Je5 {p : Nums} : EqI (Jq5 p) (.region (Jqg p) []) := eqi
@[simp] def Jqh (p : Nums) : List IOp := [qo 24 (.mov (.t 8)), qo 25 (.mov (.t 0)), qo 26 (.len (.t 25)), qo 27 (.bin .eql (.t 24) (.t 26)), qo 28 (.mov (.t 27)), ⟨(some 29), (.mov (.t 9)), (some (28, true)), false⟩, ⟨(some 30), (.mov (.t 1)), (some (28, true)), false⟩, ⟨(some 31), (.len (.t 30)), (some (28, true)), false⟩, ⟨(some 32), (.bin .eql (.t 29) (.t 31)), (some (28, true)), false⟩, qo 33 (.pick (.t 28) (.t 32) (.c (.d (.bool false))))]
def Jq6 (p : Nums) : IC := (.region (Jqh p) [])
@[simp] theorem Je6 {p : Nums} : EqI (Jq6 p) (.region (Jqh p) []) := eqi
@[simp] def Jqi (p : Nums) : List IOp := [qo 34 (.faddr 4 (.t 10)), qn (.store 1 (.t 34) (ci (-1))), qo 35 (.faddr 5 (.t 10)), qn (.store 1 (.t 35) (ci (-1)))]
def Jq7 (p : Nums) : IC := (.region (Jqi p) [])
@[simp] theorem Je7 {p : Nums} : EqI (Jq7 p) (.region (Jqi p) []) := eqi
@[simp] def Jqj (p : Nums) : List IOp := [qo 36 (.mov (.t 7)), qo 37 (.load (some 6) (.t 10)), qo 38 (.bslice 6 1 [(.int .i64 0), (.int .i64 0), (.int .i64 0), (.int .i64 0), (.int .i64 0), (.int .i64 0)] [(0, (.t 37))]), qo 39 (.app 6 48 (.t 36) (.t 38)), qo 40 (.mov (.t 9)), qo 4 (.asg (.t 39)), qo 5 (.asg (.t 40)), qo 6 (.asg (ci 0))]
def Jq8 (p : Nums) : IC := (.region (Jqj p) [])
@[simp] theorem Je8 {p : Nums} : EqI (Jq8 p) (.region (Jqj p) []) := eqi
@[simp] def Jqk (p : Nums) : List IOp := [qp 41 (.mov (.t 8)), qp 42 (.mov (.t 0)), qp 43 (.len (.t 42)), qo 44 (.bin .eql (.t 41) (.t 43)), qo 45 (.mov (.t 44)), ⟨(some 46), (.mov (.t 9)), (some (45, false)), true⟩, ⟨(some 47), (.mov (.t 1)), (some (45, false)), true⟩, ⟨(some 48), (.len (.t 47)), (some (45, false)), true⟩, ⟨(some 49), (.bin .eql (.t 46) (.t 48)), (some (45, false)), false⟩, qo 50 (.pick (.t 45) (.c (.d (.bool true))) (.t 49)), qo 51 (.mov (.t 50)), ⟨(some 52), (.mov (.t 0)), (some (51, false)), true⟩, ⟨(some 53), (.mov (.t 8)), (some (51, false)), true⟩, ⟨(some 54), (.iaddr 5 (.t 52) (.t 53)), (some (51, false)), true⟩, ⟨(some 55), (.load (some 5) (.t 54)), (some (51, false)), true⟩, ⟨(some 56), (.mov (.t 1)), (some (51, false)), true⟩, ⟨(some 57), (.mov (.t 9)), (some (51, false)), true⟩, ⟨(some 58), (.iaddr 7 (.t 56) (.t 57)), (some (51, false)), true⟩, ⟨(some 59), (.load (some 7) (.t 58)), (some (51, false)), true⟩, ⟨(some 60), (.call p.align_Same [(.t 55), (.t 59)]), (some (51, false)), false⟩, ⟨(some 61), (.un .not (.t 60)), (some (51, false)), false⟩, qo 62 (.pick (.t 51) (.c (.d (.bool true))) (.t 61))]
def Jq9 (p : Nums) : IC := (.region (Jqk p) [])
@[simp] theorem Je9 {p : Nums} : EqI (Jq9 p) (.region (Jqk p) []) := eqi
@[simp] def Jql (p : Nums) : List IOp := [qo 63 (.mov (.t 9)), qo 4 (.asg (.c .nils)), qo 5 (.asg (.t 63)), qo 6 (.asg (ci 20))]
def Jqa (p : Nums) : IC := (.region (Jql p) [])
@[simp] theorem Jea {p : Nums} : EqI (Jqa p) (.region (Jql p) []) := eqi
@[simp] def Jqm (p : Nums) : List IOp := [qo 64 (.mov (.t 8)), qo 65 (.mov (.t 9)), qo 66 (.faddr 4 (.t 10)), qn (.store 1 (.t 66) (.t 64)), qo 67 (.faddr 5 (.t 10)), qn (.store 1 (.t 67) (.t 65))]
def Jqb (p : Nums) : IC := (.region (Jqm p) [])
@[simp] theorem Jeb {p : Nums} : EqI (Jqb p) (.region (Jqm p) []) := eqi
@[simp] def Jqd (p : Nums) : List IOp := [qo 68 (.mov (.t 7)), qo 69 (.load (some 6) (.t 10)), qo 70 (.bslice 6 1 [(.int .i64 0), (.int .i64 0), (.int .i64 0), (.int .i64 0), (.int .i64 0), (.int .i64 0)] [(0, (.t 69))]), qo 71 (.app 6 48 (.t 68) (.t 70)), qo 7 (.asg (.t 71))]
def Jq1 (p : Nums) : IC := (.region (Jqd p) [])
@[simp] theorem Je1 {p : Nums} : EqI (Jq1 p) (.region (Jqd p) []) := eqi
@[simp] def Jqe (p : Nums) : List IOp := [qo 72 (.mov (.t 8)), qo 73 (.bin .add (.t 72) (ci 1)), qo 74 (.mov (.t 9)), qo 75 (.bin .add (.t 74) (ci 1)), qo 8 (.asg (.t 73)), qo 9 (.asg (.t 75))]
def Jq2 (p : Nums) : IC := (.region (Jqe p) [])
@[simp] theorem Je2 {p : Nums} : EqI (Jq2 p) (.region (Jqe p) []) := eqi
def Jq3 (p : Nums) : IC := (.seq (Jq4 p) (.seq (Jq5 p) (.seq (.seq (Jq6 p) (.cond (.t 33) (.seq (Jq7 p) (.seq (Jq8 p) .ret)) .skip)) (.seq (.seq (Jq9 p) (.cond (.t 62) (.seq (Jqa p) .ret) .skip)) (.seq (Jqb p) (.seq (Jq1 p) (Jq2 p)))))))
@[simp] theorem Je3 {p : Nums} : EqI (Jq3 p) (.seq (Jq4 p) (.seq (Jq5 p) (.seq (.seq (Jq6 p) (.cond (.t 33) (.seq (Jq7 p) (.seq (Jq8 p) .ret)) .skip)) (.seq (.seq (Jq9 p) (.cond (.t 62) (.seq (Jqa p) .ret) .skip)) (.seq (Jqb p) (.seq (Jq1 p) (Jq2 p))))))) := eqi
def Jt9s (p : Nums) : IC := (.seq (Jq0 p) (.seq (.region [⟨(some 7), (.asg (.c .nils)), none, false⟩] []) (.seq (.region [⟨(some 8), (.asg (.c (.d (.int .i64 0)))), none, false⟩, ⟨(some 9), (.asg (.c (.d (.int .i64 0)))), none, false⟩] []) (.block 0 (.loop (.block 1 (Jq3 p)))))))
@[simp] def Jqt (p : Nums) : List IOp := [qo 2 (.box (.t 0)), qo 3 (.box (.t 1)), qo 4 (.asg (.c (.d (.bool false))))]
def Jqr (p : Nums) : IC := (.region (Jqt p) [])
@[simp] theorem Jer {p : Nums} : EqI (Jqr p) (.region (Jqt p) []) := eqi
@[simp] def Jqu (p : Nums) : List IOp := [qo 5 (.faddr 0 (.t 2)), qo 6 (.load none (.t 5)), qo 7 (.faddr 0 (.t 3)), qo 8 (.load none (.t 7)), qo 9 (.bin .eql (.t 6) (.t 8)), qo 10 (.mov (.t 9)), ⟨(some 11), (.faddr 2 (.t 2)), (some (10, true)), false⟩, ⟨(some 12), (.load none (.t 11)), (some (10, true)), false⟩, ⟨(some 13), (.faddr 2 (.t 3)), (some (10, true)), false⟩, ⟨(some 14), (.load none (.t 13)), (some (10, true)), false⟩, ⟨(some 15), (.bin .eql (.t 12) (.t 14)), (some (10, true)), false⟩, qo 16 (.pick (.t 10) (.t 15) (.c (.d (.bool false)))), qo 17 (.mov (.t 16)), ⟨(some 18), (.faddr 3 (.t 2)), (some (17, true)), false⟩, ⟨(some 19), (.load none (.t 18)), (some (17, true)), false⟩, ⟨(some 20), (.faddr 3 (.t 3)), (some (17, true)), false⟩, ⟨(some 21), (.load none (.t 20)), (some (17, true)), false⟩, ⟨(some 22), (.bin .eql (.t 19) (.t 21)), (some (17, true)), false⟩, qo 23 (.pick (.t 17) (.t 22) (.c (.d (.bool false)))), qo 4 (.asg (.t 23))]
def Jqs (p : Nums) : IC := (.region (Jqu p) [])
@[simp] theorem Jes {p : Nums} : EqI (Jqs p) (.region (Jqu p) []) := eqi
def Jt9u (p : Nums) : IC := (.seq (Jqr p) (.seq (Jqs p) .ret))
@[simp] def Jqck (p : Nums) : List IOp := [qo 4 (.mov (.t 0)), qo 5 (.call p.slices_Clone_Pair [(.t 4)]), qo 3 (.asg (.t 5))]
def Jqch (p : Nums) : IC := (.region (Jqck p) [])
@[simp] theorem Jech {p : Nums} : EqI (Jqch p) (.region (Jqck p) []) := eqi
@[simp] def Jqcl (p : Nums) : List IOp := [qo 6 (.mov (.t 3)), qo 7 (.call p.slices_SortFunc_Pair [(.t 6), (.c (.fn (.func p.pairset_compare) [] []))])]
def Jqci (p : Nums) : IC := (.region (Jqcl p) [])
@[simp] theorem Jeci {p : Nums} : EqI (Jqci p) (.region (Jqcl p) []) := eqi
@[simp] def Jqcm (p : Nums) : List IOp := [qo 8 (.mov (.t 3)), qo 9 (.call p.slices_Compact_Pair [(.t 8)]), qo 2 (.asg (.t 9))]
def Jqcj (p : Nums) : IC := (.region (Jqcm p) [])
@[simp] theorem Jecj {p : Nums} : EqI (Jqcj p) (.region (Jqcm p) []) := eqi
def Jtba (p : Nums) : IC := (.seq (.region [⟨(some 2), (.asg (.c .nils)), none, false⟩] []) (.seq (Jqch p) (.seq (Jqci p) (.seq (Jqcj p) .ret))))
@[simp] def Jqcy (p : Nums) : List IOp := [qo 4 (.alloc [(zi 0), (zi 0)]), qo 5 (.asg (.c (.d (.bool false))))]
def Jqcn (p : Nums) : IC := (.region (Jqcy p) [])
@[simp] theorem Jecn {p : Nums} : EqI (Jqcn p) (.region (Jqcy p) []) := eqi
@[simp] def Jqd0 (p : Nums) : List IOp := [qo 9 (.mov (.t 0)), qo 10 (.len (.t 9)), qo 11 (.mov (ci 0))]
def Jqcq (p : Nums) : IC := (.region (Jqd0 p) [])
@[simp] theorem Jecq {p : Nums} : EqI (Jqcq p) (.region (Jqd0 p) []) := eqi
@[simp] def Jqd1 (p : Nums) : List IOp := [qo 13 (.iaddr 2 (.t 9) (.t 11)), qo 14 (.load (some 2) (.t 13)), qo 8 (.alloc [(zi 0), (zi 0)]), qn (.store 2 (.t 8) (.t 14))]
def Jqcr (p : Nums) : IC := (.region (Jqd1 p) [])
@[simp] theorem Jecr {p : Nums} : EqI (Jqcr p) (.region (Jqd1 p) []) := eqi
@[simp] def Jqd2 (p : Nums) : List IOp := [qp 15 (.mov (.t 6)), qp 16 (.mov (.t 1)), qp 17 (.len (.t 16)), qo 18 (.bin .lss (.t 15) (.t 17)), qo 19 (.mov (.t 18)), ⟨(some 20), (.mov (.t 1)), (some (19, true)), true⟩, ⟨(some 21), (.mov (.t 6)), (some (19, true)), true⟩, ⟨(some 22), (.iaddr 2 (.t 20) (.t 21)), (some (19, true)), true⟩, ⟨(some 23), (.load (some 2) (.t 22)), (some (19, true)), true⟩, ⟨(some 24), (.load (some 2) (.t 8)), (some (19, true)), true⟩, ⟨(some 25), (.call p.pairset_Less [(.t 23), (.t 24)]), (some (19, true)), false⟩, qo 26 (.pick (.t 19) (.t 25) (.c (.d (.bool false))))]
def Jqcs (p : Nums) : IC := (.region (Jqd2 p) [])
@[simp] theorem Jecs {p : Nums} : EqI (Jqcs p) (.region (Jqd2 p) []) := eqi
@[simp] def Jqd3 (p : Nums) : List IOp := [qo 27 (.mov (.t 6)), qo 28 (.bin .add (.t 27) (ci 1)), qo 6 (.asg (.t 28))]
def Jqct (p : Nums) : IC := (.region (Jqd3 p) [])
@[simp] theorem Ject {p : Nums} : EqI (Jqct p) (.region (Jqd3 p) []) := eqi
def Jqcu (p : Nums) : IC := (.seq (.seq (Jqcs p) (.cond (.t 26) .skip (.exit 2))) (.block 3 (Jqct p)))
@[simp] theorem Jecu {p : Nums} : EqI (Jqcu p) (.seq (.seq (Jqcs p) (.cond (.t 26) .skip (.exit 2))) (.block 3 (Jqct p))) := eqi
@[simp] def Jqd4 (p : Nums) : List IOp := [qp 29 (.mov (.t 6)), qp 30 (.mov (.t 1)), qp 31 (.len (.t 30)), qo 32 (.bin .eql (.t 29) (.t 31)), qo 33 (.mov (.t 32)), ⟨(some 34), (.mov (.t 1)), (some (33, false)), true⟩, ⟨(some 35), (.mov (.t 6)), (some (33, false)), true⟩, ⟨(some 36), (.iaddr 2 (.t 34) (.t 35)), (some (33, false)), true⟩, ⟨(some 37), (.load (some 2) (.t 36)), (some (33, false)), true⟩, ⟨(some 38), (.load (some 2) (.t 8)), (some (33, false)), true⟩, ⟨(some 39), (.eqs true [.int, .int] (.t 37) (.t 38)), (some (33, false)), false⟩, qo 40 (.pick (.t 33) (.c (.d (.bool true))) (.t 39))]
def Jqcv (p : Nums) : IC := (.region (Jqd4 p) [])
@[simp] theorem Jecv {p : Nums} : EqI (Jqcv p) (.region (Jqd4 p) []) := eqi
@[simp] def Jqd5 (p : Nums) : List IOp := [qo 41 (.load (some 2) (.t 8)), qn (.store 2 (.t 4) (.t 41)), qo 5 (.asg (.c (.d (.bool true))))]
def Jqcw (p : Nums) : IC := (.region (Jqd5 p) [])
@[simp] theorem Jecw {p : Nums} : EqI (Jqcw p) (.region (Jqd5 p) []) := eqi
def Jqcx (p : Nums) : IC := (.seq (Jqcr p) (.seq (.block 2 (.loop (Jqcu p))) (.seq (Jqcv p) (.cond (.t 40) (.seq (Jqcw p) .ret) .skip))))
@[simp] theorem Jecx {p : Nums} : EqI (Jqcx p) (.seq (Jqcr p) (.seq (.block 2 (.loop (Jqcu p))) (.seq (Jqcv p) (.cond (.t 40) (.seq (Jqcw p) .ret) .skip)))) := eqi
def Jqco (p : Nums) : IC := (.seq (.region [⟨(some 12), (.bin .lss (.t 11) (.t 10)), none, false⟩] []) (.seq (.cond (.t 12) .skip (.exit 0)) (.seq (.block 1 (Jqcx p)) (.region [⟨(some 42), (.bin .add (.t 11) (.c (.d (.int .i64 1)))), none, false⟩, ⟨(some 11), (.mov (.t 42)), none, false⟩] []))))
@[simp] theorem Jeco {p : Nums} : EqI (Jqco p) (.seq (.region [⟨(some 12), (.bin .lss (.t 11) (.t 10)), none, false⟩] []) (.seq (.cond (.t 12) .skip (.exit 0)) (.seq (.block 1 (Jqcx p)) (.region [⟨(some 42), (.bin .add (.t 11) (.c (.d (.int .i64 1)))), none, false⟩, ⟨(some 11), (.mov (.t 42)), none, false⟩] [])))) := eqi
@[simp] def Jqcz (p : Nums) : List IOp := [qo 43 (.build [(zi 0), (zi 0)] []), qn (.store 2 (.t 4) (.t 43)), qo 5 (.asg (.c (.d (.bool false))))]
def Jqcp (p : Nums) : IC := (.region (Jqcz p) [])
@[simp] theorem Jecp {p : Nums} : EqI (Jqcp p) (.region (Jqcz p) []) := eqi
def Jtbb (p : Nums) : IC := (.seq (Jqcn p) (.seq (.region [⟨(some 6), (.asg (.c (.d (.int .i64 0)))), none, false⟩] []) (.seq (.seq (Jqcq p) (.block 0 (.loop (Jqco p)))) (.seq (Jqcp p) .ret))))
@[simp] def Jqnl (p : Nums) : List IOp := [qo 5 (.mov (.t 4)), qo 6 (.mov (.t 0)), qo 7 (.len (.t 6)), qo 8 (.bin .lss (.t 5) (.t 7))]
def Jqnf (p : Nums) : IC := (.region (Jqnl p) [])
@[simp] theorem Jenf {p : Nums} : EqI (Jqnf p) (.region (Jqnl p) []) := eqi
@[simp] def Jqnm (p : Nums) : List IOp := [qo 11 (.mov (.t 0)), qo 12 (.mov (.t 4)), qo 13 (.iaddr 5 (.t 11) (.t 12)), qo 14 (.faddr 0 (.t 13)), qo 15 (.load none (.t 14)), qo 16 (.bin .neq (.t 15) (ci 2))]
def Jqng (p : Nums) : IC := (.region (Jqnm p) [])
@[simp] theorem Jeng {p : Nums} : EqI (Jqng p) (.region (Jqnm p) []) := eqi
@[simp] def Jqnn (p : Nums) : List IOp := [qo 17 (.mov (.t 3)), qo 18 (.mov (.t 4)), qo 19 (.bslice 1 1 [(.int .i64 0)] [(0, (.t 18))]), qo 20 (.app 1 8 (.t 17) (.t 19)), qo 3 (.asg (.t 20))]
def Jqnh (p : Nums) : IC := (.region (Jqnn p) [])
@[simp] theorem Jenh {p : Nums} : EqI (Jqnh p) (.region (Jqnn p) []) := eqi
def Jqni (p : Nums) : IC := (.seq (Jqng p) (.cond (.t 16) (Jqnh p) .skip))
@[simp] theorem Jeni {p : Nums} : EqI (Jqni p) (.seq (Jqng p) (.cond (.t 16) (Jqnh p) .skip)) := eqi
@[simp] def Jqno (p : Nums) : List IOp := [qo 9 (.mov (.t 4)), qo 10 (.bin .add (.t 9) (ci 1)), qo 4 (.asg (.t 10))]
def Jqnj (p : Nums) : IC := (.region (Jqno p) [])
@[simp] theorem Jenj {p : Nums} : EqI (Jqnj p) (.region (Jqno p) []) := eqi
def Jqnk (p : Nums) : IC := (.seq (.seq (Jqnf p) (.cond (.t 8) .skip (.exit 0))) (.seq (.block 1 (Jqni p)) (Jqnj p)))
@[simp] theorem Jenk {p : Nums} : EqI (Jqnk p) (.seq (.seq (Jqnf p) (.cond (.t 8) .skip (.exit 0))) (.seq (.block 1 (Jqni p)) (Jqnj p))) := eqi
def Jtc3 (p : Nums) : IC := (.seq (.region [⟨(some 2), (.asg (.c .nils)), none, false⟩] []) (.seq (.region [⟨(some 3), (.asg (.c .nils)), none, false⟩] []) (.seq (.seq (.region [⟨(some 4), (.asg (.c (.d (.int .i64 0)))), none, false⟩] []) (.block 0 (.loop (Jqnk p)))) (.seq (.region [⟨(some 21), (.mov (.t 3)), none, false⟩, ⟨(some 2), (.asg (.t 21)), none, false⟩] []) .ret))))
@[simp] def Jqnv (p : Nums) : List IOp := [qo 5 (.mov (.t 4)), qo 6 (.mov (.t 0)), qo 7 (.len (.t 6)), qo 8 (.bin .lss (.t 5) (.t 7))]
def Jqnp (p : Nums) : IC := (.region (Jqnv p) [])
@[simp] theorem Jenp {p : Nums} : EqI (Jqnp p) (.region (Jqnv p) []) := eqi
@[simp] def Jqnw (p : Nums) : List IOp := [qo 11 (.mov (.t 0)), qo 12 (.mov (.t 4)), qo 13 (.iaddr 7 (.t 11) (.t 12)), qo 14 (.faddr 0 (.t 13)), qo 15 (.load none (.t 14)), qo 16 (.bin .neq (.t 15) (ci 18))]
def Jqnq (p : Nums) : IC := (.region (Jqnw p) [])
@[simp] theorem Jenq {p : Nums} : EqI (Jqnq p) (.region (Jqnw p) []) := eqi
@[simp] def Jqnx (p : Nums) : List IOp := [qo 17 (.mov (.t 3)), qo 18 (.mov (.t 4)), qo 19 (.bslice 1 1 [(.int .i64 0)] [(0, (.t 18))]), qo 20 (.app 1 8 (.t 17) (.t 19)), qo 3 (.asg (.t 20))]
def Jqnr (p : Nums) : IC := (.region (Jqnx p) [])
@[simp] theorem Jenr {p : Nums} : EqI (Jqnr p) (.region (Jqnx p) []) := eqi
def Jqns (p : Nums) : IC := (.seq (Jqnq p) (.cond (.t 16) (Jqnr p) .skip))
@[simp] theorem Jens {p : Nums} : EqI (Jqns p) (.seq (Jqnq p) (.cond (.t 16) (Jqnr p) .skip)) := eqi
@[simp] def Jqny (p : Nums) : List IOp := [qo 9 (.mov (.t 4)), qo 10 (.bin .add (.t 9) (ci 1)), qo 4 (.asg (.t 10))]
def Jqnt (p : Nums) : IC := (.region (Jqny p) [])
@[simp] theorem Jent {p : Nums} : EqI (Jqnt p) (.region (Jqny p) []) := eqi
def Jqnu (p : Nums) : IC := (.seq (.seq (Jqnp p) (.cond (.t 8) .skip (.exit 0))) (.seq (.block 1 (Jqns p)) (Jqnt p)))
@[simp] theorem Jenu {p : Nums} : EqI (Jqnu p) (.seq (.seq (Jqnp p) (.cond (.t 8) .skip (.exit 0))) (.seq (.block 1 (Jqns p)) (Jqnt p))) := eqi
def Jtc4 (p : Nums) : IC := (.seq (.region [⟨(some 2), (.asg (.c .nils)), none, false⟩] []) (.seq (.region [⟨(some 3), (.asg (.c .nils)), none, false⟩] []) (.seq (.seq (.region [⟨(some 4), (.asg (.c (.d (.int .i64 0)))), none, false⟩] []) (.block 0 (.loop (Jqnu p)))) (.seq (.region [⟨(some 21), (.mov (.t 3)), none, false⟩, ⟨(some 2), (.asg (.t 21)), none, false⟩] []) .ret))))
@[simp] def Jqo1 (p : Nums) : List IOp := [qo 2 (.box (.t 0)), qo 3 (.box (.t 1)), qo 4 (.asg (.c (.d (.bool false))))]
def Jqnz (p : Nums) : IC := (.region (Jqo1 p) [])
@[simp] theorem Jenz {p : Nums} : EqI (Jqnz p) (.region (Jqo1 p) []) := eqi
@[simp] def Jqo2 (p : Nums) : List IOp := [qo 5 (.faddr 0 (.t 2)), qo 6 (.load none (.t 5)), qo 7 (.bin .neq (.t 6) (ci 2)), qo 8 (.mov (.t 7)), ⟨(some 9), (.faddr 0 (.t 2)), (some (8, true)), false⟩, ⟨(some 10), (.load none (.t 9)), (some (8, true)), false⟩, ⟨(some 11), (.bin .neq (.t 10) (ci 18)), (some (8, true)), false⟩, qo 12 (.pick (.t 8) (.t 11) (.c (.d (.bool false)))), qo 13 (.mov (.t 12)), ⟨(some 14), (.faddr 0 (.t 2)), (some (13, true)), false⟩, ⟨(some 15), (.load none (.t 14)), (some (13, true)), false⟩, ⟨(some 16), (.faddr 0 (.t 3)), (some (13, true)), false⟩, ⟨(some 17), (.load none (.t 16)), (some (13, true)), false⟩, ⟨(some 18), (.bin .eql (.t 15) (.t 17)), (some (13, true)), false⟩, qo 19 (.pick (.t 13) (.t 18) (.c (.d (.bool false)))), qo 20 (.mov (.t 19)), ⟨(some 21), (.faddr 4 (.t 2)), (some (20, true)), false⟩, ⟨(some 22), (.load none (.t 21)), (some (20, true)), false⟩, ⟨(some 23), (.faddr 4 (.t 3)), (some (20, true)), false⟩, ⟨(some 24), (.load none (.t 23)), (some (20, true)), false⟩, ⟨(some 25), (.bin .eql (.t 22) (.t 24)), (some (20, true)), false⟩, qo 26 (.pick (.t 20) (.t 25) (.c (.d (.bool false)))), qo 4 (.asg (.t 26))]
def Jqo0 (p : Nums) : IC := (.region (Jqo2 p) [])
@[simp] theorem Jeo0 {p : Nums} : EqI (Jqo0 p) (.region (Jqo2 p) []) := eqi
def Jtc5 (p : Nums) : IC := (.seq (Jqnz p) (.seq (Jqo0 p) .ret))
@[simp] def Jqkh (p : Nums) : List IOp := [qo 8 (.mov (.t 7)), qo 9 (.mov (.t 0)), qo 10 (.len (.t 9)), qo 11 (.bin .lss (.t 8) (.t 10))]
def Jqk7 (p : Nums) : IC := (.region (Jqkh p) [])
@[simp] theorem Jek7 {p : Nums} : EqI (Jqk7 p) (.region (Jqkh p) []) := eqi
@[simp] def Jqkj (p : Nums) : List IOp := [qo 14 (.mov (.t 6)), qo 15 (.un .not (.t 14)), qo 16 (.mov (.t 15)), ⟨(some 17), (.mov (.t 0)), (some (16, true)), true⟩, ⟨(some 18), (.mov (.t 7)), (some (16, true)), true⟩, ⟨(some 19), (.iaddr 2 (.t 17) (.t 18)), (some (16, true)), true⟩, ⟨(some 20), (.load (some 2) (.t 19)), (some (16, true)), true⟩, ⟨(some 21), (.load (some 2) (.t 3)), (some (16, true)), true⟩, ⟨(some 22), (.call p.ref11_Less [(.t 20), (.t 21)]), (some (16, true)), false⟩, ⟨(some 23), (.un .not (.t 22)), (some (16, true)), false⟩, qo 24 (.pick (.t 16) (.t 23) (.c (.d (.bool false))))]
def Jqk9 (p : Nums) : IC := (.region (Jqkj p) [])
@[simp] theorem Jek9 {p : Nums} : EqI (Jqk9 p) (.region (Jqkj p) []) := eqi
@[simp] def Jqkk (p : Nums) : List IOp := [qo 25 (.mov (.t 5)), qo 26 (.load (some 2) (.t 3)), qo 27 (.bslice 2 1 [(.int .i64 0), (.int .i64 0)] [(0, (.t 26))]), qo 28 (.app 2 16 (.t 25) (.t 27)), qo 5 (.asg (.t 28))]
def Jqka (p : Nums) : IC := (.region (Jqkk p) [])
@[simp] theorem Jeka {p : Nums} : EqI (Jqka p) (.region (Jqkk p) []) := eqi
def Jqkb (p : Nums) : IC := (.seq (Jqka p) (.region [⟨(some 6), (.asg (.c (.d (.bool true)))), none, false⟩] []))
@[simp] theorem Jekb {p : Nums} : EqI (Jqkb p) (.seq (Jqka p) (.region [⟨(some 6), (.asg (.c (.d (.bool true)))), none, false⟩] [])) := eqi
@[simp] def Jqkl (p : Nums) : List IOp := [qp 29 (.mov (.t 0)), qp 30 (.mov (.t 7)), qp 31 (.iaddr 2 (.t 29) (.t 30)), qp 32 (.load (some 2) (.t 31)), qp 33 (.load (some 2) (.t 3)), qo 34 (.eqs true [.int, .int] (.t 32) (.t 33))]
def Jqkc (p : Nums) : IC := (.region (Jqkl p) [])
@[simp] theorem Jekc {p : Nums} : EqI (Jqkc p) (.region (Jqkl p) []) := eqi
@[simp] def Jqkm (p : Nums) : List IOp := [qo 35 (.mov (.t 5)), qo 36 (.mov (.t 0)), qo 37 (.mov (.t 7)), qo 38 (.iaddr 2 (.t 36) (.t 37)), qo 39 (.load (some 2) (.t 38)), qo 40 (.bslice 2 1 [(.int .i64 0), (.int .i64 0)] [(0, (.t 39))]), qo 41 (.app 2 16 (.t 35) (.t 40)), qo 5 (.asg (.t 41))]
def Jqkd (p : Nums) : IC := (.region (Jqkm p) [])
@[simp] theorem Jekd {p : Nums} : EqI (Jqkd p) (.region (Jqkm p) []) := eqi
def Jqke (p : Nums) : IC := (.seq (.seq (Jqk9 p) (.cond (.t 24) (Jqkb p) .skip)) (.seq (Jqkc p) (.cond (.t 34) (Jqkd p) .skip)))
@[simp] theorem Jeke {p : Nums} : EqI (Jqke p) (.seq (.seq (Jqk9 p) (.cond (.t 24) (Jqkb p) .skip)) (.seq (Jqkc p) (.cond (.t 34) (Jqkd p) .skip))) := eqi
@[simp] def Jqkn (p : Nums) : List IOp := [qo 12 (.mov (.t 7)), qo 13 (.bin .add (.t 12) (ci 1)), qo 7 (.asg (.t 13))]
def Jqkf (p : Nums) : IC := (.region (Jqkn p) [])
@[simp] theorem Jekf {p : Nums} : EqI (Jqkf p) (.region (Jqkn p) []) := eqi
def Jqkg (p : Nums) : IC := (.seq (.seq (Jqk7 p) (.cond (.t 11) .skip (.exit 0))) (.seq (.block 1 (Jqke p)) (Jqkf p)))
@[simp] theorem Jekg {p : Nums} : EqI (Jqkg p) (.seq (.seq (Jqk7 p) (.cond (.t 11) .skip (.exit 0))) (.seq (.block 1 (Jqke p)) (Jqkf p))) := eqi
@[simp] def Jqki (p : Nums) : List IOp := [qo 44 (.mov (.t 5)), qo 45 (.load (some 2) (.t 3)), qo 46 (.bslice 2 1 [(.int .i64 0), (.int .i64 0)] [(0, (.t 45))]), qo 47 (.app 2 16 (.t 44) (.t 46)), qo 5 (.asg (.t 47))]
def Jqk8 (p : Nums) : IC := (.region (Jqki p) [])
@[simp] theorem Jek8 {p : Nums} : EqI (Jqk8 p) (.region (Jqki p) []) := eqi
def Jtbv (p : Nums) : IC := (.seq (.region [⟨(some 3), (.box (.t 1)), none, false⟩, ⟨(some 4), (.asg (.c .nils)), none, false⟩] []) (.seq (.region [⟨(some 5), (.asg (.c .nils)), none, false⟩] []) (.seq (.region [⟨(some 6), (.asg (.c (.d (.bool false)))), none, false⟩] []) (.seq (.seq (.region [⟨(some 7), (.asg (.c (.d (.int .i64 0)))), none, false⟩] []) (.block 0 (.loop (Jqkg p)))) (.seq (.seq (.region [⟨(some 42), (.mov (.t 6)), none, false⟩, ⟨(some 43), (.un .not (.t 42)), none, false⟩] []) (.cond (.t 43) (Jqk8 p) .skip)) (.seq (.region [⟨(some 48), (.mov (.t 5)), none, false⟩, ⟨(some 4), (.asg (.t 48)), none, false⟩] []) .ret))))))
@[simp] def Jqhn (p : Nums) : List IOp := [qo 5 (.mov (.t 0)), qo 6 (.bin .geq (.t 5) (ci 0)), qo 7 (.mov (.t 6)), ⟨(some 8), (.mov (.t 0)), (some (7, true)), false⟩, ⟨(some 9), (.mov (.t 1)), (some (7, true)), false⟩, ⟨(some 10), (.bin .lss (.t 8) (.t 9)), (some (7, true)), false⟩, qo 11 (.pick (.t 7) (.t 10) (.c (.d (.bool false)))), qo 4 (.asg (.t 11))]
def Jqhm (p : Nums) : IC := (.region (Jqhn p) [])
@[simp] theorem Jehm {p : Nums} : EqI (Jqhm p) (.region (Jqhn p) []) := eqi
def Jtbp (p : Nums) : IC := (.seq (.region [⟨(some 4), (.asg (.c (.d (.bool false)))), none, false⟩] []) (.seq (Jqhm p) .ret))
@[simp] def Jq8g (p : Nums) : List IOp := [qo 3 (.mov (.t 0)), qo 4 (.bin .mul (ci 2) (.t 3)), qo 5 (.bin .add (.t 4) (ci 1)), qo 2 (.asg (.t 5))]
def Jq8f (p : Nums) : IC := (.region (Jq8g p) [])
@[simp] theorem Je8f {p : Nums} : EqI (Jq8f p) (.region (Jq8g p) []) := eqi
def Jtao (p : Nums) : IC := (.seq (.region [⟨(some 2), (.asg (.c (.d (.int .i64 0)))), none, false⟩] []) (.seq (Jq8f p) .ret))
@[simp] def Jqx0 (p : Nums) : List IOp := [qo 9 (.faddr 0 (.t 2)), qo 10 (.load none (.t 9)), qo 11 (.call p.opcode_Of [(.t 10)]), qo 8 (.mov (.t 11)), qo 12 (.ext (.t 8) 0), qo 13 (.ext (.t 8) 1), qo 5 (.alloc [(.d (.bool false)), (.d (.bool false)), (.d (.bool false)), (.d (.bool false))]), qn (.store 4 (.t 5) (.t 12)), qo 6 (.asg (.t 13))]
def Jqwp (p : Nums) : IC := (.region (Jqx0 p) [])
@[simp] theorem Jewp {p : Nums} : EqI (Jqwp p) (.region (Jqx0 p) []) := eqi
@[simp] def Jqx1 (p : Nums) : List IOp := [qo 14 (.faddr 1 (.t 2)), qo 15 (.load none (.t 14)), qo 16 (.faddr 0 (.t 5)), qo 17 (.load none (.t 16)), qo 18 (.mov (.t 1)), qo 19 (.build [(zi 0), (.d (.bool false)), (zi 0)] [(0, 1, (.t 15)), (1, 1, (.t 17)), (2, 1, (.t 18))]), qo 20 (.faddr 2 (.t 2)), qo 21 (.load none (.t 20)), qo 22 (.faddr 1 (.t 5)), qo 23 (.load none (.t 22)), qo 24 (.mov (.t 1)), qo 25 (.build [(zi 0), (.d (.bool false)), (zi 0)] [(0, 1, (.t 21)), (1, 1, (.t 23)), (2, 1, (.t 24))]), qo 26 (.faddr 3 (.t 2)), qo 27 (.load none (.t 26)), qo 28 (.faddr 2 (.t 5)), qo 29 (.load none (.t 28)), qo 30 (.mov (.t 1)), qo 31 (.build [(zi 0), (.d (.bool false)), (zi 0)] [(0, 1, (.t 27)), (1, 1, (.t 29)), (2, 1, (.t 30))]), qo 32 (.bslice 3 3 [(.int .i64 0), (.bool false), (.int .i64 0)] [(0, (.t 19)), (1, (.t 25)), (2, (.t 31))]), qo 7 (.asg (.t 32))]
def Jqws (p : Nums) : IC := (.region (Jqx1 p) [])
@[simp] theorem Jews {p : Nums} : EqI (Jqws p) (.region (Jqx1 p) []) := eqi
@[simp] def Jqx2 (p : Nums) : List IOp := [qo 34 (.faddr 0 (.t 2)), qo 35 (.load none (.t 34)), qo 36 (.call p.opcode_Source [(.t 35)]), qo 37 (.un .not (.t 36)), qo 33 (.asg (.t 37))]
def Jqwt (p : Nums) : IC := (.region (Jqx2 p) [])
@[simp] theorem Jewt {p : Nums} : EqI (Jqwt p) (.region (Jqx2 p) []) := eqi
@[simp] def Jqx3 (p : Nums) : List IOp := [qo 39 (.mov (.t 7)), qo 40 (.call p.source_within [(.t 39)]), qo 41 (.un .not (.t 40)), qo 38 (.asg (.t 41))]
def Jqwu (p : Nums) : IC := (.region (Jqx3 p) [])
@[simp] theorem Jewu {p : Nums} : EqI (Jqwu p) (.region (Jqx3 p) []) := eqi
@[simp] def Jqx4 (p : Nums) : List IOp := [qo 43 (.mov (.t 7)), qo 44 (.call p.source_blank [(.t 43)]), qo 45 (.un .not (.t 44)), qo 46 (.mov (.t 45)), ⟨(some 47), (.faddr 3 (.t 5)), (some (46, false)), false⟩, ⟨(some 48), (.load none (.t 47)), (some (46, false)), false⟩, ⟨(some 49), (.un .not (.t 48)), (some (46, false)), false⟩, ⟨(some 50), (.mov (.t 49)), (some (46, false)), false⟩, ⟨(some 51), (.faddr 4 (.t 2)), (some (50, true)), false⟩, ⟨(some 52), (.load none (.t 51)), (some (50, true)), false⟩, ⟨(some 53), (.bin .neq (.t 52) (ci 0)), (some (50, true)), false⟩, ⟨(some 54), (.pick (.t 50) (.t 53) (.c (.d (.bool false)))), (some (46, false)), false⟩, qo 55 (.pick (.t 46) (.c (.d (.bool true))) (.t 54)), qo 42 (.asg (.t 55))]
def Jqwv (p : Nums) : IC := (.region (Jqx4 p) [])
@[simp] theorem Jewv {p : Nums} : EqI (Jqwv p) (.region (Jqx4 p) []) := eqi
def Jqww (p : Nums) : IC := (.seq (.region [⟨(some 4), (.asg (.c (.d (.int .i64 12)))), none, false⟩] []) .ret)
@[simp] theorem Jeww {p : Nums} : EqI (Jqww p) (.seq (.region [⟨(some 4), (.asg (.c (.d (.int .i64 12)))), none, false⟩] []) .ret) := eqi
def Jqwx (p : Nums) : IC := (.seq (.region [⟨(some 4), (.asg (.c (.d (.int .i64 9)))), none, false⟩] []) .ret)
@[simp] theorem Jewx {p : Nums} : EqI (Jqwx p) (.seq (.region [⟨(some 4), (.asg (.c (.d (.int .i64 9)))), none, false⟩] []) .ret) := eqi
def Jqwy (p : Nums) : IC := (.seq (Jqwv p) (.cond (.t 42) (Jqww p) .skip))
@[simp] theorem Jewy {p : Nums} : EqI (Jqwy p) (.seq (Jqwv p) (.cond (.t 42) (Jqww p) .skip)) := eqi
def Jqwz (p : Nums) : IC := (.seq (.region [⟨(some 4), (.asg (.c (.d (.int .i64 8)))), none, false⟩] []) .ret)
@[simp] theorem Jewz {p : Nums} : EqI (Jqwz p) (.seq (.region [⟨(some 4), (.asg (.c (.d (.int .i64 8)))), none, false⟩] []) .ret) := eqi
def Jqwq (p : Nums) : IC := (.seq (Jqwu p) (.cond (.t 38) (Jqwx p) (Jqwy p)))
@[simp] theorem Jewq {p : Nums} : EqI (Jqwq p) (.seq (Jqwu p) (.cond (.t 38) (Jqwx p) (Jqwy p))) := eqi
def Jqwr (p : Nums) : IC := (.seq (Jqwt p) (.cond (.t 33) (Jqwz p) (Jqwq p)))
@[simp] theorem Jewr {p : Nums} : EqI (Jqwr p) (.seq (Jqwt p) (.cond (.t 33) (Jqwz p) (Jqwq p))) := eqi
def Jtcl (p : Nums) : IC := (.seq (.region [⟨(some 2), (.box (.t 0)), none, false⟩, ⟨(some 4), (.asg (.c (.d (.int .i64 0)))), none, false⟩] []) (.seq (Jqwp p) (.seq (Jqws p) (.seq (.block 0 (Jqwr p)) (.seq (.region [⟨(some 4), (.asg (.c (.d (.int .i64 0)))), none, false⟩] []) .ret)))))
@[simp] def Jqxq (p : Nums) : List IOp := [qo 10 (.faddr 1 (.t 3)), qo 11 (.load none (.t 10)), qo 12 (.faddr 0 (.t 3)), qo 13 (.load none (.t 12)), qo 14 (.bin .neq (.t 13) (ci 1)), qo 15 (.mov (.t 1)), qo 16 (.build [(zi 0), (.d (.bool false)), (zi 0)] [(0, 1, (.t 11)), (1, 1, (.t 14)), (2, 1, (.t 15))]), qo 7 (.alloc [(zi 0), (.d (.bool false)), (zi 0)]), qn (.store 3 (.t 7) (.t 16))]
def Jqxb (p : Nums) : IC := (.region (Jqxq p) [])
@[simp] theorem Jexb {p : Nums} : EqI (Jqxb p) (.region (Jqxq p) []) := eqi
@[simp] def Jqxr (p : Nums) : List IOp := [qo 17 (.faddr 2 (.t 3)), qo 18 (.load none (.t 17)), qo 19 (.faddr 0 (.t 3)), qo 20 (.load none (.t 19)), qo 21 (.bin .neq (.t 20) (ci 3)), qo 22 (.mov (.t 2)), qo 23 (.build [(zi 0), (.d (.bool false)), (zi 0)] [(0, 1, (.t 18)), (1, 1, (.t 21)), (2, 1, (.t 22))]), qo 8 (.alloc [(zi 0), (.d (.bool false)), (zi 0)]), qn (.store 3 (.t 8) (.t 23))]
def Jqxi (p : Nums) : IC := (.region (Jqxr p) [])
@[simp] theorem Jexi {p : Nums} : EqI (Jqxi p) (.region (Jqxr p) []) := eqi
@[simp] def Jqxs (p : Nums) : List IOp := [qo 24 (.faddr 3 (.t 3)), qo 25 (.load none (.t 24)), qo 26 (.faddr 0 (.t 3)), qo 27 (.load none (.t 26)), qo 28 (.bin .eql (.t 27) (ci 2)), qo 29 (.mov (.t 2)), qo 30 (.build [(zi 0), (.d (.bool false)), (zi 0)] [(0, 1, (.t 25)), (1, 1, (.t 28)), (2, 1, (.t 29))]), qo 9 (.alloc [(zi 0), (.d (.bool false)), (zi 0)]), qn (.store 3 (.t 9) (.t 30))]
def Jqxj (p : Nums) : IC := (.region (Jqxs p) [])
@[simp] theorem Jexj {p : Nums} : EqI (Jqxj p) (.region (Jqxs p) []) := eqi
@[simp] def Jqxt (p : Nums) : List IOp := [qo 32 (.faddr 0 (.t 3)), qo 33 (.load none (.t 32)), qo 34 (.bin .lss (.t 33) (ci 1)), qo 35 (.mov (.t 34)), ⟨(some 36), (.faddr 0 (.t 3)), (some (35, false)), false⟩, ⟨(some 37), (.load none (.t 36)), (some (35, false)), false⟩, ⟨(some 38), (.bin .gtr (.t 37) (ci 3)), (some (35, false)), false⟩, qo 39 (.pick (.t 35) (.c (.d (.bool true))) (.t 38)), qo 31 (.asg (.t 39))]
def Jqxk (p : Nums) : IC := (.region (Jqxt p) [])
@[simp] theorem Jexk {p : Nums} : EqI (Jqxk p) (.region (Jqxt p) []) := eqi
@[simp] def Jqxu (p : Nums) : List IOp := [qo 41 (.load (some 3) (.t 7)), qo 42 (.bslice 3 1 [(.int .i64 0), (.bool false), (.int .i64 0)] [(0, (.t 41))]), qo 43 (.call p.source_within [(.t 42)]), qo 44 (.un .not (.t 43)), qo 40 (.asg (.t 44))]
def Jqxl (p : Nums) : IC := (.region (Jqxu p) [])
@[simp] theorem Jexl {p : Nums} : EqI (Jqxl p) (.region (Jqxu p) []) := eqi
@[simp] def Jqxv (p : Nums) : List IOp := [qo 46 (.load (some 3) (.t 8)), qo 47 (.load (some 3) (.t 9)), qo 48 (.bslice 3 2 [(.int .i64 0), (.bool false), (.int .i64 0)] [(0, (.t 46)), (1, (.t 47))]), qo 49 (.call p.source_within [(.t 48)]), qo 50 (.un .not (.t 49)), qo 45 (.asg (.t 50))]
def Jqxm (p : Nums) : IC := (.region (Jqxv p) [])
@[simp] theorem Jexm {p : Nums} : EqI (Jqxm p) (.region (Jqxv p) []) := eqi
@[simp] def Jqxw (p : Nums) : List IOp := [qo 52 (.load (some 3) (.t 7)), qo 53 (.load (some 3) (.t 8)), qo 54 (.load (some 3) (.t 9)), qo 55 (.bslice 3 3 [(.int .i64 0), (.bool false), (.int .i64 0)] [(0, (.t 52)), (1, (.t 53)), (2, (.t 54))]), qo 56 (.call p.source_blank [(.t 55)]), qo 57 (.un .not (.t 56)), qo 51 (.asg (.t 57))]
def Jqxn (p : Nums) : IC := (.region (Jqxw p) [])
@[simp] theorem Jexn {p : Nums} : EqI (Jqxn p) (.region (Jqxw p) []) := eqi
def Jqxo (p : Nums) : IC := (.seq (.region [⟨(some 6), (.asg (.c (.d (.int .i64 12)))), none, false⟩] []) .ret)
@[simp] theorem Jexo {p : Nums} : EqI (Jqxo p) (.seq (.region [⟨(some 6), (.asg (.c (.d (.int .i64 12)))), none, false⟩] []) .ret) := eqi
def Jqxp (p : Nums) : IC := (.seq (.region [⟨(some 6), (.asg (.c (.d (.int .i64 11)))), none, false⟩] []) .ret)
@[simp] theorem Jexp {p : Nums} : EqI (Jqxp p) (.seq (.region [⟨(some 6), (.asg (.c (.d (.int .i64 11)))), none, false⟩] []) .ret) := eqi
def Jqxc (p : Nums) : IC := (.seq (Jqxn p) (.cond (.t 51) (Jqxo p) .skip))
@[simp] theorem Jexc {p : Nums} : EqI (Jqxc p) (.seq (Jqxn p) (.cond (.t 51) (Jqxo p) .skip)) := eqi
def Jqxd (p : Nums) : IC := (.seq (.region [⟨(some 6), (.asg (.c (.d (.int .i64 9)))), none, false⟩] []) .ret)
@[simp] theorem Jexd {p : Nums} : EqI (Jqxd p) (.seq (.region [⟨(some 6), (.asg (.c (.d (.int .i64 9)))), none, false⟩] []) .ret) := eqi
def Jqxe (p : Nums) : IC := (.seq (Jqxm p) (.cond (.t 45) (Jqxp p) (Jqxc p)))
@[simp] theorem Jexe {p : Nums} : EqI (Jqxe p) (.seq (Jqxm p) (.cond (.t 45) (Jqxp p) (Jqxc p))) := eqi
def Jqxf (p : Nums) : IC := (.seq (.region [⟨(some 6), (.asg (.c (.d (.int .i64 16)))), none, false⟩] []) .ret)
@[simp] theorem Jexf {p : Nums} : EqI (Jqxf p) (.seq (.region [⟨(some 6), (.asg (.c (.d (.int .i64 16)))), none, false⟩] []) .ret) := eqi
def Jqxg (p : Nums) : IC := (.seq (Jqxl p) (.cond (.t 40) (Jqxd p) (Jqxe p)))
@[simp] theorem Jexg {p : Nums} : EqI (Jqxg p) (.seq (Jqxl p) (.cond (.t 40) (Jqxd p) (Jqxe p))) := eqi
def Jqxh (p : Nums) : IC := (.seq (Jqxk p) (.cond (.t 31) (Jqxf p) (Jqxg p)))
@[simp] theorem Jexh {p : Nums} : EqI (Jqxh p) (.seq (Jqxk p) (.cond (.t 31) (Jqxf p) (Jqxg p))) := eqi
def Jtcn (p : Nums) : IC := (.seq (.region [⟨(some 3), (.box (.t 0)), none, false⟩, ⟨(some 6), (.asg (.c (.d (.int .i64 0)))), none, false⟩] []) (.seq (Jqxb p) (.seq (Jqxi p) (.seq (Jqxj p) (.seq (.block 0 (Jqxh p)) (.seq (.region [⟨(some 6), (.asg (.c (.d (.int .i64 0)))), none, false⟩] []) .ret))))))
@[simp] def Jq9q (p : Nums) : List IOp := [qo 9 (.faddr 0 (.t 3)), qo 10 (.load none (.t 9)), qo 11 (.call p.opcode_Machine [(.t 10)]), qo 12 (.un .not (.t 11))]
def Jq9h (p : Nums) : IC := (.region (Jq9q p) [])
@[simp] theorem Je9h {p : Nums} : EqI (Jq9h p) (.region (Jq9q p) []) := eqi
def Jq9i (p : Nums) : IC := (.seq (.region [⟨(some 6), (.asg (.c (.d (.int .i64 8)))), none, false⟩] []) .ret)
@[simp] theorem Je9i {p : Nums} : EqI (Jq9i p) (.seq (.region [⟨(some 6), (.asg (.c (.d (.int .i64 8)))), none, false⟩] []) .ret) := eqi
@[simp] def Jq9r (p : Nums) : List IOp := [qo 13 (.call p.machine_others []), qo 7 (.alloc [.nilfn, .nilfn]), qn (.store 2 (.t 7) (.t 13))]
def Jq9j (p : Nums) : IC := (.region (Jq9r p) [])
@[simp] theorem Je9j {p : Nums} : EqI (Jq9j p) (.region (Jq9r p) []) := eqi
@[simp] def Jq9s (p : Nums) : List IOp := [qo 14 (.faddr 0 (.t 3)), qo 15 (.load none (.t 14)), qo 16 (.bin .eql (.t 15) (ci 18))]
def Jq9k (p : Nums) : IC := (.region (Jq9s p) [])
@[simp] theorem Je9k {p : Nums} : EqI (Jq9k p) (.region (Jq9s p) []) := eqi
@[simp] def Jq9t (p : Nums) : List IOp := [qo 17 (.call p.machine_moves []), qn (.store 2 (.t 7) (.t 17))]
def Jq9l (p : Nums) : IC := (.region (Jq9t p) [])
@[simp] theorem Je9l {p : Nums} : EqI (Jq9l p) (.region (Jq9t p) []) := eqi
@[simp] def Jq9u (p : Nums) : List IOp := [qo 18 (.faddr 0 (.t 7)), qo 19 (.load none (.t 18)), qo 20 (.load (some 7) (.t 3)), qo 21 (.mov (.t 1)), qo 22 (.mov (.t 2)), qo 23 (.callv (.t 19) [(.t 20), (.t 21), (.t 22)]), qo 8 (.asg (.t 23))]
def Jq9m (p : Nums) : IC := (.region (Jq9u p) [])
@[simp] theorem Je9m {p : Nums} : EqI (Jq9m p) (.region (Jq9u p) []) := eqi
def Jq9n (p : Nums) : IC := (.seq (.region [⟨(some 26), (.mov (.t 8)), none, false⟩, ⟨(some 6), (.asg (.t 26)), none, false⟩] []) .ret)
@[simp] theorem Je9n {p : Nums} : EqI (Jq9n p) (.seq (.region [⟨(some 26), (.mov (.t 8)), none, false⟩, ⟨(some 6), (.asg (.t 26)), none, false⟩] []) .ret) := eqi
@[simp] def Jq9v (p : Nums) : List IOp := [qo 27 (.faddr 1 (.t 7)), qo 28 (.load none (.t 27)), qo 29 (.load (some 7) (.t 3)), qo 30 (.callv (.t 28) [(.t 29)]), qo 31 (.un .not (.t 30))]
def Jq9o (p : Nums) : IC := (.region (Jq9v p) [])
@[simp] theorem Je9o {p : Nums} : EqI (Jq9o p) (.region (Jq9v p) []) := eqi
def Jq9p (p : Nums) : IC := (.seq (.region [⟨(some 6), (.asg (.c (.d (.int .i64 12)))), none, false⟩] []) .ret)
@[simp] theorem Je9p {p : Nums} : EqI (Jq9p p) (.seq (.region [⟨(some 6), (.asg (.c (.d (.int .i64 12)))), none, false⟩] []) .ret) := eqi
def Jtar (p : Nums) : IC := (.seq (.region [⟨(some 3), (.box (.t 0)), none, false⟩, ⟨(some 6), (.asg (.c (.d (.int .i64 0)))), none, false⟩] []) (.seq (.seq (Jq9h p) (.cond (.t 12) (Jq9i p) .skip)) (.seq (Jq9j p) (.seq (.seq (Jq9k p) (.cond (.t 16) (Jq9l p) .skip)) (.seq (.seq (Jq9m p) (.seq (.region [⟨(some 24), (.mov (.t 8)), none, false⟩, ⟨(some 25), (.bin .neq (.t 24) (.c (.d (.int .i64 0)))), none, false⟩] []) (.cond (.t 25) (Jq9n p) .skip))) (.seq (.seq (Jq9o p) (.cond (.t 31) (Jq9p p) .skip)) (.seq (.region [⟨(some 6), (.asg (.c (.d (.int .i64 0)))), none, false⟩] []) .ret)))))))
@[simp] def Jq87 (p : Nums) : List IOp := [qo 9 (.mov (.t 0)), qo 10 (.bin .geq (.t 9) (ci 0)), qo 11 (.mov (.t 10)), ⟨(some 12), (.mov (.t 0)), (some (11, true)), false⟩, ⟨(some 13), (.call p.location_Index [(.t 12)]), (some (11, true)), false⟩, ⟨(some 14), (.mov (.t 2)), (some (11, true)), false⟩, ⟨(some 15), (.bin .lss (.t 13) (.t 14)), (some (11, true)), false⟩, qo 16 (.pick (.t 11) (.t 15) (.c (.d (.bool false)))), qo 6 (.asg (.t 16))]
def Jq85 (p : Nums) : IC := (.region (Jq87 p) [])
@[simp] theorem Je85 {p : Nums} : EqI (Jq85 p) (.region (Jq87 p) []) := eqi
@[simp] def Jq88 (p : Nums) : List IOp := [qo 17 (.mov (.t 0)), qo 18 (.bin .geq (.t 17) (ci 0)), qo 19 (.mov (.t 18)), ⟨(some 20), (.mov (.t 0)), (some (19, true)), false⟩, ⟨(some 21), (.call p.location_Index [(.t 20)]), (some (19, true)), false⟩, ⟨(some 22), (.mov (.t 1)), (some (19, true)), false⟩, ⟨(some 23), (.bin .lss (.t 21) (.t 22)), (some (19, true)), false⟩, qo 24 (.pick (.t 19) (.t 23) (.c (.d (.bool false)))), qo 6 (.asg (.t 24))]
def Jq86 (p : Nums) : IC := (.region (Jq88 p) [])
@[simp] theorem Je86 {p : Nums} : EqI (Jq86 p) (.region (Jq88 p) []) := eqi
def Jtak (p : Nums) : IC := (.seq (.region [⟨(some 6), (.asg (.c (.d (.bool false)))), none, false⟩] []) (.seq (.seq (.region [⟨(some 7), (.mov (.t 0)), none, false⟩, ⟨(some 8), (.call p.location_IsSlot [(.t 7)]), none, false⟩] []) (.cond (.t 8) (.seq (Jq85 p) .ret) .skip)) (.seq (Jq86 p) .ret)))
@[simp] def Jqcf (p : Nums) : List IOp := [qo 2 (.box (.t 0)), qo 3 (.box (.t 1)), qo 4 (.asg (.c (.d (.bool false))))]
def Jqcd (p : Nums) : IC := (.region (Jqcf p) [])
@[simp] theorem Jecd {p : Nums} : EqI (Jqcd p) (.region (Jqcf p) []) := eqi
@[simp] def Jqcg (p : Nums) : List IOp := [qo 5 (.faddr 0 (.t 2)), qo 6 (.load none (.t 5)), qo 7 (.faddr 0 (.t 3)), qo 8 (.load none (.t 7)), qo 9 (.bin .lss (.t 6) (.t 8)), qo 10 (.mov (.t 9)), ⟨(some 11), (.faddr 0 (.t 2)), (some (10, false)), false⟩, ⟨(some 12), (.load none (.t 11)), (some (10, false)), false⟩, ⟨(some 13), (.faddr 0 (.t 3)), (some (10, false)), false⟩, ⟨(some 14), (.load none (.t 13)), (some (10, false)), false⟩, ⟨(some 15), (.bin .eql (.t 12) (.t 14)), (some (10, false)), false⟩, ⟨(some 16), (.mov (.t 15)), (some (10, false)), false⟩, ⟨(some 17), (.faddr 1 (.t 2)), (some (16, true)), false⟩, ⟨(some 18), (.load none (.t 17)), (some (16, true)), false⟩, ⟨(some 19), (.faddr 1 (.t 3)), (some (16, true)), false⟩, ⟨(some 20), (.load none (.t 19)), (some (16, true)), false⟩, ⟨(some 21), (.bin .lss (.t 18) (.t 20)), (some (16, true)), false⟩, ⟨(some 22), (.pick (.t 16) (.t 21) (.c (.d (.bool false)))), (some (10, false)), false⟩, qo 23 (.pick (.t 10) (.c (.d (.bool true))) (.t 22)), qo 4 (.asg (.t 23))]
def Jqce (p : Nums) : IC := (.region (Jqcg p) [])
@[simp] theorem Jece {p : Nums} : EqI (Jqce p) (.region (Jqcg p) []) := eqi
def Jtb9 (p : Nums) : IC := (.seq (Jqcd p) (.seq (Jqce p) .ret))
@[simp] def Jq6e (p : Nums) : List IOp := [qo 5 (.faddr 0 (.t 2)), qo 6 (.load none (.t 5)), qo 7 (.mov (.t 1)), qo 8 (.bin .lss (.t 6) (.t 7))]
def Jq6b (p : Nums) : IC := (.region (Jq6e p) [])
@[simp] theorem Je6b {p : Nums} : EqI (Jq6b p) (.region (Jq6e p) []) := eqi
@[simp] def Jq6f (p : Nums) : List IOp := [qp 9 (.faddr 1 (.t 2)), qp 10 (.load none (.t 9)), qp 11 (.faddr 0 (.t 2)), qp 12 (.load none (.t 11)), qp 13 (.call p.location_Slot [(.t 12)]), qo 14 (.bin .eql (.t 10) (.t 13)), qo 4 (.asg (.t 14))]
def Jq6c (p : Nums) : IC := (.region (Jq6f p) [])
@[simp] theorem Je6c {p : Nums} : EqI (Jq6c p) (.region (Jq6f p) []) := eqi
@[simp] def Jq6g (p : Nums) : List IOp := [qo 15 (.faddr 1 (.t 2)), qo 16 (.load none (.t 15)), qo 17 (.call p.location_IsSlot [(.t 16)]), qo 18 (.un .not (.t 17)), qo 19 (.mov (.t 18)), ⟨(some 20), (.faddr 1 (.t 2)), (some (19, false)), false⟩, ⟨(some 21), (.load none (.t 20)), (some (19, false)), false⟩, ⟨(some 22), (.call p.location_Index [(.t 21)]), (some (19, false)), false⟩, ⟨(some 23), (.mov (.t 1)), (some (19, false)), false⟩, ⟨(some 24), (.bin .geq (.t 22) (.t 23)), (some (19, false)), false⟩, qo 25 (.pick (.t 19) (.c (.d (.bool true))) (.t 24)), qo 4 (.asg (.t 25))]
def Jq6d (p : Nums) : IC := (.region (Jq6g p) [])
@[simp] theorem Je6d {p : Nums} : EqI (Jq6d p) (.region (Jq6g p) []) := eqi
def Jtae (p : Nums) : IC := (.seq (.region [⟨(some 2), (.box (.t 0)), none, false⟩, ⟨(some 4), (.asg (.c (.d (.bool false)))), none, false⟩] []) (.seq (.seq (Jq6b p) (.cond (.t 8) (.seq (Jq6c p) .ret) .skip)) (.seq (Jq6d p) .ret)))
@[simp] def Jq12 (p : Nums) : List IOp := [qo 7 (.mov (.t 1)), qo 8 (.mov (.t 0)), qo 9 (.len (.t 8)), qo 10 (.bin .lss (.t 7) (.t 9)), qo 11 (.mov (.t 10)), ⟨(some 12), (.mov (.t 2)), (some (11, true)), false⟩, ⟨(some 13), (.mov (.t 0)), (some (11, true)), false⟩, ⟨(some 14), (.mov (.t 1)), (some (11, true)), false⟩, ⟨(some 15), (.iaddr 5 (.t 13) (.t 14)), (some (11, true)), false⟩, ⟨(some 16), (.load (some 5) (.t 15)), (some (11, true)), false⟩, ⟨(some 17), (.callv (.t 12) [(.t 16)]), (some (11, true)), false⟩, qo 18 (.pick (.t 11) (.t 17) (.c (.d (.bool false))))]
def Jqz (p : Nums) : IC := (.region (Jq12 p) [])
@[simp] theorem Jez {p : Nums} : EqI (Jqz p) (.region (Jq12 p) []) := eqi
@[simp] def Jq13 (p : Nums) : List IOp := [qo 19 (.mov (.t 1)), qo 20 (.bin .add (.t 19) (ci 1)), qo 1 (.asg (.t 20))]
def Jq10 (p : Nums) : IC := (.region (Jq13 p) [])
@[simp] theorem Je10 {p : Nums} : EqI (Jq10 p) (.region (Jq13 p) []) := eqi
def Jq11 (p : Nums) : IC := (.seq (.seq (Jqz p) (.cond (.t 18) .skip (.exit 0))) (.block 1 (Jq10 p)))
@[simp] theorem Je11 {p : Nums} : EqI (Jq11 p) (.seq (.seq (Jqz p) (.cond (.t 18) .skip (.exit 0))) (.block 1 (Jq10 p))) := eqi
def Jt9x (p : Nums) : IC := (.seq (.region [⟨(some 6), (.asg (.c (.d (.int .i64 0)))), none, false⟩] []) (.seq (.block 0 (.loop (Jq11 p))) (.seq (.region [⟨(some 21), (.mov (.t 1)), none, false⟩, ⟨(some 6), (.asg (.t 21)), none, false⟩] []) .ret)))
@[simp] def Jqw (p : Nums) : List IOp := [qo 3 (.faddr 0 (.t 1)), qo 4 (.load none (.t 3)), qo 5 (.bin .eql (.t 4) (ci 2)), qo 2 (.asg (.t 5))]
def Jqv (p : Nums) : IC := (.region (Jqw p) [])
@[simp] theorem Jev {p : Nums} : EqI (Jqv p) (.region (Jqw p) []) := eqi
def Jt9v (p : Nums) : IC := (.seq (.region [⟨(some 1), (.box (.t 0)), none, false⟩, ⟨(some 2), (.asg (.c (.d (.bool false)))), none, false⟩] []) (.seq (Jqv p) .ret))
@[simp] def Jq17 (p : Nums) : List IOp := [qo 7 (.mov (.t 1)), qo 8 (.mov (.t 0)), qo 9 (.len (.t 8)), qo 10 (.bin .lss (.t 7) (.t 9)), qo 11 (.mov (.t 10)), ⟨(some 12), (.mov (.t 2)), (some (11, true)), false⟩, ⟨(some 13), (.mov (.t 0)), (some (11, true)), false⟩, ⟨(some 14), (.mov (.t 1)), (some (11, true)), false⟩, ⟨(some 15), (.iaddr 7 (.t 13) (.t 14)), (some (11, true)), false⟩, ⟨(some 16), (.load (some 7) (.t 15)), (some (11, true)), false⟩, ⟨(some 17), (.callv (.t 12) [(.t 16)]), (some (11, true)), false⟩, qo 18 (.pick (.t 11) (.t 17) (.c (.d (.bool false))))]
def Jq14 (p : Nums) : IC := (.region (Jq17 p) [])
@[simp] theorem Je14 {p : Nums} : EqI (Jq14 p) (.region (Jq17 p) []) := eqi
@[simp] def Jq18 (p : Nums) : List IOp := [qo 19 (.mov (.t 1)), qo 20 (.bin .add (.t 19) (ci 1)), qo 1 (.asg (.t 20))]
def Jq15 (p : Nums) : IC := (.region (Jq18 p) [])
@[simp] theorem Je15 {p : Nums} : EqI (Jq15 p) (.region (Jq18 p) []) := eqi
def Jq16 (p : Nums) : IC := (.seq (.seq (Jq14 p) (.cond (.t 18) .skip (.exit 0))) (.block 1 (Jq15 p)))
@[simp] theorem Je16 {p : Nums} : EqI (Jq16 p) (.seq (.seq (Jq14 p) (.cond (.t 18) .skip (.exit 0))) (.block 1 (Jq15 p))) := eqi
def Jt9y (p : Nums) : IC := (.seq (.region [⟨(some 6), (.asg (.c (.d (.int .i64 0)))), none, false⟩] []) (.seq (.block 0 (.loop (Jq16 p))) (.seq (.region [⟨(some 21), (.mov (.t 1)), none, false⟩, ⟨(some 6), (.asg (.t 21)), none, false⟩] []) .ret)))
@[simp] def Jqy (p : Nums) : List IOp := [qo 3 (.faddr 0 (.t 1)), qo 4 (.load none (.t 3)), qo 5 (.bin .eql (.t 4) (ci 18)), qo 2 (.asg (.t 5))]
def Jqx (p : Nums) : IC := (.region (Jqy p) [])
@[simp] theorem Jex {p : Nums} : EqI (Jqx p) (.region (Jqy p) []) := eqi
def Jt9w (p : Nums) : IC := (.seq (.region [⟨(some 1), (.box (.t 0)), none, false⟩, ⟨(some 2), (.asg (.c (.d (.bool false)))), none, false⟩] []) (.seq (Jqx p) .ret))
@[simp] def Jqp (p : Nums) : List IOp := [qo 2 (.box (.t 0)), qo 3 (.box (.t 1)), qo 4 (.asg (.c (.d (.bool false))))]
def Jqn (p : Nums) : IC := (.region (Jqp p) [])
@[simp] theorem Jen {p : Nums} : EqI (Jqn p) (.region (Jqp p) []) := eqi
@[simp] def Jqq (p : Nums) : List IOp := [qo 5 (.faddr 0 (.t 2)), qo 6 (.load none (.t 5)), qo 7 (.faddr 0 (.t 3)), qo 8 (.load none (.t 7)), qo 9 (.bin .eql (.t 6) (.t 8)), qo 10 (.mov (.t 9)), ⟨(some 11), (.faddr 4 (.t 2)), (some (10, true)), false⟩, ⟨(some 12), (.load none (.t 11)), (some (10, true)), false⟩, ⟨(some 13), (.faddr 4 (.t 3)), (some (10, true)), false⟩, ⟨(some 14), (.load none (.t 13)), (some (10, true)), false⟩, ⟨(some 15), (.bin .eql (.t 12) (.t 14)), (some (10, true)), false⟩, qo 16 (.pick (.t 10) (.t 15) (.c (.d (.bool false)))), qo 17 (.mov (.t 16)), ⟨(some 18), (.faddr 0 (.t 2)), (some (17, true)), false⟩, ⟨(some 19), (.load none (.t 18)), (some (17, true)), false⟩, ⟨(some 20), (.bin .neq (.t 19) (ci 2)), (some (17, true)), false⟩, qo 21 (.pick (.t 17) (.t 20) (.c (.d (.bool false)))), qo 22 (.mov (.t 21)), ⟨(some 23), (.faddr 0 (.t 2)), (some (22, true)), false⟩, ⟨(some 24), (.load none (.t 23)), (some (22, true)), false⟩, ⟨(some 25), (.bin .neq (.t 24) (ci 18)), (some (22, true)), false⟩, qo 26 (.pick (.t 22) (.t 25) (.c (.d (.bool false)))), qo 4 (.asg (.t 26))]
def Jqo (p : Nums) : IC := (.region (Jqq p) [])
@[simp] theorem Jeo {p : Nums} : EqI (Jqo p) (.region (Jqq p) []) := eqi
def Jt9t (p : Nums) : IC := (.seq (Jqn p) (.seq (Jqo p) .ret))
def Jquw (p : Nums) : IC := (.seq (.region [⟨(some 2), (.asg (.c .nils)), none, false⟩] []) .ret)
@[simp] theorem Jeuw {p : Nums} : EqI (Jquw p) (.seq (.region [⟨(some 2), (.asg (.c .nils)), none, false⟩] []) .ret) := eqi
@[simp] def Jquy (p : Nums) : List IOp := [qo 5 (.bslice 2 0 [(.int .i64 0), (.int .i64 0)] []), qo 6 (.mov (.t 0)), qo 7 (.app 2 16 (.t 5) (.t 6)), qo 2 (.asg (.t 7))]
def Jqux (p : Nums) : IC := (.region (Jquy p) [])
@[simp] theorem Jeux {p : Nums} : EqI (Jqux p) (.region (Jquy p) []) := eqi
def Jtch (p : Nums) : IC := (.seq (.region [⟨(some 2), (.asg (.c .nils)), none, false⟩] []) (.seq (.seq (.region [⟨(some 3), (.mov (.t 0)), none, false⟩, ⟨(some 4), (.isnil false (.t 3)), none, false⟩] []) (.cond (.t 4) (Jquw p) .skip)) (.seq (Jqux p) .ret)))
@[simp] def Jqvh (p : Nums) : List IOp := [qo 6 (.mov (.t 0)), qo 7 (.len (.t 6)), qo 8 (.bin .lss (.t 7) (ci 2))]
def Jquz (p : Nums) : IC := (.region (Jqvh p) [])
@[simp] theorem Jeuz {p : Nums} : EqI (Jquz p) (.region (Jqvh p) []) := eqi
def Jqv9 (p : Nums) : IC := (.seq (.region [⟨(some 9), (.mov (.t 0)), none, false⟩, ⟨(some 2), (.asg (.t 9)), none, false⟩] []) .ret)
@[simp] theorem Jev9 {p : Nums} : EqI (Jqv9 p) (.seq (.region [⟨(some 9), (.mov (.t 0)), none, false⟩, ⟨(some 2), (.asg (.t 9)), none, false⟩] []) .ret) := eqi
@[simp] def Jqvm (p : Nums) : List IOp := [qo 10 (.mov (.t 3)), qo 11 (.mov (.t 0)), qo 12 (.len (.t 11)), qo 13 (.bin .lss (.t 10) (.t 12))]
end Go.AE
