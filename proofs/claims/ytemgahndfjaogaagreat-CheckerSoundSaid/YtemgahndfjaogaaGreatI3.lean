/- A part of the proof: the evaluator over abstract values, its codes, the contracts of the functions. -/
import Derived.Test.YtemgahndfjaogaaGreatI2
import Derived.Sort.Grow
import Derived.Deep.Draws
set_option linter.unusedVariables false
set_option linter.unusedSimpArgs false
set_option maxRecDepth 100000
namespace Go.AE
@[simp] abbrev zi (n : Int) : AV := .d (.int .i64 n)
@[simp] abbrev ci (n : Int) : Opd := .c (.d (.int .i64 n))
@[simp] abbrev qo (d : Nat) (io : AO) : IOp := ⟨some d, io, none, false⟩
@[simp] abbrev qp (d : Nat) (io : AO) : IOp := ⟨some d, io, none, true⟩
@[simp] abbrev qn (io : AO) : IOp := ⟨none, io, none, false⟩
@[simp] abbrev qm (io : AO) : IOp := ⟨none, io, none, true⟩
structure Nums where
 law16_CheckerMatchesReference : Nat
 law16_CheckerOnce : Nat
 law16_CheckerLocal : Nat
 law16_CheckerSubset : Nat
 law16_CheckerKeeps : Nat
 law16_CheckerSound : Nat
 law22_SpillallAccepted : Nat
 law16_awake : Nat
 ref16_Few : Nat
 checker_Valid : Nat
 ref16_Valid : Nat
 checker_Check : Nat
 ref16_Check : Nat
 ref07_Successors : Nat
 checker_Bound : Nat
 ref14_Check : Nat
 ref11_Missing : Nat
 ref16_Copy : Nat
 ref16_Same : Nat
 law16_simulates : Nat
 law22_awake : Nat
 ref07_Few : Nat
 ref07_Check : Nat
 spillall_Cert : Nat
 ref07_Same : Nat
 ref08_Few : Nat
 ref15_Few : Nat
 source_Check : Nat
 machine_Check : Nat
 edge_Valid : Nat
 ref08_Check : Nat
 ref15_Valid : Nat
 checker_begin : Nat
 blockcheck_Check : Nat
 source_Successors : Nat
 edge_Implies : Nat
 ref15_Initial : Nat
 source_Code : Nat
 machine_Code : Nat
 ref14_fail : Nat
 ref13_Code : Nat
 ref13_Terms : Nat
 ref14_grow : Nat
 ref12_Copy : Nat
 ref12_Move : Nat
 ref05_UsesA : Nat
 ref14_use : Nat
 ref05_UsesB : Nat
 ref05_UsesD : Nat
 ref12_Define : Nat
 ref11_Has : Nat
 ref07_Copy : Nat
 ref08_Copy : Nat
 ref08_Same : Nat
 ref15_Same : Nat
 interp_Exec : Nat
 execute_Exec : Nat
 ref09_Values : Nat
 ref09_Prefix : Nat
 spillall_Block : Nat
 spillall_Moves : Nat
 ref07_Code : Nat
 ref07_Instr : Nat
 ref07_Term : Nat
 slices_Clone_Instr : Nat
 spillall_invariant : Nat
 ref08_Code : Nat
 source_block : Nat
 machine_block : Nat
 edge_total : Nat
 edge_pairs : Nat
 ref08_Instr : Nat
 ref08_Moves : Nat
 ref04_InRange : Nat
 ref11_Less : Nat
 edge_Entry : Nat
 align_Code : Nat
 align_Terms : Nat
 pairset_Make : Nat
 blockcheck_checker_run : Nat
 pairset_Missing : Nat
 ref13_Operations : Nat
 ref13_Others : Nat
 ref13_Same : Nat
 ref11_Add : Nat
 ref11_Same : Nat
 interp_begin : Nat
 interp_state_step : Nat
 execute_begin : Nat
 execute_state_step : Nat
 spillall_builder_instr : Nat
 spillall_builder_add : Nat
 spillall_load : Nat
 ref07_in : Nat
 location_Slot : Nat
 source_Instr : Nat
 source_Term : Nat
 machine_Instr : Nat
 location_InRange : Nat
 pairset_Less : Nat
 edge_Initial : Nat
 align_skip_Instr : Nat
 align_copied : Nat
 align_skip_Mach : Nat
 align_moved : Nat
 align_Same : Nat
 slices_Clone_Pair : Nat
 slices_SortFunc_Pair : Nat
 pairset_compare : Nat
 slices_Compact_Pair : Nat
 blockcheck_checker_run_1 : Nat
 blockcheck_checker_row : Nat
 blockcheck_checker_use : Nat
 interp_state_instr : Nat
 interp_state_term : Nat
 execute_state_instr : Nat
 execute_state_term : Nat
 opcode_Of : Nat
 spillall_store : Nat
 location_Reg : Nat
 opcode_Source : Nat
 source_within : Nat
 source_blank : Nat
 opcode_Machine : Nat
 machine_others : Nat
 machine_moves : Nat
 location_IsSlot : Nat
 location_Index : Nat
 slices_pdqsortCmpFunc_Pair : Nat
 math_bits_Len : Nat
 blockcheck_checker_cost : Nat
 blockcheck_checker_become : Nat
 transfer_Copy : Nat
 transfer_Move : Nat
 blockcheck_checker_instr : Nat
 pairset_Has : Nat
 alu_Eval : Nat
 execute_state_compute : Nat
 execute_state_move : Nat
 execute_state_emit : Nat
 opcode_known : Nat
 machine_others_1 : Nat
 machine_others_2 : Nat
 machine_moves_1 : Nat
 machine_moves_2 : Nat
 slices_insertionSortCmpFunc_Pair : Nat
 slices_heapSortCmpFunc_Pair : Nat
 slices_breakPatternsCmpFunc_Pair : Nat
 slices_choosePivotCmpFunc_Pair : Nat
 slices_reverseRangeCmpFunc_Pair : Nat
 slices_partialInsertionSortCmpFunc_Pair : Nat
 slices_partitionEqualCmpFunc_Pair : Nat
 slices_partitionCmpFunc_Pair : Nat
 math_bits_Len32 : Nat
 math_bits_Len64 : Nat
 transfer_rename : Nat
 pairset_DropV : Nat
 transfer_Copy_1 : Nat
 pairset_DropL : Nat
 transfer_Move_1 : Nat
 transfer_Define : Nat
 pairset_find : Nat
 alu_operation : Nat
 execute_state_at : Nat
 slices_siftDownCmpFunc_Pair : Nat
 slices_nextPowerOfTwo : Nat
 slices_xorshift_Next : Nat
 slices_medianAdjacentCmpFunc_Pair : Nat
 slices_medianCmpFunc_Pair : Nat
 pairset_Union : Nat
 pairset_filter : Nat
 pairset_DropV_1 : Nat
 pairset_DropL_1 : Nat
 pairset_Add : Nat
 alu_operation_1 : Nat
 alu_operation_2 : Nat
 alu_operation_3 : Nat
 alu_operation_4 : Nat
 alu_operation_5 : Nat
 alu_operation_6 : Nat
 alu_operation_7 : Nat
 alu_operation_8 : Nat
 alu_operation_9 : Nat
 alu_operation_10 : Nat
 alu_operation_11 : Nat
 alu_truth : Nat
 alu_operation_12 : Nat
 slices_order2CmpFunc_Pair : Nat
 law11_PairsetMatchesReference : Nat
 law11_PairsetMatchesSets : Nat
 law11_PairsetOrder : Nat
 law11_PairsetSubsets : Nat
 law23_LivenessMatchesReference : Nat
 law23_LivenessEquations : Nat
 law23_LivenessSound : Nat
 law23_LivenessNecessary : Nat
 law23_LivenessAppended : Nat
 law11_PairsetDrops : Nat
 law11_PairsetKeeps : Nat
 law11_awake : Nat
 ref11_Make : Nat
 pairset_Sorted : Nat
 ref11_Sorted : Nat
 pairset_Subset : Nat
 law23_awake : Nat
 ref23_Used : Nat
 ref23_Defines : Nat
 ref07_Numbers : Nat
 liveness_Uses : Nat
 liveness_Defs : Nat
 ref23_Same : Nat
 liveness_In : Nat
 ref23_In : Nat
 liveness_Out : Nat
 ref23_Out : Nat
 ref23_Has : Nat
 ref09_Right : Nat
 ref09_Exec : Nat
 ref09_Step : Nat
 ref09_Copy : Nat
 law11_spoil : Nat
 liveness_scan : Nat
 liveness_set_sorted : Nat
 liveness_solve : Nat
 ref23_live : Nat
 liveness_exit : Nat
 ref09_Start : Nat
 ref06_Eval : Nat
 liveness_scan_1 : Nat
 slices_Sort_int : Nat
 ref06_bits : Nat
 ref06_half : Nat
 ref06_truth : Nat
 slices_pdqsortOrdered_int : Nat
 ref06_bit : Nat
 slices_insertionSortOrdered_int : Nat
 slices_heapSortOrdered_int : Nat
 slices_breakPatternsOrdered_int : Nat
 slices_choosePivotOrdered_int : Nat
 slices_reverseRangeOrdered_int : Nat
 slices_partialInsertionSortOrdered_int : Nat
 cmp_Less_int : Nat
 slices_partitionEqualOrdered_int : Nat
 slices_partitionOrdered_int : Nat
 slices_siftDownOrdered_int : Nat
 slices_medianAdjacentOrdered_int : Nat
 slices_medianOrdered_int : Nat
 cmp_isNaN_int : Nat
 slices_order2Ordered_int : Nat
 law12_TransferMatchesReference : Nat
 law12_TransferSound : Nat
 law12_TransferComplete : Nat
 law12_TransferMonotone : Nat
 law12_TransferKeeps : Nat
 law14_BlockcheckMatchesReference : Nat
 law14_BlockcheckSound : Nat
 law14_BlockcheckMonotone : Nat
 law14_BlockcheckSteps : Nat
 law14_BlockcheckKeeps : Nat
 law12_awake : Nat
 law12_known : Nat
 law12_holds : Nat
 law12_subset : Nat
 law14_awake : Nat
 law14_right : Nat
 ref14_Same : Nat
 law14_result : Nat
 ref10_Step : Nat
 ref10_Read : Nat
 law22_SpillallMatchesReference : Nat
 law22_SpillallKeeps : Nat
 law22_SpillallSlots : Nat
 ref22_Cert : Nat
 ref22_Block : Nat
 ref22_move : Nat
 law04_LocationBijection : Nat
 law04_LocationTexts : Nat
 law04_LocationMatchesReference : Nat
 law04_LocationRange : Nat
 law04_awake : Nat
 location_Parse : Nat
 location_Text : Nat
 ref04_Parse : Nat
 ref04_Text : Nat
 strconv_Itoa : Nat
 ref04_Number : Nat
 ref04_Decimal : Nat
 ty_bcfail : Nat
@[simp] def Jqct (p : Nums) : List IOp := [qo 7 (.call p.law16_awake []), qo 8 (.un .not (.t 7)), qo 9 (.mov (.t 8)), ⟨(some 10), (.load (some 8) (.t 3)), (some (9, false)), false⟩, ⟨(some 11), (.call p.ref16_Few [(.t 10)]), (some (9, false)), false⟩, ⟨(some 12), (.un .not (.t 11)), (some (9, false)), false⟩, qo 13 (.pick (.t 9) (.c (.d (.bool true))) (.t 12))]
def Jqco (p : Nums) : IC := (.region (Jqct p) [])
@[simp] theorem Jeco {p : Nums} : EqI (Jqco p) (.region (Jqct p) []) := eqi
def Jqcp (p : Nums) : IC := (.seq (.region [⟨(some 14), (.call p.law16_awake []), none, false⟩, ⟨(some 6), (.asg (.t 14)), none, false⟩] []) .ret)
@[simp] theorem Jecp {p : Nums} : EqI (Jqcp p) (.seq (.region [⟨(some 14), (.call p.law16_awake []), none, false⟩, ⟨(some 6), (.asg (.t 14)), none, false⟩] []) .ret) := eqi
@[simp] def Jqcu (p : Nums) : List IOp := [qo 15 (.load (some 8) (.t 3)), qo 16 (.call p.checker_Check [(.t 15)]), qo 17 (.fld 0 none (.t 16)), qo 18 (.bin .neq (.t 17) (ci 0)), qo 19 (.mov (.t 18)), ⟨(some 20), (.mov (.t 1)), (some (19, false)), false⟩, ⟨(some 21), (.len (.t 20)), (some (19, false)), false⟩, ⟨(some 22), (.faddr 0 (.t 3)), (some (19, false)), false⟩, ⟨(some 23), (.faddr 0 (.t 22)), (some (19, false)), false⟩, ⟨(some 24), (.load none (.t 23)), (some (19, false)), false⟩, ⟨(some 25), (.bin .neq (.t 21) (.t 24)), (some (19, false)), false⟩, qo 26 (.pick (.t 19) (.c (.d (.bool true))) (.t 25))]
def Jqcq (p : Nums) : IC := (.region (Jqcu p) [])
@[simp] theorem Jecq {p : Nums} : EqI (Jqcq p) (.region (Jqcu p) []) := eqi
def Jqcr (p : Nums) : IC := (.seq (.region [⟨(some 6), (.asg (.c (.d (.bool true)))), none, false⟩] []) .ret)
@[simp] theorem Jecr {p : Nums} : EqI (Jqcr p) (.seq (.region [⟨(some 6), (.asg (.c (.d (.bool true)))), none, false⟩] []) .ret) := eqi
@[simp] def Jqcv (p : Nums) : List IOp := [qo 27 (.load (some 8) (.t 3)), qo 28 (.mov (.t 1)), qo 29 (.mov (.t 2)), qo 30 (.conv .i64 (.t 29)), qo 31 (.call p.law16_simulates [(.t 27), (.t 28), (.t 30)]), qo 6 (.asg (.t 31))]
def Jqcs (p : Nums) : IC := (.region (Jqcv p) [])
@[simp] theorem Jecs {p : Nums} : EqI (Jqcs p) (.region (Jqcv p) []) := eqi
def Jtd1 (p : Nums) : IC := (.seq (.region [⟨(some 3), (.box (.t 0)), none, false⟩, ⟨(some 6), (.asg (.c (.d (.bool false)))), none, false⟩] []) (.seq (.seq (Jqco p) (.cond (.t 13) (Jqcp p) .skip)) (.seq (.seq (Jqcq p) (.cond (.t 26) (Jqcr p) .skip)) (.seq (Jqcs p) .ret))))
@[simp] def Jqd3 (p : Nums) : List IOp := [qo 6 (.build [(zi 0), (zi 0), (zi 0), (zi 0)] [(0, 1, (ci 3))]), qo 1 (.alloc [(zi 0), (zi 0), (zi 0), (zi 0)]), qn (.store 4 (.t 1) (.t 6))]
def Jqcw (p : Nums) : IC := (.region (Jqd3 p) [])
@[simp] theorem Jecw {p : Nums} : EqI (Jqcw p) (.region (Jqd3 p) []) := eqi
@[simp] def Jqd4 (p : Nums) : List IOp := [qo 7 (.load (some 4) (.t 1)), qo 8 (.build [.nils, (zi 0), (zi 0), (zi 0), (zi 0)] [(1, 4, (.t 7))]), qo 9 (.bslice 5 1 [(.sl []), (.int .i64 0), (.int .i64 0), (.int .i64 0), (.int .i64 0)] [(0, (.t 8))]), qo 10 (.build [(zi 0), (zi 0), .nils] [(1, 1, (ci 1)), (2, 1, (.t 9))]), qo 11 (.load (some 4) (.t 1)), qo 12 (.build [.nils, (zi 0), (zi 0), (zi 0), (zi 0)] [(1, 4, (.t 11))]), qo 13 (.bslice 5 1 [(.sl []), (.int .i64 0), (.int .i64 0), (.int .i64 0), (.int .i64 0)] [(0, (.t 12))]), qo 14 (.build [(zi 0), (zi 0), (zi 0), .nils] [(1, 1, (ci 1)), (3, 1, (.t 13))]), qo 15 (.bslice 2 0 [(.int .i64 0), (.int .i64 0)] []), qo 16 (.bslice 1 1 [(.sl [])] [(0, (.t 15))]), qo 17 (.build [(zi 0), (zi 0), .nils, (zi 0), (zi 0), (zi 0), .nils, .nils] [(0, 3, (.t 10)), (3, 4, (.t 14)), (7, 1, (.t 16))]), qo 2 (.alloc [(zi 0), (zi 0), .nils, (zi 0), (zi 0), (zi 0), .nils, .nils]), qn (.store 8 (.t 2) (.t 17))]
def Jqcx (p : Nums) : IC := (.region (Jqd4 p) [])
@[simp] theorem Jecx {p : Nums} : EqI (Jqcx p) (.region (Jqd4 p) []) := eqi
@[simp] def Jqd5 (p : Nums) : List IOp := [qo 18 (.load (some 8) (.t 2)), qo 3 (.alloc [(zi 0), (zi 0), .nils, (zi 0), (zi 0), (zi 0), .nils, .nils]), qn (.store 8 (.t 3) (.t 18))]
def Jqcy (p : Nums) : IC := (.region (Jqd5 p) [])
@[simp] theorem Jecy {p : Nums} : EqI (Jqcy p) (.region (Jqd5 p) []) := eqi
@[simp] def Jqd6 (p : Nums) : List IOp := [qo 19 (.build [(zi 0), (zi 0)] [(0, 1, (ci 0)), (1, 1, (ci 0))]), qo 20 (.bslice 2 1 [(.int .i64 0), (.int .i64 0)] [(0, (.t 19))]), qo 21 (.bslice 1 1 [(.sl [])] [(0, (.t 20))]), qo 22 (.faddr 7 (.t 3)), qn (.store 1 (.t 22) (.t 21))]
def Jqcz (p : Nums) : IC := (.region (Jqd6 p) [])
@[simp] theorem Jecz {p : Nums} : EqI (Jqcz p) (.region (Jqd6 p) []) := eqi
@[simp] def Jqd7 (p : Nums) : List IOp := [qo 23 (.load (some 8) (.t 2)), qo 24 (.call p.checker_Check [(.t 23)]), qo 4 (.alloc [(zi 0), (zi 0), (zi 0), (zi 0), (zi 0), (zi 0), (zi 0)]), qn (.store 7 (.t 4) (.t 24))]
def Jqd0 (p : Nums) : IC := (.region (Jqd7 p) [])
@[simp] theorem Jed0 {p : Nums} : EqI (Jqd0 p) (.region (Jqd7 p) []) := eqi
@[simp] def Jqd8 (p : Nums) : List IOp := [qo 25 (.load (some 8) (.t 3)), qo 26 (.call p.checker_Check [(.t 25)]), qo 5 (.alloc [(zi 0), (zi 0), (zi 0), (zi 0), (zi 0), (zi 0), (zi 0)]), qn (.store 7 (.t 5) (.t 26))]
def Jqd1 (p : Nums) : IC := (.region (Jqd8 p) [])
@[simp] theorem Jed1 {p : Nums} : EqI (Jqd1 p) (.region (Jqd8 p) []) := eqi
@[simp] def Jqd9 (p : Nums) : List IOp := [qo 27 (.load (some 7) (.t 4)), qo 28 (.build [(zi 0), (zi 0), (zi 0), (zi 0), (zi 0), (zi 0), (zi 0)] [(0, 1, (ci 21)), (3, 1, (ci 1)), (5, 1, (ci 2))]), qo 29 (.eqs false [.int, .int, .int, .int, .int, .int, .int] (.t 27) (.t 28)), qo 30 (.mov (.t 29)), ⟨(some 31), (.load (some 7) (.t 5)), (some (30, true)), false⟩, ⟨(some 32), (.build [(zi 0), (zi 0), (zi 0), (zi 0), (zi 0), (zi 0), (zi 0)] [(3, 1, (ci 1)), (5, 1, (ci 4)), (6, 1, (ci 1))]), (some (30, true)), false⟩, ⟨(some 33), (.eqs false [.int, .int, .int, .int, .int, .int, .int] (.t 31) (.t 32)), (some (30, true)), false⟩, qo 34 (.pick (.t 30) (.t 33) (.c (.d (.bool false)))), qo 35 (.mov (.t 34)), ⟨(some 36), (.load (some 8) (.t 2)), (some (35, true)), false⟩, ⟨(some 37), (.call p.checker_Valid [(.t 36)]), (some (35, true)), false⟩, ⟨(some 38), (.bin .eql (.t 37) (ci 0)), (some (35, true)), false⟩, qo 39 (.pick (.t 35) (.t 38) (.c (.d (.bool false)))), qo 40 (.mov (.t 39)), ⟨(some 41), (.build [(zi 0), (zi 0), .nils, (zi 0), (zi 0), (zi 0), .nils, .nils] []), (some (40, true)), false⟩, ⟨(some 42), (.call p.checker_Valid [(.t 41)]), (some (40, true)), false⟩, ⟨(some 43), (.bin .eql (.t 42) (ci 14)), (some (40, true)), false⟩, qo 44 (.pick (.t 40) (.t 43) (.c (.d (.bool false)))), qo 45 (.mov (.t 44)), ⟨(some 46), (.load (some 8) (.t 3)), (some (45, true)), false⟩, ⟨(some 47), (.call p.checker_Bound [(.t 46), (ci 1)]), (some (45, true)), false⟩, ⟨(some 48), (.bin .eql (.t 47) (ci 12)), (some (45, true)), false⟩, qo 49 (.pick (.t 45) (.t 48) (.c (.d (.bool false)))), qo 50 (.mov (.t 49)), ⟨(some 51), (.build [(zi 0), (zi 0), .nils, (zi 0), (zi 0), (zi 0), .nils, .nils] []), (some (50, true)), false⟩, ⟨(some 52), (.call p.checker_Check [(.t 51)]), (some (50, true)), false⟩, ⟨(some 53), (.build [(zi 0), (zi 0), (zi 0), (zi 0), (zi 0), (zi 0), (zi 0)] [(0, 1, (ci 14))]), (some (50, true)), false⟩, ⟨(some 54), (.eqs false [.int, .int, .int, .int, .int, .int, .int] (.t 52) (.t 53)), (some (50, true)), false⟩, qo 55 (.pick (.t 50) (.t 54) (.c (.d (.bool false)))), qo 0 (.asg (.t 55))]
def Jqd2 (p : Nums) : IC := (.region (Jqd9 p) [])
@[simp] theorem Jed2 {p : Nums} : EqI (Jqd2 p) (.region (Jqd9 p) []) := eqi
def Jtd2 (p : Nums) : IC := (.seq (.region [⟨(some 0), (.asg (.c (.d (.bool false)))), none, false⟩] []) (.seq (Jqcw p) (.seq (Jqcx p) (.seq (Jqcy p) (.seq (Jqcz p) (.seq (Jqd0 p) (.seq (Jqd1 p) (.seq (Jqd2 p) .ret))))))))
@[simp] def Jqm0 (p : Nums) : List IOp := [qo 3 (.faddr 0 (.t 1)), qo 4 (.load (some 3) (.t 3)), qo 5 (.call p.ref07_Few [(.t 4)]), qo 6 (.mov (.t 5)), ⟨(some 7), (.faddr 3 (.t 1)), (some (6, true)), false⟩, ⟨(some 8), (.load (some 4) (.t 7)), (some (6, true)), false⟩, ⟨(some 9), (.call p.ref08_Few [(.t 8)]), (some (6, true)), false⟩, qo 10 (.pick (.t 6) (.t 9) (.c (.d (.bool false)))), qo 11 (.mov (.t 10)), ⟨(some 12), (.faddr 7 (.t 1)), (some (11, true)), false⟩, ⟨(some 13), (.load none (.t 12)), (some (11, true)), false⟩, ⟨(some 14), (.call p.ref15_Few [(.t 13)]), (some (11, true)), false⟩, qo 15 (.pick (.t 11) (.t 14) (.c (.d (.bool false)))), qo 2 (.asg (.t 15))]
def Jqlz (p : Nums) : IC := (.region (Jqm0 p) [])
@[simp] theorem Jelz {p : Nums} : EqI (Jqlz p) (.region (Jqm0 p) []) := eqi
def Jte6 (p : Nums) : IC := (.seq (.region [⟨(some 1), (.box (.t 0)), none, false⟩, ⟨(some 2), (.asg (.c (.d (.bool false)))), none, false⟩] []) (.seq (Jqlz p) .ret))
@[simp] def Jq6o (p : Nums) : List IOp := [qo 5 (.faddr 0 (.t 1)), qo 6 (.load (some 3) (.t 5)), qo 7 (.call p.source_Check [(.t 6)]), qo 3 (.asg (.t 7))]
def Jq6h (p : Nums) : IC := (.region (Jq6o p) [])
@[simp] theorem Je6h {p : Nums} : EqI (Jq6h p) (.region (Jq6o p) []) := eqi
def Jq6i (p : Nums) : IC := (.seq (.region [⟨(some 10), (.mov (.t 3)), none, false⟩, ⟨(some 2), (.asg (.t 10)), none, false⟩] []) .ret)
@[simp] theorem Je6i {p : Nums} : EqI (Jq6i p) (.seq (.region [⟨(some 10), (.mov (.t 3)), none, false⟩, ⟨(some 2), (.asg (.t 10)), none, false⟩] []) .ret) := eqi
@[simp] def Jq6p (p : Nums) : List IOp := [qo 11 (.faddr 3 (.t 1)), qo 12 (.load (some 4) (.t 11)), qo 13 (.call p.machine_Check [(.t 12)]), qo 4 (.asg (.t 13))]
def Jq6j (p : Nums) : IC := (.region (Jq6p p) [])
@[simp] theorem Je6j {p : Nums} : EqI (Jq6j p) (.region (Jq6p p) []) := eqi
def Jq6k (p : Nums) : IC := (.seq (.region [⟨(some 16), (.mov (.t 4)), none, false⟩, ⟨(some 2), (.asg (.t 16)), none, false⟩] []) .ret)
@[simp] theorem Je6k {p : Nums} : EqI (Jq6k p) (.seq (.region [⟨(some 16), (.mov (.t 4)), none, false⟩, ⟨(some 2), (.asg (.t 16)), none, false⟩] []) .ret) := eqi
@[simp] def Jq6q (p : Nums) : List IOp := [qo 17 (.faddr 0 (.t 1)), qo 18 (.faddr 2 (.t 17)), qo 19 (.load none (.t 18)), qo 20 (.len (.t 19)), qo 21 (.faddr 3 (.t 1)), qo 22 (.faddr 3 (.t 21)), qo 23 (.load none (.t 22)), qo 24 (.len (.t 23)), qo 25 (.bin .neq (.t 20) (.t 24)), qo 26 (.mov (.t 25)), ⟨(some 27), (.faddr 0 (.t 1)), (some (26, false)), false⟩, ⟨(some 28), (.faddr 0 (.t 27)), (some (26, false)), false⟩, ⟨(some 29), (.load none (.t 28)), (some (26, false)), false⟩, ⟨(some 30), (.faddr 3 (.t 1)), (some (26, false)), false⟩, ⟨(some 31), (.faddr 0 (.t 30)), (some (26, false)), false⟩, ⟨(some 32), (.load none (.t 31)), (some (26, false)), false⟩, ⟨(some 33), (.bin .neq (.t 29) (.t 32)), (some (26, false)), false⟩, qo 34 (.pick (.t 26) (.c (.d (.bool true))) (.t 33))]
def Jq6l (p : Nums) : IC := (.region (Jq6q p) [])
@[simp] theorem Je6l {p : Nums} : EqI (Jq6l p) (.region (Jq6q p) []) := eqi
def Jq6m (p : Nums) : IC := (.seq (.region [⟨(some 2), (.asg (.c (.d (.int .i64 14)))), none, false⟩] []) .ret)
@[simp] theorem Je6m {p : Nums} : EqI (Jq6m p) (.seq (.region [⟨(some 2), (.asg (.c (.d (.int .i64 14)))), none, false⟩] []) .ret) := eqi
@[simp] def Jq6r (p : Nums) : List IOp := [qo 35 (.faddr 7 (.t 1)), qo 36 (.load none (.t 35)), qo 37 (.faddr 0 (.t 1)), qo 38 (.faddr 2 (.t 37)), qo 39 (.load none (.t 38)), qo 40 (.len (.t 39)), qo 41 (.faddr 0 (.t 1)), qo 42 (.faddr 1 (.t 41)), qo 43 (.load none (.t 42)), qo 44 (.faddr 3 (.t 1)), qo 45 (.faddr 1 (.t 44)), qo 46 (.load none (.t 45)), qo 47 (.faddr 3 (.t 1)), qo 48 (.faddr 2 (.t 47)), qo 49 (.load none (.t 48)), qo 50 (.call p.edge_Valid [(.t 36), (.t 40), (.t 43), (.t 46), (.t 49)]), qo 2 (.asg (.t 50))]
def Jq6n (p : Nums) : IC := (.region (Jq6r p) [])
@[simp] theorem Je6n {p : Nums} : EqI (Jq6n p) (.region (Jq6r p) []) := eqi
def Jtcf (p : Nums) : IC := (.seq (.region [⟨(some 1), (.box (.t 0)), none, false⟩, ⟨(some 2), (.asg (.c (.d (.int .i64 0)))), none, false⟩] []) (.seq (.seq (Jq6h p) (.seq (.region [⟨(some 8), (.mov (.t 3)), none, false⟩, ⟨(some 9), (.bin .neq (.t 8) (.c (.d (.int .i64 0)))), none, false⟩] []) (.cond (.t 9) (Jq6i p) .skip))) (.seq (.seq (Jq6j p) (.seq (.region [⟨(some 14), (.mov (.t 4)), none, false⟩, ⟨(some 15), (.bin .neq (.t 14) (.c (.d (.int .i64 0)))), none, false⟩] []) (.cond (.t 15) (Jq6k p) .skip))) (.seq (.seq (Jq6l p) (.cond (.t 34) (Jq6m p) .skip)) (.seq (Jq6n p) .ret)))))
@[simp] def Jq61 (p : Nums) : List IOp := [qo 1 (.box (.t 0)), qo 2 (.alloc [(zi 0), (zi 0), (zi 0), (zi 0), (zi 0), (zi 0), (zi 0)])]
def Jq5g (p : Nums) : IC := (.region (Jq61 p) [])
@[simp] theorem Je5g {p : Nums} : EqI (Jq5g p) (.region (Jq61 p) []) := eqi
@[simp] def Jq6a (p : Nums) : List IOp := [qo 12 (.load (some 8) (.t 1)), qo 13 (.call p.checker_Valid [(.t 12)]), qo 3 (.asg (.t 13))]
def Jq5r (p : Nums) : IC := (.region (Jq6a p) [])
@[simp] theorem Je5r {p : Nums} : EqI (Jq5r p) (.region (Jq6a p) []) := eqi
@[simp] def Jq6b (p : Nums) : List IOp := [qo 16 (.mov (.t 3)), qo 17 (.build [(zi 0), (zi 0), (zi 0), (zi 0), (zi 0), (zi 0), (zi 0)] [(0, 1, (.t 16))]), qn (.store 7 (.t 2) (.t 17))]
def Jq5u (p : Nums) : IC := (.region (Jq6b p) [])
@[simp] theorem Je5u {p : Nums} : EqI (Jq5u p) (.region (Jq6b p) []) := eqi
@[simp] def Jq6c (p : Nums) : List IOp := [qo 18 (.load (some 8) (.t 1)), qo 19 (.call p.checker_begin [(.t 18)]), qo 4 (.alloc [(zi 0), (zi 0), (zi 0), (zi 0), (zi 0), (zi 0), (zi 0)]), qn (.store 7 (.t 4) (.t 19))]
def Jq5v (p : Nums) : IC := (.region (Jq6c p) [])
@[simp] theorem Je5v {p : Nums} : EqI (Jq5v p) (.region (Jq6c p) []) := eqi
@[simp] def Jq6d (p : Nums) : List IOp := [qo 20 (.faddr 0 (.t 4)), qo 21 (.load none (.t 20)), qo 22 (.bin .neq (.t 21) (ci 0))]
def Jq5w (p : Nums) : IC := (.region (Jq6d p) [])
@[simp] theorem Je5w {p : Nums} : EqI (Jq5w p) (.region (Jq6d p) []) := eqi
def Jq5x (p : Nums) : IC := (.seq (.region [⟨(some 23), (.load (some 7) (.t 4)), none, false⟩, ⟨none, (.store 7 (.t 2) (.t 23)), none, false⟩] []) .ret)
@[simp] theorem Je5x {p : Nums} : EqI (Jq5x p) (.seq (.region [⟨(some 23), (.load (some 7) (.t 4)), none, false⟩, ⟨none, (.store 7 (.t 2) (.t 23)), none, false⟩] []) .ret) := eqi
@[simp] def Jq6e (p : Nums) : List IOp := [qo 24 (.faddr 0 (.t 1)), qo 25 (.faddr 2 (.t 24)), qo 26 (.load none (.t 25)), qo 27 (.len (.t 26)), qo 28 (.mov (ci 0))]
def Jq5y (p : Nums) : IC := (.region (Jq6e p) [])
@[simp] theorem Je5y {p : Nums} : EqI (Jq5y p) (.region (Jq6e p) []) := eqi
@[simp] def Jq6f (p : Nums) : List IOp := [qo 30 (.mov (.t 28)), qo 31 (.iaddr 5 (.t 26) (.t 28)), qo 32 (.load (some 5) (.t 31)), qo 6 (.alloc [.nils, (zi 0), (zi 0), (zi 0), (zi 0)]), qo 5 (.asg (.t 30)), qn (.store 5 (.t 6) (.t 32))]
def Jq5z (p : Nums) : IC := (.region (Jq6f p) [])
@[simp] theorem Je5z {p : Nums} : EqI (Jq5z p) (.region (Jq6f p) []) := eqi
@[simp] def Jq6g (p : Nums) : List IOp := [qp 33 (.load (some 5) (.t 6)), qp 34 (.faddr 3 (.t 1)), qp 35 (.faddr 3 (.t 34)), qp 36 (.load none (.t 35)), qp 37 (.mov (.t 5)), qp 38 (.iaddr 5 (.t 36) (.t 37)), qp 39 (.load (some 5) (.t 38)), qp 40 (.faddr 7 (.t 1)), qp 41 (.load none (.t 40)), qp 42 (.mov (.t 5)), qp 43 (.iaddr 1 (.t 41) (.t 42)), qp 44 (.load none (.t 43)), qp 45 (.call p.blockcheck_Check [(.t 33), (.t 39), (.t 44), (ci 1048576)]), qp 7 (.alloc [.nils, (zi 0), (zi 0), (zi 0), (zi 0)]), qn (.store 5 (.t 7) (.t 45))]
def Jq60 (p : Nums) : IC := (.region (Jq6g p) [])
@[simp] theorem Je60 {p : Nums} : EqI (Jq60 p) (.region (Jq6g p) []) := eqi
@[simp] def Jq62 (p : Nums) : List IOp := [qp 46 (.faddr 3 (.t 4)), qp 47 (.load none (.t 46)), qp 48 (.bin .add (.t 47) (ci 1)), qp 49 (.faddr 5 (.t 4)), qp 50 (.load none (.t 49)), qp 51 (.faddr 3 (.t 7)), qp 52 (.load none (.t 51)), qp 53 (.bin .add (.t 50) (.t 52)), qp 54 (.faddr 6 (.t 4)), qp 55 (.load none (.t 54)), qp 56 (.faddr 4 (.t 7)), qp 57 (.load none (.t 56)), qp 58 (.mx (.t 55) (.t 57)), qp 59 (.faddr 3 (.t 4)), qm (.storeq 1 (.t 59) (.t 48) [(51, 1), (56, 1)]), qp 60 (.faddr 5 (.t 4)), qm (.storeq 1 (.t 60) (.t 53) [(56, 1)]), qo 61 (.faddr 6 (.t 4)), qn (.store 1 (.t 61) (.t 58))]
def Jq5h (p : Nums) : IC := (.region (Jq62 p) [])
@[simp] theorem Je5h {p : Nums} : EqI (Jq5h p) (.region (Jq62 p) []) := eqi
@[simp] def Jq63 (p : Nums) : List IOp := [qo 62 (.faddr 1 (.t 7)), qo 63 (.load none (.t 62)), qo 64 (.bin .neq (.t 63) (ci 0))]
def Jq5i (p : Nums) : IC := (.region (Jq63 p) [])
@[simp] theorem Je5i {p : Nums} : EqI (Jq5i p) (.region (Jq63 p) []) := eqi
@[simp] def Jq64 (p : Nums) : List IOp := [qp 65 (.faddr 1 (.t 7)), qp 66 (.load none (.t 65)), qp 67 (.mov (.t 5)), qp 68 (.faddr 2 (.t 7)), qp 69 (.load none (.t 68)), qp 70 (.faddr 0 (.t 4)), qm (.storeq 1 (.t 70) (.t 66) [(68, 1)]), qp 71 (.faddr 1 (.t 4)), qm (.storeq 1 (.t 71) (.t 67) [(68, 1)]), qo 72 (.faddr 2 (.t 4)), qn (.store 1 (.t 72) (.t 69))]
def Jq5j (p : Nums) : IC := (.region (Jq64 p) [])
@[simp] theorem Je5j {p : Nums} : EqI (Jq5j p) (.region (Jq64 p) []) := eqi
@[simp] def Jq65 (p : Nums) : List IOp := [qo 73 (.faddr 1 (.t 6)), qo 74 (.load (some 4) (.t 73)), qo 75 (.call p.source_Successors [(.t 74)]), qo 76 (.len (.t 75)), qo 77 (.mov (ci 0))]
def Jq5k (p : Nums) : IC := (.region (Jq65 p) [])
@[simp] theorem Je5k {p : Nums} : EqI (Jq5k p) (.region (Jq65 p) []) := eqi
@[simp] def Jq66 (p : Nums) : List IOp := [qo 79 (.mov (.t 77)), qo 80 (.iaddr 1 (.t 75) (.t 77)), qo 81 (.load none (.t 80)), qo 8 (.asg (.t 79)), qo 9 (.asg (.t 81))]
def Jq5l (p : Nums) : IC := (.region (Jq66 p) [])
@[simp] theorem Je5l {p : Nums} : EqI (Jq5l p) (.region (Jq66 p) []) := eqi
@[simp] def Jq67 (p : Nums) : List IOp := [qp 82 (.faddr 4 (.t 4)), qp 83 (.load none (.t 82)), qp 84 (.bin .add (.t 83) (ci 1)), qp 85 (.faddr 5 (.t 4)), qp 86 (.load none (.t 85)), qp 87 (.bin .add (.t 86) (ci 1)), qp 88 (.faddr 0 (.t 7)), qp 89 (.load none (.t 88)), qp 90 (.len (.t 89)), qp 91 (.bin .add (.t 87) (.t 90)), qp 92 (.faddr 7 (.t 1)), qp 93 (.load none (.t 92)), qp 94 (.mov (.t 9)), qp 95 (.iaddr 1 (.t 93) (.t 94)), qp 96 (.load none (.t 95)), qp 97 (.len (.t 96)), qp 98 (.bin .add (.t 91) (.t 97)), qp 99 (.faddr 4 (.t 4)), qm (.storeq 1 (.t 99) (.t 84) [(88, 1), (92, 1), (95, 1)]), qo 100 (.faddr 5 (.t 4)), qn (.store 1 (.t 100) (.t 98))]
def Jq5m (p : Nums) : IC := (.region (Jq67 p) [])
@[simp] theorem Je5m {p : Nums} : EqI (Jq5m p) (.region (Jq67 p) []) := eqi
@[simp] def Jq68 (p : Nums) : List IOp := [qp 102 (.faddr 0 (.t 7)), qp 103 (.load none (.t 102)), qp 104 (.faddr 7 (.t 1)), qp 105 (.load none (.t 104)), qp 106 (.mov (.t 9)), qp 107 (.iaddr 1 (.t 105) (.t 106)), qp 108 (.load none (.t 107)), qp 109 (.call p.edge_Implies [(.t 103), (.t 108)]), qp 101 (.mov (.t 109)), qp 110 (.ext (.t 101) 0), qp 111 (.ext (.t 101) 1), qp 10 (.alloc [(zi 0), (zi 0)]), qm (.storeq 2 (.t 10) (.t 110) []), qo 11 (.asg (.t 111))]
def Jq5n (p : Nums) : IC := (.region (Jq68 p) [])
@[simp] theorem Je5n {p : Nums} : EqI (Jq5n p) (.region (Jq68 p) []) := eqi
@[simp] def Jq69 (p : Nums) : List IOp := [qo 114 (.mov (.t 11)), qo 115 (.mov (.t 5)), qo 116 (.mov (.t 8)), qo 117 (.faddr 0 (.t 4)), qn (.store 1 (.t 117) (.t 114)), qo 118 (.faddr 1 (.t 4)), qn (.store 1 (.t 118) (.t 115)), qo 119 (.faddr 2 (.t 4)), qn (.store 1 (.t 119) (.t 116))]
def Jq5o (p : Nums) : IC := (.region (Jq69 p) [])
@[simp] theorem Je5o {p : Nums} : EqI (Jq5o p) (.region (Jq69 p) []) := eqi
def Jq5p (p : Nums) : IC := (.seq (Jq5l p) (.seq (Jq5m p) (.seq (Jq5n p) (.seq (.region [⟨(some 112), (.mov (.t 11)), none, false⟩, ⟨(some 113), (.bin .neq (.t 112) (.c (.d (.int .i64 0)))), none, false⟩] []) (.cond (.t 113) (.seq (Jq5o p) (.exit 0)) .skip)))))
@[simp] theorem Je5p {p : Nums} : EqI (Jq5p p) (.seq (Jq5l p) (.seq (Jq5m p) (.seq (Jq5n p) (.seq (.region [⟨(some 112), (.mov (.t 11)), none, false⟩, ⟨(some 113), (.bin .neq (.t 112) (.c (.d (.int .i64 0)))), none, false⟩] []) (.cond (.t 113) (.seq (Jq5o p) (.exit 0)) .skip))))) := eqi
def Jq5q (p : Nums) : IC := (.seq (.region [⟨(some 78), (.bin .lss (.t 77) (.t 76)), none, false⟩] []) (.seq (.cond (.t 78) .skip (.exit 2)) (.seq (.block 3 (Jq5p p)) (.region [⟨(some 120), (.bin .add (.t 77) (.c (.d (.int .i64 1)))), none, false⟩, ⟨(some 77), (.mov (.t 120)), none, false⟩] []))))
@[simp] theorem Je5q {p : Nums} : EqI (Jq5q p) (.seq (.region [⟨(some 78), (.bin .lss (.t 77) (.t 76)), none, false⟩] []) (.seq (.cond (.t 78) .skip (.exit 2)) (.seq (.block 3 (Jq5p p)) (.region [⟨(some 120), (.bin .add (.t 77) (.c (.d (.int .i64 1)))), none, false⟩, ⟨(some 77), (.mov (.t 120)), none, false⟩] [])))) := eqi
def Jq5s (p : Nums) : IC := (.seq (Jq5z p) (.seq (Jq60 p) (.seq (Jq5h p) (.seq (.seq (Jq5i p) (.cond (.t 64) (.seq (Jq5j p) (.exit 0)) .skip)) (.seq (Jq5k p) (.block 2 (.loop (Jq5q p))))))))
@[simp] theorem Je5s {p : Nums} : EqI (Jq5s p) (.seq (Jq5z p) (.seq (Jq60 p) (.seq (Jq5h p) (.seq (.seq (Jq5i p) (.cond (.t 64) (.seq (Jq5j p) (.exit 0)) .skip)) (.seq (Jq5k p) (.block 2 (.loop (Jq5q p)))))))) := eqi
def Jq5t (p : Nums) : IC := (.seq (.region [⟨(some 29), (.bin .lss (.t 28) (.t 27)), none, false⟩] []) (.seq (.cond (.t 29) .skip (.exit 0)) (.seq (.block 1 (Jq5s p)) (.region [⟨(some 121), (.bin .add (.t 28) (.c (.d (.int .i64 1)))), none, false⟩, ⟨(some 28), (.mov (.t 121)), none, false⟩] []))))
@[simp] theorem Je5t {p : Nums} : EqI (Jq5t p) (.seq (.region [⟨(some 29), (.bin .lss (.t 28) (.t 27)), none, false⟩] []) (.seq (.cond (.t 29) .skip (.exit 0)) (.seq (.block 1 (Jq5s p)) (.region [⟨(some 121), (.bin .add (.t 28) (.c (.d (.int .i64 1)))), none, false⟩, ⟨(some 28), (.mov (.t 121)), none, false⟩] [])))) := eqi
def Jtce (p : Nums) : IC := (.seq (Jq5g p) (.seq (.seq (Jq5r p) (.seq (.region [⟨(some 14), (.mov (.t 3)), none, false⟩, ⟨(some 15), (.bin .neq (.t 14) (.c (.d (.int .i64 0)))), none, false⟩] []) (.cond (.t 15) (.seq (Jq5u p) .ret) .skip))) (.seq (Jq5v p) (.seq (.seq (Jq5w p) (.cond (.t 22) (Jq5x p) .skip)) (.seq .skip (.seq (.seq (Jq5y p) (.block 0 (.loop (Jq5t p)))) (.seq (.region [⟨(some 122), (.load (some 7) (.t 4)), none, false⟩, ⟨none, (.store 7 (.t 2) (.t 122)), none, false⟩] []) .ret)))))))
@[simp] def Jq5b (p : Nums) : List IOp := [qp 8 (.faddr 0 (.t 2)), qp 9 (.load (some 3) (.t 8)), qp 10 (.call p.source_Code [(.t 9)]), qp 11 (.faddr 3 (.t 2)), qp 12 (.load (some 4) (.t 11)), qp 13 (.call p.machine_Code [(.t 12)]), qp 14 (.bin .add (.t 10) (.t 13)), qp 15 (.faddr 0 (.t 2)), qp 16 (.faddr 2 (.t 15)), qp 17 (.load none (.t 16)), qp 18 (.len (.t 17)), qo 19 (.bin .add (.t 14) (.t 18)), qo 20 (.bin .add (.t 19) (ci 1)), qo 5 (.asg (.t 20))]
def Jq55 (p : Nums) : IC := (.region (Jq5b p) [])
@[simp] theorem Je55 {p : Nums} : EqI (Jq55 p) (.region (Jq5b p) []) := eqi
@[simp] def Jq5c (p : Nums) : List IOp := [qo 21 (.faddr 0 (.t 2)), qo 22 (.faddr 2 (.t 21)), qo 23 (.load none (.t 22)), qo 24 (.len (.t 23)), qo 25 (.mov (ci 0))]
def Jq56 (p : Nums) : IC := (.region (Jq5c p) [])
@[simp] theorem Je56 {p : Nums} : EqI (Jq56 p) (.region (Jq5c p) []) := eqi
@[simp] def Jq5d (p : Nums) : List IOp := [qo 27 (.iaddr 5 (.t 23) (.t 25)), qo 28 (.load (some 5) (.t 27)), qo 7 (.alloc [.nils, (zi 0), (zi 0), (zi 0), (zi 0)]), qn (.store 5 (.t 7) (.t 28))]
def Jq57 (p : Nums) : IC := (.region (Jq5d p) [])
@[simp] theorem Je57 {p : Nums} : EqI (Jq57 p) (.region (Jq5d p) []) := eqi
@[simp] def Jq5e (p : Nums) : List IOp := [qo 29 (.mov (.t 5)), qo 30 (.faddr 1 (.t 7)), qo 31 (.load (some 4) (.t 30)), qo 32 (.call p.source_Successors [(.t 31)]), qo 33 (.len (.t 32)), qo 34 (.bin .add (.t 29) (.t 33)), qo 5 (.asg (.t 34))]
def Jq58 (p : Nums) : IC := (.region (Jq5e p) [])
@[simp] theorem Je58 {p : Nums} : EqI (Jq58 p) (.region (Jq5e p) []) := eqi
def Jq59 (p : Nums) : IC := (.seq (.region [⟨(some 26), (.bin .lss (.t 25) (.t 24)), none, false⟩] []) (.seq (.cond (.t 26) .skip (.exit 0)) (.seq (.block 1 (.seq (Jq57 p) (Jq58 p))) (.region [⟨(some 35), (.bin .add (.t 25) (.c (.d (.int .i64 1)))), none, false⟩, ⟨(some 25), (.mov (.t 35)), none, false⟩] []))))
@[simp] theorem Je59 {p : Nums} : EqI (Jq59 p) (.seq (.region [⟨(some 26), (.bin .lss (.t 25) (.t 24)), none, false⟩] []) (.seq (.cond (.t 26) .skip (.exit 0)) (.seq (.block 1 (.seq (Jq57 p) (Jq58 p))) (.region [⟨(some 35), (.bin .add (.t 25) (.c (.d (.int .i64 1)))), none, false⟩, ⟨(some 25), (.mov (.t 35)), none, false⟩] [])))) := eqi
@[simp] def Jq5f (p : Nums) : List IOp := [qo 36 (.mov (.t 5)), qo 37 (.bin .mul (ci 3) (.t 36)), qo 38 (.mov (.t 1)), qo 39 (.bin .add (.t 38) (ci 1)), qo 40 (.bin .mul (.t 37) (.t 39)), qo 4 (.asg (.t 40))]
def Jq5a (p : Nums) : IC := (.region (Jq5f p) [])
@[simp] theorem Je5a {p : Nums} : EqI (Jq5a p) (.region (Jq5f p) []) := eqi
def Jtcd (p : Nums) : IC := (.seq (.region [⟨(some 2), (.box (.t 0)), none, false⟩, ⟨(some 4), (.asg (.c (.d (.int .i64 0)))), none, false⟩] []) (.seq (Jq55 p) (.seq (.seq (Jq56 p) (.block 0 (.loop (Jq59 p)))) (.seq (Jq5a p) .ret))))
@[simp] def Jqdi (p : Nums) : List IOp := [qo 13 (.faddr 0 (.t 3)), qo 14 (.load (some 3) (.t 13)), qo 15 (.mov (.t 1)), qo 16 (.mov (.t 2)), qo 17 (.call p.interp_Exec [(.t 14), (.t 15), (.t 16)]), qo 12 (.mov (.t 17)), qo 18 (.ext (.t 12) 0), qo 19 (.ext (.t 12) 1), qo 7 (.alloc [(zi 0), (zi 0), (zi 0), (zi 0), .nils, .nils, .nils, (zi 0)]), qn (.store 8 (.t 7) (.t 18)), qo 8 (.asg (.t 19))]
def Jqda (p : Nums) : IC := (.region (Jqdi p) [])
@[simp] theorem Jeda {p : Nums} : EqI (Jqda p) (.region (Jqdi p) []) := eqi
@[simp] def Jqdj (p : Nums) : List IOp := [qo 20 (.faddr 7 (.t 7)), qo 21 (.load none (.t 20)), qo 22 (.bin .mul (ci 65) (.t 21)), qo 9 (.asg (.t 22))]
def Jqdb (p : Nums) : IC := (.region (Jqdj p) [])
@[simp] theorem Jedb {p : Nums} : EqI (Jqdb p) (.region (Jqdj p) []) := eqi
@[simp] def Jqdk (p : Nums) : List IOp := [qo 24 (.faddr 3 (.t 3)), qo 25 (.load (some 4) (.t 24)), qo 26 (.mov (.t 1)), qo 27 (.mov (.t 9)), qo 28 (.call p.execute_Exec [(.t 25), (.t 26), (.t 27)]), qo 23 (.mov (.t 28)), qo 29 (.ext (.t 23) 0), qo 30 (.ext (.t 23) 1), qo 10 (.alloc [(zi 0), (zi 0), (zi 0), (zi 0), .nils, .nils, .nils, (zi 0)]), qn (.store 8 (.t 10) (.t 29)), qo 11 (.asg (.t 30))]
def Jqdc (p : Nums) : IC := (.region (Jqdk p) [])
@[simp] theorem Jedc {p : Nums} : EqI (Jqdc p) (.region (Jqdk p) []) := eqi
@[simp] def Jqdl (p : Nums) : List IOp := [qo 31 (.faddr 0 (.t 7)), qo 32 (.load none (.t 31)), qo 33 (.bin .eql (.t 32) (ci 2))]
def Jqdd (p : Nums) : IC := (.region (Jqdl p) [])
@[simp] theorem Jedd {p : Nums} : EqI (Jqdd p) (.region (Jqdl p) []) := eqi
def Jqde (p : Nums) : IC := (.seq (.region [⟨(some 6), (.asg (.c (.d (.bool true)))), none, false⟩] []) .ret)
@[simp] theorem Jede {p : Nums} : EqI (Jqde p) (.seq (.region [⟨(some 6), (.asg (.c (.d (.bool true)))), none, false⟩] []) .ret) := eqi
@[simp] def Jqdm (p : Nums) : List IOp := [qo 34 (.faddr 0 (.t 7)), qo 35 (.load none (.t 34)), qo 36 (.bin .eql (.t 35) (ci 1))]
def Jqdf (p : Nums) : IC := (.region (Jqdm p) [])
@[simp] theorem Jedf {p : Nums} : EqI (Jqdf p) (.region (Jqdm p) []) := eqi
@[simp] def Jqdn (p : Nums) : List IOp := [qo 37 (.faddr 0 (.t 10)), qo 38 (.load none (.t 37)), qo 39 (.bin .eql (.t 38) (ci 1)), qo 40 (.mov (.t 39)), ⟨(some 41), (.faddr 3 (.t 10)), (some (40, true)), false⟩, ⟨(some 42), (.load none (.t 41)), (some (40, true)), false⟩, ⟨(some 43), (.faddr 3 (.t 7)), (some (40, true)), false⟩, ⟨(some 44), (.load none (.t 43)), (some (40, true)), false⟩, ⟨(some 45), (.bin .eql (.t 42) (.t 44)), (some (40, true)), false⟩, qo 46 (.pick (.t 40) (.t 45) (.c (.d (.bool false)))), qo 47 (.mov (.t 46)), ⟨(some 48), (.faddr 6 (.t 10)), (some (47, true)), false⟩, ⟨(some 49), (.load none (.t 48)), (some (47, true)), false⟩, ⟨(some 50), (.faddr 6 (.t 7)), (some (47, true)), false⟩, ⟨(some 51), (.load none (.t 50)), (some (47, true)), false⟩, ⟨(some 52), (.call p.ref09_Values [(.t 49), (.t 51)]), (some (47, true)), false⟩, qo 53 (.pick (.t 47) (.t 52) (.c (.d (.bool false)))), qo 54 (.mov (.t 53)), ⟨(some 55), (.faddr 7 (.t 10)), (some (54, true)), false⟩, ⟨(some 56), (.load none (.t 55)), (some (54, true)), false⟩, ⟨(some 57), (.mov (.t 9)), (some (54, true)), false⟩, ⟨(some 58), (.bin .leq (.t 56) (.t 57)), (some (54, true)), false⟩, qo 59 (.pick (.t 54) (.t 58) (.c (.d (.bool false)))), qo 6 (.asg (.t 59))]
def Jqdg (p : Nums) : IC := (.region (Jqdn p) [])
@[simp] theorem Jedg {p : Nums} : EqI (Jqdg p) (.region (Jqdn p) []) := eqi
@[simp] def Jqdo (p : Nums) : List IOp := [qo 60 (.faddr 6 (.t 7)), qo 61 (.load none (.t 60)), qo 62 (.faddr 6 (.t 10)), qo 63 (.load none (.t 62)), qo 64 (.call p.ref09_Prefix [(.t 61), (.t 63)]), qo 6 (.asg (.t 64))]
def Jqdh (p : Nums) : IC := (.region (Jqdo p) [])
@[simp] theorem Jedh {p : Nums} : EqI (Jqdh p) (.region (Jqdo p) []) := eqi
def Jtd3 (p : Nums) : IC := (.seq (.region [⟨(some 3), (.box (.t 0)), none, false⟩, ⟨(some 6), (.asg (.c (.d (.bool false)))), none, false⟩] []) (.seq (Jqda p) (.seq (Jqdb p) (.seq (Jqdc p) (.seq (.seq (Jqdd p) (.cond (.t 33) (Jqde p) .skip)) (.seq (.seq (Jqdf p) (.cond (.t 36) (.seq (Jqdg p) .ret) .skip)) (.seq (Jqdh p) .ret)))))))
@[simp] def Jqkk (p : Nums) : List IOp := [qo 4 (.faddr 2 (.t 1)), qo 5 (.load none (.t 4)), qo 6 (.len (.t 5)), qo 7 (.bin .gtr (.t 6) (ci 40)), qo 8 (.mov (.t 7)), ⟨(some 9), (.faddr 1 (.t 1)), (some (8, false)), false⟩, ⟨(some 10), (.load none (.t 9)), (some (8, false)), false⟩, ⟨(some 11), (.bin .gtr (.t 10) (ci 60)), (some (8, false)), false⟩, qo 12 (.pick (.t 8) (.c (.d (.bool true))) (.t 11))]
def Jqkb (p : Nums) : IC := (.region (Jqkk p) [])
@[simp] theorem Jekb {p : Nums} : EqI (Jqkb p) (.region (Jqkk p) []) := eqi
def Jqkc (p : Nums) : IC := (.seq (.region [⟨(some 2), (.asg (.c (.d (.bool false)))), none, false⟩] []) .ret)
@[simp] theorem Jekc {p : Nums} : EqI (Jqkc p) (.seq (.region [⟨(some 2), (.asg (.c (.d (.bool false)))), none, false⟩] []) .ret) := eqi
@[simp] def Jqkl (p : Nums) : List IOp := [qo 13 (.mov (.t 3)), qo 14 (.faddr 2 (.t 1)), qo 15 (.load none (.t 14)), qo 16 (.len (.t 15)), qo 17 (.bin .lss (.t 13) (.t 16))]
def Jqkd (p : Nums) : IC := (.region (Jqkl p) [])
@[simp] theorem Jekd {p : Nums} : EqI (Jqkd p) (.region (Jqkl p) []) := eqi
@[simp] def Jqkm (p : Nums) : List IOp := [qo 20 (.faddr 2 (.t 1)), qo 21 (.load none (.t 20)), qo 22 (.mov (.t 3)), qo 23 (.iaddr 5 (.t 21) (.t 22)), qo 24 (.faddr 0 (.t 23)), qo 25 (.load none (.t 24)), qo 26 (.len (.t 25)), qo 27 (.bin .gtr (.t 26) (ci 100))]
def Jqke (p : Nums) : IC := (.region (Jqkm p) [])
@[simp] theorem Jeke {p : Nums} : EqI (Jqke p) (.region (Jqkm p) []) := eqi
def Jqkf (p : Nums) : IC := (.seq (.region [⟨(some 2), (.asg (.c (.d (.bool false)))), none, false⟩] []) .ret)
@[simp] theorem Jekf {p : Nums} : EqI (Jqkf p) (.seq (.region [⟨(some 2), (.asg (.c (.d (.bool false)))), none, false⟩] []) .ret) := eqi
def Jqkg (p : Nums) : IC := (.seq (Jqke p) (.cond (.t 27) (Jqkf p) .skip))
@[simp] theorem Jekg {p : Nums} : EqI (Jqkg p) (.seq (Jqke p) (.cond (.t 27) (Jqkf p) .skip)) := eqi
@[simp] def Jqkn (p : Nums) : List IOp := [qo 18 (.mov (.t 3)), qo 19 (.bin .add (.t 18) (ci 1)), qo 3 (.asg (.t 19))]
def Jqkh (p : Nums) : IC := (.region (Jqkn p) [])
@[simp] theorem Jekh {p : Nums} : EqI (Jqkh p) (.region (Jqkn p) []) := eqi
def Jqki (p : Nums) : IC := (.seq (.seq (Jqkd p) (.cond (.t 17) .skip (.exit 0))) (.seq (.block 1 (Jqkg p)) (Jqkh p)))
@[simp] theorem Jeki {p : Nums} : EqI (Jqki p) (.seq (.seq (Jqkd p) (.cond (.t 17) .skip (.exit 0))) (.seq (.block 1 (Jqkg p)) (Jqkh p))) := eqi
@[simp] def Jqko (p : Nums) : List IOp := [qo 28 (.load (some 3) (.t 1)), qo 29 (.call p.ref07_Code [(.t 28)]), qo 30 (.bin .leq (.t 29) (ci 300)), qo 2 (.asg (.t 30))]
def Jqkj (p : Nums) : IC := (.region (Jqko p) [])
@[simp] theorem Jekj {p : Nums} : EqI (Jqkj p) (.region (Jqko p) []) := eqi
def Jte0 (p : Nums) : IC := (.seq (.region [⟨(some 1), (.box (.t 0)), none, false⟩, ⟨(some 2), (.asg (.c (.d (.bool false)))), none, false⟩] []) (.seq (.seq (Jqkb p) (.cond (.t 12) (Jqkc p) .skip)) (.seq (.seq (.region [⟨(some 3), (.asg (.c (.d (.int .i64 0)))), none, false⟩] []) (.block 0 (.loop (Jqki p)))) (.seq (Jqkj p) .ret))))
@[simp] def Jql5 (p : Nums) : List IOp := [qo 4 (.faddr 3 (.t 1)), qo 5 (.load none (.t 4)), qo 6 (.len (.t 5)), qo 7 (.bin .gtr (.t 6) (ci 40)), qo 8 (.mov (.t 7)), ⟨(some 9), (.faddr 1 (.t 1)), (some (8, false)), false⟩, ⟨(some 10), (.load none (.t 9)), (some (8, false)), false⟩, ⟨(some 11), (.bin .gtr (.t 10) (ci 60)), (some (8, false)), false⟩, qo 12 (.pick (.t 8) (.c (.d (.bool true))) (.t 11)), qo 13 (.mov (.t 12)), ⟨(some 14), (.faddr 2 (.t 1)), (some (13, false)), false⟩, ⟨(some 15), (.load none (.t 14)), (some (13, false)), false⟩, ⟨(some 16), (.bin .gtr (.t 15) (ci 60)), (some (13, false)), false⟩, qo 17 (.pick (.t 13) (.c (.d (.bool true))) (.t 16))]
def Jqkw (p : Nums) : IC := (.region (Jql5 p) [])
@[simp] theorem Jekw {p : Nums} : EqI (Jqkw p) (.region (Jql5 p) []) := eqi
def Jqkx (p : Nums) : IC := (.seq (.region [⟨(some 2), (.asg (.c (.d (.bool false)))), none, false⟩] []) .ret)
@[simp] theorem Jekx {p : Nums} : EqI (Jqkx p) (.seq (.region [⟨(some 2), (.asg (.c (.d (.bool false)))), none, false⟩] []) .ret) := eqi
@[simp] def Jql6 (p : Nums) : List IOp := [qo 18 (.mov (.t 3)), qo 19 (.faddr 3 (.t 1)), qo 20 (.load none (.t 19)), qo 21 (.len (.t 20)), qo 22 (.bin .lss (.t 18) (.t 21))]
def Jqky (p : Nums) : IC := (.region (Jql6 p) [])
@[simp] theorem Jeky {p : Nums} : EqI (Jqky p) (.region (Jql6 p) []) := eqi
@[simp] def Jql7 (p : Nums) : List IOp := [qo 25 (.faddr 3 (.t 1)), qo 26 (.load none (.t 25)), qo 27 (.mov (.t 3)), qo 28 (.iaddr 5 (.t 26) (.t 27)), qo 29 (.faddr 0 (.t 28)), qo 30 (.load none (.t 29)), qo 31 (.len (.t 30)), qo 32 (.bin .gtr (.t 31) (ci 300))]
def Jqkz (p : Nums) : IC := (.region (Jql7 p) [])
@[simp] theorem Jekz {p : Nums} : EqI (Jqkz p) (.region (Jql7 p) []) := eqi
def Jql0 (p : Nums) : IC := (.seq (.region [⟨(some 2), (.asg (.c (.d (.bool false)))), none, false⟩] []) .ret)
@[simp] theorem Jel0 {p : Nums} : EqI (Jql0 p) (.seq (.region [⟨(some 2), (.asg (.c (.d (.bool false)))), none, false⟩] []) .ret) := eqi
def Jql1 (p : Nums) : IC := (.seq (Jqkz p) (.cond (.t 32) (Jql0 p) .skip))
@[simp] theorem Jel1 {p : Nums} : EqI (Jql1 p) (.seq (Jqkz p) (.cond (.t 32) (Jql0 p) .skip)) := eqi
@[simp] def Jql8 (p : Nums) : List IOp := [qo 23 (.mov (.t 3)), qo 24 (.bin .add (.t 23) (ci 1)), qo 3 (.asg (.t 24))]
def Jql2 (p : Nums) : IC := (.region (Jql8 p) [])
@[simp] theorem Jel2 {p : Nums} : EqI (Jql2 p) (.region (Jql8 p) []) := eqi
def Jql3 (p : Nums) : IC := (.seq (.seq (Jqky p) (.cond (.t 22) .skip (.exit 0))) (.seq (.block 1 (Jql1 p)) (Jql2 p)))
@[simp] theorem Jel3 {p : Nums} : EqI (Jql3 p) (.seq (.seq (Jqky p) (.cond (.t 22) .skip (.exit 0))) (.seq (.block 1 (Jql1 p)) (Jql2 p))) := eqi
@[simp] def Jql9 (p : Nums) : List IOp := [qo 33 (.load (some 4) (.t 1)), qo 34 (.call p.ref08_Code [(.t 33)]), qo 35 (.bin .leq (.t 34) (ci 900)), qo 2 (.asg (.t 35))]
def Jql4 (p : Nums) : IC := (.region (Jql9 p) [])
@[simp] theorem Jel4 {p : Nums} : EqI (Jql4 p) (.region (Jql9 p) []) := eqi
def Jte2 (p : Nums) : IC := (.seq (.region [⟨(some 1), (.box (.t 0)), none, false⟩, ⟨(some 2), (.asg (.c (.d (.bool false)))), none, false⟩] []) (.seq (.seq (Jqkw p) (.cond (.t 17) (Jqkx p) .skip)) (.seq (.seq (.region [⟨(some 3), (.asg (.c (.d (.int .i64 0)))), none, false⟩] []) (.block 0 (.loop (Jql3 p)))) (.seq (Jql4 p) .ret))))
@[simp] def Jqlv (p : Nums) : List IOp := [qo 4 (.mov (.t 3)), qo 5 (.mov (.t 0)), qo 6 (.len (.t 5)), qo 7 (.bin .lss (.t 4) (.t 6)), qo 8 (.mov (.t 7)), ⟨(some 9), (.mov (.t 3)), (some (8, true)), false⟩, ⟨(some 10), (.bin .leq (.t 9) (ci 40)), (some (8, true)), false⟩, qo 11 (.pick (.t 8) (.t 10) (.c (.d (.bool false))))]
def Jqlo (p : Nums) : IC := (.region (Jqlv p) [])
@[simp] theorem Jelo {p : Nums} : EqI (Jqlo p) (.region (Jqlv p) []) := eqi
@[simp] def Jqlw (p : Nums) : List IOp := [qo 14 (.mov (.t 0)), qo 15 (.mov (.t 3)), qo 16 (.iaddr 1 (.t 14) (.t 15)), qo 17 (.load none (.t 16)), qo 18 (.len (.t 17)), qo 19 (.bin .gtr (.t 18) (ci 400))]
def Jqlp (p : Nums) : IC := (.region (Jqlw p) [])
@[simp] theorem Jelp {p : Nums} : EqI (Jqlp p) (.region (Jqlw p) []) := eqi
def Jqlq (p : Nums) : IC := (.seq (.region [⟨(some 2), (.asg (.c (.d (.bool false)))), none, false⟩] []) .ret)
@[simp] theorem Jelq {p : Nums} : EqI (Jqlq p) (.seq (.region [⟨(some 2), (.asg (.c (.d (.bool false)))), none, false⟩] []) .ret) := eqi
def Jqlr (p : Nums) : IC := (.seq (Jqlp p) (.cond (.t 19) (Jqlq p) .skip))
@[simp] theorem Jelr {p : Nums} : EqI (Jqlr p) (.seq (Jqlp p) (.cond (.t 19) (Jqlq p) .skip)) := eqi
@[simp] def Jqlx (p : Nums) : List IOp := [qo 12 (.mov (.t 3)), qo 13 (.bin .add (.t 12) (ci 1)), qo 3 (.asg (.t 13))]
def Jqls (p : Nums) : IC := (.region (Jqlx p) [])
@[simp] theorem Jels {p : Nums} : EqI (Jqls p) (.region (Jqlx p) []) := eqi
def Jqlt (p : Nums) : IC := (.seq (.seq (Jqlo p) (.cond (.t 11) .skip (.exit 0))) (.seq (.block 1 (Jqlr p)) (Jqls p)))
@[simp] theorem Jelt {p : Nums} : EqI (Jqlt p) (.seq (.seq (Jqlo p) (.cond (.t 11) .skip (.exit 0))) (.seq (.block 1 (Jqlr p)) (Jqls p))) := eqi
@[simp] def Jqly (p : Nums) : List IOp := [qo 20 (.mov (.t 0)), qo 21 (.len (.t 20)), qo 22 (.bin .leq (.t 21) (ci 40)), qo 2 (.asg (.t 22))]
def Jqlu (p : Nums) : IC := (.region (Jqly p) [])
@[simp] theorem Jelu {p : Nums} : EqI (Jqlu p) (.region (Jqly p) []) := eqi
def Jte5 (p : Nums) : IC := (.seq (.region [⟨(some 2), (.asg (.c (.d (.bool false)))), none, false⟩] []) (.seq (.seq (.region [⟨(some 3), (.asg (.c (.d (.int .i64 0)))), none, false⟩] []) (.block 0 (.loop (Jqlt p)))) (.seq (Jqlu p) .ret)))
@[simp] def Jqng (p : Nums) : List IOp := [qo 7 (.faddr 0 (.t 1)), qo 8 (.load none (.t 7)), qo 9 (.bin .lss (.t 8) (ci 0)), qo 10 (.mov (.t 9)), ⟨(some 11), (.faddr 0 (.t 1)), (some (10, false)), false⟩, ⟨(some 12), (.load none (.t 11)), (some (10, false)), false⟩, ⟨(some 13), (.faddr 1 (.t 1)), (some (10, false)), false⟩, ⟨(some 14), (.load none (.t 13)), (some (10, false)), false⟩, ⟨(some 15), (.bin .gtr (.t 12) (.t 14)), (some (10, false)), false⟩, qo 16 (.pick (.t 10) (.c (.d (.bool true))) (.t 15)), qo 6 (.asg (.t 16))]
def Jqmy (p : Nums) : IC := (.region (Jqng p) [])
@[simp] theorem Jemy {p : Nums} : EqI (Jqmy p) (.region (Jqng p) []) := eqi
@[simp] def Jqnk (p : Nums) : List IOp := [qo 18 (.faddr 1 (.t 1)), qo 19 (.load none (.t 18)), qo 20 (.bin .gtr (.t 19) (ci 1048576)), qo 17 (.asg (.t 20))]
def Jqn8 (p : Nums) : IC := (.region (Jqnk p) [])
@[simp] theorem Jen8 {p : Nums} : EqI (Jqn8 p) (.region (Jqnk p) []) := eqi
@[simp] def Jqnl (p : Nums) : List IOp := [qo 22 (.faddr 2 (.t 1)), qo 23 (.load none (.t 22)), qo 24 (.len (.t 23)), qo 25 (.bin .eql (.t 24) (ci 0)), qo 21 (.asg (.t 25))]
def Jqn9 (p : Nums) : IC := (.region (Jqnl p) [])
@[simp] theorem Jen9 {p : Nums} : EqI (Jqn9 p) (.region (Jqnl p) []) := eqi
@[simp] def Jqnm (p : Nums) : List IOp := [qo 27 (.faddr 2 (.t 1)), qo 28 (.load none (.t 27)), qo 29 (.len (.t 28)), qo 30 (.bin .gtr (.t 29) (ci 1048576)), qo 31 (.mov (.t 30)), ⟨(some 32), (.load (some 3) (.t 1)), (some (31, false)), false⟩, ⟨(some 33), (.call p.source_Code [(.t 32)]), (some (31, false)), false⟩, ⟨(some 34), (.bin .gtr (.t 33) (ci 1048576)), (some (31, false)), false⟩, qo 35 (.pick (.t 31) (.c (.d (.bool true))) (.t 34)), qo 26 (.asg (.t 35))]
def Jqna (p : Nums) : IC := (.region (Jqnm p) [])
@[simp] theorem Jena {p : Nums} : EqI (Jqna p) (.region (Jqnm p) []) := eqi
def Jqnb (p : Nums) : IC := (.seq (.region [⟨(some 2), (.asg (.c (.d (.int .i64 6)))), none, false⟩] []) .ret)
@[simp] theorem Jenb {p : Nums} : EqI (Jqnb p) (.seq (.region [⟨(some 2), (.asg (.c (.d (.int .i64 6)))), none, false⟩] []) .ret) := eqi
def Jqnc (p : Nums) : IC := (.seq (.region [⟨(some 2), (.asg (.c (.d (.int .i64 14)))), none, false⟩] []) .ret)
@[simp] theorem Jenc {p : Nums} : EqI (Jqnc p) (.seq (.region [⟨(some 2), (.asg (.c (.d (.int .i64 14)))), none, false⟩] []) .ret) := eqi
def Jqnd (p : Nums) : IC := (.seq (Jqna p) (.cond (.t 26) (Jqnb p) .skip))
@[simp] theorem Jend {p : Nums} : EqI (Jqnd p) (.seq (Jqna p) (.cond (.t 26) (Jqnb p) .skip)) := eqi
def Jqne (p : Nums) : IC := (.seq (.region [⟨(some 2), (.asg (.c (.d (.int .i64 6)))), none, false⟩] []) .ret)
@[simp] theorem Jene {p : Nums} : EqI (Jqne p) (.seq (.region [⟨(some 2), (.asg (.c (.d (.int .i64 6)))), none, false⟩] []) .ret) := eqi
def Jqnf (p : Nums) : IC := (.seq (Jqn9 p) (.cond (.t 21) (Jqnc p) (Jqnd p)))
@[simp] theorem Jenf {p : Nums} : EqI (Jqnf p) (.seq (Jqn9 p) (.cond (.t 21) (Jqnc p) (Jqnd p))) := eqi
def Jqmz (p : Nums) : IC := (.seq (.region [⟨(some 2), (.asg (.c (.d (.int .i64 9)))), none, false⟩] []) .ret)
@[simp] theorem Jemz {p : Nums} : EqI (Jqmz p) (.seq (.region [⟨(some 2), (.asg (.c (.d (.int .i64 9)))), none, false⟩] []) .ret) := eqi
def Jqn0 (p : Nums) : IC := (.seq (Jqn8 p) (.cond (.t 17) (Jqne p) (Jqnf p)))
@[simp] theorem Jen0 {p : Nums} : EqI (Jqn0 p) (.seq (Jqn8 p) (.cond (.t 17) (Jqne p) (Jqnf p))) := eqi
def Jqn1 (p : Nums) : IC := (.seq (Jqmy p) (.cond (.t 6) (Jqmz p) (Jqn0 p)))
@[simp] theorem Jen1 {p : Nums} : EqI (Jqn1 p) (.seq (Jqmy p) (.cond (.t 6) (Jqmz p) (Jqn0 p))) := eqi
@[simp] def Jqnh (p : Nums) : List IOp := [qo 36 (.faddr 2 (.t 1)), qo 37 (.load none (.t 36)), qo 38 (.len (.t 37)), qo 39 (.mov (ci 0))]
def Jqn2 (p : Nums) : IC := (.region (Jqnh p) [])
@[simp] theorem Jen2 {p : Nums} : EqI (Jqn2 p) (.region (Jqnh p) []) := eqi
@[simp] def Jqni (p : Nums) : List IOp := [qo 41 (.iaddr 5 (.t 37) (.t 39)), qo 42 (.load (some 5) (.t 41)), qo 4 (.alloc [.nils, (zi 0), (zi 0), (zi 0), (zi 0)]), qn (.store 5 (.t 4) (.t 42))]
def Jqn3 (p : Nums) : IC := (.region (Jqni p) [])
@[simp] theorem Jen3 {p : Nums} : EqI (Jqn3 p) (.region (Jqni p) []) := eqi
@[simp] def Jqnj (p : Nums) : List IOp := [qo 43 (.load (some 5) (.t 4)), qo 44 (.faddr 1 (.t 1)), qo 45 (.load none (.t 44)), qo 46 (.faddr 2 (.t 1)), qo 47 (.load none (.t 46)), qo 48 (.len (.t 47)), qo 49 (.call p.source_block [(.t 43), (.t 45), (.t 48)]), qo 5 (.asg (.t 49))]
def Jqn4 (p : Nums) : IC := (.region (Jqnj p) [])
@[simp] theorem Jen4 {p : Nums} : EqI (Jqn4 p) (.region (Jqnj p) []) := eqi
def Jqn5 (p : Nums) : IC := (.seq (.region [⟨(some 52), (.mov (.t 5)), none, false⟩, ⟨(some 2), (.asg (.t 52)), none, false⟩] []) .ret)
@[simp] theorem Jen5 {p : Nums} : EqI (Jqn5 p) (.seq (.region [⟨(some 52), (.mov (.t 5)), none, false⟩, ⟨(some 2), (.asg (.t 52)), none, false⟩] []) .ret) := eqi
def Jqn6 (p : Nums) : IC := (.seq (Jqn3 p) (.seq (Jqn4 p) (.seq (.region [⟨(some 50), (.mov (.t 5)), none, false⟩, ⟨(some 51), (.bin .neq (.t 50) (.c (.d (.int .i64 0)))), none, false⟩] []) (.cond (.t 51) (Jqn5 p) .skip))))
@[simp] theorem Jen6 {p : Nums} : EqI (Jqn6 p) (.seq (Jqn3 p) (.seq (Jqn4 p) (.seq (.region [⟨(some 50), (.mov (.t 5)), none, false⟩, ⟨(some 51), (.bin .neq (.t 50) (.c (.d (.int .i64 0)))), none, false⟩] []) (.cond (.t 51) (Jqn5 p) .skip)))) := eqi
def Jqn7 (p : Nums) : IC := (.seq (.region [⟨(some 40), (.bin .lss (.t 39) (.t 38)), none, false⟩] []) (.seq (.cond (.t 40) .skip (.exit 1)) (.seq (.block 2 (Jqn6 p)) (.region [⟨(some 53), (.bin .add (.t 39) (.c (.d (.int .i64 1)))), none, false⟩, ⟨(some 39), (.mov (.t 53)), none, false⟩] []))))
@[simp] theorem Jen7 {p : Nums} : EqI (Jqn7 p) (.seq (.region [⟨(some 40), (.bin .lss (.t 39) (.t 38)), none, false⟩] []) (.seq (.cond (.t 40) .skip (.exit 1)) (.seq (.block 2 (Jqn6 p)) (.region [⟨(some 53), (.bin .add (.t 39) (.c (.d (.int .i64 1)))), none, false⟩, ⟨(some 39), (.mov (.t 53)), none, false⟩] [])))) := eqi
def Jte9 (p : Nums) : IC := (.seq (.region [⟨(some 1), (.box (.t 0)), none, false⟩, ⟨(some 2), (.asg (.c (.d (.int .i64 0)))), none, false⟩] []) (.seq (.block 0 (Jqn1 p)) (.seq (.seq (Jqn2 p) (.block 1 (.loop (Jqn7 p)))) (.seq (.region [⟨(some 2), (.asg (.c (.d (.int .i64 0)))), none, false⟩] []) .ret))))
@[simp] def Jqem (p : Nums) : List IOp := [qo 7 (.faddr 0 (.t 1)), qo 8 (.load none (.t 7)), qo 9 (.bin .lss (.t 8) (ci 0)), qo 10 (.mov (.t 9)), ⟨(some 11), (.faddr 0 (.t 1)), (some (10, false)), false⟩, ⟨(some 12), (.load none (.t 11)), (some (10, false)), false⟩, ⟨(some 13), (.faddr 2 (.t 1)), (some (10, false)), false⟩, ⟨(some 14), (.load none (.t 13)), (some (10, false)), false⟩, ⟨(some 15), (.bin .gtr (.t 12) (.t 14)), (some (10, false)), false⟩, qo 16 (.pick (.t 10) (.c (.d (.bool true))) (.t 15)), qo 6 (.asg (.t 16))]
def Jqe1 (p : Nums) : IC := (.region (Jqem p) [])
@[simp] theorem Jee1 {p : Nums} : EqI (Jqe1 p) (.region (Jqem p) []) := eqi
@[simp] def Jqeq (p : Nums) : List IOp := [qo 18 (.faddr 1 (.t 1)), qo 19 (.load none (.t 18)), qo 20 (.bin .lss (.t 19) (ci 0)), qo 17 (.asg (.t 20))]
def Jqec (p : Nums) : IC := (.region (Jqeq p) [])
@[simp] theorem Jeec {p : Nums} : EqI (Jqec p) (.region (Jqeq p) []) := eqi
@[simp] def Jqer (p : Nums) : List IOp := [qo 22 (.faddr 2 (.t 1)), qo 23 (.load none (.t 22)), qo 24 (.bin .gtr (.t 23) (ci 1048576)), qo 25 (.mov (.t 24)), ⟨(some 26), (.faddr 1 (.t 1)), (some (25, false)), false⟩, ⟨(some 27), (.load none (.t 26)), (some (25, false)), false⟩, ⟨(some 28), (.bin .gtr (.t 27) (ci 1048576)), (some (25, false)), false⟩, qo 29 (.pick (.t 25) (.c (.d (.bool true))) (.t 28)), qo 21 (.asg (.t 29))]
def Jqef (p : Nums) : IC := (.region (Jqer p) [])
@[simp] theorem Jeef {p : Nums} : EqI (Jqef p) (.region (Jqer p) []) := eqi
@[simp] def Jqes (p : Nums) : List IOp := [qo 31 (.faddr 3 (.t 1)), qo 32 (.load none (.t 31)), qo 33 (.len (.t 32)), qo 34 (.bin .eql (.t 33) (ci 0)), qo 30 (.asg (.t 34))]
def Jqeg (p : Nums) : IC := (.region (Jqes p) [])
@[simp] theorem Jeeg {p : Nums} : EqI (Jqeg p) (.region (Jqes p) []) := eqi
@[simp] def Jqet (p : Nums) : List IOp := [qo 36 (.faddr 3 (.t 1)), qo 37 (.load none (.t 36)), qo 38 (.len (.t 37)), qo 39 (.bin .gtr (.t 38) (ci 1048576)), qo 40 (.mov (.t 39)), ⟨(some 41), (.load (some 4) (.t 1)), (some (40, false)), false⟩, ⟨(some 42), (.call p.machine_Code [(.t 41)]), (some (40, false)), false⟩, ⟨(some 43), (.bin .gtr (.t 42) (ci 1048576)), (some (40, false)), false⟩, qo 44 (.pick (.t 40) (.c (.d (.bool true))) (.t 43)), qo 35 (.asg (.t 44))]
def Jqeh (p : Nums) : IC := (.region (Jqet p) [])
@[simp] theorem Jeeh {p : Nums} : EqI (Jqeh p) (.region (Jqet p) []) := eqi
def Jqei (p : Nums) : IC := (.seq (.region [⟨(some 2), (.asg (.c (.d (.int .i64 6)))), none, false⟩] []) .ret)
@[simp] theorem Jeei {p : Nums} : EqI (Jqei p) (.seq (.region [⟨(some 2), (.asg (.c (.d (.int .i64 6)))), none, false⟩] []) .ret) := eqi
def Jqej (p : Nums) : IC := (.seq (.region [⟨(some 2), (.asg (.c (.d (.int .i64 14)))), none, false⟩] []) .ret)
@[simp] theorem Jeej {p : Nums} : EqI (Jqej p) (.seq (.region [⟨(some 2), (.asg (.c (.d (.int .i64 14)))), none, false⟩] []) .ret) := eqi
def Jqek (p : Nums) : IC := (.seq (Jqeh p) (.cond (.t 35) (Jqei p) .skip))
@[simp] theorem Jeek {p : Nums} : EqI (Jqek p) (.seq (Jqeh p) (.cond (.t 35) (Jqei p) .skip)) := eqi
def Jqel (p : Nums) : IC := (.seq (.region [⟨(some 2), (.asg (.c (.d (.int .i64 6)))), none, false⟩] []) .ret)
@[simp] theorem Jeel {p : Nums} : EqI (Jqel p) (.seq (.region [⟨(some 2), (.asg (.c (.d (.int .i64 6)))), none, false⟩] []) .ret) := eqi
def Jqe2 (p : Nums) : IC := (.seq (Jqeg p) (.cond (.t 30) (Jqej p) (Jqek p)))
@[simp] theorem Jee2 {p : Nums} : EqI (Jqe2 p) (.seq (Jqeg p) (.cond (.t 30) (Jqej p) (Jqek p))) := eqi
def Jqe3 (p : Nums) : IC := (.seq (.region [⟨(some 2), (.asg (.c (.d (.int .i64 9)))), none, false⟩] []) .ret)
@[simp] theorem Jee3 {p : Nums} : EqI (Jqe3 p) (.seq (.region [⟨(some 2), (.asg (.c (.d (.int .i64 9)))), none, false⟩] []) .ret) := eqi
def Jqe4 (p : Nums) : IC := (.seq (Jqef p) (.cond (.t 21) (Jqel p) (Jqe2 p)))
@[simp] theorem Jee4 {p : Nums} : EqI (Jqe4 p) (.seq (Jqef p) (.cond (.t 21) (Jqel p) (Jqe2 p))) := eqi
def Jqe5 (p : Nums) : IC := (.seq (.region [⟨(some 2), (.asg (.c (.d (.int .i64 10)))), none, false⟩] []) .ret)
@[simp] theorem Jee5 {p : Nums} : EqI (Jqe5 p) (.seq (.region [⟨(some 2), (.asg (.c (.d (.int .i64 10)))), none, false⟩] []) .ret) := eqi
def Jqe6 (p : Nums) : IC := (.seq (Jqec p) (.cond (.t 17) (Jqe3 p) (Jqe4 p)))
@[simp] theorem Jee6 {p : Nums} : EqI (Jqe6 p) (.seq (Jqec p) (.cond (.t 17) (Jqe3 p) (Jqe4 p))) := eqi
def Jqe7 (p : Nums) : IC := (.seq (Jqe1 p) (.cond (.t 6) (Jqe5 p) (Jqe6 p)))
@[simp] theorem Jee7 {p : Nums} : EqI (Jqe7 p) (.seq (Jqe1 p) (.cond (.t 6) (Jqe5 p) (Jqe6 p))) := eqi
@[simp] def Jqen (p : Nums) : List IOp := [qo 45 (.faddr 3 (.t 1)), qo 46 (.load none (.t 45)), qo 47 (.len (.t 46)), qo 48 (.mov (ci 0))]
def Jqe8 (p : Nums) : IC := (.region (Jqen p) [])
@[simp] theorem Jee8 {p : Nums} : EqI (Jqe8 p) (.region (Jqen p) []) := eqi
@[simp] def Jqeo (p : Nums) : List IOp := [qo 50 (.iaddr 5 (.t 46) (.t 48)), qo 51 (.load (some 5) (.t 50)), qo 4 (.alloc [.nils, (zi 0), (zi 0), (zi 0), (zi 0)]), qn (.store 5 (.t 4) (.t 51))]
def Jqe9 (p : Nums) : IC := (.region (Jqeo p) [])
@[simp] theorem Jee9 {p : Nums} : EqI (Jqe9 p) (.region (Jqeo p) []) := eqi
@[simp] def Jqep (p : Nums) : List IOp := [qo 52 (.load (some 4) (.t 1)), qo 53 (.load (some 5) (.t 4)), qo 54 (.call p.machine_block [(.t 52), (.t 53)]), qo 5 (.asg (.t 54))]
def Jqea (p : Nums) : IC := (.region (Jqep p) [])
@[simp] theorem Jeea {p : Nums} : EqI (Jqea p) (.region (Jqep p) []) := eqi
def Jqeb (p : Nums) : IC := (.seq (.region [⟨(some 57), (.mov (.t 5)), none, false⟩, ⟨(some 2), (.asg (.t 57)), none, false⟩] []) .ret)
@[simp] theorem Jeeb {p : Nums} : EqI (Jqeb p) (.seq (.region [⟨(some 57), (.mov (.t 5)), none, false⟩, ⟨(some 2), (.asg (.t 57)), none, false⟩] []) .ret) := eqi
def Jqed (p : Nums) : IC := (.seq (Jqe9 p) (.seq (Jqea p) (.seq (.region [⟨(some 55), (.mov (.t 5)), none, false⟩, ⟨(some 56), (.bin .neq (.t 55) (.c (.d (.int .i64 0)))), none, false⟩] []) (.cond (.t 56) (Jqeb p) .skip))))
@[simp] theorem Jeed {p : Nums} : EqI (Jqed p) (.seq (Jqe9 p) (.seq (Jqea p) (.seq (.region [⟨(some 55), (.mov (.t 5)), none, false⟩, ⟨(some 56), (.bin .neq (.t 55) (.c (.d (.int .i64 0)))), none, false⟩] []) (.cond (.t 56) (Jqeb p) .skip)))) := eqi
def Jqee (p : Nums) : IC := (.seq (.region [⟨(some 49), (.bin .lss (.t 48) (.t 47)), none, false⟩] []) (.seq (.cond (.t 49) .skip (.exit 1)) (.seq (.block 2 (Jqed p)) (.region [⟨(some 58), (.bin .add (.t 48) (.c (.d (.int .i64 1)))), none, false⟩, ⟨(some 48), (.mov (.t 58)), none, false⟩] []))))
@[simp] theorem Jeee {p : Nums} : EqI (Jqee p) (.seq (.region [⟨(some 49), (.bin .lss (.t 48) (.t 47)), none, false⟩] []) (.seq (.cond (.t 49) .skip (.exit 1)) (.seq (.block 2 (Jqed p)) (.region [⟨(some 58), (.bin .add (.t 48) (.c (.d (.int .i64 1)))), none, false⟩, ⟨(some 48), (.mov (.t 58)), none, false⟩] [])))) := eqi
def Jtd9 (p : Nums) : IC := (.seq (.region [⟨(some 1), (.box (.t 0)), none, false⟩, ⟨(some 2), (.asg (.c (.d (.int .i64 0)))), none, false⟩] []) (.seq (.block 0 (Jqe7 p)) (.seq (.seq (Jqe8 p) (.block 1 (.loop (Jqee p)))) (.seq (.region [⟨(some 2), (.asg (.c (.d (.int .i64 0)))), none, false⟩] []) .ret))))
@[simp] def Jq89 (p : Nums) : List IOp := [qo 15 (.mov (.t 0)), qo 16 (.len (.t 15)), qo 17 (.mov (.t 1)), qo 18 (.bin .neq (.t 16) (.t 17)), qo 14 (.asg (.t 18))]
def Jq7x (p : Nums) : IC := (.region (Jq89 p) [])
@[simp] theorem Je7x {p : Nums} : EqI (Jq7x p) (.region (Jq89 p) []) := eqi
@[simp] def Jq8a (p : Nums) : List IOp := [qo 20 (.mov (.t 0)), qo 21 (.call p.edge_total [(.t 20)]), qo 22 (.bin .gtr (.t 21) (ci 1048576)), qo 19 (.asg (.t 22))]
def Jq81 (p : Nums) : IC := (.region (Jq8a p) [])
@[simp] theorem Je81 {p : Nums} : EqI (Jq81 p) (.region (Jq8a p) []) := eqi
def Jq82 (p : Nums) : IC := (.seq (.region [⟨(some 10), (.asg (.c (.d (.int .i64 6)))), none, false⟩] []) .ret)
@[simp] theorem Je82 {p : Nums} : EqI (Jq82 p) (.seq (.region [⟨(some 10), (.asg (.c (.d (.int .i64 6)))), none, false⟩] []) .ret) := eqi
def Jq83 (p : Nums) : IC := (.seq (.region [⟨(some 10), (.asg (.c (.d (.int .i64 14)))), none, false⟩] []) .ret)
@[simp] theorem Je83 {p : Nums} : EqI (Jq83 p) (.seq (.region [⟨(some 10), (.asg (.c (.d (.int .i64 14)))), none, false⟩] []) .ret) := eqi
def Jq84 (p : Nums) : IC := (.seq (Jq81 p) (.cond (.t 19) (Jq82 p) .skip))
@[simp] theorem Je84 {p : Nums} : EqI (Jq84 p) (.seq (Jq81 p) (.cond (.t 19) (Jq82 p) .skip)) := eqi
def Jq85 (p : Nums) : IC := (.seq (Jq7x p) (.cond (.t 14) (Jq83 p) (Jq84 p)))
@[simp] theorem Je85 {p : Nums} : EqI (Jq85 p) (.seq (Jq7x p) (.cond (.t 14) (Jq83 p) (Jq84 p))) := eqi
@[simp] def Jq8b (p : Nums) : List IOp := [qo 23 (.mov (.t 0)), qo 24 (.len (.t 23)), qo 25 (.mov (ci 0))]
def Jq86 (p : Nums) : IC := (.region (Jq8b p) [])
@[simp] theorem Je86 {p : Nums} : EqI (Jq86 p) (.region (Jq8b p) []) := eqi
@[simp] def Jq8c (p : Nums) : List IOp := [qo 27 (.iaddr 1 (.t 23) (.t 25)), qo 28 (.load none (.t 27)), qo 12 (.asg (.t 28))]
def Jq87 (p : Nums) : IC := (.region (Jq8c p) [])
@[simp] theorem Je87 {p : Nums} : EqI (Jq87 p) (.region (Jq8c p) []) := eqi
@[simp] def Jq8d (p : Nums) : List IOp := [qo 29 (.mov (.t 12)), qo 30 (.mov (.t 2)), qo 31 (.mov (.t 3)), qo 32 (.mov (.t 4)), qo 33 (.call p.edge_pairs [(.t 29), (.t 30), (.t 31), (.t 32)]), qo 13 (.asg (.t 33))]
def Jq88 (p : Nums) : IC := (.region (Jq8d p) [])
@[simp] theorem Je88 {p : Nums} : EqI (Jq88 p) (.region (Jq8d p) []) := eqi
def Jq7y (p : Nums) : IC := (.seq (.region [⟨(some 36), (.mov (.t 13)), none, false⟩, ⟨(some 10), (.asg (.t 36)), none, false⟩] []) .ret)
@[simp] theorem Je7y {p : Nums} : EqI (Jq7y p) (.seq (.region [⟨(some 36), (.mov (.t 13)), none, false⟩, ⟨(some 10), (.asg (.t 36)), none, false⟩] []) .ret) := eqi
def Jq7z (p : Nums) : IC := (.seq (Jq87 p) (.seq (Jq88 p) (.seq (.region [⟨(some 34), (.mov (.t 13)), none, false⟩, ⟨(some 35), (.bin .neq (.t 34) (.c (.d (.int .i64 0)))), none, false⟩] []) (.cond (.t 35) (Jq7y p) .skip))))
@[simp] theorem Je7z {p : Nums} : EqI (Jq7z p) (.seq (Jq87 p) (.seq (Jq88 p) (.seq (.region [⟨(some 34), (.mov (.t 13)), none, false⟩, ⟨(some 35), (.bin .neq (.t 34) (.c (.d (.int .i64 0)))), none, false⟩] []) (.cond (.t 35) (Jq7y p) .skip)))) := eqi
def Jq80 (p : Nums) : IC := (.seq (.region [⟨(some 26), (.bin .lss (.t 25) (.t 24)), none, false⟩] []) (.seq (.cond (.t 26) .skip (.exit 1)) (.seq (.block 2 (Jq7z p)) (.region [⟨(some 37), (.bin .add (.t 25) (.c (.d (.int .i64 1)))), none, false⟩, ⟨(some 25), (.mov (.t 37)), none, false⟩] []))))
@[simp] theorem Je80 {p : Nums} : EqI (Jq80 p) (.seq (.region [⟨(some 26), (.bin .lss (.t 25) (.t 24)), none, false⟩] []) (.seq (.cond (.t 26) .skip (.exit 1)) (.seq (.block 2 (Jq7z p)) (.region [⟨(some 37), (.bin .add (.t 25) (.c (.d (.int .i64 1)))), none, false⟩, ⟨(some 25), (.mov (.t 37)), none, false⟩] [])))) := eqi
def Jtck (p : Nums) : IC := (.seq (.region [⟨(some 10), (.asg (.c (.d (.int .i64 0)))), none, false⟩] []) (.seq (.block 0 (Jq85 p)) (.seq (.seq (Jq86 p) (.block 1 (.loop (Jq80 p)))) (.seq (.region [⟨(some 10), (.asg (.c (.d (.int .i64 0)))), none, false⟩] []) .ret))))
@[simp] def Jq6z (p : Nums) : List IOp := [qo 1 (.box (.t 0)), qo 2 (.alloc [(zi 0), (zi 0), (zi 0), (zi 0), (zi 0), (zi 0), (zi 0)])]
def Jq6s (p : Nums) : IC := (.region (Jq6z p) [])
@[simp] theorem Je6s {p : Nums} : EqI (Jq6s p) (.region (Jq6z p) []) := eqi
@[simp] def Jq70 (p : Nums) : List IOp := [qo 6 (.faddr 7 (.t 1)), qo 7 (.load none (.t 6)), qo 8 (.iaddr 1 (.t 7) (ci 0)), qo 9 (.load none (.t 8)), qo 10 (.len (.t 9)), qo 11 (.bin .add (ci 1) (.t 10)), qo 12 (.build [(zi 0), (zi 0), (zi 0), (zi 0), (zi 0), (zi 0), (zi 0)] [(5, 1, (.t 11))]), qo 3 (.alloc [(zi 0), (zi 0), (zi 0), (zi 0), (zi 0), (zi 0), (zi 0)]), qn (.store 7 (.t 3) (.t 12))]
def Jq6t (p : Nums) : IC := (.region (Jq70 p) [])
@[simp] theorem Je6t {p : Nums} : EqI (Jq6t p) (.region (Jq70 p) []) := eqi
@[simp] def Jq71 (p : Nums) : List IOp := [qo 13 (.faddr 7 (.t 1)), qo 14 (.load none (.t 13)), qo 15 (.len (.t 14)), qo 16 (.mov (ci 0))]
def Jq6u (p : Nums) : IC := (.region (Jq71 p) [])
@[simp] theorem Je6u {p : Nums} : EqI (Jq6u p) (.region (Jq71 p) []) := eqi
@[simp] def Jq72 (p : Nums) : List IOp := [qo 18 (.iaddr 1 (.t 14) (.t 16)), qo 19 (.load none (.t 18)), qo 5 (.asg (.t 19))]
def Jq6v (p : Nums) : IC := (.region (Jq72 p) [])
@[simp] theorem Je6v {p : Nums} : EqI (Jq6v p) (.region (Jq72 p) []) := eqi
@[simp] def Jq73 (p : Nums) : List IOp := [qo 20 (.faddr 6 (.t 3)), qo 21 (.load none (.t 20)), qo 22 (.mov (.t 5)), qo 23 (.len (.t 22)), qo 24 (.mx (.t 21) (.t 23)), qo 25 (.faddr 6 (.t 3)), qn (.store 1 (.t 25) (.t 24))]
def Jq6w (p : Nums) : IC := (.region (Jq73 p) [])
@[simp] theorem Je6w {p : Nums} : EqI (Jq6w p) (.region (Jq73 p) []) := eqi
def Jq6x (p : Nums) : IC := (.seq (.region [⟨(some 17), (.bin .lss (.t 16) (.t 15)), none, false⟩] []) (.seq (.cond (.t 17) .skip (.exit 0)) (.seq (.block 1 (.seq (Jq6v p) (Jq6w p))) (.region [⟨(some 26), (.bin .add (.t 16) (.c (.d (.int .i64 1)))), none, false⟩, ⟨(some 16), (.mov (.t 26)), none, false⟩] []))))
@[simp] theorem Je6x {p : Nums} : EqI (Jq6x p) (.seq (.region [⟨(some 17), (.bin .lss (.t 16) (.t 15)), none, false⟩] []) (.seq (.cond (.t 17) .skip (.exit 0)) (.seq (.block 1 (.seq (Jq6v p) (Jq6w p))) (.region [⟨(some 26), (.bin .add (.t 16) (.c (.d (.int .i64 1)))), none, false⟩, ⟨(some 16), (.mov (.t 26)), none, false⟩] [])))) := eqi
@[simp] def Jq74 (p : Nums) : List IOp := [qp 28 (.faddr 7 (.t 1)), qp 29 (.load none (.t 28)), qp 30 (.iaddr 1 (.t 29) (ci 0)), qp 31 (.load none (.t 30)), qp 32 (.faddr 0 (.t 1)), qp 33 (.faddr 0 (.t 32)), qp 34 (.load none (.t 33)), qo 35 (.call p.edge_Entry [(.t 31), (.t 34)]), qo 27 (.mov (.t 35)), qp 36 (.ext (.t 27) 0), qp 37 (.ext (.t 27) 1), qo 38 (.faddr 0 (.t 3)), qn (.store 1 (.t 38) (.t 37))]
def Jq6y (p : Nums) : IC := (.region (Jq74 p) [])
@[simp] theorem Je6y {p : Nums} : EqI (Jq6y p) (.region (Jq74 p) []) := eqi
def Jtcg (p : Nums) : IC := (.seq (Jq6s p) (.seq (Jq6t p) (.seq (.seq (Jq6u p) (.block 0 (.loop (Jq6x p)))) (.seq (Jq6y p) (.seq (.region [⟨(some 39), (.load (some 7) (.t 3)), none, false⟩, ⟨none, (.store 7 (.t 2) (.t 39)), none, false⟩] []) .ret)))))
@[simp] def Jq30 (p : Nums) : List IOp := [qo 4 (.box (.t 0)), qo 5 (.box (.t 1)), qo 8 (.alloc [.nils, (zi 0), (zi 0), (zi 0), (zi 0)])]
def Jq2p (p : Nums) : IC := (.region (Jq30 p) [])
@[simp] theorem Je2p {p : Nums} : EqI (Jq2p p) (.region (Jq30 p) []) := eqi
@[simp] def Jq33 (p : Nums) : List IOp := [qo 14 (.mov (.t 2)), qo 15 (.len (.t 14)), qo 16 (.mov (.t 3)), qo 17 (.bin .gtr (.t 15) (.t 16))]
def Jq2s (p : Nums) : IC := (.region (Jq33 p) [])
@[simp] theorem Je2s {p : Nums} : EqI (Jq2s p) (.region (Jq33 p) []) := eqi
@[simp] def Jq34 (p : Nums) : List IOp := [qo 18 (.mov (.t 2)), qo 19 (.len (.t 18)), qo 20 (.build [.nils, (zi 0), (zi 0), (zi 0), (zi 0)] [(1, 1, (ci 24)), (4, 1, (.t 19))]), qn (.store 5 (.t 8) (.t 20))]
def Jq2t (p : Nums) : IC := (.region (Jq34 p) [])
@[simp] theorem Je2t {p : Nums} : EqI (Jq2t p) (.region (Jq34 p) []) := eqi
@[simp] def Jq35 (p : Nums) : List IOp := [qo 22 (.faddr 0 (.t 4)), qo 23 (.load none (.t 22)), qo 24 (.faddr 0 (.t 5)), qo 25 (.load none (.t 24)), qo 26 (.call p.align_Code [(.t 23), (.t 25)]), qo 21 (.mov (.t 26)), qo 27 (.ext (.t 21) 0), qo 28 (.ext (.t 21) 1), qo 29 (.ext (.t 21) 2), qo 9 (.asg (.t 27)), qo 10 (.asg (.t 28)), qo 11 (.asg (.t 29))]
def Jq2u (p : Nums) : IC := (.region (Jq35 p) [])
@[simp] theorem Je2u {p : Nums} : EqI (Jq2u p) (.region (Jq35 p) []) := eqi
@[simp] def Jq36 (p : Nums) : List IOp := [qo 30 (.mov (.t 11)), qo 31 (.bin .eql (.t 30) (ci 0)), qo 32 (.mov (.t 31)), ⟨(some 33), (.faddr 1 (.t 4)), (some (32, true)), false⟩, ⟨(some 34), (.load (some 4) (.t 33)), (some (32, true)), false⟩, ⟨(some 35), (.faddr 1 (.t 5)), (some (32, true)), false⟩, ⟨(some 36), (.load (some 4) (.t 35)), (some (32, true)), false⟩, ⟨(some 37), (.call p.align_Terms [(.t 34), (.t 36)]), (some (32, true)), false⟩, ⟨(some 38), (.un .not (.t 37)), (some (32, true)), false⟩, qo 39 (.pick (.t 32) (.t 38) (.c (.d (.bool false))))]
def Jq2v (p : Nums) : IC := (.region (Jq36 p) [])
@[simp] theorem Je2v {p : Nums} : EqI (Jq2v p) (.region (Jq36 p) []) := eqi
@[simp] def Jq37 (p : Nums) : List IOp := [qo 11 (.asg (ci 20))]
def Jq2w (p : Nums) : IC := (.region (Jq37 p) [])
@[simp] theorem Je2w {p : Nums} : EqI (Jq2w p) (.region (Jq37 p) []) := eqi
@[simp] def Jq38 (p : Nums) : List IOp := [qo 42 (.mov (.t 11)), qo 43 (.mov (.t 10)), qo 44 (.mov (.t 2)), qo 45 (.len (.t 44)), qo 46 (.build [.nils, (zi 0), (zi 0), (zi 0), (zi 0)] [(1, 1, (.t 42)), (2, 1, (.t 43)), (4, 1, (.t 45))]), qn (.store 5 (.t 8) (.t 46))]
def Jq2x (p : Nums) : IC := (.region (Jq38 p) [])
@[simp] theorem Je2x {p : Nums} : EqI (Jq2x p) (.region (Jq38 p) []) := eqi
@[simp] def Jq39 (p : Nums) : List IOp := [qo 47 (.mov (.t 2)), qo 48 (.call p.pairset_Make [(.t 47)]), qo 49 (.mov (.t 3)), qo 50 (.mov (.t 2)), qo 51 (.len (.t 50)), qo 52 (.build [.nils, (zi 0), (zi 0), (zi 0)] [(0, 1, (.t 48)), (1, 1, (.t 49)), (3, 1, (.t 51))]), qo 53 (.box (.t 52)), qo 12 (.asg (.t 53))]
def Jq2y (p : Nums) : IC := (.region (Jq39 p) [])
@[simp] theorem Je2y {p : Nums} : EqI (Jq2y p) (.region (Jq39 p) []) := eqi
@[simp] def Jq3a (p : Nums) : List IOp := [qo 55 (.mov (.t 12)), qo 56 (.load (some 5) (.t 4)), qo 57 (.load (some 5) (.t 5)), qo 58 (.mov (.t 9)), qo 59 (.call p.blockcheck_checker_run [(.t 55), (.t 56), (.t 57), (.t 58)]), qo 54 (.mov (.t 59)), qo 60 (.ext (.t 54) 0), qo 61 (.ext (.t 54) 1), qo 11 (.asg (.t 60)), qo 10 (.asg (.t 61))]
def Jq2z (p : Nums) : IC := (.region (Jq3a p) [])
@[simp] theorem Je2z {p : Nums} : EqI (Jq2z p) (.region (Jq3a p) []) := eqi
@[simp] def Jq31 (p : Nums) : List IOp := [qp 62 (.mov (.t 11)), qp 63 (.mov (.t 10)), qp 64 (.mov (.t 12)), qp 65 (.nilck (.t 64)), qp 66 (.faddr 2 (.t 65)), qp 67 (.load none (.t 66)), qp 68 (.mov (.t 12)), qp 69 (.nilck (.t 68)), qp 70 (.faddr 3 (.t 69)), qp 71 (.load none (.t 70)), qp 72 (.build [.nils, (zi 0), (zi 0), (zi 0), (zi 0)] [(1, 1, (.t 62)), (2, 1, (.t 63)), (3, 1, (.t 67)), (4, 1, (.t 71))]), qp 13 (.alloc [.nils, (zi 0), (zi 0), (zi 0), (zi 0)]), qn (.store 5 (.t 13) (.t 72))]
def Jq2q (p : Nums) : IC := (.region (Jq31 p) [])
@[simp] theorem Je2q {p : Nums} : EqI (Jq2q p) (.region (Jq31 p) []) := eqi
@[simp] def Jq32 (p : Nums) : List IOp := [qo 75 (.mov (.t 12)), qo 76 (.nilck (.t 75)), qo 77 (.faddr 0 (.t 76)), qo 78 (.load none (.t 77)), qo 79 (.faddr 0 (.t 13)), qn (.store 1 (.t 79) (.t 78))]
def Jq2r (p : Nums) : IC := (.region (Jq32 p) [])
@[simp] theorem Je2r {p : Nums} : EqI (Jq2r p) (.region (Jq32 p) []) := eqi
def Jtc4 (p : Nums) : IC := (.seq (Jq2p p) (.seq (.seq (Jq2s p) (.cond (.t 17) (.seq (Jq2t p) .ret) .skip)) (.seq (Jq2u p) (.seq (.seq (Jq2v p) (.cond (.t 39) (Jq2w p) .skip)) (.seq (.seq (.region [⟨(some 40), (.mov (.t 11)), none, false⟩, ⟨(some 41), (.bin .neq (.t 40) (.c (.d (.int .i64 0)))), none, false⟩] []) (.cond (.t 41) (.seq (Jq2x p) .ret) .skip)) (.seq (Jq2y p) (.seq (Jq2z p) (.seq (Jq2q p) (.seq (.seq (.region [⟨(some 73), (.mov (.t 11)), none, false⟩, ⟨(some 74), (.bin .eql (.t 73) (.c (.d (.int .i64 0)))), none, false⟩] []) (.cond (.t 74) (Jq2r p) .skip)) (.seq (.region [⟨(some 80), (.load (some 5) (.t 13)), none, false⟩, ⟨none, (.store 5 (.t 8) (.t 80)), none, false⟩] []) .ret))))))))))
@[simp] def Jqoe (p : Nums) : List IOp := [qo 7 (.faddr 2 (.t 1)), qo 8 (.load none (.t 7)), qo 9 (.bslice 1 1 [(.int .i64 0)] [(0, (.t 8))]), qo 2 (.asg (.t 9))]
def Jqoa (p : Nums) : IC := (.region (Jqoe p) [])
@[simp] theorem Jeoa {p : Nums} : EqI (Jqoa p) (.region (Jqoe p) []) := eqi
@[simp] def Jqof (p : Nums) : List IOp := [qo 12 (.faddr 2 (.t 1)), qo 13 (.load none (.t 12)), qo 14 (.faddr 3 (.t 1)), qo 15 (.load none (.t 14)), qo 16 (.bslice 1 2 [(.int .i64 0)] [(0, (.t 13)), (1, (.t 15))]), qo 2 (.asg (.t 16))]
def Jqob (p : Nums) : IC := (.region (Jqof p) [])
@[simp] theorem Jeob {p : Nums} : EqI (Jqob p) (.region (Jqof p) []) := eqi
def Jqoc (p : Nums) : IC := (.seq (.region [⟨(some 11), (.bin .eql (.t 4) (.c (.d (.int .i64 2)))), none, false⟩, ⟨(some 10), (.asg (.t 11)), none, false⟩] []) (.cond (.t 10) (.seq (Jqob p) .ret) .skip))
@[simp] theorem Jeoc {p : Nums} : EqI (Jqoc p) (.seq (.region [⟨(some 11), (.bin .eql (.t 4) (.c (.d (.int .i64 2)))), none, false⟩, ⟨(some 10), (.asg (.t 11)), none, false⟩] []) (.cond (.t 10) (.seq (Jqob p) .ret) .skip)) := eqi
def Jqod (p : Nums) : IC := (.seq (.region [⟨(some 6), (.bin .eql (.t 4) (.c (.d (.int .i64 1)))), none, false⟩, ⟨(some 5), (.asg (.t 6)), none, false⟩] []) (.cond (.t 5) (.seq (Jqoa p) .ret) (Jqoc p)))
@[simp] theorem Jeod {p : Nums} : EqI (Jqod p) (.seq (.region [⟨(some 6), (.bin .eql (.t 4) (.c (.d (.int .i64 1)))), none, false⟩, ⟨(some 5), (.asg (.t 6)), none, false⟩] []) (.cond (.t 5) (.seq (Jqoa p) .ret) (Jqoc p))) := eqi
def Jtec (p : Nums) : IC := (.seq (.region [⟨(some 1), (.box (.t 0)), none, false⟩, ⟨(some 2), (.asg (.c .nils)), none, false⟩] []) (.seq (.seq (.region [⟨(some 3), (.faddr 0 (.t 1)), none, false⟩, ⟨(some 4), (.load none (.t 3)), none, false⟩] []) (.block 0 (Jqod p))) (.seq (.region [⟨(some 2), (.asg (.c .nils)), none, false⟩] []) .ret)))
@[simp] def Jq7n (p : Nums) : List IOp := [qo 4 (.alloc [(zi 0), (zi 0)]), qo 5 (.asg (ci 0))]
def Jq7j (p : Nums) : IC := (.region (Jq7n p) [])
@[simp] theorem Je7j {p : Nums} : EqI (Jq7j p) (.region (Jq7n p) []) := eqi
@[simp] def Jq7o (p : Nums) : List IOp := [qo 9 (.mov (.t 1)), qo 10 (.mov (.t 0)), qo 11 (.call p.pairset_Missing [(.t 9), (.t 10)]), qo 8 (.mov (.t 11)), qo 12 (.ext (.t 8) 0), qo 13 (.ext (.t 8) 1), qo 6 (.alloc [(zi 0), (zi 0)]), qn (.store 2 (.t 6) (.t 12)), qo 7 (.asg (.t 13))]
def Jq7k (p : Nums) : IC := (.region (Jq7o p) [])
@[simp] theorem Je7k {p : Nums} : EqI (Jq7k p) (.region (Jq7o p) []) := eqi
@[simp] def Jq7p (p : Nums) : List IOp := [qo 15 (.load (some 2) (.t 6)), qn (.store 2 (.t 4) (.t 15)), qo 5 (.asg (ci 22))]
def Jq7l (p : Nums) : IC := (.region (Jq7p p) [])
@[simp] theorem Je7l {p : Nums} : EqI (Jq7l p) (.region (Jq7p p) []) := eqi
@[simp] def Jq7q (p : Nums) : List IOp := [qo 16 (.build [(zi 0), (zi 0)] []), qn (.store 2 (.t 4) (.t 16)), qo 5 (.asg (ci 0))]
def Jq7m (p : Nums) : IC := (.region (Jq7q p) [])
@[simp] theorem Je7m {p : Nums} : EqI (Jq7m p) (.region (Jq7q p) []) := eqi
def Jtci (p : Nums) : IC := (.seq (Jq7j p) (.seq (.seq (Jq7k p) (.seq (.region [⟨(some 14), (.mov (.t 7)), none, false⟩] []) (.cond (.t 14) (.seq (Jq7l p) .ret) .skip))) (.seq (Jq7m p) .ret)))
@[simp] def Jqnr (p : Nums) : List IOp := [qo 6 (.faddr 2 (.t 1)), qo 7 (.load none (.t 6)), qo 8 (.len (.t 7)), qo 9 (.mov (ci 0))]
def Jqnn (p : Nums) : IC := (.region (Jqnr p) [])
@[simp] theorem Jenn {p : Nums} : EqI (Jqnn p) (.region (Jqnr p) []) := eqi
@[simp] def Jqns (p : Nums) : List IOp := [qo 11 (.iaddr 5 (.t 7) (.t 9)), qo 12 (.load (some 5) (.t 11)), qo 5 (.alloc [.nils, (zi 0), (zi 0), (zi 0), (zi 0)]), qn (.store 5 (.t 5) (.t 12))]
def Jqno (p : Nums) : IC := (.region (Jqns p) [])
@[simp] theorem Jeno {p : Nums} : EqI (Jqno p) (.region (Jqns p) []) := eqi
@[simp] def Jqnt (p : Nums) : List IOp := [qo 13 (.mov (.t 3)), qo 14 (.faddr 0 (.t 5)), qo 15 (.load none (.t 14)), qo 16 (.len (.t 15)), qo 17 (.bin .add (.t 13) (.t 16)), qo 3 (.asg (.t 17))]
def Jqnp (p : Nums) : IC := (.region (Jqnt p) [])
@[simp] theorem Jenp {p : Nums} : EqI (Jqnp p) (.region (Jqnt p) []) := eqi
def Jqnq (p : Nums) : IC := (.seq (.region [⟨(some 10), (.bin .lss (.t 9) (.t 8)), none, false⟩] []) (.seq (.cond (.t 10) .skip (.exit 0)) (.seq (.block 1 (.seq (Jqno p) (Jqnp p))) (.region [⟨(some 18), (.bin .add (.t 9) (.c (.d (.int .i64 1)))), none, false⟩, ⟨(some 9), (.mov (.t 18)), none, false⟩] []))))
@[simp] theorem Jenq {p : Nums} : EqI (Jqnq p) (.seq (.region [⟨(some 10), (.bin .lss (.t 9) (.t 8)), none, false⟩] []) (.seq (.cond (.t 10) .skip (.exit 0)) (.seq (.block 1 (.seq (Jqno p) (Jqnp p))) (.region [⟨(some 18), (.bin .add (.t 9) (.c (.d (.int .i64 1)))), none, false⟩, ⟨(some 9), (.mov (.t 18)), none, false⟩] [])))) := eqi
def Jtea (p : Nums) : IC := (.seq (.region [⟨(some 1), (.box (.t 0)), none, false⟩, ⟨(some 2), (.asg (.c (.d (.int .i64 0)))), none, false⟩] []) (.seq (.region [⟨(some 3), (.asg (.c (.d (.int .i64 0)))), none, false⟩] []) (.seq (.seq (Jqnn p) (.block 0 (.loop (Jqnq p)))) (.seq (.region [⟨(some 19), (.mov (.t 3)), none, false⟩, ⟨(some 2), (.asg (.t 19)), none, false⟩] []) .ret))))
@[simp] def Jqey (p : Nums) : List IOp := [qo 6 (.faddr 3 (.t 1)), qo 7 (.load none (.t 6)), qo 8 (.len (.t 7)), qo 9 (.mov (ci 0))]
def Jqeu (p : Nums) : IC := (.region (Jqey p) [])
@[simp] theorem Jeeu {p : Nums} : EqI (Jqeu p) (.region (Jqey p) []) := eqi
@[simp] def Jqez (p : Nums) : List IOp := [qo 11 (.iaddr 5 (.t 7) (.t 9)), qo 12 (.load (some 5) (.t 11)), qo 5 (.alloc [.nils, (zi 0), (zi 0), (zi 0), (zi 0)]), qn (.store 5 (.t 5) (.t 12))]
def Jqev (p : Nums) : IC := (.region (Jqez p) [])
@[simp] theorem Jeev {p : Nums} : EqI (Jqev p) (.region (Jqez p) []) := eqi
@[simp] def Jqf0 (p : Nums) : List IOp := [qo 13 (.mov (.t 3)), qo 14 (.faddr 0 (.t 5)), qo 15 (.load none (.t 14)), qo 16 (.len (.t 15)), qo 17 (.bin .add (.t 13) (.t 16)), qo 3 (.asg (.t 17))]
def Jqew (p : Nums) : IC := (.region (Jqf0 p) [])
@[simp] theorem Jeew {p : Nums} : EqI (Jqew p) (.region (Jqf0 p) []) := eqi
def Jqex (p : Nums) : IC := (.seq (.region [⟨(some 10), (.bin .lss (.t 9) (.t 8)), none, false⟩] []) (.seq (.cond (.t 10) .skip (.exit 0)) (.seq (.block 1 (.seq (Jqev p) (Jqew p))) (.region [⟨(some 18), (.bin .add (.t 9) (.c (.d (.int .i64 1)))), none, false⟩, ⟨(some 9), (.mov (.t 18)), none, false⟩] []))))
@[simp] theorem Jeex {p : Nums} : EqI (Jqex p) (.seq (.region [⟨(some 10), (.bin .lss (.t 9) (.t 8)), none, false⟩] []) (.seq (.cond (.t 10) .skip (.exit 0)) (.seq (.block 1 (.seq (Jqev p) (Jqew p))) (.region [⟨(some 18), (.bin .add (.t 9) (.c (.d (.int .i64 1)))), none, false⟩, ⟨(some 9), (.mov (.t 18)), none, false⟩] [])))) := eqi
def Jtda (p : Nums) : IC := (.seq (.region [⟨(some 1), (.box (.t 0)), none, false⟩, ⟨(some 2), (.asg (.c (.d (.int .i64 0)))), none, false⟩] []) (.seq (.region [⟨(some 3), (.asg (.c (.d (.int .i64 0)))), none, false⟩] []) (.seq (.seq (Jqeu p) (.block 0 (.loop (Jqex p)))) (.seq (.region [⟨(some 19), (.mov (.t 3)), none, false⟩, ⟨(some 2), (.asg (.t 19)), none, false⟩] []) .ret))))
@[simp] def Jqb8 (p : Nums) : List IOp := [qo 3 (.box (.t 0)), qo 6 (.alloc [(zi 0), (zi 0), (zi 0), (zi 0), .nils, .nils, .nils, (zi 0)]), qo 7 (.asg (ci 0))]
def Jqb0 (p : Nums) : IC := (.region (Jqb8 p) [])
@[simp] theorem Jeb0 {p : Nums} : EqI (Jqb0 p) (.region (Jqb8 p) []) := eqi
@[simp] def Jqb9 (p : Nums) : List IOp := [qo 9 (.mov (.t 1)), qo 10 (.len (.t 9)), qo 11 (.faddr 0 (.t 3)), qo 12 (.load none (.t 11)), qo 13 (.bin .neq (.t 10) (.t 12))]
def Jqb1 (p : Nums) : IC := (.region (Jqb9 p) [])
@[simp] theorem Jeb1 {p : Nums} : EqI (Jqb1 p) (.region (Jqb9 p) []) := eqi
@[simp] def Jqba (p : Nums) : List IOp := [qo 14 (.build [(zi 0), (zi 0), (zi 0), (zi 0), .nils, .nils, .nils, (zi 0)] []), qn (.store 8 (.t 6) (.t 14)), qo 7 (.asg (ci 32))]
def Jqb2 (p : Nums) : IC := (.region (Jqba p) [])
@[simp] theorem Jeb2 {p : Nums} : EqI (Jqb2 p) (.region (Jqba p) []) := eqi
@[simp] def Jqbb (p : Nums) : List IOp := [qo 15 (.load (some 3) (.t 3)), qo 16 (.mov (.t 1)), qo 17 (.call p.interp_begin [(.t 15), (.t 16)]), qo 8 (.asg (.t 17))]
def Jqb3 (p : Nums) : IC := (.region (Jqbb p) [])
@[simp] theorem Jeb3 {p : Nums} : EqI (Jqb3 p) (.region (Jqbb p) []) := eqi
@[simp] def Jqbc (p : Nums) : List IOp := [qo 18 (.mov (.t 8)), qo 19 (.nilck (.t 18)), qo 20 (.faddr 0 (.t 19)), qo 21 (.faddr 0 (.t 20)), qo 22 (.load none (.t 21)), qo 23 (.bin .eql (.t 22) (ci 0)), qo 24 (.mov (.t 23)), ⟨(some 25), (.mov (.t 8)), (some (24, true)), false⟩, ⟨(some 26), (.nilck (.t 25)), (some (24, true)), false⟩, ⟨(some 27), (.faddr 0 (.t 26)), (some (24, true)), false⟩, ⟨(some 28), (.faddr 7 (.t 27)), (some (24, true)), false⟩, ⟨(some 29), (.load none (.t 28)), (some (24, true)), false⟩, ⟨(some 30), (.mov (.t 2)), (some (24, true)), false⟩, ⟨(some 31), (.mn (.t 30) (ci 1073741824)), (some (24, true)), false⟩, ⟨(some 32), (.bin .lss (.t 29) (.t 31)), (some (24, true)), false⟩, qo 33 (.pick (.t 24) (.t 32) (.c (.d (.bool false))))]
def Jqb4 (p : Nums) : IC := (.region (Jqbc p) [])
@[simp] theorem Jeb4 {p : Nums} : EqI (Jqb4 p) (.region (Jqbc p) []) := eqi
@[simp] def Jqbd (p : Nums) : List IOp := [qo 34 (.mov (.t 8)), qo 35 (.call p.interp_state_step [(.t 34)])]
def Jqb5 (p : Nums) : IC := (.region (Jqbd p) [])
@[simp] theorem Jeb5 {p : Nums} : EqI (Jqb5 p) (.region (Jqbd p) []) := eqi
def Jqb6 (p : Nums) : IC := (.seq (.seq (Jqb4 p) (.cond (.t 33) .skip (.exit 0))) (.block 1 (Jqb5 p)))
@[simp] theorem Jeb6 {p : Nums} : EqI (Jqb6 p) (.seq (.seq (Jqb4 p) (.cond (.t 33) .skip (.exit 0))) (.block 1 (Jqb5 p))) := eqi
@[simp] def Jqbe (p : Nums) : List IOp := [qo 36 (.mov (.t 8)), qo 37 (.nilck (.t 36)), qo 38 (.faddr 0 (.t 37)), qo 39 (.load (some 8) (.t 38)), qn (.store 8 (.t 6) (.t 39)), qo 7 (.asg (ci 0))]
def Jqb7 (p : Nums) : IC := (.region (Jqbe p) [])
@[simp] theorem Jeb7 {p : Nums} : EqI (Jqb7 p) (.region (Jqbe p) []) := eqi
def Jtcw (p : Nums) : IC := (.seq (Jqb0 p) (.seq (.seq (Jqb1 p) (.cond (.t 13) (.seq (Jqb2 p) .ret) .skip)) (.seq (Jqb3 p) (.seq (.block 0 (.loop (Jqb6 p))) (.seq (Jqb7 p) .ret)))))
@[simp] def Jq9a (p : Nums) : List IOp := [qo 3 (.box (.t 0)), qo 6 (.alloc [(zi 0), (zi 0), (zi 0), (zi 0), .nils, .nils, .nils, (zi 0)]), qo 7 (.asg (ci 0))]
def Jq92 (p : Nums) : IC := (.region (Jq9a p) [])
@[simp] theorem Je92 {p : Nums} : EqI (Jq92 p) (.region (Jq9a p) []) := eqi
@[simp] def Jq9b (p : Nums) : List IOp := [qo 9 (.mov (.t 1)), qo 10 (.len (.t 9)), qo 11 (.faddr 0 (.t 3)), qo 12 (.load none (.t 11)), qo 13 (.bin .neq (.t 10) (.t 12))]
def Jq93 (p : Nums) : IC := (.region (Jq9b p) [])
@[simp] theorem Je93 {p : Nums} : EqI (Jq93 p) (.region (Jq9b p) []) := eqi
@[simp] def Jq9c (p : Nums) : List IOp := [qo 14 (.build [(zi 0), (zi 0), (zi 0), (zi 0), .nils, .nils, .nils, (zi 0)] []), qn (.store 8 (.t 6) (.t 14)), qo 7 (.asg (ci 32))]
def Jq94 (p : Nums) : IC := (.region (Jq9c p) [])
@[simp] theorem Je94 {p : Nums} : EqI (Jq94 p) (.region (Jq9c p) []) := eqi
@[simp] def Jq9d (p : Nums) : List IOp := [qo 15 (.load (some 4) (.t 3)), qo 16 (.mov (.t 1)), qo 17 (.call p.execute_begin [(.t 15), (.t 16)]), qo 8 (.asg (.t 17))]
def Jq95 (p : Nums) : IC := (.region (Jq9d p) [])
@[simp] theorem Je95 {p : Nums} : EqI (Jq95 p) (.region (Jq9d p) []) := eqi
@[simp] def Jq9e (p : Nums) : List IOp := [qo 18 (.mov (.t 8)), qo 19 (.nilck (.t 18)), qo 20 (.faddr 0 (.t 19)), qo 21 (.faddr 0 (.t 20)), qo 22 (.load none (.t 21)), qo 23 (.bin .eql (.t 22) (ci 0)), qo 24 (.mov (.t 23)), ⟨(some 25), (.mov (.t 8)), (some (24, true)), false⟩, ⟨(some 26), (.nilck (.t 25)), (some (24, true)), false⟩, ⟨(some 27), (.faddr 0 (.t 26)), (some (24, true)), false⟩, ⟨(some 28), (.faddr 7 (.t 27)), (some (24, true)), false⟩, ⟨(some 29), (.load none (.t 28)), (some (24, true)), false⟩, ⟨(some 30), (.mov (.t 2)), (some (24, true)), false⟩, ⟨(some 31), (.mn (.t 30) (ci 1073741824)), (some (24, true)), false⟩, ⟨(some 32), (.bin .lss (.t 29) (.t 31)), (some (24, true)), false⟩, qo 33 (.pick (.t 24) (.t 32) (.c (.d (.bool false))))]
def Jq96 (p : Nums) : IC := (.region (Jq9e p) [])
@[simp] theorem Je96 {p : Nums} : EqI (Jq96 p) (.region (Jq9e p) []) := eqi
@[simp] def Jq9f (p : Nums) : List IOp := [qo 34 (.mov (.t 8)), qo 35 (.call p.execute_state_step [(.t 34)])]
def Jq97 (p : Nums) : IC := (.region (Jq9f p) [])
@[simp] theorem Je97 {p : Nums} : EqI (Jq97 p) (.region (Jq9f p) []) := eqi
def Jq98 (p : Nums) : IC := (.seq (.seq (Jq96 p) (.cond (.t 33) .skip (.exit 0))) (.block 1 (Jq97 p)))
@[simp] theorem Je98 {p : Nums} : EqI (Jq98 p) (.seq (.seq (Jq96 p) (.cond (.t 33) .skip (.exit 0))) (.block 1 (Jq97 p))) := eqi
@[simp] def Jq9g (p : Nums) : List IOp := [qo 36 (.mov (.t 8)), qo 37 (.nilck (.t 36)), qo 38 (.faddr 0 (.t 37)), qo 39 (.load (some 8) (.t 38)), qn (.store 8 (.t 6) (.t 39)), qo 7 (.asg (ci 0))]
def Jq99 (p : Nums) : IC := (.region (Jq9g p) [])
@[simp] theorem Je99 {p : Nums} : EqI (Jq99 p) (.region (Jq9g p) []) := eqi
def Jtcn (p : Nums) : IC := (.seq (Jq92 p) (.seq (.seq (Jq93 p) (.cond (.t 13) (.seq (Jq94 p) .ret) .skip)) (.seq (Jq95 p) (.seq (.block 0 (.loop (Jq98 p))) (.seq (Jq99 p) .ret)))))
@[simp] def Jqlk (p : Nums) : List IOp := [qo 6 (.mov (.t 0)), qo 7 (.len (.t 6)), qo 8 (.mov (.t 1)), qo 9 (.len (.t 8)), qo 10 (.bin .neq (.t 7) (.t 9))]
def Jqlc (p : Nums) : IC := (.region (Jqlk p) [])
@[simp] theorem Jelc {p : Nums} : EqI (Jqlc p) (.region (Jqlk p) []) := eqi
def Jqld (p : Nums) : IC := (.seq (.region [⟨(some 4), (.asg (.c (.d (.bool false)))), none, false⟩] []) .ret)
@[simp] theorem Jeld {p : Nums} : EqI (Jqld p) (.seq (.region [⟨(some 4), (.asg (.c (.d (.bool false)))), none, false⟩] []) .ret) := eqi
@[simp] def Jqll (p : Nums) : List IOp := [qo 11 (.mov (.t 5)), qo 12 (.mov (.t 0)), qo 13 (.len (.t 12)), qo 14 (.bin .lss (.t 11) (.t 13))]
def Jqle (p : Nums) : IC := (.region (Jqll p) [])
@[simp] theorem Jele {p : Nums} : EqI (Jqle p) (.region (Jqll p) []) := eqi
@[simp] def Jqlm (p : Nums) : List IOp := [qp 17 (.mov (.t 0)), qp 18 (.mov (.t 5)), qp 19 (.iaddr 1 (.t 17) (.t 18)), qp 20 (.load none (.t 19)), qp 21 (.mov (.t 1)), qp 22 (.mov (.t 5)), qp 23 (.iaddr 1 (.t 21) (.t 22)), qp 24 (.load none (.t 23)), qo 25 (.bin .neq (.t 20) (.t 24))]
def Jqlf (p : Nums) : IC := (.region (Jqlm p) [])
@[simp] theorem Jelf {p : Nums} : EqI (Jqlf p) (.region (Jqlm p) []) := eqi
def Jqlg (p : Nums) : IC := (.seq (.region [⟨(some 4), (.asg (.c (.d (.bool false)))), none, false⟩] []) .ret)
@[simp] theorem Jelg {p : Nums} : EqI (Jqlg p) (.seq (.region [⟨(some 4), (.asg (.c (.d (.bool false)))), none, false⟩] []) .ret) := eqi
def Jqlh (p : Nums) : IC := (.seq (Jqlf p) (.cond (.t 25) (Jqlg p) .skip))
@[simp] theorem Jelh {p : Nums} : EqI (Jqlh p) (.seq (Jqlf p) (.cond (.t 25) (Jqlg p) .skip)) := eqi
@[simp] def Jqln (p : Nums) : List IOp := [qo 15 (.mov (.t 5)), qo 16 (.bin .add (.t 15) (ci 1)), qo 5 (.asg (.t 16))]
def Jqli (p : Nums) : IC := (.region (Jqln p) [])
@[simp] theorem Jeli {p : Nums} : EqI (Jqli p) (.region (Jqln p) []) := eqi
def Jqlj (p : Nums) : IC := (.seq (.seq (Jqle p) (.cond (.t 14) .skip (.exit 0))) (.seq (.block 1 (Jqlh p)) (Jqli p)))
@[simp] theorem Jelj {p : Nums} : EqI (Jqlj p) (.seq (.seq (Jqle p) (.cond (.t 14) .skip (.exit 0))) (.seq (.block 1 (Jqlh p)) (Jqli p))) := eqi
def Jte4 (p : Nums) : IC := (.seq (.region [⟨(some 4), (.asg (.c (.d (.bool false)))), none, false⟩] []) (.seq (.seq (Jqlc p) (.cond (.t 10) (Jqld p) .skip)) (.seq (.seq (.region [⟨(some 5), (.asg (.c (.d (.int .i64 0)))), none, false⟩] []) (.block 0 (.loop (Jqlj p)))) (.seq (.region [⟨(some 4), (.asg (.c (.d (.bool true)))), none, false⟩] []) .ret))))
@[simp] def Jqlb (p : Nums) : List IOp := [qo 5 (.mov (.t 0)), qo 6 (.len (.t 5)), qo 7 (.mov (.t 1)), qo 8 (.len (.t 7)), qo 9 (.bin .leq (.t 6) (.t 8)), qo 10 (.mov (.t 9)), ⟨(some 11), (.mov (.t 0)), (some (10, true)), false⟩, ⟨(some 12), (.mov (.t 1)), (some (10, true)), false⟩, ⟨(some 13), (.mov (.t 0)), (some (10, true)), false⟩, ⟨(some 14), (.len (.t 13)), (some (10, true)), false⟩, ⟨(some 15), (.slc 1 (.t 12) none (some (.t 14))), (some (10, true)), false⟩, ⟨(some 16), (.call p.ref09_Values [(.t 11), (.t 15)]), (some (10, true)), false⟩, qo 17 (.pick (.t 10) (.t 16) (.c (.d (.bool false)))), qo 4 (.asg (.t 17))]
def Jqla (p : Nums) : IC := (.region (Jqlb p) [])
@[simp] theorem Jela {p : Nums} : EqI (Jqla p) (.region (Jqlb p) []) := eqi
def Jte3 (p : Nums) : IC := (.seq (.region [⟨(some 4), (.asg (.c (.d (.bool false)))), none, false⟩] []) (.seq (Jqla p) .ret))
@[simp] def Jqk8 (p : Nums) : List IOp := [qo 5 (.mov (.t 4)), qo 6 (.faddr 2 (.t 1)), qo 7 (.load none (.t 6)), qo 8 (.len (.t 7)), qo 9 (.bin .lss (.t 5) (.t 8))]
def Jqk4 (p : Nums) : IC := (.region (Jqk8 p) [])
@[simp] theorem Jek4 {p : Nums} : EqI (Jqk4 p) (.region (Jqk8 p) []) := eqi
@[simp] def Jqk9 (p : Nums) : List IOp := [qo 12 (.mov (.t 3)), qo 13 (.faddr 2 (.t 1)), qo 14 (.load none (.t 13)), qo 15 (.mov (.t 4)), qo 16 (.iaddr 5 (.t 14) (.t 15)), qo 17 (.faddr 0 (.t 16)), qo 18 (.load none (.t 17)), qo 19 (.len (.t 18)), qo 20 (.bin .add (.t 12) (.t 19)), qo 3 (.asg (.t 20))]
def Jqk5 (p : Nums) : IC := (.region (Jqk9 p) [])
@[simp] theorem Jek5 {p : Nums} : EqI (Jqk5 p) (.region (Jqk9 p) []) := eqi
@[simp] def Jqka (p : Nums) : List IOp := [qo 10 (.mov (.t 4)), qo 11 (.bin .add (.t 10) (ci 1)), qo 4 (.asg (.t 11))]
def Jqk6 (p : Nums) : IC := (.region (Jqka p) [])
@[simp] theorem Jek6 {p : Nums} : EqI (Jqk6 p) (.region (Jqka p) []) := eqi
def Jqk7 (p : Nums) : IC := (.seq (.seq (Jqk4 p) (.cond (.t 9) .skip (.exit 0))) (.seq (.block 1 (Jqk5 p)) (Jqk6 p)))
@[simp] theorem Jek7 {p : Nums} : EqI (Jqk7 p) (.seq (.seq (Jqk4 p) (.cond (.t 9) .skip (.exit 0))) (.seq (.block 1 (Jqk5 p)) (Jqk6 p))) := eqi
def Jtdz (p : Nums) : IC := (.seq (.region [⟨(some 1), (.box (.t 0)), none, false⟩, ⟨(some 2), (.asg (.c (.d (.int .i64 0)))), none, false⟩] []) (.seq (.region [⟨(some 3), (.asg (.c (.d (.int .i64 0)))), none, false⟩] []) (.seq (.seq (.region [⟨(some 4), (.asg (.c (.d (.int .i64 0)))), none, false⟩] []) (.block 0 (.loop (Jqk7 p)))) (.seq (.region [⟨(some 21), (.mov (.t 3)), none, false⟩, ⟨(some 2), (.asg (.t 21)), none, false⟩] []) .ret))))
@[simp] def Jqkt (p : Nums) : List IOp := [qo 5 (.mov (.t 4)), qo 6 (.faddr 3 (.t 1)), qo 7 (.load none (.t 6)), qo 8 (.len (.t 7)), qo 9 (.bin .lss (.t 5) (.t 8))]
def Jqkp (p : Nums) : IC := (.region (Jqkt p) [])
@[simp] theorem Jekp {p : Nums} : EqI (Jqkp p) (.region (Jqkt p) []) := eqi
@[simp] def Jqku (p : Nums) : List IOp := [qo 12 (.mov (.t 3)), qo 13 (.faddr 3 (.t 1)), qo 14 (.load none (.t 13)), qo 15 (.mov (.t 4)), qo 16 (.iaddr 5 (.t 14) (.t 15)), qo 17 (.faddr 0 (.t 16)), qo 18 (.load none (.t 17)), qo 19 (.len (.t 18)), qo 20 (.bin .add (.t 12) (.t 19)), qo 3 (.asg (.t 20))]
def Jqkq (p : Nums) : IC := (.region (Jqku p) [])
@[simp] theorem Jekq {p : Nums} : EqI (Jqkq p) (.region (Jqku p) []) := eqi
@[simp] def Jqkv (p : Nums) : List IOp := [qo 10 (.mov (.t 4)), qo 11 (.bin .add (.t 10) (ci 1)), qo 4 (.asg (.t 11))]
def Jqkr (p : Nums) : IC := (.region (Jqkv p) [])
@[simp] theorem Jekr {p : Nums} : EqI (Jqkr p) (.region (Jqkv p) []) := eqi
def Jqks (p : Nums) : IC := (.seq (.seq (Jqkp p) (.cond (.t 9) .skip (.exit 0))) (.seq (.block 1 (Jqkq p)) (Jqkr p)))
@[simp] theorem Jeks {p : Nums} : EqI (Jqks p) (.seq (.seq (Jqkp p) (.cond (.t 9) .skip (.exit 0))) (.seq (.block 1 (Jqkq p)) (Jqkr p))) := eqi
def Jte1 (p : Nums) : IC := (.seq (.region [⟨(some 1), (.box (.t 0)), none, false⟩, ⟨(some 2), (.asg (.c (.d (.int .i64 0)))), none, false⟩] []) (.seq (.region [⟨(some 3), (.asg (.c (.d (.int .i64 0)))), none, false⟩] []) (.seq (.seq (.region [⟨(some 4), (.asg (.c (.d (.int .i64 0)))), none, false⟩] []) (.block 0 (.loop (Jqks p)))) (.seq (.region [⟨(some 21), (.mov (.t 3)), none, false⟩, ⟨(some 2), (.asg (.t 21)), none, false⟩] []) .ret))))
@[simp] def Jqpi (p : Nums) : List IOp := [qo 10 (.faddr 0 (.t 3)), qo 11 (.load none (.t 10)), qo 12 (.len (.t 11)), qo 13 (.mov (ci 0))]
def Jqpb (p : Nums) : IC := (.region (Jqpi p) [])
@[simp] theorem Jepb {p : Nums} : EqI (Jqpb p) (.region (Jqpi p) []) := eqi
@[simp] def Jqpj (p : Nums) : List IOp := [qo 15 (.iaddr 5 (.t 11) (.t 13)), qo 16 (.load (some 5) (.t 15)), qo 8 (.alloc [(zi 0), (zi 0), (zi 0), (zi 0), (zi 0)]), qn (.store 5 (.t 8) (.t 16))]
def Jqpc (p : Nums) : IC := (.region (Jqpj p) [])
@[simp] theorem Jepc {p : Nums} : EqI (Jqpc p) (.region (Jqpj p) []) := eqi
@[simp] def Jqpk (p : Nums) : List IOp := [qo 17 (.load (some 5) (.t 8)), qo 18 (.mov (.t 1)), qo 19 (.call p.source_Instr [(.t 17), (.t 18)]), qo 9 (.asg (.t 19))]
def Jqpd (p : Nums) : IC := (.region (Jqpk p) [])
@[simp] theorem Jepd {p : Nums} : EqI (Jqpd p) (.region (Jqpk p) []) := eqi
def Jqpe (p : Nums) : IC := (.seq (.region [⟨(some 22), (.mov (.t 9)), none, false⟩, ⟨(some 6), (.asg (.t 22)), none, false⟩] []) .ret)
@[simp] theorem Jepe {p : Nums} : EqI (Jqpe p) (.seq (.region [⟨(some 22), (.mov (.t 9)), none, false⟩, ⟨(some 6), (.asg (.t 22)), none, false⟩] []) .ret) := eqi
def Jqpf (p : Nums) : IC := (.seq (Jqpc p) (.seq (Jqpd p) (.seq (.region [⟨(some 20), (.mov (.t 9)), none, false⟩, ⟨(some 21), (.bin .neq (.t 20) (.c (.d (.int .i64 0)))), none, false⟩] []) (.cond (.t 21) (Jqpe p) .skip))))
@[simp] theorem Jepf {p : Nums} : EqI (Jqpf p) (.seq (Jqpc p) (.seq (Jqpd p) (.seq (.region [⟨(some 20), (.mov (.t 9)), none, false⟩, ⟨(some 21), (.bin .neq (.t 20) (.c (.d (.int .i64 0)))), none, false⟩] []) (.cond (.t 21) (Jqpe p) .skip)))) := eqi
def Jqpg (p : Nums) : IC := (.seq (.region [⟨(some 14), (.bin .lss (.t 13) (.t 12)), none, false⟩] []) (.seq (.cond (.t 14) .skip (.exit 0)) (.seq (.block 1 (Jqpf p)) (.region [⟨(some 23), (.bin .add (.t 13) (.c (.d (.int .i64 1)))), none, false⟩, ⟨(some 13), (.mov (.t 23)), none, false⟩] []))))
@[simp] theorem Jepg {p : Nums} : EqI (Jqpg p) (.seq (.region [⟨(some 14), (.bin .lss (.t 13) (.t 12)), none, false⟩] []) (.seq (.cond (.t 14) .skip (.exit 0)) (.seq (.block 1 (Jqpf p)) (.region [⟨(some 23), (.bin .add (.t 13) (.c (.d (.int .i64 1)))), none, false⟩, ⟨(some 13), (.mov (.t 23)), none, false⟩] [])))) := eqi
@[simp] def Jqpl (p : Nums) : List IOp := [qo 24 (.faddr 1 (.t 3)), qo 25 (.load (some 4) (.t 24)), qo 26 (.mov (.t 1)), qo 27 (.mov (.t 2)), qo 28 (.call p.source_Term [(.t 25), (.t 26), (.t 27)]), qo 6 (.asg (.t 28))]
def Jqph (p : Nums) : IC := (.region (Jqpl p) [])
@[simp] theorem Jeph {p : Nums} : EqI (Jqph p) (.region (Jqpl p) []) := eqi
def Jtef (p : Nums) : IC := (.seq (.region [⟨(some 3), (.box (.t 0)), none, false⟩, ⟨(some 6), (.asg (.c (.d (.int .i64 0)))), none, false⟩] []) (.seq (.seq (Jqpb p) (.block 0 (.loop (Jqpg p)))) (.seq (Jqph p) .ret)))
@[simp] def Jqfs (p : Nums) : List IOp := [qo 2 (.box (.t 0)), qo 3 (.box (.t 1)), qo 4 (.asg (ci 0))]
def Jqfg (p : Nums) : IC := (.region (Jqfs p) [])
@[simp] theorem Jefg {p : Nums} : EqI (Jqfg p) (.region (Jqfs p) []) := eqi
@[simp] def Jqfu (p : Nums) : List IOp := [qo 9 (.faddr 0 (.t 3)), qo 10 (.load none (.t 9)), qo 11 (.len (.t 10)), qo 12 (.mov (ci 0))]
def Jqfk (p : Nums) : IC := (.region (Jqfu p) [])
@[simp] theorem Jefk {p : Nums} : EqI (Jqfk p) (.region (Jqfu p) []) := eqi
@[simp] def Jqfv (p : Nums) : List IOp := [qo 14 (.iaddr 7 (.t 10) (.t 12)), qo 15 (.load (some 7) (.t 14)), qo 7 (.alloc [(zi 0), (zi 0), (zi 0), (zi 0), (zi 0), (zi 0), (zi 0)]), qn (.store 7 (.t 7) (.t 15))]
def Jqfl (p : Nums) : IC := (.region (Jqfv p) [])
@[simp] theorem Jefl {p : Nums} : EqI (Jqfl p) (.region (Jqfv p) []) := eqi
@[simp] def Jqfw (p : Nums) : List IOp := [qo 16 (.load (some 7) (.t 7)), qo 17 (.faddr 1 (.t 2)), qo 18 (.load none (.t 17)), qo 19 (.faddr 2 (.t 2)), qo 20 (.load none (.t 19)), qo 21 (.call p.machine_Instr [(.t 16), (.t 18), (.t 20)]), qo 8 (.asg (.t 21))]
def Jqfm (p : Nums) : IC := (.region (Jqfw p) [])
@[simp] theorem Jefm {p : Nums} : EqI (Jqfm p) (.region (Jqfw p) []) := eqi
def Jqfn (p : Nums) : IC := (.seq (.region [⟨(some 24), (.mov (.t 8)), none, false⟩, ⟨(some 4), (.asg (.t 24)), none, false⟩] []) .ret)
@[simp] theorem Jefn {p : Nums} : EqI (Jqfn p) (.seq (.region [⟨(some 24), (.mov (.t 8)), none, false⟩, ⟨(some 4), (.asg (.t 24)), none, false⟩] []) .ret) := eqi
@[simp] def Jqfx (p : Nums) : List IOp := [qo 25 (.mov (.t 5)), qo 26 (.bin .add (.t 25) (ci 1)), qo 5 (.asg (.t 26))]
def Jqfo (p : Nums) : IC := (.region (Jqfx p) [])
@[simp] theorem Jefo {p : Nums} : EqI (Jqfo p) (.region (Jqfx p) []) := eqi
@[simp] def Jqfy (p : Nums) : List IOp := [qo 27 (.faddr 0 (.t 7)), qo 28 (.load none (.t 27)), qo 29 (.bin .neq (.t 28) (ci 18))]
def Jqfp (p : Nums) : IC := (.region (Jqfy p) [])
@[simp] theorem Jefp {p : Nums} : EqI (Jqfp p) (.region (Jqfy p) []) := eqi
@[simp] def Jqfz (p : Nums) : List IOp := [qo 5 (.asg (ci 0))]
def Jqfq (p : Nums) : IC := (.region (Jqfz p) [])
@[simp] theorem Jefq {p : Nums} : EqI (Jqfq p) (.region (Jqfz p) []) := eqi
def Jqfr (p : Nums) : IC := (.seq (.region [⟨(some 4), (.asg (.c (.d (.int .i64 15)))), none, false⟩] []) .ret)
@[simp] theorem Jefr {p : Nums} : EqI (Jqfr p) (.seq (.region [⟨(some 4), (.asg (.c (.d (.int .i64 15)))), none, false⟩] []) .ret) := eqi
def Jqfh (p : Nums) : IC := (.seq (Jqfl p) (.seq (.seq (Jqfm p) (.seq (.region [⟨(some 22), (.mov (.t 8)), none, false⟩, ⟨(some 23), (.bin .neq (.t 22) (.c (.d (.int .i64 0)))), none, false⟩] []) (.cond (.t 23) (Jqfn p) .skip))) (.seq (Jqfo p) (.seq (.seq (Jqfp p) (.cond (.t 29) (Jqfq p) .skip)) (.seq (.region [⟨(some 30), (.mov (.t 5)), none, false⟩, ⟨(some 31), (.bin .gtr (.t 30) (.c (.d (.int .i64 64)))), none, false⟩] []) (.cond (.t 31) (Jqfr p) .skip))))))
@[simp] theorem Jefh {p : Nums} : EqI (Jqfh p) (.seq (Jqfl p) (.seq (.seq (Jqfm p) (.seq (.region [⟨(some 22), (.mov (.t 8)), none, false⟩, ⟨(some 23), (.bin .neq (.t 22) (.c (.d (.int .i64 0)))), none, false⟩] []) (.cond (.t 23) (Jqfn p) .skip))) (.seq (Jqfo p) (.seq (.seq (Jqfp p) (.cond (.t 29) (Jqfq p) .skip)) (.seq (.region [⟨(some 30), (.mov (.t 5)), none, false⟩, ⟨(some 31), (.bin .gtr (.t 30) (.c (.d (.int .i64 64)))), none, false⟩] []) (.cond (.t 31) (Jqfr p) .skip)))))) := eqi
def Jqfi (p : Nums) : IC := (.seq (.region [⟨(some 13), (.bin .lss (.t 12) (.t 11)), none, false⟩] []) (.seq (.cond (.t 13) .skip (.exit 0)) (.seq (.block 1 (Jqfh p)) (.region [⟨(some 32), (.bin .add (.t 12) (.c (.d (.int .i64 1)))), none, false⟩, ⟨(some 12), (.mov (.t 32)), none, false⟩] []))))
@[simp] theorem Jefi {p : Nums} : EqI (Jqfi p) (.seq (.region [⟨(some 13), (.bin .lss (.t 12) (.t 11)), none, false⟩] []) (.seq (.cond (.t 13) .skip (.exit 0)) (.seq (.block 1 (Jqfh p)) (.region [⟨(some 32), (.bin .add (.t 12) (.c (.d (.int .i64 1)))), none, false⟩, ⟨(some 12), (.mov (.t 32)), none, false⟩] [])))) := eqi
@[simp] def Jqft (p : Nums) : List IOp := [qo 33 (.faddr 1 (.t 3)), qo 34 (.load (some 4) (.t 33)), qo 35 (.faddr 1 (.t 2)), qo 36 (.load none (.t 35)), qo 37 (.faddr 3 (.t 2)), qo 38 (.load none (.t 37)), qo 39 (.len (.t 38)), qo 40 (.call p.source_Term [(.t 34), (.t 36), (.t 39)]), qo 4 (.asg (.t 40))]
def Jqfj (p : Nums) : IC := (.region (Jqft p) [])
@[simp] theorem Jefj {p : Nums} : EqI (Jqfj p) (.region (Jqft p) []) := eqi
def Jtdc (p : Nums) : IC := (.seq (Jqfg p) (.seq (.region [⟨(some 5), (.asg (.c (.d (.int .i64 0)))), none, false⟩] []) (.seq (.seq (Jqfk p) (.block 0 (.loop (Jqfi p)))) (.seq (Jqfj p) .ret))))
@[simp] def Jq8z (p : Nums) : List IOp := [qo 6 (.mov (.t 0)), qo 7 (.len (.t 6)), qo 8 (.mov (ci 0))]
def Jq8v (p : Nums) : IC := (.region (Jq8z p) [])
@[simp] theorem Je8v {p : Nums} : EqI (Jq8v p) (.region (Jq8z p) []) := eqi
@[simp] def Jq90 (p : Nums) : List IOp := [qo 10 (.iaddr 1 (.t 6) (.t 8)), qo 11 (.load none (.t 10)), qo 5 (.asg (.t 11))]
def Jq8w (p : Nums) : IC := (.region (Jq90 p) [])
@[simp] theorem Je8w {p : Nums} : EqI (Jq8w p) (.region (Jq90 p) []) := eqi
@[simp] def Jq91 (p : Nums) : List IOp := [qo 12 (.mov (.t 3)), qo 13 (.mov (.t 5)), qo 14 (.len (.t 13)), qo 15 (.bin .add (.t 12) (.t 14)), qo 3 (.asg (.t 15))]
def Jq8x (p : Nums) : IC := (.region (Jq91 p) [])
@[simp] theorem Je8x {p : Nums} : EqI (Jq8x p) (.region (Jq91 p) []) := eqi
def Jq8y (p : Nums) : IC := (.seq (.region [⟨(some 9), (.bin .lss (.t 8) (.t 7)), none, false⟩] []) (.seq (.cond (.t 9) .skip (.exit 0)) (.seq (.block 1 (.seq (Jq8w p) (Jq8x p))) (.region [⟨(some 16), (.bin .add (.t 8) (.c (.d (.int .i64 1)))), none, false⟩, ⟨(some 8), (.mov (.t 16)), none, false⟩] []))))
@[simp] theorem Je8y {p : Nums} : EqI (Jq8y p) (.seq (.region [⟨(some 9), (.bin .lss (.t 8) (.t 7)), none, false⟩] []) (.seq (.cond (.t 9) .skip (.exit 0)) (.seq (.block 1 (.seq (Jq8w p) (Jq8x p))) (.region [⟨(some 16), (.bin .add (.t 8) (.c (.d (.int .i64 1)))), none, false⟩, ⟨(some 8), (.mov (.t 16)), none, false⟩] [])))) := eqi
def Jtcm (p : Nums) : IC := (.seq (.region [⟨(some 2), (.asg (.c (.d (.int .i64 0)))), none, false⟩] []) (.seq (.region [⟨(some 3), (.asg (.c (.d (.int .i64 0)))), none, false⟩] []) (.seq (.seq (Jq8v p) (.block 0 (.loop (Jq8y p)))) (.seq (.region [⟨(some 17), (.mov (.t 3)), none, false⟩, ⟨(some 2), (.asg (.t 17)), none, false⟩] []) .ret))))
@[simp] def Jq8q (p : Nums) : List IOp := [qo 11 (.mov (.t 0)), qo 12 (.len (.t 11)), qo 13 (.mov (ci 0))]
def Jq8e (p : Nums) : IC := (.region (Jq8q p) [])
@[simp] theorem Je8e {p : Nums} : EqI (Jq8e p) (.region (Jq8q p) []) := eqi
@[simp] def Jq8r (p : Nums) : List IOp := [qo 15 (.mov (.t 13)), qo 16 (.iaddr 2 (.t 11) (.t 13)), qo 17 (.load (some 2) (.t 16)), qo 10 (.alloc [(zi 0), (zi 0)]), qo 9 (.asg (.t 15)), qn (.store 2 (.t 10) (.t 17))]
def Jq8i (p : Nums) : IC := (.region (Jq8r p) [])
@[simp] theorem Je8i {p : Nums} : EqI (Jq8i p) (.region (Jq8r p) []) := eqi
@[simp] def Jq8s (p : Nums) : List IOp := [qo 19 (.faddr 0 (.t 10)), qo 20 (.load none (.t 19)), qo 21 (.bin .lss (.t 20) (ci 0)), qo 22 (.mov (.t 21)), ⟨(some 23), (.faddr 0 (.t 10)), (some (22, false)), false⟩, ⟨(some 24), (.load none (.t 23)), (some (22, false)), false⟩, ⟨(some 25), (.mov (.t 1)), (some (22, false)), false⟩, ⟨(some 26), (.bin .geq (.t 24) (.t 25)), (some (22, false)), false⟩, qo 27 (.pick (.t 22) (.c (.d (.bool true))) (.t 26)), qo 18 (.asg (.t 27))]
def Jq8j (p : Nums) : IC := (.region (Jq8s p) [])
@[simp] theorem Je8j {p : Nums} : EqI (Jq8j p) (.region (Jq8s p) []) := eqi
@[simp] def Jq8t (p : Nums) : List IOp := [qo 29 (.faddr 1 (.t 10)), qo 30 (.load none (.t 29)), qo 31 (.mov (.t 2)), qo 32 (.mov (.t 3)), qo 33 (.call p.location_InRange [(.t 30), (.t 31), (.t 32)]), qo 34 (.un .not (.t 33)), qo 28 (.asg (.t 34))]
def Jq8k (p : Nums) : IC := (.region (Jq8t p) [])
@[simp] theorem Je8k {p : Nums} : EqI (Jq8k p) (.region (Jq8t p) []) := eqi
@[simp] def Jq8u (p : Nums) : List IOp := [qo 36 (.mov (.t 9)), qo 37 (.bin .gtr (.t 36) (ci 0)), qo 38 (.mov (.t 37)), ⟨(some 39), (.mov (.t 0)), (some (38, true)), true⟩, ⟨(some 40), (.mov (.t 9)), (some (38, true)), true⟩, ⟨(some 41), (.bin .sub (.t 40) (ci 1)), (some (38, true)), true⟩, ⟨(some 42), (.iaddr 2 (.t 39) (.t 41)), (some (38, true)), true⟩, ⟨(some 43), (.load (some 2) (.t 42)), (some (38, true)), true⟩, ⟨(some 44), (.load (some 2) (.t 10)), (some (38, true)), true⟩, ⟨(some 45), (.call p.pairset_Less [(.t 43), (.t 44)]), (some (38, true)), false⟩, ⟨(some 46), (.un .not (.t 45)), (some (38, true)), false⟩, qo 47 (.pick (.t 38) (.t 46) (.c (.d (.bool false)))), qo 35 (.asg (.t 47))]
def Jq8l (p : Nums) : IC := (.region (Jq8u p) [])
@[simp] theorem Je8l {p : Nums} : EqI (Jq8l p) (.region (Jq8u p) []) := eqi
def Jq8m (p : Nums) : IC := (.seq (.region [⟨(some 8), (.asg (.c (.d (.int .i64 13)))), none, false⟩] []) .ret)
@[simp] theorem Je8m {p : Nums} : EqI (Jq8m p) (.seq (.region [⟨(some 8), (.asg (.c (.d (.int .i64 13)))), none, false⟩] []) .ret) := eqi
def Jq8n (p : Nums) : IC := (.seq (.region [⟨(some 8), (.asg (.c (.d (.int .i64 10)))), none, false⟩] []) .ret)
@[simp] theorem Je8n {p : Nums} : EqI (Jq8n p) (.seq (.region [⟨(some 8), (.asg (.c (.d (.int .i64 10)))), none, false⟩] []) .ret) := eqi
def Jq8o (p : Nums) : IC := (.seq (Jq8l p) (.cond (.t 35) (Jq8m p) .skip))
@[simp] theorem Je8o {p : Nums} : EqI (Jq8o p) (.seq (Jq8l p) (.cond (.t 35) (Jq8m p) .skip)) := eqi
def Jq8p (p : Nums) : IC := (.seq (.region [⟨(some 8), (.asg (.c (.d (.int .i64 9)))), none, false⟩] []) .ret)
@[simp] theorem Je8p {p : Nums} : EqI (Jq8p p) (.seq (.region [⟨(some 8), (.asg (.c (.d (.int .i64 9)))), none, false⟩] []) .ret) := eqi
def Jq8f (p : Nums) : IC := (.seq (Jq8k p) (.cond (.t 28) (Jq8n p) (Jq8o p)))
@[simp] theorem Je8f {p : Nums} : EqI (Jq8f p) (.seq (Jq8k p) (.cond (.t 28) (Jq8n p) (Jq8o p))) := eqi
def Jq8g (p : Nums) : IC := (.seq (Jq8j p) (.cond (.t 18) (Jq8p p) (Jq8f p)))
@[simp] theorem Je8g {p : Nums} : EqI (Jq8g p) (.seq (Jq8j p) (.cond (.t 18) (Jq8p p) (Jq8f p))) := eqi
def Jq8h (p : Nums) : IC := (.seq (.region [⟨(some 14), (.bin .lss (.t 13) (.t 12)), none, false⟩] []) (.seq (.cond (.t 14) .skip (.exit 0)) (.seq (.block 1 (.seq (Jq8i p) (.block 2 (Jq8g p)))) (.region [⟨(some 48), (.bin .add (.t 13) (.c (.d (.int .i64 1)))), none, false⟩, ⟨(some 13), (.mov (.t 48)), none, false⟩] []))))
@[simp] theorem Je8h {p : Nums} : EqI (Jq8h p) (.seq (.region [⟨(some 14), (.bin .lss (.t 13) (.t 12)), none, false⟩] []) (.seq (.cond (.t 14) .skip (.exit 0)) (.seq (.block 1 (.seq (Jq8i p) (.block 2 (Jq8g p)))) (.region [⟨(some 48), (.bin .add (.t 13) (.c (.d (.int .i64 1)))), none, false⟩, ⟨(some 13), (.mov (.t 48)), none, false⟩] [])))) := eqi
def Jtcl (p : Nums) : IC := (.seq (.region [⟨(some 8), (.asg (.c (.d (.int .i64 0)))), none, false⟩] []) (.seq (.seq (Jq8e p) (.block 0 (.loop (Jq8h p)))) (.seq (.region [⟨(some 8), (.asg (.c (.d (.int .i64 0)))), none, false⟩] []) .ret)))
@[simp] def Jq7d (p : Nums) : List IOp := [qo 4 (.alloc [(zi 0), (zi 0)]), qo 5 (.asg (ci 0))]
def Jq75 (p : Nums) : IC := (.region (Jq7d p) [])
@[simp] theorem Je75 {p : Nums} : EqI (Jq75 p) (.region (Jq7d p) []) := eqi
@[simp] def Jq7e (p : Nums) : List IOp := [qo 8 (.mov (.t 0)), qo 9 (.len (.t 8)), qo 10 (.mov (ci 0))]
def Jq76 (p : Nums) : IC := (.region (Jq7e p) [])
@[simp] theorem Je76 {p : Nums} : EqI (Jq76 p) (.region (Jq7e p) []) := eqi
@[simp] def Jq7f (p : Nums) : List IOp := [qo 12 (.iaddr 2 (.t 8) (.t 10)), qo 13 (.load (some 2) (.t 12)), qo 7 (.alloc [(zi 0), (zi 0)]), qn (.store 2 (.t 7) (.t 13))]
def Jq77 (p : Nums) : IC := (.region (Jq7f p) [])
@[simp] theorem Je77 {p : Nums} : EqI (Jq77 p) (.region (Jq7f p) []) := eqi
@[simp] def Jq7g (p : Nums) : List IOp := [qo 14 (.load (some 2) (.t 7)), qo 15 (.mov (.t 1)), qo 16 (.call p.edge_Initial [(.t 14), (.t 15)]), qo 17 (.un .not (.t 16))]
def Jq78 (p : Nums) : IC := (.region (Jq7g p) [])
@[simp] theorem Je78 {p : Nums} : EqI (Jq78 p) (.region (Jq7g p) []) := eqi
@[simp] def Jq7h (p : Nums) : List IOp := [qo 18 (.load (some 2) (.t 7)), qn (.store 2 (.t 4) (.t 18)), qo 5 (.asg (ci 23))]
def Jq79 (p : Nums) : IC := (.region (Jq7h p) [])
@[simp] theorem Je79 {p : Nums} : EqI (Jq79 p) (.region (Jq7h p) []) := eqi
def Jq7a (p : Nums) : IC := (.seq (Jq77 p) (.seq (Jq78 p) (.cond (.t 17) (.seq (Jq79 p) .ret) .skip)))
@[simp] theorem Je7a {p : Nums} : EqI (Jq7a p) (.seq (Jq77 p) (.seq (Jq78 p) (.cond (.t 17) (.seq (Jq79 p) .ret) .skip))) := eqi
def Jq7b (p : Nums) : IC := (.seq (.region [⟨(some 11), (.bin .lss (.t 10) (.t 9)), none, false⟩] []) (.seq (.cond (.t 11) .skip (.exit 0)) (.seq (.block 1 (Jq7a p)) (.region [⟨(some 19), (.bin .add (.t 10) (.c (.d (.int .i64 1)))), none, false⟩, ⟨(some 10), (.mov (.t 19)), none, false⟩] []))))
@[simp] theorem Je7b {p : Nums} : EqI (Jq7b p) (.seq (.region [⟨(some 11), (.bin .lss (.t 10) (.t 9)), none, false⟩] []) (.seq (.cond (.t 11) .skip (.exit 0)) (.seq (.block 1 (Jq7a p)) (.region [⟨(some 19), (.bin .add (.t 10) (.c (.d (.int .i64 1)))), none, false⟩, ⟨(some 10), (.mov (.t 19)), none, false⟩] [])))) := eqi
@[simp] def Jq7i (p : Nums) : List IOp := [qo 20 (.build [(zi 0), (zi 0)] []), qn (.store 2 (.t 4) (.t 20)), qo 5 (.asg (ci 0))]
def Jq7c (p : Nums) : IC := (.region (Jq7i p) [])
@[simp] theorem Je7c {p : Nums} : EqI (Jq7c p) (.region (Jq7i p) []) := eqi
def Jtch (p : Nums) : IC := (.seq (Jq75 p) (.seq (.seq (Jq76 p) (.block 0 (.loop (Jq7b p)))) (.seq (Jq7c p) .ret)))
@[simp] def Jqc (p : Nums) : List IOp := [qo 4 (.asg (.c .nils)), qo 5 (.asg (ci 0)), qo 6 (.asg (ci 0))]
def Jq0 (p : Nums) : IC := (.region (Jqc p) [])
@[simp] theorem Je0 {p : Nums} : EqI (Jq0 p) (.region (Jqc p) []) := eqi
@[simp] def Jqf (p : Nums) : List IOp := [qo 11 (.mov (.t 8)), qo 12 (.mov (.t 0)), qo 13 (.mov (.t 8)), qo 14 (.call p.align_skip_Instr [(.t 12), (.t 13), (.c (.fn (.func p.align_copied) [] []))]), qo 15 (.mov (.t 9)), qo 16 (.mov (.t 1)), qo 17 (.mov (.t 9)), qo 18 (.call p.align_skip_Mach [(.t 16), (.t 17), (.c (.fn (.func p.align_moved) [] []))]), qo 19 (.build [(zi 0), (zi 0), (zi 0), (zi 0), (zi 0), (zi 0)] [(0, 1, (.t 11)), (1, 1, (.t 14)), (2, 1, (.t 15)), (3, 1, (.t 18))]), qo 10 (.alloc [(zi 0), (zi 0), (zi 0), (zi 0), (zi 0), (zi 0)]), qn (.store 6 (.t 10) (.t 19))]
def Jq4 (p : Nums) : IC := (.region (Jqf p) [])
@[simp] theorem Je4 {p : Nums} : EqI (Jq4 p) (.region (Jqf p) []) := eqi
@[simp] def Jqg (p : Nums) : List IOp := [qp 20 (.faddr 1 (.t 10)), qp 21 (.load none (.t 20)), qp 22 (.faddr 3 (.t 10)), qp 23 (.load none (.t 22)), qp 8 (.asg (.t 21)), qo 9 (.asg (.t 23))]
def Jq5 (p : Nums) : IC := (.region (Jqg p) [])
@[simp] theorem Je5 {p : Nums} : EqI (Jq5 p) (.region (Jqg p) []) := eqi
@[simp] def Jqh (p : Nums) : List IOp := [qo 24 (.mov (.t 8)), qo 25 (.mov (.t 0)), qo 26 (.len (.t 25)), qo 27 (.bin .eql (.t 24) (.t 26)), qo 28 (.mov (.t 27)), ⟨(some 29), (.mov (.t 9)), (some (28, true)), false⟩, ⟨(some 30), (.mov (.t 1)), (some (28, true)), false⟩, ⟨(some 31), (.len (.t 30)), (some (28, true)), false⟩, ⟨(some 32), (.bin .eql (.t 29) (.t 31)), (some (28, true)), false⟩, qo 33 (.pick (.t 28) (.t 32) (.c (.d (.bool false))))]
def Jq6 (p : Nums) : IC := (.region (Jqh p) [])
@[simp] theorem Je6 {p : Nums} : EqI (Jq6 p) (.region (Jqh p) []) := eqi
@[simp] def Jqi (p : Nums) : List IOp := [qo 34 (.faddr 4 (.t 10)), qn (.store 1 (.t 34) (ci (-1))), qo 35 (.faddr 5 (.t 10)), qn (.store 1 (.t 35) (ci (-1)))]
def Jq7 (p : Nums) : IC := (.region (Jqi p) [])
@[simp] theorem Je7 {p : Nums} : EqI (Jq7 p) (.region (Jqi p) []) := eqi
@[simp] def Jqj (p : Nums) : List IOp := [qo 36 (.mov (.t 7)), qo 37 (.load (some 6) (.t 10)), qo 38 (.bslice 6 1 [(.int .i64 0), (.int .i64 0), (.int .i64 0), (.int .i64 0), (.int .i64 0), (.int .i64 0)] [(0, (.t 37))]), qo 39 (.app 6 48 (.t 36) (.t 38)), qo 40 (.mov (.t 9)), qo 4 (.asg (.t 39)), qo 5 (.asg (.t 40)), qo 6 (.asg (ci 0))]
def Jq8 (p : Nums) : IC := (.region (Jqj p) [])
@[simp] theorem Je8 {p : Nums} : EqI (Jq8 p) (.region (Jqj p) []) := eqi
@[simp] def Jqk (p : Nums) : List IOp := [qp 41 (.mov (.t 8)), qp 42 (.mov (.t 0)), qp 43 (.len (.t 42)), qo 44 (.bin .eql (.t 41) (.t 43)), qo 45 (.mov (.t 44)), ⟨(some 46), (.mov (.t 9)), (some (45, false)), true⟩, ⟨(some 47), (.mov (.t 1)), (some (45, false)), true⟩, ⟨(some 48), (.len (.t 47)), (some (45, false)), true⟩, ⟨(some 49), (.bin .eql (.t 46) (.t 48)), (some (45, false)), false⟩, qo 50 (.pick (.t 45) (.c (.d (.bool true))) (.t 49)), qo 51 (.mov (.t 50)), ⟨(some 52), (.mov (.t 0)), (some (51, false)), true⟩, ⟨(some 53), (.mov (.t 8)), (some (51, false)), true⟩, ⟨(some 54), (.iaddr 5 (.t 52) (.t 53)), (some (51, false)), true⟩, ⟨(some 55), (.load (some 5) (.t 54)), (some (51, false)), true⟩, ⟨(some 56), (.mov (.t 1)), (some (51, false)), true⟩, ⟨(some 57), (.mov (.t 9)), (some (51, false)), true⟩, ⟨(some 58), (.iaddr 7 (.t 56) (.t 57)), (some (51, false)), true⟩, ⟨(some 59), (.load (some 7) (.t 58)), (some (51, false)), true⟩, ⟨(some 60), (.call p.align_Same [(.t 55), (.t 59)]), (some (51, false)), false⟩, ⟨(some 61), (.un .not (.t 60)), (some (51, false)), false⟩, qo 62 (.pick (.t 51) (.c (.d (.bool true))) (.t 61))]
def Jq9 (p : Nums) : IC := (.region (Jqk p) [])
@[simp] theorem Je9 {p : Nums} : EqI (Jq9 p) (.region (Jqk p) []) := eqi
@[simp] def Jql (p : Nums) : List IOp := [qo 63 (.mov (.t 9)), qo 4 (.asg (.c .nils)), qo 5 (.asg (.t 63)), qo 6 (.asg (ci 20))]
def Jqa (p : Nums) : IC := (.region (Jql p) [])
@[simp] theorem Jea {p : Nums} : EqI (Jqa p) (.region (Jql p) []) := eqi
@[simp] def Jqm (p : Nums) : List IOp := [qo 64 (.mov (.t 8)), qo 65 (.mov (.t 9)), qo 66 (.faddr 4 (.t 10)), qn (.store 1 (.t 66) (.t 64)), qo 67 (.faddr 5 (.t 10)), qn (.store 1 (.t 67) (.t 65))]
def Jqb (p : Nums) : IC := (.region (Jqm p) [])
@[simp] theorem Jeb {p : Nums} : EqI (Jqb p) (.region (Jqm p) []) := eqi
@[simp] def Jqd (p : Nums) : List IOp := [qo 68 (.mov (.t 7)), qo 69 (.load (some 6) (.t 10)), qo 70 (.bslice 6 1 [(.int .i64 0), (.int .i64 0), (.int .i64 0), (.int .i64 0), (.int .i64 0), (.int .i64 0)] [(0, (.t 69))]), qo 71 (.app 6 48 (.t 68) (.t 70)), qo 7 (.asg (.t 71))]
def Jq1 (p : Nums) : IC := (.region (Jqd p) [])
@[simp] theorem Je1 {p : Nums} : EqI (Jq1 p) (.region (Jqd p) []) := eqi
@[simp] def Jqe (p : Nums) : List IOp := [qo 72 (.mov (.t 8)), qo 73 (.bin .add (.t 72) (ci 1)), qo 74 (.mov (.t 9)), qo 75 (.bin .add (.t 74) (ci 1)), qo 8 (.asg (.t 73)), qo 9 (.asg (.t 75))]
def Jq2 (p : Nums) : IC := (.region (Jqe p) [])
@[simp] theorem Je2 {p : Nums} : EqI (Jq2 p) (.region (Jqe p) []) := eqi
def Jq3 (p : Nums) : IC := (.seq (Jq4 p) (.seq (Jq5 p) (.seq (.seq (Jq6 p) (.cond (.t 33) (.seq (Jq7 p) (.seq (Jq8 p) .ret)) .skip)) (.seq (.seq (Jq9 p) (.cond (.t 62) (.seq (Jqa p) .ret) .skip)) (.seq (Jqb p) (.seq (Jq1 p) (Jq2 p)))))))
@[simp] theorem Je3 {p : Nums} : EqI (Jq3 p) (.seq (Jq4 p) (.seq (Jq5 p) (.seq (.seq (Jq6 p) (.cond (.t 33) (.seq (Jq7 p) (.seq (Jq8 p) .ret)) .skip)) (.seq (.seq (Jq9 p) (.cond (.t 62) (.seq (Jqa p) .ret) .skip)) (.seq (Jqb p) (.seq (Jq1 p) (Jq2 p))))))) := eqi
def Jtbi (p : Nums) : IC := (.seq (Jq0 p) (.seq (.region [⟨(some 7), (.asg (.c .nils)), none, false⟩] []) (.seq (.region [⟨(some 8), (.asg (.c (.d (.int .i64 0)))), none, false⟩, ⟨(some 9), (.asg (.c (.d (.int .i64 0)))), none, false⟩] []) (.block 0 (.loop (.block 1 (Jq3 p)))))))
@[simp] def Jqt (p : Nums) : List IOp := [qo 2 (.box (.t 0)), qo 3 (.box (.t 1)), qo 4 (.asg (.c (.d (.bool false))))]
def Jqr (p : Nums) : IC := (.region (Jqt p) [])
@[simp] theorem Jer {p : Nums} : EqI (Jqr p) (.region (Jqt p) []) := eqi
@[simp] def Jqu (p : Nums) : List IOp := [qo 5 (.faddr 0 (.t 2)), qo 6 (.load none (.t 5)), qo 7 (.faddr 0 (.t 3)), qo 8 (.load none (.t 7)), qo 9 (.bin .eql (.t 6) (.t 8)), qo 10 (.mov (.t 9)), ⟨(some 11), (.faddr 2 (.t 2)), (some (10, true)), false⟩, ⟨(some 12), (.load none (.t 11)), (some (10, true)), false⟩, ⟨(some 13), (.faddr 2 (.t 3)), (some (10, true)), false⟩, ⟨(some 14), (.load none (.t 13)), (some (10, true)), false⟩, ⟨(some 15), (.bin .eql (.t 12) (.t 14)), (some (10, true)), false⟩, qo 16 (.pick (.t 10) (.t 15) (.c (.d (.bool false)))), qo 17 (.mov (.t 16)), ⟨(some 18), (.faddr 3 (.t 2)), (some (17, true)), false⟩, ⟨(some 19), (.load none (.t 18)), (some (17, true)), false⟩, ⟨(some 20), (.faddr 3 (.t 3)), (some (17, true)), false⟩, ⟨(some 21), (.load none (.t 20)), (some (17, true)), false⟩, ⟨(some 22), (.bin .eql (.t 19) (.t 21)), (some (17, true)), false⟩, qo 23 (.pick (.t 17) (.t 22) (.c (.d (.bool false)))), qo 4 (.asg (.t 23))]
def Jqs (p : Nums) : IC := (.region (Jqu p) [])
@[simp] theorem Jes {p : Nums} : EqI (Jqs p) (.region (Jqu p) []) := eqi
def Jtbk (p : Nums) : IC := (.seq (Jqr p) (.seq (Jqs p) .ret))
@[simp] def Jqi4 (p : Nums) : List IOp := [qo 4 (.mov (.t 0)), qo 5 (.call p.slices_Clone_Pair [(.t 4)]), qo 3 (.asg (.t 5))]
def Jqi1 (p : Nums) : IC := (.region (Jqi4 p) [])
@[simp] theorem Jei1 {p : Nums} : EqI (Jqi1 p) (.region (Jqi4 p) []) := eqi
@[simp] def Jqi5 (p : Nums) : List IOp := [qo 6 (.mov (.t 3)), qo 7 (.call p.slices_SortFunc_Pair [(.t 6), (.c (.fn (.func p.pairset_compare) [] []))])]
def Jqi2 (p : Nums) : IC := (.region (Jqi5 p) [])
@[simp] theorem Jei2 {p : Nums} : EqI (Jqi2 p) (.region (Jqi5 p) []) := eqi
@[simp] def Jqi6 (p : Nums) : List IOp := [qo 8 (.mov (.t 3)), qo 9 (.call p.slices_Compact_Pair [(.t 8)]), qo 2 (.asg (.t 9))]
def Jqi3 (p : Nums) : IC := (.region (Jqi6 p) [])
@[simp] theorem Jei3 {p : Nums} : EqI (Jqi3 p) (.region (Jqi6 p) []) := eqi
def Jtdu (p : Nums) : IC := (.seq (.region [⟨(some 2), (.asg (.c .nils)), none, false⟩] []) (.seq (Jqi1 p) (.seq (Jqi2 p) (.seq (Jqi3 p) .ret))))
@[simp] def Jqii (p : Nums) : List IOp := [qo 4 (.alloc [(zi 0), (zi 0)]), qo 5 (.asg (.c (.d (.bool false))))]
def Jqi7 (p : Nums) : IC := (.region (Jqii p) [])
@[simp] theorem Jei7 {p : Nums} : EqI (Jqi7 p) (.region (Jqii p) []) := eqi
@[simp] def Jqik (p : Nums) : List IOp := [qo 9 (.mov (.t 0)), qo 10 (.len (.t 9)), qo 11 (.mov (ci 0))]
def Jqia (p : Nums) : IC := (.region (Jqik p) [])
@[simp] theorem Jeia {p : Nums} : EqI (Jqia p) (.region (Jqik p) []) := eqi
@[simp] def Jqil (p : Nums) : List IOp := [qo 13 (.iaddr 2 (.t 9) (.t 11)), qo 14 (.load (some 2) (.t 13)), qo 8 (.alloc [(zi 0), (zi 0)]), qn (.store 2 (.t 8) (.t 14))]
def Jqib (p : Nums) : IC := (.region (Jqil p) [])
@[simp] theorem Jeib {p : Nums} : EqI (Jqib p) (.region (Jqil p) []) := eqi
@[simp] def Jqim (p : Nums) : List IOp := [qp 15 (.mov (.t 6)), qp 16 (.mov (.t 1)), qp 17 (.len (.t 16)), qo 18 (.bin .lss (.t 15) (.t 17)), qo 19 (.mov (.t 18)), ⟨(some 20), (.mov (.t 1)), (some (19, true)), true⟩, ⟨(some 21), (.mov (.t 6)), (some (19, true)), true⟩, ⟨(some 22), (.iaddr 2 (.t 20) (.t 21)), (some (19, true)), true⟩, ⟨(some 23), (.load (some 2) (.t 22)), (some (19, true)), true⟩, ⟨(some 24), (.load (some 2) (.t 8)), (some (19, true)), true⟩, ⟨(some 25), (.call p.pairset_Less [(.t 23), (.t 24)]), (some (19, true)), false⟩, qo 26 (.pick (.t 19) (.t 25) (.c (.d (.bool false))))]
def Jqic (p : Nums) : IC := (.region (Jqim p) [])
@[simp] theorem Jeic {p : Nums} : EqI (Jqic p) (.region (Jqim p) []) := eqi
@[simp] def Jqin (p : Nums) : List IOp := [qo 27 (.mov (.t 6)), qo 28 (.bin .add (.t 27) (ci 1)), qo 6 (.asg (.t 28))]
def Jqid (p : Nums) : IC := (.region (Jqin p) [])
@[simp] theorem Jeid {p : Nums} : EqI (Jqid p) (.region (Jqin p) []) := eqi
def Jqie (p : Nums) : IC := (.seq (.seq (Jqic p) (.cond (.t 26) .skip (.exit 2))) (.block 3 (Jqid p)))
@[simp] theorem Jeie {p : Nums} : EqI (Jqie p) (.seq (.seq (Jqic p) (.cond (.t 26) .skip (.exit 2))) (.block 3 (Jqid p))) := eqi
@[simp] def Jqio (p : Nums) : List IOp := [qp 29 (.mov (.t 6)), qp 30 (.mov (.t 1)), qp 31 (.len (.t 30)), qo 32 (.bin .eql (.t 29) (.t 31)), qo 33 (.mov (.t 32)), ⟨(some 34), (.mov (.t 1)), (some (33, false)), true⟩, ⟨(some 35), (.mov (.t 6)), (some (33, false)), true⟩, ⟨(some 36), (.iaddr 2 (.t 34) (.t 35)), (some (33, false)), true⟩, ⟨(some 37), (.load (some 2) (.t 36)), (some (33, false)), true⟩, ⟨(some 38), (.load (some 2) (.t 8)), (some (33, false)), true⟩, ⟨(some 39), (.eqs true [.int, .int] (.t 37) (.t 38)), (some (33, false)), false⟩, qo 40 (.pick (.t 33) (.c (.d (.bool true))) (.t 39))]
def Jqif (p : Nums) : IC := (.region (Jqio p) [])
@[simp] theorem Jeif {p : Nums} : EqI (Jqif p) (.region (Jqio p) []) := eqi
@[simp] def Jqip (p : Nums) : List IOp := [qo 41 (.load (some 2) (.t 8)), qn (.store 2 (.t 4) (.t 41)), qo 5 (.asg (.c (.d (.bool true))))]
def Jqig (p : Nums) : IC := (.region (Jqip p) [])
@[simp] theorem Jeig {p : Nums} : EqI (Jqig p) (.region (Jqip p) []) := eqi
def Jqih (p : Nums) : IC := (.seq (Jqib p) (.seq (.block 2 (.loop (Jqie p))) (.seq (Jqif p) (.cond (.t 40) (.seq (Jqig p) .ret) .skip))))
@[simp] theorem Jeih {p : Nums} : EqI (Jqih p) (.seq (Jqib p) (.seq (.block 2 (.loop (Jqie p))) (.seq (Jqif p) (.cond (.t 40) (.seq (Jqig p) .ret) .skip)))) := eqi
def Jqi8 (p : Nums) : IC := (.seq (.region [⟨(some 12), (.bin .lss (.t 11) (.t 10)), none, false⟩] []) (.seq (.cond (.t 12) .skip (.exit 0)) (.seq (.block 1 (Jqih p)) (.region [⟨(some 42), (.bin .add (.t 11) (.c (.d (.int .i64 1)))), none, false⟩, ⟨(some 11), (.mov (.t 42)), none, false⟩] []))))
@[simp] theorem Jei8 {p : Nums} : EqI (Jqi8 p) (.seq (.region [⟨(some 12), (.bin .lss (.t 11) (.t 10)), none, false⟩] []) (.seq (.cond (.t 12) .skip (.exit 0)) (.seq (.block 1 (Jqih p)) (.region [⟨(some 42), (.bin .add (.t 11) (.c (.d (.int .i64 1)))), none, false⟩, ⟨(some 11), (.mov (.t 42)), none, false⟩] [])))) := eqi
@[simp] def Jqij (p : Nums) : List IOp := [qo 43 (.build [(zi 0), (zi 0)] []), qn (.store 2 (.t 4) (.t 43)), qo 5 (.asg (.c (.d (.bool false))))]
def Jqi9 (p : Nums) : IC := (.region (Jqij p) [])
@[simp] theorem Jei9 {p : Nums} : EqI (Jqi9 p) (.region (Jqij p) []) := eqi
def Jtdv (p : Nums) : IC := (.seq (Jqi7 p) (.seq (.region [⟨(some 6), (.asg (.c (.d (.int .i64 0)))), none, false⟩] []) (.seq (.seq (Jqia p) (.block 0 (.loop (Jqi8 p)))) (.seq (Jqi9 p) .ret))))
@[simp] def Jqbi (p : Nums) : List IOp := [qo 6 (.load (some 3) (.t 2)), qo 7 (.build [(zi 0), (zi 0), (zi 0), (zi 0), .nils, .nils, .nils, (zi 0), (zi 0), (zi 0), .nils] [(8, 3, (.t 6))]), qo 8 (.box (.t 7)), qo 5 (.asg (.t 8))]
def Jqbf (p : Nums) : IC := (.region (Jqbi p) [])
@[simp] theorem Jebf {p : Nums} : EqI (Jqbf p) (.region (Jqbi p) []) := eqi
@[simp] def Jqbj (p : Nums) : List IOp := [qo 9 (.mov (.t 5)), qo 10 (.faddr 1 (.t 2)), qo 11 (.load none (.t 10)), qo 12 (.mkslice 1 8 [(.int .i64 0)] (.t 11) (.t 11)), qo 13 (.nilck (.t 9)), qo 14 (.faddr 0 (.t 13)), qo 15 (.faddr 4 (.t 14)), qn (.store 1 (.t 15) (.t 12))]
def Jqbg (p : Nums) : IC := (.region (Jqbj p) [])
@[simp] theorem Jebg {p : Nums} : EqI (Jqbg p) (.region (Jqbj p) []) := eqi
@[simp] def Jqbk (p : Nums) : List IOp := [qo 16 (.mov (.t 5)), qo 17 (.nilck (.t 16)), qo 18 (.faddr 0 (.t 17)), qo 19 (.faddr 4 (.t 18)), qo 20 (.load none (.t 19)), qo 21 (.mov (.t 1)), qo 22 (.cpy 1 (.t 20) (.t 21))]
def Jqbh (p : Nums) : IC := (.region (Jqbk p) [])
@[simp] theorem Jebh {p : Nums} : EqI (Jqbh p) (.region (Jqbk p) []) := eqi
def Jtcx (p : Nums) : IC := (.seq (.region [⟨(some 2), (.box (.t 0)), none, false⟩, ⟨(some 4), (.asg (.c .nilp)), none, false⟩] []) (.seq (Jqbf p) (.seq (Jqbg p) (.seq (Jqbh p) (.seq (.region [⟨(some 23), (.mov (.t 5)), none, false⟩, ⟨(some 4), (.asg (.t 23)), none, false⟩] []) .ret)))))
@[simp] def Jqc4 (p : Nums) : List IOp := [qp 3 (.mov (.t 0)), qp 4 (.nilck (.t 3)), qp 5 (.faddr 8 (.t 4)), qp 6 (.faddr 2 (.t 5)), qp 7 (.load none (.t 6)), qp 8 (.mov (.t 0)), qp 9 (.nilck (.t 8)), qp 10 (.faddr 0 (.t 9)), qp 11 (.faddr 1 (.t 10)), qp 12 (.load none (.t 11)), qp 13 (.iaddr 5 (.t 7) (.t 12)), qp 14 (.load (some 5) (.t 13)), qp 2 (.alloc [.nils, (zi 0), (zi 0), (zi 0), (zi 0)]), qn (.store 5 (.t 2) (.t 14))]
def Jqc0 (p : Nums) : IC := (.region (Jqc4 p) [])
@[simp] theorem Jec0 {p : Nums} : EqI (Jqc0 p) (.region (Jqc4 p) []) := eqi
@[simp] def Jqc5 (p : Nums) : List IOp := [qp 15 (.mov (.t 0)), qp 16 (.nilck (.t 15)), qp 17 (.faddr 0 (.t 16)), qp 18 (.faddr 2 (.t 17)), qp 19 (.load none (.t 18)), qp 20 (.faddr 0 (.t 2)), qp 21 (.load none (.t 20)), qp 22 (.len (.t 21)), qo 23 (.bin .lss (.t 19) (.t 22))]
def Jqc1 (p : Nums) : IC := (.region (Jqc5 p) [])
@[simp] theorem Jec1 {p : Nums} : EqI (Jqc1 p) (.region (Jqc5 p) []) := eqi
@[simp] def Jqc6 (p : Nums) : List IOp := [qp 24 (.mov (.t 0)), qp 25 (.faddr 0 (.t 2)), qp 26 (.load none (.t 25)), qp 27 (.mov (.t 0)), qp 28 (.nilck (.t 27)), qp 29 (.faddr 0 (.t 28)), qp 30 (.faddr 2 (.t 29)), qp 31 (.load none (.t 30)), qp 32 (.iaddr 5 (.t 26) (.t 31)), qp 33 (.load (some 5) (.t 32)), qo 34 (.call p.interp_state_instr [(.t 24), (.t 33)])]
def Jqc2 (p : Nums) : IC := (.region (Jqc6 p) [])
@[simp] theorem Jec2 {p : Nums} : EqI (Jqc2 p) (.region (Jqc6 p) []) := eqi
@[simp] def Jqc7 (p : Nums) : List IOp := [qo 35 (.mov (.t 0)), qo 36 (.faddr 1 (.t 2)), qo 37 (.load (some 4) (.t 36)), qo 38 (.call p.interp_state_term [(.t 35), (.t 37)])]
def Jqc3 (p : Nums) : IC := (.region (Jqc7 p) [])
@[simp] theorem Jec3 {p : Nums} : EqI (Jqc3 p) (.region (Jqc7 p) []) := eqi
def Jtcz (p : Nums) : IC := (.seq (Jqc0 p) (.seq (Jqc1 p) (.cond (.t 23) (Jqc2 p) (Jqc3 p))))
@[simp] def Jqaf (p : Nums) : List IOp := [qp 3 (.mov (.t 0)), qp 4 (.nilck (.t 3)), qp 5 (.faddr 8 (.t 4)), qp 6 (.faddr 3 (.t 5)), qp 7 (.load none (.t 6)), qp 8 (.mov (.t 0)), qp 9 (.nilck (.t 8)), qp 10 (.faddr 0 (.t 9)), qp 11 (.faddr 1 (.t 10)), qp 12 (.load none (.t 11)), qp 13 (.iaddr 5 (.t 7) (.t 12)), qp 14 (.load (some 5) (.t 13)), qp 2 (.alloc [.nils, (zi 0), (zi 0), (zi 0), (zi 0)]), qn (.store 5 (.t 2) (.t 14))]
def Jqab (p : Nums) : IC := (.region (Jqaf p) [])
@[simp] theorem Jeab {p : Nums} : EqI (Jqab p) (.region (Jqaf p) []) := eqi
@[simp] def Jqag (p : Nums) : List IOp := [qp 15 (.mov (.t 0)), qp 16 (.nilck (.t 15)), qp 17 (.faddr 0 (.t 16)), qp 18 (.faddr 2 (.t 17)), qp 19 (.load none (.t 18)), qp 20 (.faddr 0 (.t 2)), qp 21 (.load none (.t 20)), qp 22 (.len (.t 21)), qo 23 (.bin .lss (.t 19) (.t 22))]
def Jqac (p : Nums) : IC := (.region (Jqag p) [])
@[simp] theorem Jeac {p : Nums} : EqI (Jqac p) (.region (Jqag p) []) := eqi
@[simp] def Jqah (p : Nums) : List IOp := [qp 24 (.mov (.t 0)), qp 25 (.faddr 0 (.t 2)), qp 26 (.load none (.t 25)), qp 27 (.mov (.t 0)), qp 28 (.nilck (.t 27)), qp 29 (.faddr 0 (.t 28)), qp 30 (.faddr 2 (.t 29)), qp 31 (.load none (.t 30)), qp 32 (.iaddr 7 (.t 26) (.t 31)), qp 33 (.load (some 7) (.t 32)), qo 34 (.call p.execute_state_instr [(.t 24), (.t 33)])]
def Jqad (p : Nums) : IC := (.region (Jqah p) [])
@[simp] theorem Jead {p : Nums} : EqI (Jqad p) (.region (Jqah p) []) := eqi
@[simp] def Jqai (p : Nums) : List IOp := [qo 35 (.mov (.t 0)), qo 36 (.faddr 1 (.t 2)), qo 37 (.load (some 4) (.t 36)), qo 38 (.call p.execute_state_term [(.t 35), (.t 37)])]
def Jqae (p : Nums) : IC := (.region (Jqai p) [])
@[simp] theorem Jeae {p : Nums} : EqI (Jqae p) (.region (Jqai p) []) := eqi
def Jtcu (p : Nums) : IC := (.seq (Jqab p) (.seq (Jqac p) (.cond (.t 23) (Jqad p) (Jqae p))))
@[simp] def Jqe0 (p : Nums) : List IOp := [qo 3 (.mov (.t 0)), qo 4 (.bin .mul (ci 2) (.t 3)), qo 5 (.bin .add (.t 4) (ci 1)), qo 2 (.asg (.t 5))]
def Jqdz (p : Nums) : IC := (.region (Jqe0 p) [])
@[simp] theorem Jedz {p : Nums} : EqI (Jqdz p) (.region (Jqe0 p) []) := eqi
def Jtd8 (p : Nums) : IC := (.seq (.region [⟨(some 2), (.asg (.c (.d (.int .i64 0)))), none, false⟩] []) (.seq (Jqdz p) .ret))
@[simp] def Jqo5 (p : Nums) : List IOp := [qo 9 (.faddr 0 (.t 2)), qo 10 (.load none (.t 9)), qo 11 (.call p.opcode_Of [(.t 10)]), qo 8 (.mov (.t 11)), qo 12 (.ext (.t 8) 0), qo 13 (.ext (.t 8) 1), qo 5 (.alloc [(.d (.bool false)), (.d (.bool false)), (.d (.bool false)), (.d (.bool false))]), qn (.store 4 (.t 5) (.t 12)), qo 6 (.asg (.t 13))]
def Jqnu (p : Nums) : IC := (.region (Jqo5 p) [])
@[simp] theorem Jenu {p : Nums} : EqI (Jqnu p) (.region (Jqo5 p) []) := eqi
@[simp] def Jqo6 (p : Nums) : List IOp := [qo 14 (.faddr 1 (.t 2)), qo 15 (.load none (.t 14)), qo 16 (.faddr 0 (.t 5)), qo 17 (.load none (.t 16)), qo 18 (.mov (.t 1)), qo 19 (.build [(zi 0), (.d (.bool false)), (zi 0)] [(0, 1, (.t 15)), (1, 1, (.t 17)), (2, 1, (.t 18))]), qo 20 (.faddr 2 (.t 2)), qo 21 (.load none (.t 20)), qo 22 (.faddr 1 (.t 5)), qo 23 (.load none (.t 22)), qo 24 (.mov (.t 1)), qo 25 (.build [(zi 0), (.d (.bool false)), (zi 0)] [(0, 1, (.t 21)), (1, 1, (.t 23)), (2, 1, (.t 24))]), qo 26 (.faddr 3 (.t 2)), qo 27 (.load none (.t 26)), qo 28 (.faddr 2 (.t 5)), qo 29 (.load none (.t 28)), qo 30 (.mov (.t 1)), qo 31 (.build [(zi 0), (.d (.bool false)), (zi 0)] [(0, 1, (.t 27)), (1, 1, (.t 29)), (2, 1, (.t 30))]), qo 32 (.bslice 3 3 [(.int .i64 0), (.bool false), (.int .i64 0)] [(0, (.t 19)), (1, (.t 25)), (2, (.t 31))]), qo 7 (.asg (.t 32))]
def Jqnx (p : Nums) : IC := (.region (Jqo6 p) [])
@[simp] theorem Jenx {p : Nums} : EqI (Jqnx p) (.region (Jqo6 p) []) := eqi
@[simp] def Jqo7 (p : Nums) : List IOp := [qo 34 (.faddr 0 (.t 2)), qo 35 (.load none (.t 34)), qo 36 (.call p.opcode_Source [(.t 35)]), qo 37 (.un .not (.t 36)), qo 33 (.asg (.t 37))]
def Jqny (p : Nums) : IC := (.region (Jqo7 p) [])
@[simp] theorem Jeny {p : Nums} : EqI (Jqny p) (.region (Jqo7 p) []) := eqi
@[simp] def Jqo8 (p : Nums) : List IOp := [qo 39 (.mov (.t 7)), qo 40 (.call p.source_within [(.t 39)]), qo 41 (.un .not (.t 40)), qo 38 (.asg (.t 41))]
def Jqnz (p : Nums) : IC := (.region (Jqo8 p) [])
@[simp] theorem Jenz {p : Nums} : EqI (Jqnz p) (.region (Jqo8 p) []) := eqi
@[simp] def Jqo9 (p : Nums) : List IOp := [qo 43 (.mov (.t 7)), qo 44 (.call p.source_blank [(.t 43)]), qo 45 (.un .not (.t 44)), qo 46 (.mov (.t 45)), ⟨(some 47), (.faddr 3 (.t 5)), (some (46, false)), false⟩, ⟨(some 48), (.load none (.t 47)), (some (46, false)), false⟩, ⟨(some 49), (.un .not (.t 48)), (some (46, false)), false⟩, ⟨(some 50), (.mov (.t 49)), (some (46, false)), false⟩, ⟨(some 51), (.faddr 4 (.t 2)), (some (50, true)), false⟩, ⟨(some 52), (.load none (.t 51)), (some (50, true)), false⟩, ⟨(some 53), (.bin .neq (.t 52) (ci 0)), (some (50, true)), false⟩, ⟨(some 54), (.pick (.t 50) (.t 53) (.c (.d (.bool false)))), (some (46, false)), false⟩, qo 55 (.pick (.t 46) (.c (.d (.bool true))) (.t 54)), qo 42 (.asg (.t 55))]
def Jqo0 (p : Nums) : IC := (.region (Jqo9 p) [])
@[simp] theorem Jeo0 {p : Nums} : EqI (Jqo0 p) (.region (Jqo9 p) []) := eqi
def Jqo1 (p : Nums) : IC := (.seq (.region [⟨(some 4), (.asg (.c (.d (.int .i64 12)))), none, false⟩] []) .ret)
@[simp] theorem Jeo1 {p : Nums} : EqI (Jqo1 p) (.seq (.region [⟨(some 4), (.asg (.c (.d (.int .i64 12)))), none, false⟩] []) .ret) := eqi
def Jqo2 (p : Nums) : IC := (.seq (.region [⟨(some 4), (.asg (.c (.d (.int .i64 9)))), none, false⟩] []) .ret)
@[simp] theorem Jeo2 {p : Nums} : EqI (Jqo2 p) (.seq (.region [⟨(some 4), (.asg (.c (.d (.int .i64 9)))), none, false⟩] []) .ret) := eqi
def Jqo3 (p : Nums) : IC := (.seq (Jqo0 p) (.cond (.t 42) (Jqo1 p) .skip))
@[simp] theorem Jeo3 {p : Nums} : EqI (Jqo3 p) (.seq (Jqo0 p) (.cond (.t 42) (Jqo1 p) .skip)) := eqi
def Jqo4 (p : Nums) : IC := (.seq (.region [⟨(some 4), (.asg (.c (.d (.int .i64 8)))), none, false⟩] []) .ret)
@[simp] theorem Jeo4 {p : Nums} : EqI (Jqo4 p) (.seq (.region [⟨(some 4), (.asg (.c (.d (.int .i64 8)))), none, false⟩] []) .ret) := eqi
def Jqnv (p : Nums) : IC := (.seq (Jqnz p) (.cond (.t 38) (Jqo2 p) (Jqo3 p)))
@[simp] theorem Jenv {p : Nums} : EqI (Jqnv p) (.seq (Jqnz p) (.cond (.t 38) (Jqo2 p) (Jqo3 p))) := eqi
def Jqnw (p : Nums) : IC := (.seq (Jqny p) (.cond (.t 33) (Jqo4 p) (Jqnv p)))
@[simp] theorem Jenw {p : Nums} : EqI (Jqnw p) (.seq (Jqny p) (.cond (.t 33) (Jqo4 p) (Jqnv p))) := eqi
def Jteb (p : Nums) : IC := (.seq (.region [⟨(some 2), (.box (.t 0)), none, false⟩, ⟨(some 4), (.asg (.c (.d (.int .i64 0)))), none, false⟩] []) (.seq (Jqnu p) (.seq (Jqnx p) (.seq (.block 0 (Jqnw p)) (.seq (.region [⟨(some 4), (.asg (.c (.d (.int .i64 0)))), none, false⟩] []) .ret)))))
@[simp] def Jqov (p : Nums) : List IOp := [qo 10 (.faddr 1 (.t 3)), qo 11 (.load none (.t 10)), qo 12 (.faddr 0 (.t 3)), qo 13 (.load none (.t 12)), qo 14 (.bin .neq (.t 13) (ci 1)), qo 15 (.mov (.t 1)), qo 16 (.build [(zi 0), (.d (.bool false)), (zi 0)] [(0, 1, (.t 11)), (1, 1, (.t 14)), (2, 1, (.t 15))]), qo 7 (.alloc [(zi 0), (.d (.bool false)), (zi 0)]), qn (.store 3 (.t 7) (.t 16))]
def Jqog (p : Nums) : IC := (.region (Jqov p) [])
@[simp] theorem Jeog {p : Nums} : EqI (Jqog p) (.region (Jqov p) []) := eqi
@[simp] def Jqow (p : Nums) : List IOp := [qo 17 (.faddr 2 (.t 3)), qo 18 (.load none (.t 17)), qo 19 (.faddr 0 (.t 3)), qo 20 (.load none (.t 19)), qo 21 (.bin .neq (.t 20) (ci 3)), qo 22 (.mov (.t 2)), qo 23 (.build [(zi 0), (.d (.bool false)), (zi 0)] [(0, 1, (.t 18)), (1, 1, (.t 21)), (2, 1, (.t 22))]), qo 8 (.alloc [(zi 0), (.d (.bool false)), (zi 0)]), qn (.store 3 (.t 8) (.t 23))]
def Jqon (p : Nums) : IC := (.region (Jqow p) [])
@[simp] theorem Jeon {p : Nums} : EqI (Jqon p) (.region (Jqow p) []) := eqi
@[simp] def Jqox (p : Nums) : List IOp := [qo 24 (.faddr 3 (.t 3)), qo 25 (.load none (.t 24)), qo 26 (.faddr 0 (.t 3)), qo 27 (.load none (.t 26)), qo 28 (.bin .eql (.t 27) (ci 2)), qo 29 (.mov (.t 2)), qo 30 (.build [(zi 0), (.d (.bool false)), (zi 0)] [(0, 1, (.t 25)), (1, 1, (.t 28)), (2, 1, (.t 29))]), qo 9 (.alloc [(zi 0), (.d (.bool false)), (zi 0)]), qn (.store 3 (.t 9) (.t 30))]
def Jqoo (p : Nums) : IC := (.region (Jqox p) [])
@[simp] theorem Jeoo {p : Nums} : EqI (Jqoo p) (.region (Jqox p) []) := eqi
@[simp] def Jqoy (p : Nums) : List IOp := [qo 32 (.faddr 0 (.t 3)), qo 33 (.load none (.t 32)), qo 34 (.bin .lss (.t 33) (ci 1)), qo 35 (.mov (.t 34)), ⟨(some 36), (.faddr 0 (.t 3)), (some (35, false)), false⟩, ⟨(some 37), (.load none (.t 36)), (some (35, false)), false⟩, ⟨(some 38), (.bin .gtr (.t 37) (ci 3)), (some (35, false)), false⟩, qo 39 (.pick (.t 35) (.c (.d (.bool true))) (.t 38)), qo 31 (.asg (.t 39))]
def Jqop (p : Nums) : IC := (.region (Jqoy p) [])
@[simp] theorem Jeop {p : Nums} : EqI (Jqop p) (.region (Jqoy p) []) := eqi
@[simp] def Jqoz (p : Nums) : List IOp := [qo 41 (.load (some 3) (.t 7)), qo 42 (.bslice 3 1 [(.int .i64 0), (.bool false), (.int .i64 0)] [(0, (.t 41))]), qo 43 (.call p.source_within [(.t 42)]), qo 44 (.un .not (.t 43)), qo 40 (.asg (.t 44))]
def Jqoq (p : Nums) : IC := (.region (Jqoz p) [])
@[simp] theorem Jeoq {p : Nums} : EqI (Jqoq p) (.region (Jqoz p) []) := eqi
@[simp] def Jqp0 (p : Nums) : List IOp := [qo 46 (.load (some 3) (.t 8)), qo 47 (.load (some 3) (.t 9)), qo 48 (.bslice 3 2 [(.int .i64 0), (.bool false), (.int .i64 0)] [(0, (.t 46)), (1, (.t 47))]), qo 49 (.call p.source_within [(.t 48)]), qo 50 (.un .not (.t 49)), qo 45 (.asg (.t 50))]
def Jqor (p : Nums) : IC := (.region (Jqp0 p) [])
@[simp] theorem Jeor {p : Nums} : EqI (Jqor p) (.region (Jqp0 p) []) := eqi
@[simp] def Jqp1 (p : Nums) : List IOp := [qo 52 (.load (some 3) (.t 7)), qo 53 (.load (some 3) (.t 8)), qo 54 (.load (some 3) (.t 9)), qo 55 (.bslice 3 3 [(.int .i64 0), (.bool false), (.int .i64 0)] [(0, (.t 52)), (1, (.t 53)), (2, (.t 54))]), qo 56 (.call p.source_blank [(.t 55)]), qo 57 (.un .not (.t 56)), qo 51 (.asg (.t 57))]
def Jqos (p : Nums) : IC := (.region (Jqp1 p) [])
@[simp] theorem Jeos {p : Nums} : EqI (Jqos p) (.region (Jqp1 p) []) := eqi
def Jqot (p : Nums) : IC := (.seq (.region [⟨(some 6), (.asg (.c (.d (.int .i64 12)))), none, false⟩] []) .ret)
@[simp] theorem Jeot {p : Nums} : EqI (Jqot p) (.seq (.region [⟨(some 6), (.asg (.c (.d (.int .i64 12)))), none, false⟩] []) .ret) := eqi
def Jqou (p : Nums) : IC := (.seq (.region [⟨(some 6), (.asg (.c (.d (.int .i64 11)))), none, false⟩] []) .ret)
@[simp] theorem Jeou {p : Nums} : EqI (Jqou p) (.seq (.region [⟨(some 6), (.asg (.c (.d (.int .i64 11)))), none, false⟩] []) .ret) := eqi
def Jqoh (p : Nums) : IC := (.seq (Jqos p) (.cond (.t 51) (Jqot p) .skip))
@[simp] theorem Jeoh {p : Nums} : EqI (Jqoh p) (.seq (Jqos p) (.cond (.t 51) (Jqot p) .skip)) := eqi
def Jqoi (p : Nums) : IC := (.seq (.region [⟨(some 6), (.asg (.c (.d (.int .i64 9)))), none, false⟩] []) .ret)
@[simp] theorem Jeoi {p : Nums} : EqI (Jqoi p) (.seq (.region [⟨(some 6), (.asg (.c (.d (.int .i64 9)))), none, false⟩] []) .ret) := eqi
def Jqoj (p : Nums) : IC := (.seq (Jqor p) (.cond (.t 45) (Jqou p) (Jqoh p)))
@[simp] theorem Jeoj {p : Nums} : EqI (Jqoj p) (.seq (Jqor p) (.cond (.t 45) (Jqou p) (Jqoh p))) := eqi
def Jqok (p : Nums) : IC := (.seq (.region [⟨(some 6), (.asg (.c (.d (.int .i64 16)))), none, false⟩] []) .ret)
@[simp] theorem Jeok {p : Nums} : EqI (Jqok p) (.seq (.region [⟨(some 6), (.asg (.c (.d (.int .i64 16)))), none, false⟩] []) .ret) := eqi
def Jqol (p : Nums) : IC := (.seq (Jqoq p) (.cond (.t 40) (Jqoi p) (Jqoj p)))
@[simp] theorem Jeol {p : Nums} : EqI (Jqol p) (.seq (Jqoq p) (.cond (.t 40) (Jqoi p) (Jqoj p))) := eqi
def Jqom (p : Nums) : IC := (.seq (Jqop p) (.cond (.t 31) (Jqok p) (Jqol p)))
@[simp] theorem Jeom {p : Nums} : EqI (Jqom p) (.seq (Jqop p) (.cond (.t 31) (Jqok p) (Jqol p))) := eqi
def Jted (p : Nums) : IC := (.seq (.region [⟨(some 3), (.box (.t 0)), none, false⟩, ⟨(some 6), (.asg (.c (.d (.int .i64 0)))), none, false⟩] []) (.seq (Jqog p) (.seq (Jqon p) (.seq (Jqoo p) (.seq (.block 0 (Jqom p)) (.seq (.region [⟨(some 6), (.asg (.c (.d (.int .i64 0)))), none, false⟩] []) .ret))))))
@[simp] def Jqfa (p : Nums) : List IOp := [qo 9 (.faddr 0 (.t 3)), qo 10 (.load none (.t 9)), qo 11 (.call p.opcode_Machine [(.t 10)]), qo 12 (.un .not (.t 11))]
def Jqf1 (p : Nums) : IC := (.region (Jqfa p) [])
@[simp] theorem Jef1 {p : Nums} : EqI (Jqf1 p) (.region (Jqfa p) []) := eqi
def Jqf2 (p : Nums) : IC := (.seq (.region [⟨(some 6), (.asg (.c (.d (.int .i64 8)))), none, false⟩] []) .ret)
@[simp] theorem Jef2 {p : Nums} : EqI (Jqf2 p) (.seq (.region [⟨(some 6), (.asg (.c (.d (.int .i64 8)))), none, false⟩] []) .ret) := eqi
@[simp] def Jqfb (p : Nums) : List IOp := [qo 13 (.call p.machine_others []), qo 7 (.alloc [.nilfn, .nilfn]), qn (.store 2 (.t 7) (.t 13))]
def Jqf3 (p : Nums) : IC := (.region (Jqfb p) [])
@[simp] theorem Jef3 {p : Nums} : EqI (Jqf3 p) (.region (Jqfb p) []) := eqi
@[simp] def Jqfc (p : Nums) : List IOp := [qo 14 (.faddr 0 (.t 3)), qo 15 (.load none (.t 14)), qo 16 (.bin .eql (.t 15) (ci 18))]
def Jqf4 (p : Nums) : IC := (.region (Jqfc p) [])
@[simp] theorem Jef4 {p : Nums} : EqI (Jqf4 p) (.region (Jqfc p) []) := eqi
@[simp] def Jqfd (p : Nums) : List IOp := [qo 17 (.call p.machine_moves []), qn (.store 2 (.t 7) (.t 17))]
def Jqf5 (p : Nums) : IC := (.region (Jqfd p) [])
@[simp] theorem Jef5 {p : Nums} : EqI (Jqf5 p) (.region (Jqfd p) []) := eqi
@[simp] def Jqfe (p : Nums) : List IOp := [qo 18 (.faddr 0 (.t 7)), qo 19 (.load none (.t 18)), qo 20 (.load (some 7) (.t 3)), qo 21 (.mov (.t 1)), qo 22 (.mov (.t 2)), qo 23 (.callv (.t 19) [(.t 20), (.t 21), (.t 22)]), qo 8 (.asg (.t 23))]
def Jqf6 (p : Nums) : IC := (.region (Jqfe p) [])
@[simp] theorem Jef6 {p : Nums} : EqI (Jqf6 p) (.region (Jqfe p) []) := eqi
def Jqf7 (p : Nums) : IC := (.seq (.region [⟨(some 26), (.mov (.t 8)), none, false⟩, ⟨(some 6), (.asg (.t 26)), none, false⟩] []) .ret)
@[simp] theorem Jef7 {p : Nums} : EqI (Jqf7 p) (.seq (.region [⟨(some 26), (.mov (.t 8)), none, false⟩, ⟨(some 6), (.asg (.t 26)), none, false⟩] []) .ret) := eqi
@[simp] def Jqff (p : Nums) : List IOp := [qo 27 (.faddr 1 (.t 7)), qo 28 (.load none (.t 27)), qo 29 (.load (some 7) (.t 3)), qo 30 (.callv (.t 28) [(.t 29)]), qo 31 (.un .not (.t 30))]
def Jqf8 (p : Nums) : IC := (.region (Jqff p) [])
@[simp] theorem Jef8 {p : Nums} : EqI (Jqf8 p) (.region (Jqff p) []) := eqi
def Jqf9 (p : Nums) : IC := (.seq (.region [⟨(some 6), (.asg (.c (.d (.int .i64 12)))), none, false⟩] []) .ret)
@[simp] theorem Jef9 {p : Nums} : EqI (Jqf9 p) (.seq (.region [⟨(some 6), (.asg (.c (.d (.int .i64 12)))), none, false⟩] []) .ret) := eqi
def Jtdb (p : Nums) : IC := (.seq (.region [⟨(some 3), (.box (.t 0)), none, false⟩, ⟨(some 6), (.asg (.c (.d (.int .i64 0)))), none, false⟩] []) (.seq (.seq (Jqf1 p) (.cond (.t 12) (Jqf2 p) .skip)) (.seq (Jqf3 p) (.seq (.seq (Jqf4 p) (.cond (.t 16) (Jqf5 p) .skip)) (.seq (.seq (Jqf6 p) (.seq (.region [⟨(some 24), (.mov (.t 8)), none, false⟩, ⟨(some 25), (.bin .neq (.t 24) (.c (.d (.int .i64 0)))), none, false⟩] []) (.cond (.t 25) (Jqf7 p) .skip))) (.seq (.seq (Jqf8 p) (.cond (.t 31) (Jqf9 p) .skip)) (.seq (.region [⟨(some 6), (.asg (.c (.d (.int .i64 0)))), none, false⟩] []) .ret)))))))
@[simp] def Jqdr (p : Nums) : List IOp := [qo 9 (.mov (.t 0)), qo 10 (.bin .geq (.t 9) (ci 0)), qo 11 (.mov (.t 10)), ⟨(some 12), (.mov (.t 0)), (some (11, true)), false⟩, ⟨(some 13), (.call p.location_Index [(.t 12)]), (some (11, true)), false⟩, ⟨(some 14), (.mov (.t 2)), (some (11, true)), false⟩, ⟨(some 15), (.bin .lss (.t 13) (.t 14)), (some (11, true)), false⟩, qo 16 (.pick (.t 11) (.t 15) (.c (.d (.bool false)))), qo 6 (.asg (.t 16))]
def Jqdp (p : Nums) : IC := (.region (Jqdr p) [])
@[simp] theorem Jedp {p : Nums} : EqI (Jqdp p) (.region (Jqdr p) []) := eqi
@[simp] def Jqds (p : Nums) : List IOp := [qo 17 (.mov (.t 0)), qo 18 (.bin .geq (.t 17) (ci 0)), qo 19 (.mov (.t 18)), ⟨(some 20), (.mov (.t 0)), (some (19, true)), false⟩, ⟨(some 21), (.call p.location_Index [(.t 20)]), (some (19, true)), false⟩, ⟨(some 22), (.mov (.t 1)), (some (19, true)), false⟩, ⟨(some 23), (.bin .lss (.t 21) (.t 22)), (some (19, true)), false⟩, qo 24 (.pick (.t 19) (.t 23) (.c (.d (.bool false)))), qo 6 (.asg (.t 24))]
def Jqdq (p : Nums) : IC := (.region (Jqds p) [])
@[simp] theorem Jedq {p : Nums} : EqI (Jqdq p) (.region (Jqds p) []) := eqi
def Jtd4 (p : Nums) : IC := (.seq (.region [⟨(some 6), (.asg (.c (.d (.bool false)))), none, false⟩] []) (.seq (.seq (.region [⟨(some 7), (.mov (.t 0)), none, false⟩, ⟨(some 8), (.call p.location_IsSlot [(.t 7)]), none, false⟩] []) (.cond (.t 8) (.seq (Jqdp p) .ret) .skip)) (.seq (Jqdq p) .ret)))
@[simp] def Jqhz (p : Nums) : List IOp := [qo 2 (.box (.t 0)), qo 3 (.box (.t 1)), qo 4 (.asg (.c (.d (.bool false))))]
def Jqhx (p : Nums) : IC := (.region (Jqhz p) [])
@[simp] theorem Jehx {p : Nums} : EqI (Jqhx p) (.region (Jqhz p) []) := eqi
@[simp] def Jqi0 (p : Nums) : List IOp := [qo 5 (.faddr 0 (.t 2)), qo 6 (.load none (.t 5)), qo 7 (.faddr 0 (.t 3)), qo 8 (.load none (.t 7)), qo 9 (.bin .lss (.t 6) (.t 8)), qo 10 (.mov (.t 9)), ⟨(some 11), (.faddr 0 (.t 2)), (some (10, false)), false⟩, ⟨(some 12), (.load none (.t 11)), (some (10, false)), false⟩, ⟨(some 13), (.faddr 0 (.t 3)), (some (10, false)), false⟩, ⟨(some 14), (.load none (.t 13)), (some (10, false)), false⟩, ⟨(some 15), (.bin .eql (.t 12) (.t 14)), (some (10, false)), false⟩, ⟨(some 16), (.mov (.t 15)), (some (10, false)), false⟩, ⟨(some 17), (.faddr 1 (.t 2)), (some (16, true)), false⟩, ⟨(some 18), (.load none (.t 17)), (some (16, true)), false⟩, ⟨(some 19), (.faddr 1 (.t 3)), (some (16, true)), false⟩, ⟨(some 20), (.load none (.t 19)), (some (16, true)), false⟩, ⟨(some 21), (.bin .lss (.t 18) (.t 20)), (some (16, true)), false⟩, ⟨(some 22), (.pick (.t 16) (.t 21) (.c (.d (.bool false)))), (some (10, false)), false⟩, qo 23 (.pick (.t 10) (.c (.d (.bool true))) (.t 22)), qo 4 (.asg (.t 23))]
def Jqhy (p : Nums) : IC := (.region (Jqi0 p) [])
@[simp] theorem Jehy {p : Nums} : EqI (Jqhy p) (.region (Jqi0 p) []) := eqi
def Jtdt (p : Nums) : IC := (.seq (Jqhx p) (.seq (Jqhy p) .ret))
@[simp] def Jq7u (p : Nums) : List IOp := [qo 5 (.faddr 0 (.t 2)), qo 6 (.load none (.t 5)), qo 7 (.mov (.t 1)), qo 8 (.bin .lss (.t 6) (.t 7))]
def Jq7r (p : Nums) : IC := (.region (Jq7u p) [])
@[simp] theorem Je7r {p : Nums} : EqI (Jq7r p) (.region (Jq7u p) []) := eqi
@[simp] def Jq7v (p : Nums) : List IOp := [qp 9 (.faddr 1 (.t 2)), qp 10 (.load none (.t 9)), qp 11 (.faddr 0 (.t 2)), qp 12 (.load none (.t 11)), qp 13 (.call p.location_Slot [(.t 12)]), qo 14 (.bin .eql (.t 10) (.t 13)), qo 4 (.asg (.t 14))]
def Jq7s (p : Nums) : IC := (.region (Jq7v p) [])
@[simp] theorem Je7s {p : Nums} : EqI (Jq7s p) (.region (Jq7v p) []) := eqi
@[simp] def Jq7w (p : Nums) : List IOp := [qo 15 (.faddr 1 (.t 2)), qo 16 (.load none (.t 15)), qo 17 (.call p.location_IsSlot [(.t 16)]), qo 18 (.un .not (.t 17)), qo 19 (.mov (.t 18)), ⟨(some 20), (.faddr 1 (.t 2)), (some (19, false)), false⟩, ⟨(some 21), (.load none (.t 20)), (some (19, false)), false⟩, ⟨(some 22), (.call p.location_Index [(.t 21)]), (some (19, false)), false⟩, ⟨(some 23), (.mov (.t 1)), (some (19, false)), false⟩, ⟨(some 24), (.bin .geq (.t 22) (.t 23)), (some (19, false)), false⟩, qo 25 (.pick (.t 19) (.c (.d (.bool true))) (.t 24)), qo 4 (.asg (.t 25))]
def Jq7t (p : Nums) : IC := (.region (Jq7w p) [])
@[simp] theorem Je7t {p : Nums} : EqI (Jq7t p) (.region (Jq7w p) []) := eqi
def Jtcj (p : Nums) : IC := (.seq (.region [⟨(some 2), (.box (.t 0)), none, false⟩, ⟨(some 4), (.asg (.c (.d (.bool false)))), none, false⟩] []) (.seq (.seq (Jq7r p) (.cond (.t 8) (.seq (Jq7s p) .ret) .skip)) (.seq (Jq7t p) .ret)))
@[simp] def Jq12 (p : Nums) : List IOp := [qo 7 (.mov (.t 1)), qo 8 (.mov (.t 0)), qo 9 (.len (.t 8)), qo 10 (.bin .lss (.t 7) (.t 9)), qo 11 (.mov (.t 10)), ⟨(some 12), (.mov (.t 2)), (some (11, true)), false⟩, ⟨(some 13), (.mov (.t 0)), (some (11, true)), false⟩, ⟨(some 14), (.mov (.t 1)), (some (11, true)), false⟩, ⟨(some 15), (.iaddr 5 (.t 13) (.t 14)), (some (11, true)), false⟩, ⟨(some 16), (.load (some 5) (.t 15)), (some (11, true)), false⟩, ⟨(some 17), (.callv (.t 12) [(.t 16)]), (some (11, true)), false⟩, qo 18 (.pick (.t 11) (.t 17) (.c (.d (.bool false))))]
def Jqz (p : Nums) : IC := (.region (Jq12 p) [])
@[simp] theorem Jez {p : Nums} : EqI (Jqz p) (.region (Jq12 p) []) := eqi
@[simp] def Jq13 (p : Nums) : List IOp := [qo 19 (.mov (.t 1)), qo 20 (.bin .add (.t 19) (ci 1)), qo 1 (.asg (.t 20))]
def Jq10 (p : Nums) : IC := (.region (Jq13 p) [])
@[simp] theorem Je10 {p : Nums} : EqI (Jq10 p) (.region (Jq13 p) []) := eqi
def Jq11 (p : Nums) : IC := (.seq (.seq (Jqz p) (.cond (.t 18) .skip (.exit 0))) (.block 1 (Jq10 p)))
@[simp] theorem Je11 {p : Nums} : EqI (Jq11 p) (.seq (.seq (Jqz p) (.cond (.t 18) .skip (.exit 0))) (.block 1 (Jq10 p))) := eqi
def Jtbn (p : Nums) : IC := (.seq (.region [⟨(some 6), (.asg (.c (.d (.int .i64 0)))), none, false⟩] []) (.seq (.block 0 (.loop (Jq11 p))) (.seq (.region [⟨(some 21), (.mov (.t 1)), none, false⟩, ⟨(some 6), (.asg (.t 21)), none, false⟩] []) .ret)))
@[simp] def Jqw (p : Nums) : List IOp := [qo 3 (.faddr 0 (.t 1)), qo 4 (.load none (.t 3)), qo 5 (.bin .eql (.t 4) (ci 2)), qo 2 (.asg (.t 5))]
def Jqv (p : Nums) : IC := (.region (Jqw p) [])
@[simp] theorem Jev {p : Nums} : EqI (Jqv p) (.region (Jqw p) []) := eqi
def Jtbl (p : Nums) : IC := (.seq (.region [⟨(some 1), (.box (.t 0)), none, false⟩, ⟨(some 2), (.asg (.c (.d (.bool false)))), none, false⟩] []) (.seq (Jqv p) .ret))
@[simp] def Jq17 (p : Nums) : List IOp := [qo 7 (.mov (.t 1)), qo 8 (.mov (.t 0)), qo 9 (.len (.t 8)), qo 10 (.bin .lss (.t 7) (.t 9)), qo 11 (.mov (.t 10)), ⟨(some 12), (.mov (.t 2)), (some (11, true)), false⟩, ⟨(some 13), (.mov (.t 0)), (some (11, true)), false⟩, ⟨(some 14), (.mov (.t 1)), (some (11, true)), false⟩, ⟨(some 15), (.iaddr 7 (.t 13) (.t 14)), (some (11, true)), false⟩, ⟨(some 16), (.load (some 7) (.t 15)), (some (11, true)), false⟩, ⟨(some 17), (.callv (.t 12) [(.t 16)]), (some (11, true)), false⟩, qo 18 (.pick (.t 11) (.t 17) (.c (.d (.bool false))))]
def Jq14 (p : Nums) : IC := (.region (Jq17 p) [])
@[simp] theorem Je14 {p : Nums} : EqI (Jq14 p) (.region (Jq17 p) []) := eqi
@[simp] def Jq18 (p : Nums) : List IOp := [qo 19 (.mov (.t 1)), qo 20 (.bin .add (.t 19) (ci 1)), qo 1 (.asg (.t 20))]
def Jq15 (p : Nums) : IC := (.region (Jq18 p) [])
@[simp] theorem Je15 {p : Nums} : EqI (Jq15 p) (.region (Jq18 p) []) := eqi
def Jq16 (p : Nums) : IC := (.seq (.seq (Jq14 p) (.cond (.t 18) .skip (.exit 0))) (.block 1 (Jq15 p)))
@[simp] theorem Je16 {p : Nums} : EqI (Jq16 p) (.seq (.seq (Jq14 p) (.cond (.t 18) .skip (.exit 0))) (.block 1 (Jq15 p))) := eqi
def Jtbo (p : Nums) : IC := (.seq (.region [⟨(some 6), (.asg (.c (.d (.int .i64 0)))), none, false⟩] []) (.seq (.block 0 (.loop (Jq16 p))) (.seq (.region [⟨(some 21), (.mov (.t 1)), none, false⟩, ⟨(some 6), (.asg (.t 21)), none, false⟩] []) .ret)))
@[simp] def Jqy (p : Nums) : List IOp := [qo 3 (.faddr 0 (.t 1)), qo 4 (.load none (.t 3)), qo 5 (.bin .eql (.t 4) (ci 18)), qo 2 (.asg (.t 5))]
def Jqx (p : Nums) : IC := (.region (Jqy p) [])
@[simp] theorem Jex {p : Nums} : EqI (Jqx p) (.region (Jqy p) []) := eqi
def Jtbm (p : Nums) : IC := (.seq (.region [⟨(some 1), (.box (.t 0)), none, false⟩, ⟨(some 2), (.asg (.c (.d (.bool false)))), none, false⟩] []) (.seq (Jqx p) .ret))
@[simp] def Jqp (p : Nums) : List IOp := [qo 2 (.box (.t 0)), qo 3 (.box (.t 1)), qo 4 (.asg (.c (.d (.bool false))))]
def Jqn (p : Nums) : IC := (.region (Jqp p) [])
@[simp] theorem Jen {p : Nums} : EqI (Jqn p) (.region (Jqp p) []) := eqi
@[simp] def Jqq (p : Nums) : List IOp := [qo 5 (.faddr 0 (.t 2)), qo 6 (.load none (.t 5)), qo 7 (.faddr 0 (.t 3)), qo 8 (.load none (.t 7)), qo 9 (.bin .eql (.t 6) (.t 8)), qo 10 (.mov (.t 9)), ⟨(some 11), (.faddr 4 (.t 2)), (some (10, true)), false⟩, ⟨(some 12), (.load none (.t 11)), (some (10, true)), false⟩, ⟨(some 13), (.faddr 4 (.t 3)), (some (10, true)), false⟩, ⟨(some 14), (.load none (.t 13)), (some (10, true)), false⟩, ⟨(some 15), (.bin .eql (.t 12) (.t 14)), (some (10, true)), false⟩, qo 16 (.pick (.t 10) (.t 15) (.c (.d (.bool false)))), qo 17 (.mov (.t 16)), ⟨(some 18), (.faddr 0 (.t 2)), (some (17, true)), false⟩, ⟨(some 19), (.load none (.t 18)), (some (17, true)), false⟩, ⟨(some 20), (.bin .neq (.t 19) (ci 2)), (some (17, true)), false⟩, qo 21 (.pick (.t 17) (.t 20) (.c (.d (.bool false)))), qo 22 (.mov (.t 21)), ⟨(some 23), (.faddr 0 (.t 2)), (some (22, true)), false⟩, ⟨(some 24), (.load none (.t 23)), (some (22, true)), false⟩, ⟨(some 25), (.bin .neq (.t 24) (ci 18)), (some (22, true)), false⟩, qo 26 (.pick (.t 22) (.t 25) (.c (.d (.bool false)))), qo 4 (.asg (.t 26))]
def Jqo (p : Nums) : IC := (.region (Jqq p) [])
@[simp] theorem Jeo {p : Nums} : EqI (Jqo p) (.region (Jqq p) []) := eqi
def Jtbj (p : Nums) : IC := (.seq (Jqn p) (.seq (Jqo p) .ret))
def Jqm1 (p : Nums) : IC := (.seq (.region [⟨(some 2), (.asg (.c .nils)), none, false⟩] []) .ret)
@[simp] theorem Jem1 {p : Nums} : EqI (Jqm1 p) (.seq (.region [⟨(some 2), (.asg (.c .nils)), none, false⟩] []) .ret) := eqi
@[simp] def Jqm3 (p : Nums) : List IOp := [qo 5 (.bslice 2 0 [(.int .i64 0), (.int .i64 0)] []), qo 6 (.mov (.t 0)), qo 7 (.app 2 16 (.t 5) (.t 6)), qo 2 (.asg (.t 7))]
def Jqm2 (p : Nums) : IC := (.region (Jqm3 p) [])
@[simp] theorem Jem2 {p : Nums} : EqI (Jqm2 p) (.region (Jqm3 p) []) := eqi
def Jte7 (p : Nums) : IC := (.seq (.region [⟨(some 2), (.asg (.c .nils)), none, false⟩] []) (.seq (.seq (.region [⟨(some 3), (.mov (.t 0)), none, false⟩, ⟨(some 4), (.isnil false (.t 3)), none, false⟩] []) (.cond (.t 4) (Jqm1 p) .skip)) (.seq (Jqm2 p) .ret)))
@[simp] def Jqmm (p : Nums) : List IOp := [qo 6 (.mov (.t 0)), qo 7 (.len (.t 6)), qo 8 (.bin .lss (.t 7) (ci 2))]
def Jqm4 (p : Nums) : IC := (.region (Jqmm p) [])
@[simp] theorem Jem4 {p : Nums} : EqI (Jqm4 p) (.region (Jqmm p) []) := eqi
def Jqme (p : Nums) : IC := (.seq (.region [⟨(some 9), (.mov (.t 0)), none, false⟩, ⟨(some 2), (.asg (.t 9)), none, false⟩] []) .ret)
@[simp] theorem Jeme {p : Nums} : EqI (Jqme p) (.seq (.region [⟨(some 9), (.mov (.t 0)), none, false⟩, ⟨(some 2), (.asg (.t 9)), none, false⟩] []) .ret) := eqi
@[simp] def Jqmr (p : Nums) : List IOp := [qo 10 (.mov (.t 3)), qo 11 (.mov (.t 0)), qo 12 (.len (.t 11)), qo 13 (.bin .lss (.t 10) (.t 12))]
def Jqmf (p : Nums) : IC := (.region (Jqmr p) [])
@[simp] theorem Jemf {p : Nums} : EqI (Jqmf p) (.region (Jqmr p) []) := eqi
@[simp] def Jqms (p : Nums) : List IOp := [qp 16 (.mov (.t 0)), qp 17 (.mov (.t 3)), qp 18 (.iaddr 2 (.t 16) (.t 17)), qp 19 (.load (some 2) (.t 18)), qp 20 (.mov (.t 0)), qp 21 (.mov (.t 3)), qp 22 (.bin .sub (.t 21) (ci 1)), qp 23 (.iaddr 2 (.t 20) (.t 22)), qp 24 (.load (some 2) (.t 23)), qo 25 (.eqs false [.int, .int] (.t 19) (.t 24))]
def Jqmg (p : Nums) : IC := (.region (Jqms p) [])
@[simp] theorem Jemg {p : Nums} : EqI (Jqmg p) (.region (Jqms p) []) := eqi
@[simp] def Jqmt (p : Nums) : List IOp := [qo 26 (.mov (.t 0)), qo 27 (.mov (.t 3)), qo 28 (.slc 2 (.t 26) (some (.t 27)) none), qo 4 (.asg (.t 28))]
def Jqmh (p : Nums) : IC := (.region (Jqmt p) [])
@[simp] theorem Jemh {p : Nums} : EqI (Jqmh p) (.region (Jqmt p) []) := eqi
@[simp] def Jqmu (p : Nums) : List IOp := [qo 29 (.mov (.t 5)), qo 30 (.mov (.t 4)), qo 31 (.len (.t 30)), qo 32 (.bin .lss (.t 29) (.t 31))]
def Jqmi (p : Nums) : IC := (.region (Jqmu p) [])
@[simp] theorem Jemi {p : Nums} : EqI (Jqmi p) (.region (Jqmu p) []) := eqi
@[simp] def Jqmv (p : Nums) : List IOp := [qp 35 (.mov (.t 4)), qp 36 (.mov (.t 5)), qp 37 (.iaddr 2 (.t 35) (.t 36)), qp 38 (.load (some 2) (.t 37)), qp 39 (.mov (.t 4)), qp 40 (.mov (.t 5)), qp 41 (.bin .sub (.t 40) (ci 1)), qp 42 (.iaddr 2 (.t 39) (.t 41)), qp 43 (.load (some 2) (.t 42)), qo 44 (.eqs true [.int, .int] (.t 38) (.t 43))]
def Jqmj (p : Nums) : IC := (.region (Jqmv p) [])
@[simp] theorem Jemj {p : Nums} : EqI (Jqmj p) (.region (Jqmv p) []) := eqi
@[simp] def Jqmw (p : Nums) : List IOp := [qo 45 (.mov (.t 0)), qo 46 (.mov (.t 3)), qo 47 (.mov (.t 4)), qo 48 (.mov (.t 5)), qo 49 (.iaddr 2 (.t 47) (.t 48)), qo 50 (.load (some 2) (.t 49)), qo 51 (.iaddr 2 (.t 45) (.t 46)), qn (.store 2 (.t 51) (.t 50))]
def Jqmk (p : Nums) : IC := (.region (Jqmw p) [])
@[simp] theorem Jemk {p : Nums} : EqI (Jqmk p) (.region (Jqmw p) []) := eqi
@[simp] def Jqmx (p : Nums) : List IOp := [qo 52 (.mov (.t 3)), qo 53 (.bin .add (.t 52) (ci 1)), qo 3 (.asg (.t 53))]
def Jqml (p : Nums) : IC := (.region (Jqmx p) [])
@[simp] theorem Jeml {p : Nums} : EqI (Jqml p) (.region (Jqmx p) []) := eqi
def Jqm5 (p : Nums) : IC := (.seq (Jqmj p) (.cond (.t 44) (.seq (Jqmk p) (Jqml p)) .skip))
@[simp] theorem Jem5 {p : Nums} : EqI (Jqm5 p) (.seq (Jqmj p) (.cond (.t 44) (.seq (Jqmk p) (Jqml p)) .skip)) := eqi
@[simp] def Jqmn (p : Nums) : List IOp := [qo 33 (.mov (.t 5)), qo 34 (.bin .add (.t 33) (ci 1)), qo 5 (.asg (.t 34))]
def Jqm6 (p : Nums) : IC := (.region (Jqmn p) [])
@[simp] theorem Jem6 {p : Nums} : EqI (Jqm6 p) (.region (Jqmn p) []) := eqi
def Jqm7 (p : Nums) : IC := (.seq (.seq (Jqmi p) (.cond (.t 32) .skip (.exit 2))) (.seq (.block 3 (Jqm5 p)) (Jqm6 p)))
@[simp] theorem Jem7 {p : Nums} : EqI (Jqm7 p) (.seq (.seq (Jqmi p) (.cond (.t 32) .skip (.exit 2))) (.seq (.block 3 (Jqm5 p)) (Jqm6 p))) := eqi
@[simp] def Jqmo (p : Nums) : List IOp := [qo 54 (.mov (.t 0)), qo 55 (.mov (.t 3)), qo 56 (.slc 2 (.t 54) (some (.t 55)) none), qn (.clr 2 [(.int .i64 0), (.int .i64 0)] (.t 56))]
def Jqm8 (p : Nums) : IC := (.region (Jqmo p) [])
@[simp] theorem Jem8 {p : Nums} : EqI (Jqm8 p) (.region (Jqmo p) []) := eqi
@[simp] def Jqmp (p : Nums) : List IOp := [qo 57 (.mov (.t 0)), qo 58 (.mov (.t 3)), qo 59 (.slc 2 (.t 57) none (some (.t 58))), qo 2 (.asg (.t 59))]
def Jqm9 (p : Nums) : IC := (.region (Jqmp p) [])
@[simp] theorem Jem9 {p : Nums} : EqI (Jqm9 p) (.region (Jqmp p) []) := eqi
def Jqma (p : Nums) : IC := (.seq (Jqmh p) (.seq (.seq (.region [⟨(some 5), (.asg (.c (.d (.int .i64 1)))), none, false⟩] []) (.block 2 (.loop (Jqm7 p)))) (.seq (Jqm8 p) (.seq (Jqm9 p) .ret))))
@[simp] theorem Jema {p : Nums} : EqI (Jqma p) (.seq (Jqmh p) (.seq (.seq (.region [⟨(some 5), (.asg (.c (.d (.int .i64 1)))), none, false⟩] []) (.block 2 (.loop (Jqm7 p)))) (.seq (Jqm8 p) (.seq (Jqm9 p) .ret)))) := eqi
def Jqmb (p : Nums) : IC := (.seq (Jqmg p) (.cond (.t 25) (Jqma p) .skip))
@[simp] theorem Jemb {p : Nums} : EqI (Jqmb p) (.seq (Jqmg p) (.cond (.t 25) (Jqma p) .skip)) := eqi
@[simp] def Jqmq (p : Nums) : List IOp := [qo 14 (.mov (.t 3)), qo 15 (.bin .add (.t 14) (ci 1)), qo 3 (.asg (.t 15))]
def Jqmc (p : Nums) : IC := (.region (Jqmq p) [])
@[simp] theorem Jemc {p : Nums} : EqI (Jqmc p) (.region (Jqmq p) []) := eqi
def Jqmd (p : Nums) : IC := (.seq (.seq (Jqmf p) (.cond (.t 13) .skip (.exit 0))) (.seq (.block 1 (Jqmb p)) (Jqmc p)))
@[simp] theorem Jemd {p : Nums} : EqI (Jqmd p) (.seq (.seq (Jqmf p) (.cond (.t 13) .skip (.exit 0))) (.seq (.block 1 (Jqmb p)) (Jqmc p))) := eqi
def Jte8 (p : Nums) : IC := (.seq (.region [⟨(some 2), (.asg (.c .nils)), none, false⟩] []) (.seq (.seq (Jqm4 p) (.cond (.t 8) (Jqme p) .skip)) (.seq (.seq (.region [⟨(some 3), (.asg (.c (.d (.int .i64 1)))), none, false⟩] []) (.block 0 (.loop (Jqmd p)))) (.seq (.region [⟨(some 60), (.mov (.t 0)), none, false⟩, ⟨(some 2), (.asg (.t 60)), none, false⟩] []) .ret))))
@[simp] def Jq45 (p : Nums) : List IOp := [qo 11 (.faddr 0 (.t 5)), qo 12 (.load none (.t 11)), qo 13 (.faddr 0 (.t 7)), qo 14 (.load none (.t 13)), qo 15 (.faddr 1 (.t 7)), qo 16 (.load none (.t 15)), qo 17 (.slc 5 (.t 12) (some (.t 14)) (some (.t 16))), qo 18 (.len (.t 17)), qo 19 (.mov (ci 0))]
def Jq3s (p : Nums) : IC := (.region (Jq45 p) [])
@[simp] theorem Je3s {p : Nums} : EqI (Jq3s p) (.region (Jq45 p) []) := eqi
@[simp] def Jq49 (p : Nums) : List IOp := [qo 21 (.iaddr 5 (.t 17) (.t 19)), qo 22 (.load (some 5) (.t 21)), qo 9 (.alloc [(zi 0), (zi 0), (zi 0), (zi 0), (zi 0)]), qn (.store 5 (.t 9) (.t 22))]
def Jq3x (p : Nums) : IC := (.region (Jq49 p) [])
@[simp] theorem Je3x {p : Nums} : EqI (Jq3x p) (.region (Jq49 p) []) := eqi
@[simp] def Jq4a (p : Nums) : List IOp := [qp 25 (.mov (.t 0)), qp 26 (.mov (.t 0)), qp 27 (.nilck (.t 26)), qp 28 (.faddr 0 (.t 27)), qp 29 (.load none (.t 28)), qp 30 (.faddr 1 (.t 9)), qp 31 (.load none (.t 30)), qp 32 (.faddr 2 (.t 9)), qp 33 (.load none (.t 32)), qp 34 (.call p.transfer_Copy [(.t 29), (.t 31), (.t 33)]), qp 35 (.faddr 2 (.t 7)), qp 36 (.load none (.t 35)), qo 37 (.call p.blockcheck_checker_become [(.t 25), (.t 34), (.t 36)])]
def Jq3y (p : Nums) : IC := (.region (Jq4a p) [])
@[simp] theorem Je3y {p : Nums} : EqI (Jq3y p) (.region (Jq4a p) []) := eqi
def Jq3z (p : Nums) : IC := (.seq (Jq3x p) (.seq (.region [⟨(some 23), (.mov (.t 0)), none, false⟩, ⟨(some 24), (.call p.blockcheck_checker_cost [(.t 23)]), none, false⟩] []) (Jq3y p)))
@[simp] theorem Je3z {p : Nums} : EqI (Jq3z p) (.seq (Jq3x p) (.seq (.region [⟨(some 23), (.mov (.t 0)), none, false⟩, ⟨(some 24), (.call p.blockcheck_checker_cost [(.t 23)]), none, false⟩] []) (Jq3y p))) := eqi
def Jq40 (p : Nums) : IC := (.seq (.region [⟨(some 20), (.bin .lss (.t 19) (.t 18)), none, false⟩] []) (.seq (.cond (.t 20) .skip (.exit 0)) (.seq (.block 1 (Jq3z p)) (.region [⟨(some 38), (.bin .add (.t 19) (.c (.d (.int .i64 1)))), none, false⟩, ⟨(some 19), (.mov (.t 38)), none, false⟩] []))))
@[simp] theorem Je40 {p : Nums} : EqI (Jq40 p) (.seq (.region [⟨(some 20), (.bin .lss (.t 19) (.t 18)), none, false⟩] []) (.seq (.cond (.t 20) .skip (.exit 0)) (.seq (.block 1 (Jq3z p)) (.region [⟨(some 38), (.bin .add (.t 19) (.c (.d (.int .i64 1)))), none, false⟩, ⟨(some 19), (.mov (.t 38)), none, false⟩] [])))) := eqi
@[simp] def Jq4b (p : Nums) : List IOp := [qo 39 (.faddr 2 (.t 7)), qo 40 (.load none (.t 39)), qo 10 (.asg (.t 40))]
def Jq41 (p : Nums) : IC := (.region (Jq4b p) [])
@[simp] theorem Je41 {p : Nums} : EqI (Jq41 p) (.region (Jq4b p) []) := eqi
@[simp] def Jq4c (p : Nums) : List IOp := [qo 41 (.mov (.t 10)), qo 42 (.faddr 3 (.t 7)), qo 43 (.load none (.t 42)), qo 44 (.bin .lss (.t 41) (.t 43))]
def Jq42 (p : Nums) : IC := (.region (Jq4c p) [])
@[simp] theorem Je42 {p : Nums} : EqI (Jq42 p) (.region (Jq4c p) []) := eqi
@[simp] def Jq4d (p : Nums) : List IOp := [qp 49 (.mov (.t 0)), qp 50 (.mov (.t 0)), qp 51 (.nilck (.t 50)), qp 52 (.faddr 0 (.t 51)), qp 53 (.load none (.t 52)), qp 54 (.faddr 0 (.t 6)), qp 55 (.load none (.t 54)), qp 56 (.mov (.t 10)), qp 57 (.iaddr 7 (.t 55) (.t 56)), qp 58 (.faddr 5 (.t 57)), qp 59 (.load none (.t 58)), qp 60 (.faddr 0 (.t 6)), qp 61 (.load none (.t 60)), qp 62 (.mov (.t 10)), qp 63 (.iaddr 7 (.t 61) (.t 62)), qp 64 (.faddr 6 (.t 63)), qp 65 (.load none (.t 64)), qp 66 (.call p.transfer_Move [(.t 53), (.t 59), (.t 65)]), qp 67 (.mov (.t 10)), qo 68 (.call p.blockcheck_checker_become [(.t 49), (.t 66), (.t 67)])]
def Jq43 (p : Nums) : IC := (.region (Jq4d p) [])
@[simp] theorem Je43 {p : Nums} : EqI (Jq43 p) (.region (Jq4d p) []) := eqi
def Jq44 (p : Nums) : IC := (.seq (.region [⟨(some 47), (.mov (.t 0)), none, false⟩, ⟨(some 48), (.call p.blockcheck_checker_cost [(.t 47)]), none, false⟩] []) (Jq43 p))
@[simp] theorem Je44 {p : Nums} : EqI (Jq44 p) (.seq (.region [⟨(some 47), (.mov (.t 0)), none, false⟩, ⟨(some 48), (.call p.blockcheck_checker_cost [(.t 47)]), none, false⟩] []) (Jq43 p)) := eqi
@[simp] def Jq46 (p : Nums) : List IOp := [qo 45 (.mov (.t 10)), qo 46 (.bin .add (.t 45) (ci 1)), qo 10 (.asg (.t 46))]
def Jq3t (p : Nums) : IC := (.region (Jq46 p) [])
@[simp] theorem Je3t {p : Nums} : EqI (Jq3t p) (.region (Jq46 p) []) := eqi
def Jq3u (p : Nums) : IC := (.seq (.seq (Jq42 p) (.cond (.t 44) .skip (.exit 2))) (.seq (.block 3 (Jq44 p)) (Jq3t p)))
@[simp] theorem Je3u {p : Nums} : EqI (Jq3u p) (.seq (.seq (Jq42 p) (.cond (.t 44) .skip (.exit 2))) (.seq (.block 3 (Jq44 p)) (Jq3t p))) := eqi
@[simp] def Jq47 (p : Nums) : List IOp := [qo 69 (.faddr 4 (.t 7)), qo 70 (.load none (.t 69)), qo 71 (.bin .geq (.t 70) (ci 0))]
def Jq3v (p : Nums) : IC := (.region (Jq47 p) [])
@[simp] theorem Je3v {p : Nums} : EqI (Jq3v p) (.region (Jq47 p) []) := eqi
@[simp] def Jq48 (p : Nums) : List IOp := [qp 72 (.mov (.t 0)), qp 73 (.faddr 0 (.t 5)), qp 74 (.load none (.t 73)), qp 75 (.faddr 4 (.t 7)), qp 76 (.load none (.t 75)), qp 77 (.iaddr 5 (.t 74) (.t 76)), qp 78 (.load (some 5) (.t 77)), qp 79 (.faddr 0 (.t 6)), qp 80 (.load none (.t 79)), qp 81 (.faddr 5 (.t 7)), qp 82 (.load none (.t 81)), qp 83 (.iaddr 7 (.t 80) (.t 82)), qp 84 (.load (some 7) (.t 83)), qp 85 (.faddr 5 (.t 7)), qp 86 (.load none (.t 85)), qo 87 (.call p.blockcheck_checker_instr [(.t 72), (.t 78), (.t 84), (.t 86)])]
def Jq3w (p : Nums) : IC := (.region (Jq48 p) [])
@[simp] theorem Je3w {p : Nums} : EqI (Jq3w p) (.region (Jq48 p) []) := eqi
def Jtc8 (p : Nums) : IC := (.seq (.region [⟨(some 5), (.box (.t 1)), none, false⟩, ⟨(some 6), (.box (.t 2)), none, false⟩, ⟨(some 7), (.box (.t 3)), none, false⟩] []) (.seq (.seq (Jq3s p) (.block 0 (.loop (Jq40 p)))) (.seq (.seq (Jq41 p) (.block 2 (.loop (Jq3u p)))) (.seq (Jq3v p) (.cond (.t 71) (Jq3w p) .skip)))))
@[simp] def Jq53 (p : Nums) : List IOp := [qp 10 (.mov (.t 0)), qp 11 (.nilck (.t 10)), qp 12 (.faddr 0 (.t 11)), qp 13 (.load none (.t 12)), qp 14 (.mov (.t 1)), qp 15 (.mov (.t 2)), qp 16 (.call p.location_Reg [(.t 15)]), qp 17 (.build [(zi 0), (zi 0)] [(0, 1, (.t 14)), (1, 1, (.t 16))]), qo 18 (.call p.pairset_Has [(.t 13), (.t 17)]), qo 19 (.un .not (.t 18))]
def Jq51 (p : Nums) : IC := (.region (Jq53 p) [])
@[simp] theorem Je51 {p : Nums} : EqI (Jq51 p) (.region (Jq53 p) []) := eqi
@[simp] def Jq54 (p : Nums) : List IOp := [qo 20 (.mov (.t 3)), qo 21 (.build [(zi 0), (zi 0)] [(0, 1, (ci 21)), (1, 1, (.t 20))]), qo 22 (.mkif p.ty_bcfail (.t 21)), qn (.pan (.t 22))]
def Jq52 (p : Nums) : IC := (.region (Jq54 p) [])
@[simp] theorem Je52 {p : Nums} : EqI (Jq52 p) (.region (Jq54 p) []) := eqi
def Jtcc (p : Nums) : IC := (.seq (.region [⟨(some 8), (.mov (.t 0)), none, false⟩, ⟨(some 9), (.call p.blockcheck_checker_cost [(.t 8)]), none, false⟩] []) (.seq (Jq51 p) (.cond (.t 19) (Jq52 p) .skip)))
@[simp] def Jqbt (p : Nums) : List IOp := [qo 6 (.faddr 0 (.t 3)), qo 7 (.load none (.t 6)), qo 8 (.bin .eql (.t 7) (ci 17))]
def Jqbl (p : Nums) : IC := (.region (Jqbt p) [])
@[simp] theorem Jebl {p : Nums} : EqI (Jqbl p) (.region (Jqbt p) []) := eqi
@[simp] def Jqbu (p : Nums) : List IOp := [qo 9 (.mov (.t 0)), qp 10 (.mov (.t 0)), qp 11 (.nilck (.t 10)), qp 12 (.faddr 0 (.t 11)), qp 13 (.faddr 6 (.t 12)), qp 14 (.load none (.t 13)), qp 15 (.mov (.t 0)), qp 16 (.nilck (.t 15)), qp 17 (.faddr 0 (.t 16)), qp 18 (.faddr 4 (.t 17)), qp 19 (.load none (.t 18)), qp 20 (.faddr 2 (.t 3)), qp 21 (.load none (.t 20)), qp 22 (.iaddr 1 (.t 19) (.t 21)), qp 23 (.load none (.t 22)), qp 24 (.bslice 1 1 [(.int .i64 0)] [(0, (.t 23))]), qo 25 (.app 1 8 (.t 14) (.t 24)), qo 26 (.nilck (.t 9)), qo 27 (.faddr 0 (.t 26)), qo 28 (.faddr 6 (.t 27)), qn (.store 1 (.t 28) (.t 25))]
def Jqbm (p : Nums) : IC := (.region (Jqbu p) [])
@[simp] theorem Jebm {p : Nums} : EqI (Jqbm p) (.region (Jqbu p) []) := eqi
@[simp] def Jqbv (p : Nums) : List IOp := [qp 30 (.faddr 0 (.t 3)), qp 31 (.load none (.t 30)), qp 32 (.mov (.t 0)), qp 33 (.nilck (.t 32)), qp 34 (.faddr 0 (.t 33)), qp 35 (.faddr 4 (.t 34)), qp 36 (.load none (.t 35)), qp 37 (.faddr 2 (.t 3)), qp 38 (.load none (.t 37)), qp 39 (.iaddr 1 (.t 36) (.t 38)), qp 40 (.load none (.t 39)), qp 41 (.mov (.t 0)), qp 42 (.nilck (.t 41)), qp 43 (.faddr 0 (.t 42)), qp 44 (.faddr 4 (.t 43)), qp 45 (.load none (.t 44)), qp 46 (.faddr 3 (.t 3)), qp 47 (.load none (.t 46)), qp 48 (.iaddr 1 (.t 45) (.t 47)), qp 49 (.load none (.t 48)), qp 50 (.faddr 4 (.t 3)), qp 51 (.load none (.t 50)), qo 52 (.call p.alu_Eval [(.t 31), (.t 40), (.t 49), (.t 51)]), qo 29 (.mov (.t 52)), qp 53 (.ext (.t 29) 0), qp 54 (.ext (.t 29) 1), qp 4 (.asg (.t 53)), qo 5 (.asg (.t 54))]
def Jqbn (p : Nums) : IC := (.region (Jqbv p) [])
@[simp] theorem Jebn {p : Nums} : EqI (Jqbn p) (.region (Jqbv p) []) := eqi
@[simp] def Jqbw (p : Nums) : List IOp := [qo 57 (.mov (.t 0)), qo 58 (.nilck (.t 57)), qo 59 (.faddr 0 (.t 58)), qo 60 (.faddr 0 (.t 59)), qn (.store 1 (.t 60) (ci 2))]
def Jqbo (p : Nums) : IC := (.region (Jqbw p) [])
@[simp] theorem Jebo {p : Nums} : EqI (Jqbo p) (.region (Jqbw p) []) := eqi
@[simp] def Jqbx (p : Nums) : List IOp := [qo 61 (.mov (.t 0)), qp 62 (.nilck (.t 61)), qp 63 (.faddr 0 (.t 62)), qp 64 (.faddr 4 (.t 63)), qp 65 (.load none (.t 64)), qp 66 (.faddr 1 (.t 3)), qp 67 (.load none (.t 66)), qp 68 (.mov (.t 4)), qo 69 (.iaddr 1 (.t 65) (.t 67)), qn (.store 1 (.t 69) (.t 68))]
def Jqbp (p : Nums) : IC := (.region (Jqbx p) [])
@[simp] theorem Jebp {p : Nums} : EqI (Jqbp p) (.region (Jqbx p) []) := eqi
def Jqbq (p : Nums) : IC := (.seq (Jqbn p) (.seq (.seq (.region [⟨(some 55), (.mov (.t 5)), none, false⟩, ⟨(some 56), (.un .not (.t 55)), none, false⟩] []) (.cond (.t 56) (.seq (Jqbo p) .ret) .skip)) (Jqbp p)))
@[simp] theorem Jebq {p : Nums} : EqI (Jqbq p) (.seq (Jqbn p) (.seq (.seq (.region [⟨(some 55), (.mov (.t 5)), none, false⟩, ⟨(some 56), (.un .not (.t 55)), none, false⟩] []) (.cond (.t 56) (.seq (Jqbo p) .ret) .skip)) (Jqbp p))) := eqi
@[simp] def Jqby (p : Nums) : List IOp := [qo 70 (.mov (.t 0)), qo 71 (.nilck (.t 70)), qo 72 (.faddr 0 (.t 71)), qo 73 (.faddr 2 (.t 72)), qo 74 (.load none (.t 73)), qo 75 (.bin .add (.t 74) (ci 1)), qo 76 (.nilck (.t 70)), qo 77 (.faddr 0 (.t 76)), qo 78 (.faddr 2 (.t 77)), qn (.store 1 (.t 78) (.t 75))]
def Jqbr (p : Nums) : IC := (.region (Jqby p) [])
@[simp] theorem Jebr {p : Nums} : EqI (Jqbr p) (.region (Jqby p) []) := eqi
@[simp] def Jqbz (p : Nums) : List IOp := [qo 79 (.mov (.t 0)), qo 80 (.nilck (.t 79)), qo 81 (.faddr 0 (.t 80)), qo 82 (.faddr 7 (.t 81)), qo 83 (.load none (.t 82)), qo 84 (.bin .add (.t 83) (ci 1)), qo 85 (.nilck (.t 79)), qo 86 (.faddr 0 (.t 85)), qo 87 (.faddr 7 (.t 86)), qn (.store 1 (.t 87) (.t 84))]
def Jqbs (p : Nums) : IC := (.region (Jqbz p) [])
@[simp] theorem Jebs {p : Nums} : EqI (Jqbs p) (.region (Jqbz p) []) := eqi
def Jtcy (p : Nums) : IC := (.seq (.region [⟨(some 3), (.box (.t 1)), none, false⟩] []) (.seq (.seq (Jqbl p) (.cond (.t 8) (Jqbm p) (Jqbq p))) (.seq (Jqbr p) (Jqbs p))))
@[simp] def Jqch (p : Nums) : List IOp := [qo 4 (.mov (.t 0)), qo 5 (.nilck (.t 4)), qo 6 (.faddr 0 (.t 5)), qo 7 (.faddr 7 (.t 6)), qo 8 (.load none (.t 7)), qo 9 (.bin .add (.t 8) (ci 1)), qo 10 (.nilck (.t 4)), qo 11 (.faddr 0 (.t 10)), qo 12 (.faddr 7 (.t 11)), qn (.store 1 (.t 12) (.t 9))]
def Jqc8 (p : Nums) : IC := (.region (Jqch p) [])
@[simp] theorem Jec8 {p : Nums} : EqI (Jqc8 p) (.region (Jqch p) []) := eqi
@[simp] def Jqci (p : Nums) : List IOp := [qo 20 (.faddr 0 (.t 3)), qo 21 (.load none (.t 20)), qo 22 (.bin .eql (.t 21) (ci 3)), qo 19 (.asg (.t 22))]
def Jqc9 (p : Nums) : IC := (.region (Jqci p) [])
@[simp] theorem Jec9 {p : Nums} : EqI (Jqc9 p) (.region (Jqci p) []) := eqi
@[simp] def Jqcj (p : Nums) : List IOp := [qp 23 (.mov (.t 0)), qp 24 (.mov (.t 0)), qp 25 (.mov (.t 0)), qp 26 (.nilck (.t 25)), qp 27 (.faddr 0 (.t 26)), qp 28 (.faddr 4 (.t 27)), qp 29 (.load none (.t 28)), qp 30 (.faddr 1 (.t 3)), qp 31 (.load none (.t 30)), qp 32 (.iaddr 1 (.t 29) (.t 31)), qp 33 (.load none (.t 32)), qp 34 (.nilck (.t 23)), qp 35 (.faddr 0 (.t 34)), qp 36 (.faddr 0 (.t 35)), qm (.storeq 1 (.t 36) (ci 1) []), qo 37 (.nilck (.t 24)), qo 38 (.faddr 0 (.t 37)), qo 39 (.faddr 3 (.t 38)), qn (.store 1 (.t 39) (.t 33))]
def Jqca (p : Nums) : IC := (.region (Jqcj p) [])
@[simp] theorem Jeca {p : Nums} : EqI (Jqca p) (.region (Jqcj p) []) := eqi
@[simp] def Jqck (p : Nums) : List IOp := [qo 41 (.faddr 0 (.t 3)), qo 42 (.load none (.t 41)), qo 43 (.bin .eql (.t 42) (ci 2)), qo 44 (.mov (.t 43)), ⟨(some 45), (.mov (.t 0)), (some (44, true)), true⟩, ⟨(some 46), (.nilck (.t 45)), (some (44, true)), true⟩, ⟨(some 47), (.faddr 0 (.t 46)), (some (44, true)), true⟩, ⟨(some 48), (.faddr 4 (.t 47)), (some (44, true)), true⟩, ⟨(some 49), (.load none (.t 48)), (some (44, true)), true⟩, ⟨(some 50), (.faddr 1 (.t 3)), (some (44, true)), true⟩, ⟨(some 51), (.load none (.t 50)), (some (44, true)), true⟩, ⟨(some 52), (.iaddr 1 (.t 49) (.t 51)), (some (44, true)), false⟩, ⟨(some 53), (.load none (.t 52)), (some (44, true)), false⟩, ⟨(some 54), (.bin .eql (.t 53) (ci 0)), (some (44, true)), false⟩, qo 55 (.pick (.t 44) (.t 54) (.c (.d (.bool false)))), qo 40 (.asg (.t 55))]
def Jqcb (p : Nums) : IC := (.region (Jqck p) [])
@[simp] theorem Jecb {p : Nums} : EqI (Jqcb p) (.region (Jqck p) []) := eqi
@[simp] def Jqcl (p : Nums) : List IOp := [qo 56 (.mov (.t 0)), qo 57 (.faddr 3 (.t 3)), qo 58 (.load none (.t 57)), qo 59 (.nilck (.t 56)), qo 60 (.faddr 0 (.t 59)), qo 61 (.faddr 1 (.t 60)), qn (.store 1 (.t 61) (.t 58))]
def Jqcc (p : Nums) : IC := (.region (Jqcl p) [])
@[simp] theorem Jecc {p : Nums} : EqI (Jqcc p) (.region (Jqcl p) []) := eqi
@[simp] def Jqcm (p : Nums) : List IOp := [qo 13 (.mov (.t 0)), qo 14 (.faddr 2 (.t 3)), qo 15 (.load none (.t 14)), qo 16 (.nilck (.t 13)), qo 17 (.faddr 0 (.t 16)), qo 18 (.faddr 1 (.t 17)), qn (.store 1 (.t 18) (.t 15))]
def Jqcd (p : Nums) : IC := (.region (Jqcm p) [])
@[simp] theorem Jecd {p : Nums} : EqI (Jqcd p) (.region (Jqcm p) []) := eqi
def Jqce (p : Nums) : IC := (.seq (Jqcb p) (.cond (.t 40) (Jqcc p) (Jqcd p)))
@[simp] theorem Jece {p : Nums} : EqI (Jqce p) (.seq (Jqcb p) (.cond (.t 40) (Jqcc p) (Jqcd p))) := eqi
def Jqcf (p : Nums) : IC := (.seq (Jqc9 p) (.cond (.t 19) (.seq (Jqca p) .ret) (Jqce p)))
@[simp] theorem Jecf {p : Nums} : EqI (Jqcf p) (.seq (Jqc9 p) (.cond (.t 19) (.seq (Jqca p) .ret) (Jqce p))) := eqi
@[simp] def Jqcn (p : Nums) : List IOp := [qo 62 (.mov (.t 0)), qo 63 (.nilck (.t 62)), qo 64 (.faddr 0 (.t 63)), qo 65 (.faddr 2 (.t 64)), qn (.store 1 (.t 65) (ci 0))]
def Jqcg (p : Nums) : IC := (.region (Jqcn p) [])
@[simp] theorem Jecg {p : Nums} : EqI (Jqcg p) (.region (Jqcn p) []) := eqi
def Jtd0 (p : Nums) : IC := (.seq (.region [⟨(some 3), (.box (.t 1)), none, false⟩] []) (.seq (Jqc8 p) (.seq (.block 0 (Jqcf p)) (Jqcg p))))
@[simp] def Jqa4 (p : Nums) : List IOp := [qo 5 (.mov (.t 0)), qo 6 (.mkfn (.func p.execute_state_compute) [(.t 5)] []), qo 4 (.asg (.t 6))]
def Jq9v (p : Nums) : IC := (.region (Jqa4 p) [])
@[simp] theorem Je9v {p : Nums} : EqI (Jq9v p) (.region (Jqa4 p) []) := eqi
@[simp] def Jqa5 (p : Nums) : List IOp := [qo 11 (.mov (.t 0)), qo 12 (.mkfn (.func p.execute_state_move) [(.t 11)] []), qo 4 (.asg (.t 12))]
def Jq9w (p : Nums) : IC := (.region (Jqa5 p) [])
@[simp] theorem Je9w {p : Nums} : EqI (Jq9w p) (.region (Jqa5 p) []) := eqi
@[simp] def Jqa6 (p : Nums) : List IOp := [qo 15 (.mov (.t 0)), qo 16 (.mkfn (.func p.execute_state_emit) [(.t 15)] []), qo 4 (.asg (.t 16))]
def Jq9x (p : Nums) : IC := (.region (Jqa6 p) [])
@[simp] theorem Je9x {p : Nums} : EqI (Jq9x p) (.region (Jqa6 p) []) := eqi
def Jq9y (p : Nums) : IC := (.seq (.region [⟨(some 14), (.bin .eql (.t 8) (.c (.d (.int .i64 17)))), none, false⟩, ⟨(some 13), (.asg (.t 14)), none, false⟩] []) (.cond (.t 13) (Jq9x p) .skip))
@[simp] theorem Je9y {p : Nums} : EqI (Jq9y p) (.seq (.region [⟨(some 14), (.bin .eql (.t 8) (.c (.d (.int .i64 17)))), none, false⟩, ⟨(some 13), (.asg (.t 14)), none, false⟩] []) (.cond (.t 13) (Jq9x p) .skip)) := eqi
def Jq9z (p : Nums) : IC := (.seq (.region [⟨(some 10), (.bin .eql (.t 8) (.c (.d (.int .i64 18)))), none, false⟩, ⟨(some 9), (.asg (.t 10)), none, false⟩] []) (.cond (.t 9) (Jq9w p) (Jq9y p)))
@[simp] theorem Je9z {p : Nums} : EqI (Jq9z p) (.seq (.region [⟨(some 10), (.bin .eql (.t 8) (.c (.d (.int .i64 18)))), none, false⟩, ⟨(some 9), (.asg (.t 10)), none, false⟩] []) (.cond (.t 9) (Jq9w p) (Jq9y p))) := eqi
@[simp] def Jqa7 (p : Nums) : List IOp := [qo 17 (.mov (.t 4)), qo 18 (.load (some 7) (.t 3)), qo 19 (.callv (.t 17) [(.t 18)]), qo 20 (.un .not (.t 19))]
def Jqa0 (p : Nums) : IC := (.region (Jqa7 p) [])
@[simp] theorem Jea0 {p : Nums} : EqI (Jqa0 p) (.region (Jqa7 p) []) := eqi
@[simp] def Jqa8 (p : Nums) : List IOp := [qo 21 (.mov (.t 0)), qo 22 (.nilck (.t 21)), qo 23 (.faddr 0 (.t 22)), qo 24 (.faddr 0 (.t 23)), qn (.store 1 (.t 24) (ci 2))]
def Jqa1 (p : Nums) : IC := (.region (Jqa8 p) [])
@[simp] theorem Jea1 {p : Nums} : EqI (Jqa1 p) (.region (Jqa8 p) []) := eqi
@[simp] def Jqa9 (p : Nums) : List IOp := [qo 25 (.mov (.t 0)), qo 26 (.nilck (.t 25)), qo 27 (.faddr 0 (.t 26)), qo 28 (.faddr 2 (.t 27)), qo 29 (.load none (.t 28)), qo 30 (.bin .add (.t 29) (ci 1)), qo 31 (.nilck (.t 25)), qo 32 (.faddr 0 (.t 31)), qo 33 (.faddr 2 (.t 32)), qn (.store 1 (.t 33) (.t 30))]
def Jqa2 (p : Nums) : IC := (.region (Jqa9 p) [])
@[simp] theorem Jea2 {p : Nums} : EqI (Jqa2 p) (.region (Jqa9 p) []) := eqi
@[simp] def Jqaa (p : Nums) : List IOp := [qo 34 (.mov (.t 0)), qo 35 (.nilck (.t 34)), qo 36 (.faddr 0 (.t 35)), qo 37 (.faddr 7 (.t 36)), qo 38 (.load none (.t 37)), qo 39 (.bin .add (.t 38) (ci 1)), qo 40 (.nilck (.t 34)), qo 41 (.faddr 0 (.t 40)), qo 42 (.faddr 7 (.t 41)), qn (.store 1 (.t 42) (.t 39))]
def Jqa3 (p : Nums) : IC := (.region (Jqaa p) [])
@[simp] theorem Jea3 {p : Nums} : EqI (Jqa3 p) (.region (Jqaa p) []) := eqi
def Jtcs (p : Nums) : IC := (.seq (.region [⟨(some 3), (.box (.t 1)), none, false⟩] []) (.seq (Jq9v p) (.seq (.seq (.region [⟨(some 7), (.faddr 0 (.t 3)), none, false⟩, ⟨(some 8), (.load none (.t 7)), none, false⟩] []) (.block 0 (Jq9z p))) (.seq (.seq (Jqa0 p) (.cond (.t 20) (.seq (Jqa1 p) .ret) .skip)) (.seq (Jqa2 p) (Jqa3 p))))))
@[simp] def Jqat (p : Nums) : List IOp := [qo 4 (.mov (.t 0)), qo 5 (.nilck (.t 4)), qo 6 (.faddr 0 (.t 5)), qo 7 (.faddr 7 (.t 6)), qo 8 (.load none (.t 7)), qo 9 (.bin .add (.t 8) (ci 1)), qo 10 (.nilck (.t 4)), qo 11 (.faddr 0 (.t 10)), qo 12 (.faddr 7 (.t 11)), qn (.store 1 (.t 12) (.t 9))]
def Jqaj (p : Nums) : IC := (.region (Jqat p) [])
@[simp] theorem Jeaj {p : Nums} : EqI (Jqaj p) (.region (Jqat p) []) := eqi
@[simp] def Jqav (p : Nums) : List IOp := [qp 39 (.mov (.t 0)), qp 40 (.mov (.t 0)), qp 41 (.mov (.t 0)), qp 42 (.nilck (.t 41)), qp 43 (.faddr 0 (.t 42)), qp 44 (.faddr 4 (.t 43)), qp 45 (.load none (.t 44)), qp 46 (.faddr 1 (.t 3)), qp 47 (.load none (.t 46)), qp 48 (.iaddr 1 (.t 45) (.t 47)), qp 49 (.load none (.t 48)), qp 50 (.nilck (.t 39)), qp 51 (.faddr 0 (.t 50)), qp 52 (.faddr 0 (.t 51)), qm (.storeq 1 (.t 52) (ci 1) []), qo 53 (.nilck (.t 40)), qo 54 (.faddr 0 (.t 53)), qo 55 (.faddr 3 (.t 54)), qn (.store 1 (.t 55) (.t 49))]
def Jqal (p : Nums) : IC := (.region (Jqav p) [])
@[simp] theorem Jeal {p : Nums} : EqI (Jqal p) (.region (Jqav p) []) := eqi
@[simp] def Jqaw (p : Nums) : List IOp := [qo 58 (.mov (.t 0)), qo 59 (.faddr 2 (.t 3)), qo 60 (.load none (.t 59)), qo 61 (.nilck (.t 58)), qo 62 (.faddr 0 (.t 61)), qo 63 (.faddr 1 (.t 62)), qn (.store 1 (.t 63) (.t 60))]
def Jqam (p : Nums) : IC := (.region (Jqaw p) [])
@[simp] theorem Jeam {p : Nums} : EqI (Jqam p) (.region (Jqaw p) []) := eqi
@[simp] def Jqax (p : Nums) : List IOp := [qo 15 (.mov (.t 0)), qo 16 (.faddr 3 (.t 3)), qo 17 (.load none (.t 16)), qo 18 (.nilck (.t 15)), qo 19 (.faddr 0 (.t 18)), qo 20 (.faddr 1 (.t 19)), qn (.store 1 (.t 20) (.t 17))]
def Jqan (p : Nums) : IC := (.region (Jqax p) [])
@[simp] theorem Jean {p : Nums} : EqI (Jqan p) (.region (Jqax p) []) := eqi
@[simp] def Jqay (p : Nums) : List IOp := [qp 21 (.mov (.t 0)), qp 22 (.nilck (.t 21)), qp 23 (.faddr 0 (.t 22)), qp 24 (.faddr 4 (.t 23)), qp 25 (.load none (.t 24)), qp 26 (.faddr 1 (.t 3)), qp 27 (.load none (.t 26)), qo 28 (.iaddr 1 (.t 25) (.t 27)), qo 29 (.load none (.t 28)), qo 30 (.bin .neq (.t 29) (ci 0))]
def Jqao (p : Nums) : IC := (.region (Jqay p) [])
@[simp] theorem Jeao {p : Nums} : EqI (Jqao p) (.region (Jqay p) []) := eqi
@[simp] def Jqaz (p : Nums) : List IOp := [qo 31 (.mov (.t 0)), qo 32 (.faddr 2 (.t 3)), qo 33 (.load none (.t 32)), qo 34 (.nilck (.t 31)), qo 35 (.faddr 0 (.t 34)), qo 36 (.faddr 1 (.t 35)), qn (.store 1 (.t 36) (.t 33))]
def Jqap (p : Nums) : IC := (.region (Jqaz p) [])
@[simp] theorem Jeap {p : Nums} : EqI (Jqap p) (.region (Jqaz p) []) := eqi
def Jqaq (p : Nums) : IC := (.seq (Jqan p) (.seq (Jqao p) (.cond (.t 30) (Jqap p) .skip)))
@[simp] theorem Jeaq {p : Nums} : EqI (Jqaq p) (.seq (Jqan p) (.seq (Jqao p) (.cond (.t 30) (Jqap p) .skip))) := eqi
def Jqar (p : Nums) : IC := (.seq (.region [⟨(some 57), (.bin .eql (.t 14) (.c (.d (.int .i64 1)))), none, false⟩, ⟨(some 56), (.asg (.t 57)), none, false⟩] []) (.cond (.t 56) (Jqam p) (Jqaq p)))
@[simp] theorem Jear {p : Nums} : EqI (Jqar p) (.seq (.region [⟨(some 57), (.bin .eql (.t 14) (.c (.d (.int .i64 1)))), none, false⟩, ⟨(some 56), (.asg (.t 57)), none, false⟩] []) (.cond (.t 56) (Jqam p) (Jqaq p))) := eqi
def Jqas (p : Nums) : IC := (.seq (.region [⟨(some 38), (.bin .eql (.t 14) (.c (.d (.int .i64 3)))), none, false⟩, ⟨(some 37), (.asg (.t 38)), none, false⟩] []) (.cond (.t 37) (.seq (Jqal p) .ret) (Jqar p)))
@[simp] theorem Jeas {p : Nums} : EqI (Jqas p) (.seq (.region [⟨(some 38), (.bin .eql (.t 14) (.c (.d (.int .i64 3)))), none, false⟩, ⟨(some 37), (.asg (.t 38)), none, false⟩] []) (.cond (.t 37) (.seq (Jqal p) .ret) (Jqar p))) := eqi
@[simp] def Jqau (p : Nums) : List IOp := [qo 64 (.mov (.t 0)), qo 65 (.nilck (.t 64)), qo 66 (.faddr 0 (.t 65)), qo 67 (.faddr 2 (.t 66)), qn (.store 1 (.t 67) (ci 0))]
def Jqak (p : Nums) : IC := (.region (Jqau p) [])
@[simp] theorem Jeak {p : Nums} : EqI (Jqak p) (.region (Jqau p) []) := eqi
def Jtcv (p : Nums) : IC := (.seq (.region [⟨(some 3), (.box (.t 1)), none, false⟩] []) (.seq (Jqaj p) (.seq (.seq (.region [⟨(some 13), (.faddr 0 (.t 3)), none, false⟩, ⟨(some 14), (.load none (.t 13)), none, false⟩] []) (.block 0 (Jqas p))) (Jqak p))))
@[simp] def Jqgv (p : Nums) : List IOp := [qo 2 (.alloc [(.d (.bool false)), (.d (.bool false)), (.d (.bool false)), (.d (.bool false))]), qo 3 (.asg (.c (.d (.bool false))))]
def Jqgh (p : Nums) : IC := (.region (Jqgv p) [])
@[simp] theorem Jegh {p : Nums} : EqI (Jqgh p) (.region (Jqgv p) []) := eqi
@[simp] def Jqgx (p : Nums) : List IOp := [qo 5 (.mov (.t 0)), qo 6 (.call p.opcode_known [(.t 5)]), qo 7 (.un .not (.t 6)), qo 4 (.asg (.t 7))]
def Jqgn (p : Nums) : IC := (.region (Jqgx p) [])
@[simp] theorem Jegn {p : Nums} : EqI (Jqgn p) (.region (Jqgx p) []) := eqi
@[simp] def Jqgy (p : Nums) : List IOp := [qo 8 (.build [(.d (.bool false)), (.d (.bool false)), (.d (.bool false)), (.d (.bool false))] []), qn (.store 4 (.t 2) (.t 8)), qo 3 (.asg (.c (.d (.bool false))))]
def Jqgo (p : Nums) : IC := (.region (Jqgy p) [])
@[simp] theorem Jego {p : Nums} : EqI (Jqgo p) (.region (Jqgy p) []) := eqi
@[simp] def Jqgz (p : Nums) : List IOp := [qo 10 (.mov (.t 0)), qo 11 (.bin .eql (.t 10) (ci 1)), qo 9 (.asg (.t 11))]
def Jqgp (p : Nums) : IC := (.region (Jqgz p) [])
@[simp] theorem Jegp {p : Nums} : EqI (Jqgp p) (.region (Jqgz p) []) := eqi
@[simp] def Jqh0 (p : Nums) : List IOp := [qo 12 (.build [(.d (.bool false)), (.d (.bool false)), (.d (.bool false)), (.d (.bool false))] [(0, 1, (.c (.d (.bool true)))), (3, 1, (.c (.d (.bool true))))]), qn (.store 4 (.t 2) (.t 12)), qo 3 (.asg (.c (.d (.bool true))))]
def Jqgq (p : Nums) : IC := (.region (Jqh0 p) [])
@[simp] theorem Jegq {p : Nums} : EqI (Jqgq p) (.region (Jqh0 p) []) := eqi
@[simp] def Jqh1 (p : Nums) : List IOp := [qo 14 (.mov (.t 0)), qo 15 (.bin .leq (.t 14) (ci 4)), qo 13 (.asg (.t 15))]
def Jqgr (p : Nums) : IC := (.region (Jqh1 p) [])
@[simp] theorem Jegr {p : Nums} : EqI (Jqgr p) (.region (Jqh1 p) []) := eqi
@[simp] def Jqh2 (p : Nums) : List IOp := [qo 16 (.build [(.d (.bool false)), (.d (.bool false)), (.d (.bool false)), (.d (.bool false))] [(0, 1, (.c (.d (.bool true)))), (1, 1, (.c (.d (.bool true))))]), qn (.store 4 (.t 2) (.t 16)), qo 3 (.asg (.c (.d (.bool true))))]
def Jqgs (p : Nums) : IC := (.region (Jqh2 p) [])
@[simp] theorem Jegs {p : Nums} : EqI (Jqgs p) (.region (Jqh2 p) []) := eqi
@[simp] def Jqh3 (p : Nums) : List IOp := [qo 18 (.mov (.t 0)), qo 19 (.bin .leq (.t 18) (ci 16)), qo 17 (.asg (.t 19))]
def Jqgt (p : Nums) : IC := (.region (Jqh3 p) [])
@[simp] theorem Jegt {p : Nums} : EqI (Jqgt p) (.region (Jqh3 p) []) := eqi
@[simp] def Jqh4 (p : Nums) : List IOp := [qo 20 (.build [(.d (.bool false)), (.d (.bool false)), (.d (.bool false)), (.d (.bool false))] [(0, 1, (.c (.d (.bool true)))), (1, 1, (.c (.d (.bool true)))), (2, 1, (.c (.d (.bool true))))]), qn (.store 4 (.t 2) (.t 20)), qo 3 (.asg (.c (.d (.bool true))))]
def Jqgu (p : Nums) : IC := (.region (Jqh4 p) [])
@[simp] theorem Jegu {p : Nums} : EqI (Jqgu p) (.region (Jqh4 p) []) := eqi
def Jqgi (p : Nums) : IC := (.seq (Jqgt p) (.cond (.t 17) (.seq (Jqgu p) .ret) .skip))
@[simp] theorem Jegi {p : Nums} : EqI (Jqgi p) (.seq (Jqgt p) (.cond (.t 17) (.seq (Jqgu p) .ret) .skip)) := eqi
def Jqgj (p : Nums) : IC := (.seq (Jqgr p) (.cond (.t 13) (.seq (Jqgs p) .ret) (Jqgi p)))
@[simp] theorem Jegj {p : Nums} : EqI (Jqgj p) (.seq (Jqgr p) (.cond (.t 13) (.seq (Jqgs p) .ret) (Jqgi p))) := eqi
def Jqgk (p : Nums) : IC := (.seq (Jqgp p) (.cond (.t 9) (.seq (Jqgq p) .ret) (Jqgj p)))
@[simp] theorem Jegk {p : Nums} : EqI (Jqgk p) (.seq (Jqgp p) (.cond (.t 9) (.seq (Jqgq p) .ret) (Jqgj p))) := eqi
def Jqgl (p : Nums) : IC := (.seq (Jqgn p) (.cond (.t 4) (.seq (Jqgo p) .ret) (Jqgk p)))
@[simp] theorem Jegl {p : Nums} : EqI (Jqgl p) (.seq (Jqgn p) (.cond (.t 4) (.seq (Jqgo p) .ret) (Jqgk p))) := eqi
@[simp] def Jqgw (p : Nums) : List IOp := [qo 21 (.mov (.t 0)), qo 22 (.bin .eql (.t 21) (ci 17)), qo 23 (.build [(.d (.bool false)), (.d (.bool false)), (.d (.bool false)), (.d (.bool false))] [(1, 1, (.t 22))]), qn (.store 4 (.t 2) (.t 23)), qo 3 (.asg (.c (.d (.bool true))))]
def Jqgm (p : Nums) : IC := (.region (Jqgw p) [])
@[simp] theorem Jegm {p : Nums} : EqI (Jqgm p) (.region (Jqgw p) []) := eqi
def Jtdk (p : Nums) : IC := (.seq (Jqgh p) (.seq (.block 0 (Jqgl p)) (.seq (Jqgm p) .ret)))
@[simp] def Jqdy (p : Nums) : List IOp := [qo 3 (.mov (.t 0)), qo 4 (.bin .mul (ci 2) (.t 3)), qo 2 (.asg (.t 4))]
def Jqdx (p : Nums) : IC := (.region (Jqdy p) [])
@[simp] theorem Jedx {p : Nums} : EqI (Jqdx p) (.region (Jqdy p) []) := eqi
def Jtd7 (p : Nums) : IC := (.seq (.region [⟨(some 2), (.asg (.c (.d (.int .i64 0)))), none, false⟩] []) (.seq (Jqdx p) .ret))
@[simp] def Jqh6 (p : Nums) : List IOp := [qo 3 (.mov (.t 0)), qo 4 (.call p.opcode_known [(.t 3)]), qo 5 (.mov (.t 4)), ⟨(some 6), (.mov (.t 0)), (some (5, true)), false⟩, ⟨(some 7), (.bin .neq (.t 6) (ci 18)), (some (5, true)), false⟩, qo 8 (.pick (.t 5) (.t 7) (.c (.d (.bool false)))), qo 2 (.asg (.t 8))]
def Jqh5 (p : Nums) : IC := (.region (Jqh6 p) [])
@[simp] theorem Jeh5 {p : Nums} : EqI (Jqh5 p) (.region (Jqh6 p) []) := eqi
def Jtdl (p : Nums) : IC := (.seq (.region [⟨(some 2), (.asg (.c (.d (.bool false)))), none, false⟩] []) (.seq (Jqh5 p) .ret))
@[simp] def Jqps (p : Nums) : List IOp := [qo 5 (.mov (.t 0)), qo 6 (.len (.t 5)), qo 7 (.mov (ci 0))]
def Jqpm (p : Nums) : IC := (.region (Jqps p) [])
@[simp] theorem Jepm {p : Nums} : EqI (Jqpm p) (.region (Jqps p) []) := eqi
@[simp] def Jqpt (p : Nums) : List IOp := [qo 9 (.iaddr 3 (.t 5) (.t 7)), qo 10 (.load (some 3) (.t 9)), qo 4 (.alloc [(zi 0), (.d (.bool false)), (zi 0)]), qn (.store 3 (.t 4) (.t 10))]
def Jqpn (p : Nums) : IC := (.region (Jqpt p) [])
@[simp] theorem Jepn {p : Nums} : EqI (Jqpn p) (.region (Jqpt p) []) := eqi
@[simp] def Jqpu (p : Nums) : List IOp := [qo 11 (.faddr 1 (.t 4)), qo 12 (.load none (.t 11)), qo 13 (.mov (.t 12)), ⟨(some 14), (.faddr 0 (.t 4)), (some (13, true)), false⟩, ⟨(some 15), (.load none (.t 14)), (some (13, true)), false⟩, ⟨(some 16), (.bin .lss (.t 15) (ci 0)), (some (13, true)), false⟩, ⟨(some 17), (.mov (.t 16)), (some (13, true)), false⟩, ⟨(some 18), (.faddr 0 (.t 4)), (some (17, false)), false⟩, ⟨(some 19), (.load none (.t 18)), (some (17, false)), false⟩, ⟨(some 20), (.faddr 2 (.t 4)), (some (17, false)), false⟩, ⟨(some 21), (.load none (.t 20)), (some (17, false)), false⟩, ⟨(some 22), (.bin .geq (.t 19) (.t 21)), (some (17, false)), false⟩, ⟨(some 23), (.pick (.t 17) (.c (.d (.bool true))) (.t 22)), (some (13, true)), false⟩, qo 24 (.pick (.t 13) (.t 23) (.c (.d (.bool false))))]
def Jqpo (p : Nums) : IC := (.region (Jqpu p) [])
@[simp] theorem Jepo {p : Nums} : EqI (Jqpo p) (.region (Jqpu p) []) := eqi
def Jqpp (p : Nums) : IC := (.seq (.region [⟨(some 2), (.asg (.c (.d (.bool false)))), none, false⟩] []) .ret)
@[simp] theorem Jepp {p : Nums} : EqI (Jqpp p) (.seq (.region [⟨(some 2), (.asg (.c (.d (.bool false)))), none, false⟩] []) .ret) := eqi
def Jqpq (p : Nums) : IC := (.seq (Jqpn p) (.seq (Jqpo p) (.cond (.t 24) (Jqpp p) .skip)))
@[simp] theorem Jepq {p : Nums} : EqI (Jqpq p) (.seq (Jqpn p) (.seq (Jqpo p) (.cond (.t 24) (Jqpp p) .skip))) := eqi
def Jqpr (p : Nums) : IC := (.seq (.region [⟨(some 8), (.bin .lss (.t 7) (.t 6)), none, false⟩] []) (.seq (.cond (.t 8) .skip (.exit 0)) (.seq (.block 1 (Jqpq p)) (.region [⟨(some 25), (.bin .add (.t 7) (.c (.d (.int .i64 1)))), none, false⟩, ⟨(some 7), (.mov (.t 25)), none, false⟩] []))))
@[simp] theorem Jepr {p : Nums} : EqI (Jqpr p) (.seq (.region [⟨(some 8), (.bin .lss (.t 7) (.t 6)), none, false⟩] []) (.seq (.cond (.t 8) .skip (.exit 0)) (.seq (.block 1 (Jqpq p)) (.region [⟨(some 25), (.bin .add (.t 7) (.c (.d (.int .i64 1)))), none, false⟩, ⟨(some 7), (.mov (.t 25)), none, false⟩] [])))) := eqi
def Jteg (p : Nums) : IC := (.seq (.region [⟨(some 2), (.asg (.c (.d (.bool false)))), none, false⟩] []) (.seq (.seq (Jqpm p) (.block 0 (.loop (Jqpr p)))) (.seq (.region [⟨(some 2), (.asg (.c (.d (.bool true)))), none, false⟩] []) .ret)))
@[simp] def Jqp8 (p : Nums) : List IOp := [qo 5 (.mov (.t 0)), qo 6 (.len (.t 5)), qo 7 (.mov (ci 0))]
def Jqp2 (p : Nums) : IC := (.region (Jqp8 p) [])
@[simp] theorem Jep2 {p : Nums} : EqI (Jqp2 p) (.region (Jqp8 p) []) := eqi
@[simp] def Jqp9 (p : Nums) : List IOp := [qo 9 (.iaddr 3 (.t 5) (.t 7)), qo 10 (.load (some 3) (.t 9)), qo 4 (.alloc [(zi 0), (.d (.bool false)), (zi 0)]), qn (.store 3 (.t 4) (.t 10))]
def Jqp3 (p : Nums) : IC := (.region (Jqp9 p) [])
@[simp] theorem Jep3 {p : Nums} : EqI (Jqp3 p) (.region (Jqp9 p) []) := eqi
@[simp] def Jqpa (p : Nums) : List IOp := [qo 11 (.faddr 1 (.t 4)), qo 12 (.load none (.t 11)), qo 13 (.un .not (.t 12)), qo 14 (.mov (.t 13)), ⟨(some 15), (.faddr 0 (.t 4)), (some (14, true)), false⟩, ⟨(some 16), (.load none (.t 15)), (some (14, true)), false⟩, ⟨(some 17), (.bin .neq (.t 16) (ci 0)), (some (14, true)), false⟩, qo 18 (.pick (.t 14) (.t 17) (.c (.d (.bool false))))]
def Jqp4 (p : Nums) : IC := (.region (Jqpa p) [])
@[simp] theorem Jep4 {p : Nums} : EqI (Jqp4 p) (.region (Jqpa p) []) := eqi
def Jqp5 (p : Nums) : IC := (.seq (.region [⟨(some 2), (.asg (.c (.d (.bool false)))), none, false⟩] []) .ret)
@[simp] theorem Jep5 {p : Nums} : EqI (Jqp5 p) (.seq (.region [⟨(some 2), (.asg (.c (.d (.bool false)))), none, false⟩] []) .ret) := eqi
def Jqp6 (p : Nums) : IC := (.seq (Jqp3 p) (.seq (Jqp4 p) (.cond (.t 18) (Jqp5 p) .skip)))
@[simp] theorem Jep6 {p : Nums} : EqI (Jqp6 p) (.seq (Jqp3 p) (.seq (Jqp4 p) (.cond (.t 18) (Jqp5 p) .skip))) := eqi
def Jqp7 (p : Nums) : IC := (.seq (.region [⟨(some 8), (.bin .lss (.t 7) (.t 6)), none, false⟩] []) (.seq (.cond (.t 8) .skip (.exit 0)) (.seq (.block 1 (Jqp6 p)) (.region [⟨(some 19), (.bin .add (.t 7) (.c (.d (.int .i64 1)))), none, false⟩, ⟨(some 7), (.mov (.t 19)), none, false⟩] []))))
@[simp] theorem Jep7 {p : Nums} : EqI (Jqp7 p) (.seq (.region [⟨(some 8), (.bin .lss (.t 7) (.t 6)), none, false⟩] []) (.seq (.cond (.t 8) .skip (.exit 0)) (.seq (.block 1 (Jqp6 p)) (.region [⟨(some 19), (.bin .add (.t 7) (.c (.d (.int .i64 1)))), none, false⟩, ⟨(some 7), (.mov (.t 19)), none, false⟩] [])))) := eqi
def Jtee (p : Nums) : IC := (.seq (.region [⟨(some 2), (.asg (.c (.d (.bool false)))), none, false⟩] []) (.seq (.seq (Jqp2 p) (.block 0 (.loop (Jqp7 p)))) (.seq (.region [⟨(some 2), (.asg (.c (.d (.bool true)))), none, false⟩] []) .ret)))
@[simp] def Jqgg (p : Nums) : List IOp := [qo 3 (.mov (.t 0)), qo 4 (.call p.opcode_known [(.t 3)]), qo 5 (.mov (.t 4)), ⟨(some 6), (.mov (.t 0)), (some (5, true)), false⟩, ⟨(some 7), (.bin .neq (.t 6) (ci 2)), (some (5, true)), false⟩, qo 8 (.pick (.t 5) (.t 7) (.c (.d (.bool false)))), qo 2 (.asg (.t 8))]
def Jqgf (p : Nums) : IC := (.region (Jqgg p) [])
@[simp] theorem Jegf {p : Nums} : EqI (Jqgf p) (.region (Jqgg p) []) := eqi
def Jtdj (p : Nums) : IC := (.seq (.region [⟨(some 2), (.asg (.c (.d (.bool false)))), none, false⟩] []) (.seq (Jqgf p) .ret))
@[simp] def Jqge (p : Nums) : List IOp := [qo 1 (.build [.nilfn, .nilfn] [(0, 1, (.c (.fn (.func p.machine_others_1) [] []))), (1, 1, (.c (.fn (.func p.machine_others_2) [] [])))]), qn (.store 2 (.t 0) (.t 1))]
def Jqgd (p : Nums) : IC := (.region (Jqge p) [])
@[simp] theorem Jegd {p : Nums} : EqI (Jqgd p) (.region (Jqge p) []) := eqi
def Jtdg (p : Nums) : IC := (.seq (.region [⟨(some 0), (.alloc [.nilfn, .nilfn]), none, false⟩] []) (.seq (Jqgd p) .ret))
@[simp] def Jqg8 (p : Nums) : List IOp := [qo 1 (.build [.nilfn, .nilfn] [(0, 1, (.c (.fn (.func p.machine_moves_1) [] []))), (1, 1, (.c (.fn (.func p.machine_moves_2) [] [])))]), qn (.store 2 (.t 0) (.t 1))]
def Jqg7 (p : Nums) : IC := (.region (Jqg8 p) [])
@[simp] theorem Jeg7 {p : Nums} : EqI (Jqg7 p) (.region (Jqg8 p) []) := eqi
def Jtdd (p : Nums) : IC := (.seq (.region [⟨(some 0), (.alloc [.nilfn, .nilfn]), none, false⟩] []) (.seq (Jqg7 p) .ret))
@[simp] def Jqdw (p : Nums) : List IOp := [qo 3 (.mov (.t 0)), qo 4 (.bin .rem (.t 3) (ci 2)), qo 5 (.bin .eql (.t 4) (ci 1)), qo 2 (.asg (.t 5))]
def Jqdv (p : Nums) : IC := (.region (Jqdw p) [])
@[simp] theorem Jedv {p : Nums} : EqI (Jqdv p) (.region (Jqdw p) []) := eqi
def Jtd6 (p : Nums) : IC := (.seq (.region [⟨(some 2), (.asg (.c (.d (.bool false)))), none, false⟩] []) (.seq (Jqdv p) .ret))
@[simp] def Jqdu (p : Nums) : List IOp := [qo 3 (.mov (.t 0)), qo 4 (.bin .quo (.t 3) (ci 2)), qo 2 (.asg (.t 4))]
def Jqdt (p : Nums) : IC := (.region (Jqdu p) [])
@[simp] theorem Jedt {p : Nums} : EqI (Jqdt p) (.region (Jqdu p) []) := eqi
def Jtd5 (p : Nums) : IC := (.seq (.region [⟨(some 2), (.asg (.c (.d (.int .i64 0)))), none, false⟩] []) (.seq (Jqdt p) .ret))
@[simp] def Jq3i (p : Nums) : List IOp := [qp 2 (.mov (.t 0)), qp 3 (.nilck (.t 2)), qp 4 (.faddr 2 (.t 3)), qp 5 (.load none (.t 4)), qp 6 (.mov (.t 0)), qp 7 (.nilck (.t 6)), qp 8 (.faddr 0 (.t 7)), qp 9 (.load none (.t 8)), qp 10 (.len (.t 9)), qp 11 (.bin .add (ci 1) (.t 10)), qo 12 (.bin .add (.t 5) (.t 11)), qo 13 (.nilck (.t 2)), qo 14 (.faddr 2 (.t 13)), qn (.store 1 (.t 14) (.t 12))]
def Jq3h (p : Nums) : IC := (.region (Jq3i p) [])
@[simp] theorem Je3h {p : Nums} : EqI (Jq3h p) (.region (Jq3i p) []) := eqi
def Jtc6 (p : Nums) : IC := (Jq3h p)
@[simp] def Jq3e (p : Nums) : List IOp := [qo 6 (.mov (.t 0)), qo 7 (.mov (.t 0)), qo 8 (.mov (.t 1)), qo 9 (.mov (.t 0)), qo 10 (.nilck (.t 9)), qo 11 (.faddr 3 (.t 10)), qo 12 (.load none (.t 11)), qo 13 (.mov (.t 1)), qo 14 (.len (.t 13)), qo 15 (.mx (.t 12) (.t 14)), qo 16 (.nilck (.t 6)), qo 17 (.faddr 0 (.t 16)), qn (.store 1 (.t 17) (.t 8)), qo 18 (.nilck (.t 7)), qo 19 (.faddr 3 (.t 18)), qn (.store 1 (.t 19) (.t 15))]
def Jq3b (p : Nums) : IC := (.region (Jq3e p) [])
@[simp] theorem Je3b {p : Nums} : EqI (Jq3b p) (.region (Jq3e p) []) := eqi
@[simp] def Jq3f (p : Nums) : List IOp := [qo 20 (.mov (.t 1)), qo 21 (.len (.t 20)), qo 22 (.mov (.t 0)), qo 23 (.nilck (.t 22)), qo 24 (.faddr 1 (.t 23)), qo 25 (.load none (.t 24)), qo 26 (.bin .gtr (.t 21) (.t 25))]
def Jq3c (p : Nums) : IC := (.region (Jq3f p) [])
@[simp] theorem Je3c {p : Nums} : EqI (Jq3c p) (.region (Jq3f p) []) := eqi
@[simp] def Jq3g (p : Nums) : List IOp := [qo 27 (.mov (.t 2)), qo 28 (.build [(zi 0), (zi 0)] [(0, 1, (ci 24)), (1, 1, (.t 27))]), qo 29 (.mkif p.ty_bcfail (.t 28)), qn (.pan (.t 29))]
def Jq3d (p : Nums) : IC := (.region (Jq3g p) [])
@[simp] theorem Je3d {p : Nums} : EqI (Jq3d p) (.region (Jq3g p) []) := eqi
def Jtc5 (p : Nums) : IC := (.seq (Jq3b p) (.seq (Jq3c p) (.cond (.t 26) (Jq3d p) .skip)))
@[simp] def Jqpy (p : Nums) : List IOp := [qo 7 (.load none (.t 4)), qo 8 (.load none (.t 5)), qo 9 (.bin .eql (.t 7) (.t 8))]
def Jqpv (p : Nums) : IC := (.region (Jqpy p) [])
@[simp] theorem Jepv {p : Nums} : EqI (Jqpv p) (.region (Jqpy p) []) := eqi
@[simp] def Jqpz (p : Nums) : List IOp := [qo 10 (.mov (.t 0)), qo 11 (.call p.pairset_Make [(.t 10)]), qo 6 (.asg (.t 11))]
def Jqpw (p : Nums) : IC := (.region (Jqpz p) [])
@[simp] theorem Jepw {p : Nums} : EqI (Jqpw p) (.region (Jqpz p) []) := eqi
@[simp] def Jqq0 (p : Nums) : List IOp := [qo 12 (.mov (.t 0)), qo 13 (.load none (.t 4)), qo 14 (.call p.pairset_DropV [(.t 12), (.t 13)]), qo 15 (.mov (.t 0)), qo 16 (.mkfn (.func p.transfer_Copy_1) [] [(.t 4), (.t 5)]), qo 17 (.call p.transfer_rename [(.t 14), (.t 15), (.t 16)]), qo 6 (.asg (.t 17))]
def Jqpx (p : Nums) : IC := (.region (Jqq0 p) [])
@[simp] theorem Jepx {p : Nums} : EqI (Jqpx p) (.region (Jqq0 p) []) := eqi
def Jteh (p : Nums) : IC := (.seq (.region [⟨(some 4), (.box (.t 1)), none, false⟩, ⟨(some 5), (.box (.t 2)), none, false⟩, ⟨(some 6), (.asg (.c .nils)), none, false⟩] []) (.seq (.seq (Jqpv p) (.cond (.t 9) (.seq (Jqpw p) .ret) .skip)) (.seq (Jqpx p) .ret)))
@[simp] def Jqq8 (p : Nums) : List IOp := [qo 7 (.load none (.t 4)), qo 8 (.load none (.t 5)), qo 9 (.bin .eql (.t 7) (.t 8))]
def Jqq5 (p : Nums) : IC := (.region (Jqq8 p) [])
@[simp] theorem Jeq5 {p : Nums} : EqI (Jqq5 p) (.region (Jqq8 p) []) := eqi
@[simp] def Jqq9 (p : Nums) : List IOp := [qo 10 (.mov (.t 0)), qo 11 (.call p.pairset_Make [(.t 10)]), qo 6 (.asg (.t 11))]
def Jqq6 (p : Nums) : IC := (.region (Jqq9 p) [])
@[simp] theorem Jeq6 {p : Nums} : EqI (Jqq6 p) (.region (Jqq9 p) []) := eqi
@[simp] def Jqqa (p : Nums) : List IOp := [qo 12 (.mov (.t 0)), qo 13 (.load none (.t 4)), qo 14 (.call p.pairset_DropL [(.t 12), (.t 13)]), qo 15 (.mov (.t 0)), qo 16 (.mkfn (.func p.transfer_Move_1) [] [(.t 4), (.t 5)]), qo 17 (.call p.transfer_rename [(.t 14), (.t 15), (.t 16)]), qo 6 (.asg (.t 17))]
def Jqq7 (p : Nums) : IC := (.region (Jqqa p) [])
@[simp] theorem Jeq7 {p : Nums} : EqI (Jqq7 p) (.region (Jqqa p) []) := eqi
def Jtej (p : Nums) : IC := (.seq (.region [⟨(some 4), (.box (.t 1)), none, false⟩, ⟨(some 5), (.box (.t 2)), none, false⟩, ⟨(some 6), (.asg (.c .nils)), none, false⟩] []) (.seq (.seq (Jqq5 p) (.cond (.t 9) (.seq (Jqq6 p) .ret) .skip)) (.seq (Jqq7 p) .ret)))
@[simp] def Jq3o (p : Nums) : List IOp := [qo 11 (.faddr 0 (.t 5)), qo 12 (.load none (.t 11)), qo 13 (.call p.opcode_Of [(.t 12)]), qo 10 (.mov (.t 13)), qo 14 (.ext (.t 10) 0), qo 15 (.ext (.t 10) 1), qo 8 (.alloc [(.d (.bool false)), (.d (.bool false)), (.d (.bool false)), (.d (.bool false))]), qn (.store 4 (.t 8) (.t 14)), qo 9 (.asg (.t 15))]
def Jq3j (p : Nums) : IC := (.region (Jq3o p) [])
@[simp] theorem Je3j {p : Nums} : EqI (Jq3j p) (.region (Jq3o p) []) := eqi
@[simp] def Jq3p (p : Nums) : List IOp := [qo 18 (.mov (.t 0)), qo 19 (.faddr 2 (.t 5)), qo 20 (.load none (.t 19)), qo 21 (.faddr 2 (.t 6)), qo 22 (.load none (.t 21)), qo 23 (.mov (.t 3)), qo 24 (.call p.blockcheck_checker_use [(.t 18), (.t 20), (.t 22), (.t 23)])]
def Jq3k (p : Nums) : IC := (.region (Jq3p p) [])
@[simp] theorem Je3k {p : Nums} : EqI (Jq3k p) (.region (Jq3p p) []) := eqi
@[simp] def Jq3q (p : Nums) : List IOp := [qo 27 (.mov (.t 0)), qo 28 (.faddr 3 (.t 5)), qo 29 (.load none (.t 28)), qo 30 (.faddr 3 (.t 6)), qo 31 (.load none (.t 30)), qo 32 (.mov (.t 3)), qo 33 (.call p.blockcheck_checker_use [(.t 27), (.t 29), (.t 31), (.t 32)])]
def Jq3l (p : Nums) : IC := (.region (Jq3q p) [])
@[simp] theorem Je3l {p : Nums} : EqI (Jq3l p) (.region (Jq3q p) []) := eqi
@[simp] def Jq3r (p : Nums) : List IOp := [qp 38 (.mov (.t 0)), qp 39 (.mov (.t 0)), qp 40 (.nilck (.t 39)), qp 41 (.faddr 0 (.t 40)), qp 42 (.load none (.t 41)), qp 43 (.faddr 1 (.t 5)), qp 44 (.load none (.t 43)), qp 45 (.faddr 1 (.t 6)), qp 46 (.load none (.t 45)), qp 47 (.call p.location_Reg [(.t 46)]), qp 48 (.call p.transfer_Define [(.t 42), (.t 44), (.t 47)]), qp 49 (.mov (.t 3)), qo 50 (.call p.blockcheck_checker_become [(.t 38), (.t 48), (.t 49)])]
def Jq3m (p : Nums) : IC := (.region (Jq3r p) [])
@[simp] theorem Je3m {p : Nums} : EqI (Jq3m p) (.region (Jq3r p) []) := eqi
def Jq3n (p : Nums) : IC := (.seq (.region [⟨(some 36), (.mov (.t 0)), none, false⟩, ⟨(some 37), (.call p.blockcheck_checker_cost [(.t 36)]), none, false⟩] []) (Jq3m p))
@[simp] theorem Je3n {p : Nums} : EqI (Jq3n p) (.seq (.region [⟨(some 36), (.mov (.t 0)), none, false⟩, ⟨(some 37), (.call p.blockcheck_checker_cost [(.t 36)]), none, false⟩] []) (Jq3m p)) := eqi
def Jtc7 (p : Nums) : IC := (.seq (.region [⟨(some 5), (.box (.t 1)), none, false⟩, ⟨(some 6), (.box (.t 2)), none, false⟩] []) (.seq (Jq3j p) (.seq (.seq (.region [⟨(some 16), (.faddr 1 (.t 8)), none, false⟩, ⟨(some 17), (.load none (.t 16)), none, false⟩] []) (.cond (.t 17) (Jq3k p) .skip)) (.seq (.seq (.region [⟨(some 25), (.faddr 2 (.t 8)), none, false⟩, ⟨(some 26), (.load none (.t 25)), none, false⟩] []) (.cond (.t 26) (Jq3l p) .skip)) (.seq (.region [⟨(some 34), (.faddr 0 (.t 8)), none, false⟩, ⟨(some 35), (.load none (.t 34)), none, false⟩] []) (.cond (.t 35) (Jq3n p) .skip))))))
@[simp] def Jqhv (p : Nums) : List IOp := [qo 6 (.mov (.t 0)), qo 7 (.load (some 2) (.t 3)), qo 8 (.call p.pairset_find [(.t 6), (.t 7)]), qo 5 (.asg (.t 8))]
def Jqht (p : Nums) : IC := (.region (Jqhv p) [])
@[simp] theorem Jeht {p : Nums} : EqI (Jqht p) (.region (Jqhv p) []) := eqi
@[simp] def Jqhw (p : Nums) : List IOp := [qp 9 (.mov (.t 5)), qp 10 (.mov (.t 0)), qp 11 (.len (.t 10)), qo 12 (.bin .lss (.t 9) (.t 11)), qo 13 (.mov (.t 12)), ⟨(some 14), (.mov (.t 0)), (some (13, true)), true⟩, ⟨(some 15), (.mov (.t 5)), (some (13, true)), true⟩, ⟨(some 16), (.iaddr 2 (.t 14) (.t 15)), (some (13, true)), true⟩, ⟨(some 17), (.load (some 2) (.t 16)), (some (13, true)), true⟩, ⟨(some 18), (.load (some 2) (.t 3)), (some (13, true)), true⟩, ⟨(some 19), (.eqs false [.int, .int] (.t 17) (.t 18)), (some (13, true)), false⟩, qo 20 (.pick (.t 13) (.t 19) (.c (.d (.bool false)))), qo 4 (.asg (.t 20))]
def Jqhu (p : Nums) : IC := (.region (Jqhw p) [])
@[simp] theorem Jehu {p : Nums} : EqI (Jqhu p) (.region (Jqhw p) []) := eqi
def Jtds (p : Nums) : IC := (.seq (.region [⟨(some 3), (.box (.t 1)), none, false⟩, ⟨(some 4), (.asg (.c (.d (.bool false)))), none, false⟩] []) (.seq (Jqht p) (.seq (Jqhu p) .ret)))
@[simp] def Jq1l (p : Nums) : List IOp := [qo 15 (.mov (.t 3)), qo 8 (.asg (.t 15)), qo 9 (.asg (.c (.d (.bool true))))]
def Jq19 (p : Nums) : IC := (.region (Jq1l p) [])
@[simp] theorem Je19 {p : Nums} : EqI (Jq19 p) (.region (Jq1l p) []) := eqi
@[simp] def Jq1o (p : Nums) : List IOp := [qo 18 (.mov (.t 1)), qo 8 (.asg (.t 18)), qo 9 (.asg (.c (.d (.bool true))))]
def Jq1d (p : Nums) : IC := (.region (Jq1o p) [])
@[simp] theorem Je1d {p : Nums} : EqI (Jq1d p) (.region (Jq1o p) []) := eqi
@[simp] def Jq1p (p : Nums) : List IOp := [qo 21 (.mov (.t 1)), qo 22 (.un .neg (.t 21)), qo 8 (.asg (.t 22)), qo 9 (.asg (.c (.d (.bool true))))]
def Jq1e (p : Nums) : IC := (.region (Jq1p p) [])
@[simp] theorem Je1e {p : Nums} : EqI (Jq1e p) (.region (Jq1p p) []) := eqi
@[simp] def Jq1q (p : Nums) : List IOp := [qo 25 (.mov (.t 1)), qo 26 (.un .xor (.t 25)), qo 8 (.asg (.t 26)), qo 9 (.asg (.c (.d (.bool true))))]
def Jq1f (p : Nums) : IC := (.region (Jq1q p) [])
@[simp] theorem Je1f {p : Nums} : EqI (Jq1f p) (.region (Jq1q p) []) := eqi
def Jq1g (p : Nums) : IC := (.seq (.region [⟨(some 24), (.bin .eql (.t 12) (.c (.d (.int .i64 4)))), none, false⟩, ⟨(some 23), (.asg (.t 24)), none, false⟩] []) (.cond (.t 23) (.seq (Jq1f p) .ret) .skip))
@[simp] theorem Je1g {p : Nums} : EqI (Jq1g p) (.seq (.region [⟨(some 24), (.bin .eql (.t 12) (.c (.d (.int .i64 4)))), none, false⟩, ⟨(some 23), (.asg (.t 24)), none, false⟩] []) (.cond (.t 23) (.seq (Jq1f p) .ret) .skip)) := eqi
def Jq1h (p : Nums) : IC := (.seq (.region [⟨(some 20), (.bin .eql (.t 12) (.c (.d (.int .i64 3)))), none, false⟩, ⟨(some 19), (.asg (.t 20)), none, false⟩] []) (.cond (.t 19) (.seq (Jq1e p) .ret) (Jq1g p)))
@[simp] theorem Je1h {p : Nums} : EqI (Jq1h p) (.seq (.region [⟨(some 20), (.bin .eql (.t 12) (.c (.d (.int .i64 3)))), none, false⟩, ⟨(some 19), (.asg (.t 20)), none, false⟩] []) (.cond (.t 19) (.seq (Jq1e p) .ret) (Jq1g p))) := eqi
def Jq1i (p : Nums) : IC := (.seq (.region [⟨(some 17), (.bin .eql (.t 12) (.c (.d (.int .i64 2)))), none, false⟩, ⟨(some 16), (.asg (.t 17)), none, false⟩] []) (.cond (.t 16) (.seq (Jq1d p) .ret) (Jq1h p)))
@[simp] theorem Je1i {p : Nums} : EqI (Jq1i p) (.seq (.region [⟨(some 17), (.bin .eql (.t 12) (.c (.d (.int .i64 2)))), none, false⟩, ⟨(some 16), (.asg (.t 17)), none, false⟩] []) (.cond (.t 16) (.seq (Jq1d p) .ret) (Jq1h p))) := eqi
def Jq1j (p : Nums) : IC := (.seq (.region [⟨(some 14), (.bin .eql (.t 12) (.c (.d (.int .i64 1)))), none, false⟩, ⟨(some 13), (.asg (.t 14)), none, false⟩] []) (.cond (.t 13) (.seq (Jq19 p) .ret) (Jq1i p)))
@[simp] theorem Je1j {p : Nums} : EqI (Jq1j p) (.seq (.region [⟨(some 14), (.bin .eql (.t 12) (.c (.d (.int .i64 1)))), none, false⟩, ⟨(some 13), (.asg (.t 14)), none, false⟩] []) (.cond (.t 13) (.seq (Jq19 p) .ret) (Jq1i p))) := eqi
@[simp] def Jq1r (p : Nums) : List IOp := [qo 28 (.mov (.t 0)), qo 29 (.call p.alu_operation [(.t 28)]), qo 27 (.mov (.t 29)), qo 30 (.ext (.t 27) 0), qo 31 (.ext (.t 27) 1), qo 10 (.alloc [.nilfn, (.d (.bool false))]), qn (.store 2 (.t 10) (.t 30)), qo 11 (.asg (.t 31))]
def Jq1k (p : Nums) : IC := (.region (Jq1r p) [])
@[simp] theorem Je1k {p : Nums} : EqI (Jq1k p) (.region (Jq1r p) []) := eqi
@[simp] def Jq1m (p : Nums) : List IOp := [qo 32 (.mov (.t 11)), qo 33 (.un .not (.t 32)), qo 34 (.mov (.t 33)), ⟨(some 35), (.faddr 1 (.t 10)), (some (34, false)), false⟩, ⟨(some 36), (.load none (.t 35)), (some (34, false)), false⟩, ⟨(some 37), (.mov (.t 36)), (some (34, false)), false⟩, ⟨(some 38), (.mov (.t 2)), (some (37, true)), false⟩, ⟨(some 39), (.bin .eql (.t 38) (ci 0)), (some (37, true)), false⟩, ⟨(some 40), (.pick (.t 37) (.t 39) (.c (.d (.bool false)))), (some (34, false)), false⟩, qo 41 (.pick (.t 34) (.c (.d (.bool true))) (.t 40))]
def Jq1a (p : Nums) : IC := (.region (Jq1m p) [])
@[simp] theorem Je1a {p : Nums} : EqI (Jq1a p) (.region (Jq1m p) []) := eqi
def Jq1b (p : Nums) : IC := (.seq (.region [⟨(some 8), (.asg (.c (.d (.int .i64 0)))), none, false⟩, ⟨(some 9), (.asg (.c (.d (.bool false)))), none, false⟩] []) .ret)
@[simp] theorem Je1b {p : Nums} : EqI (Jq1b p) (.seq (.region [⟨(some 8), (.asg (.c (.d (.int .i64 0)))), none, false⟩, ⟨(some 9), (.asg (.c (.d (.bool false)))), none, false⟩] []) .ret) := eqi
@[simp] def Jq1n (p : Nums) : List IOp := [qo 42 (.faddr 0 (.t 10)), qo 43 (.load none (.t 42)), qo 44 (.mov (.t 1)), qo 45 (.mov (.t 2)), qo 46 (.callv (.t 43) [(.t 44), (.t 45)]), qo 8 (.asg (.t 46)), qo 9 (.asg (.c (.d (.bool true))))]
def Jq1c (p : Nums) : IC := (.region (Jq1n p) [])
@[simp] theorem Je1c {p : Nums} : EqI (Jq1c p) (.region (Jq1n p) []) := eqi
def Jtbp (p : Nums) : IC := (.seq (.region [⟨(some 8), (.asg (.c (.d (.int .i64 0)))), none, false⟩, ⟨(some 9), (.asg (.c (.d (.bool false)))), none, false⟩] []) (.seq (.seq (.region [⟨(some 12), (.mov (.t 0)), none, false⟩] []) (.block 0 (Jq1j p))) (.seq (Jq1k p) (.seq (.seq (Jq1a p) (.cond (.t 41) (Jq1b p) .skip)) (.seq (Jq1c p) .ret)))))
@[simp] def Jq9r (p : Nums) : List IOp := [qp 8 (.faddr 0 (.t 3)), qp 9 (.load none (.t 8)), qp 10 (.mov (.t 0)), qp 11 (.nilck (.t 10)), qp 12 (.faddr 0 (.t 11)), qp 13 (.faddr 4 (.t 12)), qp 14 (.load none (.t 13)), qp 15 (.faddr 2 (.t 3)), qp 16 (.load none (.t 15)), qp 17 (.iaddr 1 (.t 14) (.t 16)), qp 18 (.load none (.t 17)), qp 19 (.mov (.t 0)), qp 20 (.nilck (.t 19)), qp 21 (.faddr 0 (.t 20)), qp 22 (.faddr 4 (.t 21)), qp 23 (.load none (.t 22)), qp 24 (.faddr 3 (.t 3)), qp 25 (.load none (.t 24)), qp 26 (.iaddr 1 (.t 23) (.t 25)), qp 27 (.load none (.t 26)), qp 28 (.faddr 4 (.t 3)), qp 29 (.load none (.t 28)), qo 30 (.call p.alu_Eval [(.t 9), (.t 18), (.t 27), (.t 29)]), qo 7 (.mov (.t 30)), qp 31 (.ext (.t 7) 0), qp 32 (.ext (.t 7) 1), qp 5 (.asg (.t 31)), qo 6 (.asg (.t 32))]
def Jq9p (p : Nums) : IC := (.region (Jq9r p) [])
@[simp] theorem Je9p {p : Nums} : EqI (Jq9p p) (.region (Jq9r p) []) := eqi
@[simp] def Jq9s (p : Nums) : List IOp := [qp 34 (.mov (.t 0)), qp 35 (.nilck (.t 34)), qp 36 (.faddr 0 (.t 35)), qp 37 (.faddr 4 (.t 36)), qp 38 (.load none (.t 37)), qp 39 (.faddr 1 (.t 3)), qp 40 (.load none (.t 39)), qp 41 (.mov (.t 5)), qo 42 (.iaddr 1 (.t 38) (.t 40)), qn (.store 1 (.t 42) (.t 41))]
def Jq9q (p : Nums) : IC := (.region (Jq9s p) [])
@[simp] theorem Je9q {p : Nums} : EqI (Jq9q p) (.region (Jq9s p) []) := eqi
def Jtcq (p : Nums) : IC := (.seq (.region [⟨(some 3), (.box (.t 1)), none, false⟩, ⟨(some 4), (.asg (.c (.d (.bool false)))), none, false⟩] []) (.seq (Jq9p p) (.seq (.seq (.region [⟨(some 33), (.mov (.t 6)), none, false⟩] []) (.cond (.t 33) (Jq9q p) .skip)) (.seq (.region [⟨(some 43), (.mov (.t 6)), none, false⟩, ⟨(some 4), (.asg (.t 43)), none, false⟩] []) .ret))))
def Jtct (p : Nums) : IC := (.seq (.region [⟨(some 3), (.box (.t 1)), none, false⟩, ⟨(some 4), (.asg (.c (.d (.bool false)))), none, false⟩] []) (.seq (.tree (.step ⟨(some 5), (.mov (.t 0)), none, false⟩ (.step ⟨(some 6), (.faddr 5 (.t 3)), none, false⟩ (.step ⟨(some 9), (.mov (.t 0)), none, false⟩ (.step ⟨(some 10), (.faddr 6 (.t 3)), none, false⟩ (.alt (.step ⟨(some 7), (.load none (.t 6)), none, false⟩ (.alt (.step ⟨(some 8), (.call p.execute_state_at [(.t 5), (.t 7)]), none, false⟩ (.step ⟨(some 11), (.load none (.t 10)), none, false⟩ (.step ⟨(some 12), (.call p.execute_state_at [(.t 9), (.t 11)]), none, false⟩ (.step ⟨(some 13), (.nilck (.t 12)), none, false⟩ (.step ⟨(some 14), (.load none (.t 13)), none, false⟩ (.step ⟨(some 15), (.nilck (.t 8)), none, false⟩ (.step ⟨none, (.store 1 (.t 15) (.t 14)), none, false⟩ .done))))))) (.step ⟨(some 11), (.load none (.t 10)), none, false⟩ (.step ⟨(some 8), (.call p.execute_state_at [(.t 5), (.t 7)]), none, false⟩ (.step ⟨(some 12), (.call p.execute_state_at [(.t 9), (.t 11)]), none, false⟩ (.step ⟨(some 13), (.nilck (.t 12)), none, false⟩ (.step ⟨(some 14), (.load none (.t 13)), none, false⟩ (.step ⟨(some 15), (.nilck (.t 8)), none, false⟩ (.step ⟨none, (.store 1 (.t 15) (.t 14)), none, false⟩ .done))))))))) (.step ⟨(some 11), (.load none (.t 10)), none, false⟩ (.step ⟨(some 7), (.load none (.t 6)), none, false⟩ (.step ⟨(some 8), (.call p.execute_state_at [(.t 5), (.t 7)]), none, false⟩ (.step ⟨(some 12), (.call p.execute_state_at [(.t 9), (.t 11)]), none, false⟩ (.step ⟨(some 13), (.nilck (.t 12)), none, false⟩ (.step ⟨(some 14), (.load none (.t 13)), none, false⟩ (.step ⟨(some 15), (.nilck (.t 8)), none, false⟩ (.step ⟨none, (.store 1 (.t 15) (.t 14)), none, false⟩ .done)))))))))))))) (.seq (.region [⟨(some 4), (.asg (.c (.d (.bool true)))), none, false⟩] []) .ret)))
@[simp] def Jq9u (p : Nums) : List IOp := [qo 5 (.mov (.t 0)), qp 6 (.mov (.t 0)), qp 7 (.nilck (.t 6)), qp 8 (.faddr 0 (.t 7)), qp 9 (.faddr 6 (.t 8)), qp 10 (.load none (.t 9)), qp 11 (.mov (.t 0)), qp 12 (.nilck (.t 11)), qp 13 (.faddr 0 (.t 12)), qp 14 (.faddr 4 (.t 13)), qp 15 (.load none (.t 14)), qp 16 (.faddr 2 (.t 3)), qp 17 (.load none (.t 16)), qp 18 (.iaddr 1 (.t 15) (.t 17)), qp 19 (.load none (.t 18)), qp 20 (.bslice 1 1 [(.int .i64 0)] [(0, (.t 19))]), qo 21 (.app 1 8 (.t 10) (.t 20)), qo 22 (.nilck (.t 5)), qo 23 (.faddr 0 (.t 22)), qo 24 (.faddr 6 (.t 23)), qn (.store 1 (.t 24) (.t 21))]
def Jq9t (p : Nums) : IC := (.region (Jq9u p) [])
@[simp] theorem Je9t {p : Nums} : EqI (Jq9t p) (.region (Jq9u p) []) := eqi
def Jtcr (p : Nums) : IC := (.seq (.region [⟨(some 3), (.box (.t 1)), none, false⟩, ⟨(some 4), (.asg (.c (.d (.bool false)))), none, false⟩] []) (.seq (Jq9t p) (.seq (.region [⟨(some 4), (.asg (.c (.d (.bool true)))), none, false⟩] []) .ret)))
@[simp] def Jqh8 (p : Nums) : List IOp := [qo 3 (.mov (.t 0)), qo 4 (.bin .geq (.t 3) (ci 1)), qo 5 (.mov (.t 4)), ⟨(some 6), (.mov (.t 0)), (some (5, true)), false⟩, ⟨(some 7), (.bin .leq (.t 6) (ci 18)), (some (5, true)), false⟩, qo 8 (.pick (.t 5) (.t 7) (.c (.d (.bool false)))), qo 2 (.asg (.t 8))]
def Jqh7 (p : Nums) : IC := (.region (Jqh8 p) [])
@[simp] theorem Jeh7 {p : Nums} : EqI (Jqh7 p) (.region (Jqh8 p) []) := eqi
def Jtdm (p : Nums) : IC := (.seq (.region [⟨(some 2), (.asg (.c (.d (.bool false)))), none, false⟩] []) (.seq (Jqh7 p) .ret))
@[simp] def Jqga (p : Nums) : List IOp := [qo 7 (.faddr 0 (.t 3)), qo 8 (.load none (.t 7)), qo 9 (.faddr 1 (.t 3)), qo 10 (.load none (.t 9)), qo 11 (.faddr 2 (.t 3)), qo 12 (.load none (.t 11)), qo 13 (.faddr 3 (.t 3)), qo 14 (.load none (.t 13)), qo 15 (.faddr 4 (.t 3)), qo 16 (.load none (.t 15)), qo 17 (.build [(zi 0), (zi 0), (zi 0), (zi 0), (zi 0)] [(0, 1, (.t 8)), (1, 1, (.t 10)), (2, 1, (.t 12)), (3, 1, (.t 14)), (4, 1, (.t 16))]), qo 18 (.mov (.t 1)), qo 19 (.call p.source_Instr [(.t 17), (.t 18)]), qo 6 (.asg (.t 19))]
def Jqg9 (p : Nums) : IC := (.region (Jqga p) [])
@[simp] theorem Jeg9 {p : Nums} : EqI (Jqg9 p) (.region (Jqga p) []) := eqi
def Jtdh (p : Nums) : IC := (.seq (.region [⟨(some 3), (.box (.t 0)), none, false⟩, ⟨(some 6), (.asg (.c (.d (.int .i64 0)))), none, false⟩] []) (.seq (Jqg9 p) .ret))
@[simp] def Jqgc (p : Nums) : List IOp := [qo 3 (.faddr 5 (.t 1)), qo 4 (.load none (.t 3)), qo 5 (.bin .eql (.t 4) (ci 0)), qo 6 (.mov (.t 5)), ⟨(some 7), (.faddr 6 (.t 1)), (some (6, true)), false⟩, ⟨(some 8), (.load none (.t 7)), (some (6, true)), false⟩, ⟨(some 9), (.bin .eql (.t 8) (ci 0)), (some (6, true)), false⟩, qo 10 (.pick (.t 6) (.t 9) (.c (.d (.bool false)))), qo 2 (.asg (.t 10))]
def Jqgb (p : Nums) : IC := (.region (Jqgc p) [])
@[simp] theorem Jegb {p : Nums} : EqI (Jqgb p) (.region (Jqgc p) []) := eqi
def Jtdi (p : Nums) : IC := (.seq (.region [⟨(some 1), (.box (.t 0)), none, false⟩, ⟨(some 2), (.asg (.c (.d (.bool false)))), none, false⟩] []) (.seq (Jqgb p) .ret))
@[simp] def Jqg3 (p : Nums) : List IOp := [qo 8 (.faddr 5 (.t 3)), qo 9 (.load none (.t 8)), qo 10 (.call p.location_IsSlot [(.t 9)]), qo 11 (.mov (.t 10)), ⟨(some 12), (.faddr 6 (.t 3)), (some (11, true)), false⟩, ⟨(some 13), (.load none (.t 12)), (some (11, true)), false⟩, ⟨(some 14), (.call p.location_IsSlot [(.t 13)]), (some (11, true)), false⟩, qo 15 (.pick (.t 11) (.t 14) (.c (.d (.bool false)))), qo 7 (.asg (.t 15))]
def Jqg0 (p : Nums) : IC := (.region (Jqg3 p) [])
@[simp] theorem Jeg0 {p : Nums} : EqI (Jqg0 p) (.region (Jqg3 p) []) := eqi
@[simp] def Jqg4 (p : Nums) : List IOp := [qo 16 (.mov (.t 7)), qo 17 (.mov (.t 16)), ⟨(some 18), (.faddr 5 (.t 3)), (some (17, false)), false⟩, ⟨(some 19), (.load none (.t 18)), (some (17, false)), false⟩, ⟨(some 20), (.mov (.t 1)), (some (17, false)), false⟩, ⟨(some 21), (.mov (.t 2)), (some (17, false)), false⟩, ⟨(some 22), (.call p.location_InRange [(.t 19), (.t 20), (.t 21)]), (some (17, false)), false⟩, ⟨(some 23), (.un .not (.t 22)), (some (17, false)), false⟩, qo 24 (.pick (.t 17) (.c (.d (.bool true))) (.t 23)), qo 25 (.mov (.t 24)), ⟨(some 26), (.faddr 6 (.t 3)), (some (25, false)), false⟩, ⟨(some 27), (.load none (.t 26)), (some (25, false)), false⟩, ⟨(some 28), (.mov (.t 1)), (some (25, false)), false⟩, ⟨(some 29), (.mov (.t 2)), (some (25, false)), false⟩, ⟨(some 30), (.call p.location_InRange [(.t 27), (.t 28), (.t 29)]), (some (25, false)), false⟩, ⟨(some 31), (.un .not (.t 30)), (some (25, false)), false⟩, qo 32 (.pick (.t 25) (.c (.d (.bool true))) (.t 31))]
def Jqg1 (p : Nums) : IC := (.region (Jqg4 p) [])
@[simp] theorem Jeg1 {p : Nums} : EqI (Jqg1 p) (.region (Jqg4 p) []) := eqi
def Jqg2 (p : Nums) : IC := (.seq (.region [⟨(some 6), (.asg (.c (.d (.int .i64 10)))), none, false⟩] []) .ret)
@[simp] theorem Jeg2 {p : Nums} : EqI (Jqg2 p) (.seq (.region [⟨(some 6), (.asg (.c (.d (.int .i64 10)))), none, false⟩] []) .ret) := eqi
def Jtde (p : Nums) : IC := (.seq (.region [⟨(some 3), (.box (.t 0)), none, false⟩, ⟨(some 6), (.asg (.c (.d (.int .i64 0)))), none, false⟩] []) (.seq (Jqg0 p) (.seq (.seq (Jqg1 p) (.cond (.t 32) (Jqg2 p) .skip)) (.seq (.region [⟨(some 6), (.asg (.c (.d (.int .i64 0)))), none, false⟩] []) .ret))))
@[simp] def Jqg6 (p : Nums) : List IOp := [qo 3 (.faddr 1 (.t 1)), qo 4 (.load none (.t 3)), qo 5 (.bin .eql (.t 4) (ci 0)), qo 6 (.mov (.t 5)), ⟨(some 7), (.faddr 2 (.t 1)), (some (6, true)), false⟩, ⟨(some 8), (.load none (.t 7)), (some (6, true)), false⟩, ⟨(some 9), (.bin .eql (.t 8) (ci 0)), (some (6, true)), false⟩, qo 10 (.pick (.t 6) (.t 9) (.c (.d (.bool false)))), qo 11 (.mov (.t 10)), ⟨(some 12), (.faddr 3 (.t 1)), (some (11, true)), false⟩, ⟨(some 13), (.load none (.t 12)), (some (11, true)), false⟩, ⟨(some 14), (.bin .eql (.t 13) (ci 0)), (some (11, true)), false⟩, qo 15 (.pick (.t 11) (.t 14) (.c (.d (.bool false)))), qo 16 (.mov (.t 15)), ⟨(some 17), (.faddr 4 (.t 1)), (some (16, true)), false⟩, ⟨(some 18), (.load none (.t 17)), (some (16, true)), false⟩, ⟨(some 19), (.bin .eql (.t 18) (ci 0)), (some (16, true)), false⟩, qo 20 (.pick (.t 16) (.t 19) (.c (.d (.bool false)))), qo 2 (.asg (.t 20))]
def Jqg5 (p : Nums) : IC := (.region (Jqg6 p) [])
@[simp] theorem Jeg5 {p : Nums} : EqI (Jqg5 p) (.region (Jqg6 p) []) := eqi
def Jtdf (p : Nums) : IC := (.seq (.region [⟨(some 1), (.box (.t 0)), none, false⟩, ⟨(some 2), (.asg (.c (.d (.bool false)))), none, false⟩] []) (.seq (Jqg5 p) .ret))
@[simp] def Jqqi (p : Nums) : List IOp := [qo 12 (.mov (.t 1)), qo 13 (.len (.t 12)), qo 14 (.mov (ci 0))]
def Jqqb (p : Nums) : IC := (.region (Jqqi p) [])
@[simp] theorem Jeqb {p : Nums} : EqI (Jqqb p) (.region (Jqqi p) []) := eqi
@[simp] def Jqqj (p : Nums) : List IOp := [qo 16 (.iaddr 2 (.t 12) (.t 14)), qo 17 (.load (some 2) (.t 16)), qo 9 (.alloc [(zi 0), (zi 0)]), qn (.store 2 (.t 9) (.t 17))]
def Jqqc (p : Nums) : IC := (.region (Jqqj p) [])
@[simp] theorem Jeqc {p : Nums} : EqI (Jqqc p) (.region (Jqqj p) []) := eqi
@[simp] def Jqqk (p : Nums) : List IOp := [qo 19 (.mov (.t 2)), qo 20 (.load (some 2) (.t 9)), qo 21 (.callv (.t 19) [(.t 20)]), qo 18 (.mov (.t 21)), qo 22 (.ext (.t 18) 0), qo 23 (.ext (.t 18) 1), qo 10 (.alloc [(zi 0), (zi 0)]), qn (.store 2 (.t 10) (.t 22)), qo 11 (.asg (.t 23))]
def Jqqd (p : Nums) : IC := (.region (Jqqk p) [])
@[simp] theorem Jeqd {p : Nums} : EqI (Jqqd p) (.region (Jqqk p) []) := eqi
@[simp] def Jqql (p : Nums) : List IOp := [qo 25 (.mov (.t 7)), qo 26 (.load (some 2) (.t 10)), qo 27 (.bslice 2 1 [(.int .i64 0), (.int .i64 0)] [(0, (.t 26))]), qo 28 (.app 2 16 (.t 25) (.t 27)), qo 7 (.asg (.t 28))]
def Jqqe (p : Nums) : IC := (.region (Jqql p) [])
@[simp] theorem Jeqe {p : Nums} : EqI (Jqqe p) (.region (Jqql p) []) := eqi
def Jqqf (p : Nums) : IC := (.seq (Jqqc p) (.seq (Jqqd p) (.seq (.region [⟨(some 24), (.mov (.t 11)), none, false⟩] []) (.cond (.t 24) (Jqqe p) .skip))))
@[simp] theorem Jeqf {p : Nums} : EqI (Jqqf p) (.seq (Jqqc p) (.seq (Jqqd p) (.seq (.region [⟨(some 24), (.mov (.t 11)), none, false⟩] []) (.cond (.t 24) (Jqqe p) .skip)))) := eqi
def Jqqg (p : Nums) : IC := (.seq (.region [⟨(some 15), (.bin .lss (.t 14) (.t 13)), none, false⟩] []) (.seq (.cond (.t 15) .skip (.exit 0)) (.seq (.block 1 (Jqqf p)) (.region [⟨(some 29), (.bin .add (.t 14) (.c (.d (.int .i64 1)))), none, false⟩, ⟨(some 14), (.mov (.t 29)), none, false⟩] []))))
@[simp] theorem Jeqg {p : Nums} : EqI (Jqqg p) (.seq (.region [⟨(some 15), (.bin .lss (.t 14) (.t 13)), none, false⟩] []) (.seq (.cond (.t 15) .skip (.exit 0)) (.seq (.block 1 (Jqqf p)) (.region [⟨(some 29), (.bin .add (.t 14) (.c (.d (.int .i64 1)))), none, false⟩, ⟨(some 14), (.mov (.t 29)), none, false⟩] [])))) := eqi
@[simp] def Jqqm (p : Nums) : List IOp := [qo 30 (.mov (.t 0)), qo 31 (.mov (.t 7)), qo 32 (.call p.pairset_Make [(.t 31)]), qo 33 (.call p.pairset_Union [(.t 30), (.t 32)]), qo 6 (.asg (.t 33))]
def Jqqh (p : Nums) : IC := (.region (Jqqm p) [])
@[simp] theorem Jeqh {p : Nums} : EqI (Jqqh p) (.region (Jqqm p) []) := eqi
def Jtek (p : Nums) : IC := (.seq (.region [⟨(some 6), (.asg (.c .nils)), none, false⟩] []) (.seq (.region [⟨(some 7), (.asg (.c .nils)), none, false⟩] []) (.seq (.seq (Jqqb p) (.block 0 (.loop (Jqqg p)))) (.seq (Jqqh p) .ret))))
@[simp] def Jqhs (p : Nums) : List IOp := [qo 5 (.mov (.t 0)), qo 6 (.mkfn (.func p.pairset_DropV_1) [] [(.t 3)]), qo 7 (.call p.pairset_filter [(.t 5), (.t 6)]), qo 4 (.asg (.t 7))]
def Jqhr (p : Nums) : IC := (.region (Jqhs p) [])
@[simp] theorem Jehr {p : Nums} : EqI (Jqhr p) (.region (Jqhs p) []) := eqi
def Jtdq (p : Nums) : IC := (.seq (.region [⟨(some 3), (.box (.t 1)), none, false⟩, ⟨(some 4), (.asg (.c .nils)), none, false⟩] []) (.seq (Jqhr p) .ret))
@[simp] def Jqho (p : Nums) : List IOp := [qo 5 (.mov (.t 0)), qo 6 (.mkfn (.func p.pairset_DropL_1) [] [(.t 3)]), qo 7 (.call p.pairset_filter [(.t 5), (.t 6)]), qo 4 (.asg (.t 7))]
def Jqhn (p : Nums) : IC := (.region (Jqho p) [])
@[simp] theorem Jehn {p : Nums} : EqI (Jqhn p) (.region (Jqho p) []) := eqi
def Jtdo (p : Nums) : IC := (.seq (.region [⟨(some 3), (.box (.t 1)), none, false⟩, ⟨(some 4), (.asg (.c .nils)), none, false⟩] []) (.seq (Jqhn p) .ret))
@[simp] def Jqq3 (p : Nums) : List IOp := [qo 8 (.mov (.t 0)), qo 9 (.mov (.t 1)), qo 10 (.call p.pairset_DropV [(.t 8), (.t 9)]), qo 11 (.mov (.t 2)), qo 12 (.call p.pairset_DropL [(.t 10), (.t 11)]), qo 7 (.asg (.t 12))]
def Jqq1 (p : Nums) : IC := (.region (Jqq3 p) [])
@[simp] theorem Jeq1 {p : Nums} : EqI (Jqq1 p) (.region (Jqq3 p) []) := eqi
@[simp] def Jqq4 (p : Nums) : List IOp := [qo 13 (.mov (.t 7)), qo 14 (.mov (.t 1)), qo 15 (.mov (.t 2)), qo 16 (.build [(zi 0), (zi 0)] [(0, 1, (.t 14)), (1, 1, (.t 15))]), qo 17 (.call p.pairset_Add [(.t 13), (.t 16)]), qo 6 (.asg (.t 17))]
def Jqq2 (p : Nums) : IC := (.region (Jqq4 p) [])
@[simp] theorem Jeq2 {p : Nums} : EqI (Jqq2 p) (.region (Jqq4 p) []) := eqi
def Jtei (p : Nums) : IC := (.seq (.region [⟨(some 6), (.asg (.c .nils)), none, false⟩] []) (.seq (Jqq1 p) (.seq (Jqq2 p) .ret)))
@[simp] def Jqjy (p : Nums) : List IOp := [qo 8 (.mov (.t 0)), qo 9 (.len (.t 8)), qo 5 (.asg (ci 0)), qo 6 (.asg (.t 9))]
def Jqjq (p : Nums) : IC := (.region (Jqjy p) [])
@[simp] theorem Jejq {p : Nums} : EqI (Jqjq p) (.region (Jqjy p) []) := eqi
@[simp] def Jqjz (p : Nums) : List IOp := [qo 10 (.mov (.t 5)), qo 11 (.mov (.t 6)), qo 12 (.bin .lss (.t 10) (.t 11))]
def Jqjr (p : Nums) : IC := (.region (Jqjz p) [])
@[simp] theorem Jejr {p : Nums} : EqI (Jqjr p) (.region (Jqjz p) []) := eqi
@[simp] def Jqk0 (p : Nums) : List IOp := [qo 13 (.mov (.t 5)), qo 14 (.mov (.t 6)), qo 15 (.mov (.t 5)), qo 16 (.bin .sub (.t 14) (.t 15)), qo 17 (.bin .quo (.t 16) (ci 2)), qo 18 (.bin .add (.t 13) (.t 17)), qo 7 (.asg (.t 18))]
def Jqjs (p : Nums) : IC := (.region (Jqk0 p) [])
@[simp] theorem Jejs {p : Nums} : EqI (Jqjs p) (.region (Jqk0 p) []) := eqi
@[simp] def Jqk1 (p : Nums) : List IOp := [qp 19 (.mov (.t 0)), qp 20 (.mov (.t 7)), qp 21 (.iaddr 2 (.t 19) (.t 20)), qp 22 (.load (some 2) (.t 21)), qp 23 (.load (some 2) (.t 3)), qo 24 (.call p.pairset_Less [(.t 22), (.t 23)])]
def Jqjt (p : Nums) : IC := (.region (Jqk1 p) [])
@[simp] theorem Jejt {p : Nums} : EqI (Jqjt p) (.region (Jqk1 p) []) := eqi
@[simp] def Jqk2 (p : Nums) : List IOp := [qo 25 (.mov (.t 7)), qo 26 (.bin .add (.t 25) (ci 1)), qo 5 (.asg (.t 26))]
def Jqju (p : Nums) : IC := (.region (Jqk2 p) [])
@[simp] theorem Jeju {p : Nums} : EqI (Jqju p) (.region (Jqk2 p) []) := eqi
@[simp] def Jqk3 (p : Nums) : List IOp := [qo 27 (.mov (.t 7)), qo 6 (.asg (.t 27))]
def Jqjv (p : Nums) : IC := (.region (Jqk3 p) [])
@[simp] theorem Jejv {p : Nums} : EqI (Jqjv p) (.region (Jqk3 p) []) := eqi
def Jqjw (p : Nums) : IC := (.seq (Jqjs p) (.seq (Jqjt p) (.cond (.t 24) (Jqju p) (Jqjv p))))
@[simp] theorem Jejw {p : Nums} : EqI (Jqjw p) (.seq (Jqjs p) (.seq (Jqjt p) (.cond (.t 24) (Jqju p) (Jqjv p)))) := eqi
def Jqjx (p : Nums) : IC := (.seq (.seq (Jqjr p) (.cond (.t 12) .skip (.exit 0))) (.block 1 (Jqjw p)))
@[simp] theorem Jejx {p : Nums} : EqI (Jqjx p) (.seq (.seq (Jqjr p) (.cond (.t 12) .skip (.exit 0))) (.block 1 (Jqjw p))) := eqi
def Jtdy (p : Nums) : IC := (.seq (.region [⟨(some 3), (.box (.t 1)), none, false⟩, ⟨(some 4), (.asg (.c (.d (.int .i64 0)))), none, false⟩] []) (.seq (Jqjq p) (.seq (.block 0 (.loop (Jqjx p))) (.seq (.region [⟨(some 28), (.mov (.t 5)), none, false⟩, ⟨(some 4), (.asg (.t 28)), none, false⟩] []) .ret))))
@[simp] def Jq2k (p : Nums) : List IOp := [qo 5 (.build [.nilfn, (.d (.bool false))] [(0, 1, (.c (.fn (.func p.alu_operation_1) [] [])))]), qo 6 (.build [.nilfn, (.d (.bool false))] [(0, 1, (.c (.fn (.func p.alu_operation_2) [] [])))]), qo 7 (.build [.nilfn, (.d (.bool false))] [(0, 1, (.c (.fn (.func p.alu_operation_3) [] [])))]), qo 8 (.build [.nilfn, (.d (.bool false))] [(0, 1, (.c (.fn (.func p.alu_operation_4) [] []))), (1, 1, (.c (.d (.bool true))))]), qo 9 (.build [.nilfn, (.d (.bool false))] [(0, 1, (.c (.fn (.func p.alu_operation_5) [] []))), (1, 1, (.c (.d (.bool true))))]), qo 10 (.build [.nilfn, (.d (.bool false))] [(0, 1, (.c (.fn (.func p.alu_operation_6) [] [])))]), qo 11 (.build [.nilfn, (.d (.bool false))] [(0, 1, (.c (.fn (.func p.alu_operation_7) [] [])))]), qo 12 (.build [.nilfn, (.d (.bool false))] [(0, 1, (.c (.fn (.func p.alu_operation_8) [] [])))]), qo 13 (.build [.nilfn, (.d (.bool false))] [(0, 1, (.c (.fn (.func p.alu_operation_9) [] [])))]), qo 14 (.build [.nilfn, (.d (.bool false))] [(0, 1, (.c (.fn (.func p.alu_operation_10) [] [])))]), qo 15 (.build [.nilfn, (.d (.bool false))] [(0, 1, (.c (.fn (.func p.alu_operation_11) [] [])))]), qo 16 (.build [.nilfn, (.d (.bool false))] [(0, 1, (.c (.fn (.func p.alu_operation_12) [] [])))]), qo 17 (.build [.nilfn, (.d (.bool false)), .nilfn, (.d (.bool false)), .nilfn, (.d (.bool false)), .nilfn, (.d (.bool false)), .nilfn, (.d (.bool false)), .nilfn, (.d (.bool false)), .nilfn, (.d (.bool false)), .nilfn, (.d (.bool false)), .nilfn, (.d (.bool false)), .nilfn, (.d (.bool false)), .nilfn, (.d (.bool false)), .nilfn, (.d (.bool false)), .nilfn, (.d (.bool false)), .nilfn, (.d (.bool false)), .nilfn, (.d (.bool false)), .nilfn, (.d (.bool false)), .nilfn, (.d (.bool false))] [(10, 2, (.t 5)), (12, 2, (.t 6)), (14, 2, (.t 7)), (16, 2, (.t 8)), (18, 2, (.t 9)), (20, 2, (.t 10)), (22, 2, (.t 11)), (24, 2, (.t 12)), (26, 2, (.t 13)), (28, 2, (.t 14)), (30, 2, (.t 15)), (32, 2, (.t 16))]), qo 4 (.alloc [.nilfn, (.d (.bool false)), .nilfn, (.d (.bool false)), .nilfn, (.d (.bool false)), .nilfn, (.d (.bool false)), .nilfn, (.d (.bool false)), .nilfn, (.d (.bool false)), .nilfn, (.d (.bool false)), .nilfn, (.d (.bool false)), .nilfn, (.d (.bool false)), .nilfn, (.d (.bool false)), .nilfn, (.d (.bool false)), .nilfn, (.d (.bool false)), .nilfn, (.d (.bool false)), .nilfn, (.d (.bool false)), .nilfn, (.d (.bool false)), .nilfn, (.d (.bool false)), .nilfn, (.d (.bool false))]), qn (.store 34 (.t 4) (.t 17))]
def Jq2g (p : Nums) : IC := (.region (Jq2k p) [])
@[simp] theorem Je2g {p : Nums} : EqI (Jq2g p) (.region (Jq2k p) []) := eqi
@[simp] def Jq2l (p : Nums) : List IOp := [qo 18 (.mov (.t 0)), qo 19 (.bin .lss (.t 18) (ci 5)), qo 20 (.mov (.t 19)), ⟨(some 21), (.mov (.t 0)), (some (20, false)), false⟩, ⟨(some 22), (.bin .geq (.t 21) (ci 17)), (some (20, false)), false⟩, qo 23 (.pick (.t 20) (.c (.d (.bool true))) (.t 22))]
def Jq2h (p : Nums) : IC := (.region (Jq2l p) [])
@[simp] theorem Je2h {p : Nums} : EqI (Jq2h p) (.region (Jq2l p) []) := eqi
@[simp] def Jq2m (p : Nums) : List IOp := [qo 24 (.build [.nilfn, (.d (.bool false))] []), qn (.store 2 (.t 2) (.t 24)), qo 3 (.asg (.c (.d (.bool false))))]
def Jq2i (p : Nums) : IC := (.region (Jq2m p) [])
@[simp] theorem Je2i {p : Nums} : EqI (Jq2i p) (.region (Jq2m p) []) := eqi
@[simp] def Jq2n (p : Nums) : List IOp := [qo 25 (.mov (.t 0)), qo 26 (.iaddrA 17 2 (.t 4) (.t 25)), qo 27 (.load (some 2) (.t 26)), qn (.store 2 (.t 2) (.t 27)), qo 3 (.asg (.c (.d (.bool true))))]
def Jq2j (p : Nums) : IC := (.region (Jq2n p) [])
@[simp] theorem Je2j {p : Nums} : EqI (Jq2j p) (.region (Jq2n p) []) := eqi
def Jtbq (p : Nums) : IC := (.seq (.region [⟨(some 2), (.alloc [.nilfn, (.d (.bool false))]), none, false⟩, ⟨(some 3), (.asg (.c (.d (.bool false)))), none, false⟩] []) (.seq (Jq2g p) (.seq (.seq (Jq2h p) (.cond (.t 23) (.seq (Jq2i p) .ret) .skip)) (.seq (Jq2j p) .ret))))
@[simp] def Jq9n (p : Nums) : List IOp := [qp 7 (.mov (.t 0)), qp 8 (.nilck (.t 7)), qp 9 (.faddr 0 (.t 8)), qp 10 (.faddr 5 (.t 9)), qp 11 (.load none (.t 10)), qp 12 (.mov (.t 1)), qp 13 (.call p.location_Index [(.t 12)]), qo 14 (.iaddr 1 (.t 11) (.t 13)), qo 4 (.asg (.t 14))]
def Jq9l (p : Nums) : IC := (.region (Jq9n p) [])
@[simp] theorem Je9l {p : Nums} : EqI (Jq9l p) (.region (Jq9n p) []) := eqi
@[simp] def Jq9o (p : Nums) : List IOp := [qp 15 (.mov (.t 0)), qp 16 (.nilck (.t 15)), qp 17 (.faddr 0 (.t 16)), qp 18 (.faddr 4 (.t 17)), qp 19 (.load none (.t 18)), qp 20 (.mov (.t 1)), qp 21 (.call p.location_Index [(.t 20)]), qo 22 (.iaddr 1 (.t 19) (.t 21)), qo 4 (.asg (.t 22))]
def Jq9m (p : Nums) : IC := (.region (Jq9o p) [])
@[simp] theorem Je9m {p : Nums} : EqI (Jq9m p) (.region (Jq9o p) []) := eqi
def Jtcp (p : Nums) : IC := (.seq (.region [⟨(some 4), (.asg (.c .nilp)), none, false⟩] []) (.seq (.seq (.region [⟨(some 5), (.mov (.t 1)), none, false⟩, ⟨(some 6), (.call p.location_IsSlot [(.t 5)]), none, false⟩] []) (.cond (.t 6) (.seq (Jq9l p) .ret) .skip)) (.seq (Jq9m p) .ret)))
@[simp] def Jqj3 (p : Nums) : List IOp := [qo 7 (.mov (.t 0)), qo 8 (.len (.t 7)), qo 9 (.mov (.t 1)), qo 10 (.len (.t 9)), qo 11 (.bin .add (.t 8) (.t 10)), qo 12 (.mkslice 2 16 [(.int .i64 0), (.int .i64 0)] (ci 0) (.t 11)), qo 5 (.asg (.t 12))]
def Jqiq (p : Nums) : IC := (.region (Jqj3 p) [])
@[simp] theorem Jeiq {p : Nums} : EqI (Jqiq p) (.region (Jqj3 p) []) := eqi
@[simp] def Jqj6 (p : Nums) : List IOp := [qo 13 (.mov (.t 0)), qo 14 (.len (.t 13)), qo 15 (.bin .gtr (.t 14) (ci 0)), qo 16 (.mov (.t 15)), ⟨(some 17), (.mov (.t 1)), (some (16, true)), false⟩, ⟨(some 18), (.len (.t 17)), (some (16, true)), false⟩, ⟨(some 19), (.bin .gtr (.t 18) (ci 0)), (some (16, true)), false⟩, qo 20 (.pick (.t 16) (.t 19) (.c (.d (.bool false))))]
def Jqiv (p : Nums) : IC := (.region (Jqj6 p) [])
@[simp] theorem Jeiv {p : Nums} : EqI (Jqiv p) (.region (Jqj6 p) []) := eqi
@[simp] def Jqj7 (p : Nums) : List IOp := [qo 21 (.mov (.t 0)), qo 22 (.iaddr 2 (.t 21) (ci 0)), qo 23 (.load (some 2) (.t 22)), qo 6 (.alloc [(zi 0), (zi 0)]), qn (.store 2 (.t 6) (.t 23))]
def Jqiw (p : Nums) : IC := (.region (Jqj7 p) [])
@[simp] theorem Jeiw {p : Nums} : EqI (Jqiw p) (.region (Jqj7 p) []) := eqi
@[simp] def Jqj8 (p : Nums) : List IOp := [qp 24 (.mov (.t 1)), qp 25 (.iaddr 2 (.t 24) (ci 0)), qp 26 (.load (some 2) (.t 25)), qp 27 (.load (some 2) (.t 6)), qo 28 (.call p.pairset_Less [(.t 26), (.t 27)])]
def Jqix (p : Nums) : IC := (.region (Jqj8 p) [])
@[simp] theorem Jeix {p : Nums} : EqI (Jqix p) (.region (Jqj8 p) []) := eqi
@[simp] def Jqj9 (p : Nums) : List IOp := [qo 29 (.mov (.t 1)), qo 30 (.iaddr 2 (.t 29) (ci 0)), qo 31 (.load (some 2) (.t 30)), qn (.store 2 (.t 6) (.t 31))]
def Jqiy (p : Nums) : IC := (.region (Jqj9 p) [])
@[simp] theorem Jeiy {p : Nums} : EqI (Jqiy p) (.region (Jqj9 p) []) := eqi
@[simp] def Jqja (p : Nums) : List IOp := [qo 32 (.mov (.t 5)), qo 33 (.load (some 2) (.t 6)), qo 34 (.bslice 2 1 [(.int .i64 0), (.int .i64 0)] [(0, (.t 33))]), qo 35 (.app 2 16 (.t 32) (.t 34)), qo 5 (.asg (.t 35))]
def Jqiz (p : Nums) : IC := (.region (Jqja p) [])
@[simp] theorem Jeiz {p : Nums} : EqI (Jqiz p) (.region (Jqja p) []) := eqi
@[simp] def Jqjb (p : Nums) : List IOp := [qp 36 (.mov (.t 0)), qp 37 (.iaddr 2 (.t 36) (ci 0)), qp 38 (.load (some 2) (.t 37)), qp 39 (.load (some 2) (.t 6)), qo 40 (.eqs false [.int, .int] (.t 38) (.t 39))]
def Jqj0 (p : Nums) : IC := (.region (Jqjb p) [])
@[simp] theorem Jej0 {p : Nums} : EqI (Jqj0 p) (.region (Jqjb p) []) := eqi
@[simp] def Jqjc (p : Nums) : List IOp := [qo 41 (.mov (.t 0)), qo 42 (.slc 2 (.t 41) (some (ci 1)) none), qo 0 (.asg (.t 42))]
def Jqj1 (p : Nums) : IC := (.region (Jqjc p) [])
@[simp] theorem Jej1 {p : Nums} : EqI (Jqj1 p) (.region (Jqjc p) []) := eqi
@[simp] def Jqjd (p : Nums) : List IOp := [qp 43 (.mov (.t 1)), qp 44 (.iaddr 2 (.t 43) (ci 0)), qp 45 (.load (some 2) (.t 44)), qp 46 (.load (some 2) (.t 6)), qo 47 (.eqs false [.int, .int] (.t 45) (.t 46))]
def Jqj2 (p : Nums) : IC := (.region (Jqjd p) [])
@[simp] theorem Jej2 {p : Nums} : EqI (Jqj2 p) (.region (Jqjd p) []) := eqi
@[simp] def Jqj4 (p : Nums) : List IOp := [qo 48 (.mov (.t 1)), qo 49 (.slc 2 (.t 48) (some (ci 1)) none), qo 1 (.asg (.t 49))]
def Jqir (p : Nums) : IC := (.region (Jqj4 p) [])
@[simp] theorem Jeir {p : Nums} : EqI (Jqir p) (.region (Jqj4 p) []) := eqi
def Jqis (p : Nums) : IC := (.seq (Jqiw p) (.seq (.seq (Jqix p) (.cond (.t 28) (Jqiy p) .skip)) (.seq (Jqiz p) (.seq (.seq (Jqj0 p) (.cond (.t 40) (Jqj1 p) .skip)) (.seq (Jqj2 p) (.cond (.t 47) (Jqir p) .skip))))))
@[simp] theorem Jeis {p : Nums} : EqI (Jqis p) (.seq (Jqiw p) (.seq (.seq (Jqix p) (.cond (.t 28) (Jqiy p) .skip)) (.seq (Jqiz p) (.seq (.seq (Jqj0 p) (.cond (.t 40) (Jqj1 p) .skip)) (.seq (Jqj2 p) (.cond (.t 47) (Jqir p) .skip)))))) := eqi
def Jqit (p : Nums) : IC := (.seq (.seq (Jqiv p) (.cond (.t 20) .skip (.exit 0))) (.block 1 (Jqis p)))
@[simp] theorem Jeit {p : Nums} : EqI (Jqit p) (.seq (.seq (Jqiv p) (.cond (.t 20) .skip (.exit 0))) (.block 1 (Jqis p))) := eqi
@[simp] def Jqj5 (p : Nums) : List IOp := [qo 50 (.mov (.t 5)), qo 51 (.mov (.t 0)), qo 52 (.app 2 16 (.t 50) (.t 51)), qo 53 (.mov (.t 1)), qo 54 (.app 2 16 (.t 52) (.t 53)), qo 4 (.asg (.t 54))]
def Jqiu (p : Nums) : IC := (.region (Jqj5 p) [])
@[simp] theorem Jeiu {p : Nums} : EqI (Jqiu p) (.region (Jqj5 p) []) := eqi
def Jtdw (p : Nums) : IC := (.seq (.region [⟨(some 4), (.asg (.c .nils)), none, false⟩] []) (.seq (Jqiq p) (.seq (.block 0 (.loop (Jqit p))) (.seq (Jqiu p) .ret))))
@[simp] def Jqjl (p : Nums) : List IOp := [qo 8 (.mov (.t 0)), qo 9 (.len (.t 8)), qo 10 (.mkslice 2 16 [(.int .i64 0), (.int .i64 0)] (ci 0) (.t 9)), qo 5 (.take (.t 10))]
def Jqje (p : Nums) : IC := (.region (Jqjl p) [])
@[simp] theorem Jeje {p : Nums} : EqI (Jqje p) (.region (Jqjl p) []) := eqi
@[simp] def Jqjm (p : Nums) : List IOp := [qo 11 (.mov (.t 0)), qo 12 (.len (.t 11)), qo 13 (.mov (ci 0))]
def Jqjf (p : Nums) : IC := (.region (Jqjm p) [])
@[simp] theorem Jejf {p : Nums} : EqI (Jqjf p) (.region (Jqjm p) []) := eqi
@[simp] def Jqjn (p : Nums) : List IOp := [qo 15 (.iaddr 2 (.t 11) (.t 13)), qo 16 (.load (some 2) (.t 15)), qo 7 (.alloc [(zi 0), (zi 0)]), qn (.store 2 (.t 7) (.t 16))]
def Jqjg (p : Nums) : IC := (.region (Jqjn p) [])
@[simp] theorem Jejg {p : Nums} : EqI (Jqjg p) (.region (Jqjn p) []) := eqi
@[simp] def Jqjo (p : Nums) : List IOp := [qo 17 (.mov (.t 1)), qo 18 (.load (some 2) (.t 7)), qo 19 (.callv (.t 17) [(.t 18)])]
def Jqjh (p : Nums) : IC := (.region (Jqjo p) [])
@[simp] theorem Jejh {p : Nums} : EqI (Jqjh p) (.region (Jqjo p) []) := eqi
@[simp] def Jqjp (p : Nums) : List IOp := [qo 20 (.mov (.t 5)), qo 21 (.load (some 2) (.t 7)), qo 22 (.bslice 2 1 [(.int .i64 0), (.int .i64 0)] [(0, (.t 21))]), qo 23 (.app 2 16 (.t 20) (.t 22)), qo 5 (.take (.t 23))]
def Jqji (p : Nums) : IC := (.region (Jqjp p) [])
@[simp] theorem Jeji {p : Nums} : EqI (Jqji p) (.region (Jqjp p) []) := eqi
def Jqjj (p : Nums) : IC := (.seq (Jqjg p) (.seq (Jqjh p) (.cond (.t 19) (Jqji p) .skip)))
@[simp] theorem Jejj {p : Nums} : EqI (Jqjj p) (.seq (Jqjg p) (.seq (Jqjh p) (.cond (.t 19) (Jqji p) .skip))) := eqi
def Jqjk (p : Nums) : IC := (.seq (.region [⟨(some 14), (.bin .lss (.t 13) (.t 12)), none, false⟩] []) (.seq (.cond (.t 14) .skip (.exit 0)) (.seq (.block 1 (Jqjj p)) (.region [⟨(some 24), (.bin .add (.t 13) (.c (.d (.int .i64 1)))), none, false⟩, ⟨(some 13), (.mov (.t 24)), none, false⟩] []))))
@[simp] theorem Jejk {p : Nums} : EqI (Jqjk p) (.seq (.region [⟨(some 14), (.bin .lss (.t 13) (.t 12)), none, false⟩] []) (.seq (.cond (.t 14) .skip (.exit 0)) (.seq (.block 1 (Jqjj p)) (.region [⟨(some 24), (.bin .add (.t 13) (.c (.d (.int .i64 1)))), none, false⟩, ⟨(some 13), (.mov (.t 24)), none, false⟩] [])))) := eqi
def Jtdx (p : Nums) : IC := (.seq (.region [⟨(some 4), (.asg (.c .nils)), none, false⟩] []) (.seq (Jqje p) (.seq (.seq (Jqjf p) (.block 0 (.loop (Jqjk p)))) (.seq (.region [⟨(some 25), (.mov (.t 5)), none, false⟩, ⟨(some 4), (.take (.t 25)), none, false⟩] []) .ret))))
@[simp] def Jqhq (p : Nums) : List IOp := [qo 4 (.faddr 0 (.t 2)), qo 5 (.load none (.t 4)), qo 6 (.load none (.t 1)), qo 7 (.bin .neq (.t 5) (.t 6)), qo 3 (.asg (.t 7))]
def Jqhp (p : Nums) : IC := (.region (Jqhq p) [])
@[simp] theorem Jehp {p : Nums} : EqI (Jqhp p) (.region (Jqhq p) []) := eqi
def Jtdr (p : Nums) : IC := (.seq (.region [⟨(some 2), (.box (.t 0)), none, false⟩, ⟨(some 3), (.asg (.c (.d (.bool false)))), none, false⟩] []) (.seq (Jqhp p) .ret))
@[simp] def Jqhm (p : Nums) : List IOp := [qo 4 (.faddr 1 (.t 2)), qo 5 (.load none (.t 4)), qo 6 (.load none (.t 1)), qo 7 (.bin .neq (.t 5) (.t 6)), qo 3 (.asg (.t 7))]
def Jqhl (p : Nums) : IC := (.region (Jqhm p) [])
@[simp] theorem Jehl {p : Nums} : EqI (Jqhl p) (.region (Jqhm p) []) := eqi
def Jtdp (p : Nums) : IC := (.seq (.region [⟨(some 2), (.box (.t 0)), none, false⟩, ⟨(some 3), (.asg (.c (.d (.bool false)))), none, false⟩] []) (.seq (Jqhl p) .ret))
@[simp] def Jqhf (p : Nums) : List IOp := [qo 7 (.mov (.t 0)), qo 8 (.load (some 2) (.t 3)), qo 9 (.call p.pairset_find [(.t 7), (.t 8)]), qo 5 (.asg (.t 9))]
def Jqh9 (p : Nums) : IC := (.region (Jqhf p) [])
@[simp] theorem Jeh9 {p : Nums} : EqI (Jqh9 p) (.region (Jqhf p) []) := eqi
@[simp] def Jqhg (p : Nums) : List IOp := [qo 10 (.mov (.t 0)), qo 11 (.len (.t 10)), qo 12 (.bin .add (.t 11) (ci 1)), qo 13 (.mkslice 2 16 [(.int .i64 0), (.int .i64 0)] (ci 0) (.t 12)), qo 6 (.asg (.t 13))]
def Jqha (p : Nums) : IC := (.region (Jqhg p) [])
@[simp] theorem Jeha {p : Nums} : EqI (Jqha p) (.region (Jqhg p) []) := eqi
@[simp] def Jqhh (p : Nums) : List IOp := [qp 14 (.mov (.t 6)), qp 15 (.mov (.t 0)), qp 16 (.mov (.t 5)), qp 17 (.slc 2 (.t 15) none (some (.t 16))), qp 18 (.appq 2 16 (.t 14) (.t 17) 6), qp 19 (.load (some 2) (.t 3)), qp 20 (.bslice 2 1 [(.int .i64 0), (.int .i64 0)] [(0, (.t 19))]), qo 21 (.app 2 16 (.t 18) (.t 20)), qo 6 (.asg (.t 21))]
def Jqhb (p : Nums) : IC := (.region (Jqhh p) [41])
@[simp] theorem Jehb {p : Nums} : EqI (Jqhb p) (.region (Jqhh p) [41]) := eqi
@[simp] def Jqhi (p : Nums) : List IOp := [qp 22 (.mov (.t 5)), qp 23 (.mov (.t 0)), qp 24 (.len (.t 23)), qo 25 (.bin .lss (.t 22) (.t 24)), qo 26 (.mov (.t 25)), ⟨(some 27), (.mov (.t 0)), (some (26, true)), true⟩, ⟨(some 28), (.mov (.t 5)), (some (26, true)), true⟩, ⟨(some 29), (.iaddr 2 (.t 27) (.t 28)), (some (26, true)), true⟩, ⟨(some 30), (.load (some 2) (.t 29)), (some (26, true)), true⟩, ⟨(some 31), (.load (some 2) (.t 3)), (some (26, true)), true⟩, ⟨(some 32), (.eqs false [.int, .int] (.t 30) (.t 31)), (some (26, true)), false⟩, qo 33 (.pick (.t 26) (.t 32) (.c (.d (.bool false))))]
def Jqhc (p : Nums) : IC := (.region (Jqhi p) [])
@[simp] theorem Jehc {p : Nums} : EqI (Jqhc p) (.region (Jqhi p) []) := eqi
@[simp] def Jqhj (p : Nums) : List IOp := [qo 34 (.mov (.t 5)), qo 35 (.bin .add (.t 34) (ci 1)), qo 5 (.asg (.t 35))]
def Jqhd (p : Nums) : IC := (.region (Jqhj p) [])
@[simp] theorem Jehd {p : Nums} : EqI (Jqhd p) (.region (Jqhj p) []) := eqi
@[simp] def Jqhk (p : Nums) : List IOp := [qo 36 (.mov (.t 6)), qo 37 (.mov (.t 0)), qo 38 (.mov (.t 5)), qo 39 (.slc 2 (.t 37) (some (.t 38)) none), qo 40 (.app 2 16 (.t 36) (.t 39)), qo 4 (.asg (.t 40))]
def Jqhe (p : Nums) : IC := (.region (Jqhk p) [])
@[simp] theorem Jehe {p : Nums} : EqI (Jqhe p) (.region (Jqhk p) []) := eqi
def Jtdn (p : Nums) : IC := (.seq (.region [⟨(some 3), (.box (.t 1)), none, false⟩, ⟨(some 4), (.asg (.c .nils)), none, false⟩] []) (.seq (Jqh9 p) (.seq (Jqha p) (.seq (Jqhb p) (.seq (.seq (Jqhc p) (.cond (.t 33) (Jqhd p) .skip)) (.seq (Jqhe p) .ret))))))
@[simp] def Jq1z (p : Nums) : List IOp := [qo 5 (.mov (.t 0)), qo 6 (.mov (.t 1)), qo 7 (.bin .add (.t 5) (.t 6)), qo 4 (.asg (.t 7))]
def Jq1y (p : Nums) : IC := (.region (Jq1z p) [])
@[simp] theorem Je1y {p : Nums} : EqI (Jq1y p) (.region (Jq1z p) []) := eqi
def Jtbr (p : Nums) : IC := (.seq (.region [⟨(some 4), (.asg (.c (.d (.int .i64 0)))), none, false⟩] []) (.seq (Jq1y p) .ret))
@[simp] def Jq21 (p : Nums) : List IOp := [qo 5 (.mov (.t 0)), qo 6 (.mov (.t 1)), qo 7 (.bin .sub (.t 5) (.t 6)), qo 4 (.asg (.t 7))]
def Jq20 (p : Nums) : IC := (.region (Jq21 p) [])
@[simp] theorem Je20 {p : Nums} : EqI (Jq20 p) (.region (Jq21 p) []) := eqi
def Jtbv (p : Nums) : IC := (.seq (.region [⟨(some 4), (.asg (.c (.d (.int .i64 0)))), none, false⟩] []) (.seq (Jq20 p) .ret))
@[simp] def Jq23 (p : Nums) : List IOp := [qo 5 (.mov (.t 0)), qo 6 (.mov (.t 1)), qo 7 (.bin .mul (.t 5) (.t 6)), qo 4 (.asg (.t 7))]
def Jq22 (p : Nums) : IC := (.region (Jq23 p) [])
@[simp] theorem Je22 {p : Nums} : EqI (Jq22 p) (.region (Jq23 p) []) := eqi
def Jtbw (p : Nums) : IC := (.seq (.region [⟨(some 4), (.asg (.c (.d (.int .i64 0)))), none, false⟩] []) (.seq (Jq22 p) .ret))
@[simp] def Jq25 (p : Nums) : List IOp := [qo 5 (.mov (.t 0)), qo 6 (.mov (.t 1)), qo 7 (.bin .quo (.t 5) (.t 6)), qo 4 (.asg (.t 7))]
def Jq24 (p : Nums) : IC := (.region (Jq25 p) [])
@[simp] theorem Je24 {p : Nums} : EqI (Jq24 p) (.region (Jq25 p) []) := eqi
def Jtbx (p : Nums) : IC := (.seq (.region [⟨(some 4), (.asg (.c (.d (.int .i64 0)))), none, false⟩] []) (.seq (Jq24 p) .ret))
@[simp] def Jq27 (p : Nums) : List IOp := [qo 5 (.mov (.t 0)), qo 6 (.mov (.t 1)), qo 7 (.bin .rem (.t 5) (.t 6)), qo 4 (.asg (.t 7))]
def Jq26 (p : Nums) : IC := (.region (Jq27 p) [])
@[simp] theorem Je26 {p : Nums} : EqI (Jq26 p) (.region (Jq27 p) []) := eqi
def Jtby (p : Nums) : IC := (.seq (.region [⟨(some 4), (.asg (.c (.d (.int .i64 0)))), none, false⟩] []) (.seq (Jq26 p) .ret))
@[simp] def Jq29 (p : Nums) : List IOp := [qo 5 (.mov (.t 0)), qo 6 (.mov (.t 1)), qo 7 (.bin .and (.t 5) (.t 6)), qo 4 (.asg (.t 7))]
def Jq28 (p : Nums) : IC := (.region (Jq29 p) [])
@[simp] theorem Je28 {p : Nums} : EqI (Jq28 p) (.region (Jq29 p) []) := eqi
def Jtbz (p : Nums) : IC := (.seq (.region [⟨(some 4), (.asg (.c (.d (.int .i64 0)))), none, false⟩] []) (.seq (Jq28 p) .ret))
@[simp] def Jq2b (p : Nums) : List IOp := [qo 5 (.mov (.t 0)), qo 6 (.mov (.t 1)), qo 7 (.bin .or (.t 5) (.t 6)), qo 4 (.asg (.t 7))]
def Jq2a (p : Nums) : IC := (.region (Jq2b p) [])
@[simp] theorem Je2a {p : Nums} : EqI (Jq2a p) (.region (Jq2b p) []) := eqi
def Jtc0 (p : Nums) : IC := (.seq (.region [⟨(some 4), (.asg (.c (.d (.int .i64 0)))), none, false⟩] []) (.seq (Jq2a p) .ret))
@[simp] def Jq2d (p : Nums) : List IOp := [qo 5 (.mov (.t 0)), qo 6 (.mov (.t 1)), qo 7 (.bin .xor (.t 5) (.t 6)), qo 4 (.asg (.t 7))]
def Jq2c (p : Nums) : IC := (.region (Jq2d p) [])
@[simp] theorem Je2c {p : Nums} : EqI (Jq2c p) (.region (Jq2d p) []) := eqi
def Jtc1 (p : Nums) : IC := (.seq (.region [⟨(some 4), (.asg (.c (.d (.int .i64 0)))), none, false⟩] []) (.seq (Jq2c p) .ret))
@[simp] def Jq2f (p : Nums) : List IOp := [qo 5 (.mov (.t 0)), qo 6 (.mov (.t 1)), qo 7 (.bin .and (.t 6) (ci 63)), qo 8 (.conv .u64 (.t 7)), qo 9 (.bin .shl (.t 5) (.t 8)), qo 4 (.asg (.t 9))]
def Jq2e (p : Nums) : IC := (.region (Jq2f p) [])
@[simp] theorem Je2e {p : Nums} : EqI (Jq2e p) (.region (Jq2f p) []) := eqi
def Jtc2 (p : Nums) : IC := (.seq (.region [⟨(some 4), (.asg (.c (.d (.int .i64 0)))), none, false⟩] []) (.seq (Jq2e p) .ret))
@[simp] def Jq1t (p : Nums) : List IOp := [qo 5 (.mov (.t 0)), qo 6 (.mov (.t 1)), qo 7 (.bin .and (.t 6) (ci 63)), qo 8 (.conv .u64 (.t 7)), qo 9 (.bin .shr (.t 5) (.t 8)), qo 4 (.asg (.t 9))]
def Jq1s (p : Nums) : IC := (.region (Jq1t p) [])
@[simp] theorem Je1s {p : Nums} : EqI (Jq1s p) (.region (Jq1t p) []) := eqi
def Jtbs (p : Nums) : IC := (.seq (.region [⟨(some 4), (.asg (.c (.d (.int .i64 0)))), none, false⟩] []) (.seq (Jq1s p) .ret))
@[simp] def Jq1v (p : Nums) : List IOp := [qo 5 (.mov (.t 0)), qo 6 (.mov (.t 1)), qo 7 (.bin .eql (.t 5) (.t 6)), qo 8 (.call p.alu_truth [(.t 7)]), qo 4 (.asg (.t 8))]
def Jq1u (p : Nums) : IC := (.region (Jq1v p) [])
@[simp] theorem Je1u {p : Nums} : EqI (Jq1u p) (.region (Jq1v p) []) := eqi
def Jtbt (p : Nums) : IC := (.seq (.region [⟨(some 4), (.asg (.c (.d (.int .i64 0)))), none, false⟩] []) (.seq (Jq1u p) .ret))
def Jq2o (p : Nums) : IC := (.seq (.region [⟨(some 2), (.asg (.c (.d (.int .i64 1)))), none, false⟩] []) .ret)
@[simp] theorem Je2o {p : Nums} : EqI (Jq2o p) (.seq (.region [⟨(some 2), (.asg (.c (.d (.int .i64 1)))), none, false⟩] []) .ret) := eqi
def Jtc3 (p : Nums) : IC := (.seq (.region [⟨(some 2), (.asg (.c (.d (.int .i64 0)))), none, false⟩] []) (.seq (.seq (.region [⟨(some 3), (.mov (.t 0)), none, false⟩] []) (.cond (.t 3) (Jq2o p) .skip)) (.seq (.region [⟨(some 2), (.asg (.c (.d (.int .i64 0)))), none, false⟩] []) .ret)))
@[simp] def Jq1x (p : Nums) : List IOp := [qo 5 (.mov (.t 0)), qo 6 (.mov (.t 1)), qo 7 (.bin .lss (.t 5) (.t 6)), qo 8 (.call p.alu_truth [(.t 7)]), qo 4 (.asg (.t 8))]
def Jq1w (p : Nums) : IC := (.region (Jq1x p) [])
@[simp] theorem Je1w {p : Nums} : EqI (Jq1w p) (.region (Jq1x p) []) := eqi
def Jtbu (p : Nums) : IC := (.seq (.region [⟨(some 4), (.asg (.c (.d (.int .i64 0)))), none, false⟩] []) (.seq (Jq1w p) .ret))
@[simp] def Jq4f (p : Nums) : List IOp := [qo 5 (.box (.t 1)), qo 6 (.box (.t 2)), qo 8 (.alloc [(zi 0)]), qo 9 (.alloc [(zi 0)])]
def Jq4e (p : Nums) : IC := (.region (Jq4f p) [])
@[simp] theorem Je4e {p : Nums} : EqI (Jq4e p) (.region (Jq4f p) []) := eqi
def Jtc9 (p : Nums) : IC := (Jq4e p)
@[simp] def Jq4v (p : Nums) : List IOp := [qo 13 (.mov (.t 3)), qo 14 (.len (.t 13)), qo 15 (.mov (ci 0))]
def Jq4n (p : Nums) : IC := (.region (Jq4v p) [])
@[simp] theorem Je4n {p : Nums} : EqI (Jq4n p) (.region (Jq4v p) []) := eqi
@[simp] def Jq4w (p : Nums) : List IOp := [qo 17 (.iaddr 6 (.t 13) (.t 15)), qo 18 (.load (some 6) (.t 17)), qo 11 (.alloc [(zi 0), (zi 0), (zi 0), (zi 0), (zi 0), (zi 0)]), qn (.store 6 (.t 11) (.t 18))]
def Jq4o (p : Nums) : IC := (.region (Jq4w p) [])
@[simp] theorem Je4o {p : Nums} : EqI (Jq4o p) (.region (Jq4w p) []) := eqi
@[simp] def Jq4x (p : Nums) : List IOp := [qo 19 (.mov (.t 0)), qo 20 (.load (some 5) (.t 5)), qo 21 (.load (some 5) (.t 6)), qo 22 (.load (some 6) (.t 11)), qo 23 (.call p.blockcheck_checker_row [(.t 19), (.t 20), (.t 21), (.t 22)])]
def Jq4p (p : Nums) : IC := (.region (Jq4x p) [])
@[simp] theorem Je4p {p : Nums} : EqI (Jq4p p) (.region (Jq4x p) []) := eqi
def Jq4q (p : Nums) : IC := (.seq (Jq4o p) (Jq4p p))
@[simp] theorem Je4q {p : Nums} : EqI (Jq4q p) (.seq (Jq4o p) (Jq4p p)) := eqi
def Jq4r (p : Nums) : IC := (.seq (.region [⟨(some 16), (.bin .lss (.t 15) (.t 14)), none, false⟩] []) (.seq (.cond (.t 16) .skip (.exit 0)) (.seq (.block 1 (Jq4q p)) (.region [⟨(some 24), (.bin .add (.t 15) (.c (.d (.int .i64 1)))), none, false⟩, ⟨(some 15), (.mov (.t 24)), none, false⟩] []))))
@[simp] theorem Je4r {p : Nums} : EqI (Jq4r p) (.seq (.region [⟨(some 16), (.bin .lss (.t 15) (.t 14)), none, false⟩] []) (.seq (.cond (.t 16) .skip (.exit 0)) (.seq (.block 1 (Jq4q p)) (.region [⟨(some 24), (.bin .add (.t 15) (.c (.d (.int .i64 1)))), none, false⟩, ⟨(some 15), (.mov (.t 24)), none, false⟩] [])))) := eqi
@[simp] def Jq4y (p : Nums) : List IOp := [qo 25 (.faddr 1 (.t 5)), qo 26 (.faddr 0 (.t 25)), qo 27 (.load none (.t 26)), qo 28 (.bin .neq (.t 27) (ci 1))]
def Jq4s (p : Nums) : IC := (.region (Jq4y p) [])
@[simp] theorem Je4s {p : Nums} : EqI (Jq4s p) (.region (Jq4y p) []) := eqi
@[simp] def Jq4z (p : Nums) : List IOp := [qo 29 (.mov (.t 0)), qo 30 (.faddr 1 (.t 5)), qo 31 (.faddr 1 (.t 30)), qo 32 (.load none (.t 31)), qo 33 (.faddr 1 (.t 6)), qo 34 (.faddr 1 (.t 33)), qo 35 (.load none (.t 34)), qo 36 (.faddr 0 (.t 6)), qo 37 (.load none (.t 36)), qo 38 (.len (.t 37)), qo 39 (.call p.blockcheck_checker_use [(.t 29), (.t 32), (.t 35), (.t 38)])]
def Jq4t (p : Nums) : IC := (.region (Jq4z p) [])
@[simp] theorem Je4t {p : Nums} : EqI (Jq4t p) (.region (Jq4z p) []) := eqi
@[simp] def Jq50 (p : Nums) : List IOp := [qp 40 (.faddr 0 (.t 6)), qp 41 (.load none (.t 40)), qp 42 (.len (.t 41)), qm (.storeq 1 (.t 8) (ci 0) [(40, 1)]), qn (.store 1 (.t 9) (.t 42))]
def Jq4u (p : Nums) : IC := (.region (Jq50 p) [])
@[simp] theorem Je4u {p : Nums} : EqI (Jq4u p) (.region (Jq50 p) []) := eqi
def Jtcb (p : Nums) : IC := (.seq (.seq (Jq4n p) (.block 0 (.loop (Jq4r p)))) (.seq (.seq (Jq4s p) (.cond (.t 28) (Jq4t p) .skip)) (.seq (Jq4u p) .ret)))
@[simp] def Jq4k (p : Nums) : List IOp := [qo 9 (.mov (.t 2)), qo 10 (.tas p.ty_bcfail (.t 9)), qo 8 (.mov (.t 10)), qo 11 (.ext (.t 8) 0), qo 12 (.ext (.t 8) 1), qo 3 (.alloc [(zi 0), (zi 0)]), qn (.store 2 (.t 3) (.t 11)), qo 4 (.asg (.t 12))]
def Jq4g (p : Nums) : IC := (.region (Jq4k p) [])
@[simp] theorem Je4g {p : Nums} : EqI (Jq4g p) (.region (Jq4k p) []) := eqi
@[simp] def Jq4l (p : Nums) : List IOp := [qo 15 (.mov (.t 2)), qn (.pan (.t 15))]
def Jq4h (p : Nums) : IC := (.region (Jq4l p) [])
@[simp] theorem Je4h {p : Nums} : EqI (Jq4h p) (.region (Jq4l p) []) := eqi
@[simp] def Jq4m (p : Nums) : List IOp := [qp 16 (.faddr 0 (.t 3)), qp 17 (.load none (.t 16)), qp 18 (.faddr 1 (.t 3)), qp 19 (.load none (.t 18)), qm (.storeq 1 (.t 0) (.t 17) [(18, 1)]), qn (.store 1 (.t 1) (.t 19))]
def Jq4i (p : Nums) : IC := (.region (Jq4m p) [])
@[simp] theorem Je4i {p : Nums} : EqI (Jq4i p) (.region (Jq4m p) []) := eqi
def Jq4j (p : Nums) : IC := (.seq (Jq4g p) (.seq (.seq (.region [⟨(some 13), (.mov (.t 4)), none, false⟩, ⟨(some 14), (.un .not (.t 13)), none, false⟩] []) (.cond (.t 14) (Jq4h p) .skip)) (Jq4i p)))
@[simp] theorem Je4j {p : Nums} : EqI (Jq4j p) (.seq (Jq4g p) (.seq (.seq (.region [⟨(some 13), (.mov (.t 4)), none, false⟩, ⟨(some 14), (.un .not (.t 13)), none, false⟩] []) (.cond (.t 14) (Jq4h p) .skip)) (Jq4i p))) := eqi
def Jtca (p : Nums) : IC := (.seq (.region [⟨(some 6), (.mov (.t 2)), none, false⟩, ⟨(some 7), (.isnif true (.t 6)), none, false⟩] []) (.cond (.t 7) (Jq4j p) .skip))
@[simp] def Jq9j (p : Nums) : List IOp := [qo 6 (.load (some 4) (.t 2)), qo 7 (.build [(zi 0), (zi 0), (zi 0), (zi 0), .nils, .nils, .nils, (zi 0), (zi 0), (zi 0), (zi 0), .nils] [(8, 4, (.t 6))]), qo 8 (.box (.t 7)), qo 5 (.asg (.t 8))]
def Jq9h (p : Nums) : IC := (.region (Jq9j p) [])
@[simp] theorem Je9h {p : Nums} : EqI (Jq9h p) (.region (Jq9j p) []) := eqi
@[simp] def Jq9k (p : Nums) : List IOp := [qo 23 (.mov (.t 5)), qo 24 (.nilck (.t 23)), qo 25 (.faddr 0 (.t 24)), qo 26 (.faddr 5 (.t 25)), qo 27 (.load none (.t 26)), qo 28 (.mov (.t 1)), qo 29 (.cpy 1 (.t 27) (.t 28))]
def Jq9i (p : Nums) : IC := (.region (Jq9k p) [])
@[simp] theorem Je9i {p : Nums} : EqI (Jq9i p) (.region (Jq9k p) []) := eqi
def Jtco (p : Nums) : IC := (.seq (.region [⟨(some 2), (.box (.t 0)), none, false⟩, ⟨(some 4), (.asg (.c .nilp)), none, false⟩] []) (.seq (Jq9h p) (.seq (.tree (.step ⟨(some 9), (.mov (.t 5)), none, false⟩ (.step ⟨(some 10), (.mov (.t 5)), none, false⟩ (.step ⟨(some 11), (.faddr 1 (.t 2)), none, false⟩ (.step ⟨(some 14), (.faddr 2 (.t 2)), none, false⟩ (.alt (.step ⟨(some 12), (.load none (.t 11)), none, false⟩ (.alt (.step ⟨(some 13), (.mkslice 1 8 [(.int .i64 0)] (.t 12) (.t 12)), none, false⟩ (.alt (.step ⟨(some 15), (.load none (.t 14)), none, false⟩ (.alt (.step ⟨(some 16), (.mkslice 1 8 [(.int .i64 0)] (.t 15) (.t 15)), none, false⟩ (.step ⟨(some 17), (.nilck (.t 9)), none, false⟩ (.step ⟨(some 18), (.faddr 0 (.t 17)), none, false⟩ (.step ⟨(some 19), (.faddr 4 (.t 18)), none, false⟩ (.step ⟨none, (.store 1 (.t 19) (.t 13)), none, false⟩ (.step ⟨(some 20), (.nilck (.t 10)), none, false⟩ (.step ⟨(some 21), (.faddr 0 (.t 20)), none, false⟩ (.step ⟨(some 22), (.faddr 5 (.t 21)), none, false⟩ (.step ⟨none, (.store 1 (.t 22) (.t 16)), none, false⟩ .done))))))))) (.step ⟨(some 17), (.nilck (.t 9)), none, false⟩ (.step ⟨(some 18), (.faddr 0 (.t 17)), none, false⟩ (.step ⟨(some 19), (.faddr 4 (.t 18)), none, false⟩ (.alt (.step ⟨(some 16), (.mkslice 1 8 [(.int .i64 0)] (.t 15) (.t 15)), none, false⟩ (.step ⟨none, (.store 1 (.t 19) (.t 13)), none, false⟩ (.step ⟨(some 20), (.nilck (.t 10)), none, false⟩ (.step ⟨(some 21), (.faddr 0 (.t 20)), none, false⟩ (.step ⟨(some 22), (.faddr 5 (.t 21)), none, false⟩ (.step ⟨none, (.store 1 (.t 22) (.t 16)), none, false⟩ .done)))))) (.step ⟨none, (.store 1 (.t 19) (.t 13)), none, false⟩ (.step ⟨(some 16), (.mkslice 1 8 [(.int .i64 0)] (.t 15) (.t 15)), none, false⟩ (.step ⟨(some 20), (.nilck (.t 10)), none, false⟩ (.step ⟨(some 21), (.faddr 0 (.t 20)), none, false⟩ (.step ⟨(some 22), (.faddr 5 (.t 21)), none, false⟩ (.step ⟨none, (.store 1 (.t 22) (.t 16)), none, false⟩ .done)))))))))))) (.step ⟨(some 17), (.nilck (.t 9)), none, false⟩ (.step ⟨(some 18), (.faddr 0 (.t 17)), none, false⟩ (.step ⟨(some 19), (.faddr 4 (.t 18)), none, false⟩ (.alt (.step ⟨(some 15), (.load none (.t 14)), none, false⟩ (.alt (.step ⟨(some 16), (.mkslice 1 8 [(.int .i64 0)] (.t 15) (.t 15)), none, false⟩ (.step ⟨none, (.store 1 (.t 19) (.t 13)), none, false⟩ (.step ⟨(some 20), (.nilck (.t 10)), none, false⟩ (.step ⟨(some 21), (.faddr 0 (.t 20)), none, false⟩ (.step ⟨(some 22), (.faddr 5 (.t 21)), none, false⟩ (.step ⟨none, (.store 1 (.t 22) (.t 16)), none, false⟩ .done)))))) (.step ⟨none, (.store 1 (.t 19) (.t 13)), none, false⟩ (.step ⟨(some 16), (.mkslice 1 8 [(.int .i64 0)] (.t 15) (.t 15)), none, false⟩ (.step ⟨(some 20), (.nilck (.t 10)), none, false⟩ (.step ⟨(some 21), (.faddr 0 (.t 20)), none, false⟩ (.step ⟨(some 22), (.faddr 5 (.t 21)), none, false⟩ (.step ⟨none, (.store 1 (.t 22) (.t 16)), none, false⟩ .done)))))))) (.step ⟨none, (.store 1 (.t 19) (.t 13)), none, false⟩ (.step ⟨(some 15), (.load none (.t 14)), none, false⟩ (.step ⟨(some 16), (.mkslice 1 8 [(.int .i64 0)] (.t 15) (.t 15)), none, false⟩ (.step ⟨(some 20), (.nilck (.t 10)), none, false⟩ (.step ⟨(some 21), (.faddr 0 (.t 20)), none, false⟩ (.step ⟨(some 22), (.faddr 5 (.t 21)), none, false⟩ (.step ⟨none, (.store 1 (.t 22) (.t 16)), none, false⟩ .done))))))))))))) (.step ⟨(some 15), (.load none (.t 14)), none, false⟩ (.alt (.step ⟨(some 13), (.mkslice 1 8 [(.int .i64 0)] (.t 12) (.t 12)), none, false⟩ (.alt (.step ⟨(some 16), (.mkslice 1 8 [(.int .i64 0)] (.t 15) (.t 15)), none, false⟩ (.step ⟨(some 17), (.nilck (.t 9)), none, false⟩ (.step ⟨(some 18), (.faddr 0 (.t 17)), none, false⟩ (.step ⟨(some 19), (.faddr 4 (.t 18)), none, false⟩ (.step ⟨none, (.store 1 (.t 19) (.t 13)), none, false⟩ (.step ⟨(some 20), (.nilck (.t 10)), none, false⟩ (.step ⟨(some 21), (.faddr 0 (.t 20)), none, false⟩ (.step ⟨(some 22), (.faddr 5 (.t 21)), none, false⟩ (.step ⟨none, (.store 1 (.t 22) (.t 16)), none, false⟩ .done))))))))) (.step ⟨(some 17), (.nilck (.t 9)), none, false⟩ (.step ⟨(some 18), (.faddr 0 (.t 17)), none, false⟩ (.step ⟨(some 19), (.faddr 4 (.t 18)), none, false⟩ (.alt (.step ⟨(some 16), (.mkslice 1 8 [(.int .i64 0)] (.t 15) (.t 15)), none, false⟩ (.step ⟨none, (.store 1 (.t 19) (.t 13)), none, false⟩ (.step ⟨(some 20), (.nilck (.t 10)), none, false⟩ (.step ⟨(some 21), (.faddr 0 (.t 20)), none, false⟩ (.step ⟨(some 22), (.faddr 5 (.t 21)), none, false⟩ (.step ⟨none, (.store 1 (.t 22) (.t 16)), none, false⟩ .done)))))) (.step ⟨none, (.store 1 (.t 19) (.t 13)), none, false⟩ (.step ⟨(some 16), (.mkslice 1 8 [(.int .i64 0)] (.t 15) (.t 15)), none, false⟩ (.step ⟨(some 20), (.nilck (.t 10)), none, false⟩ (.step ⟨(some 21), (.faddr 0 (.t 20)), none, false⟩ (.step ⟨(some 22), (.faddr 5 (.t 21)), none, false⟩ (.step ⟨none, (.store 1 (.t 22) (.t 16)), none, false⟩ .done)))))))))))) (.step ⟨(some 16), (.mkslice 1 8 [(.int .i64 0)] (.t 15) (.t 15)), none, false⟩ (.step ⟨(some 13), (.mkslice 1 8 [(.int .i64 0)] (.t 12) (.t 12)), none, false⟩ (.step ⟨(some 17), (.nilck (.t 9)), none, false⟩ (.step ⟨(some 18), (.faddr 0 (.t 17)), none, false⟩ (.step ⟨(some 19), (.faddr 4 (.t 18)), none, false⟩ (.step ⟨none, (.store 1 (.t 19) (.t 13)), none, false⟩ (.step ⟨(some 20), (.nilck (.t 10)), none, false⟩ (.step ⟨(some 21), (.faddr 0 (.t 20)), none, false⟩ (.step ⟨(some 22), (.faddr 5 (.t 21)), none, false⟩ (.step ⟨none, (.store 1 (.t 22) (.t 16)), none, false⟩ .done)))))))))))))) (.step ⟨(some 15), (.load none (.t 14)), none, false⟩ (.alt (.step ⟨(some 12), (.load none (.t 11)), none, false⟩ (.alt (.step ⟨(some 13), (.mkslice 1 8 [(.int .i64 0)] (.t 12) (.t 12)), none, false⟩ (.alt (.step ⟨(some 16), (.mkslice 1 8 [(.int .i64 0)] (.t 15) (.t 15)), none, false⟩ (.step ⟨(some 17), (.nilck (.t 9)), none, false⟩ (.step ⟨(some 18), (.faddr 0 (.t 17)), none, false⟩ (.step ⟨(some 19), (.faddr 4 (.t 18)), none, false⟩ (.step ⟨none, (.store 1 (.t 19) (.t 13)), none, false⟩ (.step ⟨(some 20), (.nilck (.t 10)), none, false⟩ (.step ⟨(some 21), (.faddr 0 (.t 20)), none, false⟩ (.step ⟨(some 22), (.faddr 5 (.t 21)), none, false⟩ (.step ⟨none, (.store 1 (.t 22) (.t 16)), none, false⟩ .done))))))))) (.step ⟨(some 17), (.nilck (.t 9)), none, false⟩ (.step ⟨(some 18), (.faddr 0 (.t 17)), none, false⟩ (.step ⟨(some 19), (.faddr 4 (.t 18)), none, false⟩ (.alt (.step ⟨(some 16), (.mkslice 1 8 [(.int .i64 0)] (.t 15) (.t 15)), none, false⟩ (.step ⟨none, (.store 1 (.t 19) (.t 13)), none, false⟩ (.step ⟨(some 20), (.nilck (.t 10)), none, false⟩ (.step ⟨(some 21), (.faddr 0 (.t 20)), none, false⟩ (.step ⟨(some 22), (.faddr 5 (.t 21)), none, false⟩ (.step ⟨none, (.store 1 (.t 22) (.t 16)), none, false⟩ .done)))))) (.step ⟨none, (.store 1 (.t 19) (.t 13)), none, false⟩ (.step ⟨(some 16), (.mkslice 1 8 [(.int .i64 0)] (.t 15) (.t 15)), none, false⟩ (.step ⟨(some 20), (.nilck (.t 10)), none, false⟩ (.step ⟨(some 21), (.faddr 0 (.t 20)), none, false⟩ (.step ⟨(some 22), (.faddr 5 (.t 21)), none, false⟩ (.step ⟨none, (.store 1 (.t 22) (.t 16)), none, false⟩ .done)))))))))))) (.step ⟨(some 16), (.mkslice 1 8 [(.int .i64 0)] (.t 15) (.t 15)), none, false⟩ (.step ⟨(some 13), (.mkslice 1 8 [(.int .i64 0)] (.t 12) (.t 12)), none, false⟩ (.step ⟨(some 17), (.nilck (.t 9)), none, false⟩ (.step ⟨(some 18), (.faddr 0 (.t 17)), none, false⟩ (.step ⟨(some 19), (.faddr 4 (.t 18)), none, false⟩ (.step ⟨none, (.store 1 (.t 19) (.t 13)), none, false⟩ (.step ⟨(some 20), (.nilck (.t 10)), none, false⟩ (.step ⟨(some 21), (.faddr 0 (.t 20)), none, false⟩ (.step ⟨(some 22), (.faddr 5 (.t 21)), none, false⟩ (.step ⟨none, (.store 1 (.t 22) (.t 16)), none, false⟩ .done)))))))))))) (.step ⟨(some 16), (.mkslice 1 8 [(.int .i64 0)] (.t 15) (.t 15)), none, false⟩ (.step ⟨(some 12), (.load none (.t 11)), none, false⟩ (.step ⟨(some 13), (.mkslice 1 8 [(.int .i64 0)] (.t 12) (.t 12)), none, false⟩ (.step ⟨(some 17), (.nilck (.t 9)), none, false⟩ (.step ⟨(some 18), (.faddr 0 (.t 17)), none, false⟩ (.step ⟨(some 19), (.faddr 4 (.t 18)), none, false⟩ (.step ⟨none, (.store 1 (.t 19) (.t 13)), none, false⟩ (.step ⟨(some 20), (.nilck (.t 10)), none, false⟩ (.step ⟨(some 21), (.faddr 0 (.t 20)), none, false⟩ (.step ⟨(some 22), (.faddr 5 (.t 21)), none, false⟩ (.step ⟨none, (.store 1 (.t 22) (.t 16)), none, false⟩ .done))))))))))))))))))) (.seq (Jq9i p) (.seq (.region [⟨(some 30), (.mov (.t 5)), none, false⟩, ⟨(some 4), (.asg (.t 30)), none, false⟩] []) .ret)))))
structure All (P : Program) (p : Nums) : Prop where
 law16_CheckerSound : Has P p.law16_CheckerSound 3 [(.tmp 6)] (Jtd1 p)
 law16_awake : Has P p.law16_awake 0 [(.tmp 0)] (Jtd2 p)
 ref16_Few : Has P p.ref16_Few 1 [(.tmp 2)] (Jte6 p)
 checker_Valid : Has P p.checker_Valid 1 [(.tmp 2)] (Jtcf p)
 checker_Check : Has P p.checker_Check 1 [(.cell 2 (some 7))] (Jtce p)
 checker_Bound : Has P p.checker_Bound 2 [(.tmp 4)] (Jtcd p)
 law16_simulates : Has P p.law16_simulates 3 [(.tmp 6)] (Jtd3 p)
 ref07_Few : Has P p.ref07_Few 1 [(.tmp 2)] (Jte0 p)
 ref08_Few : Has P p.ref08_Few 1 [(.tmp 2)] (Jte2 p)
 ref15_Few : Has P p.ref15_Few 1 [(.tmp 2)] (Jte5 p)
 source_Check : Has P p.source_Check 1 [(.tmp 2)] (Jte9 p)
 machine_Check : Has P p.machine_Check 1 [(.tmp 2)] (Jtd9 p)
 edge_Valid : Has P p.edge_Valid 5 [(.tmp 10)] (Jtck p)
 checker_begin : Has P p.checker_begin 1 [(.cell 2 (some 7))] (Jtcg p)
 blockcheck_Check : Has P p.blockcheck_Check 4 [(.cell 8 (some 5))] (Jtc4 p)
 source_Successors : Has P p.source_Successors 1 [(.tmp 2)] (Jtec p)
 edge_Implies : Has P p.edge_Implies 2 [(.cell 4 (some 2)), (.tmp 5)] (Jtci p)
 source_Code : Has P p.source_Code 1 [(.tmp 2)] (Jtea p)
 machine_Code : Has P p.machine_Code 1 [(.tmp 2)] (Jtda p)
 interp_Exec : Has P p.interp_Exec 3 [(.cell 6 (some 8)), (.tmp 7)] (Jtcw p)
 execute_Exec : Has P p.execute_Exec 3 [(.cell 6 (some 8)), (.tmp 7)] (Jtcn p)
 ref09_Values : Has P p.ref09_Values 2 [(.tmp 4)] (Jte4 p)
 ref09_Prefix : Has P p.ref09_Prefix 2 [(.tmp 4)] (Jte3 p)
 ref07_Code : Has P p.ref07_Code 1 [(.tmp 2)] (Jtdz p)
 ref08_Code : Has P p.ref08_Code 1 [(.tmp 2)] (Jte1 p)
 source_block : Has P p.source_block 3 [(.tmp 6)] (Jtef p)
 machine_block : Has P p.machine_block 2 [(.tmp 4)] (Jtdc p)
 edge_total : Has P p.edge_total 1 [(.tmp 2)] (Jtcm p)
 edge_pairs : Has P p.edge_pairs 4 [(.tmp 8)] (Jtcl p)
 edge_Entry : Has P p.edge_Entry 2 [(.cell 4 (some 2)), (.tmp 5)] (Jtch p)
 align_Code : Has P p.align_Code 2 [(.tmp 4), (.tmp 5), (.tmp 6)] (Jtbi p)
 align_Terms : Has P p.align_Terms 2 [(.tmp 4)] (Jtbk p)
 pairset_Make : Has P p.pairset_Make 1 [(.tmp 2)] (Jtdu p)
 blockcheck_checker_run : HasD P p.blockcheck_checker_run 4 [(.cell 8 none), (.cell 9 none)] (Jtc9 p) (Jtcb p) 12 p.blockcheck_checker_run_1 [8, 9] (Jtca p) 5 2
 pairset_Missing : Has P p.pairset_Missing 2 [(.cell 4 (some 2)), (.tmp 5)] (Jtdv p)
 interp_begin : Has P p.interp_begin 2 [(.tmp 4)] (Jtcx p)
 execute_begin : Has P p.execute_begin 2 [(.tmp 4)] (Jtco p)
 interp_state_step : Has P p.interp_state_step 1 [] (Jtcz p)
 execute_state_step : Has P p.execute_state_step 1 [] (Jtcu p)
 location_Slot : Has P p.location_Slot 1 [(.tmp 2)] (Jtd8 p)
 source_Instr : Has P p.source_Instr 2 [(.tmp 4)] (Jteb p)
 source_Term : Has P p.source_Term 3 [(.tmp 6)] (Jted p)
 machine_Instr : Has P p.machine_Instr 3 [(.tmp 6)] (Jtdb p)
 location_InRange : Has P p.location_InRange 3 [(.tmp 6)] (Jtd4 p)
 pairset_Less : Has P p.pairset_Less 2 [(.tmp 4)] (Jtdt p)
 edge_Initial : Has P p.edge_Initial 2 [(.tmp 4)] (Jtcj p)
 align_skip_Instr : Has P p.align_skip_Instr 3 [(.tmp 6)] (Jtbn p)
 align_copied : Has P p.align_copied 1 [(.tmp 2)] (Jtbl p)
 align_skip_Mach : Has P p.align_skip_Mach 3 [(.tmp 6)] (Jtbo p)
 align_moved : Has P p.align_moved 1 [(.tmp 2)] (Jtbm p)
 align_Same : Has P p.align_Same 2 [(.tmp 4)] (Jtbj p)
 slices_Clone_Pair : Has P p.slices_Clone_Pair 1 [(.tmp 2)] (Jte7 p)
 slices_Compact_Pair : Has P p.slices_Compact_Pair 1 [(.tmp 2)] (Jte8 p)
 blockcheck_checker_row : Has P p.blockcheck_checker_row 4 [] (Jtc8 p)
 blockcheck_checker_use : Has P p.blockcheck_checker_use 4 [] (Jtcc p)
 interp_state_instr : Has P p.interp_state_instr 2 [] (Jtcy p)
 interp_state_term : Has P p.interp_state_term 2 [] (Jtd0 p)
 execute_state_instr : Has P p.execute_state_instr 2 [] (Jtcs p)
 execute_state_term : Has P p.execute_state_term 2 [] (Jtcv p)
 opcode_Of : Has P p.opcode_Of 1 [(.cell 2 (some 4)), (.tmp 3)] (Jtdk p)
 location_Reg : Has P p.location_Reg 1 [(.tmp 2)] (Jtd7 p)
 opcode_Source : Has P p.opcode_Source 1 [(.tmp 2)] (Jtdl p)
 source_within : Has P p.source_within 1 [(.tmp 2)] (Jteg p)
 source_blank : Has P p.source_blank 1 [(.tmp 2)] (Jtee p)
 opcode_Machine : Has P p.opcode_Machine 1 [(.tmp 2)] (Jtdj p)
 machine_others : Has P p.machine_others 0 [(.cell 0 (some 2))] (Jtdg p)
 machine_moves : Has P p.machine_moves 0 [(.cell 0 (some 2))] (Jtdd p)
 location_IsSlot : Has P p.location_IsSlot 1 [(.tmp 2)] (Jtd6 p)
 location_Index : Has P p.location_Index 1 [(.tmp 2)] (Jtd5 p)
 blockcheck_checker_cost : Has P p.blockcheck_checker_cost 1 [] (Jtc6 p)
 blockcheck_checker_become : Has P p.blockcheck_checker_become 3 [] (Jtc5 p)
 transfer_Copy : Has P p.transfer_Copy 3 [(.tmp 6)] (Jteh p)
 transfer_Move : Has P p.transfer_Move 3 [(.tmp 6)] (Jtej p)
 blockcheck_checker_instr : Has P p.blockcheck_checker_instr 4 [] (Jtc7 p)
 pairset_Has : Has P p.pairset_Has 2 [(.tmp 4)] (Jtds p)
 alu_Eval : Has P p.alu_Eval 4 [(.tmp 8), (.tmp 9)] (Jtbp p)
 execute_state_compute : Has P p.execute_state_compute 2 [(.tmp 4)] (Jtcq p)
 execute_state_move : Has P p.execute_state_move 2 [(.tmp 4)] (Jtct p)
 execute_state_emit : Has P p.execute_state_emit 2 [(.tmp 4)] (Jtcr p)
 opcode_known : Has P p.opcode_known 1 [(.tmp 2)] (Jtdm p)
 machine_others_1 : Has P p.machine_others_1 3 [(.tmp 6)] (Jtdh p)
 machine_others_2 : Has P p.machine_others_2 1 [(.tmp 2)] (Jtdi p)
 machine_moves_1 : Has P p.machine_moves_1 3 [(.tmp 6)] (Jtde p)
 machine_moves_2 : Has P p.machine_moves_2 1 [(.tmp 2)] (Jtdf p)
 transfer_rename : Has P p.transfer_rename 3 [(.tmp 6)] (Jtek p)
 pairset_DropV : Has P p.pairset_DropV 2 [(.tmp 4)] (Jtdq p)
 pairset_DropL : Has P p.pairset_DropL 2 [(.tmp 4)] (Jtdo p)
 transfer_Define : Has P p.transfer_Define 3 [(.tmp 6)] (Jtei p)
 pairset_find : Has P p.pairset_find 2 [(.tmp 4)] (Jtdy p)
 alu_operation : Has P p.alu_operation 1 [(.cell 2 (some 2)), (.tmp 3)] (Jtbq p)
 execute_state_at : Has P p.execute_state_at 2 [(.tmp 4)] (Jtcp p)
 pairset_Union : Has P p.pairset_Union 2 [(.tmp 4)] (Jtdw p)
 pairset_filter : Has P p.pairset_filter 2 [(.tmp 4)] (Jtdx p)
 pairset_DropV_1 : Has P p.pairset_DropV_1 2 [(.tmp 3)] (Jtdr p)
 pairset_DropL_1 : Has P p.pairset_DropL_1 2 [(.tmp 3)] (Jtdp p)
 pairset_Add : Has P p.pairset_Add 2 [(.tmp 4)] (Jtdn p)
 alu_operation_1 : Has P p.alu_operation_1 2 [(.tmp 4)] (Jtbr p)
 alu_operation_2 : Has P p.alu_operation_2 2 [(.tmp 4)] (Jtbv p)
 alu_operation_3 : Has P p.alu_operation_3 2 [(.tmp 4)] (Jtbw p)
 alu_operation_4 : Has P p.alu_operation_4 2 [(.tmp 4)] (Jtbx p)
 alu_operation_5 : Has P p.alu_operation_5 2 [(.tmp 4)] (Jtby p)
 alu_operation_6 : Has P p.alu_operation_6 2 [(.tmp 4)] (Jtbz p)
 alu_operation_7 : Has P p.alu_operation_7 2 [(.tmp 4)] (Jtc0 p)
 alu_operation_8 : Has P p.alu_operation_8 2 [(.tmp 4)] (Jtc1 p)
 alu_operation_9 : Has P p.alu_operation_9 2 [(.tmp 4)] (Jtc2 p)
 alu_operation_10 : Has P p.alu_operation_10 2 [(.tmp 4)] (Jtbs p)
 alu_operation_11 : Has P p.alu_operation_11 2 [(.tmp 4)] (Jtbt p)
 alu_truth : Has P p.alu_truth 1 [(.tmp 2)] (Jtc3 p)
 alu_operation_12 : Has P p.alu_operation_12 2 [(.tmp 4)] (Jtbu p)
end Go.AE
namespace Go.AE
open Go Go.Sort
theorem Jt77 {P : Program} {f : Nat} {args : List AV} {H : List Blk} {x : AV} (hx : ∀ e rows, x ≠ .own e rows) (hxv : ∀ org e rows, x ≠ .view org e rows)
  (hH : ∀ (b : Nat) (cells : List AV) (j e : Nat) (rows : List (List D)), H[b]? = some (Blk.mem cells) → cells[j]? ≠ some (AV.own e rows))
  (h : ∀ (g : Gh) (vs : Array Value) (w : World), vs.size = args.length → Sim args.length ⟨enum 0 args, H⟩ g ⟨vs, []⟩ w → ∃ v, (∀ F φ w, Rel F φ w x.erase v) ∧ Calls P f vs w fun e w' => e = .returned v ∧ ∃ q os, w' = grow (w.drewN q) os) :
  Jt3x P f args H fun o H' => o = .ret x ∧ H' = H := by
 intro g vs w hvs hs
 obtain ⟨v, hv, hc⟩ := h g vs w hvs hs
 refine hc.mono ?_
 rintro e w' ⟨rfl, q, os, rfl⟩
 have hheap : (grow (w.drewN q) os).heap = w.heap ++ os := rfl
 have hsame : ∀ r, r < w.heap.size → (grow (w.drewN q) os).heap[r]? = w.heap[r]? := by
  intro r hr; rw [hheap, Array.getElem?_append, if_pos hr]
 have hst : Stab g.F w g.F (grow (w.drewN q) os) := by
  refine ⟨fun _ _ => Nat.le_refl _, fun r j u hj hu => ?_, Jt8b hsame⟩
  have hlt := World.block_lt_of_cell? w ⟨r, j, none⟩ hu
  simp only [World.cell?] at hu ⊢
  rw [hsame r hlt]; exact hu
 have hno : ∀ p e rows, AP ⟨[(0, x)], H⟩ p ≠ some (.own e rows) := by
  intro p e rows hp
  cases p with
  | tmp t =>
   simp only [AP, get] at hp
   split at hp
   ·injection hp with hp; exact hx e rows hp
   ·cases hp
  | cell b j =>
   simp only [AP] at hp
   split at hp
   ·rename_i cells hb; exact hH b cells j e rows hb hp
   ·cases hp
 refine ⟨.ret x, H, g, v, ⟨rfl, rfl⟩, rfl, ?_, ⟨rfl, rfl, rfl, ?_, fun r hr _ => ⟨hsame r hr, rfl⟩, hst⟩, fun _ _ _ h => h, Nat.le_refl _, ?_⟩
 ·refine { size := by simp, env := ?_, inj := hs.inj, lt := ?_, dom := hs.dom, mem := ?_, iter := ?_, glob := ?_, own := ?_, excl := ?_, apart := ?_, view := ?_ }
  ·intro t y hy
   simp only [AOut.val, get] at hy
   split at hy
   ·rename_i h0; subst h0; injection hy with hy; subst hy; exact hv _ _ _
   ·cases hy
  ·intro b r hb
   obtain ⟨h1, h2, h3⟩ := hs.lt b r hb
   refine ⟨?_, h2, h3⟩
   rw [hheap]; simp only [Array.size_append]; omega
  ·intro b cells r hb hr
   obtain ⟨c, e, h1, h2, h3⟩ := hs.mem b cells r hb hr
   refine ⟨c, e, by rw [hsame r (hs.lt b r hr).1]; exact h1, h2, fun j y hy => ?_⟩
   obtain ⟨k1, u, k2, k3⟩ := h3 j y hy
   exact ⟨k1, u, k2, k3.stab hst fun _ _ h => h⟩
  ·intro b s pos r hb hr
   rw [hsame r (hs.lt b r hr).1]; exact hs.iter b s pos r hb hr
  ·intro b s pos r hb hr
   rw [hsame r (hs.lt b r hr).1]; exact hs.glob b s pos r hb hr
  ·exact fun p e rows v hp _ => absurd hp (hno p e rows)
  ·rintro p p' r ⟨e, rows, _, hp, _⟩; exact absurd hp (hno p e rows)
  ·rintro p r b ⟨e, rows, _, hp, _⟩; exact absurd hp (hno p e rows)
  ·intro t org e rows hy
   simp only [AOut.val, get] at hy
   split at hy
   ·injection hy with hy; exact absurd hy (hxv org e rows)
   ·cases hy
 ·rw [hheap]; simp only [Array.size_append]; exact Nat.le_add_right _ _
 ·rintro r (⟨b, hb⟩ | ⟨p, e, rows, _, hp, _⟩)
  ·exact .inl (.inl ⟨b, hb⟩)
  ·exact absurd hp (hno p e rows)
abbrev I (n : Int) : D := .int .i64 n
abbrev AI (n : Int) : AV := .d (.int .i64 n)
abbrev AB (b : Bool) : AV := .d (.bool b)
structure Pair where (v l : Int)
 deriving DecidableEq, Inhabited
def Pair.row (q : Pair) : List D := [I q.v, I q.l]
def Pair.av (q : Pair) : AV := .agg [AI q.v, AI q.l]
def pairsD (l : List Pair) : D := .sl (l.map Pair.row)
theorem HasL.cons_inv {l : LT} {ls : List LT} {ds : List D} (h : HasL (l :: ls) ds) : ∃ d ds', ds = d :: ds' ∧ HasT l d ∧ HasL ls ds' := by
 obtain ⟨h1, h2⟩ := h
 cases ds with
 | nil => simp at h1
 | cons d ds => exact ⟨d, ds, rfl, h2 0 l d rfl rfl, by simpa using h1, fun j l' x a b => h2 (j + 1) l' x (by simpa using a) (by simpa using b)⟩
theorem HasL.nil_inv {ds : List D} (h : HasL [] ds) : ds = [] := by
 have := h.1; simpa using this
theorem HasT.int_inv {k : IntKind} {d : D} (h : HasT (.int k) d) : ∃ n, d = .int k n ∧ (Lit.int k n).wf = true := by
 cases h with
 | int _ n h => exact ⟨n, rfl, h⟩
theorem HasT.sl_inv {ls : List LT} {d : D} (h : HasT (.sl ls) d) : ∃ rows, d = .sl rows ∧ rows.length ≤ maxLen ∧ ∀ r ∈ rows, HasL ls r := by
 cases h with
 | sl _ rows hl h0 h => exact ⟨rows, rfl, hl, fun r hr => ⟨h0 r hr, h r hr⟩⟩
theorem Jtm5 {α : Type} {g : α → List D} {Q : List D → Prop} (h : ∀ r, Q r → ∃ x, r = g x) : ∀ {rows : List (List D)}, (∀ r ∈ rows, Q r) → ∃ l : List α, rows = l.map g := by
 intro rows
 induction rows with
 | nil => intro _; exact ⟨[], rfl⟩
 | cons r rows ih =>
  intro hq
  obtain ⟨x, rfl⟩ := h r (hq r (by simp))
  obtain ⟨l, rfl⟩ := ih fun r hr => hq r (by simp [hr])
  exact ⟨x :: l, rfl⟩
def ltI : LT := .int .i64
def ltPair : List LT := [ltI, ltI]
def lessP (a b : Pair) : Bool := if a.v = b.v then decide (a.l < b.l) else decide (a.v < b.v)
theorem Jtfu {a b : Pair} : lessP a b = true ↔ a.v < b.v ∨ (a.v = b.v ∧ a.l < b.l) := by
 unfold lessP; split <;> simp <;> omega
theorem Jtfx {a b : Pair} (h1 : lessP a b = false) (h2 : lessP b a = false) : a = b := by
 have h1 : ¬ lessP a b = true := by simp [h1]
 have h2 : ¬ lessP b a = true := by simp [h2]
 rw [Jtfu] at h1 h2
 obtain ⟨a1, a2⟩ := a; obtain ⟨b1, b2⟩ := b
 simp only [Pair.mk.injEq]; simp only at h1 h2; omega
theorem Jtfy {a b c : Pair} (h1 : lessP a b = true) (h2 : lessP b c = true) : lessP a c = true := by
 rw [Jtfu] at *; omega
theorem Jtfv (a : Pair) : lessP a a = false := by
 cases h : lessP a a with
 | false => rfl
 | true => rw [Jtfu] at h; omega
theorem Jtft {a b : Pair} (h1 : lessP a b = true) : lessP b a = false := by
 cases h : lessP b a with
 | false => rfl
 | true => have := Jtfy h1 h; rw [Jtfv] at this; cases this
def stepA (p : Pair) (s : List Pair × Bool) (q : Pair) : List Pair × Bool :=
 let s := if s.2 = false ∧ lessP q p = false then (s.1 ++ [p], true) else s
 if q = p then s else (s.1 ++ [q], s.2)
def foldA (p : Pair) (l : List Pair) : List Pair × Bool := l.foldl (stepA p) ([], false)
def addP (l : List Pair) (p : Pair) : List Pair := if (foldA p l).2 = true then (foldA p l).1 else (foldA p l).1 ++ [p]
def makeP (l : List Pair) : List Pair := l.foldl addP []
def missP (a b : List Pair) : Option Pair := a.find? fun q => !decide (q ∈ b)
theorem Jt93 {a b : Pair} (h1 : a.v = b.v) (h2 : a.l = b.l) : a = b := by cases a; cases b; simp_all
theorem Jtj9 (a b : Pair) : (decide (a.v = b.v) && decide (a.l = b.l)) = decide (a = b) := by
 by_cases h : a = b
 ·subst h; simp
 ·rw [decide_eq_false h]
  cases h1 : decide (a.v = b.v) <;> cases h2 : decide (a.l = b.l) <;> simp_all
  exact h (Jt93 h1 h2)
theorem Jtj8 (a b : Pair) : (a.v == b.v && a.l == b.l) = decide (a = b) := by
 rw [← Jtj9]; rfl
def Srt (l : List Pair) : Prop := l.Pairwise fun a b => lessP a b = true
theorem Jtog {a : Pair} {l : List Pair} : Srt (a :: l) ↔ (∀ b ∈ l, lessP a b = true) ∧ Srt l := List.pairwise_cons
theorem Jtol {l : List Pair} (h : Srt l) {i j : Nat} (hij : i < j) (hj : j < l.length) : lessP (l[i]'(by omega)) l[j] = true := List.pairwise_iff_getElem.1 h i j (by omega) hj hij
theorem Jtof {l : List Pair} : Srt l ↔ ∀ k, (h : k + 1 < l.length) → lessP (l[k]) (l[k+1]) = true := by
 constructor
 ·intro h k hk; exact Jtol h (by omega) hk
 ·intro h
  refine List.pairwise_iff_getElem.2 fun i j hi hj hij => ?_
  obtain ⟨n, rfl⟩ : ∃ n, j = i + 1 + n := ⟨j - (i + 1), by omega⟩
  induction n with
  | zero => exact h i hj
  | succ n ih => exact Jtfy (ih (by omega) (by omega)) (h (i + 1 + n) (by omega))
theorem Jtoj : ∀ {a b : List Pair}, Srt a → Srt b → (∀ q, q ∈ a ↔ q ∈ b) → a = b := by
 intro a
 induction a with
 | nil =>
  intro b _ _ h
  cases b with
  | nil => rfl
  | cons y b => have := (h y).2 (by simp); cases this
 | cons x a ih =>
  intro b ha hb h
  cases b with
  | nil => have := (h x).1 (by simp); cases this
  | cons y b =>
   rw [Jtog] at ha hb
   have exy : x = y := by
    have h1 := (h x).1 (by simp)
    have h2 := (h y).2 (by simp)
    rw [List.mem_cons] at h1 h2
    rcases h1 with h1 | h1
    ·exact h1
    ·rcases h2 with h2 | h2
     ·exact h2.symm
     ·have := Jtft (hb.1 x h1); rw [ha.1 y h2] at this; cases this
   subst exy
   have : a = b := by
    refine ih ha.2 hb.2 fun q => ?_
    have hq := h q
    rw [List.mem_cons, List.mem_cons] at hq
    constructor
    ·intro hqa
     rcases hq.1 (.inr hqa) with e | e
     ·subst e; have := ha.1 q hqa; rw [Jtfv] at this; cases this
     ·exact e
    ·intro hqb
     rcases hq.2 (.inr hqb) with e | e
     ·subst e; have := hb.1 q hqb; rw [Jtfv] at this; cases this
     ·exact e
   rw [this]
def posP (l : List Pair) (p : Pair) : Nat := (l.takeWhile fun q => lessP q p).length
def insP (l : List Pair) (p : Pair) : List Pair := (l.takeWhile fun q => lessP q p) ++ p :: (l.dropWhile fun q => lessP q p).filter fun q => decide (q ≠ p)
theorem Jtfw {a b : Pair} (h : lessP a b = true) : a ≠ b := by rintro rfl; rw [Jtfv] at h; cases h
theorem Jtaa (p : Pair) (l out : List Pair) : l.foldl (stepA p) (out, true) = (out ++ l.filter (fun q => decide (q ≠ p)), true) := by
 induction l generalizing out with
 | nil => simp
 | cons q l ih =>
  by_cases e : q = p
  ·simp [stepA, e, ih]
  ·simp [stepA, e, ih]
theorem Jtab (p : Pair) (l out : List Pair) : l.foldl (stepA p) (out, false) = if (l.dropWhile fun q => lessP q p) = [] then (out ++ l, false) else (out ++ insP l p, true) := by
 induction l generalizing out with
 | nil => simp
 | cons q l ih =>
  cases h : lessP q p with
  | true =>
   have hne := Jtfw h
   simp only [List.foldl_cons, stepA, h, hne, if_false, and_false, ih, List.dropWhile_cons, if_true, Bool.true_eq_false, insP, List.takeWhile_cons]
   split <;> simp [List.append_assoc]
  | false =>
   simp only [List.foldl_cons, stepA, h, and_self, if_true, List.dropWhile_cons, Bool.false_eq_true, if_false, reduceCtorEq, insP, List.takeWhile_cons, List.nil_append]
   by_cases e : q = p
   ·simp [e, Jtaa]
   ·simp [e, Jtaa]
theorem Jt4n (l : List Pair) (p : Pair) : addP l p = insP l p := by
 unfold addP foldA
 rw [Jtab]
 split
 ·rename_i h
  simp only [List.nil_append, Bool.false_eq_true, if_false, insP, h, List.filter_nil]
  have : l.takeWhile (fun q => lessP q p) = l := by
   have e := List.takeWhile_append_dropWhile (p := fun q => lessP q p) (l := l)
   rw [h, List.append_nil] at e; exact e
  rw [this]
 ·simp
theorem Jthi {l : List Pair} {p q : Pair} : q ∈ addP l p ↔ q = p ∨ q ∈ l := by
 rw [Jt4n, insP]
 have e := List.takeWhile_append_dropWhile (p := fun q => lessP q p) (l := l)
 have e2 : q ∈ l ↔ q ∈ l.takeWhile (fun q => lessP q p) ∨ q ∈ l.dropWhile (fun q => lessP q p) := by
  rw [← List.mem_append, e]
 simp only [List.mem_append, List.mem_cons, List.mem_filter, decide_eq_true_eq, e2]
 by_cases h : q = p <;> simp [h]
theorem Jt8n {l : List Pair} {p : Pair} (h : Srt l) : ∀ q ∈ l.dropWhile (fun q => lessP q p), lessP q p = false := by
 induction l with
 | nil => intro q hq; simp at hq
 | cons x l ih =>
  intro q hq
  rw [Jtog] at h
  cases hx : lessP x p with
  | true => rw [List.dropWhile_cons, hx, if_pos rfl] at hq; exact ih h.2 q hq
  | false =>
   rw [List.dropWhile_cons, hx, if_neg (by simp)] at hq
   rcases List.mem_cons.1 hq with rfl | hq
   ·exact hx
   ·cases hqp : lessP q p with
    | false => rfl
    | true => rw [Jtfy (h.1 q hq) hqp] at hx; cases hx
theorem Jtpn {l : List Pair} {p : Pair} : ∀ q ∈ l.takeWhile (fun q => lessP q p), lessP q p = true := by
 induction l with
 | nil => intro q hq; simp at hq
 | cons x l ih =>
  intro q hq
  cases hx : lessP x p with
  | true =>
   rw [List.takeWhile_cons, hx, if_pos rfl] at hq
   rcases List.mem_cons.1 hq with rfl | hq
   ·exact hx
   ·exact ih q hq
  | false => rw [List.takeWhile_cons, hx, if_neg (by simp)] at hq; simp at hq
theorem Jtoq {a b : List Pair} (h : a.Sublist b) (hb : Srt b) : Srt a := List.Pairwise.sublist h hb
theorem Jtoe {l : List Pair} {p : Pair} (h : Srt l) : Srt (addP l p) := by
 rw [Jt4n, insP]
 refine List.pairwise_append.2 ⟨Jtoq (List.takeWhile_sublist _) h, Jtog.2 ⟨?_, ?_⟩, ?_⟩
 ·intro b hb
  rw [List.mem_filter, decide_eq_true_eq] at hb
  have h1 := Jt8n h b hb.1
  cases h2 : lessP p b with
  | true => rfl
  | false => exact absurd (Jtfx h2 h1).symm hb.2
 ·exact Jtoq (List.filter_sublist.trans (List.dropWhile_sublist _)) h
 ·intro a ha b hb
  have h1 := Jtpn a ha
  rcases List.mem_cons.1 hb with rfl | hb
  ·exact h1
  ·rw [List.mem_filter, decide_eq_true_eq] at hb
   have h2 := Jt8n h b hb.1
   cases h3 : lessP p b with
   | true => exact Jtfy h1 h3
   | false => exact absurd (Jtfx h3 h2).symm hb.2
theorem Jth7 (l : List Pair) (q : Pair) : makeP (l ++ [q]) = addP (makeP l) q := by simp [makeP]
theorem Jth6 {motive : List Pair → Prop} (h0 : motive []) (h1 : ∀ l q, motive l → motive (l ++ [q])) (l : List Pair) : motive l := by
 generalize hn : l.length = n
 induction n generalizing l with
 | zero => have : l = [] := List.length_eq_zero_iff.1 hn; subst this; exact h0
 | succ n ih =>
  have hne : l ≠ [] := by rintro rfl; simp at hn
  rw [← List.dropLast_concat_getLast hne]
  exact h1 _ _ (ih _ (by simp [hn]))
theorem Jtom (l : List Pair) : Srt (makeP l) := by
 induction l using Jth6 with
 | h0 => exact List.Pairwise.nil
 | h1 l q ih => rw [Jth7]; exact Jtoe ih
theorem Jthl {l : List Pair} {q : Pair} : q ∈ makeP l ↔ q ∈ l := by
 induction l using Jth6 with
 | h0 => simp [makeP]
 | h1 l x ih => rw [Jth7, Jthi, ih]; simp [or_comm]
theorem Jth8 {l : List Pair} (h : Srt l) : makeP l = l := Jtoj (Jtom l) h fun q => Jthl
theorem Jtop {l : List Pair} (h : Srt l) : l.Nodup := List.Pairwise.imp (fun h => Jtfw h) h
theorem Jt4o (l : List Pair) (p : Pair) : (addP l p).length ≤ l.length + 1 := by
 rw [Jt4n, insP]
 have e := congrArg List.length (List.takeWhile_append_dropWhile (p := fun q => lessP q p) (l := l))
 have e2 := List.length_filter_le (fun q => decide (q ≠ p)) (l.dropWhile fun q => lessP q p)
 simp only [List.length_append, List.length_cons] at e ⊢; omega
theorem Jth5 (l : List Pair) : (makeP l).length ≤ l.length := by
 induction l using Jth6 with
 | h0 => simp [makeP]
 | h1 l x ih => rw [Jth7]; have := Jt4o (makeP l) x; simp only [List.length_append, List.length_cons, List.length_nil]; omega
section
end
section
end
def missA (a b : List Pair) : AV := .tup [((missP a b).getD ⟨0, 0⟩).av, AB (missP a b).isSome]
theorem Jthw {a b : List Pair} {k : Nat} (h : k < a.length) (h1 : ∀ q ∈ a.take k, q ∈ b) (h2 : a[k] ∉ b) : missP a b = some a[k] := by
 unfold missP
 have e : a = a.take k ++ a[k] :: a.drop (k + 1) := by rw [List.getElem_cons_drop, List.take_append_drop]
 have e1 : (a.take k).find? (fun q => !decide (q ∈ b)) = none := by
  rw [List.find?_eq_none]; intro q hq; simp [h1 q hq]
 have e2 : (a[k] :: a.drop (k + 1)).find? (fun q => !decide (q ∈ b)) = some a[k] := by
  rw [List.find?_cons_of_pos (by simp [h2])]
 have e3 := congrArg (List.find? fun q => !decide (q ∈ b)) e
 rw [List.find?_append, e1, e2] at e3
 exact e3
theorem Jthx {a b : List Pair} (h1 : ∀ q ∈ a, q ∈ b) : missP a b = none := by
 unfold missP; rw [List.find?_eq_none]; intro q hq; simp [h1 q hq]
section
theorem Jtjj {P : Program} {p : Nums} (A : All P p) (a b : Pair) : Jt3x P p.pairset_Less [a.av, b.av] [] fun o _ => o = .ret (AB (lessP a b)) := by
 refine A.pairset_Less.run rfl fun R hR => ?_
 (simp (maxSteps := 1000000) [Jtdt, Pair.av])
 ((first | refine Xc (fun h => ?_) (fun h => ?_) | refine Xo (fun h => ?_) (fun h => ?_)) <;> (try simp only [Xz, Xy] at h))
 ·(simp (maxSteps := 1000000) [h])
  have e : lessP a b = true := by rw [Jtfu]; omega
  (first | exact hR _ _ FrA | exact hR _ _ FnA | exact hR _ _ (Xf (hq := by simp [AV.erase, AV.unview, e]; done)))
 (simp (maxSteps := 1000000) [h])
 ((first | refine Xc (fun h1 => ?_) (fun h1 => ?_) | refine Xo (fun h1 => ?_) (fun h1 => ?_)) <;> (try simp only [Xz, Xy] at h1))
 ·(simp (maxSteps := 1000000) [h1])
  (first | exact hR _ _ FrA | exact hR _ _ FnA | exact hR _ _ (Xf (hq := by simp [AV.erase, AV.unview, lessP, h1]; done)))
 ·(simp (maxSteps := 1000000) [h1])
  have e : lessP a b = false := by
   cases e : lessP a b with
   | false => rfl
   | true => rw [Jtfu] at e; omega
  (first | exact hR _ _ FrA | exact hR _ _ FnA | exact hR _ _ (Xf (hq := by simp [AV.erase, AV.unview, e]; done)))
end
end Go.AE
