/- A part of the proof: the evaluator over abstract values, its codes, the contracts of the functions. -/
import Derived.Test.YtcandpnhiboehaaY2
import Derived.Shelf.SlSortCmp.NoneTotal
import Derived.Lib.ItoaNum
import Derived.Shelf.Sort.Plain
import Derived.Sort.OwnSortedInts
set_option linter.unusedVariables false
set_option linter.unusedSimpArgs false
set_option maxRecDepth 100000
namespace Go.AE
@[simp] abbrev zi (n : Int) : AV := .d (.int .i64 n)
@[simp] abbrev ci (n : Int) : Opd := .c (.d (.int .i64 n))
@[simp] abbrev qo (d : Nat) (io : AO) : IOp := ⟨some d, io, none, false⟩
@[simp] abbrev qp (d : Nat) (io : AO) : IOp := ⟨some d, io, none, true⟩
@[simp] abbrev qn (io : AO) : IOp := ⟨none, io, none, false⟩
@[simp] abbrev qm (io : AO) : IOp := ⟨none, io, none, true⟩
structure Nums where
 law11_PairsetMatchesReference : Nat
 law11_PairsetMatchesSets : Nat
 law11_PairsetOrder : Nat
 law11_PairsetSubsets : Nat
 law23_LivenessMatchesReference : Nat
 law23_LivenessEquations : Nat
 law23_LivenessSound : Nat
 law23_LivenessNecessary : Nat
 law23_LivenessAppended : Nat
 law11_PairsetDrops : Nat
 law11_PairsetKeeps : Nat
 law11_awake : Nat
 ref11_Make : Nat
 pairset_Missing : Nat
 ref11_Missing : Nat
 pairset_Sorted : Nat
 ref11_Sorted : Nat
 ref11_Same : Nat
 pairset_Make : Nat
 pairset_Has : Nat
 ref11_Has : Nat
 pairset_Add : Nat
 ref11_Add : Nat
 pairset_Subset : Nat
 pairset_Union : Nat
 pairset_Less : Nat
 law23_awake : Nat
 ref07_Few : Nat
 ref07_Check : Nat
 ref23_Used : Nat
 ref23_Defines : Nat
 ref07_Numbers : Nat
 liveness_Uses : Nat
 liveness_Defs : Nat
 ref23_Same : Nat
 liveness_In : Nat
 ref23_In : Nat
 liveness_Out : Nat
 ref23_Out : Nat
 ref07_Successors : Nat
 ref23_Has : Nat
 ref09_Right : Nat
 ref09_Exec : Nat
 ref09_Step : Nat
 ref09_Copy : Nat
 ref09_Values : Nat
 ref07_Copy : Nat
 pairset_DropV : Nat
 pairset_DropL : Nat
 law11_spoil : Nat
 ref11_Less : Nat
 slices_Clone_Pair : Nat
 slices_SortFunc_Pair : Nat
 pairset_compare : Nat
 slices_Compact_Pair : Nat
 pairset_find : Nat
 ref07_Code : Nat
 ref07_Instr : Nat
 ref07_Term : Nat
 ref05_UsesA : Nat
 ref05_UsesB : Nat
 ref05_UsesD : Nat
 liveness_scan : Nat
 liveness_set_sorted : Nat
 liveness_solve : Nat
 ref23_live : Nat
 liveness_exit : Nat
 ref09_Start : Nat
 ref06_Eval : Nat
 pairset_filter : Nat
 pairset_DropV_1 : Nat
 pairset_DropL_1 : Nat
 slices_pdqsortCmpFunc_Pair : Nat
 math_bits_Len : Nat
 ref07_in : Nat
 liveness_scan_1 : Nat
 opcode_Of : Nat
 slices_Sort_int : Nat
 source_Successors : Nat
 ref06_bits : Nat
 ref06_half : Nat
 ref06_truth : Nat
 slices_insertionSortCmpFunc_Pair : Nat
 slices_heapSortCmpFunc_Pair : Nat
 slices_breakPatternsCmpFunc_Pair : Nat
 slices_choosePivotCmpFunc_Pair : Nat
 slices_reverseRangeCmpFunc_Pair : Nat
 slices_partialInsertionSortCmpFunc_Pair : Nat
 slices_partitionEqualCmpFunc_Pair : Nat
 slices_partitionCmpFunc_Pair : Nat
 math_bits_Len32 : Nat
 math_bits_Len64 : Nat
 opcode_known : Nat
 slices_pdqsortOrdered_int : Nat
 ref06_bit : Nat
 slices_siftDownCmpFunc_Pair : Nat
 slices_nextPowerOfTwo : Nat
 slices_xorshift_Next : Nat
 slices_medianAdjacentCmpFunc_Pair : Nat
 slices_medianCmpFunc_Pair : Nat
 slices_insertionSortOrdered_int : Nat
 slices_heapSortOrdered_int : Nat
 slices_breakPatternsOrdered_int : Nat
 slices_choosePivotOrdered_int : Nat
 slices_reverseRangeOrdered_int : Nat
 slices_partialInsertionSortOrdered_int : Nat
 cmp_Less_int : Nat
 slices_partitionEqualOrdered_int : Nat
 slices_partitionOrdered_int : Nat
 slices_order2CmpFunc_Pair : Nat
 slices_siftDownOrdered_int : Nat
 slices_medianAdjacentOrdered_int : Nat
 slices_medianOrdered_int : Nat
 cmp_isNaN_int : Nat
 slices_order2Ordered_int : Nat
 law22_SpillallKeeps : Nat
 law22_SpillallSlots : Nat
 law22_awake : Nat
 spillall_Cert : Nat
 ref22_Cert : Nat
 ref07_Same : Nat
 ref16_Same : Nat
 interp_Exec : Nat
 execute_Exec : Nat
 spillall_Block : Nat
 spillall_Moves : Nat
 source_Check : Nat
 slices_Clone_Instr : Nat
 spillall_invariant : Nat
 ref22_Block : Nat
 ref08_Moves : Nat
 ref08_Code : Nat
 ref08_Same : Nat
 ref15_Same : Nat
 interp_begin : Nat
 interp_state_step : Nat
 execute_begin : Nat
 execute_state_step : Nat
 spillall_builder_instr : Nat
 spillall_builder_add : Nat
 spillall_load : Nat
 source_Code : Nat
 source_block : Nat
 location_Slot : Nat
 ref22_move : Nat
 interp_state_instr : Nat
 interp_state_term : Nat
 execute_state_instr : Nat
 execute_state_term : Nat
 spillall_store : Nat
 location_Reg : Nat
 source_Instr : Nat
 source_Term : Nat
 alu_Eval : Nat
 execute_state_compute : Nat
 execute_state_move : Nat
 execute_state_emit : Nat
 opcode_Source : Nat
 source_within : Nat
 source_blank : Nat
 alu_operation : Nat
 execute_state_at : Nat
 alu_operation_1 : Nat
 alu_operation_2 : Nat
 alu_operation_3 : Nat
 alu_operation_4 : Nat
 alu_operation_5 : Nat
 alu_operation_6 : Nat
 alu_operation_7 : Nat
 alu_operation_8 : Nat
 alu_operation_9 : Nat
 alu_operation_10 : Nat
 alu_operation_11 : Nat
 alu_truth : Nat
 alu_operation_12 : Nat
 location_IsSlot : Nat
 location_Index : Nat
 law16_CheckerMatchesReference : Nat
 law16_CheckerOnce : Nat
 law16_CheckerLocal : Nat
 law16_CheckerSubset : Nat
 law16_CheckerKeeps : Nat
 law22_SpillallAccepted : Nat
 law16_CheckerSound : Nat
 law16_awake : Nat
 ref16_Few : Nat
 checker_Valid : Nat
 ref16_Valid : Nat
 checker_Check : Nat
 ref16_Check : Nat
 checker_Bound : Nat
 ref14_Check : Nat
 ref16_Copy : Nat
 law16_simulates : Nat
 ref08_Few : Nat
 ref15_Few : Nat
 machine_Check : Nat
 edge_Valid : Nat
 ref08_Check : Nat
 ref15_Valid : Nat
 checker_begin : Nat
 blockcheck_Check : Nat
 edge_Implies : Nat
 ref15_Initial : Nat
 machine_Code : Nat
 ref14_fail : Nat
 ref13_Code : Nat
 ref13_Terms : Nat
 ref14_grow : Nat
 ref12_Copy : Nat
 ref12_Move : Nat
 ref14_use : Nat
 ref12_Define : Nat
 ref08_Copy : Nat
 ref09_Prefix : Nat
 machine_block : Nat
 edge_total : Nat
 edge_pairs : Nat
 ref08_Instr : Nat
 ref04_InRange : Nat
 edge_Entry : Nat
 align_Code : Nat
 align_Terms : Nat
 blockcheck_checker_run : Nat
 ref13_Operations : Nat
 ref13_Others : Nat
 ref13_Same : Nat
 machine_Instr : Nat
 location_InRange : Nat
 edge_Initial : Nat
 align_skip_Instr : Nat
 align_copied : Nat
 align_skip_Mach : Nat
 align_moved : Nat
 align_Same : Nat
 blockcheck_checker_run_1 : Nat
 blockcheck_checker_row : Nat
 blockcheck_checker_use : Nat
 opcode_Machine : Nat
 machine_others : Nat
 machine_moves : Nat
 blockcheck_checker_cost : Nat
 blockcheck_checker_become : Nat
 transfer_Copy : Nat
 transfer_Move : Nat
 blockcheck_checker_instr : Nat
 machine_others_1 : Nat
 machine_others_2 : Nat
 machine_moves_1 : Nat
 machine_moves_2 : Nat
 transfer_rename : Nat
 transfer_Copy_1 : Nat
 transfer_Move_1 : Nat
 transfer_Define : Nat
 law12_TransferMatchesReference : Nat
 law12_TransferSound : Nat
 law12_TransferComplete : Nat
 law12_TransferMonotone : Nat
 law12_TransferKeeps : Nat
 law14_BlockcheckMatchesReference : Nat
 law14_BlockcheckSound : Nat
 law14_BlockcheckMonotone : Nat
 law14_BlockcheckSteps : Nat
 law14_BlockcheckKeeps : Nat
 law12_awake : Nat
 law12_known : Nat
 law12_holds : Nat
 law12_subset : Nat
 law14_awake : Nat
 law14_right : Nat
 ref14_Same : Nat
 law14_result : Nat
 ref10_Step : Nat
 ref10_Read : Nat
 law22_SpillallMatchesReference : Nat
 law04_LocationBijection : Nat
 law04_LocationTexts : Nat
 law04_LocationMatchesReference : Nat
 law04_LocationRange : Nat
 law04_awake : Nat
 location_Parse : Nat
 location_Text : Nat
 ref04_Parse : Nat
 ref04_Text : Nat
 strconv_Itoa : Nat
 ref04_Number : Nat
 ref04_Decimal : Nat
 ty_bcfail : Nat
@[simp] def Jq11 (p : Nums) : List IOp := [qo 2 (.box (.t 0)), qo 3 (.box (.t 1)), qo 4 (.asg (.c (.d (.bool false))))]
def Jqn (p : Nums) : IC := (.region (Jq11 p) [])
@[simp] theorem Jen {p : Nums} : EqI (Jqn p) (.region (Jq11 p) []) := eqi
@[simp] def Jq16 (p : Nums) : List IOp := [qo 11 (.call p.law23_awake []), qo 12 (.un .not (.t 11)), qo 13 (.mov (.t 12)), ⟨(some 14), (.load (some 3) (.t 2)), (some (13, false)), false⟩, ⟨(some 15), (.call p.ref07_Few [(.t 14)]), (some (13, false)), false⟩, ⟨(some 16), (.un .not (.t 15)), (some (13, false)), false⟩, qo 17 (.pick (.t 13) (.c (.d (.bool true))) (.t 16)), qo 18 (.mov (.t 17)), ⟨(some 19), (.load (some 3) (.t 2)), (some (18, false)), false⟩, ⟨(some 20), (.call p.ref07_Check [(.t 19)]), (some (18, false)), false⟩, ⟨(some 21), (.bin .neq (.t 20) (ci 0)), (some (18, false)), false⟩, qo 22 (.pick (.t 18) (.c (.d (.bool true))) (.t 21))]
def Jqs (p : Nums) : IC := (.region (Jq16 p) [])
@[simp] theorem Jes {p : Nums} : EqI (Jqs p) (.region (Jq16 p) []) := eqi
def Jqt (p : Nums) : IC := (.seq (.region [⟨(some 23), (.call p.law23_awake []), none, false⟩, ⟨(some 4), (.asg (.t 23)), none, false⟩] []) .ret)
@[simp] theorem Jet {p : Nums} : EqI (Jqt p) (.seq (.region [⟨(some 23), (.call p.law23_awake []), none, false⟩, ⟨(some 4), (.asg (.t 23)), none, false⟩] []) .ret) := eqi
@[simp] def Jq17 (p : Nums) : List IOp := [qo 24 (.load (some 3) (.t 2)), qo 25 (.call p.ref07_Copy [(.t 24)]), qo 5 (.alloc [(zi 0), (zi 0), .nils]), qn (.store 3 (.t 5) (.t 25))]
def Jqu (p : Nums) : IC := (.region (Jq17 p) [])
@[simp] theorem Jeu {p : Nums} : EqI (Jqu p) (.region (Jq17 p) []) := eqi
@[simp] def Jq18 (p : Nums) : List IOp := [qo 26 (.faddr 2 (.t 5)), qo 27 (.load none (.t 26)), qo 28 (.load (some 5) (.t 3)), qo 29 (.bslice 5 1 [(.sl []), (.int .i64 0), (.int .i64 0), (.int .i64 0), (.int .i64 0)] [(0, (.t 28))]), qo 30 (.app 5 56 (.t 27) (.t 29)), qo 31 (.faddr 2 (.t 5)), qn (.store 1 (.t 31) (.t 30))]
def Jqv (p : Nums) : IC := (.region (Jq18 p) [])
@[simp] theorem Jev {p : Nums} : EqI (Jqv p) (.region (Jq18 p) []) := eqi
@[simp] def Jq19 (p : Nums) : List IOp := [qo 32 (.load (some 3) (.t 5)), qo 33 (.call p.ref07_Few [(.t 32)]), qo 34 (.un .not (.t 33)), qo 35 (.mov (.t 34)), ⟨(some 36), (.load (some 3) (.t 5)), (some (35, false)), false⟩, ⟨(some 37), (.call p.ref07_Check [(.t 36)]), (some (35, false)), false⟩, ⟨(some 38), (.bin .neq (.t 37) (ci 0)), (some (35, false)), false⟩, qo 39 (.pick (.t 35) (.c (.d (.bool true))) (.t 38))]
def Jqw (p : Nums) : IC := (.region (Jq19 p) [])
@[simp] theorem Jew {p : Nums} : EqI (Jqw p) (.region (Jq19 p) []) := eqi
def Jqx (p : Nums) : IC := (.seq (.region [⟨(some 4), (.asg (.c (.d (.bool true)))), none, false⟩] []) .ret)
@[simp] theorem Jex {p : Nums} : EqI (Jqx p) (.seq (.region [⟨(some 4), (.asg (.c (.d (.bool true)))), none, false⟩] []) .ret) := eqi
@[simp] def Jq1a (p : Nums) : List IOp := [qo 40 (.load (some 3) (.t 2)), qo 41 (.call p.liveness_In [(.t 40)]), qo 6 (.asg (.t 41))]
def Jqy (p : Nums) : IC := (.region (Jq1a p) [])
@[simp] theorem Jey {p : Nums} : EqI (Jqy p) (.region (Jq1a p) []) := eqi
@[simp] def Jq1b (p : Nums) : List IOp := [qo 42 (.load (some 3) (.t 5)), qo 43 (.call p.liveness_In [(.t 42)]), qo 7 (.asg (.t 43))]
def Jqz (p : Nums) : IC := (.region (Jq1b p) [])
@[simp] theorem Jez {p : Nums} : EqI (Jqz p) (.region (Jq1b p) []) := eqi
@[simp] def Jq12 (p : Nums) : List IOp := [qo 44 (.load (some 3) (.t 2)), qo 45 (.call p.liveness_Out [(.t 44)]), qo 8 (.asg (.t 45))]
def Jqo (p : Nums) : IC := (.region (Jq12 p) [])
@[simp] theorem Jeo {p : Nums} : EqI (Jqo p) (.region (Jq12 p) []) := eqi
@[simp] def Jq13 (p : Nums) : List IOp := [qo 46 (.load (some 3) (.t 5)), qo 47 (.call p.liveness_Out [(.t 46)]), qo 9 (.asg (.t 47))]
def Jqp (p : Nums) : IC := (.region (Jq13 p) [])
@[simp] theorem Jep {p : Nums} : EqI (Jqp p) (.region (Jq13 p) []) := eqi
@[simp] def Jq14 (p : Nums) : List IOp := [qo 48 (.faddr 2 (.t 2)), qo 49 (.load none (.t 48)), qo 50 (.len (.t 49)), qo 10 (.asg (.t 50))]
def Jqq (p : Nums) : IC := (.region (Jq14 p) [])
@[simp] theorem Jeq {p : Nums} : EqI (Jqq p) (.region (Jq14 p) []) := eqi
@[simp] def Jq15 (p : Nums) : List IOp := [qo 51 (.mov (.t 6)), qo 52 (.len (.t 51)), qo 53 (.mov (.t 10)), qo 54 (.bin .eql (.t 52) (.t 53)), qo 55 (.mov (.t 54)), ⟨(some 56), (.mov (.t 7)), (some (55, true)), false⟩, ⟨(some 57), (.len (.t 56)), (some (55, true)), false⟩, ⟨(some 58), (.mov (.t 10)), (some (55, true)), false⟩, ⟨(some 59), (.bin .add (.t 58) (ci 1)), (some (55, true)), false⟩, ⟨(some 60), (.bin .eql (.t 57) (.t 59)), (some (55, true)), false⟩, qo 61 (.pick (.t 55) (.t 60) (.c (.d (.bool false)))), qo 62 (.mov (.t 61)), ⟨(some 63), (.mov (.t 8)), (some (62, true)), false⟩, ⟨(some 64), (.len (.t 63)), (some (62, true)), false⟩, ⟨(some 65), (.mov (.t 10)), (some (62, true)), false⟩, ⟨(some 66), (.bin .eql (.t 64) (.t 65)), (some (62, true)), false⟩, qo 67 (.pick (.t 62) (.t 66) (.c (.d (.bool false)))), qo 68 (.mov (.t 67)), ⟨(some 69), (.mov (.t 9)), (some (68, true)), false⟩, ⟨(some 70), (.len (.t 69)), (some (68, true)), false⟩, ⟨(some 71), (.mov (.t 10)), (some (68, true)), false⟩, ⟨(some 72), (.bin .add (.t 71) (ci 1)), (some (68, true)), false⟩, ⟨(some 73), (.bin .eql (.t 70) (.t 72)), (some (68, true)), false⟩, qo 74 (.pick (.t 68) (.t 73) (.c (.d (.bool false)))), qo 75 (.mov (.t 74)), ⟨(some 76), (.mov (.t 6)), (some (75, true)), false⟩, ⟨(some 77), (.mov (.t 7)), (some (75, true)), false⟩, ⟨(some 78), (.mov (.t 10)), (some (75, true)), false⟩, ⟨(some 79), (.slc 1 (.t 77) none (some (.t 78))), (some (75, true)), false⟩, ⟨(some 80), (.call p.ref23_Same [(.t 76), (.t 79)]), (some (75, true)), false⟩, qo 81 (.pick (.t 75) (.t 80) (.c (.d (.bool false)))), qo 82 (.mov (.t 81)), ⟨(some 83), (.mov (.t 8)), (some (82, true)), false⟩, ⟨(some 84), (.mov (.t 9)), (some (82, true)), false⟩, ⟨(some 85), (.mov (.t 10)), (some (82, true)), false⟩, ⟨(some 86), (.slc 1 (.t 84) none (some (.t 85))), (some (82, true)), false⟩, ⟨(some 87), (.call p.ref23_Same [(.t 83), (.t 86)]), (some (82, true)), false⟩, qo 88 (.pick (.t 82) (.t 87) (.c (.d (.bool false)))), qo 4 (.asg (.t 88))]
def Jqr (p : Nums) : IC := (.region (Jq15 p) [])
@[simp] theorem Jer {p : Nums} : EqI (Jqr p) (.region (Jq15 p) []) := eqi
def Jq10 (p : Nums) : IC := (.seq (.seq (Jqv p) .cut) (.seq (.seq (Jqw p) (.cond (.t 39) (Jqx p) .skip)) (.seq (Jqy p) (.seq (Jqz p) (.seq (Jqo p) (.seq (Jqp p) (.seq (Jqq p) (.seq (Jqr p) .ret))))))))
theorem Je10 {p : Nums} : EqI (Jq10 p) (.seq (.seq (Jqv p) .cut) (.seq (.seq (Jqw p) (.cond (.t 39) (Jqx p) .skip)) (.seq (Jqy p) (.seq (Jqz p) (.seq (Jqo p) (.seq (Jqp p) (.seq (Jqq p) (.seq (Jqr p) .ret)))))))) := eqi
def Jt9p (p : Nums) : IC := (.seq (Jqn p) (.seq (.seq (Jqs p) (.cond (.t 22) (Jqt p) .skip)) (.seq (Jqu p) (Jq10 p))))
@[simp] def Jq1f (p : Nums) : List IOp := [qo 3 (.build [(zi 0), (zi 0), (zi 0), (zi 0), (zi 0)] [(0, 1, (ci 5)), (1, 1, (ci 1)), (2, 1, (ci 1)), (3, 1, (ci 0))]), qo 4 (.bslice 5 1 [(.int .i64 0), (.int .i64 0), (.int .i64 0), (.int .i64 0), (.int .i64 0)] [(0, (.t 3))]), qo 5 (.build [(zi 0), (zi 0), (zi 0), (zi 0)] [(0, 1, (ci 3)), (1, 1, (ci 1))]), qo 6 (.build [.nils, (zi 0), (zi 0), (zi 0), (zi 0)] [(0, 1, (.t 4)), (1, 4, (.t 5))]), qo 1 (.alloc [.nils, (zi 0), (zi 0), (zi 0), (zi 0)]), qn (.store 5 (.t 1) (.t 6))]
def Jq1c (p : Nums) : IC := (.region (Jq1f p) [])
@[simp] theorem Je1c {p : Nums} : EqI (Jq1c p) (.region (Jq1f p) []) := eqi
@[simp] def Jq1g (p : Nums) : List IOp := [qo 7 (.build [(zi 0), (zi 0), (zi 0), (zi 0), (zi 0)] [(0, 1, (ci 1)), (1, 1, (ci 0))]), qo 8 (.bslice 5 1 [(.int .i64 0), (.int .i64 0), (.int .i64 0), (.int .i64 0), (.int .i64 0)] [(0, (.t 7))]), qo 9 (.build [(zi 0), (zi 0), (zi 0), (zi 0)] [(0, 1, (ci 1)), (2, 1, (ci 1))]), qo 10 (.build [.nils, (zi 0), (zi 0), (zi 0), (zi 0)] [(0, 1, (.t 8)), (1, 4, (.t 9))]), qo 11 (.load (some 5) (.t 1)), qo 12 (.bslice 5 2 [(.sl []), (.int .i64 0), (.int .i64 0), (.int .i64 0), (.int .i64 0)] [(0, (.t 10)), (1, (.t 11))]), qo 13 (.build [(zi 0), (zi 0), .nils] [(1, 1, (ci 3)), (2, 1, (.t 12))]), qo 2 (.alloc [(zi 0), (zi 0), .nils]), qn (.store 3 (.t 2) (.t 13))]
def Jq1d (p : Nums) : IC := (.region (Jq1g p) [])
@[simp] theorem Je1d {p : Nums} : EqI (Jq1d p) (.region (Jq1g p) []) := eqi
@[simp] def Jq1h (p : Nums) : List IOp := [qo 14 (.load (some 5) (.t 1)), qo 15 (.call p.liveness_Uses [(.t 14)]), qo 16 (.bslice 1 2 [(.int .i64 0)] [(0, (ci 0)), (1, (ci 1))]), qo 17 (.call p.ref07_Numbers [(.t 15), (.t 16)]), qo 18 (.mov (.t 17)), ⟨(some 19), (.load (some 5) (.t 1)), (some (18, true)), false⟩, ⟨(some 20), (.call p.liveness_Defs [(.t 19)]), (some (18, true)), false⟩, ⟨(some 21), (.bslice 1 1 [(.int .i64 0)] [(0, (ci 1))]), (some (18, true)), false⟩, ⟨(some 22), (.call p.ref07_Numbers [(.t 20), (.t 21)]), (some (18, true)), false⟩, qo 23 (.pick (.t 18) (.t 22) (.c (.d (.bool false)))), qo 24 (.mov (.t 23)), ⟨(some 25), (.load (some 3) (.t 2)), (some (24, true)), false⟩, ⟨(some 26), (.call p.liveness_In [(.t 25)]), (some (24, true)), false⟩, ⟨(some 27), (.bslice 1 1 [(.int .i64 0)] [(0, (ci 1))]), (some (24, true)), false⟩, ⟨(some 28), (.bslice 1 2 [(.int .i64 0)] [(0, (ci 0)), (1, (ci 1))]), (some (24, true)), false⟩, ⟨(some 29), (.bslice 1 2 [(.sl [])] [(0, (.t 27)), (1, (.t 28))]), (some (24, true)), false⟩, ⟨(some 30), (.call p.ref23_Same [(.t 26), (.t 29)]), (some (24, true)), false⟩, qo 31 (.pick (.t 24) (.t 30) (.c (.d (.bool false)))), qo 32 (.mov (.t 31)), ⟨(some 33), (.load (some 3) (.t 2)), (some (32, true)), false⟩, ⟨(some 34), (.call p.liveness_Out [(.t 33)]), (some (32, true)), false⟩, ⟨(some 35), (.bslice 1 2 [(.int .i64 0)] [(0, (ci 0)), (1, (ci 1))]), (some (32, true)), false⟩, ⟨(some 36), (.bslice 1 0 [(.int .i64 0)] []), (some (32, true)), false⟩, ⟨(some 37), (.bslice 1 2 [(.sl [])] [(0, (.t 35)), (1, (.t 36))]), (some (32, true)), false⟩, ⟨(some 38), (.call p.ref23_Same [(.t 34), (.t 37)]), (some (32, true)), false⟩, qo 39 (.pick (.t 32) (.t 38) (.c (.d (.bool false)))), qo 0 (.asg (.t 39))]
def Jq1e (p : Nums) : IC := (.region (Jq1h p) [])
@[simp] theorem Je1e {p : Nums} : EqI (Jq1e p) (.region (Jq1h p) []) := eqi
def Jt9q (p : Nums) : IC := (.seq (.region [⟨(some 0), (.asg (.c (.d (.bool false)))), none, false⟩] []) (.seq (Jq1c p) (.seq (Jq1d p) (.seq (Jq1e p) .ret))))
@[simp] def Jq6t (p : Nums) : List IOp := [qo 4 (.faddr 2 (.t 1)), qo 5 (.load none (.t 4)), qo 6 (.len (.t 5)), qo 7 (.bin .gtr (.t 6) (ci 40)), qo 8 (.mov (.t 7)), ⟨(some 9), (.faddr 1 (.t 1)), (some (8, false)), false⟩, ⟨(some 10), (.load none (.t 9)), (some (8, false)), false⟩, ⟨(some 11), (.bin .gtr (.t 10) (ci 60)), (some (8, false)), false⟩, qo 12 (.pick (.t 8) (.c (.d (.bool true))) (.t 11))]
def Jq6k (p : Nums) : IC := (.region (Jq6t p) [])
@[simp] theorem Je6k {p : Nums} : EqI (Jq6k p) (.region (Jq6t p) []) := eqi
def Jq6l (p : Nums) : IC := (.seq (.region [⟨(some 2), (.asg (.c (.d (.bool false)))), none, false⟩] []) .ret)
@[simp] theorem Je6l {p : Nums} : EqI (Jq6l p) (.seq (.region [⟨(some 2), (.asg (.c (.d (.bool false)))), none, false⟩] []) .ret) := eqi
@[simp] def Jq6u (p : Nums) : List IOp := [qo 13 (.mov (.t 3)), qo 14 (.faddr 2 (.t 1)), qo 15 (.load none (.t 14)), qo 16 (.len (.t 15)), qo 17 (.bin .lss (.t 13) (.t 16))]
def Jq6m (p : Nums) : IC := (.region (Jq6u p) [])
@[simp] theorem Je6m {p : Nums} : EqI (Jq6m p) (.region (Jq6u p) []) := eqi
@[simp] def Jq6v (p : Nums) : List IOp := [qo 20 (.faddr 2 (.t 1)), qo 21 (.load none (.t 20)), qo 22 (.mov (.t 3)), qo 23 (.iaddr 5 (.t 21) (.t 22)), qo 24 (.faddr 0 (.t 23)), qo 25 (.load none (.t 24)), qo 26 (.len (.t 25)), qo 27 (.bin .gtr (.t 26) (ci 100))]
def Jq6n (p : Nums) : IC := (.region (Jq6v p) [])
@[simp] theorem Je6n {p : Nums} : EqI (Jq6n p) (.region (Jq6v p) []) := eqi
def Jq6o (p : Nums) : IC := (.seq (.region [⟨(some 2), (.asg (.c (.d (.bool false)))), none, false⟩] []) .ret)
@[simp] theorem Je6o {p : Nums} : EqI (Jq6o p) (.seq (.region [⟨(some 2), (.asg (.c (.d (.bool false)))), none, false⟩] []) .ret) := eqi
def Jq6p (p : Nums) : IC := (.seq (Jq6n p) (.cond (.t 27) (Jq6o p) .skip))
@[simp] theorem Je6p {p : Nums} : EqI (Jq6p p) (.seq (Jq6n p) (.cond (.t 27) (Jq6o p) .skip)) := eqi
@[simp] def Jq6w (p : Nums) : List IOp := [qo 18 (.mov (.t 3)), qo 19 (.bin .add (.t 18) (ci 1)), qo 3 (.asg (.t 19))]
def Jq6q (p : Nums) : IC := (.region (Jq6w p) [])
@[simp] theorem Je6q {p : Nums} : EqI (Jq6q p) (.region (Jq6w p) []) := eqi
def Jq6r (p : Nums) : IC := (.seq (.seq (Jq6m p) (.cond (.t 17) .skip (.exit 0))) (.seq (.block 1 (Jq6p p)) (Jq6q p)))
@[simp] theorem Je6r {p : Nums} : EqI (Jq6r p) (.seq (.seq (Jq6m p) (.cond (.t 17) .skip (.exit 0))) (.seq (.block 1 (Jq6p p)) (Jq6q p))) := eqi
@[simp] def Jq6x (p : Nums) : List IOp := [qo 28 (.load (some 3) (.t 1)), qo 29 (.call p.ref07_Code [(.t 28)]), qo 30 (.bin .leq (.t 29) (ci 300)), qo 2 (.asg (.t 30))]
def Jq6s (p : Nums) : IC := (.region (Jq6x p) [])
@[simp] theorem Je6s {p : Nums} : EqI (Jq6s p) (.region (Jq6x p) []) := eqi
def Jta8 (p : Nums) : IC := (.seq (.region [⟨(some 1), (.box (.t 0)), none, false⟩, ⟨(some 2), (.asg (.c (.d (.bool false)))), none, false⟩] []) (.seq (.seq (Jq6k p) (.cond (.t 12) (Jq6l p) .skip)) (.seq (.seq (.region [⟨(some 3), (.asg (.c (.d (.int .i64 0)))), none, false⟩] []) (.block 0 (.loop (Jq6r p)))) (.seq (Jq6s p) .ret))))
@[simp] def Jq5t (p : Nums) : List IOp := [qo 8 (.faddr 0 (.t 1)), qo 9 (.load none (.t 8)), qo 10 (.bin .lss (.t 9) (ci 0)), qo 11 (.mov (.t 10)), ⟨(some 12), (.faddr 0 (.t 1)), (some (11, false)), false⟩, ⟨(some 13), (.load none (.t 12)), (some (11, false)), false⟩, ⟨(some 14), (.faddr 1 (.t 1)), (some (11, false)), false⟩, ⟨(some 15), (.load none (.t 14)), (some (11, false)), false⟩, ⟨(some 16), (.bin .gtr (.t 13) (.t 15)), (some (11, false)), false⟩, qo 17 (.pick (.t 11) (.c (.d (.bool true))) (.t 16))]
def Jq58 (p : Nums) : IC := (.region (Jq5t p) [])
@[simp] theorem Je58 {p : Nums} : EqI (Jq58 p) (.region (Jq5t p) []) := eqi
def Jq5j (p : Nums) : IC := (.seq (.region [⟨(some 2), (.asg (.c (.d (.int .i64 9)))), none, false⟩] []) .ret)
@[simp] theorem Je5j {p : Nums} : EqI (Jq5j p) (.seq (.region [⟨(some 2), (.asg (.c (.d (.int .i64 9)))), none, false⟩] []) .ret) := eqi
@[simp] def Jq60 (p : Nums) : List IOp := [qo 18 (.faddr 1 (.t 1)), qo 19 (.load none (.t 18)), qo 20 (.bin .gtr (.t 19) (ci 1048576))]
def Jq5m (p : Nums) : IC := (.region (Jq60 p) [])
@[simp] theorem Je5m {p : Nums} : EqI (Jq5m p) (.region (Jq60 p) []) := eqi
def Jq5n (p : Nums) : IC := (.seq (.region [⟨(some 2), (.asg (.c (.d (.int .i64 6)))), none, false⟩] []) .ret)
@[simp] theorem Je5n {p : Nums} : EqI (Jq5n p) (.seq (.region [⟨(some 2), (.asg (.c (.d (.int .i64 6)))), none, false⟩] []) .ret) := eqi
@[simp] def Jq61 (p : Nums) : List IOp := [qo 21 (.faddr 2 (.t 1)), qo 22 (.load none (.t 21)), qo 23 (.len (.t 22)), qo 24 (.bin .eql (.t 23) (ci 0))]
def Jq5o (p : Nums) : IC := (.region (Jq61 p) [])
@[simp] theorem Je5o {p : Nums} : EqI (Jq5o p) (.region (Jq61 p) []) := eqi
def Jq5p (p : Nums) : IC := (.seq (.region [⟨(some 2), (.asg (.c (.d (.int .i64 14)))), none, false⟩] []) .ret)
@[simp] theorem Je5p {p : Nums} : EqI (Jq5p p) (.seq (.region [⟨(some 2), (.asg (.c (.d (.int .i64 14)))), none, false⟩] []) .ret) := eqi
@[simp] def Jq62 (p : Nums) : List IOp := [qo 25 (.faddr 2 (.t 1)), qo 26 (.load none (.t 25)), qo 27 (.len (.t 26)), qo 28 (.bin .gtr (.t 27) (ci 1048576)), qo 29 (.mov (.t 28)), ⟨(some 30), (.load (some 3) (.t 1)), (some (29, false)), false⟩, ⟨(some 31), (.call p.ref07_Code [(.t 30)]), (some (29, false)), false⟩, ⟨(some 32), (.bin .gtr (.t 31) (ci 1048576)), (some (29, false)), false⟩, qo 33 (.pick (.t 29) (.c (.d (.bool true))) (.t 32))]
def Jq5q (p : Nums) : IC := (.region (Jq62 p) [])
@[simp] theorem Je5q {p : Nums} : EqI (Jq5q p) (.region (Jq62 p) []) := eqi
def Jq5r (p : Nums) : IC := (.seq (.region [⟨(some 2), (.asg (.c (.d (.int .i64 6)))), none, false⟩] []) .ret)
@[simp] theorem Je5r {p : Nums} : EqI (Jq5r p) (.seq (.region [⟨(some 2), (.asg (.c (.d (.int .i64 6)))), none, false⟩] []) .ret) := eqi
@[simp] def Jq63 (p : Nums) : List IOp := [qo 34 (.mov (.t 3)), qo 35 (.faddr 2 (.t 1)), qo 36 (.load none (.t 35)), qo 37 (.len (.t 36)), qo 38 (.bin .lss (.t 34) (.t 37))]
def Jq5s (p : Nums) : IC := (.region (Jq63 p) [])
@[simp] theorem Je5s {p : Nums} : EqI (Jq5s p) (.region (Jq63 p) []) := eqi
@[simp] def Jq5u (p : Nums) : List IOp := [qo 41 (.faddr 2 (.t 1)), qo 42 (.load none (.t 41)), qo 43 (.mov (.t 3)), qo 44 (.iaddr 5 (.t 42) (.t 43)), qo 45 (.load (some 5) (.t 44)), qo 4 (.alloc [.nils, (zi 0), (zi 0), (zi 0), (zi 0)]), qn (.store 5 (.t 4) (.t 45))]
def Jq59 (p : Nums) : IC := (.region (Jq5u p) [])
@[simp] theorem Je59 {p : Nums} : EqI (Jq59 p) (.region (Jq5u p) []) := eqi
@[simp] def Jq5v (p : Nums) : List IOp := [qo 46 (.mov (.t 5)), qo 47 (.faddr 0 (.t 4)), qo 48 (.load none (.t 47)), qo 49 (.len (.t 48)), qo 50 (.bin .lss (.t 46) (.t 49))]
def Jq5a (p : Nums) : IC := (.region (Jq5v p) [])
@[simp] theorem Je5a {p : Nums} : EqI (Jq5a p) (.region (Jq5v p) []) := eqi
@[simp] def Jq5w (p : Nums) : List IOp := [qp 53 (.faddr 0 (.t 4)), qp 54 (.load none (.t 53)), qp 55 (.mov (.t 5)), qp 56 (.iaddr 5 (.t 54) (.t 55)), qp 57 (.load (some 5) (.t 56)), qp 58 (.faddr 1 (.t 1)), qp 59 (.load none (.t 58)), qo 60 (.call p.ref07_Instr [(.t 57), (.t 59)]), qo 6 (.asg (.t 60))]
def Jq5b (p : Nums) : IC := (.region (Jq5w p) [])
@[simp] theorem Je5b {p : Nums} : EqI (Jq5b p) (.region (Jq5w p) []) := eqi
def Jq5c (p : Nums) : IC := (.seq (.region [⟨(some 63), (.mov (.t 6)), none, false⟩, ⟨(some 2), (.asg (.t 63)), none, false⟩] []) .ret)
@[simp] theorem Je5c {p : Nums} : EqI (Jq5c p) (.seq (.region [⟨(some 63), (.mov (.t 6)), none, false⟩, ⟨(some 2), (.asg (.t 63)), none, false⟩] []) .ret) := eqi
def Jq5d (p : Nums) : IC := (.seq (Jq5b p) (.seq (.region [⟨(some 61), (.mov (.t 6)), none, false⟩, ⟨(some 62), (.bin .neq (.t 61) (.c (.d (.int .i64 0)))), none, false⟩] []) (.cond (.t 62) (Jq5c p) .skip)))
@[simp] theorem Je5d {p : Nums} : EqI (Jq5d p) (.seq (Jq5b p) (.seq (.region [⟨(some 61), (.mov (.t 6)), none, false⟩, ⟨(some 62), (.bin .neq (.t 61) (.c (.d (.int .i64 0)))), none, false⟩] []) (.cond (.t 62) (Jq5c p) .skip))) := eqi
@[simp] def Jq5x (p : Nums) : List IOp := [qo 51 (.mov (.t 5)), qo 52 (.bin .add (.t 51) (ci 1)), qo 5 (.asg (.t 52))]
def Jq5e (p : Nums) : IC := (.region (Jq5x p) [])
@[simp] theorem Je5e {p : Nums} : EqI (Jq5e p) (.region (Jq5x p) []) := eqi
def Jq5f (p : Nums) : IC := (.seq (.seq (Jq5a p) (.cond (.t 50) .skip (.exit 2))) (.seq (.block 3 (Jq5d p)) (Jq5e p)))
@[simp] theorem Je5f {p : Nums} : EqI (Jq5f p) (.seq (.seq (Jq5a p) (.cond (.t 50) .skip (.exit 2))) (.seq (.block 3 (Jq5d p)) (Jq5e p))) := eqi
@[simp] def Jq5y (p : Nums) : List IOp := [qo 64 (.faddr 1 (.t 4)), qo 65 (.load (some 4) (.t 64)), qo 66 (.faddr 1 (.t 1)), qo 67 (.load none (.t 66)), qo 68 (.faddr 2 (.t 1)), qo 69 (.load none (.t 68)), qo 70 (.len (.t 69)), qo 71 (.call p.ref07_Term [(.t 65), (.t 67), (.t 70)]), qo 7 (.asg (.t 71))]
def Jq5g (p : Nums) : IC := (.region (Jq5y p) [])
@[simp] theorem Je5g {p : Nums} : EqI (Jq5g p) (.region (Jq5y p) []) := eqi
def Jq5h (p : Nums) : IC := (.seq (.region [⟨(some 74), (.mov (.t 7)), none, false⟩, ⟨(some 2), (.asg (.t 74)), none, false⟩] []) .ret)
@[simp] theorem Je5h {p : Nums} : EqI (Jq5h p) (.seq (.region [⟨(some 74), (.mov (.t 7)), none, false⟩, ⟨(some 2), (.asg (.t 74)), none, false⟩] []) .ret) := eqi
def Jq5i (p : Nums) : IC := (.seq (Jq59 p) (.seq (.seq (.region [⟨(some 5), (.asg (.c (.d (.int .i64 0)))), none, false⟩] []) (.block 2 (.loop (Jq5f p)))) (.seq (Jq5g p) (.seq (.region [⟨(some 72), (.mov (.t 7)), none, false⟩, ⟨(some 73), (.bin .neq (.t 72) (.c (.d (.int .i64 0)))), none, false⟩] []) (.cond (.t 73) (Jq5h p) .skip)))))
@[simp] theorem Je5i {p : Nums} : EqI (Jq5i p) (.seq (Jq59 p) (.seq (.seq (.region [⟨(some 5), (.asg (.c (.d (.int .i64 0)))), none, false⟩] []) (.block 2 (.loop (Jq5f p)))) (.seq (Jq5g p) (.seq (.region [⟨(some 72), (.mov (.t 7)), none, false⟩, ⟨(some 73), (.bin .neq (.t 72) (.c (.d (.int .i64 0)))), none, false⟩] []) (.cond (.t 73) (Jq5h p) .skip))))) := eqi
@[simp] def Jq5z (p : Nums) : List IOp := [qo 39 (.mov (.t 3)), qo 40 (.bin .add (.t 39) (ci 1)), qo 3 (.asg (.t 40))]
def Jq5k (p : Nums) : IC := (.region (Jq5z p) [])
@[simp] theorem Je5k {p : Nums} : EqI (Jq5k p) (.region (Jq5z p) []) := eqi
def Jq5l (p : Nums) : IC := (.seq (.seq (Jq5s p) (.cond (.t 38) .skip (.exit 0))) (.seq (.block 1 (Jq5i p)) (Jq5k p)))
@[simp] theorem Je5l {p : Nums} : EqI (Jq5l p) (.seq (.seq (Jq5s p) (.cond (.t 38) .skip (.exit 0))) (.seq (.block 1 (Jq5i p)) (Jq5k p))) := eqi
def Jta5 (p : Nums) : IC := (.seq (.region [⟨(some 1), (.box (.t 0)), none, false⟩, ⟨(some 2), (.asg (.c (.d (.int .i64 0)))), none, false⟩] []) (.seq (.seq (Jq58 p) (.cond (.t 17) (Jq5j p) .skip)) (.seq (.seq (Jq5m p) (.cond (.t 20) (Jq5n p) .skip)) (.seq (.seq (Jq5o p) (.cond (.t 24) (Jq5p p) .skip)) (.seq (.seq (Jq5q p) (.cond (.t 33) (Jq5r p) .skip)) (.seq (.seq (.region [⟨(some 3), (.asg (.c (.d (.int .i64 0)))), none, false⟩] []) (.block 0 (.loop (Jq5l p)))) (.seq (.region [⟨(some 2), (.asg (.c (.d (.int .i64 0)))), none, false⟩] []) .ret)))))))
@[simp] def Jq7i (p : Nums) : List IOp := [qo 6 (.mov (.t 0)), qo 7 (.len (.t 6)), qo 8 (.mov (.t 1)), qo 9 (.len (.t 8)), qo 10 (.bin .neq (.t 7) (.t 9))]
def Jq7a (p : Nums) : IC := (.region (Jq7i p) [])
@[simp] theorem Je7a {p : Nums} : EqI (Jq7a p) (.region (Jq7i p) []) := eqi
def Jq7b (p : Nums) : IC := (.seq (.region [⟨(some 4), (.asg (.c (.d (.bool false)))), none, false⟩] []) .ret)
@[simp] theorem Je7b {p : Nums} : EqI (Jq7b p) (.seq (.region [⟨(some 4), (.asg (.c (.d (.bool false)))), none, false⟩] []) .ret) := eqi
@[simp] def Jq7j (p : Nums) : List IOp := [qo 11 (.mov (.t 5)), qo 12 (.mov (.t 0)), qo 13 (.len (.t 12)), qo 14 (.bin .lss (.t 11) (.t 13))]
def Jq7c (p : Nums) : IC := (.region (Jq7j p) [])
@[simp] theorem Je7c {p : Nums} : EqI (Jq7c p) (.region (Jq7j p) []) := eqi
@[simp] def Jq7k (p : Nums) : List IOp := [qp 17 (.mov (.t 0)), qp 18 (.mov (.t 5)), qp 19 (.iaddr 1 (.t 17) (.t 18)), qp 20 (.load none (.t 19)), qp 21 (.mov (.t 1)), qp 22 (.mov (.t 5)), qp 23 (.iaddr 1 (.t 21) (.t 22)), qp 24 (.load none (.t 23)), qo 25 (.bin .neq (.t 20) (.t 24))]
def Jq7d (p : Nums) : IC := (.region (Jq7k p) [])
@[simp] theorem Je7d {p : Nums} : EqI (Jq7d p) (.region (Jq7k p) []) := eqi
def Jq7e (p : Nums) : IC := (.seq (.region [⟨(some 4), (.asg (.c (.d (.bool false)))), none, false⟩] []) .ret)
@[simp] theorem Je7e {p : Nums} : EqI (Jq7e p) (.seq (.region [⟨(some 4), (.asg (.c (.d (.bool false)))), none, false⟩] []) .ret) := eqi
def Jq7f (p : Nums) : IC := (.seq (Jq7d p) (.cond (.t 25) (Jq7e p) .skip))
@[simp] theorem Je7f {p : Nums} : EqI (Jq7f p) (.seq (Jq7d p) (.cond (.t 25) (Jq7e p) .skip)) := eqi
@[simp] def Jq7l (p : Nums) : List IOp := [qo 15 (.mov (.t 5)), qo 16 (.bin .add (.t 15) (ci 1)), qo 5 (.asg (.t 16))]
def Jq7g (p : Nums) : IC := (.region (Jq7l p) [])
@[simp] theorem Je7g {p : Nums} : EqI (Jq7g p) (.region (Jq7l p) []) := eqi
def Jq7h (p : Nums) : IC := (.seq (.seq (Jq7c p) (.cond (.t 14) .skip (.exit 0))) (.seq (.block 1 (Jq7f p)) (Jq7g p)))
@[simp] theorem Je7h {p : Nums} : EqI (Jq7h p) (.seq (.seq (Jq7c p) (.cond (.t 14) .skip (.exit 0))) (.seq (.block 1 (Jq7f p)) (Jq7g p))) := eqi
def Jtaa (p : Nums) : IC := (.seq (.region [⟨(some 4), (.asg (.c (.d (.bool false)))), none, false⟩] []) (.seq (.seq (Jq7a p) (.cond (.t 10) (Jq7b p) .skip)) (.seq (.seq (.region [⟨(some 5), (.asg (.c (.d (.int .i64 0)))), none, false⟩] []) (.block 0 (.loop (Jq7h p)))) (.seq (.region [⟨(some 4), (.asg (.c (.d (.bool true)))), none, false⟩] []) .ret))))
@[simp] def Jq24 (p : Nums) : List IOp := [qo 6 (.load (some 5) (.t 1)), qo 7 (.call p.liveness_scan [(.t 6)]), qo 5 (.mov (.t 7)), qo 8 (.ext (.t 5) 0), qo 9 (.ext (.t 5) 1), qo 3 (.asg (.t 8)), qo 4 (.asg (.t 9))]
def Jq22 (p : Nums) : IC := (.region (Jq24 p) [])
@[simp] theorem Je22 {p : Nums} : EqI (Jq22 p) (.region (Jq24 p) []) := eqi
@[simp] def Jq25 (p : Nums) : List IOp := [qo 10 (.mov (.t 3)), qo 11 (.call p.liveness_set_sorted [(.t 10)]), qo 2 (.asg (.t 11))]
def Jq23 (p : Nums) : IC := (.region (Jq25 p) [])
@[simp] theorem Je23 {p : Nums} : EqI (Jq23 p) (.region (Jq25 p) []) := eqi
def Jt9u (p : Nums) : IC := (.seq (.region [⟨(some 1), (.box (.t 0)), none, false⟩, ⟨(some 2), (.asg (.c .nils)), none, false⟩] []) (.seq (Jq22 p) (.seq (Jq23 p) .ret)))
@[simp] def Jq1k (p : Nums) : List IOp := [qo 6 (.load (some 5) (.t 1)), qo 7 (.call p.liveness_scan [(.t 6)]), qo 5 (.mov (.t 7)), qo 8 (.ext (.t 5) 0), qo 9 (.ext (.t 5) 1), qo 3 (.asg (.t 8)), qo 4 (.asg (.t 9))]
def Jq1i (p : Nums) : IC := (.region (Jq1k p) [])
@[simp] theorem Je1i {p : Nums} : EqI (Jq1i p) (.region (Jq1k p) []) := eqi
@[simp] def Jq1l (p : Nums) : List IOp := [qo 10 (.mov (.t 4)), qo 11 (.call p.liveness_set_sorted [(.t 10)]), qo 2 (.asg (.t 11))]
def Jq1j (p : Nums) : IC := (.region (Jq1l p) [])
@[simp] theorem Je1j {p : Nums} : EqI (Jq1j p) (.region (Jq1l p) []) := eqi
def Jt9r (p : Nums) : IC := (.seq (.region [⟨(some 1), (.box (.t 0)), none, false⟩, ⟨(some 2), (.asg (.c .nils)), none, false⟩] []) (.seq (Jq1i p) (.seq (Jq1j p) .ret)))
@[simp] def Jq8k (p : Nums) : List IOp := [qo 6 (.mov (.t 0)), qo 7 (.len (.t 6)), qo 8 (.mov (.t 1)), qo 9 (.len (.t 8)), qo 10 (.bin .neq (.t 7) (.t 9))]
def Jq8c (p : Nums) : IC := (.region (Jq8k p) [])
@[simp] theorem Je8c {p : Nums} : EqI (Jq8c p) (.region (Jq8k p) []) := eqi
def Jq8d (p : Nums) : IC := (.seq (.region [⟨(some 4), (.asg (.c (.d (.bool false)))), none, false⟩] []) .ret)
@[simp] theorem Je8d {p : Nums} : EqI (Jq8d p) (.seq (.region [⟨(some 4), (.asg (.c (.d (.bool false)))), none, false⟩] []) .ret) := eqi
@[simp] def Jq8l (p : Nums) : List IOp := [qo 11 (.mov (.t 5)), qo 12 (.mov (.t 0)), qo 13 (.len (.t 12)), qo 14 (.bin .lss (.t 11) (.t 13))]
def Jq8e (p : Nums) : IC := (.region (Jq8l p) [])
@[simp] theorem Je8e {p : Nums} : EqI (Jq8e p) (.region (Jq8l p) []) := eqi
@[simp] def Jq8m (p : Nums) : List IOp := [qp 17 (.mov (.t 0)), qp 18 (.mov (.t 5)), qp 19 (.iaddr 1 (.t 17) (.t 18)), qp 20 (.load none (.t 19)), qp 21 (.mov (.t 1)), qp 22 (.mov (.t 5)), qp 23 (.iaddr 1 (.t 21) (.t 22)), qp 24 (.load none (.t 23)), qo 25 (.call p.ref07_Numbers [(.t 20), (.t 24)]), qo 26 (.un .not (.t 25))]
def Jq8f (p : Nums) : IC := (.region (Jq8m p) [])
@[simp] theorem Je8f {p : Nums} : EqI (Jq8f p) (.region (Jq8m p) []) := eqi
def Jq8g (p : Nums) : IC := (.seq (.region [⟨(some 4), (.asg (.c (.d (.bool false)))), none, false⟩] []) .ret)
@[simp] theorem Je8g {p : Nums} : EqI (Jq8g p) (.seq (.region [⟨(some 4), (.asg (.c (.d (.bool false)))), none, false⟩] []) .ret) := eqi
def Jq8h (p : Nums) : IC := (.seq (Jq8f p) (.cond (.t 26) (Jq8g p) .skip))
@[simp] theorem Je8h {p : Nums} : EqI (Jq8h p) (.seq (Jq8f p) (.cond (.t 26) (Jq8g p) .skip)) := eqi
@[simp] def Jq8n (p : Nums) : List IOp := [qo 15 (.mov (.t 5)), qo 16 (.bin .add (.t 15) (ci 1)), qo 5 (.asg (.t 16))]
def Jq8i (p : Nums) : IC := (.region (Jq8n p) [])
@[simp] theorem Je8i {p : Nums} : EqI (Jq8i p) (.region (Jq8n p) []) := eqi
def Jq8j (p : Nums) : IC := (.seq (.seq (Jq8e p) (.cond (.t 14) .skip (.exit 0))) (.seq (.block 1 (Jq8h p)) (Jq8i p)))
@[simp] theorem Je8j {p : Nums} : EqI (Jq8j p) (.seq (.seq (Jq8e p) (.cond (.t 14) .skip (.exit 0))) (.seq (.block 1 (Jq8h p)) (Jq8i p))) := eqi
def Jtad (p : Nums) : IC := (.seq (.region [⟨(some 4), (.asg (.c (.d (.bool false)))), none, false⟩] []) (.seq (.seq (Jq8c p) (.cond (.t 10) (Jq8d p) .skip)) (.seq (.seq (.region [⟨(some 5), (.asg (.c (.d (.int .i64 0)))), none, false⟩] []) (.block 0 (.loop (Jq8j p)))) (.seq (.region [⟨(some 4), (.asg (.c (.d (.bool true)))), none, false⟩] []) .ret))))
@[simp] def Jq1q (p : Nums) : List IOp := [qo 6 (.load (some 3) (.t 1)), qo 7 (.call p.liveness_solve [(.t 6)]), qo 8 (.len (.t 7)), qo 9 (.mov (ci 0))]
def Jq1m (p : Nums) : IC := (.region (Jq1q p) [])
@[simp] theorem Je1m {p : Nums} : EqI (Jq1m p) (.region (Jq1q p) []) := eqi
@[simp] def Jq1r (p : Nums) : List IOp := [qo 11 (.iaddr 1 (.t 7) (.t 9)), qo 12 (.load none (.t 11)), qo 5 (.asg (.t 12))]
def Jq1n (p : Nums) : IC := (.region (Jq1r p) [])
@[simp] theorem Je1n {p : Nums} : EqI (Jq1n p) (.region (Jq1r p) []) := eqi
@[simp] def Jq1s (p : Nums) : List IOp := [qo 13 (.mov (.t 3)), qo 14 (.mov (.t 5)), qo 15 (.call p.liveness_set_sorted [(.t 14)]), qo 16 (.bslice 1 1 [(.sl [])] [(0, (.t 15))]), qo 17 (.app 1 24 (.t 13) (.t 16)), qo 3 (.asg (.t 17))]
def Jq1o (p : Nums) : IC := (.region (Jq1s p) [])
@[simp] theorem Je1o {p : Nums} : EqI (Jq1o p) (.region (Jq1s p) []) := eqi
def Jq1p (p : Nums) : IC := (.seq (.region [⟨(some 10), (.bin .lss (.t 9) (.t 8)), none, false⟩] []) (.seq (.cond (.t 10) .skip (.exit 0)) (.seq (.block 1 (.seq (Jq1n p) (Jq1o p))) (.region [⟨(some 18), (.bin .add (.t 9) (.c (.d (.int .i64 1)))), none, false⟩, ⟨(some 9), (.mov (.t 18)), none, false⟩] []))))
@[simp] theorem Je1p {p : Nums} : EqI (Jq1p p) (.seq (.region [⟨(some 10), (.bin .lss (.t 9) (.t 8)), none, false⟩] []) (.seq (.cond (.t 10) .skip (.exit 0)) (.seq (.block 1 (.seq (Jq1n p) (Jq1o p))) (.region [⟨(some 18), (.bin .add (.t 9) (.c (.d (.int .i64 1)))), none, false⟩, ⟨(some 9), (.mov (.t 18)), none, false⟩] [])))) := eqi
def Jt9s (p : Nums) : IC := (.seq (.region [⟨(some 1), (.box (.t 0)), none, false⟩, ⟨(some 2), (.asg (.c .nils)), none, false⟩] []) (.seq (.region [⟨(some 3), (.asg (.c .nils)), none, false⟩] []) (.seq (.seq (Jq1m p) (.block 0 (.loop (Jq1p p)))) (.seq (.region [⟨(some 19), (.mov (.t 3)), none, false⟩, ⟨(some 2), (.asg (.t 19)), none, false⟩] []) .ret))))
@[simp] def Jq1y (p : Nums) : List IOp := [qo 7 (.load (some 3) (.t 1)), qo 8 (.call p.liveness_solve [(.t 7)]), qo 3 (.asg (.t 8))]
def Jq1t (p : Nums) : IC := (.region (Jq1y p) [])
@[simp] theorem Je1t {p : Nums} : EqI (Jq1t p) (.region (Jq1y p) []) := eqi
@[simp] def Jq1z (p : Nums) : List IOp := [qo 9 (.faddr 2 (.t 1)), qo 10 (.load none (.t 9)), qo 11 (.len (.t 10)), qo 12 (.mov (ci 0))]
def Jq1u (p : Nums) : IC := (.region (Jq1z p) [])
@[simp] theorem Je1u {p : Nums} : EqI (Jq1u p) (.region (Jq1z p) []) := eqi
@[simp] def Jq20 (p : Nums) : List IOp := [qo 14 (.iaddr 5 (.t 10) (.t 12)), qo 15 (.load (some 5) (.t 14)), qo 6 (.alloc [.nils, (zi 0), (zi 0), (zi 0), (zi 0)]), qn (.store 5 (.t 6) (.t 15))]
def Jq1v (p : Nums) : IC := (.region (Jq20 p) [])
@[simp] theorem Je1v {p : Nums} : EqI (Jq1v p) (.region (Jq20 p) []) := eqi
@[simp] def Jq21 (p : Nums) : List IOp := [qo 16 (.mov (.t 4)), qo 17 (.mov (.t 3)), qo 18 (.load (some 5) (.t 6)), qo 19 (.call p.liveness_exit [(.t 17), (.t 18)]), qo 20 (.call p.liveness_set_sorted [(.t 19)]), qo 21 (.bslice 1 1 [(.sl [])] [(0, (.t 20))]), qo 22 (.app 1 24 (.t 16) (.t 21)), qo 4 (.asg (.t 22))]
def Jq1w (p : Nums) : IC := (.region (Jq21 p) [])
@[simp] theorem Je1w {p : Nums} : EqI (Jq1w p) (.region (Jq21 p) []) := eqi
def Jq1x (p : Nums) : IC := (.seq (.region [⟨(some 13), (.bin .lss (.t 12) (.t 11)), none, false⟩] []) (.seq (.cond (.t 13) .skip (.exit 0)) (.seq (.block 1 (.seq (Jq1v p) (Jq1w p))) (.region [⟨(some 23), (.bin .add (.t 12) (.c (.d (.int .i64 1)))), none, false⟩, ⟨(some 12), (.mov (.t 23)), none, false⟩] []))))
@[simp] theorem Je1x {p : Nums} : EqI (Jq1x p) (.seq (.region [⟨(some 13), (.bin .lss (.t 12) (.t 11)), none, false⟩] []) (.seq (.cond (.t 13) .skip (.exit 0)) (.seq (.block 1 (.seq (Jq1v p) (Jq1w p))) (.region [⟨(some 23), (.bin .add (.t 12) (.c (.d (.int .i64 1)))), none, false⟩, ⟨(some 12), (.mov (.t 23)), none, false⟩] [])))) := eqi
def Jt9t (p : Nums) : IC := (.seq (.region [⟨(some 1), (.box (.t 0)), none, false⟩, ⟨(some 2), (.asg (.c .nils)), none, false⟩] []) (.seq (Jq1t p) (.seq (.region [⟨(some 4), (.asg (.c .nils)), none, false⟩] []) (.seq (.seq (Jq1u p) (.block 0 (.loop (Jq1x p)))) (.seq (.region [⟨(some 24), (.mov (.t 4)), none, false⟩, ⟨(some 2), (.asg (.t 24)), none, false⟩] []) .ret)))))
@[simp] def Jq6g (p : Nums) : List IOp := [qo 5 (.faddr 0 (.t 1)), qo 6 (.load none (.t 5)), qo 7 (.faddr 1 (.t 1)), qo 8 (.load none (.t 7)), qo 9 (.build [(zi 0), (zi 0), .nils] [(0, 1, (.t 6)), (1, 1, (.t 8))]), qo 3 (.alloc [(zi 0), (zi 0), .nils]), qn (.store 3 (.t 3) (.t 9))]
def Jq6b (p : Nums) : IC := (.region (Jq6g p) [])
@[simp] theorem Je6b {p : Nums} : EqI (Jq6b p) (.region (Jq6g p) []) := eqi
@[simp] def Jq6h (p : Nums) : List IOp := [qo 10 (.mov (.t 4)), qo 11 (.faddr 2 (.t 1)), qo 12 (.load none (.t 11)), qo 13 (.len (.t 12)), qo 14 (.bin .lss (.t 10) (.t 13))]
def Jq6c (p : Nums) : IC := (.region (Jq6h p) [])
@[simp] theorem Je6c {p : Nums} : EqI (Jq6c p) (.region (Jq6h p) []) := eqi
@[simp] def Jq6i (p : Nums) : List IOp := [qp 17 (.faddr 2 (.t 3)), qp 18 (.load none (.t 17)), qp 19 (.bslice 5 0 [(.int .i64 0), (.int .i64 0), (.int .i64 0), (.int .i64 0), (.int .i64 0)] []), qp 20 (.faddr 2 (.t 1)), qp 21 (.load none (.t 20)), qp 22 (.mov (.t 4)), qp 23 (.iaddr 5 (.t 21) (.t 22)), qp 24 (.faddr 0 (.t 23)), qp 25 (.load none (.t 24)), qp 26 (.app 5 40 (.t 19) (.t 25)), qp 27 (.faddr 2 (.t 1)), qp 28 (.load none (.t 27)), qp 29 (.mov (.t 4)), qp 30 (.iaddr 5 (.t 28) (.t 29)), qp 31 (.faddr 1 (.t 30)), qp 32 (.load (some 4) (.t 31)), qp 33 (.build [.nils, (zi 0), (zi 0), (zi 0), (zi 0)] [(0, 1, (.t 26)), (1, 4, (.t 32))]), qp 34 (.bslice 5 1 [(.sl []), (.int .i64 0), (.int .i64 0), (.int .i64 0), (.int .i64 0)] [(0, (.t 33))]), qo 35 (.app 5 56 (.t 18) (.t 34)), qo 36 (.faddr 2 (.t 3)), qn (.store 1 (.t 36) (.t 35))]
def Jq6d (p : Nums) : IC := (.region (Jq6i p) [])
@[simp] theorem Je6d {p : Nums} : EqI (Jq6d p) (.region (Jq6i p) []) := eqi
@[simp] def Jq6j (p : Nums) : List IOp := [qo 15 (.mov (.t 4)), qo 16 (.bin .add (.t 15) (ci 1)), qo 4 (.asg (.t 16))]
def Jq6e (p : Nums) : IC := (.region (Jq6j p) [])
@[simp] theorem Je6e {p : Nums} : EqI (Jq6e p) (.region (Jq6j p) []) := eqi
def Jq6f (p : Nums) : IC := (.seq (.seq (Jq6c p) (.cond (.t 14) .skip (.exit 0))) (.seq (.block 1 (Jq6d p)) (Jq6e p)))
@[simp] theorem Je6f {p : Nums} : EqI (Jq6f p) (.seq (.seq (Jq6c p) (.cond (.t 14) .skip (.exit 0))) (.seq (.block 1 (Jq6d p)) (Jq6e p))) := eqi
def Jta7 (p : Nums) : IC := (.seq (.region [⟨(some 1), (.box (.t 0)), none, false⟩, ⟨(some 2), (.alloc [(.d (.int .i64 0)), (.d (.int .i64 0)), .nils]), none, false⟩] []) (.seq (Jq6b p) (.seq (.seq (.region [⟨(some 4), (.asg (.c (.d (.int .i64 0)))), none, false⟩] []) (.block 0 (.loop (Jq6f p)))) (.seq (.region [⟨(some 37), (.load (some 3) (.t 3)), none, false⟩, ⟨none, (.store 3 (.t 2) (.t 37)), none, false⟩] []) .ret))))
@[simp] def Jq68 (p : Nums) : List IOp := [qo 5 (.mov (.t 4)), qo 6 (.faddr 2 (.t 1)), qo 7 (.load none (.t 6)), qo 8 (.len (.t 7)), qo 9 (.bin .lss (.t 5) (.t 8))]
def Jq64 (p : Nums) : IC := (.region (Jq68 p) [])
@[simp] theorem Je64 {p : Nums} : EqI (Jq64 p) (.region (Jq68 p) []) := eqi
@[simp] def Jq69 (p : Nums) : List IOp := [qo 12 (.mov (.t 3)), qo 13 (.faddr 2 (.t 1)), qo 14 (.load none (.t 13)), qo 15 (.mov (.t 4)), qo 16 (.iaddr 5 (.t 14) (.t 15)), qo 17 (.faddr 0 (.t 16)), qo 18 (.load none (.t 17)), qo 19 (.len (.t 18)), qo 20 (.bin .add (.t 12) (.t 19)), qo 3 (.asg (.t 20))]
def Jq65 (p : Nums) : IC := (.region (Jq69 p) [])
@[simp] theorem Je65 {p : Nums} : EqI (Jq65 p) (.region (Jq69 p) []) := eqi
@[simp] def Jq6a (p : Nums) : List IOp := [qo 10 (.mov (.t 4)), qo 11 (.bin .add (.t 10) (ci 1)), qo 4 (.asg (.t 11))]
def Jq66 (p : Nums) : IC := (.region (Jq6a p) [])
@[simp] theorem Je66 {p : Nums} : EqI (Jq66 p) (.region (Jq6a p) []) := eqi
def Jq67 (p : Nums) : IC := (.seq (.seq (Jq64 p) (.cond (.t 9) .skip (.exit 0))) (.seq (.block 1 (Jq65 p)) (Jq66 p)))
@[simp] theorem Je67 {p : Nums} : EqI (Jq67 p) (.seq (.seq (Jq64 p) (.cond (.t 9) .skip (.exit 0))) (.seq (.block 1 (Jq65 p)) (Jq66 p))) := eqi
def Jta6 (p : Nums) : IC := (.seq (.region [⟨(some 1), (.box (.t 0)), none, false⟩, ⟨(some 2), (.asg (.c (.d (.int .i64 0)))), none, false⟩] []) (.seq (.region [⟨(some 3), (.asg (.c (.d (.int .i64 0)))), none, false⟩] []) (.seq (.seq (.region [⟨(some 4), (.asg (.c (.d (.int .i64 0)))), none, false⟩] []) (.block 0 (.loop (Jq67 p)))) (.seq (.region [⟨(some 21), (.mov (.t 3)), none, false⟩, ⟨(some 2), (.asg (.t 21)), none, false⟩] []) .ret))))
@[simp] def Jq77 (p : Nums) : List IOp := [qo 5 (.faddr 0 (.t 2)), qo 6 (.load none (.t 5)), qo 7 (.bin .lss (.t 6) (ci 1)), qo 8 (.mov (.t 7)), ⟨(some 9), (.faddr 0 (.t 2)), (some (8, false)), false⟩, ⟨(some 10), (.load none (.t 9)), (some (8, false)), false⟩, ⟨(some 11), (.bin .gtr (.t 10) (ci 17)), (some (8, false)), false⟩, qo 12 (.pick (.t 8) (.c (.d (.bool true))) (.t 11))]
def Jq6y (p : Nums) : IC := (.region (Jq77 p) [])
@[simp] theorem Je6y {p : Nums} : EqI (Jq6y p) (.region (Jq77 p) []) := eqi
def Jq6z (p : Nums) : IC := (.seq (.region [⟨(some 4), (.asg (.c (.d (.int .i64 8)))), none, false⟩] []) .ret)
@[simp] theorem Je6z {p : Nums} : EqI (Jq6z p) (.seq (.region [⟨(some 4), (.asg (.c (.d (.int .i64 8)))), none, false⟩] []) .ret) := eqi
def Jq74 (p : Nums) : IC := (.seq (.seq (Jq6y p) .cut) (.cond (.t 12) (Jq6z p) .skip))
theorem Je74 {p : Nums} : EqI (Jq74 p) (.seq (.seq (Jq6y p) .cut) (.cond (.t 12) (Jq6z p) .skip)) := eqi
@[simp] def Jq78 (p : Nums) : List IOp := [qo 13 (.faddr 0 (.t 2)), qo 14 (.load none (.t 13)), qo 15 (.call p.ref05_UsesD [(.t 14)]), qo 16 (.mov (.t 15)), ⟨(some 17), (.faddr 1 (.t 2)), (some (16, true)), false⟩, ⟨(some 18), (.load none (.t 17)), (some (16, true)), false⟩, ⟨(some 19), (.mov (.t 1)), (some (16, true)), false⟩, ⟨(some 20), (.call p.ref07_in [(.t 18), (.t 19)]), (some (16, true)), false⟩, ⟨(some 21), (.un .not (.t 20)), (some (16, true)), false⟩, qo 22 (.pick (.t 16) (.t 21) (.c (.d (.bool false)))), qo 23 (.mov (.t 22)), ⟨(some 24), (.faddr 0 (.t 2)), (some (23, false)), false⟩, ⟨(some 25), (.load none (.t 24)), (some (23, false)), false⟩, ⟨(some 26), (.call p.ref05_UsesA [(.t 25)]), (some (23, false)), false⟩, ⟨(some 27), (.mov (.t 26)), (some (23, false)), false⟩, ⟨(some 28), (.faddr 2 (.t 2)), (some (27, true)), false⟩, ⟨(some 29), (.load none (.t 28)), (some (27, true)), false⟩, ⟨(some 30), (.mov (.t 1)), (some (27, true)), false⟩, ⟨(some 31), (.call p.ref07_in [(.t 29), (.t 30)]), (some (27, true)), false⟩, ⟨(some 32), (.un .not (.t 31)), (some (27, true)), false⟩, ⟨(some 33), (.pick (.t 27) (.t 32) (.c (.d (.bool false)))), (some (23, false)), false⟩, qo 34 (.pick (.t 23) (.c (.d (.bool true))) (.t 33)), qo 35 (.mov (.t 34)), ⟨(some 36), (.faddr 0 (.t 2)), (some (35, false)), false⟩, ⟨(some 37), (.load none (.t 36)), (some (35, false)), false⟩, ⟨(some 38), (.call p.ref05_UsesB [(.t 37)]), (some (35, false)), false⟩, ⟨(some 39), (.mov (.t 38)), (some (35, false)), false⟩, ⟨(some 40), (.faddr 3 (.t 2)), (some (39, true)), false⟩, ⟨(some 41), (.load none (.t 40)), (some (39, true)), false⟩, ⟨(some 42), (.mov (.t 1)), (some (39, true)), false⟩, ⟨(some 43), (.call p.ref07_in [(.t 41), (.t 42)]), (some (39, true)), false⟩, ⟨(some 44), (.un .not (.t 43)), (some (39, true)), false⟩, ⟨(some 45), (.pick (.t 39) (.t 44) (.c (.d (.bool false)))), (some (35, false)), false⟩, qo 46 (.pick (.t 35) (.c (.d (.bool true))) (.t 45))]
def Jq70 (p : Nums) : IC := (.region (Jq78 p) [])
@[simp] theorem Je70 {p : Nums} : EqI (Jq70 p) (.region (Jq78 p) []) := eqi
def Jq71 (p : Nums) : IC := (.seq (.region [⟨(some 4), (.asg (.c (.d (.int .i64 9)))), none, false⟩] []) .ret)
@[simp] theorem Je71 {p : Nums} : EqI (Jq71 p) (.seq (.region [⟨(some 4), (.asg (.c (.d (.int .i64 9)))), none, false⟩] []) .ret) := eqi
def Jq75 (p : Nums) : IC := (.seq (.seq (Jq70 p) .cut) (.cond (.t 46) (Jq71 p) .skip))
theorem Je75 {p : Nums} : EqI (Jq75 p) (.seq (.seq (Jq70 p) .cut) (.cond (.t 46) (Jq71 p) .skip)) := eqi
@[simp] def Jq79 (p : Nums) : List IOp := [qo 47 (.faddr 0 (.t 2)), qo 48 (.load none (.t 47)), qo 49 (.call p.ref05_UsesD [(.t 48)]), qo 50 (.un .not (.t 49)), qo 51 (.mov (.t 50)), ⟨(some 52), (.faddr 1 (.t 2)), (some (51, true)), false⟩, ⟨(some 53), (.load none (.t 52)), (some (51, true)), false⟩, ⟨(some 54), (.bin .neq (.t 53) (ci 0)), (some (51, true)), false⟩, qo 55 (.pick (.t 51) (.t 54) (.c (.d (.bool false)))), qo 56 (.mov (.t 55)), ⟨(some 57), (.faddr 0 (.t 2)), (some (56, false)), false⟩, ⟨(some 58), (.load none (.t 57)), (some (56, false)), false⟩, ⟨(some 59), (.call p.ref05_UsesA [(.t 58)]), (some (56, false)), false⟩, ⟨(some 60), (.un .not (.t 59)), (some (56, false)), false⟩, ⟨(some 61), (.mov (.t 60)), (some (56, false)), false⟩, ⟨(some 62), (.faddr 2 (.t 2)), (some (61, true)), false⟩, ⟨(some 63), (.load none (.t 62)), (some (61, true)), false⟩, ⟨(some 64), (.bin .neq (.t 63) (ci 0)), (some (61, true)), false⟩, ⟨(some 65), (.pick (.t 61) (.t 64) (.c (.d (.bool false)))), (some (56, false)), false⟩, qo 66 (.pick (.t 56) (.c (.d (.bool true))) (.t 65)), qo 67 (.mov (.t 66)), ⟨(some 68), (.faddr 0 (.t 2)), (some (67, false)), false⟩, ⟨(some 69), (.load none (.t 68)), (some (67, false)), false⟩, ⟨(some 70), (.call p.ref05_UsesB [(.t 69)]), (some (67, false)), false⟩, ⟨(some 71), (.un .not (.t 70)), (some (67, false)), false⟩, ⟨(some 72), (.mov (.t 71)), (some (67, false)), false⟩, ⟨(some 73), (.faddr 3 (.t 2)), (some (72, true)), false⟩, ⟨(some 74), (.load none (.t 73)), (some (72, true)), false⟩, ⟨(some 75), (.bin .neq (.t 74) (ci 0)), (some (72, true)), false⟩, ⟨(some 76), (.pick (.t 72) (.t 75) (.c (.d (.bool false)))), (some (67, false)), false⟩, qo 77 (.pick (.t 67) (.c (.d (.bool true))) (.t 76)), qo 78 (.mov (.t 77)), ⟨(some 79), (.faddr 0 (.t 2)), (some (78, false)), false⟩, ⟨(some 80), (.load none (.t 79)), (some (78, false)), false⟩, ⟨(some 81), (.bin .neq (.t 80) (ci 1)), (some (78, false)), false⟩, ⟨(some 82), (.mov (.t 81)), (some (78, false)), false⟩, ⟨(some 83), (.faddr 4 (.t 2)), (some (82, true)), false⟩, ⟨(some 84), (.load none (.t 83)), (some (82, true)), false⟩, ⟨(some 85), (.bin .neq (.t 84) (ci 0)), (some (82, true)), false⟩, ⟨(some 86), (.pick (.t 82) (.t 85) (.c (.d (.bool false)))), (some (78, false)), false⟩, qo 87 (.pick (.t 78) (.c (.d (.bool true))) (.t 86))]
def Jq72 (p : Nums) : IC := (.region (Jq79 p) [])
@[simp] theorem Je72 {p : Nums} : EqI (Jq72 p) (.region (Jq79 p) []) := eqi
def Jq73 (p : Nums) : IC := (.seq (.region [⟨(some 4), (.asg (.c (.d (.int .i64 12)))), none, false⟩] []) .ret)
@[simp] theorem Je73 {p : Nums} : EqI (Jq73 p) (.seq (.region [⟨(some 4), (.asg (.c (.d (.int .i64 12)))), none, false⟩] []) .ret) := eqi
def Jq76 (p : Nums) : IC := (.seq (.seq (Jq72 p) .cut) (.cond (.t 87) (Jq73 p) .skip))
theorem Je76 {p : Nums} : EqI (Jq76 p) (.seq (.seq (Jq72 p) .cut) (.cond (.t 87) (Jq73 p) .skip)) := eqi
def Jta9 (p : Nums) : IC := (.seq (.region [⟨(some 2), (.box (.t 0)), none, false⟩, ⟨(some 4), (.asg (.c (.d (.int .i64 0)))), none, false⟩] []) (.seq (Jq74 p) (.seq (Jq75 p) (.seq (Jq76 p) (.seq (.region [⟨(some 4), (.asg (.c (.d (.int .i64 0)))), none, false⟩] []) .ret)))))
@[simp] def Jq84 (p : Nums) : List IOp := [qo 11 (.faddr 2 (.t 3)), qo 12 (.load none (.t 11)), qo 13 (.mov (.t 2)), qo 14 (.call p.ref07_in [(.t 12), (.t 13)]), qo 15 (.un .not (.t 14))]
def Jq7m (p : Nums) : IC := (.region (Jq84 p) [])
@[simp] theorem Je7m {p : Nums} : EqI (Jq7m p) (.region (Jq84 p) []) := eqi
def Jq7w (p : Nums) : IC := (.seq (.region [⟨(some 6), (.asg (.c (.d (.int .i64 11)))), none, false⟩] []) .ret)
@[simp] theorem Je7w {p : Nums} : EqI (Jq7w p) (.seq (.region [⟨(some 6), (.asg (.c (.d (.int .i64 11)))), none, false⟩] []) .ret) := eqi
@[simp] def Jq86 (p : Nums) : List IOp := [qo 16 (.faddr 1 (.t 3)), qo 17 (.load none (.t 16)), qo 18 (.bin .neq (.t 17) (ci 0)), qo 19 (.mov (.t 18)), ⟨(some 20), (.faddr 3 (.t 3)), (some (19, false)), false⟩, ⟨(some 21), (.load none (.t 20)), (some (19, false)), false⟩, ⟨(some 22), (.bin .neq (.t 21) (ci 0)), (some (19, false)), false⟩, qo 23 (.pick (.t 19) (.c (.d (.bool true))) (.t 22))]
def Jq7x (p : Nums) : IC := (.region (Jq86 p) [])
@[simp] theorem Je7x {p : Nums} : EqI (Jq7x p) (.region (Jq86 p) []) := eqi
def Jq7y (p : Nums) : IC := (.seq (.region [⟨(some 6), (.asg (.c (.d (.int .i64 12)))), none, false⟩] []) .ret)
@[simp] theorem Je7y {p : Nums} : EqI (Jq7y p) (.seq (.region [⟨(some 6), (.asg (.c (.d (.int .i64 12)))), none, false⟩] []) .ret) := eqi
@[simp] def Jq87 (p : Nums) : List IOp := [qo 26 (.faddr 1 (.t 3)), qo 27 (.load none (.t 26)), qo 28 (.mov (.t 1)), qo 29 (.call p.ref07_in [(.t 27), (.t 28)]), qo 30 (.un .not (.t 29))]
def Jq7z (p : Nums) : IC := (.region (Jq87 p) [])
@[simp] theorem Je7z {p : Nums} : EqI (Jq7z p) (.region (Jq87 p) []) := eqi
def Jq80 (p : Nums) : IC := (.seq (.region [⟨(some 6), (.asg (.c (.d (.int .i64 9)))), none, false⟩] []) .ret)
@[simp] theorem Je80 {p : Nums} : EqI (Jq80 p) (.seq (.region [⟨(some 6), (.asg (.c (.d (.int .i64 9)))), none, false⟩] []) .ret) := eqi
@[simp] def Jq88 (p : Nums) : List IOp := [qo 31 (.faddr 2 (.t 3)), qo 32 (.load none (.t 31)), qo 33 (.mov (.t 2)), qo 34 (.call p.ref07_in [(.t 32), (.t 33)]), qo 35 (.un .not (.t 34)), qo 36 (.mov (.t 35)), ⟨(some 37), (.faddr 3 (.t 3)), (some (36, false)), false⟩, ⟨(some 38), (.load none (.t 37)), (some (36, false)), false⟩, ⟨(some 39), (.mov (.t 2)), (some (36, false)), false⟩, ⟨(some 40), (.call p.ref07_in [(.t 38), (.t 39)]), (some (36, false)), false⟩, ⟨(some 41), (.un .not (.t 40)), (some (36, false)), false⟩, qo 42 (.pick (.t 36) (.c (.d (.bool true))) (.t 41))]
def Jq81 (p : Nums) : IC := (.region (Jq88 p) [])
@[simp] theorem Je81 {p : Nums} : EqI (Jq81 p) (.region (Jq88 p) []) := eqi
def Jq82 (p : Nums) : IC := (.seq (.region [⟨(some 6), (.asg (.c (.d (.int .i64 11)))), none, false⟩] []) .ret)
@[simp] theorem Je82 {p : Nums} : EqI (Jq82 p) (.seq (.region [⟨(some 6), (.asg (.c (.d (.int .i64 11)))), none, false⟩] []) .ret) := eqi
@[simp] def Jq89 (p : Nums) : List IOp := [qo 45 (.faddr 1 (.t 3)), qo 46 (.load none (.t 45)), qo 47 (.mov (.t 1)), qo 48 (.call p.ref07_in [(.t 46), (.t 47)]), qo 49 (.un .not (.t 48))]
def Jq83 (p : Nums) : IC := (.region (Jq89 p) [])
@[simp] theorem Je83 {p : Nums} : EqI (Jq83 p) (.region (Jq89 p) []) := eqi
def Jq7n (p : Nums) : IC := (.seq (.region [⟨(some 6), (.asg (.c (.d (.int .i64 9)))), none, false⟩] []) .ret)
@[simp] theorem Je7n {p : Nums} : EqI (Jq7n p) (.seq (.region [⟨(some 6), (.asg (.c (.d (.int .i64 9)))), none, false⟩] []) .ret) := eqi
@[simp] def Jq85 (p : Nums) : List IOp := [qo 50 (.faddr 2 (.t 3)), qo 51 (.load none (.t 50)), qo 52 (.bin .neq (.t 51) (ci 0)), qo 53 (.mov (.t 52)), ⟨(some 54), (.faddr 3 (.t 3)), (some (53, false)), false⟩, ⟨(some 55), (.load none (.t 54)), (some (53, false)), false⟩, ⟨(some 56), (.bin .neq (.t 55) (ci 0)), (some (53, false)), false⟩, qo 57 (.pick (.t 53) (.c (.d (.bool true))) (.t 56))]
def Jq7o (p : Nums) : IC := (.region (Jq85 p) [])
@[simp] theorem Je7o {p : Nums} : EqI (Jq7o p) (.region (Jq85 p) []) := eqi
def Jq7p (p : Nums) : IC := (.seq (.region [⟨(some 6), (.asg (.c (.d (.int .i64 12)))), none, false⟩] []) .ret)
@[simp] theorem Je7p {p : Nums} : EqI (Jq7p p) (.seq (.region [⟨(some 6), (.asg (.c (.d (.int .i64 12)))), none, false⟩] []) .ret) := eqi
def Jq7q (p : Nums) : IC := (.seq (.seq (Jq83 p) (.cond (.t 49) (Jq7n p) .skip)) (.seq (.seq (Jq7o p) (.cond (.t 57) (Jq7p p) .skip)) (.seq (.region [⟨(some 6), (.asg (.c (.d (.int .i64 0)))), none, false⟩] []) .ret)))
@[simp] theorem Je7q {p : Nums} : EqI (Jq7q p) (.seq (.seq (Jq83 p) (.cond (.t 49) (Jq7n p) .skip)) (.seq (.seq (Jq7o p) (.cond (.t 57) (Jq7p p) .skip)) (.seq (.region [⟨(some 6), (.asg (.c (.d (.int .i64 0)))), none, false⟩] []) .ret))) := eqi
def Jq7r (p : Nums) : IC := (.seq (.seq (Jq7z p) (.cond (.t 30) (Jq80 p) .skip)) (.seq (.seq (Jq81 p) (.cond (.t 42) (Jq82 p) .skip)) (.seq (.region [⟨(some 6), (.asg (.c (.d (.int .i64 0)))), none, false⟩] []) .ret)))
@[simp] theorem Je7r {p : Nums} : EqI (Jq7r p) (.seq (.seq (Jq7z p) (.cond (.t 30) (Jq80 p) .skip)) (.seq (.seq (Jq81 p) (.cond (.t 42) (Jq82 p) .skip)) (.seq (.region [⟨(some 6), (.asg (.c (.d (.int .i64 0)))), none, false⟩] []) .ret))) := eqi
def Jq7s (p : Nums) : IC := (.seq (.region [⟨(some 44), (.bin .eql (.t 8) (.c (.d (.int .i64 3)))), none, false⟩, ⟨(some 43), (.asg (.t 44)), none, false⟩] []) (.cond (.t 43) (Jq7q p) .skip))
@[simp] theorem Je7s {p : Nums} : EqI (Jq7s p) (.seq (.region [⟨(some 44), (.bin .eql (.t 8) (.c (.d (.int .i64 3)))), none, false⟩, ⟨(some 43), (.asg (.t 44)), none, false⟩] []) (.cond (.t 43) (Jq7q p) .skip)) := eqi
def Jq7t (p : Nums) : IC := (.seq (.seq (Jq7m p) (.cond (.t 15) (Jq7w p) .skip)) (.seq (.seq (Jq7x p) (.cond (.t 23) (Jq7y p) .skip)) (.seq (.region [⟨(some 6), (.asg (.c (.d (.int .i64 0)))), none, false⟩] []) .ret)))
@[simp] theorem Je7t {p : Nums} : EqI (Jq7t p) (.seq (.seq (Jq7m p) (.cond (.t 15) (Jq7w p) .skip)) (.seq (.seq (Jq7x p) (.cond (.t 23) (Jq7y p) .skip)) (.seq (.region [⟨(some 6), (.asg (.c (.d (.int .i64 0)))), none, false⟩] []) .ret))) := eqi
def Jq7u (p : Nums) : IC := (.seq (.region [⟨(some 25), (.bin .eql (.t 8) (.c (.d (.int .i64 2)))), none, false⟩, ⟨(some 24), (.asg (.t 25)), none, false⟩] []) (.cond (.t 24) (Jq7r p) (Jq7s p)))
@[simp] theorem Je7u {p : Nums} : EqI (Jq7u p) (.seq (.region [⟨(some 25), (.bin .eql (.t 8) (.c (.d (.int .i64 2)))), none, false⟩, ⟨(some 24), (.asg (.t 25)), none, false⟩] []) (.cond (.t 24) (Jq7r p) (Jq7s p))) := eqi
def Jq7v (p : Nums) : IC := (.seq (.region [⟨(some 10), (.bin .eql (.t 8) (.c (.d (.int .i64 1)))), none, false⟩, ⟨(some 9), (.asg (.t 10)), none, false⟩] []) (.cond (.t 9) (Jq7t p) (Jq7u p)))
@[simp] theorem Je7v {p : Nums} : EqI (Jq7v p) (.seq (.region [⟨(some 10), (.bin .eql (.t 8) (.c (.d (.int .i64 1)))), none, false⟩, ⟨(some 9), (.asg (.t 10)), none, false⟩] []) (.cond (.t 9) (Jq7t p) (Jq7u p))) := eqi
def Jtab (p : Nums) : IC := (.seq (.region [⟨(some 3), (.box (.t 0)), none, false⟩, ⟨(some 6), (.asg (.c (.d (.int .i64 0)))), none, false⟩] []) (.seq (.seq (.region [⟨(some 7), (.faddr 0 (.t 3)), none, false⟩, ⟨(some 8), (.load none (.t 7)), none, false⟩] []) (.block 0 (Jq7v p))) (.seq (.region [⟨(some 6), (.asg (.c (.d (.int .i64 16)))), none, false⟩] []) .ret)))
@[simp] def Jq53 (p : Nums) : List IOp := [qo 3 (.mov (.t 0)), qo 4 (.bin .geq (.t 3) (ci 2)), qo 5 (.mov (.t 4)), ⟨(some 6), (.mov (.t 0)), (some (5, true)), false⟩, ⟨(some 7), (.bin .leq (.t 6) (ci 17)), (some (5, true)), false⟩, qo 8 (.pick (.t 5) (.t 7) (.c (.d (.bool false)))), qo 2 (.asg (.t 8))]
def Jq52 (p : Nums) : IC := (.region (Jq53 p) [])
@[simp] theorem Je52 {p : Nums} : EqI (Jq52 p) (.region (Jq53 p) []) := eqi
def Jta2 (p : Nums) : IC := (.seq (.region [⟨(some 2), (.asg (.c (.d (.bool false)))), none, false⟩] []) (.seq (Jq52 p) .ret))
@[simp] def Jq55 (p : Nums) : List IOp := [qo 3 (.mov (.t 0)), qo 4 (.bin .geq (.t 3) (ci 5)), qo 5 (.mov (.t 4)), ⟨(some 6), (.mov (.t 0)), (some (5, true)), false⟩, ⟨(some 7), (.bin .leq (.t 6) (ci 16)), (some (5, true)), false⟩, qo 8 (.pick (.t 5) (.t 7) (.c (.d (.bool false)))), qo 2 (.asg (.t 8))]
def Jq54 (p : Nums) : IC := (.region (Jq55 p) [])
@[simp] theorem Je54 {p : Nums} : EqI (Jq54 p) (.region (Jq55 p) []) := eqi
def Jta3 (p : Nums) : IC := (.seq (.region [⟨(some 2), (.asg (.c (.d (.bool false)))), none, false⟩] []) (.seq (Jq54 p) .ret))
@[simp] def Jq57 (p : Nums) : List IOp := [qo 3 (.mov (.t 0)), qo 4 (.bin .geq (.t 3) (ci 1)), qo 5 (.mov (.t 4)), ⟨(some 6), (.mov (.t 0)), (some (5, true)), false⟩, ⟨(some 7), (.bin .leq (.t 6) (ci 16)), (some (5, true)), false⟩, qo 8 (.pick (.t 5) (.t 7) (.c (.d (.bool false)))), qo 2 (.asg (.t 8))]
def Jq56 (p : Nums) : IC := (.region (Jq57 p) [])
@[simp] theorem Je56 {p : Nums} : EqI (Jq56 p) (.region (Jq57 p) []) := eqi
def Jta4 (p : Nums) : IC := (.seq (.region [⟨(some 2), (.asg (.c (.d (.bool false)))), none, false⟩] []) (.seq (Jq56 p) .ret))
@[simp] def Jq2z (p : Nums) : List IOp := [qo 9 (.mo .mk), qo 10 (.mo .mk), qn (.store 1 (.t 2) (.t 9)), qn (.store 1 (.t 3) (.t 10))]
def Jq2n (p : Nums) : IC := (.region (Jq2z p) [])
@[simp] theorem Je2n {p : Nums} : EqI (Jq2n p) (.region (Jq2z p) []) := eqi
@[simp] def Jq33 (p : Nums) : List IOp := [qo 12 (.faddr 0 (.t 1)), qo 13 (.load none (.t 12)), qo 14 (.len (.t 13)), qo 15 (.mov (ci 0))]
def Jq2r (p : Nums) : IC := (.region (Jq33 p) [])
@[simp] theorem Je2r {p : Nums} : EqI (Jq2r p) (.region (Jq33 p) []) := eqi
@[simp] def Jq34 (p : Nums) : List IOp := [qo 17 (.iaddr 5 (.t 13) (.t 15)), qo 18 (.load (some 5) (.t 17)), qo 6 (.alloc [(zi 0), (zi 0), (zi 0), (zi 0), (zi 0)]), qn (.store 5 (.t 6) (.t 18))]
def Jq2s (p : Nums) : IC := (.region (Jq34 p) [])
@[simp] theorem Je2s {p : Nums} : EqI (Jq2s p) (.region (Jq34 p) []) := eqi
@[simp] def Jq35 (p : Nums) : List IOp := [qo 20 (.faddr 0 (.t 6)), qo 21 (.load none (.t 20)), qo 22 (.call p.opcode_Of [(.t 21)]), qo 19 (.mov (.t 22)), qo 23 (.ext (.t 19) 0), qo 24 (.ext (.t 19) 1), qo 7 (.alloc [(.d (.bool false)), (.d (.bool false)), (.d (.bool false)), (.d (.bool false))]), qn (.store 4 (.t 7) (.t 23)), qo 8 (.asg (.t 24))]
def Jq2t (p : Nums) : IC := (.region (Jq35 p) [])
@[simp] theorem Je2t {p : Nums} : EqI (Jq2t p) (.region (Jq35 p) []) := eqi
@[simp] def Jq36 (p : Nums) : List IOp := [qo 27 (.mov (.t 4)), qo 28 (.faddr 2 (.t 6)), qo 29 (.load none (.t 28)), qo 30 (.callv (.t 27) [(.t 29)])]
def Jq2u (p : Nums) : IC := (.region (Jq36 p) [])
@[simp] theorem Je2u {p : Nums} : EqI (Jq2u p) (.region (Jq36 p) []) := eqi
@[simp] def Jq37 (p : Nums) : List IOp := [qo 33 (.mov (.t 4)), qo 34 (.faddr 3 (.t 6)), qo 35 (.load none (.t 34)), qo 36 (.callv (.t 33) [(.t 35)])]
def Jq2v (p : Nums) : IC := (.region (Jq37 p) [])
@[simp] theorem Je2v {p : Nums} : EqI (Jq2v p) (.region (Jq37 p) []) := eqi
@[simp] def Jq38 (p : Nums) : List IOp := [qo 39 (.load none (.t 3)), qo 40 (.faddr 1 (.t 6)), qo 41 (.load none (.t 40)), qn (.mo (.set (.t 39) (.t 41) (.c (.d (.bool true)))))]
def Jq2w (p : Nums) : IC := (.region (Jq38 p) [])
@[simp] theorem Je2w {p : Nums} : EqI (Jq2w p) (.region (Jq38 p) []) := eqi
def Jq2x (p : Nums) : IC := (.seq (Jq2s p) (.seq (Jq2t p) (.seq (.seq (.region [⟨(some 25), (.faddr 1 (.t 7)), none, false⟩, ⟨(some 26), (.load none (.t 25)), none, false⟩] []) (.cond (.t 26) (Jq2u p) .skip)) (.seq (.seq (.region [⟨(some 31), (.faddr 2 (.t 7)), none, false⟩, ⟨(some 32), (.load none (.t 31)), none, false⟩] []) (.cond (.t 32) (Jq2v p) .skip)) (.seq (.region [⟨(some 37), (.faddr 0 (.t 7)), none, false⟩, ⟨(some 38), (.load none (.t 37)), none, false⟩] []) (.cond (.t 38) (Jq2w p) .skip))))))
@[simp] theorem Je2x {p : Nums} : EqI (Jq2x p) (.seq (Jq2s p) (.seq (Jq2t p) (.seq (.seq (.region [⟨(some 25), (.faddr 1 (.t 7)), none, false⟩, ⟨(some 26), (.load none (.t 25)), none, false⟩] []) (.cond (.t 26) (Jq2u p) .skip)) (.seq (.seq (.region [⟨(some 31), (.faddr 2 (.t 7)), none, false⟩, ⟨(some 32), (.load none (.t 31)), none, false⟩] []) (.cond (.t 32) (Jq2v p) .skip)) (.seq (.region [⟨(some 37), (.faddr 0 (.t 7)), none, false⟩, ⟨(some 38), (.load none (.t 37)), none, false⟩] []) (.cond (.t 38) (Jq2w p) .skip)))))) := eqi
def Jq2y (p : Nums) : IC := (.seq (.region [⟨(some 16), (.bin .lss (.t 15) (.t 14)), none, false⟩] []) (.seq (.cond (.t 16) .skip (.exit 0)) (.seq (.block 1 (Jq2x p)) (.region [⟨(some 42), (.bin .add (.t 15) (.c (.d (.int .i64 1)))), none, false⟩, ⟨(some 15), (.mov (.t 42)), none, false⟩] []))))
@[simp] theorem Je2y {p : Nums} : EqI (Jq2y p) (.seq (.region [⟨(some 16), (.bin .lss (.t 15) (.t 14)), none, false⟩] []) (.seq (.cond (.t 16) .skip (.exit 0)) (.seq (.block 1 (Jq2x p)) (.region [⟨(some 42), (.bin .add (.t 15) (.c (.d (.int .i64 1)))), none, false⟩, ⟨(some 15), (.mov (.t 42)), none, false⟩] [])))) := eqi
@[simp] def Jq30 (p : Nums) : List IOp := [qo 43 (.faddr 1 (.t 1)), qo 44 (.faddr 0 (.t 43)), qo 45 (.load none (.t 44)), qo 46 (.bin .neq (.t 45) (ci 1))]
def Jq2o (p : Nums) : IC := (.region (Jq30 p) [])
@[simp] theorem Je2o {p : Nums} : EqI (Jq2o p) (.region (Jq30 p) []) := eqi
@[simp] def Jq31 (p : Nums) : List IOp := [qo 47 (.mov (.t 4)), qo 48 (.faddr 1 (.t 1)), qo 49 (.faddr 1 (.t 48)), qo 50 (.load none (.t 49)), qo 51 (.callv (.t 47) [(.t 50)])]
def Jq2p (p : Nums) : IC := (.region (Jq31 p) [])
@[simp] theorem Je2p {p : Nums} : EqI (Jq2p p) (.region (Jq31 p) []) := eqi
@[simp] def Jq32 (p : Nums) : List IOp := [qp 52 (.load none (.t 2)), qp 53 (.load none (.t 3)), qm (.storeq 1 (.t 2) (.t 52) [(3, 1)]), qn (.store 1 (.t 3) (.t 53))]
def Jq2q (p : Nums) : IC := (.region (Jq32 p) [])
@[simp] theorem Je2q {p : Nums} : EqI (Jq2q p) (.region (Jq32 p) []) := eqi
def Jt9w (p : Nums) : IC := (.seq (.region [⟨(some 1), (.box (.t 0)), none, false⟩, ⟨(some 2), (.alloc [.nilm]), none, false⟩, ⟨(some 3), (.alloc [.nilm]), none, false⟩] []) (.seq (Jq2n p) (.seq (.region [⟨(some 11), (.mkfn (.func p.liveness_scan_1) [] [(.t 3), (.t 2)]), none, false⟩, ⟨(some 4), (.asg (.t 11)), none, false⟩] []) (.seq (.seq (Jq2r p) (.block 0 (.loop (Jq2y p)))) (.seq (.seq (Jq2o p) (.cond (.t 46) (Jq2p p) .skip)) (.seq (Jq2q p) .ret))))))
@[simp] def Jq3d (p : Nums) : List IOp := [qo 5 (.mov (.t 0)), qo 6 (.mo (.len (.t 5))), qo 7 (.mkslice 1 8 [(.int .i64 0)] (ci 0) (.t 6)), qo 3 (.asg (.t 7))]
def Jq39 (p : Nums) : IC := (.region (Jq3d p) [])
@[simp] theorem Je39 {p : Nums} : EqI (Jq39 p) (.region (Jq3d p) []) := eqi
@[simp] def Jq3e (p : Nums) : List IOp := [qo 12 (.mo (.ent (.t 9))), qo 13 (.ext (.t 12) 0), qo 4 (.asg (.t 13))]
def Jq3a (p : Nums) : IC := (.region (Jq3e p) [])
@[simp] theorem Je3a {p : Nums} : EqI (Jq3a p) (.region (Jq3e p) []) := eqi
@[simp] def Jq3f (p : Nums) : List IOp := [qo 14 (.mov (.t 3)), qo 15 (.mov (.t 4)), qo 16 (.bslice 1 1 [(.int .i64 0)] [(0, (.t 15))]), qo 17 (.app 1 8 (.t 14) (.t 16)), qo 3 (.asg (.t 17))]
def Jq3b (p : Nums) : IC := (.region (Jq3f p) [])
@[simp] theorem Je3b {p : Nums} : EqI (Jq3b p) (.region (Jq3f p) []) := eqi
def Jq3c (p : Nums) : IC := (.seq (.region [⟨(some 10), (.mo (.nxt (.t 9))), none, false⟩, ⟨(some 11), (.ext (.t 10) 0), none, false⟩] []) (.seq (.cond (.t 11) .skip (.exit 0)) (.block 1 (.seq (Jq3a p) (Jq3b p)))))
@[simp] theorem Je3c {p : Nums} : EqI (Jq3c p) (.seq (.region [⟨(some 10), (.mo (.nxt (.t 9))), none, false⟩, ⟨(some 11), (.ext (.t 10) 0), none, false⟩] []) (.seq (.cond (.t 11) .skip (.exit 0)) (.block 1 (.seq (Jq3a p) (Jq3b p))))) := eqi
def Jt9y (p : Nums) : IC := (.seq (.region [⟨(some 2), (.asg (.c .nils)), none, false⟩] []) (.seq (Jq39 p) (.seq (.seq (.region [⟨(some 8), (.mov (.t 0)), none, false⟩, ⟨(some 9), (.mo (.rng (.t 8))), none, false⟩] []) (.block 0 (.loop (Jq3c p)))) (.seq (.region [⟨(some 18), (.mov (.t 3)), none, false⟩, ⟨(some 19), (.call p.slices_Sort_int [(.t 18)]), none, false⟩] []) (.seq (.region [⟨(some 20), (.mov (.t 3)), none, false⟩, ⟨(some 2), (.asg (.t 20)), none, false⟩] []) .ret)))))
@[simp] def Jq3z (p : Nums) : List IOp := [qo 10 (.faddr 2 (.t 1)), qo 11 (.load none (.t 10)), qo 12 (.len (.t 11)), qo 13 (.mo (.mks 1 8 [.nilm] (.t 12) (.t 12))), qo 3 (.asg (.t 13))]
def Jq3g (p : Nums) : IC := (.region (Jq3z p) [])
@[simp] theorem Je3g {p : Nums} : EqI (Jq3g p) (.region (Jq3z p) []) := eqi
@[simp] def Jq45 (p : Nums) : List IOp := [qo 14 (.faddr 2 (.t 1)), qo 15 (.load none (.t 14)), qo 16 (.len (.t 15)), qo 17 (.mo (.mks 1 8 [.nilm] (.t 16) (.t 16))), qo 4 (.asg (.t 17))]
def Jq3r (p : Nums) : IC := (.region (Jq45 p) [])
@[simp] theorem Je3r {p : Nums} : EqI (Jq3r p) (.region (Jq45 p) []) := eqi
@[simp] def Jq46 (p : Nums) : List IOp := [qo 18 (.faddr 2 (.t 1)), qo 19 (.load none (.t 18)), qo 20 (.len (.t 19)), qo 21 (.mov (ci 0))]
def Jq3s (p : Nums) : IC := (.region (Jq46 p) [])
@[simp] theorem Je3s {p : Nums} : EqI (Jq3s p) (.region (Jq46 p) []) := eqi
@[simp] def Jq47 (p : Nums) : List IOp := [qo 23 (.mov (.t 21)), qo 24 (.iaddr 5 (.t 19) (.t 21)), qo 25 (.load (some 5) (.t 24)), qo 6 (.alloc [.nils, (zi 0), (zi 0), (zi 0), (zi 0)]), qo 5 (.asg (.t 23)), qn (.store 5 (.t 6) (.t 25))]
def Jq3t (p : Nums) : IC := (.region (Jq47 p) [])
@[simp] theorem Je3t {p : Nums} : EqI (Jq3t p) (.region (Jq47 p) []) := eqi
@[simp] def Jq48 (p : Nums) : List IOp := [qo 27 (.mov (.t 3)), qo 28 (.mov (.t 5)), qo 29 (.mov (.t 4)), qo 30 (.mov (.t 5)), qo 31 (.load (some 5) (.t 6)), qo 32 (.call p.liveness_scan [(.t 31)]), qo 26 (.mov (.t 32)), qo 33 (.ext (.t 26) 0), qo 34 (.ext (.t 26) 1), qo 35 (.iaddr 1 (.t 27) (.t 28)), qn (.store 1 (.t 35) (.t 33)), qo 36 (.iaddr 1 (.t 29) (.t 30)), qn (.store 1 (.t 36) (.t 34))]
def Jq3u (p : Nums) : IC := (.region (Jq48 p) [])
@[simp] theorem Je3u {p : Nums} : EqI (Jq3u p) (.region (Jq48 p) []) := eqi
def Jq3v (p : Nums) : IC := (.seq (.region [⟨(some 22), (.bin .lss (.t 21) (.t 20)), none, false⟩] []) (.seq (.cond (.t 22) .skip (.exit 0)) (.seq (.block 1 (.seq (Jq3t p) (Jq3u p))) (.region [⟨(some 37), (.bin .add (.t 21) (.c (.d (.int .i64 1)))), none, false⟩, ⟨(some 21), (.mov (.t 37)), none, false⟩] []))))
@[simp] theorem Je3v {p : Nums} : EqI (Jq3v p) (.seq (.region [⟨(some 22), (.bin .lss (.t 21) (.t 20)), none, false⟩] []) (.seq (.cond (.t 22) .skip (.exit 0)) (.seq (.block 1 (.seq (Jq3t p) (Jq3u p))) (.region [⟨(some 37), (.bin .add (.t 21) (.c (.d (.int .i64 1)))), none, false⟩, ⟨(some 21), (.mov (.t 37)), none, false⟩] [])))) := eqi
@[simp] def Jq49 (p : Nums) : List IOp := [qo 38 (.faddr 2 (.t 1)), qo 39 (.load none (.t 38)), qo 40 (.len (.t 39)), qo 41 (.bin .sub (.t 40) (ci 1)), qo 7 (.asg (.t 41))]
def Jq3w (p : Nums) : IC := (.region (Jq49 p) [])
@[simp] theorem Je3w {p : Nums} : EqI (Jq3w p) (.region (Jq49 p) []) := eqi
@[simp] def Jq4a (p : Nums) : List IOp := [qo 46 (.mov (.t 3)), qo 47 (.mov (.t 7)), qo 48 (.iaddr 1 (.t 46) (.t 47)), qo 49 (.load none (.t 48)), qo 50 (.mo (.len (.t 49))), qo 8 (.asg (.t 50))]
def Jq3x (p : Nums) : IC := (.region (Jq4a p) [])
@[simp] theorem Je3x {p : Nums} : EqI (Jq3x p) (.region (Jq4a p) []) := eqi
@[simp] def Jq4b (p : Nums) : List IOp := [qo 51 (.mov (.t 3)), qo 52 (.faddr 2 (.t 1)), qo 53 (.load none (.t 52)), qo 54 (.mov (.t 7)), qo 55 (.iaddr 5 (.t 53) (.t 54)), qo 56 (.load (some 5) (.t 55)), qo 57 (.call p.liveness_exit [(.t 51), (.t 56)]), qo 58 (.mo (.rng (.t 57)))]
def Jq3y (p : Nums) : IC := (.region (Jq4b p) [])
@[simp] theorem Je3y {p : Nums} : EqI (Jq3y p) (.region (Jq4b p) []) := eqi
@[simp] def Jq40 (p : Nums) : List IOp := [qo 61 (.mo (.ent (.t 58))), qo 62 (.ext (.t 61) 0), qo 9 (.asg (.t 62))]
def Jq3h (p : Nums) : IC := (.region (Jq40 p) [])
@[simp] theorem Je3h {p : Nums} : EqI (Jq3h p) (.region (Jq40 p) []) := eqi
@[simp] def Jq41 (p : Nums) : List IOp := [qo 63 (.mov (.t 4)), qo 64 (.mov (.t 7)), qo 65 (.iaddr 1 (.t 63) (.t 64)), qo 66 (.load none (.t 65)), qo 67 (.mov (.t 9)), qo 68 (.mo (.get (.t 66) (.t 67))), qo 69 (.un .not (.t 68))]
def Jq3i (p : Nums) : IC := (.region (Jq41 p) [])
@[simp] theorem Je3i {p : Nums} : EqI (Jq3i p) (.region (Jq41 p) []) := eqi
@[simp] def Jq42 (p : Nums) : List IOp := [qo 70 (.mov (.t 3)), qo 71 (.mov (.t 7)), qo 72 (.iaddr 1 (.t 70) (.t 71)), qo 73 (.load none (.t 72)), qo 74 (.mov (.t 9)), qn (.mo (.set (.t 73) (.t 74) (.c (.d (.bool true)))))]
def Jq3j (p : Nums) : IC := (.region (Jq42 p) [])
@[simp] theorem Je3j {p : Nums} : EqI (Jq3j p) (.region (Jq42 p) []) := eqi
def Jq3k (p : Nums) : IC := (.seq (Jq3h p) (.seq (Jq3i p) (.cond (.t 69) (Jq3j p) .skip)))
@[simp] theorem Je3k {p : Nums} : EqI (Jq3k p) (.seq (Jq3h p) (.seq (Jq3i p) (.cond (.t 69) (Jq3j p) .skip))) := eqi
def Jq3l (p : Nums) : IC := (.seq (.region [⟨(some 59), (.mo (.nxt (.t 58))), none, false⟩, ⟨(some 60), (.ext (.t 59) 0), none, false⟩] []) (.seq (.cond (.t 60) .skip (.exit 6)) (.block 7 (Jq3k p))))
@[simp] theorem Je3l {p : Nums} : EqI (Jq3l p) (.seq (.region [⟨(some 59), (.mo (.nxt (.t 58))), none, false⟩, ⟨(some 60), (.ext (.t 59) 0), none, false⟩] []) (.seq (.cond (.t 60) .skip (.exit 6)) (.block 7 (Jq3k p)))) := eqi
@[simp] def Jq43 (p : Nums) : List IOp := [qo 75 (.mov (.t 3)), qo 76 (.mov (.t 7)), qo 77 (.iaddr 1 (.t 75) (.t 76)), qo 78 (.load none (.t 77)), qo 79 (.mo (.len (.t 78))), qo 80 (.mov (.t 8)), qo 81 (.bin .gtr (.t 79) (.t 80))]
def Jq3m (p : Nums) : IC := (.region (Jq43 p) [])
@[simp] theorem Je3m {p : Nums} : EqI (Jq3m p) (.region (Jq43 p) []) := eqi
def Jq3n (p : Nums) : IC := (.seq (Jq3x p) (.seq (.seq (Jq3y p) (.block 6 (.loop (Jq3l p)))) (.seq (Jq3m p) (.cond (.t 81) (.exit 3) .skip))))
@[simp] theorem Je3n {p : Nums} : EqI (Jq3n p) (.seq (Jq3x p) (.seq (.seq (Jq3y p) (.block 6 (.loop (Jq3l p)))) (.seq (Jq3m p) (.cond (.t 81) (.exit 3) .skip)))) := eqi
@[simp] def Jq44 (p : Nums) : List IOp := [qo 44 (.mov (.t 7)), qo 45 (.bin .sub (.t 44) (ci 1)), qo 7 (.asg (.t 45))]
def Jq3o (p : Nums) : IC := (.region (Jq44 p) [])
@[simp] theorem Je3o {p : Nums} : EqI (Jq3o p) (.region (Jq44 p) []) := eqi
def Jq3p (p : Nums) : IC := (.seq (.seq (.region [⟨(some 42), (.mov (.t 7)), none, false⟩, ⟨(some 43), (.bin .geq (.t 42) (.c (.d (.int .i64 0)))), none, false⟩] []) (.cond (.t 43) .skip (.exit 4))) (.seq (.block 5 (Jq3n p)) (Jq3o p)))
@[simp] theorem Je3p {p : Nums} : EqI (Jq3p p) (.seq (.seq (.region [⟨(some 42), (.mov (.t 7)), none, false⟩, ⟨(some 43), (.bin .geq (.t 42) (.c (.d (.int .i64 0)))), none, false⟩] []) (.cond (.t 43) .skip (.exit 4))) (.seq (.block 5 (Jq3n p)) (Jq3o p))) := eqi
def Jq3q (p : Nums) : IC := (.seq (.seq (Jq3w p) (.block 4 (.loop (Jq3p p)))) (.seq (.region [⟨(some 82), (.mov (.t 3)), none, false⟩, ⟨(some 2), (.asg (.t 82)), none, false⟩] []) .ret))
@[simp] theorem Je3q {p : Nums} : EqI (Jq3q p) (.seq (.seq (Jq3w p) (.block 4 (.loop (Jq3p p)))) (.seq (.region [⟨(some 82), (.mov (.t 3)), none, false⟩, ⟨(some 2), (.asg (.t 82)), none, false⟩] []) .ret)) := eqi
def Jt9z (p : Nums) : IC := (.seq (.region [⟨(some 1), (.box (.t 0)), none, false⟩, ⟨(some 2), (.asg (.c .nils)), none, false⟩] []) (.seq (Jq3g p) (.seq (Jq3r p) (.seq (.seq (Jq3s p) (.block 0 (.loop (Jq3v p)))) (.seq .skip (.block 2 (.loop (.block 3 (Jq3q p)))))))))
@[simp] def Jq2e (p : Nums) : List IOp := [qo 10 (.faddr 1 (.t 3)), qo 11 (.load (some 4) (.t 10)), qo 12 (.call p.source_Successors [(.t 11)]), qo 13 (.len (.t 12)), qo 14 (.mov (ci 0))]
def Jq26 (p : Nums) : IC := (.region (Jq2e p) [])
@[simp] theorem Je26 {p : Nums} : EqI (Jq26 p) (.region (Jq2e p) []) := eqi
@[simp] def Jq2f (p : Nums) : List IOp := [qo 16 (.iaddr 1 (.t 12) (.t 14)), qo 17 (.load none (.t 16)), qo 7 (.asg (.t 17))]
def Jq27 (p : Nums) : IC := (.region (Jq2f p) [])
@[simp] theorem Je27 {p : Nums} : EqI (Jq27 p) (.region (Jq2f p) []) := eqi
@[simp] def Jq2g (p : Nums) : List IOp := [qo 18 (.mov (.t 0)), qo 19 (.mov (.t 7)), qo 20 (.iaddr 1 (.t 18) (.t 19)), qo 21 (.load none (.t 20)), qo 22 (.mo (.rng (.t 21)))]
def Jq28 (p : Nums) : IC := (.region (Jq2g p) [])
@[simp] theorem Je28 {p : Nums} : EqI (Jq28 p) (.region (Jq2g p) []) := eqi
@[simp] def Jq2h (p : Nums) : List IOp := [qo 25 (.mo (.ent (.t 22))), qo 26 (.ext (.t 25) 0), qo 8 (.asg (.t 26))]
def Jq29 (p : Nums) : IC := (.region (Jq2h p) [])
@[simp] theorem Je29 {p : Nums} : EqI (Jq29 p) (.region (Jq2h p) []) := eqi
@[simp] def Jq2i (p : Nums) : List IOp := [qo 27 (.mov (.t 5)), qo 28 (.mov (.t 8)), qn (.mo (.set (.t 27) (.t 28) (.c (.d (.bool true)))))]
def Jq2a (p : Nums) : IC := (.region (Jq2i p) [])
@[simp] theorem Je2a {p : Nums} : EqI (Jq2a p) (.region (Jq2i p) []) := eqi
def Jq2b (p : Nums) : IC := (.seq (.region [⟨(some 23), (.mo (.nxt (.t 22))), none, false⟩, ⟨(some 24), (.ext (.t 23) 0), none, false⟩] []) (.seq (.cond (.t 24) .skip (.exit 2)) (.block 3 (.seq (Jq29 p) (Jq2a p)))))
@[simp] theorem Je2b {p : Nums} : EqI (Jq2b p) (.seq (.region [⟨(some 23), (.mo (.nxt (.t 22))), none, false⟩, ⟨(some 24), (.ext (.t 23) 0), none, false⟩] []) (.seq (.cond (.t 24) .skip (.exit 2)) (.block 3 (.seq (Jq29 p) (Jq2a p))))) := eqi
def Jq2c (p : Nums) : IC := (.seq (Jq27 p) (.seq (Jq28 p) (.block 2 (.loop (Jq2b p)))))
@[simp] theorem Je2c {p : Nums} : EqI (Jq2c p) (.seq (Jq27 p) (.seq (Jq28 p) (.block 2 (.loop (Jq2b p))))) := eqi
def Jq2d (p : Nums) : IC := (.seq (.region [⟨(some 15), (.bin .lss (.t 14) (.t 13)), none, false⟩] []) (.seq (.cond (.t 15) .skip (.exit 0)) (.seq (.block 1 (Jq2c p)) (.region [⟨(some 29), (.bin .add (.t 14) (.c (.d (.int .i64 1)))), none, false⟩, ⟨(some 14), (.mov (.t 29)), none, false⟩] []))))
@[simp] theorem Je2d {p : Nums} : EqI (Jq2d p) (.seq (.region [⟨(some 15), (.bin .lss (.t 14) (.t 13)), none, false⟩] []) (.seq (.cond (.t 15) .skip (.exit 0)) (.seq (.block 1 (Jq2c p)) (.region [⟨(some 29), (.bin .add (.t 14) (.c (.d (.int .i64 1)))), none, false⟩, ⟨(some 14), (.mov (.t 29)), none, false⟩] [])))) := eqi
def Jt9v (p : Nums) : IC := (.seq (.region [⟨(some 3), (.box (.t 1)), none, false⟩, ⟨(some 4), (.asg (.c .nilm)), none, false⟩] []) (.seq (.region [⟨(some 9), (.mo .mk), none, false⟩, ⟨(some 5), (.asg (.t 9)), none, false⟩] []) (.seq (.seq (Jq26 p) (.block 0 (.loop (Jq2d p)))) (.seq (.region [⟨(some 30), (.mov (.t 5)), none, false⟩, ⟨(some 4), (.asg (.t 30)), none, false⟩] []) .ret))))
@[simp] def Jq8b (p : Nums) : List IOp := [qo 5 (.mov (.t 0)), qo 6 (.bin .geq (.t 5) (ci 0)), qo 7 (.mov (.t 6)), ⟨(some 8), (.mov (.t 0)), (some (7, true)), false⟩, ⟨(some 9), (.mov (.t 1)), (some (7, true)), false⟩, ⟨(some 10), (.bin .lss (.t 8) (.t 9)), (some (7, true)), false⟩, qo 11 (.pick (.t 7) (.t 10) (.c (.d (.bool false)))), qo 4 (.asg (.t 11))]
def Jq8a (p : Nums) : IC := (.region (Jq8b p) [])
@[simp] theorem Je8a {p : Nums} : EqI (Jq8a p) (.region (Jq8b p) []) := eqi
def Jtac (p : Nums) : IC := (.seq (.region [⟨(some 4), (.asg (.c (.d (.bool false)))), none, false⟩] []) (.seq (Jq8a p) .ret))
@[simp] def Jq2l (p : Nums) : List IOp := [qo 4 (.load none (.t 1)), qo 5 (.mov (.t 0)), qo 6 (.mo (.get (.t 4) (.t 5))), qo 7 (.un .not (.t 6))]
def Jq2j (p : Nums) : IC := (.region (Jq2l p) [])
@[simp] theorem Je2j {p : Nums} : EqI (Jq2j p) (.region (Jq2l p) []) := eqi
@[simp] def Jq2m (p : Nums) : List IOp := [qo 8 (.load none (.t 2)), qo 9 (.mov (.t 0)), qn (.mo (.set (.t 8) (.t 9) (.c (.d (.bool true)))))]
def Jq2k (p : Nums) : IC := (.region (Jq2m p) [])
@[simp] theorem Je2k {p : Nums} : EqI (Jq2k p) (.region (Jq2m p) []) := eqi
def Jt9x (p : Nums) : IC := (.seq (Jq2j p) (.cond (.t 7) (Jq2k p) .skip))
@[simp] def Jq4q (p : Nums) : List IOp := [qo 2 (.alloc [(.d (.bool false)), (.d (.bool false)), (.d (.bool false)), (.d (.bool false))]), qo 3 (.asg (.c (.d (.bool false))))]
def Jq4c (p : Nums) : IC := (.region (Jq4q p) [])
@[simp] theorem Je4c {p : Nums} : EqI (Jq4c p) (.region (Jq4q p) []) := eqi
@[simp] def Jq4s (p : Nums) : List IOp := [qo 5 (.mov (.t 0)), qo 6 (.call p.opcode_known [(.t 5)]), qo 7 (.un .not (.t 6)), qo 4 (.asg (.t 7))]
def Jq4i (p : Nums) : IC := (.region (Jq4s p) [])
@[simp] theorem Je4i {p : Nums} : EqI (Jq4i p) (.region (Jq4s p) []) := eqi
@[simp] def Jq4t (p : Nums) : List IOp := [qo 8 (.build [(.d (.bool false)), (.d (.bool false)), (.d (.bool false)), (.d (.bool false))] []), qn (.store 4 (.t 2) (.t 8)), qo 3 (.asg (.c (.d (.bool false))))]
def Jq4j (p : Nums) : IC := (.region (Jq4t p) [])
@[simp] theorem Je4j {p : Nums} : EqI (Jq4j p) (.region (Jq4t p) []) := eqi
@[simp] def Jq4u (p : Nums) : List IOp := [qo 10 (.mov (.t 0)), qo 11 (.bin .eql (.t 10) (ci 1)), qo 9 (.asg (.t 11))]
def Jq4k (p : Nums) : IC := (.region (Jq4u p) [])
@[simp] theorem Je4k {p : Nums} : EqI (Jq4k p) (.region (Jq4u p) []) := eqi
@[simp] def Jq4v (p : Nums) : List IOp := [qo 12 (.build [(.d (.bool false)), (.d (.bool false)), (.d (.bool false)), (.d (.bool false))] [(0, 1, (.c (.d (.bool true)))), (3, 1, (.c (.d (.bool true))))]), qn (.store 4 (.t 2) (.t 12)), qo 3 (.asg (.c (.d (.bool true))))]
def Jq4l (p : Nums) : IC := (.region (Jq4v p) [])
@[simp] theorem Je4l {p : Nums} : EqI (Jq4l p) (.region (Jq4v p) []) := eqi
@[simp] def Jq4w (p : Nums) : List IOp := [qo 14 (.mov (.t 0)), qo 15 (.bin .leq (.t 14) (ci 4)), qo 13 (.asg (.t 15))]
def Jq4m (p : Nums) : IC := (.region (Jq4w p) [])
@[simp] theorem Je4m {p : Nums} : EqI (Jq4m p) (.region (Jq4w p) []) := eqi
@[simp] def Jq4x (p : Nums) : List IOp := [qo 16 (.build [(.d (.bool false)), (.d (.bool false)), (.d (.bool false)), (.d (.bool false))] [(0, 1, (.c (.d (.bool true)))), (1, 1, (.c (.d (.bool true))))]), qn (.store 4 (.t 2) (.t 16)), qo 3 (.asg (.c (.d (.bool true))))]
def Jq4n (p : Nums) : IC := (.region (Jq4x p) [])
@[simp] theorem Je4n {p : Nums} : EqI (Jq4n p) (.region (Jq4x p) []) := eqi
@[simp] def Jq4y (p : Nums) : List IOp := [qo 18 (.mov (.t 0)), qo 19 (.bin .leq (.t 18) (ci 16)), qo 17 (.asg (.t 19))]
def Jq4o (p : Nums) : IC := (.region (Jq4y p) [])
@[simp] theorem Je4o {p : Nums} : EqI (Jq4o p) (.region (Jq4y p) []) := eqi
@[simp] def Jq4z (p : Nums) : List IOp := [qo 20 (.build [(.d (.bool false)), (.d (.bool false)), (.d (.bool false)), (.d (.bool false))] [(0, 1, (.c (.d (.bool true)))), (1, 1, (.c (.d (.bool true)))), (2, 1, (.c (.d (.bool true))))]), qn (.store 4 (.t 2) (.t 20)), qo 3 (.asg (.c (.d (.bool true))))]
def Jq4p (p : Nums) : IC := (.region (Jq4z p) [])
@[simp] theorem Je4p {p : Nums} : EqI (Jq4p p) (.region (Jq4z p) []) := eqi
def Jq4d (p : Nums) : IC := (.seq (Jq4o p) (.cond (.t 17) (.seq (Jq4p p) .ret) .skip))
@[simp] theorem Je4d {p : Nums} : EqI (Jq4d p) (.seq (Jq4o p) (.cond (.t 17) (.seq (Jq4p p) .ret) .skip)) := eqi
def Jq4e (p : Nums) : IC := (.seq (Jq4m p) (.cond (.t 13) (.seq (Jq4n p) .ret) (Jq4d p)))
@[simp] theorem Je4e {p : Nums} : EqI (Jq4e p) (.seq (Jq4m p) (.cond (.t 13) (.seq (Jq4n p) .ret) (Jq4d p))) := eqi
def Jq4f (p : Nums) : IC := (.seq (Jq4k p) (.cond (.t 9) (.seq (Jq4l p) .ret) (Jq4e p)))
@[simp] theorem Je4f {p : Nums} : EqI (Jq4f p) (.seq (Jq4k p) (.cond (.t 9) (.seq (Jq4l p) .ret) (Jq4e p))) := eqi
def Jq4g (p : Nums) : IC := (.seq (Jq4i p) (.cond (.t 4) (.seq (Jq4j p) .ret) (Jq4f p)))
@[simp] theorem Je4g {p : Nums} : EqI (Jq4g p) (.seq (Jq4i p) (.cond (.t 4) (.seq (Jq4j p) .ret) (Jq4f p))) := eqi
@[simp] def Jq4r (p : Nums) : List IOp := [qo 21 (.mov (.t 0)), qo 22 (.bin .eql (.t 21) (ci 17)), qo 23 (.build [(.d (.bool false)), (.d (.bool false)), (.d (.bool false)), (.d (.bool false))] [(1, 1, (.t 22))]), qn (.store 4 (.t 2) (.t 23)), qo 3 (.asg (.c (.d (.bool true))))]
def Jq4h (p : Nums) : IC := (.region (Jq4r p) [])
@[simp] theorem Je4h {p : Nums} : EqI (Jq4h p) (.region (Jq4r p) []) := eqi
def Jta0 (p : Nums) : IC := (.seq (Jq4c p) (.seq (.block 0 (Jq4g p)) (.seq (Jq4h p) .ret)))
@[simp] def Jq8s (p : Nums) : List IOp := [qo 7 (.faddr 2 (.t 1)), qo 8 (.load none (.t 7)), qo 9 (.bslice 1 1 [(.int .i64 0)] [(0, (.t 8))]), qo 2 (.asg (.t 9))]
def Jq8o (p : Nums) : IC := (.region (Jq8s p) [])
@[simp] theorem Je8o {p : Nums} : EqI (Jq8o p) (.region (Jq8s p) []) := eqi
@[simp] def Jq8t (p : Nums) : List IOp := [qo 12 (.faddr 2 (.t 1)), qo 13 (.load none (.t 12)), qo 14 (.faddr 3 (.t 1)), qo 15 (.load none (.t 14)), qo 16 (.bslice 1 2 [(.int .i64 0)] [(0, (.t 13)), (1, (.t 15))]), qo 2 (.asg (.t 16))]
def Jq8p (p : Nums) : IC := (.region (Jq8t p) [])
@[simp] theorem Je8p {p : Nums} : EqI (Jq8p p) (.region (Jq8t p) []) := eqi
def Jq8q (p : Nums) : IC := (.seq (.region [⟨(some 11), (.bin .eql (.t 4) (.c (.d (.int .i64 2)))), none, false⟩, ⟨(some 10), (.asg (.t 11)), none, false⟩] []) (.cond (.t 10) (.seq (Jq8p p) .ret) .skip))
@[simp] theorem Je8q {p : Nums} : EqI (Jq8q p) (.seq (.region [⟨(some 11), (.bin .eql (.t 4) (.c (.d (.int .i64 2)))), none, false⟩, ⟨(some 10), (.asg (.t 11)), none, false⟩] []) (.cond (.t 10) (.seq (Jq8p p) .ret) .skip)) := eqi
def Jq8r (p : Nums) : IC := (.seq (.region [⟨(some 6), (.bin .eql (.t 4) (.c (.d (.int .i64 1)))), none, false⟩, ⟨(some 5), (.asg (.t 6)), none, false⟩] []) (.cond (.t 5) (.seq (Jq8o p) .ret) (Jq8q p)))
@[simp] theorem Je8r {p : Nums} : EqI (Jq8r p) (.seq (.region [⟨(some 6), (.bin .eql (.t 4) (.c (.d (.int .i64 1)))), none, false⟩, ⟨(some 5), (.asg (.t 6)), none, false⟩] []) (.cond (.t 5) (.seq (Jq8o p) .ret) (Jq8q p))) := eqi
def Jtae (p : Nums) : IC := (.seq (.region [⟨(some 1), (.box (.t 0)), none, false⟩, ⟨(some 2), (.asg (.c .nils)), none, false⟩] []) (.seq (.seq (.region [⟨(some 3), (.faddr 0 (.t 1)), none, false⟩, ⟨(some 4), (.load none (.t 3)), none, false⟩] []) (.block 0 (Jq8r p))) (.seq (.region [⟨(some 2), (.asg (.c .nils)), none, false⟩] []) .ret)))
@[simp] def Jq51 (p : Nums) : List IOp := [qo 3 (.mov (.t 0)), qo 4 (.bin .geq (.t 3) (ci 1)), qo 5 (.mov (.t 4)), ⟨(some 6), (.mov (.t 0)), (some (5, true)), false⟩, ⟨(some 7), (.bin .leq (.t 6) (ci 18)), (some (5, true)), false⟩, qo 8 (.pick (.t 5) (.t 7) (.c (.d (.bool false)))), qo 2 (.asg (.t 8))]
def Jq50 (p : Nums) : IC := (.region (Jq51 p) [])
@[simp] theorem Je50 {p : Nums} : EqI (Jq50 p) (.region (Jq51 p) []) := eqi
def Jta1 (p : Nums) : IC := (.seq (.region [⟨(some 2), (.asg (.c (.d (.bool false)))), none, false⟩] []) (.seq (Jq50 p) .ret))
@[simp] def Jq1 (p : Nums) : List IOp := [qo 5 (.box (.t 1)), qo 6 (.box (.t 2)), qo 8 (.alloc [(zi 0)]), qo 9 (.alloc [(zi 0)])]
def Jq0 (p : Nums) : IC := (.region (Jq1 p) [])
@[simp] theorem Je0 {p : Nums} : EqI (Jq0 p) (.region (Jq1 p) []) := eqi
@[simp] def Jqh (p : Nums) : List IOp := [qo 13 (.mov (.t 3)), qo 14 (.len (.t 13)), qo 15 (.mov (ci 0))]
def Jq9 (p : Nums) : IC := (.region (Jqh p) [])
@[simp] theorem Je9 {p : Nums} : EqI (Jq9 p) (.region (Jqh p) []) := eqi
@[simp] def Jqi (p : Nums) : List IOp := [qo 17 (.iaddr 6 (.t 13) (.t 15)), qo 18 (.load (some 6) (.t 17)), qo 11 (.alloc [(zi 0), (zi 0), (zi 0), (zi 0), (zi 0), (zi 0)]), qn (.store 6 (.t 11) (.t 18))]
def Jqa (p : Nums) : IC := (.region (Jqi p) [])
@[simp] theorem Jea {p : Nums} : EqI (Jqa p) (.region (Jqi p) []) := eqi
@[simp] def Jqj (p : Nums) : List IOp := [qo 19 (.mov (.t 0)), qo 20 (.load (some 5) (.t 5)), qo 21 (.load (some 5) (.t 6)), qo 22 (.load (some 6) (.t 11)), qo 23 (.call p.blockcheck_checker_row [(.t 19), (.t 20), (.t 21), (.t 22)])]
def Jqb (p : Nums) : IC := (.region (Jqj p) [])
@[simp] theorem Jeb {p : Nums} : EqI (Jqb p) (.region (Jqj p) []) := eqi
def Jqc (p : Nums) : IC := (.seq (Jqa p) (Jqb p))
@[simp] theorem Jec {p : Nums} : EqI (Jqc p) (.seq (Jqa p) (Jqb p)) := eqi
def Jqd (p : Nums) : IC := (.seq (.region [⟨(some 16), (.bin .lss (.t 15) (.t 14)), none, false⟩] []) (.seq (.cond (.t 16) .skip (.exit 0)) (.seq (.block 1 (Jqc p)) (.region [⟨(some 24), (.bin .add (.t 15) (.c (.d (.int .i64 1)))), none, false⟩, ⟨(some 15), (.mov (.t 24)), none, false⟩] []))))
@[simp] theorem Jed {p : Nums} : EqI (Jqd p) (.seq (.region [⟨(some 16), (.bin .lss (.t 15) (.t 14)), none, false⟩] []) (.seq (.cond (.t 16) .skip (.exit 0)) (.seq (.block 1 (Jqc p)) (.region [⟨(some 24), (.bin .add (.t 15) (.c (.d (.int .i64 1)))), none, false⟩, ⟨(some 15), (.mov (.t 24)), none, false⟩] [])))) := eqi
@[simp] def Jqk (p : Nums) : List IOp := [qo 25 (.faddr 1 (.t 5)), qo 26 (.faddr 0 (.t 25)), qo 27 (.load none (.t 26)), qo 28 (.bin .neq (.t 27) (ci 1))]
def Jqe (p : Nums) : IC := (.region (Jqk p) [])
@[simp] theorem Jee {p : Nums} : EqI (Jqe p) (.region (Jqk p) []) := eqi
@[simp] def Jql (p : Nums) : List IOp := [qo 29 (.mov (.t 0)), qo 30 (.faddr 1 (.t 5)), qo 31 (.faddr 1 (.t 30)), qo 32 (.load none (.t 31)), qo 33 (.faddr 1 (.t 6)), qo 34 (.faddr 1 (.t 33)), qo 35 (.load none (.t 34)), qo 36 (.faddr 0 (.t 6)), qo 37 (.load none (.t 36)), qo 38 (.len (.t 37)), qo 39 (.call p.blockcheck_checker_use [(.t 29), (.t 32), (.t 35), (.t 38)])]
def Jqf (p : Nums) : IC := (.region (Jql p) [])
@[simp] theorem Jef {p : Nums} : EqI (Jqf p) (.region (Jql p) []) := eqi
@[simp] def Jqm (p : Nums) : List IOp := [qp 40 (.faddr 0 (.t 6)), qp 41 (.load none (.t 40)), qp 42 (.len (.t 41)), qm (.storeq 1 (.t 8) (ci 0) [(40, 1)]), qn (.store 1 (.t 9) (.t 42))]
def Jqg (p : Nums) : IC := (.region (Jqm p) [])
@[simp] theorem Jeg {p : Nums} : EqI (Jqg p) (.region (Jqm p) []) := eqi
@[simp] def Jq6 (p : Nums) : List IOp := [qo 9 (.mov (.t 2)), qo 10 (.tas p.ty_bcfail (.t 9)), qo 8 (.mov (.t 10)), qo 11 (.ext (.t 8) 0), qo 12 (.ext (.t 8) 1), qo 3 (.alloc [(zi 0), (zi 0)]), qn (.store 2 (.t 3) (.t 11)), qo 4 (.asg (.t 12))]
def Jq2 (p : Nums) : IC := (.region (Jq6 p) [])
@[simp] theorem Je2 {p : Nums} : EqI (Jq2 p) (.region (Jq6 p) []) := eqi
@[simp] def Jq7 (p : Nums) : List IOp := [qo 15 (.mov (.t 2)), qn (.pan (.t 15))]
def Jq3 (p : Nums) : IC := (.region (Jq7 p) [])
@[simp] theorem Je3 {p : Nums} : EqI (Jq3 p) (.region (Jq7 p) []) := eqi
@[simp] def Jq8 (p : Nums) : List IOp := [qp 16 (.faddr 0 (.t 3)), qp 17 (.load none (.t 16)), qp 18 (.faddr 1 (.t 3)), qp 19 (.load none (.t 18)), qm (.storeq 1 (.t 0) (.t 17) [(18, 1)]), qn (.store 1 (.t 1) (.t 19))]
def Jq4 (p : Nums) : IC := (.region (Jq8 p) [])
@[simp] theorem Je4 {p : Nums} : EqI (Jq4 p) (.region (Jq8 p) []) := eqi
def Jq5 (p : Nums) : IC := (.seq (Jq2 p) (.seq (.seq (.region [⟨(some 13), (.mov (.t 4)), none, false⟩, ⟨(some 14), (.un .not (.t 13)), none, false⟩] []) (.cond (.t 14) (Jq3 p) .skip)) (Jq4 p)))
@[simp] theorem Je5 {p : Nums} : EqI (Jq5 p) (.seq (Jq2 p) (.seq (.seq (.region [⟨(some 13), (.mov (.t 4)), none, false⟩, ⟨(some 14), (.un .not (.t 13)), none, false⟩] []) (.cond (.t 14) (Jq3 p) .skip)) (Jq4 p))) := eqi
structure All (P : Program) (p : Nums) : Prop where
 law23_LivenessAppended : Has P p.law23_LivenessAppended 2 [(.tmp 4)] (Jt9p p)
 law23_awake : Has P p.law23_awake 0 [(.tmp 0)] (Jt9q p)
 ref07_Few : Has P p.ref07_Few 1 [(.tmp 2)] (Jta8 p)
 ref07_Check : Has P p.ref07_Check 1 [(.tmp 2)] (Jta5 p)
 ref07_Numbers : Has P p.ref07_Numbers 2 [(.tmp 4)] (Jtaa p)
 liveness_Uses : Has P p.liveness_Uses 1 [(.tmp 2)] (Jt9u p)
 liveness_Defs : Has P p.liveness_Defs 1 [(.tmp 2)] (Jt9r p)
 ref23_Same : Has P p.ref23_Same 2 [(.tmp 4)] (Jtad p)
 liveness_In : Has P p.liveness_In 1 [(.tmp 2)] (Jt9s p)
 liveness_Out : Has P p.liveness_Out 1 [(.tmp 2)] (Jt9t p)
 ref07_Copy : Has P p.ref07_Copy 1 [(.cell 2 (some 3))] (Jta7 p)
 ref07_Code : Has P p.ref07_Code 1 [(.tmp 2)] (Jta6 p)
 ref07_Instr : Has P p.ref07_Instr 2 [(.tmp 4)] (Jta9 p)
 ref07_Term : Has P p.ref07_Term 3 [(.tmp 6)] (Jtab p)
 ref05_UsesA : Has P p.ref05_UsesA 1 [(.tmp 2)] (Jta2 p)
 ref05_UsesB : Has P p.ref05_UsesB 1 [(.tmp 2)] (Jta3 p)
 ref05_UsesD : Has P p.ref05_UsesD 1 [(.tmp 2)] (Jta4 p)
 liveness_scan : Has P p.liveness_scan 1 [(.cell 2 none), (.cell 3 none)] (Jt9w p)
 liveness_set_sorted : Has P p.liveness_set_sorted 1 [(.tmp 2)] (Jt9y p)
 liveness_solve : Has P p.liveness_solve 1 [(.tmp 2)] (Jt9z p)
 liveness_exit : Has P p.liveness_exit 2 [(.tmp 4)] (Jt9v p)
 ref07_in : Has P p.ref07_in 2 [(.tmp 4)] (Jtac p)
 liveness_scan_1 : Has P p.liveness_scan_1 3 [] (Jt9x p)
 opcode_Of : Has P p.opcode_Of 1 [(.cell 2 (some 4)), (.tmp 3)] (Jta0 p)
 source_Successors : Has P p.source_Successors 1 [(.tmp 2)] (Jtae p)
 opcode_known : Has P p.opcode_known 1 [(.tmp 2)] (Jta1 p)
abbrev I (n : Int) : D := .int .i64 n
abbrev AI (n : Int) : AV := .d (.int .i64 n)
abbrev AB (b : Bool) : AV := .d (.bool b)
structure Pair where (v l : Int)
 deriving DecidableEq, Inhabited
def Pair.row (q : Pair) : List D := [I q.v, I q.l]
def Pair.av (q : Pair) : AV := .agg [AI q.v, AI q.l]
def pairsD (l : List Pair) : D := .sl (l.map Pair.row)
theorem HasL.cons_inv {l : LT} {ls : List LT} {ds : List D} (h : HasL (l :: ls) ds) : ∃ d ds', ds = d :: ds' ∧ HasT l d ∧ HasL ls ds' := by
 obtain ⟨h1, h2⟩ := h
 cases ds with
 | nil => simp at h1
 | cons d ds => exact ⟨d, ds, rfl, h2 0 l d rfl rfl, by simpa using h1, fun j l' x a b => h2 (j + 1) l' x (by simpa using a) (by simpa using b)⟩
theorem HasL.nil_inv {ds : List D} (h : HasL [] ds) : ds = [] := by
 have := h.1; simpa using this
theorem HasT.int_inv {k : IntKind} {d : D} (h : HasT (.int k) d) : ∃ n, d = .int k n ∧ (Lit.int k n).wf = true := by
 cases h with
 | int _ n h => exact ⟨n, rfl, h⟩
theorem HasT.sl_inv {ls : List LT} {d : D} (h : HasT (.sl ls) d) : ∃ rows, d = .sl rows ∧ rows.length ≤ maxLen ∧ ∀ r ∈ rows, HasL ls r := by
 cases h with
 | sl _ rows hl h0 h => exact ⟨rows, rfl, hl, fun r hr => ⟨h0 r hr, h r hr⟩⟩
theorem Jtfn {α : Type} {g : α → List D} {Q : List D → Prop} (h : ∀ r, Q r → ∃ x, r = g x) : ∀ {rows : List (List D)}, (∀ r ∈ rows, Q r) → ∃ l : List α, rows = l.map g := by
 intro rows
 induction rows with
 | nil => intro _; exact ⟨[], rfl⟩
 | cons r rows ih =>
  intro hq
  obtain ⟨x, rfl⟩ := h r (hq r (by simp))
  obtain ⟨l, rfl⟩ := ih fun r hr => hq r (by simp [hr])
  exact ⟨x :: l, rfl⟩
def ltI : LT := .int .i64
def lessP (a b : Pair) : Bool := if a.v = b.v then decide (a.l < b.l) else decide (a.v < b.v)
theorem Jtb3 {a b : Pair} : lessP a b = true ↔ a.v < b.v ∨ (a.v = b.v ∧ a.l < b.l) := by
 unfold lessP; split <;> simp <;> omega
theorem Jtb6 {a b : Pair} (h1 : lessP a b = false) (h2 : lessP b a = false) : a = b := by
 have h1 : ¬ lessP a b = true := by simp [h1]
 have h2 : ¬ lessP b a = true := by simp [h2]
 rw [Jtb3] at h1 h2
 obtain ⟨a1, a2⟩ := a; obtain ⟨b1, b2⟩ := b
 simp only [Pair.mk.injEq]; simp only at h1 h2; omega
theorem Jtb7 {a b c : Pair} (h1 : lessP a b = true) (h2 : lessP b c = true) : lessP a c = true := by
 rw [Jtb3] at *; omega
theorem Jtb4 (a : Pair) : lessP a a = false := by
 cases h : lessP a a with
 | false => rfl
 | true => rw [Jtb3] at h; omega
def stepA (p : Pair) (s : List Pair × Bool) (q : Pair) : List Pair × Bool :=
 let s := if s.2 = false ∧ lessP q p = false then (s.1 ++ [p], true) else s
 if q = p then s else (s.1 ++ [q], s.2)
def foldA (p : Pair) (l : List Pair) : List Pair × Bool := l.foldl (stepA p) ([], false)
def addP (l : List Pair) (p : Pair) : List Pair := if (foldA p l).2 = true then (foldA p l).1 else (foldA p l).1 ++ [p]
def makeP (l : List Pair) : List Pair := l.foldl addP []
theorem Jt7n {a b : Pair} (h1 : a.v = b.v) (h2 : a.l = b.l) : a = b := by cases a; cases b; simp_all
def Srt (l : List Pair) : Prop := l.Pairwise fun a b => lessP a b = true
theorem Jtgk {a : Pair} {l : List Pair} : Srt (a :: l) ↔ (∀ b ∈ l, lessP a b = true) ∧ Srt l := List.pairwise_cons
def insP (l : List Pair) (p : Pair) : List Pair := (l.takeWhile fun q => lessP q p) ++ p :: (l.dropWhile fun q => lessP q p).filter fun q => decide (q ≠ p)
theorem Jtb5 {a b : Pair} (h : lessP a b = true) : a ≠ b := by rintro rfl; rw [Jtb4] at h; cases h
theorem Jt8j (p : Pair) (l out : List Pair) : l.foldl (stepA p) (out, true) = (out ++ l.filter (fun q => decide (q ≠ p)), true) := by
 induction l generalizing out with
 | nil => simp
 | cons q l ih =>
  by_cases e : q = p
  ·simp [stepA, e, ih]
  ·simp [stepA, e, ih]
theorem Jt8k (p : Pair) (l out : List Pair) : l.foldl (stepA p) (out, false) = if (l.dropWhile fun q => lessP q p) = [] then (out ++ l, false) else (out ++ insP l p, true) := by
 induction l generalizing out with
 | nil => simp
 | cons q l ih =>
  cases h : lessP q p with
  | true =>
   have hne := Jtb5 h
   simp only [List.foldl_cons, stepA, h, hne, if_false, and_false, ih, List.dropWhile_cons, if_true, Bool.true_eq_false, insP, List.takeWhile_cons]
   split <;> simp [List.append_assoc]
  | false =>
   simp only [List.foldl_cons, stepA, h, and_self, if_true, List.dropWhile_cons, Bool.false_eq_true, if_false, reduceCtorEq, insP, List.takeWhile_cons, List.nil_append]
   by_cases e : q = p
   ·simp [e, Jt8j]
   ·simp [e, Jt8j]
theorem Jt5l (l : List Pair) (p : Pair) : addP l p = insP l p := by
 unfold addP foldA
 rw [Jt8k]
 split
 ·rename_i h
  simp only [List.nil_append, Bool.false_eq_true, if_false, insP, h, List.filter_nil]
  have : l.takeWhile (fun q => lessP q p) = l := by
   have e := List.takeWhile_append_dropWhile (p := fun q => lessP q p) (l := l)
   rw [h, List.append_nil] at e; exact e
  rw [this]
 ·simp
theorem Jtcn {l : List Pair} {p q : Pair} : q ∈ addP l p ↔ q = p ∨ q ∈ l := by
 rw [Jt5l, insP]
 have e := List.takeWhile_append_dropWhile (p := fun q => lessP q p) (l := l)
 have e2 : q ∈ l ↔ q ∈ l.takeWhile (fun q => lessP q p) ∨ q ∈ l.dropWhile (fun q => lessP q p) := by
  rw [← List.mem_append, e]
 simp only [List.mem_append, List.mem_cons, List.mem_filter, decide_eq_true_eq, e2]
 by_cases h : q = p <;> simp [h]
theorem Jt7i {l : List Pair} {p : Pair} (h : Srt l) : ∀ q ∈ l.dropWhile (fun q => lessP q p), lessP q p = false := by
 induction l with
 | nil => intro q hq; simp at hq
 | cons x l ih =>
  intro q hq
  rw [Jtgk] at h
  cases hx : lessP x p with
  | true => rw [List.dropWhile_cons, hx, if_pos rfl] at hq; exact ih h.2 q hq
  | false =>
   rw [List.dropWhile_cons, hx, if_neg (by simp)] at hq
   rcases List.mem_cons.1 hq with rfl | hq
   ·exact hx
   ·cases hqp : lessP q p with
    | false => rfl
    | true => rw [Jtb7 (h.1 q hq) hqp] at hx; cases hx
theorem Jth7 {l : List Pair} {p : Pair} : ∀ q ∈ l.takeWhile (fun q => lessP q p), lessP q p = true := by
 induction l with
 | nil => intro q hq; simp at hq
 | cons x l ih =>
  intro q hq
  cases hx : lessP x p with
  | true =>
   rw [List.takeWhile_cons, hx, if_pos rfl] at hq
   rcases List.mem_cons.1 hq with rfl | hq
   ·exact hx
   ·exact ih q hq
  | false => rw [List.takeWhile_cons, hx, if_neg (by simp)] at hq; simp at hq
theorem Jtgr {a b : List Pair} (h : a.Sublist b) (hb : Srt b) : Srt a := List.Pairwise.sublist h hb
theorem Jtgj {l : List Pair} {p : Pair} (h : Srt l) : Srt (addP l p) := by
 rw [Jt5l, insP]
 refine List.pairwise_append.2 ⟨Jtgr (List.takeWhile_sublist _) h, Jtgk.2 ⟨?_, ?_⟩, ?_⟩
 ·intro b hb
  rw [List.mem_filter, decide_eq_true_eq] at hb
  have h1 := Jt7i h b hb.1
  cases h2 : lessP p b with
  | true => rfl
  | false => exact absurd (Jtb6 h2 h1).symm hb.2
 ·exact Jtgr (List.filter_sublist.trans (List.dropWhile_sublist _)) h
 ·intro a ha b hb
  have h1 := Jth7 a ha
  rcases List.mem_cons.1 hb with rfl | hb
  ·exact h1
  ·rw [List.mem_filter, decide_eq_true_eq] at hb
   have h2 := Jt7i h b hb.1
   cases h3 : lessP p b with
   | true => exact Jtb7 h1 h3
   | false => exact absurd (Jtb6 h3 h2).symm hb.2
theorem Jtcj (l : List Pair) (q : Pair) : makeP (l ++ [q]) = addP (makeP l) q := by simp [makeP]
theorem Jtci {motive : List Pair → Prop} (h0 : motive []) (h1 : ∀ l q, motive l → motive (l ++ [q])) (l : List Pair) : motive l := by
 generalize hn : l.length = n
 induction n generalizing l with
 | zero => have : l = [] := List.length_eq_zero_iff.1 hn; subst this; exact h0
 | succ n ih =>
  have hne : l ≠ [] := by rintro rfl; simp at hn
  rw [← List.dropLast_concat_getLast hne]
  exact h1 _ _ (ih _ (by simp [hn]))
theorem Jtgn (l : List Pair) : Srt (makeP l) := by
 induction l using Jtci with
 | h0 => exact List.Pairwise.nil
 | h1 l q ih => rw [Jtcj]; exact Jtgj ih
theorem Jtcs {l : List Pair} {q : Pair} : q ∈ makeP l ↔ q ∈ l := by
 induction l using Jtci with
 | h0 => simp [makeP]
 | h1 l x ih => rw [Jtcj, Jtcn, ih]; simp [or_comm]
theorem Jtgq {l : List Pair} (h : Srt l) : l.Nodup := List.Pairwise.imp (fun h => Jtb5 h) h
section
end
section
end
section
end
section
end
section
end
section
end
def mergeP : List Pair → List Pair → List Pair
 | [], b => b
 | x :: a, [] => x :: a
 | x :: a, y :: b => if lessP y x = true then y :: mergeP (x :: a) b else if y = x then x :: mergeP a b else x :: mergeP a (y :: b)
termination_by a b => a.length + b.length
theorem Jtct {a b : List Pair} {q : Pair} : q ∈ mergeP a b ↔ q ∈ a ∨ q ∈ b := by
 induction a, b using mergeP.induct with
 | case1 b => simp [mergeP]
 | case2 x a => simp [mergeP]
 | case3 x a y b h ih => rw [mergeP, if_pos h, List.mem_cons, ih]; simp only [List.mem_cons]; constructor <;> (intro h; rcases h with h | h | h <;> simp_all)
 | case4 a b x h ih => rw [mergeP, if_neg h, if_pos rfl, List.mem_cons, ih]; simp only [List.mem_cons]; constructor <;> grind
 | case5 x a y b h h2 ih => rw [mergeP, if_neg h, if_neg h2, List.mem_cons, ih]; simp only [List.mem_cons]; constructor <;> grind
theorem Jtgo {a b : List Pair} (ha : Srt a) (hb : Srt b) : Srt (mergeP a b) := by
 induction a, b using mergeP.induct with
 | case1 b => simpa [mergeP] using hb
 | case2 x a => simpa [mergeP] using ha
 | case3 x a y b h ih =>
  rw [mergeP, if_pos h]
  refine Jtgk.2 ⟨fun q hq => ?_, ih ha (Jtgk.1 hb).2⟩
  rw [Jtct, List.mem_cons] at hq
  rcases hq with (rfl | hq) | hq
  ·exact h
  ·exact Jtb7 h ((Jtgk.1 ha).1 q hq)
  ·exact (Jtgk.1 hb).1 q hq
 | case4 a b x h ih =>
  rw [mergeP, if_neg h, if_pos rfl]
  refine Jtgk.2 ⟨fun q hq => ?_, ih (Jtgk.1 ha).2 (Jtgk.1 hb).2⟩
  rw [Jtct] at hq
  rcases hq with hq | hq
  ·exact (Jtgk.1 ha).1 q hq
  ·exact (Jtgk.1 hb).1 q hq
 | case5 x a y b h h2 ih =>
  rw [mergeP, if_neg h, if_neg h2]
  have hxy : lessP x y = true := by
   cases e : lessP x y with
   | true => rfl
   | false => exact absurd (Jtb6 (by simpa using h) e) h2
  refine Jtgk.2 ⟨fun q hq => ?_, ih (Jtgk.1 ha).2 hb⟩
  rw [Jtct, List.mem_cons] at hq
  rcases hq with hq | rfl | hq
  ·exact (Jtgk.1 ha).1 q hq
  ·exact hxy
  ·exact Jtb7 hxy ((Jtgk.1 hb).1 q hq)
section
end
section
end
end Go.AE
namespace Go.AE
open Go Go.Proofs Go.Shelf Go.Sort
def sortP (l : List Pair) : List Pair := l.mergeSort fun x y => !lessP y x
section
variable {P : Program} {ρ : Ren}
end
structure SortOk (P : Program) (p : Nums) : Prop where
 none : Jt4n P p.slices_SortFunc_Pair [.d (.sl []), .fn (.func p.pairset_compare) [] []] [] fun o H' => o = .ret (.tup []) ∧ H' = []
 some : ∀ l : List Pair, l ≠ [] → l.length < 1000000 → Jt4n P p.slices_SortFunc_Pair [.hsl 0 0 2 l.length, .fn (.func p.pairset_compare) [] []] [.mem (Jtfh (l.map Pair.row))] fun o H' => o = .ret (.tup []) ∧ H' = [.mem (Jtfh ((sortP l).map Pair.row))]
section
end
def renP (c : Pair → Bool) (f : Pair → Pair) (l : List Pair) : List Pair := (l.filter c).map f
theorem Jtcx {c : Pair → Bool} {f : Pair → Pair} {l : List Pair} {q : Pair} : q ∈ renP c f l ↔ ∃ p ∈ l, c p = true ∧ f p = q := by
 unfold renP; simp only [List.mem_map, List.mem_filter, and_assoc]
def copyP (l : List Pair) (d a : Int) : List Pair := if d = a then makeP l else mergeP (l.filter fun x => x.v != d) (makeP (renP (fun x => x.v == a) (fun x => ⟨d, x.l⟩) l))
def moveP (l : List Pair) (d a : Int) : List Pair := if d = a then makeP l else mergeP (l.filter fun x => x.l != d) (makeP (renP (fun x => x.l == a) (fun x => ⟨x.v, d⟩) l))
def defP (l : List Pair) (d t : Int) : List Pair := addP ((l.filter fun x => x.v != d).filter fun x => x.l != t) ⟨d, t⟩
theorem Jtgm {l : List Pair} {f : Pair → Bool} (h : Srt l) : Srt (l.filter f) := List.Pairwise.filter f h
theorem Jtgl {l : List Pair} {d a : Int} (h : Srt l) : Srt (copyP l d a) := by
 unfold copyP; split
 ·exact Jtgn _
 ·exact Jtgo (Jtgm h) (Jtgn _)
theorem Jtgp {l : List Pair} {d a : Int} (h : Srt l) : Srt (moveP l d a) := by
 unfold moveP; split
 ·exact Jtgn _
 ·exact Jtgo (Jtgm h) (Jtgn _)
theorem Jtco {l : List Pair} {d a : Int} {q : Pair} : q ∈ copyP l d a ↔ (q ∈ l ∧ (d = a ∨ q.v ≠ d)) ∨ (q.v = d ∧ (⟨a, q.l⟩ : Pair) ∈ l) := by
 unfold copyP
 by_cases h : d = a
 ·subst h
  rw [if_pos rfl, Jtcs]
  constructor
  ·intro hq; exact .inl ⟨hq, .inl rfl⟩
  ·rintro (⟨hq, _⟩ | ⟨e, hq⟩)
   ·exact hq
   ·have : (⟨d, q.l⟩ : Pair) = q := Jt7n e.symm rfl
    rw [this] at hq; exact hq
 ·rw [if_neg h, Jtct, Jtcs, Jtcx, List.mem_filter]
  constructor
  ·rintro (⟨h1, h2⟩ | ⟨p, h1, h2, rfl⟩)
   ·exact .inl ⟨h1, .inr (by simpa using h2)⟩
   ·refine .inr ⟨rfl, ?_⟩
    have e : p.v = a := by simpa using h2
    have : (⟨a, p.l⟩ : Pair) = p := Jt7n e.symm rfl
    simpa [this] using h1
  ·rintro (⟨h1, h2⟩ | ⟨h1, h2⟩)
   ·exact .inl ⟨h1, by simpa using h2.resolve_left h⟩
   ·exact .inr ⟨_, h2, by simp, Jt7n h1.symm rfl⟩
theorem Jtcu {l : List Pair} {d a : Int} {q : Pair} : q ∈ moveP l d a ↔ (q ∈ l ∧ (d = a ∨ q.l ≠ d)) ∨ (q.l = d ∧ (⟨q.v, a⟩ : Pair) ∈ l) := by
 unfold moveP
 by_cases h : d = a
 ·subst h
  rw [if_pos rfl, Jtcs]
  constructor
  ·intro hq; exact .inl ⟨hq, .inl rfl⟩
  ·rintro (⟨hq, _⟩ | ⟨e, hq⟩)
   ·exact hq
   ·have : (⟨q.v, d⟩ : Pair) = q := Jt7n rfl e.symm
    rw [this] at hq; exact hq
 ·rw [if_neg h, Jtct, Jtcs, Jtcx, List.mem_filter]
  constructor
  ·rintro (⟨h1, h2⟩ | ⟨p, h1, h2, rfl⟩)
   ·exact .inl ⟨h1, .inr (by simpa using h2)⟩
   ·refine .inr ⟨rfl, ?_⟩
    have e : p.l = a := by simpa using h2
    have : (⟨p.v, a⟩ : Pair) = p := Jt7n rfl e.symm
    simpa [this] using h1
  ·rintro (⟨h1, h2⟩ | ⟨h1, h2⟩)
   ·exact .inl ⟨h1, by simpa using h2.resolve_left h⟩
   ·exact .inr ⟨_, h2, by simp, Jt7n rfl h1.symm⟩
section
end
section
end
section
end
section
end
section
end
structure ClosOk (P : Program) (p : Nums) : Prop where
 ok1 : okFn P p.transfer_Copy_1 = true
 ok2 : okFn P p.transfer_Move_1 = true
 copy : ∀ (x : Pair) (d a : Int), Jt4n P p.transfer_Copy_1 [x.av, .ptr 0 0, .ptr 1 0] [.mem [AI d], .mem [AI a]] fun o H' => o = .ret (.tup [(⟨d, x.l⟩ : Pair).av, AB (x.v == a)]) ∧ H' = [.mem [AI d], .mem [AI a]]
 move : ∀ (x : Pair) (d a : Int), Jt4n P p.transfer_Move_1 [x.av, .ptr 0 0, .ptr 1 0] [.mem [AI d], .mem [AI a]] fun o H' => o = .ret (.tup [(⟨x.v, d⟩ : Pair).av, AB (x.l == a)]) ∧ H' = [.mem [AI d], .mem [AI a]]
section
end
section
end
section
end
section
end
section
end
def intRow (n : Int) : List D := [.int .i64 n]
def intsD (l : List Int) : D := .sl (l.map intRow)
section
end
section
end
section
end
section
end
def isDig (c : UInt8) : Bool := decide (48 ≤ c.toNat) && decide (c.toNat ≤ 57)
def valD (ds : List UInt8) : Nat := ds.foldl (fun n c => 10 * n + (c.toNat - 48)) 0
def okD (ds : List UInt8) : Prop := ds ≠ [] ∧ (∀ c ∈ ds, isDig c = true) ∧ (ds.length ≤ 1 ∨ ds.head? ≠ some 48) ∧ valD ds < 1099511627776
instance (ds : List UInt8) : Decidable (okD ds) := by unfold okD; infer_instance
section
end
structure Mach where (op d a b imm dst src : Int)
 deriving DecidableEq, Inhabited
def Mach.row (m : Mach) : List D := [I m.op, I m.d, I m.a, I m.b, I m.imm, I m.dst, I m.src]
def Mach.av (m : Mach) : AV := .agg [AI m.op, AI m.d, AI m.a, AI m.b, AI m.imm, AI m.dst, AI m.src]
def regZ (n : Int) : Int := IntKind.i64.wrap (2 * n)
section
def knownZ (x : Int) : Bool := decide (1 ≤ x ∧ x ≤ 18)
theorem Jtdu {P : Program} {p : Nums} (A : All P p) (x : Int) : Jt4n P p.opcode_known [AI x] [] fun o _ => o = .ret (AB (knownZ x)) := by
 refine A.opcode_known.run rfl fun R hR => ?_
 (simp (maxSteps := 1000000) [Jta1])
 ((first | refine Xc (fun hx => ?_) (fun hx => ?_) | refine Xo (fun hx => ?_) (fun hx => ?_)) <;> (try simp only [Xz, Xy] at hx))
 ·(simp (maxSteps := 1000000) [hx])
  (first | exact hR _ _ FrA | exact hR _ _ FnA | exact hR _ _ (Xf (hq := by simp [AV.erase, AV.unview, knownZ, hx]; done)))
 ·(simp (maxSteps := 1000000) [hx])
  (first | exact hR _ _ FrA | exact hR _ _ FnA | exact hR _ _ (Xf (hq := by simp [AV.erase, AV.unview, knownZ, hx]; done)))
structure Shape where (D A B Imm : Bool)
def shapeZ (x : Int) : Shape :=
 if knownZ x = false then ⟨false, false, false, false⟩ else if x = 1 then ⟨true, false, false, true⟩ else if x ≤ 4 then ⟨true, true, false, false⟩ else if x ≤ 16 then ⟨true, true, true, false⟩ else ⟨false, x == 17, false, false⟩
theorem Jtdt {P : Program} {p : Nums} (A : All P p) (x : Int) : Jt4n P p.opcode_Of [AI x] [] fun o _ => o = .ret (.tup [.agg [AB (shapeZ x).D, AB (shapeZ x).A, AB (shapeZ x).B, AB (shapeZ x).Imm], AB (knownZ x)]) := by
 refine A.opcode_Of.run rfl fun R hR => ?_
 (simp (maxSteps := 1000000) [Jta0])
 (refine Jt13 (Jtdu A _) (by rfl) (by rfl) ?_)
 (simp (maxSteps := 1000000) [])
 ((first | refine Xc (fun h1 => ?_) (fun h1 => ?_) | refine Xo (fun h1 => ?_) (fun h1 => ?_)) <;> (try simp only [Xz, Xy] at h1))
 ·(simp (maxSteps := 1000000) [h1])
  (first | exact hR _ _ FrA | exact hR _ _ FnA | exact hR _ _ (Xf (hq := by simp [AV.erase, AV.unview, shapeZ, h1]; done)))
 ·(simp (maxSteps := 1000000) [h1])
  ((first | refine Xc (fun h2 => ?_) (fun h2 => ?_) | refine Xo (fun h2 => ?_) (fun h2 => ?_)) <;> (try simp only [Xz, Xy] at h2))
  ·subst h2
   (simp (maxSteps := 1000000) [])
   (first | exact hR _ _ FrA | exact hR _ _ FnA | exact hR _ _ (Xf (hq := by simp [AV.erase, AV.unview, shapeZ, h1]; done)))
  ·(simp (maxSteps := 1000000) [h2])
   ((first | refine Xc (fun h3 => ?_) (fun h3 => ?_) | refine Xo (fun h3 => ?_) (fun h3 => ?_)) <;> (try simp only [Xz, Xy] at h3))
   ·(simp (maxSteps := 1000000) [h3])
    (first | exact hR _ _ FrA | exact hR _ _ FnA | exact hR _ _ (Xf (hq := by simp [AV.erase, AV.unview, shapeZ, h1, h2, h3]; done)))
   ·(simp (maxSteps := 1000000) [h3])
    ((first | refine Xc (fun h4 => ?_) (fun h4 => ?_) | refine Xo (fun h4 => ?_) (fun h4 => ?_)) <;> (try simp only [Xz, Xy] at h4))
    ·(simp (maxSteps := 1000000) [h4])
     (first | exact hR _ _ FrA | exact hR _ _ FnA | exact hR _ _ (Xf (hq := by simp [AV.erase, AV.unview, shapeZ, h1, h2, h3, h4]; done)))
    ·(simp (maxSteps := 1000000) [h4])
     (first | exact hR _ _ FrA | exact hR _ _ FnA | exact hR _ _ (Xf (hq := by simp [AV.erase, AV.unview, shapeZ, h1, h2, h3, h4]; done)))
def inZ (x n : Int) : Bool := decide (0 ≤ x ∧ x < n)
theorem Jtes {P : Program} {p : Nums} (A : All P p) (x n : Int) : Jt4n P p.ref07_in [AI x, AI n] [] fun o _ => o = .ret (AB (inZ x n)) := by
 refine A.ref07_in.run rfl fun R hR => ?_
 (simp (maxSteps := 1000000) [Jtac])
 ((first | refine Xc (fun h1 => ?_) (fun h1 => ?_) | refine Xo (fun h1 => ?_) (fun h1 => ?_)) <;> (try simp only [Xz, Xy] at h1))
 ·(simp (maxSteps := 1000000) [h1])
  (first | exact hR _ _ FrA | exact hR _ _ FnA | exact hR _ _ (Xf (hq := by simp [AV.erase, AV.unview, h1, inZ]; done)))
 ·(simp (maxSteps := 1000000) [h1])
  (first | exact hR _ _ FrA | exact hR _ _ FnA | exact hR _ _ (Xf (hq := by simp [AV.erase, AV.unview, h1, inZ]; done)))
def usesA (x : Int) : Bool := decide (2 ≤ x ∧ x ≤ 17)
theorem Jteh {P : Program} {p : Nums} (A : All P p) (x : Int) : Jt4n P p.ref05_UsesA [AI x] [] fun o _ => o = .ret (AB (usesA x)) := by
 refine A.ref05_UsesA.run rfl fun R hR => ?_
 (simp (maxSteps := 1000000) [Jta2])
 ((first | refine Xc (fun hx => ?_) (fun hx => ?_) | refine Xo (fun hx => ?_) (fun hx => ?_)) <;> (try simp only [Xz, Xy] at hx))
 ·(simp (maxSteps := 1000000) [hx])
  (first | exact hR _ _ FrA | exact hR _ _ FnA | exact hR _ _ (Xf (hq := by simp [AV.erase, AV.unview, usesA, hx]; done)))
 ·(simp (maxSteps := 1000000) [hx])
  (first | exact hR _ _ FrA | exact hR _ _ FnA | exact hR _ _ (Xf (hq := by simp [AV.erase, AV.unview, usesA, hx]; done)))
def usesB (x : Int) : Bool := decide (5 ≤ x ∧ x ≤ 16)
theorem Jtei {P : Program} {p : Nums} (A : All P p) (x : Int) : Jt4n P p.ref05_UsesB [AI x] [] fun o _ => o = .ret (AB (usesB x)) := by
 refine A.ref05_UsesB.run rfl fun R hR => ?_
 (simp (maxSteps := 1000000) [Jta3])
 ((first | refine Xc (fun hx => ?_) (fun hx => ?_) | refine Xo (fun hx => ?_) (fun hx => ?_)) <;> (try simp only [Xz, Xy] at hx))
 ·(simp (maxSteps := 1000000) [hx])
  (first | exact hR _ _ FrA | exact hR _ _ FnA | exact hR _ _ (Xf (hq := by simp [AV.erase, AV.unview, usesB, hx]; done)))
 ·(simp (maxSteps := 1000000) [hx])
  (first | exact hR _ _ FrA | exact hR _ _ FnA | exact hR _ _ (Xf (hq := by simp [AV.erase, AV.unview, usesB, hx]; done)))
def usesD (x : Int) : Bool := decide (1 ≤ x ∧ x ≤ 16)
theorem Jtej {P : Program} {p : Nums} (A : All P p) (x : Int) : Jt4n P p.ref05_UsesD [AI x] [] fun o _ => o = .ret (AB (usesD x)) := by
 refine A.ref05_UsesD.run rfl fun R hR => ?_
 (simp (maxSteps := 1000000) [Jta4])
 ((first | refine Xc (fun hx => ?_) (fun hx => ?_) | refine Xo (fun hx => ?_) (fun hx => ?_)) <;> (try simp only [Xz, Xy] at hx))
 ·(simp (maxSteps := 1000000) [hx])
  (first | exact hR _ _ FrA | exact hR _ _ FnA | exact hR _ _ (Xf (hq := by simp [AV.erase, AV.unview, usesD, hx]; done)))
 ·(simp (maxSteps := 1000000) [hx])
  (first | exact hR _ _ FrA | exact hR _ _ FnA | exact hR _ _ (Xf (hq := by simp [AV.erase, AV.unview, usesD, hx]; done)))
end
structure Field where (value : Int) (used : Bool) (bound : Int)
def Field.row (f : Field) : List D := [I f.value, .bool f.used, I f.bound]
section
end
structure Instr where (op d a b imm : Int)
 deriving DecidableEq, Inhabited
def Instr.row (i : Instr) : List D := [I i.op, I i.d, I i.a, I i.b, I i.imm]
def Instr.av (i : Instr) : AV := .agg [AI i.op, AI i.d, AI i.a, AI i.b, AI i.imm]
structure Term where (kind a to els : Int)
 deriving DecidableEq, Inhabited
def Term.row (i : Term) : List D := [I i.kind, I i.a, I i.to, I i.els]
def Term.av (i : Term) : AV := .agg [AI i.kind, AI i.a, AI i.to, AI i.els]
section
end
structure Block where (code : List Instr) (term : Term)
 deriving Inhabited
def Block.row (b : Block) : List D := [.sl (b.code.map Instr.row), I b.term.kind, I b.term.a, I b.term.to, I b.term.els]
def Block.av (b : Block) : AV := .agg [.d (.sl (b.code.map Instr.row)), AI b.term.kind, AI b.term.a, AI b.term.to, AI b.term.els]
structure Func where (args regs : Int) (blocks : List Block)
def Func.av (f : Func) : AV := .agg [AI f.args, AI f.regs, .d (.sl (f.blocks.map Block.row))]
def codeN (bs : List Block) : Nat := (bs.map fun b => b.code.length).sum
theorem Jt75 {bs : List Block} {k : Nat} {b : Block} (h : bs[k]? = some b) : codeN (bs.take (k + 1)) = codeN (bs.take k) + b.code.length := by
 rw [codeN, List.take_add_one, h]; simp [codeN]
theorem Jt72 (a b : List Block) : codeN (a ++ b) = codeN a + codeN b := by simp [codeN]
theorem Jt74 (bs : List Block) (k : Nat) : codeN (bs.take k) ≤ codeN bs := by
 have h := Jt72 (bs.take k) (bs.drop k)
 rw [List.take_append_drop] at h; omega
def Jt86 : List Int → Int
 | [] => 0
 | e :: es => if e ≠ 0 then e else Jt86 es
theorem Jt8a {es : List Int} {k : Nat} (h : ∀ e ∈ es.take k, e = 0) : Jt86 es = Jt86 (es.drop k) := by
 induction k generalizing es with
 | zero => rfl
 | succ k ih =>
  cases es with
  | nil => rfl
  | cons e es =>
   have : e = 0 := h e (by simp)
   simp only [Jt86, this, ne_eq, not_true_eq_false, if_false, List.drop_succ_cons]
   exact ih fun x hx => h x (by simp [hx])
theorem Jt89 {es : List Int} {k : Nat} {e : Int} (h : ∀ e ∈ es.take k, e = 0) (hk : es[k]? = some e) (he : e ≠ 0) : Jt86 es = e := by
 rw [Jt8a h]
 have hlt := (List.getElem?_eq_some_iff.1 hk).1
 rw [List.drop_eq_getElem_cons hlt]
 have : es[k] = e := (List.getElem?_eq_some_iff.1 hk).2
 simp [Jt86, this, he]
theorem Jt87 {es : List Int} (h : ∀ e ∈ es, e = 0) : Jt86 es = 0 := by
 rw [Jt8a (k := es.length) (by simpa using h)]; simp [Jt86]
theorem Jth9 {α : Type} {f : α → Int} {l : List α} {k : Nat} {x : α} (h : ∀ e ∈ (l.map f).take k, e = 0) (hx : l[k]? = some x) (h0 : f x = 0) : ∀ e ∈ (l.map f).take (k + 1), e = 0 := by
 intro e he
 rw [List.take_add_one, List.mem_append] at he
 rcases he with he | he
 ·exact h e he
 ·rw [List.getElem?_map, hx] at he; simp at he; rw [he]; exact h0
section
end
def bad9 (i : Instr) (regs : Int) : Bool := usesD i.op && !inZ i.d regs || usesA i.op && !inZ i.a regs || usesB i.op && !inZ i.b regs
def bad12 (i : Instr) : Bool := !usesD i.op && i.d != 0 || !usesA i.op && i.a != 0 || !usesB i.op && i.b != 0 || i.op != 1 && i.imm != 0
def Jtew (i : Instr) (regs : Int) : Int := if i.op < 1 ∨ 17 < i.op then 8 else if bad9 i regs = true then 9 else if bad12 i = true then 12 else 0
def Jtex (t : Term) (regs blocks : Int) : Int :=
 if t.kind = 1 then (if inZ t.to blocks = false then 11 else if t.a ≠ 0 ∨ t.els ≠ 0 then 12 else 0)
 else if t.kind = 2 then (if inZ t.a regs = false then 9 else if inZ t.to blocks = false ∨ inZ t.els blocks = false then 11 else 0)
 else if t.kind = 3 then (if inZ t.a regs = false then 9 else if t.to ≠ 0 ∨ t.els ≠ 0 then 12 else 0)
 else 16
section
theorem Jter {P : Program} {p : Nums} (A : All P p) (t : Term) (regs blocks : Int) : Jt4n P p.ref07_Term [t.av, AI regs, AI blocks] [] fun o _ => o = .ret (AI (Jtex t regs blocks)) := by
 refine A.ref07_Term.run rfl fun R hR => ?_
 (simp (maxSteps := 1000000) [Jtab, Term.av])
 repeat' (first | ((refine Jt13 (Jtes A _ _) (by rfl) (by rfl) ?_); (simp (maxSteps := 1000000) [])) | (((first | refine Xc (fun hbr => ?_) (fun hbr => ?_) | refine Xo (fun hbr => ?_) (fun hbr => ?_)) <;> (try simp only [Xz, Xy] at hbr)) <;> simp (maxSteps := 1000000) [hbr]) | ((first | refine hR _ _ (Jt4q _ rfl rfl ?_) | refine hR _ _ (Jt4p _ rfl rfl ?_)); clear hR; (try simp_all [AV.erase, AV.unview, Jtex])))
end
section
set_option maxHeartbeats 4000000 in
theorem Jtep {P : Program} {p : Nums} (A : All P p) (i : Instr) (regs : Int) : Jt4n P p.ref07_Instr [i.av, AI regs] [] fun o _ => o = .ret (AI (Jtew i regs)) := by
 refine A.ref07_Instr.run rfl fun R hR => ?_
 (simp (maxSteps := 1000000) [Jta9, Instr.av])
 rw [Je74]
 refine Jte ⟨[(12, AB (decide (i.op < 1) || decide (17 < i.op))), (2, .ptr 0 0), (4, AI 0), (1, AI regs)], [.mem [AI i.op, AI i.d, AI i.a, AI i.b, AI i.imm]]⟩ (fun N hN => ?_) ?_
 ·(simp (maxSteps := 1000000) [])
  ((first | refine Xc (fun h => ?_) (fun h => ?_) | refine Xo (fun h => ?_) (fun h => ?_)) <;> (try simp only [Xz, Xy] at h))
  ·(simp (maxSteps := 1000000) [h])
   exact hN _ (by simp only [h]; (exact wkA))
  ·(simp (maxSteps := 1000000) [h])
   exact hN _ (by simp only [h]; (exact wkA))
 ((first | refine Xc (fun h1 => ?_) (fun h1 => ?_) | refine Xo (fun h1 => ?_) (fun h1 => ?_)) <;> (try simp only [Xz, Xy] at h1))
 ·(simp (maxSteps := 1000000) [h1])
  have e : Jtew i regs = 8 := by unfold Jtew; rw [if_pos h1]
  (first | exact hR _ _ FrA | exact hR _ _ FnA | exact hR _ _ (Xf (hq := by simp [AV.erase, AV.unview, e]; done)))
 (simp (maxSteps := 1000000) [h1])
 rw [Je75]
 refine Jte ⟨[(46, AB (bad9 i regs)), (2, .ptr 0 0), (4, AI 0), (1, AI regs)], [.mem [AI i.op, AI i.d, AI i.a, AI i.b, AI i.imm]]⟩ (fun N hN => ?_) ?_
 ·(simp (maxSteps := 1000000) [])
  cases uD : usesD i.op <;> cases uA : usesA i.op <;> cases uB : usesB i.op <;> cases nD : inZ i.d regs <;> cases nA : inZ i.a regs <;> cases nB : inZ i.b regs <;>
   (repeat' (first | ((refine Jt13 (Jtes A _ _) (by rfl) (by rfl) ?_); (simp (maxSteps := 1000000) [nD, nA, nB])) | ((refine Jt13 (Jteh A _) (by rfl) (by rfl) ?_); (simp (maxSteps := 1000000) [uA])) | ((refine Jt13 (Jtei A _) (by rfl) (by rfl) ?_); (simp (maxSteps := 1000000) [uB])) | ((refine Jt13 (Jtej A _) (by rfl) (by rfl) ?_); (simp (maxSteps := 1000000) [uD])))) <;>
   exact hN _ (by simp only [bad9, uD, uA, uB, nD, nA, nB]; (exact wkA))
 ((first | refine Xc (fun h2 => ?_) (fun h2 => ?_) | refine Xo (fun h2 => ?_) (fun h2 => ?_)) <;> (try simp only [Xz, Xy] at h2))
 ·(simp (maxSteps := 1000000) [h2])
  have e : Jtew i regs = 9 := by unfold Jtew; rw [if_neg (by simp at h1; omega), if_pos h2]
  (first | exact hR _ _ FrA | exact hR _ _ FnA | exact hR _ _ (Xf (hq := by simp [AV.erase, AV.unview, e]; done)))
 (simp (maxSteps := 1000000) [h2])
 rw [Je76]
 refine Jte ⟨[(87, AB (bad12 i)), (2, .ptr 0 0), (4, AI 0), (1, AI regs)], [.mem [AI i.op, AI i.d, AI i.a, AI i.b, AI i.imm]]⟩ (fun N hN => ?_) ?_
 ·clear hR h1 h2
  (simp (maxSteps := 1000000) [])
  cases uD : usesD i.op <;> cases uA : usesA i.op <;> cases uB : usesB i.op <;>
   (repeat' (first | ((refine Jt13 (Jteh A _) (by rfl) (by rfl) ?_); (simp (maxSteps := 1000000) [uA])) | ((refine Jt13 (Jtei A _) (by rfl) (by rfl) ?_); (simp (maxSteps := 1000000) [uB])) | ((refine Jt13 (Jtej A _) (by rfl) (by rfl) ?_); (simp (maxSteps := 1000000) [uD])) | (((first | refine Xc (fun hbr => ?_) (fun hbr => ?_) | refine Xo (fun hbr => ?_) (fun hbr => ?_)) <;> (try simp only [Xz, Xy] at hbr)) <;> simp (maxSteps := 1000000) [hbr]))) <;>
   (refine hN _ ?_; clear hN; cases hb : bad12 i) <;> (first | ((exact wkA); done) | (exfalso; simp_all [bad12]; done) | (simp_all [bad12]; (exact wkA); done) | (cases hi : (i.imm != 0) <;> first | ((exact wkA); done) | (simp only [*]; (exact wkA); done) | (exfalso; simp_all [bad12]; done)))
 ((first | refine Xc (fun h3 => ?_) (fun h3 => ?_) | refine Xo (fun h3 => ?_) (fun h3 => ?_)) <;> (try simp only [Xz, Xy] at h3))
 ·(simp (maxSteps := 1000000) [h3])
  have e : Jtew i regs = 12 := by unfold Jtew; rw [if_neg (by simp at h1; omega), if_neg (by simpa using h2), if_pos h3]
  (first | exact hR _ _ FrA | exact hR _ _ FnA | exact hR _ _ (Xf (hq := by simp [AV.erase, AV.unview, e]; done)))
 (simp (maxSteps := 1000000) [h3])
 have e : Jtew i regs = 0 := by unfold Jtew; rw [if_neg (by simp at h1; omega), if_neg (by simpa using h2), if_neg (by simpa using h3)]
 (first | exact hR _ _ FrA | exact hR _ _ FnA | exact hR _ _ (Xf (hq := by simp [AV.erase, AV.unview, e]; done)))
end
def few (f : Func) : Bool := decide (f.blocks.length ≤ 40) && decide (f.regs ≤ 60) && f.blocks.all (fun b => decide (b.code.length ≤ 100)) && decide (codeN f.blocks ≤ 300)
def Jteu (b : Block) (regs blocks : Int) : Int :=
 let e := Jt86 (b.code.map (Jtew · regs))
 if e ≠ 0 then e else Jtex b.term regs blocks
def Jtev (f : Func) : Int :=
 if f.args < 0 ∨ f.regs < f.args then 9 else if 1048576 < f.regs then 6 else if f.blocks.length = 0 then 14 else if 1048576 < f.blocks.length ∨ 1048576 < codeN f.blocks then 6
 else Jt86 (f.blocks.map fun b => Jteu b f.regs f.blocks.length)
theorem Jt73 {bs : List Block} (h : ∀ b ∈ bs, b.code.length ≤ 100) : codeN bs ≤ 100 * bs.length := by
 induction bs with
 | nil => simp [codeN]
 | cons b bs ih =>
  have h1 := h b (by simp)
  have h2 := ih fun x hx => h x (by simp [hx])
  simp only [codeN, List.map_cons, List.sum_cons, List.length_cons] at *
  omega
theorem Jt82 {f : Func} : few f = true ↔ f.blocks.length ≤ 40 ∧ f.regs ≤ 60 ∧ (∀ b ∈ f.blocks, b.code.length ≤ 100) ∧ codeN f.blocks ≤ 300 := by
 simp [few, and_assoc]
section
theorem Jtel {P : Program} {p : Nums} (A : All P p) (f : Func) (h0 : f.blocks.length < 1000000000) (h1 : codeN f.blocks < 1000000000) : Jt4n P p.ref07_Code [f.av] [] fun o _ => o = .ret (AI (codeN f.blocks)) := by
 refine A.ref07_Code.run rfl fun R hR => ?_
 (simp (maxSteps := 1000000) [Jta6, Func.av])
 refine Jtd (fun k : Nat => ⟨[(4, AI k), (1, .ptr 0 0), (3, AI (codeN (f.blocks.take k)))], [.mem [AI f.args, AI f.regs, .d (.sl (f.blocks.map Block.row))]]⟩) (fun k => k ≤ f.blocks.length) (fun k => f.blocks.length - k) 0 (by simp) (by (exact wkA)) ?_
 intro k hk N hN
 (simp (maxSteps := 1000000) [])
 ((first | refine Xc (fun h2 => ?_) (fun h2 => ?_) | refine Xo (fun h2 => ?_) (fun h2 => ?_)) <;> (try simp only [Xz, Xy] at h2))
 ·have hkl : k < f.blocks.length := by simpa using h2
  have hb : f.blocks[k]? = some f.blocks[k] := by simp [hkl]
  have hw := Jtic (k := k) (by omega)
  have hs := Jt75 hb
  have hle := Jt74 f.blocks (k + 1)
  have hw2 := Jtib (a := codeN (f.blocks.take k)) (b := f.blocks[k].code.length) (by omega)
  rw [← hs] at hw2
  (simp (maxSteps := 1000000) [h2, List.getElem?_map, hb, Block.row, hw, hw2])
  exact hN _ (k + 1) hkl (by (exact wkA)) (by omega)
 ·have hk' : k = f.blocks.length := by simp at h2; omega
  subst hk'
  (simp (maxSteps := 1000000) [])
  (first | exact hR _ _ FrA | exact hR _ _ FnA | exact hR _ _ (Xf (hq := by simp [AV.erase, AV.unview, List.take_length]; done)))
theorem Jteo {P : Program} {p : Nums} (A : All P p) (f : Func) : Jt4n P p.ref07_Few [f.av] [] fun o _ => o = .ret (AB (few f)) := by
 refine A.ref07_Few.run rfl fun R hR => ?_
 (simp (maxSteps := 1000000) [Jta8, Func.av])
 ((first | refine Xc (fun a1 => ?_) (fun a1 => ?_) | refine Xo (fun a1 => ?_) (fun a1 => ?_)) <;> (try simp only [Xz, Xy] at a1))
 ·(simp (maxSteps := 1000000) [a1])
  have e : few f = false := by simp [few]; omega
  (first | exact hR _ _ FrA | exact hR _ _ FnA | exact hR _ _ (Xf (hq := by simp [AV.erase, AV.unview, e]; done)))
 (simp (maxSteps := 1000000) [a1])
 ((first | refine Xc (fun a2 => ?_) (fun a2 => ?_) | refine Xo (fun a2 => ?_) (fun a2 => ?_)) <;> (try simp only [Xz, Xy] at a2))
 ·(simp (maxSteps := 1000000) [a2])
  have e : few f = false := by simp [few]; omega
  (first | exact hR _ _ FrA | exact hR _ _ FnA | exact hR _ _ (Xf (hq := by simp [AV.erase, AV.unview, e]; done)))
 (simp (maxSteps := 1000000) [a2])
 refine Jtd (fun k : Nat => ⟨[(3, AI k), (1, .ptr 0 0)], [.mem [AI f.args, AI f.regs, .d (.sl (f.blocks.map Block.row))]]⟩)
  (fun k => k ≤ f.blocks.length ∧ ∀ b ∈ f.blocks.take k, b.code.length ≤ 100) (fun k => f.blocks.length - k) 0 (by simp) (by (exact wkA)) ?_
 rintro k ⟨hk, hz⟩ N hN
 (simp (maxSteps := 1000000) [])
 ((first | refine Xc (fun h2 => ?_) (fun h2 => ?_) | refine Xo (fun h2 => ?_) (fun h2 => ?_)) <;> (try simp only [Xz, Xy] at h2))
 ·have hkl : k < f.blocks.length := by simpa using h2
  have hb : f.blocks[k]? = some f.blocks[k] := by simp [hkl]
  have hw := Jtic (k := k) (by omega)
  (simp (maxSteps := 1000000) [h2, hb, Block.row])
  ((first | refine Xc (fun h3 => ?_) (fun h3 => ?_) | refine Xo (fun h3 => ?_) (fun h3 => ?_)) <;> (try simp only [Xz, Xy] at h3))
  ·(simp (maxSteps := 1000000) [h3])
   have e : few f = false := by
    have : ¬ (∀ b ∈ f.blocks, b.code.length ≤ 100) := fun h => by have := h f.blocks[k] (by simp); omega
    simp [few]; intro _ _ h; exact absurd h this
   (first | exact hR _ _ FrA | exact hR _ _ FnA | exact hR _ _ (Xf (hq := by simp [AV.erase, AV.unview, e]; done)))
  ·(simp (maxSteps := 1000000) [h3, hw])
   refine hN _ (k + 1) ⟨hkl, ?_⟩ (by (exact wkA)) (by omega)
   intro b hb'
   rw [List.take_add_one, hb, List.mem_append] at hb'
   rcases hb' with hb' | hb'
   ·exact hz b hb'
   ·simp at hb'; subst hb'; omega
 ·have hk' : k = f.blocks.length := by simp at h2; omega
  subst hk'
  (simp (maxSteps := 1000000) [])
  have hcb : codeN f.blocks ≤ 100 * f.blocks.length := Jt73 (by rw [List.take_length] at hz; exact hz)
  (refine Jt13 (Jtel A f (by omega) (by omega)) (by rfl) (by rfl) ?_)
  (simp (maxSteps := 1000000) [])
  have e : few f = decide ((codeN f.blocks : Int) ≤ 300) := by
   rw [List.take_length] at hz
   have e1 : f.blocks.all (fun b => decide (b.code.length ≤ 100)) = true := by simpa using hz
   have e2 : decide (f.blocks.length ≤ 40) = true := by simp; omega
   have e3 : decide (f.regs ≤ 60) = true := by simp; omega
   simp only [few, e1, e2, e3, Bool.true_and]
   congr 1; simp; omega
  (first | exact hR _ _ FrA | exact hR _ _ FnA | exact hR _ _ (Xf (hq := by simp [AV.erase, AV.unview, e]; done)))
theorem Jtek {P : Program} {p : Nums} (A : All P p) (f : Func) (h0 : f.blocks.length < 1000000000) (h1 : codeN f.blocks < 1000000000) : Jt4n P p.ref07_Check [f.av] [] fun o _ => o = .ret (AI (Jtev f)) := by
 refine A.ref07_Check.run rfl fun R hR => ?_
 (simp (maxSteps := 1000000) [Jta5, Func.av])
 ((first | refine Xc (fun a1 => ?_) (fun a1 => ?_) | refine Xo (fun a1 => ?_) (fun a1 => ?_)) <;> (try simp only [Xz, Xy] at a1))
 ·(simp (maxSteps := 1000000) [a1])
  have e : Jtev f = 9 := by unfold Jtev; repeat (first | rw [if_pos (by omega)] | rw [if_neg (by omega)])
  (first | exact hR _ _ FrA | exact hR _ _ FnA | exact hR _ _ (Xf (hq := by simp [AV.erase, AV.unview, e]; done)))
 (simp (maxSteps := 1000000) [a1])
 ((first | refine Xc (fun a2 => ?_) (fun a2 => ?_) | refine Xo (fun a2 => ?_) (fun a2 => ?_)) <;> (try simp only [Xz, Xy] at a2))
 ·(simp (maxSteps := 1000000) [a2])
  have e : Jtev f = 9 := by unfold Jtev; repeat (first | rw [if_pos (by omega)] | rw [if_neg (by omega)])
  (first | exact hR _ _ FrA | exact hR _ _ FnA | exact hR _ _ (Xf (hq := by simp [AV.erase, AV.unview, e]; done)))
 (simp (maxSteps := 1000000) [a2])
 ((first | refine Xc (fun a3 => ?_) (fun a3 => ?_) | refine Xo (fun a3 => ?_) (fun a3 => ?_)) <;> (try simp only [Xz, Xy] at a3))
 ·(simp (maxSteps := 1000000) [a3])
  have e : Jtev f = 6 := by unfold Jtev; repeat (first | rw [if_pos (by omega)] | rw [if_neg (by omega)])
  (first | exact hR _ _ FrA | exact hR _ _ FnA | exact hR _ _ (Xf (hq := by simp [AV.erase, AV.unview, e]; done)))
 (simp (maxSteps := 1000000) [a3])
 ((first | refine Xc (fun a4 => ?_) (fun a4 => ?_) | refine Xo (fun a4 => ?_) (fun a4 => ?_)) <;> (try simp only [Xz, Xy] at a4))
 ·(simp (maxSteps := 1000000) [a4])
  have e : Jtev f = 14 := by unfold Jtev; repeat (first | rw [if_pos (by omega)] | rw [if_neg (by omega)])
  (first | exact hR _ _ FrA | exact hR _ _ FnA | exact hR _ _ (Xf (hq := by simp [AV.erase, AV.unview, e]; done)))
 (simp (maxSteps := 1000000) [a4])
 ((first | refine Xc (fun a5 => ?_) (fun a5 => ?_) | refine Xo (fun a5 => ?_) (fun a5 => ?_)) <;> (try simp only [Xz, Xy] at a5))
 ·(simp (maxSteps := 1000000) [a5])
  have e : Jtev f = 6 := by unfold Jtev; repeat (first | rw [if_pos (by omega)] | rw [if_neg (by omega)])
  (first | exact hR _ _ FrA | exact hR _ _ FnA | exact hR _ _ (Xf (hq := by simp [AV.erase, AV.unview, e]; done)))
 (simp (maxSteps := 1000000) [a5])
 (refine Jt13 (Jtel A f h0 h1) (by rfl) (by rfl) ?_)
 (simp (maxSteps := 1000000) [])
 ((first | refine Xc (fun a6 => ?_) (fun a6 => ?_) | refine Xo (fun a6 => ?_) (fun a6 => ?_)) <;> (try simp only [Xz, Xy] at a6))
 ·(simp (maxSteps := 1000000) [a6])
  have e : Jtev f = 6 := by unfold Jtev; repeat (first | rw [if_pos (by omega)] | rw [if_neg (by omega)])
  (first | exact hR _ _ FrA | exact hR _ _ FnA | exact hR _ _ (Xf (hq := by simp [AV.erase, AV.unview, e]; done)))
 (simp (maxSteps := 1000000) [a6])
 have e : Jtev f = Jt86 (f.blocks.map fun b => Jteu b f.regs f.blocks.length) := by
  unfold Jtev; repeat (first | rw [if_pos (by omega)] | rw [if_neg (by omega)])
 refine Jtd (fun k : Nat => ⟨[(3, AI k), (2, AI 0), (1, .ptr 0 0)], [.mem [AI f.args, AI f.regs, .d (.sl (f.blocks.map Block.row))]]⟩)
  (fun k => k ≤ f.blocks.length ∧ ∀ e ∈ (f.blocks.map fun b => Jteu b f.regs f.blocks.length).take k, e = 0) (fun k => f.blocks.length - k) 0 (by simp) (by (exact wkA)) ?_
 rintro k ⟨hk, hz⟩ N hN
 (simp (maxSteps := 1000000) [])
 ((first | refine Xc (fun h2 => ?_) (fun h2 => ?_) | refine Xo (fun h2 => ?_) (fun h2 => ?_)) <;> (try simp only [Xz, Xy] at h2))
 ·have hkl : k < f.blocks.length := by simpa using h2
  have hb : f.blocks[k]? = some f.blocks[k] := by simp [hkl]
  have hw := Jtic (k := k) (by omega)
  have hbl : f.blocks[k].code.length < 1000000000 := by
   have h3 := Jt75 hb
   have h4 := Jt74 f.blocks (k + 1)
   omega
  (simp (maxSteps := 1000000) [h2, hb, Block.row])
  refine Jtd (fun j : Nat => ⟨[(5, AI j), (4, .ptr 1 0), (3, AI k), (2, AI 0), (1, .ptr 0 0)], [.mem [AI f.args, AI f.regs, .d (.sl (f.blocks.map Block.row))], .mem [.d (.sl (f.blocks[k].code.map Instr.row)), AI f.blocks[k].term.kind, AI f.blocks[k].term.a, AI f.blocks[k].term.to, AI f.blocks[k].term.els]]⟩)
   (fun j => j ≤ f.blocks[k].code.length ∧ ∀ e ∈ (f.blocks[k].code.map (Jtew · f.regs)).take j, e = 0) (fun j => f.blocks[k].code.length - j) 0 (by simp) (by (exact wkA)) ?_
  rintro j ⟨hj, hy⟩ N' hN'
  (simp (maxSteps := 1000000) [])
  ((first | refine Xc (fun h3 => ?_) (fun h3 => ?_) | refine Xo (fun h3 => ?_) (fun h3 => ?_)) <;> (try simp only [Xz, Xy] at h3))
  ·have hjl : j < f.blocks[k].code.length := by simpa using h3
   have hbj : f.blocks[k].code[j]? = some f.blocks[k].code[j] := by simp [hjl]
   have hwj := Jtic (k := j) (by omega)
   (simp (maxSteps := 1000000) [h3, hbj, Instr.row])
   (refine Jt13 (Jtep A f.blocks[k].code[j] f.regs) (by rfl) (by rfl) ?_)
   (simp (maxSteps := 1000000) [])
   ((first | refine Xc (fun h4 => ?_) (fun h4 => ?_) | refine Xo (fun h4 => ?_) (fun h4 => ?_)) <;> (try simp only [Xz, Xy] at h4))
   ·(simp (maxSteps := 1000000) [h4])
    have e2 : Jt86 (f.blocks[k].code.map (Jtew · f.regs)) = Jtew f.blocks[k].code[j] f.regs := Jt89 hy (by simp [hjl]) h4
    have e3 : Jteu f.blocks[k] f.regs f.blocks.length = Jtew f.blocks[k].code[j] f.regs := by simp [Jteu, e2, h4]
    have e4 : Jt86 (f.blocks.map fun b => Jteu b f.regs f.blocks.length) = Jteu f.blocks[k] f.regs f.blocks.length := Jt89 hz (by simp [hkl]) (by rw [e3]; exact h4)
    (first | exact hR _ _ FrA | exact hR _ _ FnA | exact hR _ _ (Xf (hq := by simp [AV.erase, AV.unview, e, e4, e3]; done)))
   ·(simp (maxSteps := 1000000) [h4, hwj])
    exact hN' _ (j + 1) ⟨hjl, Jth9 hy hbj (by simpa using h4)⟩ (by (exact wkA)) (by omega)
  ·have hj' : j = f.blocks[k].code.length := by simp at h3; omega
   subst hj'
   have hfe : Jt86 (f.blocks[k].code.map (Jtew · f.regs)) = 0 := Jt87 (by rw [List.take_of_length_le (by simp)] at hy; exact hy)
   have e3 : Jteu f.blocks[k] f.regs f.blocks.length = Jtex f.blocks[k].term f.regs f.blocks.length := by simp [Jteu, hfe]
   (simp (maxSteps := 1000000) [])
   (refine Jt13 (Jter A f.blocks[k].term f.regs f.blocks.length) (by rfl) (by rfl) ?_)
   (simp (maxSteps := 1000000) [])
   ((first | refine Xc (fun h5 => ?_) (fun h5 => ?_) | refine Xo (fun h5 => ?_) (fun h5 => ?_)) <;> (try simp only [Xz, Xy] at h5))
   ·(simp (maxSteps := 1000000) [h5])
    have e4 : Jt86 (f.blocks.map fun b => Jteu b f.regs f.blocks.length) = Jteu f.blocks[k] f.regs f.blocks.length := Jt89 hz (by simp [hkl]) (by rw [e3]; exact h5)
    (first | exact hR _ _ FrA | exact hR _ _ FnA | exact hR _ _ (Xf (hq := by simp [AV.erase, AV.unview, e, e4, e3]; done)))
   ·(simp (maxSteps := 1000000) [h5, hw])
    exact hN _ (k + 1) ⟨hkl, Jth9 hz hb (by rw [e3]; simpa using h5)⟩ (by (exact wkA)) (by omega)
 ·have hk' : k = f.blocks.length := by simp at h2; omega
  subst hk'
  have hfe : Jt86 (f.blocks.map fun b => Jteu b f.regs f.blocks.length) = 0 := Jt87 (by rw [List.take_of_length_le (by simp)] at hz; exact hz)
  (simp (maxSteps := 1000000) [])
  (first | exact hR _ _ FrA | exact hR _ _ FnA | exact hR _ _ (Xf (hq := by simp [AV.erase, AV.unview, e, hfe]; done)))
end
structure MBlock where (code : List Mach) (term : Term)
 deriving Inhabited
def MBlock.row (b : MBlock) : List D := [.sl (b.code.map Mach.row), I b.term.kind, I b.term.a, I b.term.to, I b.term.els]
def MBlock.av (b : MBlock) : AV := .agg [.d (.sl (b.code.map Mach.row)), AI b.term.kind, AI b.term.a, AI b.term.to, AI b.term.els]
structure MFunc where (args regs slots : Int) (blocks : List MBlock)
def MFunc.av (f : MFunc) : AV := .agg [AI f.args, AI f.regs, AI f.slots, .d (.sl (f.blocks.map MBlock.row))]
def witD (w : List (List Pair)) : D := .sl (w.map fun l => [pairsD l])
structure Cert where (S : Func) (T : MFunc) (W : List (List Pair))
def Cert.av (c : Cert) : AV := .agg [AI c.S.args, AI c.S.regs, .d (.sl (c.S.blocks.map Block.row)), AI c.T.args, AI c.T.regs, AI c.T.slots, .d (.sl (c.T.blocks.map MBlock.row)), .d (witD c.W)]
section
end
section
end
section
end
def mcodeN (bs : List MBlock) : Nat := (bs.map fun b => b.code.length).sum
theorem Jt88 {es : List Int} (h : Jt86 es = 0) : ∀ e ∈ es, e = 0 := by
 induction es with
 | nil => intro e he; simp at he
 | cons e es ih =>
  simp only [Jt86] at h
  intro x hx
  split at h
  ·exact absurd h ‹_›
  ·rcases List.mem_cons.1 hx with rfl | hx
   ·simp_all
   ·exact ih h x hx
theorem Jth8 {α : Type} {l : List α} {k : Nat} {x : α} (h : l[k]? = some x) : l.take (k + 1) = l.take k ++ [x] := by rw [List.take_add_one, h]; rfl
section
end
section
end
theorem Jtdb {α : Type} [DecidableEq α] : ∀ {l m : List α}, l.Nodup → (∀ x ∈ l, x ∈ m) → l.length ≤ m.length := by
 intro l
 induction l with
 | nil => intro m _ _; simp
 | cons x l ih =>
  intro m hn hs
  rw [List.nodup_cons] at hn
  have hx := hs x (by simp)
  have := ih (m := m.erase x) hn.2 fun y hy => (List.mem_erase_of_ne (by rintro rfl; exact hn.1 hy)).2 (hs y (by simp [hy]))
  rw [List.length_erase_of_mem hx] at this
  have := List.length_pos_of_mem hx
  simp only [List.length_cons]; omega
def prodP (V L : List Int) : List Pair := V.flatMap fun v => L.map fun l => (⟨v, l⟩ : Pair)
theorem Jte7 (V L : List Int) : (prodP V L).length = V.length * L.length := by
 unfold prodP
 induction V with
 | nil => simp
 | cons v V ih => simp only [List.flatMap_cons, List.length_append, List.length_map, List.length_cons, ih, Nat.add_mul]; omega
theorem Jtcv {V L : List Int} {q : Pair} : q ∈ prodP V L ↔ q.v ∈ V ∧ q.l ∈ L := by
 unfold prodP
 simp only [List.mem_flatMap, List.mem_map]
 constructor
 ·rintro ⟨v, hv, l, hl, rfl⟩; exact ⟨hv, hl⟩
 ·rintro ⟨hv, hl⟩; exact ⟨q.v, hv, q.l, hl, rfl⟩
structure Over (V L : List Int) (l : List Pair) : Prop where
 srt : Srt l
 mem : ∀ q ∈ l, q.v ∈ V ∧ q.l ∈ L
theorem Over.len {V L : List Int} {l : List Pair} (h : Over V L l) : l.length ≤ V.length * L.length := by
 rw [← Jte7]
 exact Jtdb (Jtgq h.srt) fun q hq => Jtcv.2 (h.mem q hq)
theorem Over.copy {V L : List Int} {l : List Pair} (h : Over V L l) {d a : Int} (hd : d ∈ V) : Over V L (copyP l d a) := by
 refine ⟨Jtgl h.srt, fun q hq => ?_⟩
 rcases Jtco.1 hq with ⟨h1, _⟩ | ⟨h1, h2⟩
 ·exact h.mem q h1
 ·exact ⟨by rw [h1]; exact hd, (h.mem _ h2).2⟩
theorem Over.move {V L : List Int} {l : List Pair} (h : Over V L l) {d a : Int} (hd : d ∈ L) : Over V L (moveP l d a) := by
 refine ⟨Jtgp h.srt, fun q hq => ?_⟩
 rcases Jtcu.1 hq with ⟨h1, _⟩ | ⟨h1, h2⟩
 ·exact h.mem q h1
 ·exact ⟨(h.mem _ h2).1, by rw [h1]; exact hd⟩
structure CS where (set : List Pair) (steps largest : Nat)
abbrev CR := CS × Option (Int × Int)
def costC (s : CS) : CS := ⟨s.set, s.steps + 1 + s.set.length, s.largest⟩
def Jt63 (most : Int) (s : CS) (l : List Pair) (at_ : Int) : CR := (⟨l, s.steps, max s.largest l.length⟩, if (l.length : Int) > most then some (24, at_) else none)
def useC (s : CS) (v t at_ : Int) : CR := (costC s, if (⟨v, t⟩ : Pair) ∈ s.set then none else some (21, at_))
def thenC (r : CR) (f : CS → CR) : CR := match r.2 with
 | none => f r.1
 | some e => (r.1, some e)
theorem Jthb {s : CS} {f : CS → CR} : thenC (s, none) f = f s := rfl
theorem Jthc {s : CS} {e : Int × Int} {f : CS → CR} : thenC (s, some e) f = (s, some e) := rfl
structure Room (V L : List Int) (s : CS) (n : Nat) : Prop where
 over : Over V L s.set
 few : V.length * L.length < 100000
 steps : s.steps + 100001 * n < 1000000000000000000
 lg : s.largest < 100000
theorem Room.len {V L : List Int} {s : CS} {n : Nat} (h : Room V L s n) : s.set.length < 100000 := Nat.lt_of_le_of_lt h.over.len h.few
theorem Room.mono {V L : List Int} {s : CS} {n m : Nat} (h : Room V L s n) (hm : m ≤ n) : Room V L s m := ⟨h.over, h.few, by have := h.steps; omega, h.lg⟩
theorem Room.cost {V L : List Int} {s : CS} {n : Nat} (h : Room V L s (n + 1)) : Room V L (costC s) n :=
 ⟨h.over, h.few, by have := h.steps; have := h.len; simp only [costC]; omega, h.lg⟩
theorem Room.use {V L : List Int} {s : CS} {n : Nat} (h : Room V L s (n + 1)) (v t at_ : Int) : Room V L (useC s v t at_).1 n := h.cost
section
variable {P : Program} {m : Nat} {Q : AExit → ASt → Prop} {st : ASt} {K : ASt → Prop} {QP : AV → ASt → Prop} {dst : Option Nat}
attribute [simp] panEnd
end
section
end
def instrC (most : Int) (s : CS) (i : Instr) (m : Mach) (at_ : Int) : CR :=
 thenC (if usesA i.op = true then useC s i.a (regZ m.a) at_ else (s, none)) fun s =>
  thenC (if usesB i.op = true then useC s i.b (regZ m.b) at_ else (s, none)) fun s =>
   if usesD i.op = true then Jt63 most (costC s) (defP s.set i.d (regZ m.d)) at_ else (s, none)
theorem Jtg3 (x : Int) : (shapeZ x).D = usesD x := by
 unfold shapeZ usesD knownZ
 by_cases h1 : 1 ≤ x ∧ x ≤ 18
 ·by_cases h2 : x = 1
  ·subst h2; decide
  ·by_cases h3 : x ≤ 4
   ·simp [h1, h2, h3]; omega
   ·by_cases h4 : x ≤ 16
    ·simp [h1, h2, h3, h4]
    ·simp [h1, h2, h3, h4]
 ·simp [h1]; omega
theorem Jtg1 (x : Int) : (shapeZ x).A = usesA x := by
 unfold shapeZ usesA knownZ
 by_cases h1 : 1 ≤ x ∧ x ≤ 18
 ·by_cases h2 : x = 1
  ·subst h2; decide
  ·by_cases h3 : x ≤ 4
   ·simp [h1, h2, h3]; omega
   ·by_cases h4 : x ≤ 16
    ·simp [h1, h2, h3, h4]; omega
    ·simp only [h1, h2, h3, h4, and_self, decide_true, Bool.true_eq_false, if_false]; by_cases h5 : x = 17
     ·subst h5; decide
     ·have : x = 18 := by omega
      subst this; decide
 ·simp [h1]; omega
theorem Jtg2 (x : Int) : (shapeZ x).B = usesB x := by
 unfold shapeZ usesB knownZ
 by_cases h1 : 1 ≤ x ∧ x ≤ 18
 ·by_cases h2 : x = 1
  ·subst h2; decide
  ·by_cases h3 : x ≤ 4
   ·simp [h1, h2, h3]; omega
   ·by_cases h4 : x ≤ 16
    ·simp [h1, h2, h3, h4]; omega
    ·simp [h1, h2, h3, h4]
 ·simp [h1]; omega
section
end
section
end
structure ARow where (cf ct mf mt : Nat) (src mach : Int)
def ARow.row (r : ARow) : List D := [I r.cf, I r.ct, I r.mf, I r.mt, I r.src, I r.mach]
def ARow.av (r : ARow) : AV := .agg [AI r.cf, AI r.ct, AI r.mf, AI r.mt, AI r.src, AI r.mach]
def copyC (most at_ : Int) : List Instr → CS → CR
 | [], s => (s, none)
 | i :: is, s => thenC (Jt63 most (costC s) (copyP s.set i.d i.a) at_) (copyC most at_ is)
def moveC (most : Int) : Nat → List Mach → CS → CR
 | _, [], s => (s, none)
 | k, m :: ms, s => thenC (Jt63 most (costC s) (moveP s.set m.dst m.src) k) (moveC most (k + 1) ms)
def lastC (most : Int) (b : List Instr) (m : List Mach) (r : ARow) (s : CS) : CR :=
 if 0 ≤ r.src then match b[r.src.toNat]?, m[r.mach.toNat]? with
  | some i, some x => instrC most s i x r.mach
  | _, _ => (s, none)
 else (s, none)
def rowC (most : Int) (b : List Instr) (m : List Mach) (r : ARow) (s : CS) : CR :=
 thenC (copyC most r.mf ((b.take r.ct).drop r.cf) s) fun s => thenC (moveC most r.mf ((m.take r.mt).drop r.mf) s) (lastC most b m r)
structure RowOk (b : List Instr) (m : List Mach) (r : ARow) : Prop where
 hc : r.cf ≤ r.ct ∧ r.ct ≤ b.length
 hm : r.mf ≤ r.mt ∧ r.mt ≤ m.length
 hs : 0 ≤ r.src → r.src < b.length ∧ 0 ≤ r.mach ∧ r.mach < m.length
structure VLOk (V L : List Int) (b : List Instr) (m : List Mach) : Prop where
 v : ∀ i ∈ b, i.d ∈ V
 l : ∀ x ∈ m, x.dst ∈ L ∧ regZ x.d ∈ L
section
end
def rowsC (most : Int) (b : List Instr) (m : List Mach) : List ARow → CS → CR
 | [], s => (s, none)
 | r :: rs, s => thenC (rowC most b m r s) (rowsC most b m rs)
def needR (r : ARow) : Nat := 3 + (r.mt - r.mf) + (r.ct - r.cf)
def needRs (rs : List ARow) : Nat := (rs.map needR).sum
section
variable {P : Program} {p : Nums}
end
section
end
section
end
section
end
structure Res where (out : List Pair) (err at_ : Int) (steps largest : Nat)
 deriving DecidableEq
def Res.av (r : Res) : AV := .agg [.d (pairsD r.out), AI r.err, AI r.at_, AI r.steps, AI r.largest]
section
end
def okZ (n : Int) : Prop := -9223372036854775808 ≤ n ∧ n ≤ 9223372036854775807
section
end
def okM (b : MBlock) : Prop := ∀ x ∈ b.code, okZ x.dst ∧ okZ x.src
section
end
structure Bd (most : Int) (m n : Nat) (s : CS) (r : CR) : Prop where
 steps : r.1.steps ≤ s.steps + n * (r.1.largest + 1)
 lg : s.largest ≤ r.1.largest
 set : r.1.set.length ≤ r.1.largest
 most : r.2 = none → (s.largest : Int) ≤ most → (r.1.largest : Int) ≤ most
 fail : ∀ e, r.2 = some e → e.1 ≠ 0 ∧ 0 ≤ e.2 ∧ e.2 ≤ m
section
variable {most : Int} {m : Nat} {s : CS}
theorem Bd.mono {n n' : Nat} {r : CR} (h : Bd most m n s r) (hn : n ≤ n') : Bd most m n' s r :=
 ⟨Nat.le_trans h.steps (Nat.add_le_add_left (Nat.mul_le_mul_right _ hn) _), h.lg, h.set, h.most, h.fail⟩
theorem Bd.then {n1 n2 : Nat} {r : CR} {f : CS → CR} (h : Bd most m n1 s r) (hf : ∀ s1, r = (s1, none) → Bd most m n2 s1 (f s1)) : Bd most m (n1 + n2) s (thenC r f) := by
 obtain ⟨s1, e⟩ := r
 cases e with
 | some e => rw [Jthc]; exact h.mono (by omega)
 | none =>
  rw [Jthb]
  have h2 := hf s1 rfl
  refine ⟨?_, Nat.le_trans h.lg h2.lg, h2.set, fun hn hm => h2.most hn (h.most rfl hm), h2.fail⟩
  have k1 := h.steps
  have k2 := h2.steps
  have k3 := h2.lg
  simp only at k1 k3
  have k4 : n1 * (s1.largest + 1) ≤ n1 * ((f s1).1.largest + 1) := Nat.mul_le_mul_left _ (by omega)
  rw [Nat.add_mul]
  omega
theorem Bd.use {v t at_ : Int} (h : s.set.length ≤ s.largest) (h0 : 0 ≤ at_) (h1 : at_ ≤ m) : Bd most m 1 s (useC s v t at_) := by
 refine ⟨?_, Nat.le_refl _, h, fun _ h => h, fun e he => ?_⟩
 ·simp only [useC, costC]; omega
 ·simp only [useC] at he
  split at he
  ·cases he
  ·injection he with he; subst he; exact ⟨by simp, h0, h1⟩
theorem Bd.step {l : List Pair} {at_ : Int} (h : s.set.length ≤ s.largest) (h0 : 0 ≤ at_) (h1 : at_ ≤ m) : Bd most m 1 s (Jt63 most (costC s) l at_) := by
 refine ⟨?_, ?_, ?_, fun hn hm => ?_, fun e he => ?_⟩
 ·simp only [Jt63, costC]; omega
 ·simp only [Jt63, costC]; omega
 ·simp only [Jt63, costC]; omega
 ·simp only [Jt63, costC] at hn ⊢
  split at hn
  ·cases hn
  ·omega
 ·simp only [Jt63] at he
  split at he
  ·injection he with he; subst he; exact ⟨by simp, h0, h1⟩
  ·cases he
end
theorem Jt5f {H : List Blk} {b m n e : Nat} {rows : List (List D)} (hb : H[b]? = some (.mem (Jtfh rows))) (hm : m ≤ b) (hl : rows.length = n) (he : ∀ r ∈ rows, r.length = e) : WkT H m (.hsl b 0 e n) (.d (.sl rows)) := by
 refine .inl (.hsl b 0 e n (Jtfh rows) rows hb hm ?_ hl he)
 rw [List.drop_zero, List.take_of_length_le (by rw [Jtfl he, hl]; exact Nat.le_refl _)]; rfl
def smallZ (b : Block) (m : MBlock) (regs slots : Int) : Prop :=
 ¬ (60 : Int) < (b.code.length : Int) ∧ ¬ (200 : Int) < (m.code.length : Int) ∧ ¬ 20 < regs ∧ ¬ 20 < slots ∧ ¬ 30 < b.term.to ∧ ¬ 30 < b.term.els ∧ ¬ 30 < m.term.to ∧ ¬ 30 < m.term.els ∧ ¬ b.term.to < 0 ∧ ¬ b.term.els < 0
instance (b : Block) (m : MBlock) (regs slots : Int) : Decidable (smallZ b m regs slots) := by unfold smallZ; infer_instance
section
end
section
end
section
end
section
end
def okC (r : CR) : Prop := ∀ e, r.2 = some e → e.1 ≠ 0
theorem okC.then {r : CR} {f : CS → CR} (h : okC r) (hf : ∀ s, okC (f s)) : okC (thenC r f) := by
 obtain ⟨s, e⟩ := r
 cases e with
 | none => exact hf s
 | some e => exact h
structure Inv14 (V L : List Int) (most : Int) (code : List Instr) (mcode : List Mach) (rows : List ARow) (T : CR) (x : Nat × CR) : Prop where
 le : x.1 ≤ rows.length
 eq : thenC x.2 (rowsC most code mcode (rows.drop x.1)) = T
 ok : okC x.2
 room : x.2.2 = none → Room V L x.2.1 (1 + needRs (rows.drop x.1))
section
end
section
end
section
end
section
end
def Jtc9 : List LT := [ltI, ltI, ltI, ltI, ltI]
def Jtc8 : List LT := [.sl Jtc9, ltI, ltI, ltI, ltI]
def ltFunc : List LT := [ltI, ltI, .sl Jtc8]
theorem Jtam {r : List D} (h : HasL Jtc9 r) : ∃ i : Instr, r = i.row := by
 obtain ⟨_, _, rfl, h0, h⟩ := h.cons_inv
 obtain ⟨_, _, rfl, h1, h⟩ := h.cons_inv
 obtain ⟨_, _, rfl, h2, h⟩ := h.cons_inv
 obtain ⟨_, _, rfl, h3, h⟩ := h.cons_inv
 obtain ⟨_, _, rfl, h4, h⟩ := h.cons_inv
 obtain rfl := h.nil_inv
 obtain ⟨a, rfl, _⟩ := h0.int_inv
 obtain ⟨b, rfl, _⟩ := h1.int_inv
 obtain ⟨c, rfl, _⟩ := h2.int_inv
 obtain ⟨d, rfl, _⟩ := h3.int_inv
 obtain ⟨e, rfl, _⟩ := h4.int_inv
 exact ⟨⟨a, b, c, d, e⟩, rfl⟩
theorem Jt67 {r : List D} (h : HasL Jtc8 r) : ∃ b : Block, r = b.row := by
 obtain ⟨_, _, rfl, h0, h⟩ := h.cons_inv
 obtain ⟨_, _, rfl, h1, h⟩ := h.cons_inv
 obtain ⟨_, _, rfl, h2, h⟩ := h.cons_inv
 obtain ⟨_, _, rfl, h3, h⟩ := h.cons_inv
 obtain ⟨_, _, rfl, h4, h⟩ := h.cons_inv
 obtain rfl := h.nil_inv
 obtain ⟨rows, rfl, _, hr⟩ := h0.sl_inv
 obtain ⟨code, rfl⟩ := Jtfn (fun r hr => Jtam hr) hr
 obtain ⟨b, rfl, _⟩ := h1.int_inv
 obtain ⟨c, rfl, _⟩ := h2.int_inv
 obtain ⟨d, rfl, _⟩ := h3.int_inv
 obtain ⟨e, rfl, _⟩ := h4.int_inv
 exact ⟨⟨code, ⟨b, c, d, e⟩⟩, rfl⟩
theorem Jt8m {ds : List D} (h : HasL ltFunc ds) : ∃ f : Func, .agg (ds.map AV.d) = f.av := by
 obtain ⟨_, _, rfl, h0, h⟩ := h.cons_inv
 obtain ⟨_, _, rfl, h1, h⟩ := h.cons_inv
 obtain ⟨_, _, rfl, h2, h⟩ := h.cons_inv
 obtain rfl := h.nil_inv
 obtain ⟨a, rfl, _⟩ := h0.int_inv
 obtain ⟨b, rfl, _⟩ := h1.int_inv
 obtain ⟨rows, rfl, _, hr⟩ := h2.sl_inv
 obtain ⟨bs, rfl⟩ := Jtfn (fun r hr => Jt67 hr) hr
 exact ⟨⟨a, b, bs⟩, rfl⟩
theorem Jt66 {ds : List D} (h : HasL Jtc8 ds) : ∃ b : Block, .agg (ds.map AV.d) = b.av := by
 obtain ⟨b, rfl⟩ := Jt67 h
 exact ⟨b, rfl⟩
section
variable {P : Program} {q : Bool} {K : ASt → Prop} {QP : AV → ASt → Prop} {dst : Option Nat} {st : ASt}
@[simp] def goCV (K : ASt → Prop) (dst : Option Nat) (st : ASt) (P : Program) (q : Bool) (QP : AV → ASt → Prop) : Option AV → Option (List AV) → Prop
 | some (.fn (.func f) xs bs), some cs => okFn P f = true ∧ AWcall P q f (xs ++ cs ++ bs) dst K QP st
 | _, _ => False
@[simp] theorem Jt1q {x : Opd} {args : List Opd} : AWio P q (.callv x args) dst K QP st ↔ goCV K dst st P q QP (evr st.env x) (evs st.env args) := by
 constructor
 ·rintro ⟨f, xs, bs, cs, h1, h2, h3, h4⟩; rw [h1, h3]; exact ⟨h2, h4⟩
 ·intro h
  unfold goCV at h
  split at h
  ·rename_i f xs bs cs h1 h3; exact ⟨f, xs, bs, cs, h1, h.1, h3, h.2⟩
  ·exact h.elim
end
def wTotal (w : List (List Pair)) : Nat := (w.map List.length).sum
def okW (w : List (List Pair)) : Prop := ∀ l ∈ w, ∀ q ∈ l, okZ q.l
def succsZ (t : Term) : List Int := if t.kind = 1 then [t.to] else if t.kind = 2 then [t.to, t.els] else []
structure Rep where (err block at_ : Int) (blocks edges steps largest : Nat)
 deriving DecidableEq
def Rep.av (r : Rep) : AV := .agg [AI r.err, AI r.block, AI r.at_, AI r.blocks, AI r.edges, AI r.steps, AI r.largest]
def w0 (c : Cert) : List Pair := (c.W[0]?).getD []
section
end
section
end
section
end
section
theorem Jtgg {P : Program} {p : Nums} (A : All P p) (t : Term) : Jt4n P p.source_Successors [t.av] [] fun o _ => o = .ret (.d (.sl ((succsZ t).map fun x => [I x]))) := by
 refine A.source_Successors.run rfl fun R hR => ?_
 (simp (maxSteps := 1000000) [Jtae, Term.av])
 ((first | refine Xc (fun h1 => ?_) (fun h1 => ?_) | refine Xo (fun h1 => ?_) (fun h1 => ?_)) <;> (try simp only [Xz, Xy] at h1))
 ·(simp (maxSteps := 1000000) [h1])
  (first | exact hR _ _ FrA | exact hR _ _ FnA | exact hR _ _ (Xf (hq := by simp [AV.erase, AV.unview, succsZ, h1]; done)))
 (simp (maxSteps := 1000000) [h1])
 ((first | refine Xc (fun h2 => ?_) (fun h2 => ?_) | refine Xo (fun h2 => ?_) (fun h2 => ?_)) <;> (try simp only [Xz, Xy] at h2))
 ·(simp (maxSteps := 1000000) [h2])
  (first | exact hR _ _ FrA | exact hR _ _ FnA | exact hR _ _ (Xf (hq := by simp [AV.erase, AV.unview, succsZ, h1, h2]; done)))
 (simp (maxSteps := 1000000) [h2])
 exact hR _ _ (Jt4r .nils (.d (.sl ((succsZ t).map fun x => [I x]))) [] rfl (by simp only [succsZ, if_neg h1, if_neg h2, List.map_nil]; (exact wkA)) rfl)
end
section
end
structure okCert (c : Cert) : Prop where
 s0 : c.S.blocks.length < 1000000000
 s1 : codeN c.S.blocks < 1000000000
 t0 : c.T.blocks.length < 1000000000
 t1 : mcodeN c.T.blocks < 1000000000
 t2 : ∀ b ∈ c.T.blocks, okM b
 w0 : c.W.length < 1000000000
 w1 : wTotal c.W < 1000000000
 w2 : okW c.W
section
end
def VS : List Int := (List.range 61).map fun n : Nat => (n : Int)
def LS : List Int := (List.range 122).map fun n : Nat => (n : Int)
theorem src_ok {f : Func} (h : Jtev f = 0) : 0 ≤ f.args ∧ f.args ≤ f.regs ∧ 0 < f.blocks.length ∧ ∀ b ∈ f.blocks, (∀ i ∈ b.code, Jtew i f.regs = 0) ∧ Jtex b.term f.regs f.blocks.length = 0 := by
 unfold Jtev at h
 split at h
 ·cases h
 split at h
 ·cases h
 split at h
 ·cases h
 split at h
 ·cases h
 refine ⟨by omega, by omega, by omega, fun b hb => ?_⟩
 have h3 := Jt88 h _ (List.mem_map_of_mem hb)
 simp only [Jteu] at h3
 split at h3
 ·rename_i h5; exact absurd h3 h5
 ·rename_i h5
  exact ⟨fun i hi => Jt88 (es := b.code.map (Jtew · f.regs)) (by simpa using h5) _ (List.mem_map_of_mem hi), h3⟩
structure Fit (c : Cert) : Prop where
 lenT : c.T.blocks.length = c.S.blocks.length
 lenW : c.W.length = c.S.blocks.length
 pos : 0 < c.S.blocks.length
 few : c.S.blocks.length ≤ 40
 w : ∀ l ∈ c.W, Srt l ∧ l.length ≤ 400 ∧ ∀ q ∈ l, 0 ≤ q.v ∧ q.v ≤ 60 ∧ 0 ≤ q.l ∧ q.l ≤ 121
 vl : ∀ b ∈ c.S.blocks, ∀ m ∈ c.T.blocks, VLOk VS LS b.code m.code
 cs : ∀ b ∈ c.S.blocks, b.code.length ≤ 100
 ct : ∀ m ∈ c.T.blocks, m.code.length ≤ 900
 to : ∀ b ∈ c.S.blocks, ∀ x ∈ succsZ b.term, 0 ≤ x ∧ x < c.S.blocks.length
 ars : 0 ≤ c.S.args ∧ c.S.args ≤ 60
structure Good (r : Res) : Prop where
 srt : Srt r.out
 len : r.out.length < 100000
 steps : r.steps ≤ 1000000000
 lg : r.largest < 100000
section
end
end Go.AE
set_option maxRecDepth 4000
namespace Go.AE
open Go
structure RepOk (i : Nat) (r : Rep) : Prop where
 blocks : r.blocks ≤ i
 edges : r.edges ≤ 2 * i
 steps : r.steps ≤ 1000 + 2000000000 * i
 lg : r.largest < 100000
structure RepIn (i k : Nat) (r : Rep) : Prop where
 blocks : r.blocks ≤ i + 1
 edges : r.edges ≤ 2 * i + k
 steps : r.steps ≤ 1000 + 2000000000 * i + 1000000000 + 200000 * k
 lg : r.largest < 100000
theorem RepIn.out {i k : Nat} {r : Rep} (h : RepIn i k r) (hk : k ≤ 2) : RepOk (i + 1) r := ⟨h.blocks, by have := h.edges; omega, by have := h.steps; omega, h.lg⟩
def Rep.cells (r : Rep) : List AV := [AI r.err, AI r.block, AI r.at_, AI r.blocks, AI r.edges, AI r.steps, AI r.largest]
section
end
end Go.AE
set_option maxRecDepth 4000
namespace Go.AE
open Go
section
end
end Go.AE
set_option maxRecDepth 4000
namespace Go.AE
open Go
section
end
section
end
end Go.AE
set_option maxRecDepth 4000
namespace Go.AE
open Go
section
end
section
end
def isD : AV → Bool
 | .d _ => true
 | _ => false
theorem isD_eq {x : AV} (h : isD x = true) : ∃ y, x = .d y := by cases x <;> simp_all [isD]
def Jtdf : AV → Bool
 | .own .. => false
 | .view .. => false
 | _ => true
theorem Jt4n.pack {P : Program} {f : Nat} {args : List AV} {y : AV} {cells : List AV} (h : Jt4n P f args [] fun o H' => ∃ i x, o = .ret x ∧ x.erase = x ∧ x.ren (fun b => if b = i then some 0 else none) = some y ∧ H'[i]? = some (.mem cells))
  (hy : Jtdf y = true) (hye : y.erase = y) (hc : cells.all isD = true) : Jt4n P f args [] fun o H' => o = .ret y ∧ H' = [.mem cells] := by
 intro g vs w hvs hs
 refine (h g vs w hvs hs).mono ?_
 rintro e' w' ⟨o, H', g', v, ⟨i, x, rfl, hxe, hren, hi⟩, he, hsim, htr, hφ, hlen, hmine⟩
 have hcd : ∀ (j : Nat) (z : AV), cells[j]? = some z → ∃ d, z = .d d := fun j z hz => isD_eq (List.all_eq_true.1 hc z (List.mem_of_getElem? hz))
 have hno : ∀ (p : Place) (e1 : Nat) (rows1 : List (List D)), AP ⟨[(0, y)], [.mem cells]⟩ p ≠ some (.own e1 rows1) := by
  intro p e1 rows1 hp
  cases p with
  | tmp t =>
   simp only [AP, get] at hp
   split at hp
   ·injection hp with hp; subst hp; simp [Jtdf] at hy
   ·cases hp
  | cell b j =>
   simp only [AP] at hp
   split at hp
   ·rename_i cells' hb
    have : b = 0 := by have := (List.getElem?_eq_some_iff.1 hb).1; simpa using this
    subst this
    simp only [List.getElem?_cons_zero, Option.some.injEq, Blk.mem.injEq] at hb
    subst hb
    obtain ⟨d, hd⟩ := hcd j _ hp
    cases hd
   ·cases hp
 have hrel := hsim.env 0 x (by simp [get, AOut.val])
 have hv0 : (⟨#[v], []⟩ : Act).tmps.getD 0 undef = v := by simp
 rw [hv0, hxe] at hrel
 have hrel' : Rel g'.F (fun b => if b = 0 then g'.φ i else none) w' y v := Rel.ren (fun b b' r hb hr => by
  split at hb
  ·rename_i hbi; injection hb with hb; subst hb hbi; simpa using hr
  ·cases hb) hrel y hren
 refine ⟨.ret y, [.mem cells], ⟨fun b => if b = 0 then g'.φ i else none, g'.F⟩, v, ⟨rfl, rfl⟩, he, ?_, ⟨htr.os, htr.tape, htr.output, htr.size, htr.other, htr.stab⟩, fun b r hb => absurd hb (by simp), by simp, ?_⟩
 ·refine { size := by simp, env := ?_, inj := ?_, lt := ?_, dom := ?_, mem := ?_, iter := ?_, glob := ?_, own := ?_, excl := ?_, apart := ?_, view := ?_ }
  ·intro t z hz
   simp only [AOut.val, get] at hz
   split at hz
   ·rename_i ht; subst ht
    injection hz with hz; subst hz
    rw [hv0, hye]; exact hrel'
   ·cases hz
  ·intro b b' q hb hb'
   simp only at hb hb'
   split at hb <;> split at hb' <;> simp_all
  ·intro b q hb
   simp only at hb ⊢
   split at hb
   ·rename_i h0; subst h0
    obtain ⟨q1, q2, _⟩ := hsim.lt i q hb
    exact ⟨q1, q2, by simp⟩
   ·cases hb
  ·intro b k hk _
   have : b = 0 := by have := (List.getElem?_eq_some_iff.1 hk).1; simpa using this
   subst this
   obtain ⟨r, hr⟩ := hsim.dom i _ hi (by simp)
   exact ⟨r, by simpa using hr⟩
  ·intro b cells' q hb hq
   have : b = 0 := by have := (List.getElem?_eq_some_iff.1 hb).1; simpa using this
   subst this
   simp only [List.getElem?_cons_zero, Option.some.injEq, Blk.mem.injEq] at hb
   subst hb
   simp only [if_true] at hq
   obtain ⟨c, te, q1, q2, q3⟩ := hsim.mem i cells q hi hq
   refine ⟨c, te, q1, q2, fun j z hz => ?_⟩
   obtain ⟨z1, u, z2, z3⟩ := q3 j z hz
   obtain ⟨d, rfl⟩ := hcd j z hz
   refine ⟨z1, u, z2, ?_⟩
   cases z3 with
   | d _ _ h => exact .d _ _ h
  ·intro b s pos q hb
   have : b = 0 := by have := (List.getElem?_eq_some_iff.1 hb).1; simpa using this
   subst this
   simp at hb
  ·intro b s pos q hb
   have : b = 0 := by have := (List.getElem?_eq_some_iff.1 hb).1; simpa using this
   subst this
   simp at hb
  ·exact fun p e1 rows1 v1 hp _ => absurd hp (hno p e1 rows1)
  ·rintro p p' q ⟨e1, rows1, v1, hp, _⟩
   exact absurd hp (hno p e1 rows1)
  ·rintro p q b ⟨e1, rows1, v1, hp, _⟩
   exact absurd hp (hno p e1 rows1)
  ·intro t org e1 rows1 hz
   simp only [AOut.val, get] at hz
   split at hz
   ·injection hz with hz; subst hz; simp [Jtdf] at hy
   ·cases hz
 ·rintro q (⟨b, hb⟩ | ⟨p, e1, rows1, v1, hp, _⟩)
  ·simp only at hb
   split at hb
   ·exact hmine q (.inl ⟨i, hb⟩)
   ·cases hb
  ·exact absurd hp (hno p e1 rows1)
@[simp] theorem Jt8y {K : ASt → Prop} {st : ASt} {n b off : Nat} {cells : List AV} {v : Opd} {b' o' e' l' : Nat} : goS3 K st n b off cells v (some (.hsl b' o' e' l')) ↔ 1 = n ∧ off + n ≤ cells.length ∧ K ⟨unview st.env, st.H.set b (.mem (spl cells off [.hsl b' o' e' l']))⟩ := by
 cases v <;> simp [goS3, AV.erase, AV.cells, AV.leaf]
@[simp] theorem Jt93 {K : ASt → Prop} {st : ASt} {n b off : Nat} {cells : List AV} {v : Opd} {q : Place} {e : Nat} {rows : List (List D)} : goS3 K st n b off cells v (some (.view q e rows)) ↔ 1 = n ∧ off + n ≤ cells.length ∧ K ⟨unview st.env, st.H.set b (.mem (spl cells off [.d (.sl rows)]))⟩ := by
 cases v <;> simp [goS3, AV.erase, AV.cells, AV.leaf]
theorem Jtfk (a b : List (List D)) : Jtfh (a ++ b) = Jtfh a ++ b.flatten.map AV.d := by simp [Jtfh]
theorem Jt1g {P : Program} {K : ASt → Prop} {QP : AV → ASt → Prop} {dst : Option Nat} {st : ASt} {esz bytes : Nat} {x y : Opd} {b len : Nat} {rows ys : List (List D)} (h : evr st.env x = some (.hsl b 0 esz len)) (hb : st.H[b]? = some (.mem (Jtfh rows))) (hrl : rows.length = len)
  (hre : ∀ r ∈ rows, r.length = esz) (h0 : 0 < len) (hy : Jt5v st.env y = some ys) (hr : ∀ r ∈ ys, r.length = esz) (hz : 0 < esz) (hne : ys ≠ []) (hn : len + ys.length ≤ 1000000000000000000) (hbt : (len + ys.length) * bytes ≤ 140737488355328)
  (hK : K (put dst (.hsl b 0 esz (len + ys.length)) ⟨unview st.env, st.H.set b (.mem (Jtfh (rows ++ ys)))⟩)) (hK' : K (put dst (.hsl st.H.length 0 esz (len + ys.length)) ⟨st.env, st.H ++ [.mem (Jtfh (rows ++ ys))]⟩)) :
  AWio P false (.app esz bytes x y) dst K QP st := by
 simp only [AWio, h]
 rw [Jtfk] at hK hK'
 refine ⟨trivial, b, len, Jtfh rows, ys, h, hb, by rw [Jtfl hre, hrl], h0, ?_, hy, hr, hz, hne, hn, hbt, hK, hK'⟩
 rw [List.all_eq_true]
 intro x hx
 unfold Jtfh at hx
 rw [List.mem_map] at hx
 obtain ⟨d, _, rfl⟩ := hx
 rfl
def tlB (j : Nat) (rows : List (List D)) : List Blk := List.replicate j .dead ++ [.mem (Jtfh rows)]
theorem Jthi {j : Nat} {rows : List (List D)} : (tlB j rows)[j]? = some (.mem (Jtfh rows)) := by
 unfold tlB; rw [List.getElem?_append_right (by simp)]; simp
theorem Jthk {j : Nat} {rows rows' : List (List D)} : (tlB j rows).set j (.mem (Jtfh rows')) = tlB j rows' := by
 unfold tlB; rw [List.set_append_right _ _ (by simp)]; simp
theorem Jthj {j : Nat} {rows : List (List D)} : (tlB j rows).length = j + 1 := by simp [tlB]
theorem Jthh {j : Nat} {rows : List (List D)} : tlB (j + 1) rows = .dead :: tlB j rows := by simp [tlB, List.replicate_succ]
theorem Jt5d {H : List Blk} {n j : Nat} {rows : List (List D)} : WkHs H n (tlB j rows) (tlB j rows) := by
 induction j with
 | zero => exact ⟨Jt53, trivial⟩
 | succ j ih => rw [Jthh]; exact ⟨.dead _, ih⟩
theorem Jt5e {H : List Blk} {n j : Nat} {old rows : List (List D)} : WkHs H n (tlB j old ++ [.mem (Jtfh rows)]) (tlB (j + 1) rows) := by
 induction j with
 | zero => exact ⟨.dead _, Jt53, trivial⟩
 | succ j ih => rw [Jthh, Jthh]; exact ⟨.dead _, ih⟩
end Go.AE
set_option maxRecDepth 4000
namespace Go.AE
open Go
def cpT (wR : List (List D)) (k j : Nat) : List Blk := match k with
 | 0 => []
 | k + 1 => tlB j (wR.take (k + 1))
theorem get3 {a b c : Blk} {t : List Blk} {j : Nat} : (a :: b :: c :: t)[j + 3]? = t[j]? := rfl
theorem set3 {a b c x : Blk} {t : List Blk} {j : Nat} : (a :: b :: c :: t).set (j + 3) x = a :: b :: c :: t.set j x := rfl
section
end
end Go.AE
set_option maxRecDepth 4000
namespace Go.AE
open Go
def defAt (b : Block) (v : Int) (k : Nat) : Bool := (b.code.take k).any fun i => usesD i.op && i.d == v
def useI (i : Instr) (v : Int) : Bool := (usesA i.op && i.a == v) || (usesB i.op && i.b == v)
def usedC (b : Block) (v : Int) (k : Nat) : Bool := (List.range k).any fun j => match b.code[j]? with
 | some i => useI i v && !defAt b v j
 | none => false
def usedZ (b : Block) (v : Int) : Bool := usedC b v b.code.length || (b.term.kind != 1 && b.term.a == v && !defAt b v b.code.length)
theorem Jt7f {b : Block} {v : Int} {k : Nat} {i : Instr} (h : b.code[k]? = some i) : defAt b v (k + 1) = (defAt b v k || (usesD i.op && i.d == v)) := by
 unfold defAt
 rw [List.take_add_one, h, List.any_append]; simp
theorem Jthy {b : Block} {v : Int} {k : Nat} {i : Instr} (h : b.code[k]? = some i) : usedC b v (k + 1) = (usedC b v k || (useI i v && !defAt b v k)) := by
 unfold usedC
 rw [List.range_succ, List.any_append]
 simp [h]
section
theorem Jteq {P : Program} {p : Nums} (A : All P p) (a b : List Int) (h0 : a.length < 1000000000) (h1 : b.length < 1000000000) : Jt4n P p.ref07_Numbers [.d (intsD a), .d (intsD b)] [] fun o _ => o = .ret (AB (decide (a = b))) := by
 refine A.ref07_Numbers.run rfl fun R hR => ?_
 (simp (maxSteps := 1000000) [Jtaa, intsD])
 by_cases hl : a.length = b.length
 ·have hlb : ((a.length : Int) != (b.length : Int)) = false := by simp [hl]
  (simp (maxSteps := 1000000) [hl, hlb])
  refine Jtd (fun k : Nat => ⟨[(5, AI k), (0, .d (.sl (a.map intRow))), (1, .d (.sl (b.map intRow)))], []⟩) (fun k => k ≤ a.length ∧ a.take k = b.take k) (fun k => a.length - k) 0 (by simp) (by (exact wkA)) ?_
  rintro k ⟨hk, hs⟩ N hN
  (simp (maxSteps := 1000000) [])
  ((first | refine Xc (fun h2 => ?_) (fun h2 => ?_) | refine Xo (fun h2 => ?_) (fun h2 => ?_)) <;> (try simp only [Xz, Xy] at h2))
  ·have hka : k < a.length := by omega
   have hkb : k < b.length := by omega
   have hw := Jtic (k := k) (by omega)
   by_cases he : a[k] = b[k]
   ·have hs' : a.take (k + 1) = b.take (k + 1) := by rw [List.take_succ_eq_append_getElem hka, List.take_succ_eq_append_getElem hkb, hs, he]
    (simp (maxSteps := 1000000) [h2, intRow, hka, hkb, he, hw])
    exact hN _ (k + 1) ⟨hka, hs'⟩ (by (exact wkA)) (by omega)
   ·have heb : (a[k] != b[k]) = true := by simpa using he
    have hne : ¬ a = b := by rintro rfl; exact he rfl
    (simp (maxSteps := 1000000) [h2, intRow, hka, hkb, he, heb])
    (first | exact hR _ _ FrA | exact hR _ _ FnA | exact hR _ _ (Xf (hq := by simp [AV.erase, AV.unview, hne]; done)))
  ·have hka : k = a.length := by omega
   subst hka
   rw [List.take_length, hl, List.take_length] at hs
   (simp (maxSteps := 1000000) [h2])
   (first | exact hR _ _ FrA | exact hR _ _ FnA | exact hR _ _ (Xf (hq := by simp [AV.erase, AV.unview, hs]; done)))
 ·have hlb : ((a.length : Int) != (b.length : Int)) = true := by simp; omega
  have hne : ¬ a = b := by rintro rfl; exact hl rfl
  (simp (maxSteps := 1000000) [hl, hlb])
  (first | exact hR _ _ FrA | exact hR _ _ FnA | exact hR _ _ (Xf (hq := by simp [AV.erase, AV.unview, hne]; done)))
def listsD (l : List (List Int)) : D := .sl (l.map fun x => [intsD x])
theorem Jtet {P : Program} {p : Nums} (A : All P p) (a b : List (List Int)) (h0 : a.length < 1000000000) (h1 : b.length < 1000000000) (h2 : ∀ x ∈ a, x.length < 1000000000) (h3 : ∀ x ∈ b, x.length < 1000000000) : Jt4n P p.ref23_Same [.d (listsD a), .d (listsD b)] [] fun o _ => o = .ret (AB (decide (a = b))) := by
 refine A.ref23_Same.run rfl fun R hR => ?_
 obtain ⟨aR, haR⟩ : ∃ x, x = a.map fun x => [intsD x] := ⟨_, rfl⟩
 obtain ⟨bR, hbR⟩ : ∃ x, x = b.map fun x => [intsD x] := ⟨_, rfl⟩
 have la : aR.length = a.length := by rw [haR]; simp
 have lb : bR.length = b.length := by rw [hbR]; simp
 simp only [listsD, ← haR, ← hbR]
 (simp (maxSteps := 1000000) [Jtad, la, lb])
 by_cases hl : a.length = b.length
 ·have hlb : ((a.length : Int) != (b.length : Int)) = false := by simp [hl]
  (simp (maxSteps := 1000000) [hl, hlb])
  refine Jtd (fun k : Nat => ⟨[(5, AI k), (0, .d (.sl aR)), (1, .d (.sl bR))], []⟩) (fun k => k ≤ a.length ∧ a.take k = b.take k) (fun k => a.length - k) 0 (by simp) (by (exact wkA)) ?_
  rintro k ⟨hk, hs⟩ N hN
  (simp (maxSteps := 1000000) [la])
  by_cases h4 : k < a.length
  ·have h4i : (k : Int) < (a.length : Int) := by omega
   have hkb : k < b.length := by omega
   have ga : aR[k]? = some [intsD a[k]] := by rw [haR]; simp [h4]
   have gb : bR[k]? = some [intsD b[k]] := by rw [hbR]; simp [hkb]
   have hw := Jtic (k := k) (by omega)
   have cn := Jteq A a[k] b[k] (h2 _ (List.getElem_mem h4)) (h3 _ (List.getElem_mem hkb))
   obtain ⟨x, hx⟩ : ∃ x, x = a[k] := ⟨_, rfl⟩
   obtain ⟨y, hy⟩ : ∃ x, x = b[k] := ⟨_, rfl⟩
   rw [← hx] at ga cn
   rw [← hy] at gb cn
   (simp (maxSteps := 1000000) [h4, h4i, ga, gb])
   (refine Jt13 cn (by rfl) (by rfl) ?_)
   by_cases he : x = y
   ·have hs' : a.take (k + 1) = b.take (k + 1) := by rw [List.take_succ_eq_append_getElem h4, List.take_succ_eq_append_getElem hkb, hs, ← hx, ← hy, he]
    (simp (maxSteps := 1000000) [he, hw])
    exact hN _ (k + 1) ⟨h4, hs'⟩ (by (exact wkA)) (by omega)
   ·have hne : ¬ a = b := by rintro rfl; exact he (hx.trans hy.symm)
    (simp (maxSteps := 1000000) [he])
    (first | exact hR _ _ FrA | exact hR _ _ FnA | exact hR _ _ (Xf (hq := by simp [AV.erase, AV.unview, hne]; done)))
  ·(simp (maxSteps := 1000000) [h4])
   have hka : k = a.length := by omega
   subst hka
   rw [List.take_length, hl, List.take_length] at hs
   (first | exact hR _ _ FrA | exact hR _ _ FnA | exact hR _ _ (Xf (hq := by simp [AV.erase, AV.unview, hs]; done)))
 ·have hlb : ((a.length : Int) != (b.length : Int)) = true := by simp; omega
  have hne : ¬ a = b := by rintro rfl; exact hl rfl
  (simp (maxSteps := 1000000) [hl, hlb])
  (first | exact hR _ _ FrA | exact hR _ _ FnA | exact hR _ _ (Xf (hq := by simp [AV.erase, AV.unview, hne]; done)))
end
end Go.AE
set_option maxRecDepth 4000
namespace Go.AE
open Go
theorem Jt15 {P : Program} {K : ASt → Prop} {QP : AV → ASt → Prop} {dst : Option Nat} {st : ASt} {ι : Type} (bs : List Nat) (e : Nat) {f : Nat} {args cargs : List AV} {Hp Hc : List Blk} {C Hb : ι → List Blk} {X Y : ι → AV} {Pr : ι → Prop}
  (h : Jt4n P f cargs Hc fun o H' => ∃ i, Pr i ∧ o = .ret (X i) ∧ H' = C i)
  (hnd : bs.Nodup) (ha : renL (idx bs) args = some cargs) (hp : picks st.H bs = some Hp) (hc : renB (idx bs) Hp = some Hc) (hb : ∀ i, renB (back bs st.H.length e) (C i) = some (Hb i))
  (hl : ∀ i, (C i).length = bs.length + e) (hx : ∀ i, (X i).ren (back bs st.H.length e) = some (Y i)) (hK : ∀ i, Pr i → K (put dst (Y i) ⟨unview st.env, wback st.H bs ((Hb i).take bs.length) ++ (Hb i).drop bs.length⟩)) : AWcall P false f args dst K QP st := by
 refine .inr ⟨rfl, .inr ⟨bs, hnd, cargs, Hp, Hc, ha, hp, hc, h.mono ?_⟩⟩
 rintro o H' ⟨i, hi, rfl, rfl⟩
 have ht : (C i).take (bs.length + e) = C i := by rw [← hl i, List.take_length]
 exact ⟨e, Hb i, Y i, by rw [ht]; exact hb i, by rw [hl i]; exact Nat.le_refl _, hx i, hK i hi⟩
def mpK (ks : List Int) : Obj := mpO ks.zipIdx ks.length
def madd (ks : List Int) (n : Int) : List Int := if n ∈ ks then ks else ks ++ [n]
theorem Jtii (ks : List Int) : ks.zipIdx.map Prod.fst = ks := by simp
theorem Jtd6 (ks : List Int) (n : Int) : mpO (mputE ks.zipIdx ks.length n) (mputC ks.zipIdx ks.length n) = mpK (madd ks n) := by
 unfold mputE mputC madd mpK
 rw [Jtii]
 split
 ·rfl
 ·rw [List.zipIdx_append]; simp
theorem Jtcr {ks : List Int} {n v : Int} : v ∈ madd ks n ↔ v ∈ ks ∨ v = n := by
 unfold madd
 split
 ·rename_i h; exact ⟨.inl, fun h' => h'.elim id fun e => e ▸ h⟩
 ·simp
theorem Jtcg {ks : List Int} {n : Int} (h : ks.Nodup) : (madd ks n).Nodup := by
 unfold madd
 split
 ·exact h
 ·rename_i hn
  rw [List.nodup_append]
  exact ⟨h, by simp, fun a ha b hb => by simp at hb; subst hb; rintro rfl; exact hn ha⟩
theorem Jtcf {ks : List Int} {n : Int} : (madd ks n).length ≤ ks.length + 1 := by unfold madd; split <;> simp
section
variable {P : Program} {K : ASt → Prop} {QP : AV → ASt → Prop} {dst : Option Nat} {st : ASt}
theorem Jt2a (h : ∀ r, K (put dst (.mp r) ⟨st.env, st.H ++ [.glob r (mpK [])]⟩)) : AWio P false (.mo .mk) dst K QP st := Jt29 h
theorem Jt2p {x k v : Opd} {r b : Nat} {n : Int} {ks : List Int} (hx : evr st.env x = some (.mp r)) (hk : evr st.env k = some (.d (.int .i64 n))) (hv : evr st.env v = some (.d (.bool true))) (hb : st.H[b]? = some (.glob r (mpK ks)))
  (h : K ⟨unview st.env, st.H.set b (.glob r (mpK (madd ks n)))⟩) : AWio P false (.mo (.set x k v)) none K QP st := Jt2o hx hk hv hb (by rw [Jtd6]; exact h)
theorem Jt28 {x k : Opd} {r b : Nat} {n : Int} {ks : List Int} (hx : evr st.env x = some (.mp r)) (hk : evr st.env k = some (.d (.int .i64 n))) (hb : st.H[b]? = some (.glob r (mpK ks)))
  (h : K (put dst (.d (.bool (decide (n ∈ ks)))) st)) : AWio P false (.mo (.get x k)) dst K QP st := Jt27 hx hk hb (by rw [Jtii]; exact h)
theorem Jt2g {x : Opd} {r b : Nat} {ks : List Int} (hx : evr st.env x = some (.mp r)) (hb : st.H[b]? = some (.glob r (mpK ks))) (h : K (put dst (.d (.int .i64 ks.length)) st)) : AWio P false (.mo (.len x)) dst K QP st :=
 Jt2f hx hb (by rw [List.length_zipIdx]; exact h)
theorem Jt2n {x : Opd} {r b : Nat} {ks : List Int} (hx : evr st.env x = some (.mp r)) (hb : st.H[b]? = some (.glob r (mpK ks)))
  (h : ∀ r', K (put dst (.ptr st.H.length 0) ⟨st.env, st.H ++ [.glob r' (itO r ks.length [])]⟩)) : AWio P false (.mo (.rng x)) dst K QP st := Jt2m hx hb h
theorem Jtcz {ks : List Int} {e : Int × Nat} : e ∈ ks.zipIdx ↔ ks[e.2]? = some e.1 := by
 rw [List.mem_zipIdx_iff_getElem?]
theorem Jt2j {x : Opd} {bi r' r b : Nat} {ks : List Int} {seen : List Nat} (hx : evr st.env x = some (.ptr bi 0)) (hi : st.H[bi]? = some (.glob r' (itO r ks.length seen))) (hb : st.H[b]? = some (.glob r (mpK ks)))
  (h1 : ∀ i k, ks[i]? = some k → i ∉ seen → K (put dst (.tup [.d (.bool true), .d (.int .i64 k), .d (.bool true)]) ⟨unview st.env, st.H.set bi (.glob r' (itO r ks.length (seen ++ [i])))⟩))
  (h2 : (∀ i, i < ks.length → i ∈ seen) → K (put dst (.tup [.d (.bool false)]) ⟨unview st.env, st.H⟩)) : AWio P false (.mo (.nxt x)) dst K QP st := by
 refine Jt2i hx hi hb (fun e he => (List.getElem?_eq_some_iff.1 (Jtcz.1 he)).1) (fun e he hs => h1 e.2 e.1 (Jtcz.1 he) hs) (fun hs => h2 fun i hi => ?_)
 exact hs (ks[i], i) (Jtcz.2 (by simp [hi]))
theorem Jt26 {x : Opd} {bi r' r b i : Nat} {k : Int} {ks : List Int} {seen : List Nat} (hx : evr st.env x = some (.ptr bi 0)) (hi : st.H[bi]? = some (.glob r' (itO r ks.length (seen ++ [i])))) (hb : st.H[b]? = some (.glob r (mpK ks))) (hk : ks[i]? = some k)
  (h : K (put dst (.tup [.d (.int .i64 k), .d (.bool true)]) st)) : AWio P false (.mo (.ent x)) dst K QP st :=
 Jt25 (k, i) hx hi hb (Jtcz.2 hk) (by rw [List.zipIdx_map_snd]; exact List.nodup_range' ..) h
end
end Go.AE
set_option maxRecDepth 4000
namespace Go.AE
open Go
def useS (us ds : List Int) (v : Int) : List Int := if v ∈ ds then us else madd us v
def scanI (s : List Int × List Int) (i : Instr) : List Int × List Int :=
 let u1 := if usesA i.op = true then useS s.1 s.2 i.a else s.1
 let u2 := if usesB i.op = true then useS u1 s.2 i.b else u1
 (u2, if usesD i.op = true then madd s.2 i.d else s.2)
def scanC (l : List Instr) : List Int × List Int := l.foldl scanI ([], [])
def scanZ (b : Block) : List Int × List Int :=
 (if b.term.kind ≠ 1 then useS (scanC b.code).1 (scanC b.code).2 b.term.a else (scanC b.code).1, (scanC b.code).2)
theorem Jtfz {l : List Instr} {k : Nat} {i : Instr} (h : l[k]? = some i) : scanC (l.take (k + 1)) = scanI (scanC (l.take k)) i := by
 unfold scanC; rw [List.take_add_one, h, List.foldl_append]; rfl
theorem Jtcy {us ds : List Int} {v x : Int} : x ∈ useS us ds v ↔ x ∈ us ∨ (x = v ∧ v ∉ ds) := by
 unfold useS
 split
 ·rename_i h; exact ⟨.inl, fun h' => h'.elim id fun e => absurd h e.2⟩
 ·rename_i h; rw [Jtcr]; exact ⟨fun h' => h'.imp id fun e => ⟨e, h⟩, fun h' => h'.imp id fun e => e.1⟩
theorem Jthw {us ds : List Int} {v : Int} (h : us.Nodup) : (useS us ds v).Nodup := by unfold useS; split; exact h; exact Jtcg h
theorem Jthv {us ds : List Int} {v : Int} : (useS us ds v).length ≤ us.length + 1 := by unfold useS; split; omega; exact Jtcf
theorem Jtfy (b : Block) : ∀ k, k ≤ b.code.length → (∀ v, v ∈ (scanC (b.code.take k)).2 ↔ defAt b v k = true) ∧ (∀ v, v ∈ (scanC (b.code.take k)).1 ↔ usedC b v k = true) ∧ (scanC (b.code.take k)).1.Nodup ∧ (scanC (b.code.take k)).2.Nodup ∧ (scanC (b.code.take k)).1.length ≤ 2 * k ∧ (scanC (b.code.take k)).2.length ≤ k := by
 intro k
 induction k with
 | zero => intro _; refine ⟨fun v => ?_, fun v => ?_, by simp [scanC], by simp [scanC], by simp [scanC], by simp [scanC]⟩ <;> simp [scanC, defAt, usedC]
 | succ k ih =>
  intro hk
  obtain ⟨h1, h2, h3, h4, h5, h6⟩ := ih (by omega)
  have hb : b.code[k]? = some b.code[k] := by simp [show k < b.code.length by omega]
  obtain ⟨i, hi⟩ : ∃ i, i = b.code[k] := ⟨_, rfl⟩
  rw [← hi] at hb
  rw [Jtfz hb]
  obtain ⟨s, hs⟩ : ∃ s, s = scanC (b.code.take k) := ⟨_, rfl⟩
  rw [← hs] at h1 h2 h3 h4 h5 h6 ⊢
  unfold scanI
  simp only
  refine ⟨fun v => ?_, fun v => ?_, ?_, ?_, ?_, ?_⟩
  ·rw [Jt7f hb]
   by_cases hd : usesD i.op = true
   ·rw [if_pos hd, Jtcr, h1, Bool.or_eq_true, Bool.and_eq_true, beq_iff_eq]; exact or_congr Iff.rfl ⟨fun e => ⟨hd, e.symm⟩, fun e => e.2.symm⟩
   ·rw [if_neg hd, h1, Bool.or_eq_true]; simp [hd]
  ·have key : usedC b v (k + 1) = true ↔ v ∈ s.1 ∨ (((usesA i.op = true ∧ i.a = v) ∨ (usesB i.op = true ∧ i.b = v)) ∧ v ∉ s.2) := by
    rw [Jthy hb, Bool.or_eq_true, Bool.and_eq_true, h2, h1]
    unfold useI
    rw [Bool.or_eq_true, Bool.and_eq_true, Bool.and_eq_true, beq_iff_eq, beq_iff_eq]
    cases defAt b v k <;> simp
   rw [key]
   have e1 : ∀ us : List Int, ∀ c : Bool, ∀ y : Int, v ∈ (if c = true then useS us s.2 y else us) ↔ v ∈ us ∨ ((c = true ∧ y = v) ∧ v ∉ s.2) := by
    intro us c y
    cases c with
    | true =>
     rw [if_pos rfl, Jtcy]
     exact or_congr Iff.rfl ⟨fun ⟨e, h⟩ => ⟨⟨rfl, e.symm⟩, e ▸ h⟩, fun ⟨⟨_, e⟩, h⟩ => ⟨e.symm, e ▸ h⟩⟩
    | false => simp
   rw [e1, e1]
   constructor
   ·rintro ((h | ⟨h, h'⟩) | ⟨h, h'⟩)
    ·exact .inl h
    ·exact .inr ⟨.inl h, h'⟩
    ·exact .inr ⟨.inr h, h'⟩
   ·rintro (h | ⟨h | h, h'⟩)
    ·exact .inl (.inl h)
    ·exact .inl (.inr ⟨h, h'⟩)
    ·exact .inr ⟨h, h'⟩
  ·split <;> split <;> first | exact Jthw (Jthw h3) | exact Jthw h3 | exact h3
  ·split; exact Jtcg h4; exact h4
  ·have l1 : (if usesA i.op = true then useS s.1 s.2 i.a else s.1).length ≤ s.1.length + 1 := by split; exact Jthv; omega
   generalize (if usesA i.op = true then useS s.1 s.2 i.a else s.1) = u1 at l1 ⊢
   have l2 : (if usesB i.op = true then useS u1 s.2 i.b else u1).length ≤ u1.length + 1 := by split; exact Jthv; omega
   omega
  ·have : (if usesD i.op = true then madd s.2 i.d else s.2).length ≤ s.2.length + 1 := by split; exact Jtcf; omega
   omega
theorem Jtg0 (b : Block) : (∀ v, v ∈ (scanZ b).2 ↔ defAt b v b.code.length = true) ∧ (∀ v, v ∈ (scanZ b).1 ↔ usedZ b v = true) ∧ (scanZ b).1.Nodup ∧ (scanZ b).2.Nodup ∧ (scanZ b).1.length ≤ 2 * b.code.length + 1 ∧ (scanZ b).2.length ≤ b.code.length := by
 have h := Jtfy b b.code.length (Nat.le_refl _)
 rw [List.take_length] at h
 obtain ⟨h1, h2, h3, h4, h5, h6⟩ := h
 refine ⟨h1, fun v => ?_, ?_, h4, ?_, h6⟩
 ·unfold scanZ usedZ
  by_cases hk : b.term.kind = 1
  ·simp [hk, h2]
  ·simp only [ne_eq, hk, not_false_eq_true, if_true, Jtcy, h2, h1]
   simp only [Bool.or_eq_true, Bool.and_eq_true, bne_iff_ne, ne_eq, hk, not_false_eq_true, true_and, beq_iff_eq, Bool.not_eq_true', Bool.not_eq_true]
   exact or_congr Iff.rfl ⟨fun ⟨e, h⟩ => ⟨e.symm, e ▸ h⟩, fun ⟨e, h⟩ => ⟨e.symm, e ▸ h⟩⟩
 ·show (if b.term.kind ≠ 1 then _ else _ : List Int).Nodup
  split; exact Jthw h3; exact h3
 ·show (if b.term.kind ≠ 1 then _ else _ : List Int).length ≤ _
  split
  ·have := Jthv (us := (scanC b.code).1) (ds := (scanC b.code).2) (v := b.term.a); omega
  ·omega
inductive LiveAt (f : Func) (v : Int) : Nat → Prop where
 | use (i : Nat) (b : Block) (h : f.blocks[i]? = some b) (hu : usedZ b v = true) : LiveAt f v i
 | next (i : Nat) (b : Block) (t : Int) (h : f.blocks[i]? = some b) (ht : t ∈ succsZ b.term) (hl : LiveAt f v t.toNat) (hd : defAt b v b.code.length = false) : LiveAt f v i
structure OkL (f : Func) : Prop where
 succ : ∀ b ∈ f.blocks, ∀ t ∈ succsZ b.term, 0 ≤ t ∧ t < f.blocks.length
 bl : f.blocks.length ≤ 1000
 cl : ∀ b ∈ f.blocks, b.code.length ≤ 10000
theorem LiveAt.lt {f : Func} {v : Int} {i : Nat} (h : LiveAt f v i) : i < f.blocks.length := by
 cases h with
 | use _ b h _ => exact (List.getElem?_eq_some_iff.1 h).1
 | next _ b t h _ _ _ => exact (List.getElem?_eq_some_iff.1 h).1
theorem LiveAt.closed {f : Func} {v : Int} {S : Nat → Prop} (hu : ∀ i b, f.blocks[i]? = some b → usedZ b v = true → S i) (hn : ∀ i b t, f.blocks[i]? = some b → t ∈ succsZ b.term → S t.toNat → defAt b v b.code.length = false → S i) {i : Nat} (h : LiveAt f v i) : S i := by
 induction h with
 | use i b h h2 => exact hu i b h h2
 | next i b t h h2 _ h3 ih => exact hn i b t h h2 ih h3
end Go.AE
set_option maxRecDepth 4000
namespace Go.AE
open Go
section
theorem Jtby {P : Program} {p : Nums} (A : All P p) (v : Int) (us ds : List Int) (ru rd : Nat) : Jt4n P p.liveness_scan_1 [AI v, .ptr 0 0, .ptr 1 0] [.mem [.mp rd], .mem [.mp ru], .glob rd (mpK ds), .glob ru (mpK us)]
  fun o H' => o = .ret (.tup []) ∧ H' = [.mem [.mp rd], .mem [.mp ru], .glob rd (mpK ds), .glob ru (mpK (useS us ds v))] := by
 refine A.liveness_scan_1.run rfl fun R hR => ?_
 obtain ⟨T, hT⟩ : ∃ T, T = useS us ds v := ⟨_, rfl⟩
 rw [← hT] at hR
 unfold useS at hT
 (simp (maxSteps := 1000000) [Jt9x])
 refine Jt28 (b := 2) (by rfl) (by rfl) (by rfl) ?_
 by_cases hv : v ∈ ds
 ·rw [if_pos hv] at hT
  (simp (maxSteps := 1000000) [hv])
  exact hR _ _ (Fin_wk (.tup []) (.tup []) [.mem [.mp rd], .mem [.mp ru], .glob rd (mpK ds), .glob ru (mpK us)] (by rfl) (by (exact wkA)) ⟨rfl, by rw [hT]⟩)
 ·rw [if_neg hv] at hT
  (simp (maxSteps := 1000000) [hv])
  refine Jt2p (b := 3) (by rfl) (by rfl) (by rfl) (by rfl) ?_
  (simp (maxSteps := 1000000) [])
  exact hR _ _ (Fin_wk (.tup []) (.tup []) [.mem [.mp rd], .mem [.mp ru], .glob rd (mpK ds), .glob ru (mpK (madd us v))] (by rfl) (by (exact wkA)) ⟨rfl, by rw [hT]⟩)
set_option maxHeartbeats 1000000 in
theorem Jtbz {P : Program} {p : Nums} (A : All P p) (b : Block) (h0 : b.code.length ≤ 1000000) : Jt4n P p.liveness_scan [b.av] [] fun o H' => ∃ r : Nat × Nat, True ∧ o = .ret (.tup [.mp r.1, .mp r.2]) ∧ H' = [.dead, .dead, .dead, .glob r.1 (mpK (scanZ b).1), .glob r.2 (mpK (scanZ b).2)] := by
 refine A.liveness_scan.run rfl fun R hR => ?_
 obtain ⟨T, hT⟩ : ∃ T, T = scanZ b := ⟨_, rfl⟩
 rw [← hT] at hR
 unfold scanZ at hT
 have c1 := fun v us ds ru rd => Jtby A v us ds ru rd
 have ok1 := A.liveness_scan_1.ok
 have hsc := fun k i => @Jtfz b.code k i
 obtain ⟨F, hF⟩ : ∃ F : Nat → List Int × List Int, F = fun k => scanC (b.code.take k) := ⟨_, rfl⟩
 have eF : ∀ k, scanC (b.code.take k) = F k := fun k => by rw [hF]
 have F0 : F 0 = ([], []) := by rw [hF]; rfl
 have Fn : scanC b.code = F b.code.length := by rw [hF]; simp
 simp only [eF] at hsc
 rw [Fn] at hT
 clear hF eF Fn
 obtain ⟨code, kind, ta, to, els⟩ := b
 simp only at h0 hsc hT
 (simp (maxSteps := 1000000) [Jt9w, Block.av])
 refine Jt2a fun ru => ?_
 (simp (maxSteps := 1000000) [])
 refine Jt2a fun rd => ?_
 (simp (maxSteps := 1000000) [])
 refine Jtd (fun k : Nat => ⟨[(15, AI k), (14, AI (code.length : Int)), (13, .d (.sl (code.map Instr.row))), (4, .fn (.func p.liveness_scan_1) [] [.ptr 2 0, .ptr 1 0]), (3, .ptr 2 0), (2, .ptr 1 0), (1, .ptr 0 0)],
  [.mem [.d (.sl (code.map Instr.row)), AI kind, AI ta, AI to, AI els], .mem [.mp ru], .mem [.mp rd], .glob ru (mpK (F k).1), .glob rd (mpK (F k).2)]⟩) (fun k => k ≤ code.length) (fun k => code.length - k) 0 (by simp) (by rw [F0]; (exact wkA)) ?_
 intro k hk N hN
 (simp (maxSteps := 1000000) [])
 by_cases h2 : k < code.length
 ·have h2i : (k : Int) < (code.length : Int) := by omega
  have hb : code[k]? = some code[k] := by simp [h2]
  obtain ⟨i, hi⟩ : ∃ i, i = code[k] := ⟨_, rfl⟩
  rw [← hi] at hb
  have hs := hsc k i hb
  have hw := Jtic (k := k) (by omega)
  obtain ⟨⟨us, ds⟩, hu⟩ : ∃ x, x = F k := ⟨_, rfl⟩
  rw [← hu] at hs ⊢
  have next : ∀ st', Wk 0 st' ⟨[(15, AI ((k + 1 : Nat) : Int)), (14, AI (code.length : Int)), (13, .d (.sl (code.map Instr.row))), (4, .fn (.func p.liveness_scan_1) [] [.ptr 2 0, .ptr 1 0]), (3, .ptr 2 0), (2, .ptr 1 0), (1, .ptr 0 0)],
    [.mem [.d (.sl (code.map Instr.row)), AI kind, AI ta, AI to, AI els], .mem [.mp ru], .mem [.mp rd], .glob ru (mpK (scanI (us, ds) i).1), .glob rd (mpK (scanI (us, ds) i).2)]⟩ → N st' := fun st' h => hN st' (k + 1) h2 (by rw [hs]; exact h) (by omega)
  unfold scanI at next
  simp only at next
  (simp (maxSteps := 1000000) [h2, List.getElem?_map, hb, Instr.row])
  simp only [← hi]
  (refine Jt13 (Jtdt A i.op) (by rfl) (by rfl) ?_)
  rw [Jtg3, Jtg1, Jtg2]
  (simp (maxSteps := 1000000) [])
  have w1 : ∀ st' us' ds', us' = (if usesB i.op = true then useS (if usesA i.op = true then useS us ds i.a else us) ds i.b else (if usesA i.op = true then useS us ds i.a else us)) → ds' = (if usesD i.op = true then madd ds i.d else ds) →
    Wk 0 st' ⟨[(15, AI ((k + 1 : Nat) : Int)), (14, AI (code.length : Int)), (13, .d (.sl (code.map Instr.row))), (4, .fn (.func p.liveness_scan_1) [] [.ptr 2 0, .ptr 1 0]), (3, .ptr 2 0), (2, .ptr 1 0), (1, .ptr 0 0)],
    [.mem [.d (.sl (code.map Instr.row)), AI kind, AI ta, AI to, AI els], .mem [.mp ru], .mem [.mp rd], .glob ru (mpK us'), .glob rd (mpK ds')]⟩ → N st' := fun st' us' ds' e1 e2 h => next st' (by rw [← e1, ← e2]; exact h)
  clear next
  cases hA : usesA i.op with
  | true =>
   rw [hA] at w1
   (simp (maxSteps := 1000000) [])
   refine ⟨ok1, Jt14 [2, 1, 4, 3] (c1 i.a us ds ru rd) (by decide) (by rfl) (by rfl) (by rfl) (by rfl) (by rfl) (by rfl) ?_⟩
   obtain ⟨u1, hu1⟩ : ∃ x, x = useS us ds i.a := ⟨_, rfl⟩
   simp only [← hu1, if_true] at w1 ⊢
   (simp (maxSteps := 1000000) [])
   cases hB : usesB i.op with
   | true =>
    rw [hB] at w1
    (simp (maxSteps := 1000000) [])
    refine ⟨ok1, Jt14 [2, 1, 4, 3] (c1 i.b u1 ds ru rd) (by decide) (by rfl) (by rfl) (by rfl) (by rfl) (by rfl) (by rfl) ?_⟩
    obtain ⟨u2, hu2⟩ : ∃ x, x = useS u1 ds i.b := ⟨_, rfl⟩
    simp only [← hu2, if_true] at w1 ⊢
    (simp (maxSteps := 1000000) [])
    cases hD : usesD i.op with
    | true =>
     rw [hD] at w1
     (simp (maxSteps := 1000000) [])
     refine Jt2p (b := 4) (by rfl) (by rfl) (by rfl) (by rfl) ?_
     (simp (maxSteps := 1000000) [hw])
     exact w1 _ u2 (madd ds i.d) rfl (by simp) (by (exact wkA))
    | false =>
     rw [hD] at w1
     (simp (maxSteps := 1000000) [hw])
     exact w1 _ u2 (ds) rfl (by simp) (by (exact wkA))
   | false =>
    rw [hB] at w1
    obtain ⟨u2, hu2⟩ : ∃ x, x = u1 := ⟨_, rfl⟩
    simp only [← hu2, Bool.false_eq_true, if_false] at w1 ⊢
    (simp (maxSteps := 1000000) [])
    cases hD : usesD i.op with
    | true =>
     rw [hD] at w1
     (simp (maxSteps := 1000000) [])
     refine Jt2p (b := 4) (by rfl) (by rfl) (by rfl) (by rfl) ?_
     (simp (maxSteps := 1000000) [hw])
     exact w1 _ u2 (madd ds i.d) rfl (by simp) (by (exact wkA))
    | false =>
     rw [hD] at w1
     (simp (maxSteps := 1000000) [hw])
     exact w1 _ u2 (ds) rfl (by simp) (by (exact wkA))
  | false =>
   rw [hA] at w1
   obtain ⟨u1, hu1⟩ : ∃ x, x = us := ⟨_, rfl⟩
   simp only [← hu1, Bool.false_eq_true, if_false] at w1 ⊢
   (simp (maxSteps := 1000000) [])
   cases hB : usesB i.op with
   | true =>
    rw [hB] at w1
    (simp (maxSteps := 1000000) [])
    refine ⟨ok1, Jt14 [2, 1, 4, 3] (c1 i.b u1 ds ru rd) (by decide) (by rfl) (by rfl) (by rfl) (by rfl) (by rfl) (by rfl) ?_⟩
    obtain ⟨u2, hu2⟩ : ∃ x, x = useS u1 ds i.b := ⟨_, rfl⟩
    simp only [← hu2, if_true] at w1 ⊢
    (simp (maxSteps := 1000000) [])
    cases hD : usesD i.op with
    | true =>
     rw [hD] at w1
     (simp (maxSteps := 1000000) [])
     refine Jt2p (b := 4) (by rfl) (by rfl) (by rfl) (by rfl) ?_
     (simp (maxSteps := 1000000) [hw])
     exact w1 _ u2 (madd ds i.d) rfl (by simp) (by (exact wkA))
    | false =>
     rw [hD] at w1
     (simp (maxSteps := 1000000) [hw])
     exact w1 _ u2 (ds) rfl (by simp) (by (exact wkA))
   | false =>
    rw [hB] at w1
    obtain ⟨u2, hu2⟩ : ∃ x, x = u1 := ⟨_, rfl⟩
    simp only [← hu2, Bool.false_eq_true, if_false] at w1 ⊢
    (simp (maxSteps := 1000000) [])
    cases hD : usesD i.op with
    | true =>
     rw [hD] at w1
     (simp (maxSteps := 1000000) [])
     refine Jt2p (b := 4) (by rfl) (by rfl) (by rfl) (by rfl) ?_
     (simp (maxSteps := 1000000) [hw])
     exact w1 _ u2 (madd ds i.d) rfl (by simp) (by (exact wkA))
    | false =>
     rw [hD] at w1
     (simp (maxSteps := 1000000) [hw])
     exact w1 _ u2 (ds) rfl (by simp) (by (exact wkA))
 ·have ek : k = code.length := by omega
  subst ek
  (simp (maxSteps := 1000000) [])
  obtain ⟨⟨us, ds⟩, hu⟩ : ∃ x, x = F code.length := ⟨_, rfl⟩
  rw [← hu] at hT ⊢
  simp only at hT
  by_cases hk1 : kind = 1
  ·rw [if_neg (fun h => h hk1)] at hT
   (simp (maxSteps := 1000000) [hk1])
   exact hR _ _ (Jt4r (.tup [.mp ru, .mp rd]) (.tup [.mp ru, .mp rd]) [.dead, .dead, .dead, .glob ru (mpK us), .glob rd (mpK ds)] (by rfl) (by (exact wkA)) ⟨(ru, rd), trivial, rfl, by rw [hT]⟩)
  ·rw [if_pos hk1] at hT
   (simp (maxSteps := 1000000) [hk1])
   refine ⟨ok1, Jt14 [2, 1, 4, 3] (c1 ta us ds ru rd) (by decide) (by rfl) (by rfl) (by rfl) (by rfl) (by rfl) (by rfl) ?_⟩
   obtain ⟨u1, hu1⟩ : ∃ x, x = useS us ds ta := ⟨_, rfl⟩
   simp only [← hu1] at hT ⊢
   (simp (maxSteps := 1000000) [])
   exact hR _ _ (Jt4r (.tup [.mp ru, .mp rd]) (.tup [.mp ru, .mp rd]) [.dead, .dead, .dead, .glob ru (mpK u1), .glob rd (mpK ds)] (by rfl) (by (exact wkA)) ⟨(ru, rd), trivial, rfl, by rw [hT]⟩)
end
end Go.AE
namespace Go.AE
open Go Go.Proofs Go.Shelf Go.Sort Go.RowKit
def sortI (l : List Int) : List Int := l.mergeSort fun x y => decide (x ≤ y)
theorem Jtga (l : List Int) : (sortI l).length = l.length := by simp [sortI]
theorem Jtfj (l : List Int) : (Jtfh (l.map intRow)).length = l.length := by
 rw [Jtfl (e := 1) (Jtfm fun _ => rfl)]; simp
theorem Jtfi : ∀ (l : List Int) (j : Nat), (Jtfh (l.map intRow))[j]? = l[j]?.map AI := by
 intro l
 induction l with
 | nil => intro j; simp [Jtfh]
 | cons x l ih =>
  intro j
  cases j with
  | zero => rfl
  | succ j => simpa [Jtfh, intRow] using ih j
section
variable {P : Program} {ρ : Ren}
theorem Jtg9 (L : Lays.n189 P ρ) (arg : AV) (l : List Int) (hv : ∀ (g : Gh) (w : World) (v0 : Value), Rel g.F g.φ w arg.erase v0 → ∃ r cap, g.φ 0 = some r ∧ v0 = .slice (some ⟨r, 0, none⟩) l.length cap) (hlen : l.length < 4611686018427387904) :
  Jt4n P (ρ.f 189) [arg] [.mem (Jtfh (l.map intRow))] fun o H' => o = .ret (.tup []) ∧ H' = [.mem (Jtfh ((sortI l).map intRow))] := by
 intro g vs w hsz hs
 obtain ⟨vs⟩ := vs
 obtain ⟨v0, rfl⟩ : ∃ a, vs = [a] := by
  match vs, hsz with
  | [a], _ => exact ⟨a, rfl⟩
 have e0 : Rel g.F g.φ w arg.erase v0 := hs.env 0 _ rfl
 obtain ⟨r, cap, hφ, rfl⟩ := hv g w v0 e0
 obtain ⟨cl, te, hc, hcs, hcell⟩ := hs.mem 0 _ r rfl hφ
 have hF := (hs.lt 0 r hφ).2.1
 have hrl := (hs.lt 0 r hφ).1
 rw [Jtfj] at hcs
 have hH : Holds (Value.int .i64) w r 0 l.toArray := by
  intro j hj
  have hj' : j < l.length := by simpa using hj
  obtain ⟨_, u, hu, hrel⟩ := hcell j (AI l[j]) (by rw [Jtfi]; simp [hj'])
  cases hrel with
  | d _ _ hp =>
  cases hp with
  | int k m =>
  constructor
  ·simp [World.cell?, hc, hu, hj']
  ·simp [World.frozen?, hc]
 have := Any.slices_Sort_int L r 0 cap l w hH hrl hlen
 refine Calls.mono this ?_
 rintro e w' ⟨rfl, n, os, hw⟩
 obtain ⟨d, hd⟩ : ∃ d, d = sortI l := ⟨_, rfl⟩
 have hdl : d.length = l.length := by rw [hd, Jtga]
 have hw : w' = grow (putRow (Value.int .i64) (Sort.ahead w n) r 0 d.toArray) os := by rw [hw, hd]; rfl
 have hheap : w'.heap = (w.heap.modify r (onCells (putCells (Value.int .i64) 0 d.toArray))) ++ os := by rw [hw]; rfl
 have hother : ∀ r', r' < w.heap.size → r' ≠ r → w'.heap[r']? = w.heap[r']? := by
  intro r' h1 h2
  rw [hheap, Array.getElem?_append]
  simp only [Array.size_modify, h1, if_true, Array.getElem?_modify]
  rw [if_neg (Ne.symm h2)]
 have hsize : w.heap.size ≤ w'.heap.size := by rw [hheap]; simp
 have hpsz : (putCells (Value.int .i64) 0 d.toArray cl).size = cl.size := by simp [putCells]
 have hr' : w'.heap[r]? = some (.cells (putCells (Value.int .i64) 0 d.toArray cl) te (0, 0)) := by
  rw [hheap, Array.getElem?_append]
  simp only [Array.size_modify, hrl, if_true, Array.getElem?_modify, if_true]
  rw [hc]; rfl
 have hno : ∀ (env : List (Nat × AV)) (cells : List D) b j e rows, AP ⟨env, [.mem (cells.map AV.d)]⟩ (.cell b j) ≠ some (.own e rows) := by
  intro env cells b j e rows h
  simp only [AP] at h
  cases b with
  | zero =>
   simp only [List.getElem?_cons_zero] at h
   rw [List.getElem?_map] at h
   cases hx : cells[j]? with
   | none => rw [hx] at h; cases h
   | some d => rw [hx] at h; cases h
  | succ b => simp at h
 have hno' : ∀ p e rows, AP ⟨[(0, .tup [])], [.mem (Jtfh (d.map intRow))]⟩ p ≠ some (.own e rows) := by
  intro p e rows h
  cases p with
  | tmp t => simp only [AP, get] at h; split at h <;> cases h
  | cell b j => exact hno _ _ _ _ _ _ h
 have hb0 : ∀ b r', g.φ b = some r' → b = 0 := fun b r' h => by have := (hs.lt b r' h).2.2; simp at this; exact this
 refine ⟨.ret (.tup []), [.mem (Jtfh (d.map intRow))], g, .tuple #[], ⟨rfl, by rw [hd]⟩, rfl, ?_, ?_, fun _ _ _ h => h, by simp, ?_⟩
 ·refine { size := by simp, env := ?_, inj := hs.inj, lt := ?_, dom := ?_, mem := ?_, iter := ?_, glob := ?_, own := ?_, excl := ?_, apart := ?_, view := ?_ }
  ·intro t x hx
   simp only [get] at hx
   split at hx
   ·rename_i h; subst h; injection hx with hx; subst hx
    exact .tup [] [] rfl fun j x u h => by simp at h
   ·cases hx
  ·intro b r' h
   obtain ⟨h1, h2, h3⟩ := hs.lt b r' h
   exact ⟨by omega, h2, by simpa using h3⟩
  ·intro b k h hk
   cases b with
   | zero => exact ⟨r, hφ⟩
   | succ b => simp at h
  ·intro b cells r' h hr2
   have hb := hb0 b r' hr2
   subst hb
   rw [hφ] at hr2; injection hr2 with hr2; subst hr2
   simp at h; subst h
   refine ⟨_, te, hr', ?_, ?_⟩
   ·rw [Jtfj, hdl]; simp [putCells]; exact hcs
   ·intro j x hx
    rw [Jtfi] at hx
    cases hdj : d[j]? with
    | none => rw [hdj] at hx; cases hx
    | some n =>
     rw [hdj] at hx; injection hx with hx; subst hx
     have hj := (List.getElem?_eq_some_iff.1 hdj).1
     refine ⟨rfl, .int .i64 n, ?_, .d _ _ (.int _ _)⟩
     have hjc : j < cl.size := by omega
     have hn : d[j] = n := (List.getElem?_eq_some_iff.1 hdj).2
     simp [putCells, Array.getElem?_mapIdx, hjc, hj, hn]
  ·intro b s pos r' h _
   cases b with
   | zero => simp at h
   | succ b => simp at h
  ·intro b s pos r' h _
   cases b with
   | zero => simp at h
   | succ b => simp at h
  ·intro p e rows v h; exact absurd h (hno' p e rows)
  ·rintro p p' r' ⟨e, rows, _, h, _⟩; exact absurd h (hno' p e rows)
  ·rintro p r' b ⟨e, rows, _, h, _⟩; exact absurd h (hno' p e rows)
  ·intro t org e rows h
   simp only [get] at h
   split at h <;> cases h
 ·refine ⟨by rw [hw]; rfl, by rw [hw]; rfl, by rw [hw]; rfl, hsize, ?_, ?_⟩
  ·intro r' h1 h2
   refine ⟨hother r' h1 ?_, rfl⟩
   rintro rfl; exact h2 (.inl ⟨0, hφ⟩)
  ·refine ⟨fun _ _ => Nat.le_refl _, ?_, fun q => ?_⟩
   rotate_left
   ·by_cases hq : q = r
    ·subst hq; rw [Jt7b hc, Jt7b hr']; exact Nat.le_of_eq hpsz.symm
    ·by_cases hql : q < w.heap.size
     ·rw [Jt7c (hother q hql hq)]; exact Nat.le_refl _
     ·have : w.heap[q]? = none := Array.getElem?_eq_none (by omega)
      simp [csize, this]
   intro r' j u hj hu
   have hne : r' ≠ r := by rintro rfl; omega
   have hlt := World.block_lt_of_cell? w ⟨r', j, none⟩ hu
   have := hother r' hlt hne
   simp only [World.cell?] at hu ⊢
   rw [this]; exact hu
 ·rintro r' (⟨b, hb⟩ | ⟨p, e, rows, _, h, _⟩)
  ·exact .inl (.inl ⟨b, hb⟩)
  ·exact absurd h (hno' p e rows)
structure SortIOk (P : Program) (p : Nums) : Prop where
 some : ∀ l : List Int, l ≠ [] → l.length < 1000000000 → Jt4n P p.slices_Sort_int [.hsl 0 0 1 l.length] [.mem (Jtfh (l.map intRow))] fun o H' => o = .ret (.tup []) ∧ H' = [.mem (Jtfh ((sortI l).map intRow))]
 none : Jt4n P p.slices_Sort_int [.hsl0 0 1] [.mem []] fun o H' => o = .ret (.tup []) ∧ H' = [.mem []]
theorem SortIOk.of (L : Lays.n189 P ρ) (p : Nums) (h : p.slices_Sort_int = ρ.f 189) : SortIOk P p := by
 refine ⟨fun l hl h0 => ?_, ?_⟩
 ·rw [h]
  refine Jtg9 L _ l (fun g w v0 hr => ?_) (by omega)
  have hr : Rel g.F g.φ w (.hsl 0 0 1 l.length) v0 := hr
  have hn : l.length ≠ 0 := by simpa using hl
  cases hr with
  | hsl _ _ _ _ r cap a hφ hcap ha _ =>
  have ha := ha hn; subst ha
  exact ⟨r, cap, hφ, rfl⟩
 ·rw [h]
  have e : Jtfh ((sortI []).map intRow) = [] := by simp [sortI, Jtfh]
  have := Jtg9 L (.hsl0 0 1) [] (fun g w v0 hr => by
   have hr : Rel g.F g.φ w (.hsl0 0 1) v0 := hr
   cases hr with
   | hsl0 _ _ r cap hφ _ => exact ⟨r, cap, hφ, rfl⟩) (by simp)
  rw [e] at this
  exact this
end
end Go.AE
set_option maxRecDepth 4000
namespace Go.AE
open Go
theorem Jtgc (l : List Int) : (sortI l).Pairwise fun a b => a ≤ b := by
 have := List.pairwise_mergeSort (le := fun x y : Int => decide (x ≤ y)) (fun a b c h1 h2 => by simp at *; omega) (fun a b => by simp; omega) l
 exact this.imp fun h => by simpa using h
theorem Jtgf {l m : List Int} (h1 : l.Pairwise fun a b => a ≤ b) (h2 : m.Pairwise fun a b => a ≤ b) (h : l.Perm m) : l = m :=
 List.Perm.eq_of_pairwise (fun a b _ _ h h' => by omega) h1 h2 h
theorem Jtgb {l m : List Int} (h : l.Perm m) : sortI l = sortI m :=
 Jtgf (Jtgc l) (Jtgc m) ((List.mergeSort_perm l _).trans (h.trans (List.mergeSort_perm m _).symm))
structure Seen (ks : List Int) (seen : List Nat) (cs : List Int) : Prop where
 nd : seen.Nodup
 lt : ∀ i ∈ seen, i < ks.length
 eq : cs = seen.map fun i => ks.getD i 0
theorem Seen.nil (ks : List Int) : Seen ks [] [] := ⟨by simp, fun i h => by simp at h, rfl⟩
theorem Seen.len {ks : List Int} {seen : List Nat} {cs : List Int} (h : Seen ks seen cs) : cs.length = seen.length ∧ seen.length ≤ ks.length := by
 refine ⟨by rw [h.eq]; simp, ?_⟩
 have := h.nd.length_le_of_subset (l₂ := List.range ks.length) fun i hi => List.mem_range.2 (h.lt i hi)
 simpa using this
theorem Seen.step {ks : List Int} {seen : List Nat} {cs : List Int} (h : Seen ks seen cs) {i : Nat} {k : Int} (hk : ks[i]? = some k) (hi : i ∉ seen) : Seen ks (seen ++ [i]) (cs ++ [k]) := by
 refine ⟨?_, fun j hj => ?_, ?_⟩
 ·rw [List.nodup_append]
  exact ⟨h.nd, by simp, fun a ha b hb => by simp at hb; subst hb; rintro rfl; exact hi ha⟩
 ·rcases List.mem_append.1 hj with hj | hj
  ·exact h.lt j hj
  ·simp at hj; subst hj; exact (List.getElem?_eq_some_iff.1 hk).1
 ·rw [List.map_append, ← h.eq]; simp [List.getD_eq_getElem?_getD, hk]
theorem Seen.mem {ks : List Int} {seen : List Nat} {cs : List Int} (h : Seen ks seen cs) {v : Int} (hv : v ∈ cs) : v ∈ ks := by
 rw [h.eq] at hv
 obtain ⟨i, hi, rfl⟩ := List.mem_map.1 hv
 have := h.lt i hi
 simp [List.getD_eq_getElem?_getD, this]
theorem Seen.done {ks : List Int} {seen : List Nat} {cs : List Int} (h : Seen ks seen cs) (hall : ∀ i, i < ks.length → i ∈ seen) : cs.Perm ks := by
 have hp : seen.Perm (List.range ks.length) := (List.perm_ext_iff_of_nodup h.nd List.nodup_range).2 fun a => ⟨fun ha => List.mem_range.2 (h.lt a ha), fun ha => hall a (List.mem_range.1 ha)⟩
 have e : (List.range ks.length).map (fun i => ks.getD i 0) = ks := by
  apply List.ext_getElem?
  intro j
  by_cases hj : j < ks.length
  ·simp [hj, List.getD_eq_getElem?_getD]
  ·rw [List.getElem?_eq_none (by simp; omega), List.getElem?_eq_none (by omega)]
 rw [h.eq]
 exact (hp.map _).trans (by rw [e])
def outV (cs : List Int) (q : Nat) : AV := if cs = [] then .hsl0 1 1 else .hsl (q + 1) 0 1 cs.length
structure SetT (r' r n : Nat) (seen : List Nat) (cs : List Int) (q : Nat) (T : List Blk) : Prop where
 it : T[1]? = some (.glob r' (itO r n seen))
 out : T[q]? = some (.mem (Jtfh (cs.map intRow)))
 ne : q ≠ 1
 z : cs = [] → q = 0
 all : ∀ k ∈ T, (∃ rows, k = .mem (Jtfh rows)) ∨ ∃ o, k = .glob r' o
theorem SetT.len {r' r n : Nat} {seen : List Nat} {cs : List Int} {q : Nat} {T : List Blk} (h : SetT r' r n seen cs q T) : 2 ≤ T.length ∧ q < T.length :=
 ⟨(List.getElem?_eq_some_iff.1 h.it).1, (List.getElem?_eq_some_iff.1 h.out).1⟩
theorem SetT.next {r' r n : Nat} {seen : List Nat} {cs : List Int} {q : Nat} {T : List Blk} (h : SetT r' r n seen cs q T) (i : Nat) : SetT r' r n (seen ++ [i]) cs q (T.set 1 (.glob r' (itO r n (seen ++ [i])))) := by
 refine ⟨by rw [List.getElem?_set_self h.len.1], by rw [List.getElem?_set_ne h.ne.symm]; exact h.out, h.ne, h.z, fun k hk => ?_⟩
 rcases List.mem_or_eq_of_mem_set hk with hk | hk
 ·exact h.all k hk
 ·exact .inr ⟨_, hk⟩
theorem SetT.app1 {r' r n : Nat} {seen : List Nat} {cs : List Int} {q : Nat} {T : List Blk} (h : SetT r' r n seen cs q T) (k : Int) {rows : List (List D)} (hr : rows = (cs ++ [k]).map intRow) : SetT r' r n seen (cs ++ [k]) q (T.set q (.mem (Jtfh rows))) := by
 subst hr
 refine ⟨by rw [List.getElem?_set_ne h.ne]; exact h.it, by rw [List.getElem?_set_self h.len.2], h.ne, fun e => by simp at e, fun k hk => ?_⟩
 rcases List.mem_or_eq_of_mem_set hk with hk | hk
 ·exact h.all k hk
 ·exact .inl ⟨_, hk⟩
theorem SetT.app2 {r' r n : Nat} {seen : List Nat} {cs : List Int} {q : Nat} {T : List Blk} (h : SetT r' r n seen cs q T) (k : Int) {rows : List (List D)} (hr : rows = (cs ++ [k]).map intRow) : SetT r' r n seen (cs ++ [k]) T.length (T ++ [.mem (Jtfh rows)]) := by
 subst hr
 have hl := h.len
 refine ⟨by rw [List.getElem?_append_left (by omega)]; exact h.it, by simp, by omega, fun e => by simp at e, fun k hk => ?_⟩
 rcases List.mem_append.1 hk with hk | hk
 ·exact h.all k hk
 ·exact .inl ⟨_, List.mem_singleton.1 hk⟩
theorem Jt5c {H : List Blk} {n r' : Nat} : ∀ {T : List Blk}, (∀ k ∈ T, (∃ rows, k = .mem (Jtfh rows)) ∨ ∃ o, k = .glob r' o) → WkHs H n T T := by
 intro T
 induction T with
 | nil => intro _; exact True.intro
 | cons x T ih =>
  intro h
  refine ⟨?_, ih fun b hb => h b (by simp [hb])⟩
  rcases h x (by simp) with ⟨rows, rfl⟩ | ⟨o, rfl⟩
  ·exact Jt53
  ·exact .glob _ _
theorem Jt5b {H X : List Blk} {n : Nat} : WkHs H n X [] := by cases X <;> exact True.intro
theorem get1 {a : Blk} {t : List Blk} {j : Nat} : (a :: t)[j + 1]? = t[j]? := rfl
theorem set1 {a x : Blk} {t : List Blk} {j : Nat} : (a :: t).set (j + 1) x = a :: t.set j x := rfl
section
set_option maxHeartbeats 2000000 in
theorem Jtc0 {P : Program} {p : Nums} (A : All P p) (SI : SortIOk P p) (r : Nat) (ks : List Int) (h0 : ks.length ≤ 1000000) : Jt4n P p.liveness_set_sorted [.mp r] [.glob r (mpK ks)] fun o H' => o = .ret (.d (intsD (sortI ks))) ∧ H' = [.glob r (mpK ks)] := by
 refine A.liveness_set_sorted.run rfl fun R hR => ?_
 (simp (maxSteps := 1000000) [Jt9y])
 refine Jt2g (b := 0) (by rfl) (by rfl) ?_
 (simp (maxSteps := 1000000) [])
 refine Jt2d (n := ks.length) (by rfl) (by rfl) (by omega) (by omega) (by decide) (by rfl) ?_
 (simp (maxSteps := 1000000) [])
 refine Jt2n (b := 0) (by rfl) (by rfl) fun r' => ?_
 (simp (maxSteps := 1000000) [])
 refine Jtd (fun z : List Nat × List Int × Nat × List Blk => ⟨[(9, .ptr 2 0), (3, outV z.2.1 z.2.2.1)], .glob r (mpK ks) :: z.2.2.2⟩) (fun z => Seen ks z.1 z.2.1 ∧ SetT r' r ks.length z.1 z.2.1 z.2.2.1 z.2.2.2) (fun z => ks.length - z.1.length)
  ([], [], 0, [.mem [], .glob r' (itO r ks.length [])]) ⟨Seen.nil ks, ⟨rfl, rfl, Nat.zero_ne_one, fun _ => rfl, fun k hk => by
   simp only [List.mem_cons, List.not_mem_nil, or_false] at hk
   rcases hk with rfl | rfl
   ·exact .inl ⟨[], rfl⟩
   ·exact .inr ⟨_, rfl⟩⟩⟩ (by simp only [outV, if_true]; (exact wkA)) ?_
 rintro ⟨seen, cs, q, T⟩ ⟨hs, ht⟩ N hN
 simp only at hs ht hN
 obtain ⟨l1, l2⟩ := hs.len
 (simp (maxSteps := 1000000) [])
 refine Jt2j (b := 0) (bi := 2) (by rfl) (get1.trans ht.it) (by rfl) (fun i k hk hi => ?_) (fun hall => ?_)
 ·have hs' := hs.step hk hi
  have ht' := ht.next i
  have hT1 : ∀ y, (Blk.glob r (mpK ks) :: T).set 2 y = .glob r (mpK ks) :: T.set 1 y := fun y => rfl
  simp only [hT1]
  obtain ⟨T1, eT1⟩ : ∃ x, x = T.set 1 (.glob r' (itO r ks.length (seen ++ [i]))) := ⟨_, rfl⟩
  rw [← eT1] at ht' ⊢
  (simp (maxSteps := 1000000) [])
  refine Jt26 (b := 0) (bi := 2) (by rfl) (get1.trans ht'.it) (by rfl) hk ?_
  (simp (maxSteps := 1000000) [])
  have hlen := hs'.len
  have fin : ∀ st' q2 T2, SetT r' r ks.length (seen ++ [i]) (cs ++ [k]) q2 T2 → Wk 1 st' ⟨[(9, .ptr 2 0), (3, .hsl (q2 + 1) 0 1 (cs.length + 1))], .glob r (mpK ks) :: T2⟩ → N st' := by
   intro st' q2 T2 h2 hw
   refine hN st' (seen ++ [i], cs ++ [k], q2, T2) ⟨hs', h2⟩ ?_ (by simp only [List.length_append, List.length_singleton] at hlen ⊢; omega)
   simp only [outV]
   rw [if_neg (by simp), List.length_append, List.length_singleton]; exact hw
  have leaf : ∀ {H : List Blk} {q2 : Nat} {T2 : List Blk}, SetT r' r ks.length (seen ++ [i]) (cs ++ [k]) q2 T2 → WkT H (T2.length + 1) (.hsl (q2 + 1) 0 1 (cs.length + 1)) (.hsl (q2 + 1) 0 1 (cs.length + 1)) ∧ WkT H (T2.length + 1) (.ptr 2 0) (.ptr 2 0) := by
   intro H q2 T2 h2
   have := h2.len
   exact ⟨Jti6 (by simp only [AV.ren]; rw [if_pos (by omega)]), Jti6 (by simp only [AV.ren]; rw [if_pos (by omega)])⟩
  unfold outV
  by_cases hc : cs = []
  ·have hq := ht'.z hc
   subst hc hq
   rw [if_pos rfl]
   (simp (maxSteps := 1000000) [])
   refine Jt1e (b := 1) (ys := [[D.int .i64 k]]) (by rfl) (get1.trans ht'.out) (by rfl) (by simp) (by decide) (by simp) (by simp) (by simp) ?_ ?_
   ·have h2 := ht'.app1 (rows := [[D.int .i64 k]]) k rfl
    have hT2 : ∀ y, (Blk.glob r (mpK ks) :: T1).set 1 y = .glob r (mpK ks) :: T1.set 0 y := fun y => rfl
    simp only [hT2]
    obtain ⟨T2, eT2⟩ : ∃ x, x = T1.set 0 (.mem (Jtfh [[D.int .i64 k]])) := ⟨_, rfl⟩
    rw [← eT2] at h2 ⊢
    (simp (maxSteps := 1000000) [])
    exact fin _ 0 T2 h2 (by refine Wk.of ?_ ?_ (by simp) <;> repeat' (first | exact Jt5c h2.all | (first | exact True.intro | exact ⟨_, rfl, Jti6 rfl⟩ | exact ⟨_, rfl, Jti4 rfl⟩ | exact ⟨_, rfl, .inl .nild⟩ | exact ⟨_, rfl, .inl .nile⟩ | exact ⟨_, rfl, Jti5⟩ | exact Jti6 rfl | exact Jti4 rfl | exact .inl .nild | exact .inl .nile | exact Jti5 | exact WkB.same rfl | exact Jt53 | exact Jt52 | exact .dead _ | exact .iter _ _ | exact .glob _ _ | refine Jt51 ?_ ?_ | refine And.intro ?_ ?_) | exact ⟨_, rfl, (leaf h2).1⟩ | exact ⟨_, rfl, (leaf h2).2⟩))
   ·have h2 := ht'.app2 (rows := [[D.int .i64 k]]) k rfl
    simp only [List.cons_append]
    obtain ⟨T2, eT2⟩ : ∃ x, x = T1 ++ [.mem (Jtfh [[D.int .i64 k]])] := ⟨_, rfl⟩
    rw [← eT2] at h2 ⊢
    (simp (maxSteps := 1000000) [])
    exact fin _ T1.length T2 h2 (by refine Wk.of ?_ ?_ (by simp) <;> repeat' (first | exact Jt5c h2.all | (first | exact True.intro | exact ⟨_, rfl, Jti6 rfl⟩ | exact ⟨_, rfl, Jti4 rfl⟩ | exact ⟨_, rfl, .inl .nild⟩ | exact ⟨_, rfl, .inl .nile⟩ | exact ⟨_, rfl, Jti5⟩ | exact Jti6 rfl | exact Jti4 rfl | exact .inl .nild | exact .inl .nile | exact Jti5 | exact WkB.same rfl | exact Jt53 | exact Jt52 | exact .dead _ | exact .iter _ _ | exact .glob _ _ | refine Jt51 ?_ ?_ | refine And.intro ?_ ?_) | exact ⟨_, rfl, (leaf h2).1⟩ | exact ⟨_, rfl, (leaf h2).2⟩))
  ·rw [if_neg hc]
   have hpos : 0 < cs.length := List.length_pos_iff.2 hc
   have er : cs.map intRow ++ [[D.int .i64 k]] = (cs ++ [k]).map intRow := by simp [intRow]
   (simp (maxSteps := 1000000) [])
   refine Jt1g (b := q + 1) (rows := cs.map intRow) (ys := [[D.int .i64 k]]) (by rfl) (get1.trans ht'.out) (by simp) (Jtfm fun _ => rfl) hpos (by rfl) (by simp) (by decide) (by simp) (by simp; omega) (by simp; omega) ?_ ?_
   ·have h2 := ht'.app1 k er
    simp only [set1]
    obtain ⟨T2, eT2⟩ : ∃ x, x = T1.set q (.mem (Jtfh (cs.map intRow ++ [[D.int .i64 k]]))) := ⟨_, rfl⟩
    rw [← eT2] at h2 ⊢
    (simp (maxSteps := 1000000) [])
    exact fin _ q T2 h2 (by refine Wk.of ?_ ?_ (by simp) <;> repeat' (first | exact Jt5c h2.all | (first | exact True.intro | exact ⟨_, rfl, Jti6 rfl⟩ | exact ⟨_, rfl, Jti4 rfl⟩ | exact ⟨_, rfl, .inl .nild⟩ | exact ⟨_, rfl, .inl .nile⟩ | exact ⟨_, rfl, Jti5⟩ | exact Jti6 rfl | exact Jti4 rfl | exact .inl .nild | exact .inl .nile | exact Jti5 | exact WkB.same rfl | exact Jt53 | exact Jt52 | exact .dead _ | exact .iter _ _ | exact .glob _ _ | refine Jt51 ?_ ?_ | refine And.intro ?_ ?_) | exact ⟨_, rfl, (leaf h2).1⟩ | exact ⟨_, rfl, (leaf h2).2⟩))
   ·have h2 := ht'.app2 k er
    simp only [List.cons_append]
    obtain ⟨T2, eT2⟩ : ∃ x, x = T1 ++ [.mem (Jtfh (cs.map intRow ++ [[D.int .i64 k]]))] := ⟨_, rfl⟩
    rw [← eT2] at h2 ⊢
    (simp (maxSteps := 1000000) [])
    exact fin _ T1.length T2 h2 (by refine Wk.of ?_ ?_ (by simp) <;> repeat' (first | exact Jt5c h2.all | (first | exact True.intro | exact ⟨_, rfl, Jti6 rfl⟩ | exact ⟨_, rfl, Jti4 rfl⟩ | exact ⟨_, rfl, .inl .nild⟩ | exact ⟨_, rfl, .inl .nile⟩ | exact ⟨_, rfl, Jti5⟩ | exact Jti6 rfl | exact Jti4 rfl | exact .inl .nild | exact .inl .nile | exact Jti5 | exact WkB.same rfl | exact Jt53 | exact Jt52 | exact .dead _ | exact .iter _ _ | exact .glob _ _ | refine Jt51 ?_ ?_ | refine And.intro ?_ ?_) | exact ⟨_, rfl, (leaf h2).1⟩ | exact ⟨_, rfl, (leaf h2).2⟩))
 ·have hp := Jtgb (hs.done hall)
  rw [← hp] at hR
  unfold outV
  by_cases hc : cs = []
  ·have hq := ht.z hc
   subst hc hq
   rw [if_pos rfl]
   have g1 : (Blk.glob r (mpK ks) :: T)[1]? = some (.mem []) := get1.trans ht.out
   have hset : (Blk.glob r (mpK ks) :: T).set 1 (.mem []) = Blk.glob r (mpK ks) :: T.set 0 (.mem []) := rfl
   (simp (maxSteps := 1000000) [])
   refine Jt14 [1] SI.none (by decide) (by rfl) (by show picks _ [1] = some [.mem []]; simp [picks, ht.out, Jtfh]) (by rfl) (by rfl) (by rfl) (by rfl) ?_
   (simp (maxSteps := 1000000) [wback])
   refine hR _ _ (Jt4r (.hsl0 1 1) (.d (.sl [])) [.glob r (mpK ks)] (by rfl) ?_ ⟨by simp [sortI, intsD], rfl⟩)
   refine Wk.of ⟨⟨_, rfl, .inl (.hsl0 _ _)⟩, trivial⟩ ⟨.glob _ _, ?_⟩ (by simp)
   exact Jt5b
  ·rw [if_neg hc]
   have hpos : 0 < cs.length := List.length_pos_iff.2 hc
   have hl := ht.len
   (simp (maxSteps := 1000000) [])
   refine Jt14 [q + 1] (SI.some cs hc (by omega)) (by simp) (by simp [renL, AV.ren, idx]) (by show picks _ [q + 1] = some [.mem (Jtfh (cs.map intRow))]; simp only [picks]; rw [get1, ht.out]) Jtf5 Jtf5 (by rfl) (by rfl) ?_
   simp only [wback, set1]
   have hg : (T.set q (.mem (Jtfh ((sortI cs).map intRow))))[q]? = some (.mem (Jtfh ((sortI cs).map intRow))) := by rw [List.getElem?_set_self hl.2]
   obtain ⟨T2, eT2⟩ : ∃ x, x = T.set q (.mem (Jtfh ((sortI cs).map intRow))) := ⟨_, rfl⟩
   rw [← eT2] at hg ⊢
   (simp (maxSteps := 1000000) [])
   refine hR _ _ (Jt4r (.hsl (q + 1) 0 1 cs.length) (.d (.sl ((sortI cs).map intRow))) [.glob r (mpK ks)] (by rfl) ?_ ⟨rfl, rfl⟩)
   refine Wk.of ⟨⟨_, rfl, Jt5f (get1.trans hg) (by simp) (by simp [Jtga]) (Jtfm fun _ => rfl)⟩, trivial⟩ ⟨.glob _ _, ?_⟩ (by simp)
   exact Jt5b
theorem Jtbw {P : Program} {p : Nums} (A : All P p) (SI : SortIOk P p) (b : Block) (h0 : b.code.length ≤ 10000) : Jt4n P p.liveness_Uses [b.av] [] fun o _ => o = .ret (.d (intsD (sortI (scanZ b).1))) := by
 refine A.liveness_Uses.run rfl fun R hR => ?_
 have cs := Jtbz A b (by omega)
 obtain ⟨_, _, _, _, l1, l2⟩ := Jtg0 b
 obtain ⟨⟨us, ds⟩, hs⟩ : ∃ x, x = scanZ b := ⟨_, rfl⟩
 rw [← hs] at cs hR l1 l2
 obtain ⟨code, kind, ta, to, els⟩ := b
 simp only [Block.av] at cs
 simp only at h0 l1 l2 hR
 (simp (maxSteps := 1000000) [Jt9u, Block.av])
 refine Jt15 [] 5 (X := fun r : Nat × Nat => .tup [.mp r.1, .mp r.2]) (Y := fun r : Nat × Nat => .tup [.mp r.1, .mp r.2]) (C := fun r : Nat × Nat => [.dead, .dead, .dead, .glob r.1 (mpK us), .glob r.2 (mpK ds)]) (Hb := fun r : Nat × Nat => [.dead, .dead, .dead, .glob r.1 (mpK us), .glob r.2 (mpK ds)]) cs (by decide) (by rfl) (by rfl) (by rfl) (fun _ => rfl) (fun _ => rfl) (fun _ => rfl) fun r _ => ?_
 (simp (maxSteps := 1000000) [])
 refine Jt14 [4] (Jtc0 A SI r.1 us (by omega)) (by decide) (by rfl) (by rfl) (by rfl) (by rfl) (by rfl) (by rfl) ?_
 (simp (maxSteps := 1000000) [])
 (first | exact hR _ _ FrA | exact hR _ _ FnA)
theorem Jtbt {P : Program} {p : Nums} (A : All P p) (SI : SortIOk P p) (b : Block) (h0 : b.code.length ≤ 10000) : Jt4n P p.liveness_Defs [b.av] [] fun o _ => o = .ret (.d (intsD (sortI (scanZ b).2))) := by
 refine A.liveness_Defs.run rfl fun R hR => ?_
 have cs := Jtbz A b (by omega)
 obtain ⟨_, _, _, _, l1, l2⟩ := Jtg0 b
 obtain ⟨⟨us, ds⟩, hs⟩ : ∃ x, x = scanZ b := ⟨_, rfl⟩
 rw [← hs] at cs hR l1 l2
 obtain ⟨code, kind, ta, to, els⟩ := b
 simp only [Block.av] at cs
 simp only at h0 l1 l2 hR
 (simp (maxSteps := 1000000) [Jt9r, Block.av])
 refine Jt15 [] 5 (X := fun r : Nat × Nat => .tup [.mp r.1, .mp r.2]) (Y := fun r : Nat × Nat => .tup [.mp r.1, .mp r.2]) (C := fun r : Nat × Nat => [.dead, .dead, .dead, .glob r.1 (mpK us), .glob r.2 (mpK ds)]) (Hb := fun r : Nat × Nat => [.dead, .dead, .dead, .glob r.1 (mpK us), .glob r.2 (mpK ds)]) cs (by decide) (by rfl) (by rfl) (by rfl) (fun _ => rfl) (fun _ => rfl) (fun _ => rfl) fun r _ => ?_
 (simp (maxSteps := 1000000) [])
 refine Jt14 [5] (Jtc0 A SI r.2 ds (by omega)) (by decide) (by rfl) (by rfl) (by rfl) (by rfl) (by rfl) (by rfl) ?_
 (simp (maxSteps := 1000000) [])
 (first | exact hR _ _ FrA | exact hR _ _ FnA)
end
end Go.AE
set_option maxRecDepth 4000
namespace Go.AE
open Go
def ClB (k : Blk) : Prop := ∀ ρ, k.ren ρ = some k
theorem ClB.glob (r : Nat) (o : Obj) : ClB (.glob r o) := fun _ => rfl
theorem ClB.dead : ClB .dead := fun _ => rfl
theorem Jtf7 {l : List AV} (h : ∀ x ∈ l, ∀ ρ, x.ren ρ = some x) (ρ : Nat → Option Nat) : renL ρ l = some l := by
 induction l with
 | nil => rfl
 | cons x l ih => simp [renL, h x (by simp) ρ, ih fun y hy => h y (by simp [hy])]
theorem ClB.mem {l : List AV} (h : ∀ x ∈ l, ∀ ρ, x.ren ρ = some x) : ClB (.mem l) := fun ρ => by simp [Blk.ren, Jtf7 h ρ]
theorem ClB.mps (rs : List Nat) : ClB (.mem (rs.map .mp)) := ClB.mem fun x hx ρ => by obtain ⟨r, _, rfl⟩ := List.mem_map.1 hx; rfl
theorem Jtf0 {H : List Blk} (h : ∀ k ∈ H, ClB k) (ρ : Nat → Option Nat) : renB ρ H = some H := by
 induction H with
 | nil => rfl
 | cons x l ih => simp [renB, h x (by simp) ρ, ih fun y hy => h y (by simp [hy])]
theorem ClB.wk {H : List Blk} {n : Nat} {k : Blk} (h : ClB k) : WkB H n k k := by
 cases k with
 | mem cells =>
  refine .same ?_
  have := h (fun b => if b < n then some b else none)
  simp only [Blk.ren] at this
  split at this
  ·rename_i cs hcs; injection this with this; injection this with this; rw [hcs, this]
  ·cases this
 | iter s p => exact .iter _ _
 | glob r o => exact .glob _ _
 | dead => exact .dead _
theorem Jt58 {H : List Blk} {n : Nat} : ∀ {T : List Blk}, (∀ k ∈ T, ClB k) → ∀ {X Y : List Blk}, WkHs H n X Y → WkHs H n (T ++ X) (T ++ Y) := by
 intro T
 induction T with
 | nil => intro _ X Y h; exact h
 | cons x T ih => intro h X Y hx; exact ⟨(h x (by simp)).wk, ih (fun b hb => h b (by simp [hb])) hx⟩
theorem Jte0 (H : List Blk) : ∀ (k n : Nat), k + n = H.length → picks H ((List.range' k n)) = some (H.drop k) := by
 intro k n
 induction n generalizing k with
 | zero => intro h; simp [picks, show k = H.length by omega]
 | succ n ih =>
  intro h
  rw [List.range'_succ]
  simp only [picks]
  have hk : k < H.length := by omega
  rw [List.getElem?_eq_getElem hk, ih (k + 1) (by omega), List.drop_eq_getElem_cons hk]
theorem Jtag : ∀ (n k b : Nat), k ≤ b → b < k + n → idx (List.range' k n) b = some (b - k) := by
 intro n
 induction n with
 | zero => intro k b h1 h2; omega
 | succ n ih =>
  intro k b h1 h2
  rw [List.range'_succ]
  simp only [idx]
  by_cases h : k = b
  ·subst h; simp
  ·rw [if_neg h, ih (k + 1) b (by omega) (by omega)]; simp; omega
theorem Jti3 : ∀ (bs : List Nat) (H ks : List Blk), picks H bs = some ks → wback H bs ks = H := by
 intro bs
 induction bs with
 | nil => intro H ks h; simp [picks] at h; subst h; rfl
 | cons b bs ih =>
  intro H ks h
  simp only [picks] at h
  split at h
  ·rename_i k ks' hk hks
   injection h with h; subst h
   simp only [wback]
   have : H.set b k = H := by
    apply List.ext_getElem?
    intro j
    rw [List.getElem?_set]
    split
    ·rename_i hj; subst hj; rw [hk]; simp [(List.getElem?_eq_some_iff.1 hk).1]
    ·rfl
   rw [this]; exact ih H ks' hks
  ·cases h
theorem Jt12 {P : Program} {K : ASt → Prop} {QP : AV → ASt → Prop} {dst : Option Nat} {st : ASt} {ι : Type} {f : Nat} {args : List AV} {C : ι → List Blk} {X : ι → AV} {Pr : ι → Prop} (hcl : ∀ k ∈ st.H, ClB k)
  (ha : renL (idx (List.range' 0 st.H.length)) args = some args) (h : Jt4n P f args st.H fun o H' => ∃ i, Pr i ∧ o = .ret (X i) ∧ H' = st.H ++ C i) (hX : ∀ i ρ, (X i).ren ρ = some (X i)) (hC : ∀ i, ∀ k ∈ C i, ClB k)
  (hK : ∀ i, Pr i → K (put dst (X i) ⟨unview st.env, st.H ++ C i⟩)) : AWcall P false f args dst K QP st := by
 have hp := Jte0 st.H 0 st.H.length (by omega)
 rw [List.drop_zero] at hp
 refine .inr ⟨rfl, .inr ⟨List.range' 0 st.H.length, List.nodup_range' .., args, st.H, st.H, ha, hp, Jtf0 hcl _, h.mono ?_⟩⟩
 rintro o H' ⟨i, hi, rfl, rfl⟩
 have hl : (List.range' 0 st.H.length).length = st.H.length := by simp
 refine ⟨(C i).length, st.H ++ C i, X i, ?_, by rw [hl, List.length_append]; exact Nat.le_refl _, hX i _, ?_⟩
 ·rw [hl, ← List.length_append, List.take_length]
  exact Jtf0 (fun k hk => (List.mem_append.1 hk).elim (hcl k) (hC i k)) _
 ·have := hK i hi
  rw [hl, List.take_left, List.drop_left, Jti3 _ _ _ hp]; exact this
structure Maps (H : List Blk) (b : Nat) (rs : List Nat) (kss : List (List Int)) : Prop where
 cell : H[b]? = some (.mem (rs.map .mp))
 len : rs.length = kss.length
 map : ∀ (j r : Nat) (ks : List Int), rs[j]? = some r → kss[j]? = some ks → ∃ i : Nat, H[i]? = some (Blk.glob r (mpK ks))
 cl : ∀ k ∈ H, ClB k
theorem gN1 {H X : List Blk} {a b : Blk} : (H ++ a :: b :: X)[H.length + 1]? = some b := by rw [List.getElem?_append_right (by omega)]; simp
theorem gN2 {H X : List Blk} {a b c : Blk} : (H ++ a :: b :: c :: X)[H.length + 2]? = some c := by rw [List.getElem?_append_right (by omega)]; simp
theorem sN1 {H X : List Blk} {a b y : Blk} : (H ++ a :: b :: X).set (H.length + 1) y = H ++ a :: y :: X := by rw [List.set_append_right _ _ (by omega)]; simp
theorem sN2 {H X : List Blk} {a b c y : Blk} : (H ++ a :: b :: c :: X).set (H.length + 2) y = H ++ a :: b :: y :: X := by rw [List.set_append_right _ _ (by omega)]; simp
def Exits (kss : List (List Int)) (ts : List Int) (v : Int) : Prop := ∃ t ∈ ts, ∃ l, kss[t.toNat]? = some l ∧ v ∈ l
section
set_option maxHeartbeats 2000000 in
theorem Jtbx {P : Program} {p : Nums} (A : All P p) (b : Block) (H : List Blk) (b0 n : Nat) (rs : List Nat) (kss : List (List Int)) (hm : Maps H b0 rs kss) (hn : rs.length = n) (hs : ∀ t ∈ succsZ b.term, 0 ≤ t ∧ t < rs.length) :
  Jt4n P p.liveness_exit [.hsl b0 0 1 n, b.av] H fun o H' => ∃ x : Nat × List Int, (x.2.Nodup ∧ ∀ v, v ∈ x.2 ↔ Exits kss (succsZ b.term) v) ∧ o = .ret (.mp x.1) ∧ H' = H ++ [.dead, .glob x.1 (mpK x.2)] := by
 refine A.liveness_exit.run rfl fun R hR => ?_
 have hb0 : b0 < H.length := (List.getElem?_eq_some_iff.1 hm.cell).1
 have hcs := Jtgg A b.term
 have hl2 : (succsZ b.term).length ≤ 2 := by unfold succsZ; split; simp; split; simp; simp
 obtain ⟨ts, hts⟩ : ∃ x, x = succsZ b.term := ⟨_, rfl⟩
 rw [← hts] at hcs hs hl2 hR
 have gb : ∀ X : List Blk, (H ++ X)[b0]? = some (.mem (rs.map .mp)) := fun X => by rw [List.getElem?_append_left hb0]; exact hm.cell
 obtain ⟨code, kind, ta, to, els⟩ := b
 simp only [Term.av] at hcs
 (simp (maxSteps := 1000000) [Jt9v, Block.av])
 refine Jt2a fun r => ?_
 (simp (maxSteps := 1000000) [])
 (refine Jt13 hcs (by rfl) (by rfl) ?_)
 (simp (maxSteps := 1000000) [])
 obtain ⟨tR, htR⟩ : ∃ x, x = ts.map fun x => [I x] := ⟨_, rfl⟩
 have ltR : tR.length = ts.length := by rw [htR]; simp
 rw [← htR]
 have lH : ∀ {X : List Blk} {a c : Blk}, WkT X (H ++ [a, c]).length (.hsl b0 0 1 n) (.hsl b0 0 1 n) := fun {X a c} => Jti6 (by simp only [AV.ren, List.length_append, List.length_cons, List.length_nil]; rw [if_pos (by omega)])
 have lH3 : ∀ {X : List Blk} {a c d : Blk}, WkT X (H ++ [a, c, d]).length (.hsl b0 0 1 n) (.hsl b0 0 1 n) := fun {X a c d} => Jti6 (by simp only [AV.ren, List.length_append, List.length_cons, List.length_nil]; rw [if_pos (by omega)])
 have lP3 : ∀ {X : List Blk} {a c d : Blk}, WkT X (H ++ [a, c, d]).length (.ptr (H.length + 2) 0) (.ptr (H.length + 2) 0) := fun {X a c d} => Jti6 (by simp only [AV.ren, List.length_append, List.length_cons, List.length_nil]; rw [if_pos (by omega)])
 refine Jtd (fun z : Nat × List Int => ⟨[(14, AI z.1), (13, AI (ts.length : Int)), (12, .d (.sl tR)), (5, .mp r), (0, .hsl b0 0 1 n)], H ++ [.dead, .glob r (mpK z.2)]⟩)
  (fun z => z.1 ≤ ts.length ∧ z.2.Nodup ∧ ∀ v, v ∈ z.2 ↔ Exits kss (ts.take z.1) v) (fun z => ts.length - z.1) (0, []) ⟨by simp, by simp, fun v => by simp [Exits]⟩ ?_ ?_
 ·simp only [ltR]
  refine Wk.of ?_ (Jt58 hm.cl ⟨.dead _, .glob _ _, trivial⟩) (by simp) <;> repeat' (first | (first | exact True.intro | exact ⟨_, rfl, Jti6 rfl⟩ | exact ⟨_, rfl, Jti4 rfl⟩ | exact ⟨_, rfl, .inl .nild⟩ | exact ⟨_, rfl, .inl .nile⟩ | exact ⟨_, rfl, Jti5⟩ | exact Jti6 rfl | exact Jti4 rfl | exact .inl .nild | exact .inl .nile | exact Jti5 | exact WkB.same rfl | exact Jt53 | exact Jt52 | exact .dead _ | exact .iter _ _ | exact .glob _ _ | refine Jt51 ?_ ?_ | refine And.intro ?_ ?_) | exact ⟨_, rfl, lH⟩)
 rintro ⟨k, outs⟩ ⟨i1, i2, i3⟩ N hN
 simp only at i1 i2 i3 hN
 (simp (maxSteps := 1000000) [])
 by_cases h2 : k < ts.length
 ·have h2i : (k : Int) < (ts.length : Int) := by omega
  have hw := Jtic (k := k) (by omega)
  have hb : ts[k]? = some ts[k] := by simp [h2]
  obtain ⟨x, hx⟩ : ∃ i, i = ts[k] := ⟨_, rfl⟩
  rw [← hx] at hb
  have hr : tR[k]? = some [I x] := by rw [htR, List.getElem?_map, hb]; rfl
  obtain ⟨x0, x1⟩ := hs x (List.mem_of_getElem? hb)
  have hxn : x < (n : Int) := by omega
  obtain ⟨rt, hrt⟩ : ∃ y, rs[x.toNat]? = some y := ⟨_, List.getElem?_eq_getElem (by omega)⟩
  obtain ⟨kt, hkt⟩ : ∃ y, kss[x.toNat]? = some y := ⟨_, List.getElem?_eq_getElem (by have := hm.len; omega)⟩
  obtain ⟨it, hit⟩ := hm.map _ _ _ hrt hkt
  have hitl := (List.getElem?_eq_some_iff.1 hit).1
  have gi : ∀ X : List Blk, (H ++ X)[it]? = some (.glob rt (mpK kt)) := fun X => by rw [List.getElem?_append_left hitl]; exact hit
  (simp (maxSteps := 1000000) [h2, hr, gb, x0, hxn, List.getElem?_map, hrt])
  refine Jt2n (b := it) (by rfl) (gi _) fun r' => ?_
  (simp (maxSteps := 1000000) [])
  refine Jtd (fun z : List Nat × List Int × List Int => ⟨[(22, .ptr (H.length + 2) 0), (14, AI k), (13, AI (ts.length : Int)), (12, .d (.sl tR)), (5, .mp r), (0, .hsl b0 0 1 n)], H ++ [.dead, .glob r (mpK z.2.2), .glob r' (itO rt kt.length z.1)]⟩)
   (fun z => Seen kt z.1 z.2.1 ∧ z.2.2.Nodup ∧ ∀ v, v ∈ z.2.2 ↔ v ∈ outs ∨ v ∈ z.2.1) (fun z => kt.length - z.1.length) ([], [], outs) ⟨Seen.nil _, i2, fun v => by simp⟩ ?_ ?_
  ·refine Wk.of ?_ (Jt58 hm.cl ⟨.dead _, .glob _ _, .glob _ _, trivial⟩) (by simp) <;> repeat' (first | (first | exact True.intro | exact ⟨_, rfl, Jti6 rfl⟩ | exact ⟨_, rfl, Jti4 rfl⟩ | exact ⟨_, rfl, .inl .nild⟩ | exact ⟨_, rfl, .inl .nile⟩ | exact ⟨_, rfl, Jti5⟩ | exact Jti6 rfl | exact Jti4 rfl | exact .inl .nild | exact .inl .nile | exact Jti5 | exact WkB.same rfl | exact Jt53 | exact Jt52 | exact .dead _ | exact .iter _ _ | exact .glob _ _ | refine Jt51 ?_ ?_ | refine And.intro ?_ ?_) | exact ⟨_, rfl, lH3⟩ | exact ⟨_, rfl, lP3⟩)
  rintro ⟨seen, cs, o2⟩ ⟨j1, j2, j3⟩ N2 hN2
  simp only at j1 j2 j3 hN2
  (simp (maxSteps := 1000000) [])
  refine Jt2j (b := it) (bi := H.length + 2) (by rfl) gN2 (gi _) (fun i kk hk hi => ?_) (fun hall => ?_)
  ·have hs' := j1.step hk hi
   have hlen := hs'.len
   simp only [sN2]
   (simp (maxSteps := 1000000) [])
   refine Jt26 (bi := H.length + 2) (b := it) (by rfl) gN2 (gi _) hk ?_
   (simp (maxSteps := 1000000) [])
   refine Jt2p (b := H.length + 1) (by rfl) (by rfl) (by rfl) gN1 ?_
   simp only [sN1]
   (simp (maxSteps := 1000000) [])
   refine hN2 _ (seen ++ [i], cs ++ [kk], madd o2 kk) ⟨hs', Jtcg j2, fun v => by
    show v ∈ madd o2 kk ↔ v ∈ outs ∨ v ∈ cs ++ [kk]
    rw [Jtcr, j3, List.mem_append, List.mem_singleton, or_assoc]⟩ ?_ (by simp only [List.length_append, List.length_singleton] at hlen ⊢; omega)
   refine Wk.of ?_ (Jt58 hm.cl ⟨.dead _, .glob _ _, .glob _ _, trivial⟩) (by simp) <;> repeat' (first | (first | exact True.intro | exact ⟨_, rfl, Jti6 rfl⟩ | exact ⟨_, rfl, Jti4 rfl⟩ | exact ⟨_, rfl, .inl .nild⟩ | exact ⟨_, rfl, .inl .nile⟩ | exact ⟨_, rfl, Jti5⟩ | exact Jti6 rfl | exact Jti4 rfl | exact .inl .nild | exact .inl .nile | exact Jti5 | exact WkB.same rfl | exact Jt53 | exact Jt52 | exact .dead _ | exact .iter _ _ | exact .glob _ _ | refine Jt51 ?_ ?_ | refine And.intro ?_ ?_) | exact ⟨_, rfl, lH3⟩ | exact ⟨_, rfl, lP3⟩)
  ·have hp := j1.done hall
   (simp (maxSteps := 1000000) [hw])
   refine hN _ (k + 1, o2) ⟨h2, j2, fun v => ?_⟩ ?_ (by simp only; omega)
   ·show v ∈ o2 ↔ Exits kss (ts.take (k + 1)) v
    rw [j3, i3, hp.mem_iff, List.take_add_one, hb]
    simp only [Exits, Option.toList_some, List.mem_append, List.mem_singleton]
    constructor
    ·rintro (⟨t, h1, l, h3, h4⟩ | h)
     ·exact ⟨t, .inl h1, l, h3, h4⟩
     ·exact ⟨x, .inr rfl, kt, hkt, h⟩
    ·rintro ⟨t, h1 | rfl, l, h3, h4⟩
     ·exact .inl ⟨t, h1, l, h3, h4⟩
     ·rw [hkt] at h3; injection h3 with h3; subst h3; exact .inr h4
   ·refine Wk.of ?_ (Jt58 hm.cl ⟨.dead _, .glob _ _, trivial⟩) (by simp) <;> repeat' (first | (first | exact True.intro | exact ⟨_, rfl, Jti6 rfl⟩ | exact ⟨_, rfl, Jti4 rfl⟩ | exact ⟨_, rfl, .inl .nild⟩ | exact ⟨_, rfl, .inl .nile⟩ | exact ⟨_, rfl, Jti5⟩ | exact Jti6 rfl | exact Jti4 rfl | exact .inl .nild | exact .inl .nile | exact Jti5 | exact WkB.same rfl | exact Jt53 | exact Jt52 | exact .dead _ | exact .iter _ _ | exact .glob _ _ | refine Jt51 ?_ ?_ | refine And.intro ?_ ?_) | exact ⟨_, rfl, lH⟩)
 ·have ek : k = ts.length := by omega
  subst ek
  (simp (maxSteps := 1000000) [])
  rw [List.take_length] at i3
  refine hR _ _ (Jt4r (.mp r) (.mp r) (H ++ [.dead, .glob r (mpK outs)]) (by rfl) ?_ ⟨(r, outs), ⟨i2, i3⟩, rfl, rfl⟩)
  exact Wk.of ⟨⟨_, rfl, Jti6 rfl⟩, trivial⟩ (Jt58 hm.cl ⟨.dead _, .glob _ _, trivial⟩) (by simp)
end
end Go.AE
set_option maxRecDepth 4000
namespace Go.AE
open Go
structure Qd where (ru rd : Nat) (ks ds : List Int)
def rowQ (q : Qd) : List Blk := [.dead, .dead, .dead, .dead, .glob q.ru (mpK q.ks), .glob q.rd (mpK q.ds)]
def TT : List Qd → List Blk
 | [] => []
 | q :: l => rowQ q ++ TT l
theorem TT_len : ∀ l : List Qd, (TT l).length = 6 * l.length := by
 intro l
 induction l with
 | nil => rfl
 | cons q l ih => simp only [TT, List.length_append, ih, rowQ, List.length_cons, List.length_nil]; omega
theorem TT_u : ∀ {l : List Qd} {j : Nat} {q : Qd}, l[j]? = some q → (TT l)[6 * j + 4]? = some (.glob q.ru (mpK q.ks)) := by
 intro l
 induction l with
 | nil => intro j q h; simp at h
 | cons q0 l ih =>
  intro j q h
  cases j with
  | zero => simp at h; subst h; rfl
  | succ j => exact ih (by simpa using h)
theorem TT_d : ∀ {l : List Qd} {j : Nat} {q : Qd}, l[j]? = some q → (TT l)[6 * j + 5]? = some (.glob q.rd (mpK q.ds)) := by
 intro l
 induction l with
 | nil => intro j q h; simp at h
 | cons q0 l ih =>
  intro j q h
  cases j with
  | zero => simp at h; subst h; rfl
  | succ j => exact ih (by simpa using h)
theorem TT_set : ∀ {l : List Qd} {j : Nat} {q : Qd} (ks' : List Int), l[j]? = some q → (TT l).set (6 * j + 4) (.glob q.ru (mpK ks')) = TT (l.set j { q with ks := ks' }) := by
 intro l
 induction l with
 | nil => intro j q ks' h; simp at h
 | cons q0 l ih =>
  intro j q ks' h
  cases j with
  | zero => simp at h; subst h; rfl
  | succ j =>
   have := ih ks' (j := j) (q := q) (by simpa using h)
   show rowQ q0 ++ (TT l).set (6 * j + 4) _ = rowQ q0 ++ TT (l.set j _)
   rw [this]
theorem TT_app : ∀ (l : List Qd) (q : Qd), TT (l ++ [q]) = TT l ++ rowQ q := by
 intro l
 induction l with
 | nil => intro q; simp [TT]
 | cons q0 l ih => intro q; show rowQ q0 ++ TT (l ++ [q]) = rowQ q0 ++ TT l ++ rowQ q; rw [ih, List.append_assoc]
theorem TT_cl : ∀ {l : List Qd}, ∀ k ∈ TT l, ClB k := by
 intro l
 induction l with
 | nil => intro k h; simp [TT] at h
 | cons q l ih =>
  intro k h
  rcases List.mem_append.1 h with h | h
  ·simp only [rowQ, List.mem_cons, List.not_mem_nil, or_false] at h
   rcases h with rfl | rfl | rfl | rfl | rfl | rfl
   ·exact .dead
   ·exact .dead
   ·exact .dead
   ·exact .dead
   ·exact .glob _ _
   ·exact .glob _ _
  ·exact ih k h
def cellsM (rs : List Nat) (n : Nat) : List AV := rs.map .mp ++ List.replicate (n - rs.length) .nilm
theorem Jt6u {rs : List Nat} {n : Nat} (h : rs.length ≤ n) : (cellsM rs n).length = n := by simp [cellsM]; omega
theorem Jt6w {rs : List Nat} {n k : Nat} (hk : rs.length = k) (h : k < n) (r : Nat) : (cellsM rs n).take k ++ AV.mp r :: (cellsM rs n).drop (k + 1) = cellsM (rs ++ [r]) n := by
 subst hk
 unfold cellsM
 have e : n - rs.length = (n - (rs ++ [r]).length) + 1 := by simp; omega
 rw [List.take_append_of_le_length (by simp), List.take_of_length_le (by simp), e, List.replicate_succ, List.drop_append]
 simp
theorem Jt6t {rs : List Nat} {n : Nat} (h : rs.length = n) : cellsM rs n = rs.map .mp := by simp [cellsM, h]
theorem Jt6v (n : Nat) : (List.replicate n [AV.nilm]).flatten = cellsM [] n := by
 simp [cellsM]
theorem Jt6s {rs : List Nat} {n : Nat} : ClB (.mem (cellsM rs n)) := ClB.mem fun x hx ρ => by
 rcases List.mem_append.1 hx with h | h
 ·obtain ⟨r, _, rfl⟩ := List.mem_map.1 h; rfl
 ·rw [List.eq_of_mem_replicate h]; rfl
def regsL (f : Func) : List Int := f.blocks.flatMap fun b => b.code.flatMap (fun i => [i.a, i.b]) ++ [b.term.a]
theorem Jthx {b : Block} {v : Int} {k : Nat} (h : usedC b v k = true) : ∃ i ∈ b.code, i.a = v ∨ i.b = v := by
 unfold usedC at h
 rw [List.any_eq_true] at h
 obtain ⟨j, _, h⟩ := h
 split at h
 ·rename_i i hi
  refine ⟨i, List.mem_of_getElem? hi, ?_⟩
  simp only [useI, Bool.and_eq_true, Bool.or_eq_true, beq_iff_eq] at h
  exact h.1.imp And.right And.right
 ·cases h
theorem LiveAt.regs {f : Func} {v : Int} {i : Nat} (h : LiveAt f v i) : v ∈ regsL f := by
 refine h.closed (S := fun _ => v ∈ regsL f) (fun i b hb hu => ?_) fun i b t _ _ h _ => h
 refine List.mem_flatMap.2 ⟨b, List.mem_of_getElem? hb, ?_⟩
 unfold usedZ at hu
 rw [Bool.or_eq_true] at hu
 rcases hu with hu | hu
 ·obtain ⟨i, hi, h⟩ := Jthx hu
  refine List.mem_append_left _ (List.mem_flatMap.2 ⟨i, hi, ?_⟩)
  rcases h with h | h <;> simp [h]
 ·simp only [Bool.and_eq_true, beq_iff_eq] at hu
  exact List.mem_append_right _ (by simp [hu.1.2])
structure SolJ (f : Func) (l : List Qd) : Prop where
 len : l.length = f.blocks.length
 at_ : ∀ j q b, l[j]? = some q → f.blocks[j]? = some b → q.ks.Nodup ∧ (∀ v ∈ q.ks, LiveAt f v j) ∧ (∀ v, usedZ b v = true → v ∈ q.ks) ∧ q.ds = (scanZ b).2
def sumQ (l : List Qd) : Nat := (l.map fun q => q.ks.length).sum
theorem sum_le {α : Type} (g : α → Nat) (c : Nat) : ∀ {l : List α}, (∀ x ∈ l, g x ≤ c) → (l.map g).sum ≤ l.length * c := by
 intro l
 induction l with
 | nil => intro _; simp
 | cons x l ih =>
  intro h
  have := ih fun y hy => h y (by simp [hy])
  have := h x (by simp)
  simp only [List.map_cons, List.sum_cons, List.length_cons, Nat.add_mul, Nat.one_mul]; omega
theorem SolJ.sum {f : Func} {l : List Qd} (h : SolJ f l) : sumQ l ≤ f.blocks.length * (regsL f).length := by
 rw [← h.len]
 refine sum_le _ _ fun q hq => ?_
 obtain ⟨j, hj⟩ := List.getElem?_of_mem hq
 have hjl := (List.getElem?_eq_some_iff.1 hj).1
 obtain ⟨b, hb⟩ : ∃ b, f.blocks[j]? = some b := ⟨_, List.getElem?_eq_getElem (by rw [← h.len]; exact hjl)⟩
 obtain ⟨h1, h2, _, _⟩ := h.at_ j q b hj hb
 exact h1.length_le_of_subset fun v hv => (h2 v hv).regs
theorem Jth4 {α : Type} (g : α → Nat) : ∀ {l : List α} {j : Nat} {x y : α}, l[j]? = some x → ((l.set j y).map g).sum + g x = (l.map g).sum + g y := by
 intro l
 induction l with
 | nil => intro j x y h; simp at h
 | cons z l ih =>
  intro j x y h
  cases j with
  | zero => simp at h; subst h; simp; omega
  | succ j =>
   have := ih (j := j) (x := x) (y := y) (by simpa using h)
   simp only [List.set_cons_succ, List.map_cons, List.sum_cons]; omega
def Jt4o (f : Func) (l : List Qd) (j : Nat) : Prop := ∀ b q, f.blocks[j]? = some b → l[j]? = some q → ∀ v, Exits (l.map fun q => q.ks) (succsZ b.term) v → v ∉ q.ds → v ∈ q.ks
theorem SolJ.done {f : Func} {l : List Qd} (h : SolJ f l) (hc : ∀ j, j < f.blocks.length → Jt4o f l j) {j : Nat} {q : Qd} (hq : l[j]? = some q) (v : Int) : v ∈ q.ks ↔ LiveAt f v j := by
 constructor
 ·intro hv
  have hjl := (List.getElem?_eq_some_iff.1 hq).1
  obtain ⟨b, hb⟩ : ∃ b, f.blocks[j]? = some b := ⟨_, List.getElem?_eq_getElem (by rw [← h.len]; exact hjl)⟩
  exact (h.at_ j q b hq hb).2.1 v hv
 ·intro hl
  have ex : ∀ i b, f.blocks[i]? = some b → ∃ q, l[i]? = some q := fun i b hb => ⟨_, List.getElem?_eq_getElem (by rw [h.len]; exact (List.getElem?_eq_some_iff.1 hb).1)⟩
  obtain ⟨q2, h2, h3⟩ := hl.closed (S := fun i => ∃ q, l[i]? = some q ∧ v ∈ q.ks) (fun i b hb hu => by
    obtain ⟨q, hq⟩ := ex i b hb
    exact ⟨q, hq, (h.at_ i q b hq hb).2.2.1 v hu⟩) (fun i b t hb ht hS hd => by
    obtain ⟨q, hq⟩ := ex i b hb
    obtain ⟨q2, h2, h3⟩ := hS
    refine ⟨q, hq, hc i (List.getElem?_eq_some_iff.1 hb).1 b q hb hq v ⟨t, ht, q2.ks, by rw [List.getElem?_map, h2]; rfl, h3⟩ ?_⟩
    rw [(h.at_ i q b hq hb).2.2.2, (Jtg0 b).1]; simp [hd])
  rw [hq] at h2; injection h2 with h2; subst h2; exact h3
end Go.AE
set_option maxRecDepth 8000
namespace Go.AE
open Go
theorem Jt56 {H X : List Blk} {n : Nat} {l : List Qd} : WkHs H n (TT l ++ X) (TT l) := by
 have := Jt58 (H := H) (n := n) (T := TT l) TT_cl (X := X) (Y := []) Jt5b
 rwa [List.append_nil] at this
theorem Jt55 {H : List Blk} {n : Nat} {l : List Qd} : WkHs H n (TT l) (TT l) := by
 have := Jt58 (H := H) (n := n) (T := TT l) TT_cl (X := []) (Y := []) trivial
 rwa [List.append_nil] at this
def ruL (l : List Qd) : List Nat := l.map fun q => q.ru
@[simp] theorem Jtfq (l : List Qd) : (ruL l).length = l.length := by simp [ruL]
theorem Jtfo (l : List Qd) (q : Qd) : ruL (l ++ [q]) = ruL l ++ [q.ru] := by simp [ruL]
theorem Jtfp {l : List Qd} {j : Nat} {q : Qd} (h : l[j]? = some q) : (ruL l)[j]? = some q.ru := by rw [ruL, List.getElem?_map, h]; rfl
theorem Jtfr {l : List Qd} {j : Nat} {q : Qd} (h : l[j]? = some q) (ks : List Int) : ruL (l.set j { q with ks := ks }) = ruL l := by
 apply List.ext_getElem?
 intro i
 rw [ruL, ruL, List.getElem?_map, List.getElem?_map, List.getElem?_set]
 split
 ·rename_i hi; subst hi
  rw [h]; simp [(List.getElem?_eq_some_iff.1 h).1]
 ·rfl
def rdL (l : List Qd) : List Nat := l.map fun q => q.rd
@[simp] theorem Jted (l : List Qd) : (rdL l).length = l.length := by simp [rdL]
theorem Jteb (l : List Qd) (q : Qd) : rdL (l ++ [q]) = rdL l ++ [q.rd] := by simp [rdL]
theorem Jtec {l : List Qd} {j : Nat} {q : Qd} (h : l[j]? = some q) : (rdL l)[j]? = some q.rd := by rw [rdL, List.getElem?_map, h]; rfl
theorem Jtee {l : List Qd} {j : Nat} {q : Qd} (h : l[j]? = some q) (ks : List Int) : rdL (l.set j { q with ks := ks }) = rdL l := by
 apply List.ext_getElem?
 intro i
 rw [rdL, rdL, List.getElem?_map, List.getElem?_map, List.getElem?_set]
 split
 ·rename_i hi; subst hi
  rw [h]; simp [(List.getElem?_eq_some_iff.1 h).1]
 ·rfl
section
variable {a b c : Blk} {l : List Qd} {n : Nat} {d o it : Blk} {X : List Blk}
theorem q_it (h : l.length = n) : (a :: b :: c :: (TT l ++ d :: o :: it :: X))[6 * n + 5]? = some it := by
 subst h
 show (TT l ++ d :: o :: it :: X)[6 * l.length + 2]? = some it
 rw [← TT_len l]; exact gN2
theorem q_o (h : l.length = n) : (a :: b :: c :: (TT l ++ d :: o :: X))[6 * n + 4]? = some o := by
 subst h
 show (TT l ++ d :: o :: X)[6 * l.length + 1]? = some o
 rw [← TT_len l]; exact gN1
theorem q_sit (h : l.length = n) (y : Blk) : (a :: b :: c :: (TT l ++ d :: o :: it :: X)).set (6 * n + 5) y = a :: b :: c :: (TT l ++ d :: o :: y :: X) := by
 subst h
 show a :: b :: c :: (TT l ++ d :: o :: it :: X).set (6 * l.length + 2) y = _
 rw [← TT_len l, sN2]
theorem q_u {j : Nat} {q : Qd} (h : l[j]? = some q) : (a :: b :: c :: (TT l ++ X))[6 * j + 7]? = some (.glob q.ru (mpK q.ks)) := by
 show (TT l ++ X)[6 * j + 4]? = _
 have := TT_u h
 rw [List.getElem?_append_left (List.getElem?_eq_some_iff.1 this).1]; exact this
theorem q_d {j : Nat} {q : Qd} (h : l[j]? = some q) : (a :: b :: c :: (TT l ++ X))[6 * j + 8]? = some (.glob q.rd (mpK q.ds)) := by
 show (TT l ++ X)[6 * j + 5]? = _
 have := TT_d h
 rw [List.getElem?_append_left (List.getElem?_eq_some_iff.1 this).1]; exact this
theorem q_su {j : Nat} {q : Qd} (h : l[j]? = some q) (ks : List Int) : (a :: b :: c :: (TT l ++ X)).set (6 * j + 7) (.glob q.ru (mpK ks)) = a :: b :: c :: (TT (l.set j { q with ks := ks }) ++ X) := by
 show a :: b :: c :: (TT l ++ X).set (6 * j + 4) _ = _
 rw [List.set_append_left _ _ (List.getElem?_eq_some_iff.1 (TT_u h)).1, TT_set ks h]
end
theorem SolJ.set {f : Func} {l : List Qd} (h : SolJ f l) {j : Nat} {q : Qd} {b : Block} (hq : l[j]? = some q) (hb : f.blocks[j]? = some b) {ks : List Int} (hnd : ks.Nodup) (hsub : ∀ v ∈ q.ks, v ∈ ks)
  (hnew : ∀ v ∈ ks, v ∈ q.ks ∨ (Exits (l.map fun q => q.ks) (succsZ b.term) v ∧ v ∉ q.ds)) : SolJ f (l.set j { q with ks := ks }) := by
 refine ⟨by rw [List.length_set]; exact h.len, fun i q' b' hi hb' => ?_⟩
 by_cases hij : j = i
 ·subst hij
  rw [List.getElem?_set_self (List.getElem?_eq_some_iff.1 hq).1] at hi
  injection hi with hi; subst hi
  rw [hb] at hb'; injection hb' with hb'; subst hb'
  obtain ⟨k1, k2, k3, k4⟩ := h.at_ j q b hq hb
  refine ⟨hnd, fun v hv => ?_, fun v hv => hsub v (k3 v hv), k4⟩
  rcases hnew v hv with h1 | ⟨⟨t, ht, lt, h2, h3⟩, h4⟩
  ·exact k2 v h1
  ·rw [List.getElem?_map, Option.map_eq_some_iff] at h2
   obtain ⟨q2, h5, rfl⟩ := h2
   have htl := (List.getElem?_eq_some_iff.1 h5).1
   obtain ⟨b2, hb2⟩ : ∃ b2, f.blocks[t.toNat]? = some b2 := ⟨_, List.getElem?_eq_getElem (by rw [← h.len]; exact htl)⟩
   refine .next j b t hb ht ((h.at_ _ q2 b2 h5 hb2).2.1 v h3) ?_
   have := (Jtg0 b).1 v
   rw [k4] at h4
   simpa using fun h6 => h4 (this.2 h6)
 ·rw [List.getElem?_set_ne hij] at hi
  exact h.at_ i q' b' hi hb'
section
set_option maxHeartbeats 4000000 in
theorem Jtc1 {P : Program} {p : Nums} (A : All P p) (f : Func) (ok : OkL f) : Jt4n P p.liveness_solve [f.av] [] fun o H' => ∃ l : List Qd, (SolJ f l ∧ ∀ j, j < f.blocks.length → Jt4o f l j) ∧ o = .ret (.hsl 1 0 1 f.blocks.length) ∧ H' = [.dead, .mem ((ruL l).map .mp), .dead] ++ TT l := by
 refine A.liveness_solve.run rfl fun R hR => ?_
 have hbl := ok.bl
 obtain ⟨fR, hfR⟩ : ∃ x, x = f.blocks.map Block.row := ⟨_, rfl⟩
 have lR : fR.length = f.blocks.length := by rw [hfR]; simp
 have gR : ∀ (j : Nat) (b : Block), f.blocks[j]? = some b → fR[j]? = some b.row := fun j b h => by rw [hfR, List.getElem?_map, h]; rfl
 obtain ⟨n, hn⟩ : ∃ n, n = f.blocks.length := ⟨_, rfl⟩
 rw [← hn] at lR hbl hR
 have av : f.av = .agg [AI f.args, AI f.regs, .d (.sl fR)] := by rw [hfR]; rfl
 rw [av]
 (simp (maxSteps := 1000000) [Jt9z, lR])
 refine Jt2e (n := n) (by rfl) (by rfl) (by omega) (by omega) (by decide) (by rfl) (by rfl) (by rfl) ?_
 rw [Jt6v]
 (simp (maxSteps := 1000000) [lR])
 refine Jt2e (n := n) (by rfl) (by rfl) (by omega) (by omega) (by decide) (by rfl) (by rfl) (by rfl) ?_
 rw [Jt6v]
 (simp (maxSteps := 1000000) [lR])
 refine Jtd (fun l : List Qd => ⟨[(21, AI (l.length : Int)), (20, AI (n : Int)), (19, .d (.sl fR)), (4, .hsl 2 0 1 n), (3, .hsl 1 0 1 n), (1, .ptr 0 0)],
  .mem [AI f.args, AI f.regs, .d (.sl fR)] :: .mem (cellsM (ruL l) n) :: .mem (cellsM (rdL l) n) :: TT l⟩)
  (fun l => l.length ≤ n ∧ ∀ (j : Nat) (q : Qd) (b : Block), l[j]? = some q → f.blocks[j]? = some b → q.ks = (scanZ b).1 ∧ q.ds = (scanZ b).2) (fun l => n - l.length) [] ⟨by simp, fun j q b h => by simp at h⟩ ?_ ?_
 ·refine Wk.of ?_ ?_ (by simp) <;> repeat' (first | exact Jt6s.wk | (first | exact True.intro | exact ⟨_, rfl, Jti6 rfl⟩ | exact ⟨_, rfl, Jti4 rfl⟩ | exact ⟨_, rfl, .inl .nild⟩ | exact ⟨_, rfl, .inl .nile⟩ | exact ⟨_, rfl, Jti5⟩ | exact Jti6 rfl | exact Jti4 rfl | exact .inl .nild | exact .inl .nile | exact Jti5 | exact WkB.same rfl | exact Jt53 | exact Jt52 | exact .dead _ | exact .iter _ _ | exact .glob _ _ | refine Jt51 ?_ ?_ | refine And.intro ?_ ?_))
 rintro l ⟨i1, i2⟩ N hN
 (simp (maxSteps := 1000000) [])
 by_cases h2 : l.length < n
 ·have h2i : (l.length : Int) < (n : Int) := by omega
  obtain ⟨b, hb⟩ : ∃ b, f.blocks[l.length]? = some b := ⟨_, List.getElem?_eq_getElem (by omega)⟩
  have hr := gR _ _ hb
  have hcl := ok.cl b (List.mem_of_getElem? hb)
  have hsc := Jtbz A b (by omega)
  obtain ⟨⟨us, ds⟩, hus⟩ : ∃ x, x = scanZ b := ⟨_, rfl⟩
  rw [← hus] at hsc
  obtain ⟨code, kind, ta, to, els⟩ := b
  simp only [Block.av, Block.row] at hr hsc
  have c1 := Jt6u (rs := ruL l) (n := n) (by simp; omega)
  have c2 := Jt6u (rs := rdL l) (n := n) (by simp; omega)
  have s1 := fun r => Jt6w (rs := ruL l) (n := n) (k := l.length) (by simp) h2 r
  have s2 := fun r => Jt6w (rs := rdL l) (n := n) (k := l.length) (by simp) h2 r
  have hw := Jtic (k := l.length) (by omega)
  obtain ⟨C1, hC1⟩ : ∃ x, x = cellsM (ruL l) n := ⟨_, rfl⟩
  obtain ⟨C2, hC2⟩ : ∃ x, x = cellsM (rdL l) n := ⟨_, rfl⟩
  rw [← hC1] at c1 s1 ⊢
  rw [← hC2] at c2 s2 ⊢
  have h2s : l.length + 1 ≤ n := h2
  (simp (maxSteps := 1000000) [h2, h2i, hr])
  refine Jt15 [] 5 (X := fun r : Nat × Nat => .tup [.mp r.1, .mp r.2]) (Y := fun r : Nat × Nat => .tup [.mp r.1, .mp r.2]) (C := fun r : Nat × Nat => [.dead, .dead, .dead, .glob r.1 (mpK us), .glob r.2 (mpK ds)]) (Hb := fun r : Nat × Nat => [.dead, .dead, .dead, .glob r.1 (mpK us), .glob r.2 (mpK ds)]) hsc (by decide) (by rfl) (by rfl) (by rfl) (fun _ => rfl) (fun _ => rfl) (fun _ => rfl) fun r _ => ?_
  (simp (maxSteps := 1000000) [wback, h2, c1, c2, h2s])
  (simp (maxSteps := 1000000) [hw])
  rw [s1, s2]
  refine hN _ (l ++ [⟨r.1, r.2, us, ds⟩]) ⟨by simp; omega, fun j q b hj hb' => ?_⟩ ?_ (by simp; omega)
  ·by_cases hjl : j < l.length
   ·rw [List.getElem?_append_left hjl] at hj
    exact i2 j q b hj hb'
   ·have hjj : j = l.length := by
     have := (List.getElem?_eq_some_iff.1 hj).1
     simp at this; omega
    subst hjj
    rw [hb] at hb'; injection hb' with hb'; subst hb'
    simp at hj; subst hj
    rw [← hus]; exact ⟨rfl, rfl⟩
  ·simp only [Jtfo, Jteb, TT_app, rowQ, List.length_append, List.length_singleton]
   refine Wk.of ?_ ?_ (by simp) <;> repeat' (first | exact Jt6s.wk | exact Jt58 TT_cl ⟨.dead _, .dead _, .dead _, .dead _, .glob _ _, .glob _ _, trivial⟩ | (first | exact True.intro | exact ⟨_, rfl, Jti6 rfl⟩ | exact ⟨_, rfl, Jti4 rfl⟩ | exact ⟨_, rfl, .inl .nild⟩ | exact ⟨_, rfl, .inl .nile⟩ | exact ⟨_, rfl, Jti5⟩ | exact Jti6 rfl | exact Jti4 rfl | exact .inl .nild | exact .inl .nile | exact Jti5 | exact WkB.same rfl | exact Jt53 | exact Jt52 | exact .dead _ | exact .iter _ _ | exact .glob _ _ | refine Jt51 ?_ ?_ | refine And.intro ?_ ?_))
 ·have el : l.length = n := by omega
  have e1 : cellsM (ruL l) n = (ruL l).map .mp := Jt6t (by rw [Jtfq]; exact el)
  have e2 : cellsM (rdL l) n = (rdL l).map .mp := Jt6t (by rw [Jted]; exact el)
  rw [e1, e2]
  (simp (maxSteps := 1000000) [h2, el])
  have hJ : SolJ f l := ⟨by omega, fun j q b hj hb => by
   obtain ⟨k1, k2⟩ := i2 j q b hj hb
   obtain ⟨z1, z2, z3, z4, _, _⟩ := Jtg0 b
   rw [k1]
   exact ⟨z3, fun v hv => .use j b hb ((z2 v).1 hv), fun v hv => (z2 v).2 hv, k2⟩⟩
  refine Jtd (fun l : List Qd => ⟨[(4, .hsl 2 0 1 n), (3, .hsl 1 0 1 n), (1, .ptr 0 0)], .mem [AI f.args, AI f.regs, .d (.sl fR)] :: .mem ((ruL l).map .mp) :: .mem ((rdL l).map .mp) :: TT l⟩)
   (fun l => SolJ f l) (fun l => n * (regsL f).length - sumQ l) l hJ ?_ ?_
  ·refine Wk.of ?_ ?_ (by simp) <;> repeat' (first | exact (ClB.mps _).wk | exact Jt55 | (first | exact True.intro | exact ⟨_, rfl, Jti6 rfl⟩ | exact ⟨_, rfl, Jti4 rfl⟩ | exact ⟨_, rfl, .inl .nild⟩ | exact ⟨_, rfl, .inl .nile⟩ | exact ⟨_, rfl, Jti5⟩ | exact Jti6 rfl | exact Jti4 rfl | exact .inl .nild | exact .inl .nile | exact Jti5 | exact WkB.same rfl | exact Jt53 | exact Jt52 | exact .dead _ | exact .iter _ _ | exact .glob _ _ | refine Jt51 ?_ ?_ | refine And.intro ?_ ?_))
  clear N hN hJ e1 e2 i1 i2 h2 el
  intro l hJ N hN
  have el : l.length = n := by rw [hn]; exact hJ.len
  have hw1 : IntKind.i64.wrap ((n : Int) - 1) = (n : Int) - 1 := wrap_i64 (by omega) (by omega)
  (simp (maxSteps := 1000000) [lR, hw1])
  refine Jtd (fun m : Nat => ⟨[(7, AI ((m : Int) - 1)), (4, .hsl 2 0 1 n), (3, .hsl 1 0 1 n), (1, .ptr 0 0)], .mem [AI f.args, AI f.regs, .d (.sl fR)] :: .mem ((ruL l).map .mp) :: .mem ((rdL l).map .mp) :: TT l⟩)
   (fun m => m ≤ n ∧ ∀ j, m ≤ j → j < n → Jt4o f l j) (fun m => m) n ⟨Nat.le_refl _, fun j h1 h2 => by omega⟩ ?_ ?_
  ·refine Wk.of ?_ ?_ (by simp) <;> repeat' (first | exact (ClB.mps _).wk | exact Jt55 | (first | exact True.intro | exact ⟨_, rfl, Jti6 rfl⟩ | exact ⟨_, rfl, Jti4 rfl⟩ | exact ⟨_, rfl, .inl .nild⟩ | exact ⟨_, rfl, .inl .nile⟩ | exact ⟨_, rfl, Jti5⟩ | exact Jti6 rfl | exact Jti4 rfl | exact .inl .nild | exact .inl .nile | exact Jti5 | exact WkB.same rfl | exact Jt53 | exact Jt52 | exact .dead _ | exact .iter _ _ | exact .glob _ _ | refine Jt51 ?_ ?_ | refine And.intro ?_ ?_))
  rintro m ⟨m1, m2⟩ M hM
  cases m with
  | zero =>
   have e0 : ((0 : Nat) : Int) - 1 = -1 := rfl
   simp only [e0]
   (simp (maxSteps := 1000000) [])
   refine hR _ _ (Jt4r (.hsl 1 0 1 n) (.hsl 1 0 1 n) ([.dead, .mem ((ruL l).map .mp), .dead] ++ TT l) (by rfl) ?_ ⟨l, ⟨hJ, fun j hj => m2 j (Nat.zero_le _) hj⟩, rfl, rfl⟩)
   refine Wk.of ⟨⟨_, rfl, Jti6 (by simp [AV.ren])⟩, trivial⟩ ⟨.dead _, (ClB.mps _).wk, .dead _, Jt55⟩ (by simp)
  | succ j =>
   have e0 : ((j + 1 : Nat) : Int) - 1 = (j : Int) := by omega
   have hwj : IntKind.i64.wrap ((j : Int) - 1) = (j : Int) - 1 := wrap_i64 (by omega) (by omega)
   simp only [e0]
   have hjn : j < n := by omega
   obtain ⟨b, hb⟩ : ∃ b, f.blocks[j]? = some b := ⟨_, List.getElem?_eq_getElem (by omega)⟩
   obtain ⟨q, hq⟩ : ∃ q, l[j]? = some q := ⟨_, List.getElem?_eq_getElem (by omega)⟩
   obtain ⟨p1, p2, p3, p4⟩ := hJ.at_ j q b hq hb
   have hr := gR _ _ hb
   have gu := Jtfp hq
   have gd := Jtec hq
   have hTl : (TT l).length = 6 * n := by rw [TT_len, el]
   have hsucc := fun t ht => ok.succ b (List.mem_of_getElem? hb) t ht
   have hex := Jtbx A b (.mem [AI f.args, AI f.regs, .d (.sl fR)] :: .mem ((ruL l).map .mp) :: .mem ((rdL l).map .mp) :: TT l) 1 n (ruL l) (l.map fun q => q.ks) ⟨rfl, by simp, fun i r ks h1 h2 => by
     rw [List.getElem?_map, Option.map_eq_some_iff] at h2
     obtain ⟨q2, h3, rfl⟩ := h2
     rw [Jtfp h3] at h1; injection h1 with h1; subst h1
     exact ⟨6 * i + 7, TT_u h3⟩, fun k hk => by
     simp only [List.mem_cons] at hk
     rcases hk with rfl | rfl | rfl | hk
     ·exact ClB.mem fun x hx ρ => by simp only [List.mem_cons, List.not_mem_nil, or_false] at hx; rcases hx with rfl | rfl | rfl <;> rfl
     ·exact .mps _
     ·exact .mps _
     ·exact TT_cl k hk⟩ (by simp [el]) (fun t ht => by have := hsucc t ht; rw [Jtfq, el, hn]; exact this)
   obtain ⟨code, kind, ta, to, els⟩ := b
   simp only [Block.row] at hr
   simp only [Block.av] at hex
   (simp (maxSteps := 1000000) [hjn, gu])
   refine Jt2g (b := 6 * j + 7) (by rfl) (TT_u hq) ?_
   (simp (maxSteps := 1000000) [hr])
   refine Jt12 (C := fun x : Nat × List Int => [.dead, .glob x.1 (mpK x.2)]) (X := fun x : Nat × List Int => .mp x.1) ?_ ?_ hex (fun _ _ => rfl) (fun x k hk => ?_) fun x hx => ?_
   ·intro k hk
    simp only [List.mem_cons] at hk
    rcases hk with rfl | rfl | rfl | hk
    ·exact ClB.mem fun x hx ρ => by simp only [List.mem_cons, List.not_mem_nil, or_false] at hx; rcases hx with rfl | rfl | rfl <;> rfl
    ·exact .mps _
    ·exact .mps _
    ·exact TT_cl k hk
   ·simp only [renL, AV.ren, List.length_cons]
    rw [Jtag _ 0 1 (by omega) (by omega)]
   ·simp only [List.mem_cons, List.not_mem_nil, or_false] at hk
    rcases hk with rfl | rfl
    ·exact .dead
    ·exact .glob _ _
   obtain ⟨x1, x2⟩ := hx
   (simp (maxSteps := 1000000) [])
   refine Jt2n (b := 6 * n + 4) (by rfl) (q_o el) fun r' => ?_
   (simp (maxSteps := 1000000) [hTl])
   have lP : ∀ {A B C D E F : Blk} {T Y : List Blk}, T.length = 6 * n → WkT Y (A :: B :: C :: (T ++ [D, E, F])).length (.ptr (6 * n + 5) 0) (.ptr (6 * n + 5) 0) := fun {A B C D E F T Y} hT => Jti6 (by
    simp only [AV.ren, List.length_cons, List.length_append, List.length_nil]
    rw [if_pos (by omega)])
   have lT : ∀ ks, (TT (l.set j { q with ks := ks })).length = 6 * n := fun ks => by rw [TT_len, List.length_set, el]
   have eset : l.set j { q with ks := q.ks } = l := by
    apply List.ext_getElem?
    intro i
    rw [List.getElem?_set]
    split
    ·rename_i hi; subst hi; rw [hq]; simp [(List.getElem?_eq_some_iff.1 hq).1]
    ·rfl
   refine Jtd (fun z : List Nat × List Int × List Int => ⟨[(58, .ptr (6 * n + 5) 0), (8, AI (q.ks.length : Int)), (7, AI j), (4, .hsl 2 0 1 n), (3, .hsl 1 0 1 n), (1, .ptr 0 0)], .mem [AI f.args, AI f.regs, .d (.sl fR)] :: .mem ((ruL l).map .mp) :: .mem ((rdL l).map .mp) :: (TT (l.set j { q with ks := z.2.2 }) ++ [.dead, .glob x.1 (mpK x.2), .glob r' (itO x.1 x.2.length z.1)])⟩)
    (fun z => Seen x.2 z.1 z.2.1 ∧ z.2.2.Nodup ∧ (∃ e, z.2.2 = q.ks ++ e) ∧ ∀ v, v ∈ z.2.2 ↔ v ∈ q.ks ∨ (v ∈ z.2.1 ∧ v ∉ q.ds)) (fun z => x.2.length - z.1.length) ([], [], q.ks) ⟨Seen.nil _, p1, ⟨[], by simp⟩, fun v => by simp⟩ ?_ ?_
   ·simp only [eset]
    refine Wk.of ?_ ?_ (by simp) <;> repeat' (first | exact (ClB.mps _).wk | exact Jt58 TT_cl ⟨.dead _, .glob _ _, .glob _ _, trivial⟩ | (first | exact True.intro | exact ⟨_, rfl, Jti6 rfl⟩ | exact ⟨_, rfl, Jti4 rfl⟩ | exact ⟨_, rfl, .inl .nild⟩ | exact ⟨_, rfl, .inl .nile⟩ | exact ⟨_, rfl, Jti5⟩ | exact Jti6 rfl | exact Jti4 rfl | exact .inl .nild | exact .inl .nile | exact Jti5 | exact WkB.same rfl | exact Jt53 | exact Jt52 | exact .dead _ | exact .iter _ _ | exact .glob _ _ | refine Jt51 ?_ ?_ | refine And.intro ?_ ?_) | exact ⟨_, rfl, lP hTl⟩)
   rintro ⟨seen, cs, kz⟩ ⟨s1, s2, s3, s4⟩ N3 hN3
   simp only at s1 s2 s3 s4 hN3
   have hl' : (l.set j { q with ks := kz }).length = n := by rw [List.length_set]; exact el
   have hq' : (l.set j { q with ks := kz })[j]? = some { q with ks := kz } := List.getElem?_set_self (by omega)
   (simp (maxSteps := 1000000) [])
   refine Jt2j (b := 6 * n + 4) (bi := 6 * n + 5) (by rfl) (q_it hl') (q_o hl') (fun i v hk hi => ?_) (fun hall => ?_)
   ·have hs' := s1.step hk hi
    have hlen := hs'.len
    rw [q_sit hl']
    (simp (maxSteps := 1000000) [])
    refine Jt26 (b := 6 * n + 4) (bi := 6 * n + 5) (by rfl) (q_it hl') (q_o hl') hk ?_
    (simp (maxSteps := 1000000) [hjn, gd])
    refine Jt28 (b := 6 * j + 8) (by rfl) (by rfl) (q_d hq') ?_
    by_cases hv : v ∈ q.ds
    ·(simp (maxSteps := 1000000) [hv])
     refine hN3 _ (seen ++ [i], cs ++ [v], kz) ⟨hs', s2, s3, fun w => ?_⟩ ?_ (by simp only [List.length_append, List.length_singleton] at hlen ⊢; omega)
     ·show w ∈ kz ↔ w ∈ q.ks ∨ (w ∈ cs ++ [v] ∧ w ∉ q.ds)
      rw [s4, List.mem_append, List.mem_singleton]
      constructor
      ·rintro (h | ⟨h, h'⟩)
       ·exact .inl h
       ·exact .inr ⟨.inl h, h'⟩
      ·rintro (h | ⟨h | rfl, h'⟩)
       ·exact .inl h
       ·exact .inr ⟨h, h'⟩
       ·exact absurd hv h'
     ·refine Wk.of ?_ ?_ (by simp) <;> repeat' (first | exact (ClB.mps _).wk | exact Jt58 TT_cl ⟨.dead _, .glob _ _, .glob _ _, trivial⟩ | (first | exact True.intro | exact ⟨_, rfl, Jti6 rfl⟩ | exact ⟨_, rfl, Jti4 rfl⟩ | exact ⟨_, rfl, .inl .nild⟩ | exact ⟨_, rfl, .inl .nile⟩ | exact ⟨_, rfl, Jti5⟩ | exact Jti6 rfl | exact Jti4 rfl | exact .inl .nild | exact .inl .nile | exact Jti5 | exact WkB.same rfl | exact Jt53 | exact Jt52 | exact .dead _ | exact .iter _ _ | exact .glob _ _ | refine Jt51 ?_ ?_ | refine And.intro ?_ ?_) | exact ⟨_, rfl, lP (lT _)⟩)
    ·(simp (maxSteps := 1000000) [hv, hjn, gu])
     refine Jt2p (b := 6 * j + 7) (by rfl) (by rfl) (by rfl) (q_u hq') ?_
     rw [q_su hq']
     simp only [List.set_set]
     (simp (maxSteps := 1000000) [])
     obtain ⟨e, he⟩ := s3
     refine hN3 _ (seen ++ [i], cs ++ [v], madd kz v) ⟨hs', Jtcg s2, ?_, fun w => ?_⟩ ?_ (by simp only [List.length_append, List.length_singleton] at hlen ⊢; omega)
     ·show ∃ e, madd kz v = q.ks ++ e
      unfold madd
      split
      ·exact ⟨e, he⟩
      ·exact ⟨e ++ [v], by rw [he, List.append_assoc]⟩
     ·show w ∈ madd kz v ↔ w ∈ q.ks ∨ (w ∈ cs ++ [v] ∧ w ∉ q.ds)
      rw [Jtcr, s4, List.mem_append, List.mem_singleton]
      constructor
      ·rintro ((h | ⟨h, h'⟩) | rfl)
       ·exact .inl h
       ·exact .inr ⟨.inl h, h'⟩
       ·exact .inr ⟨.inr rfl, hv⟩
      ·rintro (h | ⟨h | rfl, h'⟩)
       ·exact .inl (.inl h)
       ·exact .inl (.inr ⟨h, h'⟩)
       ·exact .inr rfl
     ·refine Wk.of ?_ ?_ (by simp) <;> repeat' (first | exact (ClB.mps _).wk | exact Jt58 TT_cl ⟨.dead _, .glob _ _, .glob _ _, trivial⟩ | (first | exact True.intro | exact ⟨_, rfl, Jti6 rfl⟩ | exact ⟨_, rfl, Jti4 rfl⟩ | exact ⟨_, rfl, .inl .nild⟩ | exact ⟨_, rfl, .inl .nile⟩ | exact ⟨_, rfl, Jti5⟩ | exact Jti6 rfl | exact Jti4 rfl | exact .inl .nild | exact .inl .nile | exact Jti5 | exact WkB.same rfl | exact Jt53 | exact Jt52 | exact .dead _ | exact .iter _ _ | exact .glob _ _ | refine Jt51 ?_ ?_ | refine And.intro ?_ ?_) | exact ⟨_, rfl, lP (lT _)⟩)
   ·have hp := s1.done hall
    (simp (maxSteps := 1000000) [hjn, gu])
    refine Jt2g (b := 6 * j + 7) (by rfl) (q_u hq') ?_
    (simp (maxSteps := 1000000) [])
    by_cases hgt : q.ks.length < kz.length
    ·have hgi : (q.ks.length : Int) < (kz.length : Int) := by omega
     (simp (maxSteps := 1000000) [hgt, hgi])
     have hJ' := hJ.set hq hb s2 (fun v hv => (s4 v).2 (.inl hv)) (fun v hv => ((s4 v).1 hv).imp id fun h => ⟨(x2 v).1 (hp.mem_iff.1 h.1), h.2⟩)
     have hsum := hJ'.sum
     have hse := Jth4 (fun q : Qd => q.ks.length) (y := { q with ks := kz }) hq
     refine hN _ (l.set j { q with ks := kz }) hJ' ?_ (by unfold sumQ at hsum ⊢; rw [← hn] at hsum; simp only at hse; omega)
     rw [Jtfr hq, Jtee hq]
     refine Wk.of ?_ ?_ (by simp) <;> repeat' (first | exact (ClB.mps _).wk | exact Jt56 | (first | exact True.intro | exact ⟨_, rfl, Jti6 rfl⟩ | exact ⟨_, rfl, Jti4 rfl⟩ | exact ⟨_, rfl, .inl .nild⟩ | exact ⟨_, rfl, .inl .nile⟩ | exact ⟨_, rfl, Jti5⟩ | exact Jti6 rfl | exact Jti4 rfl | exact .inl .nild | exact .inl .nile | exact Jti5 | exact WkB.same rfl | exact Jt53 | exact Jt52 | exact .dead _ | exact .iter _ _ | exact .glob _ _ | refine Jt51 ?_ ?_ | refine And.intro ?_ ?_))
    ·have hgi : ¬ (q.ks.length : Int) < (kz.length : Int) := by omega
     obtain ⟨e, he⟩ := s3
     have hke : kz = q.ks := by
      rw [he, List.length_append] at hgt
      have : e = [] := List.eq_nil_of_length_eq_zero (by omega)
      rw [he, this, List.append_nil]
     subst hke
     rw [eset]
     (simp (maxSteps := 1000000) [hgt, hgi, hwj])
     refine hM _ j ⟨by omega, fun i hi hin => ?_⟩ ?_ (by omega)
     ·by_cases hij : i = j
      ·subst hij
       intro b' q' hb' hq2 v hE hd
       rw [hb] at hb'; injection hb' with hb'; subst hb'
       rw [hq] at hq2; injection hq2 with hq2; subst hq2
       exact (s4 v).2 (.inr ⟨hp.mem_iff.2 ((x2 v).2 hE), hd⟩)
      ·exact m2 i (by omega) hin
     ·refine Wk.of ?_ ?_ (by simp) <;> repeat' (first | exact (ClB.mps _).wk | exact Jt56 | (first | exact True.intro | exact ⟨_, rfl, Jti6 rfl⟩ | exact ⟨_, rfl, Jti4 rfl⟩ | exact ⟨_, rfl, .inl .nild⟩ | exact ⟨_, rfl, .inl .nile⟩ | exact ⟨_, rfl, Jti5⟩ | exact Jti6 rfl | exact Jti4 rfl | exact .inl .nild | exact .inl .nile | exact Jti5 | exact WkB.same rfl | exact Jt53 | exact Jt52 | exact .dead _ | exact .iter _ _ | exact .glob _ _ | refine Jt51 ?_ ?_ | refine And.intro ?_ ?_))
end
end Go.AE
set_option maxRecDepth 8000
namespace Go.AE
open Go
theorem Jt18 {P : Program} {K : ASt → Prop} {QP : AV → ASt → Prop} {dst : Option Nat} {st : ASt} {ι : Type} {f : Nat} {args cargs : List AV} {C : ι → List Blk} {X Y : ι → AV} {Pr : ι → Prop}
  (h : Jt4n P f cargs [] fun o H' => ∃ i, Pr i ∧ o = .ret (X i) ∧ H' = C i) (ha : renL (idx []) args = some cargs) (hC : ∀ i, ∀ k ∈ C i, ClB k) (hx : ∀ i, (X i).ren (back [] st.H.length (C i).length) = some (Y i))
  (hK : ∀ i, Pr i → K (put dst (Y i) ⟨unview st.env, st.H ++ C i⟩)) : AWcall P false f args dst K QP st := by
 refine .inr ⟨rfl, .inr ⟨[], List.nodup_nil, cargs, [], [], ha, rfl, rfl, h.mono ?_⟩⟩
 rintro o H' ⟨i, hi, rfl, rfl⟩
 refine ⟨(C i).length, C i, Y i, ?_, by simp, hx i, ?_⟩
 ·simp only [List.length_nil, Nat.zero_add, List.take_length]
  exact Jtf0 (hC i) _
 ·exact hK i hi
open Classical in
noncomputable def liveS (f : Func) (j : Nat) : List Int := ((List.range f.regs.toNat).map fun v : Nat => (v : Int)).filter fun v => @decide (LiveAt f v j) (propDecidable _)
open Classical in
noncomputable def liveO (f : Func) (b : Block) : List Int := ((List.range f.regs.toNat).map fun v : Nat => (v : Int)).filter fun v => @decide (∃ t ∈ succsZ b.term, LiveAt f v t.toNat) (propDecidable _)
noncomputable def liveIn (f : Func) : List (List Int) := (List.range f.blocks.length).map (liveS f)
noncomputable def Jtbm (f : Func) : List (List Int) := f.blocks.map (liveO f)
structure OkV (f : Func) : Prop where
 l : OkL f
 regs : ∀ v j, LiveAt f v j → 0 ≤ v ∧ v < f.regs
theorem mem_rg {n v : Int} : v ∈ ((List.range n.toNat).map fun v : Nat => (v : Int)) ↔ 0 ≤ v ∧ v < n := by
 simp only [List.mem_map, List.mem_range]
 constructor
 ·rintro ⟨k, h, rfl⟩; omega
 ·rintro ⟨h0, h1⟩; exact ⟨v.toNat, by omega, by omega⟩
theorem rg_lt (n : Nat) : ((List.range n).map fun v : Nat => (v : Int)).Pairwise fun a b => a < b := by
 rw [List.pairwise_map]
 exact List.pairwise_lt_range.imp fun h => by omega
theorem Jtcq {f : Func} (ok : OkV f) {v : Int} {j : Nat} : v ∈ liveS f j ↔ LiveAt f v j := by
 unfold liveS
 rw [List.mem_filter, mem_rg]
 exact ⟨fun h => @of_decide_eq_true _ (Classical.propDecidable _) h.2, fun h => ⟨ok.regs v j h, @decide_eq_true _ (Classical.propDecidable _) h⟩⟩
theorem Jtcp {f : Func} (ok : OkV f) {v : Int} {b : Block} : v ∈ liveO f b ↔ ∃ t ∈ succsZ b.term, LiveAt f v t.toNat := by
 unfold liveO
 rw [List.mem_filter, mem_rg]
 exact ⟨fun h => @of_decide_eq_true _ (Classical.propDecidable _) h.2, fun h => ⟨by obtain ⟨t, _, h⟩ := h; exact ok.regs v _ h, @decide_eq_true _ (Classical.propDecidable _) h⟩⟩
theorem Jtca {l m : List Int} (h1 : l.Nodup) (h2 : m.Pairwise fun a b => a < b) (h : ∀ v, v ∈ l ↔ v ∈ m) : sortI l = m := by
 have hm : m.Nodup := h2.imp fun h => by omega
 exact Jtgf (Jtgc l) (h2.imp fun h => by omega) ((List.mergeSort_perm l _).trans ((List.perm_ext_iff_of_nodup h1 hm).2 h))
theorem Jtbr (f : Func) (j : Nat) : (liveS f j).Pairwise fun a b => a < b := (rg_lt _).filter _
theorem Jtbl (f : Func) (b : Block) : (liveO f b).Pairwise fun a b => a < b := (rg_lt _).filter _
theorem Jtbq (f : Func) (j : Nat) : (liveS f j).length ≤ f.regs.toNat := by
 have := List.length_filter_le (fun v => @decide (LiveAt f v j) (Classical.propDecidable _)) ((List.range f.regs.toNat).map fun v : Nat => (v : Int))
 unfold liveS
 simpa using this
theorem Jtbk (f : Func) (b : Block) : (liveO f b).length ≤ f.regs.toNat := by
 have := List.length_filter_le (fun v => @decide (∃ t ∈ succsZ b.term, LiveAt f v t.toNat) (Classical.propDecidable _)) ((List.range f.regs.toNat).map fun v : Nat => (v : Int))
 unfold liveO
 simpa using this
def outI (n k q : Nat) : AV := match k with
 | 0 => .nils
 | k + 1 => .hsl (6 * n + 4 + q) 0 1 (k + 1)
structure OutX (L : List (List D)) (k q : Nat) (X : List Blk) : Prop where
 out : 0 < k → X[q]? = some (.mem (Jtfh (L.take k)))
 cl : ∀ b ∈ X, ClB b
theorem ClB.rows (rows : List (List D)) : ClB (.mem (Jtfh rows)) := ClB.mem fun x hx ρ => by
 unfold Jtfh at hx
 obtain ⟨d, _, rfl⟩ := List.mem_map.1 hx; rfl
theorem OutX.s1 {L : List (List D)} {k q : Nat} {X : List Blk} (h : OutX L (k + 1) q X) {rows : List (List D)} (hr : rows = L.take (k + 1 + 1)) : OutX L (k + 1 + 1) q (X.set q (.mem (Jtfh rows))) := by
 subst hr
 have hl := (List.getElem?_eq_some_iff.1 (h.out (by omega))).1
 refine ⟨fun _ => by rw [List.getElem?_set_self hl], fun b hb => ?_⟩
 rcases List.mem_or_eq_of_mem_set hb with hb | hb
 ·exact h.cl b hb
 ·rw [hb]; exact .rows _
theorem OutX.s2 {L : List (List D)} {k q : Nat} {X : List Blk} (h : OutX L k q X) {Z : List Blk} (hZ : ∀ b ∈ Z, ClB b) {rows : List (List D)} (hr : rows = L.take (k + 1)) : OutX L (k + 1) (X ++ Z).length (X ++ Z ++ [.mem (Jtfh rows)]) := by
 subst hr
 refine ⟨fun _ => by simp, fun b hb => ?_⟩
 rcases List.mem_append.1 hb with hb | hb
 ·exact (List.mem_append.1 hb).elim (h.cl b) (hZ b)
 ·rw [List.mem_singleton.1 hb]; exact .rows _
theorem gX {a b c d : Blk} {T X : List Blk} {n q : Nat} (h : T.length = 6 * n) : (a :: b :: c :: d :: (T ++ X))[6 * n + 4 + q]? = X[q]? := by
 have e : 6 * n + 4 + q = (6 * n + q) + 4 := by omega
 rw [e]
 show (T ++ X)[6 * n + q]? = X[q]?
 rw [← h, List.getElem?_append_right (by omega)]; congr 1; omega
theorem sX {a b c d y : Blk} {T X : List Blk} {n q : Nat} (h : T.length = 6 * n) : (a :: b :: c :: d :: (T ++ X)).set (6 * n + 4 + q) y = a :: b :: c :: d :: (T ++ X.set q y) := by
 have e : 6 * n + 4 + q = (6 * n + q) + 4 := by omega
 rw [e]
 show a :: b :: c :: d :: (T ++ X).set (6 * n + q) y = _
 rw [← h, List.set_append_right _ _ (by omega)]; congr 6; omega
theorem Jt57 {H : List Blk} {n : Nat} {T X : List Blk} (h1 : ∀ k ∈ T, ClB k) (h2 : ∀ k ∈ X, ClB k) : WkHs H n (T ++ X) (T ++ X) := by
 have := Jt58 (H := H) (n := n) (T := T ++ X) (fun k hk => (List.mem_append.1 hk).elim (h1 k) (h2 k)) (X := []) (Y := []) trivial
 rwa [List.append_nil] at this
section
set_option maxHeartbeats 2000000 in
theorem Jtbu {P : Program} {p : Nums} (A : All P p) (SI : SortIOk P p) (f : Func) (ok : OkV f) (hr0 : f.regs ≤ 10000) : Jt4n P p.liveness_In [f.av] [] fun o _ => o = .ret (.d (listsD (liveIn f))) := by
 refine A.liveness_In.run rfl fun R hR => ?_
 have hbl := ok.l.bl
 have hsol := Jtc1 A f ok.l
 obtain ⟨fR, hfR⟩ : ∃ x, x = f.blocks.map Block.row := ⟨_, rfl⟩
 obtain ⟨n, hn⟩ : ∃ n, n = f.blocks.length := ⟨_, rfl⟩
 obtain ⟨L, hL⟩ : ∃ L, L = (liveIn f).map fun x => [intsD x] := ⟨_, rfl⟩
 have lL : L.length = n := by rw [hL, hn]; simp [liveIn]
 have gL : ∀ j, j < n → L[j]? = some [intsD (liveS f j)] := fun j hj => by
  rw [hL, liveIn, List.getElem?_map, List.getElem?_map, List.getElem?_range (by omega)]; rfl
 have av : f.av = .agg [AI f.args, AI f.regs, .d (.sl fR)] := by rw [hfR]; rfl
 simp only [listsD, ← hL] at hR
 rw [av, ← hn] at hsol
 rw [← hn] at hbl
 rw [av]
 (simp (maxSteps := 1000000) [Jt9s])
 refine Jt18 (Y := fun _ => .hsl 2 0 1 n) hsol (by rfl) (fun l k hk => ?_) (fun l => ?_) fun l hl => ?_
 ·rcases List.mem_append.1 hk with hk | hk
  ·simp only [List.mem_cons, List.not_mem_nil, or_false] at hk
   rcases hk with rfl | rfl | rfl
   ·exact .dead
   ·exact .mps _
   ·exact .dead
  ·exact TT_cl k hk
 ·simp [AV.ren, back]
 obtain ⟨hJ, hC⟩ := hl
 have el : l.length = n := by rw [hn]; exact hJ.len
 (simp (maxSteps := 1000000) [])
 have hTl : (TT l).length = 6 * n := by rw [TT_len, el]
 refine Jtd (fun z : Nat × Nat × List Blk => ⟨[(9, AI z.1), (8, AI (n : Int)), (7, .hsl 2 0 1 n), (3, outI n z.1 z.2.1)], .dead :: .dead :: .mem ((ruL l).map .mp) :: .dead :: (TT l ++ z.2.2)⟩)
  (fun z => z.1 ≤ n ∧ OutX L z.1 z.2.1 z.2.2) (fun z => n - z.1) (0, 0, []) ⟨Nat.zero_le _, fun h => absurd h (by simp), fun b hb => by simp at hb⟩ ?_ ?_
 ·simp only [outI, List.append_nil]
  refine Wk.of ?_ ?_ (by simp) <;> repeat' (first | exact (ClB.mps _).wk | exact Jt55 | (first | exact True.intro | exact ⟨_, rfl, Jti6 rfl⟩ | exact ⟨_, rfl, Jti4 rfl⟩ | exact ⟨_, rfl, .inl .nild⟩ | exact ⟨_, rfl, .inl .nile⟩ | exact ⟨_, rfl, Jti5⟩ | exact Jti6 rfl | exact Jti4 rfl | exact .inl .nild | exact .inl .nile | exact Jti5 | exact WkB.same rfl | exact Jt53 | exact Jt52 | exact .dead _ | exact .iter _ _ | exact .glob _ _ | refine Jt51 ?_ ?_ | refine And.intro ?_ ?_))
 rintro ⟨k, qx, X⟩ ⟨hk, hX⟩ N hN
 simp only at hk hX hN
 (simp (maxSteps := 1000000) [])
 by_cases h2 : k < n
 ·have h2i : (k : Int) < (n : Int) := by omega
  have hw := Jtic (k := k) (by omega)
  obtain ⟨q, hq⟩ : ∃ q, l[k]? = some q := ⟨_, List.getElem?_eq_getElem (by omega)⟩
  obtain ⟨b, hb⟩ : ∃ b, f.blocks[k]? = some b := ⟨_, List.getElem?_eq_getElem (by omega)⟩
  have gu := Jtfp hq
  obtain ⟨p1, _, _, _⟩ := hJ.at_ k q b hq hb
  have hmem : ∀ v, v ∈ q.ks ↔ LiveAt f v k := fun v => hJ.done (fun j hj => hC j (by omega)) hq v
  have e1 : sortI q.ks = liveS f k := Jtca p1 (Jtbr f k) fun v => by rw [hmem, Jtcq ok]
  have hks : q.ks.length ≤ 1000000 := by
   have h1 := congrArg List.length e1
   rw [Jtga] at h1
   have := Jtbq f k
   omega
  have hso := Jtc0 A SI q.ru q.ks hks
  rw [e1] at hso
  have gl := gL k h2
  obtain ⟨D0, hD0⟩ : ∃ x, x = intsD (liveS f k) := ⟨_, rfl⟩
  rw [← hD0] at hso gl
  have eT : L.take k ++ [[D0]] = L.take (k + 1) := by rw [List.take_add_one, gl]; rfl
  have hp : picks (Blk.dead :: .dead :: .mem ((ruL l).map .mp) :: .dead :: (TT l ++ X)) [6 * k + 8] = some [.glob q.ru (mpK q.ks)] := by
   have h3 : (Blk.dead :: Blk.dead :: Blk.mem ((ruL l).map .mp) :: Blk.dead :: (TT l ++ X))[6 * k + 8]? = some (.glob q.ru (mpK q.ks)) := by
    show (TT l ++ X)[6 * k + 4]? = _
    rw [List.getElem?_append_left (List.getElem?_eq_some_iff.1 (TT_u hq)).1]; exact TT_u hq
   simp only [picks]; rw [h3]
  have leaf : ∀ {Y : List Blk} {q2 : Nat} {X2 : List Blk}, OutX L (k + 1) q2 X2 → WkT Y (Blk.dead :: .dead :: .mem ((ruL l).map .mp) :: .dead :: (TT l ++ X2)).length (.hsl (6 * n + 4 + q2) 0 1 (k + 1)) (.hsl (6 * n + 4 + q2) 0 1 (k + 1)) ∧ WkT Y (Blk.dead :: .dead :: .mem ((ruL l).map .mp) :: .dead :: (TT l ++ X2)).length (.hsl 2 0 1 n) (.hsl 2 0 1 n) := by
   intro Y q2 X2 h
   have := (List.getElem?_eq_some_iff.1 (h.out (by omega))).1
   refine ⟨Jti6 ?_, Jti6 ?_⟩ <;> simp only [AV.ren, List.length_cons, List.length_append, hTl] <;> rw [if_pos (by omega)]
  cases k with
  | zero =>
   simp only [outI]
   (simp (maxSteps := 1000000) [h2, gu])
   refine Jt14 [6 * 0 + 8] hso (by simp) (by rfl) hp (by rfl) (by rfl) (by rfl) (by rfl) ?_
   rw [Jti3 _ _ _ hp]
   (simp (maxSteps := 1000000) [])
   refine Jt1f (ys := [[D0]]) (.inr (by rfl)) (by rfl) (by simp) (by decide) (by simp) (by simp) (by simp) ?_
   have h3 := hX.s2 (Z := []) (by simp) (rows := [[D0]]) (by simpa using eT)
   simp only [List.append_nil] at h3
   have hw1 : IntKind.i64.wrap 1 = 1 := by rw [wrap_i64 (by decide) (by decide)]
   have eI : 6 * n + X.length + 1 + 1 + 1 + 1 = 6 * n + 4 + X.length := by omega
   (simp (maxSteps := 1000000) [hTl, hw1])
   simp only [eI]
   refine hN _ (0 + 1, X.length, X ++ [.mem (Jtfh [[D0]])]) ⟨h2, h3⟩ ?_ (by simp only; omega)
   simp only [outI]
   refine Wk.of ?_ ?_ (by simp) <;> repeat' (first | exact (ClB.mps _).wk | exact Jt57 TT_cl h3.cl | (first | exact True.intro | exact ⟨_, rfl, Jti6 rfl⟩ | exact ⟨_, rfl, Jti4 rfl⟩ | exact ⟨_, rfl, .inl .nild⟩ | exact ⟨_, rfl, .inl .nile⟩ | exact ⟨_, rfl, Jti5⟩ | exact Jti6 rfl | exact Jti4 rfl | exact .inl .nild | exact .inl .nile | exact Jti5 | exact WkB.same rfl | exact Jt53 | exact Jt52 | exact .dead _ | exact .iter _ _ | exact .glob _ _ | refine Jt51 ?_ ?_ | refine And.intro ?_ ?_) | exact ⟨_, rfl, (leaf h3).1⟩ | exact ⟨_, rfl, (leaf h3).2⟩)
  | succ k =>
   have hw2 : IntKind.i64.wrap ((k : Int) + 1 + 1) = (k : Int) + 1 + 1 := wrap_i64 (by omega) (by omega)
   have h2j : (k : Int) + 1 < (n : Int) := by omega
   have h2z : (0 : Int) ≤ (k : Int) + 1 := by omega
   simp only [outI]
   (simp (maxSteps := 1000000) [h2, h2i, h2j, h2z, gu])
   refine Jt14 [6 * (k + 1) + 8] hso (by simp) (by rfl) hp (by rfl) (by rfl) (by rfl) (by rfl) ?_
   rw [Jti3 _ _ _ hp]
   (simp (maxSteps := 1000000) [])
   refine Jt1g (b := 6 * n + 4 + qx) (rows := L.take (k + 1)) (ys := [[D0]]) (by rfl) ((gX hTl).trans (hX.out (by omega))) (by rw [List.length_take]; omega) ?_ (by omega) (by rfl) (by simp) (by decide) (by simp) (by simp; omega) (by simp; omega) ?_ ?_
   ·intro r hr
    have := List.mem_of_mem_take hr
    rw [hL] at this
    obtain ⟨x, _, rfl⟩ := List.mem_map.1 this; rfl
   ·have h3 := hX.s1 eT
    simp only [sX hTl]
    obtain ⟨Y, hY⟩ : ∃ Y, Y = X.set qx (.mem (Jtfh (L.take (k + 1) ++ [[D0]]))) := ⟨_, rfl⟩
    rw [← hY] at h3 ⊢
    (simp (maxSteps := 1000000) [hw2])
    refine hN _ (k + 1 + 1, qx, Y) ⟨h2, h3⟩ ?_ (by simp only; omega)
    simp only [outI]
    refine Wk.of ?_ ?_ (by simp) <;> repeat' (first | exact (ClB.mps _).wk | exact Jt57 TT_cl h3.cl | (first | exact True.intro | exact ⟨_, rfl, Jti6 rfl⟩ | exact ⟨_, rfl, Jti4 rfl⟩ | exact ⟨_, rfl, .inl .nild⟩ | exact ⟨_, rfl, .inl .nile⟩ | exact ⟨_, rfl, Jti5⟩ | exact Jti6 rfl | exact Jti4 rfl | exact .inl .nild | exact .inl .nile | exact Jti5 | exact WkB.same rfl | exact Jt53 | exact Jt52 | exact .dead _ | exact .iter _ _ | exact .glob _ _ | refine Jt51 ?_ ?_ | refine And.intro ?_ ?_) | exact ⟨_, rfl, (leaf h3).1⟩ | exact ⟨_, rfl, (leaf h3).2⟩)
   ·have h3 := hX.s2 (Z := []) (by simp) eT
    simp only [List.append_nil] at h3
    obtain ⟨Y, hY⟩ : ∃ Y, Y = X ++ [.mem (Jtfh (L.take (k + 1) ++ [[D0]]))] := ⟨_, rfl⟩
    rw [← hY] at h3
    simp only [List.cons_append, List.append_assoc, ← hY, List.length_cons, List.length_append, hTl]
    have eI : 6 * n + X.length + 1 + 1 + 1 + 1 = 6 * n + 4 + X.length := by omega
    (simp (maxSteps := 1000000) [hw2])
    simp only [eI]
    refine hN _ (k + 1 + 1, X.length, Y) ⟨h2, h3⟩ ?_ (by simp only; omega)
    simp only [outI]
    refine Wk.of ?_ ?_ (by simp) <;> repeat' (first | exact (ClB.mps _).wk | exact Jt57 TT_cl h3.cl | (first | exact True.intro | exact ⟨_, rfl, Jti6 rfl⟩ | exact ⟨_, rfl, Jti4 rfl⟩ | exact ⟨_, rfl, .inl .nild⟩ | exact ⟨_, rfl, .inl .nile⟩ | exact ⟨_, rfl, Jti5⟩ | exact Jti6 rfl | exact Jti4 rfl | exact .inl .nild | exact .inl .nile | exact Jti5 | exact WkB.same rfl | exact Jt53 | exact Jt52 | exact .dead _ | exact .iter _ _ | exact .glob _ _ | refine Jt51 ?_ ?_ | refine And.intro ?_ ?_) | exact ⟨_, rfl, (leaf h3).1⟩ | exact ⟨_, rfl, (leaf h3).2⟩)
 ·have ek : k = n := by omega
  subst ek
  cases k with
  | zero =>
   have : L = [] := List.eq_nil_of_length_eq_zero lL
   subst this
   simp only [outI]
   (simp (maxSteps := 1000000) [h2])
   exact hR _ _ (Jt4s _ (.d (.sl [])) rfl (by (exact wkvA)) rfl)
  | succ k =>
   simp only [outI]
   have eT : L.take (k + 1) = L := List.take_of_length_le (by omega)
   have ho := hX.out (by omega)
   rw [eT] at ho
   (simp (maxSteps := 1000000) [h2])
   refine hR _ _ (Jt4r (.hsl (6 * (k + 1) + 4 + qx) 0 1 (k + 1)) (.d (.sl L)) [] (by rfl) ?_ rfl)
   refine Wk.of ⟨⟨_, rfl, Jt5f ((gX hTl).trans ho) (Nat.zero_le _) lL ?_⟩, trivial⟩ trivial (by simp)
   intro r hr
   rw [hL] at hr
   obtain ⟨x, _, rfl⟩ := List.mem_map.1 hr; rfl
end
end Go.AE
