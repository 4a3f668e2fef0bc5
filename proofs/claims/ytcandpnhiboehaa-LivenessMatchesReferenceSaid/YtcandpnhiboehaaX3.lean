/- A part of the proof: the evaluator over abstract values, its codes, the contracts of the functions. -/
import Derived.Test.YtcandpnhiboehaaX2
import Derived.Shelf.SlSortCmp.NoneTotal
import Derived.Lib.ItoaNum
import Derived.Shelf.Sort.Plain
import Derived.Sort.OwnSortedInts
set_option linter.unusedVariables false
set_option linter.unusedSimpArgs false
set_option maxRecDepth 100000
namespace Go.AE
@[simp] abbrev zi (n : Int) : AV := .d (.int .i64 n)
@[simp] abbrev ci (n : Int) : Opd := .c (.d (.int .i64 n))
@[simp] abbrev qo (d : Nat) (io : AO) : IOp := ⟨some d, io, none, false⟩
@[simp] abbrev qp (d : Nat) (io : AO) : IOp := ⟨some d, io, none, true⟩
@[simp] abbrev qn (io : AO) : IOp := ⟨none, io, none, false⟩
@[simp] abbrev qm (io : AO) : IOp := ⟨none, io, none, true⟩
structure Nums where
 law11_PairsetMatchesReference : Nat
 law11_PairsetMatchesSets : Nat
 law11_PairsetOrder : Nat
 law11_PairsetSubsets : Nat
 law23_LivenessMatchesReference : Nat
 law23_LivenessEquations : Nat
 law23_LivenessSound : Nat
 law23_LivenessNecessary : Nat
 law23_LivenessAppended : Nat
 law11_PairsetDrops : Nat
 law11_PairsetKeeps : Nat
 law11_awake : Nat
 ref11_Make : Nat
 pairset_Missing : Nat
 ref11_Missing : Nat
 pairset_Sorted : Nat
 ref11_Sorted : Nat
 ref11_Same : Nat
 pairset_Make : Nat
 pairset_Has : Nat
 ref11_Has : Nat
 pairset_Add : Nat
 ref11_Add : Nat
 pairset_Subset : Nat
 pairset_Union : Nat
 pairset_Less : Nat
 law23_awake : Nat
 ref07_Few : Nat
 ref07_Check : Nat
 ref23_Used : Nat
 ref23_Defines : Nat
 ref07_Numbers : Nat
 liveness_Uses : Nat
 liveness_Defs : Nat
 ref23_Same : Nat
 liveness_In : Nat
 ref23_In : Nat
 liveness_Out : Nat
 ref23_Out : Nat
 ref07_Successors : Nat
 ref23_Has : Nat
 ref09_Right : Nat
 ref09_Exec : Nat
 ref09_Step : Nat
 ref09_Copy : Nat
 ref09_Values : Nat
 ref07_Copy : Nat
 pairset_DropV : Nat
 pairset_DropL : Nat
 law11_spoil : Nat
 ref11_Less : Nat
 slices_Clone_Pair : Nat
 slices_SortFunc_Pair : Nat
 pairset_compare : Nat
 slices_Compact_Pair : Nat
 pairset_find : Nat
 ref07_Code : Nat
 ref07_Instr : Nat
 ref07_Term : Nat
 ref05_UsesA : Nat
 ref05_UsesB : Nat
 ref05_UsesD : Nat
 liveness_scan : Nat
 liveness_set_sorted : Nat
 liveness_solve : Nat
 ref23_live : Nat
 liveness_exit : Nat
 ref09_Start : Nat
 ref06_Eval : Nat
 pairset_filter : Nat
 pairset_DropV_1 : Nat
 pairset_DropL_1 : Nat
 slices_pdqsortCmpFunc_Pair : Nat
 math_bits_Len : Nat
 ref07_in : Nat
 liveness_scan_1 : Nat
 opcode_Of : Nat
 slices_Sort_int : Nat
 source_Successors : Nat
 ref06_bits : Nat
 ref06_half : Nat
 ref06_truth : Nat
 slices_insertionSortCmpFunc_Pair : Nat
 slices_heapSortCmpFunc_Pair : Nat
 slices_breakPatternsCmpFunc_Pair : Nat
 slices_choosePivotCmpFunc_Pair : Nat
 slices_reverseRangeCmpFunc_Pair : Nat
 slices_partialInsertionSortCmpFunc_Pair : Nat
 slices_partitionEqualCmpFunc_Pair : Nat
 slices_partitionCmpFunc_Pair : Nat
 math_bits_Len32 : Nat
 math_bits_Len64 : Nat
 opcode_known : Nat
 slices_pdqsortOrdered_int : Nat
 ref06_bit : Nat
 slices_siftDownCmpFunc_Pair : Nat
 slices_nextPowerOfTwo : Nat
 slices_xorshift_Next : Nat
 slices_medianAdjacentCmpFunc_Pair : Nat
 slices_medianCmpFunc_Pair : Nat
 slices_insertionSortOrdered_int : Nat
 slices_heapSortOrdered_int : Nat
 slices_breakPatternsOrdered_int : Nat
 slices_choosePivotOrdered_int : Nat
 slices_reverseRangeOrdered_int : Nat
 slices_partialInsertionSortOrdered_int : Nat
 cmp_Less_int : Nat
 slices_partitionEqualOrdered_int : Nat
 slices_partitionOrdered_int : Nat
 slices_order2CmpFunc_Pair : Nat
 slices_siftDownOrdered_int : Nat
 slices_medianAdjacentOrdered_int : Nat
 slices_medianOrdered_int : Nat
 cmp_isNaN_int : Nat
 slices_order2Ordered_int : Nat
 law22_SpillallKeeps : Nat
 law22_SpillallSlots : Nat
 law22_awake : Nat
 spillall_Cert : Nat
 ref22_Cert : Nat
 ref07_Same : Nat
 ref16_Same : Nat
 interp_Exec : Nat
 execute_Exec : Nat
 spillall_Block : Nat
 spillall_Moves : Nat
 source_Check : Nat
 slices_Clone_Instr : Nat
 spillall_invariant : Nat
 ref22_Block : Nat
 ref08_Moves : Nat
 ref08_Code : Nat
 ref08_Same : Nat
 ref15_Same : Nat
 interp_begin : Nat
 interp_state_step : Nat
 execute_begin : Nat
 execute_state_step : Nat
 spillall_builder_instr : Nat
 spillall_builder_add : Nat
 spillall_load : Nat
 source_Code : Nat
 source_block : Nat
 location_Slot : Nat
 ref22_move : Nat
 interp_state_instr : Nat
 interp_state_term : Nat
 execute_state_instr : Nat
 execute_state_term : Nat
 spillall_store : Nat
 location_Reg : Nat
 source_Instr : Nat
 source_Term : Nat
 alu_Eval : Nat
 execute_state_compute : Nat
 execute_state_move : Nat
 execute_state_emit : Nat
 opcode_Source : Nat
 source_within : Nat
 source_blank : Nat
 alu_operation : Nat
 execute_state_at : Nat
 alu_operation_1 : Nat
 alu_operation_2 : Nat
 alu_operation_3 : Nat
 alu_operation_4 : Nat
 alu_operation_5 : Nat
 alu_operation_6 : Nat
 alu_operation_7 : Nat
 alu_operation_8 : Nat
 alu_operation_9 : Nat
 alu_operation_10 : Nat
 alu_operation_11 : Nat
 alu_truth : Nat
 alu_operation_12 : Nat
 location_IsSlot : Nat
 location_Index : Nat
 law16_CheckerMatchesReference : Nat
 law16_CheckerOnce : Nat
 law16_CheckerLocal : Nat
 law16_CheckerSubset : Nat
 law16_CheckerKeeps : Nat
 law22_SpillallAccepted : Nat
 law16_CheckerSound : Nat
 law16_awake : Nat
 ref16_Few : Nat
 checker_Valid : Nat
 ref16_Valid : Nat
 checker_Check : Nat
 ref16_Check : Nat
 checker_Bound : Nat
 ref14_Check : Nat
 ref16_Copy : Nat
 law16_simulates : Nat
 ref08_Few : Nat
 ref15_Few : Nat
 machine_Check : Nat
 edge_Valid : Nat
 ref08_Check : Nat
 ref15_Valid : Nat
 checker_begin : Nat
 blockcheck_Check : Nat
 edge_Implies : Nat
 ref15_Initial : Nat
 machine_Code : Nat
 ref14_fail : Nat
 ref13_Code : Nat
 ref13_Terms : Nat
 ref14_grow : Nat
 ref12_Copy : Nat
 ref12_Move : Nat
 ref14_use : Nat
 ref12_Define : Nat
 ref08_Copy : Nat
 ref09_Prefix : Nat
 machine_block : Nat
 edge_total : Nat
 edge_pairs : Nat
 ref08_Instr : Nat
 ref04_InRange : Nat
 edge_Entry : Nat
 align_Code : Nat
 align_Terms : Nat
 blockcheck_checker_run : Nat
 ref13_Operations : Nat
 ref13_Others : Nat
 ref13_Same : Nat
 machine_Instr : Nat
 location_InRange : Nat
 edge_Initial : Nat
 align_skip_Instr : Nat
 align_copied : Nat
 align_skip_Mach : Nat
 align_moved : Nat
 align_Same : Nat
 blockcheck_checker_run_1 : Nat
 blockcheck_checker_row : Nat
 blockcheck_checker_use : Nat
 opcode_Machine : Nat
 machine_others : Nat
 machine_moves : Nat
 blockcheck_checker_cost : Nat
 blockcheck_checker_become : Nat
 transfer_Copy : Nat
 transfer_Move : Nat
 blockcheck_checker_instr : Nat
 machine_others_1 : Nat
 machine_others_2 : Nat
 machine_moves_1 : Nat
 machine_moves_2 : Nat
 transfer_rename : Nat
 transfer_Copy_1 : Nat
 transfer_Move_1 : Nat
 transfer_Define : Nat
 law12_TransferMatchesReference : Nat
 law12_TransferSound : Nat
 law12_TransferComplete : Nat
 law12_TransferMonotone : Nat
 law12_TransferKeeps : Nat
 law14_BlockcheckMatchesReference : Nat
 law14_BlockcheckSound : Nat
 law14_BlockcheckMonotone : Nat
 law14_BlockcheckSteps : Nat
 law14_BlockcheckKeeps : Nat
 law12_awake : Nat
 law12_known : Nat
 law12_holds : Nat
 law12_subset : Nat
 law14_awake : Nat
 law14_right : Nat
 ref14_Same : Nat
 law14_result : Nat
 ref10_Step : Nat
 ref10_Read : Nat
 law22_SpillallMatchesReference : Nat
 law04_LocationBijection : Nat
 law04_LocationTexts : Nat
 law04_LocationMatchesReference : Nat
 law04_LocationRange : Nat
 law04_awake : Nat
 location_Parse : Nat
 location_Text : Nat
 ref04_Parse : Nat
 ref04_Text : Nat
 strconv_Itoa : Nat
 ref04_Number : Nat
 ref04_Decimal : Nat
 ty_bcfail : Nat
@[simp] def Jq14 (p : Nums) : List IOp := [qo 7 (.call p.law23_awake []), qo 8 (.un .not (.t 7)), qo 9 (.mov (.t 8)), ⟨(some 10), (.load (some 3) (.t 1)), (some (9, false)), false⟩, ⟨(some 11), (.call p.ref07_Few [(.t 10)]), (some (9, false)), false⟩, ⟨(some 12), (.un .not (.t 11)), (some (9, false)), false⟩, qo 13 (.pick (.t 9) (.c (.d (.bool true))) (.t 12)), qo 14 (.mov (.t 13)), ⟨(some 15), (.load (some 3) (.t 1)), (some (14, false)), false⟩, ⟨(some 16), (.call p.ref07_Check [(.t 15)]), (some (14, false)), false⟩, ⟨(some 17), (.bin .neq (.t 16) (ci 0)), (some (14, false)), false⟩, qo 18 (.pick (.t 14) (.c (.d (.bool true))) (.t 17))]
def Jqn (p : Nums) : IC := (.region (Jq14 p) [])
@[simp] theorem Jen {p : Nums} : EqI (Jqn p) (.region (Jq14 p) []) := eqi
def Jqw (p : Nums) : IC := (.seq (.region [⟨(some 19), (.call p.law23_awake []), none, false⟩, ⟨(some 2), (.asg (.t 19)), none, false⟩] []) .ret)
@[simp] theorem Jew {p : Nums} : EqI (Jqw p) (.seq (.region [⟨(some 19), (.call p.law23_awake []), none, false⟩, ⟨(some 2), (.asg (.t 19)), none, false⟩] []) .ret) := eqi
@[simp] def Jq19 (p : Nums) : List IOp := [qo 20 (.mov (.t 3)), qo 21 (.faddr 2 (.t 1)), qo 22 (.load none (.t 21)), qo 23 (.len (.t 22)), qo 24 (.bin .lss (.t 20) (.t 23))]
def Jqx (p : Nums) : IC := (.region (Jq19 p) [])
@[simp] theorem Jex {p : Nums} : EqI (Jqx p) (.region (Jq19 p) []) := eqi
@[simp] def Jq1a (p : Nums) : List IOp := [qo 27 (.mov (.t 6)), qo 28 (.faddr 1 (.t 1)), qo 29 (.load none (.t 28)), qo 30 (.bin .lss (.t 27) (.t 29))]
def Jqy (p : Nums) : IC := (.region (Jq1a p) [])
@[simp] theorem Jey {p : Nums} : EqI (Jqy p) (.region (Jq1a p) []) := eqi
@[simp] def Jq1b (p : Nums) : List IOp := [qo 33 (.faddr 2 (.t 1)), qo 34 (.load none (.t 33)), qo 35 (.mov (.t 3)), qo 36 (.iaddr 5 (.t 34) (.t 35)), qo 37 (.load (some 5) (.t 36)), qo 38 (.mov (.t 6)), qo 39 (.call p.ref23_Used [(.t 37), (.t 38)])]
def Jqz (p : Nums) : IC := (.region (Jq1b p) [])
@[simp] theorem Jez {p : Nums} : EqI (Jqz p) (.region (Jq1b p) []) := eqi
@[simp] def Jq1c (p : Nums) : List IOp := [qo 40 (.mov (.t 4)), qo 41 (.mov (.t 6)), qo 42 (.bslice 1 1 [(.int .i64 0)] [(0, (.t 41))]), qo 43 (.app 1 8 (.t 40) (.t 42)), qo 4 (.asg (.t 43))]
def Jq10 (p : Nums) : IC := (.region (Jq1c p) [])
@[simp] theorem Je10 {p : Nums} : EqI (Jq10 p) (.region (Jq1c p) []) := eqi
@[simp] def Jq1d (p : Nums) : List IOp := [qp 44 (.faddr 2 (.t 1)), qp 45 (.load none (.t 44)), qp 46 (.mov (.t 3)), qp 47 (.iaddr 5 (.t 45) (.t 46)), qp 48 (.load (some 5) (.t 47)), qp 49 (.mov (.t 6)), qp 50 (.faddr 2 (.t 1)), qp 51 (.load none (.t 50)), qp 52 (.mov (.t 3)), qp 53 (.iaddr 5 (.t 51) (.t 52)), qp 54 (.faddr 0 (.t 53)), qp 55 (.load none (.t 54)), qp 56 (.len (.t 55)), qo 57 (.call p.ref23_Defines [(.t 48), (.t 49), (.t 56)])]
def Jq11 (p : Nums) : IC := (.region (Jq1d p) [])
@[simp] theorem Je11 {p : Nums} : EqI (Jq11 p) (.region (Jq1d p) []) := eqi
@[simp] def Jq1e (p : Nums) : List IOp := [qo 58 (.mov (.t 5)), qo 59 (.mov (.t 6)), qo 60 (.bslice 1 1 [(.int .i64 0)] [(0, (.t 59))]), qo 61 (.app 1 8 (.t 58) (.t 60)), qo 5 (.asg (.t 61))]
def Jq12 (p : Nums) : IC := (.region (Jq1e p) [])
@[simp] theorem Je12 {p : Nums} : EqI (Jq12 p) (.region (Jq1e p) []) := eqi
def Jq13 (p : Nums) : IC := (.seq (.seq (Jqz p) (.cond (.t 39) (Jq10 p) .skip)) (.seq (Jq11 p) (.cond (.t 57) (Jq12 p) .skip)))
@[simp] theorem Je13 {p : Nums} : EqI (Jq13 p) (.seq (.seq (Jqz p) (.cond (.t 39) (Jq10 p) .skip)) (.seq (Jq11 p) (.cond (.t 57) (Jq12 p) .skip))) := eqi
@[simp] def Jq15 (p : Nums) : List IOp := [qo 31 (.mov (.t 6)), qo 32 (.bin .add (.t 31) (ci 1)), qo 6 (.asg (.t 32))]
def Jqo (p : Nums) : IC := (.region (Jq15 p) [])
@[simp] theorem Jeo {p : Nums} : EqI (Jqo p) (.region (Jq15 p) []) := eqi
def Jqp (p : Nums) : IC := (.seq (.seq (Jqy p) (.cond (.t 30) .skip (.exit 2))) (.seq (.block 3 (Jq13 p)) (Jqo p)))
@[simp] theorem Jep {p : Nums} : EqI (Jqp p) (.seq (.seq (Jqy p) (.cond (.t 30) .skip (.exit 2))) (.seq (.block 3 (Jq13 p)) (Jqo p))) := eqi
@[simp] def Jq16 (p : Nums) : List IOp := [qo 62 (.faddr 2 (.t 1)), qo 63 (.load none (.t 62)), qo 64 (.mov (.t 3)), qo 65 (.iaddr 5 (.t 63) (.t 64)), qo 66 (.load (some 5) (.t 65)), qo 67 (.call p.liveness_Uses [(.t 66)]), qo 68 (.mov (.t 4)), qo 69 (.call p.ref07_Numbers [(.t 67), (.t 68)]), qo 70 (.un .not (.t 69)), qo 71 (.mov (.t 70)), ⟨(some 72), (.faddr 2 (.t 1)), (some (71, false)), false⟩, ⟨(some 73), (.load none (.t 72)), (some (71, false)), false⟩, ⟨(some 74), (.mov (.t 3)), (some (71, false)), false⟩, ⟨(some 75), (.iaddr 5 (.t 73) (.t 74)), (some (71, false)), false⟩, ⟨(some 76), (.load (some 5) (.t 75)), (some (71, false)), false⟩, ⟨(some 77), (.call p.liveness_Defs [(.t 76)]), (some (71, false)), false⟩, ⟨(some 78), (.mov (.t 5)), (some (71, false)), false⟩, ⟨(some 79), (.call p.ref07_Numbers [(.t 77), (.t 78)]), (some (71, false)), false⟩, ⟨(some 80), (.un .not (.t 79)), (some (71, false)), false⟩, qo 81 (.pick (.t 71) (.c (.d (.bool true))) (.t 80))]
def Jqq (p : Nums) : IC := (.region (Jq16 p) [])
@[simp] theorem Jeq {p : Nums} : EqI (Jqq p) (.region (Jq16 p) []) := eqi
def Jqr (p : Nums) : IC := (.seq (.region [⟨(some 2), (.asg (.c (.d (.bool false)))), none, false⟩] []) .ret)
@[simp] theorem Jer {p : Nums} : EqI (Jqr p) (.seq (.region [⟨(some 2), (.asg (.c (.d (.bool false)))), none, false⟩] []) .ret) := eqi
def Jqs (p : Nums) : IC := (.seq (.region [⟨(some 4), (.asg (.c .nils)), none, false⟩, ⟨(some 5), (.asg (.c .nils)), none, false⟩] []) (.seq (.seq (.region [⟨(some 6), (.asg (.c (.d (.int .i64 0)))), none, false⟩] []) (.block 2 (.loop (Jqp p)))) (.seq (Jqq p) (.cond (.t 81) (Jqr p) .skip))))
@[simp] theorem Jes {p : Nums} : EqI (Jqs p) (.seq (.region [⟨(some 4), (.asg (.c .nils)), none, false⟩, ⟨(some 5), (.asg (.c .nils)), none, false⟩] []) (.seq (.seq (.region [⟨(some 6), (.asg (.c (.d (.int .i64 0)))), none, false⟩] []) (.block 2 (.loop (Jqp p)))) (.seq (Jqq p) (.cond (.t 81) (Jqr p) .skip)))) := eqi
@[simp] def Jq17 (p : Nums) : List IOp := [qo 25 (.mov (.t 3)), qo 26 (.bin .add (.t 25) (ci 1)), qo 3 (.asg (.t 26))]
def Jqt (p : Nums) : IC := (.region (Jq17 p) [])
@[simp] theorem Jet {p : Nums} : EqI (Jqt p) (.region (Jq17 p) []) := eqi
def Jqu (p : Nums) : IC := (.seq (.seq (Jqx p) (.cond (.t 24) .skip (.exit 0))) (.seq (.block 1 (Jqs p)) (Jqt p)))
@[simp] theorem Jeu {p : Nums} : EqI (Jqu p) (.seq (.seq (Jqx p) (.cond (.t 24) .skip (.exit 0))) (.seq (.block 1 (Jqs p)) (Jqt p))) := eqi
@[simp] def Jq18 (p : Nums) : List IOp := [qp 82 (.load (some 3) (.t 1)), qp 83 (.call p.liveness_In [(.t 82)]), qp 84 (.load (some 3) (.t 1)), qo 85 (.call p.ref23_In [(.t 84)]), qo 86 (.call p.ref23_Same [(.t 83), (.t 85)]), qo 87 (.mov (.t 86)), ⟨(some 88), (.load (some 3) (.t 1)), (some (87, true)), true⟩, ⟨(some 89), (.call p.liveness_Out [(.t 88)]), (some (87, true)), true⟩, ⟨(some 90), (.load (some 3) (.t 1)), (some (87, true)), true⟩, ⟨(some 91), (.call p.ref23_Out [(.t 90)]), (some (87, true)), false⟩, ⟨(some 92), (.call p.ref23_Same [(.t 89), (.t 91)]), (some (87, true)), false⟩, qo 93 (.pick (.t 87) (.t 92) (.c (.d (.bool false)))), qo 2 (.asg (.t 93))]
def Jqv (p : Nums) : IC := (.region (Jq18 p) [])
@[simp] theorem Jev {p : Nums} : EqI (Jqv p) (.region (Jq18 p) []) := eqi
def Jt9y (p : Nums) : IC := (.seq (.region [⟨(some 1), (.box (.t 0)), none, false⟩, ⟨(some 2), (.asg (.c (.d (.bool false)))), none, false⟩] []) (.seq (.seq (Jqn p) (.cond (.t 18) (Jqw p) .skip)) (.seq (.seq (.region [⟨(some 3), (.asg (.c (.d (.int .i64 0)))), none, false⟩] []) (.block 0 (.loop (Jqu p)))) (.seq (Jqv p) .ret))))
@[simp] def Jq1i (p : Nums) : List IOp := [qo 3 (.build [(zi 0), (zi 0), (zi 0), (zi 0), (zi 0)] [(0, 1, (ci 5)), (1, 1, (ci 1)), (2, 1, (ci 1)), (3, 1, (ci 0))]), qo 4 (.bslice 5 1 [(.int .i64 0), (.int .i64 0), (.int .i64 0), (.int .i64 0), (.int .i64 0)] [(0, (.t 3))]), qo 5 (.build [(zi 0), (zi 0), (zi 0), (zi 0)] [(0, 1, (ci 3)), (1, 1, (ci 1))]), qo 6 (.build [.nils, (zi 0), (zi 0), (zi 0), (zi 0)] [(0, 1, (.t 4)), (1, 4, (.t 5))]), qo 1 (.alloc [.nils, (zi 0), (zi 0), (zi 0), (zi 0)]), qn (.store 5 (.t 1) (.t 6))]
def Jq1f (p : Nums) : IC := (.region (Jq1i p) [])
@[simp] theorem Je1f {p : Nums} : EqI (Jq1f p) (.region (Jq1i p) []) := eqi
@[simp] def Jq1j (p : Nums) : List IOp := [qo 7 (.build [(zi 0), (zi 0), (zi 0), (zi 0), (zi 0)] [(0, 1, (ci 1)), (1, 1, (ci 0))]), qo 8 (.bslice 5 1 [(.int .i64 0), (.int .i64 0), (.int .i64 0), (.int .i64 0), (.int .i64 0)] [(0, (.t 7))]), qo 9 (.build [(zi 0), (zi 0), (zi 0), (zi 0)] [(0, 1, (ci 1)), (2, 1, (ci 1))]), qo 10 (.build [.nils, (zi 0), (zi 0), (zi 0), (zi 0)] [(0, 1, (.t 8)), (1, 4, (.t 9))]), qo 11 (.load (some 5) (.t 1)), qo 12 (.bslice 5 2 [(.sl []), (.int .i64 0), (.int .i64 0), (.int .i64 0), (.int .i64 0)] [(0, (.t 10)), (1, (.t 11))]), qo 13 (.build [(zi 0), (zi 0), .nils] [(1, 1, (ci 3)), (2, 1, (.t 12))]), qo 2 (.alloc [(zi 0), (zi 0), .nils]), qn (.store 3 (.t 2) (.t 13))]
def Jq1g (p : Nums) : IC := (.region (Jq1j p) [])
@[simp] theorem Je1g {p : Nums} : EqI (Jq1g p) (.region (Jq1j p) []) := eqi
@[simp] def Jq1k (p : Nums) : List IOp := [qo 14 (.load (some 5) (.t 1)), qo 15 (.call p.liveness_Uses [(.t 14)]), qo 16 (.bslice 1 2 [(.int .i64 0)] [(0, (ci 0)), (1, (ci 1))]), qo 17 (.call p.ref07_Numbers [(.t 15), (.t 16)]), qo 18 (.mov (.t 17)), ⟨(some 19), (.load (some 5) (.t 1)), (some (18, true)), false⟩, ⟨(some 20), (.call p.liveness_Defs [(.t 19)]), (some (18, true)), false⟩, ⟨(some 21), (.bslice 1 1 [(.int .i64 0)] [(0, (ci 1))]), (some (18, true)), false⟩, ⟨(some 22), (.call p.ref07_Numbers [(.t 20), (.t 21)]), (some (18, true)), false⟩, qo 23 (.pick (.t 18) (.t 22) (.c (.d (.bool false)))), qo 24 (.mov (.t 23)), ⟨(some 25), (.load (some 3) (.t 2)), (some (24, true)), false⟩, ⟨(some 26), (.call p.liveness_In [(.t 25)]), (some (24, true)), false⟩, ⟨(some 27), (.bslice 1 1 [(.int .i64 0)] [(0, (ci 1))]), (some (24, true)), false⟩, ⟨(some 28), (.bslice 1 2 [(.int .i64 0)] [(0, (ci 0)), (1, (ci 1))]), (some (24, true)), false⟩, ⟨(some 29), (.bslice 1 2 [(.sl [])] [(0, (.t 27)), (1, (.t 28))]), (some (24, true)), false⟩, ⟨(some 30), (.call p.ref23_Same [(.t 26), (.t 29)]), (some (24, true)), false⟩, qo 31 (.pick (.t 24) (.t 30) (.c (.d (.bool false)))), qo 32 (.mov (.t 31)), ⟨(some 33), (.load (some 3) (.t 2)), (some (32, true)), false⟩, ⟨(some 34), (.call p.liveness_Out [(.t 33)]), (some (32, true)), false⟩, ⟨(some 35), (.bslice 1 2 [(.int .i64 0)] [(0, (ci 0)), (1, (ci 1))]), (some (32, true)), false⟩, ⟨(some 36), (.bslice 1 0 [(.int .i64 0)] []), (some (32, true)), false⟩, ⟨(some 37), (.bslice 1 2 [(.sl [])] [(0, (.t 35)), (1, (.t 36))]), (some (32, true)), false⟩, ⟨(some 38), (.call p.ref23_Same [(.t 34), (.t 37)]), (some (32, true)), false⟩, qo 39 (.pick (.t 32) (.t 38) (.c (.d (.bool false)))), qo 0 (.asg (.t 39))]
def Jq1h (p : Nums) : IC := (.region (Jq1k p) [])
@[simp] theorem Je1h {p : Nums} : EqI (Jq1h p) (.region (Jq1k p) []) := eqi
def Jt9z (p : Nums) : IC := (.seq (.region [⟨(some 0), (.asg (.c (.d (.bool false)))), none, false⟩] []) (.seq (Jq1f p) (.seq (Jq1g p) (.seq (Jq1h p) .ret))))
@[simp] def Jq6n (p : Nums) : List IOp := [qo 4 (.faddr 2 (.t 1)), qo 5 (.load none (.t 4)), qo 6 (.len (.t 5)), qo 7 (.bin .gtr (.t 6) (ci 40)), qo 8 (.mov (.t 7)), ⟨(some 9), (.faddr 1 (.t 1)), (some (8, false)), false⟩, ⟨(some 10), (.load none (.t 9)), (some (8, false)), false⟩, ⟨(some 11), (.bin .gtr (.t 10) (ci 60)), (some (8, false)), false⟩, qo 12 (.pick (.t 8) (.c (.d (.bool true))) (.t 11))]
def Jq6e (p : Nums) : IC := (.region (Jq6n p) [])
@[simp] theorem Je6e {p : Nums} : EqI (Jq6e p) (.region (Jq6n p) []) := eqi
def Jq6f (p : Nums) : IC := (.seq (.region [⟨(some 2), (.asg (.c (.d (.bool false)))), none, false⟩] []) .ret)
@[simp] theorem Je6f {p : Nums} : EqI (Jq6f p) (.seq (.region [⟨(some 2), (.asg (.c (.d (.bool false)))), none, false⟩] []) .ret) := eqi
@[simp] def Jq6o (p : Nums) : List IOp := [qo 13 (.mov (.t 3)), qo 14 (.faddr 2 (.t 1)), qo 15 (.load none (.t 14)), qo 16 (.len (.t 15)), qo 17 (.bin .lss (.t 13) (.t 16))]
def Jq6g (p : Nums) : IC := (.region (Jq6o p) [])
@[simp] theorem Je6g {p : Nums} : EqI (Jq6g p) (.region (Jq6o p) []) := eqi
@[simp] def Jq6p (p : Nums) : List IOp := [qo 20 (.faddr 2 (.t 1)), qo 21 (.load none (.t 20)), qo 22 (.mov (.t 3)), qo 23 (.iaddr 5 (.t 21) (.t 22)), qo 24 (.faddr 0 (.t 23)), qo 25 (.load none (.t 24)), qo 26 (.len (.t 25)), qo 27 (.bin .gtr (.t 26) (ci 100))]
def Jq6h (p : Nums) : IC := (.region (Jq6p p) [])
@[simp] theorem Je6h {p : Nums} : EqI (Jq6h p) (.region (Jq6p p) []) := eqi
def Jq6i (p : Nums) : IC := (.seq (.region [⟨(some 2), (.asg (.c (.d (.bool false)))), none, false⟩] []) .ret)
@[simp] theorem Je6i {p : Nums} : EqI (Jq6i p) (.seq (.region [⟨(some 2), (.asg (.c (.d (.bool false)))), none, false⟩] []) .ret) := eqi
def Jq6j (p : Nums) : IC := (.seq (Jq6h p) (.cond (.t 27) (Jq6i p) .skip))
@[simp] theorem Je6j {p : Nums} : EqI (Jq6j p) (.seq (Jq6h p) (.cond (.t 27) (Jq6i p) .skip)) := eqi
@[simp] def Jq6q (p : Nums) : List IOp := [qo 18 (.mov (.t 3)), qo 19 (.bin .add (.t 18) (ci 1)), qo 3 (.asg (.t 19))]
def Jq6k (p : Nums) : IC := (.region (Jq6q p) [])
@[simp] theorem Je6k {p : Nums} : EqI (Jq6k p) (.region (Jq6q p) []) := eqi
def Jq6l (p : Nums) : IC := (.seq (.seq (Jq6g p) (.cond (.t 17) .skip (.exit 0))) (.seq (.block 1 (Jq6j p)) (Jq6k p)))
@[simp] theorem Je6l {p : Nums} : EqI (Jq6l p) (.seq (.seq (Jq6g p) (.cond (.t 17) .skip (.exit 0))) (.seq (.block 1 (Jq6j p)) (Jq6k p))) := eqi
@[simp] def Jq6r (p : Nums) : List IOp := [qo 28 (.load (some 3) (.t 1)), qo 29 (.call p.ref07_Code [(.t 28)]), qo 30 (.bin .leq (.t 29) (ci 300)), qo 2 (.asg (.t 30))]
def Jq6m (p : Nums) : IC := (.region (Jq6r p) [])
@[simp] theorem Je6m {p : Nums} : EqI (Jq6m p) (.region (Jq6r p) []) := eqi
def Jtag (p : Nums) : IC := (.seq (.region [⟨(some 1), (.box (.t 0)), none, false⟩, ⟨(some 2), (.asg (.c (.d (.bool false)))), none, false⟩] []) (.seq (.seq (Jq6e p) (.cond (.t 12) (Jq6f p) .skip)) (.seq (.seq (.region [⟨(some 3), (.asg (.c (.d (.int .i64 0)))), none, false⟩] []) (.block 0 (.loop (Jq6l p)))) (.seq (Jq6m p) .ret))))
@[simp] def Jq5w (p : Nums) : List IOp := [qo 8 (.faddr 0 (.t 1)), qo 9 (.load none (.t 8)), qo 10 (.bin .lss (.t 9) (ci 0)), qo 11 (.mov (.t 10)), ⟨(some 12), (.faddr 0 (.t 1)), (some (11, false)), false⟩, ⟨(some 13), (.load none (.t 12)), (some (11, false)), false⟩, ⟨(some 14), (.faddr 1 (.t 1)), (some (11, false)), false⟩, ⟨(some 15), (.load none (.t 14)), (some (11, false)), false⟩, ⟨(some 16), (.bin .gtr (.t 13) (.t 15)), (some (11, false)), false⟩, qo 17 (.pick (.t 11) (.c (.d (.bool true))) (.t 16))]
def Jq5b (p : Nums) : IC := (.region (Jq5w p) [])
@[simp] theorem Je5b {p : Nums} : EqI (Jq5b p) (.region (Jq5w p) []) := eqi
def Jq5m (p : Nums) : IC := (.seq (.region [⟨(some 2), (.asg (.c (.d (.int .i64 9)))), none, false⟩] []) .ret)
@[simp] theorem Je5m {p : Nums} : EqI (Jq5m p) (.seq (.region [⟨(some 2), (.asg (.c (.d (.int .i64 9)))), none, false⟩] []) .ret) := eqi
@[simp] def Jq63 (p : Nums) : List IOp := [qo 18 (.faddr 1 (.t 1)), qo 19 (.load none (.t 18)), qo 20 (.bin .gtr (.t 19) (ci 1048576))]
def Jq5p (p : Nums) : IC := (.region (Jq63 p) [])
@[simp] theorem Je5p {p : Nums} : EqI (Jq5p p) (.region (Jq63 p) []) := eqi
def Jq5q (p : Nums) : IC := (.seq (.region [⟨(some 2), (.asg (.c (.d (.int .i64 6)))), none, false⟩] []) .ret)
@[simp] theorem Je5q {p : Nums} : EqI (Jq5q p) (.seq (.region [⟨(some 2), (.asg (.c (.d (.int .i64 6)))), none, false⟩] []) .ret) := eqi
@[simp] def Jq64 (p : Nums) : List IOp := [qo 21 (.faddr 2 (.t 1)), qo 22 (.load none (.t 21)), qo 23 (.len (.t 22)), qo 24 (.bin .eql (.t 23) (ci 0))]
def Jq5r (p : Nums) : IC := (.region (Jq64 p) [])
@[simp] theorem Je5r {p : Nums} : EqI (Jq5r p) (.region (Jq64 p) []) := eqi
def Jq5s (p : Nums) : IC := (.seq (.region [⟨(some 2), (.asg (.c (.d (.int .i64 14)))), none, false⟩] []) .ret)
@[simp] theorem Je5s {p : Nums} : EqI (Jq5s p) (.seq (.region [⟨(some 2), (.asg (.c (.d (.int .i64 14)))), none, false⟩] []) .ret) := eqi
@[simp] def Jq65 (p : Nums) : List IOp := [qo 25 (.faddr 2 (.t 1)), qo 26 (.load none (.t 25)), qo 27 (.len (.t 26)), qo 28 (.bin .gtr (.t 27) (ci 1048576)), qo 29 (.mov (.t 28)), ⟨(some 30), (.load (some 3) (.t 1)), (some (29, false)), false⟩, ⟨(some 31), (.call p.ref07_Code [(.t 30)]), (some (29, false)), false⟩, ⟨(some 32), (.bin .gtr (.t 31) (ci 1048576)), (some (29, false)), false⟩, qo 33 (.pick (.t 29) (.c (.d (.bool true))) (.t 32))]
def Jq5t (p : Nums) : IC := (.region (Jq65 p) [])
@[simp] theorem Je5t {p : Nums} : EqI (Jq5t p) (.region (Jq65 p) []) := eqi
def Jq5u (p : Nums) : IC := (.seq (.region [⟨(some 2), (.asg (.c (.d (.int .i64 6)))), none, false⟩] []) .ret)
@[simp] theorem Je5u {p : Nums} : EqI (Jq5u p) (.seq (.region [⟨(some 2), (.asg (.c (.d (.int .i64 6)))), none, false⟩] []) .ret) := eqi
@[simp] def Jq66 (p : Nums) : List IOp := [qo 34 (.mov (.t 3)), qo 35 (.faddr 2 (.t 1)), qo 36 (.load none (.t 35)), qo 37 (.len (.t 36)), qo 38 (.bin .lss (.t 34) (.t 37))]
def Jq5v (p : Nums) : IC := (.region (Jq66 p) [])
@[simp] theorem Je5v {p : Nums} : EqI (Jq5v p) (.region (Jq66 p) []) := eqi
@[simp] def Jq5x (p : Nums) : List IOp := [qo 41 (.faddr 2 (.t 1)), qo 42 (.load none (.t 41)), qo 43 (.mov (.t 3)), qo 44 (.iaddr 5 (.t 42) (.t 43)), qo 45 (.load (some 5) (.t 44)), qo 4 (.alloc [.nils, (zi 0), (zi 0), (zi 0), (zi 0)]), qn (.store 5 (.t 4) (.t 45))]
def Jq5c (p : Nums) : IC := (.region (Jq5x p) [])
@[simp] theorem Je5c {p : Nums} : EqI (Jq5c p) (.region (Jq5x p) []) := eqi
@[simp] def Jq5y (p : Nums) : List IOp := [qo 46 (.mov (.t 5)), qo 47 (.faddr 0 (.t 4)), qo 48 (.load none (.t 47)), qo 49 (.len (.t 48)), qo 50 (.bin .lss (.t 46) (.t 49))]
def Jq5d (p : Nums) : IC := (.region (Jq5y p) [])
@[simp] theorem Je5d {p : Nums} : EqI (Jq5d p) (.region (Jq5y p) []) := eqi
@[simp] def Jq5z (p : Nums) : List IOp := [qp 53 (.faddr 0 (.t 4)), qp 54 (.load none (.t 53)), qp 55 (.mov (.t 5)), qp 56 (.iaddr 5 (.t 54) (.t 55)), qp 57 (.load (some 5) (.t 56)), qp 58 (.faddr 1 (.t 1)), qp 59 (.load none (.t 58)), qo 60 (.call p.ref07_Instr [(.t 57), (.t 59)]), qo 6 (.asg (.t 60))]
def Jq5e (p : Nums) : IC := (.region (Jq5z p) [])
@[simp] theorem Je5e {p : Nums} : EqI (Jq5e p) (.region (Jq5z p) []) := eqi
def Jq5f (p : Nums) : IC := (.seq (.region [⟨(some 63), (.mov (.t 6)), none, false⟩, ⟨(some 2), (.asg (.t 63)), none, false⟩] []) .ret)
@[simp] theorem Je5f {p : Nums} : EqI (Jq5f p) (.seq (.region [⟨(some 63), (.mov (.t 6)), none, false⟩, ⟨(some 2), (.asg (.t 63)), none, false⟩] []) .ret) := eqi
def Jq5g (p : Nums) : IC := (.seq (Jq5e p) (.seq (.region [⟨(some 61), (.mov (.t 6)), none, false⟩, ⟨(some 62), (.bin .neq (.t 61) (.c (.d (.int .i64 0)))), none, false⟩] []) (.cond (.t 62) (Jq5f p) .skip)))
@[simp] theorem Je5g {p : Nums} : EqI (Jq5g p) (.seq (Jq5e p) (.seq (.region [⟨(some 61), (.mov (.t 6)), none, false⟩, ⟨(some 62), (.bin .neq (.t 61) (.c (.d (.int .i64 0)))), none, false⟩] []) (.cond (.t 62) (Jq5f p) .skip))) := eqi
@[simp] def Jq60 (p : Nums) : List IOp := [qo 51 (.mov (.t 5)), qo 52 (.bin .add (.t 51) (ci 1)), qo 5 (.asg (.t 52))]
def Jq5h (p : Nums) : IC := (.region (Jq60 p) [])
@[simp] theorem Je5h {p : Nums} : EqI (Jq5h p) (.region (Jq60 p) []) := eqi
def Jq5i (p : Nums) : IC := (.seq (.seq (Jq5d p) (.cond (.t 50) .skip (.exit 2))) (.seq (.block 3 (Jq5g p)) (Jq5h p)))
@[simp] theorem Je5i {p : Nums} : EqI (Jq5i p) (.seq (.seq (Jq5d p) (.cond (.t 50) .skip (.exit 2))) (.seq (.block 3 (Jq5g p)) (Jq5h p))) := eqi
@[simp] def Jq61 (p : Nums) : List IOp := [qo 64 (.faddr 1 (.t 4)), qo 65 (.load (some 4) (.t 64)), qo 66 (.faddr 1 (.t 1)), qo 67 (.load none (.t 66)), qo 68 (.faddr 2 (.t 1)), qo 69 (.load none (.t 68)), qo 70 (.len (.t 69)), qo 71 (.call p.ref07_Term [(.t 65), (.t 67), (.t 70)]), qo 7 (.asg (.t 71))]
def Jq5j (p : Nums) : IC := (.region (Jq61 p) [])
@[simp] theorem Je5j {p : Nums} : EqI (Jq5j p) (.region (Jq61 p) []) := eqi
def Jq5k (p : Nums) : IC := (.seq (.region [⟨(some 74), (.mov (.t 7)), none, false⟩, ⟨(some 2), (.asg (.t 74)), none, false⟩] []) .ret)
@[simp] theorem Je5k {p : Nums} : EqI (Jq5k p) (.seq (.region [⟨(some 74), (.mov (.t 7)), none, false⟩, ⟨(some 2), (.asg (.t 74)), none, false⟩] []) .ret) := eqi
def Jq5l (p : Nums) : IC := (.seq (Jq5c p) (.seq (.seq (.region [⟨(some 5), (.asg (.c (.d (.int .i64 0)))), none, false⟩] []) (.block 2 (.loop (Jq5i p)))) (.seq (Jq5j p) (.seq (.region [⟨(some 72), (.mov (.t 7)), none, false⟩, ⟨(some 73), (.bin .neq (.t 72) (.c (.d (.int .i64 0)))), none, false⟩] []) (.cond (.t 73) (Jq5k p) .skip)))))
@[simp] theorem Je5l {p : Nums} : EqI (Jq5l p) (.seq (Jq5c p) (.seq (.seq (.region [⟨(some 5), (.asg (.c (.d (.int .i64 0)))), none, false⟩] []) (.block 2 (.loop (Jq5i p)))) (.seq (Jq5j p) (.seq (.region [⟨(some 72), (.mov (.t 7)), none, false⟩, ⟨(some 73), (.bin .neq (.t 72) (.c (.d (.int .i64 0)))), none, false⟩] []) (.cond (.t 73) (Jq5k p) .skip))))) := eqi
@[simp] def Jq62 (p : Nums) : List IOp := [qo 39 (.mov (.t 3)), qo 40 (.bin .add (.t 39) (ci 1)), qo 3 (.asg (.t 40))]
def Jq5n (p : Nums) : IC := (.region (Jq62 p) [])
@[simp] theorem Je5n {p : Nums} : EqI (Jq5n p) (.region (Jq62 p) []) := eqi
def Jq5o (p : Nums) : IC := (.seq (.seq (Jq5v p) (.cond (.t 38) .skip (.exit 0))) (.seq (.block 1 (Jq5l p)) (Jq5n p)))
@[simp] theorem Je5o {p : Nums} : EqI (Jq5o p) (.seq (.seq (Jq5v p) (.cond (.t 38) .skip (.exit 0))) (.seq (.block 1 (Jq5l p)) (Jq5n p))) := eqi
def Jtae (p : Nums) : IC := (.seq (.region [⟨(some 1), (.box (.t 0)), none, false⟩, ⟨(some 2), (.asg (.c (.d (.int .i64 0)))), none, false⟩] []) (.seq (.seq (Jq5b p) (.cond (.t 17) (Jq5m p) .skip)) (.seq (.seq (Jq5p p) (.cond (.t 20) (Jq5q p) .skip)) (.seq (.seq (Jq5r p) (.cond (.t 24) (Jq5s p) .skip)) (.seq (.seq (Jq5t p) (.cond (.t 33) (Jq5u p) .skip)) (.seq (.seq (.region [⟨(some 3), (.asg (.c (.d (.int .i64 0)))), none, false⟩] []) (.block 0 (.loop (Jq5o p)))) (.seq (.region [⟨(some 2), (.asg (.c (.d (.int .i64 0)))), none, false⟩] []) .ret)))))))
@[simp] def Jqaq (p : Nums) : List IOp := [qo 7 (.mov (.t 5)), qo 8 (.faddr 0 (.t 2)), qo 9 (.load none (.t 8)), qo 10 (.len (.t 9)), qo 11 (.bin .lss (.t 7) (.t 10))]
def Jqai (p : Nums) : IC := (.region (Jqaq p) [])
@[simp] theorem Jeai {p : Nums} : EqI (Jqai p) (.region (Jqaq p) []) := eqi
@[simp] def Jqar (p : Nums) : List IOp := [qo 14 (.faddr 0 (.t 2)), qo 15 (.load none (.t 14)), qo 16 (.mov (.t 5)), qo 17 (.iaddr 5 (.t 15) (.t 16)), qo 18 (.load (some 5) (.t 17)), qo 6 (.alloc [(zi 0), (zi 0), (zi 0), (zi 0), (zi 0)]), qn (.store 5 (.t 6) (.t 18))]
def Jqaj (p : Nums) : IC := (.region (Jqar p) [])
@[simp] theorem Jeaj {p : Nums} : EqI (Jqaj p) (.region (Jqar p) []) := eqi
@[simp] def Jqas (p : Nums) : List IOp := [qo 19 (.faddr 0 (.t 6)), qo 20 (.load none (.t 19)), qo 21 (.call p.ref05_UsesA [(.t 20)]), qo 22 (.mov (.t 21)), ⟨(some 23), (.faddr 2 (.t 6)), (some (22, true)), false⟩, ⟨(some 24), (.load none (.t 23)), (some (22, true)), false⟩, ⟨(some 25), (.mov (.t 1)), (some (22, true)), false⟩, ⟨(some 26), (.bin .eql (.t 24) (.t 25)), (some (22, true)), false⟩, qo 27 (.pick (.t 22) (.t 26) (.c (.d (.bool false)))), qo 28 (.mov (.t 27)), ⟨(some 29), (.faddr 0 (.t 6)), (some (28, false)), false⟩, ⟨(some 30), (.load none (.t 29)), (some (28, false)), false⟩, ⟨(some 31), (.call p.ref05_UsesB [(.t 30)]), (some (28, false)), false⟩, ⟨(some 32), (.mov (.t 31)), (some (28, false)), false⟩, ⟨(some 33), (.faddr 3 (.t 6)), (some (32, true)), false⟩, ⟨(some 34), (.load none (.t 33)), (some (32, true)), false⟩, ⟨(some 35), (.mov (.t 1)), (some (32, true)), false⟩, ⟨(some 36), (.bin .eql (.t 34) (.t 35)), (some (32, true)), false⟩, ⟨(some 37), (.pick (.t 32) (.t 36) (.c (.d (.bool false)))), (some (28, false)), false⟩, qo 38 (.pick (.t 28) (.c (.d (.bool true))) (.t 37)), qo 39 (.mov (.t 38)), ⟨(some 40), (.load (some 5) (.t 2)), (some (39, true)), false⟩, ⟨(some 41), (.mov (.t 1)), (some (39, true)), false⟩, ⟨(some 42), (.mov (.t 5)), (some (39, true)), false⟩, ⟨(some 43), (.call p.ref23_Defines [(.t 40), (.t 41), (.t 42)]), (some (39, true)), false⟩, ⟨(some 44), (.un .not (.t 43)), (some (39, true)), false⟩, qo 45 (.pick (.t 39) (.t 44) (.c (.d (.bool false))))]
def Jqak (p : Nums) : IC := (.region (Jqas p) [])
@[simp] theorem Jeak {p : Nums} : EqI (Jqak p) (.region (Jqas p) []) := eqi
def Jqal (p : Nums) : IC := (.seq (.region [⟨(some 4), (.asg (.c (.d (.bool true)))), none, false⟩] []) .ret)
@[simp] theorem Jeal {p : Nums} : EqI (Jqal p) (.seq (.region [⟨(some 4), (.asg (.c (.d (.bool true)))), none, false⟩] []) .ret) := eqi
def Jqam (p : Nums) : IC := (.seq (Jqaj p) (.seq (Jqak p) (.cond (.t 45) (Jqal p) .skip)))
@[simp] theorem Jeam {p : Nums} : EqI (Jqam p) (.seq (Jqaj p) (.seq (Jqak p) (.cond (.t 45) (Jqal p) .skip))) := eqi
@[simp] def Jqat (p : Nums) : List IOp := [qo 12 (.mov (.t 5)), qo 13 (.bin .add (.t 12) (ci 1)), qo 5 (.asg (.t 13))]
def Jqan (p : Nums) : IC := (.region (Jqat p) [])
@[simp] theorem Jean {p : Nums} : EqI (Jqan p) (.region (Jqat p) []) := eqi
def Jqao (p : Nums) : IC := (.seq (.seq (Jqai p) (.cond (.t 11) .skip (.exit 0))) (.seq (.block 1 (Jqam p)) (Jqan p)))
@[simp] theorem Jeao {p : Nums} : EqI (Jqao p) (.seq (.seq (Jqai p) (.cond (.t 11) .skip (.exit 0))) (.seq (.block 1 (Jqam p)) (Jqan p))) := eqi
@[simp] def Jqau (p : Nums) : List IOp := [qo 46 (.faddr 1 (.t 2)), qo 47 (.faddr 0 (.t 46)), qo 48 (.load none (.t 47)), qo 49 (.bin .neq (.t 48) (ci 1)), qo 50 (.mov (.t 49)), ⟨(some 51), (.faddr 1 (.t 2)), (some (50, true)), false⟩, ⟨(some 52), (.faddr 1 (.t 51)), (some (50, true)), false⟩, ⟨(some 53), (.load none (.t 52)), (some (50, true)), false⟩, ⟨(some 54), (.mov (.t 1)), (some (50, true)), false⟩, ⟨(some 55), (.bin .eql (.t 53) (.t 54)), (some (50, true)), false⟩, qo 56 (.pick (.t 50) (.t 55) (.c (.d (.bool false)))), qo 57 (.mov (.t 56)), ⟨(some 58), (.load (some 5) (.t 2)), (some (57, true)), false⟩, ⟨(some 59), (.mov (.t 1)), (some (57, true)), false⟩, ⟨(some 60), (.faddr 0 (.t 2)), (some (57, true)), false⟩, ⟨(some 61), (.load none (.t 60)), (some (57, true)), false⟩, ⟨(some 62), (.len (.t 61)), (some (57, true)), false⟩, ⟨(some 63), (.call p.ref23_Defines [(.t 58), (.t 59), (.t 62)]), (some (57, true)), false⟩, ⟨(some 64), (.un .not (.t 63)), (some (57, true)), false⟩, qo 65 (.pick (.t 57) (.t 64) (.c (.d (.bool false)))), qo 4 (.asg (.t 65))]
def Jqap (p : Nums) : IC := (.region (Jqau p) [])
@[simp] theorem Jeap {p : Nums} : EqI (Jqap p) (.region (Jqau p) []) := eqi
def Jtar (p : Nums) : IC := (.seq (.region [⟨(some 2), (.box (.t 0)), none, false⟩, ⟨(some 4), (.asg (.c (.d (.bool false)))), none, false⟩] []) (.seq (.seq (.region [⟨(some 5), (.asg (.c (.d (.int .i64 0)))), none, false⟩] []) (.block 0 (.loop (Jqao p)))) (.seq (Jqap p) .ret)))
@[simp] def Jq8k (p : Nums) : List IOp := [qo 8 (.mov (.t 7)), qo 9 (.mov (.t 2)), qo 10 (.bin .lss (.t 8) (.t 9))]
def Jq8e (p : Nums) : IC := (.region (Jq8k p) [])
@[simp] theorem Je8e {p : Nums} : EqI (Jq8e p) (.region (Jq8k p) []) := eqi
@[simp] def Jq8l (p : Nums) : List IOp := [qo 13 (.faddr 0 (.t 3)), qo 14 (.load none (.t 13)), qo 15 (.mov (.t 7)), qo 16 (.iaddr 5 (.t 14) (.t 15)), qo 17 (.faddr 0 (.t 16)), qo 18 (.load none (.t 17)), qo 19 (.call p.ref05_UsesD [(.t 18)]), qo 20 (.mov (.t 19)), ⟨(some 21), (.faddr 0 (.t 3)), (some (20, true)), false⟩, ⟨(some 22), (.load none (.t 21)), (some (20, true)), false⟩, ⟨(some 23), (.mov (.t 7)), (some (20, true)), false⟩, ⟨(some 24), (.iaddr 5 (.t 22) (.t 23)), (some (20, true)), false⟩, ⟨(some 25), (.faddr 1 (.t 24)), (some (20, true)), false⟩, ⟨(some 26), (.load none (.t 25)), (some (20, true)), false⟩, ⟨(some 27), (.mov (.t 1)), (some (20, true)), false⟩, ⟨(some 28), (.bin .eql (.t 26) (.t 27)), (some (20, true)), false⟩, qo 29 (.pick (.t 20) (.t 28) (.c (.d (.bool false))))]
def Jq8f (p : Nums) : IC := (.region (Jq8l p) [])
@[simp] theorem Je8f {p : Nums} : EqI (Jq8f p) (.region (Jq8l p) []) := eqi
def Jq8g (p : Nums) : IC := (.seq (.region [⟨(some 6), (.asg (.c (.d (.bool true)))), none, false⟩] []) .ret)
@[simp] theorem Je8g {p : Nums} : EqI (Jq8g p) (.seq (.region [⟨(some 6), (.asg (.c (.d (.bool true)))), none, false⟩] []) .ret) := eqi
def Jq8h (p : Nums) : IC := (.seq (Jq8f p) (.cond (.t 29) (Jq8g p) .skip))
@[simp] theorem Je8h {p : Nums} : EqI (Jq8h p) (.seq (Jq8f p) (.cond (.t 29) (Jq8g p) .skip)) := eqi
@[simp] def Jq8m (p : Nums) : List IOp := [qo 11 (.mov (.t 7)), qo 12 (.bin .add (.t 11) (ci 1)), qo 7 (.asg (.t 12))]
def Jq8i (p : Nums) : IC := (.region (Jq8m p) [])
@[simp] theorem Je8i {p : Nums} : EqI (Jq8i p) (.region (Jq8m p) []) := eqi
def Jq8j (p : Nums) : IC := (.seq (.seq (Jq8e p) (.cond (.t 10) .skip (.exit 0))) (.seq (.block 1 (Jq8h p)) (Jq8i p)))
@[simp] theorem Je8j {p : Nums} : EqI (Jq8j p) (.seq (.seq (Jq8e p) (.cond (.t 10) .skip (.exit 0))) (.seq (.block 1 (Jq8h p)) (Jq8i p))) := eqi
def Jtam (p : Nums) : IC := (.seq (.region [⟨(some 3), (.box (.t 0)), none, false⟩, ⟨(some 6), (.asg (.c (.d (.bool false)))), none, false⟩] []) (.seq (.seq (.region [⟨(some 7), (.asg (.c (.d (.int .i64 0)))), none, false⟩] []) (.block 0 (.loop (Jq8j p)))) (.seq (.region [⟨(some 6), (.asg (.c (.d (.bool false)))), none, false⟩] []) .ret)))
@[simp] def Jq7c (p : Nums) : List IOp := [qo 6 (.mov (.t 0)), qo 7 (.len (.t 6)), qo 8 (.mov (.t 1)), qo 9 (.len (.t 8)), qo 10 (.bin .neq (.t 7) (.t 9))]
def Jq74 (p : Nums) : IC := (.region (Jq7c p) [])
@[simp] theorem Je74 {p : Nums} : EqI (Jq74 p) (.region (Jq7c p) []) := eqi
def Jq75 (p : Nums) : IC := (.seq (.region [⟨(some 4), (.asg (.c (.d (.bool false)))), none, false⟩] []) .ret)
@[simp] theorem Je75 {p : Nums} : EqI (Jq75 p) (.seq (.region [⟨(some 4), (.asg (.c (.d (.bool false)))), none, false⟩] []) .ret) := eqi
@[simp] def Jq7d (p : Nums) : List IOp := [qo 11 (.mov (.t 5)), qo 12 (.mov (.t 0)), qo 13 (.len (.t 12)), qo 14 (.bin .lss (.t 11) (.t 13))]
def Jq76 (p : Nums) : IC := (.region (Jq7d p) [])
@[simp] theorem Je76 {p : Nums} : EqI (Jq76 p) (.region (Jq7d p) []) := eqi
@[simp] def Jq7e (p : Nums) : List IOp := [qp 17 (.mov (.t 0)), qp 18 (.mov (.t 5)), qp 19 (.iaddr 1 (.t 17) (.t 18)), qp 20 (.load none (.t 19)), qp 21 (.mov (.t 1)), qp 22 (.mov (.t 5)), qp 23 (.iaddr 1 (.t 21) (.t 22)), qp 24 (.load none (.t 23)), qo 25 (.bin .neq (.t 20) (.t 24))]
def Jq77 (p : Nums) : IC := (.region (Jq7e p) [])
@[simp] theorem Je77 {p : Nums} : EqI (Jq77 p) (.region (Jq7e p) []) := eqi
def Jq78 (p : Nums) : IC := (.seq (.region [⟨(some 4), (.asg (.c (.d (.bool false)))), none, false⟩] []) .ret)
@[simp] theorem Je78 {p : Nums} : EqI (Jq78 p) (.seq (.region [⟨(some 4), (.asg (.c (.d (.bool false)))), none, false⟩] []) .ret) := eqi
def Jq79 (p : Nums) : IC := (.seq (Jq77 p) (.cond (.t 25) (Jq78 p) .skip))
@[simp] theorem Je79 {p : Nums} : EqI (Jq79 p) (.seq (Jq77 p) (.cond (.t 25) (Jq78 p) .skip)) := eqi
@[simp] def Jq7f (p : Nums) : List IOp := [qo 15 (.mov (.t 5)), qo 16 (.bin .add (.t 15) (ci 1)), qo 5 (.asg (.t 16))]
def Jq7a (p : Nums) : IC := (.region (Jq7f p) [])
@[simp] theorem Je7a {p : Nums} : EqI (Jq7a p) (.region (Jq7f p) []) := eqi
def Jq7b (p : Nums) : IC := (.seq (.seq (Jq76 p) (.cond (.t 14) .skip (.exit 0))) (.seq (.block 1 (Jq79 p)) (Jq7a p)))
@[simp] theorem Je7b {p : Nums} : EqI (Jq7b p) (.seq (.seq (Jq76 p) (.cond (.t 14) .skip (.exit 0))) (.seq (.block 1 (Jq79 p)) (Jq7a p))) := eqi
def Jtai (p : Nums) : IC := (.seq (.region [⟨(some 4), (.asg (.c (.d (.bool false)))), none, false⟩] []) (.seq (.seq (Jq74 p) (.cond (.t 10) (Jq75 p) .skip)) (.seq (.seq (.region [⟨(some 5), (.asg (.c (.d (.int .i64 0)))), none, false⟩] []) (.block 0 (.loop (Jq7b p)))) (.seq (.region [⟨(some 4), (.asg (.c (.d (.bool true)))), none, false⟩] []) .ret))))
@[simp] def Jq27 (p : Nums) : List IOp := [qo 6 (.load (some 5) (.t 1)), qo 7 (.call p.liveness_scan [(.t 6)]), qo 5 (.mov (.t 7)), qo 8 (.ext (.t 5) 0), qo 9 (.ext (.t 5) 1), qo 3 (.asg (.t 8)), qo 4 (.asg (.t 9))]
def Jq25 (p : Nums) : IC := (.region (Jq27 p) [])
@[simp] theorem Je25 {p : Nums} : EqI (Jq25 p) (.region (Jq27 p) []) := eqi
@[simp] def Jq28 (p : Nums) : List IOp := [qo 10 (.mov (.t 3)), qo 11 (.call p.liveness_set_sorted [(.t 10)]), qo 2 (.asg (.t 11))]
def Jq26 (p : Nums) : IC := (.region (Jq28 p) [])
@[simp] theorem Je26 {p : Nums} : EqI (Jq26 p) (.region (Jq28 p) []) := eqi
def Jta3 (p : Nums) : IC := (.seq (.region [⟨(some 1), (.box (.t 0)), none, false⟩, ⟨(some 2), (.asg (.c .nils)), none, false⟩] []) (.seq (Jq25 p) (.seq (Jq26 p) .ret)))
@[simp] def Jq1n (p : Nums) : List IOp := [qo 6 (.load (some 5) (.t 1)), qo 7 (.call p.liveness_scan [(.t 6)]), qo 5 (.mov (.t 7)), qo 8 (.ext (.t 5) 0), qo 9 (.ext (.t 5) 1), qo 3 (.asg (.t 8)), qo 4 (.asg (.t 9))]
def Jq1l (p : Nums) : IC := (.region (Jq1n p) [])
@[simp] theorem Je1l {p : Nums} : EqI (Jq1l p) (.region (Jq1n p) []) := eqi
@[simp] def Jq1o (p : Nums) : List IOp := [qo 10 (.mov (.t 4)), qo 11 (.call p.liveness_set_sorted [(.t 10)]), qo 2 (.asg (.t 11))]
def Jq1m (p : Nums) : IC := (.region (Jq1o p) [])
@[simp] theorem Je1m {p : Nums} : EqI (Jq1m p) (.region (Jq1o p) []) := eqi
def Jta0 (p : Nums) : IC := (.seq (.region [⟨(some 1), (.box (.t 0)), none, false⟩, ⟨(some 2), (.asg (.c .nils)), none, false⟩] []) (.seq (Jq1l p) (.seq (Jq1m p) .ret)))
@[simp] def Jqae (p : Nums) : List IOp := [qo 6 (.mov (.t 0)), qo 7 (.len (.t 6)), qo 8 (.mov (.t 1)), qo 9 (.len (.t 8)), qo 10 (.bin .neq (.t 7) (.t 9))]
def Jqa6 (p : Nums) : IC := (.region (Jqae p) [])
@[simp] theorem Jea6 {p : Nums} : EqI (Jqa6 p) (.region (Jqae p) []) := eqi
def Jqa7 (p : Nums) : IC := (.seq (.region [⟨(some 4), (.asg (.c (.d (.bool false)))), none, false⟩] []) .ret)
@[simp] theorem Jea7 {p : Nums} : EqI (Jqa7 p) (.seq (.region [⟨(some 4), (.asg (.c (.d (.bool false)))), none, false⟩] []) .ret) := eqi
@[simp] def Jqaf (p : Nums) : List IOp := [qo 11 (.mov (.t 5)), qo 12 (.mov (.t 0)), qo 13 (.len (.t 12)), qo 14 (.bin .lss (.t 11) (.t 13))]
def Jqa8 (p : Nums) : IC := (.region (Jqaf p) [])
@[simp] theorem Jea8 {p : Nums} : EqI (Jqa8 p) (.region (Jqaf p) []) := eqi
@[simp] def Jqag (p : Nums) : List IOp := [qp 17 (.mov (.t 0)), qp 18 (.mov (.t 5)), qp 19 (.iaddr 1 (.t 17) (.t 18)), qp 20 (.load none (.t 19)), qp 21 (.mov (.t 1)), qp 22 (.mov (.t 5)), qp 23 (.iaddr 1 (.t 21) (.t 22)), qp 24 (.load none (.t 23)), qo 25 (.call p.ref07_Numbers [(.t 20), (.t 24)]), qo 26 (.un .not (.t 25))]
def Jqa9 (p : Nums) : IC := (.region (Jqag p) [])
@[simp] theorem Jea9 {p : Nums} : EqI (Jqa9 p) (.region (Jqag p) []) := eqi
def Jqaa (p : Nums) : IC := (.seq (.region [⟨(some 4), (.asg (.c (.d (.bool false)))), none, false⟩] []) .ret)
@[simp] theorem Jeaa {p : Nums} : EqI (Jqaa p) (.seq (.region [⟨(some 4), (.asg (.c (.d (.bool false)))), none, false⟩] []) .ret) := eqi
def Jqab (p : Nums) : IC := (.seq (Jqa9 p) (.cond (.t 26) (Jqaa p) .skip))
@[simp] theorem Jeab {p : Nums} : EqI (Jqab p) (.seq (Jqa9 p) (.cond (.t 26) (Jqaa p) .skip)) := eqi
@[simp] def Jqah (p : Nums) : List IOp := [qo 15 (.mov (.t 5)), qo 16 (.bin .add (.t 15) (ci 1)), qo 5 (.asg (.t 16))]
def Jqac (p : Nums) : IC := (.region (Jqah p) [])
@[simp] theorem Jeac {p : Nums} : EqI (Jqac p) (.region (Jqah p) []) := eqi
def Jqad (p : Nums) : IC := (.seq (.seq (Jqa8 p) (.cond (.t 14) .skip (.exit 0))) (.seq (.block 1 (Jqab p)) (Jqac p)))
@[simp] theorem Jead {p : Nums} : EqI (Jqad p) (.seq (.seq (Jqa8 p) (.cond (.t 14) .skip (.exit 0))) (.seq (.block 1 (Jqab p)) (Jqac p))) := eqi
def Jtaq (p : Nums) : IC := (.seq (.region [⟨(some 4), (.asg (.c (.d (.bool false)))), none, false⟩] []) (.seq (.seq (Jqa6 p) (.cond (.t 10) (Jqa7 p) .skip)) (.seq (.seq (.region [⟨(some 5), (.asg (.c (.d (.int .i64 0)))), none, false⟩] []) (.block 0 (.loop (Jqad p)))) (.seq (.region [⟨(some 4), (.asg (.c (.d (.bool true)))), none, false⟩] []) .ret))))
@[simp] def Jq1t (p : Nums) : List IOp := [qo 6 (.load (some 3) (.t 1)), qo 7 (.call p.liveness_solve [(.t 6)]), qo 8 (.len (.t 7)), qo 9 (.mov (ci 0))]
def Jq1p (p : Nums) : IC := (.region (Jq1t p) [])
@[simp] theorem Je1p {p : Nums} : EqI (Jq1p p) (.region (Jq1t p) []) := eqi
@[simp] def Jq1u (p : Nums) : List IOp := [qo 11 (.iaddr 1 (.t 7) (.t 9)), qo 12 (.load none (.t 11)), qo 5 (.asg (.t 12))]
def Jq1q (p : Nums) : IC := (.region (Jq1u p) [])
@[simp] theorem Je1q {p : Nums} : EqI (Jq1q p) (.region (Jq1u p) []) := eqi
@[simp] def Jq1v (p : Nums) : List IOp := [qo 13 (.mov (.t 3)), qo 14 (.mov (.t 5)), qo 15 (.call p.liveness_set_sorted [(.t 14)]), qo 16 (.bslice 1 1 [(.sl [])] [(0, (.t 15))]), qo 17 (.app 1 24 (.t 13) (.t 16)), qo 3 (.asg (.t 17))]
def Jq1r (p : Nums) : IC := (.region (Jq1v p) [])
@[simp] theorem Je1r {p : Nums} : EqI (Jq1r p) (.region (Jq1v p) []) := eqi
def Jq1s (p : Nums) : IC := (.seq (.region [⟨(some 10), (.bin .lss (.t 9) (.t 8)), none, false⟩] []) (.seq (.cond (.t 10) .skip (.exit 0)) (.seq (.block 1 (.seq (Jq1q p) (Jq1r p))) (.region [⟨(some 18), (.bin .add (.t 9) (.c (.d (.int .i64 1)))), none, false⟩, ⟨(some 9), (.mov (.t 18)), none, false⟩] []))))
@[simp] theorem Je1s {p : Nums} : EqI (Jq1s p) (.seq (.region [⟨(some 10), (.bin .lss (.t 9) (.t 8)), none, false⟩] []) (.seq (.cond (.t 10) .skip (.exit 0)) (.seq (.block 1 (.seq (Jq1q p) (Jq1r p))) (.region [⟨(some 18), (.bin .add (.t 9) (.c (.d (.int .i64 1)))), none, false⟩, ⟨(some 9), (.mov (.t 18)), none, false⟩] [])))) := eqi
def Jta1 (p : Nums) : IC := (.seq (.region [⟨(some 1), (.box (.t 0)), none, false⟩, ⟨(some 2), (.asg (.c .nils)), none, false⟩] []) (.seq (.region [⟨(some 3), (.asg (.c .nils)), none, false⟩] []) (.seq (.seq (Jq1p p) (.block 0 (.loop (Jq1s p)))) (.seq (.region [⟨(some 19), (.mov (.t 3)), none, false⟩, ⟨(some 2), (.asg (.t 19)), none, false⟩] []) .ret))))
@[simp] def Jq97 (p : Nums) : List IOp := [qo 7 (.faddr 2 (.t 1)), qo 8 (.load none (.t 7)), qo 9 (.len (.t 8)), qo 10 (.mkslice 1 24 [(.sl [])] (.t 9) (.t 9)), qo 3 (.asg (.t 10))]
def Jq8w (p : Nums) : IC := (.region (Jq97 p) [])
@[simp] theorem Je8w {p : Nums} : EqI (Jq8w p) (.region (Jq97 p) []) := eqi
@[simp] def Jq99 (p : Nums) : List IOp := [qo 11 (.mov (.t 4)), qo 12 (.faddr 1 (.t 1)), qo 13 (.load none (.t 12)), qo 14 (.bin .lss (.t 11) (.t 13))]
def Jq8z (p : Nums) : IC := (.region (Jq99 p) [])
@[simp] theorem Je8z {p : Nums} : EqI (Jq8z p) (.region (Jq99 p) []) := eqi
@[simp] def Jq9a (p : Nums) : List IOp := [qo 17 (.load (some 3) (.t 1)), qo 18 (.mov (.t 4)), qo 19 (.call p.ref23_live [(.t 17), (.t 18)]), qo 5 (.asg (.t 19))]
def Jq90 (p : Nums) : IC := (.region (Jq9a p) [])
@[simp] theorem Je90 {p : Nums} : EqI (Jq90 p) (.region (Jq9a p) []) := eqi
@[simp] def Jq9b (p : Nums) : List IOp := [qo 20 (.mov (.t 6)), qo 21 (.mov (.t 5)), qo 22 (.len (.t 21)), qo 23 (.bin .lss (.t 20) (.t 22))]
def Jq91 (p : Nums) : IC := (.region (Jq9b p) [])
@[simp] theorem Je91 {p : Nums} : EqI (Jq91 p) (.region (Jq9b p) []) := eqi
@[simp] def Jq9c (p : Nums) : List IOp := [qo 26 (.mov (.t 5)), qo 27 (.mov (.t 6)), qo 28 (.iaddr 1 (.t 26) (.t 27)), qo 29 (.load none (.t 28))]
def Jq92 (p : Nums) : IC := (.region (Jq9c p) [])
@[simp] theorem Je92 {p : Nums} : EqI (Jq92 p) (.region (Jq9c p) []) := eqi
@[simp] def Jq9d (p : Nums) : List IOp := [qo 30 (.mov (.t 3)), qo 31 (.mov (.t 6)), qo 32 (.mov (.t 3)), qo 33 (.mov (.t 6)), qo 34 (.iaddr 1 (.t 32) (.t 33)), qo 35 (.load none (.t 34)), qo 36 (.mov (.t 4)), qo 37 (.bslice 1 1 [(.int .i64 0)] [(0, (.t 36))]), qo 38 (.app 1 8 (.t 35) (.t 37)), qo 39 (.iaddr 1 (.t 30) (.t 31)), qn (.store 1 (.t 39) (.t 38))]
def Jq93 (p : Nums) : IC := (.region (Jq9d p) [])
@[simp] theorem Je93 {p : Nums} : EqI (Jq93 p) (.region (Jq9d p) []) := eqi
@[simp] def Jq9e (p : Nums) : List IOp := [qo 24 (.mov (.t 6)), qo 25 (.bin .add (.t 24) (ci 1)), qo 6 (.asg (.t 25))]
def Jq94 (p : Nums) : IC := (.region (Jq9e p) [])
@[simp] theorem Je94 {p : Nums} : EqI (Jq94 p) (.region (Jq9e p) []) := eqi
def Jq95 (p : Nums) : IC := (.seq (.seq (Jq91 p) (.cond (.t 23) .skip (.exit 2))) (.seq (.block 3 (.seq (Jq92 p) (.cond (.t 29) (Jq93 p) .skip))) (Jq94 p)))
@[simp] theorem Je95 {p : Nums} : EqI (Jq95 p) (.seq (.seq (Jq91 p) (.cond (.t 23) .skip (.exit 2))) (.seq (.block 3 (.seq (Jq92 p) (.cond (.t 29) (Jq93 p) .skip))) (Jq94 p))) := eqi
def Jq96 (p : Nums) : IC := (.seq (Jq90 p) (.seq (.region [⟨(some 6), (.asg (.c (.d (.int .i64 0)))), none, false⟩] []) (.block 2 (.loop (Jq95 p)))))
@[simp] theorem Je96 {p : Nums} : EqI (Jq96 p) (.seq (Jq90 p) (.seq (.region [⟨(some 6), (.asg (.c (.d (.int .i64 0)))), none, false⟩] []) (.block 2 (.loop (Jq95 p))))) := eqi
@[simp] def Jq98 (p : Nums) : List IOp := [qo 15 (.mov (.t 4)), qo 16 (.bin .add (.t 15) (ci 1)), qo 4 (.asg (.t 16))]
def Jq8x (p : Nums) : IC := (.region (Jq98 p) [])
@[simp] theorem Je8x {p : Nums} : EqI (Jq8x p) (.region (Jq98 p) []) := eqi
def Jq8y (p : Nums) : IC := (.seq (.seq (Jq8z p) (.cond (.t 14) .skip (.exit 0))) (.seq (.block 1 (Jq96 p)) (Jq8x p)))
@[simp] theorem Je8y {p : Nums} : EqI (Jq8y p) (.seq (.seq (Jq8z p) (.cond (.t 14) .skip (.exit 0))) (.seq (.block 1 (Jq96 p)) (Jq8x p))) := eqi
def Jtao (p : Nums) : IC := (.seq (.region [⟨(some 1), (.box (.t 0)), none, false⟩, ⟨(some 2), (.asg (.c .nils)), none, false⟩] []) (.seq (Jq8w p) (.seq (.seq (.region [⟨(some 4), (.asg (.c (.d (.int .i64 0)))), none, false⟩] []) (.block 0 (.loop (Jq8y p)))) (.seq (.region [⟨(some 40), (.mov (.t 3)), none, false⟩, ⟨(some 2), (.asg (.t 40)), none, false⟩] []) .ret))))
@[simp] def Jq21 (p : Nums) : List IOp := [qo 7 (.load (some 3) (.t 1)), qo 8 (.call p.liveness_solve [(.t 7)]), qo 3 (.asg (.t 8))]
def Jq1w (p : Nums) : IC := (.region (Jq21 p) [])
@[simp] theorem Je1w {p : Nums} : EqI (Jq1w p) (.region (Jq21 p) []) := eqi
@[simp] def Jq22 (p : Nums) : List IOp := [qo 9 (.faddr 2 (.t 1)), qo 10 (.load none (.t 9)), qo 11 (.len (.t 10)), qo 12 (.mov (ci 0))]
def Jq1x (p : Nums) : IC := (.region (Jq22 p) [])
@[simp] theorem Je1x {p : Nums} : EqI (Jq1x p) (.region (Jq22 p) []) := eqi
@[simp] def Jq23 (p : Nums) : List IOp := [qo 14 (.iaddr 5 (.t 10) (.t 12)), qo 15 (.load (some 5) (.t 14)), qo 6 (.alloc [.nils, (zi 0), (zi 0), (zi 0), (zi 0)]), qn (.store 5 (.t 6) (.t 15))]
def Jq1y (p : Nums) : IC := (.region (Jq23 p) [])
@[simp] theorem Je1y {p : Nums} : EqI (Jq1y p) (.region (Jq23 p) []) := eqi
@[simp] def Jq24 (p : Nums) : List IOp := [qo 16 (.mov (.t 4)), qo 17 (.mov (.t 3)), qo 18 (.load (some 5) (.t 6)), qo 19 (.call p.liveness_exit [(.t 17), (.t 18)]), qo 20 (.call p.liveness_set_sorted [(.t 19)]), qo 21 (.bslice 1 1 [(.sl [])] [(0, (.t 20))]), qo 22 (.app 1 24 (.t 16) (.t 21)), qo 4 (.asg (.t 22))]
def Jq1z (p : Nums) : IC := (.region (Jq24 p) [])
@[simp] theorem Je1z {p : Nums} : EqI (Jq1z p) (.region (Jq24 p) []) := eqi
def Jq20 (p : Nums) : IC := (.seq (.region [⟨(some 13), (.bin .lss (.t 12) (.t 11)), none, false⟩] []) (.seq (.cond (.t 13) .skip (.exit 0)) (.seq (.block 1 (.seq (Jq1y p) (Jq1z p))) (.region [⟨(some 23), (.bin .add (.t 12) (.c (.d (.int .i64 1)))), none, false⟩, ⟨(some 12), (.mov (.t 23)), none, false⟩] []))))
@[simp] theorem Je20 {p : Nums} : EqI (Jq20 p) (.seq (.region [⟨(some 13), (.bin .lss (.t 12) (.t 11)), none, false⟩] []) (.seq (.cond (.t 13) .skip (.exit 0)) (.seq (.block 1 (.seq (Jq1y p) (Jq1z p))) (.region [⟨(some 23), (.bin .add (.t 12) (.c (.d (.int .i64 1)))), none, false⟩, ⟨(some 12), (.mov (.t 23)), none, false⟩] [])))) := eqi
def Jta2 (p : Nums) : IC := (.seq (.region [⟨(some 1), (.box (.t 0)), none, false⟩, ⟨(some 2), (.asg (.c .nils)), none, false⟩] []) (.seq (Jq1w p) (.seq (.region [⟨(some 4), (.asg (.c .nils)), none, false⟩] []) (.seq (.seq (Jq1x p) (.block 0 (.loop (Jq20 p)))) (.seq (.region [⟨(some 24), (.mov (.t 4)), none, false⟩, ⟨(some 2), (.asg (.t 24)), none, false⟩] []) .ret)))))
@[simp] def Jq9v (p : Nums) : List IOp := [qo 10 (.load (some 3) (.t 1)), qo 11 (.call p.ref23_In [(.t 10)]), qo 3 (.asg (.t 11))]
def Jq9f (p : Nums) : IC := (.region (Jq9v p) [])
@[simp] theorem Je9f {p : Nums} : EqI (Jq9f p) (.region (Jq9v p) []) := eqi
@[simp] def Jq9z (p : Nums) : List IOp := [qo 12 (.faddr 2 (.t 1)), qo 13 (.load none (.t 12)), qo 14 (.len (.t 13)), qo 15 (.mkslice 1 24 [(.sl [])] (.t 14) (.t 14)), qo 4 (.asg (.t 15))]
def Jq9n (p : Nums) : IC := (.region (Jq9z p) [])
@[simp] theorem Je9n {p : Nums} : EqI (Jq9n p) (.region (Jq9z p) []) := eqi
@[simp] def Jqa0 (p : Nums) : List IOp := [qo 16 (.mov (.t 5)), qo 17 (.faddr 2 (.t 1)), qo 18 (.load none (.t 17)), qo 19 (.len (.t 18)), qo 20 (.bin .lss (.t 16) (.t 19))]
def Jq9o (p : Nums) : IC := (.region (Jqa0 p) [])
@[simp] theorem Je9o {p : Nums} : EqI (Jq9o p) (.region (Jqa0 p) []) := eqi
@[simp] def Jqa1 (p : Nums) : List IOp := [qo 23 (.faddr 2 (.t 1)), qo 24 (.load none (.t 23)), qo 25 (.mov (.t 5)), qo 26 (.iaddr 5 (.t 24) (.t 25)), qo 27 (.faddr 1 (.t 26)), qo 28 (.load (some 4) (.t 27)), qo 29 (.call p.ref07_Successors [(.t 28)]), qo 6 (.asg (.t 29))]
def Jq9p (p : Nums) : IC := (.region (Jqa1 p) [])
@[simp] theorem Je9p {p : Nums} : EqI (Jq9p p) (.region (Jqa1 p) []) := eqi
@[simp] def Jqa2 (p : Nums) : List IOp := [qo 30 (.mov (.t 7)), qo 31 (.faddr 1 (.t 1)), qo 32 (.load none (.t 31)), qo 33 (.bin .lss (.t 30) (.t 32))]
def Jq9q (p : Nums) : IC := (.region (Jqa2 p) [])
@[simp] theorem Je9q {p : Nums} : EqI (Jq9q p) (.region (Jqa2 p) []) := eqi
@[simp] def Jqa3 (p : Nums) : List IOp := [qo 36 (.mov (.t 9)), qo 37 (.mov (.t 6)), qo 38 (.len (.t 37)), qo 39 (.bin .lss (.t 36) (.t 38))]
def Jq9r (p : Nums) : IC := (.region (Jqa3 p) [])
@[simp] theorem Je9r {p : Nums} : EqI (Jq9r p) (.region (Jqa3 p) []) := eqi
@[simp] def Jqa4 (p : Nums) : List IOp := [qo 42 (.mov (.t 8)), qo 43 (.mov (.t 42)), ⟨(some 44), (.mov (.t 3)), (some (43, false)), false⟩, ⟨(some 45), (.mov (.t 6)), (some (43, false)), false⟩, ⟨(some 46), (.mov (.t 9)), (some (43, false)), false⟩, ⟨(some 47), (.iaddr 1 (.t 45) (.t 46)), (some (43, false)), false⟩, ⟨(some 48), (.load none (.t 47)), (some (43, false)), false⟩, ⟨(some 49), (.iaddr 1 (.t 44) (.t 48)), (some (43, false)), false⟩, ⟨(some 50), (.load none (.t 49)), (some (43, false)), false⟩, ⟨(some 51), (.mov (.t 7)), (some (43, false)), false⟩, ⟨(some 52), (.call p.ref23_Has [(.t 50), (.t 51)]), (some (43, false)), false⟩, qo 53 (.pick (.t 43) (.c (.d (.bool true))) (.t 52)), qo 8 (.asg (.t 53))]
def Jq9s (p : Nums) : IC := (.region (Jqa4 p) [])
@[simp] theorem Je9s {p : Nums} : EqI (Jq9s p) (.region (Jqa4 p) []) := eqi
@[simp] def Jqa5 (p : Nums) : List IOp := [qo 40 (.mov (.t 9)), qo 41 (.bin .add (.t 40) (ci 1)), qo 9 (.asg (.t 41))]
def Jq9t (p : Nums) : IC := (.region (Jqa5 p) [])
@[simp] theorem Je9t {p : Nums} : EqI (Jq9t p) (.region (Jqa5 p) []) := eqi
def Jq9u (p : Nums) : IC := (.seq (.seq (Jq9r p) (.cond (.t 39) .skip (.exit 4))) (.seq (.block 5 (Jq9s p)) (Jq9t p)))
@[simp] theorem Je9u {p : Nums} : EqI (Jq9u p) (.seq (.seq (Jq9r p) (.cond (.t 39) .skip (.exit 4))) (.seq (.block 5 (Jq9s p)) (Jq9t p))) := eqi
@[simp] def Jq9w (p : Nums) : List IOp := [qo 55 (.mov (.t 4)), qo 56 (.mov (.t 5)), qo 57 (.mov (.t 4)), qo 58 (.mov (.t 5)), qo 59 (.iaddr 1 (.t 57) (.t 58)), qo 60 (.load none (.t 59)), qo 61 (.mov (.t 7)), qo 62 (.bslice 1 1 [(.int .i64 0)] [(0, (.t 61))]), qo 63 (.app 1 8 (.t 60) (.t 62)), qo 64 (.iaddr 1 (.t 55) (.t 56)), qn (.store 1 (.t 64) (.t 63))]
def Jq9g (p : Nums) : IC := (.region (Jq9w p) [])
@[simp] theorem Je9g {p : Nums} : EqI (Jq9g p) (.region (Jq9w p) []) := eqi
def Jq9h (p : Nums) : IC := (.seq (.region [⟨(some 8), (.asg (.c (.d (.bool false)))), none, false⟩] []) (.seq (.seq (.region [⟨(some 9), (.asg (.c (.d (.int .i64 0)))), none, false⟩] []) (.block 4 (.loop (Jq9u p)))) (.seq (.region [⟨(some 54), (.mov (.t 8)), none, false⟩] []) (.cond (.t 54) (Jq9g p) .skip))))
@[simp] theorem Je9h {p : Nums} : EqI (Jq9h p) (.seq (.region [⟨(some 8), (.asg (.c (.d (.bool false)))), none, false⟩] []) (.seq (.seq (.region [⟨(some 9), (.asg (.c (.d (.int .i64 0)))), none, false⟩] []) (.block 4 (.loop (Jq9u p)))) (.seq (.region [⟨(some 54), (.mov (.t 8)), none, false⟩] []) (.cond (.t 54) (Jq9g p) .skip)))) := eqi
@[simp] def Jq9x (p : Nums) : List IOp := [qo 34 (.mov (.t 7)), qo 35 (.bin .add (.t 34) (ci 1)), qo 7 (.asg (.t 35))]
def Jq9i (p : Nums) : IC := (.region (Jq9x p) [])
@[simp] theorem Je9i {p : Nums} : EqI (Jq9i p) (.region (Jq9x p) []) := eqi
def Jq9j (p : Nums) : IC := (.seq (.seq (Jq9q p) (.cond (.t 33) .skip (.exit 2))) (.seq (.block 3 (Jq9h p)) (Jq9i p)))
@[simp] theorem Je9j {p : Nums} : EqI (Jq9j p) (.seq (.seq (Jq9q p) (.cond (.t 33) .skip (.exit 2))) (.seq (.block 3 (Jq9h p)) (Jq9i p))) := eqi
def Jq9k (p : Nums) : IC := (.seq (Jq9p p) (.seq (.region [⟨(some 7), (.asg (.c (.d (.int .i64 0)))), none, false⟩] []) (.block 2 (.loop (Jq9j p)))))
@[simp] theorem Je9k {p : Nums} : EqI (Jq9k p) (.seq (Jq9p p) (.seq (.region [⟨(some 7), (.asg (.c (.d (.int .i64 0)))), none, false⟩] []) (.block 2 (.loop (Jq9j p))))) := eqi
@[simp] def Jq9y (p : Nums) : List IOp := [qo 21 (.mov (.t 5)), qo 22 (.bin .add (.t 21) (ci 1)), qo 5 (.asg (.t 22))]
def Jq9l (p : Nums) : IC := (.region (Jq9y p) [])
@[simp] theorem Je9l {p : Nums} : EqI (Jq9l p) (.region (Jq9y p) []) := eqi
def Jq9m (p : Nums) : IC := (.seq (.seq (Jq9o p) (.cond (.t 20) .skip (.exit 0))) (.seq (.block 1 (Jq9k p)) (Jq9l p)))
@[simp] theorem Je9m {p : Nums} : EqI (Jq9m p) (.seq (.seq (Jq9o p) (.cond (.t 20) .skip (.exit 0))) (.seq (.block 1 (Jq9k p)) (Jq9l p))) := eqi
def Jtap (p : Nums) : IC := (.seq (.region [⟨(some 1), (.box (.t 0)), none, false⟩, ⟨(some 2), (.asg (.c .nils)), none, false⟩] []) (.seq (Jq9f p) (.seq (Jq9n p) (.seq (.seq (.region [⟨(some 5), (.asg (.c (.d (.int .i64 0)))), none, false⟩] []) (.block 0 (.loop (Jq9m p)))) (.seq (.region [⟨(some 65), (.mov (.t 4)), none, false⟩, ⟨(some 2), (.asg (.t 65)), none, false⟩] []) .ret)))))
@[simp] def Jq7k (p : Nums) : List IOp := [qo 3 (.faddr 0 (.t 1)), qo 4 (.load none (.t 3)), qo 5 (.bin .eql (.t 4) (ci 1))]
def Jq7g (p : Nums) : IC := (.region (Jq7k p) [])
@[simp] theorem Je7g {p : Nums} : EqI (Jq7g p) (.region (Jq7k p) []) := eqi
@[simp] def Jq7l (p : Nums) : List IOp := [qo 6 (.faddr 2 (.t 1)), qo 7 (.load none (.t 6)), qo 8 (.bslice 1 1 [(.int .i64 0)] [(0, (.t 7))]), qo 2 (.asg (.t 8))]
def Jq7h (p : Nums) : IC := (.region (Jq7l p) [])
@[simp] theorem Je7h {p : Nums} : EqI (Jq7h p) (.region (Jq7l p) []) := eqi
@[simp] def Jq7m (p : Nums) : List IOp := [qo 9 (.faddr 0 (.t 1)), qo 10 (.load none (.t 9)), qo 11 (.bin .eql (.t 10) (ci 2))]
def Jq7i (p : Nums) : IC := (.region (Jq7m p) [])
@[simp] theorem Je7i {p : Nums} : EqI (Jq7i p) (.region (Jq7m p) []) := eqi
@[simp] def Jq7n (p : Nums) : List IOp := [qo 12 (.faddr 2 (.t 1)), qo 13 (.load none (.t 12)), qo 14 (.faddr 3 (.t 1)), qo 15 (.load none (.t 14)), qo 16 (.bslice 1 2 [(.int .i64 0)] [(0, (.t 13)), (1, (.t 15))]), qo 2 (.asg (.t 16))]
def Jq7j (p : Nums) : IC := (.region (Jq7n p) [])
@[simp] theorem Je7j {p : Nums} : EqI (Jq7j p) (.region (Jq7n p) []) := eqi
def Jtaj (p : Nums) : IC := (.seq (.region [⟨(some 1), (.box (.t 0)), none, false⟩, ⟨(some 2), (.asg (.c .nils)), none, false⟩] []) (.seq (.seq (Jq7g p) (.cond (.t 5) (.seq (Jq7h p) .ret) .skip)) (.seq (.seq (Jq7i p) (.cond (.t 11) (.seq (Jq7j p) .ret) .skip)) (.seq (.region [⟨(some 2), (.asg (.c .nils)), none, false⟩] []) .ret))))
@[simp] def Jq8t (p : Nums) : List IOp := [qo 6 (.mov (.t 5)), qo 7 (.mov (.t 0)), qo 8 (.len (.t 7)), qo 9 (.bin .lss (.t 6) (.t 8))]
def Jq8n (p : Nums) : IC := (.region (Jq8t p) [])
@[simp] theorem Je8n {p : Nums} : EqI (Jq8n p) (.region (Jq8t p) []) := eqi
@[simp] def Jq8u (p : Nums) : List IOp := [qo 12 (.mov (.t 0)), qo 13 (.mov (.t 5)), qo 14 (.iaddr 1 (.t 12) (.t 13)), qo 15 (.load none (.t 14)), qo 16 (.mov (.t 1)), qo 17 (.bin .eql (.t 15) (.t 16))]
def Jq8o (p : Nums) : IC := (.region (Jq8u p) [])
@[simp] theorem Je8o {p : Nums} : EqI (Jq8o p) (.region (Jq8u p) []) := eqi
def Jq8p (p : Nums) : IC := (.seq (.region [⟨(some 4), (.asg (.c (.d (.bool true)))), none, false⟩] []) .ret)
@[simp] theorem Je8p {p : Nums} : EqI (Jq8p p) (.seq (.region [⟨(some 4), (.asg (.c (.d (.bool true)))), none, false⟩] []) .ret) := eqi
def Jq8q (p : Nums) : IC := (.seq (Jq8o p) (.cond (.t 17) (Jq8p p) .skip))
@[simp] theorem Je8q {p : Nums} : EqI (Jq8q p) (.seq (Jq8o p) (.cond (.t 17) (Jq8p p) .skip)) := eqi
@[simp] def Jq8v (p : Nums) : List IOp := [qo 10 (.mov (.t 5)), qo 11 (.bin .add (.t 10) (ci 1)), qo 5 (.asg (.t 11))]
def Jq8r (p : Nums) : IC := (.region (Jq8v p) [])
@[simp] theorem Je8r {p : Nums} : EqI (Jq8r p) (.region (Jq8v p) []) := eqi
def Jq8s (p : Nums) : IC := (.seq (.seq (Jq8n p) (.cond (.t 9) .skip (.exit 0))) (.seq (.block 1 (Jq8q p)) (Jq8r p)))
@[simp] theorem Je8s {p : Nums} : EqI (Jq8s p) (.seq (.seq (Jq8n p) (.cond (.t 9) .skip (.exit 0))) (.seq (.block 1 (Jq8q p)) (Jq8r p))) := eqi
def Jtan (p : Nums) : IC := (.seq (.region [⟨(some 4), (.asg (.c (.d (.bool false)))), none, false⟩] []) (.seq (.seq (.region [⟨(some 5), (.asg (.c (.d (.int .i64 0)))), none, false⟩] []) (.block 0 (.loop (Jq8s p)))) (.seq (.region [⟨(some 4), (.asg (.c (.d (.bool false)))), none, false⟩] []) .ret)))
@[simp] def Jq6b (p : Nums) : List IOp := [qo 5 (.mov (.t 4)), qo 6 (.faddr 2 (.t 1)), qo 7 (.load none (.t 6)), qo 8 (.len (.t 7)), qo 9 (.bin .lss (.t 5) (.t 8))]
def Jq67 (p : Nums) : IC := (.region (Jq6b p) [])
@[simp] theorem Je67 {p : Nums} : EqI (Jq67 p) (.region (Jq6b p) []) := eqi
@[simp] def Jq6c (p : Nums) : List IOp := [qo 12 (.mov (.t 3)), qo 13 (.faddr 2 (.t 1)), qo 14 (.load none (.t 13)), qo 15 (.mov (.t 4)), qo 16 (.iaddr 5 (.t 14) (.t 15)), qo 17 (.faddr 0 (.t 16)), qo 18 (.load none (.t 17)), qo 19 (.len (.t 18)), qo 20 (.bin .add (.t 12) (.t 19)), qo 3 (.asg (.t 20))]
def Jq68 (p : Nums) : IC := (.region (Jq6c p) [])
@[simp] theorem Je68 {p : Nums} : EqI (Jq68 p) (.region (Jq6c p) []) := eqi
@[simp] def Jq6d (p : Nums) : List IOp := [qo 10 (.mov (.t 4)), qo 11 (.bin .add (.t 10) (ci 1)), qo 4 (.asg (.t 11))]
def Jq69 (p : Nums) : IC := (.region (Jq6d p) [])
@[simp] theorem Je69 {p : Nums} : EqI (Jq69 p) (.region (Jq6d p) []) := eqi
def Jq6a (p : Nums) : IC := (.seq (.seq (Jq67 p) (.cond (.t 9) .skip (.exit 0))) (.seq (.block 1 (Jq68 p)) (Jq69 p)))
@[simp] theorem Je6a {p : Nums} : EqI (Jq6a p) (.seq (.seq (Jq67 p) (.cond (.t 9) .skip (.exit 0))) (.seq (.block 1 (Jq68 p)) (Jq69 p))) := eqi
def Jtaf (p : Nums) : IC := (.seq (.region [⟨(some 1), (.box (.t 0)), none, false⟩, ⟨(some 2), (.asg (.c (.d (.int .i64 0)))), none, false⟩] []) (.seq (.region [⟨(some 3), (.asg (.c (.d (.int .i64 0)))), none, false⟩] []) (.seq (.seq (.region [⟨(some 4), (.asg (.c (.d (.int .i64 0)))), none, false⟩] []) (.block 0 (.loop (Jq6a p)))) (.seq (.region [⟨(some 21), (.mov (.t 3)), none, false⟩, ⟨(some 2), (.asg (.t 21)), none, false⟩] []) .ret))))
@[simp] def Jq71 (p : Nums) : List IOp := [qo 5 (.faddr 0 (.t 2)), qo 6 (.load none (.t 5)), qo 7 (.bin .lss (.t 6) (ci 1)), qo 8 (.mov (.t 7)), ⟨(some 9), (.faddr 0 (.t 2)), (some (8, false)), false⟩, ⟨(some 10), (.load none (.t 9)), (some (8, false)), false⟩, ⟨(some 11), (.bin .gtr (.t 10) (ci 17)), (some (8, false)), false⟩, qo 12 (.pick (.t 8) (.c (.d (.bool true))) (.t 11))]
def Jq6s (p : Nums) : IC := (.region (Jq71 p) [])
@[simp] theorem Je6s {p : Nums} : EqI (Jq6s p) (.region (Jq71 p) []) := eqi
def Jq6t (p : Nums) : IC := (.seq (.region [⟨(some 4), (.asg (.c (.d (.int .i64 8)))), none, false⟩] []) .ret)
@[simp] theorem Je6t {p : Nums} : EqI (Jq6t p) (.seq (.region [⟨(some 4), (.asg (.c (.d (.int .i64 8)))), none, false⟩] []) .ret) := eqi
def Jq6y (p : Nums) : IC := (.seq (.seq (Jq6s p) .cut) (.cond (.t 12) (Jq6t p) .skip))
theorem Je6y {p : Nums} : EqI (Jq6y p) (.seq (.seq (Jq6s p) .cut) (.cond (.t 12) (Jq6t p) .skip)) := eqi
@[simp] def Jq72 (p : Nums) : List IOp := [qo 13 (.faddr 0 (.t 2)), qo 14 (.load none (.t 13)), qo 15 (.call p.ref05_UsesD [(.t 14)]), qo 16 (.mov (.t 15)), ⟨(some 17), (.faddr 1 (.t 2)), (some (16, true)), false⟩, ⟨(some 18), (.load none (.t 17)), (some (16, true)), false⟩, ⟨(some 19), (.mov (.t 1)), (some (16, true)), false⟩, ⟨(some 20), (.call p.ref07_in [(.t 18), (.t 19)]), (some (16, true)), false⟩, ⟨(some 21), (.un .not (.t 20)), (some (16, true)), false⟩, qo 22 (.pick (.t 16) (.t 21) (.c (.d (.bool false)))), qo 23 (.mov (.t 22)), ⟨(some 24), (.faddr 0 (.t 2)), (some (23, false)), false⟩, ⟨(some 25), (.load none (.t 24)), (some (23, false)), false⟩, ⟨(some 26), (.call p.ref05_UsesA [(.t 25)]), (some (23, false)), false⟩, ⟨(some 27), (.mov (.t 26)), (some (23, false)), false⟩, ⟨(some 28), (.faddr 2 (.t 2)), (some (27, true)), false⟩, ⟨(some 29), (.load none (.t 28)), (some (27, true)), false⟩, ⟨(some 30), (.mov (.t 1)), (some (27, true)), false⟩, ⟨(some 31), (.call p.ref07_in [(.t 29), (.t 30)]), (some (27, true)), false⟩, ⟨(some 32), (.un .not (.t 31)), (some (27, true)), false⟩, ⟨(some 33), (.pick (.t 27) (.t 32) (.c (.d (.bool false)))), (some (23, false)), false⟩, qo 34 (.pick (.t 23) (.c (.d (.bool true))) (.t 33)), qo 35 (.mov (.t 34)), ⟨(some 36), (.faddr 0 (.t 2)), (some (35, false)), false⟩, ⟨(some 37), (.load none (.t 36)), (some (35, false)), false⟩, ⟨(some 38), (.call p.ref05_UsesB [(.t 37)]), (some (35, false)), false⟩, ⟨(some 39), (.mov (.t 38)), (some (35, false)), false⟩, ⟨(some 40), (.faddr 3 (.t 2)), (some (39, true)), false⟩, ⟨(some 41), (.load none (.t 40)), (some (39, true)), false⟩, ⟨(some 42), (.mov (.t 1)), (some (39, true)), false⟩, ⟨(some 43), (.call p.ref07_in [(.t 41), (.t 42)]), (some (39, true)), false⟩, ⟨(some 44), (.un .not (.t 43)), (some (39, true)), false⟩, ⟨(some 45), (.pick (.t 39) (.t 44) (.c (.d (.bool false)))), (some (35, false)), false⟩, qo 46 (.pick (.t 35) (.c (.d (.bool true))) (.t 45))]
def Jq6u (p : Nums) : IC := (.region (Jq72 p) [])
@[simp] theorem Je6u {p : Nums} : EqI (Jq6u p) (.region (Jq72 p) []) := eqi
def Jq6v (p : Nums) : IC := (.seq (.region [⟨(some 4), (.asg (.c (.d (.int .i64 9)))), none, false⟩] []) .ret)
@[simp] theorem Je6v {p : Nums} : EqI (Jq6v p) (.seq (.region [⟨(some 4), (.asg (.c (.d (.int .i64 9)))), none, false⟩] []) .ret) := eqi
def Jq6z (p : Nums) : IC := (.seq (.seq (Jq6u p) .cut) (.cond (.t 46) (Jq6v p) .skip))
theorem Je6z {p : Nums} : EqI (Jq6z p) (.seq (.seq (Jq6u p) .cut) (.cond (.t 46) (Jq6v p) .skip)) := eqi
@[simp] def Jq73 (p : Nums) : List IOp := [qo 47 (.faddr 0 (.t 2)), qo 48 (.load none (.t 47)), qo 49 (.call p.ref05_UsesD [(.t 48)]), qo 50 (.un .not (.t 49)), qo 51 (.mov (.t 50)), ⟨(some 52), (.faddr 1 (.t 2)), (some (51, true)), false⟩, ⟨(some 53), (.load none (.t 52)), (some (51, true)), false⟩, ⟨(some 54), (.bin .neq (.t 53) (ci 0)), (some (51, true)), false⟩, qo 55 (.pick (.t 51) (.t 54) (.c (.d (.bool false)))), qo 56 (.mov (.t 55)), ⟨(some 57), (.faddr 0 (.t 2)), (some (56, false)), false⟩, ⟨(some 58), (.load none (.t 57)), (some (56, false)), false⟩, ⟨(some 59), (.call p.ref05_UsesA [(.t 58)]), (some (56, false)), false⟩, ⟨(some 60), (.un .not (.t 59)), (some (56, false)), false⟩, ⟨(some 61), (.mov (.t 60)), (some (56, false)), false⟩, ⟨(some 62), (.faddr 2 (.t 2)), (some (61, true)), false⟩, ⟨(some 63), (.load none (.t 62)), (some (61, true)), false⟩, ⟨(some 64), (.bin .neq (.t 63) (ci 0)), (some (61, true)), false⟩, ⟨(some 65), (.pick (.t 61) (.t 64) (.c (.d (.bool false)))), (some (56, false)), false⟩, qo 66 (.pick (.t 56) (.c (.d (.bool true))) (.t 65)), qo 67 (.mov (.t 66)), ⟨(some 68), (.faddr 0 (.t 2)), (some (67, false)), false⟩, ⟨(some 69), (.load none (.t 68)), (some (67, false)), false⟩, ⟨(some 70), (.call p.ref05_UsesB [(.t 69)]), (some (67, false)), false⟩, ⟨(some 71), (.un .not (.t 70)), (some (67, false)), false⟩, ⟨(some 72), (.mov (.t 71)), (some (67, false)), false⟩, ⟨(some 73), (.faddr 3 (.t 2)), (some (72, true)), false⟩, ⟨(some 74), (.load none (.t 73)), (some (72, true)), false⟩, ⟨(some 75), (.bin .neq (.t 74) (ci 0)), (some (72, true)), false⟩, ⟨(some 76), (.pick (.t 72) (.t 75) (.c (.d (.bool false)))), (some (67, false)), false⟩, qo 77 (.pick (.t 67) (.c (.d (.bool true))) (.t 76)), qo 78 (.mov (.t 77)), ⟨(some 79), (.faddr 0 (.t 2)), (some (78, false)), false⟩, ⟨(some 80), (.load none (.t 79)), (some (78, false)), false⟩, ⟨(some 81), (.bin .neq (.t 80) (ci 1)), (some (78, false)), false⟩, ⟨(some 82), (.mov (.t 81)), (some (78, false)), false⟩, ⟨(some 83), (.faddr 4 (.t 2)), (some (82, true)), false⟩, ⟨(some 84), (.load none (.t 83)), (some (82, true)), false⟩, ⟨(some 85), (.bin .neq (.t 84) (ci 0)), (some (82, true)), false⟩, ⟨(some 86), (.pick (.t 82) (.t 85) (.c (.d (.bool false)))), (some (78, false)), false⟩, qo 87 (.pick (.t 78) (.c (.d (.bool true))) (.t 86))]
def Jq6w (p : Nums) : IC := (.region (Jq73 p) [])
@[simp] theorem Je6w {p : Nums} : EqI (Jq6w p) (.region (Jq73 p) []) := eqi
def Jq6x (p : Nums) : IC := (.seq (.region [⟨(some 4), (.asg (.c (.d (.int .i64 12)))), none, false⟩] []) .ret)
@[simp] theorem Je6x {p : Nums} : EqI (Jq6x p) (.seq (.region [⟨(some 4), (.asg (.c (.d (.int .i64 12)))), none, false⟩] []) .ret) := eqi
def Jq70 (p : Nums) : IC := (.seq (.seq (Jq6w p) .cut) (.cond (.t 87) (Jq6x p) .skip))
theorem Je70 {p : Nums} : EqI (Jq70 p) (.seq (.seq (Jq6w p) .cut) (.cond (.t 87) (Jq6x p) .skip)) := eqi
def Jtah (p : Nums) : IC := (.seq (.region [⟨(some 2), (.box (.t 0)), none, false⟩, ⟨(some 4), (.asg (.c (.d (.int .i64 0)))), none, false⟩] []) (.seq (Jq6y p) (.seq (Jq6z p) (.seq (Jq70 p) (.seq (.region [⟨(some 4), (.asg (.c (.d (.int .i64 0)))), none, false⟩] []) .ret)))))
@[simp] def Jq86 (p : Nums) : List IOp := [qo 11 (.faddr 2 (.t 3)), qo 12 (.load none (.t 11)), qo 13 (.mov (.t 2)), qo 14 (.call p.ref07_in [(.t 12), (.t 13)]), qo 15 (.un .not (.t 14))]
def Jq7o (p : Nums) : IC := (.region (Jq86 p) [])
@[simp] theorem Je7o {p : Nums} : EqI (Jq7o p) (.region (Jq86 p) []) := eqi
def Jq7y (p : Nums) : IC := (.seq (.region [⟨(some 6), (.asg (.c (.d (.int .i64 11)))), none, false⟩] []) .ret)
@[simp] theorem Je7y {p : Nums} : EqI (Jq7y p) (.seq (.region [⟨(some 6), (.asg (.c (.d (.int .i64 11)))), none, false⟩] []) .ret) := eqi
@[simp] def Jq88 (p : Nums) : List IOp := [qo 16 (.faddr 1 (.t 3)), qo 17 (.load none (.t 16)), qo 18 (.bin .neq (.t 17) (ci 0)), qo 19 (.mov (.t 18)), ⟨(some 20), (.faddr 3 (.t 3)), (some (19, false)), false⟩, ⟨(some 21), (.load none (.t 20)), (some (19, false)), false⟩, ⟨(some 22), (.bin .neq (.t 21) (ci 0)), (some (19, false)), false⟩, qo 23 (.pick (.t 19) (.c (.d (.bool true))) (.t 22))]
def Jq7z (p : Nums) : IC := (.region (Jq88 p) [])
@[simp] theorem Je7z {p : Nums} : EqI (Jq7z p) (.region (Jq88 p) []) := eqi
def Jq80 (p : Nums) : IC := (.seq (.region [⟨(some 6), (.asg (.c (.d (.int .i64 12)))), none, false⟩] []) .ret)
@[simp] theorem Je80 {p : Nums} : EqI (Jq80 p) (.seq (.region [⟨(some 6), (.asg (.c (.d (.int .i64 12)))), none, false⟩] []) .ret) := eqi
@[simp] def Jq89 (p : Nums) : List IOp := [qo 26 (.faddr 1 (.t 3)), qo 27 (.load none (.t 26)), qo 28 (.mov (.t 1)), qo 29 (.call p.ref07_in [(.t 27), (.t 28)]), qo 30 (.un .not (.t 29))]
def Jq81 (p : Nums) : IC := (.region (Jq89 p) [])
@[simp] theorem Je81 {p : Nums} : EqI (Jq81 p) (.region (Jq89 p) []) := eqi
def Jq82 (p : Nums) : IC := (.seq (.region [⟨(some 6), (.asg (.c (.d (.int .i64 9)))), none, false⟩] []) .ret)
@[simp] theorem Je82 {p : Nums} : EqI (Jq82 p) (.seq (.region [⟨(some 6), (.asg (.c (.d (.int .i64 9)))), none, false⟩] []) .ret) := eqi
@[simp] def Jq8a (p : Nums) : List IOp := [qo 31 (.faddr 2 (.t 3)), qo 32 (.load none (.t 31)), qo 33 (.mov (.t 2)), qo 34 (.call p.ref07_in [(.t 32), (.t 33)]), qo 35 (.un .not (.t 34)), qo 36 (.mov (.t 35)), ⟨(some 37), (.faddr 3 (.t 3)), (some (36, false)), false⟩, ⟨(some 38), (.load none (.t 37)), (some (36, false)), false⟩, ⟨(some 39), (.mov (.t 2)), (some (36, false)), false⟩, ⟨(some 40), (.call p.ref07_in [(.t 38), (.t 39)]), (some (36, false)), false⟩, ⟨(some 41), (.un .not (.t 40)), (some (36, false)), false⟩, qo 42 (.pick (.t 36) (.c (.d (.bool true))) (.t 41))]
def Jq83 (p : Nums) : IC := (.region (Jq8a p) [])
@[simp] theorem Je83 {p : Nums} : EqI (Jq83 p) (.region (Jq8a p) []) := eqi
def Jq84 (p : Nums) : IC := (.seq (.region [⟨(some 6), (.asg (.c (.d (.int .i64 11)))), none, false⟩] []) .ret)
@[simp] theorem Je84 {p : Nums} : EqI (Jq84 p) (.seq (.region [⟨(some 6), (.asg (.c (.d (.int .i64 11)))), none, false⟩] []) .ret) := eqi
@[simp] def Jq8b (p : Nums) : List IOp := [qo 45 (.faddr 1 (.t 3)), qo 46 (.load none (.t 45)), qo 47 (.mov (.t 1)), qo 48 (.call p.ref07_in [(.t 46), (.t 47)]), qo 49 (.un .not (.t 48))]
def Jq85 (p : Nums) : IC := (.region (Jq8b p) [])
@[simp] theorem Je85 {p : Nums} : EqI (Jq85 p) (.region (Jq8b p) []) := eqi
def Jq7p (p : Nums) : IC := (.seq (.region [⟨(some 6), (.asg (.c (.d (.int .i64 9)))), none, false⟩] []) .ret)
@[simp] theorem Je7p {p : Nums} : EqI (Jq7p p) (.seq (.region [⟨(some 6), (.asg (.c (.d (.int .i64 9)))), none, false⟩] []) .ret) := eqi
@[simp] def Jq87 (p : Nums) : List IOp := [qo 50 (.faddr 2 (.t 3)), qo 51 (.load none (.t 50)), qo 52 (.bin .neq (.t 51) (ci 0)), qo 53 (.mov (.t 52)), ⟨(some 54), (.faddr 3 (.t 3)), (some (53, false)), false⟩, ⟨(some 55), (.load none (.t 54)), (some (53, false)), false⟩, ⟨(some 56), (.bin .neq (.t 55) (ci 0)), (some (53, false)), false⟩, qo 57 (.pick (.t 53) (.c (.d (.bool true))) (.t 56))]
def Jq7q (p : Nums) : IC := (.region (Jq87 p) [])
@[simp] theorem Je7q {p : Nums} : EqI (Jq7q p) (.region (Jq87 p) []) := eqi
def Jq7r (p : Nums) : IC := (.seq (.region [⟨(some 6), (.asg (.c (.d (.int .i64 12)))), none, false⟩] []) .ret)
@[simp] theorem Je7r {p : Nums} : EqI (Jq7r p) (.seq (.region [⟨(some 6), (.asg (.c (.d (.int .i64 12)))), none, false⟩] []) .ret) := eqi
def Jq7s (p : Nums) : IC := (.seq (.seq (Jq85 p) (.cond (.t 49) (Jq7p p) .skip)) (.seq (.seq (Jq7q p) (.cond (.t 57) (Jq7r p) .skip)) (.seq (.region [⟨(some 6), (.asg (.c (.d (.int .i64 0)))), none, false⟩] []) .ret)))
@[simp] theorem Je7s {p : Nums} : EqI (Jq7s p) (.seq (.seq (Jq85 p) (.cond (.t 49) (Jq7p p) .skip)) (.seq (.seq (Jq7q p) (.cond (.t 57) (Jq7r p) .skip)) (.seq (.region [⟨(some 6), (.asg (.c (.d (.int .i64 0)))), none, false⟩] []) .ret))) := eqi
def Jq7t (p : Nums) : IC := (.seq (.seq (Jq81 p) (.cond (.t 30) (Jq82 p) .skip)) (.seq (.seq (Jq83 p) (.cond (.t 42) (Jq84 p) .skip)) (.seq (.region [⟨(some 6), (.asg (.c (.d (.int .i64 0)))), none, false⟩] []) .ret)))
@[simp] theorem Je7t {p : Nums} : EqI (Jq7t p) (.seq (.seq (Jq81 p) (.cond (.t 30) (Jq82 p) .skip)) (.seq (.seq (Jq83 p) (.cond (.t 42) (Jq84 p) .skip)) (.seq (.region [⟨(some 6), (.asg (.c (.d (.int .i64 0)))), none, false⟩] []) .ret))) := eqi
def Jq7u (p : Nums) : IC := (.seq (.region [⟨(some 44), (.bin .eql (.t 8) (.c (.d (.int .i64 3)))), none, false⟩, ⟨(some 43), (.asg (.t 44)), none, false⟩] []) (.cond (.t 43) (Jq7s p) .skip))
@[simp] theorem Je7u {p : Nums} : EqI (Jq7u p) (.seq (.region [⟨(some 44), (.bin .eql (.t 8) (.c (.d (.int .i64 3)))), none, false⟩, ⟨(some 43), (.asg (.t 44)), none, false⟩] []) (.cond (.t 43) (Jq7s p) .skip)) := eqi
def Jq7v (p : Nums) : IC := (.seq (.seq (Jq7o p) (.cond (.t 15) (Jq7y p) .skip)) (.seq (.seq (Jq7z p) (.cond (.t 23) (Jq80 p) .skip)) (.seq (.region [⟨(some 6), (.asg (.c (.d (.int .i64 0)))), none, false⟩] []) .ret)))
@[simp] theorem Je7v {p : Nums} : EqI (Jq7v p) (.seq (.seq (Jq7o p) (.cond (.t 15) (Jq7y p) .skip)) (.seq (.seq (Jq7z p) (.cond (.t 23) (Jq80 p) .skip)) (.seq (.region [⟨(some 6), (.asg (.c (.d (.int .i64 0)))), none, false⟩] []) .ret))) := eqi
def Jq7w (p : Nums) : IC := (.seq (.region [⟨(some 25), (.bin .eql (.t 8) (.c (.d (.int .i64 2)))), none, false⟩, ⟨(some 24), (.asg (.t 25)), none, false⟩] []) (.cond (.t 24) (Jq7t p) (Jq7u p)))
@[simp] theorem Je7w {p : Nums} : EqI (Jq7w p) (.seq (.region [⟨(some 25), (.bin .eql (.t 8) (.c (.d (.int .i64 2)))), none, false⟩, ⟨(some 24), (.asg (.t 25)), none, false⟩] []) (.cond (.t 24) (Jq7t p) (Jq7u p))) := eqi
def Jq7x (p : Nums) : IC := (.seq (.region [⟨(some 10), (.bin .eql (.t 8) (.c (.d (.int .i64 1)))), none, false⟩, ⟨(some 9), (.asg (.t 10)), none, false⟩] []) (.cond (.t 9) (Jq7v p) (Jq7w p)))
@[simp] theorem Je7x {p : Nums} : EqI (Jq7x p) (.seq (.region [⟨(some 10), (.bin .eql (.t 8) (.c (.d (.int .i64 1)))), none, false⟩, ⟨(some 9), (.asg (.t 10)), none, false⟩] []) (.cond (.t 9) (Jq7v p) (Jq7w p))) := eqi
def Jtak (p : Nums) : IC := (.seq (.region [⟨(some 3), (.box (.t 0)), none, false⟩, ⟨(some 6), (.asg (.c (.d (.int .i64 0)))), none, false⟩] []) (.seq (.seq (.region [⟨(some 7), (.faddr 0 (.t 3)), none, false⟩, ⟨(some 8), (.load none (.t 7)), none, false⟩] []) (.block 0 (Jq7x p))) (.seq (.region [⟨(some 6), (.asg (.c (.d (.int .i64 16)))), none, false⟩] []) .ret)))
@[simp] def Jq56 (p : Nums) : List IOp := [qo 3 (.mov (.t 0)), qo 4 (.bin .geq (.t 3) (ci 2)), qo 5 (.mov (.t 4)), ⟨(some 6), (.mov (.t 0)), (some (5, true)), false⟩, ⟨(some 7), (.bin .leq (.t 6) (ci 17)), (some (5, true)), false⟩, qo 8 (.pick (.t 5) (.t 7) (.c (.d (.bool false)))), qo 2 (.asg (.t 8))]
def Jq55 (p : Nums) : IC := (.region (Jq56 p) [])
@[simp] theorem Je55 {p : Nums} : EqI (Jq55 p) (.region (Jq56 p) []) := eqi
def Jtab (p : Nums) : IC := (.seq (.region [⟨(some 2), (.asg (.c (.d (.bool false)))), none, false⟩] []) (.seq (Jq55 p) .ret))
@[simp] def Jq58 (p : Nums) : List IOp := [qo 3 (.mov (.t 0)), qo 4 (.bin .geq (.t 3) (ci 5)), qo 5 (.mov (.t 4)), ⟨(some 6), (.mov (.t 0)), (some (5, true)), false⟩, ⟨(some 7), (.bin .leq (.t 6) (ci 16)), (some (5, true)), false⟩, qo 8 (.pick (.t 5) (.t 7) (.c (.d (.bool false)))), qo 2 (.asg (.t 8))]
def Jq57 (p : Nums) : IC := (.region (Jq58 p) [])
@[simp] theorem Je57 {p : Nums} : EqI (Jq57 p) (.region (Jq58 p) []) := eqi
def Jtac (p : Nums) : IC := (.seq (.region [⟨(some 2), (.asg (.c (.d (.bool false)))), none, false⟩] []) (.seq (Jq57 p) .ret))
@[simp] def Jq5a (p : Nums) : List IOp := [qo 3 (.mov (.t 0)), qo 4 (.bin .geq (.t 3) (ci 1)), qo 5 (.mov (.t 4)), ⟨(some 6), (.mov (.t 0)), (some (5, true)), false⟩, ⟨(some 7), (.bin .leq (.t 6) (ci 16)), (some (5, true)), false⟩, qo 8 (.pick (.t 5) (.t 7) (.c (.d (.bool false)))), qo 2 (.asg (.t 8))]
def Jq59 (p : Nums) : IC := (.region (Jq5a p) [])
@[simp] theorem Je59 {p : Nums} : EqI (Jq59 p) (.region (Jq5a p) []) := eqi
def Jtad (p : Nums) : IC := (.seq (.region [⟨(some 2), (.asg (.c (.d (.bool false)))), none, false⟩] []) (.seq (Jq59 p) .ret))
@[simp] def Jq32 (p : Nums) : List IOp := [qo 9 (.mo .mk), qo 10 (.mo .mk), qn (.store 1 (.t 2) (.t 9)), qn (.store 1 (.t 3) (.t 10))]
def Jq2q (p : Nums) : IC := (.region (Jq32 p) [])
@[simp] theorem Je2q {p : Nums} : EqI (Jq2q p) (.region (Jq32 p) []) := eqi
@[simp] def Jq36 (p : Nums) : List IOp := [qo 12 (.faddr 0 (.t 1)), qo 13 (.load none (.t 12)), qo 14 (.len (.t 13)), qo 15 (.mov (ci 0))]
def Jq2u (p : Nums) : IC := (.region (Jq36 p) [])
@[simp] theorem Je2u {p : Nums} : EqI (Jq2u p) (.region (Jq36 p) []) := eqi
@[simp] def Jq37 (p : Nums) : List IOp := [qo 17 (.iaddr 5 (.t 13) (.t 15)), qo 18 (.load (some 5) (.t 17)), qo 6 (.alloc [(zi 0), (zi 0), (zi 0), (zi 0), (zi 0)]), qn (.store 5 (.t 6) (.t 18))]
def Jq2v (p : Nums) : IC := (.region (Jq37 p) [])
@[simp] theorem Je2v {p : Nums} : EqI (Jq2v p) (.region (Jq37 p) []) := eqi
@[simp] def Jq38 (p : Nums) : List IOp := [qo 20 (.faddr 0 (.t 6)), qo 21 (.load none (.t 20)), qo 22 (.call p.opcode_Of [(.t 21)]), qo 19 (.mov (.t 22)), qo 23 (.ext (.t 19) 0), qo 24 (.ext (.t 19) 1), qo 7 (.alloc [(.d (.bool false)), (.d (.bool false)), (.d (.bool false)), (.d (.bool false))]), qn (.store 4 (.t 7) (.t 23)), qo 8 (.asg (.t 24))]
def Jq2w (p : Nums) : IC := (.region (Jq38 p) [])
@[simp] theorem Je2w {p : Nums} : EqI (Jq2w p) (.region (Jq38 p) []) := eqi
@[simp] def Jq39 (p : Nums) : List IOp := [qo 27 (.mov (.t 4)), qo 28 (.faddr 2 (.t 6)), qo 29 (.load none (.t 28)), qo 30 (.callv (.t 27) [(.t 29)])]
def Jq2x (p : Nums) : IC := (.region (Jq39 p) [])
@[simp] theorem Je2x {p : Nums} : EqI (Jq2x p) (.region (Jq39 p) []) := eqi
@[simp] def Jq3a (p : Nums) : List IOp := [qo 33 (.mov (.t 4)), qo 34 (.faddr 3 (.t 6)), qo 35 (.load none (.t 34)), qo 36 (.callv (.t 33) [(.t 35)])]
def Jq2y (p : Nums) : IC := (.region (Jq3a p) [])
@[simp] theorem Je2y {p : Nums} : EqI (Jq2y p) (.region (Jq3a p) []) := eqi
@[simp] def Jq3b (p : Nums) : List IOp := [qo 39 (.load none (.t 3)), qo 40 (.faddr 1 (.t 6)), qo 41 (.load none (.t 40)), qn (.mo (.set (.t 39) (.t 41) (.c (.d (.bool true)))))]
def Jq2z (p : Nums) : IC := (.region (Jq3b p) [])
@[simp] theorem Je2z {p : Nums} : EqI (Jq2z p) (.region (Jq3b p) []) := eqi
def Jq30 (p : Nums) : IC := (.seq (Jq2v p) (.seq (Jq2w p) (.seq (.seq (.region [⟨(some 25), (.faddr 1 (.t 7)), none, false⟩, ⟨(some 26), (.load none (.t 25)), none, false⟩] []) (.cond (.t 26) (Jq2x p) .skip)) (.seq (.seq (.region [⟨(some 31), (.faddr 2 (.t 7)), none, false⟩, ⟨(some 32), (.load none (.t 31)), none, false⟩] []) (.cond (.t 32) (Jq2y p) .skip)) (.seq (.region [⟨(some 37), (.faddr 0 (.t 7)), none, false⟩, ⟨(some 38), (.load none (.t 37)), none, false⟩] []) (.cond (.t 38) (Jq2z p) .skip))))))
@[simp] theorem Je30 {p : Nums} : EqI (Jq30 p) (.seq (Jq2v p) (.seq (Jq2w p) (.seq (.seq (.region [⟨(some 25), (.faddr 1 (.t 7)), none, false⟩, ⟨(some 26), (.load none (.t 25)), none, false⟩] []) (.cond (.t 26) (Jq2x p) .skip)) (.seq (.seq (.region [⟨(some 31), (.faddr 2 (.t 7)), none, false⟩, ⟨(some 32), (.load none (.t 31)), none, false⟩] []) (.cond (.t 32) (Jq2y p) .skip)) (.seq (.region [⟨(some 37), (.faddr 0 (.t 7)), none, false⟩, ⟨(some 38), (.load none (.t 37)), none, false⟩] []) (.cond (.t 38) (Jq2z p) .skip)))))) := eqi
def Jq31 (p : Nums) : IC := (.seq (.region [⟨(some 16), (.bin .lss (.t 15) (.t 14)), none, false⟩] []) (.seq (.cond (.t 16) .skip (.exit 0)) (.seq (.block 1 (Jq30 p)) (.region [⟨(some 42), (.bin .add (.t 15) (.c (.d (.int .i64 1)))), none, false⟩, ⟨(some 15), (.mov (.t 42)), none, false⟩] []))))
@[simp] theorem Je31 {p : Nums} : EqI (Jq31 p) (.seq (.region [⟨(some 16), (.bin .lss (.t 15) (.t 14)), none, false⟩] []) (.seq (.cond (.t 16) .skip (.exit 0)) (.seq (.block 1 (Jq30 p)) (.region [⟨(some 42), (.bin .add (.t 15) (.c (.d (.int .i64 1)))), none, false⟩, ⟨(some 15), (.mov (.t 42)), none, false⟩] [])))) := eqi
@[simp] def Jq33 (p : Nums) : List IOp := [qo 43 (.faddr 1 (.t 1)), qo 44 (.faddr 0 (.t 43)), qo 45 (.load none (.t 44)), qo 46 (.bin .neq (.t 45) (ci 1))]
def Jq2r (p : Nums) : IC := (.region (Jq33 p) [])
@[simp] theorem Je2r {p : Nums} : EqI (Jq2r p) (.region (Jq33 p) []) := eqi
@[simp] def Jq34 (p : Nums) : List IOp := [qo 47 (.mov (.t 4)), qo 48 (.faddr 1 (.t 1)), qo 49 (.faddr 1 (.t 48)), qo 50 (.load none (.t 49)), qo 51 (.callv (.t 47) [(.t 50)])]
def Jq2s (p : Nums) : IC := (.region (Jq34 p) [])
@[simp] theorem Je2s {p : Nums} : EqI (Jq2s p) (.region (Jq34 p) []) := eqi
@[simp] def Jq35 (p : Nums) : List IOp := [qp 52 (.load none (.t 2)), qp 53 (.load none (.t 3)), qm (.storeq 1 (.t 2) (.t 52) [(3, 1)]), qn (.store 1 (.t 3) (.t 53))]
def Jq2t (p : Nums) : IC := (.region (Jq35 p) [])
@[simp] theorem Je2t {p : Nums} : EqI (Jq2t p) (.region (Jq35 p) []) := eqi
def Jta5 (p : Nums) : IC := (.seq (.region [⟨(some 1), (.box (.t 0)), none, false⟩, ⟨(some 2), (.alloc [.nilm]), none, false⟩, ⟨(some 3), (.alloc [.nilm]), none, false⟩] []) (.seq (Jq2q p) (.seq (.region [⟨(some 11), (.mkfn (.func p.liveness_scan_1) [] [(.t 3), (.t 2)]), none, false⟩, ⟨(some 4), (.asg (.t 11)), none, false⟩] []) (.seq (.seq (Jq2u p) (.block 0 (.loop (Jq31 p)))) (.seq (.seq (Jq2r p) (.cond (.t 46) (Jq2s p) .skip)) (.seq (Jq2t p) .ret))))))
@[simp] def Jq3g (p : Nums) : List IOp := [qo 5 (.mov (.t 0)), qo 6 (.mo (.len (.t 5))), qo 7 (.mkslice 1 8 [(.int .i64 0)] (ci 0) (.t 6)), qo 3 (.asg (.t 7))]
def Jq3c (p : Nums) : IC := (.region (Jq3g p) [])
@[simp] theorem Je3c {p : Nums} : EqI (Jq3c p) (.region (Jq3g p) []) := eqi
@[simp] def Jq3h (p : Nums) : List IOp := [qo 12 (.mo (.ent (.t 9))), qo 13 (.ext (.t 12) 0), qo 4 (.asg (.t 13))]
def Jq3d (p : Nums) : IC := (.region (Jq3h p) [])
@[simp] theorem Je3d {p : Nums} : EqI (Jq3d p) (.region (Jq3h p) []) := eqi
@[simp] def Jq3i (p : Nums) : List IOp := [qo 14 (.mov (.t 3)), qo 15 (.mov (.t 4)), qo 16 (.bslice 1 1 [(.int .i64 0)] [(0, (.t 15))]), qo 17 (.app 1 8 (.t 14) (.t 16)), qo 3 (.asg (.t 17))]
def Jq3e (p : Nums) : IC := (.region (Jq3i p) [])
@[simp] theorem Je3e {p : Nums} : EqI (Jq3e p) (.region (Jq3i p) []) := eqi
def Jq3f (p : Nums) : IC := (.seq (.region [⟨(some 10), (.mo (.nxt (.t 9))), none, false⟩, ⟨(some 11), (.ext (.t 10) 0), none, false⟩] []) (.seq (.cond (.t 11) .skip (.exit 0)) (.block 1 (.seq (Jq3d p) (Jq3e p)))))
@[simp] theorem Je3f {p : Nums} : EqI (Jq3f p) (.seq (.region [⟨(some 10), (.mo (.nxt (.t 9))), none, false⟩, ⟨(some 11), (.ext (.t 10) 0), none, false⟩] []) (.seq (.cond (.t 11) .skip (.exit 0)) (.block 1 (.seq (Jq3d p) (Jq3e p))))) := eqi
def Jta7 (p : Nums) : IC := (.seq (.region [⟨(some 2), (.asg (.c .nils)), none, false⟩] []) (.seq (Jq3c p) (.seq (.seq (.region [⟨(some 8), (.mov (.t 0)), none, false⟩, ⟨(some 9), (.mo (.rng (.t 8))), none, false⟩] []) (.block 0 (.loop (Jq3f p)))) (.seq (.region [⟨(some 18), (.mov (.t 3)), none, false⟩, ⟨(some 19), (.call p.slices_Sort_int [(.t 18)]), none, false⟩] []) (.seq (.region [⟨(some 20), (.mov (.t 3)), none, false⟩, ⟨(some 2), (.asg (.t 20)), none, false⟩] []) .ret)))))
@[simp] def Jq42 (p : Nums) : List IOp := [qo 10 (.faddr 2 (.t 1)), qo 11 (.load none (.t 10)), qo 12 (.len (.t 11)), qo 13 (.mo (.mks 1 8 [.nilm] (.t 12) (.t 12))), qo 3 (.asg (.t 13))]
def Jq3j (p : Nums) : IC := (.region (Jq42 p) [])
@[simp] theorem Je3j {p : Nums} : EqI (Jq3j p) (.region (Jq42 p) []) := eqi
@[simp] def Jq48 (p : Nums) : List IOp := [qo 14 (.faddr 2 (.t 1)), qo 15 (.load none (.t 14)), qo 16 (.len (.t 15)), qo 17 (.mo (.mks 1 8 [.nilm] (.t 16) (.t 16))), qo 4 (.asg (.t 17))]
def Jq3u (p : Nums) : IC := (.region (Jq48 p) [])
@[simp] theorem Je3u {p : Nums} : EqI (Jq3u p) (.region (Jq48 p) []) := eqi
@[simp] def Jq49 (p : Nums) : List IOp := [qo 18 (.faddr 2 (.t 1)), qo 19 (.load none (.t 18)), qo 20 (.len (.t 19)), qo 21 (.mov (ci 0))]
def Jq3v (p : Nums) : IC := (.region (Jq49 p) [])
@[simp] theorem Je3v {p : Nums} : EqI (Jq3v p) (.region (Jq49 p) []) := eqi
@[simp] def Jq4a (p : Nums) : List IOp := [qo 23 (.mov (.t 21)), qo 24 (.iaddr 5 (.t 19) (.t 21)), qo 25 (.load (some 5) (.t 24)), qo 6 (.alloc [.nils, (zi 0), (zi 0), (zi 0), (zi 0)]), qo 5 (.asg (.t 23)), qn (.store 5 (.t 6) (.t 25))]
def Jq3w (p : Nums) : IC := (.region (Jq4a p) [])
@[simp] theorem Je3w {p : Nums} : EqI (Jq3w p) (.region (Jq4a p) []) := eqi
@[simp] def Jq4b (p : Nums) : List IOp := [qo 27 (.mov (.t 3)), qo 28 (.mov (.t 5)), qo 29 (.mov (.t 4)), qo 30 (.mov (.t 5)), qo 31 (.load (some 5) (.t 6)), qo 32 (.call p.liveness_scan [(.t 31)]), qo 26 (.mov (.t 32)), qo 33 (.ext (.t 26) 0), qo 34 (.ext (.t 26) 1), qo 35 (.iaddr 1 (.t 27) (.t 28)), qn (.store 1 (.t 35) (.t 33)), qo 36 (.iaddr 1 (.t 29) (.t 30)), qn (.store 1 (.t 36) (.t 34))]
def Jq3x (p : Nums) : IC := (.region (Jq4b p) [])
@[simp] theorem Je3x {p : Nums} : EqI (Jq3x p) (.region (Jq4b p) []) := eqi
def Jq3y (p : Nums) : IC := (.seq (.region [⟨(some 22), (.bin .lss (.t 21) (.t 20)), none, false⟩] []) (.seq (.cond (.t 22) .skip (.exit 0)) (.seq (.block 1 (.seq (Jq3w p) (Jq3x p))) (.region [⟨(some 37), (.bin .add (.t 21) (.c (.d (.int .i64 1)))), none, false⟩, ⟨(some 21), (.mov (.t 37)), none, false⟩] []))))
@[simp] theorem Je3y {p : Nums} : EqI (Jq3y p) (.seq (.region [⟨(some 22), (.bin .lss (.t 21) (.t 20)), none, false⟩] []) (.seq (.cond (.t 22) .skip (.exit 0)) (.seq (.block 1 (.seq (Jq3w p) (Jq3x p))) (.region [⟨(some 37), (.bin .add (.t 21) (.c (.d (.int .i64 1)))), none, false⟩, ⟨(some 21), (.mov (.t 37)), none, false⟩] [])))) := eqi
@[simp] def Jq4c (p : Nums) : List IOp := [qo 38 (.faddr 2 (.t 1)), qo 39 (.load none (.t 38)), qo 40 (.len (.t 39)), qo 41 (.bin .sub (.t 40) (ci 1)), qo 7 (.asg (.t 41))]
def Jq3z (p : Nums) : IC := (.region (Jq4c p) [])
@[simp] theorem Je3z {p : Nums} : EqI (Jq3z p) (.region (Jq4c p) []) := eqi
@[simp] def Jq4d (p : Nums) : List IOp := [qo 46 (.mov (.t 3)), qo 47 (.mov (.t 7)), qo 48 (.iaddr 1 (.t 46) (.t 47)), qo 49 (.load none (.t 48)), qo 50 (.mo (.len (.t 49))), qo 8 (.asg (.t 50))]
def Jq40 (p : Nums) : IC := (.region (Jq4d p) [])
@[simp] theorem Je40 {p : Nums} : EqI (Jq40 p) (.region (Jq4d p) []) := eqi
@[simp] def Jq4e (p : Nums) : List IOp := [qo 51 (.mov (.t 3)), qo 52 (.faddr 2 (.t 1)), qo 53 (.load none (.t 52)), qo 54 (.mov (.t 7)), qo 55 (.iaddr 5 (.t 53) (.t 54)), qo 56 (.load (some 5) (.t 55)), qo 57 (.call p.liveness_exit [(.t 51), (.t 56)]), qo 58 (.mo (.rng (.t 57)))]
def Jq41 (p : Nums) : IC := (.region (Jq4e p) [])
@[simp] theorem Je41 {p : Nums} : EqI (Jq41 p) (.region (Jq4e p) []) := eqi
@[simp] def Jq43 (p : Nums) : List IOp := [qo 61 (.mo (.ent (.t 58))), qo 62 (.ext (.t 61) 0), qo 9 (.asg (.t 62))]
def Jq3k (p : Nums) : IC := (.region (Jq43 p) [])
@[simp] theorem Je3k {p : Nums} : EqI (Jq3k p) (.region (Jq43 p) []) := eqi
@[simp] def Jq44 (p : Nums) : List IOp := [qo 63 (.mov (.t 4)), qo 64 (.mov (.t 7)), qo 65 (.iaddr 1 (.t 63) (.t 64)), qo 66 (.load none (.t 65)), qo 67 (.mov (.t 9)), qo 68 (.mo (.get (.t 66) (.t 67))), qo 69 (.un .not (.t 68))]
def Jq3l (p : Nums) : IC := (.region (Jq44 p) [])
@[simp] theorem Je3l {p : Nums} : EqI (Jq3l p) (.region (Jq44 p) []) := eqi
@[simp] def Jq45 (p : Nums) : List IOp := [qo 70 (.mov (.t 3)), qo 71 (.mov (.t 7)), qo 72 (.iaddr 1 (.t 70) (.t 71)), qo 73 (.load none (.t 72)), qo 74 (.mov (.t 9)), qn (.mo (.set (.t 73) (.t 74) (.c (.d (.bool true)))))]
def Jq3m (p : Nums) : IC := (.region (Jq45 p) [])
@[simp] theorem Je3m {p : Nums} : EqI (Jq3m p) (.region (Jq45 p) []) := eqi
def Jq3n (p : Nums) : IC := (.seq (Jq3k p) (.seq (Jq3l p) (.cond (.t 69) (Jq3m p) .skip)))
@[simp] theorem Je3n {p : Nums} : EqI (Jq3n p) (.seq (Jq3k p) (.seq (Jq3l p) (.cond (.t 69) (Jq3m p) .skip))) := eqi
def Jq3o (p : Nums) : IC := (.seq (.region [⟨(some 59), (.mo (.nxt (.t 58))), none, false⟩, ⟨(some 60), (.ext (.t 59) 0), none, false⟩] []) (.seq (.cond (.t 60) .skip (.exit 6)) (.block 7 (Jq3n p))))
@[simp] theorem Je3o {p : Nums} : EqI (Jq3o p) (.seq (.region [⟨(some 59), (.mo (.nxt (.t 58))), none, false⟩, ⟨(some 60), (.ext (.t 59) 0), none, false⟩] []) (.seq (.cond (.t 60) .skip (.exit 6)) (.block 7 (Jq3n p)))) := eqi
@[simp] def Jq46 (p : Nums) : List IOp := [qo 75 (.mov (.t 3)), qo 76 (.mov (.t 7)), qo 77 (.iaddr 1 (.t 75) (.t 76)), qo 78 (.load none (.t 77)), qo 79 (.mo (.len (.t 78))), qo 80 (.mov (.t 8)), qo 81 (.bin .gtr (.t 79) (.t 80))]
def Jq3p (p : Nums) : IC := (.region (Jq46 p) [])
@[simp] theorem Je3p {p : Nums} : EqI (Jq3p p) (.region (Jq46 p) []) := eqi
def Jq3q (p : Nums) : IC := (.seq (Jq40 p) (.seq (.seq (Jq41 p) (.block 6 (.loop (Jq3o p)))) (.seq (Jq3p p) (.cond (.t 81) (.exit 3) .skip))))
@[simp] theorem Je3q {p : Nums} : EqI (Jq3q p) (.seq (Jq40 p) (.seq (.seq (Jq41 p) (.block 6 (.loop (Jq3o p)))) (.seq (Jq3p p) (.cond (.t 81) (.exit 3) .skip)))) := eqi
@[simp] def Jq47 (p : Nums) : List IOp := [qo 44 (.mov (.t 7)), qo 45 (.bin .sub (.t 44) (ci 1)), qo 7 (.asg (.t 45))]
def Jq3r (p : Nums) : IC := (.region (Jq47 p) [])
@[simp] theorem Je3r {p : Nums} : EqI (Jq3r p) (.region (Jq47 p) []) := eqi
def Jq3s (p : Nums) : IC := (.seq (.seq (.region [⟨(some 42), (.mov (.t 7)), none, false⟩, ⟨(some 43), (.bin .geq (.t 42) (.c (.d (.int .i64 0)))), none, false⟩] []) (.cond (.t 43) .skip (.exit 4))) (.seq (.block 5 (Jq3q p)) (Jq3r p)))
@[simp] theorem Je3s {p : Nums} : EqI (Jq3s p) (.seq (.seq (.region [⟨(some 42), (.mov (.t 7)), none, false⟩, ⟨(some 43), (.bin .geq (.t 42) (.c (.d (.int .i64 0)))), none, false⟩] []) (.cond (.t 43) .skip (.exit 4))) (.seq (.block 5 (Jq3q p)) (Jq3r p))) := eqi
def Jq3t (p : Nums) : IC := (.seq (.seq (Jq3z p) (.block 4 (.loop (Jq3s p)))) (.seq (.region [⟨(some 82), (.mov (.t 3)), none, false⟩, ⟨(some 2), (.asg (.t 82)), none, false⟩] []) .ret))
@[simp] theorem Je3t {p : Nums} : EqI (Jq3t p) (.seq (.seq (Jq3z p) (.block 4 (.loop (Jq3s p)))) (.seq (.region [⟨(some 82), (.mov (.t 3)), none, false⟩, ⟨(some 2), (.asg (.t 82)), none, false⟩] []) .ret)) := eqi
def Jta8 (p : Nums) : IC := (.seq (.region [⟨(some 1), (.box (.t 0)), none, false⟩, ⟨(some 2), (.asg (.c .nils)), none, false⟩] []) (.seq (Jq3j p) (.seq (Jq3u p) (.seq (.seq (Jq3v p) (.block 0 (.loop (Jq3y p)))) (.seq .skip (.block 2 (.loop (.block 3 (Jq3t p)))))))))
@[simp] def Jqbe (p : Nums) : List IOp := [qo 11 (.faddr 2 (.t 2)), qo 12 (.load none (.t 11)), qo 13 (.len (.t 12)), qo 14 (.mkslice 1 1 [(.bool false)] (.t 13) (.t 13)), qo 5 (.asg (.t 14))]
def Jqav (p : Nums) : IC := (.region (Jqbe p) [])
@[simp] theorem Jeav {p : Nums} : EqI (Jqav p) (.region (Jqbe p) []) := eqi
@[simp] def Jqbj (p : Nums) : List IOp := [qo 15 (.mov (.t 6)), qo 16 (.faddr 2 (.t 2)), qo 17 (.load none (.t 16)), qo 18 (.len (.t 17)), qo 19 (.bin .leq (.t 15) (.t 18))]
def Jqb6 (p : Nums) : IC := (.region (Jqbj p) [])
@[simp] theorem Jeb6 {p : Nums} : EqI (Jqb6 p) (.region (Jqbj p) []) := eqi
@[simp] def Jqbk (p : Nums) : List IOp := [qo 22 (.mov (.t 7)), qo 23 (.faddr 2 (.t 2)), qo 24 (.load none (.t 23)), qo 25 (.len (.t 24)), qo 26 (.bin .lss (.t 22) (.t 25))]
def Jqb7 (p : Nums) : IC := (.region (Jqbk p) [])
@[simp] theorem Jeb7 {p : Nums} : EqI (Jqb7 p) (.region (Jqbk p) []) := eqi
@[simp] def Jqbl (p : Nums) : List IOp := [qo 29 (.faddr 2 (.t 2)), qo 30 (.load none (.t 29)), qo 31 (.mov (.t 7)), qo 32 (.iaddr 5 (.t 30) (.t 31)), qo 33 (.load (some 5) (.t 32)), qo 8 (.alloc [.nils, (zi 0), (zi 0), (zi 0), (zi 0)]), qn (.store 5 (.t 8) (.t 33))]
def Jqb8 (p : Nums) : IC := (.region (Jqbl p) [])
@[simp] theorem Jeb8 {p : Nums} : EqI (Jqb8 p) (.region (Jqbl p) []) := eqi
@[simp] def Jqbm (p : Nums) : List IOp := [qo 34 (.load (some 5) (.t 8)), qo 35 (.mov (.t 1)), qo 36 (.call p.ref23_Used [(.t 34), (.t 35)])]
def Jqb9 (p : Nums) : IC := (.region (Jqbm p) [])
@[simp] theorem Jeb9 {p : Nums} : EqI (Jqb9 p) (.region (Jqbm p) []) := eqi
@[simp] def Jqbn (p : Nums) : List IOp := [qo 37 (.mov (.t 5)), qo 38 (.mov (.t 7)), qo 39 (.iaddr 1 (.t 37) (.t 38)), qn (.store 1 (.t 39) (.c (.d (.bool true))))]
def Jqba (p : Nums) : IC := (.region (Jqbn p) [])
@[simp] theorem Jeba {p : Nums} : EqI (Jqba p) (.region (Jqbn p) []) := eqi
@[simp] def Jqbo (p : Nums) : List IOp := [qo 40 (.faddr 1 (.t 8)), qo 41 (.load (some 4) (.t 40)), qo 42 (.call p.ref07_Successors [(.t 41)]), qo 9 (.asg (.t 42))]
def Jqbb (p : Nums) : IC := (.region (Jqbo p) [])
@[simp] theorem Jebb {p : Nums} : EqI (Jqbb p) (.region (Jqbo p) []) := eqi
@[simp] def Jqbp (p : Nums) : List IOp := [qo 43 (.mov (.t 10)), qo 44 (.mov (.t 9)), qo 45 (.len (.t 44)), qo 46 (.bin .lss (.t 43) (.t 45))]
def Jqbc (p : Nums) : IC := (.region (Jqbp p) [])
@[simp] theorem Jebc {p : Nums} : EqI (Jqbc p) (.region (Jqbp p) []) := eqi
@[simp] def Jqbq (p : Nums) : List IOp := [qo 49 (.mov (.t 5)), qo 50 (.mov (.t 9)), qo 51 (.mov (.t 10)), qo 52 (.iaddr 1 (.t 50) (.t 51)), qo 53 (.load none (.t 52)), qo 54 (.iaddr 1 (.t 49) (.t 53)), qo 55 (.load none (.t 54)), qo 56 (.mov (.t 55)), ⟨(some 57), (.load (some 5) (.t 8)), (some (56, true)), false⟩, ⟨(some 58), (.mov (.t 1)), (some (56, true)), false⟩, ⟨(some 59), (.faddr 0 (.t 8)), (some (56, true)), false⟩, ⟨(some 60), (.load none (.t 59)), (some (56, true)), false⟩, ⟨(some 61), (.len (.t 60)), (some (56, true)), false⟩, ⟨(some 62), (.call p.ref23_Defines [(.t 57), (.t 58), (.t 61)]), (some (56, true)), false⟩, ⟨(some 63), (.un .not (.t 62)), (some (56, true)), false⟩, qo 64 (.pick (.t 56) (.t 63) (.c (.d (.bool false))))]
def Jqbd (p : Nums) : IC := (.region (Jqbq p) [])
@[simp] theorem Jebd {p : Nums} : EqI (Jqbd p) (.region (Jqbq p) []) := eqi
@[simp] def Jqbf (p : Nums) : List IOp := [qo 65 (.mov (.t 5)), qo 66 (.mov (.t 7)), qo 67 (.iaddr 1 (.t 65) (.t 66)), qn (.store 1 (.t 67) (.c (.d (.bool true))))]
def Jqaw (p : Nums) : IC := (.region (Jqbf p) [])
@[simp] theorem Jeaw {p : Nums} : EqI (Jqaw p) (.region (Jqbf p) []) := eqi
def Jqax (p : Nums) : IC := (.seq (Jqbd p) (.cond (.t 64) (Jqaw p) .skip))
@[simp] theorem Jeax {p : Nums} : EqI (Jqax p) (.seq (Jqbd p) (.cond (.t 64) (Jqaw p) .skip)) := eqi
@[simp] def Jqbg (p : Nums) : List IOp := [qo 47 (.mov (.t 10)), qo 48 (.bin .add (.t 47) (ci 1)), qo 10 (.asg (.t 48))]
def Jqay (p : Nums) : IC := (.region (Jqbg p) [])
@[simp] theorem Jeay {p : Nums} : EqI (Jqay p) (.region (Jqbg p) []) := eqi
def Jqaz (p : Nums) : IC := (.seq (.seq (Jqbc p) (.cond (.t 46) .skip (.exit 4))) (.seq (.block 5 (Jqax p)) (Jqay p)))
@[simp] theorem Jeaz {p : Nums} : EqI (Jqaz p) (.seq (.seq (Jqbc p) (.cond (.t 46) .skip (.exit 4))) (.seq (.block 5 (Jqax p)) (Jqay p))) := eqi
def Jqb0 (p : Nums) : IC := (.seq (Jqb8 p) (.seq (.seq (Jqb9 p) (.cond (.t 36) (Jqba p) .skip)) (.seq (Jqbb p) (.seq (.region [⟨(some 10), (.asg (.c (.d (.int .i64 0)))), none, false⟩] []) (.block 4 (.loop (Jqaz p)))))))
@[simp] theorem Jeb0 {p : Nums} : EqI (Jqb0 p) (.seq (Jqb8 p) (.seq (.seq (Jqb9 p) (.cond (.t 36) (Jqba p) .skip)) (.seq (Jqbb p) (.seq (.region [⟨(some 10), (.asg (.c (.d (.int .i64 0)))), none, false⟩] []) (.block 4 (.loop (Jqaz p))))))) := eqi
@[simp] def Jqbh (p : Nums) : List IOp := [qo 27 (.mov (.t 7)), qo 28 (.bin .add (.t 27) (ci 1)), qo 7 (.asg (.t 28))]
def Jqb1 (p : Nums) : IC := (.region (Jqbh p) [])
@[simp] theorem Jeb1 {p : Nums} : EqI (Jqb1 p) (.region (Jqbh p) []) := eqi
def Jqb2 (p : Nums) : IC := (.seq (.seq (Jqb7 p) (.cond (.t 26) .skip (.exit 2))) (.seq (.block 3 (Jqb0 p)) (Jqb1 p)))
@[simp] theorem Jeb2 {p : Nums} : EqI (Jqb2 p) (.seq (.seq (Jqb7 p) (.cond (.t 26) .skip (.exit 2))) (.seq (.block 3 (Jqb0 p)) (Jqb1 p))) := eqi
def Jqb3 (p : Nums) : IC := (.seq (.region [⟨(some 7), (.asg (.c (.d (.int .i64 0)))), none, false⟩] []) (.block 2 (.loop (Jqb2 p))))
@[simp] theorem Jeb3 {p : Nums} : EqI (Jqb3 p) (.seq (.region [⟨(some 7), (.asg (.c (.d (.int .i64 0)))), none, false⟩] []) (.block 2 (.loop (Jqb2 p)))) := eqi
@[simp] def Jqbi (p : Nums) : List IOp := [qo 20 (.mov (.t 6)), qo 21 (.bin .add (.t 20) (ci 1)), qo 6 (.asg (.t 21))]
def Jqb4 (p : Nums) : IC := (.region (Jqbi p) [])
@[simp] theorem Jeb4 {p : Nums} : EqI (Jqb4 p) (.region (Jqbi p) []) := eqi
def Jqb5 (p : Nums) : IC := (.seq (.seq (Jqb6 p) (.cond (.t 19) .skip (.exit 0))) (.seq (.block 1 (Jqb3 p)) (Jqb4 p)))
@[simp] theorem Jeb5 {p : Nums} : EqI (Jqb5 p) (.seq (.seq (Jqb6 p) (.cond (.t 19) .skip (.exit 0))) (.seq (.block 1 (Jqb3 p)) (Jqb4 p))) := eqi
def Jtas (p : Nums) : IC := (.seq (.region [⟨(some 2), (.box (.t 0)), none, false⟩, ⟨(some 4), (.asg (.c .nils)), none, false⟩] []) (.seq (Jqav p) (.seq (.seq (.region [⟨(some 6), (.asg (.c (.d (.int .i64 0)))), none, false⟩] []) (.block 0 (.loop (Jqb5 p)))) (.seq (.region [⟨(some 68), (.mov (.t 5)), none, false⟩, ⟨(some 4), (.asg (.t 68)), none, false⟩] []) .ret))))
@[simp] def Jq2h (p : Nums) : List IOp := [qo 10 (.faddr 1 (.t 3)), qo 11 (.load (some 4) (.t 10)), qo 12 (.call p.source_Successors [(.t 11)]), qo 13 (.len (.t 12)), qo 14 (.mov (ci 0))]
def Jq29 (p : Nums) : IC := (.region (Jq2h p) [])
@[simp] theorem Je29 {p : Nums} : EqI (Jq29 p) (.region (Jq2h p) []) := eqi
@[simp] def Jq2i (p : Nums) : List IOp := [qo 16 (.iaddr 1 (.t 12) (.t 14)), qo 17 (.load none (.t 16)), qo 7 (.asg (.t 17))]
def Jq2a (p : Nums) : IC := (.region (Jq2i p) [])
@[simp] theorem Je2a {p : Nums} : EqI (Jq2a p) (.region (Jq2i p) []) := eqi
@[simp] def Jq2j (p : Nums) : List IOp := [qo 18 (.mov (.t 0)), qo 19 (.mov (.t 7)), qo 20 (.iaddr 1 (.t 18) (.t 19)), qo 21 (.load none (.t 20)), qo 22 (.mo (.rng (.t 21)))]
def Jq2b (p : Nums) : IC := (.region (Jq2j p) [])
@[simp] theorem Je2b {p : Nums} : EqI (Jq2b p) (.region (Jq2j p) []) := eqi
@[simp] def Jq2k (p : Nums) : List IOp := [qo 25 (.mo (.ent (.t 22))), qo 26 (.ext (.t 25) 0), qo 8 (.asg (.t 26))]
def Jq2c (p : Nums) : IC := (.region (Jq2k p) [])
@[simp] theorem Je2c {p : Nums} : EqI (Jq2c p) (.region (Jq2k p) []) := eqi
@[simp] def Jq2l (p : Nums) : List IOp := [qo 27 (.mov (.t 5)), qo 28 (.mov (.t 8)), qn (.mo (.set (.t 27) (.t 28) (.c (.d (.bool true)))))]
def Jq2d (p : Nums) : IC := (.region (Jq2l p) [])
@[simp] theorem Je2d {p : Nums} : EqI (Jq2d p) (.region (Jq2l p) []) := eqi
def Jq2e (p : Nums) : IC := (.seq (.region [⟨(some 23), (.mo (.nxt (.t 22))), none, false⟩, ⟨(some 24), (.ext (.t 23) 0), none, false⟩] []) (.seq (.cond (.t 24) .skip (.exit 2)) (.block 3 (.seq (Jq2c p) (Jq2d p)))))
@[simp] theorem Je2e {p : Nums} : EqI (Jq2e p) (.seq (.region [⟨(some 23), (.mo (.nxt (.t 22))), none, false⟩, ⟨(some 24), (.ext (.t 23) 0), none, false⟩] []) (.seq (.cond (.t 24) .skip (.exit 2)) (.block 3 (.seq (Jq2c p) (Jq2d p))))) := eqi
def Jq2f (p : Nums) : IC := (.seq (Jq2a p) (.seq (Jq2b p) (.block 2 (.loop (Jq2e p)))))
@[simp] theorem Je2f {p : Nums} : EqI (Jq2f p) (.seq (Jq2a p) (.seq (Jq2b p) (.block 2 (.loop (Jq2e p))))) := eqi
def Jq2g (p : Nums) : IC := (.seq (.region [⟨(some 15), (.bin .lss (.t 14) (.t 13)), none, false⟩] []) (.seq (.cond (.t 15) .skip (.exit 0)) (.seq (.block 1 (Jq2f p)) (.region [⟨(some 29), (.bin .add (.t 14) (.c (.d (.int .i64 1)))), none, false⟩, ⟨(some 14), (.mov (.t 29)), none, false⟩] []))))
@[simp] theorem Je2g {p : Nums} : EqI (Jq2g p) (.seq (.region [⟨(some 15), (.bin .lss (.t 14) (.t 13)), none, false⟩] []) (.seq (.cond (.t 15) .skip (.exit 0)) (.seq (.block 1 (Jq2f p)) (.region [⟨(some 29), (.bin .add (.t 14) (.c (.d (.int .i64 1)))), none, false⟩, ⟨(some 14), (.mov (.t 29)), none, false⟩] [])))) := eqi
def Jta4 (p : Nums) : IC := (.seq (.region [⟨(some 3), (.box (.t 1)), none, false⟩, ⟨(some 4), (.asg (.c .nilm)), none, false⟩] []) (.seq (.region [⟨(some 9), (.mo .mk), none, false⟩, ⟨(some 5), (.asg (.t 9)), none, false⟩] []) (.seq (.seq (Jq29 p) (.block 0 (.loop (Jq2g p)))) (.seq (.region [⟨(some 30), (.mov (.t 5)), none, false⟩, ⟨(some 4), (.asg (.t 30)), none, false⟩] []) .ret))))
@[simp] def Jq8d (p : Nums) : List IOp := [qo 5 (.mov (.t 0)), qo 6 (.bin .geq (.t 5) (ci 0)), qo 7 (.mov (.t 6)), ⟨(some 8), (.mov (.t 0)), (some (7, true)), false⟩, ⟨(some 9), (.mov (.t 1)), (some (7, true)), false⟩, ⟨(some 10), (.bin .lss (.t 8) (.t 9)), (some (7, true)), false⟩, qo 11 (.pick (.t 7) (.t 10) (.c (.d (.bool false)))), qo 4 (.asg (.t 11))]
def Jq8c (p : Nums) : IC := (.region (Jq8d p) [])
@[simp] theorem Je8c {p : Nums} : EqI (Jq8c p) (.region (Jq8d p) []) := eqi
def Jtal (p : Nums) : IC := (.seq (.region [⟨(some 4), (.asg (.c (.d (.bool false)))), none, false⟩] []) (.seq (Jq8c p) .ret))
@[simp] def Jq2o (p : Nums) : List IOp := [qo 4 (.load none (.t 1)), qo 5 (.mov (.t 0)), qo 6 (.mo (.get (.t 4) (.t 5))), qo 7 (.un .not (.t 6))]
def Jq2m (p : Nums) : IC := (.region (Jq2o p) [])
@[simp] theorem Je2m {p : Nums} : EqI (Jq2m p) (.region (Jq2o p) []) := eqi
@[simp] def Jq2p (p : Nums) : List IOp := [qo 8 (.load none (.t 2)), qo 9 (.mov (.t 0)), qn (.mo (.set (.t 8) (.t 9) (.c (.d (.bool true)))))]
def Jq2n (p : Nums) : IC := (.region (Jq2p p) [])
@[simp] theorem Je2n {p : Nums} : EqI (Jq2n p) (.region (Jq2p p) []) := eqi
def Jta6 (p : Nums) : IC := (.seq (Jq2m p) (.cond (.t 7) (Jq2n p) .skip))
@[simp] def Jq4t (p : Nums) : List IOp := [qo 2 (.alloc [(.d (.bool false)), (.d (.bool false)), (.d (.bool false)), (.d (.bool false))]), qo 3 (.asg (.c (.d (.bool false))))]
def Jq4f (p : Nums) : IC := (.region (Jq4t p) [])
@[simp] theorem Je4f {p : Nums} : EqI (Jq4f p) (.region (Jq4t p) []) := eqi
@[simp] def Jq4v (p : Nums) : List IOp := [qo 5 (.mov (.t 0)), qo 6 (.call p.opcode_known [(.t 5)]), qo 7 (.un .not (.t 6)), qo 4 (.asg (.t 7))]
def Jq4l (p : Nums) : IC := (.region (Jq4v p) [])
@[simp] theorem Je4l {p : Nums} : EqI (Jq4l p) (.region (Jq4v p) []) := eqi
@[simp] def Jq4w (p : Nums) : List IOp := [qo 8 (.build [(.d (.bool false)), (.d (.bool false)), (.d (.bool false)), (.d (.bool false))] []), qn (.store 4 (.t 2) (.t 8)), qo 3 (.asg (.c (.d (.bool false))))]
def Jq4m (p : Nums) : IC := (.region (Jq4w p) [])
@[simp] theorem Je4m {p : Nums} : EqI (Jq4m p) (.region (Jq4w p) []) := eqi
@[simp] def Jq4x (p : Nums) : List IOp := [qo 10 (.mov (.t 0)), qo 11 (.bin .eql (.t 10) (ci 1)), qo 9 (.asg (.t 11))]
def Jq4n (p : Nums) : IC := (.region (Jq4x p) [])
@[simp] theorem Je4n {p : Nums} : EqI (Jq4n p) (.region (Jq4x p) []) := eqi
@[simp] def Jq4y (p : Nums) : List IOp := [qo 12 (.build [(.d (.bool false)), (.d (.bool false)), (.d (.bool false)), (.d (.bool false))] [(0, 1, (.c (.d (.bool true)))), (3, 1, (.c (.d (.bool true))))]), qn (.store 4 (.t 2) (.t 12)), qo 3 (.asg (.c (.d (.bool true))))]
def Jq4o (p : Nums) : IC := (.region (Jq4y p) [])
@[simp] theorem Je4o {p : Nums} : EqI (Jq4o p) (.region (Jq4y p) []) := eqi
@[simp] def Jq4z (p : Nums) : List IOp := [qo 14 (.mov (.t 0)), qo 15 (.bin .leq (.t 14) (ci 4)), qo 13 (.asg (.t 15))]
def Jq4p (p : Nums) : IC := (.region (Jq4z p) [])
@[simp] theorem Je4p {p : Nums} : EqI (Jq4p p) (.region (Jq4z p) []) := eqi
@[simp] def Jq50 (p : Nums) : List IOp := [qo 16 (.build [(.d (.bool false)), (.d (.bool false)), (.d (.bool false)), (.d (.bool false))] [(0, 1, (.c (.d (.bool true)))), (1, 1, (.c (.d (.bool true))))]), qn (.store 4 (.t 2) (.t 16)), qo 3 (.asg (.c (.d (.bool true))))]
def Jq4q (p : Nums) : IC := (.region (Jq50 p) [])
@[simp] theorem Je4q {p : Nums} : EqI (Jq4q p) (.region (Jq50 p) []) := eqi
@[simp] def Jq51 (p : Nums) : List IOp := [qo 18 (.mov (.t 0)), qo 19 (.bin .leq (.t 18) (ci 16)), qo 17 (.asg (.t 19))]
def Jq4r (p : Nums) : IC := (.region (Jq51 p) [])
@[simp] theorem Je4r {p : Nums} : EqI (Jq4r p) (.region (Jq51 p) []) := eqi
@[simp] def Jq52 (p : Nums) : List IOp := [qo 20 (.build [(.d (.bool false)), (.d (.bool false)), (.d (.bool false)), (.d (.bool false))] [(0, 1, (.c (.d (.bool true)))), (1, 1, (.c (.d (.bool true)))), (2, 1, (.c (.d (.bool true))))]), qn (.store 4 (.t 2) (.t 20)), qo 3 (.asg (.c (.d (.bool true))))]
def Jq4s (p : Nums) : IC := (.region (Jq52 p) [])
@[simp] theorem Je4s {p : Nums} : EqI (Jq4s p) (.region (Jq52 p) []) := eqi
def Jq4g (p : Nums) : IC := (.seq (Jq4r p) (.cond (.t 17) (.seq (Jq4s p) .ret) .skip))
@[simp] theorem Je4g {p : Nums} : EqI (Jq4g p) (.seq (Jq4r p) (.cond (.t 17) (.seq (Jq4s p) .ret) .skip)) := eqi
def Jq4h (p : Nums) : IC := (.seq (Jq4p p) (.cond (.t 13) (.seq (Jq4q p) .ret) (Jq4g p)))
@[simp] theorem Je4h {p : Nums} : EqI (Jq4h p) (.seq (Jq4p p) (.cond (.t 13) (.seq (Jq4q p) .ret) (Jq4g p))) := eqi
def Jq4i (p : Nums) : IC := (.seq (Jq4n p) (.cond (.t 9) (.seq (Jq4o p) .ret) (Jq4h p)))
@[simp] theorem Je4i {p : Nums} : EqI (Jq4i p) (.seq (Jq4n p) (.cond (.t 9) (.seq (Jq4o p) .ret) (Jq4h p))) := eqi
def Jq4j (p : Nums) : IC := (.seq (Jq4l p) (.cond (.t 4) (.seq (Jq4m p) .ret) (Jq4i p)))
@[simp] theorem Je4j {p : Nums} : EqI (Jq4j p) (.seq (Jq4l p) (.cond (.t 4) (.seq (Jq4m p) .ret) (Jq4i p))) := eqi
@[simp] def Jq4u (p : Nums) : List IOp := [qo 21 (.mov (.t 0)), qo 22 (.bin .eql (.t 21) (ci 17)), qo 23 (.build [(.d (.bool false)), (.d (.bool false)), (.d (.bool false)), (.d (.bool false))] [(1, 1, (.t 22))]), qn (.store 4 (.t 2) (.t 23)), qo 3 (.asg (.c (.d (.bool true))))]
def Jq4k (p : Nums) : IC := (.region (Jq4u p) [])
@[simp] theorem Je4k {p : Nums} : EqI (Jq4k p) (.region (Jq4u p) []) := eqi
def Jta9 (p : Nums) : IC := (.seq (Jq4f p) (.seq (.block 0 (Jq4j p)) (.seq (Jq4k p) .ret)))
@[simp] def Jqbv (p : Nums) : List IOp := [qo 7 (.faddr 2 (.t 1)), qo 8 (.load none (.t 7)), qo 9 (.bslice 1 1 [(.int .i64 0)] [(0, (.t 8))]), qo 2 (.asg (.t 9))]
def Jqbr (p : Nums) : IC := (.region (Jqbv p) [])
@[simp] theorem Jebr {p : Nums} : EqI (Jqbr p) (.region (Jqbv p) []) := eqi
@[simp] def Jqbw (p : Nums) : List IOp := [qo 12 (.faddr 2 (.t 1)), qo 13 (.load none (.t 12)), qo 14 (.faddr 3 (.t 1)), qo 15 (.load none (.t 14)), qo 16 (.bslice 1 2 [(.int .i64 0)] [(0, (.t 13)), (1, (.t 15))]), qo 2 (.asg (.t 16))]
def Jqbs (p : Nums) : IC := (.region (Jqbw p) [])
@[simp] theorem Jebs {p : Nums} : EqI (Jqbs p) (.region (Jqbw p) []) := eqi
def Jqbt (p : Nums) : IC := (.seq (.region [⟨(some 11), (.bin .eql (.t 4) (.c (.d (.int .i64 2)))), none, false⟩, ⟨(some 10), (.asg (.t 11)), none, false⟩] []) (.cond (.t 10) (.seq (Jqbs p) .ret) .skip))
@[simp] theorem Jebt {p : Nums} : EqI (Jqbt p) (.seq (.region [⟨(some 11), (.bin .eql (.t 4) (.c (.d (.int .i64 2)))), none, false⟩, ⟨(some 10), (.asg (.t 11)), none, false⟩] []) (.cond (.t 10) (.seq (Jqbs p) .ret) .skip)) := eqi
def Jqbu (p : Nums) : IC := (.seq (.region [⟨(some 6), (.bin .eql (.t 4) (.c (.d (.int .i64 1)))), none, false⟩, ⟨(some 5), (.asg (.t 6)), none, false⟩] []) (.cond (.t 5) (.seq (Jqbr p) .ret) (Jqbt p)))
@[simp] theorem Jebu {p : Nums} : EqI (Jqbu p) (.seq (.region [⟨(some 6), (.bin .eql (.t 4) (.c (.d (.int .i64 1)))), none, false⟩, ⟨(some 5), (.asg (.t 6)), none, false⟩] []) (.cond (.t 5) (.seq (Jqbr p) .ret) (Jqbt p))) := eqi
def Jtat (p : Nums) : IC := (.seq (.region [⟨(some 1), (.box (.t 0)), none, false⟩, ⟨(some 2), (.asg (.c .nils)), none, false⟩] []) (.seq (.seq (.region [⟨(some 3), (.faddr 0 (.t 1)), none, false⟩, ⟨(some 4), (.load none (.t 3)), none, false⟩] []) (.block 0 (Jqbu p))) (.seq (.region [⟨(some 2), (.asg (.c .nils)), none, false⟩] []) .ret)))
@[simp] def Jq54 (p : Nums) : List IOp := [qo 3 (.mov (.t 0)), qo 4 (.bin .geq (.t 3) (ci 1)), qo 5 (.mov (.t 4)), ⟨(some 6), (.mov (.t 0)), (some (5, true)), false⟩, ⟨(some 7), (.bin .leq (.t 6) (ci 18)), (some (5, true)), false⟩, qo 8 (.pick (.t 5) (.t 7) (.c (.d (.bool false)))), qo 2 (.asg (.t 8))]
def Jq53 (p : Nums) : IC := (.region (Jq54 p) [])
@[simp] theorem Je53 {p : Nums} : EqI (Jq53 p) (.region (Jq54 p) []) := eqi
def Jtaa (p : Nums) : IC := (.seq (.region [⟨(some 2), (.asg (.c (.d (.bool false)))), none, false⟩] []) (.seq (Jq53 p) .ret))
@[simp] def Jq1 (p : Nums) : List IOp := [qo 5 (.box (.t 1)), qo 6 (.box (.t 2)), qo 8 (.alloc [(zi 0)]), qo 9 (.alloc [(zi 0)])]
def Jq0 (p : Nums) : IC := (.region (Jq1 p) [])
@[simp] theorem Je0 {p : Nums} : EqI (Jq0 p) (.region (Jq1 p) []) := eqi
@[simp] def Jqh (p : Nums) : List IOp := [qo 13 (.mov (.t 3)), qo 14 (.len (.t 13)), qo 15 (.mov (ci 0))]
def Jq9 (p : Nums) : IC := (.region (Jqh p) [])
@[simp] theorem Je9 {p : Nums} : EqI (Jq9 p) (.region (Jqh p) []) := eqi
@[simp] def Jqi (p : Nums) : List IOp := [qo 17 (.iaddr 6 (.t 13) (.t 15)), qo 18 (.load (some 6) (.t 17)), qo 11 (.alloc [(zi 0), (zi 0), (zi 0), (zi 0), (zi 0), (zi 0)]), qn (.store 6 (.t 11) (.t 18))]
def Jqa (p : Nums) : IC := (.region (Jqi p) [])
@[simp] theorem Jea {p : Nums} : EqI (Jqa p) (.region (Jqi p) []) := eqi
@[simp] def Jqj (p : Nums) : List IOp := [qo 19 (.mov (.t 0)), qo 20 (.load (some 5) (.t 5)), qo 21 (.load (some 5) (.t 6)), qo 22 (.load (some 6) (.t 11)), qo 23 (.call p.blockcheck_checker_row [(.t 19), (.t 20), (.t 21), (.t 22)])]
def Jqb (p : Nums) : IC := (.region (Jqj p) [])
@[simp] theorem Jeb {p : Nums} : EqI (Jqb p) (.region (Jqj p) []) := eqi
def Jqc (p : Nums) : IC := (.seq (Jqa p) (Jqb p))
@[simp] theorem Jec {p : Nums} : EqI (Jqc p) (.seq (Jqa p) (Jqb p)) := eqi
def Jqd (p : Nums) : IC := (.seq (.region [⟨(some 16), (.bin .lss (.t 15) (.t 14)), none, false⟩] []) (.seq (.cond (.t 16) .skip (.exit 0)) (.seq (.block 1 (Jqc p)) (.region [⟨(some 24), (.bin .add (.t 15) (.c (.d (.int .i64 1)))), none, false⟩, ⟨(some 15), (.mov (.t 24)), none, false⟩] []))))
@[simp] theorem Jed {p : Nums} : EqI (Jqd p) (.seq (.region [⟨(some 16), (.bin .lss (.t 15) (.t 14)), none, false⟩] []) (.seq (.cond (.t 16) .skip (.exit 0)) (.seq (.block 1 (Jqc p)) (.region [⟨(some 24), (.bin .add (.t 15) (.c (.d (.int .i64 1)))), none, false⟩, ⟨(some 15), (.mov (.t 24)), none, false⟩] [])))) := eqi
@[simp] def Jqk (p : Nums) : List IOp := [qo 25 (.faddr 1 (.t 5)), qo 26 (.faddr 0 (.t 25)), qo 27 (.load none (.t 26)), qo 28 (.bin .neq (.t 27) (ci 1))]
def Jqe (p : Nums) : IC := (.region (Jqk p) [])
@[simp] theorem Jee {p : Nums} : EqI (Jqe p) (.region (Jqk p) []) := eqi
@[simp] def Jql (p : Nums) : List IOp := [qo 29 (.mov (.t 0)), qo 30 (.faddr 1 (.t 5)), qo 31 (.faddr 1 (.t 30)), qo 32 (.load none (.t 31)), qo 33 (.faddr 1 (.t 6)), qo 34 (.faddr 1 (.t 33)), qo 35 (.load none (.t 34)), qo 36 (.faddr 0 (.t 6)), qo 37 (.load none (.t 36)), qo 38 (.len (.t 37)), qo 39 (.call p.blockcheck_checker_use [(.t 29), (.t 32), (.t 35), (.t 38)])]
def Jqf (p : Nums) : IC := (.region (Jql p) [])
@[simp] theorem Jef {p : Nums} : EqI (Jqf p) (.region (Jql p) []) := eqi
@[simp] def Jqm (p : Nums) : List IOp := [qp 40 (.faddr 0 (.t 6)), qp 41 (.load none (.t 40)), qp 42 (.len (.t 41)), qm (.storeq 1 (.t 8) (ci 0) [(40, 1)]), qn (.store 1 (.t 9) (.t 42))]
def Jqg (p : Nums) : IC := (.region (Jqm p) [])
@[simp] theorem Jeg {p : Nums} : EqI (Jqg p) (.region (Jqm p) []) := eqi
@[simp] def Jq6 (p : Nums) : List IOp := [qo 9 (.mov (.t 2)), qo 10 (.tas p.ty_bcfail (.t 9)), qo 8 (.mov (.t 10)), qo 11 (.ext (.t 8) 0), qo 12 (.ext (.t 8) 1), qo 3 (.alloc [(zi 0), (zi 0)]), qn (.store 2 (.t 3) (.t 11)), qo 4 (.asg (.t 12))]
def Jq2 (p : Nums) : IC := (.region (Jq6 p) [])
@[simp] theorem Je2 {p : Nums} : EqI (Jq2 p) (.region (Jq6 p) []) := eqi
@[simp] def Jq7 (p : Nums) : List IOp := [qo 15 (.mov (.t 2)), qn (.pan (.t 15))]
def Jq3 (p : Nums) : IC := (.region (Jq7 p) [])
@[simp] theorem Je3 {p : Nums} : EqI (Jq3 p) (.region (Jq7 p) []) := eqi
@[simp] def Jq8 (p : Nums) : List IOp := [qp 16 (.faddr 0 (.t 3)), qp 17 (.load none (.t 16)), qp 18 (.faddr 1 (.t 3)), qp 19 (.load none (.t 18)), qm (.storeq 1 (.t 0) (.t 17) [(18, 1)]), qn (.store 1 (.t 1) (.t 19))]
def Jq4 (p : Nums) : IC := (.region (Jq8 p) [])
@[simp] theorem Je4 {p : Nums} : EqI (Jq4 p) (.region (Jq8 p) []) := eqi
def Jq5 (p : Nums) : IC := (.seq (Jq2 p) (.seq (.seq (.region [⟨(some 13), (.mov (.t 4)), none, false⟩, ⟨(some 14), (.un .not (.t 13)), none, false⟩] []) (.cond (.t 14) (Jq3 p) .skip)) (Jq4 p)))
@[simp] theorem Je5 {p : Nums} : EqI (Jq5 p) (.seq (Jq2 p) (.seq (.seq (.region [⟨(some 13), (.mov (.t 4)), none, false⟩, ⟨(some 14), (.un .not (.t 13)), none, false⟩] []) (.cond (.t 14) (Jq3 p) .skip)) (Jq4 p))) := eqi
structure All (P : Program) (p : Nums) : Prop where
 law23_LivenessMatchesReference : Has P p.law23_LivenessMatchesReference 1 [(.tmp 2)] (Jt9y p)
 law23_awake : Has P p.law23_awake 0 [(.tmp 0)] (Jt9z p)
 ref07_Few : Has P p.ref07_Few 1 [(.tmp 2)] (Jtag p)
 ref07_Check : Has P p.ref07_Check 1 [(.tmp 2)] (Jtae p)
 ref23_Used : Has P p.ref23_Used 2 [(.tmp 4)] (Jtar p)
 ref23_Defines : Has P p.ref23_Defines 3 [(.tmp 6)] (Jtam p)
 ref07_Numbers : Has P p.ref07_Numbers 2 [(.tmp 4)] (Jtai p)
 liveness_Uses : Has P p.liveness_Uses 1 [(.tmp 2)] (Jta3 p)
 liveness_Defs : Has P p.liveness_Defs 1 [(.tmp 2)] (Jta0 p)
 ref23_Same : Has P p.ref23_Same 2 [(.tmp 4)] (Jtaq p)
 liveness_In : Has P p.liveness_In 1 [(.tmp 2)] (Jta1 p)
 ref23_In : Has P p.ref23_In 1 [(.tmp 2)] (Jtao p)
 liveness_Out : Has P p.liveness_Out 1 [(.tmp 2)] (Jta2 p)
 ref23_Out : Has P p.ref23_Out 1 [(.tmp 2)] (Jtap p)
 ref07_Successors : Has P p.ref07_Successors 1 [(.tmp 2)] (Jtaj p)
 ref23_Has : Has P p.ref23_Has 2 [(.tmp 4)] (Jtan p)
 ref07_Code : Has P p.ref07_Code 1 [(.tmp 2)] (Jtaf p)
 ref07_Instr : Has P p.ref07_Instr 2 [(.tmp 4)] (Jtah p)
 ref07_Term : Has P p.ref07_Term 3 [(.tmp 6)] (Jtak p)
 ref05_UsesA : Has P p.ref05_UsesA 1 [(.tmp 2)] (Jtab p)
 ref05_UsesB : Has P p.ref05_UsesB 1 [(.tmp 2)] (Jtac p)
 ref05_UsesD : Has P p.ref05_UsesD 1 [(.tmp 2)] (Jtad p)
 liveness_scan : Has P p.liveness_scan 1 [(.cell 2 none), (.cell 3 none)] (Jta5 p)
 liveness_set_sorted : Has P p.liveness_set_sorted 1 [(.tmp 2)] (Jta7 p)
 liveness_solve : Has P p.liveness_solve 1 [(.tmp 2)] (Jta8 p)
 ref23_live : Has P p.ref23_live 2 [(.tmp 4)] (Jtas p)
 liveness_exit : Has P p.liveness_exit 2 [(.tmp 4)] (Jta4 p)
 ref07_in : Has P p.ref07_in 2 [(.tmp 4)] (Jtal p)
 liveness_scan_1 : Has P p.liveness_scan_1 3 [] (Jta6 p)
 opcode_Of : Has P p.opcode_Of 1 [(.cell 2 (some 4)), (.tmp 3)] (Jta9 p)
 source_Successors : Has P p.source_Successors 1 [(.tmp 2)] (Jtat p)
 opcode_known : Has P p.opcode_known 1 [(.tmp 2)] (Jtaa p)
abbrev I (n : Int) : D := .int .i64 n
abbrev AI (n : Int) : AV := .d (.int .i64 n)
abbrev AB (b : Bool) : AV := .d (.bool b)
structure Pair where (v l : Int)
 deriving DecidableEq, Inhabited
def Pair.row (q : Pair) : List D := [I q.v, I q.l]
def Pair.av (q : Pair) : AV := .agg [AI q.v, AI q.l]
def pairsD (l : List Pair) : D := .sl (l.map Pair.row)
theorem HasL.cons_inv {l : LT} {ls : List LT} {ds : List D} (h : HasL (l :: ls) ds) : ∃ d ds', ds = d :: ds' ∧ HasT l d ∧ HasL ls ds' := by
 obtain ⟨h1, h2⟩ := h
 cases ds with
 | nil => simp at h1
 | cons d ds => exact ⟨d, ds, rfl, h2 0 l d rfl rfl, by simpa using h1, fun j l' x a b => h2 (j + 1) l' x (by simpa using a) (by simpa using b)⟩
theorem HasL.nil_inv {ds : List D} (h : HasL [] ds) : ds = [] := by
 have := h.1; simpa using this
theorem HasT.int_inv {k : IntKind} {d : D} (h : HasT (.int k) d) : ∃ n, d = .int k n ∧ (Lit.int k n).wf = true := by
 cases h with
 | int _ n h => exact ⟨n, rfl, h⟩
theorem HasT.sl_inv {ls : List LT} {d : D} (h : HasT (.sl ls) d) : ∃ rows, d = .sl rows ∧ rows.length ≤ maxLen ∧ ∀ r ∈ rows, HasL ls r := by
 cases h with
 | sl _ rows hl h0 h => exact ⟨rows, rfl, hl, fun r hr => ⟨h0 r hr, h r hr⟩⟩
theorem Jtgr {α : Type} {g : α → List D} {Q : List D → Prop} (h : ∀ r, Q r → ∃ x, r = g x) : ∀ {rows : List (List D)}, (∀ r ∈ rows, Q r) → ∃ l : List α, rows = l.map g := by
 intro rows
 induction rows with
 | nil => intro _; exact ⟨[], rfl⟩
 | cons r rows ih =>
  intro hq
  obtain ⟨x, rfl⟩ := h r (hq r (by simp))
  obtain ⟨l, rfl⟩ := ih fun r hr => hq r (by simp [hr])
  exact ⟨x :: l, rfl⟩
def ltI : LT := .int .i64
def lessP (a b : Pair) : Bool := if a.v = b.v then decide (a.l < b.l) else decide (a.v < b.v)
theorem Jtbi {a b : Pair} : lessP a b = true ↔ a.v < b.v ∨ (a.v = b.v ∧ a.l < b.l) := by
 unfold lessP; split <;> simp <;> omega
theorem Jtbl {a b : Pair} (h1 : lessP a b = false) (h2 : lessP b a = false) : a = b := by
 have h1 : ¬ lessP a b = true := by simp [h1]
 have h2 : ¬ lessP b a = true := by simp [h2]
 rw [Jtbi] at h1 h2
 obtain ⟨a1, a2⟩ := a; obtain ⟨b1, b2⟩ := b
 simp only [Pair.mk.injEq]; simp only at h1 h2; omega
theorem Jtbm {a b c : Pair} (h1 : lessP a b = true) (h2 : lessP b c = true) : lessP a c = true := by
 rw [Jtbi] at *; omega
theorem Jtbj (a : Pair) : lessP a a = false := by
 cases h : lessP a a with
 | false => rfl
 | true => rw [Jtbi] at h; omega
def stepA (p : Pair) (s : List Pair × Bool) (q : Pair) : List Pair × Bool :=
 let s := if s.2 = false ∧ lessP q p = false then (s.1 ++ [p], true) else s
 if q = p then s else (s.1 ++ [q], s.2)
def foldA (p : Pair) (l : List Pair) : List Pair × Bool := l.foldl (stepA p) ([], false)
def addP (l : List Pair) (p : Pair) : List Pair := if (foldA p l).2 = true then (foldA p l).1 else (foldA p l).1 ++ [p]
def makeP (l : List Pair) : List Pair := l.foldl addP []
theorem Jt7w {a b : Pair} (h1 : a.v = b.v) (h2 : a.l = b.l) : a = b := by cases a; cases b; simp_all
def Srt (l : List Pair) : Prop := l.Pairwise fun a b => lessP a b = true
theorem Jthp {a : Pair} {l : List Pair} : Srt (a :: l) ↔ (∀ b ∈ l, lessP a b = true) ∧ Srt l := List.pairwise_cons
def insP (l : List Pair) (p : Pair) : List Pair := (l.takeWhile fun q => lessP q p) ++ p :: (l.dropWhile fun q => lessP q p).filter fun q => decide (q ≠ p)
theorem Jtbk {a b : Pair} (h : lessP a b = true) : a ≠ b := by rintro rfl; rw [Jtbj] at h; cases h
theorem Jt8s (p : Pair) (l out : List Pair) : l.foldl (stepA p) (out, true) = (out ++ l.filter (fun q => decide (q ≠ p)), true) := by
 induction l generalizing out with
 | nil => simp
 | cons q l ih =>
  by_cases e : q = p
  ·simp [stepA, e, ih]
  ·simp [stepA, e, ih]
theorem Jt8t (p : Pair) (l out : List Pair) : l.foldl (stepA p) (out, false) = if (l.dropWhile fun q => lessP q p) = [] then (out ++ l, false) else (out ++ insP l p, true) := by
 induction l generalizing out with
 | nil => simp
 | cons q l ih =>
  cases h : lessP q p with
  | true =>
   have hne := Jtbk h
   simp only [List.foldl_cons, stepA, h, hne, if_false, and_false, ih, List.dropWhile_cons, if_true, Bool.true_eq_false, insP, List.takeWhile_cons]
   split <;> simp [List.append_assoc]
  | false =>
   simp only [List.foldl_cons, stepA, h, and_self, if_true, List.dropWhile_cons, Bool.false_eq_true, if_false, reduceCtorEq, insP, List.takeWhile_cons, List.nil_append]
   by_cases e : q = p
   ·simp [e, Jt8s]
   ·simp [e, Jt8s]
theorem Jt5k (l : List Pair) (p : Pair) : addP l p = insP l p := by
 unfold addP foldA
 rw [Jt8t]
 split
 ·rename_i h
  simp only [List.nil_append, Bool.false_eq_true, if_false, insP, h, List.filter_nil]
  have : l.takeWhile (fun q => lessP q p) = l := by
   have e := List.takeWhile_append_dropWhile (p := fun q => lessP q p) (l := l)
   rw [h, List.append_nil] at e; exact e
  rw [this]
 ·simp
theorem Jtd0 {l : List Pair} {p q : Pair} : q ∈ addP l p ↔ q = p ∨ q ∈ l := by
 rw [Jt5k, insP]
 have e := List.takeWhile_append_dropWhile (p := fun q => lessP q p) (l := l)
 have e2 : q ∈ l ↔ q ∈ l.takeWhile (fun q => lessP q p) ∨ q ∈ l.dropWhile (fun q => lessP q p) := by
  rw [← List.mem_append, e]
 simp only [List.mem_append, List.mem_cons, List.mem_filter, decide_eq_true_eq, e2]
 by_cases h : q = p <;> simp [h]
theorem Jt7r {l : List Pair} {p : Pair} (h : Srt l) : ∀ q ∈ l.dropWhile (fun q => lessP q p), lessP q p = false := by
 induction l with
 | nil => intro q hq; simp at hq
 | cons x l ih =>
  intro q hq
  rw [Jthp] at h
  cases hx : lessP x p with
  | true => rw [List.dropWhile_cons, hx, if_pos rfl] at hq; exact ih h.2 q hq
  | false =>
   rw [List.dropWhile_cons, hx, if_neg (by simp)] at hq
   rcases List.mem_cons.1 hq with rfl | hq
   ·exact hx
   ·cases hqp : lessP q p with
    | false => rfl
    | true => rw [Jtbm (h.1 q hq) hqp] at hx; cases hx
theorem Jtie {l : List Pair} {p : Pair} : ∀ q ∈ l.takeWhile (fun q => lessP q p), lessP q p = true := by
 induction l with
 | nil => intro q hq; simp at hq
 | cons x l ih =>
  intro q hq
  cases hx : lessP x p with
  | true =>
   rw [List.takeWhile_cons, hx, if_pos rfl] at hq
   rcases List.mem_cons.1 hq with rfl | hq
   ·exact hx
   ·exact ih q hq
  | false => rw [List.takeWhile_cons, hx, if_neg (by simp)] at hq; simp at hq
theorem Jthw {a b : List Pair} (h : a.Sublist b) (hb : Srt b) : Srt a := List.Pairwise.sublist h hb
theorem Jtho {l : List Pair} {p : Pair} (h : Srt l) : Srt (addP l p) := by
 rw [Jt5k, insP]
 refine List.pairwise_append.2 ⟨Jthw (List.takeWhile_sublist _) h, Jthp.2 ⟨?_, ?_⟩, ?_⟩
 ·intro b hb
  rw [List.mem_filter, decide_eq_true_eq] at hb
  have h1 := Jt7r h b hb.1
  cases h2 : lessP p b with
  | true => rfl
  | false => exact absurd (Jtbl h2 h1).symm hb.2
 ·exact Jthw (List.filter_sublist.trans (List.dropWhile_sublist _)) h
 ·intro a ha b hb
  have h1 := Jtie a ha
  rcases List.mem_cons.1 hb with rfl | hb
  ·exact h1
  ·rw [List.mem_filter, decide_eq_true_eq] at hb
   have h2 := Jt7r h b hb.1
   cases h3 : lessP p b with
   | true => exact Jtbm h1 h3
   | false => exact absurd (Jtbl h3 h2).symm hb.2
theorem Jtcw (l : List Pair) (q : Pair) : makeP (l ++ [q]) = addP (makeP l) q := by simp [makeP]
theorem Jtcv {motive : List Pair → Prop} (h0 : motive []) (h1 : ∀ l q, motive l → motive (l ++ [q])) (l : List Pair) : motive l := by
 generalize hn : l.length = n
 induction n generalizing l with
 | zero => have : l = [] := List.length_eq_zero_iff.1 hn; subst this; exact h0
 | succ n ih =>
  have hne : l ≠ [] := by rintro rfl; simp at hn
  rw [← List.dropLast_concat_getLast hne]
  exact h1 _ _ (ih _ (by simp [hn]))
theorem Jths (l : List Pair) : Srt (makeP l) := by
 induction l using Jtcv with
 | h0 => exact List.Pairwise.nil
 | h1 l q ih => rw [Jtcw]; exact Jtho ih
theorem Jtd5 {l : List Pair} {q : Pair} : q ∈ makeP l ↔ q ∈ l := by
 induction l using Jtcv with
 | h0 => simp [makeP]
 | h1 l x ih => rw [Jtcw, Jtd0, ih]; simp [or_comm]
theorem Jthv {l : List Pair} (h : Srt l) : l.Nodup := List.Pairwise.imp (fun h => Jtbk h) h
section
end
section
end
section
end
section
end
section
end
section
end
def mergeP : List Pair → List Pair → List Pair
 | [], b => b
 | x :: a, [] => x :: a
 | x :: a, y :: b => if lessP y x = true then y :: mergeP (x :: a) b else if y = x then x :: mergeP a b else x :: mergeP a (y :: b)
termination_by a b => a.length + b.length
theorem Jtd6 {a b : List Pair} {q : Pair} : q ∈ mergeP a b ↔ q ∈ a ∨ q ∈ b := by
 induction a, b using mergeP.induct with
 | case1 b => simp [mergeP]
 | case2 x a => simp [mergeP]
 | case3 x a y b h ih => rw [mergeP, if_pos h, List.mem_cons, ih]; simp only [List.mem_cons]; constructor <;> (intro h; rcases h with h | h | h <;> simp_all)
 | case4 a b x h ih => rw [mergeP, if_neg h, if_pos rfl, List.mem_cons, ih]; simp only [List.mem_cons]; constructor <;> grind
 | case5 x a y b h h2 ih => rw [mergeP, if_neg h, if_neg h2, List.mem_cons, ih]; simp only [List.mem_cons]; constructor <;> grind
theorem Jtht {a b : List Pair} (ha : Srt a) (hb : Srt b) : Srt (mergeP a b) := by
 induction a, b using mergeP.induct with
 | case1 b => simpa [mergeP] using hb
 | case2 x a => simpa [mergeP] using ha
 | case3 x a y b h ih =>
  rw [mergeP, if_pos h]
  refine Jthp.2 ⟨fun q hq => ?_, ih ha (Jthp.1 hb).2⟩
  rw [Jtd6, List.mem_cons] at hq
  rcases hq with (rfl | hq) | hq
  ·exact h
  ·exact Jtbm h ((Jthp.1 ha).1 q hq)
  ·exact (Jthp.1 hb).1 q hq
 | case4 a b x h ih =>
  rw [mergeP, if_neg h, if_pos rfl]
  refine Jthp.2 ⟨fun q hq => ?_, ih (Jthp.1 ha).2 (Jthp.1 hb).2⟩
  rw [Jtd6] at hq
  rcases hq with hq | hq
  ·exact (Jthp.1 ha).1 q hq
  ·exact (Jthp.1 hb).1 q hq
 | case5 x a y b h h2 ih =>
  rw [mergeP, if_neg h, if_neg h2]
  have hxy : lessP x y = true := by
   cases e : lessP x y with
   | true => rfl
   | false => exact absurd (Jtbl (by simpa using h) e) h2
  refine Jthp.2 ⟨fun q hq => ?_, ih (Jthp.1 ha).2 hb⟩
  rw [Jtd6, List.mem_cons] at hq
  rcases hq with hq | rfl | hq
  ·exact (Jthp.1 ha).1 q hq
  ·exact hxy
  ·exact Jtbm hxy ((Jthp.1 hb).1 q hq)
section
end
section
end
end Go.AE
namespace Go.AE
open Go Go.Proofs Go.Shelf Go.Sort
def sortP (l : List Pair) : List Pair := l.mergeSort fun x y => !lessP y x
section
variable {P : Program} {ρ : Ren}
end
structure SortOk (P : Program) (p : Nums) : Prop where
 none : Jt4n P p.slices_SortFunc_Pair [.d (.sl []), .fn (.func p.pairset_compare) [] []] [] fun o H' => o = .ret (.tup []) ∧ H' = []
 some : ∀ l : List Pair, l ≠ [] → l.length < 1000000 → Jt4n P p.slices_SortFunc_Pair [.hsl 0 0 2 l.length, .fn (.func p.pairset_compare) [] []] [.mem (Jtgl (l.map Pair.row))] fun o H' => o = .ret (.tup []) ∧ H' = [.mem (Jtgl ((sortP l).map Pair.row))]
section
end
def renP (c : Pair → Bool) (f : Pair → Pair) (l : List Pair) : List Pair := (l.filter c).map f
theorem Jtdb {c : Pair → Bool} {f : Pair → Pair} {l : List Pair} {q : Pair} : q ∈ renP c f l ↔ ∃ p ∈ l, c p = true ∧ f p = q := by
 unfold renP; simp only [List.mem_map, List.mem_filter, and_assoc]
def copyP (l : List Pair) (d a : Int) : List Pair := if d = a then makeP l else mergeP (l.filter fun x => x.v != d) (makeP (renP (fun x => x.v == a) (fun x => ⟨d, x.l⟩) l))
def moveP (l : List Pair) (d a : Int) : List Pair := if d = a then makeP l else mergeP (l.filter fun x => x.l != d) (makeP (renP (fun x => x.l == a) (fun x => ⟨x.v, d⟩) l))
theorem Jthr {l : List Pair} {f : Pair → Bool} (h : Srt l) : Srt (l.filter f) := List.Pairwise.filter f h
theorem Jthq {l : List Pair} {d a : Int} (h : Srt l) : Srt (copyP l d a) := by
 unfold copyP; split
 ·exact Jths _
 ·exact Jtht (Jthr h) (Jths _)
theorem Jthu {l : List Pair} {d a : Int} (h : Srt l) : Srt (moveP l d a) := by
 unfold moveP; split
 ·exact Jths _
 ·exact Jtht (Jthr h) (Jths _)
theorem Jtd1 {l : List Pair} {d a : Int} {q : Pair} : q ∈ copyP l d a ↔ (q ∈ l ∧ (d = a ∨ q.v ≠ d)) ∨ (q.v = d ∧ (⟨a, q.l⟩ : Pair) ∈ l) := by
 unfold copyP
 by_cases h : d = a
 ·subst h
  rw [if_pos rfl, Jtd5]
  constructor
  ·intro hq; exact .inl ⟨hq, .inl rfl⟩
  ·rintro (⟨hq, _⟩ | ⟨e, hq⟩)
   ·exact hq
   ·have : (⟨d, q.l⟩ : Pair) = q := Jt7w e.symm rfl
    rw [this] at hq; exact hq
 ·rw [if_neg h, Jtd6, Jtd5, Jtdb, List.mem_filter]
  constructor
  ·rintro (⟨h1, h2⟩ | ⟨p, h1, h2, rfl⟩)
   ·exact .inl ⟨h1, .inr (by simpa using h2)⟩
   ·refine .inr ⟨rfl, ?_⟩
    have e : p.v = a := by simpa using h2
    have : (⟨a, p.l⟩ : Pair) = p := Jt7w e.symm rfl
    simpa [this] using h1
  ·rintro (⟨h1, h2⟩ | ⟨h1, h2⟩)
   ·exact .inl ⟨h1, by simpa using h2.resolve_left h⟩
   ·exact .inr ⟨_, h2, by simp, Jt7w h1.symm rfl⟩
theorem Jtd7 {l : List Pair} {d a : Int} {q : Pair} : q ∈ moveP l d a ↔ (q ∈ l ∧ (d = a ∨ q.l ≠ d)) ∨ (q.l = d ∧ (⟨q.v, a⟩ : Pair) ∈ l) := by
 unfold moveP
 by_cases h : d = a
 ·subst h
  rw [if_pos rfl, Jtd5]
  constructor
  ·intro hq; exact .inl ⟨hq, .inl rfl⟩
  ·rintro (⟨hq, _⟩ | ⟨e, hq⟩)
   ·exact hq
   ·have : (⟨q.v, d⟩ : Pair) = q := Jt7w rfl e.symm
    rw [this] at hq; exact hq
 ·rw [if_neg h, Jtd6, Jtd5, Jtdb, List.mem_filter]
  constructor
  ·rintro (⟨h1, h2⟩ | ⟨p, h1, h2, rfl⟩)
   ·exact .inl ⟨h1, .inr (by simpa using h2)⟩
   ·refine .inr ⟨rfl, ?_⟩
    have e : p.l = a := by simpa using h2
    have : (⟨p.v, a⟩ : Pair) = p := Jt7w rfl e.symm
    simpa [this] using h1
  ·rintro (⟨h1, h2⟩ | ⟨h1, h2⟩)
   ·exact .inl ⟨h1, by simpa using h2.resolve_left h⟩
   ·exact .inr ⟨_, h2, by simp, Jt7w rfl h1.symm⟩
section
end
section
end
section
end
section
end
section
end
structure ClosOk (P : Program) (p : Nums) : Prop where
 ok1 : okFn P p.transfer_Copy_1 = true
 ok2 : okFn P p.transfer_Move_1 = true
 copy : ∀ (x : Pair) (d a : Int), Jt4n P p.transfer_Copy_1 [x.av, .ptr 0 0, .ptr 1 0] [.mem [AI d], .mem [AI a]] fun o H' => o = .ret (.tup [(⟨d, x.l⟩ : Pair).av, AB (x.v == a)]) ∧ H' = [.mem [AI d], .mem [AI a]]
 move : ∀ (x : Pair) (d a : Int), Jt4n P p.transfer_Move_1 [x.av, .ptr 0 0, .ptr 1 0] [.mem [AI d], .mem [AI a]] fun o H' => o = .ret (.tup [(⟨x.v, d⟩ : Pair).av, AB (x.l == a)]) ∧ H' = [.mem [AI d], .mem [AI a]]
section
end
section
end
section
end
section
end
section
end
def intRow (n : Int) : List D := [.int .i64 n]
def intsD (l : List Int) : D := .sl (l.map intRow)
section
end
section
end
def Jt6d (b : Bool) : List D := [.bool b]
def boolsD (l : List Bool) : D := .sl (l.map Jt6d)
section
end
section
end
def isDig (c : UInt8) : Bool := decide (48 ≤ c.toNat) && decide (c.toNat ≤ 57)
def valD (ds : List UInt8) : Nat := ds.foldl (fun n c => 10 * n + (c.toNat - 48)) 0
def okD (ds : List UInt8) : Prop := ds ≠ [] ∧ (∀ c ∈ ds, isDig c = true) ∧ (ds.length ≤ 1 ∨ ds.head? ≠ some 48) ∧ valD ds < 1099511627776
instance (ds : List UInt8) : Decidable (okD ds) := by unfold okD; infer_instance
section
end
structure Mach where (op d a b imm dst src : Int)
 deriving DecidableEq, Inhabited
def Mach.row (m : Mach) : List D := [I m.op, I m.d, I m.a, I m.b, I m.imm, I m.dst, I m.src]
def Mach.av (m : Mach) : AV := .agg [AI m.op, AI m.d, AI m.a, AI m.b, AI m.imm, AI m.dst, AI m.src]
def regZ (n : Int) : Int := IntKind.i64.wrap (2 * n)
section
def knownZ (x : Int) : Bool := decide (1 ≤ x ∧ x ≤ 18)
theorem Jtek {P : Program} {p : Nums} (A : All P p) (x : Int) : Jt4n P p.opcode_known [AI x] [] fun o _ => o = .ret (AB (knownZ x)) := by
 refine A.opcode_known.run rfl fun R hR => ?_
 (simp (maxSteps := 1000000) [Jtaa])
 ((first | refine Xc (fun hx => ?_) (fun hx => ?_) | refine Xo (fun hx => ?_) (fun hx => ?_)) <;> (try simp only [Xz, Xy] at hx))
 ·(simp (maxSteps := 1000000) [hx])
  (first | exact hR _ _ FrA | exact hR _ _ FnA | exact hR _ _ (Xf (hq := by simp [AV.erase, AV.unview, knownZ, hx]; done)))
 ·(simp (maxSteps := 1000000) [hx])
  (first | exact hR _ _ FrA | exact hR _ _ FnA | exact hR _ _ (Xf (hq := by simp [AV.erase, AV.unview, knownZ, hx]; done)))
structure Shape where (D A B Imm : Bool)
def shapeZ (x : Int) : Shape :=
 if knownZ x = false then ⟨false, false, false, false⟩ else if x = 1 then ⟨true, false, false, true⟩ else if x ≤ 4 then ⟨true, true, false, false⟩ else if x ≤ 16 then ⟨true, true, true, false⟩ else ⟨false, x == 17, false, false⟩
theorem Jtej {P : Program} {p : Nums} (A : All P p) (x : Int) : Jt4n P p.opcode_Of [AI x] [] fun o _ => o = .ret (.tup [.agg [AB (shapeZ x).D, AB (shapeZ x).A, AB (shapeZ x).B, AB (shapeZ x).Imm], AB (knownZ x)]) := by
 refine A.opcode_Of.run rfl fun R hR => ?_
 (simp (maxSteps := 1000000) [Jta9])
 (refine Jt12 (Jtek A _) (by rfl) (by rfl) ?_)
 (simp (maxSteps := 1000000) [])
 ((first | refine Xc (fun h1 => ?_) (fun h1 => ?_) | refine Xo (fun h1 => ?_) (fun h1 => ?_)) <;> (try simp only [Xz, Xy] at h1))
 ·(simp (maxSteps := 1000000) [h1])
  (first | exact hR _ _ FrA | exact hR _ _ FnA | exact hR _ _ (Xf (hq := by simp [AV.erase, AV.unview, shapeZ, h1]; done)))
 ·(simp (maxSteps := 1000000) [h1])
  ((first | refine Xc (fun h2 => ?_) (fun h2 => ?_) | refine Xo (fun h2 => ?_) (fun h2 => ?_)) <;> (try simp only [Xz, Xy] at h2))
  ·subst h2
   (simp (maxSteps := 1000000) [])
   (first | exact hR _ _ FrA | exact hR _ _ FnA | exact hR _ _ (Xf (hq := by simp [AV.erase, AV.unview, shapeZ, h1]; done)))
  ·(simp (maxSteps := 1000000) [h2])
   ((first | refine Xc (fun h3 => ?_) (fun h3 => ?_) | refine Xo (fun h3 => ?_) (fun h3 => ?_)) <;> (try simp only [Xz, Xy] at h3))
   ·(simp (maxSteps := 1000000) [h3])
    (first | exact hR _ _ FrA | exact hR _ _ FnA | exact hR _ _ (Xf (hq := by simp [AV.erase, AV.unview, shapeZ, h1, h2, h3]; done)))
   ·(simp (maxSteps := 1000000) [h3])
    ((first | refine Xc (fun h4 => ?_) (fun h4 => ?_) | refine Xo (fun h4 => ?_) (fun h4 => ?_)) <;> (try simp only [Xz, Xy] at h4))
    ·(simp (maxSteps := 1000000) [h4])
     (first | exact hR _ _ FrA | exact hR _ _ FnA | exact hR _ _ (Xf (hq := by simp [AV.erase, AV.unview, shapeZ, h1, h2, h3, h4]; done)))
    ·(simp (maxSteps := 1000000) [h4])
     (first | exact hR _ _ FrA | exact hR _ _ FnA | exact hR _ _ (Xf (hq := by simp [AV.erase, AV.unview, shapeZ, h1, h2, h3, h4]; done)))
def inZ (x n : Int) : Bool := decide (0 ≤ x ∧ x < n)
theorem Jtfs {P : Program} {p : Nums} (A : All P p) (x n : Int) : Jt4n P p.ref07_in [AI x, AI n] [] fun o _ => o = .ret (AB (inZ x n)) := by
 refine A.ref07_in.run rfl fun R hR => ?_
 (simp (maxSteps := 1000000) [Jtal])
 ((first | refine Xc (fun h1 => ?_) (fun h1 => ?_) | refine Xo (fun h1 => ?_) (fun h1 => ?_)) <;> (try simp only [Xz, Xy] at h1))
 ·(simp (maxSteps := 1000000) [h1])
  (first | exact hR _ _ FrA | exact hR _ _ FnA | exact hR _ _ (Xf (hq := by simp [AV.erase, AV.unview, h1, inZ]; done)))
 ·(simp (maxSteps := 1000000) [h1])
  (first | exact hR _ _ FrA | exact hR _ _ FnA | exact hR _ _ (Xf (hq := by simp [AV.erase, AV.unview, h1, inZ]; done)))
def usesA (x : Int) : Bool := decide (2 ≤ x ∧ x ≤ 17)
theorem Jtfi {P : Program} {p : Nums} (A : All P p) (x : Int) : Jt4n P p.ref05_UsesA [AI x] [] fun o _ => o = .ret (AB (usesA x)) := by
 refine A.ref05_UsesA.run rfl fun R hR => ?_
 (simp (maxSteps := 1000000) [Jtab])
 ((first | refine Xc (fun hx => ?_) (fun hx => ?_) | refine Xo (fun hx => ?_) (fun hx => ?_)) <;> (try simp only [Xz, Xy] at hx))
 ·(simp (maxSteps := 1000000) [hx])
  (first | exact hR _ _ FrA | exact hR _ _ FnA | exact hR _ _ (Xf (hq := by simp [AV.erase, AV.unview, usesA, hx]; done)))
 ·(simp (maxSteps := 1000000) [hx])
  (first | exact hR _ _ FrA | exact hR _ _ FnA | exact hR _ _ (Xf (hq := by simp [AV.erase, AV.unview, usesA, hx]; done)))
def usesB (x : Int) : Bool := decide (5 ≤ x ∧ x ≤ 16)
theorem Jtfj {P : Program} {p : Nums} (A : All P p) (x : Int) : Jt4n P p.ref05_UsesB [AI x] [] fun o _ => o = .ret (AB (usesB x)) := by
 refine A.ref05_UsesB.run rfl fun R hR => ?_
 (simp (maxSteps := 1000000) [Jtac])
 ((first | refine Xc (fun hx => ?_) (fun hx => ?_) | refine Xo (fun hx => ?_) (fun hx => ?_)) <;> (try simp only [Xz, Xy] at hx))
 ·(simp (maxSteps := 1000000) [hx])
  (first | exact hR _ _ FrA | exact hR _ _ FnA | exact hR _ _ (Xf (hq := by simp [AV.erase, AV.unview, usesB, hx]; done)))
 ·(simp (maxSteps := 1000000) [hx])
  (first | exact hR _ _ FrA | exact hR _ _ FnA | exact hR _ _ (Xf (hq := by simp [AV.erase, AV.unview, usesB, hx]; done)))
def usesD (x : Int) : Bool := decide (1 ≤ x ∧ x ≤ 16)
theorem Jtfk {P : Program} {p : Nums} (A : All P p) (x : Int) : Jt4n P p.ref05_UsesD [AI x] [] fun o _ => o = .ret (AB (usesD x)) := by
 refine A.ref05_UsesD.run rfl fun R hR => ?_
 (simp (maxSteps := 1000000) [Jtad])
 ((first | refine Xc (fun hx => ?_) (fun hx => ?_) | refine Xo (fun hx => ?_) (fun hx => ?_)) <;> (try simp only [Xz, Xy] at hx))
 ·(simp (maxSteps := 1000000) [hx])
  (first | exact hR _ _ FrA | exact hR _ _ FnA | exact hR _ _ (Xf (hq := by simp [AV.erase, AV.unview, usesD, hx]; done)))
 ·(simp (maxSteps := 1000000) [hx])
  (first | exact hR _ _ FrA | exact hR _ _ FnA | exact hR _ _ (Xf (hq := by simp [AV.erase, AV.unview, usesD, hx]; done)))
end
structure Field where (value : Int) (used : Bool) (bound : Int)
def Field.row (f : Field) : List D := [I f.value, .bool f.used, I f.bound]
section
end
structure Instr where (op d a b imm : Int)
 deriving DecidableEq, Inhabited
def Instr.row (i : Instr) : List D := [I i.op, I i.d, I i.a, I i.b, I i.imm]
def Instr.av (i : Instr) : AV := .agg [AI i.op, AI i.d, AI i.a, AI i.b, AI i.imm]
structure Term where (kind a to els : Int)
 deriving DecidableEq, Inhabited
def Term.row (i : Term) : List D := [I i.kind, I i.a, I i.to, I i.els]
def Term.av (i : Term) : AV := .agg [AI i.kind, AI i.a, AI i.to, AI i.els]
section
end
structure Block where (code : List Instr) (term : Term)
 deriving Inhabited
def Block.row (b : Block) : List D := [.sl (b.code.map Instr.row), I b.term.kind, I b.term.a, I b.term.to, I b.term.els]
def Block.av (b : Block) : AV := .agg [.d (.sl (b.code.map Instr.row)), AI b.term.kind, AI b.term.a, AI b.term.to, AI b.term.els]
structure Func where (args regs : Int) (blocks : List Block)
def Func.av (f : Func) : AV := .agg [AI f.args, AI f.regs, .d (.sl (f.blocks.map Block.row))]
def codeN (bs : List Block) : Nat := (bs.map fun b => b.code.length).sum
theorem Jt7d {bs : List Block} {k : Nat} {b : Block} (h : bs[k]? = some b) : codeN (bs.take (k + 1)) = codeN (bs.take k) + b.code.length := by
 rw [codeN, List.take_add_one, h]; simp [codeN]
theorem Jt7a (a b : List Block) : codeN (a ++ b) = codeN a + codeN b := by simp [codeN]
theorem Jt7c (bs : List Block) (k : Nat) : codeN (bs.take k) ≤ codeN bs := by
 have h := Jt7a (bs.take k) (bs.drop k)
 rw [List.take_append_drop] at h; omega
def Jt8f : List Int → Int
 | [] => 0
 | e :: es => if e ≠ 0 then e else Jt8f es
theorem Jt8j {es : List Int} {k : Nat} (h : ∀ e ∈ es.take k, e = 0) : Jt8f es = Jt8f (es.drop k) := by
 induction k generalizing es with
 | zero => rfl
 | succ k ih =>
  cases es with
  | nil => rfl
  | cons e es =>
   have : e = 0 := h e (by simp)
   simp only [Jt8f, this, ne_eq, not_true_eq_false, if_false, List.drop_succ_cons]
   exact ih fun x hx => h x (by simp [hx])
theorem Jt8i {es : List Int} {k : Nat} {e : Int} (h : ∀ e ∈ es.take k, e = 0) (hk : es[k]? = some e) (he : e ≠ 0) : Jt8f es = e := by
 rw [Jt8j h]
 have hlt := (List.getElem?_eq_some_iff.1 hk).1
 rw [List.drop_eq_getElem_cons hlt]
 have : es[k] = e := (List.getElem?_eq_some_iff.1 hk).2
 simp [Jt8f, this, he]
theorem Jt8g {es : List Int} (h : ∀ e ∈ es, e = 0) : Jt8f es = 0 := by
 rw [Jt8j (k := es.length) (by simpa using h)]; simp [Jt8f]
theorem take_zero {α : Type} {f : α → Int} {l : List α} {k : Nat} {x : α} (h : ∀ e ∈ (l.map f).take k, e = 0) (hx : l[k]? = some x) (h0 : f x = 0) : ∀ e ∈ (l.map f).take (k + 1), e = 0 := by
 intro e he
 rw [List.take_add_one, List.mem_append] at he
 rcases he with he | he
 ·exact h e he
 ·rw [List.getElem?_map, hx] at he; simp at he; rw [he]; exact h0
section
end
def bad9 (i : Instr) (regs : Int) : Bool := usesD i.op && !inZ i.d regs || usesA i.op && !inZ i.a regs || usesB i.op && !inZ i.b regs
def bad12 (i : Instr) : Bool := !usesD i.op && i.d != 0 || !usesA i.op && i.a != 0 || !usesB i.op && i.b != 0 || i.op != 1 && i.imm != 0
def Jtg2 (i : Instr) (regs : Int) : Int := if i.op < 1 ∨ 17 < i.op then 8 else if bad9 i regs = true then 9 else if bad12 i = true then 12 else 0
def Jtg3 (t : Term) (regs blocks : Int) : Int :=
 if t.kind = 1 then (if inZ t.to blocks = false then 11 else if t.a ≠ 0 ∨ t.els ≠ 0 then 12 else 0)
 else if t.kind = 2 then (if inZ t.a regs = false then 9 else if inZ t.to blocks = false ∨ inZ t.els blocks = false then 11 else 0)
 else if t.kind = 3 then (if inZ t.a regs = false then 9 else if t.to ≠ 0 ∨ t.els ≠ 0 then 12 else 0)
 else 16
section
theorem Jtfr {P : Program} {p : Nums} (A : All P p) (t : Term) (regs blocks : Int) : Jt4n P p.ref07_Term [t.av, AI regs, AI blocks] [] fun o _ => o = .ret (AI (Jtg3 t regs blocks)) := by
 refine A.ref07_Term.run rfl fun R hR => ?_
 (simp (maxSteps := 1000000) [Jtak, Term.av])
 repeat' (first | ((refine Jt12 (Jtfs A _ _) (by rfl) (by rfl) ?_); (simp (maxSteps := 1000000) [])) | (((first | refine Xc (fun hbr => ?_) (fun hbr => ?_) | refine Xo (fun hbr => ?_) (fun hbr => ?_)) <;> (try simp only [Xz, Xy] at hbr)) <;> simp (maxSteps := 1000000) [hbr]) | ((first | refine hR _ _ (Jt4q _ rfl rfl ?_) | refine hR _ _ (Jt4p _ rfl rfl ?_)); clear hR; (try simp_all [AV.erase, AV.unview, Jtg3])))
end
section
set_option maxHeartbeats 4000000 in
theorem Jtfo {P : Program} {p : Nums} (A : All P p) (i : Instr) (regs : Int) : Jt4n P p.ref07_Instr [i.av, AI regs] [] fun o _ => o = .ret (AI (Jtg2 i regs)) := by
 refine A.ref07_Instr.run rfl fun R hR => ?_
 (simp (maxSteps := 1000000) [Jtah, Instr.av])
 rw [Je6y]
 refine Jte ⟨[(12, AB (decide (i.op < 1) || decide (17 < i.op))), (2, .ptr 0 0), (4, AI 0), (1, AI regs)], [.mem [AI i.op, AI i.d, AI i.a, AI i.b, AI i.imm]]⟩ (fun N hN => ?_) ?_
 ·(simp (maxSteps := 1000000) [])
  ((first | refine Xc (fun h => ?_) (fun h => ?_) | refine Xo (fun h => ?_) (fun h => ?_)) <;> (try simp only [Xz, Xy] at h))
  ·(simp (maxSteps := 1000000) [h])
   exact hN _ (by simp only [h]; (exact wkA))
  ·(simp (maxSteps := 1000000) [h])
   exact hN _ (by simp only [h]; (exact wkA))
 ((first | refine Xc (fun h1 => ?_) (fun h1 => ?_) | refine Xo (fun h1 => ?_) (fun h1 => ?_)) <;> (try simp only [Xz, Xy] at h1))
 ·(simp (maxSteps := 1000000) [h1])
  have e : Jtg2 i regs = 8 := by unfold Jtg2; rw [if_pos h1]
  (first | exact hR _ _ FrA | exact hR _ _ FnA | exact hR _ _ (Xf (hq := by simp [AV.erase, AV.unview, e]; done)))
 (simp (maxSteps := 1000000) [h1])
 rw [Je6z]
 refine Jte ⟨[(46, AB (bad9 i regs)), (2, .ptr 0 0), (4, AI 0), (1, AI regs)], [.mem [AI i.op, AI i.d, AI i.a, AI i.b, AI i.imm]]⟩ (fun N hN => ?_) ?_
 ·(simp (maxSteps := 1000000) [])
  cases uD : usesD i.op <;> cases uA : usesA i.op <;> cases uB : usesB i.op <;> cases nD : inZ i.d regs <;> cases nA : inZ i.a regs <;> cases nB : inZ i.b regs <;>
   (repeat' (first | ((refine Jt12 (Jtfs A _ _) (by rfl) (by rfl) ?_); (simp (maxSteps := 1000000) [nD, nA, nB])) | ((refine Jt12 (Jtfi A _) (by rfl) (by rfl) ?_); (simp (maxSteps := 1000000) [uA])) | ((refine Jt12 (Jtfj A _) (by rfl) (by rfl) ?_); (simp (maxSteps := 1000000) [uB])) | ((refine Jt12 (Jtfk A _) (by rfl) (by rfl) ?_); (simp (maxSteps := 1000000) [uD])))) <;>
   exact hN _ (by simp only [bad9, uD, uA, uB, nD, nA, nB]; (exact wkA))
 ((first | refine Xc (fun h2 => ?_) (fun h2 => ?_) | refine Xo (fun h2 => ?_) (fun h2 => ?_)) <;> (try simp only [Xz, Xy] at h2))
 ·(simp (maxSteps := 1000000) [h2])
  have e : Jtg2 i regs = 9 := by unfold Jtg2; rw [if_neg (by simp at h1; omega), if_pos h2]
  (first | exact hR _ _ FrA | exact hR _ _ FnA | exact hR _ _ (Xf (hq := by simp [AV.erase, AV.unview, e]; done)))
 (simp (maxSteps := 1000000) [h2])
 rw [Je70]
 refine Jte ⟨[(87, AB (bad12 i)), (2, .ptr 0 0), (4, AI 0), (1, AI regs)], [.mem [AI i.op, AI i.d, AI i.a, AI i.b, AI i.imm]]⟩ (fun N hN => ?_) ?_
 ·clear hR h1 h2
  (simp (maxSteps := 1000000) [])
  cases uD : usesD i.op <;> cases uA : usesA i.op <;> cases uB : usesB i.op <;>
   (repeat' (first | ((refine Jt12 (Jtfi A _) (by rfl) (by rfl) ?_); (simp (maxSteps := 1000000) [uA])) | ((refine Jt12 (Jtfj A _) (by rfl) (by rfl) ?_); (simp (maxSteps := 1000000) [uB])) | ((refine Jt12 (Jtfk A _) (by rfl) (by rfl) ?_); (simp (maxSteps := 1000000) [uD])) | (((first | refine Xc (fun hbr => ?_) (fun hbr => ?_) | refine Xo (fun hbr => ?_) (fun hbr => ?_)) <;> (try simp only [Xz, Xy] at hbr)) <;> simp (maxSteps := 1000000) [hbr]))) <;>
   (refine hN _ ?_; clear hN; cases hb : bad12 i) <;> (first | ((exact wkA); done) | (exfalso; simp_all [bad12]; done) | (simp_all [bad12]; (exact wkA); done) | (cases hi : (i.imm != 0) <;> first | ((exact wkA); done) | (simp only [*]; (exact wkA); done) | (exfalso; simp_all [bad12]; done)))
 ((first | refine Xc (fun h3 => ?_) (fun h3 => ?_) | refine Xo (fun h3 => ?_) (fun h3 => ?_)) <;> (try simp only [Xz, Xy] at h3))
 ·(simp (maxSteps := 1000000) [h3])
  have e : Jtg2 i regs = 12 := by unfold Jtg2; rw [if_neg (by simp at h1; omega), if_neg (by simpa using h2), if_pos h3]
  (first | exact hR _ _ FrA | exact hR _ _ FnA | exact hR _ _ (Xf (hq := by simp [AV.erase, AV.unview, e]; done)))
 (simp (maxSteps := 1000000) [h3])
 have e : Jtg2 i regs = 0 := by unfold Jtg2; rw [if_neg (by simp at h1; omega), if_neg (by simpa using h2), if_neg (by simpa using h3)]
 (first | exact hR _ _ FrA | exact hR _ _ FnA | exact hR _ _ (Xf (hq := by simp [AV.erase, AV.unview, e]; done)))
end
def few (f : Func) : Bool := decide (f.blocks.length ≤ 40) && decide (f.regs ≤ 60) && f.blocks.all (fun b => decide (b.code.length ≤ 100)) && decide (codeN f.blocks ≤ 300)
def Jtg0 (b : Block) (regs blocks : Int) : Int :=
 let e := Jt8f (b.code.map (Jtg2 · regs))
 if e ≠ 0 then e else Jtg3 b.term regs blocks
def Jtg1 (f : Func) : Int :=
 if f.args < 0 ∨ f.regs < f.args then 9 else if 1048576 < f.regs then 6 else if f.blocks.length = 0 then 14 else if 1048576 < f.blocks.length ∨ 1048576 < codeN f.blocks then 6
 else Jt8f (f.blocks.map fun b => Jtg0 b f.regs f.blocks.length)
theorem Jt7b {bs : List Block} (h : ∀ b ∈ bs, b.code.length ≤ 100) : codeN bs ≤ 100 * bs.length := by
 induction bs with
 | nil => simp [codeN]
 | cons b bs ih =>
  have h1 := h b (by simp)
  have h2 := ih fun x hx => h x (by simp [hx])
  simp only [codeN, List.map_cons, List.sum_cons, List.length_cons] at *
  omega
theorem Jt8b {f : Func} : few f = true ↔ f.blocks.length ≤ 40 ∧ f.regs ≤ 60 ∧ (∀ b ∈ f.blocks, b.code.length ≤ 100) ∧ codeN f.blocks ≤ 300 := by
 simp [few, and_assoc]
section
theorem Jtfm {P : Program} {p : Nums} (A : All P p) (f : Func) (h0 : f.blocks.length < 1000000000) (h1 : codeN f.blocks < 1000000000) : Jt4n P p.ref07_Code [f.av] [] fun o _ => o = .ret (AI (codeN f.blocks)) := by
 refine A.ref07_Code.run rfl fun R hR => ?_
 (simp (maxSteps := 1000000) [Jtaf, Func.av])
 refine Jtd (fun k : Nat => ⟨[(4, AI k), (1, .ptr 0 0), (3, AI (codeN (f.blocks.take k)))], [.mem [AI f.args, AI f.regs, .d (.sl (f.blocks.map Block.row))]]⟩) (fun k => k ≤ f.blocks.length) (fun k => f.blocks.length - k) 0 (by simp) (by (exact wkA)) ?_
 intro k hk N hN
 (simp (maxSteps := 1000000) [])
 ((first | refine Xc (fun h2 => ?_) (fun h2 => ?_) | refine Xo (fun h2 => ?_) (fun h2 => ?_)) <;> (try simp only [Xz, Xy] at h2))
 ·have hkl : k < f.blocks.length := by simpa using h2
  have hb : f.blocks[k]? = some f.blocks[k] := by simp [hkl]
  have hw := Jtje (k := k) (by omega)
  have hs := Jt7d hb
  have hle := Jt7c f.blocks (k + 1)
  have hw2 := Jtjd (a := codeN (f.blocks.take k)) (b := f.blocks[k].code.length) (by omega)
  rw [← hs] at hw2
  (simp (maxSteps := 1000000) [h2, List.getElem?_map, hb, Block.row, hw, hw2])
  exact hN _ (k + 1) hkl (by (exact wkA)) (by omega)
 ·have hk' : k = f.blocks.length := by simp at h2; omega
  subst hk'
  (simp (maxSteps := 1000000) [])
  (first | exact hR _ _ FrA | exact hR _ _ FnA | exact hR _ _ (Xf (hq := by simp [AV.erase, AV.unview, List.take_length]; done)))
theorem Jtfn {P : Program} {p : Nums} (A : All P p) (f : Func) : Jt4n P p.ref07_Few [f.av] [] fun o _ => o = .ret (AB (few f)) := by
 refine A.ref07_Few.run rfl fun R hR => ?_
 (simp (maxSteps := 1000000) [Jtag, Func.av])
 ((first | refine Xc (fun a1 => ?_) (fun a1 => ?_) | refine Xo (fun a1 => ?_) (fun a1 => ?_)) <;> (try simp only [Xz, Xy] at a1))
 ·(simp (maxSteps := 1000000) [a1])
  have e : few f = false := by simp [few]; omega
  (first | exact hR _ _ FrA | exact hR _ _ FnA | exact hR _ _ (Xf (hq := by simp [AV.erase, AV.unview, e]; done)))
 (simp (maxSteps := 1000000) [a1])
 ((first | refine Xc (fun a2 => ?_) (fun a2 => ?_) | refine Xo (fun a2 => ?_) (fun a2 => ?_)) <;> (try simp only [Xz, Xy] at a2))
 ·(simp (maxSteps := 1000000) [a2])
  have e : few f = false := by simp [few]; omega
  (first | exact hR _ _ FrA | exact hR _ _ FnA | exact hR _ _ (Xf (hq := by simp [AV.erase, AV.unview, e]; done)))
 (simp (maxSteps := 1000000) [a2])
 refine Jtd (fun k : Nat => ⟨[(3, AI k), (1, .ptr 0 0)], [.mem [AI f.args, AI f.regs, .d (.sl (f.blocks.map Block.row))]]⟩)
  (fun k => k ≤ f.blocks.length ∧ ∀ b ∈ f.blocks.take k, b.code.length ≤ 100) (fun k => f.blocks.length - k) 0 (by simp) (by (exact wkA)) ?_
 rintro k ⟨hk, hz⟩ N hN
 (simp (maxSteps := 1000000) [])
 ((first | refine Xc (fun h2 => ?_) (fun h2 => ?_) | refine Xo (fun h2 => ?_) (fun h2 => ?_)) <;> (try simp only [Xz, Xy] at h2))
 ·have hkl : k < f.blocks.length := by simpa using h2
  have hb : f.blocks[k]? = some f.blocks[k] := by simp [hkl]
  have hw := Jtje (k := k) (by omega)
  (simp (maxSteps := 1000000) [h2, hb, Block.row])
  ((first | refine Xc (fun h3 => ?_) (fun h3 => ?_) | refine Xo (fun h3 => ?_) (fun h3 => ?_)) <;> (try simp only [Xz, Xy] at h3))
  ·(simp (maxSteps := 1000000) [h3])
   have e : few f = false := by
    have : ¬ (∀ b ∈ f.blocks, b.code.length ≤ 100) := fun h => by have := h f.blocks[k] (by simp); omega
    simp [few]; intro _ _ h; exact absurd h this
   (first | exact hR _ _ FrA | exact hR _ _ FnA | exact hR _ _ (Xf (hq := by simp [AV.erase, AV.unview, e]; done)))
  ·(simp (maxSteps := 1000000) [h3, hw])
   refine hN _ (k + 1) ⟨hkl, ?_⟩ (by (exact wkA)) (by omega)
   intro b hb'
   rw [List.take_add_one, hb, List.mem_append] at hb'
   rcases hb' with hb' | hb'
   ·exact hz b hb'
   ·simp at hb'; subst hb'; omega
 ·have hk' : k = f.blocks.length := by simp at h2; omega
  subst hk'
  (simp (maxSteps := 1000000) [])
  have hcb : codeN f.blocks ≤ 100 * f.blocks.length := Jt7b (by rw [List.take_length] at hz; exact hz)
  (refine Jt12 (Jtfm A f (by omega) (by omega)) (by rfl) (by rfl) ?_)
  (simp (maxSteps := 1000000) [])
  have e : few f = decide ((codeN f.blocks : Int) ≤ 300) := by
   rw [List.take_length] at hz
   have e1 : f.blocks.all (fun b => decide (b.code.length ≤ 100)) = true := by simpa using hz
   have e2 : decide (f.blocks.length ≤ 40) = true := by simp; omega
   have e3 : decide (f.regs ≤ 60) = true := by simp; omega
   simp only [few, e1, e2, e3, Bool.true_and]
   congr 1; simp; omega
  (first | exact hR _ _ FrA | exact hR _ _ FnA | exact hR _ _ (Xf (hq := by simp [AV.erase, AV.unview, e]; done)))
theorem Jtfl {P : Program} {p : Nums} (A : All P p) (f : Func) (h0 : f.blocks.length < 1000000000) (h1 : codeN f.blocks < 1000000000) : Jt4n P p.ref07_Check [f.av] [] fun o _ => o = .ret (AI (Jtg1 f)) := by
 refine A.ref07_Check.run rfl fun R hR => ?_
 (simp (maxSteps := 1000000) [Jtae, Func.av])
 ((first | refine Xc (fun a1 => ?_) (fun a1 => ?_) | refine Xo (fun a1 => ?_) (fun a1 => ?_)) <;> (try simp only [Xz, Xy] at a1))
 ·(simp (maxSteps := 1000000) [a1])
  have e : Jtg1 f = 9 := by unfold Jtg1; repeat (first | rw [if_pos (by omega)] | rw [if_neg (by omega)])
  (first | exact hR _ _ FrA | exact hR _ _ FnA | exact hR _ _ (Xf (hq := by simp [AV.erase, AV.unview, e]; done)))
 (simp (maxSteps := 1000000) [a1])
 ((first | refine Xc (fun a2 => ?_) (fun a2 => ?_) | refine Xo (fun a2 => ?_) (fun a2 => ?_)) <;> (try simp only [Xz, Xy] at a2))
 ·(simp (maxSteps := 1000000) [a2])
  have e : Jtg1 f = 9 := by unfold Jtg1; repeat (first | rw [if_pos (by omega)] | rw [if_neg (by omega)])
  (first | exact hR _ _ FrA | exact hR _ _ FnA | exact hR _ _ (Xf (hq := by simp [AV.erase, AV.unview, e]; done)))
 (simp (maxSteps := 1000000) [a2])
 ((first | refine Xc (fun a3 => ?_) (fun a3 => ?_) | refine Xo (fun a3 => ?_) (fun a3 => ?_)) <;> (try simp only [Xz, Xy] at a3))
 ·(simp (maxSteps := 1000000) [a3])
  have e : Jtg1 f = 6 := by unfold Jtg1; repeat (first | rw [if_pos (by omega)] | rw [if_neg (by omega)])
  (first | exact hR _ _ FrA | exact hR _ _ FnA | exact hR _ _ (Xf (hq := by simp [AV.erase, AV.unview, e]; done)))
 (simp (maxSteps := 1000000) [a3])
 ((first | refine Xc (fun a4 => ?_) (fun a4 => ?_) | refine Xo (fun a4 => ?_) (fun a4 => ?_)) <;> (try simp only [Xz, Xy] at a4))
 ·(simp (maxSteps := 1000000) [a4])
  have e : Jtg1 f = 14 := by unfold Jtg1; repeat (first | rw [if_pos (by omega)] | rw [if_neg (by omega)])
  (first | exact hR _ _ FrA | exact hR _ _ FnA | exact hR _ _ (Xf (hq := by simp [AV.erase, AV.unview, e]; done)))
 (simp (maxSteps := 1000000) [a4])
 ((first | refine Xc (fun a5 => ?_) (fun a5 => ?_) | refine Xo (fun a5 => ?_) (fun a5 => ?_)) <;> (try simp only [Xz, Xy] at a5))
 ·(simp (maxSteps := 1000000) [a5])
  have e : Jtg1 f = 6 := by unfold Jtg1; repeat (first | rw [if_pos (by omega)] | rw [if_neg (by omega)])
  (first | exact hR _ _ FrA | exact hR _ _ FnA | exact hR _ _ (Xf (hq := by simp [AV.erase, AV.unview, e]; done)))
 (simp (maxSteps := 1000000) [a5])
 (refine Jt12 (Jtfm A f h0 h1) (by rfl) (by rfl) ?_)
 (simp (maxSteps := 1000000) [])
 ((first | refine Xc (fun a6 => ?_) (fun a6 => ?_) | refine Xo (fun a6 => ?_) (fun a6 => ?_)) <;> (try simp only [Xz, Xy] at a6))
 ·(simp (maxSteps := 1000000) [a6])
  have e : Jtg1 f = 6 := by unfold Jtg1; repeat (first | rw [if_pos (by omega)] | rw [if_neg (by omega)])
  (first | exact hR _ _ FrA | exact hR _ _ FnA | exact hR _ _ (Xf (hq := by simp [AV.erase, AV.unview, e]; done)))
 (simp (maxSteps := 1000000) [a6])
 have e : Jtg1 f = Jt8f (f.blocks.map fun b => Jtg0 b f.regs f.blocks.length) := by
  unfold Jtg1; repeat (first | rw [if_pos (by omega)] | rw [if_neg (by omega)])
 refine Jtd (fun k : Nat => ⟨[(3, AI k), (2, AI 0), (1, .ptr 0 0)], [.mem [AI f.args, AI f.regs, .d (.sl (f.blocks.map Block.row))]]⟩)
  (fun k => k ≤ f.blocks.length ∧ ∀ e ∈ (f.blocks.map fun b => Jtg0 b f.regs f.blocks.length).take k, e = 0) (fun k => f.blocks.length - k) 0 (by simp) (by (exact wkA)) ?_
 rintro k ⟨hk, hz⟩ N hN
 (simp (maxSteps := 1000000) [])
 ((first | refine Xc (fun h2 => ?_) (fun h2 => ?_) | refine Xo (fun h2 => ?_) (fun h2 => ?_)) <;> (try simp only [Xz, Xy] at h2))
 ·have hkl : k < f.blocks.length := by simpa using h2
  have hb : f.blocks[k]? = some f.blocks[k] := by simp [hkl]
  have hw := Jtje (k := k) (by omega)
  have hbl : f.blocks[k].code.length < 1000000000 := by
   have h3 := Jt7d hb
   have h4 := Jt7c f.blocks (k + 1)
   omega
  (simp (maxSteps := 1000000) [h2, hb, Block.row])
  refine Jtd (fun j : Nat => ⟨[(5, AI j), (4, .ptr 1 0), (3, AI k), (2, AI 0), (1, .ptr 0 0)], [.mem [AI f.args, AI f.regs, .d (.sl (f.blocks.map Block.row))], .mem [.d (.sl (f.blocks[k].code.map Instr.row)), AI f.blocks[k].term.kind, AI f.blocks[k].term.a, AI f.blocks[k].term.to, AI f.blocks[k].term.els]]⟩)
   (fun j => j ≤ f.blocks[k].code.length ∧ ∀ e ∈ (f.blocks[k].code.map (Jtg2 · f.regs)).take j, e = 0) (fun j => f.blocks[k].code.length - j) 0 (by simp) (by (exact wkA)) ?_
  rintro j ⟨hj, hy⟩ N' hN'
  (simp (maxSteps := 1000000) [])
  ((first | refine Xc (fun h3 => ?_) (fun h3 => ?_) | refine Xo (fun h3 => ?_) (fun h3 => ?_)) <;> (try simp only [Xz, Xy] at h3))
  ·have hjl : j < f.blocks[k].code.length := by simpa using h3
   have hbj : f.blocks[k].code[j]? = some f.blocks[k].code[j] := by simp [hjl]
   have hwj := Jtje (k := j) (by omega)
   (simp (maxSteps := 1000000) [h3, hbj, Instr.row])
   (refine Jt12 (Jtfo A f.blocks[k].code[j] f.regs) (by rfl) (by rfl) ?_)
   (simp (maxSteps := 1000000) [])
   ((first | refine Xc (fun h4 => ?_) (fun h4 => ?_) | refine Xo (fun h4 => ?_) (fun h4 => ?_)) <;> (try simp only [Xz, Xy] at h4))
   ·(simp (maxSteps := 1000000) [h4])
    have e2 : Jt8f (f.blocks[k].code.map (Jtg2 · f.regs)) = Jtg2 f.blocks[k].code[j] f.regs := Jt8i hy (by simp [hjl]) h4
    have e3 : Jtg0 f.blocks[k] f.regs f.blocks.length = Jtg2 f.blocks[k].code[j] f.regs := by simp [Jtg0, e2, h4]
    have e4 : Jt8f (f.blocks.map fun b => Jtg0 b f.regs f.blocks.length) = Jtg0 f.blocks[k] f.regs f.blocks.length := Jt8i hz (by simp [hkl]) (by rw [e3]; exact h4)
    (first | exact hR _ _ FrA | exact hR _ _ FnA | exact hR _ _ (Xf (hq := by simp [AV.erase, AV.unview, e, e4, e3]; done)))
   ·(simp (maxSteps := 1000000) [h4, hwj])
    exact hN' _ (j + 1) ⟨hjl, take_zero hy hbj (by simpa using h4)⟩ (by (exact wkA)) (by omega)
  ·have hj' : j = f.blocks[k].code.length := by simp at h3; omega
   subst hj'
   have hfe : Jt8f (f.blocks[k].code.map (Jtg2 · f.regs)) = 0 := Jt8g (by rw [List.take_of_length_le (by simp)] at hy; exact hy)
   have e3 : Jtg0 f.blocks[k] f.regs f.blocks.length = Jtg3 f.blocks[k].term f.regs f.blocks.length := by simp [Jtg0, hfe]
   (simp (maxSteps := 1000000) [])
   (refine Jt12 (Jtfr A f.blocks[k].term f.regs f.blocks.length) (by rfl) (by rfl) ?_)
   (simp (maxSteps := 1000000) [])
   ((first | refine Xc (fun h5 => ?_) (fun h5 => ?_) | refine Xo (fun h5 => ?_) (fun h5 => ?_)) <;> (try simp only [Xz, Xy] at h5))
   ·(simp (maxSteps := 1000000) [h5])
    have e4 : Jt8f (f.blocks.map fun b => Jtg0 b f.regs f.blocks.length) = Jtg0 f.blocks[k] f.regs f.blocks.length := Jt8i hz (by simp [hkl]) (by rw [e3]; exact h5)
    (first | exact hR _ _ FrA | exact hR _ _ FnA | exact hR _ _ (Xf (hq := by simp [AV.erase, AV.unview, e, e4, e3]; done)))
   ·(simp (maxSteps := 1000000) [h5, hw])
    exact hN _ (k + 1) ⟨hkl, take_zero hz hb (by rw [e3]; simpa using h5)⟩ (by (exact wkA)) (by omega)
 ·have hk' : k = f.blocks.length := by simp at h2; omega
  subst hk'
  have hfe : Jt8f (f.blocks.map fun b => Jtg0 b f.regs f.blocks.length) = 0 := Jt8g (by rw [List.take_of_length_le (by simp)] at hz; exact hz)
  (simp (maxSteps := 1000000) [])
  (first | exact hR _ _ FrA | exact hR _ _ FnA | exact hR _ _ (Xf (hq := by simp [AV.erase, AV.unview, e, hfe]; done)))
end
structure MBlock where (code : List Mach) (term : Term)
 deriving Inhabited
def MBlock.row (b : MBlock) : List D := [.sl (b.code.map Mach.row), I b.term.kind, I b.term.a, I b.term.to, I b.term.els]
def MBlock.av (b : MBlock) : AV := .agg [.d (.sl (b.code.map Mach.row)), AI b.term.kind, AI b.term.a, AI b.term.to, AI b.term.els]
structure MFunc where (args regs slots : Int) (blocks : List MBlock)
def MFunc.av (f : MFunc) : AV := .agg [AI f.args, AI f.regs, AI f.slots, .d (.sl (f.blocks.map MBlock.row))]
def witD (w : List (List Pair)) : D := .sl (w.map fun l => [pairsD l])
structure Cert where (S : Func) (T : MFunc) (W : List (List Pair))
def Cert.av (c : Cert) : AV := .agg [AI c.S.args, AI c.S.regs, .d (.sl (c.S.blocks.map Block.row)), AI c.T.args, AI c.T.regs, AI c.T.slots, .d (.sl (c.T.blocks.map MBlock.row)), .d (witD c.W)]
section
end
section
end
section
end
def mcodeN (bs : List MBlock) : Nat := (bs.map fun b => b.code.length).sum
theorem Jt8h {es : List Int} (h : Jt8f es = 0) : ∀ e ∈ es, e = 0 := by
 induction es with
 | nil => intro e he; simp at he
 | cons e es ih =>
  simp only [Jt8f] at h
  intro x hx
  split at h
  ·exact absurd h ‹_›
  ·rcases List.mem_cons.1 hx with rfl | hx
   ·simp_all
   ·exact ih h x hx
section
end
section
end
theorem Jte2 {α : Type} [DecidableEq α] : ∀ {l m : List α}, l.Nodup → (∀ x ∈ l, x ∈ m) → l.length ≤ m.length := by
 intro l
 induction l with
 | nil => intro m _ _; simp
 | cons x l ih =>
  intro m hn hs
  rw [List.nodup_cons] at hn
  have hx := hs x (by simp)
  have := ih (m := m.erase x) hn.2 fun y hy => (List.mem_erase_of_ne (by rintro rfl; exact hn.1 hy)).2 (hs y (by simp [hy]))
  rw [List.length_erase_of_mem hx] at this
  have := List.length_pos_of_mem hx
  simp only [List.length_cons]; omega
def prodP (V L : List Int) : List Pair := V.flatMap fun v => L.map fun l => (⟨v, l⟩ : Pair)
theorem Jtf8 (V L : List Int) : (prodP V L).length = V.length * L.length := by
 unfold prodP
 induction V with
 | nil => simp
 | cons v V ih => simp only [List.flatMap_cons, List.length_append, List.length_map, List.length_cons, ih, Nat.add_mul]; omega
theorem Jtd9 {V L : List Int} {q : Pair} : q ∈ prodP V L ↔ q.v ∈ V ∧ q.l ∈ L := by
 unfold prodP
 simp only [List.mem_flatMap, List.mem_map]
 constructor
 ·rintro ⟨v, hv, l, hl, rfl⟩; exact ⟨hv, hl⟩
 ·rintro ⟨hv, hl⟩; exact ⟨q.v, hv, q.l, hl, rfl⟩
structure Over (V L : List Int) (l : List Pair) : Prop where
 srt : Srt l
 mem : ∀ q ∈ l, q.v ∈ V ∧ q.l ∈ L
theorem Over.len {V L : List Int} {l : List Pair} (h : Over V L l) : l.length ≤ V.length * L.length := by
 rw [← Jtf8]
 exact Jte2 (Jthv h.srt) fun q hq => Jtd9.2 (h.mem q hq)
theorem Over.copy {V L : List Int} {l : List Pair} (h : Over V L l) {d a : Int} (hd : d ∈ V) : Over V L (copyP l d a) := by
 refine ⟨Jthq h.srt, fun q hq => ?_⟩
 rcases Jtd1.1 hq with ⟨h1, _⟩ | ⟨h1, h2⟩
 ·exact h.mem q h1
 ·exact ⟨by rw [h1]; exact hd, (h.mem _ h2).2⟩
theorem Over.move {V L : List Int} {l : List Pair} (h : Over V L l) {d a : Int} (hd : d ∈ L) : Over V L (moveP l d a) := by
 refine ⟨Jthu h.srt, fun q hq => ?_⟩
 rcases Jtd7.1 hq with ⟨h1, _⟩ | ⟨h1, h2⟩
 ·exact h.mem q h1
 ·exact ⟨(h.mem _ h2).1, by rw [h1]; exact hd⟩
structure CS where (set : List Pair) (steps largest : Nat)
abbrev CR := CS × Option (Int × Int)
def costC (s : CS) : CS := ⟨s.set, s.steps + 1 + s.set.length, s.largest⟩
def Jt67 (most : Int) (s : CS) (l : List Pair) (at_ : Int) : CR := (⟨l, s.steps, max s.largest l.length⟩, if (l.length : Int) > most then some (24, at_) else none)
def useC (s : CS) (v t at_ : Int) : CR := (costC s, if (⟨v, t⟩ : Pair) ∈ s.set then none else some (21, at_))
def thenC (r : CR) (f : CS → CR) : CR := match r.2 with
 | none => f r.1
 | some e => (r.1, some e)
theorem Jtig {s : CS} {f : CS → CR} : thenC (s, none) f = f s := rfl
theorem Jtih {s : CS} {e : Int × Int} {f : CS → CR} : thenC (s, some e) f = (s, some e) := rfl
structure Room (V L : List Int) (s : CS) (n : Nat) : Prop where
 over : Over V L s.set
 few : V.length * L.length < 100000
 steps : s.steps + 100001 * n < 1000000000000000000
 lg : s.largest < 100000
theorem Room.len {V L : List Int} {s : CS} {n : Nat} (h : Room V L s n) : s.set.length < 100000 := Nat.lt_of_le_of_lt h.over.len h.few
theorem Room.mono {V L : List Int} {s : CS} {n m : Nat} (h : Room V L s n) (hm : m ≤ n) : Room V L s m := ⟨h.over, h.few, by have := h.steps; omega, h.lg⟩
theorem Room.cost {V L : List Int} {s : CS} {n : Nat} (h : Room V L s (n + 1)) : Room V L (costC s) n :=
 ⟨h.over, h.few, by have := h.steps; have := h.len; simp only [costC]; omega, h.lg⟩
theorem Room.use {V L : List Int} {s : CS} {n : Nat} (h : Room V L s (n + 1)) (v t at_ : Int) : Room V L (useC s v t at_).1 n := h.cost
section
variable {P : Program} {m : Nat} {Q : AExit → ASt → Prop} {st : ASt} {K : ASt → Prop} {QP : AV → ASt → Prop} {dst : Option Nat}
attribute [simp] panEnd
end
section
end
theorem Jth7 (x : Int) : (shapeZ x).D = usesD x := by
 unfold shapeZ usesD knownZ
 by_cases h1 : 1 ≤ x ∧ x ≤ 18
 ·by_cases h2 : x = 1
  ·subst h2; decide
  ·by_cases h3 : x ≤ 4
   ·simp [h1, h2, h3]; omega
   ·by_cases h4 : x ≤ 16
    ·simp [h1, h2, h3, h4]
    ·simp [h1, h2, h3, h4]
 ·simp [h1]; omega
theorem Jth5 (x : Int) : (shapeZ x).A = usesA x := by
 unfold shapeZ usesA knownZ
 by_cases h1 : 1 ≤ x ∧ x ≤ 18
 ·by_cases h2 : x = 1
  ·subst h2; decide
  ·by_cases h3 : x ≤ 4
   ·simp [h1, h2, h3]; omega
   ·by_cases h4 : x ≤ 16
    ·simp [h1, h2, h3, h4]; omega
    ·simp only [h1, h2, h3, h4, and_self, decide_true, Bool.true_eq_false, if_false]; by_cases h5 : x = 17
     ·subst h5; decide
     ·have : x = 18 := by omega
      subst this; decide
 ·simp [h1]; omega
theorem Jth6 (x : Int) : (shapeZ x).B = usesB x := by
 unfold shapeZ usesB knownZ
 by_cases h1 : 1 ≤ x ∧ x ≤ 18
 ·by_cases h2 : x = 1
  ·subst h2; decide
  ·by_cases h3 : x ≤ 4
   ·simp [h1, h2, h3]; omega
   ·by_cases h4 : x ≤ 16
    ·simp [h1, h2, h3, h4]; omega
    ·simp [h1, h2, h3, h4]
 ·simp [h1]; omega
section
end
section
end
structure ARow where (cf ct mf mt : Nat) (src mach : Int)
def ARow.row (r : ARow) : List D := [I r.cf, I r.ct, I r.mf, I r.mt, I r.src, I r.mach]
def ARow.av (r : ARow) : AV := .agg [AI r.cf, AI r.ct, AI r.mf, AI r.mt, AI r.src, AI r.mach]
structure RowOk (b : List Instr) (m : List Mach) (r : ARow) : Prop where
 hc : r.cf ≤ r.ct ∧ r.ct ≤ b.length
 hm : r.mf ≤ r.mt ∧ r.mt ≤ m.length
 hs : 0 ≤ r.src → r.src < b.length ∧ 0 ≤ r.mach ∧ r.mach < m.length
structure VLOk (V L : List Int) (b : List Instr) (m : List Mach) : Prop where
 v : ∀ i ∈ b, i.d ∈ V
 l : ∀ x ∈ m, x.dst ∈ L ∧ regZ x.d ∈ L
section
end
section
variable {P : Program} {p : Nums}
end
section
end
section
end
section
end
structure Res where (out : List Pair) (err at_ : Int) (steps largest : Nat)
 deriving DecidableEq
def Res.av (r : Res) : AV := .agg [.d (pairsD r.out), AI r.err, AI r.at_, AI r.steps, AI r.largest]
section
end
def okZ (n : Int) : Prop := -9223372036854775808 ≤ n ∧ n ≤ 9223372036854775807
section
end
def okM (b : MBlock) : Prop := ∀ x ∈ b.code, okZ x.dst ∧ okZ x.src
section
end
structure Bd (most : Int) (m n : Nat) (s : CS) (r : CR) : Prop where
 steps : r.1.steps ≤ s.steps + n * (r.1.largest + 1)
 lg : s.largest ≤ r.1.largest
 set : r.1.set.length ≤ r.1.largest
 most : r.2 = none → (s.largest : Int) ≤ most → (r.1.largest : Int) ≤ most
 fail : ∀ e, r.2 = some e → e.1 ≠ 0 ∧ 0 ≤ e.2 ∧ e.2 ≤ m
section
variable {most : Int} {m : Nat} {s : CS}
theorem Bd.refl (h : s.set.length ≤ s.largest) : Bd most m 0 s (s, none) := ⟨by simp, Nat.le_refl _, h, fun _ h => h, fun e h => by cases h⟩
theorem Bd.mono {n n' : Nat} {r : CR} (h : Bd most m n s r) (hn : n ≤ n') : Bd most m n' s r :=
 ⟨Nat.le_trans h.steps (Nat.add_le_add_left (Nat.mul_le_mul_right _ hn) _), h.lg, h.set, h.most, h.fail⟩
theorem Bd.then {n1 n2 : Nat} {r : CR} {f : CS → CR} (h : Bd most m n1 s r) (hf : ∀ s1, r = (s1, none) → Bd most m n2 s1 (f s1)) : Bd most m (n1 + n2) s (thenC r f) := by
 obtain ⟨s1, e⟩ := r
 cases e with
 | some e => rw [Jtih]; exact h.mono (by omega)
 | none =>
  rw [Jtig]
  have h2 := hf s1 rfl
  refine ⟨?_, Nat.le_trans h.lg h2.lg, h2.set, fun hn hm => h2.most hn (h.most rfl hm), h2.fail⟩
  have k1 := h.steps
  have k2 := h2.steps
  have k3 := h2.lg
  simp only at k1 k3
  have k4 : n1 * (s1.largest + 1) ≤ n1 * ((f s1).1.largest + 1) := Nat.mul_le_mul_left _ (by omega)
  rw [Nat.add_mul]
  omega
theorem Bd.use {v t at_ : Int} (h : s.set.length ≤ s.largest) (h0 : 0 ≤ at_) (h1 : at_ ≤ m) : Bd most m 1 s (useC s v t at_) := by
 refine ⟨?_, Nat.le_refl _, h, fun _ h => h, fun e he => ?_⟩
 ·simp only [useC, costC]; omega
 ·simp only [useC] at he
  split at he
  ·cases he
  ·injection he with he; subst he; exact ⟨by simp, h0, h1⟩
theorem Bd.step {l : List Pair} {at_ : Int} (h : s.set.length ≤ s.largest) (h0 : 0 ≤ at_) (h1 : at_ ≤ m) : Bd most m 1 s (Jt67 most (costC s) l at_) := by
 refine ⟨?_, ?_, ?_, fun hn hm => ?_, fun e he => ?_⟩
 ·simp only [Jt67, costC]; omega
 ·simp only [Jt67, costC]; omega
 ·simp only [Jt67, costC]; omega
 ·simp only [Jt67, costC] at hn ⊢
  split at hn
  ·cases hn
  ·omega
 ·simp only [Jt67] at he
  split at he
  ·injection he with he; subst he; exact ⟨by simp, h0, h1⟩
  ·cases he
end
theorem Jt5e {H : List Blk} {b m n e : Nat} {rows : List (List D)} (hb : H[b]? = some (.mem (Jtgl rows))) (hm : m ≤ b) (hl : rows.length = n) (he : ∀ r ∈ rows, r.length = e) : WkT H m (.hsl b 0 e n) (.d (.sl rows)) := by
 refine .inl (.hsl b 0 e n (Jtgl rows) rows hb hm ?_ hl he)
 rw [List.drop_zero, List.take_of_length_le (by rw [Jtgp he, hl]; exact Nat.le_refl _)]; rfl
def smallZ (b : Block) (m : MBlock) (regs slots : Int) : Prop :=
 ¬ (60 : Int) < (b.code.length : Int) ∧ ¬ (200 : Int) < (m.code.length : Int) ∧ ¬ 20 < regs ∧ ¬ 20 < slots ∧ ¬ 30 < b.term.to ∧ ¬ 30 < b.term.els ∧ ¬ 30 < m.term.to ∧ ¬ 30 < m.term.els ∧ ¬ b.term.to < 0 ∧ ¬ b.term.els < 0
instance (b : Block) (m : MBlock) (regs slots : Int) : Decidable (smallZ b m regs slots) := by unfold smallZ; infer_instance
section
end
section
end
section
end
def Jtcm : List LT := [ltI, ltI, ltI, ltI, ltI]
def Jtcl : List LT := [.sl Jtcm, ltI, ltI, ltI, ltI]
def ltFunc : List LT := [ltI, ltI, .sl Jtcl]
theorem Jtb1 {r : List D} (h : HasL Jtcm r) : ∃ i : Instr, r = i.row := by
 obtain ⟨_, _, rfl, h0, h⟩ := h.cons_inv
 obtain ⟨_, _, rfl, h1, h⟩ := h.cons_inv
 obtain ⟨_, _, rfl, h2, h⟩ := h.cons_inv
 obtain ⟨_, _, rfl, h3, h⟩ := h.cons_inv
 obtain ⟨_, _, rfl, h4, h⟩ := h.cons_inv
 obtain rfl := h.nil_inv
 obtain ⟨a, rfl, _⟩ := h0.int_inv
 obtain ⟨b, rfl, _⟩ := h1.int_inv
 obtain ⟨c, rfl, _⟩ := h2.int_inv
 obtain ⟨d, rfl, _⟩ := h3.int_inv
 obtain ⟨e, rfl, _⟩ := h4.int_inv
 exact ⟨⟨a, b, c, d, e⟩, rfl⟩
theorem Jt6a {r : List D} (h : HasL Jtcl r) : ∃ b : Block, r = b.row := by
 obtain ⟨_, _, rfl, h0, h⟩ := h.cons_inv
 obtain ⟨_, _, rfl, h1, h⟩ := h.cons_inv
 obtain ⟨_, _, rfl, h2, h⟩ := h.cons_inv
 obtain ⟨_, _, rfl, h3, h⟩ := h.cons_inv
 obtain ⟨_, _, rfl, h4, h⟩ := h.cons_inv
 obtain rfl := h.nil_inv
 obtain ⟨rows, rfl, _, hr⟩ := h0.sl_inv
 obtain ⟨code, rfl⟩ := Jtgr (fun r hr => Jtb1 hr) hr
 obtain ⟨b, rfl, _⟩ := h1.int_inv
 obtain ⟨c, rfl, _⟩ := h2.int_inv
 obtain ⟨d, rfl, _⟩ := h3.int_inv
 obtain ⟨e, rfl, _⟩ := h4.int_inv
 exact ⟨⟨code, ⟨b, c, d, e⟩⟩, rfl⟩
theorem Jt8v {ds : List D} (h : HasL ltFunc ds) : ∃ f : Func, .agg (ds.map AV.d) = f.av := by
 obtain ⟨_, _, rfl, h0, h⟩ := h.cons_inv
 obtain ⟨_, _, rfl, h1, h⟩ := h.cons_inv
 obtain ⟨_, _, rfl, h2, h⟩ := h.cons_inv
 obtain rfl := h.nil_inv
 obtain ⟨a, rfl, _⟩ := h0.int_inv
 obtain ⟨b, rfl, _⟩ := h1.int_inv
 obtain ⟨rows, rfl, _, hr⟩ := h2.sl_inv
 obtain ⟨bs, rfl⟩ := Jtgr (fun r hr => Jt6a hr) hr
 exact ⟨⟨a, b, bs⟩, rfl⟩
section
variable {P : Program} {q : Bool} {K : ASt → Prop} {QP : AV → ASt → Prop} {dst : Option Nat} {st : ASt}
@[simp] def goCV (K : ASt → Prop) (dst : Option Nat) (st : ASt) (P : Program) (q : Bool) (QP : AV → ASt → Prop) : Option AV → Option (List AV) → Prop
 | some (.fn (.func f) xs bs), some cs => okFn P f = true ∧ AWcall P q f (xs ++ cs ++ bs) dst K QP st
 | _, _ => False
@[simp] theorem Jt1o {x : Opd} {args : List Opd} : AWio P q (.callv x args) dst K QP st ↔ goCV K dst st P q QP (evr st.env x) (evs st.env args) := by
 constructor
 ·rintro ⟨f, xs, bs, cs, h1, h2, h3, h4⟩; rw [h1, h3]; exact ⟨h2, h4⟩
 ·intro h
  unfold goCV at h
  split at h
  ·rename_i f xs bs cs h1 h3; exact ⟨f, xs, bs, cs, h1, h.1, h3, h.2⟩
  ·exact h.elim
end
def wTotal (w : List (List Pair)) : Nat := (w.map List.length).sum
def okW (w : List (List Pair)) : Prop := ∀ l ∈ w, ∀ q ∈ l, okZ q.l
def succsZ (t : Term) : List Int := if t.kind = 1 then [t.to] else if t.kind = 2 then [t.to, t.els] else []
structure Rep where (err block at_ : Int) (blocks edges steps largest : Nat)
 deriving DecidableEq
def Rep.av (r : Rep) : AV := .agg [AI r.err, AI r.block, AI r.at_, AI r.blocks, AI r.edges, AI r.steps, AI r.largest]
def w0 (c : Cert) : List Pair := (c.W[0]?).getD []
section
end
section
end
section
end
section
theorem Jthk {P : Program} {p : Nums} (A : All P p) (t : Term) : Jt4n P p.source_Successors [t.av] [] fun o _ => o = .ret (.d (.sl ((succsZ t).map fun x => [I x]))) := by
 refine A.source_Successors.run rfl fun R hR => ?_
 (simp (maxSteps := 1000000) [Jtat, Term.av])
 ((first | refine Xc (fun h1 => ?_) (fun h1 => ?_) | refine Xo (fun h1 => ?_) (fun h1 => ?_)) <;> (try simp only [Xz, Xy] at h1))
 ·(simp (maxSteps := 1000000) [h1])
  (first | exact hR _ _ FrA | exact hR _ _ FnA | exact hR _ _ (Xf (hq := by simp [AV.erase, AV.unview, succsZ, h1]; done)))
 (simp (maxSteps := 1000000) [h1])
 ((first | refine Xc (fun h2 => ?_) (fun h2 => ?_) | refine Xo (fun h2 => ?_) (fun h2 => ?_)) <;> (try simp only [Xz, Xy] at h2))
 ·(simp (maxSteps := 1000000) [h2])
  (first | exact hR _ _ FrA | exact hR _ _ FnA | exact hR _ _ (Xf (hq := by simp [AV.erase, AV.unview, succsZ, h1, h2]; done)))
 (simp (maxSteps := 1000000) [h2])
 exact hR _ _ (Jt4r .nils (.d (.sl ((succsZ t).map fun x => [I x]))) [] rfl (by simp only [succsZ, if_neg h1, if_neg h2, List.map_nil]; (exact wkA)) rfl)
theorem Jtfq {P : Program} {p : Nums} (A : All P p) (t : Term) : Jt4n P p.ref07_Successors [t.av] [] fun o _ => o = .ret (.d (.sl ((succsZ t).map fun x => [I x]))) := by
 refine A.ref07_Successors.run rfl fun R hR => ?_
 (simp (maxSteps := 1000000) [Jtaj, Term.av])
 ((first | refine Xc (fun h1 => ?_) (fun h1 => ?_) | refine Xo (fun h1 => ?_) (fun h1 => ?_)) <;> (try simp only [Xz, Xy] at h1))
 ·(simp (maxSteps := 1000000) [h1])
  (first | exact hR _ _ FrA | exact hR _ _ FnA | exact hR _ _ (Xf (hq := by simp [AV.erase, AV.unview, succsZ, h1]; done)))
 (simp (maxSteps := 1000000) [h1])
 ((first | refine Xc (fun h2 => ?_) (fun h2 => ?_) | refine Xo (fun h2 => ?_) (fun h2 => ?_)) <;> (try simp only [Xz, Xy] at h2))
 ·(simp (maxSteps := 1000000) [h2])
  (first | exact hR _ _ FrA | exact hR _ _ FnA | exact hR _ _ (Xf (hq := by simp [AV.erase, AV.unview, succsZ, h1, h2]; done)))
 (simp (maxSteps := 1000000) [h2])
 exact hR _ _ (Jt4r .nils (.d (.sl ((succsZ t).map fun x => [I x]))) [] rfl (by simp only [succsZ, if_neg h1, if_neg h2, List.map_nil]; (exact wkA)) rfl)
end
section
end
structure okCert (c : Cert) : Prop where
 s0 : c.S.blocks.length < 1000000000
 s1 : codeN c.S.blocks < 1000000000
 t0 : c.T.blocks.length < 1000000000
 t1 : mcodeN c.T.blocks < 1000000000
 t2 : ∀ b ∈ c.T.blocks, okM b
 w0 : c.W.length < 1000000000
 w1 : wTotal c.W < 1000000000
 w2 : okW c.W
section
end
def VS : List Int := (List.range 61).map fun n : Nat => (n : Int)
def LS : List Int := (List.range 122).map fun n : Nat => (n : Int)
theorem src_ok {f : Func} (h : Jtg1 f = 0) : 0 ≤ f.args ∧ f.args ≤ f.regs ∧ 0 < f.blocks.length ∧ ∀ b ∈ f.blocks, (∀ i ∈ b.code, Jtg2 i f.regs = 0) ∧ Jtg3 b.term f.regs f.blocks.length = 0 := by
 unfold Jtg1 at h
 split at h
 ·cases h
 split at h
 ·cases h
 split at h
 ·cases h
 split at h
 ·cases h
 refine ⟨by omega, by omega, by omega, fun b hb => ?_⟩
 have h3 := Jt8h h _ (List.mem_map_of_mem hb)
 simp only [Jtg0] at h3
 split at h3
 ·rename_i h5; exact absurd h3 h5
 ·rename_i h5
  exact ⟨fun i hi => Jt8h (es := b.code.map (Jtg2 · f.regs)) (by simpa using h5) _ (List.mem_map_of_mem hi), h3⟩
structure Fit (c : Cert) : Prop where
 lenT : c.T.blocks.length = c.S.blocks.length
 lenW : c.W.length = c.S.blocks.length
 pos : 0 < c.S.blocks.length
 few : c.S.blocks.length ≤ 40
 w : ∀ l ∈ c.W, Srt l ∧ l.length ≤ 400 ∧ ∀ q ∈ l, 0 ≤ q.v ∧ q.v ≤ 60 ∧ 0 ≤ q.l ∧ q.l ≤ 121
 vl : ∀ b ∈ c.S.blocks, ∀ m ∈ c.T.blocks, VLOk VS LS b.code m.code
 cs : ∀ b ∈ c.S.blocks, b.code.length ≤ 100
 ct : ∀ m ∈ c.T.blocks, m.code.length ≤ 900
 to : ∀ b ∈ c.S.blocks, ∀ x ∈ succsZ b.term, 0 ≤ x ∧ x < c.S.blocks.length
 ars : 0 ≤ c.S.args ∧ c.S.args ≤ 60
structure Good (r : Res) : Prop where
 srt : Srt r.out
 len : r.out.length < 100000
 steps : r.steps ≤ 1000000000
 lg : r.largest < 100000
@[simp] theorem Jt97 {K : ASt → Prop} {st : ASt} {n b off : Nat} {cells : List AV} {v : Opd} {b' o' e' l' : Nat} : goS3 K st n b off cells v (some (.hsl b' o' e' l')) ↔ 1 = n ∧ off + n ≤ cells.length ∧ K ⟨unview st.env, st.H.set b (.mem (spl cells off [.hsl b' o' e' l']))⟩ := by
 cases v <;> simp [goS3, AV.erase, AV.cells, AV.leaf]
@[simp] theorem Jt9c {K : ASt → Prop} {st : ASt} {n b off : Nat} {cells : List AV} {v : Opd} {q : Place} {e : Nat} {rows : List (List D)} : goS3 K st n b off cells v (some (.view q e rows)) ↔ 1 = n ∧ off + n ≤ cells.length ∧ K ⟨unview st.env, st.H.set b (.mem (spl cells off [.d (.sl rows)]))⟩ := by
 cases v <;> simp [goS3, AV.erase, AV.cells, AV.leaf]
theorem Jtgo (a b : List (List D)) : Jtgl (a ++ b) = Jtgl a ++ b.flatten.map AV.d := by simp [Jtgl]
theorem Jt1e {P : Program} {K : ASt → Prop} {QP : AV → ASt → Prop} {dst : Option Nat} {st : ASt} {esz bytes : Nat} {x y : Opd} {b len : Nat} {rows ys : List (List D)} (h : evr st.env x = some (.hsl b 0 esz len)) (hb : st.H[b]? = some (.mem (Jtgl rows))) (hrl : rows.length = len)
  (hre : ∀ r ∈ rows, r.length = esz) (h0 : 0 < len) (hy : Jt5v st.env y = some ys) (hr : ∀ r ∈ ys, r.length = esz) (hz : 0 < esz) (hne : ys ≠ []) (hn : len + ys.length ≤ 1000000000000000000) (hbt : (len + ys.length) * bytes ≤ 140737488355328)
  (hK : K (put dst (.hsl b 0 esz (len + ys.length)) ⟨unview st.env, st.H.set b (.mem (Jtgl (rows ++ ys)))⟩)) (hK' : K (put dst (.hsl st.H.length 0 esz (len + ys.length)) ⟨st.env, st.H ++ [.mem (Jtgl (rows ++ ys))]⟩)) :
  AWio P false (.app esz bytes x y) dst K QP st := by
 simp only [AWio, h]
 rw [Jtgo] at hK hK'
 refine ⟨trivial, b, len, Jtgl rows, ys, h, hb, by rw [Jtgp hre, hrl], h0, ?_, hy, hr, hz, hne, hn, hbt, hK, hK'⟩
 rw [List.all_eq_true]
 intro x hx
 unfold Jtgl at hx
 rw [List.mem_map] at hx
 obtain ⟨d, _, rfl⟩ := hx
 rfl
end Go.AE
set_option maxRecDepth 4000
namespace Go.AE
open Go
def defAt (b : Block) (v : Int) (k : Nat) : Bool := (b.code.take k).any fun i => usesD i.op && i.d == v
def useI (i : Instr) (v : Int) : Bool := (usesA i.op && i.a == v) || (usesB i.op && i.b == v)
def usedC (b : Block) (v : Int) (k : Nat) : Bool := (List.range k).any fun j => match b.code[j]? with
 | some i => useI i v && !defAt b v j
 | none => false
def usedZ (b : Block) (v : Int) : Bool := usedC b v b.code.length || (b.term.kind != 1 && b.term.a == v && !defAt b v b.code.length)
theorem Jt7o {b : Block} {v : Int} {k : Nat} {i : Instr} (h : b.code[k]? = some i) : defAt b v (k + 1) = (defAt b v k || (usesD i.op && i.d == v)) := by
 unfold defAt
 rw [List.take_add_one, h, List.any_append]; simp
theorem Jtj0 {b : Block} {v : Int} {k : Nat} {i : Instr} (h : b.code[k]? = some i) : usedC b v (k + 1) = (usedC b v k || (useI i v && !defAt b v k)) := by
 unfold usedC
 rw [List.range_succ, List.any_append]
 simp [h]
section
theorem Jtfu {P : Program} {p : Nums} (A : All P p) (l : List Int) (v : Int) (h0 : l.length < 1000000000) : Jt4n P p.ref23_Has [.d (intsD l), AI v] [] fun o _ => o = .ret (AB (decide (v ∈ l))) := by
 refine A.ref23_Has.run rfl fun R hR => ?_
 (simp (maxSteps := 1000000) [Jtan, intsD])
 refine Jtd (fun k : Nat => ⟨[(5, AI k), (0, .d (.sl (l.map intRow))), (1, AI v)], []⟩) (fun k => k ≤ l.length ∧ v ∉ l.take k) (fun k => l.length - k) 0 (by simp) (by (exact wkA)) ?_
 rintro k ⟨hk, hz⟩ N hN
 (simp (maxSteps := 1000000) [])
 ((first | refine Xc (fun h2 => ?_) (fun h2 => ?_) | refine Xo (fun h2 => ?_) (fun h2 => ?_)) <;> (try simp only [Xz, Xy] at h2))
 ·have hkl : k < l.length := by simpa using h2
  have hb : l[k]? = some l[k] := by simp
  have hw := Jtje (k := k) (by omega)
  (simp (maxSteps := 1000000) [h2, hb, intRow])
  by_cases h3 : l[k] = v
  ·have : v ∈ l := by rw [← h3]; exact List.getElem_mem hkl
   (simp (maxSteps := 1000000) [h3])
   (first | exact hR _ _ FrA | exact hR _ _ FnA | exact hR _ _ (Xf (hq := by simp [AV.erase, AV.unview, this]; done)))
  ·have h3b : (l[k] == v) = false := by simpa using h3
   (simp (maxSteps := 1000000) [h3, h3b, hw])
   refine hN _ (k + 1) ⟨hkl, ?_⟩ (by (exact wkA)) (by omega)
   rw [List.take_add_one, hb]
   simp only [List.mem_append, not_or, hz, not_false_eq_true, true_and, Option.toList, List.mem_singleton]
   exact fun e => h3 e.symm
 ·have hk' : k = l.length := by simp at h2; omega
  subst hk'
  have : v ∉ l := by simpa using hz
  (simp (maxSteps := 1000000) [])
  (first | exact hR _ _ FrA | exact hR _ _ FnA | exact hR _ _ (Xf (hq := by simp [AV.erase, AV.unview, this]; done)))
theorem Jtft {P : Program} {p : Nums} (A : All P p) (b : Block) (v : Int) (k : Nat) (hk : k ≤ b.code.length) (h0 : b.code.length ≤ 1000000) : Jt4n P p.ref23_Defines [b.av, AI v, AI (k : Int)] [] fun o _ => o = .ret (AB (defAt b v k)) := by
 refine A.ref23_Defines.run rfl fun R hR => ?_
 obtain ⟨T, hT⟩ : ∃ T, T = defAt b v k := ⟨_, rfl⟩
 rw [← hT] at hR
 have hs := fun j i => Jt7o (b := b) (v := v) (k := j) (i := i)
 obtain ⟨F, hF⟩ : ∃ F : Nat → Bool, F = fun j => defAt b v j := ⟨_, rfl⟩
 have hTF : T = F k := by rw [hT, hF]
 have hF0 : F 0 = false := by rw [hF]; rfl
 have hF' : ∀ j, defAt b v j = F j := fun j => by rw [hF]
 have hmono : ∀ i j, i ≤ j → F i = true → F j = true := by
  intro i j hij h
  rw [hF] at h ⊢
  simp only [defAt, List.any_eq_true] at h ⊢
  obtain ⟨x, hx, h⟩ := h
  exact ⟨x, (List.take_prefix_take_left hij).subset hx, h⟩
 simp only [hF'] at hs
 clear hF hF' hT
 obtain ⟨code, kind, ta, to, els⟩ := b
 simp only at hk h0 hs
 (simp (maxSteps := 1000000) [Jtam, Block.av])
 refine Jtd (fun j : Nat => ⟨[(7, AI j), (2, AI k), (1, AI v), (3, .ptr 0 0)], [.mem [.d (.sl (code.map Instr.row)), AI kind, AI ta, AI to, AI els]]⟩) (fun j => j ≤ k ∧ F j = false) (fun j => k - j) 0 (by simp [hF0]) (by (exact wkA)) ?_
 rintro j ⟨hj, hz⟩ N hN
 have hw := Jtje (k := j) (by omega)
 (simp (maxSteps := 1000000) [])
 by_cases h2 : j < k
 ·have h2i : (j : Int) < (k : Int) := by omega
  have hjl : j < code.length := by omega
  have hb : code[j]? = some code[j] := by simp [hjl]
  have hs := hs j _ hb
  rw [hz] at hs
  obtain ⟨i, hi⟩ : ∃ i, i = code[j] := ⟨_, rfl⟩
  have e1 : code[j].op = i.op := by rw [hi]
  have e2 : code[j].d = i.d := by rw [hi]
  rw [← hi] at hb hs
  (simp (maxSteps := 1000000) [h2, h2i, List.getElem?_map, hb, Instr.row])
  (refine Jt12 (Jtfk A i.op) (by rfl) (by rfl) ?_)
  cases hu : usesD i.op with
  | true =>
   rw [hu] at hs
   by_cases h3 : i.d = v
   ·have : F (j + 1) = true := by rw [hs]; simp [h3]
    have hTt : T = true := by rw [hTF]; exact hmono _ _ h2 this
    (simp (maxSteps := 1000000) [List.getElem?_map, hb, Instr.row, h3])
    (first | exact hR _ _ FrA | exact hR _ _ FnA | exact hR _ _ (Xf (hq := by simp [AV.erase, AV.unview, hTt]; done)))
   ·have h3b : (i.d == v) = false := by simpa using h3
    (simp (maxSteps := 1000000) [List.getElem?_map, hb, Instr.row, h3, h3b, hw])
    exact hN _ (j + 1) ⟨h2, by rw [hs, h3b]; rfl⟩ (by (exact wkA)) (by omega)
  | false =>
   rw [hu] at hs
   (simp (maxSteps := 1000000) [hw])
   exact hN _ (j + 1) ⟨h2, by rw [hs]; rfl⟩ (by (exact wkA)) (by omega)
 ·have ej : j = k := by omega
  subst ej
  (simp (maxSteps := 1000000) [])
  (first | exact hR _ _ FrA | exact hR _ _ FnA | exact hR _ _ (Xf (hq := by simp [AV.erase, AV.unview, hTF, hz]; done)))
theorem Jtfp {P : Program} {p : Nums} (A : All P p) (a b : List Int) (h0 : a.length < 1000000000) (h1 : b.length < 1000000000) : Jt4n P p.ref07_Numbers [.d (intsD a), .d (intsD b)] [] fun o _ => o = .ret (AB (decide (a = b))) := by
 refine A.ref07_Numbers.run rfl fun R hR => ?_
 (simp (maxSteps := 1000000) [Jtai, intsD])
 by_cases hl : a.length = b.length
 ·have hlb : ((a.length : Int) != (b.length : Int)) = false := by simp [hl]
  (simp (maxSteps := 1000000) [hl, hlb])
  refine Jtd (fun k : Nat => ⟨[(5, AI k), (0, .d (.sl (a.map intRow))), (1, .d (.sl (b.map intRow)))], []⟩) (fun k => k ≤ a.length ∧ a.take k = b.take k) (fun k => a.length - k) 0 (by simp) (by (exact wkA)) ?_
  rintro k ⟨hk, hs⟩ N hN
  (simp (maxSteps := 1000000) [])
  ((first | refine Xc (fun h2 => ?_) (fun h2 => ?_) | refine Xo (fun h2 => ?_) (fun h2 => ?_)) <;> (try simp only [Xz, Xy] at h2))
  ·have hka : k < a.length := by omega
   have hkb : k < b.length := by omega
   have hw := Jtje (k := k) (by omega)
   by_cases he : a[k] = b[k]
   ·have hs' : a.take (k + 1) = b.take (k + 1) := by rw [List.take_succ_eq_append_getElem hka, List.take_succ_eq_append_getElem hkb, hs, he]
    (simp (maxSteps := 1000000) [h2, intRow, hka, hkb, he, hw])
    exact hN _ (k + 1) ⟨hka, hs'⟩ (by (exact wkA)) (by omega)
   ·have heb : (a[k] != b[k]) = true := by simpa using he
    have hne : ¬ a = b := by rintro rfl; exact he rfl
    (simp (maxSteps := 1000000) [h2, intRow, hka, hkb, he, heb])
    (first | exact hR _ _ FrA | exact hR _ _ FnA | exact hR _ _ (Xf (hq := by simp [AV.erase, AV.unview, hne]; done)))
  ·have hka : k = a.length := by omega
   subst hka
   rw [List.take_length, hl, List.take_length] at hs
   (simp (maxSteps := 1000000) [h2])
   (first | exact hR _ _ FrA | exact hR _ _ FnA | exact hR _ _ (Xf (hq := by simp [AV.erase, AV.unview, hs]; done)))
 ·have hlb : ((a.length : Int) != (b.length : Int)) = true := by simp; omega
  have hne : ¬ a = b := by rintro rfl; exact hl rfl
  (simp (maxSteps := 1000000) [hl, hlb])
  (first | exact hR _ _ FrA | exact hR _ _ FnA | exact hR _ _ (Xf (hq := by simp [AV.erase, AV.unview, hne]; done)))
def listsD (l : List (List Int)) : D := .sl (l.map fun x => [intsD x])
theorem Jtfx {P : Program} {p : Nums} (A : All P p) (a b : List (List Int)) (h0 : a.length < 1000000000) (h1 : b.length < 1000000000) (h2 : ∀ x ∈ a, x.length < 1000000000) (h3 : ∀ x ∈ b, x.length < 1000000000) : Jt4n P p.ref23_Same [.d (listsD a), .d (listsD b)] [] fun o _ => o = .ret (AB (decide (a = b))) := by
 refine A.ref23_Same.run rfl fun R hR => ?_
 obtain ⟨aR, haR⟩ : ∃ x, x = a.map fun x => [intsD x] := ⟨_, rfl⟩
 obtain ⟨bR, hbR⟩ : ∃ x, x = b.map fun x => [intsD x] := ⟨_, rfl⟩
 have la : aR.length = a.length := by rw [haR]; simp
 have lb : bR.length = b.length := by rw [hbR]; simp
 simp only [listsD, ← haR, ← hbR]
 (simp (maxSteps := 1000000) [Jtaq, la, lb])
 by_cases hl : a.length = b.length
 ·have hlb : ((a.length : Int) != (b.length : Int)) = false := by simp [hl]
  (simp (maxSteps := 1000000) [hl, hlb])
  refine Jtd (fun k : Nat => ⟨[(5, AI k), (0, .d (.sl aR)), (1, .d (.sl bR))], []⟩) (fun k => k ≤ a.length ∧ a.take k = b.take k) (fun k => a.length - k) 0 (by simp) (by (exact wkA)) ?_
  rintro k ⟨hk, hs⟩ N hN
  (simp (maxSteps := 1000000) [la])
  by_cases h4 : k < a.length
  ·have h4i : (k : Int) < (a.length : Int) := by omega
   have hkb : k < b.length := by omega
   have ga : aR[k]? = some [intsD a[k]] := by rw [haR]; simp [h4]
   have gb : bR[k]? = some [intsD b[k]] := by rw [hbR]; simp [hkb]
   have hw := Jtje (k := k) (by omega)
   have cn := Jtfp A a[k] b[k] (h2 _ (List.getElem_mem h4)) (h3 _ (List.getElem_mem hkb))
   obtain ⟨x, hx⟩ : ∃ x, x = a[k] := ⟨_, rfl⟩
   obtain ⟨y, hy⟩ : ∃ x, x = b[k] := ⟨_, rfl⟩
   rw [← hx] at ga cn
   rw [← hy] at gb cn
   (simp (maxSteps := 1000000) [h4, h4i, ga, gb])
   (refine Jt12 cn (by rfl) (by rfl) ?_)
   by_cases he : x = y
   ·have hs' : a.take (k + 1) = b.take (k + 1) := by rw [List.take_succ_eq_append_getElem h4, List.take_succ_eq_append_getElem hkb, hs, ← hx, ← hy, he]
    (simp (maxSteps := 1000000) [he, hw])
    exact hN _ (k + 1) ⟨h4, hs'⟩ (by (exact wkA)) (by omega)
   ·have hne : ¬ a = b := by rintro rfl; exact he (hx.trans hy.symm)
    (simp (maxSteps := 1000000) [he])
    (first | exact hR _ _ FrA | exact hR _ _ FnA | exact hR _ _ (Xf (hq := by simp [AV.erase, AV.unview, hne]; done)))
  ·(simp (maxSteps := 1000000) [h4])
   have hka : k = a.length := by omega
   subst hka
   rw [List.take_length, hl, List.take_length] at hs
   (first | exact hR _ _ FrA | exact hR _ _ FnA | exact hR _ _ (Xf (hq := by simp [AV.erase, AV.unview, hs]; done)))
 ·have hlb : ((a.length : Int) != (b.length : Int)) = true := by simp; omega
  have hne : ¬ a = b := by rintro rfl; exact hl rfl
  (simp (maxSteps := 1000000) [hl, hlb])
  (first | exact hR _ _ FrA | exact hR _ _ FnA | exact hR _ _ (Xf (hq := by simp [AV.erase, AV.unview, hne]; done)))
end
end Go.AE
set_option maxRecDepth 4000
namespace Go.AE
open Go
theorem Jt14 {P : Program} {K : ASt → Prop} {QP : AV → ASt → Prop} {dst : Option Nat} {st : ASt} {ι : Type} (bs : List Nat) (e : Nat) {f : Nat} {args cargs : List AV} {Hp Hc : List Blk} {C Hb : ι → List Blk} {X Y : ι → AV} {Pr : ι → Prop}
  (h : Jt4n P f cargs Hc fun o H' => ∃ i, Pr i ∧ o = .ret (X i) ∧ H' = C i)
  (hnd : bs.Nodup) (ha : renL (idx bs) args = some cargs) (hp : picks st.H bs = some Hp) (hc : renB (idx bs) Hp = some Hc) (hb : ∀ i, renB (back bs st.H.length e) (C i) = some (Hb i))
  (hl : ∀ i, (C i).length = bs.length + e) (hx : ∀ i, (X i).ren (back bs st.H.length e) = some (Y i)) (hK : ∀ i, Pr i → K (put dst (Y i) ⟨unview st.env, wback st.H bs ((Hb i).take bs.length) ++ (Hb i).drop bs.length⟩)) : AWcall P false f args dst K QP st := by
 refine .inr ⟨rfl, .inr ⟨bs, hnd, cargs, Hp, Hc, ha, hp, hc, h.mono ?_⟩⟩
 rintro o H' ⟨i, hi, rfl, rfl⟩
 have ht : (C i).take (bs.length + e) = C i := by rw [← hl i, List.take_length]
 exact ⟨e, Hb i, Y i, by rw [ht]; exact hb i, by rw [hl i]; exact Nat.le_refl _, hx i, hK i hi⟩
def mpK (ks : List Int) : Obj := mpO ks.zipIdx ks.length
def madd (ks : List Int) (n : Int) : List Int := if n ∈ ks then ks else ks ++ [n]
theorem Jtjk (ks : List Int) : ks.zipIdx.map Prod.fst = ks := by simp
theorem Jtdw (ks : List Int) (n : Int) : mpO (mputE ks.zipIdx ks.length n) (mputC ks.zipIdx ks.length n) = mpK (madd ks n) := by
 unfold mputE mputC madd mpK
 rw [Jtjk]
 split
 ·rfl
 ·rw [List.zipIdx_append]; simp
theorem Jtd4 {ks : List Int} {n v : Int} : v ∈ madd ks n ↔ v ∈ ks ∨ v = n := by
 unfold madd
 split
 ·rename_i h; exact ⟨.inl, fun h' => h'.elim id fun e => e ▸ h⟩
 ·simp
theorem Jtct {ks : List Int} {n : Int} (h : ks.Nodup) : (madd ks n).Nodup := by
 unfold madd
 split
 ·exact h
 ·rename_i hn
  rw [List.nodup_append]
  exact ⟨h, by simp, fun a ha b hb => by simp at hb; subst hb; rintro rfl; exact hn ha⟩
theorem Jtcs {ks : List Int} {n : Int} : (madd ks n).length ≤ ks.length + 1 := by unfold madd; split <;> simp
section
variable {P : Program} {K : ASt → Prop} {QP : AV → ASt → Prop} {dst : Option Nat} {st : ASt}
theorem Jt28 (h : ∀ r, K (put dst (.mp r) ⟨st.env, st.H ++ [.glob r (mpK [])]⟩)) : AWio P false (.mo .mk) dst K QP st := Jt27 h
theorem Jt2p {x k v : Opd} {r b : Nat} {n : Int} {ks : List Int} (hx : evr st.env x = some (.mp r)) (hk : evr st.env k = some (.d (.int .i64 n))) (hv : evr st.env v = some (.d (.bool true))) (hb : st.H[b]? = some (.glob r (mpK ks)))
  (h : K ⟨unview st.env, st.H.set b (.glob r (mpK (madd ks n)))⟩) : AWio P false (.mo (.set x k v)) none K QP st := Jt2o hx hk hv hb (by rw [Jtdw]; exact h)
theorem Jt26 {x k : Opd} {r b : Nat} {n : Int} {ks : List Int} (hx : evr st.env x = some (.mp r)) (hk : evr st.env k = some (.d (.int .i64 n))) (hb : st.H[b]? = some (.glob r (mpK ks)))
  (h : K (put dst (.d (.bool (decide (n ∈ ks)))) st)) : AWio P false (.mo (.get x k)) dst K QP st := Jt25 hx hk hb (by rw [Jtjk]; exact h)
theorem Jt2g {x : Opd} {r b : Nat} {ks : List Int} (hx : evr st.env x = some (.mp r)) (hb : st.H[b]? = some (.glob r (mpK ks))) (h : K (put dst (.d (.int .i64 ks.length)) st)) : AWio P false (.mo (.len x)) dst K QP st :=
 Jt2f hx hb (by rw [List.length_zipIdx]; exact h)
theorem Jt2n {x : Opd} {r b : Nat} {ks : List Int} (hx : evr st.env x = some (.mp r)) (hb : st.H[b]? = some (.glob r (mpK ks)))
  (h : ∀ r', K (put dst (.ptr st.H.length 0) ⟨st.env, st.H ++ [.glob r' (itO r ks.length [])]⟩)) : AWio P false (.mo (.rng x)) dst K QP st := Jt2m hx hb h
theorem Jtdd {ks : List Int} {e : Int × Nat} : e ∈ ks.zipIdx ↔ ks[e.2]? = some e.1 := by
 rw [List.mem_zipIdx_iff_getElem?]
theorem Jt2j {x : Opd} {bi r' r b : Nat} {ks : List Int} {seen : List Nat} (hx : evr st.env x = some (.ptr bi 0)) (hi : st.H[bi]? = some (.glob r' (itO r ks.length seen))) (hb : st.H[b]? = some (.glob r (mpK ks)))
  (h1 : ∀ i k, ks[i]? = some k → i ∉ seen → K (put dst (.tup [.d (.bool true), .d (.int .i64 k), .d (.bool true)]) ⟨unview st.env, st.H.set bi (.glob r' (itO r ks.length (seen ++ [i])))⟩))
  (h2 : (∀ i, i < ks.length → i ∈ seen) → K (put dst (.tup [.d (.bool false)]) ⟨unview st.env, st.H⟩)) : AWio P false (.mo (.nxt x)) dst K QP st := by
 refine Jt2i hx hi hb (fun e he => (List.getElem?_eq_some_iff.1 (Jtdd.1 he)).1) (fun e he hs => h1 e.2 e.1 (Jtdd.1 he) hs) (fun hs => h2 fun i hi => ?_)
 exact hs (ks[i], i) (Jtdd.2 (by simp [hi]))
theorem Jt24 {x : Opd} {bi r' r b i : Nat} {k : Int} {ks : List Int} {seen : List Nat} (hx : evr st.env x = some (.ptr bi 0)) (hi : st.H[bi]? = some (.glob r' (itO r ks.length (seen ++ [i])))) (hb : st.H[b]? = some (.glob r (mpK ks))) (hk : ks[i]? = some k)
  (h : K (put dst (.tup [.d (.int .i64 k), .d (.bool true)]) st)) : AWio P false (.mo (.ent x)) dst K QP st :=
 Jt23 (k, i) hx hi hb (Jtdd.2 hk) (by rw [List.zipIdx_map_snd]; exact List.nodup_range' ..) h
end
end Go.AE
set_option maxRecDepth 4000
namespace Go.AE
open Go
def useS (us ds : List Int) (v : Int) : List Int := if v ∈ ds then us else madd us v
def scanI (s : List Int × List Int) (i : Instr) : List Int × List Int :=
 let u1 := if usesA i.op = true then useS s.1 s.2 i.a else s.1
 let u2 := if usesB i.op = true then useS u1 s.2 i.b else u1
 (u2, if usesD i.op = true then madd s.2 i.d else s.2)
def scanC (l : List Instr) : List Int × List Int := l.foldl scanI ([], [])
def scanZ (b : Block) : List Int × List Int :=
 (if b.term.kind ≠ 1 then useS (scanC b.code).1 (scanC b.code).2 b.term.a else (scanC b.code).1, (scanC b.code).2)
theorem Jth3 {l : List Instr} {k : Nat} {i : Instr} (h : l[k]? = some i) : scanC (l.take (k + 1)) = scanI (scanC (l.take k)) i := by
 unfold scanC; rw [List.take_add_one, h, List.foldl_append]; rfl
theorem Jtdc {us ds : List Int} {v x : Int} : x ∈ useS us ds v ↔ x ∈ us ∨ (x = v ∧ v ∉ ds) := by
 unfold useS
 split
 ·rename_i h; exact ⟨.inl, fun h' => h'.elim id fun e => absurd h e.2⟩
 ·rename_i h; rw [Jtd4]; exact ⟨fun h' => h'.imp id fun e => ⟨e, h⟩, fun h' => h'.imp id fun e => e.1⟩
theorem Jtix {us ds : List Int} {v : Int} (h : us.Nodup) : (useS us ds v).Nodup := by unfold useS; split; exact h; exact Jtct h
theorem Jtiw {us ds : List Int} {v : Int} : (useS us ds v).length ≤ us.length + 1 := by unfold useS; split; omega; exact Jtcs
theorem Jth2 (b : Block) : ∀ k, k ≤ b.code.length → (∀ v, v ∈ (scanC (b.code.take k)).2 ↔ defAt b v k = true) ∧ (∀ v, v ∈ (scanC (b.code.take k)).1 ↔ usedC b v k = true) ∧ (scanC (b.code.take k)).1.Nodup ∧ (scanC (b.code.take k)).2.Nodup ∧ (scanC (b.code.take k)).1.length ≤ 2 * k ∧ (scanC (b.code.take k)).2.length ≤ k := by
 intro k
 induction k with
 | zero => intro _; refine ⟨fun v => ?_, fun v => ?_, by simp [scanC], by simp [scanC], by simp [scanC], by simp [scanC]⟩ <;> simp [scanC, defAt, usedC]
 | succ k ih =>
  intro hk
  obtain ⟨h1, h2, h3, h4, h5, h6⟩ := ih (by omega)
  have hb : b.code[k]? = some b.code[k] := by simp [show k < b.code.length by omega]
  obtain ⟨i, hi⟩ : ∃ i, i = b.code[k] := ⟨_, rfl⟩
  rw [← hi] at hb
  rw [Jth3 hb]
  obtain ⟨s, hs⟩ : ∃ s, s = scanC (b.code.take k) := ⟨_, rfl⟩
  rw [← hs] at h1 h2 h3 h4 h5 h6 ⊢
  unfold scanI
  simp only
  refine ⟨fun v => ?_, fun v => ?_, ?_, ?_, ?_, ?_⟩
  ·rw [Jt7o hb]
   by_cases hd : usesD i.op = true
   ·rw [if_pos hd, Jtd4, h1, Bool.or_eq_true, Bool.and_eq_true, beq_iff_eq]; exact or_congr Iff.rfl ⟨fun e => ⟨hd, e.symm⟩, fun e => e.2.symm⟩
   ·rw [if_neg hd, h1, Bool.or_eq_true]; simp [hd]
  ·have key : usedC b v (k + 1) = true ↔ v ∈ s.1 ∨ (((usesA i.op = true ∧ i.a = v) ∨ (usesB i.op = true ∧ i.b = v)) ∧ v ∉ s.2) := by
    rw [Jtj0 hb, Bool.or_eq_true, Bool.and_eq_true, h2, h1]
    unfold useI
    rw [Bool.or_eq_true, Bool.and_eq_true, Bool.and_eq_true, beq_iff_eq, beq_iff_eq]
    cases defAt b v k <;> simp
   rw [key]
   have e1 : ∀ us : List Int, ∀ c : Bool, ∀ y : Int, v ∈ (if c = true then useS us s.2 y else us) ↔ v ∈ us ∨ ((c = true ∧ y = v) ∧ v ∉ s.2) := by
    intro us c y
    cases c with
    | true =>
     rw [if_pos rfl, Jtdc]
     exact or_congr Iff.rfl ⟨fun ⟨e, h⟩ => ⟨⟨rfl, e.symm⟩, e ▸ h⟩, fun ⟨⟨_, e⟩, h⟩ => ⟨e.symm, e ▸ h⟩⟩
    | false => simp
   rw [e1, e1]
   constructor
   ·rintro ((h | ⟨h, h'⟩) | ⟨h, h'⟩)
    ·exact .inl h
    ·exact .inr ⟨.inl h, h'⟩
    ·exact .inr ⟨.inr h, h'⟩
   ·rintro (h | ⟨h | h, h'⟩)
    ·exact .inl (.inl h)
    ·exact .inl (.inr ⟨h, h'⟩)
    ·exact .inr ⟨h, h'⟩
  ·split <;> split <;> first | exact Jtix (Jtix h3) | exact Jtix h3 | exact h3
  ·split; exact Jtct h4; exact h4
  ·have l1 : (if usesA i.op = true then useS s.1 s.2 i.a else s.1).length ≤ s.1.length + 1 := by split; exact Jtiw; omega
   generalize (if usesA i.op = true then useS s.1 s.2 i.a else s.1) = u1 at l1 ⊢
   have l2 : (if usesB i.op = true then useS u1 s.2 i.b else u1).length ≤ u1.length + 1 := by split; exact Jtiw; omega
   omega
  ·have : (if usesD i.op = true then madd s.2 i.d else s.2).length ≤ s.2.length + 1 := by split; exact Jtcs; omega
   omega
theorem Jth4 (b : Block) : (∀ v, v ∈ (scanZ b).2 ↔ defAt b v b.code.length = true) ∧ (∀ v, v ∈ (scanZ b).1 ↔ usedZ b v = true) ∧ (scanZ b).1.Nodup ∧ (scanZ b).2.Nodup ∧ (scanZ b).1.length ≤ 2 * b.code.length + 1 ∧ (scanZ b).2.length ≤ b.code.length := by
 have h := Jth2 b b.code.length (Nat.le_refl _)
 rw [List.take_length] at h
 obtain ⟨h1, h2, h3, h4, h5, h6⟩ := h
 refine ⟨h1, fun v => ?_, ?_, h4, ?_, h6⟩
 ·unfold scanZ usedZ
  by_cases hk : b.term.kind = 1
  ·simp [hk, h2]
  ·simp only [ne_eq, hk, not_false_eq_true, if_true, Jtdc, h2, h1]
   simp only [Bool.or_eq_true, Bool.and_eq_true, bne_iff_ne, ne_eq, hk, not_false_eq_true, true_and, beq_iff_eq, Bool.not_eq_true', Bool.not_eq_true]
   exact or_congr Iff.rfl ⟨fun ⟨e, h⟩ => ⟨e.symm, e ▸ h⟩, fun ⟨e, h⟩ => ⟨e.symm, e ▸ h⟩⟩
 ·show (if b.term.kind ≠ 1 then _ else _ : List Int).Nodup
  split; exact Jtix h3; exact h3
 ·show (if b.term.kind ≠ 1 then _ else _ : List Int).length ≤ _
  split
  ·have := Jtiw (us := (scanC b.code).1) (ds := (scanC b.code).2) (v := b.term.a); omega
  ·omega
inductive LiveAt (f : Func) (v : Int) : Nat → Prop where
 | use (i : Nat) (b : Block) (h : f.blocks[i]? = some b) (hu : usedZ b v = true) : LiveAt f v i
 | next (i : Nat) (b : Block) (t : Int) (h : f.blocks[i]? = some b) (ht : t ∈ succsZ b.term) (hl : LiveAt f v t.toNat) (hd : defAt b v b.code.length = false) : LiveAt f v i
structure OkL (f : Func) : Prop where
 succ : ∀ b ∈ f.blocks, ∀ t ∈ succsZ b.term, 0 ≤ t ∧ t < f.blocks.length
 bl : f.blocks.length ≤ 1000
 cl : ∀ b ∈ f.blocks, b.code.length ≤ 10000
theorem LiveAt.lt {f : Func} {v : Int} {i : Nat} (h : LiveAt f v i) : i < f.blocks.length := by
 cases h with
 | use _ b h _ => exact (List.getElem?_eq_some_iff.1 h).1
 | next _ b t h _ _ _ => exact (List.getElem?_eq_some_iff.1 h).1
theorem LiveAt.closed {f : Func} {v : Int} {S : Nat → Prop} (hu : ∀ i b, f.blocks[i]? = some b → usedZ b v = true → S i) (hn : ∀ i b t, f.blocks[i]? = some b → t ∈ succsZ b.term → S t.toNat → defAt b v b.code.length = false → S i) {i : Nat} (h : LiveAt f v i) : S i := by
 induction h with
 | use i b h h2 => exact hu i b h h2
 | next i b t h h2 _ h3 ih => exact hn i b t h h2 ih h3
end Go.AE
set_option maxRecDepth 4000
namespace Go.AE
open Go
section
theorem Jtcb {P : Program} {p : Nums} (A : All P p) (v : Int) (us ds : List Int) (ru rd : Nat) : Jt4n P p.liveness_scan_1 [AI v, .ptr 0 0, .ptr 1 0] [.mem [.mp rd], .mem [.mp ru], .glob rd (mpK ds), .glob ru (mpK us)]
  fun o H' => o = .ret (.tup []) ∧ H' = [.mem [.mp rd], .mem [.mp ru], .glob rd (mpK ds), .glob ru (mpK (useS us ds v))] := by
 refine A.liveness_scan_1.run rfl fun R hR => ?_
 obtain ⟨T, hT⟩ : ∃ T, T = useS us ds v := ⟨_, rfl⟩
 rw [← hT] at hR
 unfold useS at hT
 (simp (maxSteps := 1000000) [Jta6])
 refine Jt26 (b := 2) (by rfl) (by rfl) (by rfl) ?_
 by_cases hv : v ∈ ds
 ·rw [if_pos hv] at hT
  (simp (maxSteps := 1000000) [hv])
  exact hR _ _ (Fin_wk (.tup []) (.tup []) [.mem [.mp rd], .mem [.mp ru], .glob rd (mpK ds), .glob ru (mpK us)] (by rfl) (by (exact wkA)) ⟨rfl, by rw [hT]⟩)
 ·rw [if_neg hv] at hT
  (simp (maxSteps := 1000000) [hv])
  refine Jt2p (b := 3) (by rfl) (by rfl) (by rfl) (by rfl) ?_
  (simp (maxSteps := 1000000) [])
  exact hR _ _ (Fin_wk (.tup []) (.tup []) [.mem [.mp rd], .mem [.mp ru], .glob rd (mpK ds), .glob ru (mpK (madd us v))] (by rfl) (by (exact wkA)) ⟨rfl, by rw [hT]⟩)
set_option maxHeartbeats 1000000 in
theorem Jtcc {P : Program} {p : Nums} (A : All P p) (b : Block) (h0 : b.code.length ≤ 1000000) : Jt4n P p.liveness_scan [b.av] [] fun o H' => ∃ r : Nat × Nat, True ∧ o = .ret (.tup [.mp r.1, .mp r.2]) ∧ H' = [.dead, .dead, .dead, .glob r.1 (mpK (scanZ b).1), .glob r.2 (mpK (scanZ b).2)] := by
 refine A.liveness_scan.run rfl fun R hR => ?_
 obtain ⟨T, hT⟩ : ∃ T, T = scanZ b := ⟨_, rfl⟩
 rw [← hT] at hR
 unfold scanZ at hT
 have c1 := fun v us ds ru rd => Jtcb A v us ds ru rd
 have ok1 := A.liveness_scan_1.ok
 have hsc := fun k i => @Jth3 b.code k i
 obtain ⟨F, hF⟩ : ∃ F : Nat → List Int × List Int, F = fun k => scanC (b.code.take k) := ⟨_, rfl⟩
 have eF : ∀ k, scanC (b.code.take k) = F k := fun k => by rw [hF]
 have F0 : F 0 = ([], []) := by rw [hF]; rfl
 have Fn : scanC b.code = F b.code.length := by rw [hF]; simp
 simp only [eF] at hsc
 rw [Fn] at hT
 clear hF eF Fn
 obtain ⟨code, kind, ta, to, els⟩ := b
 simp only at h0 hsc hT
 (simp (maxSteps := 1000000) [Jta5, Block.av])
 refine Jt28 fun ru => ?_
 (simp (maxSteps := 1000000) [])
 refine Jt28 fun rd => ?_
 (simp (maxSteps := 1000000) [])
 refine Jtd (fun k : Nat => ⟨[(15, AI k), (14, AI (code.length : Int)), (13, .d (.sl (code.map Instr.row))), (4, .fn (.func p.liveness_scan_1) [] [.ptr 2 0, .ptr 1 0]), (3, .ptr 2 0), (2, .ptr 1 0), (1, .ptr 0 0)],
  [.mem [.d (.sl (code.map Instr.row)), AI kind, AI ta, AI to, AI els], .mem [.mp ru], .mem [.mp rd], .glob ru (mpK (F k).1), .glob rd (mpK (F k).2)]⟩) (fun k => k ≤ code.length) (fun k => code.length - k) 0 (by simp) (by rw [F0]; (exact wkA)) ?_
 intro k hk N hN
 (simp (maxSteps := 1000000) [])
 by_cases h2 : k < code.length
 ·have h2i : (k : Int) < (code.length : Int) := by omega
  have hb : code[k]? = some code[k] := by simp [h2]
  obtain ⟨i, hi⟩ : ∃ i, i = code[k] := ⟨_, rfl⟩
  rw [← hi] at hb
  have hs := hsc k i hb
  have hw := Jtje (k := k) (by omega)
  obtain ⟨⟨us, ds⟩, hu⟩ : ∃ x, x = F k := ⟨_, rfl⟩
  rw [← hu] at hs ⊢
  have next : ∀ st', Wk 0 st' ⟨[(15, AI ((k + 1 : Nat) : Int)), (14, AI (code.length : Int)), (13, .d (.sl (code.map Instr.row))), (4, .fn (.func p.liveness_scan_1) [] [.ptr 2 0, .ptr 1 0]), (3, .ptr 2 0), (2, .ptr 1 0), (1, .ptr 0 0)],
    [.mem [.d (.sl (code.map Instr.row)), AI kind, AI ta, AI to, AI els], .mem [.mp ru], .mem [.mp rd], .glob ru (mpK (scanI (us, ds) i).1), .glob rd (mpK (scanI (us, ds) i).2)]⟩ → N st' := fun st' h => hN st' (k + 1) h2 (by rw [hs]; exact h) (by omega)
  unfold scanI at next
  simp only at next
  (simp (maxSteps := 1000000) [h2, List.getElem?_map, hb, Instr.row])
  simp only [← hi]
  (refine Jt12 (Jtej A i.op) (by rfl) (by rfl) ?_)
  rw [Jth7, Jth5, Jth6]
  (simp (maxSteps := 1000000) [])
  have w1 : ∀ st' us' ds', us' = (if usesB i.op = true then useS (if usesA i.op = true then useS us ds i.a else us) ds i.b else (if usesA i.op = true then useS us ds i.a else us)) → ds' = (if usesD i.op = true then madd ds i.d else ds) →
    Wk 0 st' ⟨[(15, AI ((k + 1 : Nat) : Int)), (14, AI (code.length : Int)), (13, .d (.sl (code.map Instr.row))), (4, .fn (.func p.liveness_scan_1) [] [.ptr 2 0, .ptr 1 0]), (3, .ptr 2 0), (2, .ptr 1 0), (1, .ptr 0 0)],
    [.mem [.d (.sl (code.map Instr.row)), AI kind, AI ta, AI to, AI els], .mem [.mp ru], .mem [.mp rd], .glob ru (mpK us'), .glob rd (mpK ds')]⟩ → N st' := fun st' us' ds' e1 e2 h => next st' (by rw [← e1, ← e2]; exact h)
  clear next
  cases hA : usesA i.op with
  | true =>
   rw [hA] at w1
   (simp (maxSteps := 1000000) [])
   refine ⟨ok1, Jt13 [2, 1, 4, 3] (c1 i.a us ds ru rd) (by decide) (by rfl) (by rfl) (by rfl) (by rfl) (by rfl) (by rfl) ?_⟩
   obtain ⟨u1, hu1⟩ : ∃ x, x = useS us ds i.a := ⟨_, rfl⟩
   simp only [← hu1, if_true] at w1 ⊢
   (simp (maxSteps := 1000000) [])
   cases hB : usesB i.op with
   | true =>
    rw [hB] at w1
    (simp (maxSteps := 1000000) [])
    refine ⟨ok1, Jt13 [2, 1, 4, 3] (c1 i.b u1 ds ru rd) (by decide) (by rfl) (by rfl) (by rfl) (by rfl) (by rfl) (by rfl) ?_⟩
    obtain ⟨u2, hu2⟩ : ∃ x, x = useS u1 ds i.b := ⟨_, rfl⟩
    simp only [← hu2, if_true] at w1 ⊢
    (simp (maxSteps := 1000000) [])
    cases hD : usesD i.op with
    | true =>
     rw [hD] at w1
     (simp (maxSteps := 1000000) [])
     refine Jt2p (b := 4) (by rfl) (by rfl) (by rfl) (by rfl) ?_
     (simp (maxSteps := 1000000) [hw])
     exact w1 _ u2 (madd ds i.d) rfl (by simp) (by (exact wkA))
    | false =>
     rw [hD] at w1
     (simp (maxSteps := 1000000) [hw])
     exact w1 _ u2 (ds) rfl (by simp) (by (exact wkA))
   | false =>
    rw [hB] at w1
    obtain ⟨u2, hu2⟩ : ∃ x, x = u1 := ⟨_, rfl⟩
    simp only [← hu2, Bool.false_eq_true, if_false] at w1 ⊢
    (simp (maxSteps := 1000000) [])
    cases hD : usesD i.op with
    | true =>
     rw [hD] at w1
     (simp (maxSteps := 1000000) [])
     refine Jt2p (b := 4) (by rfl) (by rfl) (by rfl) (by rfl) ?_
     (simp (maxSteps := 1000000) [hw])
     exact w1 _ u2 (madd ds i.d) rfl (by simp) (by (exact wkA))
    | false =>
     rw [hD] at w1
     (simp (maxSteps := 1000000) [hw])
     exact w1 _ u2 (ds) rfl (by simp) (by (exact wkA))
  | false =>
   rw [hA] at w1
   obtain ⟨u1, hu1⟩ : ∃ x, x = us := ⟨_, rfl⟩
   simp only [← hu1, Bool.false_eq_true, if_false] at w1 ⊢
   (simp (maxSteps := 1000000) [])
   cases hB : usesB i.op with
   | true =>
    rw [hB] at w1
    (simp (maxSteps := 1000000) [])
    refine ⟨ok1, Jt13 [2, 1, 4, 3] (c1 i.b u1 ds ru rd) (by decide) (by rfl) (by rfl) (by rfl) (by rfl) (by rfl) (by rfl) ?_⟩
    obtain ⟨u2, hu2⟩ : ∃ x, x = useS u1 ds i.b := ⟨_, rfl⟩
    simp only [← hu2, if_true] at w1 ⊢
    (simp (maxSteps := 1000000) [])
    cases hD : usesD i.op with
    | true =>
     rw [hD] at w1
     (simp (maxSteps := 1000000) [])
     refine Jt2p (b := 4) (by rfl) (by rfl) (by rfl) (by rfl) ?_
     (simp (maxSteps := 1000000) [hw])
     exact w1 _ u2 (madd ds i.d) rfl (by simp) (by (exact wkA))
    | false =>
     rw [hD] at w1
     (simp (maxSteps := 1000000) [hw])
     exact w1 _ u2 (ds) rfl (by simp) (by (exact wkA))
   | false =>
    rw [hB] at w1
    obtain ⟨u2, hu2⟩ : ∃ x, x = u1 := ⟨_, rfl⟩
    simp only [← hu2, Bool.false_eq_true, if_false] at w1 ⊢
    (simp (maxSteps := 1000000) [])
    cases hD : usesD i.op with
    | true =>
     rw [hD] at w1
     (simp (maxSteps := 1000000) [])
     refine Jt2p (b := 4) (by rfl) (by rfl) (by rfl) (by rfl) ?_
     (simp (maxSteps := 1000000) [hw])
     exact w1 _ u2 (madd ds i.d) rfl (by simp) (by (exact wkA))
    | false =>
     rw [hD] at w1
     (simp (maxSteps := 1000000) [hw])
     exact w1 _ u2 (ds) rfl (by simp) (by (exact wkA))
 ·have ek : k = code.length := by omega
  subst ek
  (simp (maxSteps := 1000000) [])
  obtain ⟨⟨us, ds⟩, hu⟩ : ∃ x, x = F code.length := ⟨_, rfl⟩
  rw [← hu] at hT ⊢
  simp only at hT
  by_cases hk1 : kind = 1
  ·rw [if_neg (fun h => h hk1)] at hT
   (simp (maxSteps := 1000000) [hk1])
   exact hR _ _ (Jt4r (.tup [.mp ru, .mp rd]) (.tup [.mp ru, .mp rd]) [.dead, .dead, .dead, .glob ru (mpK us), .glob rd (mpK ds)] (by rfl) (by (exact wkA)) ⟨(ru, rd), trivial, rfl, by rw [hT]⟩)
  ·rw [if_pos hk1] at hT
   (simp (maxSteps := 1000000) [hk1])
   refine ⟨ok1, Jt13 [2, 1, 4, 3] (c1 ta us ds ru rd) (by decide) (by rfl) (by rfl) (by rfl) (by rfl) (by rfl) (by rfl) ?_⟩
   obtain ⟨u1, hu1⟩ : ∃ x, x = useS us ds ta := ⟨_, rfl⟩
   simp only [← hu1] at hT ⊢
   (simp (maxSteps := 1000000) [])
   exact hR _ _ (Jt4r (.tup [.mp ru, .mp rd]) (.tup [.mp ru, .mp rd]) [.dead, .dead, .dead, .glob ru (mpK u1), .glob rd (mpK ds)] (by rfl) (by (exact wkA)) ⟨(ru, rd), trivial, rfl, by rw [hT]⟩)
end
end Go.AE
namespace Go.AE
open Go Go.Proofs Go.Shelf Go.Sort Go.RowKit
def sortI (l : List Int) : List Int := l.mergeSort fun x y => decide (x ≤ y)
theorem Jthe (l : List Int) : (sortI l).length = l.length := by simp [sortI]
theorem Jtgn (l : List Int) : (Jtgl (l.map intRow)).length = l.length := by
 rw [Jtgp (e := 1) (Jtgq fun _ => rfl)]; simp
theorem Jtgm : ∀ (l : List Int) (j : Nat), (Jtgl (l.map intRow))[j]? = l[j]?.map AI := by
 intro l
 induction l with
 | nil => intro j; simp [Jtgl]
 | cons x l ih =>
  intro j
  cases j with
  | zero => rfl
  | succ j => simpa [Jtgl, intRow] using ih j
section
variable {P : Program} {ρ : Ren}
theorem Jthd (L : Lays.n189 P ρ) (arg : AV) (l : List Int) (hv : ∀ (g : Gh) (w : World) (v0 : Value), Rel g.F g.φ w arg.erase v0 → ∃ r cap, g.φ 0 = some r ∧ v0 = .slice (some ⟨r, 0, none⟩) l.length cap) (hlen : l.length < 4611686018427387904) :
  Jt4n P (ρ.f 189) [arg] [.mem (Jtgl (l.map intRow))] fun o H' => o = .ret (.tup []) ∧ H' = [.mem (Jtgl ((sortI l).map intRow))] := by
 intro g vs w hsz hs
 obtain ⟨vs⟩ := vs
 obtain ⟨v0, rfl⟩ : ∃ a, vs = [a] := by
  match vs, hsz with
  | [a], _ => exact ⟨a, rfl⟩
 have e0 : Rel g.F g.φ w arg.erase v0 := hs.env 0 _ rfl
 obtain ⟨r, cap, hφ, rfl⟩ := hv g w v0 e0
 obtain ⟨cl, te, hc, hcs, hcell⟩ := hs.mem 0 _ r rfl hφ
 have hF := (hs.lt 0 r hφ).2.1
 have hrl := (hs.lt 0 r hφ).1
 rw [Jtgn] at hcs
 have hH : Holds (Value.int .i64) w r 0 l.toArray := by
  intro j hj
  have hj' : j < l.length := by simpa using hj
  obtain ⟨_, u, hu, hrel⟩ := hcell j (AI l[j]) (by rw [Jtgm]; simp [hj'])
  cases hrel with
  | d _ _ hp =>
  cases hp with
  | int k m =>
  constructor
  ·simp [World.cell?, hc, hu, hj']
  ·simp [World.frozen?, hc]
 have := Any.slices_Sort_int L r 0 cap l w hH hrl hlen
 refine Calls.mono this ?_
 rintro e w' ⟨rfl, n, os, hw⟩
 obtain ⟨d, hd⟩ : ∃ d, d = sortI l := ⟨_, rfl⟩
 have hdl : d.length = l.length := by rw [hd, Jthe]
 have hw : w' = grow (putRow (Value.int .i64) (Sort.ahead w n) r 0 d.toArray) os := by rw [hw, hd]; rfl
 have hheap : w'.heap = (w.heap.modify r (onCells (putCells (Value.int .i64) 0 d.toArray))) ++ os := by rw [hw]; rfl
 have hother : ∀ r', r' < w.heap.size → r' ≠ r → w'.heap[r']? = w.heap[r']? := by
  intro r' h1 h2
  rw [hheap, Array.getElem?_append]
  simp only [Array.size_modify, h1, if_true, Array.getElem?_modify]
  rw [if_neg (Ne.symm h2)]
 have hsize : w.heap.size ≤ w'.heap.size := by rw [hheap]; simp
 have hpsz : (putCells (Value.int .i64) 0 d.toArray cl).size = cl.size := by simp [putCells]
 have hr' : w'.heap[r]? = some (.cells (putCells (Value.int .i64) 0 d.toArray cl) te (0, 0)) := by
  rw [hheap, Array.getElem?_append]
  simp only [Array.size_modify, hrl, if_true, Array.getElem?_modify, if_true]
  rw [hc]; rfl
 have hno : ∀ (env : List (Nat × AV)) (cells : List D) b j e rows, AP ⟨env, [.mem (cells.map AV.d)]⟩ (.cell b j) ≠ some (.own e rows) := by
  intro env cells b j e rows h
  simp only [AP] at h
  cases b with
  | zero =>
   simp only [List.getElem?_cons_zero] at h
   rw [List.getElem?_map] at h
   cases hx : cells[j]? with
   | none => rw [hx] at h; cases h
   | some d => rw [hx] at h; cases h
  | succ b => simp at h
 have hno' : ∀ p e rows, AP ⟨[(0, .tup [])], [.mem (Jtgl (d.map intRow))]⟩ p ≠ some (.own e rows) := by
  intro p e rows h
  cases p with
  | tmp t => simp only [AP, get] at h; split at h <;> cases h
  | cell b j => exact hno _ _ _ _ _ _ h
 have hb0 : ∀ b r', g.φ b = some r' → b = 0 := fun b r' h => by have := (hs.lt b r' h).2.2; simp at this; exact this
 refine ⟨.ret (.tup []), [.mem (Jtgl (d.map intRow))], g, .tuple #[], ⟨rfl, by rw [hd]⟩, rfl, ?_, ?_, fun _ _ _ h => h, by simp, ?_⟩
 ·refine { size := by simp, env := ?_, inj := hs.inj, lt := ?_, dom := ?_, mem := ?_, iter := ?_, glob := ?_, own := ?_, excl := ?_, apart := ?_, view := ?_ }
  ·intro t x hx
   simp only [get] at hx
   split at hx
   ·rename_i h; subst h; injection hx with hx; subst hx
    exact .tup [] [] rfl fun j x u h => by simp at h
   ·cases hx
  ·intro b r' h
   obtain ⟨h1, h2, h3⟩ := hs.lt b r' h
   exact ⟨by omega, h2, by simpa using h3⟩
  ·intro b k h hk
   cases b with
   | zero => exact ⟨r, hφ⟩
   | succ b => simp at h
  ·intro b cells r' h hr2
   have hb := hb0 b r' hr2
   subst hb
   rw [hφ] at hr2; injection hr2 with hr2; subst hr2
   simp at h; subst h
   refine ⟨_, te, hr', ?_, ?_⟩
   ·rw [Jtgn, hdl]; simp [putCells]; exact hcs
   ·intro j x hx
    rw [Jtgm] at hx
    cases hdj : d[j]? with
    | none => rw [hdj] at hx; cases hx
    | some n =>
     rw [hdj] at hx; injection hx with hx; subst hx
     have hj := (List.getElem?_eq_some_iff.1 hdj).1
     refine ⟨rfl, .int .i64 n, ?_, .d _ _ (.int _ _)⟩
     have hjc : j < cl.size := by omega
     have hn : d[j] = n := (List.getElem?_eq_some_iff.1 hdj).2
     simp [putCells, Array.getElem?_mapIdx, hjc, hj, hn]
  ·intro b s pos r' h _
   cases b with
   | zero => simp at h
   | succ b => simp at h
  ·intro b s pos r' h _
   cases b with
   | zero => simp at h
   | succ b => simp at h
  ·intro p e rows v h; exact absurd h (hno' p e rows)
  ·rintro p p' r' ⟨e, rows, _, h, _⟩; exact absurd h (hno' p e rows)
  ·rintro p r' b ⟨e, rows, _, h, _⟩; exact absurd h (hno' p e rows)
  ·intro t org e rows h
   simp only [get] at h
   split at h <;> cases h
 ·refine ⟨by rw [hw]; rfl, by rw [hw]; rfl, by rw [hw]; rfl, hsize, ?_, ?_⟩
  ·intro r' h1 h2
   refine ⟨hother r' h1 ?_, rfl⟩
   rintro rfl; exact h2 (.inl ⟨0, hφ⟩)
  ·refine ⟨fun _ _ => Nat.le_refl _, ?_, fun q => ?_⟩
   rotate_left
   ·by_cases hq : q = r
    ·subst hq; rw [Jt7j hc, Jt7j hr']; exact Nat.le_of_eq hpsz.symm
    ·by_cases hql : q < w.heap.size
     ·rw [Jt7k (hother q hql hq)]; exact Nat.le_refl _
     ·have : w.heap[q]? = none := Array.getElem?_eq_none (by omega)
      simp [csize, this]
   intro r' j u hj hu
   have hne : r' ≠ r := by rintro rfl; omega
   have hlt := World.block_lt_of_cell? w ⟨r', j, none⟩ hu
   have := hother r' hlt hne
   simp only [World.cell?] at hu ⊢
   rw [this]; exact hu
 ·rintro r' (⟨b, hb⟩ | ⟨p, e, rows, _, h, _⟩)
  ·exact .inl (.inl ⟨b, hb⟩)
  ·exact absurd h (hno' p e rows)
structure SortIOk (P : Program) (p : Nums) : Prop where
 some : ∀ l : List Int, l ≠ [] → l.length < 1000000000 → Jt4n P p.slices_Sort_int [.hsl 0 0 1 l.length] [.mem (Jtgl (l.map intRow))] fun o H' => o = .ret (.tup []) ∧ H' = [.mem (Jtgl ((sortI l).map intRow))]
 none : Jt4n P p.slices_Sort_int [.hsl0 0 1] [.mem []] fun o H' => o = .ret (.tup []) ∧ H' = [.mem []]
theorem SortIOk.of (L : Lays.n189 P ρ) (p : Nums) (h : p.slices_Sort_int = ρ.f 189) : SortIOk P p := by
 refine ⟨fun l hl h0 => ?_, ?_⟩
 ·rw [h]
  refine Jthd L _ l (fun g w v0 hr => ?_) (by omega)
  have hr : Rel g.F g.φ w (.hsl 0 0 1 l.length) v0 := hr
  have hn : l.length ≠ 0 := by simpa using hl
  cases hr with
  | hsl _ _ _ _ r cap a hφ hcap ha _ =>
  have ha := ha hn; subst ha
  exact ⟨r, cap, hφ, rfl⟩
 ·rw [h]
  have e : Jtgl ((sortI []).map intRow) = [] := by simp [sortI, Jtgl]
  have := Jthd L (.hsl0 0 1) [] (fun g w v0 hr => by
   have hr : Rel g.F g.φ w (.hsl0 0 1) v0 := hr
   cases hr with
   | hsl0 _ _ r cap hφ _ => exact ⟨r, cap, hφ, rfl⟩) (by simp)
  rw [e] at this
  exact this
end
end Go.AE
set_option maxRecDepth 4000
namespace Go.AE
open Go
theorem Jthg (l : List Int) : (sortI l).Pairwise fun a b => a ≤ b := by
 have := List.pairwise_mergeSort (le := fun x y : Int => decide (x ≤ y)) (fun a b c h1 h2 => by simp at *; omega) (fun a b => by simp; omega) l
 exact this.imp fun h => by simpa using h
theorem Jthj {l m : List Int} (h1 : l.Pairwise fun a b => a ≤ b) (h2 : m.Pairwise fun a b => a ≤ b) (h : l.Perm m) : l = m :=
 List.Perm.eq_of_pairwise (fun a b _ _ h h' => by omega) h1 h2 h
theorem Jthf {l m : List Int} (h : l.Perm m) : sortI l = sortI m :=
 Jthj (Jthg l) (Jthg m) ((List.mergeSort_perm l _).trans (h.trans (List.mergeSort_perm m _).symm))
structure Seen (ks : List Int) (seen : List Nat) (cs : List Int) : Prop where
 nd : seen.Nodup
 lt : ∀ i ∈ seen, i < ks.length
 eq : cs = seen.map fun i => ks.getD i 0
theorem Seen.nil (ks : List Int) : Seen ks [] [] := ⟨by simp, fun i h => by simp at h, rfl⟩
theorem Seen.len {ks : List Int} {seen : List Nat} {cs : List Int} (h : Seen ks seen cs) : cs.length = seen.length ∧ seen.length ≤ ks.length := by
 refine ⟨by rw [h.eq]; simp, ?_⟩
 have := h.nd.length_le_of_subset (l₂ := List.range ks.length) fun i hi => List.mem_range.2 (h.lt i hi)
 simpa using this
theorem Seen.step {ks : List Int} {seen : List Nat} {cs : List Int} (h : Seen ks seen cs) {i : Nat} {k : Int} (hk : ks[i]? = some k) (hi : i ∉ seen) : Seen ks (seen ++ [i]) (cs ++ [k]) := by
 refine ⟨?_, fun j hj => ?_, ?_⟩
 ·rw [List.nodup_append]
  exact ⟨h.nd, by simp, fun a ha b hb => by simp at hb; subst hb; rintro rfl; exact hi ha⟩
 ·rcases List.mem_append.1 hj with hj | hj
  ·exact h.lt j hj
  ·simp at hj; subst hj; exact (List.getElem?_eq_some_iff.1 hk).1
 ·rw [List.map_append, ← h.eq]; simp [List.getD_eq_getElem?_getD, hk]
theorem Seen.mem {ks : List Int} {seen : List Nat} {cs : List Int} (h : Seen ks seen cs) {v : Int} (hv : v ∈ cs) : v ∈ ks := by
 rw [h.eq] at hv
 obtain ⟨i, hi, rfl⟩ := List.mem_map.1 hv
 have := h.lt i hi
 simp [List.getD_eq_getElem?_getD, this]
theorem Seen.done {ks : List Int} {seen : List Nat} {cs : List Int} (h : Seen ks seen cs) (hall : ∀ i, i < ks.length → i ∈ seen) : cs.Perm ks := by
 have hp : seen.Perm (List.range ks.length) := (List.perm_ext_iff_of_nodup h.nd List.nodup_range).2 fun a => ⟨fun ha => List.mem_range.2 (h.lt a ha), fun ha => hall a (List.mem_range.1 ha)⟩
 have e : (List.range ks.length).map (fun i => ks.getD i 0) = ks := by
  apply List.ext_getElem?
  intro j
  by_cases hj : j < ks.length
  ·simp [hj, List.getD_eq_getElem?_getD]
  ·rw [List.getElem?_eq_none (by simp; omega), List.getElem?_eq_none (by omega)]
 rw [h.eq]
 exact (hp.map _).trans (by rw [e])
def outV (cs : List Int) (q : Nat) : AV := if cs = [] then .hsl0 1 1 else .hsl (q + 1) 0 1 cs.length
structure SetT (r' r n : Nat) (seen : List Nat) (cs : List Int) (q : Nat) (T : List Blk) : Prop where
 it : T[1]? = some (.glob r' (itO r n seen))
 out : T[q]? = some (.mem (Jtgl (cs.map intRow)))
 ne : q ≠ 1
 z : cs = [] → q = 0
 all : ∀ k ∈ T, (∃ rows, k = .mem (Jtgl rows)) ∨ ∃ o, k = .glob r' o
theorem SetT.len {r' r n : Nat} {seen : List Nat} {cs : List Int} {q : Nat} {T : List Blk} (h : SetT r' r n seen cs q T) : 2 ≤ T.length ∧ q < T.length :=
 ⟨(List.getElem?_eq_some_iff.1 h.it).1, (List.getElem?_eq_some_iff.1 h.out).1⟩
theorem SetT.next {r' r n : Nat} {seen : List Nat} {cs : List Int} {q : Nat} {T : List Blk} (h : SetT r' r n seen cs q T) (i : Nat) : SetT r' r n (seen ++ [i]) cs q (T.set 1 (.glob r' (itO r n (seen ++ [i])))) := by
 refine ⟨by rw [List.getElem?_set_self h.len.1], by rw [List.getElem?_set_ne h.ne.symm]; exact h.out, h.ne, h.z, fun k hk => ?_⟩
 rcases List.mem_or_eq_of_mem_set hk with hk | hk
 ·exact h.all k hk
 ·exact .inr ⟨_, hk⟩
theorem SetT.app1 {r' r n : Nat} {seen : List Nat} {cs : List Int} {q : Nat} {T : List Blk} (h : SetT r' r n seen cs q T) (k : Int) {rows : List (List D)} (hr : rows = (cs ++ [k]).map intRow) : SetT r' r n seen (cs ++ [k]) q (T.set q (.mem (Jtgl rows))) := by
 subst hr
 refine ⟨by rw [List.getElem?_set_ne h.ne]; exact h.it, by rw [List.getElem?_set_self h.len.2], h.ne, fun e => by simp at e, fun k hk => ?_⟩
 rcases List.mem_or_eq_of_mem_set hk with hk | hk
 ·exact h.all k hk
 ·exact .inl ⟨_, hk⟩
theorem SetT.app2 {r' r n : Nat} {seen : List Nat} {cs : List Int} {q : Nat} {T : List Blk} (h : SetT r' r n seen cs q T) (k : Int) {rows : List (List D)} (hr : rows = (cs ++ [k]).map intRow) : SetT r' r n seen (cs ++ [k]) T.length (T ++ [.mem (Jtgl rows)]) := by
 subst hr
 have hl := h.len
 refine ⟨by rw [List.getElem?_append_left (by omega)]; exact h.it, by simp, by omega, fun e => by simp at e, fun k hk => ?_⟩
 rcases List.mem_append.1 hk with hk | hk
 ·exact h.all k hk
 ·exact .inl ⟨_, List.mem_singleton.1 hk⟩
theorem Jt5c {H : List Blk} {n r' : Nat} : ∀ {T : List Blk}, (∀ k ∈ T, (∃ rows, k = .mem (Jtgl rows)) ∨ ∃ o, k = .glob r' o) → WkHs H n T T := by
 intro T
 induction T with
 | nil => intro _; exact True.intro
 | cons x T ih =>
  intro h
  refine ⟨?_, ih fun b hb => h b (by simp [hb])⟩
  rcases h x (by simp) with ⟨rows, rfl⟩ | ⟨o, rfl⟩
  ·exact Jt53
  ·exact .glob _ _
theorem Jt5b {H X : List Blk} {n : Nat} : WkHs H n X [] := by cases X <;> exact True.intro
theorem get1 {a : Blk} {t : List Blk} {j : Nat} : (a :: t)[j + 1]? = t[j]? := rfl
theorem set1 {a x : Blk} {t : List Blk} {j : Nat} : (a :: t).set (j + 1) x = a :: t.set j x := rfl
section
set_option maxHeartbeats 2000000 in
theorem Jtcd {P : Program} {p : Nums} (A : All P p) (SI : SortIOk P p) (r : Nat) (ks : List Int) (h0 : ks.length ≤ 1000000) : Jt4n P p.liveness_set_sorted [.mp r] [.glob r (mpK ks)] fun o H' => o = .ret (.d (intsD (sortI ks))) ∧ H' = [.glob r (mpK ks)] := by
 refine A.liveness_set_sorted.run rfl fun R hR => ?_
 (simp (maxSteps := 1000000) [Jta7])
 refine Jt2g (b := 0) (by rfl) (by rfl) ?_
 (simp (maxSteps := 1000000) [])
 refine Jt2c (n := ks.length) (by rfl) (by rfl) (by omega) (by omega) (by decide) (by rfl) ?_
 (simp (maxSteps := 1000000) [])
 refine Jt2n (b := 0) (by rfl) (by rfl) fun r' => ?_
 (simp (maxSteps := 1000000) [])
 refine Jtd (fun z : List Nat × List Int × Nat × List Blk => ⟨[(9, .ptr 2 0), (3, outV z.2.1 z.2.2.1)], .glob r (mpK ks) :: z.2.2.2⟩) (fun z => Seen ks z.1 z.2.1 ∧ SetT r' r ks.length z.1 z.2.1 z.2.2.1 z.2.2.2) (fun z => ks.length - z.1.length)
  ([], [], 0, [.mem [], .glob r' (itO r ks.length [])]) ⟨Seen.nil ks, ⟨rfl, rfl, Nat.zero_ne_one, fun _ => rfl, fun k hk => by
   simp only [List.mem_cons, List.not_mem_nil, or_false] at hk
   rcases hk with rfl | rfl
   ·exact .inl ⟨[], rfl⟩
   ·exact .inr ⟨_, rfl⟩⟩⟩ (by simp only [outV, if_true]; (exact wkA)) ?_
 rintro ⟨seen, cs, q, T⟩ ⟨hs, ht⟩ N hN
 simp only at hs ht hN
 obtain ⟨l1, l2⟩ := hs.len
 (simp (maxSteps := 1000000) [])
 refine Jt2j (b := 0) (bi := 2) (by rfl) (get1.trans ht.it) (by rfl) (fun i k hk hi => ?_) (fun hall => ?_)
 ·have hs' := hs.step hk hi
  have ht' := ht.next i
  have hT1 : ∀ y, (Blk.glob r (mpK ks) :: T).set 2 y = .glob r (mpK ks) :: T.set 1 y := fun y => rfl
  simp only [hT1]
  obtain ⟨T1, eT1⟩ : ∃ x, x = T.set 1 (.glob r' (itO r ks.length (seen ++ [i]))) := ⟨_, rfl⟩
  rw [← eT1] at ht' ⊢
  (simp (maxSteps := 1000000) [])
  refine Jt24 (b := 0) (bi := 2) (by rfl) (get1.trans ht'.it) (by rfl) hk ?_
  (simp (maxSteps := 1000000) [])
  have hlen := hs'.len
  have fin : ∀ st' q2 T2, SetT r' r ks.length (seen ++ [i]) (cs ++ [k]) q2 T2 → Wk 1 st' ⟨[(9, .ptr 2 0), (3, .hsl (q2 + 1) 0 1 (cs.length + 1))], .glob r (mpK ks) :: T2⟩ → N st' := by
   intro st' q2 T2 h2 hw
   refine hN st' (seen ++ [i], cs ++ [k], q2, T2) ⟨hs', h2⟩ ?_ (by simp only [List.length_append, List.length_singleton] at hlen ⊢; omega)
   simp only [outV]
   rw [if_neg (by simp), List.length_append, List.length_singleton]; exact hw
  have leaf : ∀ {H : List Blk} {q2 : Nat} {T2 : List Blk}, SetT r' r ks.length (seen ++ [i]) (cs ++ [k]) q2 T2 → WkT H (T2.length + 1) (.hsl (q2 + 1) 0 1 (cs.length + 1)) (.hsl (q2 + 1) 0 1 (cs.length + 1)) ∧ WkT H (T2.length + 1) (.ptr 2 0) (.ptr 2 0) := by
   intro H q2 T2 h2
   have := h2.len
   exact ⟨Jtj8 (by simp only [AV.ren]; rw [if_pos (by omega)]), Jtj8 (by simp only [AV.ren]; rw [if_pos (by omega)])⟩
  unfold outV
  by_cases hc : cs = []
  ·have hq := ht'.z hc
   subst hc hq
   rw [if_pos rfl]
   (simp (maxSteps := 1000000) [])
   refine Jt1c (b := 1) (ys := [[D.int .i64 k]]) (by rfl) (get1.trans ht'.out) (by rfl) (by simp) (by decide) (by simp) (by simp) (by simp) ?_ ?_
   ·have h2 := ht'.app1 (rows := [[D.int .i64 k]]) k rfl
    have hT2 : ∀ y, (Blk.glob r (mpK ks) :: T1).set 1 y = .glob r (mpK ks) :: T1.set 0 y := fun y => rfl
    simp only [hT2]
    obtain ⟨T2, eT2⟩ : ∃ x, x = T1.set 0 (.mem (Jtgl [[D.int .i64 k]])) := ⟨_, rfl⟩
    rw [← eT2] at h2 ⊢
    (simp (maxSteps := 1000000) [])
    exact fin _ 0 T2 h2 (by refine Wk.of ?_ ?_ (by simp) <;> repeat' (first | exact Jt5c h2.all | (first | exact True.intro | exact ⟨_, rfl, Jtj8 rfl⟩ | exact ⟨_, rfl, Jtj6 rfl⟩ | exact ⟨_, rfl, .inl .nild⟩ | exact ⟨_, rfl, .inl .nile⟩ | exact ⟨_, rfl, Jtj7⟩ | exact Jtj8 rfl | exact Jtj6 rfl | exact .inl .nild | exact .inl .nile | exact Jtj7 | exact WkB.same rfl | exact Jt53 | exact Jt52 | exact .dead _ | exact .iter _ _ | exact .glob _ _ | refine Jt51 ?_ ?_ | refine And.intro ?_ ?_) | exact ⟨_, rfl, (leaf h2).1⟩ | exact ⟨_, rfl, (leaf h2).2⟩))
   ·have h2 := ht'.app2 (rows := [[D.int .i64 k]]) k rfl
    simp only [List.cons_append]
    obtain ⟨T2, eT2⟩ : ∃ x, x = T1 ++ [.mem (Jtgl [[D.int .i64 k]])] := ⟨_, rfl⟩
    rw [← eT2] at h2 ⊢
    (simp (maxSteps := 1000000) [])
    exact fin _ T1.length T2 h2 (by refine Wk.of ?_ ?_ (by simp) <;> repeat' (first | exact Jt5c h2.all | (first | exact True.intro | exact ⟨_, rfl, Jtj8 rfl⟩ | exact ⟨_, rfl, Jtj6 rfl⟩ | exact ⟨_, rfl, .inl .nild⟩ | exact ⟨_, rfl, .inl .nile⟩ | exact ⟨_, rfl, Jtj7⟩ | exact Jtj8 rfl | exact Jtj6 rfl | exact .inl .nild | exact .inl .nile | exact Jtj7 | exact WkB.same rfl | exact Jt53 | exact Jt52 | exact .dead _ | exact .iter _ _ | exact .glob _ _ | refine Jt51 ?_ ?_ | refine And.intro ?_ ?_) | exact ⟨_, rfl, (leaf h2).1⟩ | exact ⟨_, rfl, (leaf h2).2⟩))
  ·rw [if_neg hc]
   have hpos : 0 < cs.length := List.length_pos_iff.2 hc
   have er : cs.map intRow ++ [[D.int .i64 k]] = (cs ++ [k]).map intRow := by simp [intRow]
   (simp (maxSteps := 1000000) [])
   refine Jt1e (b := q + 1) (rows := cs.map intRow) (ys := [[D.int .i64 k]]) (by rfl) (get1.trans ht'.out) (by simp) (Jtgq fun _ => rfl) hpos (by rfl) (by simp) (by decide) (by simp) (by simp; omega) (by simp; omega) ?_ ?_
   ·have h2 := ht'.app1 k er
    simp only [set1]
    obtain ⟨T2, eT2⟩ : ∃ x, x = T1.set q (.mem (Jtgl (cs.map intRow ++ [[D.int .i64 k]]))) := ⟨_, rfl⟩
    rw [← eT2] at h2 ⊢
    (simp (maxSteps := 1000000) [])
    exact fin _ q T2 h2 (by refine Wk.of ?_ ?_ (by simp) <;> repeat' (first | exact Jt5c h2.all | (first | exact True.intro | exact ⟨_, rfl, Jtj8 rfl⟩ | exact ⟨_, rfl, Jtj6 rfl⟩ | exact ⟨_, rfl, .inl .nild⟩ | exact ⟨_, rfl, .inl .nile⟩ | exact ⟨_, rfl, Jtj7⟩ | exact Jtj8 rfl | exact Jtj6 rfl | exact .inl .nild | exact .inl .nile | exact Jtj7 | exact WkB.same rfl | exact Jt53 | exact Jt52 | exact .dead _ | exact .iter _ _ | exact .glob _ _ | refine Jt51 ?_ ?_ | refine And.intro ?_ ?_) | exact ⟨_, rfl, (leaf h2).1⟩ | exact ⟨_, rfl, (leaf h2).2⟩))
   ·have h2 := ht'.app2 k er
    simp only [List.cons_append]
    obtain ⟨T2, eT2⟩ : ∃ x, x = T1 ++ [.mem (Jtgl (cs.map intRow ++ [[D.int .i64 k]]))] := ⟨_, rfl⟩
    rw [← eT2] at h2 ⊢
    (simp (maxSteps := 1000000) [])
    exact fin _ T1.length T2 h2 (by refine Wk.of ?_ ?_ (by simp) <;> repeat' (first | exact Jt5c h2.all | (first | exact True.intro | exact ⟨_, rfl, Jtj8 rfl⟩ | exact ⟨_, rfl, Jtj6 rfl⟩ | exact ⟨_, rfl, .inl .nild⟩ | exact ⟨_, rfl, .inl .nile⟩ | exact ⟨_, rfl, Jtj7⟩ | exact Jtj8 rfl | exact Jtj6 rfl | exact .inl .nild | exact .inl .nile | exact Jtj7 | exact WkB.same rfl | exact Jt53 | exact Jt52 | exact .dead _ | exact .iter _ _ | exact .glob _ _ | refine Jt51 ?_ ?_ | refine And.intro ?_ ?_) | exact ⟨_, rfl, (leaf h2).1⟩ | exact ⟨_, rfl, (leaf h2).2⟩))
 ·have hp := Jthf (hs.done hall)
  rw [← hp] at hR
  unfold outV
  by_cases hc : cs = []
  ·have hq := ht.z hc
   subst hc hq
   rw [if_pos rfl]
   have g1 : (Blk.glob r (mpK ks) :: T)[1]? = some (.mem []) := get1.trans ht.out
   have hset : (Blk.glob r (mpK ks) :: T).set 1 (.mem []) = Blk.glob r (mpK ks) :: T.set 0 (.mem []) := rfl
   (simp (maxSteps := 1000000) [])
   refine Jt13 [1] SI.none (by decide) (by rfl) (by show picks _ [1] = some [.mem []]; simp [picks, ht.out, Jtgl]) (by rfl) (by rfl) (by rfl) (by rfl) ?_
   (simp (maxSteps := 1000000) [wback])
   refine hR _ _ (Jt4r (.hsl0 1 1) (.d (.sl [])) [.glob r (mpK ks)] (by rfl) ?_ ⟨by simp [sortI, intsD], rfl⟩)
   refine Wk.of ⟨⟨_, rfl, .inl (.hsl0 _ _)⟩, trivial⟩ ⟨.glob _ _, ?_⟩ (by simp)
   exact Jt5b
  ·rw [if_neg hc]
   have hpos : 0 < cs.length := List.length_pos_iff.2 hc
   have hl := ht.len
   (simp (maxSteps := 1000000) [])
   refine Jt13 [q + 1] (SI.some cs hc (by omega)) (by simp) (by simp [renL, AV.ren, idx]) (by show picks _ [q + 1] = some [.mem (Jtgl (cs.map intRow))]; simp only [picks]; rw [get1, ht.out]) Jtg9 Jtg9 (by rfl) (by rfl) ?_
   simp only [wback, set1]
   have hg : (T.set q (.mem (Jtgl ((sortI cs).map intRow))))[q]? = some (.mem (Jtgl ((sortI cs).map intRow))) := by rw [List.getElem?_set_self hl.2]
   obtain ⟨T2, eT2⟩ : ∃ x, x = T.set q (.mem (Jtgl ((sortI cs).map intRow))) := ⟨_, rfl⟩
   rw [← eT2] at hg ⊢
   (simp (maxSteps := 1000000) [])
   refine hR _ _ (Jt4r (.hsl (q + 1) 0 1 cs.length) (.d (.sl ((sortI cs).map intRow))) [.glob r (mpK ks)] (by rfl) ?_ ⟨rfl, rfl⟩)
   refine Wk.of ⟨⟨_, rfl, Jt5e (get1.trans hg) (by simp) (by simp [Jthe]) (Jtgq fun _ => rfl)⟩, trivial⟩ ⟨.glob _ _, ?_⟩ (by simp)
   exact Jt5b
theorem Jtc9 {P : Program} {p : Nums} (A : All P p) (SI : SortIOk P p) (b : Block) (h0 : b.code.length ≤ 10000) : Jt4n P p.liveness_Uses [b.av] [] fun o _ => o = .ret (.d (intsD (sortI (scanZ b).1))) := by
 refine A.liveness_Uses.run rfl fun R hR => ?_
 have cs := Jtcc A b (by omega)
 obtain ⟨_, _, _, _, l1, l2⟩ := Jth4 b
 obtain ⟨⟨us, ds⟩, hs⟩ : ∃ x, x = scanZ b := ⟨_, rfl⟩
 rw [← hs] at cs hR l1 l2
 obtain ⟨code, kind, ta, to, els⟩ := b
 simp only [Block.av] at cs
 simp only at h0 l1 l2 hR
 (simp (maxSteps := 1000000) [Jta3, Block.av])
 refine Jt14 [] 5 (X := fun r : Nat × Nat => .tup [.mp r.1, .mp r.2]) (Y := fun r : Nat × Nat => .tup [.mp r.1, .mp r.2]) (C := fun r : Nat × Nat => [.dead, .dead, .dead, .glob r.1 (mpK us), .glob r.2 (mpK ds)]) (Hb := fun r : Nat × Nat => [.dead, .dead, .dead, .glob r.1 (mpK us), .glob r.2 (mpK ds)]) cs (by decide) (by rfl) (by rfl) (by rfl) (fun _ => rfl) (fun _ => rfl) (fun _ => rfl) fun r _ => ?_
 (simp (maxSteps := 1000000) [])
 refine Jt13 [4] (Jtcd A SI r.1 us (by omega)) (by decide) (by rfl) (by rfl) (by rfl) (by rfl) (by rfl) (by rfl) ?_
 (simp (maxSteps := 1000000) [])
 (first | exact hR _ _ FrA | exact hR _ _ FnA)
theorem Jtc6 {P : Program} {p : Nums} (A : All P p) (SI : SortIOk P p) (b : Block) (h0 : b.code.length ≤ 10000) : Jt4n P p.liveness_Defs [b.av] [] fun o _ => o = .ret (.d (intsD (sortI (scanZ b).2))) := by
 refine A.liveness_Defs.run rfl fun R hR => ?_
 have cs := Jtcc A b (by omega)
 obtain ⟨_, _, _, _, l1, l2⟩ := Jth4 b
 obtain ⟨⟨us, ds⟩, hs⟩ : ∃ x, x = scanZ b := ⟨_, rfl⟩
 rw [← hs] at cs hR l1 l2
 obtain ⟨code, kind, ta, to, els⟩ := b
 simp only [Block.av] at cs
 simp only at h0 l1 l2 hR
 (simp (maxSteps := 1000000) [Jta0, Block.av])
 refine Jt14 [] 5 (X := fun r : Nat × Nat => .tup [.mp r.1, .mp r.2]) (Y := fun r : Nat × Nat => .tup [.mp r.1, .mp r.2]) (C := fun r : Nat × Nat => [.dead, .dead, .dead, .glob r.1 (mpK us), .glob r.2 (mpK ds)]) (Hb := fun r : Nat × Nat => [.dead, .dead, .dead, .glob r.1 (mpK us), .glob r.2 (mpK ds)]) cs (by decide) (by rfl) (by rfl) (by rfl) (fun _ => rfl) (fun _ => rfl) (fun _ => rfl) fun r _ => ?_
 (simp (maxSteps := 1000000) [])
 refine Jt13 [5] (Jtcd A SI r.2 ds (by omega)) (by decide) (by rfl) (by rfl) (by rfl) (by rfl) (by rfl) (by rfl) ?_
 (simp (maxSteps := 1000000) [])
 (first | exact hR _ _ FrA | exact hR _ _ FnA)
end
end Go.AE
set_option maxRecDepth 4000
namespace Go.AE
open Go
def ClB (k : Blk) : Prop := ∀ ρ, k.ren ρ = some k
theorem ClB.glob (r : Nat) (o : Obj) : ClB (.glob r o) := fun _ => rfl
theorem ClB.dead : ClB .dead := fun _ => rfl
theorem Jtga {l : List AV} (h : ∀ x ∈ l, ∀ ρ, x.ren ρ = some x) (ρ : Nat → Option Nat) : renL ρ l = some l := by
 induction l with
 | nil => rfl
 | cons x l ih => simp [renL, h x (by simp) ρ, ih fun y hy => h y (by simp [hy])]
theorem ClB.mem {l : List AV} (h : ∀ x ∈ l, ∀ ρ, x.ren ρ = some x) : ClB (.mem l) := fun ρ => by simp [Blk.ren, Jtga h ρ]
theorem ClB.mps (rs : List Nat) : ClB (.mem (rs.map .mp)) := ClB.mem fun x hx ρ => by obtain ⟨r, _, rfl⟩ := List.mem_map.1 hx; rfl
theorem Jtg6 {H : List Blk} (h : ∀ k ∈ H, ClB k) (ρ : Nat → Option Nat) : renB ρ H = some H := by
 induction H with
 | nil => rfl
 | cons x l ih => simp [renB, h x (by simp) ρ, ih fun y hy => h y (by simp [hy])]
theorem ClB.wk {H : List Blk} {n : Nat} {k : Blk} (h : ClB k) : WkB H n k k := by
 cases k with
 | mem cells =>
  refine .same ?_
  have := h (fun b => if b < n then some b else none)
  simp only [Blk.ren] at this
  split at this
  ·rename_i cs hcs; injection this with this; injection this with this; rw [hcs, this]
  ·cases this
 | iter s p => exact .iter _ _
 | glob r o => exact .glob _ _
 | dead => exact .dead _
theorem Jt58 {H : List Blk} {n : Nat} : ∀ {T : List Blk}, (∀ k ∈ T, ClB k) → ∀ {X Y : List Blk}, WkHs H n X Y → WkHs H n (T ++ X) (T ++ Y) := by
 intro T
 induction T with
 | nil => intro _ X Y h; exact h
 | cons x T ih => intro h X Y hx; exact ⟨(h x (by simp)).wk, ih (fun b hb => h b (by simp [hb])) hx⟩
theorem Jteq (H : List Blk) : ∀ (k n : Nat), k + n = H.length → picks H ((List.range' k n)) = some (H.drop k) := by
 intro k n
 induction n generalizing k with
 | zero => intro h; simp [picks, show k = H.length by omega]
 | succ n ih =>
  intro h
  rw [List.range'_succ]
  simp only [picks]
  have hk : k < H.length := by omega
  rw [List.getElem?_eq_getElem hk, ih (k + 1) (by omega), List.drop_eq_getElem_cons hk]
theorem Jtav : ∀ (n k b : Nat), k ≤ b → b < k + n → idx (List.range' k n) b = some (b - k) := by
 intro n
 induction n with
 | zero => intro k b h1 h2; omega
 | succ n ih =>
  intro k b h1 h2
  rw [List.range'_succ]
  simp only [idx]
  by_cases h : k = b
  ·subst h; simp
  ·rw [if_neg h, ih (k + 1) b (by omega) (by omega)]; simp; omega
theorem Jtj5 : ∀ (bs : List Nat) (H ks : List Blk), picks H bs = some ks → wback H bs ks = H := by
 intro bs
 induction bs with
 | nil => intro H ks h; simp [picks] at h; subst h; rfl
 | cons b bs ih =>
  intro H ks h
  simp only [picks] at h
  split at h
  ·rename_i k ks' hk hks
   injection h with h; subst h
   simp only [wback]
   have : H.set b k = H := by
    apply List.ext_getElem?
    intro j
    rw [List.getElem?_set]
    split
    ·rename_i hj; subst hj; rw [hk]; simp [(List.getElem?_eq_some_iff.1 hk).1]
    ·rfl
   rw [this]; exact ih H ks' hks
  ·cases h
theorem Jt11 {P : Program} {K : ASt → Prop} {QP : AV → ASt → Prop} {dst : Option Nat} {st : ASt} {ι : Type} {f : Nat} {args : List AV} {C : ι → List Blk} {X : ι → AV} {Pr : ι → Prop} (hcl : ∀ k ∈ st.H, ClB k)
  (ha : renL (idx (List.range' 0 st.H.length)) args = some args) (h : Jt4n P f args st.H fun o H' => ∃ i, Pr i ∧ o = .ret (X i) ∧ H' = st.H ++ C i) (hX : ∀ i ρ, (X i).ren ρ = some (X i)) (hC : ∀ i, ∀ k ∈ C i, ClB k)
  (hK : ∀ i, Pr i → K (put dst (X i) ⟨unview st.env, st.H ++ C i⟩)) : AWcall P false f args dst K QP st := by
 have hp := Jteq st.H 0 st.H.length (by omega)
 rw [List.drop_zero] at hp
 refine .inr ⟨rfl, .inr ⟨List.range' 0 st.H.length, List.nodup_range' .., args, st.H, st.H, ha, hp, Jtg6 hcl _, h.mono ?_⟩⟩
 rintro o H' ⟨i, hi, rfl, rfl⟩
 have hl : (List.range' 0 st.H.length).length = st.H.length := by simp
 refine ⟨(C i).length, st.H ++ C i, X i, ?_, by rw [hl, List.length_append]; exact Nat.le_refl _, hX i _, ?_⟩
 ·rw [hl, ← List.length_append, List.take_length]
  exact Jtg6 (fun k hk => (List.mem_append.1 hk).elim (hcl k) (hC i k)) _
 ·have := hK i hi
  rw [hl, List.take_left, List.drop_left, Jtj5 _ _ _ hp]; exact this
structure Maps (H : List Blk) (b : Nat) (rs : List Nat) (kss : List (List Int)) : Prop where
 cell : H[b]? = some (.mem (rs.map .mp))
 len : rs.length = kss.length
 map : ∀ (j r : Nat) (ks : List Int), rs[j]? = some r → kss[j]? = some ks → ∃ i : Nat, H[i]? = some (Blk.glob r (mpK ks))
 cl : ∀ k ∈ H, ClB k
theorem gN1 {H X : List Blk} {a b : Blk} : (H ++ a :: b :: X)[H.length + 1]? = some b := by rw [List.getElem?_append_right (by omega)]; simp
theorem gN2 {H X : List Blk} {a b c : Blk} : (H ++ a :: b :: c :: X)[H.length + 2]? = some c := by rw [List.getElem?_append_right (by omega)]; simp
theorem sN1 {H X : List Blk} {a b y : Blk} : (H ++ a :: b :: X).set (H.length + 1) y = H ++ a :: y :: X := by rw [List.set_append_right _ _ (by omega)]; simp
theorem sN2 {H X : List Blk} {a b c y : Blk} : (H ++ a :: b :: c :: X).set (H.length + 2) y = H ++ a :: b :: y :: X := by rw [List.set_append_right _ _ (by omega)]; simp
def Exits (kss : List (List Int)) (ts : List Int) (v : Int) : Prop := ∃ t ∈ ts, ∃ l, kss[t.toNat]? = some l ∧ v ∈ l
section
set_option maxHeartbeats 2000000 in
theorem Jtca {P : Program} {p : Nums} (A : All P p) (b : Block) (H : List Blk) (b0 n : Nat) (rs : List Nat) (kss : List (List Int)) (hm : Maps H b0 rs kss) (hn : rs.length = n) (hs : ∀ t ∈ succsZ b.term, 0 ≤ t ∧ t < rs.length) :
  Jt4n P p.liveness_exit [.hsl b0 0 1 n, b.av] H fun o H' => ∃ x : Nat × List Int, (x.2.Nodup ∧ ∀ v, v ∈ x.2 ↔ Exits kss (succsZ b.term) v) ∧ o = .ret (.mp x.1) ∧ H' = H ++ [.dead, .glob x.1 (mpK x.2)] := by
 refine A.liveness_exit.run rfl fun R hR => ?_
 have hb0 : b0 < H.length := (List.getElem?_eq_some_iff.1 hm.cell).1
 have hcs := Jthk A b.term
 have hl2 : (succsZ b.term).length ≤ 2 := by unfold succsZ; split; simp; split; simp; simp
 obtain ⟨ts, hts⟩ : ∃ x, x = succsZ b.term := ⟨_, rfl⟩
 rw [← hts] at hcs hs hl2 hR
 have gb : ∀ X : List Blk, (H ++ X)[b0]? = some (.mem (rs.map .mp)) := fun X => by rw [List.getElem?_append_left hb0]; exact hm.cell
 obtain ⟨code, kind, ta, to, els⟩ := b
 simp only [Term.av] at hcs
 (simp (maxSteps := 1000000) [Jta4, Block.av])
 refine Jt28 fun r => ?_
 (simp (maxSteps := 1000000) [])
 (refine Jt12 hcs (by rfl) (by rfl) ?_)
 (simp (maxSteps := 1000000) [])
 obtain ⟨tR, htR⟩ : ∃ x, x = ts.map fun x => [I x] := ⟨_, rfl⟩
 have ltR : tR.length = ts.length := by rw [htR]; simp
 rw [← htR]
 have lH : ∀ {X : List Blk} {a c : Blk}, WkT X (H ++ [a, c]).length (.hsl b0 0 1 n) (.hsl b0 0 1 n) := fun {X a c} => Jtj8 (by simp only [AV.ren, List.length_append, List.length_cons, List.length_nil]; rw [if_pos (by omega)])
 have lH3 : ∀ {X : List Blk} {a c d : Blk}, WkT X (H ++ [a, c, d]).length (.hsl b0 0 1 n) (.hsl b0 0 1 n) := fun {X a c d} => Jtj8 (by simp only [AV.ren, List.length_append, List.length_cons, List.length_nil]; rw [if_pos (by omega)])
 have lP3 : ∀ {X : List Blk} {a c d : Blk}, WkT X (H ++ [a, c, d]).length (.ptr (H.length + 2) 0) (.ptr (H.length + 2) 0) := fun {X a c d} => Jtj8 (by simp only [AV.ren, List.length_append, List.length_cons, List.length_nil]; rw [if_pos (by omega)])
 refine Jtd (fun z : Nat × List Int => ⟨[(14, AI z.1), (13, AI (ts.length : Int)), (12, .d (.sl tR)), (5, .mp r), (0, .hsl b0 0 1 n)], H ++ [.dead, .glob r (mpK z.2)]⟩)
  (fun z => z.1 ≤ ts.length ∧ z.2.Nodup ∧ ∀ v, v ∈ z.2 ↔ Exits kss (ts.take z.1) v) (fun z => ts.length - z.1) (0, []) ⟨by simp, by simp, fun v => by simp [Exits]⟩ ?_ ?_
 ·simp only [ltR]
  refine Wk.of ?_ (Jt58 hm.cl ⟨.dead _, .glob _ _, trivial⟩) (by simp) <;> repeat' (first | (first | exact True.intro | exact ⟨_, rfl, Jtj8 rfl⟩ | exact ⟨_, rfl, Jtj6 rfl⟩ | exact ⟨_, rfl, .inl .nild⟩ | exact ⟨_, rfl, .inl .nile⟩ | exact ⟨_, rfl, Jtj7⟩ | exact Jtj8 rfl | exact Jtj6 rfl | exact .inl .nild | exact .inl .nile | exact Jtj7 | exact WkB.same rfl | exact Jt53 | exact Jt52 | exact .dead _ | exact .iter _ _ | exact .glob _ _ | refine Jt51 ?_ ?_ | refine And.intro ?_ ?_) | exact ⟨_, rfl, lH⟩)
 rintro ⟨k, outs⟩ ⟨i1, i2, i3⟩ N hN
 simp only at i1 i2 i3 hN
 (simp (maxSteps := 1000000) [])
 by_cases h2 : k < ts.length
 ·have h2i : (k : Int) < (ts.length : Int) := by omega
  have hw := Jtje (k := k) (by omega)
  have hb : ts[k]? = some ts[k] := by simp [h2]
  obtain ⟨x, hx⟩ : ∃ i, i = ts[k] := ⟨_, rfl⟩
  rw [← hx] at hb
  have hr : tR[k]? = some [I x] := by rw [htR, List.getElem?_map, hb]; rfl
  obtain ⟨x0, x1⟩ := hs x (List.mem_of_getElem? hb)
  have hxn : x < (n : Int) := by omega
  obtain ⟨rt, hrt⟩ : ∃ y, rs[x.toNat]? = some y := ⟨_, List.getElem?_eq_getElem (by omega)⟩
  obtain ⟨kt, hkt⟩ : ∃ y, kss[x.toNat]? = some y := ⟨_, List.getElem?_eq_getElem (by have := hm.len; omega)⟩
  obtain ⟨it, hit⟩ := hm.map _ _ _ hrt hkt
  have hitl := (List.getElem?_eq_some_iff.1 hit).1
  have gi : ∀ X : List Blk, (H ++ X)[it]? = some (.glob rt (mpK kt)) := fun X => by rw [List.getElem?_append_left hitl]; exact hit
  (simp (maxSteps := 1000000) [h2, hr, gb, x0, hxn, List.getElem?_map, hrt])
  refine Jt2n (b := it) (by rfl) (gi _) fun r' => ?_
  (simp (maxSteps := 1000000) [])
  refine Jtd (fun z : List Nat × List Int × List Int => ⟨[(22, .ptr (H.length + 2) 0), (14, AI k), (13, AI (ts.length : Int)), (12, .d (.sl tR)), (5, .mp r), (0, .hsl b0 0 1 n)], H ++ [.dead, .glob r (mpK z.2.2), .glob r' (itO rt kt.length z.1)]⟩)
   (fun z => Seen kt z.1 z.2.1 ∧ z.2.2.Nodup ∧ ∀ v, v ∈ z.2.2 ↔ v ∈ outs ∨ v ∈ z.2.1) (fun z => kt.length - z.1.length) ([], [], outs) ⟨Seen.nil _, i2, fun v => by simp⟩ ?_ ?_
  ·refine Wk.of ?_ (Jt58 hm.cl ⟨.dead _, .glob _ _, .glob _ _, trivial⟩) (by simp) <;> repeat' (first | (first | exact True.intro | exact ⟨_, rfl, Jtj8 rfl⟩ | exact ⟨_, rfl, Jtj6 rfl⟩ | exact ⟨_, rfl, .inl .nild⟩ | exact ⟨_, rfl, .inl .nile⟩ | exact ⟨_, rfl, Jtj7⟩ | exact Jtj8 rfl | exact Jtj6 rfl | exact .inl .nild | exact .inl .nile | exact Jtj7 | exact WkB.same rfl | exact Jt53 | exact Jt52 | exact .dead _ | exact .iter _ _ | exact .glob _ _ | refine Jt51 ?_ ?_ | refine And.intro ?_ ?_) | exact ⟨_, rfl, lH3⟩ | exact ⟨_, rfl, lP3⟩)
  rintro ⟨seen, cs, o2⟩ ⟨j1, j2, j3⟩ N2 hN2
  simp only at j1 j2 j3 hN2
  (simp (maxSteps := 1000000) [])
  refine Jt2j (b := it) (bi := H.length + 2) (by rfl) gN2 (gi _) (fun i kk hk hi => ?_) (fun hall => ?_)
  ·have hs' := j1.step hk hi
   have hlen := hs'.len
   simp only [sN2]
   (simp (maxSteps := 1000000) [])
   refine Jt24 (bi := H.length + 2) (b := it) (by rfl) gN2 (gi _) hk ?_
   (simp (maxSteps := 1000000) [])
   refine Jt2p (b := H.length + 1) (by rfl) (by rfl) (by rfl) gN1 ?_
   simp only [sN1]
   (simp (maxSteps := 1000000) [])
   refine hN2 _ (seen ++ [i], cs ++ [kk], madd o2 kk) ⟨hs', Jtct j2, fun v => by
    show v ∈ madd o2 kk ↔ v ∈ outs ∨ v ∈ cs ++ [kk]
    rw [Jtd4, j3, List.mem_append, List.mem_singleton, or_assoc]⟩ ?_ (by simp only [List.length_append, List.length_singleton] at hlen ⊢; omega)
   refine Wk.of ?_ (Jt58 hm.cl ⟨.dead _, .glob _ _, .glob _ _, trivial⟩) (by simp) <;> repeat' (first | (first | exact True.intro | exact ⟨_, rfl, Jtj8 rfl⟩ | exact ⟨_, rfl, Jtj6 rfl⟩ | exact ⟨_, rfl, .inl .nild⟩ | exact ⟨_, rfl, .inl .nile⟩ | exact ⟨_, rfl, Jtj7⟩ | exact Jtj8 rfl | exact Jtj6 rfl | exact .inl .nild | exact .inl .nile | exact Jtj7 | exact WkB.same rfl | exact Jt53 | exact Jt52 | exact .dead _ | exact .iter _ _ | exact .glob _ _ | refine Jt51 ?_ ?_ | refine And.intro ?_ ?_) | exact ⟨_, rfl, lH3⟩ | exact ⟨_, rfl, lP3⟩)
  ·have hp := j1.done hall
   (simp (maxSteps := 1000000) [hw])
   refine hN _ (k + 1, o2) ⟨h2, j2, fun v => ?_⟩ ?_ (by simp only; omega)
   ·show v ∈ o2 ↔ Exits kss (ts.take (k + 1)) v
    rw [j3, i3, hp.mem_iff, List.take_add_one, hb]
    simp only [Exits, Option.toList_some, List.mem_append, List.mem_singleton]
    constructor
    ·rintro (⟨t, h1, l, h3, h4⟩ | h)
     ·exact ⟨t, .inl h1, l, h3, h4⟩
     ·exact ⟨x, .inr rfl, kt, hkt, h⟩
    ·rintro ⟨t, h1 | rfl, l, h3, h4⟩
     ·exact .inl ⟨t, h1, l, h3, h4⟩
     ·rw [hkt] at h3; injection h3 with h3; subst h3; exact .inr h4
   ·refine Wk.of ?_ (Jt58 hm.cl ⟨.dead _, .glob _ _, trivial⟩) (by simp) <;> repeat' (first | (first | exact True.intro | exact ⟨_, rfl, Jtj8 rfl⟩ | exact ⟨_, rfl, Jtj6 rfl⟩ | exact ⟨_, rfl, .inl .nild⟩ | exact ⟨_, rfl, .inl .nile⟩ | exact ⟨_, rfl, Jtj7⟩ | exact Jtj8 rfl | exact Jtj6 rfl | exact .inl .nild | exact .inl .nile | exact Jtj7 | exact WkB.same rfl | exact Jt53 | exact Jt52 | exact .dead _ | exact .iter _ _ | exact .glob _ _ | refine Jt51 ?_ ?_ | refine And.intro ?_ ?_) | exact ⟨_, rfl, lH⟩)
 ·have ek : k = ts.length := by omega
  subst ek
  (simp (maxSteps := 1000000) [])
  rw [List.take_length] at i3
  refine hR _ _ (Jt4r (.mp r) (.mp r) (H ++ [.dead, .glob r (mpK outs)]) (by rfl) ?_ ⟨(r, outs), ⟨i2, i3⟩, rfl, rfl⟩)
  exact Wk.of ⟨⟨_, rfl, Jtj8 rfl⟩, trivial⟩ (Jt58 hm.cl ⟨.dead _, .glob _ _, trivial⟩) (by simp)
end
end Go.AE
set_option maxRecDepth 4000
namespace Go.AE
open Go
structure Qd where (ru rd : Nat) (ks ds : List Int)
def rowQ (q : Qd) : List Blk := [.dead, .dead, .dead, .dead, .glob q.ru (mpK q.ks), .glob q.rd (mpK q.ds)]
def TT : List Qd → List Blk
 | [] => []
 | q :: l => rowQ q ++ TT l
theorem TT_len : ∀ l : List Qd, (TT l).length = 6 * l.length := by
 intro l
 induction l with
 | nil => rfl
 | cons q l ih => simp only [TT, List.length_append, ih, rowQ, List.length_cons, List.length_nil]; omega
theorem TT_u : ∀ {l : List Qd} {j : Nat} {q : Qd}, l[j]? = some q → (TT l)[6 * j + 4]? = some (.glob q.ru (mpK q.ks)) := by
 intro l
 induction l with
 | nil => intro j q h; simp at h
 | cons q0 l ih =>
  intro j q h
  cases j with
  | zero => simp at h; subst h; rfl
  | succ j => exact ih (by simpa using h)
theorem TT_d : ∀ {l : List Qd} {j : Nat} {q : Qd}, l[j]? = some q → (TT l)[6 * j + 5]? = some (.glob q.rd (mpK q.ds)) := by
 intro l
 induction l with
 | nil => intro j q h; simp at h
 | cons q0 l ih =>
  intro j q h
  cases j with
  | zero => simp at h; subst h; rfl
  | succ j => exact ih (by simpa using h)
theorem TT_set : ∀ {l : List Qd} {j : Nat} {q : Qd} (ks' : List Int), l[j]? = some q → (TT l).set (6 * j + 4) (.glob q.ru (mpK ks')) = TT (l.set j { q with ks := ks' }) := by
 intro l
 induction l with
 | nil => intro j q ks' h; simp at h
 | cons q0 l ih =>
  intro j q ks' h
  cases j with
  | zero => simp at h; subst h; rfl
  | succ j =>
   have := ih ks' (j := j) (q := q) (by simpa using h)
   show rowQ q0 ++ (TT l).set (6 * j + 4) _ = rowQ q0 ++ TT (l.set j _)
   rw [this]
theorem TT_app : ∀ (l : List Qd) (q : Qd), TT (l ++ [q]) = TT l ++ rowQ q := by
 intro l
 induction l with
 | nil => intro q; simp [TT]
 | cons q0 l ih => intro q; show rowQ q0 ++ TT (l ++ [q]) = rowQ q0 ++ TT l ++ rowQ q; rw [ih, List.append_assoc]
theorem TT_cl : ∀ {l : List Qd}, ∀ k ∈ TT l, ClB k := by
 intro l
 induction l with
 | nil => intro k h; simp [TT] at h
 | cons q l ih =>
  intro k h
  rcases List.mem_append.1 h with h | h
  ·simp only [rowQ, List.mem_cons, List.not_mem_nil, or_false] at h
   rcases h with rfl | rfl | rfl | rfl | rfl | rfl
   ·exact .dead
   ·exact .dead
   ·exact .dead
   ·exact .dead
   ·exact .glob _ _
   ·exact .glob _ _
  ·exact ih k h
def cellsM (rs : List Nat) (n : Nat) : List AV := rs.map .mp ++ List.replicate (n - rs.length) .nilm
theorem Jt71 {rs : List Nat} {n : Nat} (h : rs.length ≤ n) : (cellsM rs n).length = n := by simp [cellsM]; omega
theorem Jt73 {rs : List Nat} {n k : Nat} (hk : rs.length = k) (h : k < n) (r : Nat) : (cellsM rs n).take k ++ AV.mp r :: (cellsM rs n).drop (k + 1) = cellsM (rs ++ [r]) n := by
 subst hk
 unfold cellsM
 have e : n - rs.length = (n - (rs ++ [r]).length) + 1 := by simp; omega
 rw [List.take_append_of_le_length (by simp), List.take_of_length_le (by simp), e, List.replicate_succ, List.drop_append]
 simp
theorem Jt70 {rs : List Nat} {n : Nat} (h : rs.length = n) : cellsM rs n = rs.map .mp := by simp [cellsM, h]
theorem Jt72 (n : Nat) : (List.replicate n [AV.nilm]).flatten = cellsM [] n := by
 simp [cellsM]
theorem Jt6z {rs : List Nat} {n : Nat} : ClB (.mem (cellsM rs n)) := ClB.mem fun x hx ρ => by
 rcases List.mem_append.1 hx with h | h
 ·obtain ⟨r, _, rfl⟩ := List.mem_map.1 h; rfl
 ·rw [List.eq_of_mem_replicate h]; rfl
def regsL (f : Func) : List Int := f.blocks.flatMap fun b => b.code.flatMap (fun i => [i.a, i.b]) ++ [b.term.a]
theorem Jtiy {b : Block} {v : Int} {k : Nat} (h : usedC b v k = true) : ∃ i ∈ b.code, i.a = v ∨ i.b = v := by
 unfold usedC at h
 rw [List.any_eq_true] at h
 obtain ⟨j, _, h⟩ := h
 split at h
 ·rename_i i hi
  refine ⟨i, List.mem_of_getElem? hi, ?_⟩
  simp only [useI, Bool.and_eq_true, Bool.or_eq_true, beq_iff_eq] at h
  exact h.1.imp And.right And.right
 ·cases h
theorem LiveAt.regs {f : Func} {v : Int} {i : Nat} (h : LiveAt f v i) : v ∈ regsL f := by
 refine h.closed (S := fun _ => v ∈ regsL f) (fun i b hb hu => ?_) fun i b t _ _ h _ => h
 refine List.mem_flatMap.2 ⟨b, List.mem_of_getElem? hb, ?_⟩
 unfold usedZ at hu
 rw [Bool.or_eq_true] at hu
 rcases hu with hu | hu
 ·obtain ⟨i, hi, h⟩ := Jtiy hu
  refine List.mem_append_left _ (List.mem_flatMap.2 ⟨i, hi, ?_⟩)
  rcases h with h | h <;> simp [h]
 ·simp only [Bool.and_eq_true, beq_iff_eq] at hu
  exact List.mem_append_right _ (by simp [hu.1.2])
structure SolJ (f : Func) (l : List Qd) : Prop where
 len : l.length = f.blocks.length
 at_ : ∀ j q b, l[j]? = some q → f.blocks[j]? = some b → q.ks.Nodup ∧ (∀ v ∈ q.ks, LiveAt f v j) ∧ (∀ v, usedZ b v = true → v ∈ q.ks) ∧ q.ds = (scanZ b).2
def sumQ (l : List Qd) : Nat := (l.map fun q => q.ks.length).sum
theorem sum_le {α : Type} (g : α → Nat) (c : Nat) : ∀ {l : List α}, (∀ x ∈ l, g x ≤ c) → (l.map g).sum ≤ l.length * c := by
 intro l
 induction l with
 | nil => intro _; simp
 | cons x l ih =>
  intro h
  have := ih fun y hy => h y (by simp [hy])
  have := h x (by simp)
  simp only [List.map_cons, List.sum_cons, List.length_cons, Nat.add_mul, Nat.one_mul]; omega
theorem SolJ.sum {f : Func} {l : List Qd} (h : SolJ f l) : sumQ l ≤ f.blocks.length * (regsL f).length := by
 rw [← h.len]
 refine sum_le _ _ fun q hq => ?_
 obtain ⟨j, hj⟩ := List.getElem?_of_mem hq
 have hjl := (List.getElem?_eq_some_iff.1 hj).1
 obtain ⟨b, hb⟩ : ∃ b, f.blocks[j]? = some b := ⟨_, List.getElem?_eq_getElem (by rw [← h.len]; exact hjl)⟩
 obtain ⟨h1, h2, _, _⟩ := h.at_ j q b hj hb
 exact h1.length_le_of_subset fun v hv => (h2 v hv).regs
theorem Jtib {α : Type} (g : α → Nat) : ∀ {l : List α} {j : Nat} {x y : α}, l[j]? = some x → ((l.set j y).map g).sum + g x = (l.map g).sum + g y := by
 intro l
 induction l with
 | nil => intro j x y h; simp at h
 | cons z l ih =>
  intro j x y h
  cases j with
  | zero => simp at h; subst h; simp; omega
  | succ j =>
   have := ih (j := j) (x := x) (y := y) (by simpa using h)
   simp only [List.set_cons_succ, List.map_cons, List.sum_cons]; omega
def Jt4o (f : Func) (l : List Qd) (j : Nat) : Prop := ∀ b q, f.blocks[j]? = some b → l[j]? = some q → ∀ v, Exits (l.map fun q => q.ks) (succsZ b.term) v → v ∉ q.ds → v ∈ q.ks
theorem SolJ.done {f : Func} {l : List Qd} (h : SolJ f l) (hc : ∀ j, j < f.blocks.length → Jt4o f l j) {j : Nat} {q : Qd} (hq : l[j]? = some q) (v : Int) : v ∈ q.ks ↔ LiveAt f v j := by
 constructor
 ·intro hv
  have hjl := (List.getElem?_eq_some_iff.1 hq).1
  obtain ⟨b, hb⟩ : ∃ b, f.blocks[j]? = some b := ⟨_, List.getElem?_eq_getElem (by rw [← h.len]; exact hjl)⟩
  exact (h.at_ j q b hq hb).2.1 v hv
 ·intro hl
  have ex : ∀ i b, f.blocks[i]? = some b → ∃ q, l[i]? = some q := fun i b hb => ⟨_, List.getElem?_eq_getElem (by rw [h.len]; exact (List.getElem?_eq_some_iff.1 hb).1)⟩
  obtain ⟨q2, h2, h3⟩ := hl.closed (S := fun i => ∃ q, l[i]? = some q ∧ v ∈ q.ks) (fun i b hb hu => by
    obtain ⟨q, hq⟩ := ex i b hb
    exact ⟨q, hq, (h.at_ i q b hq hb).2.2.1 v hu⟩) (fun i b t hb ht hS hd => by
    obtain ⟨q, hq⟩ := ex i b hb
    obtain ⟨q2, h2, h3⟩ := hS
    refine ⟨q, hq, hc i (List.getElem?_eq_some_iff.1 hb).1 b q hb hq v ⟨t, ht, q2.ks, by rw [List.getElem?_map, h2]; rfl, h3⟩ ?_⟩
    rw [(h.at_ i q b hq hb).2.2.2, (Jth4 b).1]; simp [hd])
  rw [hq] at h2; injection h2 with h2; subst h2; exact h3
end Go.AE
set_option maxRecDepth 8000
namespace Go.AE
open Go
theorem Jt56 {H X : List Blk} {n : Nat} {l : List Qd} : WkHs H n (TT l ++ X) (TT l) := by
 have := Jt58 (H := H) (n := n) (T := TT l) TT_cl (X := X) (Y := []) Jt5b
 rwa [List.append_nil] at this
theorem Jt55 {H : List Blk} {n : Nat} {l : List Qd} : WkHs H n (TT l) (TT l) := by
 have := Jt58 (H := H) (n := n) (T := TT l) TT_cl (X := []) (Y := []) trivial
 rwa [List.append_nil] at this
def ruL (l : List Qd) : List Nat := l.map fun q => q.ru
@[simp] theorem Jtgu (l : List Qd) : (ruL l).length = l.length := by simp [ruL]
theorem Jtgs (l : List Qd) (q : Qd) : ruL (l ++ [q]) = ruL l ++ [q.ru] := by simp [ruL]
theorem Jtgt {l : List Qd} {j : Nat} {q : Qd} (h : l[j]? = some q) : (ruL l)[j]? = some q.ru := by rw [ruL, List.getElem?_map, h]; rfl
theorem Jtgv {l : List Qd} {j : Nat} {q : Qd} (h : l[j]? = some q) (ks : List Int) : ruL (l.set j { q with ks := ks }) = ruL l := by
 apply List.ext_getElem?
 intro i
 rw [ruL, ruL, List.getElem?_map, List.getElem?_map, List.getElem?_set]
 split
 ·rename_i hi; subst hi
  rw [h]; simp [(List.getElem?_eq_some_iff.1 h).1]
 ·rfl
def rdL (l : List Qd) : List Nat := l.map fun q => q.rd
@[simp] theorem Jtfe (l : List Qd) : (rdL l).length = l.length := by simp [rdL]
theorem Jtfc (l : List Qd) (q : Qd) : rdL (l ++ [q]) = rdL l ++ [q.rd] := by simp [rdL]
theorem Jtfd {l : List Qd} {j : Nat} {q : Qd} (h : l[j]? = some q) : (rdL l)[j]? = some q.rd := by rw [rdL, List.getElem?_map, h]; rfl
theorem Jtff {l : List Qd} {j : Nat} {q : Qd} (h : l[j]? = some q) (ks : List Int) : rdL (l.set j { q with ks := ks }) = rdL l := by
 apply List.ext_getElem?
 intro i
 rw [rdL, rdL, List.getElem?_map, List.getElem?_map, List.getElem?_set]
 split
 ·rename_i hi; subst hi
  rw [h]; simp [(List.getElem?_eq_some_iff.1 h).1]
 ·rfl
section
variable {a b c : Blk} {l : List Qd} {n : Nat} {d o it : Blk} {X : List Blk}
theorem q_it (h : l.length = n) : (a :: b :: c :: (TT l ++ d :: o :: it :: X))[6 * n + 5]? = some it := by
 subst h
 show (TT l ++ d :: o :: it :: X)[6 * l.length + 2]? = some it
 rw [← TT_len l]; exact gN2
theorem q_o (h : l.length = n) : (a :: b :: c :: (TT l ++ d :: o :: X))[6 * n + 4]? = some o := by
 subst h
 show (TT l ++ d :: o :: X)[6 * l.length + 1]? = some o
 rw [← TT_len l]; exact gN1
theorem q_sit (h : l.length = n) (y : Blk) : (a :: b :: c :: (TT l ++ d :: o :: it :: X)).set (6 * n + 5) y = a :: b :: c :: (TT l ++ d :: o :: y :: X) := by
 subst h
 show a :: b :: c :: (TT l ++ d :: o :: it :: X).set (6 * l.length + 2) y = _
 rw [← TT_len l, sN2]
theorem q_u {j : Nat} {q : Qd} (h : l[j]? = some q) : (a :: b :: c :: (TT l ++ X))[6 * j + 7]? = some (.glob q.ru (mpK q.ks)) := by
 show (TT l ++ X)[6 * j + 4]? = _
 have := TT_u h
 rw [List.getElem?_append_left (List.getElem?_eq_some_iff.1 this).1]; exact this
theorem q_d {j : Nat} {q : Qd} (h : l[j]? = some q) : (a :: b :: c :: (TT l ++ X))[6 * j + 8]? = some (.glob q.rd (mpK q.ds)) := by
 show (TT l ++ X)[6 * j + 5]? = _
 have := TT_d h
 rw [List.getElem?_append_left (List.getElem?_eq_some_iff.1 this).1]; exact this
theorem q_su {j : Nat} {q : Qd} (h : l[j]? = some q) (ks : List Int) : (a :: b :: c :: (TT l ++ X)).set (6 * j + 7) (.glob q.ru (mpK ks)) = a :: b :: c :: (TT (l.set j { q with ks := ks }) ++ X) := by
 show a :: b :: c :: (TT l ++ X).set (6 * j + 4) _ = _
 rw [List.set_append_left _ _ (List.getElem?_eq_some_iff.1 (TT_u h)).1, TT_set ks h]
end
theorem SolJ.set {f : Func} {l : List Qd} (h : SolJ f l) {j : Nat} {q : Qd} {b : Block} (hq : l[j]? = some q) (hb : f.blocks[j]? = some b) {ks : List Int} (hnd : ks.Nodup) (hsub : ∀ v ∈ q.ks, v ∈ ks)
  (hnew : ∀ v ∈ ks, v ∈ q.ks ∨ (Exits (l.map fun q => q.ks) (succsZ b.term) v ∧ v ∉ q.ds)) : SolJ f (l.set j { q with ks := ks }) := by
 refine ⟨by rw [List.length_set]; exact h.len, fun i q' b' hi hb' => ?_⟩
 by_cases hij : j = i
 ·subst hij
  rw [List.getElem?_set_self (List.getElem?_eq_some_iff.1 hq).1] at hi
  injection hi with hi; subst hi
  rw [hb] at hb'; injection hb' with hb'; subst hb'
  obtain ⟨k1, k2, k3, k4⟩ := h.at_ j q b hq hb
  refine ⟨hnd, fun v hv => ?_, fun v hv => hsub v (k3 v hv), k4⟩
  rcases hnew v hv with h1 | ⟨⟨t, ht, lt, h2, h3⟩, h4⟩
  ·exact k2 v h1
  ·rw [List.getElem?_map, Option.map_eq_some_iff] at h2
   obtain ⟨q2, h5, rfl⟩ := h2
   have htl := (List.getElem?_eq_some_iff.1 h5).1
   obtain ⟨b2, hb2⟩ : ∃ b2, f.blocks[t.toNat]? = some b2 := ⟨_, List.getElem?_eq_getElem (by rw [← h.len]; exact htl)⟩
   refine .next j b t hb ht ((h.at_ _ q2 b2 h5 hb2).2.1 v h3) ?_
   have := (Jth4 b).1 v
   rw [k4] at h4
   simpa using fun h6 => h4 (this.2 h6)
 ·rw [List.getElem?_set_ne hij] at hi
  exact h.at_ i q' b' hi hb'
section
set_option maxHeartbeats 4000000 in
theorem Jtce {P : Program} {p : Nums} (A : All P p) (f : Func) (ok : OkL f) : Jt4n P p.liveness_solve [f.av] [] fun o H' => ∃ l : List Qd, (SolJ f l ∧ ∀ j, j < f.blocks.length → Jt4o f l j) ∧ o = .ret (.hsl 1 0 1 f.blocks.length) ∧ H' = [.dead, .mem ((ruL l).map .mp), .dead] ++ TT l := by
 refine A.liveness_solve.run rfl fun R hR => ?_
 have hbl := ok.bl
 obtain ⟨fR, hfR⟩ : ∃ x, x = f.blocks.map Block.row := ⟨_, rfl⟩
 have lR : fR.length = f.blocks.length := by rw [hfR]; simp
 have gR : ∀ (j : Nat) (b : Block), f.blocks[j]? = some b → fR[j]? = some b.row := fun j b h => by rw [hfR, List.getElem?_map, h]; rfl
 obtain ⟨n, hn⟩ : ∃ n, n = f.blocks.length := ⟨_, rfl⟩
 rw [← hn] at lR hbl hR
 have av : f.av = .agg [AI f.args, AI f.regs, .d (.sl fR)] := by rw [hfR]; rfl
 rw [av]
 (simp (maxSteps := 1000000) [Jta8, lR])
 refine Jt2e (n := n) (by rfl) (by rfl) (by omega) (by omega) (by decide) (by rfl) (by rfl) (by rfl) ?_
 rw [Jt72]
 (simp (maxSteps := 1000000) [lR])
 refine Jt2e (n := n) (by rfl) (by rfl) (by omega) (by omega) (by decide) (by rfl) (by rfl) (by rfl) ?_
 rw [Jt72]
 (simp (maxSteps := 1000000) [lR])
 refine Jtd (fun l : List Qd => ⟨[(21, AI (l.length : Int)), (20, AI (n : Int)), (19, .d (.sl fR)), (4, .hsl 2 0 1 n), (3, .hsl 1 0 1 n), (1, .ptr 0 0)],
  .mem [AI f.args, AI f.regs, .d (.sl fR)] :: .mem (cellsM (ruL l) n) :: .mem (cellsM (rdL l) n) :: TT l⟩)
  (fun l => l.length ≤ n ∧ ∀ (j : Nat) (q : Qd) (b : Block), l[j]? = some q → f.blocks[j]? = some b → q.ks = (scanZ b).1 ∧ q.ds = (scanZ b).2) (fun l => n - l.length) [] ⟨by simp, fun j q b h => by simp at h⟩ ?_ ?_
 ·refine Wk.of ?_ ?_ (by simp) <;> repeat' (first | exact Jt6z.wk | (first | exact True.intro | exact ⟨_, rfl, Jtj8 rfl⟩ | exact ⟨_, rfl, Jtj6 rfl⟩ | exact ⟨_, rfl, .inl .nild⟩ | exact ⟨_, rfl, .inl .nile⟩ | exact ⟨_, rfl, Jtj7⟩ | exact Jtj8 rfl | exact Jtj6 rfl | exact .inl .nild | exact .inl .nile | exact Jtj7 | exact WkB.same rfl | exact Jt53 | exact Jt52 | exact .dead _ | exact .iter _ _ | exact .glob _ _ | refine Jt51 ?_ ?_ | refine And.intro ?_ ?_))
 rintro l ⟨i1, i2⟩ N hN
 (simp (maxSteps := 1000000) [])
 by_cases h2 : l.length < n
 ·have h2i : (l.length : Int) < (n : Int) := by omega
  obtain ⟨b, hb⟩ : ∃ b, f.blocks[l.length]? = some b := ⟨_, List.getElem?_eq_getElem (by omega)⟩
  have hr := gR _ _ hb
  have hcl := ok.cl b (List.mem_of_getElem? hb)
  have hsc := Jtcc A b (by omega)
  obtain ⟨⟨us, ds⟩, hus⟩ : ∃ x, x = scanZ b := ⟨_, rfl⟩
  rw [← hus] at hsc
  obtain ⟨code, kind, ta, to, els⟩ := b
  simp only [Block.av, Block.row] at hr hsc
  have c1 := Jt71 (rs := ruL l) (n := n) (by simp; omega)
  have c2 := Jt71 (rs := rdL l) (n := n) (by simp; omega)
  have s1 := fun r => Jt73 (rs := ruL l) (n := n) (k := l.length) (by simp) h2 r
  have s2 := fun r => Jt73 (rs := rdL l) (n := n) (k := l.length) (by simp) h2 r
  have hw := Jtje (k := l.length) (by omega)
  obtain ⟨C1, hC1⟩ : ∃ x, x = cellsM (ruL l) n := ⟨_, rfl⟩
  obtain ⟨C2, hC2⟩ : ∃ x, x = cellsM (rdL l) n := ⟨_, rfl⟩
  rw [← hC1] at c1 s1 ⊢
  rw [← hC2] at c2 s2 ⊢
  have h2s : l.length + 1 ≤ n := h2
  (simp (maxSteps := 1000000) [h2, h2i, hr])
  refine Jt14 [] 5 (X := fun r : Nat × Nat => .tup [.mp r.1, .mp r.2]) (Y := fun r : Nat × Nat => .tup [.mp r.1, .mp r.2]) (C := fun r : Nat × Nat => [.dead, .dead, .dead, .glob r.1 (mpK us), .glob r.2 (mpK ds)]) (Hb := fun r : Nat × Nat => [.dead, .dead, .dead, .glob r.1 (mpK us), .glob r.2 (mpK ds)]) hsc (by decide) (by rfl) (by rfl) (by rfl) (fun _ => rfl) (fun _ => rfl) (fun _ => rfl) fun r _ => ?_
  (simp (maxSteps := 1000000) [wback, h2, c1, c2, h2s])
  (simp (maxSteps := 1000000) [hw])
  rw [s1, s2]
  refine hN _ (l ++ [⟨r.1, r.2, us, ds⟩]) ⟨by simp; omega, fun j q b hj hb' => ?_⟩ ?_ (by simp; omega)
  ·by_cases hjl : j < l.length
   ·rw [List.getElem?_append_left hjl] at hj
    exact i2 j q b hj hb'
   ·have hjj : j = l.length := by
     have := (List.getElem?_eq_some_iff.1 hj).1
     simp at this; omega
    subst hjj
    rw [hb] at hb'; injection hb' with hb'; subst hb'
    simp at hj; subst hj
    rw [← hus]; exact ⟨rfl, rfl⟩
  ·simp only [Jtgs, Jtfc, TT_app, rowQ, List.length_append, List.length_singleton]
   refine Wk.of ?_ ?_ (by simp) <;> repeat' (first | exact Jt6z.wk | exact Jt58 TT_cl ⟨.dead _, .dead _, .dead _, .dead _, .glob _ _, .glob _ _, trivial⟩ | (first | exact True.intro | exact ⟨_, rfl, Jtj8 rfl⟩ | exact ⟨_, rfl, Jtj6 rfl⟩ | exact ⟨_, rfl, .inl .nild⟩ | exact ⟨_, rfl, .inl .nile⟩ | exact ⟨_, rfl, Jtj7⟩ | exact Jtj8 rfl | exact Jtj6 rfl | exact .inl .nild | exact .inl .nile | exact Jtj7 | exact WkB.same rfl | exact Jt53 | exact Jt52 | exact .dead _ | exact .iter _ _ | exact .glob _ _ | refine Jt51 ?_ ?_ | refine And.intro ?_ ?_))
 ·have el : l.length = n := by omega
  have e1 : cellsM (ruL l) n = (ruL l).map .mp := Jt70 (by rw [Jtgu]; exact el)
  have e2 : cellsM (rdL l) n = (rdL l).map .mp := Jt70 (by rw [Jtfe]; exact el)
  rw [e1, e2]
  (simp (maxSteps := 1000000) [h2, el])
  have hJ : SolJ f l := ⟨by omega, fun j q b hj hb => by
   obtain ⟨k1, k2⟩ := i2 j q b hj hb
   obtain ⟨z1, z2, z3, z4, _, _⟩ := Jth4 b
   rw [k1]
   exact ⟨z3, fun v hv => .use j b hb ((z2 v).1 hv), fun v hv => (z2 v).2 hv, k2⟩⟩
  refine Jtd (fun l : List Qd => ⟨[(4, .hsl 2 0 1 n), (3, .hsl 1 0 1 n), (1, .ptr 0 0)], .mem [AI f.args, AI f.regs, .d (.sl fR)] :: .mem ((ruL l).map .mp) :: .mem ((rdL l).map .mp) :: TT l⟩)
   (fun l => SolJ f l) (fun l => n * (regsL f).length - sumQ l) l hJ ?_ ?_
  ·refine Wk.of ?_ ?_ (by simp) <;> repeat' (first | exact (ClB.mps _).wk | exact Jt55 | (first | exact True.intro | exact ⟨_, rfl, Jtj8 rfl⟩ | exact ⟨_, rfl, Jtj6 rfl⟩ | exact ⟨_, rfl, .inl .nild⟩ | exact ⟨_, rfl, .inl .nile⟩ | exact ⟨_, rfl, Jtj7⟩ | exact Jtj8 rfl | exact Jtj6 rfl | exact .inl .nild | exact .inl .nile | exact Jtj7 | exact WkB.same rfl | exact Jt53 | exact Jt52 | exact .dead _ | exact .iter _ _ | exact .glob _ _ | refine Jt51 ?_ ?_ | refine And.intro ?_ ?_))
  clear N hN hJ e1 e2 i1 i2 h2 el
  intro l hJ N hN
  have el : l.length = n := by rw [hn]; exact hJ.len
  have hw1 : IntKind.i64.wrap ((n : Int) - 1) = (n : Int) - 1 := wrap_i64 (by omega) (by omega)
  (simp (maxSteps := 1000000) [lR, hw1])
  refine Jtd (fun m : Nat => ⟨[(7, AI ((m : Int) - 1)), (4, .hsl 2 0 1 n), (3, .hsl 1 0 1 n), (1, .ptr 0 0)], .mem [AI f.args, AI f.regs, .d (.sl fR)] :: .mem ((ruL l).map .mp) :: .mem ((rdL l).map .mp) :: TT l⟩)
   (fun m => m ≤ n ∧ ∀ j, m ≤ j → j < n → Jt4o f l j) (fun m => m) n ⟨Nat.le_refl _, fun j h1 h2 => by omega⟩ ?_ ?_
  ·refine Wk.of ?_ ?_ (by simp) <;> repeat' (first | exact (ClB.mps _).wk | exact Jt55 | (first | exact True.intro | exact ⟨_, rfl, Jtj8 rfl⟩ | exact ⟨_, rfl, Jtj6 rfl⟩ | exact ⟨_, rfl, .inl .nild⟩ | exact ⟨_, rfl, .inl .nile⟩ | exact ⟨_, rfl, Jtj7⟩ | exact Jtj8 rfl | exact Jtj6 rfl | exact .inl .nild | exact .inl .nile | exact Jtj7 | exact WkB.same rfl | exact Jt53 | exact Jt52 | exact .dead _ | exact .iter _ _ | exact .glob _ _ | refine Jt51 ?_ ?_ | refine And.intro ?_ ?_))
  rintro m ⟨m1, m2⟩ M hM
  cases m with
  | zero =>
   have e0 : ((0 : Nat) : Int) - 1 = -1 := rfl
   simp only [e0]
   (simp (maxSteps := 1000000) [])
   refine hR _ _ (Jt4r (.hsl 1 0 1 n) (.hsl 1 0 1 n) ([.dead, .mem ((ruL l).map .mp), .dead] ++ TT l) (by rfl) ?_ ⟨l, ⟨hJ, fun j hj => m2 j (Nat.zero_le _) hj⟩, rfl, rfl⟩)
   refine Wk.of ⟨⟨_, rfl, Jtj8 (by simp [AV.ren])⟩, trivial⟩ ⟨.dead _, (ClB.mps _).wk, .dead _, Jt55⟩ (by simp)
  | succ j =>
   have e0 : ((j + 1 : Nat) : Int) - 1 = (j : Int) := by omega
   have hwj : IntKind.i64.wrap ((j : Int) - 1) = (j : Int) - 1 := wrap_i64 (by omega) (by omega)
   simp only [e0]
   have hjn : j < n := by omega
   obtain ⟨b, hb⟩ : ∃ b, f.blocks[j]? = some b := ⟨_, List.getElem?_eq_getElem (by omega)⟩
   obtain ⟨q, hq⟩ : ∃ q, l[j]? = some q := ⟨_, List.getElem?_eq_getElem (by omega)⟩
   obtain ⟨p1, p2, p3, p4⟩ := hJ.at_ j q b hq hb
   have hr := gR _ _ hb
   have gu := Jtgt hq
   have gd := Jtfd hq
   have hTl : (TT l).length = 6 * n := by rw [TT_len, el]
   have hsucc := fun t ht => ok.succ b (List.mem_of_getElem? hb) t ht
   have hex := Jtca A b (.mem [AI f.args, AI f.regs, .d (.sl fR)] :: .mem ((ruL l).map .mp) :: .mem ((rdL l).map .mp) :: TT l) 1 n (ruL l) (l.map fun q => q.ks) ⟨rfl, by simp, fun i r ks h1 h2 => by
     rw [List.getElem?_map, Option.map_eq_some_iff] at h2
     obtain ⟨q2, h3, rfl⟩ := h2
     rw [Jtgt h3] at h1; injection h1 with h1; subst h1
     exact ⟨6 * i + 7, TT_u h3⟩, fun k hk => by
     simp only [List.mem_cons] at hk
     rcases hk with rfl | rfl | rfl | hk
     ·exact ClB.mem fun x hx ρ => by simp only [List.mem_cons, List.not_mem_nil, or_false] at hx; rcases hx with rfl | rfl | rfl <;> rfl
     ·exact .mps _
     ·exact .mps _
     ·exact TT_cl k hk⟩ (by simp [el]) (fun t ht => by have := hsucc t ht; rw [Jtgu, el, hn]; exact this)
   obtain ⟨code, kind, ta, to, els⟩ := b
   simp only [Block.row] at hr
   simp only [Block.av] at hex
   (simp (maxSteps := 1000000) [hjn, gu])
   refine Jt2g (b := 6 * j + 7) (by rfl) (TT_u hq) ?_
   (simp (maxSteps := 1000000) [hr])
   refine Jt11 (C := fun x : Nat × List Int => [.dead, .glob x.1 (mpK x.2)]) (X := fun x : Nat × List Int => .mp x.1) ?_ ?_ hex (fun _ _ => rfl) (fun x k hk => ?_) fun x hx => ?_
   ·intro k hk
    simp only [List.mem_cons] at hk
    rcases hk with rfl | rfl | rfl | hk
    ·exact ClB.mem fun x hx ρ => by simp only [List.mem_cons, List.not_mem_nil, or_false] at hx; rcases hx with rfl | rfl | rfl <;> rfl
    ·exact .mps _
    ·exact .mps _
    ·exact TT_cl k hk
   ·simp only [renL, AV.ren, List.length_cons]
    rw [Jtav _ 0 1 (by omega) (by omega)]
   ·simp only [List.mem_cons, List.not_mem_nil, or_false] at hk
    rcases hk with rfl | rfl
    ·exact .dead
    ·exact .glob _ _
   obtain ⟨x1, x2⟩ := hx
   (simp (maxSteps := 1000000) [])
   refine Jt2n (b := 6 * n + 4) (by rfl) (q_o el) fun r' => ?_
   (simp (maxSteps := 1000000) [hTl])
   have lP : ∀ {A B C D E F : Blk} {T Y : List Blk}, T.length = 6 * n → WkT Y (A :: B :: C :: (T ++ [D, E, F])).length (.ptr (6 * n + 5) 0) (.ptr (6 * n + 5) 0) := fun {A B C D E F T Y} hT => Jtj8 (by
    simp only [AV.ren, List.length_cons, List.length_append, List.length_nil]
    rw [if_pos (by omega)])
   have lT : ∀ ks, (TT (l.set j { q with ks := ks })).length = 6 * n := fun ks => by rw [TT_len, List.length_set, el]
   have eset : l.set j { q with ks := q.ks } = l := by
    apply List.ext_getElem?
    intro i
    rw [List.getElem?_set]
    split
    ·rename_i hi; subst hi; rw [hq]; simp [(List.getElem?_eq_some_iff.1 hq).1]
    ·rfl
   refine Jtd (fun z : List Nat × List Int × List Int => ⟨[(58, .ptr (6 * n + 5) 0), (8, AI (q.ks.length : Int)), (7, AI j), (4, .hsl 2 0 1 n), (3, .hsl 1 0 1 n), (1, .ptr 0 0)], .mem [AI f.args, AI f.regs, .d (.sl fR)] :: .mem ((ruL l).map .mp) :: .mem ((rdL l).map .mp) :: (TT (l.set j { q with ks := z.2.2 }) ++ [.dead, .glob x.1 (mpK x.2), .glob r' (itO x.1 x.2.length z.1)])⟩)
    (fun z => Seen x.2 z.1 z.2.1 ∧ z.2.2.Nodup ∧ (∃ e, z.2.2 = q.ks ++ e) ∧ ∀ v, v ∈ z.2.2 ↔ v ∈ q.ks ∨ (v ∈ z.2.1 ∧ v ∉ q.ds)) (fun z => x.2.length - z.1.length) ([], [], q.ks) ⟨Seen.nil _, p1, ⟨[], by simp⟩, fun v => by simp⟩ ?_ ?_
   ·simp only [eset]
    refine Wk.of ?_ ?_ (by simp) <;> repeat' (first | exact (ClB.mps _).wk | exact Jt58 TT_cl ⟨.dead _, .glob _ _, .glob _ _, trivial⟩ | (first | exact True.intro | exact ⟨_, rfl, Jtj8 rfl⟩ | exact ⟨_, rfl, Jtj6 rfl⟩ | exact ⟨_, rfl, .inl .nild⟩ | exact ⟨_, rfl, .inl .nile⟩ | exact ⟨_, rfl, Jtj7⟩ | exact Jtj8 rfl | exact Jtj6 rfl | exact .inl .nild | exact .inl .nile | exact Jtj7 | exact WkB.same rfl | exact Jt53 | exact Jt52 | exact .dead _ | exact .iter _ _ | exact .glob _ _ | refine Jt51 ?_ ?_ | refine And.intro ?_ ?_) | exact ⟨_, rfl, lP hTl⟩)
   rintro ⟨seen, cs, kz⟩ ⟨s1, s2, s3, s4⟩ N3 hN3
   simp only at s1 s2 s3 s4 hN3
   have hl' : (l.set j { q with ks := kz }).length = n := by rw [List.length_set]; exact el
   have hq' : (l.set j { q with ks := kz })[j]? = some { q with ks := kz } := List.getElem?_set_self (by omega)
   (simp (maxSteps := 1000000) [])
   refine Jt2j (b := 6 * n + 4) (bi := 6 * n + 5) (by rfl) (q_it hl') (q_o hl') (fun i v hk hi => ?_) (fun hall => ?_)
   ·have hs' := s1.step hk hi
    have hlen := hs'.len
    rw [q_sit hl']
    (simp (maxSteps := 1000000) [])
    refine Jt24 (b := 6 * n + 4) (bi := 6 * n + 5) (by rfl) (q_it hl') (q_o hl') hk ?_
    (simp (maxSteps := 1000000) [hjn, gd])
    refine Jt26 (b := 6 * j + 8) (by rfl) (by rfl) (q_d hq') ?_
    by_cases hv : v ∈ q.ds
    ·(simp (maxSteps := 1000000) [hv])
     refine hN3 _ (seen ++ [i], cs ++ [v], kz) ⟨hs', s2, s3, fun w => ?_⟩ ?_ (by simp only [List.length_append, List.length_singleton] at hlen ⊢; omega)
     ·show w ∈ kz ↔ w ∈ q.ks ∨ (w ∈ cs ++ [v] ∧ w ∉ q.ds)
      rw [s4, List.mem_append, List.mem_singleton]
      constructor
      ·rintro (h | ⟨h, h'⟩)
       ·exact .inl h
       ·exact .inr ⟨.inl h, h'⟩
      ·rintro (h | ⟨h | rfl, h'⟩)
       ·exact .inl h
       ·exact .inr ⟨h, h'⟩
       ·exact absurd hv h'
     ·refine Wk.of ?_ ?_ (by simp) <;> repeat' (first | exact (ClB.mps _).wk | exact Jt58 TT_cl ⟨.dead _, .glob _ _, .glob _ _, trivial⟩ | (first | exact True.intro | exact ⟨_, rfl, Jtj8 rfl⟩ | exact ⟨_, rfl, Jtj6 rfl⟩ | exact ⟨_, rfl, .inl .nild⟩ | exact ⟨_, rfl, .inl .nile⟩ | exact ⟨_, rfl, Jtj7⟩ | exact Jtj8 rfl | exact Jtj6 rfl | exact .inl .nild | exact .inl .nile | exact Jtj7 | exact WkB.same rfl | exact Jt53 | exact Jt52 | exact .dead _ | exact .iter _ _ | exact .glob _ _ | refine Jt51 ?_ ?_ | refine And.intro ?_ ?_) | exact ⟨_, rfl, lP (lT _)⟩)
    ·(simp (maxSteps := 1000000) [hv, hjn, gu])
     refine Jt2p (b := 6 * j + 7) (by rfl) (by rfl) (by rfl) (q_u hq') ?_
     rw [q_su hq']
     simp only [List.set_set]
     (simp (maxSteps := 1000000) [])
     obtain ⟨e, he⟩ := s3
     refine hN3 _ (seen ++ [i], cs ++ [v], madd kz v) ⟨hs', Jtct s2, ?_, fun w => ?_⟩ ?_ (by simp only [List.length_append, List.length_singleton] at hlen ⊢; omega)
     ·show ∃ e, madd kz v = q.ks ++ e
      unfold madd
      split
      ·exact ⟨e, he⟩
      ·exact ⟨e ++ [v], by rw [he, List.append_assoc]⟩
     ·show w ∈ madd kz v ↔ w ∈ q.ks ∨ (w ∈ cs ++ [v] ∧ w ∉ q.ds)
      rw [Jtd4, s4, List.mem_append, List.mem_singleton]
      constructor
      ·rintro ((h | ⟨h, h'⟩) | rfl)
       ·exact .inl h
       ·exact .inr ⟨.inl h, h'⟩
       ·exact .inr ⟨.inr rfl, hv⟩
      ·rintro (h | ⟨h | rfl, h'⟩)
       ·exact .inl (.inl h)
       ·exact .inl (.inr ⟨h, h'⟩)
       ·exact .inr rfl
     ·refine Wk.of ?_ ?_ (by simp) <;> repeat' (first | exact (ClB.mps _).wk | exact Jt58 TT_cl ⟨.dead _, .glob _ _, .glob _ _, trivial⟩ | (first | exact True.intro | exact ⟨_, rfl, Jtj8 rfl⟩ | exact ⟨_, rfl, Jtj6 rfl⟩ | exact ⟨_, rfl, .inl .nild⟩ | exact ⟨_, rfl, .inl .nile⟩ | exact ⟨_, rfl, Jtj7⟩ | exact Jtj8 rfl | exact Jtj6 rfl | exact .inl .nild | exact .inl .nile | exact Jtj7 | exact WkB.same rfl | exact Jt53 | exact Jt52 | exact .dead _ | exact .iter _ _ | exact .glob _ _ | refine Jt51 ?_ ?_ | refine And.intro ?_ ?_) | exact ⟨_, rfl, lP (lT _)⟩)
   ·have hp := s1.done hall
    (simp (maxSteps := 1000000) [hjn, gu])
    refine Jt2g (b := 6 * j + 7) (by rfl) (q_u hq') ?_
    (simp (maxSteps := 1000000) [])
    by_cases hgt : q.ks.length < kz.length
    ·have hgi : (q.ks.length : Int) < (kz.length : Int) := by omega
     (simp (maxSteps := 1000000) [hgt, hgi])
     have hJ' := hJ.set hq hb s2 (fun v hv => (s4 v).2 (.inl hv)) (fun v hv => ((s4 v).1 hv).imp id fun h => ⟨(x2 v).1 (hp.mem_iff.1 h.1), h.2⟩)
     have hsum := hJ'.sum
     have hse := Jtib (fun q : Qd => q.ks.length) (y := { q with ks := kz }) hq
     refine hN _ (l.set j { q with ks := kz }) hJ' ?_ (by unfold sumQ at hsum ⊢; rw [← hn] at hsum; simp only at hse; omega)
     rw [Jtgv hq, Jtff hq]
     refine Wk.of ?_ ?_ (by simp) <;> repeat' (first | exact (ClB.mps _).wk | exact Jt56 | (first | exact True.intro | exact ⟨_, rfl, Jtj8 rfl⟩ | exact ⟨_, rfl, Jtj6 rfl⟩ | exact ⟨_, rfl, .inl .nild⟩ | exact ⟨_, rfl, .inl .nile⟩ | exact ⟨_, rfl, Jtj7⟩ | exact Jtj8 rfl | exact Jtj6 rfl | exact .inl .nild | exact .inl .nile | exact Jtj7 | exact WkB.same rfl | exact Jt53 | exact Jt52 | exact .dead _ | exact .iter _ _ | exact .glob _ _ | refine Jt51 ?_ ?_ | refine And.intro ?_ ?_))
    ·have hgi : ¬ (q.ks.length : Int) < (kz.length : Int) := by omega
     obtain ⟨e, he⟩ := s3
     have hke : kz = q.ks := by
      rw [he, List.length_append] at hgt
      have : e = [] := List.eq_nil_of_length_eq_zero (by omega)
      rw [he, this, List.append_nil]
     subst hke
     rw [eset]
     (simp (maxSteps := 1000000) [hgt, hgi, hwj])
     refine hM _ j ⟨by omega, fun i hi hin => ?_⟩ ?_ (by omega)
     ·by_cases hij : i = j
      ·subst hij
       intro b' q' hb' hq2 v hE hd
       rw [hb] at hb'; injection hb' with hb'; subst hb'
       rw [hq] at hq2; injection hq2 with hq2; subst hq2
       exact (s4 v).2 (.inr ⟨hp.mem_iff.2 ((x2 v).2 hE), hd⟩)
      ·exact m2 i (by omega) hin
     ·refine Wk.of ?_ ?_ (by simp) <;> repeat' (first | exact (ClB.mps _).wk | exact Jt56 | (first | exact True.intro | exact ⟨_, rfl, Jtj8 rfl⟩ | exact ⟨_, rfl, Jtj6 rfl⟩ | exact ⟨_, rfl, .inl .nild⟩ | exact ⟨_, rfl, .inl .nile⟩ | exact ⟨_, rfl, Jtj7⟩ | exact Jtj8 rfl | exact Jtj6 rfl | exact .inl .nild | exact .inl .nile | exact Jtj7 | exact WkB.same rfl | exact Jt53 | exact Jt52 | exact .dead _ | exact .iter _ _ | exact .glob _ _ | refine Jt51 ?_ ?_ | refine And.intro ?_ ?_))
end
end Go.AE
