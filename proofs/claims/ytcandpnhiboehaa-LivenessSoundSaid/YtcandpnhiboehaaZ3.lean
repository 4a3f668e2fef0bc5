/- A part of the proof: the evaluator over abstract values, its codes, the contracts of the functions. -/
import Derived.Test.YtcandpnhiboehaaZ2
import Derived.Shelf.SlSortCmp.NoneTotal
import Derived.Lib.ItoaNum
set_option linter.unusedVariables false
set_option linter.unusedSimpArgs false
set_option maxRecDepth 100000
namespace Go.AE
@[simp] abbrev zi (n : Int) : AV := .d (.int .i64 n)
@[simp] abbrev ci (n : Int) : Opd := .c (.d (.int .i64 n))
@[simp] abbrev qo (d : Nat) (io : AO) : IOp := ⟨some d, io, none, false⟩
@[simp] abbrev qp (d : Nat) (io : AO) : IOp := ⟨some d, io, none, true⟩
@[simp] abbrev qn (io : AO) : IOp := ⟨none, io, none, false⟩
@[simp] abbrev qm (io : AO) : IOp := ⟨none, io, none, true⟩
structure Nums where
 law11_PairsetMatchesReference : Nat
 law11_PairsetMatchesSets : Nat
 law11_PairsetOrder : Nat
 law11_PairsetSubsets : Nat
 law23_LivenessMatchesReference : Nat
 law23_LivenessEquations : Nat
 law23_LivenessSound : Nat
 law23_LivenessNecessary : Nat
 law23_LivenessAppended : Nat
 law11_PairsetDrops : Nat
 law11_PairsetKeeps : Nat
 law11_awake : Nat
 ref11_Make : Nat
 pairset_Missing : Nat
 ref11_Missing : Nat
 pairset_Sorted : Nat
 ref11_Sorted : Nat
 ref11_Same : Nat
 pairset_Make : Nat
 pairset_Has : Nat
 ref11_Has : Nat
 pairset_Add : Nat
 ref11_Add : Nat
 pairset_Subset : Nat
 pairset_Union : Nat
 pairset_Less : Nat
 law23_awake : Nat
 ref07_Few : Nat
 ref07_Check : Nat
 ref23_Used : Nat
 ref23_Defines : Nat
 ref07_Numbers : Nat
 liveness_Uses : Nat
 liveness_Defs : Nat
 ref23_Same : Nat
 liveness_In : Nat
 ref23_In : Nat
 liveness_Out : Nat
 ref23_Out : Nat
 ref07_Successors : Nat
 ref23_Has : Nat
 ref09_Right : Nat
 ref09_Exec : Nat
 ref09_Step : Nat
 ref09_Copy : Nat
 ref09_Values : Nat
 ref07_Copy : Nat
 pairset_DropV : Nat
 pairset_DropL : Nat
 law11_spoil : Nat
 ref11_Less : Nat
 slices_Clone_Pair : Nat
 slices_SortFunc_Pair : Nat
 pairset_compare : Nat
 slices_Compact_Pair : Nat
 pairset_find : Nat
 ref07_Code : Nat
 ref07_Instr : Nat
 ref07_Term : Nat
 ref05_UsesA : Nat
 ref05_UsesB : Nat
 ref05_UsesD : Nat
 liveness_scan : Nat
 liveness_set_sorted : Nat
 liveness_solve : Nat
 ref23_live : Nat
 liveness_exit : Nat
 ref09_Start : Nat
 ref06_Eval : Nat
 pairset_filter : Nat
 pairset_DropV_1 : Nat
 pairset_DropL_1 : Nat
 slices_pdqsortCmpFunc_Pair : Nat
 math_bits_Len : Nat
 ref07_in : Nat
 liveness_scan_1 : Nat
 opcode_Of : Nat
 slices_Sort_int : Nat
 source_Successors : Nat
 ref06_bits : Nat
 ref06_half : Nat
 ref06_truth : Nat
 slices_insertionSortCmpFunc_Pair : Nat
 slices_heapSortCmpFunc_Pair : Nat
 slices_breakPatternsCmpFunc_Pair : Nat
 slices_choosePivotCmpFunc_Pair : Nat
 slices_reverseRangeCmpFunc_Pair : Nat
 slices_partialInsertionSortCmpFunc_Pair : Nat
 slices_partitionEqualCmpFunc_Pair : Nat
 slices_partitionCmpFunc_Pair : Nat
 math_bits_Len32 : Nat
 math_bits_Len64 : Nat
 opcode_known : Nat
 slices_pdqsortOrdered_int : Nat
 ref06_bit : Nat
 slices_siftDownCmpFunc_Pair : Nat
 slices_nextPowerOfTwo : Nat
 slices_xorshift_Next : Nat
 slices_medianAdjacentCmpFunc_Pair : Nat
 slices_medianCmpFunc_Pair : Nat
 slices_insertionSortOrdered_int : Nat
 slices_heapSortOrdered_int : Nat
 slices_breakPatternsOrdered_int : Nat
 slices_choosePivotOrdered_int : Nat
 slices_reverseRangeOrdered_int : Nat
 slices_partialInsertionSortOrdered_int : Nat
 cmp_Less_int : Nat
 slices_partitionEqualOrdered_int : Nat
 slices_partitionOrdered_int : Nat
 slices_order2CmpFunc_Pair : Nat
 slices_siftDownOrdered_int : Nat
 slices_medianAdjacentOrdered_int : Nat
 slices_medianOrdered_int : Nat
 cmp_isNaN_int : Nat
 slices_order2Ordered_int : Nat
 law22_SpillallKeeps : Nat
 law22_SpillallSlots : Nat
 law22_awake : Nat
 spillall_Cert : Nat
 ref22_Cert : Nat
 ref07_Same : Nat
 ref16_Same : Nat
 interp_Exec : Nat
 execute_Exec : Nat
 spillall_Block : Nat
 spillall_Moves : Nat
 source_Check : Nat
 slices_Clone_Instr : Nat
 spillall_invariant : Nat
 ref22_Block : Nat
 ref08_Moves : Nat
 ref08_Code : Nat
 ref08_Same : Nat
 ref15_Same : Nat
 interp_begin : Nat
 interp_state_step : Nat
 execute_begin : Nat
 execute_state_step : Nat
 spillall_builder_instr : Nat
 spillall_builder_add : Nat
 spillall_load : Nat
 source_Code : Nat
 source_block : Nat
 location_Slot : Nat
 ref22_move : Nat
 interp_state_instr : Nat
 interp_state_term : Nat
 execute_state_instr : Nat
 execute_state_term : Nat
 spillall_store : Nat
 location_Reg : Nat
 source_Instr : Nat
 source_Term : Nat
 alu_Eval : Nat
 execute_state_compute : Nat
 execute_state_move : Nat
 execute_state_emit : Nat
 opcode_Source : Nat
 source_within : Nat
 source_blank : Nat
 alu_operation : Nat
 execute_state_at : Nat
 alu_operation_1 : Nat
 alu_operation_2 : Nat
 alu_operation_3 : Nat
 alu_operation_4 : Nat
 alu_operation_5 : Nat
 alu_operation_6 : Nat
 alu_operation_7 : Nat
 alu_operation_8 : Nat
 alu_operation_9 : Nat
 alu_operation_10 : Nat
 alu_operation_11 : Nat
 alu_truth : Nat
 alu_operation_12 : Nat
 location_IsSlot : Nat
 location_Index : Nat
 law16_CheckerMatchesReference : Nat
 law16_CheckerOnce : Nat
 law16_CheckerLocal : Nat
 law16_CheckerSubset : Nat
 law16_CheckerKeeps : Nat
 law22_SpillallAccepted : Nat
 law16_CheckerSound : Nat
 law16_awake : Nat
 ref16_Few : Nat
 checker_Valid : Nat
 ref16_Valid : Nat
 checker_Check : Nat
 ref16_Check : Nat
 checker_Bound : Nat
 ref14_Check : Nat
 ref16_Copy : Nat
 law16_simulates : Nat
 ref08_Few : Nat
 ref15_Few : Nat
 machine_Check : Nat
 edge_Valid : Nat
 ref08_Check : Nat
 ref15_Valid : Nat
 checker_begin : Nat
 blockcheck_Check : Nat
 edge_Implies : Nat
 ref15_Initial : Nat
 machine_Code : Nat
 ref14_fail : Nat
 ref13_Code : Nat
 ref13_Terms : Nat
 ref14_grow : Nat
 ref12_Copy : Nat
 ref12_Move : Nat
 ref14_use : Nat
 ref12_Define : Nat
 ref08_Copy : Nat
 ref09_Prefix : Nat
 machine_block : Nat
 edge_total : Nat
 edge_pairs : Nat
 ref08_Instr : Nat
 ref04_InRange : Nat
 edge_Entry : Nat
 align_Code : Nat
 align_Terms : Nat
 blockcheck_checker_run : Nat
 ref13_Operations : Nat
 ref13_Others : Nat
 ref13_Same : Nat
 machine_Instr : Nat
 location_InRange : Nat
 edge_Initial : Nat
 align_skip_Instr : Nat
 align_copied : Nat
 align_skip_Mach : Nat
 align_moved : Nat
 align_Same : Nat
 blockcheck_checker_run_1 : Nat
 blockcheck_checker_row : Nat
 blockcheck_checker_use : Nat
 opcode_Machine : Nat
 machine_others : Nat
 machine_moves : Nat
 blockcheck_checker_cost : Nat
 blockcheck_checker_become : Nat
 transfer_Copy : Nat
 transfer_Move : Nat
 blockcheck_checker_instr : Nat
 machine_others_1 : Nat
 machine_others_2 : Nat
 machine_moves_1 : Nat
 machine_moves_2 : Nat
 transfer_rename : Nat
 transfer_Copy_1 : Nat
 transfer_Move_1 : Nat
 transfer_Define : Nat
 law12_TransferMatchesReference : Nat
 law12_TransferSound : Nat
 law12_TransferComplete : Nat
 law12_TransferMonotone : Nat
 law12_TransferKeeps : Nat
 law14_BlockcheckMatchesReference : Nat
 law14_BlockcheckSound : Nat
 law14_BlockcheckMonotone : Nat
 law14_BlockcheckSteps : Nat
 law14_BlockcheckKeeps : Nat
 law12_awake : Nat
 law12_known : Nat
 law12_holds : Nat
 law12_subset : Nat
 law14_awake : Nat
 law14_right : Nat
 ref14_Same : Nat
 law14_result : Nat
 ref10_Step : Nat
 ref10_Read : Nat
 law22_SpillallMatchesReference : Nat
 law04_LocationBijection : Nat
 law04_LocationTexts : Nat
 law04_LocationMatchesReference : Nat
 law04_LocationRange : Nat
 law04_awake : Nat
 location_Parse : Nat
 location_Text : Nat
 ref04_Parse : Nat
 ref04_Text : Nat
 strconv_Itoa : Nat
 ref04_Number : Nat
 ref04_Decimal : Nat
 ty_bcfail : Nat
@[simp] def Jq19 (p : Nums) : List IOp := [qo 17 (.call p.law23_awake []), qo 18 (.un .not (.t 17)), qo 19 (.mov (.t 18)), ⟨(some 20), (.load (some 3) (.t 5)), (some (19, false)), false⟩, ⟨(some 21), (.mov (.t 1)), (some (19, false)), false⟩, ⟨(some 22), (.call p.ref09_Right [(.t 20), (.t 21), (ci 0)]), (some (19, false)), false⟩, ⟨(some 23), (.un .not (.t 22)), (some (19, false)), false⟩, qo 24 (.pick (.t 19) (.c (.d (.bool true))) (.t 23)), qo 25 (.mov (.t 24)), ⟨(some 26), (.mov (.t 1)), (some (25, false)), false⟩, ⟨(some 27), (.len (.t 26)), (some (25, false)), false⟩, ⟨(some 28), (.faddr 0 (.t 5)), (some (25, false)), false⟩, ⟨(some 29), (.load none (.t 28)), (some (25, false)), false⟩, ⟨(some 30), (.bin .neq (.t 27) (.t 29)), (some (25, false)), false⟩, qo 31 (.pick (.t 25) (.c (.d (.bool true))) (.t 30)), qo 32 (.mov (.t 31)), ⟨(some 33), (.faddr 1 (.t 5)), (some (32, false)), false⟩, ⟨(some 34), (.load none (.t 33)), (some (32, false)), false⟩, ⟨(some 35), (.bin .eql (.t 34) (ci 0)), (some (32, false)), false⟩, qo 36 (.pick (.t 32) (.c (.d (.bool true))) (.t 35))]
def Jqn (p : Nums) : IC := (.region (Jq19 p) [])
@[simp] theorem Jen {p : Nums} : EqI (Jqn p) (.region (Jq19 p) []) := eqi
def Jqy (p : Nums) : IC := (.seq (.region [⟨(some 37), (.call p.law23_awake []), none, false⟩, ⟨(some 10), (.asg (.t 37)), none, false⟩] []) .ret)
@[simp] theorem Jey {p : Nums} : EqI (Jqy p) (.seq (.region [⟨(some 37), (.call p.law23_awake []), none, false⟩, ⟨(some 10), (.asg (.t 37)), none, false⟩] []) .ret) := eqi
@[simp] def Jq1k (p : Nums) : List IOp := [qo 38 (.load (some 3) (.t 5)), qo 39 (.mov (.t 1)), qo 40 (.mov (.t 2)), qo 41 (.conv .i64 (.t 40)), qo 42 (.bin .rem (.t 41) (ci 40)), qo 43 (.call p.ref09_Exec [(.t 38), (.t 39), (.t 42)]), qo 11 (.alloc [(zi 0), (zi 0), (zi 0), (zi 0), .nils, .nils, .nils, (zi 0)]), qn (.store 8 (.t 11) (.t 43))]
def Jq11 (p : Nums) : IC := (.region (Jq1k p) [])
@[simp] theorem Je11 {p : Nums} : EqI (Jq11 p) (.region (Jq1k p) []) := eqi
@[simp] def Jq1l (p : Nums) : List IOp := [qo 44 (.mov (.t 12)), qo 45 (.bin .lss (.t 44) (ci 101)), qo 46 (.mov (.t 45)), ⟨(some 47), (.faddr 0 (.t 11)), (some (46, true)), false⟩, ⟨(some 48), (.load none (.t 47)), (some (46, true)), false⟩, ⟨(some 49), (.bin .eql (.t 48) (ci 0)), (some (46, true)), false⟩, qo 50 (.pick (.t 46) (.t 49) (.c (.d (.bool false)))), qo 51 (.mov (.t 50)), ⟨(some 52), (.faddr 2 (.t 11)), (some (51, true)), false⟩, ⟨(some 53), (.load none (.t 52)), (some (51, true)), false⟩, ⟨(some 54), (.bin .neq (.t 53) (ci 0)), (some (51, true)), false⟩, qo 55 (.pick (.t 51) (.t 54) (.c (.d (.bool false))))]
def Jq12 (p : Nums) : IC := (.region (Jq1l p) [])
@[simp] theorem Je12 {p : Nums} : EqI (Jq12 p) (.region (Jq1l p) []) := eqi
@[simp] def Jq1m (p : Nums) : List IOp := [qo 58 (.load (some 3) (.t 5)), qo 59 (.load (some 8) (.t 11)), qo 60 (.call p.ref09_Step [(.t 58), (.t 59)]), qn (.store 8 (.t 11) (.t 60))]
def Jq13 (p : Nums) : IC := (.region (Jq1m p) [])
@[simp] theorem Je13 {p : Nums} : EqI (Jq13 p) (.region (Jq1m p) []) := eqi
@[simp] def Jq1n (p : Nums) : List IOp := [qo 56 (.mov (.t 12)), qo 57 (.bin .add (.t 56) (ci 1)), qo 12 (.asg (.t 57))]
def Jq14 (p : Nums) : IC := (.region (Jq1n p) [])
@[simp] theorem Je14 {p : Nums} : EqI (Jq14 p) (.region (Jq1n p) []) := eqi
def Jq15 (p : Nums) : IC := (.seq (.seq (Jq12 p) (.cond (.t 55) .skip (.exit 0))) (.seq (.block 1 (Jq13 p)) (Jq14 p)))
@[simp] theorem Je15 {p : Nums} : EqI (Jq15 p) (.seq (.seq (Jq12 p) (.cond (.t 55) .skip (.exit 0))) (.seq (.block 1 (Jq13 p)) (Jq14 p))) := eqi
@[simp] def Jq1o (p : Nums) : List IOp := [qo 61 (.faddr 0 (.t 11)), qo 62 (.load none (.t 61)), qo 63 (.bin .neq (.t 62) (ci 0)), qo 64 (.mov (.t 63)), ⟨(some 65), (.faddr 2 (.t 11)), (some (64, false)), false⟩, ⟨(some 66), (.load none (.t 65)), (some (64, false)), false⟩, ⟨(some 67), (.bin .neq (.t 66) (ci 0)), (some (64, false)), false⟩, qo 68 (.pick (.t 64) (.c (.d (.bool true))) (.t 67))]
def Jq16 (p : Nums) : IC := (.region (Jq1o p) [])
@[simp] theorem Je16 {p : Nums} : EqI (Jq16 p) (.region (Jq1o p) []) := eqi
def Jq17 (p : Nums) : IC := (.seq (.region [⟨(some 10), (.asg (.c (.d (.bool true)))), none, false⟩] []) .ret)
@[simp] theorem Je17 {p : Nums} : EqI (Jq17 p) (.seq (.region [⟨(some 10), (.asg (.c (.d (.bool true)))), none, false⟩] []) .ret) := eqi
@[simp] def Jq1a (p : Nums) : List IOp := [qo 69 (.load (some 3) (.t 5)), qo 70 (.call p.liveness_In [(.t 69)]), qo 13 (.asg (.t 70))]
def Jqo (p : Nums) : IC := (.region (Jq1a p) [])
@[simp] theorem Jeo {p : Nums} : EqI (Jqo p) (.region (Jq1a p) []) := eqi
@[simp] def Jq1b (p : Nums) : List IOp := [qo 71 (.mov (.t 3)), qo 72 (.conv .i64 (.t 71)), qo 73 (.faddr 1 (.t 5)), qo 74 (.load none (.t 73)), qo 75 (.bin .rem (.t 72) (.t 74)), qo 14 (.asg (.t 75))]
def Jqp (p : Nums) : IC := (.region (Jq1b p) [])
@[simp] theorem Jep {p : Nums} : EqI (Jqp p) (.region (Jq1b p) []) := eqi
@[simp] def Jq1c (p : Nums) : List IOp := [qo 76 (.mov (.t 13)), qo 77 (.len (.t 76)), qo 78 (.faddr 2 (.t 5)), qo 79 (.load none (.t 78)), qo 80 (.len (.t 79)), qo 81 (.bin .neq (.t 77) (.t 80)), qo 82 (.mov (.t 81)), ⟨(some 83), (.mov (.t 13)), (some (82, false)), false⟩, ⟨(some 84), (.faddr 1 (.t 11)), (some (82, false)), false⟩, ⟨(some 85), (.load none (.t 84)), (some (82, false)), false⟩, ⟨(some 86), (.iaddr 1 (.t 83) (.t 85)), (some (82, false)), false⟩, ⟨(some 87), (.load none (.t 86)), (some (82, false)), false⟩, ⟨(some 88), (.mov (.t 14)), (some (82, false)), false⟩, ⟨(some 89), (.call p.ref23_Has [(.t 87), (.t 88)]), (some (82, false)), false⟩, qo 90 (.pick (.t 82) (.c (.d (.bool true))) (.t 89))]
def Jqq (p : Nums) : IC := (.region (Jq1c p) [])
@[simp] theorem Jeq {p : Nums} : EqI (Jqq p) (.region (Jq1c p) []) := eqi
@[simp] def Jq1d (p : Nums) : List IOp := [qo 91 (.mov (.t 13)), qo 92 (.len (.t 91)), qo 93 (.faddr 2 (.t 5)), qo 94 (.load none (.t 93)), qo 95 (.len (.t 94)), qo 96 (.bin .eql (.t 92) (.t 95)), qo 10 (.asg (.t 96))]
def Jqr (p : Nums) : IC := (.region (Jq1d p) [])
@[simp] theorem Jer {p : Nums} : EqI (Jqr p) (.region (Jq1d p) []) := eqi
@[simp] def Jq1e (p : Nums) : List IOp := [qo 97 (.load (some 8) (.t 11)), qo 98 (.call p.ref09_Copy [(.t 97)]), qo 15 (.alloc [(zi 0), (zi 0), (zi 0), (zi 0), .nils, .nils, .nils, (zi 0)]), qn (.store 8 (.t 15) (.t 98))]
def Jqs (p : Nums) : IC := (.region (Jq1e p) [])
@[simp] theorem Jes {p : Nums} : EqI (Jqs p) (.region (Jq1e p) []) := eqi
@[simp] def Jq1f (p : Nums) : List IOp := [qo 99 (.faddr 4 (.t 15)), qo 100 (.load none (.t 99)), qo 101 (.mov (.t 14)), qo 102 (.mov (.t 4)), qo 103 (.iaddr 1 (.t 100) (.t 101)), qn (.store 1 (.t 103) (.t 102))]
def Jqt (p : Nums) : IC := (.region (Jq1f p) [])
@[simp] theorem Jet {p : Nums} : EqI (Jqt p) (.region (Jq1f p) []) := eqi
@[simp] def Jq1g (p : Nums) : List IOp := [qo 108 (.load (some 3) (.t 5)), qo 109 (.load (some 8) (.t 11)), qo 110 (.call p.ref09_Step [(.t 108), (.t 109)]), qn (.store 8 (.t 11) (.t 110))]
def Jqu (p : Nums) : IC := (.region (Jq1g p) [])
@[simp] theorem Jeu {p : Nums} : EqI (Jqu p) (.region (Jq1g p) []) := eqi
@[simp] def Jq1h (p : Nums) : List IOp := [qo 111 (.load (some 3) (.t 5)), qo 112 (.load (some 8) (.t 15)), qo 113 (.call p.ref09_Step [(.t 111), (.t 112)]), qn (.store 8 (.t 15) (.t 113))]
def Jqv (p : Nums) : IC := (.region (Jq1h p) [])
@[simp] theorem Jev {p : Nums} : EqI (Jqv p) (.region (Jq1h p) []) := eqi
def Jqw (p : Nums) : IC := (.seq (Jqu p) (Jqv p))
@[simp] theorem Jew {p : Nums} : EqI (Jqw p) (.seq (Jqu p) (Jqv p)) := eqi
@[simp] def Jq1i (p : Nums) : List IOp := [qo 106 (.mov (.t 16)), qo 107 (.bin .add (.t 106) (ci 1)), qo 16 (.asg (.t 107))]
def Jqx (p : Nums) : IC := (.region (Jq1i p) [])
@[simp] theorem Jex {p : Nums} : EqI (Jqx p) (.region (Jq1i p) []) := eqi
def Jqz (p : Nums) : IC := (.seq (.seq (.region [⟨(some 104), (.mov (.t 16)), none, false⟩, ⟨(some 105), (.bin .lss (.t 104) (.c (.d (.int .i64 80)))), none, false⟩] []) (.cond (.t 105) .skip (.exit 2))) (.seq (.block 3 (Jqw p)) (Jqx p)))
@[simp] theorem Jez {p : Nums} : EqI (Jqz p) (.seq (.seq (.region [⟨(some 104), (.mov (.t 16)), none, false⟩, ⟨(some 105), (.bin .lss (.t 104) (.c (.d (.int .i64 80)))), none, false⟩] []) (.cond (.t 105) .skip (.exit 2))) (.seq (.block 3 (Jqw p)) (Jqx p))) := eqi
@[simp] def Jq1j (p : Nums) : List IOp := [qo 114 (.faddr 0 (.t 11)), qo 115 (.load none (.t 114)), qo 116 (.faddr 0 (.t 15)), qo 117 (.load none (.t 116)), qo 118 (.bin .eql (.t 115) (.t 117)), qo 119 (.mov (.t 118)), ⟨(some 120), (.faddr 1 (.t 11)), (some (119, true)), false⟩, ⟨(some 121), (.load none (.t 120)), (some (119, true)), false⟩, ⟨(some 122), (.faddr 1 (.t 15)), (some (119, true)), false⟩, ⟨(some 123), (.load none (.t 122)), (some (119, true)), false⟩, ⟨(some 124), (.bin .eql (.t 121) (.t 123)), (some (119, true)), false⟩, qo 125 (.pick (.t 119) (.t 124) (.c (.d (.bool false)))), qo 126 (.mov (.t 125)), ⟨(some 127), (.faddr 2 (.t 11)), (some (126, true)), false⟩, ⟨(some 128), (.load none (.t 127)), (some (126, true)), false⟩, ⟨(some 129), (.faddr 2 (.t 15)), (some (126, true)), false⟩, ⟨(some 130), (.load none (.t 129)), (some (126, true)), false⟩, ⟨(some 131), (.bin .eql (.t 128) (.t 130)), (some (126, true)), false⟩, qo 132 (.pick (.t 126) (.t 131) (.c (.d (.bool false)))), qo 133 (.mov (.t 132)), ⟨(some 134), (.faddr 3 (.t 11)), (some (133, true)), false⟩, ⟨(some 135), (.load none (.t 134)), (some (133, true)), false⟩, ⟨(some 136), (.faddr 3 (.t 15)), (some (133, true)), false⟩, ⟨(some 137), (.load none (.t 136)), (some (133, true)), false⟩, ⟨(some 138), (.bin .eql (.t 135) (.t 137)), (some (133, true)), false⟩, qo 139 (.pick (.t 133) (.t 138) (.c (.d (.bool false)))), qo 140 (.mov (.t 139)), ⟨(some 141), (.faddr 7 (.t 11)), (some (140, true)), false⟩, ⟨(some 142), (.load none (.t 141)), (some (140, true)), false⟩, ⟨(some 143), (.faddr 7 (.t 15)), (some (140, true)), false⟩, ⟨(some 144), (.load none (.t 143)), (some (140, true)), false⟩, ⟨(some 145), (.bin .eql (.t 142) (.t 144)), (some (140, true)), false⟩, qo 146 (.pick (.t 140) (.t 145) (.c (.d (.bool false)))), qo 147 (.mov (.t 146)), ⟨(some 148), (.faddr 6 (.t 11)), (some (147, true)), false⟩, ⟨(some 149), (.load none (.t 148)), (some (147, true)), false⟩, ⟨(some 150), (.faddr 6 (.t 15)), (some (147, true)), false⟩, ⟨(some 151), (.load none (.t 150)), (some (147, true)), false⟩, ⟨(some 152), (.call p.ref09_Values [(.t 149), (.t 151)]), (some (147, true)), false⟩, qo 153 (.pick (.t 147) (.t 152) (.c (.d (.bool false)))), qo 10 (.asg (.t 153))]
def Jq10 (p : Nums) : IC := (.region (Jq1j p) [])
@[simp] theorem Je10 {p : Nums} : EqI (Jq10 p) (.region (Jq1j p) []) := eqi
def Jq18 (p : Nums) : IC := (.seq (.seq (Jqt p) .cut) (.seq (.seq (.region [⟨(some 16), (.asg (.c (.d (.int .i64 0)))), none, false⟩] []) (.block 2 (.loop (Jqz p)))) (.seq (Jq10 p) .ret)))
theorem Je18 {p : Nums} : EqI (Jq18 p) (.seq (.seq (Jqt p) .cut) (.seq (.seq (.region [⟨(some 16), (.asg (.c (.d (.int .i64 0)))), none, false⟩] []) (.block 2 (.loop (Jqz p)))) (.seq (Jq10 p) .ret))) := eqi
def Jta5 (p : Nums) : IC := (.seq (.region [⟨(some 5), (.box (.t 0)), none, false⟩, ⟨(some 10), (.asg (.c (.d (.bool false)))), none, false⟩] []) (.seq (.seq (Jqn p) (.cond (.t 36) (Jqy p) .skip)) (.seq (Jq11 p) (.seq (.seq (.region [⟨(some 12), (.asg (.c (.d (.int .i64 0)))), none, false⟩] []) (.block 0 (.loop (Jq15 p)))) (.seq (.seq (Jq16 p) (.cond (.t 68) (Jq17 p) .skip)) (.seq (Jqo p) (.seq (Jqp p) (.seq (.seq (Jqq p) (.cond (.t 90) (.seq (Jqr p) .ret) .skip)) (.seq (Jqs p) (Jq18 p))))))))))
@[simp] def Jq1s (p : Nums) : List IOp := [qo 3 (.build [(zi 0), (zi 0), (zi 0), (zi 0), (zi 0)] [(0, 1, (ci 5)), (1, 1, (ci 1)), (2, 1, (ci 1)), (3, 1, (ci 0))]), qo 4 (.bslice 5 1 [(.int .i64 0), (.int .i64 0), (.int .i64 0), (.int .i64 0), (.int .i64 0)] [(0, (.t 3))]), qo 5 (.build [(zi 0), (zi 0), (zi 0), (zi 0)] [(0, 1, (ci 3)), (1, 1, (ci 1))]), qo 6 (.build [.nils, (zi 0), (zi 0), (zi 0), (zi 0)] [(0, 1, (.t 4)), (1, 4, (.t 5))]), qo 1 (.alloc [.nils, (zi 0), (zi 0), (zi 0), (zi 0)]), qn (.store 5 (.t 1) (.t 6))]
def Jq1p (p : Nums) : IC := (.region (Jq1s p) [])
@[simp] theorem Je1p {p : Nums} : EqI (Jq1p p) (.region (Jq1s p) []) := eqi
@[simp] def Jq1t (p : Nums) : List IOp := [qo 7 (.build [(zi 0), (zi 0), (zi 0), (zi 0), (zi 0)] [(0, 1, (ci 1)), (1, 1, (ci 0))]), qo 8 (.bslice 5 1 [(.int .i64 0), (.int .i64 0), (.int .i64 0), (.int .i64 0), (.int .i64 0)] [(0, (.t 7))]), qo 9 (.build [(zi 0), (zi 0), (zi 0), (zi 0)] [(0, 1, (ci 1)), (2, 1, (ci 1))]), qo 10 (.build [.nils, (zi 0), (zi 0), (zi 0), (zi 0)] [(0, 1, (.t 8)), (1, 4, (.t 9))]), qo 11 (.load (some 5) (.t 1)), qo 12 (.bslice 5 2 [(.sl []), (.int .i64 0), (.int .i64 0), (.int .i64 0), (.int .i64 0)] [(0, (.t 10)), (1, (.t 11))]), qo 13 (.build [(zi 0), (zi 0), .nils] [(1, 1, (ci 3)), (2, 1, (.t 12))]), qo 2 (.alloc [(zi 0), (zi 0), .nils]), qn (.store 3 (.t 2) (.t 13))]
def Jq1q (p : Nums) : IC := (.region (Jq1t p) [])
@[simp] theorem Je1q {p : Nums} : EqI (Jq1q p) (.region (Jq1t p) []) := eqi
@[simp] def Jq1u (p : Nums) : List IOp := [qo 14 (.load (some 5) (.t 1)), qo 15 (.call p.liveness_Uses [(.t 14)]), qo 16 (.bslice 1 2 [(.int .i64 0)] [(0, (ci 0)), (1, (ci 1))]), qo 17 (.call p.ref07_Numbers [(.t 15), (.t 16)]), qo 18 (.mov (.t 17)), ⟨(some 19), (.load (some 5) (.t 1)), (some (18, true)), false⟩, ⟨(some 20), (.call p.liveness_Defs [(.t 19)]), (some (18, true)), false⟩, ⟨(some 21), (.bslice 1 1 [(.int .i64 0)] [(0, (ci 1))]), (some (18, true)), false⟩, ⟨(some 22), (.call p.ref07_Numbers [(.t 20), (.t 21)]), (some (18, true)), false⟩, qo 23 (.pick (.t 18) (.t 22) (.c (.d (.bool false)))), qo 24 (.mov (.t 23)), ⟨(some 25), (.load (some 3) (.t 2)), (some (24, true)), false⟩, ⟨(some 26), (.call p.liveness_In [(.t 25)]), (some (24, true)), false⟩, ⟨(some 27), (.bslice 1 1 [(.int .i64 0)] [(0, (ci 1))]), (some (24, true)), false⟩, ⟨(some 28), (.bslice 1 2 [(.int .i64 0)] [(0, (ci 0)), (1, (ci 1))]), (some (24, true)), false⟩, ⟨(some 29), (.bslice 1 2 [(.sl [])] [(0, (.t 27)), (1, (.t 28))]), (some (24, true)), false⟩, ⟨(some 30), (.call p.ref23_Same [(.t 26), (.t 29)]), (some (24, true)), false⟩, qo 31 (.pick (.t 24) (.t 30) (.c (.d (.bool false)))), qo 32 (.mov (.t 31)), ⟨(some 33), (.load (some 3) (.t 2)), (some (32, true)), false⟩, ⟨(some 34), (.call p.liveness_Out [(.t 33)]), (some (32, true)), false⟩, ⟨(some 35), (.bslice 1 2 [(.int .i64 0)] [(0, (ci 0)), (1, (ci 1))]), (some (32, true)), false⟩, ⟨(some 36), (.bslice 1 0 [(.int .i64 0)] []), (some (32, true)), false⟩, ⟨(some 37), (.bslice 1 2 [(.sl [])] [(0, (.t 35)), (1, (.t 36))]), (some (32, true)), false⟩, ⟨(some 38), (.call p.ref23_Same [(.t 34), (.t 37)]), (some (32, true)), false⟩, qo 39 (.pick (.t 32) (.t 38) (.c (.d (.bool false)))), qo 0 (.asg (.t 39))]
def Jq1r (p : Nums) : IC := (.region (Jq1u p) [])
@[simp] theorem Je1r {p : Nums} : EqI (Jq1r p) (.region (Jq1u p) []) := eqi
def Jta6 (p : Nums) : IC := (.seq (.region [⟨(some 0), (.asg (.c (.d (.bool false)))), none, false⟩] []) (.seq (Jq1p p) (.seq (Jq1q p) (.seq (Jq1r p) .ret))))
@[simp] def Jq9s (p : Nums) : List IOp := [qo 4 (.faddr 2 (.t 1)), qo 5 (.load none (.t 4)), qo 6 (.len (.t 5)), qo 7 (.bin .gtr (.t 6) (ci 40)), qo 8 (.mov (.t 7)), ⟨(some 9), (.faddr 1 (.t 1)), (some (8, false)), false⟩, ⟨(some 10), (.load none (.t 9)), (some (8, false)), false⟩, ⟨(some 11), (.bin .gtr (.t 10) (ci 60)), (some (8, false)), false⟩, qo 12 (.pick (.t 8) (.c (.d (.bool true))) (.t 11))]
def Jq9j (p : Nums) : IC := (.region (Jq9s p) [])
@[simp] theorem Je9j {p : Nums} : EqI (Jq9j p) (.region (Jq9s p) []) := eqi
def Jq9k (p : Nums) : IC := (.seq (.region [⟨(some 2), (.asg (.c (.d (.bool false)))), none, false⟩] []) .ret)
@[simp] theorem Je9k {p : Nums} : EqI (Jq9k p) (.seq (.region [⟨(some 2), (.asg (.c (.d (.bool false)))), none, false⟩] []) .ret) := eqi
@[simp] def Jq9t (p : Nums) : List IOp := [qo 13 (.mov (.t 3)), qo 14 (.faddr 2 (.t 1)), qo 15 (.load none (.t 14)), qo 16 (.len (.t 15)), qo 17 (.bin .lss (.t 13) (.t 16))]
def Jq9l (p : Nums) : IC := (.region (Jq9t p) [])
@[simp] theorem Je9l {p : Nums} : EqI (Jq9l p) (.region (Jq9t p) []) := eqi
@[simp] def Jq9u (p : Nums) : List IOp := [qo 20 (.faddr 2 (.t 1)), qo 21 (.load none (.t 20)), qo 22 (.mov (.t 3)), qo 23 (.iaddr 5 (.t 21) (.t 22)), qo 24 (.faddr 0 (.t 23)), qo 25 (.load none (.t 24)), qo 26 (.len (.t 25)), qo 27 (.bin .gtr (.t 26) (ci 100))]
def Jq9m (p : Nums) : IC := (.region (Jq9u p) [])
@[simp] theorem Je9m {p : Nums} : EqI (Jq9m p) (.region (Jq9u p) []) := eqi
def Jq9n (p : Nums) : IC := (.seq (.region [⟨(some 2), (.asg (.c (.d (.bool false)))), none, false⟩] []) .ret)
@[simp] theorem Je9n {p : Nums} : EqI (Jq9n p) (.seq (.region [⟨(some 2), (.asg (.c (.d (.bool false)))), none, false⟩] []) .ret) := eqi
def Jq9o (p : Nums) : IC := (.seq (Jq9m p) (.cond (.t 27) (Jq9n p) .skip))
@[simp] theorem Je9o {p : Nums} : EqI (Jq9o p) (.seq (Jq9m p) (.cond (.t 27) (Jq9n p) .skip)) := eqi
@[simp] def Jq9v (p : Nums) : List IOp := [qo 18 (.mov (.t 3)), qo 19 (.bin .add (.t 18) (ci 1)), qo 3 (.asg (.t 19))]
def Jq9p (p : Nums) : IC := (.region (Jq9v p) [])
@[simp] theorem Je9p {p : Nums} : EqI (Jq9p p) (.region (Jq9v p) []) := eqi
def Jq9q (p : Nums) : IC := (.seq (.seq (Jq9l p) (.cond (.t 17) .skip (.exit 0))) (.seq (.block 1 (Jq9o p)) (Jq9p p)))
@[simp] theorem Je9q {p : Nums} : EqI (Jq9q p) (.seq (.seq (Jq9l p) (.cond (.t 17) .skip (.exit 0))) (.seq (.block 1 (Jq9o p)) (Jq9p p))) := eqi
@[simp] def Jq9w (p : Nums) : List IOp := [qo 28 (.load (some 3) (.t 1)), qo 29 (.call p.ref07_Code [(.t 28)]), qo 30 (.bin .leq (.t 29) (ci 300)), qo 2 (.asg (.t 30))]
def Jq9r (p : Nums) : IC := (.region (Jq9w p) [])
@[simp] theorem Je9r {p : Nums} : EqI (Jq9r p) (.region (Jq9w p) []) := eqi
def Jtas (p : Nums) : IC := (.seq (.region [⟨(some 1), (.box (.t 0)), none, false⟩, ⟨(some 2), (.asg (.c (.d (.bool false)))), none, false⟩] []) (.seq (.seq (Jq9j p) (.cond (.t 12) (Jq9k p) .skip)) (.seq (.seq (.region [⟨(some 3), (.asg (.c (.d (.int .i64 0)))), none, false⟩] []) (.block 0 (.loop (Jq9q p)))) (.seq (Jq9r p) .ret))))
@[simp] def Jq91 (p : Nums) : List IOp := [qo 8 (.faddr 0 (.t 1)), qo 9 (.load none (.t 8)), qo 10 (.bin .lss (.t 9) (ci 0)), qo 11 (.mov (.t 10)), ⟨(some 12), (.faddr 0 (.t 1)), (some (11, false)), false⟩, ⟨(some 13), (.load none (.t 12)), (some (11, false)), false⟩, ⟨(some 14), (.faddr 1 (.t 1)), (some (11, false)), false⟩, ⟨(some 15), (.load none (.t 14)), (some (11, false)), false⟩, ⟨(some 16), (.bin .gtr (.t 13) (.t 15)), (some (11, false)), false⟩, qo 17 (.pick (.t 11) (.c (.d (.bool true))) (.t 16))]
def Jq8g (p : Nums) : IC := (.region (Jq91 p) [])
@[simp] theorem Je8g {p : Nums} : EqI (Jq8g p) (.region (Jq91 p) []) := eqi
def Jq8r (p : Nums) : IC := (.seq (.region [⟨(some 2), (.asg (.c (.d (.int .i64 9)))), none, false⟩] []) .ret)
@[simp] theorem Je8r {p : Nums} : EqI (Jq8r p) (.seq (.region [⟨(some 2), (.asg (.c (.d (.int .i64 9)))), none, false⟩] []) .ret) := eqi
@[simp] def Jq98 (p : Nums) : List IOp := [qo 18 (.faddr 1 (.t 1)), qo 19 (.load none (.t 18)), qo 20 (.bin .gtr (.t 19) (ci 1048576))]
def Jq8u (p : Nums) : IC := (.region (Jq98 p) [])
@[simp] theorem Je8u {p : Nums} : EqI (Jq8u p) (.region (Jq98 p) []) := eqi
def Jq8v (p : Nums) : IC := (.seq (.region [⟨(some 2), (.asg (.c (.d (.int .i64 6)))), none, false⟩] []) .ret)
@[simp] theorem Je8v {p : Nums} : EqI (Jq8v p) (.seq (.region [⟨(some 2), (.asg (.c (.d (.int .i64 6)))), none, false⟩] []) .ret) := eqi
@[simp] def Jq99 (p : Nums) : List IOp := [qo 21 (.faddr 2 (.t 1)), qo 22 (.load none (.t 21)), qo 23 (.len (.t 22)), qo 24 (.bin .eql (.t 23) (ci 0))]
def Jq8w (p : Nums) : IC := (.region (Jq99 p) [])
@[simp] theorem Je8w {p : Nums} : EqI (Jq8w p) (.region (Jq99 p) []) := eqi
def Jq8x (p : Nums) : IC := (.seq (.region [⟨(some 2), (.asg (.c (.d (.int .i64 14)))), none, false⟩] []) .ret)
@[simp] theorem Je8x {p : Nums} : EqI (Jq8x p) (.seq (.region [⟨(some 2), (.asg (.c (.d (.int .i64 14)))), none, false⟩] []) .ret) := eqi
@[simp] def Jq9a (p : Nums) : List IOp := [qo 25 (.faddr 2 (.t 1)), qo 26 (.load none (.t 25)), qo 27 (.len (.t 26)), qo 28 (.bin .gtr (.t 27) (ci 1048576)), qo 29 (.mov (.t 28)), ⟨(some 30), (.load (some 3) (.t 1)), (some (29, false)), false⟩, ⟨(some 31), (.call p.ref07_Code [(.t 30)]), (some (29, false)), false⟩, ⟨(some 32), (.bin .gtr (.t 31) (ci 1048576)), (some (29, false)), false⟩, qo 33 (.pick (.t 29) (.c (.d (.bool true))) (.t 32))]
def Jq8y (p : Nums) : IC := (.region (Jq9a p) [])
@[simp] theorem Je8y {p : Nums} : EqI (Jq8y p) (.region (Jq9a p) []) := eqi
def Jq8z (p : Nums) : IC := (.seq (.region [⟨(some 2), (.asg (.c (.d (.int .i64 6)))), none, false⟩] []) .ret)
@[simp] theorem Je8z {p : Nums} : EqI (Jq8z p) (.seq (.region [⟨(some 2), (.asg (.c (.d (.int .i64 6)))), none, false⟩] []) .ret) := eqi
@[simp] def Jq9b (p : Nums) : List IOp := [qo 34 (.mov (.t 3)), qo 35 (.faddr 2 (.t 1)), qo 36 (.load none (.t 35)), qo 37 (.len (.t 36)), qo 38 (.bin .lss (.t 34) (.t 37))]
def Jq90 (p : Nums) : IC := (.region (Jq9b p) [])
@[simp] theorem Je90 {p : Nums} : EqI (Jq90 p) (.region (Jq9b p) []) := eqi
@[simp] def Jq92 (p : Nums) : List IOp := [qo 41 (.faddr 2 (.t 1)), qo 42 (.load none (.t 41)), qo 43 (.mov (.t 3)), qo 44 (.iaddr 5 (.t 42) (.t 43)), qo 45 (.load (some 5) (.t 44)), qo 4 (.alloc [.nils, (zi 0), (zi 0), (zi 0), (zi 0)]), qn (.store 5 (.t 4) (.t 45))]
def Jq8h (p : Nums) : IC := (.region (Jq92 p) [])
@[simp] theorem Je8h {p : Nums} : EqI (Jq8h p) (.region (Jq92 p) []) := eqi
@[simp] def Jq93 (p : Nums) : List IOp := [qo 46 (.mov (.t 5)), qo 47 (.faddr 0 (.t 4)), qo 48 (.load none (.t 47)), qo 49 (.len (.t 48)), qo 50 (.bin .lss (.t 46) (.t 49))]
def Jq8i (p : Nums) : IC := (.region (Jq93 p) [])
@[simp] theorem Je8i {p : Nums} : EqI (Jq8i p) (.region (Jq93 p) []) := eqi
@[simp] def Jq94 (p : Nums) : List IOp := [qp 53 (.faddr 0 (.t 4)), qp 54 (.load none (.t 53)), qp 55 (.mov (.t 5)), qp 56 (.iaddr 5 (.t 54) (.t 55)), qp 57 (.load (some 5) (.t 56)), qp 58 (.faddr 1 (.t 1)), qp 59 (.load none (.t 58)), qo 60 (.call p.ref07_Instr [(.t 57), (.t 59)]), qo 6 (.asg (.t 60))]
def Jq8j (p : Nums) : IC := (.region (Jq94 p) [])
@[simp] theorem Je8j {p : Nums} : EqI (Jq8j p) (.region (Jq94 p) []) := eqi
def Jq8k (p : Nums) : IC := (.seq (.region [⟨(some 63), (.mov (.t 6)), none, false⟩, ⟨(some 2), (.asg (.t 63)), none, false⟩] []) .ret)
@[simp] theorem Je8k {p : Nums} : EqI (Jq8k p) (.seq (.region [⟨(some 63), (.mov (.t 6)), none, false⟩, ⟨(some 2), (.asg (.t 63)), none, false⟩] []) .ret) := eqi
def Jq8l (p : Nums) : IC := (.seq (Jq8j p) (.seq (.region [⟨(some 61), (.mov (.t 6)), none, false⟩, ⟨(some 62), (.bin .neq (.t 61) (.c (.d (.int .i64 0)))), none, false⟩] []) (.cond (.t 62) (Jq8k p) .skip)))
@[simp] theorem Je8l {p : Nums} : EqI (Jq8l p) (.seq (Jq8j p) (.seq (.region [⟨(some 61), (.mov (.t 6)), none, false⟩, ⟨(some 62), (.bin .neq (.t 61) (.c (.d (.int .i64 0)))), none, false⟩] []) (.cond (.t 62) (Jq8k p) .skip))) := eqi
@[simp] def Jq95 (p : Nums) : List IOp := [qo 51 (.mov (.t 5)), qo 52 (.bin .add (.t 51) (ci 1)), qo 5 (.asg (.t 52))]
def Jq8m (p : Nums) : IC := (.region (Jq95 p) [])
@[simp] theorem Je8m {p : Nums} : EqI (Jq8m p) (.region (Jq95 p) []) := eqi
def Jq8n (p : Nums) : IC := (.seq (.seq (Jq8i p) (.cond (.t 50) .skip (.exit 2))) (.seq (.block 3 (Jq8l p)) (Jq8m p)))
@[simp] theorem Je8n {p : Nums} : EqI (Jq8n p) (.seq (.seq (Jq8i p) (.cond (.t 50) .skip (.exit 2))) (.seq (.block 3 (Jq8l p)) (Jq8m p))) := eqi
@[simp] def Jq96 (p : Nums) : List IOp := [qo 64 (.faddr 1 (.t 4)), qo 65 (.load (some 4) (.t 64)), qo 66 (.faddr 1 (.t 1)), qo 67 (.load none (.t 66)), qo 68 (.faddr 2 (.t 1)), qo 69 (.load none (.t 68)), qo 70 (.len (.t 69)), qo 71 (.call p.ref07_Term [(.t 65), (.t 67), (.t 70)]), qo 7 (.asg (.t 71))]
def Jq8o (p : Nums) : IC := (.region (Jq96 p) [])
@[simp] theorem Je8o {p : Nums} : EqI (Jq8o p) (.region (Jq96 p) []) := eqi
def Jq8p (p : Nums) : IC := (.seq (.region [⟨(some 74), (.mov (.t 7)), none, false⟩, ⟨(some 2), (.asg (.t 74)), none, false⟩] []) .ret)
@[simp] theorem Je8p {p : Nums} : EqI (Jq8p p) (.seq (.region [⟨(some 74), (.mov (.t 7)), none, false⟩, ⟨(some 2), (.asg (.t 74)), none, false⟩] []) .ret) := eqi
def Jq8q (p : Nums) : IC := (.seq (Jq8h p) (.seq (.seq (.region [⟨(some 5), (.asg (.c (.d (.int .i64 0)))), none, false⟩] []) (.block 2 (.loop (Jq8n p)))) (.seq (Jq8o p) (.seq (.region [⟨(some 72), (.mov (.t 7)), none, false⟩, ⟨(some 73), (.bin .neq (.t 72) (.c (.d (.int .i64 0)))), none, false⟩] []) (.cond (.t 73) (Jq8p p) .skip)))))
@[simp] theorem Je8q {p : Nums} : EqI (Jq8q p) (.seq (Jq8h p) (.seq (.seq (.region [⟨(some 5), (.asg (.c (.d (.int .i64 0)))), none, false⟩] []) (.block 2 (.loop (Jq8n p)))) (.seq (Jq8o p) (.seq (.region [⟨(some 72), (.mov (.t 7)), none, false⟩, ⟨(some 73), (.bin .neq (.t 72) (.c (.d (.int .i64 0)))), none, false⟩] []) (.cond (.t 73) (Jq8p p) .skip))))) := eqi
@[simp] def Jq97 (p : Nums) : List IOp := [qo 39 (.mov (.t 3)), qo 40 (.bin .add (.t 39) (ci 1)), qo 3 (.asg (.t 40))]
def Jq8s (p : Nums) : IC := (.region (Jq97 p) [])
@[simp] theorem Je8s {p : Nums} : EqI (Jq8s p) (.region (Jq97 p) []) := eqi
def Jq8t (p : Nums) : IC := (.seq (.seq (Jq90 p) (.cond (.t 38) .skip (.exit 0))) (.seq (.block 1 (Jq8q p)) (Jq8s p)))
@[simp] theorem Je8t {p : Nums} : EqI (Jq8t p) (.seq (.seq (Jq90 p) (.cond (.t 38) .skip (.exit 0))) (.seq (.block 1 (Jq8q p)) (Jq8s p))) := eqi
def Jtaq (p : Nums) : IC := (.seq (.region [⟨(some 1), (.box (.t 0)), none, false⟩, ⟨(some 2), (.asg (.c (.d (.int .i64 0)))), none, false⟩] []) (.seq (.seq (Jq8g p) (.cond (.t 17) (Jq8r p) .skip)) (.seq (.seq (Jq8u p) (.cond (.t 20) (Jq8v p) .skip)) (.seq (.seq (Jq8w p) (.cond (.t 24) (Jq8x p) .skip)) (.seq (.seq (Jq8y p) (.cond (.t 33) (Jq8z p) .skip)) (.seq (.seq (.region [⟨(some 3), (.asg (.c (.d (.int .i64 0)))), none, false⟩] []) (.block 0 (.loop (Jq8t p)))) (.seq (.region [⟨(some 2), (.asg (.c (.d (.int .i64 0)))), none, false⟩] []) .ret)))))))
@[simp] def Jqah (p : Nums) : List IOp := [qo 6 (.mov (.t 0)), qo 7 (.len (.t 6)), qo 8 (.mov (.t 1)), qo 9 (.len (.t 8)), qo 10 (.bin .neq (.t 7) (.t 9))]
def Jqa9 (p : Nums) : IC := (.region (Jqah p) [])
@[simp] theorem Jea9 {p : Nums} : EqI (Jqa9 p) (.region (Jqah p) []) := eqi
def Jqaa (p : Nums) : IC := (.seq (.region [⟨(some 4), (.asg (.c (.d (.bool false)))), none, false⟩] []) .ret)
@[simp] theorem Jeaa {p : Nums} : EqI (Jqaa p) (.seq (.region [⟨(some 4), (.asg (.c (.d (.bool false)))), none, false⟩] []) .ret) := eqi
@[simp] def Jqai (p : Nums) : List IOp := [qo 11 (.mov (.t 5)), qo 12 (.mov (.t 0)), qo 13 (.len (.t 12)), qo 14 (.bin .lss (.t 11) (.t 13))]
def Jqab (p : Nums) : IC := (.region (Jqai p) [])
@[simp] theorem Jeab {p : Nums} : EqI (Jqab p) (.region (Jqai p) []) := eqi
@[simp] def Jqaj (p : Nums) : List IOp := [qp 17 (.mov (.t 0)), qp 18 (.mov (.t 5)), qp 19 (.iaddr 1 (.t 17) (.t 18)), qp 20 (.load none (.t 19)), qp 21 (.mov (.t 1)), qp 22 (.mov (.t 5)), qp 23 (.iaddr 1 (.t 21) (.t 22)), qp 24 (.load none (.t 23)), qo 25 (.bin .neq (.t 20) (.t 24))]
def Jqac (p : Nums) : IC := (.region (Jqaj p) [])
@[simp] theorem Jeac {p : Nums} : EqI (Jqac p) (.region (Jqaj p) []) := eqi
def Jqad (p : Nums) : IC := (.seq (.region [⟨(some 4), (.asg (.c (.d (.bool false)))), none, false⟩] []) .ret)
@[simp] theorem Jead {p : Nums} : EqI (Jqad p) (.seq (.region [⟨(some 4), (.asg (.c (.d (.bool false)))), none, false⟩] []) .ret) := eqi
def Jqae (p : Nums) : IC := (.seq (Jqac p) (.cond (.t 25) (Jqad p) .skip))
@[simp] theorem Jeae {p : Nums} : EqI (Jqae p) (.seq (Jqac p) (.cond (.t 25) (Jqad p) .skip)) := eqi
@[simp] def Jqak (p : Nums) : List IOp := [qo 15 (.mov (.t 5)), qo 16 (.bin .add (.t 15) (ci 1)), qo 5 (.asg (.t 16))]
def Jqaf (p : Nums) : IC := (.region (Jqak p) [])
@[simp] theorem Jeaf {p : Nums} : EqI (Jqaf p) (.region (Jqak p) []) := eqi
def Jqag (p : Nums) : IC := (.seq (.seq (Jqab p) (.cond (.t 14) .skip (.exit 0))) (.seq (.block 1 (Jqae p)) (Jqaf p)))
@[simp] theorem Jeag {p : Nums} : EqI (Jqag p) (.seq (.seq (Jqab p) (.cond (.t 14) .skip (.exit 0))) (.seq (.block 1 (Jqae p)) (Jqaf p))) := eqi
def Jtau (p : Nums) : IC := (.seq (.region [⟨(some 4), (.asg (.c (.d (.bool false)))), none, false⟩] []) (.seq (.seq (Jqa9 p) (.cond (.t 10) (Jqaa p) .skip)) (.seq (.seq (.region [⟨(some 5), (.asg (.c (.d (.int .i64 0)))), none, false⟩] []) (.block 0 (.loop (Jqag p)))) (.seq (.region [⟨(some 4), (.asg (.c (.d (.bool true)))), none, false⟩] []) .ret))))
@[simp] def Jq2h (p : Nums) : List IOp := [qo 6 (.load (some 5) (.t 1)), qo 7 (.call p.liveness_scan [(.t 6)]), qo 5 (.mov (.t 7)), qo 8 (.ext (.t 5) 0), qo 9 (.ext (.t 5) 1), qo 3 (.asg (.t 8)), qo 4 (.asg (.t 9))]
def Jq2f (p : Nums) : IC := (.region (Jq2h p) [])
@[simp] theorem Je2f {p : Nums} : EqI (Jq2f p) (.region (Jq2h p) []) := eqi
@[simp] def Jq2i (p : Nums) : List IOp := [qo 10 (.mov (.t 3)), qo 11 (.call p.liveness_set_sorted [(.t 10)]), qo 2 (.asg (.t 11))]
def Jq2g (p : Nums) : IC := (.region (Jq2i p) [])
@[simp] theorem Je2g {p : Nums} : EqI (Jq2g p) (.region (Jq2i p) []) := eqi
def Jtaa (p : Nums) : IC := (.seq (.region [⟨(some 1), (.box (.t 0)), none, false⟩, ⟨(some 2), (.asg (.c .nils)), none, false⟩] []) (.seq (Jq2f p) (.seq (Jq2g p) .ret)))
@[simp] def Jq1x (p : Nums) : List IOp := [qo 6 (.load (some 5) (.t 1)), qo 7 (.call p.liveness_scan [(.t 6)]), qo 5 (.mov (.t 7)), qo 8 (.ext (.t 5) 0), qo 9 (.ext (.t 5) 1), qo 3 (.asg (.t 8)), qo 4 (.asg (.t 9))]
def Jq1v (p : Nums) : IC := (.region (Jq1x p) [])
@[simp] theorem Je1v {p : Nums} : EqI (Jq1v p) (.region (Jq1x p) []) := eqi
@[simp] def Jq1y (p : Nums) : List IOp := [qo 10 (.mov (.t 4)), qo 11 (.call p.liveness_set_sorted [(.t 10)]), qo 2 (.asg (.t 11))]
def Jq1w (p : Nums) : IC := (.region (Jq1y p) [])
@[simp] theorem Je1w {p : Nums} : EqI (Jq1w p) (.region (Jq1y p) []) := eqi
def Jta7 (p : Nums) : IC := (.seq (.region [⟨(some 1), (.box (.t 0)), none, false⟩, ⟨(some 2), (.asg (.c .nils)), none, false⟩] []) (.seq (Jq1v p) (.seq (Jq1w p) .ret)))
@[simp] def Jqe3 (p : Nums) : List IOp := [qo 6 (.mov (.t 0)), qo 7 (.len (.t 6)), qo 8 (.mov (.t 1)), qo 9 (.len (.t 8)), qo 10 (.bin .neq (.t 7) (.t 9))]
def Jqdv (p : Nums) : IC := (.region (Jqe3 p) [])
@[simp] theorem Jedv {p : Nums} : EqI (Jqdv p) (.region (Jqe3 p) []) := eqi
def Jqdw (p : Nums) : IC := (.seq (.region [⟨(some 4), (.asg (.c (.d (.bool false)))), none, false⟩] []) .ret)
@[simp] theorem Jedw {p : Nums} : EqI (Jqdw p) (.seq (.region [⟨(some 4), (.asg (.c (.d (.bool false)))), none, false⟩] []) .ret) := eqi
@[simp] def Jqe4 (p : Nums) : List IOp := [qo 11 (.mov (.t 5)), qo 12 (.mov (.t 0)), qo 13 (.len (.t 12)), qo 14 (.bin .lss (.t 11) (.t 13))]
def Jqdx (p : Nums) : IC := (.region (Jqe4 p) [])
@[simp] theorem Jedx {p : Nums} : EqI (Jqdx p) (.region (Jqe4 p) []) := eqi
@[simp] def Jqe5 (p : Nums) : List IOp := [qp 17 (.mov (.t 0)), qp 18 (.mov (.t 5)), qp 19 (.iaddr 1 (.t 17) (.t 18)), qp 20 (.load none (.t 19)), qp 21 (.mov (.t 1)), qp 22 (.mov (.t 5)), qp 23 (.iaddr 1 (.t 21) (.t 22)), qp 24 (.load none (.t 23)), qo 25 (.call p.ref07_Numbers [(.t 20), (.t 24)]), qo 26 (.un .not (.t 25))]
def Jqdy (p : Nums) : IC := (.region (Jqe5 p) [])
@[simp] theorem Jedy {p : Nums} : EqI (Jqdy p) (.region (Jqe5 p) []) := eqi
def Jqdz (p : Nums) : IC := (.seq (.region [⟨(some 4), (.asg (.c (.d (.bool false)))), none, false⟩] []) .ret)
@[simp] theorem Jedz {p : Nums} : EqI (Jqdz p) (.seq (.region [⟨(some 4), (.asg (.c (.d (.bool false)))), none, false⟩] []) .ret) := eqi
def Jqe0 (p : Nums) : IC := (.seq (Jqdy p) (.cond (.t 26) (Jqdz p) .skip))
@[simp] theorem Jee0 {p : Nums} : EqI (Jqe0 p) (.seq (Jqdy p) (.cond (.t 26) (Jqdz p) .skip)) := eqi
@[simp] def Jqe6 (p : Nums) : List IOp := [qo 15 (.mov (.t 5)), qo 16 (.bin .add (.t 15) (ci 1)), qo 5 (.asg (.t 16))]
def Jqe1 (p : Nums) : IC := (.region (Jqe6 p) [])
@[simp] theorem Jee1 {p : Nums} : EqI (Jqe1 p) (.region (Jqe6 p) []) := eqi
def Jqe2 (p : Nums) : IC := (.seq (.seq (Jqdx p) (.cond (.t 14) .skip (.exit 0))) (.seq (.block 1 (Jqe0 p)) (Jqe1 p)))
@[simp] theorem Jee2 {p : Nums} : EqI (Jqe2 p) (.seq (.seq (Jqdx p) (.cond (.t 14) .skip (.exit 0))) (.seq (.block 1 (Jqe0 p)) (Jqe1 p))) := eqi
def Jtb4 (p : Nums) : IC := (.seq (.region [⟨(some 4), (.asg (.c (.d (.bool false)))), none, false⟩] []) (.seq (.seq (Jqdv p) (.cond (.t 10) (Jqdw p) .skip)) (.seq (.seq (.region [⟨(some 5), (.asg (.c (.d (.int .i64 0)))), none, false⟩] []) (.block 0 (.loop (Jqe2 p)))) (.seq (.region [⟨(some 4), (.asg (.c (.d (.bool true)))), none, false⟩] []) .ret))))
@[simp] def Jq23 (p : Nums) : List IOp := [qo 6 (.load (some 3) (.t 1)), qo 7 (.call p.liveness_solve [(.t 6)]), qo 8 (.len (.t 7)), qo 9 (.mov (ci 0))]
def Jq1z (p : Nums) : IC := (.region (Jq23 p) [])
@[simp] theorem Je1z {p : Nums} : EqI (Jq1z p) (.region (Jq23 p) []) := eqi
@[simp] def Jq24 (p : Nums) : List IOp := [qo 11 (.iaddr 1 (.t 7) (.t 9)), qo 12 (.load none (.t 11)), qo 5 (.asg (.t 12))]
def Jq20 (p : Nums) : IC := (.region (Jq24 p) [])
@[simp] theorem Je20 {p : Nums} : EqI (Jq20 p) (.region (Jq24 p) []) := eqi
@[simp] def Jq25 (p : Nums) : List IOp := [qo 13 (.mov (.t 3)), qo 14 (.mov (.t 5)), qo 15 (.call p.liveness_set_sorted [(.t 14)]), qo 16 (.bslice 1 1 [(.sl [])] [(0, (.t 15))]), qo 17 (.app 1 24 (.t 13) (.t 16)), qo 3 (.asg (.t 17))]
def Jq21 (p : Nums) : IC := (.region (Jq25 p) [])
@[simp] theorem Je21 {p : Nums} : EqI (Jq21 p) (.region (Jq25 p) []) := eqi
def Jq22 (p : Nums) : IC := (.seq (.region [⟨(some 10), (.bin .lss (.t 9) (.t 8)), none, false⟩] []) (.seq (.cond (.t 10) .skip (.exit 0)) (.seq (.block 1 (.seq (Jq20 p) (Jq21 p))) (.region [⟨(some 18), (.bin .add (.t 9) (.c (.d (.int .i64 1)))), none, false⟩, ⟨(some 9), (.mov (.t 18)), none, false⟩] []))))
@[simp] theorem Je22 {p : Nums} : EqI (Jq22 p) (.seq (.region [⟨(some 10), (.bin .lss (.t 9) (.t 8)), none, false⟩] []) (.seq (.cond (.t 10) .skip (.exit 0)) (.seq (.block 1 (.seq (Jq20 p) (Jq21 p))) (.region [⟨(some 18), (.bin .add (.t 9) (.c (.d (.int .i64 1)))), none, false⟩, ⟨(some 9), (.mov (.t 18)), none, false⟩] [])))) := eqi
def Jta8 (p : Nums) : IC := (.seq (.region [⟨(some 1), (.box (.t 0)), none, false⟩, ⟨(some 2), (.asg (.c .nils)), none, false⟩] []) (.seq (.region [⟨(some 3), (.asg (.c .nils)), none, false⟩] []) (.seq (.seq (Jq1z p) (.block 0 (.loop (Jq22 p)))) (.seq (.region [⟨(some 19), (.mov (.t 3)), none, false⟩, ⟨(some 2), (.asg (.t 19)), none, false⟩] []) .ret))))
@[simp] def Jq2b (p : Nums) : List IOp := [qo 7 (.load (some 3) (.t 1)), qo 8 (.call p.liveness_solve [(.t 7)]), qo 3 (.asg (.t 8))]
def Jq26 (p : Nums) : IC := (.region (Jq2b p) [])
@[simp] theorem Je26 {p : Nums} : EqI (Jq26 p) (.region (Jq2b p) []) := eqi
@[simp] def Jq2c (p : Nums) : List IOp := [qo 9 (.faddr 2 (.t 1)), qo 10 (.load none (.t 9)), qo 11 (.len (.t 10)), qo 12 (.mov (ci 0))]
def Jq27 (p : Nums) : IC := (.region (Jq2c p) [])
@[simp] theorem Je27 {p : Nums} : EqI (Jq27 p) (.region (Jq2c p) []) := eqi
@[simp] def Jq2d (p : Nums) : List IOp := [qo 14 (.iaddr 5 (.t 10) (.t 12)), qo 15 (.load (some 5) (.t 14)), qo 6 (.alloc [.nils, (zi 0), (zi 0), (zi 0), (zi 0)]), qn (.store 5 (.t 6) (.t 15))]
def Jq28 (p : Nums) : IC := (.region (Jq2d p) [])
@[simp] theorem Je28 {p : Nums} : EqI (Jq28 p) (.region (Jq2d p) []) := eqi
@[simp] def Jq2e (p : Nums) : List IOp := [qo 16 (.mov (.t 4)), qo 17 (.mov (.t 3)), qo 18 (.load (some 5) (.t 6)), qo 19 (.call p.liveness_exit [(.t 17), (.t 18)]), qo 20 (.call p.liveness_set_sorted [(.t 19)]), qo 21 (.bslice 1 1 [(.sl [])] [(0, (.t 20))]), qo 22 (.app 1 24 (.t 16) (.t 21)), qo 4 (.asg (.t 22))]
def Jq29 (p : Nums) : IC := (.region (Jq2e p) [])
@[simp] theorem Je29 {p : Nums} : EqI (Jq29 p) (.region (Jq2e p) []) := eqi
def Jq2a (p : Nums) : IC := (.seq (.region [⟨(some 13), (.bin .lss (.t 12) (.t 11)), none, false⟩] []) (.seq (.cond (.t 13) .skip (.exit 0)) (.seq (.block 1 (.seq (Jq28 p) (Jq29 p))) (.region [⟨(some 23), (.bin .add (.t 12) (.c (.d (.int .i64 1)))), none, false⟩, ⟨(some 12), (.mov (.t 23)), none, false⟩] []))))
@[simp] theorem Je2a {p : Nums} : EqI (Jq2a p) (.seq (.region [⟨(some 13), (.bin .lss (.t 12) (.t 11)), none, false⟩] []) (.seq (.cond (.t 13) .skip (.exit 0)) (.seq (.block 1 (.seq (Jq28 p) (Jq29 p))) (.region [⟨(some 23), (.bin .add (.t 12) (.c (.d (.int .i64 1)))), none, false⟩, ⟨(some 12), (.mov (.t 23)), none, false⟩] [])))) := eqi
def Jta9 (p : Nums) : IC := (.seq (.region [⟨(some 1), (.box (.t 0)), none, false⟩, ⟨(some 2), (.asg (.c .nils)), none, false⟩] []) (.seq (Jq26 p) (.seq (.region [⟨(some 4), (.asg (.c .nils)), none, false⟩] []) (.seq (.seq (Jq27 p) (.block 0 (.loop (Jq2a p)))) (.seq (.region [⟨(some 24), (.mov (.t 4)), none, false⟩, ⟨(some 2), (.asg (.t 24)), none, false⟩] []) .ret)))))
@[simp] def Jqds (p : Nums) : List IOp := [qo 6 (.mov (.t 5)), qo 7 (.mov (.t 0)), qo 8 (.len (.t 7)), qo 9 (.bin .lss (.t 6) (.t 8))]
def Jqdm (p : Nums) : IC := (.region (Jqds p) [])
@[simp] theorem Jedm {p : Nums} : EqI (Jqdm p) (.region (Jqds p) []) := eqi
@[simp] def Jqdt (p : Nums) : List IOp := [qo 12 (.mov (.t 0)), qo 13 (.mov (.t 5)), qo 14 (.iaddr 1 (.t 12) (.t 13)), qo 15 (.load none (.t 14)), qo 16 (.mov (.t 1)), qo 17 (.bin .eql (.t 15) (.t 16))]
def Jqdn (p : Nums) : IC := (.region (Jqdt p) [])
@[simp] theorem Jedn {p : Nums} : EqI (Jqdn p) (.region (Jqdt p) []) := eqi
def Jqdo (p : Nums) : IC := (.seq (.region [⟨(some 4), (.asg (.c (.d (.bool true)))), none, false⟩] []) .ret)
@[simp] theorem Jedo {p : Nums} : EqI (Jqdo p) (.seq (.region [⟨(some 4), (.asg (.c (.d (.bool true)))), none, false⟩] []) .ret) := eqi
def Jqdp (p : Nums) : IC := (.seq (Jqdn p) (.cond (.t 17) (Jqdo p) .skip))
@[simp] theorem Jedp {p : Nums} : EqI (Jqdp p) (.seq (Jqdn p) (.cond (.t 17) (Jqdo p) .skip)) := eqi
@[simp] def Jqdu (p : Nums) : List IOp := [qo 10 (.mov (.t 5)), qo 11 (.bin .add (.t 10) (ci 1)), qo 5 (.asg (.t 11))]
def Jqdq (p : Nums) : IC := (.region (Jqdu p) [])
@[simp] theorem Jedq {p : Nums} : EqI (Jqdq p) (.region (Jqdu p) []) := eqi
def Jqdr (p : Nums) : IC := (.seq (.seq (Jqdm p) (.cond (.t 9) .skip (.exit 0))) (.seq (.block 1 (Jqdp p)) (Jqdq p)))
@[simp] theorem Jedr {p : Nums} : EqI (Jqdr p) (.seq (.seq (Jqdm p) (.cond (.t 9) .skip (.exit 0))) (.seq (.block 1 (Jqdp p)) (Jqdq p))) := eqi
def Jtb3 (p : Nums) : IC := (.seq (.region [⟨(some 4), (.asg (.c (.d (.bool false)))), none, false⟩] []) (.seq (.seq (.region [⟨(some 5), (.asg (.c (.d (.int .i64 0)))), none, false⟩] []) (.block 0 (.loop (Jqdr p)))) (.seq (.region [⟨(some 4), (.asg (.c (.d (.bool false)))), none, false⟩] []) .ret)))
@[simp] def Jqbv (p : Nums) : List IOp := [qo 7 (.load (some 3) (.t 3)), qo 8 (.call p.ref07_Few [(.t 7)]), qo 9 (.mov (.t 8)), ⟨(some 10), (.load (some 3) (.t 3)), (some (9, true)), false⟩, ⟨(some 11), (.call p.ref07_Check [(.t 10)]), (some (9, true)), false⟩, ⟨(some 12), (.bin .eql (.t 11) (ci 0)), (some (9, true)), false⟩, qo 13 (.pick (.t 9) (.t 12) (.c (.d (.bool false)))), qo 14 (.mov (.t 13)), ⟨(some 15), (.mov (.t 2)), (some (14, true)), false⟩, ⟨(some 16), (.bin .leq (.t 15) (ci 400)), (some (14, true)), false⟩, qo 17 (.pick (.t 14) (.t 16) (.c (.d (.bool false)))), qo 18 (.mov (.t 17)), ⟨(some 19), (.mov (.t 1)), (some (18, true)), false⟩, ⟨(some 20), (.len (.t 19)), (some (18, true)), false⟩, ⟨(some 21), (.bin .leq (.t 20) (ci 100)), (some (18, true)), false⟩, qo 22 (.pick (.t 18) (.t 21) (.c (.d (.bool false)))), qo 6 (.asg (.t 22))]
def Jqbu (p : Nums) : IC := (.region (Jqbv p) [])
@[simp] theorem Jebu {p : Nums} : EqI (Jqbu p) (.region (Jqbv p) []) := eqi
def Jtaz (p : Nums) : IC := (.seq (.region [⟨(some 3), (.box (.t 0)), none, false⟩, ⟨(some 6), (.asg (.c (.d (.bool false)))), none, false⟩] []) (.seq (Jqbu p) .ret))
@[simp] def Jqbq (p : Nums) : List IOp := [qo 3 (.box (.t 0)), qo 6 (.alloc [(zi 0), (zi 0), (zi 0), (zi 0), .nils, .nils, .nils, (zi 0)])]
def Jqbl (p : Nums) : IC := (.region (Jqbq p) [])
@[simp] theorem Jebl {p : Nums} : EqI (Jqbl p) (.region (Jqbq p) []) := eqi
@[simp] def Jqbr (p : Nums) : List IOp := [qo 8 (.load (some 3) (.t 3)), qo 9 (.mov (.t 1)), qo 10 (.call p.ref09_Start [(.t 8), (.t 9)]), qo 7 (.alloc [(zi 0), (zi 0), (zi 0), (zi 0), .nils, .nils, .nils, (zi 0)]), qn (.store 8 (.t 7) (.t 10))]
def Jqbm (p : Nums) : IC := (.region (Jqbr p) [])
@[simp] theorem Jebm {p : Nums} : EqI (Jqbm p) (.region (Jqbr p) []) := eqi
@[simp] def Jqbs (p : Nums) : List IOp := [qo 11 (.faddr 0 (.t 7)), qo 12 (.load none (.t 11)), qo 13 (.bin .eql (.t 12) (ci 0)), qo 14 (.mov (.t 13)), ⟨(some 15), (.faddr 7 (.t 7)), (some (14, true)), false⟩, ⟨(some 16), (.load none (.t 15)), (some (14, true)), false⟩, ⟨(some 17), (.mov (.t 2)), (some (14, true)), false⟩, ⟨(some 18), (.bin .lss (.t 16) (.t 17)), (some (14, true)), false⟩, qo 19 (.pick (.t 14) (.t 18) (.c (.d (.bool false))))]
def Jqbn (p : Nums) : IC := (.region (Jqbs p) [])
@[simp] theorem Jebn {p : Nums} : EqI (Jqbn p) (.region (Jqbs p) []) := eqi
@[simp] def Jqbt (p : Nums) : List IOp := [qo 20 (.load (some 3) (.t 3)), qo 21 (.load (some 8) (.t 7)), qo 22 (.call p.ref09_Step [(.t 20), (.t 21)]), qn (.store 8 (.t 7) (.t 22))]
def Jqbo (p : Nums) : IC := (.region (Jqbt p) [])
@[simp] theorem Jebo {p : Nums} : EqI (Jqbo p) (.region (Jqbt p) []) := eqi
def Jqbp (p : Nums) : IC := (.seq (.seq (Jqbn p) (.cond (.t 19) .skip (.exit 0))) (.block 1 (Jqbo p)))
@[simp] theorem Jebp {p : Nums} : EqI (Jqbp p) (.seq (.seq (Jqbn p) (.cond (.t 19) .skip (.exit 0))) (.block 1 (Jqbo p))) := eqi
def Jtay (p : Nums) : IC := (.seq (Jqbl p) (.seq (Jqbm p) (.seq (.block 0 (.loop (Jqbp p))) (.seq (.region [⟨(some 23), (.load (some 8) (.t 7)), none, false⟩, ⟨none, (.store 8 (.t 6) (.t 23)), none, false⟩] []) .ret))))
@[simp] def Jqcs (p : Nums) : List IOp := [qo 2 (.box (.t 0)), qo 3 (.box (.t 1)), qo 4 (.alloc [(zi 0), (zi 0), (zi 0), (zi 0), .nils, .nils, .nils, (zi 0)])]
def Jqc5 (p : Nums) : IC := (.region (Jqcs p) [])
@[simp] theorem Jec5 {p : Nums} : EqI (Jqc5 p) (.region (Jqcs p) []) := eqi
@[simp] def Jqd0 (p : Nums) : List IOp := [qo 10 (.load (some 8) (.t 3)), qo 11 (.call p.ref09_Copy [(.t 10)]), qo 5 (.alloc [(zi 0), (zi 0), (zi 0), (zi 0), .nils, .nils, .nils, (zi 0)]), qn (.store 8 (.t 5) (.t 11))]
def Jqcg (p : Nums) : IC := (.region (Jqd0 p) [])
@[simp] theorem Jecg {p : Nums} : EqI (Jqcg p) (.region (Jqd0 p) []) := eqi
@[simp] def Jqd4 (p : Nums) : List IOp := [qo 12 (.faddr 0 (.t 3)), qo 13 (.load none (.t 12)), qo 14 (.bin .neq (.t 13) (ci 0))]
def Jqcl (p : Nums) : IC := (.region (Jqd4 p) [])
@[simp] theorem Jecl {p : Nums} : EqI (Jqcl p) (.region (Jqd4 p) []) := eqi
def Jqcm (p : Nums) : IC := (.seq (.region [⟨(some 15), (.load (some 8) (.t 5)), none, false⟩, ⟨none, (.store 8 (.t 4) (.t 15)), none, false⟩] []) .ret)
@[simp] theorem Jecm {p : Nums} : EqI (Jqcm p) (.seq (.region [⟨(some 15), (.load (some 8) (.t 5)), none, false⟩, ⟨none, (.store 8 (.t 4) (.t 15)), none, false⟩] []) .ret) := eqi
@[simp] def Jqd5 (p : Nums) : List IOp := [qo 16 (.faddr 2 (.t 2)), qo 17 (.load none (.t 16)), qo 18 (.faddr 1 (.t 3)), qo 19 (.load none (.t 18)), qo 20 (.iaddr 5 (.t 17) (.t 19)), qo 21 (.load (some 5) (.t 20)), qo 6 (.alloc [.nils, (zi 0), (zi 0), (zi 0), (zi 0)]), qn (.store 5 (.t 6) (.t 21))]
def Jqcn (p : Nums) : IC := (.region (Jqd5 p) [])
@[simp] theorem Jecn {p : Nums} : EqI (Jqcn p) (.region (Jqd5 p) []) := eqi
@[simp] def Jqd6 (p : Nums) : List IOp := [qo 22 (.faddr 2 (.t 3)), qo 23 (.load none (.t 22)), qo 24 (.faddr 0 (.t 6)), qo 25 (.load none (.t 24)), qo 26 (.len (.t 25)), qo 27 (.bin .eql (.t 23) (.t 26))]
def Jqco (p : Nums) : IC := (.region (Jqd6 p) [])
@[simp] theorem Jeco {p : Nums} : EqI (Jqco p) (.region (Jqd6 p) []) := eqi
@[simp] def Jqd7 (p : Nums) : List IOp := [qo 28 (.faddr 7 (.t 5)), qo 29 (.load none (.t 28)), qo 30 (.bin .add (.t 29) (ci 1)), qo 31 (.faddr 7 (.t 5)), qn (.store 1 (.t 31) (.t 30))]
def Jqcp (p : Nums) : IC := (.region (Jqd7 p) [])
@[simp] theorem Jecp {p : Nums} : EqI (Jqcp p) (.region (Jqd7 p) []) := eqi
@[simp] def Jqd8 (p : Nums) : List IOp := [qo 32 (.faddr 1 (.t 6)), qo 33 (.faddr 0 (.t 32)), qo 34 (.load none (.t 33)), qo 35 (.bin .eql (.t 34) (ci 3))]
def Jqcq (p : Nums) : IC := (.region (Jqd8 p) [])
@[simp] theorem Jecq {p : Nums} : EqI (Jqcq p) (.region (Jqd8 p) []) := eqi
@[simp] def Jqd9 (p : Nums) : List IOp := [qo 37 (.faddr 4 (.t 3)), qo 38 (.load none (.t 37)), qo 39 (.faddr 1 (.t 6)), qo 40 (.faddr 1 (.t 39)), qo 41 (.load none (.t 40)), qo 42 (.iaddr 1 (.t 38) (.t 41)), qo 43 (.load none (.t 42)), qo 44 (.faddr 3 (.t 5)), qn (.store 1 (.t 44) (.t 43))]
def Jqcr (p : Nums) : IC := (.region (Jqd9 p) [])
@[simp] theorem Jecr {p : Nums} : EqI (Jqcr p) (.region (Jqd9 p) []) := eqi
def Jqc6 (p : Nums) : IC := (.seq (.region [⟨(some 36), (.faddr 0 (.t 5)), none, false⟩, ⟨none, (.store 1 (.t 36) (.c (.d (.int .i64 1)))), none, false⟩] []) (.seq (Jqcr p) (.seq (.region [⟨(some 45), (.load (some 8) (.t 5)), none, false⟩, ⟨none, (.store 8 (.t 4) (.t 45)), none, false⟩] []) .ret)))
@[simp] theorem Jec6 {p : Nums} : EqI (Jqc6 p) (.seq (.region [⟨(some 36), (.faddr 0 (.t 5)), none, false⟩, ⟨none, (.store 1 (.t 36) (.c (.d (.int .i64 1)))), none, false⟩] []) (.seq (Jqcr p) (.seq (.region [⟨(some 45), (.load (some 8) (.t 5)), none, false⟩, ⟨none, (.store 8 (.t 4) (.t 45)), none, false⟩] []) .ret))) := eqi
@[simp] def Jqct (p : Nums) : List IOp := [qo 46 (.faddr 1 (.t 6)), qo 47 (.faddr 2 (.t 46)), qo 48 (.load none (.t 47)), qo 49 (.faddr 1 (.t 5)), qn (.store 1 (.t 49) (.t 48))]
def Jqc7 (p : Nums) : IC := (.region (Jqct p) [])
@[simp] theorem Jec7 {p : Nums} : EqI (Jqc7 p) (.region (Jqct p) []) := eqi
@[simp] def Jqcu (p : Nums) : List IOp := [qo 50 (.faddr 1 (.t 6)), qo 51 (.faddr 0 (.t 50)), qo 52 (.load none (.t 51)), qo 53 (.bin .eql (.t 52) (ci 2)), qo 54 (.mov (.t 53)), ⟨(some 55), (.faddr 4 (.t 3)), (some (54, true)), false⟩, ⟨(some 56), (.load none (.t 55)), (some (54, true)), false⟩, ⟨(some 57), (.faddr 1 (.t 6)), (some (54, true)), false⟩, ⟨(some 58), (.faddr 1 (.t 57)), (some (54, true)), false⟩, ⟨(some 59), (.load none (.t 58)), (some (54, true)), false⟩, ⟨(some 60), (.iaddr 1 (.t 56) (.t 59)), (some (54, true)), false⟩, ⟨(some 61), (.load none (.t 60)), (some (54, true)), false⟩, ⟨(some 62), (.bin .eql (.t 61) (ci 0)), (some (54, true)), false⟩, qo 63 (.pick (.t 54) (.t 62) (.c (.d (.bool false))))]
def Jqc8 (p : Nums) : IC := (.region (Jqcu p) [])
@[simp] theorem Jec8 {p : Nums} : EqI (Jqc8 p) (.region (Jqcu p) []) := eqi
@[simp] def Jqcv (p : Nums) : List IOp := [qo 64 (.faddr 1 (.t 6)), qo 65 (.faddr 3 (.t 64)), qo 66 (.load none (.t 65)), qo 67 (.faddr 1 (.t 5)), qn (.store 1 (.t 67) (.t 66))]
def Jqc9 (p : Nums) : IC := (.region (Jqcv p) [])
@[simp] theorem Jec9 {p : Nums} : EqI (Jqc9 p) (.region (Jqcv p) []) := eqi
def Jqca (p : Nums) : IC := (.seq (Jqcp p) (.seq (.seq (Jqcq p) (.cond (.t 35) (Jqc6 p) .skip)) (.seq (Jqc7 p) (.seq (.seq (Jqc8 p) (.cond (.t 63) (Jqc9 p) .skip)) (.seq (.region [⟨(some 68), (.faddr 2 (.t 5)), none, false⟩, ⟨none, (.store 1 (.t 68) (.c (.d (.int .i64 0)))), none, false⟩] []) (.seq (.region [⟨(some 69), (.load (some 8) (.t 5)), none, false⟩, ⟨none, (.store 8 (.t 4) (.t 69)), none, false⟩] []) .ret))))))
@[simp] theorem Jeca {p : Nums} : EqI (Jqca p) (.seq (Jqcp p) (.seq (.seq (Jqcq p) (.cond (.t 35) (Jqc6 p) .skip)) (.seq (Jqc7 p) (.seq (.seq (Jqc8 p) (.cond (.t 63) (Jqc9 p) .skip)) (.seq (.region [⟨(some 68), (.faddr 2 (.t 5)), none, false⟩, ⟨none, (.store 1 (.t 68) (.c (.d (.int .i64 0)))), none, false⟩] []) (.seq (.region [⟨(some 69), (.load (some 8) (.t 5)), none, false⟩, ⟨none, (.store 8 (.t 4) (.t 69)), none, false⟩] []) .ret)))))) := eqi
@[simp] def Jqcw (p : Nums) : List IOp := [qo 70 (.faddr 0 (.t 6)), qo 71 (.load none (.t 70)), qo 72 (.faddr 2 (.t 3)), qo 73 (.load none (.t 72)), qo 74 (.iaddr 5 (.t 71) (.t 73)), qo 75 (.load (some 5) (.t 74)), qo 7 (.alloc [(zi 0), (zi 0), (zi 0), (zi 0), (zi 0)]), qn (.store 5 (.t 7) (.t 75))]
def Jqcb (p : Nums) : IC := (.region (Jqcw p) [])
@[simp] theorem Jecb {p : Nums} : EqI (Jqcb p) (.region (Jqcw p) []) := eqi
@[simp] def Jqcx (p : Nums) : List IOp := [qo 76 (.faddr 0 (.t 7)), qo 77 (.load none (.t 76)), qo 78 (.bin .eql (.t 77) (ci 17))]
def Jqcc (p : Nums) : IC := (.region (Jqcx p) [])
@[simp] theorem Jecc {p : Nums} : EqI (Jqcc p) (.region (Jqcx p) []) := eqi
@[simp] def Jqcy (p : Nums) : List IOp := [qp 79 (.faddr 6 (.t 5)), qp 80 (.load none (.t 79)), qp 81 (.faddr 4 (.t 3)), qp 82 (.load none (.t 81)), qp 83 (.faddr 2 (.t 7)), qp 84 (.load none (.t 83)), qp 85 (.iaddr 1 (.t 82) (.t 84)), qp 86 (.load none (.t 85)), qp 87 (.bslice 1 1 [(.int .i64 0)] [(0, (.t 86))]), qo 88 (.app 1 8 (.t 80) (.t 87)), qo 89 (.faddr 6 (.t 5)), qn (.store 1 (.t 89) (.t 88))]
def Jqcd (p : Nums) : IC := (.region (Jqcy p) [])
@[simp] theorem Jecd {p : Nums} : EqI (Jqcd p) (.region (Jqcy p) []) := eqi
@[simp] def Jqcz (p : Nums) : List IOp := [qp 91 (.faddr 0 (.t 7)), qp 92 (.load none (.t 91)), qp 93 (.faddr 4 (.t 3)), qp 94 (.load none (.t 93)), qp 95 (.faddr 2 (.t 7)), qp 96 (.load none (.t 95)), qp 97 (.iaddr 1 (.t 94) (.t 96)), qp 98 (.load none (.t 97)), qp 99 (.faddr 4 (.t 3)), qp 100 (.load none (.t 99)), qp 101 (.faddr 3 (.t 7)), qp 102 (.load none (.t 101)), qp 103 (.iaddr 1 (.t 100) (.t 102)), qp 104 (.load none (.t 103)), qp 105 (.faddr 4 (.t 7)), qp 106 (.load none (.t 105)), qo 107 (.call p.ref06_Eval [(.t 92), (.t 98), (.t 104), (.t 106)]), qo 90 (.mov (.t 107)), qp 108 (.ext (.t 90) 0), qp 109 (.ext (.t 90) 1), qp 8 (.asg (.t 108)), qo 9 (.asg (.t 109))]
def Jqce (p : Nums) : IC := (.region (Jqcz p) [])
@[simp] theorem Jece {p : Nums} : EqI (Jqce p) (.region (Jqcz p) []) := eqi
def Jqcf (p : Nums) : IC := (.seq (.region [⟨(some 112), (.faddr 0 (.t 5)), none, false⟩, ⟨none, (.store 1 (.t 112) (.c (.d (.int .i64 2)))), none, false⟩] []) (.seq (.region [⟨(some 113), (.load (some 8) (.t 5)), none, false⟩, ⟨none, (.store 8 (.t 4) (.t 113)), none, false⟩] []) .ret))
@[simp] theorem Jecf {p : Nums} : EqI (Jqcf p) (.seq (.region [⟨(some 112), (.faddr 0 (.t 5)), none, false⟩, ⟨none, (.store 1 (.t 112) (.c (.d (.int .i64 2)))), none, false⟩] []) (.seq (.region [⟨(some 113), (.load (some 8) (.t 5)), none, false⟩, ⟨none, (.store 8 (.t 4) (.t 113)), none, false⟩] []) .ret)) := eqi
@[simp] def Jqd1 (p : Nums) : List IOp := [qo 114 (.faddr 4 (.t 5)), qo 115 (.load none (.t 114)), qo 116 (.faddr 1 (.t 7)), qo 117 (.load none (.t 116)), qo 118 (.mov (.t 8)), qo 119 (.iaddr 1 (.t 115) (.t 117)), qn (.store 1 (.t 119) (.t 118))]
def Jqch (p : Nums) : IC := (.region (Jqd1 p) [])
@[simp] theorem Jech {p : Nums} : EqI (Jqch p) (.region (Jqd1 p) []) := eqi
def Jqci (p : Nums) : IC := (.seq (Jqce p) (.seq (.seq (.region [⟨(some 110), (.mov (.t 9)), none, false⟩, ⟨(some 111), (.un .not (.t 110)), none, false⟩] []) (.cond (.t 111) (Jqcf p) .skip)) (Jqch p)))
@[simp] theorem Jeci {p : Nums} : EqI (Jqci p) (.seq (Jqce p) (.seq (.seq (.region [⟨(some 110), (.mov (.t 9)), none, false⟩, ⟨(some 111), (.un .not (.t 110)), none, false⟩] []) (.cond (.t 111) (Jqcf p) .skip)) (Jqch p))) := eqi
@[simp] def Jqd2 (p : Nums) : List IOp := [qo 120 (.faddr 2 (.t 5)), qo 121 (.load none (.t 120)), qo 122 (.bin .add (.t 121) (ci 1)), qo 123 (.faddr 2 (.t 5)), qn (.store 1 (.t 123) (.t 122))]
def Jqcj (p : Nums) : IC := (.region (Jqd2 p) [])
@[simp] theorem Jecj {p : Nums} : EqI (Jqcj p) (.region (Jqd2 p) []) := eqi
@[simp] def Jqd3 (p : Nums) : List IOp := [qo 124 (.faddr 7 (.t 5)), qo 125 (.load none (.t 124)), qo 126 (.bin .add (.t 125) (ci 1)), qo 127 (.faddr 7 (.t 5)), qn (.store 1 (.t 127) (.t 126))]
def Jqck (p : Nums) : IC := (.region (Jqd3 p) [])
@[simp] theorem Jeck {p : Nums} : EqI (Jqck p) (.region (Jqd3 p) []) := eqi
def Jtb1 (p : Nums) : IC := (.seq (Jqc5 p) (.seq (Jqcg p) (.seq (.seq (Jqcl p) (.cond (.t 14) (Jqcm p) .skip)) (.seq (Jqcn p) (.seq (.seq (Jqco p) (.cond (.t 27) (Jqca p) .skip)) (.seq (Jqcb p) (.seq (.seq (Jqcc p) (.cond (.t 78) (Jqcd p) (Jqci p))) (.seq (Jqcj p) (.seq (Jqck p) (.seq (.region [⟨(some 128), (.load (some 8) (.t 5)), none, false⟩, ⟨none, (.store 8 (.t 4) (.t 128)), none, false⟩] []) .ret))))))))))
@[simp] def Jqbg (p : Nums) : List IOp := [qo 1 (.box (.t 0)), qo 2 (.alloc [(zi 0), (zi 0), (zi 0), (zi 0), .nils, .nils, .nils, (zi 0)])]
def Jqbb (p : Nums) : IC := (.region (Jqbg p) [])
@[simp] theorem Jebb {p : Nums} : EqI (Jqbb p) (.region (Jqbg p) []) := eqi
@[simp] def Jqbh (p : Nums) : List IOp := [qo 4 (.load (some 8) (.t 1)), qo 3 (.alloc [(zi 0), (zi 0), (zi 0), (zi 0), .nils, .nils, .nils, (zi 0)]), qn (.store 8 (.t 3) (.t 4))]
def Jqbc (p : Nums) : IC := (.region (Jqbh p) [])
@[simp] theorem Jebc {p : Nums} : EqI (Jqbc p) (.region (Jqbh p) []) := eqi
@[simp] def Jqbi (p : Nums) : List IOp := [qo 5 (.bslice 1 0 [(.int .i64 0)] []), qo 6 (.faddr 4 (.t 1)), qo 7 (.load none (.t 6)), qo 8 (.app 1 8 (.t 5) (.t 7)), qo 9 (.faddr 4 (.t 3)), qn (.store 1 (.t 9) (.t 8))]
def Jqbd (p : Nums) : IC := (.region (Jqbi p) [])
@[simp] theorem Jebd {p : Nums} : EqI (Jqbd p) (.region (Jqbi p) []) := eqi
@[simp] def Jqbj (p : Nums) : List IOp := [qo 10 (.bslice 1 0 [(.int .i64 0)] []), qo 11 (.faddr 5 (.t 1)), qo 12 (.load none (.t 11)), qo 13 (.app 1 8 (.t 10) (.t 12)), qo 14 (.faddr 5 (.t 3)), qn (.store 1 (.t 14) (.t 13))]
def Jqbe (p : Nums) : IC := (.region (Jqbj p) [])
@[simp] theorem Jebe {p : Nums} : EqI (Jqbe p) (.region (Jqbj p) []) := eqi
@[simp] def Jqbk (p : Nums) : List IOp := [qo 15 (.bslice 1 0 [(.int .i64 0)] []), qo 16 (.faddr 6 (.t 1)), qo 17 (.load none (.t 16)), qo 18 (.app 1 8 (.t 15) (.t 17)), qo 19 (.faddr 6 (.t 3)), qn (.store 1 (.t 19) (.t 18))]
def Jqbf (p : Nums) : IC := (.region (Jqbk p) [])
@[simp] theorem Jebf {p : Nums} : EqI (Jqbf p) (.region (Jqbk p) []) := eqi
def Jtax (p : Nums) : IC := (.seq (Jqbb p) (.seq (Jqbc p) (.seq (Jqbd p) (.seq (Jqbe p) (.seq (Jqbf p) (.seq (.region [⟨(some 20), (.load (some 8) (.t 3)), none, false⟩, ⟨none, (.store 8 (.t 2) (.t 20)), none, false⟩] []) .ret))))))
@[simp] def Jqdi (p : Nums) : List IOp := [qo 6 (.mov (.t 0)), qo 7 (.len (.t 6)), qo 8 (.mov (.t 1)), qo 9 (.len (.t 8)), qo 10 (.bin .neq (.t 7) (.t 9))]
def Jqda (p : Nums) : IC := (.region (Jqdi p) [])
@[simp] theorem Jeda {p : Nums} : EqI (Jqda p) (.region (Jqdi p) []) := eqi
def Jqdb (p : Nums) : IC := (.seq (.region [⟨(some 4), (.asg (.c (.d (.bool false)))), none, false⟩] []) .ret)
@[simp] theorem Jedb {p : Nums} : EqI (Jqdb p) (.seq (.region [⟨(some 4), (.asg (.c (.d (.bool false)))), none, false⟩] []) .ret) := eqi
@[simp] def Jqdj (p : Nums) : List IOp := [qo 11 (.mov (.t 5)), qo 12 (.mov (.t 0)), qo 13 (.len (.t 12)), qo 14 (.bin .lss (.t 11) (.t 13))]
def Jqdc (p : Nums) : IC := (.region (Jqdj p) [])
@[simp] theorem Jedc {p : Nums} : EqI (Jqdc p) (.region (Jqdj p) []) := eqi
@[simp] def Jqdk (p : Nums) : List IOp := [qp 17 (.mov (.t 0)), qp 18 (.mov (.t 5)), qp 19 (.iaddr 1 (.t 17) (.t 18)), qp 20 (.load none (.t 19)), qp 21 (.mov (.t 1)), qp 22 (.mov (.t 5)), qp 23 (.iaddr 1 (.t 21) (.t 22)), qp 24 (.load none (.t 23)), qo 25 (.bin .neq (.t 20) (.t 24))]
def Jqdd (p : Nums) : IC := (.region (Jqdk p) [])
@[simp] theorem Jedd {p : Nums} : EqI (Jqdd p) (.region (Jqdk p) []) := eqi
def Jqde (p : Nums) : IC := (.seq (.region [⟨(some 4), (.asg (.c (.d (.bool false)))), none, false⟩] []) .ret)
@[simp] theorem Jede {p : Nums} : EqI (Jqde p) (.seq (.region [⟨(some 4), (.asg (.c (.d (.bool false)))), none, false⟩] []) .ret) := eqi
def Jqdf (p : Nums) : IC := (.seq (Jqdd p) (.cond (.t 25) (Jqde p) .skip))
@[simp] theorem Jedf {p : Nums} : EqI (Jqdf p) (.seq (Jqdd p) (.cond (.t 25) (Jqde p) .skip)) := eqi
@[simp] def Jqdl (p : Nums) : List IOp := [qo 15 (.mov (.t 5)), qo 16 (.bin .add (.t 15) (ci 1)), qo 5 (.asg (.t 16))]
def Jqdg (p : Nums) : IC := (.region (Jqdl p) [])
@[simp] theorem Jedg {p : Nums} : EqI (Jqdg p) (.region (Jqdl p) []) := eqi
def Jqdh (p : Nums) : IC := (.seq (.seq (Jqdc p) (.cond (.t 14) .skip (.exit 0))) (.seq (.block 1 (Jqdf p)) (Jqdg p)))
@[simp] theorem Jedh {p : Nums} : EqI (Jqdh p) (.seq (.seq (Jqdc p) (.cond (.t 14) .skip (.exit 0))) (.seq (.block 1 (Jqdf p)) (Jqdg p))) := eqi
def Jtb2 (p : Nums) : IC := (.seq (.region [⟨(some 4), (.asg (.c (.d (.bool false)))), none, false⟩] []) (.seq (.seq (Jqda p) (.cond (.t 10) (Jqdb p) .skip)) (.seq (.seq (.region [⟨(some 5), (.asg (.c (.d (.int .i64 0)))), none, false⟩] []) (.block 0 (.loop (Jqdh p)))) (.seq (.region [⟨(some 4), (.asg (.c (.d (.bool true)))), none, false⟩] []) .ret))))
@[simp] def Jq9g (p : Nums) : List IOp := [qo 5 (.mov (.t 4)), qo 6 (.faddr 2 (.t 1)), qo 7 (.load none (.t 6)), qo 8 (.len (.t 7)), qo 9 (.bin .lss (.t 5) (.t 8))]
def Jq9c (p : Nums) : IC := (.region (Jq9g p) [])
@[simp] theorem Je9c {p : Nums} : EqI (Jq9c p) (.region (Jq9g p) []) := eqi
@[simp] def Jq9h (p : Nums) : List IOp := [qo 12 (.mov (.t 3)), qo 13 (.faddr 2 (.t 1)), qo 14 (.load none (.t 13)), qo 15 (.mov (.t 4)), qo 16 (.iaddr 5 (.t 14) (.t 15)), qo 17 (.faddr 0 (.t 16)), qo 18 (.load none (.t 17)), qo 19 (.len (.t 18)), qo 20 (.bin .add (.t 12) (.t 19)), qo 3 (.asg (.t 20))]
def Jq9d (p : Nums) : IC := (.region (Jq9h p) [])
@[simp] theorem Je9d {p : Nums} : EqI (Jq9d p) (.region (Jq9h p) []) := eqi
@[simp] def Jq9i (p : Nums) : List IOp := [qo 10 (.mov (.t 4)), qo 11 (.bin .add (.t 10) (ci 1)), qo 4 (.asg (.t 11))]
def Jq9e (p : Nums) : IC := (.region (Jq9i p) [])
@[simp] theorem Je9e {p : Nums} : EqI (Jq9e p) (.region (Jq9i p) []) := eqi
def Jq9f (p : Nums) : IC := (.seq (.seq (Jq9c p) (.cond (.t 9) .skip (.exit 0))) (.seq (.block 1 (Jq9d p)) (Jq9e p)))
@[simp] theorem Je9f {p : Nums} : EqI (Jq9f p) (.seq (.seq (Jq9c p) (.cond (.t 9) .skip (.exit 0))) (.seq (.block 1 (Jq9d p)) (Jq9e p))) := eqi
def Jtar (p : Nums) : IC := (.seq (.region [⟨(some 1), (.box (.t 0)), none, false⟩, ⟨(some 2), (.asg (.c (.d (.int .i64 0)))), none, false⟩] []) (.seq (.region [⟨(some 3), (.asg (.c (.d (.int .i64 0)))), none, false⟩] []) (.seq (.seq (.region [⟨(some 4), (.asg (.c (.d (.int .i64 0)))), none, false⟩] []) (.block 0 (.loop (Jq9f p)))) (.seq (.region [⟨(some 21), (.mov (.t 3)), none, false⟩, ⟨(some 2), (.asg (.t 21)), none, false⟩] []) .ret))))
@[simp] def Jqa6 (p : Nums) : List IOp := [qo 5 (.faddr 0 (.t 2)), qo 6 (.load none (.t 5)), qo 7 (.bin .lss (.t 6) (ci 1)), qo 8 (.mov (.t 7)), ⟨(some 9), (.faddr 0 (.t 2)), (some (8, false)), false⟩, ⟨(some 10), (.load none (.t 9)), (some (8, false)), false⟩, ⟨(some 11), (.bin .gtr (.t 10) (ci 17)), (some (8, false)), false⟩, qo 12 (.pick (.t 8) (.c (.d (.bool true))) (.t 11))]
def Jq9x (p : Nums) : IC := (.region (Jqa6 p) [])
@[simp] theorem Je9x {p : Nums} : EqI (Jq9x p) (.region (Jqa6 p) []) := eqi
def Jq9y (p : Nums) : IC := (.seq (.region [⟨(some 4), (.asg (.c (.d (.int .i64 8)))), none, false⟩] []) .ret)
@[simp] theorem Je9y {p : Nums} : EqI (Jq9y p) (.seq (.region [⟨(some 4), (.asg (.c (.d (.int .i64 8)))), none, false⟩] []) .ret) := eqi
def Jqa3 (p : Nums) : IC := (.seq (.seq (Jq9x p) .cut) (.cond (.t 12) (Jq9y p) .skip))
theorem Jea3 {p : Nums} : EqI (Jqa3 p) (.seq (.seq (Jq9x p) .cut) (.cond (.t 12) (Jq9y p) .skip)) := eqi
@[simp] def Jqa7 (p : Nums) : List IOp := [qo 13 (.faddr 0 (.t 2)), qo 14 (.load none (.t 13)), qo 15 (.call p.ref05_UsesD [(.t 14)]), qo 16 (.mov (.t 15)), ⟨(some 17), (.faddr 1 (.t 2)), (some (16, true)), false⟩, ⟨(some 18), (.load none (.t 17)), (some (16, true)), false⟩, ⟨(some 19), (.mov (.t 1)), (some (16, true)), false⟩, ⟨(some 20), (.call p.ref07_in [(.t 18), (.t 19)]), (some (16, true)), false⟩, ⟨(some 21), (.un .not (.t 20)), (some (16, true)), false⟩, qo 22 (.pick (.t 16) (.t 21) (.c (.d (.bool false)))), qo 23 (.mov (.t 22)), ⟨(some 24), (.faddr 0 (.t 2)), (some (23, false)), false⟩, ⟨(some 25), (.load none (.t 24)), (some (23, false)), false⟩, ⟨(some 26), (.call p.ref05_UsesA [(.t 25)]), (some (23, false)), false⟩, ⟨(some 27), (.mov (.t 26)), (some (23, false)), false⟩, ⟨(some 28), (.faddr 2 (.t 2)), (some (27, true)), false⟩, ⟨(some 29), (.load none (.t 28)), (some (27, true)), false⟩, ⟨(some 30), (.mov (.t 1)), (some (27, true)), false⟩, ⟨(some 31), (.call p.ref07_in [(.t 29), (.t 30)]), (some (27, true)), false⟩, ⟨(some 32), (.un .not (.t 31)), (some (27, true)), false⟩, ⟨(some 33), (.pick (.t 27) (.t 32) (.c (.d (.bool false)))), (some (23, false)), false⟩, qo 34 (.pick (.t 23) (.c (.d (.bool true))) (.t 33)), qo 35 (.mov (.t 34)), ⟨(some 36), (.faddr 0 (.t 2)), (some (35, false)), false⟩, ⟨(some 37), (.load none (.t 36)), (some (35, false)), false⟩, ⟨(some 38), (.call p.ref05_UsesB [(.t 37)]), (some (35, false)), false⟩, ⟨(some 39), (.mov (.t 38)), (some (35, false)), false⟩, ⟨(some 40), (.faddr 3 (.t 2)), (some (39, true)), false⟩, ⟨(some 41), (.load none (.t 40)), (some (39, true)), false⟩, ⟨(some 42), (.mov (.t 1)), (some (39, true)), false⟩, ⟨(some 43), (.call p.ref07_in [(.t 41), (.t 42)]), (some (39, true)), false⟩, ⟨(some 44), (.un .not (.t 43)), (some (39, true)), false⟩, ⟨(some 45), (.pick (.t 39) (.t 44) (.c (.d (.bool false)))), (some (35, false)), false⟩, qo 46 (.pick (.t 35) (.c (.d (.bool true))) (.t 45))]
def Jq9z (p : Nums) : IC := (.region (Jqa7 p) [])
@[simp] theorem Je9z {p : Nums} : EqI (Jq9z p) (.region (Jqa7 p) []) := eqi
def Jqa0 (p : Nums) : IC := (.seq (.region [⟨(some 4), (.asg (.c (.d (.int .i64 9)))), none, false⟩] []) .ret)
@[simp] theorem Jea0 {p : Nums} : EqI (Jqa0 p) (.seq (.region [⟨(some 4), (.asg (.c (.d (.int .i64 9)))), none, false⟩] []) .ret) := eqi
def Jqa4 (p : Nums) : IC := (.seq (.seq (Jq9z p) .cut) (.cond (.t 46) (Jqa0 p) .skip))
theorem Jea4 {p : Nums} : EqI (Jqa4 p) (.seq (.seq (Jq9z p) .cut) (.cond (.t 46) (Jqa0 p) .skip)) := eqi
@[simp] def Jqa8 (p : Nums) : List IOp := [qo 47 (.faddr 0 (.t 2)), qo 48 (.load none (.t 47)), qo 49 (.call p.ref05_UsesD [(.t 48)]), qo 50 (.un .not (.t 49)), qo 51 (.mov (.t 50)), ⟨(some 52), (.faddr 1 (.t 2)), (some (51, true)), false⟩, ⟨(some 53), (.load none (.t 52)), (some (51, true)), false⟩, ⟨(some 54), (.bin .neq (.t 53) (ci 0)), (some (51, true)), false⟩, qo 55 (.pick (.t 51) (.t 54) (.c (.d (.bool false)))), qo 56 (.mov (.t 55)), ⟨(some 57), (.faddr 0 (.t 2)), (some (56, false)), false⟩, ⟨(some 58), (.load none (.t 57)), (some (56, false)), false⟩, ⟨(some 59), (.call p.ref05_UsesA [(.t 58)]), (some (56, false)), false⟩, ⟨(some 60), (.un .not (.t 59)), (some (56, false)), false⟩, ⟨(some 61), (.mov (.t 60)), (some (56, false)), false⟩, ⟨(some 62), (.faddr 2 (.t 2)), (some (61, true)), false⟩, ⟨(some 63), (.load none (.t 62)), (some (61, true)), false⟩, ⟨(some 64), (.bin .neq (.t 63) (ci 0)), (some (61, true)), false⟩, ⟨(some 65), (.pick (.t 61) (.t 64) (.c (.d (.bool false)))), (some (56, false)), false⟩, qo 66 (.pick (.t 56) (.c (.d (.bool true))) (.t 65)), qo 67 (.mov (.t 66)), ⟨(some 68), (.faddr 0 (.t 2)), (some (67, false)), false⟩, ⟨(some 69), (.load none (.t 68)), (some (67, false)), false⟩, ⟨(some 70), (.call p.ref05_UsesB [(.t 69)]), (some (67, false)), false⟩, ⟨(some 71), (.un .not (.t 70)), (some (67, false)), false⟩, ⟨(some 72), (.mov (.t 71)), (some (67, false)), false⟩, ⟨(some 73), (.faddr 3 (.t 2)), (some (72, true)), false⟩, ⟨(some 74), (.load none (.t 73)), (some (72, true)), false⟩, ⟨(some 75), (.bin .neq (.t 74) (ci 0)), (some (72, true)), false⟩, ⟨(some 76), (.pick (.t 72) (.t 75) (.c (.d (.bool false)))), (some (67, false)), false⟩, qo 77 (.pick (.t 67) (.c (.d (.bool true))) (.t 76)), qo 78 (.mov (.t 77)), ⟨(some 79), (.faddr 0 (.t 2)), (some (78, false)), false⟩, ⟨(some 80), (.load none (.t 79)), (some (78, false)), false⟩, ⟨(some 81), (.bin .neq (.t 80) (ci 1)), (some (78, false)), false⟩, ⟨(some 82), (.mov (.t 81)), (some (78, false)), false⟩, ⟨(some 83), (.faddr 4 (.t 2)), (some (82, true)), false⟩, ⟨(some 84), (.load none (.t 83)), (some (82, true)), false⟩, ⟨(some 85), (.bin .neq (.t 84) (ci 0)), (some (82, true)), false⟩, ⟨(some 86), (.pick (.t 82) (.t 85) (.c (.d (.bool false)))), (some (78, false)), false⟩, qo 87 (.pick (.t 78) (.c (.d (.bool true))) (.t 86))]
def Jqa1 (p : Nums) : IC := (.region (Jqa8 p) [])
@[simp] theorem Jea1 {p : Nums} : EqI (Jqa1 p) (.region (Jqa8 p) []) := eqi
def Jqa2 (p : Nums) : IC := (.seq (.region [⟨(some 4), (.asg (.c (.d (.int .i64 12)))), none, false⟩] []) .ret)
@[simp] theorem Jea2 {p : Nums} : EqI (Jqa2 p) (.seq (.region [⟨(some 4), (.asg (.c (.d (.int .i64 12)))), none, false⟩] []) .ret) := eqi
def Jqa5 (p : Nums) : IC := (.seq (.seq (Jqa1 p) .cut) (.cond (.t 87) (Jqa2 p) .skip))
theorem Jea5 {p : Nums} : EqI (Jqa5 p) (.seq (.seq (Jqa1 p) .cut) (.cond (.t 87) (Jqa2 p) .skip)) := eqi
def Jtat (p : Nums) : IC := (.seq (.region [⟨(some 2), (.box (.t 0)), none, false⟩, ⟨(some 4), (.asg (.c (.d (.int .i64 0)))), none, false⟩] []) (.seq (Jqa3 p) (.seq (Jqa4 p) (.seq (Jqa5 p) (.seq (.region [⟨(some 4), (.asg (.c (.d (.int .i64 0)))), none, false⟩] []) .ret)))))
@[simp] def Jqb3 (p : Nums) : List IOp := [qo 11 (.faddr 2 (.t 3)), qo 12 (.load none (.t 11)), qo 13 (.mov (.t 2)), qo 14 (.call p.ref07_in [(.t 12), (.t 13)]), qo 15 (.un .not (.t 14))]
def Jqal (p : Nums) : IC := (.region (Jqb3 p) [])
@[simp] theorem Jeal {p : Nums} : EqI (Jqal p) (.region (Jqb3 p) []) := eqi
def Jqav (p : Nums) : IC := (.seq (.region [⟨(some 6), (.asg (.c (.d (.int .i64 11)))), none, false⟩] []) .ret)
@[simp] theorem Jeav {p : Nums} : EqI (Jqav p) (.seq (.region [⟨(some 6), (.asg (.c (.d (.int .i64 11)))), none, false⟩] []) .ret) := eqi
@[simp] def Jqb5 (p : Nums) : List IOp := [qo 16 (.faddr 1 (.t 3)), qo 17 (.load none (.t 16)), qo 18 (.bin .neq (.t 17) (ci 0)), qo 19 (.mov (.t 18)), ⟨(some 20), (.faddr 3 (.t 3)), (some (19, false)), false⟩, ⟨(some 21), (.load none (.t 20)), (some (19, false)), false⟩, ⟨(some 22), (.bin .neq (.t 21) (ci 0)), (some (19, false)), false⟩, qo 23 (.pick (.t 19) (.c (.d (.bool true))) (.t 22))]
def Jqaw (p : Nums) : IC := (.region (Jqb5 p) [])
@[simp] theorem Jeaw {p : Nums} : EqI (Jqaw p) (.region (Jqb5 p) []) := eqi
def Jqax (p : Nums) : IC := (.seq (.region [⟨(some 6), (.asg (.c (.d (.int .i64 12)))), none, false⟩] []) .ret)
@[simp] theorem Jeax {p : Nums} : EqI (Jqax p) (.seq (.region [⟨(some 6), (.asg (.c (.d (.int .i64 12)))), none, false⟩] []) .ret) := eqi
@[simp] def Jqb6 (p : Nums) : List IOp := [qo 26 (.faddr 1 (.t 3)), qo 27 (.load none (.t 26)), qo 28 (.mov (.t 1)), qo 29 (.call p.ref07_in [(.t 27), (.t 28)]), qo 30 (.un .not (.t 29))]
def Jqay (p : Nums) : IC := (.region (Jqb6 p) [])
@[simp] theorem Jeay {p : Nums} : EqI (Jqay p) (.region (Jqb6 p) []) := eqi
def Jqaz (p : Nums) : IC := (.seq (.region [⟨(some 6), (.asg (.c (.d (.int .i64 9)))), none, false⟩] []) .ret)
@[simp] theorem Jeaz {p : Nums} : EqI (Jqaz p) (.seq (.region [⟨(some 6), (.asg (.c (.d (.int .i64 9)))), none, false⟩] []) .ret) := eqi
@[simp] def Jqb7 (p : Nums) : List IOp := [qo 31 (.faddr 2 (.t 3)), qo 32 (.load none (.t 31)), qo 33 (.mov (.t 2)), qo 34 (.call p.ref07_in [(.t 32), (.t 33)]), qo 35 (.un .not (.t 34)), qo 36 (.mov (.t 35)), ⟨(some 37), (.faddr 3 (.t 3)), (some (36, false)), false⟩, ⟨(some 38), (.load none (.t 37)), (some (36, false)), false⟩, ⟨(some 39), (.mov (.t 2)), (some (36, false)), false⟩, ⟨(some 40), (.call p.ref07_in [(.t 38), (.t 39)]), (some (36, false)), false⟩, ⟨(some 41), (.un .not (.t 40)), (some (36, false)), false⟩, qo 42 (.pick (.t 36) (.c (.d (.bool true))) (.t 41))]
def Jqb0 (p : Nums) : IC := (.region (Jqb7 p) [])
@[simp] theorem Jeb0 {p : Nums} : EqI (Jqb0 p) (.region (Jqb7 p) []) := eqi
def Jqb1 (p : Nums) : IC := (.seq (.region [⟨(some 6), (.asg (.c (.d (.int .i64 11)))), none, false⟩] []) .ret)
@[simp] theorem Jeb1 {p : Nums} : EqI (Jqb1 p) (.seq (.region [⟨(some 6), (.asg (.c (.d (.int .i64 11)))), none, false⟩] []) .ret) := eqi
@[simp] def Jqb8 (p : Nums) : List IOp := [qo 45 (.faddr 1 (.t 3)), qo 46 (.load none (.t 45)), qo 47 (.mov (.t 1)), qo 48 (.call p.ref07_in [(.t 46), (.t 47)]), qo 49 (.un .not (.t 48))]
def Jqb2 (p : Nums) : IC := (.region (Jqb8 p) [])
@[simp] theorem Jeb2 {p : Nums} : EqI (Jqb2 p) (.region (Jqb8 p) []) := eqi
def Jqam (p : Nums) : IC := (.seq (.region [⟨(some 6), (.asg (.c (.d (.int .i64 9)))), none, false⟩] []) .ret)
@[simp] theorem Jeam {p : Nums} : EqI (Jqam p) (.seq (.region [⟨(some 6), (.asg (.c (.d (.int .i64 9)))), none, false⟩] []) .ret) := eqi
@[simp] def Jqb4 (p : Nums) : List IOp := [qo 50 (.faddr 2 (.t 3)), qo 51 (.load none (.t 50)), qo 52 (.bin .neq (.t 51) (ci 0)), qo 53 (.mov (.t 52)), ⟨(some 54), (.faddr 3 (.t 3)), (some (53, false)), false⟩, ⟨(some 55), (.load none (.t 54)), (some (53, false)), false⟩, ⟨(some 56), (.bin .neq (.t 55) (ci 0)), (some (53, false)), false⟩, qo 57 (.pick (.t 53) (.c (.d (.bool true))) (.t 56))]
def Jqan (p : Nums) : IC := (.region (Jqb4 p) [])
@[simp] theorem Jean {p : Nums} : EqI (Jqan p) (.region (Jqb4 p) []) := eqi
def Jqao (p : Nums) : IC := (.seq (.region [⟨(some 6), (.asg (.c (.d (.int .i64 12)))), none, false⟩] []) .ret)
@[simp] theorem Jeao {p : Nums} : EqI (Jqao p) (.seq (.region [⟨(some 6), (.asg (.c (.d (.int .i64 12)))), none, false⟩] []) .ret) := eqi
def Jqap (p : Nums) : IC := (.seq (.seq (Jqb2 p) (.cond (.t 49) (Jqam p) .skip)) (.seq (.seq (Jqan p) (.cond (.t 57) (Jqao p) .skip)) (.seq (.region [⟨(some 6), (.asg (.c (.d (.int .i64 0)))), none, false⟩] []) .ret)))
@[simp] theorem Jeap {p : Nums} : EqI (Jqap p) (.seq (.seq (Jqb2 p) (.cond (.t 49) (Jqam p) .skip)) (.seq (.seq (Jqan p) (.cond (.t 57) (Jqao p) .skip)) (.seq (.region [⟨(some 6), (.asg (.c (.d (.int .i64 0)))), none, false⟩] []) .ret))) := eqi
def Jqaq (p : Nums) : IC := (.seq (.seq (Jqay p) (.cond (.t 30) (Jqaz p) .skip)) (.seq (.seq (Jqb0 p) (.cond (.t 42) (Jqb1 p) .skip)) (.seq (.region [⟨(some 6), (.asg (.c (.d (.int .i64 0)))), none, false⟩] []) .ret)))
@[simp] theorem Jeaq {p : Nums} : EqI (Jqaq p) (.seq (.seq (Jqay p) (.cond (.t 30) (Jqaz p) .skip)) (.seq (.seq (Jqb0 p) (.cond (.t 42) (Jqb1 p) .skip)) (.seq (.region [⟨(some 6), (.asg (.c (.d (.int .i64 0)))), none, false⟩] []) .ret))) := eqi
def Jqar (p : Nums) : IC := (.seq (.region [⟨(some 44), (.bin .eql (.t 8) (.c (.d (.int .i64 3)))), none, false⟩, ⟨(some 43), (.asg (.t 44)), none, false⟩] []) (.cond (.t 43) (Jqap p) .skip))
@[simp] theorem Jear {p : Nums} : EqI (Jqar p) (.seq (.region [⟨(some 44), (.bin .eql (.t 8) (.c (.d (.int .i64 3)))), none, false⟩, ⟨(some 43), (.asg (.t 44)), none, false⟩] []) (.cond (.t 43) (Jqap p) .skip)) := eqi
def Jqas (p : Nums) : IC := (.seq (.seq (Jqal p) (.cond (.t 15) (Jqav p) .skip)) (.seq (.seq (Jqaw p) (.cond (.t 23) (Jqax p) .skip)) (.seq (.region [⟨(some 6), (.asg (.c (.d (.int .i64 0)))), none, false⟩] []) .ret)))
@[simp] theorem Jeas {p : Nums} : EqI (Jqas p) (.seq (.seq (Jqal p) (.cond (.t 15) (Jqav p) .skip)) (.seq (.seq (Jqaw p) (.cond (.t 23) (Jqax p) .skip)) (.seq (.region [⟨(some 6), (.asg (.c (.d (.int .i64 0)))), none, false⟩] []) .ret))) := eqi
def Jqat (p : Nums) : IC := (.seq (.region [⟨(some 25), (.bin .eql (.t 8) (.c (.d (.int .i64 2)))), none, false⟩, ⟨(some 24), (.asg (.t 25)), none, false⟩] []) (.cond (.t 24) (Jqaq p) (Jqar p)))
@[simp] theorem Jeat {p : Nums} : EqI (Jqat p) (.seq (.region [⟨(some 25), (.bin .eql (.t 8) (.c (.d (.int .i64 2)))), none, false⟩, ⟨(some 24), (.asg (.t 25)), none, false⟩] []) (.cond (.t 24) (Jqaq p) (Jqar p))) := eqi
def Jqau (p : Nums) : IC := (.seq (.region [⟨(some 10), (.bin .eql (.t 8) (.c (.d (.int .i64 1)))), none, false⟩, ⟨(some 9), (.asg (.t 10)), none, false⟩] []) (.cond (.t 9) (Jqas p) (Jqat p)))
@[simp] theorem Jeau {p : Nums} : EqI (Jqau p) (.seq (.region [⟨(some 10), (.bin .eql (.t 8) (.c (.d (.int .i64 1)))), none, false⟩, ⟨(some 9), (.asg (.t 10)), none, false⟩] []) (.cond (.t 9) (Jqas p) (Jqat p))) := eqi
def Jtav (p : Nums) : IC := (.seq (.region [⟨(some 3), (.box (.t 0)), none, false⟩, ⟨(some 6), (.asg (.c (.d (.int .i64 0)))), none, false⟩] []) (.seq (.seq (.region [⟨(some 7), (.faddr 0 (.t 3)), none, false⟩, ⟨(some 8), (.load none (.t 7)), none, false⟩] []) (.block 0 (Jqau p))) (.seq (.region [⟨(some 6), (.asg (.c (.d (.int .i64 16)))), none, false⟩] []) .ret)))
@[simp] def Jq5g (p : Nums) : List IOp := [qo 3 (.mov (.t 0)), qo 4 (.bin .geq (.t 3) (ci 2)), qo 5 (.mov (.t 4)), ⟨(some 6), (.mov (.t 0)), (some (5, true)), false⟩, ⟨(some 7), (.bin .leq (.t 6) (ci 17)), (some (5, true)), false⟩, qo 8 (.pick (.t 5) (.t 7) (.c (.d (.bool false)))), qo 2 (.asg (.t 8))]
def Jq5f (p : Nums) : IC := (.region (Jq5g p) [])
@[simp] theorem Je5f {p : Nums} : EqI (Jq5f p) (.region (Jq5g p) []) := eqi
def Jtai (p : Nums) : IC := (.seq (.region [⟨(some 2), (.asg (.c (.d (.bool false)))), none, false⟩] []) (.seq (Jq5f p) .ret))
@[simp] def Jq5i (p : Nums) : List IOp := [qo 3 (.mov (.t 0)), qo 4 (.bin .geq (.t 3) (ci 5)), qo 5 (.mov (.t 4)), ⟨(some 6), (.mov (.t 0)), (some (5, true)), false⟩, ⟨(some 7), (.bin .leq (.t 6) (ci 16)), (some (5, true)), false⟩, qo 8 (.pick (.t 5) (.t 7) (.c (.d (.bool false)))), qo 2 (.asg (.t 8))]
def Jq5h (p : Nums) : IC := (.region (Jq5i p) [])
@[simp] theorem Je5h {p : Nums} : EqI (Jq5h p) (.region (Jq5i p) []) := eqi
def Jtaj (p : Nums) : IC := (.seq (.region [⟨(some 2), (.asg (.c (.d (.bool false)))), none, false⟩] []) (.seq (Jq5h p) .ret))
@[simp] def Jq5k (p : Nums) : List IOp := [qo 3 (.mov (.t 0)), qo 4 (.bin .geq (.t 3) (ci 1)), qo 5 (.mov (.t 4)), ⟨(some 6), (.mov (.t 0)), (some (5, true)), false⟩, ⟨(some 7), (.bin .leq (.t 6) (ci 16)), (some (5, true)), false⟩, qo 8 (.pick (.t 5) (.t 7) (.c (.d (.bool false)))), qo 2 (.asg (.t 8))]
def Jq5j (p : Nums) : IC := (.region (Jq5k p) [])
@[simp] theorem Je5j {p : Nums} : EqI (Jq5j p) (.region (Jq5k p) []) := eqi
def Jtak (p : Nums) : IC := (.seq (.region [⟨(some 2), (.asg (.c (.d (.bool false)))), none, false⟩] []) (.seq (Jq5j p) .ret))
@[simp] def Jq3c (p : Nums) : List IOp := [qo 9 (.mo .mk), qo 10 (.mo .mk), qn (.store 1 (.t 2) (.t 9)), qn (.store 1 (.t 3) (.t 10))]
def Jq30 (p : Nums) : IC := (.region (Jq3c p) [])
@[simp] theorem Je30 {p : Nums} : EqI (Jq30 p) (.region (Jq3c p) []) := eqi
@[simp] def Jq3g (p : Nums) : List IOp := [qo 12 (.faddr 0 (.t 1)), qo 13 (.load none (.t 12)), qo 14 (.len (.t 13)), qo 15 (.mov (ci 0))]
def Jq34 (p : Nums) : IC := (.region (Jq3g p) [])
@[simp] theorem Je34 {p : Nums} : EqI (Jq34 p) (.region (Jq3g p) []) := eqi
@[simp] def Jq3h (p : Nums) : List IOp := [qo 17 (.iaddr 5 (.t 13) (.t 15)), qo 18 (.load (some 5) (.t 17)), qo 6 (.alloc [(zi 0), (zi 0), (zi 0), (zi 0), (zi 0)]), qn (.store 5 (.t 6) (.t 18))]
def Jq35 (p : Nums) : IC := (.region (Jq3h p) [])
@[simp] theorem Je35 {p : Nums} : EqI (Jq35 p) (.region (Jq3h p) []) := eqi
@[simp] def Jq3i (p : Nums) : List IOp := [qo 20 (.faddr 0 (.t 6)), qo 21 (.load none (.t 20)), qo 22 (.call p.opcode_Of [(.t 21)]), qo 19 (.mov (.t 22)), qo 23 (.ext (.t 19) 0), qo 24 (.ext (.t 19) 1), qo 7 (.alloc [(.d (.bool false)), (.d (.bool false)), (.d (.bool false)), (.d (.bool false))]), qn (.store 4 (.t 7) (.t 23)), qo 8 (.asg (.t 24))]
def Jq36 (p : Nums) : IC := (.region (Jq3i p) [])
@[simp] theorem Je36 {p : Nums} : EqI (Jq36 p) (.region (Jq3i p) []) := eqi
@[simp] def Jq3j (p : Nums) : List IOp := [qo 27 (.mov (.t 4)), qo 28 (.faddr 2 (.t 6)), qo 29 (.load none (.t 28)), qo 30 (.callv (.t 27) [(.t 29)])]
def Jq37 (p : Nums) : IC := (.region (Jq3j p) [])
@[simp] theorem Je37 {p : Nums} : EqI (Jq37 p) (.region (Jq3j p) []) := eqi
@[simp] def Jq3k (p : Nums) : List IOp := [qo 33 (.mov (.t 4)), qo 34 (.faddr 3 (.t 6)), qo 35 (.load none (.t 34)), qo 36 (.callv (.t 33) [(.t 35)])]
def Jq38 (p : Nums) : IC := (.region (Jq3k p) [])
@[simp] theorem Je38 {p : Nums} : EqI (Jq38 p) (.region (Jq3k p) []) := eqi
@[simp] def Jq3l (p : Nums) : List IOp := [qo 39 (.load none (.t 3)), qo 40 (.faddr 1 (.t 6)), qo 41 (.load none (.t 40)), qn (.mo (.set (.t 39) (.t 41) (.c (.d (.bool true)))))]
def Jq39 (p : Nums) : IC := (.region (Jq3l p) [])
@[simp] theorem Je39 {p : Nums} : EqI (Jq39 p) (.region (Jq3l p) []) := eqi
def Jq3a (p : Nums) : IC := (.seq (Jq35 p) (.seq (Jq36 p) (.seq (.seq (.region [⟨(some 25), (.faddr 1 (.t 7)), none, false⟩, ⟨(some 26), (.load none (.t 25)), none, false⟩] []) (.cond (.t 26) (Jq37 p) .skip)) (.seq (.seq (.region [⟨(some 31), (.faddr 2 (.t 7)), none, false⟩, ⟨(some 32), (.load none (.t 31)), none, false⟩] []) (.cond (.t 32) (Jq38 p) .skip)) (.seq (.region [⟨(some 37), (.faddr 0 (.t 7)), none, false⟩, ⟨(some 38), (.load none (.t 37)), none, false⟩] []) (.cond (.t 38) (Jq39 p) .skip))))))
@[simp] theorem Je3a {p : Nums} : EqI (Jq3a p) (.seq (Jq35 p) (.seq (Jq36 p) (.seq (.seq (.region [⟨(some 25), (.faddr 1 (.t 7)), none, false⟩, ⟨(some 26), (.load none (.t 25)), none, false⟩] []) (.cond (.t 26) (Jq37 p) .skip)) (.seq (.seq (.region [⟨(some 31), (.faddr 2 (.t 7)), none, false⟩, ⟨(some 32), (.load none (.t 31)), none, false⟩] []) (.cond (.t 32) (Jq38 p) .skip)) (.seq (.region [⟨(some 37), (.faddr 0 (.t 7)), none, false⟩, ⟨(some 38), (.load none (.t 37)), none, false⟩] []) (.cond (.t 38) (Jq39 p) .skip)))))) := eqi
def Jq3b (p : Nums) : IC := (.seq (.region [⟨(some 16), (.bin .lss (.t 15) (.t 14)), none, false⟩] []) (.seq (.cond (.t 16) .skip (.exit 0)) (.seq (.block 1 (Jq3a p)) (.region [⟨(some 42), (.bin .add (.t 15) (.c (.d (.int .i64 1)))), none, false⟩, ⟨(some 15), (.mov (.t 42)), none, false⟩] []))))
@[simp] theorem Je3b {p : Nums} : EqI (Jq3b p) (.seq (.region [⟨(some 16), (.bin .lss (.t 15) (.t 14)), none, false⟩] []) (.seq (.cond (.t 16) .skip (.exit 0)) (.seq (.block 1 (Jq3a p)) (.region [⟨(some 42), (.bin .add (.t 15) (.c (.d (.int .i64 1)))), none, false⟩, ⟨(some 15), (.mov (.t 42)), none, false⟩] [])))) := eqi
@[simp] def Jq3d (p : Nums) : List IOp := [qo 43 (.faddr 1 (.t 1)), qo 44 (.faddr 0 (.t 43)), qo 45 (.load none (.t 44)), qo 46 (.bin .neq (.t 45) (ci 1))]
def Jq31 (p : Nums) : IC := (.region (Jq3d p) [])
@[simp] theorem Je31 {p : Nums} : EqI (Jq31 p) (.region (Jq3d p) []) := eqi
@[simp] def Jq3e (p : Nums) : List IOp := [qo 47 (.mov (.t 4)), qo 48 (.faddr 1 (.t 1)), qo 49 (.faddr 1 (.t 48)), qo 50 (.load none (.t 49)), qo 51 (.callv (.t 47) [(.t 50)])]
def Jq32 (p : Nums) : IC := (.region (Jq3e p) [])
@[simp] theorem Je32 {p : Nums} : EqI (Jq32 p) (.region (Jq3e p) []) := eqi
@[simp] def Jq3f (p : Nums) : List IOp := [qp 52 (.load none (.t 2)), qp 53 (.load none (.t 3)), qm (.storeq 1 (.t 2) (.t 52) [(3, 1)]), qn (.store 1 (.t 3) (.t 53))]
def Jq33 (p : Nums) : IC := (.region (Jq3f p) [])
@[simp] theorem Je33 {p : Nums} : EqI (Jq33 p) (.region (Jq3f p) []) := eqi
def Jtac (p : Nums) : IC := (.seq (.region [⟨(some 1), (.box (.t 0)), none, false⟩, ⟨(some 2), (.alloc [.nilm]), none, false⟩, ⟨(some 3), (.alloc [.nilm]), none, false⟩] []) (.seq (Jq30 p) (.seq (.region [⟨(some 11), (.mkfn (.func p.liveness_scan_1) [] [(.t 3), (.t 2)]), none, false⟩, ⟨(some 4), (.asg (.t 11)), none, false⟩] []) (.seq (.seq (Jq34 p) (.block 0 (.loop (Jq3b p)))) (.seq (.seq (Jq31 p) (.cond (.t 46) (Jq32 p) .skip)) (.seq (Jq33 p) .ret))))))
@[simp] def Jq3q (p : Nums) : List IOp := [qo 5 (.mov (.t 0)), qo 6 (.mo (.len (.t 5))), qo 7 (.mkslice 1 8 [(.int .i64 0)] (ci 0) (.t 6)), qo 3 (.asg (.t 7))]
def Jq3m (p : Nums) : IC := (.region (Jq3q p) [])
@[simp] theorem Je3m {p : Nums} : EqI (Jq3m p) (.region (Jq3q p) []) := eqi
@[simp] def Jq3r (p : Nums) : List IOp := [qo 12 (.mo (.ent (.t 9))), qo 13 (.ext (.t 12) 0), qo 4 (.asg (.t 13))]
def Jq3n (p : Nums) : IC := (.region (Jq3r p) [])
@[simp] theorem Je3n {p : Nums} : EqI (Jq3n p) (.region (Jq3r p) []) := eqi
@[simp] def Jq3s (p : Nums) : List IOp := [qo 14 (.mov (.t 3)), qo 15 (.mov (.t 4)), qo 16 (.bslice 1 1 [(.int .i64 0)] [(0, (.t 15))]), qo 17 (.app 1 8 (.t 14) (.t 16)), qo 3 (.asg (.t 17))]
def Jq3o (p : Nums) : IC := (.region (Jq3s p) [])
@[simp] theorem Je3o {p : Nums} : EqI (Jq3o p) (.region (Jq3s p) []) := eqi
def Jq3p (p : Nums) : IC := (.seq (.region [⟨(some 10), (.mo (.nxt (.t 9))), none, false⟩, ⟨(some 11), (.ext (.t 10) 0), none, false⟩] []) (.seq (.cond (.t 11) .skip (.exit 0)) (.block 1 (.seq (Jq3n p) (Jq3o p)))))
@[simp] theorem Je3p {p : Nums} : EqI (Jq3p p) (.seq (.region [⟨(some 10), (.mo (.nxt (.t 9))), none, false⟩, ⟨(some 11), (.ext (.t 10) 0), none, false⟩] []) (.seq (.cond (.t 11) .skip (.exit 0)) (.block 1 (.seq (Jq3n p) (Jq3o p))))) := eqi
def Jtae (p : Nums) : IC := (.seq (.region [⟨(some 2), (.asg (.c .nils)), none, false⟩] []) (.seq (Jq3m p) (.seq (.seq (.region [⟨(some 8), (.mov (.t 0)), none, false⟩, ⟨(some 9), (.mo (.rng (.t 8))), none, false⟩] []) (.block 0 (.loop (Jq3p p)))) (.seq (.region [⟨(some 18), (.mov (.t 3)), none, false⟩, ⟨(some 19), (.call p.slices_Sort_int [(.t 18)]), none, false⟩] []) (.seq (.region [⟨(some 20), (.mov (.t 3)), none, false⟩, ⟨(some 2), (.asg (.t 20)), none, false⟩] []) .ret)))))
@[simp] def Jq4c (p : Nums) : List IOp := [qo 10 (.faddr 2 (.t 1)), qo 11 (.load none (.t 10)), qo 12 (.len (.t 11)), qo 13 (.mo (.mks 1 8 [.nilm] (.t 12) (.t 12))), qo 3 (.asg (.t 13))]
def Jq3t (p : Nums) : IC := (.region (Jq4c p) [])
@[simp] theorem Je3t {p : Nums} : EqI (Jq3t p) (.region (Jq4c p) []) := eqi
@[simp] def Jq4i (p : Nums) : List IOp := [qo 14 (.faddr 2 (.t 1)), qo 15 (.load none (.t 14)), qo 16 (.len (.t 15)), qo 17 (.mo (.mks 1 8 [.nilm] (.t 16) (.t 16))), qo 4 (.asg (.t 17))]
def Jq44 (p : Nums) : IC := (.region (Jq4i p) [])
@[simp] theorem Je44 {p : Nums} : EqI (Jq44 p) (.region (Jq4i p) []) := eqi
@[simp] def Jq4j (p : Nums) : List IOp := [qo 18 (.faddr 2 (.t 1)), qo 19 (.load none (.t 18)), qo 20 (.len (.t 19)), qo 21 (.mov (ci 0))]
def Jq45 (p : Nums) : IC := (.region (Jq4j p) [])
@[simp] theorem Je45 {p : Nums} : EqI (Jq45 p) (.region (Jq4j p) []) := eqi
@[simp] def Jq4k (p : Nums) : List IOp := [qo 23 (.mov (.t 21)), qo 24 (.iaddr 5 (.t 19) (.t 21)), qo 25 (.load (some 5) (.t 24)), qo 6 (.alloc [.nils, (zi 0), (zi 0), (zi 0), (zi 0)]), qo 5 (.asg (.t 23)), qn (.store 5 (.t 6) (.t 25))]
def Jq46 (p : Nums) : IC := (.region (Jq4k p) [])
@[simp] theorem Je46 {p : Nums} : EqI (Jq46 p) (.region (Jq4k p) []) := eqi
@[simp] def Jq4l (p : Nums) : List IOp := [qo 27 (.mov (.t 3)), qo 28 (.mov (.t 5)), qo 29 (.mov (.t 4)), qo 30 (.mov (.t 5)), qo 31 (.load (some 5) (.t 6)), qo 32 (.call p.liveness_scan [(.t 31)]), qo 26 (.mov (.t 32)), qo 33 (.ext (.t 26) 0), qo 34 (.ext (.t 26) 1), qo 35 (.iaddr 1 (.t 27) (.t 28)), qn (.store 1 (.t 35) (.t 33)), qo 36 (.iaddr 1 (.t 29) (.t 30)), qn (.store 1 (.t 36) (.t 34))]
def Jq47 (p : Nums) : IC := (.region (Jq4l p) [])
@[simp] theorem Je47 {p : Nums} : EqI (Jq47 p) (.region (Jq4l p) []) := eqi
def Jq48 (p : Nums) : IC := (.seq (.region [⟨(some 22), (.bin .lss (.t 21) (.t 20)), none, false⟩] []) (.seq (.cond (.t 22) .skip (.exit 0)) (.seq (.block 1 (.seq (Jq46 p) (Jq47 p))) (.region [⟨(some 37), (.bin .add (.t 21) (.c (.d (.int .i64 1)))), none, false⟩, ⟨(some 21), (.mov (.t 37)), none, false⟩] []))))
@[simp] theorem Je48 {p : Nums} : EqI (Jq48 p) (.seq (.region [⟨(some 22), (.bin .lss (.t 21) (.t 20)), none, false⟩] []) (.seq (.cond (.t 22) .skip (.exit 0)) (.seq (.block 1 (.seq (Jq46 p) (Jq47 p))) (.region [⟨(some 37), (.bin .add (.t 21) (.c (.d (.int .i64 1)))), none, false⟩, ⟨(some 21), (.mov (.t 37)), none, false⟩] [])))) := eqi
@[simp] def Jq4m (p : Nums) : List IOp := [qo 38 (.faddr 2 (.t 1)), qo 39 (.load none (.t 38)), qo 40 (.len (.t 39)), qo 41 (.bin .sub (.t 40) (ci 1)), qo 7 (.asg (.t 41))]
def Jq49 (p : Nums) : IC := (.region (Jq4m p) [])
@[simp] theorem Je49 {p : Nums} : EqI (Jq49 p) (.region (Jq4m p) []) := eqi
@[simp] def Jq4n (p : Nums) : List IOp := [qo 46 (.mov (.t 3)), qo 47 (.mov (.t 7)), qo 48 (.iaddr 1 (.t 46) (.t 47)), qo 49 (.load none (.t 48)), qo 50 (.mo (.len (.t 49))), qo 8 (.asg (.t 50))]
def Jq4a (p : Nums) : IC := (.region (Jq4n p) [])
@[simp] theorem Je4a {p : Nums} : EqI (Jq4a p) (.region (Jq4n p) []) := eqi
@[simp] def Jq4o (p : Nums) : List IOp := [qo 51 (.mov (.t 3)), qo 52 (.faddr 2 (.t 1)), qo 53 (.load none (.t 52)), qo 54 (.mov (.t 7)), qo 55 (.iaddr 5 (.t 53) (.t 54)), qo 56 (.load (some 5) (.t 55)), qo 57 (.call p.liveness_exit [(.t 51), (.t 56)]), qo 58 (.mo (.rng (.t 57)))]
def Jq4b (p : Nums) : IC := (.region (Jq4o p) [])
@[simp] theorem Je4b {p : Nums} : EqI (Jq4b p) (.region (Jq4o p) []) := eqi
@[simp] def Jq4d (p : Nums) : List IOp := [qo 61 (.mo (.ent (.t 58))), qo 62 (.ext (.t 61) 0), qo 9 (.asg (.t 62))]
def Jq3u (p : Nums) : IC := (.region (Jq4d p) [])
@[simp] theorem Je3u {p : Nums} : EqI (Jq3u p) (.region (Jq4d p) []) := eqi
@[simp] def Jq4e (p : Nums) : List IOp := [qo 63 (.mov (.t 4)), qo 64 (.mov (.t 7)), qo 65 (.iaddr 1 (.t 63) (.t 64)), qo 66 (.load none (.t 65)), qo 67 (.mov (.t 9)), qo 68 (.mo (.get (.t 66) (.t 67))), qo 69 (.un .not (.t 68))]
def Jq3v (p : Nums) : IC := (.region (Jq4e p) [])
@[simp] theorem Je3v {p : Nums} : EqI (Jq3v p) (.region (Jq4e p) []) := eqi
@[simp] def Jq4f (p : Nums) : List IOp := [qo 70 (.mov (.t 3)), qo 71 (.mov (.t 7)), qo 72 (.iaddr 1 (.t 70) (.t 71)), qo 73 (.load none (.t 72)), qo 74 (.mov (.t 9)), qn (.mo (.set (.t 73) (.t 74) (.c (.d (.bool true)))))]
def Jq3w (p : Nums) : IC := (.region (Jq4f p) [])
@[simp] theorem Je3w {p : Nums} : EqI (Jq3w p) (.region (Jq4f p) []) := eqi
def Jq3x (p : Nums) : IC := (.seq (Jq3u p) (.seq (Jq3v p) (.cond (.t 69) (Jq3w p) .skip)))
@[simp] theorem Je3x {p : Nums} : EqI (Jq3x p) (.seq (Jq3u p) (.seq (Jq3v p) (.cond (.t 69) (Jq3w p) .skip))) := eqi
def Jq3y (p : Nums) : IC := (.seq (.region [⟨(some 59), (.mo (.nxt (.t 58))), none, false⟩, ⟨(some 60), (.ext (.t 59) 0), none, false⟩] []) (.seq (.cond (.t 60) .skip (.exit 6)) (.block 7 (Jq3x p))))
@[simp] theorem Je3y {p : Nums} : EqI (Jq3y p) (.seq (.region [⟨(some 59), (.mo (.nxt (.t 58))), none, false⟩, ⟨(some 60), (.ext (.t 59) 0), none, false⟩] []) (.seq (.cond (.t 60) .skip (.exit 6)) (.block 7 (Jq3x p)))) := eqi
@[simp] def Jq4g (p : Nums) : List IOp := [qo 75 (.mov (.t 3)), qo 76 (.mov (.t 7)), qo 77 (.iaddr 1 (.t 75) (.t 76)), qo 78 (.load none (.t 77)), qo 79 (.mo (.len (.t 78))), qo 80 (.mov (.t 8)), qo 81 (.bin .gtr (.t 79) (.t 80))]
def Jq3z (p : Nums) : IC := (.region (Jq4g p) [])
@[simp] theorem Je3z {p : Nums} : EqI (Jq3z p) (.region (Jq4g p) []) := eqi
def Jq40 (p : Nums) : IC := (.seq (Jq4a p) (.seq (.seq (Jq4b p) (.block 6 (.loop (Jq3y p)))) (.seq (Jq3z p) (.cond (.t 81) (.exit 3) .skip))))
@[simp] theorem Je40 {p : Nums} : EqI (Jq40 p) (.seq (Jq4a p) (.seq (.seq (Jq4b p) (.block 6 (.loop (Jq3y p)))) (.seq (Jq3z p) (.cond (.t 81) (.exit 3) .skip)))) := eqi
@[simp] def Jq4h (p : Nums) : List IOp := [qo 44 (.mov (.t 7)), qo 45 (.bin .sub (.t 44) (ci 1)), qo 7 (.asg (.t 45))]
def Jq41 (p : Nums) : IC := (.region (Jq4h p) [])
@[simp] theorem Je41 {p : Nums} : EqI (Jq41 p) (.region (Jq4h p) []) := eqi
def Jq42 (p : Nums) : IC := (.seq (.seq (.region [⟨(some 42), (.mov (.t 7)), none, false⟩, ⟨(some 43), (.bin .geq (.t 42) (.c (.d (.int .i64 0)))), none, false⟩] []) (.cond (.t 43) .skip (.exit 4))) (.seq (.block 5 (Jq40 p)) (Jq41 p)))
@[simp] theorem Je42 {p : Nums} : EqI (Jq42 p) (.seq (.seq (.region [⟨(some 42), (.mov (.t 7)), none, false⟩, ⟨(some 43), (.bin .geq (.t 42) (.c (.d (.int .i64 0)))), none, false⟩] []) (.cond (.t 43) .skip (.exit 4))) (.seq (.block 5 (Jq40 p)) (Jq41 p))) := eqi
def Jq43 (p : Nums) : IC := (.seq (.seq (Jq49 p) (.block 4 (.loop (Jq42 p)))) (.seq (.region [⟨(some 82), (.mov (.t 3)), none, false⟩, ⟨(some 2), (.asg (.t 82)), none, false⟩] []) .ret))
@[simp] theorem Je43 {p : Nums} : EqI (Jq43 p) (.seq (.seq (Jq49 p) (.block 4 (.loop (Jq42 p)))) (.seq (.region [⟨(some 82), (.mov (.t 3)), none, false⟩, ⟨(some 2), (.asg (.t 82)), none, false⟩] []) .ret)) := eqi
def Jtaf (p : Nums) : IC := (.seq (.region [⟨(some 1), (.box (.t 0)), none, false⟩, ⟨(some 2), (.asg (.c .nils)), none, false⟩] []) (.seq (Jq3t p) (.seq (Jq44 p) (.seq (.seq (Jq45 p) (.block 0 (.loop (Jq48 p)))) (.seq .skip (.block 2 (.loop (.block 3 (Jq43 p)))))))))
@[simp] def Jq2r (p : Nums) : List IOp := [qo 10 (.faddr 1 (.t 3)), qo 11 (.load (some 4) (.t 10)), qo 12 (.call p.source_Successors [(.t 11)]), qo 13 (.len (.t 12)), qo 14 (.mov (ci 0))]
def Jq2j (p : Nums) : IC := (.region (Jq2r p) [])
@[simp] theorem Je2j {p : Nums} : EqI (Jq2j p) (.region (Jq2r p) []) := eqi
@[simp] def Jq2s (p : Nums) : List IOp := [qo 16 (.iaddr 1 (.t 12) (.t 14)), qo 17 (.load none (.t 16)), qo 7 (.asg (.t 17))]
def Jq2k (p : Nums) : IC := (.region (Jq2s p) [])
@[simp] theorem Je2k {p : Nums} : EqI (Jq2k p) (.region (Jq2s p) []) := eqi
@[simp] def Jq2t (p : Nums) : List IOp := [qo 18 (.mov (.t 0)), qo 19 (.mov (.t 7)), qo 20 (.iaddr 1 (.t 18) (.t 19)), qo 21 (.load none (.t 20)), qo 22 (.mo (.rng (.t 21)))]
def Jq2l (p : Nums) : IC := (.region (Jq2t p) [])
@[simp] theorem Je2l {p : Nums} : EqI (Jq2l p) (.region (Jq2t p) []) := eqi
@[simp] def Jq2u (p : Nums) : List IOp := [qo 25 (.mo (.ent (.t 22))), qo 26 (.ext (.t 25) 0), qo 8 (.asg (.t 26))]
def Jq2m (p : Nums) : IC := (.region (Jq2u p) [])
@[simp] theorem Je2m {p : Nums} : EqI (Jq2m p) (.region (Jq2u p) []) := eqi
@[simp] def Jq2v (p : Nums) : List IOp := [qo 27 (.mov (.t 5)), qo 28 (.mov (.t 8)), qn (.mo (.set (.t 27) (.t 28) (.c (.d (.bool true)))))]
def Jq2n (p : Nums) : IC := (.region (Jq2v p) [])
@[simp] theorem Je2n {p : Nums} : EqI (Jq2n p) (.region (Jq2v p) []) := eqi
def Jq2o (p : Nums) : IC := (.seq (.region [⟨(some 23), (.mo (.nxt (.t 22))), none, false⟩, ⟨(some 24), (.ext (.t 23) 0), none, false⟩] []) (.seq (.cond (.t 24) .skip (.exit 2)) (.block 3 (.seq (Jq2m p) (Jq2n p)))))
@[simp] theorem Je2o {p : Nums} : EqI (Jq2o p) (.seq (.region [⟨(some 23), (.mo (.nxt (.t 22))), none, false⟩, ⟨(some 24), (.ext (.t 23) 0), none, false⟩] []) (.seq (.cond (.t 24) .skip (.exit 2)) (.block 3 (.seq (Jq2m p) (Jq2n p))))) := eqi
def Jq2p (p : Nums) : IC := (.seq (Jq2k p) (.seq (Jq2l p) (.block 2 (.loop (Jq2o p)))))
@[simp] theorem Je2p {p : Nums} : EqI (Jq2p p) (.seq (Jq2k p) (.seq (Jq2l p) (.block 2 (.loop (Jq2o p))))) := eqi
def Jq2q (p : Nums) : IC := (.seq (.region [⟨(some 15), (.bin .lss (.t 14) (.t 13)), none, false⟩] []) (.seq (.cond (.t 15) .skip (.exit 0)) (.seq (.block 1 (Jq2p p)) (.region [⟨(some 29), (.bin .add (.t 14) (.c (.d (.int .i64 1)))), none, false⟩, ⟨(some 14), (.mov (.t 29)), none, false⟩] []))))
@[simp] theorem Je2q {p : Nums} : EqI (Jq2q p) (.seq (.region [⟨(some 15), (.bin .lss (.t 14) (.t 13)), none, false⟩] []) (.seq (.cond (.t 15) .skip (.exit 0)) (.seq (.block 1 (Jq2p p)) (.region [⟨(some 29), (.bin .add (.t 14) (.c (.d (.int .i64 1)))), none, false⟩, ⟨(some 14), (.mov (.t 29)), none, false⟩] [])))) := eqi
def Jtab (p : Nums) : IC := (.seq (.region [⟨(some 3), (.box (.t 1)), none, false⟩, ⟨(some 4), (.asg (.c .nilm)), none, false⟩] []) (.seq (.region [⟨(some 9), (.mo .mk), none, false⟩, ⟨(some 5), (.asg (.t 9)), none, false⟩] []) (.seq (.seq (Jq2j p) (.block 0 (.loop (Jq2q p)))) (.seq (.region [⟨(some 30), (.mov (.t 5)), none, false⟩, ⟨(some 4), (.asg (.t 30)), none, false⟩] []) .ret))))
@[simp] def Jqc1 (p : Nums) : List IOp := [qo 2 (.box (.t 0)), qo 4 (.alloc [(zi 0), (zi 0), (zi 0), (zi 0), .nils, .nils, .nils, (zi 0)])]
def Jqbw (p : Nums) : IC := (.region (Jqc1 p) [])
@[simp] theorem Jebw {p : Nums} : EqI (Jqbw p) (.region (Jqc1 p) []) := eqi
@[simp] def Jqc2 (p : Nums) : List IOp := [qo 6 (.bslice 1 0 [(.int .i64 0)] []), qo 7 (.mov (.t 1)), qo 8 (.app 1 8 (.t 6) (.t 7)), qo 9 (.build [(zi 0), (zi 0), (zi 0), (zi 0), .nils, .nils, .nils, (zi 0)] [(4, 1, (.t 8))]), qo 5 (.alloc [(zi 0), (zi 0), (zi 0), (zi 0), .nils, .nils, .nils, (zi 0)]), qn (.store 8 (.t 5) (.t 9))]
def Jqbx (p : Nums) : IC := (.region (Jqc2 p) [])
@[simp] theorem Jebx {p : Nums} : EqI (Jqbx p) (.region (Jqc2 p) []) := eqi
@[simp] def Jqc3 (p : Nums) : List IOp := [qo 10 (.faddr 4 (.t 5)), qo 11 (.load none (.t 10)), qo 12 (.len (.t 11)), qo 13 (.faddr 1 (.t 2)), qo 14 (.load none (.t 13)), qo 15 (.bin .lss (.t 12) (.t 14))]
def Jqby (p : Nums) : IC := (.region (Jqc3 p) [])
@[simp] theorem Jeby {p : Nums} : EqI (Jqby p) (.region (Jqc3 p) []) := eqi
@[simp] def Jqc4 (p : Nums) : List IOp := [qo 16 (.faddr 4 (.t 5)), qo 17 (.load none (.t 16)), qo 18 (.bslice 1 1 [(.int .i64 0)] [(0, (ci 0))]), qo 19 (.app 1 8 (.t 17) (.t 18)), qo 20 (.faddr 4 (.t 5)), qn (.store 1 (.t 20) (.t 19))]
def Jqbz (p : Nums) : IC := (.region (Jqc4 p) [])
@[simp] theorem Jebz {p : Nums} : EqI (Jqbz p) (.region (Jqc4 p) []) := eqi
def Jqc0 (p : Nums) : IC := (.seq (.seq (Jqby p) (.cond (.t 15) .skip (.exit 0))) (.block 1 (Jqbz p)))
@[simp] theorem Jec0 {p : Nums} : EqI (Jqc0 p) (.seq (.seq (Jqby p) (.cond (.t 15) .skip (.exit 0))) (.block 1 (Jqbz p))) := eqi
def Jtb0 (p : Nums) : IC := (.seq (Jqbw p) (.seq (Jqbx p) (.seq (.block 0 (.loop (Jqc0 p))) (.seq (.region [⟨(some 21), (.load (some 8) (.t 5)), none, false⟩, ⟨none, (.store 8 (.t 4) (.t 21)), none, false⟩] []) .ret))))
@[simp] def Jq6s (p : Nums) : List IOp := [qo 16 (.mov (.t 3)), qo 8 (.asg (.t 16)), qo 9 (.asg (.c (.d (.bool true))))]
def Jq5l (p : Nums) : IC := (.region (Jq6s p) [])
@[simp] theorem Je5l {p : Nums} : EqI (Jq5l p) (.region (Jq6s p) []) := eqi
@[simp] def Jq73 (p : Nums) : List IOp := [qo 19 (.mov (.t 1)), qo 8 (.asg (.t 19)), qo 9 (.asg (.c (.d (.bool true))))]
def Jq5w (p : Nums) : IC := (.region (Jq73 p) [])
@[simp] theorem Je5w {p : Nums} : EqI (Jq5w p) (.region (Jq73 p) []) := eqi
@[simp] def Jq7a (p : Nums) : List IOp := [qo 22 (.mov (.t 1)), qo 23 (.bin .sub (ci 0) (.t 22)), qo 8 (.asg (.t 23)), qo 9 (.asg (.c (.d (.bool true))))]
def Jq67 (p : Nums) : IC := (.region (Jq7a p) [])
@[simp] theorem Je67 {p : Nums} : EqI (Jq67 p) (.region (Jq7a p) []) := eqi
@[simp] def Jq7b (p : Nums) : List IOp := [qo 26 (.mov (.t 1)), qo 27 (.bin .sub (ci 0) (.t 26)), qo 28 (.bin .sub (.t 27) (ci 1)), qo 8 (.asg (.t 28)), qo 9 (.asg (.c (.d (.bool true))))]
def Jq6i (p : Nums) : IC := (.region (Jq7b p) [])
@[simp] theorem Je6i {p : Nums} : EqI (Jq6i p) (.region (Jq7b p) []) := eqi
@[simp] def Jq7c (p : Nums) : List IOp := [qo 31 (.mov (.t 1)), qo 32 (.mov (.t 2)), qo 33 (.bin .add (.t 31) (.t 32)), qo 8 (.asg (.t 33)), qo 9 (.asg (.c (.d (.bool true))))]
def Jq6n (p : Nums) : IC := (.region (Jq7c p) [])
@[simp] theorem Je6n {p : Nums} : EqI (Jq6n p) (.region (Jq7c p) []) := eqi
@[simp] def Jq7d (p : Nums) : List IOp := [qo 36 (.mov (.t 1)), qo 37 (.mov (.t 2)), qo 38 (.bin .sub (.t 36) (.t 37)), qo 8 (.asg (.t 38)), qo 9 (.asg (.c (.d (.bool true))))]
def Jq6o (p : Nums) : IC := (.region (Jq7d p) [])
@[simp] theorem Je6o {p : Nums} : EqI (Jq6o p) (.region (Jq7d p) []) := eqi
@[simp] def Jq7e (p : Nums) : List IOp := [qo 41 (.mov (.t 1)), qo 42 (.mov (.t 2)), qo 43 (.bin .mul (.t 41) (.t 42)), qo 8 (.asg (.t 43)), qo 9 (.asg (.c (.d (.bool true))))]
def Jq6p (p : Nums) : IC := (.region (Jq7e p) [])
@[simp] theorem Je6p {p : Nums} : EqI (Jq6p p) (.region (Jq7e p) []) := eqi
@[simp] def Jq7f (p : Nums) : List IOp := [qo 46 (.bin .eql (.t 13) (ci 9)), qo 44 (.asg (.t 46))]
def Jq6q (p : Nums) : IC := (.region (Jq7f p) [])
@[simp] theorem Je6q {p : Nums} : EqI (Jq6q p) (.region (Jq7f p) []) := eqi
def Jq6r (p : Nums) : IC := (.seq (.region [⟨(some 8), (.asg (.c (.d (.int .i64 0)))), none, false⟩, ⟨(some 9), (.asg (.c (.d (.bool false)))), none, false⟩] []) .ret)
@[simp] theorem Je6r {p : Nums} : EqI (Jq6r p) (.seq (.region [⟨(some 8), (.asg (.c (.d (.int .i64 0)))), none, false⟩, ⟨(some 9), (.asg (.c (.d (.bool false)))), none, false⟩] []) .ret) := eqi
@[simp] def Jq6t (p : Nums) : List IOp := [qo 52 (.mov (.t 1)), qo 53 (.bin .sub (ci 0) (.t 52)), qo 10 (.asg (.t 53))]
def Jq5m (p : Nums) : IC := (.region (Jq6t p) [])
@[simp] theorem Je5m {p : Nums} : EqI (Jq5m p) (.region (Jq6t p) []) := eqi
@[simp] def Jq6u (p : Nums) : List IOp := [qo 54 (.mov (.t 1)), qo 55 (.mov (.t 2)), qo 56 (.bin .quo (.t 54) (.t 55)), qo 10 (.asg (.t 56))]
def Jq5n (p : Nums) : IC := (.region (Jq6u p) [])
@[simp] theorem Je5n {p : Nums} : EqI (Jq5n p) (.region (Jq6u p) []) := eqi
@[simp] def Jq6v (p : Nums) : List IOp := [qo 59 (.mov (.t 10)), qo 8 (.asg (.t 59)), qo 9 (.asg (.c (.d (.bool true))))]
def Jq5o (p : Nums) : IC := (.region (Jq6v p) [])
@[simp] theorem Je5o {p : Nums} : EqI (Jq5o p) (.region (Jq6v p) []) := eqi
@[simp] def Jq6w (p : Nums) : List IOp := [qo 60 (.mov (.t 1)), qo 61 (.mov (.t 2)), qo 62 (.mov (.t 10)), qo 63 (.bin .mul (.t 61) (.t 62)), qo 64 (.bin .sub (.t 60) (.t 63)), qo 8 (.asg (.t 64)), qo 9 (.asg (.c (.d (.bool true))))]
def Jq5p (p : Nums) : IC := (.region (Jq6w p) [])
@[simp] theorem Je5p {p : Nums} : EqI (Jq5p p) (.region (Jq6w p) []) := eqi
@[simp] def Jq6x (p : Nums) : List IOp := [qo 67 (.mov (.t 1)), qo 68 (.mov (.t 2)), qo 69 (.bslice 1 4 [(.bool false)] [(0, (.c (.d (.bool false)))), (1, (.c (.d (.bool false)))), (2, (.c (.d (.bool false)))), (3, (.c (.d (.bool true))))]), qo 70 (.call p.ref06_bits [(.t 67), (.t 68), (.t 69)]), qo 8 (.asg (.t 70)), qo 9 (.asg (.c (.d (.bool true))))]
def Jq5q (p : Nums) : IC := (.region (Jq6x p) [])
@[simp] theorem Je5q {p : Nums} : EqI (Jq5q p) (.region (Jq6x p) []) := eqi
@[simp] def Jq6y (p : Nums) : List IOp := [qo 73 (.mov (.t 1)), qo 74 (.mov (.t 2)), qo 75 (.bslice 1 4 [(.bool false)] [(0, (.c (.d (.bool false)))), (1, (.c (.d (.bool true)))), (2, (.c (.d (.bool true)))), (3, (.c (.d (.bool true))))]), qo 76 (.call p.ref06_bits [(.t 73), (.t 74), (.t 75)]), qo 8 (.asg (.t 76)), qo 9 (.asg (.c (.d (.bool true))))]
def Jq5r (p : Nums) : IC := (.region (Jq6y p) [])
@[simp] theorem Je5r {p : Nums} : EqI (Jq5r p) (.region (Jq6y p) []) := eqi
@[simp] def Jq6z (p : Nums) : List IOp := [qo 79 (.mov (.t 1)), qo 80 (.mov (.t 2)), qo 81 (.bslice 1 4 [(.bool false)] [(0, (.c (.d (.bool false)))), (1, (.c (.d (.bool true)))), (2, (.c (.d (.bool true)))), (3, (.c (.d (.bool false))))]), qo 82 (.call p.ref06_bits [(.t 79), (.t 80), (.t 81)]), qo 8 (.asg (.t 82)), qo 9 (.asg (.c (.d (.bool true))))]
def Jq5s (p : Nums) : IC := (.region (Jq6z p) [])
@[simp] theorem Je5s {p : Nums} : EqI (Jq5s p) (.region (Jq6z p) []) := eqi
@[simp] def Jq70 (p : Nums) : List IOp := [qo 85 (.bin .eql (.t 13) (ci 14)), qo 83 (.asg (.t 85))]
def Jq5t (p : Nums) : IC := (.region (Jq70 p) [])
@[simp] theorem Je5t {p : Nums} : EqI (Jq5t p) (.region (Jq70 p) []) := eqi
@[simp] def Jq71 (p : Nums) : List IOp := [qo 86 (.mov (.t 2)), qo 87 (.conv .u64 (.t 86)), qo 88 (.bin .rem (.t 87) (.c (.d (.int .u64 64)))), qo 89 (.conv .i64 (.t 88)), qo 11 (.asg (.t 89))]
def Jq5u (p : Nums) : IC := (.region (Jq71 p) [])
@[simp] theorem Je5u {p : Nums} : EqI (Jq5u p) (.region (Jq71 p) []) := eqi
@[simp] def Jq72 (p : Nums) : List IOp := [qo 90 (.mov (.t 12)), qo 91 (.mov (.t 11)), qo 92 (.bin .lss (.t 90) (.t 91))]
def Jq5v (p : Nums) : IC := (.region (Jq72 p) [])
@[simp] theorem Je5v {p : Nums} : EqI (Jq5v p) (.region (Jq72 p) []) := eqi
@[simp] def Jq74 (p : Nums) : List IOp := [qo 97 (.mov (.t 1)), qo 98 (.bin .mul (.t 97) (ci 2)), qo 1 (.asg (.t 98))]
def Jq5x (p : Nums) : IC := (.region (Jq74 p) [])
@[simp] theorem Je5x {p : Nums} : EqI (Jq5x p) (.region (Jq74 p) []) := eqi
@[simp] def Jq75 (p : Nums) : List IOp := [qo 99 (.mov (.t 1)), qo 100 (.call p.ref06_half [(.t 99)]), qo 1 (.asg (.t 100))]
def Jq5y (p : Nums) : IC := (.region (Jq75 p) [])
@[simp] theorem Je5y {p : Nums} : EqI (Jq5y p) (.region (Jq75 p) []) := eqi
def Jq5z (p : Nums) : IC := (.seq (.region [⟨(some 95), (.mov (.t 0)), none, false⟩, ⟨(some 96), (.bin .eql (.t 95) (.c (.d (.int .i64 13)))), none, false⟩] []) (.cond (.t 96) (Jq5x p) (Jq5y p)))
@[simp] theorem Je5z {p : Nums} : EqI (Jq5z p) (.seq (.region [⟨(some 95), (.mov (.t 0)), none, false⟩, ⟨(some 96), (.bin .eql (.t 95) (.c (.d (.int .i64 13)))), none, false⟩] []) (.cond (.t 96) (Jq5x p) (Jq5y p))) := eqi
@[simp] def Jq76 (p : Nums) : List IOp := [qo 93 (.mov (.t 12)), qo 94 (.bin .add (.t 93) (ci 1)), qo 12 (.asg (.t 94))]
def Jq60 (p : Nums) : IC := (.region (Jq76 p) [])
@[simp] theorem Je60 {p : Nums} : EqI (Jq60 p) (.region (Jq76 p) []) := eqi
def Jq61 (p : Nums) : IC := (.seq (.seq (Jq5v p) (.cond (.t 92) .skip (.exit 1))) (.seq (.block 2 (Jq5z p)) (Jq60 p)))
@[simp] theorem Je61 {p : Nums} : EqI (Jq61 p) (.seq (.seq (Jq5v p) (.cond (.t 92) .skip (.exit 1))) (.seq (.block 2 (Jq5z p)) (Jq60 p))) := eqi
@[simp] def Jq77 (p : Nums) : List IOp := [qo 101 (.mov (.t 1)), qo 8 (.asg (.t 101)), qo 9 (.asg (.c (.d (.bool true))))]
def Jq62 (p : Nums) : IC := (.region (Jq77 p) [])
@[simp] theorem Je62 {p : Nums} : EqI (Jq62 p) (.region (Jq77 p) []) := eqi
@[simp] def Jq78 (p : Nums) : List IOp := [qo 104 (.mov (.t 1)), qo 105 (.mov (.t 2)), qo 106 (.bin .eql (.t 104) (.t 105)), qo 107 (.call p.ref06_truth [(.t 106)]), qo 8 (.asg (.t 107)), qo 9 (.asg (.c (.d (.bool true))))]
def Jq63 (p : Nums) : IC := (.region (Jq78 p) [])
@[simp] theorem Je63 {p : Nums} : EqI (Jq63 p) (.region (Jq78 p) []) := eqi
@[simp] def Jq79 (p : Nums) : List IOp := [qo 110 (.mov (.t 1)), qo 111 (.mov (.t 2)), qo 112 (.bin .lss (.t 110) (.t 111)), qo 113 (.call p.ref06_truth [(.t 112)]), qo 8 (.asg (.t 113)), qo 9 (.asg (.c (.d (.bool true))))]
def Jq64 (p : Nums) : IC := (.region (Jq79 p) [])
@[simp] theorem Je64 {p : Nums} : EqI (Jq64 p) (.region (Jq79 p) []) := eqi
def Jq65 (p : Nums) : IC := (.seq (.region [⟨(some 109), (.bin .eql (.t 13) (.c (.d (.int .i64 16)))), none, false⟩, ⟨(some 108), (.asg (.t 109)), none, false⟩] []) (.cond (.t 108) (.seq (Jq64 p) .ret) .skip))
@[simp] theorem Je65 {p : Nums} : EqI (Jq65 p) (.seq (.region [⟨(some 109), (.bin .eql (.t 13) (.c (.d (.int .i64 16)))), none, false⟩, ⟨(some 108), (.asg (.t 109)), none, false⟩] []) (.cond (.t 108) (.seq (Jq64 p) .ret) .skip)) := eqi
def Jq66 (p : Nums) : IC := (.seq (Jq5u p) (.seq (.seq (.region [⟨(some 12), (.asg (.c (.d (.int .i64 0)))), none, false⟩] []) (.block 1 (.loop (Jq61 p)))) (.seq (Jq62 p) .ret)))
@[simp] theorem Je66 {p : Nums} : EqI (Jq66 p) (.seq (Jq5u p) (.seq (.seq (.region [⟨(some 12), (.asg (.c (.d (.int .i64 0)))), none, false⟩] []) (.block 1 (.loop (Jq61 p)))) (.seq (Jq62 p) .ret))) := eqi
def Jq68 (p : Nums) : IC := (.seq (.region [⟨(some 103), (.bin .eql (.t 13) (.c (.d (.int .i64 15)))), none, false⟩, ⟨(some 102), (.asg (.t 103)), none, false⟩] []) (.cond (.t 102) (.seq (Jq63 p) .ret) (Jq65 p)))
@[simp] theorem Je68 {p : Nums} : EqI (Jq68 p) (.seq (.region [⟨(some 103), (.bin .eql (.t 13) (.c (.d (.int .i64 15)))), none, false⟩, ⟨(some 102), (.asg (.t 103)), none, false⟩] []) (.cond (.t 102) (.seq (Jq63 p) .ret) (Jq65 p))) := eqi
def Jq69 (p : Nums) : IC := (.seq (.seq (.region [⟨(some 84), (.bin .eql (.t 13) (.c (.d (.int .i64 13)))), none, false⟩, ⟨(some 83), (.asg (.t 84)), none, false⟩] []) (.cond (.t 83) .skip (Jq5t p))) (.cond (.t 83) (Jq66 p) (Jq68 p)))
@[simp] theorem Je69 {p : Nums} : EqI (Jq69 p) (.seq (.seq (.region [⟨(some 84), (.bin .eql (.t 13) (.c (.d (.int .i64 13)))), none, false⟩, ⟨(some 83), (.asg (.t 84)), none, false⟩] []) (.cond (.t 83) .skip (Jq5t p))) (.cond (.t 83) (Jq66 p) (Jq68 p))) := eqi
def Jq6a (p : Nums) : IC := (.seq (.region [⟨(some 78), (.bin .eql (.t 13) (.c (.d (.int .i64 12)))), none, false⟩, ⟨(some 77), (.asg (.t 78)), none, false⟩] []) (.cond (.t 77) (.seq (Jq5s p) .ret) (Jq69 p)))
@[simp] theorem Je6a {p : Nums} : EqI (Jq6a p) (.seq (.region [⟨(some 78), (.bin .eql (.t 13) (.c (.d (.int .i64 12)))), none, false⟩, ⟨(some 77), (.asg (.t 78)), none, false⟩] []) (.cond (.t 77) (.seq (Jq5s p) .ret) (Jq69 p))) := eqi
def Jq6b (p : Nums) : IC := (.seq (.region [⟨(some 72), (.bin .eql (.t 13) (.c (.d (.int .i64 11)))), none, false⟩, ⟨(some 71), (.asg (.t 72)), none, false⟩] []) (.cond (.t 71) (.seq (Jq5r p) .ret) (Jq6a p)))
@[simp] theorem Je6b {p : Nums} : EqI (Jq6b p) (.seq (.region [⟨(some 72), (.bin .eql (.t 13) (.c (.d (.int .i64 11)))), none, false⟩, ⟨(some 71), (.asg (.t 72)), none, false⟩] []) (.cond (.t 71) (.seq (Jq5r p) .ret) (Jq6a p))) := eqi
def Jq6c (p : Nums) : IC := (.seq (.seq (.region [⟨(some 47), (.mov (.t 2)), none, false⟩, ⟨(some 48), (.bin .eql (.t 47) (.c (.d (.int .i64 0)))), none, false⟩] []) (.cond (.t 48) (Jq6r p) .skip)) (.seq (.region [⟨(some 49), (.mov (.t 1)), none, false⟩, ⟨(some 10), (.asg (.t 49)), none, false⟩] []) (.seq (.seq (.region [⟨(some 50), (.mov (.t 2)), none, false⟩, ⟨(some 51), (.bin .eql (.t 50) (.c (.d (.int .i64 (-1))))), none, false⟩] []) (.cond (.t 51) (Jq5m p) (Jq5n p))) (.seq (.seq (.region [⟨(some 57), (.mov (.t 0)), none, false⟩, ⟨(some 58), (.bin .eql (.t 57) (.c (.d (.int .i64 8)))), none, false⟩] []) (.cond (.t 58) (.seq (Jq5o p) .ret) .skip)) (.seq (Jq5p p) .ret)))))
@[simp] theorem Je6c {p : Nums} : EqI (Jq6c p) (.seq (.seq (.region [⟨(some 47), (.mov (.t 2)), none, false⟩, ⟨(some 48), (.bin .eql (.t 47) (.c (.d (.int .i64 0)))), none, false⟩] []) (.cond (.t 48) (Jq6r p) .skip)) (.seq (.region [⟨(some 49), (.mov (.t 1)), none, false⟩, ⟨(some 10), (.asg (.t 49)), none, false⟩] []) (.seq (.seq (.region [⟨(some 50), (.mov (.t 2)), none, false⟩, ⟨(some 51), (.bin .eql (.t 50) (.c (.d (.int .i64 (-1))))), none, false⟩] []) (.cond (.t 51) (Jq5m p) (Jq5n p))) (.seq (.seq (.region [⟨(some 57), (.mov (.t 0)), none, false⟩, ⟨(some 58), (.bin .eql (.t 57) (.c (.d (.int .i64 8)))), none, false⟩] []) (.cond (.t 58) (.seq (Jq5o p) .ret) .skip)) (.seq (Jq5p p) .ret))))) := eqi
def Jq6d (p : Nums) : IC := (.seq (.region [⟨(some 66), (.bin .eql (.t 13) (.c (.d (.int .i64 10)))), none, false⟩, ⟨(some 65), (.asg (.t 66)), none, false⟩] []) (.cond (.t 65) (.seq (Jq5q p) .ret) (Jq6b p)))
@[simp] theorem Je6d {p : Nums} : EqI (Jq6d p) (.seq (.region [⟨(some 66), (.bin .eql (.t 13) (.c (.d (.int .i64 10)))), none, false⟩, ⟨(some 65), (.asg (.t 66)), none, false⟩] []) (.cond (.t 65) (.seq (Jq5q p) .ret) (Jq6b p))) := eqi
def Jq6e (p : Nums) : IC := (.seq (.seq (.region [⟨(some 45), (.bin .eql (.t 13) (.c (.d (.int .i64 8)))), none, false⟩, ⟨(some 44), (.asg (.t 45)), none, false⟩] []) (.cond (.t 44) .skip (Jq6q p))) (.cond (.t 44) (Jq6c p) (Jq6d p)))
@[simp] theorem Je6e {p : Nums} : EqI (Jq6e p) (.seq (.seq (.region [⟨(some 45), (.bin .eql (.t 13) (.c (.d (.int .i64 8)))), none, false⟩, ⟨(some 44), (.asg (.t 45)), none, false⟩] []) (.cond (.t 44) .skip (Jq6q p))) (.cond (.t 44) (Jq6c p) (Jq6d p))) := eqi
def Jq6f (p : Nums) : IC := (.seq (.region [⟨(some 40), (.bin .eql (.t 13) (.c (.d (.int .i64 7)))), none, false⟩, ⟨(some 39), (.asg (.t 40)), none, false⟩] []) (.cond (.t 39) (.seq (Jq6p p) .ret) (Jq6e p)))
@[simp] theorem Je6f {p : Nums} : EqI (Jq6f p) (.seq (.region [⟨(some 40), (.bin .eql (.t 13) (.c (.d (.int .i64 7)))), none, false⟩, ⟨(some 39), (.asg (.t 40)), none, false⟩] []) (.cond (.t 39) (.seq (Jq6p p) .ret) (Jq6e p))) := eqi
def Jq6g (p : Nums) : IC := (.seq (.region [⟨(some 35), (.bin .eql (.t 13) (.c (.d (.int .i64 6)))), none, false⟩, ⟨(some 34), (.asg (.t 35)), none, false⟩] []) (.cond (.t 34) (.seq (Jq6o p) .ret) (Jq6f p)))
@[simp] theorem Je6g {p : Nums} : EqI (Jq6g p) (.seq (.region [⟨(some 35), (.bin .eql (.t 13) (.c (.d (.int .i64 6)))), none, false⟩, ⟨(some 34), (.asg (.t 35)), none, false⟩] []) (.cond (.t 34) (.seq (Jq6o p) .ret) (Jq6f p))) := eqi
def Jq6h (p : Nums) : IC := (.seq (.region [⟨(some 30), (.bin .eql (.t 13) (.c (.d (.int .i64 5)))), none, false⟩, ⟨(some 29), (.asg (.t 30)), none, false⟩] []) (.cond (.t 29) (.seq (Jq6n p) .ret) (Jq6g p)))
@[simp] theorem Je6h {p : Nums} : EqI (Jq6h p) (.seq (.region [⟨(some 30), (.bin .eql (.t 13) (.c (.d (.int .i64 5)))), none, false⟩, ⟨(some 29), (.asg (.t 30)), none, false⟩] []) (.cond (.t 29) (.seq (Jq6n p) .ret) (Jq6g p))) := eqi
def Jq6j (p : Nums) : IC := (.seq (.region [⟨(some 25), (.bin .eql (.t 13) (.c (.d (.int .i64 4)))), none, false⟩, ⟨(some 24), (.asg (.t 25)), none, false⟩] []) (.cond (.t 24) (.seq (Jq6i p) .ret) (Jq6h p)))
@[simp] theorem Je6j {p : Nums} : EqI (Jq6j p) (.seq (.region [⟨(some 25), (.bin .eql (.t 13) (.c (.d (.int .i64 4)))), none, false⟩, ⟨(some 24), (.asg (.t 25)), none, false⟩] []) (.cond (.t 24) (.seq (Jq6i p) .ret) (Jq6h p))) := eqi
def Jq6k (p : Nums) : IC := (.seq (.region [⟨(some 21), (.bin .eql (.t 13) (.c (.d (.int .i64 3)))), none, false⟩, ⟨(some 20), (.asg (.t 21)), none, false⟩] []) (.cond (.t 20) (.seq (Jq67 p) .ret) (Jq6j p)))
@[simp] theorem Je6k {p : Nums} : EqI (Jq6k p) (.seq (.region [⟨(some 21), (.bin .eql (.t 13) (.c (.d (.int .i64 3)))), none, false⟩, ⟨(some 20), (.asg (.t 21)), none, false⟩] []) (.cond (.t 20) (.seq (Jq67 p) .ret) (Jq6j p))) := eqi
def Jq6l (p : Nums) : IC := (.seq (.region [⟨(some 18), (.bin .eql (.t 13) (.c (.d (.int .i64 2)))), none, false⟩, ⟨(some 17), (.asg (.t 18)), none, false⟩] []) (.cond (.t 17) (.seq (Jq5w p) .ret) (Jq6k p)))
@[simp] theorem Je6l {p : Nums} : EqI (Jq6l p) (.seq (.region [⟨(some 18), (.bin .eql (.t 13) (.c (.d (.int .i64 2)))), none, false⟩, ⟨(some 17), (.asg (.t 18)), none, false⟩] []) (.cond (.t 17) (.seq (Jq5w p) .ret) (Jq6k p))) := eqi
def Jq6m (p : Nums) : IC := (.seq (.region [⟨(some 15), (.bin .eql (.t 13) (.c (.d (.int .i64 1)))), none, false⟩, ⟨(some 14), (.asg (.t 15)), none, false⟩] []) (.cond (.t 14) (.seq (Jq5l p) .ret) (Jq6l p)))
@[simp] theorem Je6m {p : Nums} : EqI (Jq6m p) (.seq (.region [⟨(some 15), (.bin .eql (.t 13) (.c (.d (.int .i64 1)))), none, false⟩, ⟨(some 14), (.asg (.t 15)), none, false⟩] []) (.cond (.t 14) (.seq (Jq5l p) .ret) (Jq6l p))) := eqi
def Jtal (p : Nums) : IC := (.seq (.region [⟨(some 8), (.asg (.c (.d (.int .i64 0)))), none, false⟩, ⟨(some 9), (.asg (.c (.d (.bool false)))), none, false⟩] []) (.seq (.seq (.region [⟨(some 13), (.mov (.t 0)), none, false⟩] []) (.block 0 (Jq6m p))) (.seq (.region [⟨(some 8), (.asg (.c (.d (.int .i64 0)))), none, false⟩, ⟨(some 9), (.asg (.c (.d (.bool false)))), none, false⟩] []) .ret)))
@[simp] def Jqba (p : Nums) : List IOp := [qo 5 (.mov (.t 0)), qo 6 (.bin .geq (.t 5) (ci 0)), qo 7 (.mov (.t 6)), ⟨(some 8), (.mov (.t 0)), (some (7, true)), false⟩, ⟨(some 9), (.mov (.t 1)), (some (7, true)), false⟩, ⟨(some 10), (.bin .lss (.t 8) (.t 9)), (some (7, true)), false⟩, qo 11 (.pick (.t 7) (.t 10) (.c (.d (.bool false)))), qo 4 (.asg (.t 11))]
def Jqb9 (p : Nums) : IC := (.region (Jqba p) [])
@[simp] theorem Jeb9 {p : Nums} : EqI (Jqb9 p) (.region (Jqba p) []) := eqi
def Jtaw (p : Nums) : IC := (.seq (.region [⟨(some 4), (.asg (.c (.d (.bool false)))), none, false⟩] []) (.seq (Jqb9 p) .ret))
@[simp] def Jq2y (p : Nums) : List IOp := [qo 4 (.load none (.t 1)), qo 5 (.mov (.t 0)), qo 6 (.mo (.get (.t 4) (.t 5))), qo 7 (.un .not (.t 6))]
def Jq2w (p : Nums) : IC := (.region (Jq2y p) [])
@[simp] theorem Je2w {p : Nums} : EqI (Jq2w p) (.region (Jq2y p) []) := eqi
@[simp] def Jq2z (p : Nums) : List IOp := [qo 8 (.load none (.t 2)), qo 9 (.mov (.t 0)), qn (.mo (.set (.t 8) (.t 9) (.c (.d (.bool true)))))]
def Jq2x (p : Nums) : IC := (.region (Jq2z p) [])
@[simp] theorem Je2x {p : Nums} : EqI (Jq2x p) (.region (Jq2z p) []) := eqi
def Jtad (p : Nums) : IC := (.seq (Jq2w p) (.cond (.t 7) (Jq2x p) .skip))
@[simp] def Jq53 (p : Nums) : List IOp := [qo 2 (.alloc [(.d (.bool false)), (.d (.bool false)), (.d (.bool false)), (.d (.bool false))]), qo 3 (.asg (.c (.d (.bool false))))]
def Jq4p (p : Nums) : IC := (.region (Jq53 p) [])
@[simp] theorem Je4p {p : Nums} : EqI (Jq4p p) (.region (Jq53 p) []) := eqi
@[simp] def Jq55 (p : Nums) : List IOp := [qo 5 (.mov (.t 0)), qo 6 (.call p.opcode_known [(.t 5)]), qo 7 (.un .not (.t 6)), qo 4 (.asg (.t 7))]
def Jq4v (p : Nums) : IC := (.region (Jq55 p) [])
@[simp] theorem Je4v {p : Nums} : EqI (Jq4v p) (.region (Jq55 p) []) := eqi
@[simp] def Jq56 (p : Nums) : List IOp := [qo 8 (.build [(.d (.bool false)), (.d (.bool false)), (.d (.bool false)), (.d (.bool false))] []), qn (.store 4 (.t 2) (.t 8)), qo 3 (.asg (.c (.d (.bool false))))]
def Jq4w (p : Nums) : IC := (.region (Jq56 p) [])
@[simp] theorem Je4w {p : Nums} : EqI (Jq4w p) (.region (Jq56 p) []) := eqi
@[simp] def Jq57 (p : Nums) : List IOp := [qo 10 (.mov (.t 0)), qo 11 (.bin .eql (.t 10) (ci 1)), qo 9 (.asg (.t 11))]
def Jq4x (p : Nums) : IC := (.region (Jq57 p) [])
@[simp] theorem Je4x {p : Nums} : EqI (Jq4x p) (.region (Jq57 p) []) := eqi
@[simp] def Jq58 (p : Nums) : List IOp := [qo 12 (.build [(.d (.bool false)), (.d (.bool false)), (.d (.bool false)), (.d (.bool false))] [(0, 1, (.c (.d (.bool true)))), (3, 1, (.c (.d (.bool true))))]), qn (.store 4 (.t 2) (.t 12)), qo 3 (.asg (.c (.d (.bool true))))]
def Jq4y (p : Nums) : IC := (.region (Jq58 p) [])
@[simp] theorem Je4y {p : Nums} : EqI (Jq4y p) (.region (Jq58 p) []) := eqi
@[simp] def Jq59 (p : Nums) : List IOp := [qo 14 (.mov (.t 0)), qo 15 (.bin .leq (.t 14) (ci 4)), qo 13 (.asg (.t 15))]
def Jq4z (p : Nums) : IC := (.region (Jq59 p) [])
@[simp] theorem Je4z {p : Nums} : EqI (Jq4z p) (.region (Jq59 p) []) := eqi
@[simp] def Jq5a (p : Nums) : List IOp := [qo 16 (.build [(.d (.bool false)), (.d (.bool false)), (.d (.bool false)), (.d (.bool false))] [(0, 1, (.c (.d (.bool true)))), (1, 1, (.c (.d (.bool true))))]), qn (.store 4 (.t 2) (.t 16)), qo 3 (.asg (.c (.d (.bool true))))]
def Jq50 (p : Nums) : IC := (.region (Jq5a p) [])
@[simp] theorem Je50 {p : Nums} : EqI (Jq50 p) (.region (Jq5a p) []) := eqi
@[simp] def Jq5b (p : Nums) : List IOp := [qo 18 (.mov (.t 0)), qo 19 (.bin .leq (.t 18) (ci 16)), qo 17 (.asg (.t 19))]
def Jq51 (p : Nums) : IC := (.region (Jq5b p) [])
@[simp] theorem Je51 {p : Nums} : EqI (Jq51 p) (.region (Jq5b p) []) := eqi
@[simp] def Jq5c (p : Nums) : List IOp := [qo 20 (.build [(.d (.bool false)), (.d (.bool false)), (.d (.bool false)), (.d (.bool false))] [(0, 1, (.c (.d (.bool true)))), (1, 1, (.c (.d (.bool true)))), (2, 1, (.c (.d (.bool true))))]), qn (.store 4 (.t 2) (.t 20)), qo 3 (.asg (.c (.d (.bool true))))]
def Jq52 (p : Nums) : IC := (.region (Jq5c p) [])
@[simp] theorem Je52 {p : Nums} : EqI (Jq52 p) (.region (Jq5c p) []) := eqi
def Jq4q (p : Nums) : IC := (.seq (Jq51 p) (.cond (.t 17) (.seq (Jq52 p) .ret) .skip))
@[simp] theorem Je4q {p : Nums} : EqI (Jq4q p) (.seq (Jq51 p) (.cond (.t 17) (.seq (Jq52 p) .ret) .skip)) := eqi
def Jq4r (p : Nums) : IC := (.seq (Jq4z p) (.cond (.t 13) (.seq (Jq50 p) .ret) (Jq4q p)))
@[simp] theorem Je4r {p : Nums} : EqI (Jq4r p) (.seq (Jq4z p) (.cond (.t 13) (.seq (Jq50 p) .ret) (Jq4q p))) := eqi
def Jq4s (p : Nums) : IC := (.seq (Jq4x p) (.cond (.t 9) (.seq (Jq4y p) .ret) (Jq4r p)))
@[simp] theorem Je4s {p : Nums} : EqI (Jq4s p) (.seq (Jq4x p) (.cond (.t 9) (.seq (Jq4y p) .ret) (Jq4r p))) := eqi
def Jq4t (p : Nums) : IC := (.seq (Jq4v p) (.cond (.t 4) (.seq (Jq4w p) .ret) (Jq4s p)))
@[simp] theorem Je4t {p : Nums} : EqI (Jq4t p) (.seq (Jq4v p) (.cond (.t 4) (.seq (Jq4w p) .ret) (Jq4s p))) := eqi
@[simp] def Jq54 (p : Nums) : List IOp := [qo 21 (.mov (.t 0)), qo 22 (.bin .eql (.t 21) (ci 17)), qo 23 (.build [(.d (.bool false)), (.d (.bool false)), (.d (.bool false)), (.d (.bool false))] [(1, 1, (.t 22))]), qn (.store 4 (.t 2) (.t 23)), qo 3 (.asg (.c (.d (.bool true))))]
def Jq4u (p : Nums) : IC := (.region (Jq54 p) [])
@[simp] theorem Je4u {p : Nums} : EqI (Jq4u p) (.region (Jq54 p) []) := eqi
def Jtag (p : Nums) : IC := (.seq (Jq4p p) (.seq (.block 0 (Jq4t p)) (.seq (Jq4u p) .ret)))
@[simp] def Jqeb (p : Nums) : List IOp := [qo 7 (.faddr 2 (.t 1)), qo 8 (.load none (.t 7)), qo 9 (.bslice 1 1 [(.int .i64 0)] [(0, (.t 8))]), qo 2 (.asg (.t 9))]
def Jqe7 (p : Nums) : IC := (.region (Jqeb p) [])
@[simp] theorem Jee7 {p : Nums} : EqI (Jqe7 p) (.region (Jqeb p) []) := eqi
@[simp] def Jqec (p : Nums) : List IOp := [qo 12 (.faddr 2 (.t 1)), qo 13 (.load none (.t 12)), qo 14 (.faddr 3 (.t 1)), qo 15 (.load none (.t 14)), qo 16 (.bslice 1 2 [(.int .i64 0)] [(0, (.t 13)), (1, (.t 15))]), qo 2 (.asg (.t 16))]
def Jqe8 (p : Nums) : IC := (.region (Jqec p) [])
@[simp] theorem Jee8 {p : Nums} : EqI (Jqe8 p) (.region (Jqec p) []) := eqi
def Jqe9 (p : Nums) : IC := (.seq (.region [⟨(some 11), (.bin .eql (.t 4) (.c (.d (.int .i64 2)))), none, false⟩, ⟨(some 10), (.asg (.t 11)), none, false⟩] []) (.cond (.t 10) (.seq (Jqe8 p) .ret) .skip))
@[simp] theorem Jee9 {p : Nums} : EqI (Jqe9 p) (.seq (.region [⟨(some 11), (.bin .eql (.t 4) (.c (.d (.int .i64 2)))), none, false⟩, ⟨(some 10), (.asg (.t 11)), none, false⟩] []) (.cond (.t 10) (.seq (Jqe8 p) .ret) .skip)) := eqi
def Jqea (p : Nums) : IC := (.seq (.region [⟨(some 6), (.bin .eql (.t 4) (.c (.d (.int .i64 1)))), none, false⟩, ⟨(some 5), (.asg (.t 6)), none, false⟩] []) (.cond (.t 5) (.seq (Jqe7 p) .ret) (Jqe9 p)))
@[simp] theorem Jeea {p : Nums} : EqI (Jqea p) (.seq (.region [⟨(some 6), (.bin .eql (.t 4) (.c (.d (.int .i64 1)))), none, false⟩, ⟨(some 5), (.asg (.t 6)), none, false⟩] []) (.cond (.t 5) (.seq (Jqe7 p) .ret) (Jqe9 p))) := eqi
def Jtb5 (p : Nums) : IC := (.seq (.region [⟨(some 1), (.box (.t 0)), none, false⟩, ⟨(some 2), (.asg (.c .nils)), none, false⟩] []) (.seq (.seq (.region [⟨(some 3), (.faddr 0 (.t 1)), none, false⟩, ⟨(some 4), (.load none (.t 3)), none, false⟩] []) (.block 0 (Jqea p))) (.seq (.region [⟨(some 2), (.asg (.c .nils)), none, false⟩] []) .ret)))
@[simp] def Jq80 (p : Nums) : List IOp := [qo 15 (.mov (.t 0)), qo 16 (.conv .u64 (.t 15)), qo 17 (.mov (.t 9)), qo 18 (.call p.ref06_bit [(.t 16), (.t 17)])]
def Jq7p (p : Nums) : IC := (.region (Jq80 p) [])
@[simp] theorem Je7p {p : Nums} : EqI (Jq7p p) (.region (Jq80 p) []) := eqi
@[simp] def Jq82 (p : Nums) : List IOp := [qo 10 (.asg (ci 2))]
def Jq7s (p : Nums) : IC := (.region (Jq82 p) [])
@[simp] theorem Je7s {p : Nums} : EqI (Jq7s p) (.region (Jq82 p) []) := eqi
@[simp] def Jq83 (p : Nums) : List IOp := [qo 19 (.mov (.t 1)), qo 20 (.conv .u64 (.t 19)), qo 21 (.mov (.t 9)), qo 22 (.call p.ref06_bit [(.t 20), (.t 21)])]
def Jq7t (p : Nums) : IC := (.region (Jq83 p) [])
@[simp] theorem Je7t {p : Nums} : EqI (Jq7t p) (.region (Jq83 p) []) := eqi
@[simp] def Jq84 (p : Nums) : List IOp := [qo 23 (.mov (.t 10)), qo 24 (.bin .add (.t 23) (ci 1)), qo 10 (.asg (.t 24))]
def Jq7u (p : Nums) : IC := (.region (Jq84 p) [])
@[simp] theorem Je7u {p : Nums} : EqI (Jq7u p) (.region (Jq84 p) []) := eqi
@[simp] def Jq85 (p : Nums) : List IOp := [qo 25 (.mov (.t 2)), qo 26 (.mov (.t 10)), qo 27 (.iaddr 1 (.t 25) (.t 26)), qo 28 (.load none (.t 27))]
def Jq7v (p : Nums) : IC := (.region (Jq85 p) [])
@[simp] theorem Je7v {p : Nums} : EqI (Jq7v p) (.region (Jq85 p) []) := eqi
@[simp] def Jq86 (p : Nums) : List IOp := [qo 29 (.mov (.t 7)), qo 30 (.mov (.t 8)), qo 31 (.bin .add (.t 29) (.t 30)), qo 7 (.asg (.t 31))]
def Jq7w (p : Nums) : IC := (.region (Jq86 p) [])
@[simp] theorem Je7w {p : Nums} : EqI (Jq7w p) (.region (Jq86 p) []) := eqi
@[simp] def Jq87 (p : Nums) : List IOp := [qo 32 (.mov (.t 8)), qo 33 (.bin .mul (.t 32) (.c (.d (.int .u64 2)))), qo 8 (.asg (.t 33))]
def Jq7x (p : Nums) : IC := (.region (Jq87 p) [])
@[simp] theorem Je7x {p : Nums} : EqI (Jq7x p) (.region (Jq87 p) []) := eqi
def Jq7y (p : Nums) : IC := (.seq (.region [⟨(some 10), (.asg (.c (.d (.int .i64 0)))), none, false⟩] []) (.seq (.seq (Jq7p p) (.cond (.t 18) (Jq7s p) .skip)) (.seq (.seq (Jq7t p) (.cond (.t 22) (Jq7u p) .skip)) (.seq (.seq (Jq7v p) (.cond (.t 28) (Jq7w p) .skip)) (Jq7x p)))))
@[simp] theorem Je7y {p : Nums} : EqI (Jq7y p) (.seq (.region [⟨(some 10), (.asg (.c (.d (.int .i64 0)))), none, false⟩] []) (.seq (.seq (Jq7p p) (.cond (.t 18) (Jq7s p) .skip)) (.seq (.seq (Jq7t p) (.cond (.t 22) (Jq7u p) .skip)) (.seq (.seq (Jq7v p) (.cond (.t 28) (Jq7w p) .skip)) (Jq7x p))))) := eqi
@[simp] def Jq88 (p : Nums) : List IOp := [qo 13 (.mov (.t 9)), qo 14 (.bin .add (.t 13) (ci 1)), qo 9 (.asg (.t 14))]
def Jq7z (p : Nums) : IC := (.region (Jq88 p) [])
@[simp] theorem Je7z {p : Nums} : EqI (Jq7z p) (.region (Jq88 p) []) := eqi
def Jq7q (p : Nums) : IC := (.seq (.seq (.region [⟨(some 11), (.mov (.t 9)), none, false⟩, ⟨(some 12), (.bin .lss (.t 11) (.c (.d (.int .i64 64)))), none, false⟩] []) (.cond (.t 12) .skip (.exit 0))) (.seq (.block 1 (Jq7y p)) (Jq7z p)))
@[simp] theorem Je7q {p : Nums} : EqI (Jq7q p) (.seq (.seq (.region [⟨(some 11), (.mov (.t 9)), none, false⟩, ⟨(some 12), (.bin .lss (.t 11) (.c (.d (.int .i64 64)))), none, false⟩] []) (.cond (.t 12) .skip (.exit 0))) (.seq (.block 1 (Jq7y p)) (Jq7z p))) := eqi
@[simp] def Jq81 (p : Nums) : List IOp := [qo 34 (.mov (.t 7)), qo 35 (.conv .i64 (.t 34)), qo 6 (.asg (.t 35))]
def Jq7r (p : Nums) : IC := (.region (Jq81 p) [])
@[simp] theorem Je7r {p : Nums} : EqI (Jq7r p) (.region (Jq81 p) []) := eqi
def Jtan (p : Nums) : IC := (.seq (.region [⟨(some 6), (.asg (.c (.d (.int .i64 0)))), none, false⟩] []) (.seq (.region [⟨(some 7), (.asg (.c (.d (.int .u64 0)))), none, false⟩] []) (.seq (.region [⟨(some 8), (.asg (.c (.d (.int .u64 1)))), none, false⟩] []) (.seq (.seq (.region [⟨(some 9), (.asg (.c (.d (.int .i64 0)))), none, false⟩] []) (.block 0 (.loop (Jq7q p)))) (.seq (Jq7r p) .ret)))))
@[simp] def Jq8c (p : Nums) : List IOp := [qo 3 (.mov (.t 0)), qo 4 (.bin .lss (.t 3) (ci 0)), qo 5 (.mov (.t 4)), ⟨(some 6), (.mov (.t 0)), (some (5, true)), false⟩, ⟨(some 7), (.bin .rem (.t 6) (ci 2)), (some (5, true)), false⟩, ⟨(some 8), (.bin .neq (.t 7) (ci 0)), (some (5, true)), false⟩, qo 9 (.pick (.t 5) (.t 8) (.c (.d (.bool false))))]
def Jq89 (p : Nums) : IC := (.region (Jq8c p) [])
@[simp] theorem Je89 {p : Nums} : EqI (Jq89 p) (.region (Jq8c p) []) := eqi
@[simp] def Jq8d (p : Nums) : List IOp := [qo 10 (.mov (.t 0)), qo 11 (.bin .quo (.t 10) (ci 2)), qo 12 (.bin .sub (.t 11) (ci 1)), qo 2 (.asg (.t 12))]
def Jq8a (p : Nums) : IC := (.region (Jq8d p) [])
@[simp] theorem Je8a {p : Nums} : EqI (Jq8a p) (.region (Jq8d p) []) := eqi
@[simp] def Jq8e (p : Nums) : List IOp := [qo 13 (.mov (.t 0)), qo 14 (.bin .quo (.t 13) (ci 2)), qo 2 (.asg (.t 14))]
def Jq8b (p : Nums) : IC := (.region (Jq8e p) [])
@[simp] theorem Je8b {p : Nums} : EqI (Jq8b p) (.region (Jq8e p) []) := eqi
def Jtao (p : Nums) : IC := (.seq (.region [⟨(some 2), (.asg (.c (.d (.int .i64 0)))), none, false⟩] []) (.seq (.seq (Jq89 p) (.cond (.t 9) (.seq (Jq8a p) .ret) .skip)) (.seq (Jq8b p) .ret)))
def Jq8f (p : Nums) : IC := (.seq (.region [⟨(some 2), (.asg (.c (.d (.int .i64 1)))), none, false⟩] []) .ret)
@[simp] theorem Je8f {p : Nums} : EqI (Jq8f p) (.seq (.region [⟨(some 2), (.asg (.c (.d (.int .i64 1)))), none, false⟩] []) .ret) := eqi
def Jtap (p : Nums) : IC := (.seq (.region [⟨(some 2), (.asg (.c (.d (.int .i64 0)))), none, false⟩] []) (.seq (.seq (.region [⟨(some 3), (.mov (.t 0)), none, false⟩] []) (.cond (.t 3) (Jq8f p) .skip)) (.seq (.region [⟨(some 2), (.asg (.c (.d (.int .i64 0)))), none, false⟩] []) .ret)))
@[simp] def Jq5e (p : Nums) : List IOp := [qo 3 (.mov (.t 0)), qo 4 (.bin .geq (.t 3) (ci 1)), qo 5 (.mov (.t 4)), ⟨(some 6), (.mov (.t 0)), (some (5, true)), false⟩, ⟨(some 7), (.bin .leq (.t 6) (ci 18)), (some (5, true)), false⟩, qo 8 (.pick (.t 5) (.t 7) (.c (.d (.bool false)))), qo 2 (.asg (.t 8))]
def Jq5d (p : Nums) : IC := (.region (Jq5e p) [])
@[simp] theorem Je5d {p : Nums} : EqI (Jq5d p) (.region (Jq5e p) []) := eqi
def Jtah (p : Nums) : IC := (.seq (.region [⟨(some 2), (.asg (.c (.d (.bool false)))), none, false⟩] []) (.seq (Jq5d p) .ret))
@[simp] def Jq7l (p : Nums) : List IOp := [qo 6 (.mov (.t 5)), qo 7 (.mov (.t 1)), qo 8 (.bin .lss (.t 6) (.t 7))]
def Jq7g (p : Nums) : IC := (.region (Jq7l p) [])
@[simp] theorem Je7g {p : Nums} : EqI (Jq7g p) (.region (Jq7l p) []) := eqi
@[simp] def Jq7m (p : Nums) : List IOp := [qo 11 (.mov (.t 0)), qo 12 (.bin .quo (.t 11) (.c (.d (.int .u64 2)))), qo 0 (.asg (.t 12))]
def Jq7h (p : Nums) : IC := (.region (Jq7m p) [])
@[simp] theorem Je7h {p : Nums} : EqI (Jq7h p) (.region (Jq7m p) []) := eqi
@[simp] def Jq7n (p : Nums) : List IOp := [qo 9 (.mov (.t 5)), qo 10 (.bin .add (.t 9) (ci 1)), qo 5 (.asg (.t 10))]
def Jq7i (p : Nums) : IC := (.region (Jq7n p) [])
@[simp] theorem Je7i {p : Nums} : EqI (Jq7i p) (.region (Jq7n p) []) := eqi
def Jq7j (p : Nums) : IC := (.seq (.seq (Jq7g p) (.cond (.t 8) .skip (.exit 0))) (.seq (.block 1 (Jq7h p)) (Jq7i p)))
@[simp] theorem Je7j {p : Nums} : EqI (Jq7j p) (.seq (.seq (Jq7g p) (.cond (.t 8) .skip (.exit 0))) (.seq (.block 1 (Jq7h p)) (Jq7i p))) := eqi
@[simp] def Jq7o (p : Nums) : List IOp := [qo 13 (.mov (.t 0)), qo 14 (.bin .rem (.t 13) (.c (.d (.int .u64 2)))), qo 15 (.bin .eql (.t 14) (.c (.d (.int .u64 1)))), qo 4 (.asg (.t 15))]
def Jq7k (p : Nums) : IC := (.region (Jq7o p) [])
@[simp] theorem Je7k {p : Nums} : EqI (Jq7k p) (.region (Jq7o p) []) := eqi
def Jtam (p : Nums) : IC := (.seq (.region [⟨(some 4), (.asg (.c (.d (.bool false)))), none, false⟩] []) (.seq (.seq (.region [⟨(some 5), (.asg (.c (.d (.int .i64 0)))), none, false⟩] []) (.block 0 (.loop (Jq7j p)))) (.seq (Jq7k p) .ret)))
@[simp] def Jq1 (p : Nums) : List IOp := [qo 5 (.box (.t 1)), qo 6 (.box (.t 2)), qo 8 (.alloc [(zi 0)]), qo 9 (.alloc [(zi 0)])]
def Jq0 (p : Nums) : IC := (.region (Jq1 p) [])
@[simp] theorem Je0 {p : Nums} : EqI (Jq0 p) (.region (Jq1 p) []) := eqi
@[simp] def Jqh (p : Nums) : List IOp := [qo 13 (.mov (.t 3)), qo 14 (.len (.t 13)), qo 15 (.mov (ci 0))]
def Jq9 (p : Nums) : IC := (.region (Jqh p) [])
@[simp] theorem Je9 {p : Nums} : EqI (Jq9 p) (.region (Jqh p) []) := eqi
@[simp] def Jqi (p : Nums) : List IOp := [qo 17 (.iaddr 6 (.t 13) (.t 15)), qo 18 (.load (some 6) (.t 17)), qo 11 (.alloc [(zi 0), (zi 0), (zi 0), (zi 0), (zi 0), (zi 0)]), qn (.store 6 (.t 11) (.t 18))]
def Jqa (p : Nums) : IC := (.region (Jqi p) [])
@[simp] theorem Jea {p : Nums} : EqI (Jqa p) (.region (Jqi p) []) := eqi
@[simp] def Jqj (p : Nums) : List IOp := [qo 19 (.mov (.t 0)), qo 20 (.load (some 5) (.t 5)), qo 21 (.load (some 5) (.t 6)), qo 22 (.load (some 6) (.t 11)), qo 23 (.call p.blockcheck_checker_row [(.t 19), (.t 20), (.t 21), (.t 22)])]
def Jqb (p : Nums) : IC := (.region (Jqj p) [])
@[simp] theorem Jeb {p : Nums} : EqI (Jqb p) (.region (Jqj p) []) := eqi
def Jqc (p : Nums) : IC := (.seq (Jqa p) (Jqb p))
@[simp] theorem Jec {p : Nums} : EqI (Jqc p) (.seq (Jqa p) (Jqb p)) := eqi
def Jqd (p : Nums) : IC := (.seq (.region [⟨(some 16), (.bin .lss (.t 15) (.t 14)), none, false⟩] []) (.seq (.cond (.t 16) .skip (.exit 0)) (.seq (.block 1 (Jqc p)) (.region [⟨(some 24), (.bin .add (.t 15) (.c (.d (.int .i64 1)))), none, false⟩, ⟨(some 15), (.mov (.t 24)), none, false⟩] []))))
@[simp] theorem Jed {p : Nums} : EqI (Jqd p) (.seq (.region [⟨(some 16), (.bin .lss (.t 15) (.t 14)), none, false⟩] []) (.seq (.cond (.t 16) .skip (.exit 0)) (.seq (.block 1 (Jqc p)) (.region [⟨(some 24), (.bin .add (.t 15) (.c (.d (.int .i64 1)))), none, false⟩, ⟨(some 15), (.mov (.t 24)), none, false⟩] [])))) := eqi
@[simp] def Jqk (p : Nums) : List IOp := [qo 25 (.faddr 1 (.t 5)), qo 26 (.faddr 0 (.t 25)), qo 27 (.load none (.t 26)), qo 28 (.bin .neq (.t 27) (ci 1))]
def Jqe (p : Nums) : IC := (.region (Jqk p) [])
@[simp] theorem Jee {p : Nums} : EqI (Jqe p) (.region (Jqk p) []) := eqi
@[simp] def Jql (p : Nums) : List IOp := [qo 29 (.mov (.t 0)), qo 30 (.faddr 1 (.t 5)), qo 31 (.faddr 1 (.t 30)), qo 32 (.load none (.t 31)), qo 33 (.faddr 1 (.t 6)), qo 34 (.faddr 1 (.t 33)), qo 35 (.load none (.t 34)), qo 36 (.faddr 0 (.t 6)), qo 37 (.load none (.t 36)), qo 38 (.len (.t 37)), qo 39 (.call p.blockcheck_checker_use [(.t 29), (.t 32), (.t 35), (.t 38)])]
def Jqf (p : Nums) : IC := (.region (Jql p) [])
@[simp] theorem Jef {p : Nums} : EqI (Jqf p) (.region (Jql p) []) := eqi
@[simp] def Jqm (p : Nums) : List IOp := [qp 40 (.faddr 0 (.t 6)), qp 41 (.load none (.t 40)), qp 42 (.len (.t 41)), qm (.storeq 1 (.t 8) (ci 0) [(40, 1)]), qn (.store 1 (.t 9) (.t 42))]
def Jqg (p : Nums) : IC := (.region (Jqm p) [])
@[simp] theorem Jeg {p : Nums} : EqI (Jqg p) (.region (Jqm p) []) := eqi
@[simp] def Jq6 (p : Nums) : List IOp := [qo 9 (.mov (.t 2)), qo 10 (.tas p.ty_bcfail (.t 9)), qo 8 (.mov (.t 10)), qo 11 (.ext (.t 8) 0), qo 12 (.ext (.t 8) 1), qo 3 (.alloc [(zi 0), (zi 0)]), qn (.store 2 (.t 3) (.t 11)), qo 4 (.asg (.t 12))]
def Jq2 (p : Nums) : IC := (.region (Jq6 p) [])
@[simp] theorem Je2 {p : Nums} : EqI (Jq2 p) (.region (Jq6 p) []) := eqi
@[simp] def Jq7 (p : Nums) : List IOp := [qo 15 (.mov (.t 2)), qn (.pan (.t 15))]
def Jq3 (p : Nums) : IC := (.region (Jq7 p) [])
@[simp] theorem Je3 {p : Nums} : EqI (Jq3 p) (.region (Jq7 p) []) := eqi
@[simp] def Jq8 (p : Nums) : List IOp := [qp 16 (.faddr 0 (.t 3)), qp 17 (.load none (.t 16)), qp 18 (.faddr 1 (.t 3)), qp 19 (.load none (.t 18)), qm (.storeq 1 (.t 0) (.t 17) [(18, 1)]), qn (.store 1 (.t 1) (.t 19))]
def Jq4 (p : Nums) : IC := (.region (Jq8 p) [])
@[simp] theorem Je4 {p : Nums} : EqI (Jq4 p) (.region (Jq8 p) []) := eqi
def Jq5 (p : Nums) : IC := (.seq (Jq2 p) (.seq (.seq (.region [⟨(some 13), (.mov (.t 4)), none, false⟩, ⟨(some 14), (.un .not (.t 13)), none, false⟩] []) (.cond (.t 14) (Jq3 p) .skip)) (Jq4 p)))
@[simp] theorem Je5 {p : Nums} : EqI (Jq5 p) (.seq (Jq2 p) (.seq (.seq (.region [⟨(some 13), (.mov (.t 4)), none, false⟩, ⟨(some 14), (.un .not (.t 13)), none, false⟩] []) (.cond (.t 14) (Jq3 p) .skip)) (Jq4 p))) := eqi
structure All (P : Program) (p : Nums) : Prop where
 law23_LivenessSound : Has P p.law23_LivenessSound 5 [(.tmp 10)] (Jta5 p)
 law23_awake : Has P p.law23_awake 0 [(.tmp 0)] (Jta6 p)
 ref07_Few : Has P p.ref07_Few 1 [(.tmp 2)] (Jtas p)
 ref07_Check : Has P p.ref07_Check 1 [(.tmp 2)] (Jtaq p)
 ref07_Numbers : Has P p.ref07_Numbers 2 [(.tmp 4)] (Jtau p)
 liveness_Uses : Has P p.liveness_Uses 1 [(.tmp 2)] (Jtaa p)
 liveness_Defs : Has P p.liveness_Defs 1 [(.tmp 2)] (Jta7 p)
 ref23_Same : Has P p.ref23_Same 2 [(.tmp 4)] (Jtb4 p)
 liveness_In : Has P p.liveness_In 1 [(.tmp 2)] (Jta8 p)
 liveness_Out : Has P p.liveness_Out 1 [(.tmp 2)] (Jta9 p)
 ref23_Has : Has P p.ref23_Has 2 [(.tmp 4)] (Jtb3 p)
 ref09_Right : Has P p.ref09_Right 3 [(.tmp 6)] (Jtaz p)
 ref09_Exec : Has P p.ref09_Exec 3 [(.cell 6 (some 8))] (Jtay p)
 ref09_Step : Has P p.ref09_Step 2 [(.cell 4 (some 8))] (Jtb1 p)
 ref09_Copy : Has P p.ref09_Copy 1 [(.cell 2 (some 8))] (Jtax p)
 ref09_Values : Has P p.ref09_Values 2 [(.tmp 4)] (Jtb2 p)
 ref07_Code : Has P p.ref07_Code 1 [(.tmp 2)] (Jtar p)
 ref07_Instr : Has P p.ref07_Instr 2 [(.tmp 4)] (Jtat p)
 ref07_Term : Has P p.ref07_Term 3 [(.tmp 6)] (Jtav p)
 ref05_UsesA : Has P p.ref05_UsesA 1 [(.tmp 2)] (Jtai p)
 ref05_UsesB : Has P p.ref05_UsesB 1 [(.tmp 2)] (Jtaj p)
 ref05_UsesD : Has P p.ref05_UsesD 1 [(.tmp 2)] (Jtak p)
 liveness_scan : Has P p.liveness_scan 1 [(.cell 2 none), (.cell 3 none)] (Jtac p)
 liveness_set_sorted : Has P p.liveness_set_sorted 1 [(.tmp 2)] (Jtae p)
 liveness_solve : Has P p.liveness_solve 1 [(.tmp 2)] (Jtaf p)
 liveness_exit : Has P p.liveness_exit 2 [(.tmp 4)] (Jtab p)
 ref09_Start : Has P p.ref09_Start 2 [(.cell 4 (some 8))] (Jtb0 p)
 ref06_Eval : Has P p.ref06_Eval 4 [(.tmp 8), (.tmp 9)] (Jtal p)
 ref07_in : Has P p.ref07_in 2 [(.tmp 4)] (Jtaw p)
 liveness_scan_1 : Has P p.liveness_scan_1 3 [] (Jtad p)
 opcode_Of : Has P p.opcode_Of 1 [(.cell 2 (some 4)), (.tmp 3)] (Jtag p)
 source_Successors : Has P p.source_Successors 1 [(.tmp 2)] (Jtb5 p)
 ref06_bits : Has P p.ref06_bits 3 [(.tmp 6)] (Jtan p)
 ref06_half : Has P p.ref06_half 1 [(.tmp 2)] (Jtao p)
 ref06_truth : Has P p.ref06_truth 1 [(.tmp 2)] (Jtap p)
 opcode_known : Has P p.opcode_known 1 [(.tmp 2)] (Jtah p)
 ref06_bit : Has P p.ref06_bit 2 [(.tmp 4)] (Jtam p)
abbrev I (n : Int) : D := .int .i64 n
abbrev AI (n : Int) : AV := .d (.int .i64 n)
abbrev AB (b : Bool) : AV := .d (.bool b)
structure Pair where (v l : Int)
 deriving DecidableEq, Inhabited
def Pair.row (q : Pair) : List D := [I q.v, I q.l]
def Pair.av (q : Pair) : AV := .agg [AI q.v, AI q.l]
def pairsD (l : List Pair) : D := .sl (l.map Pair.row)
theorem HasL.cons_inv {l : LT} {ls : List LT} {ds : List D} (h : HasL (l :: ls) ds) : ∃ d ds', ds = d :: ds' ∧ HasT l d ∧ HasL ls ds' := by
 obtain ⟨h1, h2⟩ := h
 cases ds with
 | nil => simp at h1
 | cons d ds => exact ⟨d, ds, rfl, h2 0 l d rfl rfl, by simpa using h1, fun j l' x a b => h2 (j + 1) l' x (by simpa using a) (by simpa using b)⟩
theorem HasL.nil_inv {ds : List D} (h : HasL [] ds) : ds = [] := by
 have := h.1; simpa using this
theorem HasT.int_inv {k : IntKind} {d : D} (h : HasT (.int k) d) : ∃ n, d = .int k n ∧ (Lit.int k n).wf = true := by
 cases h with
 | int _ n h => exact ⟨n, rfl, h⟩
theorem HasT.sl_inv {ls : List LT} {d : D} (h : HasT (.sl ls) d) : ∃ rows, d = .sl rows ∧ rows.length ≤ maxLen ∧ ∀ r ∈ rows, HasL ls r := by
 cases h with
 | sl _ rows hl h0 h => exact ⟨rows, rfl, hl, fun r hr => ⟨h0 r hr, h r hr⟩⟩
theorem Jtha {α : Type} {g : α → List D} {Q : List D → Prop} (h : ∀ r, Q r → ∃ x, r = g x) : ∀ {rows : List (List D)}, (∀ r ∈ rows, Q r) → ∃ l : List α, rows = l.map g := by
 intro rows
 induction rows with
 | nil => intro _; exact ⟨[], rfl⟩
 | cons r rows ih =>
  intro hq
  obtain ⟨x, rfl⟩ := h r (hq r (by simp))
  obtain ⟨l, rfl⟩ := ih fun r hr => hq r (by simp [hr])
  exact ⟨x :: l, rfl⟩
def ltI : LT := .int .i64
theorem int_of {d : D} (h : HasT ltI d) : ∃ n : Int, AV.d d = AI n ∧ -9223372036854775808 ≤ n ∧ n ≤ 9223372036854775807 := by
 obtain ⟨n, rfl, hw⟩ := h.int_inv
 refine ⟨n, rfl, ?_⟩
 simp [Lit.wf, IntKind.min, IntKind.max, IntKind.signed, IntKind.bits] at hw
 omega
def lessP (a b : Pair) : Bool := if a.v = b.v then decide (a.l < b.l) else decide (a.v < b.v)
theorem Jtc2 {a b : Pair} : lessP a b = true ↔ a.v < b.v ∨ (a.v = b.v ∧ a.l < b.l) := by
 unfold lessP; split <;> simp <;> omega
theorem Jtc5 {a b : Pair} (h1 : lessP a b = false) (h2 : lessP b a = false) : a = b := by
 have h1 : ¬ lessP a b = true := by simp [h1]
 have h2 : ¬ lessP b a = true := by simp [h2]
 rw [Jtc2] at h1 h2
 obtain ⟨a1, a2⟩ := a; obtain ⟨b1, b2⟩ := b
 simp only [Pair.mk.injEq]; simp only at h1 h2; omega
theorem Jtc6 {a b c : Pair} (h1 : lessP a b = true) (h2 : lessP b c = true) : lessP a c = true := by
 rw [Jtc2] at *; omega
theorem Jtc3 (a : Pair) : lessP a a = false := by
 cases h : lessP a a with
 | false => rfl
 | true => rw [Jtc2] at h; omega
def stepA (p : Pair) (s : List Pair × Bool) (q : Pair) : List Pair × Bool :=
 let s := if s.2 = false ∧ lessP q p = false then (s.1 ++ [p], true) else s
 if q = p then s else (s.1 ++ [q], s.2)
def foldA (p : Pair) (l : List Pair) : List Pair × Bool := l.foldl (stepA p) ([], false)
def addP (l : List Pair) (p : Pair) : List Pair := if (foldA p l).2 = true then (foldA p l).1 else (foldA p l).1 ++ [p]
def makeP (l : List Pair) : List Pair := l.foldl addP []
def missP (a b : List Pair) : Option Pair := a.find? fun q => !decide (q ∈ b)
theorem Jt7z {a b : Pair} (h1 : a.v = b.v) (h2 : a.l = b.l) : a = b := by cases a; cases b; simp_all
def Srt (l : List Pair) : Prop := l.Pairwise fun a b => lessP a b = true
theorem Jtig {a : Pair} {l : List Pair} : Srt (a :: l) ↔ (∀ b ∈ l, lessP a b = true) ∧ Srt l := List.pairwise_cons
def insP (l : List Pair) (p : Pair) : List Pair := (l.takeWhile fun q => lessP q p) ++ p :: (l.dropWhile fun q => lessP q p).filter fun q => decide (q ≠ p)
theorem Jtc4 {a b : Pair} (h : lessP a b = true) : a ≠ b := by rintro rfl; rw [Jtc3] at h; cases h
theorem Jt8x (p : Pair) (l out : List Pair) : l.foldl (stepA p) (out, true) = (out ++ l.filter (fun q => decide (q ≠ p)), true) := by
 induction l generalizing out with
 | nil => simp
 | cons q l ih =>
  by_cases e : q = p
  ·simp [stepA, e, ih]
  ·simp [stepA, e, ih]
theorem Jt8y (p : Pair) (l out : List Pair) : l.foldl (stepA p) (out, false) = if (l.dropWhile fun q => lessP q p) = [] then (out ++ l, false) else (out ++ insP l p, true) := by
 induction l generalizing out with
 | nil => simp
 | cons q l ih =>
  cases h : lessP q p with
  | true =>
   have hne := Jtc4 h
   simp only [List.foldl_cons, stepA, h, hne, if_false, and_false, ih, List.dropWhile_cons, if_true, Bool.true_eq_false, insP, List.takeWhile_cons]
   split <;> simp [List.append_assoc]
  | false =>
   simp only [List.foldl_cons, stepA, h, and_self, if_true, List.dropWhile_cons, Bool.false_eq_true, if_false, reduceCtorEq, insP, List.takeWhile_cons, List.nil_append]
   by_cases e : q = p
   ·simp [e, Jt8x]
   ·simp [e, Jt8x]
theorem Jt5l (l : List Pair) (p : Pair) : addP l p = insP l p := by
 unfold addP foldA
 rw [Jt8y]
 split
 ·rename_i h
  simp only [List.nil_append, Bool.false_eq_true, if_false, insP, h, List.filter_nil]
  have : l.takeWhile (fun q => lessP q p) = l := by
   have e := List.takeWhile_append_dropWhile (p := fun q => lessP q p) (l := l)
   rw [h, List.append_nil] at e; exact e
  rw [this]
 ·simp
theorem Jtdi {l : List Pair} {p q : Pair} : q ∈ addP l p ↔ q = p ∨ q ∈ l := by
 rw [Jt5l, insP]
 have e := List.takeWhile_append_dropWhile (p := fun q => lessP q p) (l := l)
 have e2 : q ∈ l ↔ q ∈ l.takeWhile (fun q => lessP q p) ∨ q ∈ l.dropWhile (fun q => lessP q p) := by
  rw [← List.mem_append, e]
 simp only [List.mem_append, List.mem_cons, List.mem_filter, decide_eq_true_eq, e2]
 by_cases h : q = p <;> simp [h]
theorem Jt7u {l : List Pair} {p : Pair} (h : Srt l) : ∀ q ∈ l.dropWhile (fun q => lessP q p), lessP q p = false := by
 induction l with
 | nil => intro q hq; simp at hq
 | cons x l ih =>
  intro q hq
  rw [Jtig] at h
  cases hx : lessP x p with
  | true => rw [List.dropWhile_cons, hx, if_pos rfl] at hq; exact ih h.2 q hq
  | false =>
   rw [List.dropWhile_cons, hx, if_neg (by simp)] at hq
   rcases List.mem_cons.1 hq with rfl | hq
   ·exact hx
   ·cases hqp : lessP q p with
    | false => rfl
    | true => rw [Jtc6 (h.1 q hq) hqp] at hx; cases hx
theorem Jtj8 {l : List Pair} {p : Pair} : ∀ q ∈ l.takeWhile (fun q => lessP q p), lessP q p = true := by
 induction l with
 | nil => intro q hq; simp at hq
 | cons x l ih =>
  intro q hq
  cases hx : lessP x p with
  | true =>
   rw [List.takeWhile_cons, hx, if_pos rfl] at hq
   rcases List.mem_cons.1 hq with rfl | hq
   ·exact hx
   ·exact ih q hq
  | false => rw [List.takeWhile_cons, hx, if_neg (by simp)] at hq; simp at hq
theorem Jtio {a b : List Pair} (h : a.Sublist b) (hb : Srt b) : Srt a := List.Pairwise.sublist h hb
theorem Jtif {l : List Pair} {p : Pair} (h : Srt l) : Srt (addP l p) := by
 rw [Jt5l, insP]
 refine List.pairwise_append.2 ⟨Jtio (List.takeWhile_sublist _) h, Jtig.2 ⟨?_, ?_⟩, ?_⟩
 ·intro b hb
  rw [List.mem_filter, decide_eq_true_eq] at hb
  have h1 := Jt7u h b hb.1
  cases h2 : lessP p b with
  | true => rfl
  | false => exact absurd (Jtc5 h2 h1).symm hb.2
 ·exact Jtio (List.filter_sublist.trans (List.dropWhile_sublist _)) h
 ·intro a ha b hb
  have h1 := Jtj8 a ha
  rcases List.mem_cons.1 hb with rfl | hb
  ·exact h1
  ·rw [List.mem_filter, decide_eq_true_eq] at hb
   have h2 := Jt7u h b hb.1
   cases h3 : lessP p b with
   | true => exact Jtc6 h1 h3
   | false => exact absurd (Jtc5 h3 h2).symm hb.2
theorem Jtde (l : List Pair) (q : Pair) : makeP (l ++ [q]) = addP (makeP l) q := by simp [makeP]
theorem Jtdd {motive : List Pair → Prop} (h0 : motive []) (h1 : ∀ l q, motive l → motive (l ++ [q])) (l : List Pair) : motive l := by
 generalize hn : l.length = n
 induction n generalizing l with
 | zero => have : l = [] := List.length_eq_zero_iff.1 hn; subst this; exact h0
 | succ n ih =>
  have hne : l ≠ [] := by rintro rfl; simp at hn
  rw [← List.dropLast_concat_getLast hne]
  exact h1 _ _ (ih _ (by simp [hn]))
theorem Jtik (l : List Pair) : Srt (makeP l) := by
 induction l using Jtdd with
 | h0 => exact List.Pairwise.nil
 | h1 l q ih => rw [Jtde]; exact Jtif ih
theorem Jtdo {l : List Pair} {q : Pair} : q ∈ makeP l ↔ q ∈ l := by
 induction l using Jtdd with
 | h0 => simp [makeP]
 | h1 l x ih => rw [Jtde, Jtdi, ih]; simp [or_comm]
theorem Jtin {l : List Pair} (h : Srt l) : l.Nodup := List.Pairwise.imp (fun h => Jtc4 h) h
theorem Jt5m (l : List Pair) (p : Pair) : (addP l p).length ≤ l.length + 1 := by
 rw [Jt5l, insP]
 have e := congrArg List.length (List.takeWhile_append_dropWhile (p := fun q => lessP q p) (l := l))
 have e2 := List.length_filter_le (fun q => decide (q ≠ p)) (l.dropWhile fun q => lessP q p)
 simp only [List.length_append, List.length_cons] at e ⊢; omega
theorem Jtdc (l : List Pair) : (makeP l).length ≤ l.length := by
 induction l using Jtdd with
 | h0 => simp [makeP]
 | h1 l x ih => rw [Jtde]; have := Jt5m (makeP l) x; simp only [List.length_append, List.length_cons, List.length_nil]; omega
section
end
section
end
section
end
section
end
section
end
section
end
def mergeP : List Pair → List Pair → List Pair
 | [], b => b
 | x :: a, [] => x :: a
 | x :: a, y :: b => if lessP y x = true then y :: mergeP (x :: a) b else if y = x then x :: mergeP a b else x :: mergeP a (y :: b)
termination_by a b => a.length + b.length
theorem Jtdp {a b : List Pair} {q : Pair} : q ∈ mergeP a b ↔ q ∈ a ∨ q ∈ b := by
 induction a, b using mergeP.induct with
 | case1 b => simp [mergeP]
 | case2 x a => simp [mergeP]
 | case3 x a y b h ih => rw [mergeP, if_pos h, List.mem_cons, ih]; simp only [List.mem_cons]; constructor <;> (intro h; rcases h with h | h | h <;> simp_all)
 | case4 a b x h ih => rw [mergeP, if_neg h, if_pos rfl, List.mem_cons, ih]; simp only [List.mem_cons]; constructor <;> grind
 | case5 x a y b h h2 ih => rw [mergeP, if_neg h, if_neg h2, List.mem_cons, ih]; simp only [List.mem_cons]; constructor <;> grind
theorem Jtil {a b : List Pair} (ha : Srt a) (hb : Srt b) : Srt (mergeP a b) := by
 induction a, b using mergeP.induct with
 | case1 b => simpa [mergeP] using hb
 | case2 x a => simpa [mergeP] using ha
 | case3 x a y b h ih =>
  rw [mergeP, if_pos h]
  refine Jtig.2 ⟨fun q hq => ?_, ih ha (Jtig.1 hb).2⟩
  rw [Jtdp, List.mem_cons] at hq
  rcases hq with (rfl | hq) | hq
  ·exact h
  ·exact Jtc6 h ((Jtig.1 ha).1 q hq)
  ·exact (Jtig.1 hb).1 q hq
 | case4 a b x h ih =>
  rw [mergeP, if_neg h, if_pos rfl]
  refine Jtig.2 ⟨fun q hq => ?_, ih (Jtig.1 ha).2 (Jtig.1 hb).2⟩
  rw [Jtdp] at hq
  rcases hq with hq | hq
  ·exact (Jtig.1 ha).1 q hq
  ·exact (Jtig.1 hb).1 q hq
 | case5 x a y b h h2 ih =>
  rw [mergeP, if_neg h, if_neg h2]
  have hxy : lessP x y = true := by
   cases e : lessP x y with
   | true => rfl
   | false => exact absurd (Jtc5 (by simpa using h) e) h2
  refine Jtig.2 ⟨fun q hq => ?_, ih (Jtig.1 ha).2 hb⟩
  rw [Jtdp, List.mem_cons] at hq
  rcases hq with hq | rfl | hq
  ·exact (Jtig.1 ha).1 q hq
  ·exact hxy
  ·exact Jtc6 hxy ((Jtig.1 hb).1 q hq)
section
end
section
end
end Go.AE
namespace Go.AE
open Go Go.Proofs Go.Shelf Go.Sort
def sortP (l : List Pair) : List Pair := l.mergeSort fun x y => !lessP y x
section
variable {P : Program} {ρ : Ren}
end
structure SortOk (P : Program) (p : Nums) : Prop where
 none : Jt4n P p.slices_SortFunc_Pair [.d (.sl []), .fn (.func p.pairset_compare) [] []] [] fun o H' => o = .ret (.tup []) ∧ H' = []
 some : ∀ l : List Pair, l ≠ [] → l.length < 1000000 → Jt4n P p.slices_SortFunc_Pair [.hsl 0 0 2 l.length, .fn (.func p.pairset_compare) [] []] [.mem (Jth2 (l.map Pair.row))] fun o H' => o = .ret (.tup []) ∧ H' = [.mem (Jth2 ((sortP l).map Pair.row))]
section
end
def renP (c : Pair → Bool) (f : Pair → Pair) (l : List Pair) : List Pair := (l.filter c).map f
theorem Jtdt {c : Pair → Bool} {f : Pair → Pair} {l : List Pair} {q : Pair} : q ∈ renP c f l ↔ ∃ p ∈ l, c p = true ∧ f p = q := by
 unfold renP; simp only [List.mem_map, List.mem_filter, and_assoc]
def copyP (l : List Pair) (d a : Int) : List Pair := if d = a then makeP l else mergeP (l.filter fun x => x.v != d) (makeP (renP (fun x => x.v == a) (fun x => ⟨d, x.l⟩) l))
def moveP (l : List Pair) (d a : Int) : List Pair := if d = a then makeP l else mergeP (l.filter fun x => x.l != d) (makeP (renP (fun x => x.l == a) (fun x => ⟨x.v, d⟩) l))
def defP (l : List Pair) (d t : Int) : List Pair := addP ((l.filter fun x => x.v != d).filter fun x => x.l != t) ⟨d, t⟩
theorem Jtij {l : List Pair} {f : Pair → Bool} (h : Srt l) : Srt (l.filter f) := List.Pairwise.filter f h
theorem Jtih {l : List Pair} {d a : Int} (h : Srt l) : Srt (copyP l d a) := by
 unfold copyP; split
 ·exact Jtik _
 ·exact Jtil (Jtij h) (Jtik _)
theorem Jtim {l : List Pair} {d a : Int} (h : Srt l) : Srt (moveP l d a) := by
 unfold moveP; split
 ·exact Jtik _
 ·exact Jtil (Jtij h) (Jtik _)
theorem Jtii {l : List Pair} {d t : Int} (h : Srt l) : Srt (defP l d t) := Jtif (Jtij (Jtij h))
theorem Jtdj {l : List Pair} {d a : Int} {q : Pair} : q ∈ copyP l d a ↔ (q ∈ l ∧ (d = a ∨ q.v ≠ d)) ∨ (q.v = d ∧ (⟨a, q.l⟩ : Pair) ∈ l) := by
 unfold copyP
 by_cases h : d = a
 ·subst h
  rw [if_pos rfl, Jtdo]
  constructor
  ·intro hq; exact .inl ⟨hq, .inl rfl⟩
  ·rintro (⟨hq, _⟩ | ⟨e, hq⟩)
   ·exact hq
   ·have : (⟨d, q.l⟩ : Pair) = q := Jt7z e.symm rfl
    rw [this] at hq; exact hq
 ·rw [if_neg h, Jtdp, Jtdo, Jtdt, List.mem_filter]
  constructor
  ·rintro (⟨h1, h2⟩ | ⟨p, h1, h2, rfl⟩)
   ·exact .inl ⟨h1, .inr (by simpa using h2)⟩
   ·refine .inr ⟨rfl, ?_⟩
    have e : p.v = a := by simpa using h2
    have : (⟨a, p.l⟩ : Pair) = p := Jt7z e.symm rfl
    simpa [this] using h1
  ·rintro (⟨h1, h2⟩ | ⟨h1, h2⟩)
   ·exact .inl ⟨h1, by simpa using h2.resolve_left h⟩
   ·exact .inr ⟨_, h2, by simp, Jt7z h1.symm rfl⟩
theorem Jtdq {l : List Pair} {d a : Int} {q : Pair} : q ∈ moveP l d a ↔ (q ∈ l ∧ (d = a ∨ q.l ≠ d)) ∨ (q.l = d ∧ (⟨q.v, a⟩ : Pair) ∈ l) := by
 unfold moveP
 by_cases h : d = a
 ·subst h
  rw [if_pos rfl, Jtdo]
  constructor
  ·intro hq; exact .inl ⟨hq, .inl rfl⟩
  ·rintro (⟨hq, _⟩ | ⟨e, hq⟩)
   ·exact hq
   ·have : (⟨q.v, d⟩ : Pair) = q := Jt7z rfl e.symm
    rw [this] at hq; exact hq
 ·rw [if_neg h, Jtdp, Jtdo, Jtdt, List.mem_filter]
  constructor
  ·rintro (⟨h1, h2⟩ | ⟨p, h1, h2, rfl⟩)
   ·exact .inl ⟨h1, .inr (by simpa using h2)⟩
   ·refine .inr ⟨rfl, ?_⟩
    have e : p.l = a := by simpa using h2
    have : (⟨p.v, a⟩ : Pair) = p := Jt7z rfl e.symm
    simpa [this] using h1
  ·rintro (⟨h1, h2⟩ | ⟨h1, h2⟩)
   ·exact .inl ⟨h1, by simpa using h2.resolve_left h⟩
   ·exact .inr ⟨_, h2, by simp, Jt7z rfl h1.symm⟩
theorem Jtdk {l : List Pair} {d t : Int} {q : Pair} : q ∈ defP l d t ↔ q = ⟨d, t⟩ ∨ (q ∈ l ∧ q.v ≠ d ∧ q.l ≠ t) := by
 unfold defP
 rw [Jtdi, List.mem_filter, List.mem_filter]
 simp [and_assoc]
section
end
section
end
section
end
section
end
section
end
structure ClosOk (P : Program) (p : Nums) : Prop where
 ok1 : okFn P p.transfer_Copy_1 = true
 ok2 : okFn P p.transfer_Move_1 = true
 copy : ∀ (x : Pair) (d a : Int), Jt4n P p.transfer_Copy_1 [x.av, .ptr 0 0, .ptr 1 0] [.mem [AI d], .mem [AI a]] fun o H' => o = .ret (.tup [(⟨d, x.l⟩ : Pair).av, AB (x.v == a)]) ∧ H' = [.mem [AI d], .mem [AI a]]
 move : ∀ (x : Pair) (d a : Int), Jt4n P p.transfer_Move_1 [x.av, .ptr 0 0, .ptr 1 0] [.mem [AI d], .mem [AI a]] fun o H' => o = .ret (.tup [(⟨x.v, d⟩ : Pair).av, AB (x.l == a)]) ∧ H' = [.mem [AI d], .mem [AI a]]
section
end
section
end
section
end
section
end
section
end
def intRow (n : Int) : List D := [.int .i64 n]
def intsD (l : List Int) : D := .sl (l.map intRow)
section
end
section
end
def AU (n : Int) : AV := .d (.int .u8 n)
section
end
section
end
theorem Jtjq {n : Int} (hw : (Lit.int .u8 n).wf = true) : 0 ≤ n ∧ n < 256 := by
 simp [Lit.wf, IntKind.min, IntKind.max, IntKind.signed, IntKind.bits] at hw
 omega
theorem u8_of {d : D} (h : HasT (.int .u8) d) : ∃ n : Int, AV.d d = AU n ∧ (0 ≤ n ∧ n < 256) := by
 obtain ⟨n, rfl, hw⟩ := h.int_inv
 exact ⟨n, rfl, Jtjq hw⟩
theorem Jtbk {d : D} (h : HasT (.sl [ltI]) d) : ∃ l : List Int, AV.d d = .d (intsD l) ∧ l.length ≤ maxLen := by
 obtain ⟨rows, rfl, hl, hr⟩ := h.sl_inv
 obtain ⟨l, rfl⟩ := Jtha (g := intRow) (fun r hr => by
  obtain ⟨_, _, rfl, h0, h⟩ := HasL.cons_inv hr
  obtain rfl := h.nil_inv
  obtain ⟨a, rfl, _⟩ := h0.int_inv
  exact ⟨a, rfl⟩) hr
 exact ⟨l, rfl, by simpa using hl⟩
def isDig (c : UInt8) : Bool := decide (48 ≤ c.toNat) && decide (c.toNat ≤ 57)
def valD (ds : List UInt8) : Nat := ds.foldl (fun n c => 10 * n + (c.toNat - 48)) 0
def okD (ds : List UInt8) : Prop := ds ≠ [] ∧ (∀ c ∈ ds, isDig c = true) ∧ (ds.length ≤ 1 ∨ ds.head? ≠ some 48) ∧ valD ds < 1099511627776
instance (ds : List UInt8) : Decidable (okD ds) := by unfold okD; infer_instance
section
def rngZ (l r s : Int) : Bool := if l.tmod 2 = 1 then decide (0 ≤ l) && decide (l.tdiv 2 < s) else decide (0 ≤ l) && decide (l.tdiv 2 < r)
end
structure Mach where (op d a b imm dst src : Int)
 deriving DecidableEq, Inhabited
def Mach.row (m : Mach) : List D := [I m.op, I m.d, I m.a, I m.b, I m.imm, I m.dst, I m.src]
def Mach.av (m : Mach) : AV := .agg [AI m.op, AI m.d, AI m.a, AI m.b, AI m.imm, AI m.dst, AI m.src]
def regZ (n : Int) : Int := IntKind.i64.wrap (2 * n)
def slotZ (n : Int) : Int := IntKind.i64.wrap (IntKind.i64.wrap (2 * n) + 1)
def mvM (dst src : Int) : Mach := ⟨18, 0, 0, 0, 0, dst, src⟩
section
def knownZ (x : Int) : Bool := decide (1 ≤ x ∧ x ≤ 18)
theorem Jteu {P : Program} {p : Nums} (A : All P p) (x : Int) : Jt4n P p.opcode_known [AI x] [] fun o _ => o = .ret (AB (knownZ x)) := by
 refine A.opcode_known.run rfl fun R hR => ?_
 (simp (maxSteps := 1000000) [Jtah])
 ((first | refine Xc (fun hx => ?_) (fun hx => ?_) | refine Xo (fun hx => ?_) (fun hx => ?_)) <;> (try simp only [Xz, Xy] at hx))
 ·(simp (maxSteps := 1000000) [hx])
  (first | exact hR _ _ FrA | exact hR _ _ FnA | exact hR _ _ (Xf (hq := by simp [AV.erase, AV.unview, knownZ, hx]; done)))
 ·(simp (maxSteps := 1000000) [hx])
  (first | exact hR _ _ FrA | exact hR _ _ FnA | exact hR _ _ (Xf (hq := by simp [AV.erase, AV.unview, knownZ, hx]; done)))
structure Shape where (D A B Imm : Bool)
def shapeZ (x : Int) : Shape :=
 if knownZ x = false then ⟨false, false, false, false⟩ else if x = 1 then ⟨true, false, false, true⟩ else if x ≤ 4 then ⟨true, true, false, false⟩ else if x ≤ 16 then ⟨true, true, true, false⟩ else ⟨false, x == 17, false, false⟩
theorem Jtet {P : Program} {p : Nums} (A : All P p) (x : Int) : Jt4n P p.opcode_Of [AI x] [] fun o _ => o = .ret (.tup [.agg [AB (shapeZ x).D, AB (shapeZ x).A, AB (shapeZ x).B, AB (shapeZ x).Imm], AB (knownZ x)]) := by
 refine A.opcode_Of.run rfl fun R hR => ?_
 (simp (maxSteps := 1000000) [Jtag])
 (refine Jt13 (Jteu A _) (by rfl) (by rfl) ?_)
 (simp (maxSteps := 1000000) [])
 ((first | refine Xc (fun h1 => ?_) (fun h1 => ?_) | refine Xo (fun h1 => ?_) (fun h1 => ?_)) <;> (try simp only [Xz, Xy] at h1))
 ·(simp (maxSteps := 1000000) [h1])
  (first | exact hR _ _ FrA | exact hR _ _ FnA | exact hR _ _ (Xf (hq := by simp [AV.erase, AV.unview, shapeZ, h1]; done)))
 ·(simp (maxSteps := 1000000) [h1])
  ((first | refine Xc (fun h2 => ?_) (fun h2 => ?_) | refine Xo (fun h2 => ?_) (fun h2 => ?_)) <;> (try simp only [Xz, Xy] at h2))
  ·subst h2
   (simp (maxSteps := 1000000) [])
   (first | exact hR _ _ FrA | exact hR _ _ FnA | exact hR _ _ (Xf (hq := by simp [AV.erase, AV.unview, shapeZ, h1]; done)))
  ·(simp (maxSteps := 1000000) [h2])
   ((first | refine Xc (fun h3 => ?_) (fun h3 => ?_) | refine Xo (fun h3 => ?_) (fun h3 => ?_)) <;> (try simp only [Xz, Xy] at h3))
   ·(simp (maxSteps := 1000000) [h3])
    (first | exact hR _ _ FrA | exact hR _ _ FnA | exact hR _ _ (Xf (hq := by simp [AV.erase, AV.unview, shapeZ, h1, h2, h3]; done)))
   ·(simp (maxSteps := 1000000) [h3])
    ((first | refine Xc (fun h4 => ?_) (fun h4 => ?_) | refine Xo (fun h4 => ?_) (fun h4 => ?_)) <;> (try simp only [Xz, Xy] at h4))
    ·(simp (maxSteps := 1000000) [h4])
     (first | exact hR _ _ FrA | exact hR _ _ FnA | exact hR _ _ (Xf (hq := by simp [AV.erase, AV.unview, shapeZ, h1, h2, h3, h4]; done)))
    ·(simp (maxSteps := 1000000) [h4])
     (first | exact hR _ _ FrA | exact hR _ _ FnA | exact hR _ _ (Xf (hq := by simp [AV.erase, AV.unview, shapeZ, h1, h2, h3, h4]; done)))
def inZ (x n : Int) : Bool := decide (0 ≤ x ∧ x < n)
theorem Jtfw {P : Program} {p : Nums} (A : All P p) (x n : Int) : Jt4n P p.ref07_in [AI x, AI n] [] fun o _ => o = .ret (AB (inZ x n)) := by
 refine A.ref07_in.run rfl fun R hR => ?_
 (simp (maxSteps := 1000000) [Jtaw])
 ((first | refine Xc (fun h1 => ?_) (fun h1 => ?_) | refine Xo (fun h1 => ?_) (fun h1 => ?_)) <;> (try simp only [Xz, Xy] at h1))
 ·(simp (maxSteps := 1000000) [h1])
  (first | exact hR _ _ FrA | exact hR _ _ FnA | exact hR _ _ (Xf (hq := by simp [AV.erase, AV.unview, h1, inZ]; done)))
 ·(simp (maxSteps := 1000000) [h1])
  (first | exact hR _ _ FrA | exact hR _ _ FnA | exact hR _ _ (Xf (hq := by simp [AV.erase, AV.unview, h1, inZ]; done)))
def usesA (x : Int) : Bool := decide (2 ≤ x ∧ x ≤ 17)
theorem Jtfi {P : Program} {p : Nums} (A : All P p) (x : Int) : Jt4n P p.ref05_UsesA [AI x] [] fun o _ => o = .ret (AB (usesA x)) := by
 refine A.ref05_UsesA.run rfl fun R hR => ?_
 (simp (maxSteps := 1000000) [Jtai])
 ((first | refine Xc (fun hx => ?_) (fun hx => ?_) | refine Xo (fun hx => ?_) (fun hx => ?_)) <;> (try simp only [Xz, Xy] at hx))
 ·(simp (maxSteps := 1000000) [hx])
  (first | exact hR _ _ FrA | exact hR _ _ FnA | exact hR _ _ (Xf (hq := by simp [AV.erase, AV.unview, usesA, hx]; done)))
 ·(simp (maxSteps := 1000000) [hx])
  (first | exact hR _ _ FrA | exact hR _ _ FnA | exact hR _ _ (Xf (hq := by simp [AV.erase, AV.unview, usesA, hx]; done)))
def usesB (x : Int) : Bool := decide (5 ≤ x ∧ x ≤ 16)
theorem Jtfj {P : Program} {p : Nums} (A : All P p) (x : Int) : Jt4n P p.ref05_UsesB [AI x] [] fun o _ => o = .ret (AB (usesB x)) := by
 refine A.ref05_UsesB.run rfl fun R hR => ?_
 (simp (maxSteps := 1000000) [Jtaj])
 ((first | refine Xc (fun hx => ?_) (fun hx => ?_) | refine Xo (fun hx => ?_) (fun hx => ?_)) <;> (try simp only [Xz, Xy] at hx))
 ·(simp (maxSteps := 1000000) [hx])
  (first | exact hR _ _ FrA | exact hR _ _ FnA | exact hR _ _ (Xf (hq := by simp [AV.erase, AV.unview, usesB, hx]; done)))
 ·(simp (maxSteps := 1000000) [hx])
  (first | exact hR _ _ FrA | exact hR _ _ FnA | exact hR _ _ (Xf (hq := by simp [AV.erase, AV.unview, usesB, hx]; done)))
def usesD (x : Int) : Bool := decide (1 ≤ x ∧ x ≤ 16)
theorem Jtfk {P : Program} {p : Nums} (A : All P p) (x : Int) : Jt4n P p.ref05_UsesD [AI x] [] fun o _ => o = .ret (AB (usesD x)) := by
 refine A.ref05_UsesD.run rfl fun R hR => ?_
 (simp (maxSteps := 1000000) [Jtak])
 ((first | refine Xc (fun hx => ?_) (fun hx => ?_) | refine Xo (fun hx => ?_) (fun hx => ?_)) <;> (try simp only [Xz, Xy] at hx))
 ·(simp (maxSteps := 1000000) [hx])
  (first | exact hR _ _ FrA | exact hR _ _ FnA | exact hR _ _ (Xf (hq := by simp [AV.erase, AV.unview, usesD, hx]; done)))
 ·(simp (maxSteps := 1000000) [hx])
  (first | exact hR _ _ FrA | exact hR _ _ FnA | exact hR _ _ (Xf (hq := by simp [AV.erase, AV.unview, usesD, hx]; done)))
end
structure Field where (value : Int) (used : Bool) (bound : Int)
def Field.row (f : Field) : List D := [I f.value, .bool f.used, I f.bound]
def Field.bad (f : Field) : Bool := f.used && (decide (f.value < 0) || decide (f.bound ≤ f.value))
section
end
structure Instr where (op d a b imm : Int)
 deriving DecidableEq, Inhabited
def Instr.row (i : Instr) : List D := [I i.op, I i.d, I i.a, I i.b, I i.imm]
def Instr.av (i : Instr) : AV := .agg [AI i.op, AI i.d, AI i.a, AI i.b, AI i.imm]
structure Term where (kind a to els : Int)
 deriving DecidableEq, Inhabited
def Term.row (i : Term) : List D := [I i.kind, I i.a, I i.to, I i.els]
def Term.av (i : Term) : AV := .agg [AI i.kind, AI i.a, AI i.to, AI i.els]
section
end
structure Block where (code : List Instr) (term : Term)
 deriving Inhabited
def Block.row (b : Block) : List D := [.sl (b.code.map Instr.row), I b.term.kind, I b.term.a, I b.term.to, I b.term.els]
def Block.av (b : Block) : AV := .agg [.d (.sl (b.code.map Instr.row)), AI b.term.kind, AI b.term.a, AI b.term.to, AI b.term.els]
structure Func where (args regs : Int) (blocks : List Block)
def Func.av (f : Func) : AV := .agg [AI f.args, AI f.regs, .d (.sl (f.blocks.map Block.row))]
def codeN (bs : List Block) : Nat := (bs.map fun b => b.code.length).sum
theorem Jt7d {bs : List Block} {k : Nat} {b : Block} (h : bs[k]? = some b) : codeN (bs.take (k + 1)) = codeN (bs.take k) + b.code.length := by
 rw [codeN, List.take_add_one, h]; simp [codeN]
theorem Jt7a (a b : List Block) : codeN (a ++ b) = codeN a + codeN b := by simp [codeN]
theorem Jt7c (bs : List Block) (k : Nat) : codeN (bs.take k) ≤ codeN bs := by
 have h := Jt7a (bs.take k) (bs.drop k)
 rw [List.take_append_drop] at h; omega
def Jt8k : List Int → Int
 | [] => 0
 | e :: es => if e ≠ 0 then e else Jt8k es
theorem Jt8o {es : List Int} {k : Nat} (h : ∀ e ∈ es.take k, e = 0) : Jt8k es = Jt8k (es.drop k) := by
 induction k generalizing es with
 | zero => rfl
 | succ k ih =>
  cases es with
  | nil => rfl
  | cons e es =>
   have : e = 0 := h e (by simp)
   simp only [Jt8k, this, ne_eq, not_true_eq_false, if_false, List.drop_succ_cons]
   exact ih fun x hx => h x (by simp [hx])
theorem Jt8n {es : List Int} {k : Nat} {e : Int} (h : ∀ e ∈ es.take k, e = 0) (hk : es[k]? = some e) (he : e ≠ 0) : Jt8k es = e := by
 rw [Jt8o h]
 have hlt := (List.getElem?_eq_some_iff.1 hk).1
 rw [List.drop_eq_getElem_cons hlt]
 have : es[k] = e := (List.getElem?_eq_some_iff.1 hk).2
 simp [Jt8k, this, he]
theorem Jt8l {es : List Int} (h : ∀ e ∈ es, e = 0) : Jt8k es = 0 := by
 rw [Jt8o (k := es.length) (by simpa using h)]; simp [Jt8k]
theorem take_zero {α : Type} {f : α → Int} {l : List α} {k : Nat} {x : α} (h : ∀ e ∈ (l.map f).take k, e = 0) (hx : l[k]? = some x) (h0 : f x = 0) : ∀ e ∈ (l.map f).take (k + 1), e = 0 := by
 intro e he
 rw [List.take_add_one, List.mem_append] at he
 rcases he with he | he
 ·exact h e he
 ·rw [List.getElem?_map, hx] at he; simp at he; rw [he]; exact h0
section
end
def bad9 (i : Instr) (regs : Int) : Bool := usesD i.op && !inZ i.d regs || usesA i.op && !inZ i.a regs || usesB i.op && !inZ i.b regs
def bad12 (i : Instr) : Bool := !usesD i.op && i.d != 0 || !usesA i.op && i.a != 0 || !usesB i.op && i.b != 0 || i.op != 1 && i.imm != 0
def Jtga (i : Instr) (regs : Int) : Int := if i.op < 1 ∨ 17 < i.op then 8 else if bad9 i regs = true then 9 else if bad12 i = true then 12 else 0
def Jtgc (t : Term) (regs blocks : Int) : Int :=
 if t.kind = 1 then (if inZ t.to blocks = false then 11 else if t.a ≠ 0 ∨ t.els ≠ 0 then 12 else 0)
 else if t.kind = 2 then (if inZ t.a regs = false then 9 else if inZ t.to blocks = false ∨ inZ t.els blocks = false then 11 else 0)
 else if t.kind = 3 then (if inZ t.a regs = false then 9 else if t.to ≠ 0 ∨ t.els ≠ 0 then 12 else 0)
 else 16
section
theorem Jtfv {P : Program} {p : Nums} (A : All P p) (t : Term) (regs blocks : Int) : Jt4n P p.ref07_Term [t.av, AI regs, AI blocks] [] fun o _ => o = .ret (AI (Jtgc t regs blocks)) := by
 refine A.ref07_Term.run rfl fun R hR => ?_
 (simp (maxSteps := 1000000) [Jtav, Term.av])
 repeat' (first | ((refine Jt13 (Jtfw A _ _) (by rfl) (by rfl) ?_); (simp (maxSteps := 1000000) [])) | (((first | refine Xc (fun hbr => ?_) (fun hbr => ?_) | refine Xo (fun hbr => ?_) (fun hbr => ?_)) <;> (try simp only [Xz, Xy] at hbr)) <;> simp (maxSteps := 1000000) [hbr]) | ((first | refine hR _ _ (Jt4q _ rfl rfl ?_) | refine hR _ _ (Jt4p _ rfl rfl ?_)); clear hR; (try simp_all [AV.erase, AV.unview, Jtgc])))
end
section
set_option maxHeartbeats 4000000 in
theorem Jtft {P : Program} {p : Nums} (A : All P p) (i : Instr) (regs : Int) : Jt4n P p.ref07_Instr [i.av, AI regs] [] fun o _ => o = .ret (AI (Jtga i regs)) := by
 refine A.ref07_Instr.run rfl fun R hR => ?_
 (simp (maxSteps := 1000000) [Jtat, Instr.av])
 rw [Jea3]
 refine Jte ⟨[(12, AB (decide (i.op < 1) || decide (17 < i.op))), (2, .ptr 0 0), (4, AI 0), (1, AI regs)], [.mem [AI i.op, AI i.d, AI i.a, AI i.b, AI i.imm]]⟩ (fun N hN => ?_) ?_
 ·(simp (maxSteps := 1000000) [])
  ((first | refine Xc (fun h => ?_) (fun h => ?_) | refine Xo (fun h => ?_) (fun h => ?_)) <;> (try simp only [Xz, Xy] at h))
  ·(simp (maxSteps := 1000000) [h])
   exact hN _ (by simp only [h]; (exact wkA))
  ·(simp (maxSteps := 1000000) [h])
   exact hN _ (by simp only [h]; (exact wkA))
 ((first | refine Xc (fun h1 => ?_) (fun h1 => ?_) | refine Xo (fun h1 => ?_) (fun h1 => ?_)) <;> (try simp only [Xz, Xy] at h1))
 ·(simp (maxSteps := 1000000) [h1])
  have e : Jtga i regs = 8 := by unfold Jtga; rw [if_pos h1]
  (first | exact hR _ _ FrA | exact hR _ _ FnA | exact hR _ _ (Xf (hq := by simp [AV.erase, AV.unview, e]; done)))
 (simp (maxSteps := 1000000) [h1])
 rw [Jea4]
 refine Jte ⟨[(46, AB (bad9 i regs)), (2, .ptr 0 0), (4, AI 0), (1, AI regs)], [.mem [AI i.op, AI i.d, AI i.a, AI i.b, AI i.imm]]⟩ (fun N hN => ?_) ?_
 ·(simp (maxSteps := 1000000) [])
  cases uD : usesD i.op <;> cases uA : usesA i.op <;> cases uB : usesB i.op <;> cases nD : inZ i.d regs <;> cases nA : inZ i.a regs <;> cases nB : inZ i.b regs <;>
   (repeat' (first | ((refine Jt13 (Jtfw A _ _) (by rfl) (by rfl) ?_); (simp (maxSteps := 1000000) [nD, nA, nB])) | ((refine Jt13 (Jtfi A _) (by rfl) (by rfl) ?_); (simp (maxSteps := 1000000) [uA])) | ((refine Jt13 (Jtfj A _) (by rfl) (by rfl) ?_); (simp (maxSteps := 1000000) [uB])) | ((refine Jt13 (Jtfk A _) (by rfl) (by rfl) ?_); (simp (maxSteps := 1000000) [uD])))) <;>
   exact hN _ (by simp only [bad9, uD, uA, uB, nD, nA, nB]; (exact wkA))
 ((first | refine Xc (fun h2 => ?_) (fun h2 => ?_) | refine Xo (fun h2 => ?_) (fun h2 => ?_)) <;> (try simp only [Xz, Xy] at h2))
 ·(simp (maxSteps := 1000000) [h2])
  have e : Jtga i regs = 9 := by unfold Jtga; rw [if_neg (by simp at h1; omega), if_pos h2]
  (first | exact hR _ _ FrA | exact hR _ _ FnA | exact hR _ _ (Xf (hq := by simp [AV.erase, AV.unview, e]; done)))
 (simp (maxSteps := 1000000) [h2])
 rw [Jea5]
 refine Jte ⟨[(87, AB (bad12 i)), (2, .ptr 0 0), (4, AI 0), (1, AI regs)], [.mem [AI i.op, AI i.d, AI i.a, AI i.b, AI i.imm]]⟩ (fun N hN => ?_) ?_
 ·clear hR h1 h2
  (simp (maxSteps := 1000000) [])
  cases uD : usesD i.op <;> cases uA : usesA i.op <;> cases uB : usesB i.op <;>
   (repeat' (first | ((refine Jt13 (Jtfi A _) (by rfl) (by rfl) ?_); (simp (maxSteps := 1000000) [uA])) | ((refine Jt13 (Jtfj A _) (by rfl) (by rfl) ?_); (simp (maxSteps := 1000000) [uB])) | ((refine Jt13 (Jtfk A _) (by rfl) (by rfl) ?_); (simp (maxSteps := 1000000) [uD])) | (((first | refine Xc (fun hbr => ?_) (fun hbr => ?_) | refine Xo (fun hbr => ?_) (fun hbr => ?_)) <;> (try simp only [Xz, Xy] at hbr)) <;> simp (maxSteps := 1000000) [hbr]))) <;>
   (refine hN _ ?_; clear hN; cases hb : bad12 i) <;> (first | ((exact wkA); done) | (exfalso; simp_all [bad12]; done) | (simp_all [bad12]; (exact wkA); done) | (cases hi : (i.imm != 0) <;> first | ((exact wkA); done) | (simp only [*]; (exact wkA); done) | (exfalso; simp_all [bad12]; done)))
 ((first | refine Xc (fun h3 => ?_) (fun h3 => ?_) | refine Xo (fun h3 => ?_) (fun h3 => ?_)) <;> (try simp only [Xz, Xy] at h3))
 ·(simp (maxSteps := 1000000) [h3])
  have e : Jtga i regs = 12 := by unfold Jtga; rw [if_neg (by simp at h1; omega), if_neg (by simpa using h2), if_pos h3]
  (first | exact hR _ _ FrA | exact hR _ _ FnA | exact hR _ _ (Xf (hq := by simp [AV.erase, AV.unview, e]; done)))
 (simp (maxSteps := 1000000) [h3])
 have e : Jtga i regs = 0 := by unfold Jtga; rw [if_neg (by simp at h1; omega), if_neg (by simpa using h2), if_neg (by simpa using h3)]
 (first | exact hR _ _ FrA | exact hR _ _ FnA | exact hR _ _ (Xf (hq := by simp [AV.erase, AV.unview, e]; done)))
end
def few (f : Func) : Bool := decide (f.blocks.length ≤ 40) && decide (f.regs ≤ 60) && f.blocks.all (fun b => decide (b.code.length ≤ 100)) && decide (codeN f.blocks ≤ 300)
def Jtg8 (b : Block) (regs blocks : Int) : Int :=
 let e := Jt8k (b.code.map (Jtga · regs))
 if e ≠ 0 then e else Jtgc b.term regs blocks
def Jtg9 (f : Func) : Int :=
 if f.args < 0 ∨ f.regs < f.args then 9 else if 1048576 < f.regs then 6 else if f.blocks.length = 0 then 14 else if 1048576 < f.blocks.length ∨ 1048576 < codeN f.blocks then 6
 else Jt8k (f.blocks.map fun b => Jtg8 b f.regs f.blocks.length)
theorem Jt7b {bs : List Block} (h : ∀ b ∈ bs, b.code.length ≤ 100) : codeN bs ≤ 100 * bs.length := by
 induction bs with
 | nil => simp [codeN]
 | cons b bs ih =>
  have h1 := h b (by simp)
  have h2 := ih fun x hx => h x (by simp [hx])
  simp only [codeN, List.map_cons, List.sum_cons, List.length_cons] at *
  omega
theorem Jt8g {f : Func} : few f = true ↔ f.blocks.length ≤ 40 ∧ f.regs ≤ 60 ∧ (∀ b ∈ f.blocks, b.code.length ≤ 100) ∧ codeN f.blocks ≤ 300 := by
 simp [few, and_assoc]
section
theorem Jtfr {P : Program} {p : Nums} (A : All P p) (f : Func) (h0 : f.blocks.length < 1000000000) (h1 : codeN f.blocks < 1000000000) : Jt4n P p.ref07_Code [f.av] [] fun o _ => o = .ret (AI (codeN f.blocks)) := by
 refine A.ref07_Code.run rfl fun R hR => ?_
 (simp (maxSteps := 1000000) [Jtar, Func.av])
 refine Jtd (fun k : Nat => ⟨[(4, AI k), (1, .ptr 0 0), (3, AI (codeN (f.blocks.take k)))], [.mem [AI f.args, AI f.regs, .d (.sl (f.blocks.map Block.row))]]⟩) (fun k => k ≤ f.blocks.length) (fun k => f.blocks.length - k) 0 (by simp) (by (exact wkA)) ?_
 intro k hk N hN
 (simp (maxSteps := 1000000) [])
 ((first | refine Xc (fun h2 => ?_) (fun h2 => ?_) | refine Xo (fun h2 => ?_) (fun h2 => ?_)) <;> (try simp only [Xz, Xy] at h2))
 ·have hkl : k < f.blocks.length := by simpa using h2
  have hb : f.blocks[k]? = some f.blocks[k] := by simp [hkl]
  have hw := Jtkg (k := k) (by omega)
  have hs := Jt7d hb
  have hle := Jt7c f.blocks (k + 1)
  have hw2 := Jtkf (a := codeN (f.blocks.take k)) (b := f.blocks[k].code.length) (by omega)
  rw [← hs] at hw2
  (simp (maxSteps := 1000000) [h2, List.getElem?_map, hb, Block.row, hw, hw2])
  exact hN _ (k + 1) hkl (by (exact wkA)) (by omega)
 ·have hk' : k = f.blocks.length := by simp at h2; omega
  subst hk'
  (simp (maxSteps := 1000000) [])
  (first | exact hR _ _ FrA | exact hR _ _ FnA | exact hR _ _ (Xf (hq := by simp [AV.erase, AV.unview, List.take_length]; done)))
theorem Jtfs {P : Program} {p : Nums} (A : All P p) (f : Func) : Jt4n P p.ref07_Few [f.av] [] fun o _ => o = .ret (AB (few f)) := by
 refine A.ref07_Few.run rfl fun R hR => ?_
 (simp (maxSteps := 1000000) [Jtas, Func.av])
 ((first | refine Xc (fun a1 => ?_) (fun a1 => ?_) | refine Xo (fun a1 => ?_) (fun a1 => ?_)) <;> (try simp only [Xz, Xy] at a1))
 ·(simp (maxSteps := 1000000) [a1])
  have e : few f = false := by simp [few]; omega
  (first | exact hR _ _ FrA | exact hR _ _ FnA | exact hR _ _ (Xf (hq := by simp [AV.erase, AV.unview, e]; done)))
 (simp (maxSteps := 1000000) [a1])
 ((first | refine Xc (fun a2 => ?_) (fun a2 => ?_) | refine Xo (fun a2 => ?_) (fun a2 => ?_)) <;> (try simp only [Xz, Xy] at a2))
 ·(simp (maxSteps := 1000000) [a2])
  have e : few f = false := by simp [few]; omega
  (first | exact hR _ _ FrA | exact hR _ _ FnA | exact hR _ _ (Xf (hq := by simp [AV.erase, AV.unview, e]; done)))
 (simp (maxSteps := 1000000) [a2])
 refine Jtd (fun k : Nat => ⟨[(3, AI k), (1, .ptr 0 0)], [.mem [AI f.args, AI f.regs, .d (.sl (f.blocks.map Block.row))]]⟩)
  (fun k => k ≤ f.blocks.length ∧ ∀ b ∈ f.blocks.take k, b.code.length ≤ 100) (fun k => f.blocks.length - k) 0 (by simp) (by (exact wkA)) ?_
 rintro k ⟨hk, hz⟩ N hN
 (simp (maxSteps := 1000000) [])
 ((first | refine Xc (fun h2 => ?_) (fun h2 => ?_) | refine Xo (fun h2 => ?_) (fun h2 => ?_)) <;> (try simp only [Xz, Xy] at h2))
 ·have hkl : k < f.blocks.length := by simpa using h2
  have hb : f.blocks[k]? = some f.blocks[k] := by simp [hkl]
  have hw := Jtkg (k := k) (by omega)
  (simp (maxSteps := 1000000) [h2, hb, Block.row])
  ((first | refine Xc (fun h3 => ?_) (fun h3 => ?_) | refine Xo (fun h3 => ?_) (fun h3 => ?_)) <;> (try simp only [Xz, Xy] at h3))
  ·(simp (maxSteps := 1000000) [h3])
   have e : few f = false := by
    have : ¬ (∀ b ∈ f.blocks, b.code.length ≤ 100) := fun h => by have := h f.blocks[k] (by simp); omega
    simp [few]; intro _ _ h; exact absurd h this
   (first | exact hR _ _ FrA | exact hR _ _ FnA | exact hR _ _ (Xf (hq := by simp [AV.erase, AV.unview, e]; done)))
  ·(simp (maxSteps := 1000000) [h3, hw])
   refine hN _ (k + 1) ⟨hkl, ?_⟩ (by (exact wkA)) (by omega)
   intro b hb'
   rw [List.take_add_one, hb, List.mem_append] at hb'
   rcases hb' with hb' | hb'
   ·exact hz b hb'
   ·simp at hb'; subst hb'; omega
 ·have hk' : k = f.blocks.length := by simp at h2; omega
  subst hk'
  (simp (maxSteps := 1000000) [])
  have hcb : codeN f.blocks ≤ 100 * f.blocks.length := Jt7b (by rw [List.take_length] at hz; exact hz)
  (refine Jt13 (Jtfr A f (by omega) (by omega)) (by rfl) (by rfl) ?_)
  (simp (maxSteps := 1000000) [])
  have e : few f = decide ((codeN f.blocks : Int) ≤ 300) := by
   rw [List.take_length] at hz
   have e1 : f.blocks.all (fun b => decide (b.code.length ≤ 100)) = true := by simpa using hz
   have e2 : decide (f.blocks.length ≤ 40) = true := by simp; omega
   have e3 : decide (f.regs ≤ 60) = true := by simp; omega
   simp only [few, e1, e2, e3, Bool.true_and]
   congr 1; simp; omega
  (first | exact hR _ _ FrA | exact hR _ _ FnA | exact hR _ _ (Xf (hq := by simp [AV.erase, AV.unview, e]; done)))
theorem Jtfq {P : Program} {p : Nums} (A : All P p) (f : Func) (h0 : f.blocks.length < 1000000000) (h1 : codeN f.blocks < 1000000000) : Jt4n P p.ref07_Check [f.av] [] fun o _ => o = .ret (AI (Jtg9 f)) := by
 refine A.ref07_Check.run rfl fun R hR => ?_
 (simp (maxSteps := 1000000) [Jtaq, Func.av])
 ((first | refine Xc (fun a1 => ?_) (fun a1 => ?_) | refine Xo (fun a1 => ?_) (fun a1 => ?_)) <;> (try simp only [Xz, Xy] at a1))
 ·(simp (maxSteps := 1000000) [a1])
  have e : Jtg9 f = 9 := by unfold Jtg9; repeat (first | rw [if_pos (by omega)] | rw [if_neg (by omega)])
  (first | exact hR _ _ FrA | exact hR _ _ FnA | exact hR _ _ (Xf (hq := by simp [AV.erase, AV.unview, e]; done)))
 (simp (maxSteps := 1000000) [a1])
 ((first | refine Xc (fun a2 => ?_) (fun a2 => ?_) | refine Xo (fun a2 => ?_) (fun a2 => ?_)) <;> (try simp only [Xz, Xy] at a2))
 ·(simp (maxSteps := 1000000) [a2])
  have e : Jtg9 f = 9 := by unfold Jtg9; repeat (first | rw [if_pos (by omega)] | rw [if_neg (by omega)])
  (first | exact hR _ _ FrA | exact hR _ _ FnA | exact hR _ _ (Xf (hq := by simp [AV.erase, AV.unview, e]; done)))
 (simp (maxSteps := 1000000) [a2])
 ((first | refine Xc (fun a3 => ?_) (fun a3 => ?_) | refine Xo (fun a3 => ?_) (fun a3 => ?_)) <;> (try simp only [Xz, Xy] at a3))
 ·(simp (maxSteps := 1000000) [a3])
  have e : Jtg9 f = 6 := by unfold Jtg9; repeat (first | rw [if_pos (by omega)] | rw [if_neg (by omega)])
  (first | exact hR _ _ FrA | exact hR _ _ FnA | exact hR _ _ (Xf (hq := by simp [AV.erase, AV.unview, e]; done)))
 (simp (maxSteps := 1000000) [a3])
 ((first | refine Xc (fun a4 => ?_) (fun a4 => ?_) | refine Xo (fun a4 => ?_) (fun a4 => ?_)) <;> (try simp only [Xz, Xy] at a4))
 ·(simp (maxSteps := 1000000) [a4])
  have e : Jtg9 f = 14 := by unfold Jtg9; repeat (first | rw [if_pos (by omega)] | rw [if_neg (by omega)])
  (first | exact hR _ _ FrA | exact hR _ _ FnA | exact hR _ _ (Xf (hq := by simp [AV.erase, AV.unview, e]; done)))
 (simp (maxSteps := 1000000) [a4])
 ((first | refine Xc (fun a5 => ?_) (fun a5 => ?_) | refine Xo (fun a5 => ?_) (fun a5 => ?_)) <;> (try simp only [Xz, Xy] at a5))
 ·(simp (maxSteps := 1000000) [a5])
  have e : Jtg9 f = 6 := by unfold Jtg9; repeat (first | rw [if_pos (by omega)] | rw [if_neg (by omega)])
  (first | exact hR _ _ FrA | exact hR _ _ FnA | exact hR _ _ (Xf (hq := by simp [AV.erase, AV.unview, e]; done)))
 (simp (maxSteps := 1000000) [a5])
 (refine Jt13 (Jtfr A f h0 h1) (by rfl) (by rfl) ?_)
 (simp (maxSteps := 1000000) [])
 ((first | refine Xc (fun a6 => ?_) (fun a6 => ?_) | refine Xo (fun a6 => ?_) (fun a6 => ?_)) <;> (try simp only [Xz, Xy] at a6))
 ·(simp (maxSteps := 1000000) [a6])
  have e : Jtg9 f = 6 := by unfold Jtg9; repeat (first | rw [if_pos (by omega)] | rw [if_neg (by omega)])
  (first | exact hR _ _ FrA | exact hR _ _ FnA | exact hR _ _ (Xf (hq := by simp [AV.erase, AV.unview, e]; done)))
 (simp (maxSteps := 1000000) [a6])
 have e : Jtg9 f = Jt8k (f.blocks.map fun b => Jtg8 b f.regs f.blocks.length) := by
  unfold Jtg9; repeat (first | rw [if_pos (by omega)] | rw [if_neg (by omega)])
 refine Jtd (fun k : Nat => ⟨[(3, AI k), (2, AI 0), (1, .ptr 0 0)], [.mem [AI f.args, AI f.regs, .d (.sl (f.blocks.map Block.row))]]⟩)
  (fun k => k ≤ f.blocks.length ∧ ∀ e ∈ (f.blocks.map fun b => Jtg8 b f.regs f.blocks.length).take k, e = 0) (fun k => f.blocks.length - k) 0 (by simp) (by (exact wkA)) ?_
 rintro k ⟨hk, hz⟩ N hN
 (simp (maxSteps := 1000000) [])
 ((first | refine Xc (fun h2 => ?_) (fun h2 => ?_) | refine Xo (fun h2 => ?_) (fun h2 => ?_)) <;> (try simp only [Xz, Xy] at h2))
 ·have hkl : k < f.blocks.length := by simpa using h2
  have hb : f.blocks[k]? = some f.blocks[k] := by simp [hkl]
  have hw := Jtkg (k := k) (by omega)
  have hbl : f.blocks[k].code.length < 1000000000 := by
   have h3 := Jt7d hb
   have h4 := Jt7c f.blocks (k + 1)
   omega
  (simp (maxSteps := 1000000) [h2, hb, Block.row])
  refine Jtd (fun j : Nat => ⟨[(5, AI j), (4, .ptr 1 0), (3, AI k), (2, AI 0), (1, .ptr 0 0)], [.mem [AI f.args, AI f.regs, .d (.sl (f.blocks.map Block.row))], .mem [.d (.sl (f.blocks[k].code.map Instr.row)), AI f.blocks[k].term.kind, AI f.blocks[k].term.a, AI f.blocks[k].term.to, AI f.blocks[k].term.els]]⟩)
   (fun j => j ≤ f.blocks[k].code.length ∧ ∀ e ∈ (f.blocks[k].code.map (Jtga · f.regs)).take j, e = 0) (fun j => f.blocks[k].code.length - j) 0 (by simp) (by (exact wkA)) ?_
  rintro j ⟨hj, hy⟩ N' hN'
  (simp (maxSteps := 1000000) [])
  ((first | refine Xc (fun h3 => ?_) (fun h3 => ?_) | refine Xo (fun h3 => ?_) (fun h3 => ?_)) <;> (try simp only [Xz, Xy] at h3))
  ·have hjl : j < f.blocks[k].code.length := by simpa using h3
   have hbj : f.blocks[k].code[j]? = some f.blocks[k].code[j] := by simp [hjl]
   have hwj := Jtkg (k := j) (by omega)
   (simp (maxSteps := 1000000) [h3, hbj, Instr.row])
   (refine Jt13 (Jtft A f.blocks[k].code[j] f.regs) (by rfl) (by rfl) ?_)
   (simp (maxSteps := 1000000) [])
   ((first | refine Xc (fun h4 => ?_) (fun h4 => ?_) | refine Xo (fun h4 => ?_) (fun h4 => ?_)) <;> (try simp only [Xz, Xy] at h4))
   ·(simp (maxSteps := 1000000) [h4])
    have e2 : Jt8k (f.blocks[k].code.map (Jtga · f.regs)) = Jtga f.blocks[k].code[j] f.regs := Jt8n hy (by simp [hjl]) h4
    have e3 : Jtg8 f.blocks[k] f.regs f.blocks.length = Jtga f.blocks[k].code[j] f.regs := by simp [Jtg8, e2, h4]
    have e4 : Jt8k (f.blocks.map fun b => Jtg8 b f.regs f.blocks.length) = Jtg8 f.blocks[k] f.regs f.blocks.length := Jt8n hz (by simp [hkl]) (by rw [e3]; exact h4)
    (first | exact hR _ _ FrA | exact hR _ _ FnA | exact hR _ _ (Xf (hq := by simp [AV.erase, AV.unview, e, e4, e3]; done)))
   ·(simp (maxSteps := 1000000) [h4, hwj])
    exact hN' _ (j + 1) ⟨hjl, take_zero hy hbj (by simpa using h4)⟩ (by (exact wkA)) (by omega)
  ·have hj' : j = f.blocks[k].code.length := by simp at h3; omega
   subst hj'
   have hfe : Jt8k (f.blocks[k].code.map (Jtga · f.regs)) = 0 := Jt8l (by rw [List.take_of_length_le (by simp)] at hy; exact hy)
   have e3 : Jtg8 f.blocks[k] f.regs f.blocks.length = Jtgc f.blocks[k].term f.regs f.blocks.length := by simp [Jtg8, hfe]
   (simp (maxSteps := 1000000) [])
   (refine Jt13 (Jtfv A f.blocks[k].term f.regs f.blocks.length) (by rfl) (by rfl) ?_)
   (simp (maxSteps := 1000000) [])
   ((first | refine Xc (fun h5 => ?_) (fun h5 => ?_) | refine Xo (fun h5 => ?_) (fun h5 => ?_)) <;> (try simp only [Xz, Xy] at h5))
   ·(simp (maxSteps := 1000000) [h5])
    have e4 : Jt8k (f.blocks.map fun b => Jtg8 b f.regs f.blocks.length) = Jtg8 f.blocks[k] f.regs f.blocks.length := Jt8n hz (by simp [hkl]) (by rw [e3]; exact h5)
    (first | exact hR _ _ FrA | exact hR _ _ FnA | exact hR _ _ (Xf (hq := by simp [AV.erase, AV.unview, e, e4, e3]; done)))
   ·(simp (maxSteps := 1000000) [h5, hw])
    exact hN _ (k + 1) ⟨hkl, take_zero hz hb (by rw [e3]; simpa using h5)⟩ (by (exact wkA)) (by omega)
 ·have hk' : k = f.blocks.length := by simp at h2; omega
  subst hk'
  have hfe : Jt8k (f.blocks.map fun b => Jtg8 b f.regs f.blocks.length) = 0 := Jt8l (by rw [List.take_of_length_le (by simp)] at hz; exact hz)
  (simp (maxSteps := 1000000) [])
  (first | exact hR _ _ FrA | exact hR _ _ FnA | exact hR _ _ (Xf (hq := by simp [AV.erase, AV.unview, e, hfe]; done)))
end
structure MBlock where (code : List Mach) (term : Term)
 deriving Inhabited
def MBlock.row (b : MBlock) : List D := [.sl (b.code.map Mach.row), I b.term.kind, I b.term.a, I b.term.to, I b.term.els]
def MBlock.av (b : MBlock) : AV := .agg [.d (.sl (b.code.map Mach.row)), AI b.term.kind, AI b.term.a, AI b.term.to, AI b.term.els]
structure MFunc where (args regs slots : Int) (blocks : List MBlock)
def MFunc.av (f : MFunc) : AV := .agg [AI f.args, AI f.regs, AI f.slots, .d (.sl (f.blocks.map MBlock.row))]
def witD (w : List (List Pair)) : D := .sl (w.map fun l => [pairsD l])
structure Cert where (S : Func) (T : MFunc) (W : List (List Pair))
def Cert.av (c : Cert) : AV := .agg [AI c.S.args, AI c.S.regs, .d (.sl (c.S.blocks.map Block.row)), AI c.T.args, AI c.T.regs, AI c.T.slots, .d (.sl (c.T.blocks.map MBlock.row)), .d (witD c.W)]
section
end
def opM (i : Instr) (b : Int) : Mach := ⟨i.op, 0, 0, b, i.imm, 0, 0⟩
def Jtib (i : Instr) : List Mach :=
  (if (shapeZ i.op).A = true then [mvM (regZ 0) (slotZ i.a)] else []) ++
  ((if (i.op != 2) = true then (if (shapeZ i.op).B = true then [mvM (regZ 1) (slotZ i.b), opM i 1] else [opM i 0]) else []) ++
   (if (shapeZ i.op).D = true then [mvM (slotZ i.d) (regZ 0)] else []))
def spCode (l : List Instr) : List Mach := l.flatMap Jtib
section
end
section
end
def mcodeN (bs : List MBlock) : Nat := (bs.map fun b => b.code.length).sum
def mostN (l : List Nat) : Nat := l.foldl max 0
theorem Jt8m {es : List Int} (h : Jt8k es = 0) : ∀ e ∈ es, e = 0 := by
 induction es with
 | nil => intro e he; simp at he
 | cons e es ih =>
  simp only [Jt8k] at h
  intro x hx
  split at h
  ·exact absurd h ‹_›
  ·rcases List.mem_cons.1 hx with rfl | hx
   ·simp_all
   ·exact ih h x hx
section
end
section
end
theorem Jtec {α : Type} [DecidableEq α] : ∀ {l m : List α}, l.Nodup → (∀ x ∈ l, x ∈ m) → l.length ≤ m.length := by
 intro l
 induction l with
 | nil => intro m _ _; simp
 | cons x l ih =>
  intro m hn hs
  rw [List.nodup_cons] at hn
  have hx := hs x (by simp)
  have := ih (m := m.erase x) hn.2 fun y hy => (List.mem_erase_of_ne (by rintro rfl; exact hn.1 hy)).2 (hs y (by simp [hy]))
  rw [List.length_erase_of_mem hx] at this
  have := List.length_pos_of_mem hx
  simp only [List.length_cons]; omega
def prodP (V L : List Int) : List Pair := V.flatMap fun v => L.map fun l => (⟨v, l⟩ : Pair)
theorem Jtf7 (V L : List Int) : (prodP V L).length = V.length * L.length := by
 unfold prodP
 induction V with
 | nil => simp
 | cons v V ih => simp only [List.flatMap_cons, List.length_append, List.length_map, List.length_cons, ih, Nat.add_mul]; omega
theorem Jtdr {V L : List Int} {q : Pair} : q ∈ prodP V L ↔ q.v ∈ V ∧ q.l ∈ L := by
 unfold prodP
 simp only [List.mem_flatMap, List.mem_map]
 constructor
 ·rintro ⟨v, hv, l, hl, rfl⟩; exact ⟨hv, hl⟩
 ·rintro ⟨hv, hl⟩; exact ⟨q.v, hv, q.l, hl, rfl⟩
structure Over (V L : List Int) (l : List Pair) : Prop where
 srt : Srt l
 mem : ∀ q ∈ l, q.v ∈ V ∧ q.l ∈ L
theorem Over.len {V L : List Int} {l : List Pair} (h : Over V L l) : l.length ≤ V.length * L.length := by
 rw [← Jtf7]
 exact Jtec (Jtin h.srt) fun q hq => Jtdr.2 (h.mem q hq)
theorem Over.copy {V L : List Int} {l : List Pair} (h : Over V L l) {d a : Int} (hd : d ∈ V) : Over V L (copyP l d a) := by
 refine ⟨Jtih h.srt, fun q hq => ?_⟩
 rcases Jtdj.1 hq with ⟨h1, _⟩ | ⟨h1, h2⟩
 ·exact h.mem q h1
 ·exact ⟨by rw [h1]; exact hd, (h.mem _ h2).2⟩
theorem Over.move {V L : List Int} {l : List Pair} (h : Over V L l) {d a : Int} (hd : d ∈ L) : Over V L (moveP l d a) := by
 refine ⟨Jtim h.srt, fun q hq => ?_⟩
 rcases Jtdq.1 hq with ⟨h1, _⟩ | ⟨h1, h2⟩
 ·exact h.mem q h1
 ·exact ⟨(h.mem _ h2).1, by rw [h1]; exact hd⟩
theorem Over.define {V L : List Int} {l : List Pair} (h : Over V L l) {d t : Int} (hd : d ∈ V) (ht : t ∈ L) : Over V L (defP l d t) := by
 refine ⟨Jtii h.srt, fun q hq => ?_⟩
 rcases Jtdk.1 hq with rfl | ⟨h1, _⟩
 ·exact ⟨hd, ht⟩
 ·exact h.mem q h1
structure CS where (set : List Pair) (steps largest : Nat)
abbrev CR := CS × Option (Int × Int)
def costC (s : CS) : CS := ⟨s.set, s.steps + 1 + s.set.length, s.largest⟩
def Jt67 (most : Int) (s : CS) (l : List Pair) (at_ : Int) : CR := (⟨l, s.steps, max s.largest l.length⟩, if (l.length : Int) > most then some (24, at_) else none)
def useC (s : CS) (v t at_ : Int) : CR := (costC s, if (⟨v, t⟩ : Pair) ∈ s.set then none else some (21, at_))
def thenC (r : CR) (f : CS → CR) : CR := match r.2 with
 | none => f r.1
 | some e => (r.1, some e)
theorem Jtjf {s : CS} {f : CS → CR} : thenC (s, none) f = f s := rfl
theorem Jtjg {s : CS} {e : Int × Int} {f : CS → CR} : thenC (s, some e) f = (s, some e) := rfl
structure Room (V L : List Int) (s : CS) (n : Nat) : Prop where
 over : Over V L s.set
 few : V.length * L.length < 100000
 steps : s.steps + 100001 * n < 1000000000000000000
 lg : s.largest < 100000
theorem Room.len {V L : List Int} {s : CS} {n : Nat} (h : Room V L s n) : s.set.length < 100000 := Nat.lt_of_le_of_lt h.over.len h.few
theorem Room.mono {V L : List Int} {s : CS} {n m : Nat} (h : Room V L s n) (hm : m ≤ n) : Room V L s m := ⟨h.over, h.few, by have := h.steps; omega, h.lg⟩
theorem Room.cost {V L : List Int} {s : CS} {n : Nat} (h : Room V L s (n + 1)) : Room V L (costC s) n :=
 ⟨h.over, h.few, by have := h.steps; have := h.len; simp only [costC]; omega, h.lg⟩
theorem Room.become {V L : List Int} {s : CS} {n : Nat} (h : Room V L s n) {l : List Pair} (hl : Over V L l) (most at_ : Int) : Room V L (Jt67 most s l at_).1 n := by
 refine ⟨hl, h.few, h.steps, ?_⟩
 have := h.lg
 have := Nat.lt_of_le_of_lt hl.len h.few
 simp only [Jt67]; omega
theorem Room.use {V L : List Int} {s : CS} {n : Nat} (h : Room V L s (n + 1)) (v t at_ : Int) : Room V L (useC s v t at_).1 n := h.cost
section
variable {P : Program} {m : Nat} {Q : AExit → ASt → Prop} {st : ASt} {K : ASt → Prop} {QP : AV → ASt → Prop} {dst : Option Nat}
attribute [simp] panEnd
end
section
end
def instrC (most : Int) (s : CS) (i : Instr) (m : Mach) (at_ : Int) : CR :=
 thenC (if usesA i.op = true then useC s i.a (regZ m.a) at_ else (s, none)) fun s =>
  thenC (if usesB i.op = true then useC s i.b (regZ m.b) at_ else (s, none)) fun s =>
   if usesD i.op = true then Jt67 most (costC s) (defP s.set i.d (regZ m.d)) at_ else (s, none)
theorem Jthv (x : Int) : (shapeZ x).D = usesD x := by
 unfold shapeZ usesD knownZ
 by_cases h1 : 1 ≤ x ∧ x ≤ 18
 ·by_cases h2 : x = 1
  ·subst h2; decide
  ·by_cases h3 : x ≤ 4
   ·simp [h1, h2, h3]; omega
   ·by_cases h4 : x ≤ 16
    ·simp [h1, h2, h3, h4]
    ·simp [h1, h2, h3, h4]
 ·simp [h1]; omega
theorem Jtht (x : Int) : (shapeZ x).A = usesA x := by
 unfold shapeZ usesA knownZ
 by_cases h1 : 1 ≤ x ∧ x ≤ 18
 ·by_cases h2 : x = 1
  ·subst h2; decide
  ·by_cases h3 : x ≤ 4
   ·simp [h1, h2, h3]; omega
   ·by_cases h4 : x ≤ 16
    ·simp [h1, h2, h3, h4]; omega
    ·simp only [h1, h2, h3, h4, and_self, decide_true, Bool.true_eq_false, if_false]; by_cases h5 : x = 17
     ·subst h5; decide
     ·have : x = 18 := by omega
      subst this; decide
 ·simp [h1]; omega
theorem Jthu (x : Int) : (shapeZ x).B = usesB x := by
 unfold shapeZ usesB knownZ
 by_cases h1 : 1 ≤ x ∧ x ≤ 18
 ·by_cases h2 : x = 1
  ·subst h2; decide
  ·by_cases h3 : x ≤ 4
   ·simp [h1, h2, h3]; omega
   ·by_cases h4 : x ≤ 16
    ·simp [h1, h2, h3, h4]; omega
    ·simp [h1, h2, h3, h4]
 ·simp [h1]; omega
section
end
theorem Jtbe {V L : List Int} {most : Int} {s : CS} {n : Nat} {i : Instr} {m : Mach} {at_ : Int} (h : Room V L s (n + 3)) (hd : usesD i.op = true → i.d ∈ V ∧ regZ m.d ∈ L) : Room V L (instrC most s i m at_).1 n := by
 unfold instrC
 have h2 : Room V L (if usesA i.op = true then useC s i.a (regZ m.a) at_ else (s, none)).1 (n + 2) := by split <;> first | exact h.use _ _ _ | exact h.mono (by omega)
 generalize (if usesA i.op = true then useC s i.a (regZ m.a) at_ else (s, none)) = r at h2
 obtain ⟨s1, e⟩ := r
 cases e with
 | some e => rw [Jtjg]; exact h2.mono (by omega)
 | none =>
  rw [Jtjf]
  have h3 : Room V L (if usesB i.op = true then useC s1 i.b (regZ m.b) at_ else (s1, none)).1 (n + 1) := by split <;> first | exact h2.use _ _ _ | exact h2.mono (by omega)
  generalize (if usesB i.op = true then useC s1 i.b (regZ m.b) at_ else (s1, none)) = r at h3
  obtain ⟨s2, e⟩ := r
  cases e with
  | some e => rw [Jtjg]; exact h3.mono (by omega)
  | none =>
   rw [Jtjf]
   split
   ·rename_i hu
    obtain ⟨k1, k2⟩ := hd hu
    exact h3.cost.become (h3.over.define k1 k2) _ _
   ·exact h3.mono (by omega)
section
end
structure ARow where (cf ct mf mt : Nat) (src mach : Int)
def ARow.row (r : ARow) : List D := [I r.cf, I r.ct, I r.mf, I r.mt, I r.src, I r.mach]
def ARow.av (r : ARow) : AV := .agg [AI r.cf, AI r.ct, AI r.mf, AI r.mt, AI r.src, AI r.mach]
def copyC (most at_ : Int) : List Instr → CS → CR
 | [], s => (s, none)
 | i :: is, s => thenC (Jt67 most (costC s) (copyP s.set i.d i.a) at_) (copyC most at_ is)
def moveC (most : Int) : Nat → List Mach → CS → CR
 | _, [], s => (s, none)
 | k, m :: ms, s => thenC (Jt67 most (costC s) (moveP s.set m.dst m.src) k) (moveC most (k + 1) ms)
def lastC (most : Int) (b : List Instr) (m : List Mach) (r : ARow) (s : CS) : CR :=
 if 0 ≤ r.src then match b[r.src.toNat]?, m[r.mach.toNat]? with
  | some i, some x => instrC most s i x r.mach
  | _, _ => (s, none)
 else (s, none)
def rowC (most : Int) (b : List Instr) (m : List Mach) (r : ARow) (s : CS) : CR :=
 thenC (copyC most r.mf ((b.take r.ct).drop r.cf) s) fun s => thenC (moveC most r.mf ((m.take r.mt).drop r.mf) s) (lastC most b m r)
structure RowOk (b : List Instr) (m : List Mach) (r : ARow) : Prop where
 hc : r.cf ≤ r.ct ∧ r.ct ≤ b.length
 hm : r.mf ≤ r.mt ∧ r.mt ≤ m.length
 hs : 0 ≤ r.src → r.src < b.length ∧ 0 ≤ r.mach ∧ r.mach < m.length
structure VLOk (V L : List Int) (b : List Instr) (m : List Mach) : Prop where
 v : ∀ i ∈ b, i.d ∈ V
 l : ∀ x ∈ m, x.dst ∈ L ∧ regZ x.d ∈ L
theorem Room.copyStep {V L : List Int} {s : CS} {n : Nat} (h : Room V L s (n + 1)) {d a : Int} (hd : d ∈ V) (most at_ : Int) : Room V L (Jt67 most (costC s) (copyP s.set d a) at_).1 n := h.cost.become (h.over.copy hd) _ _
theorem Room.moveStep {V L : List Int} {s : CS} {n : Nat} (h : Room V L s (n + 1)) {d a : Int} (hd : d ∈ L) (most at_ : Int) : Room V L (Jt67 most (costC s) (moveP s.set d a) at_).1 n := h.cost.become (h.over.move hd) _ _
theorem Jt7j {V L : List Int} {most at_ : Int} : ∀ {l : List Instr} {s : CS} {n : Nat}, Room V L s (n + l.length) → (∀ i ∈ l, i.d ∈ V) → Room V L (copyC most at_ l s).1 n := by
 intro l
 induction l with
 | nil => intro s n h _; exact h
 | cons i l ih =>
  intro s n h hv
  have h1 := Room.copyStep (n := n + l.length) (by simpa [Nat.add_assoc] using h) (hv i (by simp)) most at_ (a := i.a)
  simp only [copyC]
  generalize Jt67 most (costC s) (copyP s.set i.d i.a) at_ = r at h1
  obtain ⟨s1, e⟩ := r
  cases e with
  | some e => rw [Jtjg]; exact h1.mono (by omega)
  | none => rw [Jtjf]; exact ih h1 fun j hj => hv j (by simp [hj])
theorem Jte3 {V L : List Int} {most : Int} : ∀ {l : List Mach} {k : Nat} {s : CS} {n : Nat}, Room V L s (n + l.length) → (∀ x ∈ l, x.dst ∈ L) → Room V L (moveC most k l s).1 n := by
 intro l
 induction l with
 | nil => intro k s n h _; exact h
 | cons i l ih =>
  intro k s n h hv
  have h1 := Room.moveStep (n := n + l.length) (by simpa [Nat.add_assoc] using h) (hv i (by simp)) most k (a := i.src)
  simp only [moveC]
  generalize Jt67 most (costC s) (moveP s.set i.dst i.src) k = r at h1
  obtain ⟨s1, e⟩ := r
  cases e with
  | some e => rw [Jtjg]; exact h1.mono (by omega)
  | none => rw [Jtjf]; exact ih h1 fun j hj => hv j (by simp [hj])
theorem Jtbv {V L : List Int} {most : Int} {b : List Instr} {m : List Mach} {r : ARow} {s : CS} {n : Nat} (h : Room V L s (n + 3)) (hv : VLOk V L b m) : Room V L (lastC most b m r s).1 n := by
 unfold lastC
 split
 ·split
  ·rename_i i x h1 h2
   exact Jtbe h fun _ => ⟨hv.v i (List.mem_of_getElem? h1), (hv.l x (List.mem_of_getElem? h2)).2⟩
  ·exact h.mono (by omega)
 ·exact h.mono (by omega)
theorem Jth1 {V L : List Int} {most : Int} {b : List Instr} {m : List Mach} {r : ARow} {s : CS} {n : Nat} (h : Room V L s (n + 3 + ((m.take r.mt).drop r.mf).length + ((b.take r.ct).drop r.cf).length)) (hv : VLOk V L b m) : Room V L (rowC most b m r s).1 n := by
 unfold rowC
 have h1 := Jt7j (most := most) (at_ := r.mf) h fun i hi => hv.v i (List.mem_of_mem_take (List.mem_of_mem_drop hi))
 generalize copyC most r.mf ((b.take r.ct).drop r.cf) s = q at h1
 obtain ⟨s1, e⟩ := q
 cases e with
 | some e => rw [Jtjg]; exact h1.mono (by omega)
 | none =>
  rw [Jtjf]
  have h2 := Jte3 (most := most) (k := r.mf) h1 fun i hi => (hv.l i (List.mem_of_mem_take (List.mem_of_mem_drop hi))).1
  generalize moveC most r.mf ((m.take r.mt).drop r.mf) s1 = q at h2
  obtain ⟨s2, e⟩ := q
  cases e with
  | some e => rw [Jtjg]; exact h2.mono (by omega)
  | none => rw [Jtjf]; exact Jtbv h2 hv
section
end
def rowsC (most : Int) (b : List Instr) (m : List Mach) : List ARow → CS → CR
 | [], s => (s, none)
 | r :: rs, s => thenC (rowC most b m r s) (rowsC most b m rs)
def runC (most : Int) (b : Block) (m : MBlock) (rows : List ARow) (s : CS) : CR :=
 thenC (rowsC most b.code m.code rows s) fun s => if b.term.kind = 1 then (s, none) else useC s b.term.a (regZ m.term.a) m.code.length
def runE (m : MBlock) : Option (Int × Int) → Int × Int
 | none => (0, m.code.length)
 | some e => e
def needR (r : ARow) : Nat := 3 + (r.mt - r.mf) + (r.ct - r.cf)
def needRs (rs : List ARow) : Nat := (rs.map needR).sum
section
variable {P : Program} {p : Nums}
end
theorem Jte7 (r : ARow) (rs : List ARow) : needRs (r :: rs) = needR r + needRs rs := by simp [needRs]
section
end
def isCopy (i : Instr) : Bool := i.op == 2
def isMove (m : Mach) : Bool := m.op == 18
def skipW {α : Type} (f : α → Bool) (l : List α) (i : Nat) : Nat := i + ((l.drop i).takeWhile f).length
theorem Jthy {α : Type} (f : α → Bool) (l : List α) (i : Nat) : i ≤ skipW f l i := Nat.le_add_right _ _
theorem Jthz {α : Type} {f : α → Bool} {l : List α} {i : Nat} (h : i ≤ l.length) : skipW f l i ≤ l.length := by
 have := (List.takeWhile_prefix f (l := l.drop i)).length_le
 rw [List.length_drop] at this
 unfold skipW; omega
def sameI (i : Instr) (m : Mach) : Bool := i.op == m.op && i.imm == m.imm && i.op != 2 && i.op != 18
def termsZ (a b : Term) : Bool := a.kind == b.kind && a.to == b.to && a.els == b.els
def alignS (code : List Instr) (mach : List Mach) : Nat → Nat → Nat → List ARow → List ARow × Nat × Int
 | 0, _, k, _ => ([], k, 20)
 | f + 1, i, k, rows =>
  if skipW isCopy code i = code.length ∧ skipW isMove mach k = mach.length then (rows ++ [⟨i, skipW isCopy code i, k, skipW isMove mach k, -1, -1⟩], skipW isMove mach k, 0)
  else match code[skipW isCopy code i]?, mach[skipW isMove mach k]? with
   | some x, some y => if sameI x y = true then alignS code mach f (skipW isCopy code i + 1) (skipW isMove mach k + 1) (rows ++ [⟨i, skipW isCopy code i, k, skipW isMove mach k, skipW isCopy code i, skipW isMove mach k⟩]) else ([], skipW isMove mach k, 20)
   | _, _ => ([], skipW isMove mach k, 20)
def alignZ (code : List Instr) (mach : List Mach) : List ARow × Nat × Int := alignS code mach (code.length + 1) 0 0 []
section
end
section
end
theorem Jt5r {code : List Instr} {mach : List Mach} : ∀ (f i k : Nat) (rows : List ARow), i ≤ code.length → k ≤ mach.length → (∀ r ∈ rows, RowOk code mach r) → rows.length ≤ i →
  (∀ r ∈ (alignS code mach f i k rows).1, RowOk code mach r) ∧ (alignS code mach f i k rows).1.length ≤ code.length + 1 ∧ (alignS code mach f i k rows).2.1 ≤ mach.length := by
 intro f
 induction f with
 | zero => intro i k rows hi hk h hl; exact ⟨fun r hr => by simp [alignS] at hr, by simp [alignS], by simpa [alignS] using hk⟩
 | succ f ih =>
  intro i k rows hi hk h hl
  have h1 := Jthz (f := isCopy) hi
  have h2 := Jthz (f := isMove) hk
  have h3 := Jthy isCopy code i
  have h4 := Jthy isMove mach k
  simp only [alignS]
  split
  ·refine ⟨fun r hr => ?_, by simp; omega, h2⟩
   rcases List.mem_append.1 hr with hr | hr
   ·exact h r hr
   ·simp only [List.mem_singleton] at hr
    subst hr
    exact ⟨⟨h3, h1⟩, ⟨h4, h2⟩, fun h => by simp at h⟩
  ·split
   ·rename_i x y hx hy
    have hx' := (List.getElem?_eq_some_iff.1 hx).1
    have hy' := (List.getElem?_eq_some_iff.1 hy).1
    split
    ·refine ih _ _ _ hx' hy' (fun r hr => ?_) (by simp only [List.length_append, List.length_singleton]; omega)
     rcases List.mem_append.1 hr with hr | hr
     ·exact h r hr
     ·simp only [List.mem_singleton] at hr
      subst hr
      exact ⟨⟨h3, h1⟩, ⟨h4, h2⟩, fun _ => ⟨by simp; omega, by simp, by simp; omega⟩⟩
    ·exact ⟨fun r hr => by simp at hr, by simp, h2⟩
   ·exact ⟨fun r hr => by simp at hr, by simp, h2⟩
theorem Jt5t (code : List Instr) (mach : List Mach) : (∀ r ∈ (alignZ code mach).1, RowOk code mach r) ∧ (alignZ code mach).1.length ≤ code.length + 1 ∧ (alignZ code mach).2.1 ≤ mach.length :=
 Jt5r _ 0 0 [] (Nat.zero_le _) (Nat.zero_le _) (fun r hr => by simp at hr) (Nat.le_refl _)
theorem Jte8 {code : List Instr} {mach : List Mach} {rows : List ARow} (h : ∀ r ∈ rows, RowOk code mach r) : needRs rows ≤ rows.length * (3 + mach.length + code.length) := by
 induction rows with
 | nil => simp [needRs]
 | cons r rows ih =>
  have h1 := h r (by simp)
  have h2 := ih fun r hr => h r (by simp [hr])
  rw [Jte7, List.length_cons, Nat.add_mul, Nat.one_mul]
  have := h1.hc
  have := h1.hm
  unfold needR; omega
structure Res where (out : List Pair) (err at_ : Int) (steps largest : Nat)
 deriving DecidableEq
def Res.av (r : Res) : AV := .agg [.d (pairsD r.out), AI r.err, AI r.at_, AI r.steps, AI r.largest]
def checkZ (b : Block) (m : MBlock) (l : List Pair) (most : Int) : Res :=
 if (l.length : Int) > most then ⟨[], 24, 0, 0, l.length⟩
 else
  let a := alignZ b.code m.code
  let why := if a.2.2 = 0 ∧ termsZ b.term m.term = false then 20 else a.2.2
  if why ≠ 0 then ⟨[], why, a.2.1, 0, l.length⟩
  else
   let r := runC most b m a.1 ⟨makeP l, 0, l.length⟩
   ⟨if (runE m r.2).1 = 0 then r.1.set else [], (runE m r.2).1, (runE m r.2).2, r.1.steps, r.1.largest⟩
section
end
def okZ (n : Int) : Prop := -9223372036854775808 ≤ n ∧ n ≤ 9223372036854775807
def Jtgb (i : Mach) (regs slots : Int) : Int :=
 if i.op < 1 ∨ 18 < i.op ∨ i.op = 2 then 8
 else if i.op = 18 then
  if rngZ i.dst regs slots = false ∨ rngZ i.src regs slots = false ∨ (i.dst.tmod 2 = 1 ∧ i.src.tmod 2 = 1) then 10
  else if i.d ≠ 0 ∨ i.a ≠ 0 ∨ i.b ≠ 0 ∨ i.imm ≠ 0 then 12 else 0
 else if Jtga ⟨i.op, i.d, i.a, i.b, i.imm⟩ regs = 0 ∧ (i.dst ≠ 0 ∨ i.src ≠ 0) then 12 else Jtga ⟨i.op, i.d, i.a, i.b, i.imm⟩ regs
section
end
def okM (b : MBlock) : Prop := ∀ x ∈ b.code, okZ x.dst ∧ okZ x.src
section
end
structure Bd (most : Int) (m n : Nat) (s : CS) (r : CR) : Prop where
 steps : r.1.steps ≤ s.steps + n * (r.1.largest + 1)
 lg : s.largest ≤ r.1.largest
 set : r.1.set.length ≤ r.1.largest
 most : r.2 = none → (s.largest : Int) ≤ most → (r.1.largest : Int) ≤ most
 fail : ∀ e, r.2 = some e → e.1 ≠ 0 ∧ 0 ≤ e.2 ∧ e.2 ≤ m
section
variable {most : Int} {m : Nat} {s : CS}
theorem Bd.refl (h : s.set.length ≤ s.largest) : Bd most m 0 s (s, none) := ⟨by simp, Nat.le_refl _, h, fun _ h => h, fun e h => by cases h⟩
theorem Bd.mono {n n' : Nat} {r : CR} (h : Bd most m n s r) (hn : n ≤ n') : Bd most m n' s r :=
 ⟨Nat.le_trans h.steps (Nat.add_le_add_left (Nat.mul_le_mul_right _ hn) _), h.lg, h.set, h.most, h.fail⟩
theorem Bd.then {n1 n2 : Nat} {r : CR} {f : CS → CR} (h : Bd most m n1 s r) (hf : ∀ s1, r = (s1, none) → Bd most m n2 s1 (f s1)) : Bd most m (n1 + n2) s (thenC r f) := by
 obtain ⟨s1, e⟩ := r
 cases e with
 | some e => rw [Jtjg]; exact h.mono (by omega)
 | none =>
  rw [Jtjf]
  have h2 := hf s1 rfl
  refine ⟨?_, Nat.le_trans h.lg h2.lg, h2.set, fun hn hm => h2.most hn (h.most rfl hm), h2.fail⟩
  have k1 := h.steps
  have k2 := h2.steps
  have k3 := h2.lg
  simp only at k1 k3
  have k4 : n1 * (s1.largest + 1) ≤ n1 * ((f s1).1.largest + 1) := Nat.mul_le_mul_left _ (by omega)
  rw [Nat.add_mul]
  omega
theorem Bd.use {v t at_ : Int} (h : s.set.length ≤ s.largest) (h0 : 0 ≤ at_) (h1 : at_ ≤ m) : Bd most m 1 s (useC s v t at_) := by
 refine ⟨?_, Nat.le_refl _, h, fun _ h => h, fun e he => ?_⟩
 ·simp only [useC, costC]; omega
 ·simp only [useC] at he
  split at he
  ·cases he
  ·injection he with he; subst he; exact ⟨by simp, h0, h1⟩
theorem Bd.step {l : List Pair} {at_ : Int} (h : s.set.length ≤ s.largest) (h0 : 0 ≤ at_) (h1 : at_ ≤ m) : Bd most m 1 s (Jt67 most (costC s) l at_) := by
 refine ⟨?_, ?_, ?_, fun hn hm => ?_, fun e he => ?_⟩
 ·simp only [Jt67, costC]; omega
 ·simp only [Jt67, costC]; omega
 ·simp only [Jt67, costC]; omega
 ·simp only [Jt67, costC] at hn ⊢
  split at hn
  ·cases hn
  ·omega
 ·simp only [Jt67] at he
  split at he
  ·injection he with he; subst he; exact ⟨by simp, h0, h1⟩
  ·cases he
theorem Jt7i {at_ : Int} (h0 : 0 ≤ at_) (h1 : at_ ≤ m) : ∀ {l : List Instr} {s : CS}, s.set.length ≤ s.largest → Bd most m l.length s (copyC most at_ l s) := by
 intro l
 induction l with
 | nil => intro s h; exact .refl h
 | cons i l ih =>
  intro s h
  simp only [copyC, List.length_cons]
  rw [Nat.add_comm]
  refine (Bd.step h h0 h1).then fun s1 hs1 => ih ?_
  have := (Bd.step (most := most) (m := m) (l := copyP s.set i.d i.a) h h0 h1).set
  rw [hs1] at this; exact this
theorem Jte2 : ∀ {l : List Mach} {k : Nat} {s : CS}, k + l.length ≤ m → s.set.length ≤ s.largest → Bd most m l.length s (moveC most k l s) := by
 intro l
 induction l with
 | nil => intro k s _ h; exact .refl h
 | cons i l ih =>
  intro k s hk h
  simp only [moveC, List.length_cons] at hk ⊢
  rw [Nat.add_comm l.length 1]
  have hst := Bd.step (most := most) (m := m) (l := moveP s.set i.dst i.src) (at_ := k) h (by omega) (by omega)
  refine hst.then fun s1 hs1 => ih (by omega) ?_
  have := hst.set
  rw [hs1] at this; exact this
theorem Jtbd {i : Instr} {x : Mach} {at_ : Int} (h : s.set.length ≤ s.largest) (h0 : 0 ≤ at_) (h1 : at_ ≤ m) : Bd most m 3 s (instrC most s i x at_) := by
 unfold instrC
 refine Bd.then (n1 := 1) (n2 := 2) ?_ fun s1 hs1 => Bd.then (n1 := 1) (n2 := 1) ?_ fun s2 hs2 => ?_
 ·split
  ·exact .use h h0 h1
  ·exact (Bd.refl h).mono (by omega)
 ·have k1 : s1.set.length ≤ s1.largest := by
   split at hs1
   ·have := (Bd.use (most := most) (m := m) (v := i.a) (t := regZ x.a) h h0 h1).set; rw [hs1] at this; exact this
   ·injection hs1 with hs1; subst hs1; exact h
  split
  ·exact .use k1 h0 h1
  ·exact (Bd.refl k1).mono (by omega)
 ·have k1 : s1.set.length ≤ s1.largest := by
   split at hs1
   ·have := (Bd.use (most := most) (m := m) (v := i.a) (t := regZ x.a) h h0 h1).set; rw [hs1] at this; exact this
   ·injection hs1 with hs1; subst hs1; exact h
  have k2 : s2.set.length ≤ s2.largest := by
   split at hs2
   ·have := (Bd.use (most := most) (m := m) (v := i.b) (t := regZ x.b) k1 h0 h1).set; rw [hs2] at this; exact this
   ·injection hs2 with hs2; subst hs2; exact k1
  split
  ·exact .step k2 h0 h1
  ·exact (Bd.refl k2).mono (by omega)
end
def costR (r : ARow) : Nat := (r.ct - r.cf) + (r.mt - r.mf) + if 0 ≤ r.src then 3 else 0
theorem Jth0 {most : Int} {b : List Instr} {mc : List Mach} {r : ARow} {s : CS} (h : s.set.length ≤ s.largest) (hr : RowOk b mc r) : Bd most mc.length (costR r) s (rowC most b mc r s) := by
 unfold rowC costR
 have hl1 : ((b.take r.ct).drop r.cf).length = r.ct - r.cf := by have := hr.hc; simp; omega
 have hl2 : ((mc.take r.mt).drop r.mf).length = r.mt - r.mf := by have := hr.hm; simp; omega
 have b1 := Jt7i (most := most) (m := mc.length) (at_ := r.mf) (by omega) (by have := hr.hm; omega) (l := (b.take r.ct).drop r.cf) h
 rw [hl1] at b1
 rw [Nat.add_assoc]
 refine b1.then fun s1 hs1 => ?_
 have k1 := b1.set
 rw [hs1] at k1
 have b2 := Jte2 (most := most) (m := mc.length) (k := r.mf) (l := (mc.take r.mt).drop r.mf) (s := s1) (by have := hr.hm; rw [hl2]; omega) k1
 rw [hl2] at b2
 refine b2.then fun s2 hs2 => ?_
 have k2 := b2.set
 rw [hs2] at k2
 unfold lastC
 split
 ·rename_i h0
  obtain ⟨q1, q2, q3⟩ := hr.hs h0
  split
  ·exact Jtbd k2 q2 (by omega)
  ·exact (Bd.refl k2).mono (by omega)
 ·exact (Bd.refl k2).mono (by omega)
def costRs (rs : List ARow) : Nat := (rs.map costR).sum
theorem Jth7 {most : Int} {b : List Instr} {mc : List Mach} : ∀ {rs : List ARow} {s : CS}, s.set.length ≤ s.largest → (∀ r ∈ rs, RowOk b mc r) → Bd most mc.length (costRs rs) s (rowsC most b mc rs s) := by
 intro rs
 induction rs with
 | nil => intro s h _; exact .refl h
 | cons r rs ih =>
  intro s h hr
  have b1 := Jth0 (most := most) h (hr r (by simp))
  have e : costRs (r :: rs) = costR r + costRs rs := by simp [costRs]
  rw [e]
  refine b1.then fun s1 hs1 => ih ?_ fun r hr' => hr r (by simp [hr'])
  have := b1.set
  rw [hs1] at this; exact this
theorem Jthf {most : Int} {b : Block} {m : MBlock} {rs : List ARow} {s : CS} (h : s.set.length ≤ s.largest) (hr : ∀ r ∈ rs, RowOk b.code m.code r) : Bd most m.code.length (costRs rs + 1) s (runC most b m rs s) := by
 unfold runC
 have b1 := Jth7 (most := most) h hr
 refine b1.then fun s1 hs1 => ?_
 have k1 := b1.set
 rw [hs1] at k1
 split
 ·exact (Bd.refl k1).mono (by omega)
 ·exact .use k1 (by omega) (by omega)
theorem Jt7k (a b : List ARow) : costRs (a ++ b) = costRs a + costRs b := by simp [costRs]
theorem Jt5q {code : List Instr} {mach : List Mach} : ∀ (f i k : Nat) (rows : List ARow), i ≤ code.length → k ≤ mach.length → costRs rows ≤ i + 3 * k →
  costRs (alignS code mach f i k rows).1 ≤ code.length + 3 * mach.length := by
 intro f
 induction f with
 | zero => intro i k rows hi hk h; simp [alignS, costRs]
 | succ f ih =>
  intro i k rows hi hk h
  have h1 := Jthz (f := isCopy) hi
  have h2 := Jthz (f := isMove) hk
  have h3 := Jthy isCopy code i
  have h4 := Jthy isMove mach k
  simp only [alignS]
  split
  ·rename_i hc
   rw [Jt7k]
   simp only [costRs, List.map_cons, List.map_nil, List.sum_cons, List.sum_nil, costR] at h ⊢
   rw [if_neg (by omega)]
   omega
  ·split
   ·rename_i x y hx hy
    have hx' := (List.getElem?_eq_some_iff.1 hx).1
    have hy' := (List.getElem?_eq_some_iff.1 hy).1
    split
    ·refine ih _ _ _ hx' hy' ?_
     rw [Jt7k]
     simp only [costRs, List.map_cons, List.map_nil, List.sum_cons, List.sum_nil, costR] at h ⊢
     rw [if_pos (by omega)]
     omega
    ·simp [costRs]
   ·simp [costRs]
theorem Jt5s (code : List Instr) (mach : List Mach) : costRs (alignZ code mach).1 ≤ code.length + 3 * mach.length := Jt5q _ 0 0 [] (Nat.zero_le _) (Nat.zero_le _) (by simp [costRs])
theorem Jt72 (b : Block) (m : MBlock) (l : List Pair) (most : Int) (hl : (makeP l).length ≤ l.length) : (checkZ b m l most).steps ≤ (3 * m.code.length + b.code.length + 1) * ((checkZ b m l most).largest + 1) ∧ l.length ≤ (checkZ b m l most).largest ∧
  (checkZ b m l most).out.length ≤ (checkZ b m l most).largest ∧ ((checkZ b m l most).err = 0 → ((checkZ b m l most).largest : Int) ≤ most) ∧ 0 ≤ (checkZ b m l most).at_ ∧ (checkZ b m l most).at_ ≤ m.code.length := by
 obtain ⟨a1, a2, a3⟩ := Jt5t b.code m.code
 have hc := Jt5s b.code m.code
 unfold checkZ
 split
 ·exact ⟨Nat.zero_le _, Nat.le_refl _, Nat.zero_le _, fun h => by simp at h, by simp, by simp⟩
 ·rename_i h1
  by_cases h2 : (if (alignZ b.code m.code).2.2 = 0 ∧ termsZ b.term m.term = false then 20 else (alignZ b.code m.code).2.2) ≠ 0
  ·simp only [if_pos h2]
   exact ⟨Nat.zero_le _, Nat.le_refl _, Nat.zero_le _, fun h => absurd h h2, by simp, by simpa using a3⟩
  ·simp only [if_neg h2]
   have hb := Jthf (most := most) (b := b) (m := m) (rs := (alignZ b.code m.code).1) (s := ⟨makeP l, 0, l.length⟩) hl a1
   generalize runC most b m (alignZ b.code m.code).1 ⟨makeP l, 0, l.length⟩ = r at hb
   obtain ⟨t, e⟩ := r
   obtain ⟨k1, k2, k3, k4, k5⟩ := hb
   simp only at k1 k2 k3 k4 k5 ⊢
   refine ⟨?_, k2, ?_, fun h => ?_, ?_, ?_⟩
   ·have : (costRs (alignZ b.code m.code).1 + 1) * (t.largest + 1) ≤ (3 * m.code.length + b.code.length + 1) * (t.largest + 1) := Nat.mul_le_mul_right _ (by omega)
    omega
   ·split
    ·exact k3
    ·simp
   ·cases e with
    | none => exact k4 rfl (by omega)
    | some e => exact absurd h (k5 e rfl).1
   ·cases e with
    | none => simp [runE]
    | some e => exact (k5 e rfl).2.1
   ·cases e with
    | none => simp [runE]
    | some e => exact (k5 e rfl).2.2
def retB : Block := ⟨[], ⟨3, 0, 0, 0⟩⟩
def retM : MBlock := ⟨[], ⟨3, 0, 0, 0⟩⟩
theorem Jt5d {H : List Blk} {b m n e : Nat} {rows : List (List D)} (hb : H[b]? = some (.mem (Jth2 rows))) (hm : m ≤ b) (hl : rows.length = n) (he : ∀ r ∈ rows, r.length = e) : WkT H m (.hsl b 0 e n) (.d (.sl rows)) := by
 refine .inl (.hsl b 0 e n (Jth2 rows) rows hb hm ?_ hl he)
 rw [List.drop_zero, List.take_of_length_le (by rw [Jth6 he, hl]; exact Nat.le_refl _)]; rfl
def smallZ (b : Block) (m : MBlock) (regs slots : Int) : Prop :=
 ¬ (60 : Int) < (b.code.length : Int) ∧ ¬ (200 : Int) < (m.code.length : Int) ∧ ¬ 20 < regs ∧ ¬ 20 < slots ∧ ¬ 30 < b.term.to ∧ ¬ 30 < b.term.els ∧ ¬ 30 < m.term.to ∧ ¬ 30 < m.term.els ∧ ¬ b.term.to < 0 ∧ ¬ b.term.els < 0
instance (b : Block) (m : MBlock) (regs slots : Int) : Decidable (smallZ b m regs slots) := by unfold smallZ; infer_instance
def fnB (b : Block) : Func := ⟨0, 20, b :: List.replicate 30 retB⟩
def fnM (m : MBlock) (regs slots : Int) : MFunc := ⟨0, regs, slots, m :: List.replicate 30 retM⟩
section
end
section
end
section
end
section
end
def okC (r : CR) : Prop := ∀ e, r.2 = some e → e.1 ≠ 0
theorem okC.then {r : CR} {f : CS → CR} (h : okC r) (hf : ∀ s, okC (f s)) : okC (thenC r f) := by
 obtain ⟨s, e⟩ := r
 cases e with
 | none => exact hf s
 | some e => exact h
structure Inv14 (V L : List Int) (most : Int) (code : List Instr) (mcode : List Mach) (rows : List ARow) (T : CR) (x : Nat × CR) : Prop where
 le : x.1 ≤ rows.length
 eq : thenC x.2 (rowsC most code mcode (rows.drop x.1)) = T
 ok : okC x.2
 room : x.2.2 = none → Room V L x.2.1 (1 + needRs (rows.drop x.1))
theorem bne0 {e : Int} (h : e ≠ 0) : (e == 0) = false := by simpa using h
section
end
section
end
theorem Jth8 {V L : List Int} {most : Int} {b : List Instr} {m : List Mach} (hv : VLOk V L b m) : ∀ {rs : List ARow} {s : CS} {n : Nat}, Room V L s (n + needRs rs) → (∀ r ∈ rs, RowOk b m r) → Room V L (rowsC most b m rs s).1 n := by
 intro rs
 induction rs with
 | nil => intro s n h _; simpa [needRs, rowsC] using h
 | cons r rs ih =>
  intro s n h hr
  rw [Jte7] at h
  have hro := hr r (by simp)
  have hl1 : ((m.take r.mt).drop r.mf).length = r.mt - r.mf := by have := hro.hm; simp; omega
  have hl2 : ((b.take r.ct).drop r.cf).length = r.ct - r.cf := by have := hro.hc; simp; omega
  have h1 := Jth1 (n := n + needRs rs) (most := most) (r := r) (h.mono (by rw [hl1, hl2]; unfold needR; omega)) hv
  simp only [rowsC]
  generalize rowC most b m r s = q at h1
  obtain ⟨s1, e⟩ := q
  cases e with
  | some e => rw [Jtjg]; exact h1.mono (by omega)
  | none => rw [Jtjf]; exact ih h1 fun r hr' => hr r (by simp [hr'])
theorem Jthg {V L : List Int} {most : Int} {b : Block} {m : MBlock} (hv : VLOk V L b.code m.code) {rs : List ARow} {s : CS} {n : Nat} (h : Room V L s (n + 1 + needRs rs)) (hr : ∀ r ∈ rs, RowOk b.code m.code r) : Room V L (runC most b m rs s).1 n := by
 unfold runC
 have h1 := Jth8 (most := most) hv h hr
 generalize rowsC most b.code m.code rs s = q at h1
 obtain ⟨s1, e⟩ := q
 cases e with
 | some e => rw [Jtjg]; exact h1.mono (by omega)
 | none =>
  rw [Jtjf]
  split
  ·exact h1.mono (by omega)
  ·exact h1.use _ _ _
theorem Jt73 {V L : List Int} {b : Block} {m : MBlock} {l : List Pair} {most : Int} (hl : ∀ q ∈ l, q.v ∈ V ∧ q.l ∈ L) (hv : VLOk V L b.code m.code) (few : V.length * L.length < 100000) (hl0 : l.length < 100000)
  (hb0 : b.code.length ≤ 1000) (hm0 : m.code.length ≤ 1000) : (checkZ b m l most).largest < 100000 ∧ ∀ q ∈ (checkZ b m l most).out, q.v ∈ V ∧ q.l ∈ L := by
 obtain ⟨a1, a2, a3⟩ := Jt5t b.code m.code
 unfold checkZ
 split
 ·exact ⟨hl0, fun q hq => by simp at hq⟩
 ·by_cases h2 : (if (alignZ b.code m.code).2.2 = 0 ∧ termsZ b.term m.term = false then 20 else (alignZ b.code m.code).2.2) ≠ 0
  ·simp only [if_pos h2]; exact ⟨hl0, fun q hq => by simp at hq⟩
  ·simp only [if_neg h2]
   have hover : Over V L (makeP l) := ⟨Jtik l, fun q hq => hl q (Jtdo.1 hq)⟩
   have hroom : Room V L ⟨makeP l, 0, l.length⟩ (0 + 1 + needRs (alignZ b.code m.code).1) := by
    refine ⟨hover, few, ?_, by simp only; omega⟩
    have h1 := Jte8 a1
    have h2 : (alignZ b.code m.code).1.length * (3 + m.code.length + b.code.length) ≤ 1001 * 2003 := Nat.mul_le_mul (by omega) (by omega)
    simp only
    omega
   have hr := Jthg (most := most) hv hroom a1
   generalize runC most b m (alignZ b.code m.code).1 ⟨makeP l, 0, l.length⟩ = r at hr
   obtain ⟨t, e⟩ := r
   refine ⟨hr.lg, fun q hq => ?_⟩
   simp only at hq
   split at hq
   ·exact hr.over.mem q hq
   ·simp at hq
section
end
section
end
def Jtd3 : List LT := [ltI, ltI, ltI, ltI, ltI]
def Jtd2 : List LT := [.sl Jtd3, ltI, ltI, ltI, ltI]
def ltFunc : List LT := [ltI, ltI, .sl Jtd2]
theorem Jtbg {r : List D} (h : HasL Jtd3 r) : ∃ i : Instr, r = i.row := by
 obtain ⟨_, _, rfl, h0, h⟩ := h.cons_inv
 obtain ⟨_, _, rfl, h1, h⟩ := h.cons_inv
 obtain ⟨_, _, rfl, h2, h⟩ := h.cons_inv
 obtain ⟨_, _, rfl, h3, h⟩ := h.cons_inv
 obtain ⟨_, _, rfl, h4, h⟩ := h.cons_inv
 obtain rfl := h.nil_inv
 obtain ⟨a, rfl, _⟩ := h0.int_inv
 obtain ⟨b, rfl, _⟩ := h1.int_inv
 obtain ⟨c, rfl, _⟩ := h2.int_inv
 obtain ⟨d, rfl, _⟩ := h3.int_inv
 obtain ⟨e, rfl, _⟩ := h4.int_inv
 exact ⟨⟨a, b, c, d, e⟩, rfl⟩
theorem Jt6a {r : List D} (h : HasL Jtd2 r) : ∃ b : Block, r = b.row := by
 obtain ⟨_, _, rfl, h0, h⟩ := h.cons_inv
 obtain ⟨_, _, rfl, h1, h⟩ := h.cons_inv
 obtain ⟨_, _, rfl, h2, h⟩ := h.cons_inv
 obtain ⟨_, _, rfl, h3, h⟩ := h.cons_inv
 obtain ⟨_, _, rfl, h4, h⟩ := h.cons_inv
 obtain rfl := h.nil_inv
 obtain ⟨rows, rfl, _, hr⟩ := h0.sl_inv
 obtain ⟨code, rfl⟩ := Jtha (fun r hr => Jtbg hr) hr
 obtain ⟨b, rfl, _⟩ := h1.int_inv
 obtain ⟨c, rfl, _⟩ := h2.int_inv
 obtain ⟨d, rfl, _⟩ := h3.int_inv
 obtain ⟨e, rfl, _⟩ := h4.int_inv
 exact ⟨⟨code, ⟨b, c, d, e⟩⟩, rfl⟩
theorem Jt90 {ds : List D} (h : HasL ltFunc ds) : ∃ f : Func, .agg (ds.map AV.d) = f.av := by
 obtain ⟨_, _, rfl, h0, h⟩ := h.cons_inv
 obtain ⟨_, _, rfl, h1, h⟩ := h.cons_inv
 obtain ⟨_, _, rfl, h2, h⟩ := h.cons_inv
 obtain rfl := h.nil_inv
 obtain ⟨a, rfl, _⟩ := h0.int_inv
 obtain ⟨b, rfl, _⟩ := h1.int_inv
 obtain ⟨rows, rfl, _, hr⟩ := h2.sl_inv
 obtain ⟨bs, rfl⟩ := Jtha (fun r hr => Jt6a hr) hr
 exact ⟨⟨a, b, bs⟩, rfl⟩
abbrev AW64 (n : Int) : AV := .d (.int .u64 n)
def divsZ : Nat → Int → Int
 | 0, n => n
 | k + 1, n => divsZ k (IntKind.u64.wrap (n.tdiv 2))
def bitZ (n : Int) (k : Nat) : Bool := (divsZ k n).tmod 2 == 1
def truthZ (b : Bool) : Int := if b = true then 1 else 0
def halfZ (a : Int) : Int := if a < 0 ∧ a.tmod 2 ≠ 0 then IntKind.i64.wrap (IntKind.i64.wrap (a.tdiv 2) - 1) else IntKind.i64.wrap (a.tdiv 2)
def ixZ (a b : Int) (i : Nat) : Nat := (if bitZ (IntKind.u64.wrap a) i = true then 2 else 0) + if bitZ (IntKind.u64.wrap b) i = true then 1 else 0
def bitsZ (a b : Int) (t : Nat → Bool) : Nat → Nat → Int → Int → Int
 | 0, i, out, p => IntKind.i64.wrap out
 | r + 1, i, out, p => bitsZ a b t r (i + 1) (if t (ixZ a b i) = true then IntKind.u64.wrap (out + p) else out) (IntKind.u64.wrap (p * 2))
def shZ (op : Int) : Nat → Int → Int
 | 0, a => a
 | k + 1, a => shZ op k (if op = 13 then IntKind.i64.wrap (a * 2) else halfZ a)
def tabD (t : Nat → Bool) : List (List D) := [[.bool (t 0)], [.bool (t 1)], [.bool (t 2)], [.bool (t 3)]]
section
theorem Jtfp {P : Program} {p : Nums} (A : All P p) (b : Bool) : Jt4n P p.ref06_truth [AB b] [] fun o _ => o = .ret (AI (truthZ b)) := by
 refine A.ref06_truth.run rfl fun R hR => ?_
 cases b <;> (simp (maxSteps := 1000000) [Jtap]) <;> (first | exact hR _ _ FrA | exact hR _ _ FnA | exact hR _ _ (Xf (hq := by simp [AV.erase, AV.unview, truthZ]; done)))
theorem Jtfo {P : Program} {p : Nums} (A : All P p) (a : Int) : Jt4n P p.ref06_half [AI a] [] fun o _ => o = .ret (AI (halfZ a)) := by
 refine A.ref06_half.run rfl fun R hR => ?_
 have hs : halfZ a = halfZ a := rfl
 conv at hs => rhs; unfold halfZ
 by_cases h1 : a < 0
 ·by_cases h2 : a.tmod 2 = 0
  ·rw [if_neg (fun h => h.2 h2)] at hs
   (simp (maxSteps := 1000000) [Jtao, h1, h2])
   (first | exact hR _ _ FrA | exact hR _ _ FnA | exact hR _ _ (Xf (hq := by simp [AV.erase, AV.unview, hs]; done)))
  ·have h2b : (a.tmod 2 == 0) = false := by simpa using h2
   rw [if_pos ⟨h1, h2⟩] at hs
   (simp (maxSteps := 1000000) [Jtao, h1, h2, h2b])
   (first | exact hR _ _ FrA | exact hR _ _ FnA | exact hR _ _ (Xf (hq := by simp [AV.erase, AV.unview, hs]; done)))
 ·rw [if_neg (fun h => h1 h.1)] at hs
  (simp (maxSteps := 1000000) [Jtao, h1])
  (first | exact hR _ _ FrA | exact hR _ _ FnA | exact hR _ _ (Xf (hq := by simp [AV.erase, AV.unview, hs]; done)))
theorem Jtfm {P : Program} {p : Nums} (A : All P p) (n : Int) (i : Nat) (hi : i ≤ 64) : Jt4n P p.ref06_bit [AW64 n, AI i] [] fun o _ => o = .ret (AB (bitZ n i)) := by
 refine A.ref06_bit.run rfl fun R hR => ?_
 (simp (maxSteps := 1000000) [Jtam])
 refine Jtd (fun x : Nat × Int => ⟨[(5, AI x.1), (1, AI i), (0, AW64 x.2)], []⟩) (fun x => x.1 ≤ i ∧ divsZ (i - x.1) x.2 = divsZ i n) (fun x => i - x.1) (0, n) (by simp) (by (exact wkA)) ?_
 rintro ⟨k, m⟩ ⟨hk, hs⟩ N hN
 simp only at hk hs
 (simp (maxSteps := 1000000) [])
 ((first | refine Xc (fun h2 => ?_) (fun h2 => ?_) | refine Xo (fun h2 => ?_) (fun h2 => ?_)) <;> (try simp only [Xz, Xy] at h2))
 ·have hkl : k < i := by simpa using h2
  have hw := Jtkg (k := k) (by omega)
  rw [show i - k = (i - (k + 1)) + 1 by omega] at hs
  simp only [divsZ] at hs
  (simp (maxSteps := 1000000) [h2, hw])
  exact hN _ (k + 1, _) ⟨hkl, hs⟩ (by (exact wkA)) (by simp only; omega)
 ·have hkl : k = i := by simp at h2; omega
  subst hkl
  rw [Nat.sub_self] at hs
  simp only [divsZ] at hs
  (simp (maxSteps := 1000000) [h2, hs])
  (first | exact hR _ _ FrA | exact hR _ _ FnA | exact hR _ _ (Xf (hq := by simp [AV.erase, AV.unview, bitZ]; done)))
theorem Jtfn {P : Program} {p : Nums} (A : All P p) (a b : Int) (t : Nat → Bool) : Jt4n P p.ref06_bits [AI a, AI b, .d (.sl (tabD t))] [] fun o _ => o = .ret (AI (bitsZ a b t 64 0 0 1)) := by
 refine A.ref06_bits.run rfl fun R hR => ?_
 obtain ⟨T, hT⟩ : ∃ T, T = bitsZ a b t 64 0 0 1 := ⟨_, rfl⟩
 rw [← hT] at hR
 (simp (maxSteps := 1000000) [Jtan])
 refine Jtd (fun x : Nat × Int × Int => ⟨[(9, AI x.1), (7, AW64 x.2.1), (8, AW64 x.2.2), (0, AI a), (1, AI b), (2, .d (.sl (tabD t)))], []⟩) (fun x => x.1 ≤ 64 ∧ bitsZ a b t (64 - x.1) x.1 x.2.1 x.2.2 = T) (fun x => 64 - x.1) (0, 0, 1) (by simp [hT]) (by (exact wkA)) ?_
 rintro ⟨k, out, q⟩ ⟨hk, hs⟩ N hN
 simp only at hk hs
 (simp (maxSteps := 1000000) [])
 ((first | refine Xc (fun h2 => ?_) (fun h2 => ?_) | refine Xo (fun h2 => ?_) (fun h2 => ?_)) <;> (try simp only [Xz, Xy] at h2))
 ·have hkl : k < 64 := by omega
  have hw := Jtkg (k := k) (by omega)
  rw [show 64 - k = (64 - (k + 1)) + 1 by omega] at hs
  simp only [bitsZ] at hs
  have hix : ixZ a b k = (if bitZ (IntKind.u64.wrap a) k = true then 2 else 0) + if bitZ (IntKind.u64.wrap b) k = true then 1 else 0 := rfl
  have hb1 := Jtfm A (IntKind.u64.wrap a) k hk
  have hb2 := Jtfm A (IntKind.u64.wrap b) k hk
  obtain ⟨x, hx⟩ : ∃ x, x = bitZ (IntKind.u64.wrap a) k := ⟨_, rfl⟩
  obtain ⟨y, hy⟩ : ∃ x, x = bitZ (IntKind.u64.wrap b) k := ⟨_, rfl⟩
  rw [← hx] at hb1 hix
  rw [← hy] at hb2 hix
  (simp (maxSteps := 1000000) [h2])
  (refine Jt13 hb1 (by rfl) (by rfl) ?_)
  cases x <;> cases y <;> simp at hix <;> rw [hix] at hs
  all_goals (
   (simp (maxSteps := 1000000) [])
   (refine Jt13 hb2 (by rfl) (by rfl) ?_)
   (simp (maxSteps := 1000000) [tabD, IntKind.wrap_i64]))
  ·cases h0 : t 0 <;> simp only [h0, if_true, Bool.false_eq_true, if_false] at hs <;> (simp (maxSteps := 1000000) [h0, hw]) <;> exact hN _ (k + 1, _, _) ⟨hkl, hs⟩ (by simp only [tabD, h0]; (exact wkA)) (by simp only; omega)
  ·cases h0 : t 1 <;> simp only [h0, if_true, Bool.false_eq_true, if_false] at hs <;> (simp (maxSteps := 1000000) [h0, hw]) <;> exact hN _ (k + 1, _, _) ⟨hkl, hs⟩ (by simp only [tabD, h0]; (exact wkA)) (by simp only; omega)
  ·cases h0 : t 2 <;> simp only [h0, if_true, Bool.false_eq_true, if_false] at hs <;> (simp (maxSteps := 1000000) [h0, hw]) <;> exact hN _ (k + 1, _, _) ⟨hkl, hs⟩ (by simp only [tabD, h0]; (exact wkA)) (by simp only; omega)
  ·cases h0 : t 3 <;> simp only [h0, if_true, Bool.false_eq_true, if_false] at hs <;> (simp (maxSteps := 1000000) [h0, hw]) <;> exact hN _ (k + 1, _, _) ⟨hkl, hs⟩ (by simp only [tabD, h0]; (exact wkA)) (by simp only; omega)
 ·have hkl : k = 64 := by omega
  subst hkl
  rw [Nat.sub_self] at hs
  simp only [bitsZ] at hs
  (simp (maxSteps := 1000000) [h2])
  (first | exact hR _ _ FrA | exact hR _ _ FnA | exact hR _ _ (Xf (hq := by simp [AV.erase, AV.unview, hs]; done)))
end
def tAnd : Nat → Bool := fun n => n == 3
def tOr : Nat → Bool := fun n => n != 0
def tXor : Nat → Bool := fun n => n == 1 || n == 2
def quoZ (a b : Int) : Int := if b = -1 then IntKind.i64.wrap (0 - a) else IntKind.i64.wrap (a.tdiv b)
def cntZ (b : Int) : Int := IntKind.i64.wrap ((IntKind.u64.wrap b).tmod 64)
def evalZ (op a b imm : Int) : Int × Bool :=
 if op = 1 then (imm, true) else if op = 2 then (a, true) else if op = 3 then (IntKind.i64.wrap (0 - a), true) else if op = 4 then (IntKind.i64.wrap (IntKind.i64.wrap (0 - a) - 1), true)
 else if op = 5 then (IntKind.i64.wrap (a + b), true) else if op = 6 then (IntKind.i64.wrap (a - b), true) else if op = 7 then (IntKind.i64.wrap (a * b), true)
 else if op = 8 then (if b = 0 then (0, false) else (quoZ a b, true)) else if op = 9 then (if b = 0 then (0, false) else (IntKind.i64.wrap (a - IntKind.i64.wrap (b * quoZ a b)), true))
 else if op = 10 then (bitsZ a b tAnd 64 0 0 1, true) else if op = 11 then (bitsZ a b tOr 64 0 0 1, true) else if op = 12 then (bitsZ a b tXor 64 0 0 1, true)
 else if op = 13 then (shZ 13 (cntZ b).toNat a, true) else if op = 14 then (shZ 14 (cntZ b).toNat a, true) else if op = 15 then (truthZ (a == b), true) else if op = 16 then (truthZ (decide (a < b)), true) else (0, false)
theorem Jt79 (b : Int) : cntZ b < 64 := by
 unfold cntZ
 have h1 : (IntKind.u64.wrap b).tmod 64 < 64 := Int.tmod_lt_of_pos _ (by decide)
 have h2 : -64 < (IntKind.u64.wrap b).tmod 64 := Int.lt_tmod_of_pos _ (by decide)
 rw [wrap_i64 (by omega) (by omega)]; exact h1
section
set_option maxHeartbeats 2000000 in
theorem Jtfl {P : Program} {p : Nums} (A : All P p) (op a b imm : Int) : Jt4n P p.ref06_Eval [AI op, AI a, AI b, AI imm] [] fun o _ => o = .ret (.tup [AI (evalZ op a b imm).1, AB (evalZ op a b imm).2]) := by
 refine A.ref06_Eval.run rfl fun R hR => ?_
 have hs : evalZ op a b imm = evalZ op a b imm := rfl
 conv at hs => rhs; unfold evalZ
 have hq : quoZ a b = quoZ a b := rfl
 conv at hq => rhs; unfold quoZ
 obtain ⟨⟨v, ok⟩, hT⟩ : ∃ T, T = evalZ op a b imm := ⟨_, rfl⟩
 rw [← hT] at hR hs
 (simp (maxSteps := 1000000) [Jtal])
 by_cases o1 : op = 1
 ·subst o1
  simp only [Int.reduceEq, if_false, if_true] at hs
  (simp (maxSteps := 1000000) [])
  refine hR _ _ (Jt4s _ _ rfl (by (exact wkvA)) ?_)
  injection hs with e1 e2; subst e1; subst e2; (first | rfl | simp)
 have b1 : (op == 1) = false := by simpa using o1
 rw [if_neg o1] at hs
 by_cases o2 : op = 2
 ·subst o2
  simp only [Int.reduceEq, if_false, if_true] at hs
  (simp (maxSteps := 1000000) [])
  refine hR _ _ (Jt4s _ _ rfl (by (exact wkvA)) ?_)
  injection hs with e1 e2; subst e1; subst e2; (first | rfl | simp)
 have b2 : (op == 2) = false := by simpa using o2
 rw [if_neg o2] at hs
 by_cases o3 : op = 3
 ·subst o3
  simp only [Int.reduceEq, if_false, if_true] at hs
  (simp (maxSteps := 1000000) [])
  refine hR _ _ (Jt4s _ _ rfl (by (exact wkvA)) ?_)
  injection hs with e1 e2; subst e1; subst e2; (first | rfl | simp)
 have b3 : (op == 3) = false := by simpa using o3
 rw [if_neg o3] at hs
 by_cases o4 : op = 4
 ·subst o4
  simp only [Int.reduceEq, if_false, if_true] at hs
  (simp (maxSteps := 1000000) [])
  refine hR _ _ (Jt4s _ _ rfl (by (exact wkvA)) ?_)
  injection hs with e1 e2; subst e1; subst e2; (first | rfl | simp)
 have b4 : (op == 4) = false := by simpa using o4
 rw [if_neg o4] at hs
 by_cases o5 : op = 5
 ·subst o5
  simp only [Int.reduceEq, if_false, if_true] at hs
  (simp (maxSteps := 1000000) [])
  refine hR _ _ (Jt4s _ _ rfl (by (exact wkvA)) ?_)
  injection hs with e1 e2; subst e1; subst e2; (first | rfl | simp)
 have b5 : (op == 5) = false := by simpa using o5
 rw [if_neg o5] at hs
 by_cases o6 : op = 6
 ·subst o6
  simp only [Int.reduceEq, if_false, if_true] at hs
  (simp (maxSteps := 1000000) [])
  refine hR _ _ (Jt4s _ _ rfl (by (exact wkvA)) ?_)
  injection hs with e1 e2; subst e1; subst e2; (first | rfl | simp)
 have b6 : (op == 6) = false := by simpa using o6
 rw [if_neg o6] at hs
 by_cases o7 : op = 7
 ·subst o7
  simp only [Int.reduceEq, if_false, if_true] at hs
  (simp (maxSteps := 1000000) [])
  refine hR _ _ (Jt4s _ _ rfl (by (exact wkvA)) ?_)
  injection hs with e1 e2; subst e1; subst e2; (first | rfl | simp)
 have b7 : (op == 7) = false := by simpa using o7
 rw [if_neg o7] at hs
 by_cases o8 : op = 8
 ·subst o8
  simp only [Int.reduceEq, if_false, if_true] at hs
  by_cases hb : b = 0
  ·subst hb
   simp only [if_true] at hs
   (simp (maxSteps := 1000000) [])
   refine hR _ _ (Jt4s _ _ rfl (by (exact wkvA)) ?_)
   injection hs with e1 e2; subst e1; subst e2; rfl
  ·have hbb := bne0 hb
   rw [if_neg hb] at hs
   by_cases hm : b = -1
   ·rw [if_pos hm] at hq
    subst hm
    rw [hq] at hs
    (simp (maxSteps := 1000000) [])
    refine hR _ _ (Jt4s _ _ rfl (by (exact wkvA)) ?_)
    injection hs with e1 e2; subst e1; subst e2; (first | rfl | simp)
   ·have hmb : (b == -1) = false := by simpa using hm
    rw [if_neg hm] at hq
    rw [hq] at hs
    (simp (maxSteps := 1000000) [hb, hbb, hm, hmb])
    refine hR _ _ (Jt4s _ _ rfl (by (exact wkvA)) ?_)
    injection hs with e1 e2; subst e1; subst e2; (first | rfl | simp)
 have b8 : (op == 8) = false := by simpa using o8
 rw [if_neg o8] at hs
 by_cases o9 : op = 9
 ·subst o9
  simp only [Int.reduceEq, if_false, if_true] at hs
  by_cases hb : b = 0
  ·subst hb
   simp only [if_true] at hs
   (simp (maxSteps := 1000000) [])
   refine hR _ _ (Jt4s _ _ rfl (by (exact wkvA)) ?_)
   injection hs with e1 e2; subst e1; subst e2; rfl
  ·have hbb := bne0 hb
   rw [if_neg hb] at hs
   by_cases hm : b = -1
   ·rw [if_pos hm] at hq
    subst hm
    rw [hq] at hs
    (simp (maxSteps := 1000000) [])
    refine hR _ _ (Jt4s _ _ rfl (by (exact wkvA)) ?_)
    injection hs with e1 e2; subst e1; subst e2; (first | rfl | simp)
   ·have hmb : (b == -1) = false := by simpa using hm
    rw [if_neg hm] at hq
    rw [hq] at hs
    (simp (maxSteps := 1000000) [hb, hbb, hm, hmb])
    refine hR _ _ (Jt4s _ _ rfl (by (exact wkvA)) ?_)
    injection hs with e1 e2; subst e1; subst e2; (first | rfl | simp)
 have b9 : (op == 9) = false := by simpa using o9
 rw [if_neg o9] at hs
 by_cases o10 : op = 10
 ·subst o10
  simp only [Int.reduceEq, if_false, if_true] at hs
  have hc := Jtfn A a b tAnd
  generalize bitsZ a b tAnd 64 0 0 1 = w at hc hs
  (simp (maxSteps := 1000000) [])
  (refine Jt13 hc (by rfl) (by rfl) ?_)
  (simp (maxSteps := 1000000) [])
  refine hR _ _ (Jt4s _ _ rfl (by (exact wkvA)) ?_)
  injection hs with e1 e2; subst e1; subst e2; rfl
 have b10 : (op == 10) = false := by simpa using o10
 rw [if_neg o10] at hs
 by_cases o11 : op = 11
 ·subst o11
  simp only [Int.reduceEq, if_false, if_true] at hs
  have hc := Jtfn A a b tOr
  generalize bitsZ a b tOr 64 0 0 1 = w at hc hs
  (simp (maxSteps := 1000000) [])
  (refine Jt13 hc (by rfl) (by rfl) ?_)
  (simp (maxSteps := 1000000) [])
  refine hR _ _ (Jt4s _ _ rfl (by (exact wkvA)) ?_)
  injection hs with e1 e2; subst e1; subst e2; rfl
 have b11 : (op == 11) = false := by simpa using o11
 rw [if_neg o11] at hs
 by_cases o12 : op = 12
 ·subst o12
  simp only [Int.reduceEq, if_false, if_true] at hs
  have hc := Jtfn A a b tXor
  generalize bitsZ a b tXor 64 0 0 1 = w at hc hs
  (simp (maxSteps := 1000000) [])
  (refine Jt13 hc (by rfl) (by rfl) ?_)
  (simp (maxSteps := 1000000) [])
  refine hR _ _ (Jt4s _ _ rfl (by (exact wkvA)) ?_)
  injection hs with e1 e2; subst e1; subst e2; rfl
 have b12 : (op == 12) = false := by simpa using o12
 rw [if_neg o12] at hs
 by_cases o13 : op = 13
 ·subst o13
  simp only [Int.reduceEq, if_false, if_true] at hs
  have hc := Jt79 b
  obtain ⟨n, hn⟩ : ∃ n, n = cntZ b := ⟨_, rfl⟩
  rw [← hn] at hs hc
  have hn' : IntKind.i64.wrap ((IntKind.u64.wrap b).tmod 64) = n := hn.symm
  (simp (maxSteps := 1000000) [hn'])
  refine Jtd (fun x : Nat × Int => ⟨[(12, AI x.1), (1, AI x.2), (11, AI n), (0, AI 13)], []⟩) (fun x => x.1 ≤ n.toNat ∧ shZ 13 (n.toNat - x.1) x.2 = shZ 13 n.toNat a) (fun x => n.toNat - x.1) (0, a) (by simp) (by (exact wkA)) ?_
  rintro ⟨i, c⟩ ⟨hi, hsh⟩ N hN
  simp only at hi hsh
  (simp (maxSteps := 1000000) [])
  ((first | refine Xc (fun h2 => ?_) (fun h2 => ?_) | refine Xo (fun h2 => ?_) (fun h2 => ?_)) <;> (try simp only [Xz, Xy] at h2))
  ·have hkl : i < n.toNat := by omega
   have hw := Jtkg (k := i) (by omega)
   rw [show n.toNat - i = (n.toNat - (i + 1)) + 1 by omega] at hsh
   simp only [shZ, Int.reduceEq, if_true, if_false] at hsh
   (simp (maxSteps := 1000000) [h2, hw])
   exact hN _ (i + 1, _) ⟨hkl, hsh⟩ (by (exact wkA)) (by simp only; omega)
  ·have hkl : n.toNat - i = 0 := by omega
   rw [hkl] at hsh
   simp only [shZ] at hsh
   (simp (maxSteps := 1000000) [h2])
   refine hR _ _ (Jt4s _ _ rfl (by (exact wkvA)) ?_)
   injection hs with e1 e2; subst e1; subst e2; rw [← hsh]; rfl
 have b13 : (op == 13) = false := by simpa using o13
 rw [if_neg o13] at hs
 by_cases o14 : op = 14
 ·subst o14
  simp only [Int.reduceEq, if_false, if_true] at hs
  have hc := Jt79 b
  obtain ⟨n, hn⟩ : ∃ n, n = cntZ b := ⟨_, rfl⟩
  rw [← hn] at hs hc
  have hn' : IntKind.i64.wrap ((IntKind.u64.wrap b).tmod 64) = n := hn.symm
  (simp (maxSteps := 1000000) [hn'])
  refine Jtd (fun x : Nat × Int => ⟨[(12, AI x.1), (1, AI x.2), (11, AI n), (0, AI 14)], []⟩) (fun x => x.1 ≤ n.toNat ∧ shZ 14 (n.toNat - x.1) x.2 = shZ 14 n.toNat a) (fun x => n.toNat - x.1) (0, a) (by simp) (by (exact wkA)) ?_
  rintro ⟨i, c⟩ ⟨hi, hsh⟩ N hN
  simp only at hi hsh
  (simp (maxSteps := 1000000) [])
  ((first | refine Xc (fun h2 => ?_) (fun h2 => ?_) | refine Xo (fun h2 => ?_) (fun h2 => ?_)) <;> (try simp only [Xz, Xy] at h2))
  ·have hkl : i < n.toNat := by omega
   have hw := Jtkg (k := i) (by omega)
   rw [show n.toNat - i = (n.toNat - (i + 1)) + 1 by omega] at hsh
   simp only [shZ, Int.reduceEq, if_true, if_false] at hsh
   (simp (maxSteps := 1000000) [h2, hw])
   (refine Jt13 (Jtfo A c) (by rfl) (by rfl) ?_)
   (simp (maxSteps := 1000000) [hw])
   exact hN _ (i + 1, _) ⟨hkl, hsh⟩ (by (exact wkA)) (by simp only; omega)
  ·have hkl : n.toNat - i = 0 := by omega
   rw [hkl] at hsh
   simp only [shZ] at hsh
   (simp (maxSteps := 1000000) [h2])
   refine hR _ _ (Jt4s _ _ rfl (by (exact wkvA)) ?_)
   injection hs with e1 e2; subst e1; subst e2; rw [← hsh]; rfl
 have b14 : (op == 14) = false := by simpa using o14
 rw [if_neg o14] at hs
 by_cases o15 : op = 15
 ·subst o15
  simp only [Int.reduceEq, if_false, if_true] at hs
  (simp (maxSteps := 1000000) [])
  (refine Jt13 (Jtfp A (a == b)) (by rfl) (by rfl) ?_)
  (simp (maxSteps := 1000000) [])
  refine hR _ _ (Jt4s _ _ rfl (by (exact wkvA)) ?_)
  injection hs with e1 e2; subst e1; subst e2; rfl
 have b15 : (op == 15) = false := by simpa using o15
 rw [if_neg o15] at hs
 by_cases o16 : op = 16
 ·subst o16
  simp only [Int.reduceEq, if_false, if_true] at hs
  (simp (maxSteps := 1000000) [])
  (refine Jt13 (Jtfp A (decide (a < b))) (by rfl) (by rfl) ?_)
  (simp (maxSteps := 1000000) [])
  refine hR _ _ (Jt4s _ _ rfl (by (exact wkvA)) ?_)
  injection hs with e1 e2; subst e1; subst e2; rfl
 have b16 : (op == 16) = false := by simpa using o16
 rw [if_neg o16] at hs
 (simp (maxSteps := 1000000) [b1, b2, b3, b4, b5, b6, b7, b8, b9, b10, b11, b12, b13, b14, b15, b16])
 refine hR _ _ (Jt4s _ _ rfl (by (exact wkvA)) ?_)
 injection hs with e1 e2; subst e1; subst e2; rfl
end
section
variable {P : Program} {q : Bool} {K : ASt → Prop} {QP : AV → ASt → Prop} {dst : Option Nat} {st : ASt}
@[simp] def goCV (K : ASt → Prop) (dst : Option Nat) (st : ASt) (P : Program) (q : Bool) (QP : AV → ASt → Prop) : Option AV → Option (List AV) → Prop
 | some (.fn (.func f) xs bs), some cs => okFn P f = true ∧ AWcall P q f (xs ++ cs ++ bs) dst K QP st
 | _, _ => False
@[simp] theorem Jt1q {x : Opd} {args : List Opd} : AWio P q (.callv x args) dst K QP st ↔ goCV K dst st P q QP (evr st.env x) (evs st.env args) := by
 constructor
 ·rintro ⟨f, xs, bs, cs, h1, h2, h3, h4⟩; rw [h1, h3]; exact ⟨h2, h4⟩
 ·intro h
  unfold goCV at h
  split at h
  ·rename_i f xs bs cs h1 h3; exact ⟨f, xs, bs, cs, h1, h.1, h3, h.2⟩
  ·exact h.elim
end
def runN (n : Nat) (m : Mach) : Nat := if m.op = 18 then n + 1 else 0
def runF (l : List Mach) : Nat := l.foldl runN 0
def wTotal (w : List (List Pair)) : Nat := (w.map List.length).sum
def okW (w : List (List Pair)) : Prop := ∀ l ∈ w, ∀ q ∈ l, okZ q.l
def succsZ (t : Term) : List Int := if t.kind = 1 then [t.to] else if t.kind = 2 then [t.to, t.els] else []
structure Rep where (err block at_ : Int) (blocks edges steps largest : Nat)
 deriving DecidableEq
def Rep.av (r : Rep) : AV := .agg [AI r.err, AI r.block, AI r.at_, AI r.blocks, AI r.edges, AI r.steps, AI r.largest]
def mostW (w : List (List Pair)) : Nat := mostN (w.map List.length)
def w0 (c : Cert) : List Pair := (c.W[0]?).getD []
theorem Jtk3 {w : List (List Pair)} {k : Nat} {l : List Pair} (h : w[k]? = some l) : wTotal (w.take (k + 1)) = wTotal (w.take k) + l.length := by
 rw [List.take_add_one, h]; simp [wTotal]
theorem Jtk2 (w : List (List Pair)) (k : Nat) : wTotal (w.take k) ≤ wTotal w := by
 have h : wTotal (w.take k) + wTotal (w.drop k) = wTotal w := by
  unfold wTotal
  rw [← List.sum_append, ← List.map_append, List.take_append_drop]
 omega
section
end
section
end
section
end
section
theorem Jtia {P : Program} {p : Nums} (A : All P p) (t : Term) : Jt4n P p.source_Successors [t.av] [] fun o _ => o = .ret (.d (.sl ((succsZ t).map fun x => [I x]))) := by
 refine A.source_Successors.run rfl fun R hR => ?_
 (simp (maxSteps := 1000000) [Jtb5, Term.av])
 ((first | refine Xc (fun h1 => ?_) (fun h1 => ?_) | refine Xo (fun h1 => ?_) (fun h1 => ?_)) <;> (try simp only [Xz, Xy] at h1))
 ·(simp (maxSteps := 1000000) [h1])
  (first | exact hR _ _ FrA | exact hR _ _ FnA | exact hR _ _ (Xf (hq := by simp [AV.erase, AV.unview, succsZ, h1]; done)))
 (simp (maxSteps := 1000000) [h1])
 ((first | refine Xc (fun h2 => ?_) (fun h2 => ?_) | refine Xo (fun h2 => ?_) (fun h2 => ?_)) <;> (try simp only [Xz, Xy] at h2))
 ·(simp (maxSteps := 1000000) [h2])
  (first | exact hR _ _ FrA | exact hR _ _ FnA | exact hR _ _ (Xf (hq := by simp [AV.erase, AV.unview, succsZ, h1, h2]; done)))
 (simp (maxSteps := 1000000) [h2])
 exact hR _ _ (Jt4r .nils (.d (.sl ((succsZ t).map fun x => [I x]))) [] rfl (by simp only [succsZ, if_neg h1, if_neg h2, List.map_nil]; (exact wkA)) rfl)
end
section
end
structure okCert (c : Cert) : Prop where
 s0 : c.S.blocks.length < 1000000000
 s1 : codeN c.S.blocks < 1000000000
 t0 : c.T.blocks.length < 1000000000
 t1 : mcodeN c.T.blocks < 1000000000
 t2 : ∀ b ∈ c.T.blocks, okM b
 w0 : c.W.length < 1000000000
 w1 : wTotal c.W < 1000000000
 w2 : okW c.W
theorem okCert.w3 {c : Cert} (h : okCert c) : ∀ l ∈ c.W, l.length < 1000000000 := by
 intro l hl
 obtain ⟨k, hk⟩ := List.getElem?_of_mem hl
 have h1 := Jtk3 hk
 have h2 := Jtk2 c.W (k + 1)
 have := h.w1
 omega
section
end
def VS : List Int := (List.range 61).map fun n : Nat => (n : Int)
def LS : List Int := (List.range 122).map fun n : Nat => (n : Int)
theorem mem_VS {x : Int} (h0 : 0 ≤ x) (h1 : x ≤ 60) : x ∈ VS := List.mem_map.2 ⟨x.toNat, List.mem_range.2 (by omega), by omega⟩
theorem mem_LS {x : Int} (h0 : 0 ≤ x) (h1 : x ≤ 121) : x ∈ LS := List.mem_map.2 ⟨x.toNat, List.mem_range.2 (by omega), by omega⟩
theorem VL_few : VS.length * LS.length < 100000 := by decide
theorem src_ok {f : Func} (h : Jtg9 f = 0) : 0 ≤ f.args ∧ f.args ≤ f.regs ∧ 0 < f.blocks.length ∧ ∀ b ∈ f.blocks, (∀ i ∈ b.code, Jtga i f.regs = 0) ∧ Jtgc b.term f.regs f.blocks.length = 0 := by
 unfold Jtg9 at h
 split at h
 ·cases h
 split at h
 ·cases h
 split at h
 ·cases h
 split at h
 ·cases h
 refine ⟨by omega, by omega, by omega, fun b hb => ?_⟩
 have h3 := Jt8m h _ (List.mem_map_of_mem hb)
 simp only [Jtg8] at h3
 split at h3
 ·rename_i h5; exact absurd h3 h5
 ·rename_i h5
  exact ⟨fun i hi => Jt8m (es := b.code.map (Jtga · f.regs)) (by simpa using h5) _ (List.mem_map_of_mem hi), h3⟩
theorem Jtjd {t : Term} {regs blocks : Int} (h : Jtgc t regs blocks = 0) : ∀ x ∈ succsZ t, 0 ≤ x ∧ x < blocks := by
 unfold Jtgc at h
 unfold succsZ
 intro x hx
 split at h
 ·rename_i k1
  rw [if_pos k1] at hx
  simp only [List.mem_singleton] at hx
  split at h
  ·cases h
  ·rename_i k2
   subst hx; simpa [inZ] using k2
 ·rename_i k1
  rw [if_neg k1] at hx
  split at h
  ·rename_i k3
   rw [if_pos k3] at hx
   split at h
   ·cases h
   split at h
   ·cases h
   rename_i k4 k5
   simp only [not_or] at k5
   simp only [List.mem_cons, List.not_mem_nil, or_false] at hx
   rcases hx with rfl | rfl
   ·simpa [inZ] using k5.1
   ·simpa [inZ] using k5.2
  ·rename_i k3
   rw [if_neg k3] at hx; simp at hx
structure Fit (c : Cert) : Prop where
 lenT : c.T.blocks.length = c.S.blocks.length
 lenW : c.W.length = c.S.blocks.length
 pos : 0 < c.S.blocks.length
 few : c.S.blocks.length ≤ 40
 w : ∀ l ∈ c.W, Srt l ∧ l.length ≤ 400 ∧ ∀ q ∈ l, 0 ≤ q.v ∧ q.v ≤ 60 ∧ 0 ≤ q.l ∧ q.l ≤ 121
 vl : ∀ b ∈ c.S.blocks, ∀ m ∈ c.T.blocks, VLOk VS LS b.code m.code
 cs : ∀ b ∈ c.S.blocks, b.code.length ≤ 100
 ct : ∀ m ∈ c.T.blocks, m.code.length ≤ 900
 to : ∀ b ∈ c.S.blocks, ∀ x ∈ succsZ b.term, 0 ≤ x ∧ x < c.S.blocks.length
 ars : 0 ≤ c.S.args ∧ c.S.args ≤ 60
structure Good (r : Res) : Prop where
 srt : Srt r.out
 len : r.out.length < 100000
 steps : r.steps ≤ 1000000000
 lg : r.largest < 100000
theorem Jt74 {V L : List Int} {b : Block} {m : MBlock} {l : List Pair} {most : Int} (hl : ∀ q ∈ l, q.v ∈ V ∧ q.l ∈ L) (hv : VLOk V L b.code m.code) (few : V.length * L.length < 100000) (hl0 : l.length < 100000)
  (hb0 : b.code.length ≤ 1000) (hm0 : m.code.length ≤ 1000) : Over V L (checkZ b m l most).out := by
 have hnil : Over V L [] := ⟨List.Pairwise.nil, fun q hq => by simp at hq⟩
 obtain ⟨a1, a2, a3⟩ := Jt5t b.code m.code
 unfold checkZ
 split
 ·exact hnil
 ·by_cases h2 : (if (alignZ b.code m.code).2.2 = 0 ∧ termsZ b.term m.term = false then 20 else (alignZ b.code m.code).2.2) ≠ 0
  ·simp only [if_pos h2]; exact hnil
  ·simp only [if_neg h2]
   have hover : Over V L (makeP l) := ⟨Jtik l, fun q hq => hl q (Jtdo.1 hq)⟩
   have hroom : Room V L ⟨makeP l, 0, l.length⟩ (0 + 1 + needRs (alignZ b.code m.code).1) := by
    refine ⟨hover, few, ?_, by simp only; omega⟩
    have h1 := Jte8 a1
    have h2 : (alignZ b.code m.code).1.length * (3 + m.code.length + b.code.length) ≤ 1001 * 2003 := Nat.mul_le_mul (by omega) (by omega)
    simp only
    omega
   have hr := Jthg (most := most) hv hroom a1
   generalize runC most b m (alignZ b.code m.code).1 ⟨makeP l, 0, l.length⟩ = r at hr
   obtain ⟨t, e⟩ := r
   simp only
   split
   ·exact hr.over
   ·exact hnil
theorem Fit.good {c : Cert} (h : Fit c) {b : Block} {m : MBlock} {l : List Pair} (hb : b ∈ c.S.blocks) (hm : m ∈ c.T.blocks) (hl : l ∈ c.W) (most : Int) : Good (checkZ b m l most) := by
 obtain ⟨w1, w2, w3⟩ := h.w l hl
 have k1 : ∀ q ∈ l, q.v ∈ VS ∧ q.l ∈ LS := fun q hq => by
  obtain ⟨a1, a2, a3, a4⟩ := w3 q hq
  exact ⟨mem_VS a1 a2, mem_LS a3 a4⟩
 have c1 := h.cs b hb
 have c2 := h.ct m hm
 have o := Jt74 (most := most) k1 (h.vl b hb m hm) VL_few (by omega) (by omega) (by omega)
 obtain ⟨r1, r2⟩ := Jt73 (most := most) k1 (h.vl b hb m hm) VL_few (by omega) (by omega) (by omega)
 have bd := (Jt72 b m l most (Jtdc l)).1
 refine ⟨o.srt, Nat.lt_of_le_of_lt o.len VL_few, ?_, r1⟩
 have : (3 * m.code.length + b.code.length + 1) * ((checkZ b m l most).largest + 1) ≤ 3001 * 100000 := Nat.mul_le_mul (by omega) (by omega)
 omega
section
end
end Go.AE
set_option maxRecDepth 4000
namespace Go.AE
open Go
structure RepOk (i : Nat) (r : Rep) : Prop where
 blocks : r.blocks ≤ i
 edges : r.edges ≤ 2 * i
 steps : r.steps ≤ 1000 + 2000000000 * i
 lg : r.largest < 100000
def edgeR (w : List (List Pair)) (out : List Pair) (to : Nat) (r : Rep) : Rep := { r with edges := r.edges + 1, steps := r.steps + 1 + out.length + ((w[to]?).getD []).length }
structure RepIn (i k : Nat) (r : Rep) : Prop where
 blocks : r.blocks ≤ i + 1
 edges : r.edges ≤ 2 * i + k
 steps : r.steps ≤ 1000 + 2000000000 * i + 1000000000 + 200000 * k
 lg : r.largest < 100000
theorem RepIn.out {i k : Nat} {r : Rep} (h : RepIn i k r) (hk : k ≤ 2) : RepOk (i + 1) r := ⟨h.blocks, by have := h.edges; omega, by have := h.steps; omega, h.lg⟩
theorem RepIn.edge {w : List (List Pair)} {out wt : List Pair} {i k to : Nat} {r : Rep} (h : RepIn i k r) (ho : out.length < 100000) (hw : w[to]? = some wt) (hwl : wt.length ≤ 400) : RepIn i (k + 1) (edgeR w out to r) := by
 have := h.blocks; have := h.edges; have := h.steps; have := h.lg
 refine ⟨by simpa [edgeR] using h.blocks, by simp only [edgeR]; omega, ?_, by simpa [edgeR] using h.lg⟩
 simp only [edgeR, hw, Option.getD_some]; omega
def Rep.cells (r : Rep) : List AV := [AI r.err, AI r.block, AI r.at_, AI r.blocks, AI r.edges, AI r.steps, AI r.largest]
section
end
end Go.AE
set_option maxRecDepth 4000
namespace Go.AE
open Go
section
end
end Go.AE
set_option maxRecDepth 4000
namespace Go.AE
open Go
def succN (bs : List Block) : Nat := (bs.map fun b => (succsZ b.term).length).sum
def boundN (c : Cert) : Nat := codeN c.S.blocks + mcodeN c.T.blocks + c.S.blocks.length + 1 + succN c.S.blocks
section
end
section
end
end Go.AE
set_option maxRecDepth 4000
namespace Go.AE
open Go
section
end
end Go.AE
set_option maxRecDepth 4000
namespace Go.AE
open Go
structure EdgeT (r : Rep) (n A : Nat) (R : Rep × Bool) : Prop where
 blocks : R.1.blocks = r.blocks
 lg : R.1.largest = r.largest
 edges : R.1.edges ≤ r.edges + n
 steps : R.1.steps ≤ (A + 2 * R.1.edges) * (R.1.largest + 1)
 bad : R.2 = true → R.1.err ≠ 0
 good : R.2 = false → R.1.edges = r.edges + n ∧ R.1.err = 0
def costN (c : Cert) (i : Nat) : Nat := 1 + 3 * mcodeN (c.T.blocks.take i) + codeN (c.S.blocks.take i) + i
structure OnceI (c : Cert) (i : Nat) (r : Rep) : Prop where
 blocks : r.blocks = i
 edges : r.edges = succN (c.S.blocks.take i)
 steps : r.steps ≤ (costN c i + 2 * r.edges) * (r.largest + 1)
 lg : mostW c.W ≤ r.largest
 lg2 : r.largest < 100000
 err : r.err = 0
structure OnceT (c : Cert) (T : Rep) : Prop where
 blocks : T.blocks ≤ c.S.blocks.length
 edges : T.edges ≤ succN c.S.blocks
 steps : T.steps ≤ 3 * boundN c * (T.largest + 1)
 lg : T.largest < 100000
 done : T.err = 0 → T.blocks = c.S.blocks.length ∧ T.edges = succN c.S.blocks
end Go.AE
set_option maxRecDepth 4000
namespace Go.AE
open Go
def N23 (r : CR) : Prop := ∀ e, r.2 = some e → e.1 ≠ 23
theorem N23.same {s : CS} : N23 (s, none) := fun e he => by cases he
theorem N23.then {r : CR} {f : CS → CR} (h : N23 r) (hf : ∀ s, N23 (f s)) : N23 (thenC r f) := by
 obtain ⟨s, e⟩ := r
 cases e with
 | some e => exact h
 | none => exact hf s
theorem N23.become {most : Int} {s : CS} {l : List Pair} {at_ : Int} : N23 (Jt67 most s l at_) := by
 intro e he
 unfold Jt67 at he
 simp only at he
 split at he
 ·injection he with he; subst he; simp
 ·cases he
theorem N23.use {s : CS} {v t at_ : Int} : N23 (useC s v t at_) := by
 intro e he
 unfold useC at he
 simp only at he
 split at he
 ·cases he
 ·injection he with he; subst he; simp
def hasE (w : List (List Pair)) (out : List Pair) (to : Int) : Bool := !(missP ((w[to.toNat]?).getD []) out).isSome
def blkOk (c : Cert) (i : Nat) : Bool := match c.S.blocks[i]?, c.T.blocks[i]?, c.W[i]? with
 | some b, some m, some l => decide ((checkZ b m l 1048576).err = 0) && (succsZ b.term).all (hasE c.W (checkZ b m l 1048576).out)
 | _, _, _ => false
end Go.AE
set_option maxRecDepth 4000
namespace Go.AE
open Go
section
end
section
end
structure Nums2 (V L : List Int) (s : CS) (σ τ : Int → Nat) (N : Nat) : Prop where
 over : Over V L s.set
 σb : ∀ v, σ v < N
 τb : ∀ x, τ x < N
 all : ∀ v ∈ V, ∀ x ∈ L, σ v = τ x → (⟨v, x⟩ : Pair) ∈ s.set
def upd (f : Int → Nat) (d : Int) (n : Nat) : Int → Nat := fun x => if x = d then n else f x
theorem Jtjv {f : Int → Nat} {d : Int} {n : Nat} : upd f d n d = n := by simp [upd]
theorem upd_ne {f : Int → Nat} {d x : Int} {n : Nat} (h : x ≠ d) : upd f d n x = f x := by simp [upd, h]
def runCv (σ : Int → Nat) : List Instr → Int → Nat
 | [] => σ
 | i :: is => runCv (upd σ i.d (σ i.a)) is
def runMv (τ : Int → Nat) : List Mach → Int → Nat
 | [] => τ
 | m :: ms => runMv (upd τ m.dst (τ m.src)) ms
theorem Jthh {τ : Int → Nat} : ∀ {a b : List Mach}, runMv τ (a ++ b) = runMv (runMv τ a) b := by
 intro a
 induction a generalizing τ with
 | nil => intro b; rfl
 | cons m a ih => intro b; exact ih
section
variable {V L : List Int} {most : Int}
theorem fits (few : V.length * L.length < 100000) (hm : 100000 ≤ most) {l : List Pair} (h : Over V L l) : ¬ ((l.length : Int) > most) := by
 have := h.len
 omega
theorem Nums2.copy (few : V.length * L.length < 100000) (hm : 100000 ≤ most) {s : CS} {σ τ : Int → Nat} {N : Nat} (h : Nums2 V L s σ τ N) {d a : Int} (hd : d ∈ V) (ha : a ∈ V) (at_ : Int) :
  ∃ s', Jt67 most (costC s) (copyP s.set d a) at_ = (s', none) ∧ Nums2 V L s' (upd σ d (σ a)) τ N := by
 have ho := h.over.copy (a := a) hd
 refine ⟨_, by unfold Jt67; rw [if_neg (fits few hm ho)], ⟨ho, fun v => ?_, h.τb, fun v hv x hx hvx => ?_⟩⟩
 ·unfold upd; split
  ·exact h.σb a
  ·exact h.σb v
 ·show (⟨v, x⟩ : Pair) ∈ copyP s.set d a
  rw [Jtdj]
  by_cases hvd : v = d
  ·subst hvd
   rw [Jtjv] at hvx
   exact .inr ⟨rfl, h.all a ha x hx hvx⟩
  ·rw [upd_ne hvd] at hvx
   exact .inl ⟨h.all v hv x hx hvx, .inr hvd⟩
theorem Nums2.move (few : V.length * L.length < 100000) (hm : 100000 ≤ most) {s : CS} {σ τ : Int → Nat} {N : Nat} (h : Nums2 V L s σ τ N) {d a : Int} (hd : d ∈ L) (ha : a ∈ L) (at_ : Int) :
  ∃ s', Jt67 most (costC s) (moveP s.set d a) at_ = (s', none) ∧ Nums2 V L s' σ (upd τ d (τ a)) N := by
 have ho := h.over.move (a := a) hd
 refine ⟨_, by unfold Jt67; rw [if_neg (fits few hm ho)], ⟨ho, h.σb, fun v => ?_, fun v hv x hx hvx => ?_⟩⟩
 ·unfold upd; split
  ·exact h.τb a
  ·exact h.τb v
 ·show (⟨v, x⟩ : Pair) ∈ moveP s.set d a
  rw [Jtdq]
  by_cases hxd : x = d
  ·subst hxd
   rw [Jtjv] at hvx
   exact .inr ⟨rfl, h.all v hv a ha hvx⟩
  ·rw [upd_ne hxd] at hvx
   exact .inl ⟨h.all v hv x hx hvx, .inr hxd⟩
theorem Nums2.define (few : V.length * L.length < 100000) (hm : 100000 ≤ most) {s : CS} {σ τ : Int → Nat} {N : Nat} (h : Nums2 V L s σ τ N) {d t : Int} (hd : d ∈ V) (ht : t ∈ L) (at_ : Int) :
  ∃ s', Jt67 most (costC s) (defP s.set d t) at_ = (s', none) ∧ Nums2 V L s' (upd σ d N) (upd τ t N) (N + 1) := by
 have ho := h.over.define hd ht
 refine ⟨_, by unfold Jt67; rw [if_neg (fits few hm ho)], ⟨ho, fun v => ?_, fun v => ?_, fun v hv x hx hvx => ?_⟩⟩
 ·unfold upd; split
  ·omega
  ·have := h.σb v; omega
 ·unfold upd; split
  ·omega
  ·have := h.τb v; omega
 ·show (⟨v, x⟩ : Pair) ∈ defP s.set d t
  rw [Jtdk]
  by_cases hvd : v = d
  ·subst hvd
   rw [Jtjv] at hvx
   by_cases hxt : x = t
   ·subst hxt; exact .inl rfl
   ·rw [upd_ne hxt] at hvx; have := h.τb x; omega
  ·rw [upd_ne hvd] at hvx
   by_cases hxt : x = t
   ·subst hxt; rw [Jtjv] at hvx; have := h.σb v; omega
   ·rw [upd_ne hxt] at hvx
    exact .inr ⟨h.all v hv x hx hvx, hvd, hxt⟩
theorem Nums2.use {s : CS} {σ τ : Int → Nat} {N : Nat} (h : Nums2 V L s σ τ N) {v t : Int} (hv : v ∈ V) (ht : t ∈ L) (he : σ v = τ t) (at_ : Int) : ∃ s', useC s v t at_ = (s', none) ∧ Nums2 V L s' σ τ N :=
 ⟨costC s, by unfold useC; rw [if_pos (h.all v hv t ht he)], ⟨h.over, h.σb, h.τb, h.all⟩⟩
theorem Nums2.copies (few : V.length * L.length < 100000) (hm : 100000 ≤ most) {τ : Int → Nat} {N : Nat} {at_ : Int} : ∀ {l : List Instr}, (∀ i ∈ l, i.d ∈ V ∧ i.a ∈ V) → ∀ {s : CS} {σ : Int → Nat}, Nums2 V L s σ τ N →
  ∃ s', copyC most at_ l s = (s', none) ∧ Nums2 V L s' (runCv σ l) τ N := by
 intro l
 induction l with
 | nil => intro _ s σ h; exact ⟨s, rfl, h⟩
 | cons i l ih =>
  intro hl s σ h
  obtain ⟨s1, e1, h1⟩ := h.copy few hm (hl i (by simp)).1 (hl i (by simp)).2 at_
  obtain ⟨s2, e2, h2⟩ := ih (fun x hx => hl x (by simp [hx])) h1
  exact ⟨s2, by show thenC (Jt67 most (costC s) (copyP s.set i.d i.a) at_) (copyC most at_ l) = _; rw [e1]; exact e2, h2⟩
theorem Nums2.moves (few : V.length * L.length < 100000) (hm : 100000 ≤ most) {σ : Int → Nat} {N : Nat} : ∀ {l : List Mach}, (∀ i ∈ l, i.dst ∈ L ∧ i.src ∈ L) → ∀ {k : Nat} {s : CS} {τ : Int → Nat}, Nums2 V L s σ τ N →
  ∃ s', moveC most k l s = (s', none) ∧ Nums2 V L s' σ (runMv τ l) N := by
 intro l
 induction l with
 | nil => intro _ k s τ h; exact ⟨s, rfl, h⟩
 | cons i l ih =>
  intro hl k s τ h
  obtain ⟨s1, e1, h1⟩ := h.move few hm (hl i (by simp)).1 (hl i (by simp)).2 k
  obtain ⟨s2, e2, h2⟩ := ih (fun x hx => hl x (by simp [hx])) (k := k + 1) h1
  exact ⟨s2, by show thenC (Jt67 most (costC s) (moveP s.set i.dst i.src) k) (moveC most (k + 1) l) = _; rw [e1]; exact e2, h2⟩
end
def Sy (n : Nat) (σ τ : Int → Nat) : Prop := ∀ v : Int, 0 ≤ v → v < n → σ v = τ (2 * v + 1)
theorem Sy.load {n : Nat} {σ τ : Int → Nat} (h : Sy n σ τ) {r : Int} (hr : r = 0 ∨ r = 2) (x : Nat) : Sy n σ (upd τ r x) := by
 intro v h0 h1
 rw [upd_ne (by omega)]; exact h v h0 h1
theorem Sy.store {n : Nat} {σ τ : Int → Nat} (h : Sy n σ τ) {d : Int} (x : Nat) : Sy n (upd σ d x) (upd τ (2 * d + 1) x) := by
 intro v h0 h1
 by_cases hd : v = d
 ·subst hd; rw [Jtjv, Jtjv]
 ·rw [upd_ne hd, upd_ne (by omega)]; exact h v h0 h1
theorem Sy.copies {n : Nat} : ∀ {l : List Instr} {σ τ : Int → Nat}, (∀ i ∈ l, i.op = 2 ∧ (0 ≤ i.a ∧ i.a < n) ∧ slotZ i.a = 2 * i.a + 1 ∧ slotZ i.d = 2 * i.d + 1) → Sy n σ τ → Sy n (runCv σ l) (runMv τ (spCode l)) := by
 intro l
 induction l with
 | nil => intro σ τ _ h; exact h
 | cons i l ih =>
  intro σ τ hl h
  obtain ⟨h1, ⟨h2, h3⟩, h4, h5⟩ := hl i (by simp)
  have e : spCode (i :: l) = [mvM (regZ 0) (slotZ i.a), mvM (slotZ i.d) (regZ 0)] ++ spCode l := by
   simp only [spCode, List.flatMap_cons, Jtib, h1]
   rfl
  rw [e, Jthh]
  refine ih (fun x hx => hl x (by simp [hx])) ?_
  have r0 : regZ 0 = 0 := by decide
  show Sy n (upd σ i.d (σ i.a)) (upd (upd τ (regZ 0) (τ (slotZ i.a))) (slotZ i.d) (upd τ (regZ 0) (τ (slotZ i.a)) (regZ 0)))
  rw [Jtjv, h4, h5, r0, ← h i.a h2 h3]
  exact (h.load (.inl rfl) _).store _
structure InOk (n : Nat) (i : Instr) : Prop where
 a : usesA i.op = true → (0 ≤ i.a ∧ i.a < n) ∧ slotZ i.a = 2 * i.a + 1
 b : usesB i.op = true → (0 ≤ i.b ∧ i.b < n) ∧ slotZ i.b = 2 * i.b + 1
 d : usesD i.op = true → (0 ≤ i.d ∧ i.d < n) ∧ slotZ i.d = 2 * i.d + 1
theorem r0e : regZ 0 = 0 := by decide
theorem Jtjb {t : Term} {regs blocks : Int} (h : Jtgc t regs blocks = 0) (hk : t.kind ≠ 1) : 0 ≤ t.a ∧ t.a < regs := by
 have key : ¬ (inZ t.a regs = false) → 0 ≤ t.a ∧ t.a < regs := fun h => by simpa [inZ] using h
 unfold Jtgc at h
 rw [if_neg hk] at h
 split at h
 ·split at h
  ·cases h
  ·rename_i h2; exact key h2
 ·split at h
  ·split at h
   ·cases h
   ·rename_i h2; exact key h2
  ·cases h
end Go.AE
set_option maxRecDepth 4000
namespace Go.AE
open Go
end Go.AE
set_option maxRecDepth 4000
namespace Go.AE
open Go
section
end
section
end
@[simp] theorem Jt9e {K : ASt → Prop} {st : ASt} {n b off : Nat} {cells : List AV} {v : Opd} {b' o' e' l' : Nat} : goS3 K st n b off cells v (some (.hsl b' o' e' l')) ↔ 1 = n ∧ off + n ≤ cells.length ∧ K ⟨unview st.env, st.H.set b (.mem (spl cells off [.hsl b' o' e' l']))⟩ := by
 cases v <;> simp [goS3, AV.erase, AV.cells, AV.leaf]
@[simp] theorem Jt9j {K : ASt → Prop} {st : ASt} {n b off : Nat} {cells : List AV} {v : Opd} {q : Place} {e : Nat} {rows : List (List D)} : goS3 K st n b off cells v (some (.view q e rows)) ↔ 1 = n ∧ off + n ≤ cells.length ∧ K ⟨unview st.env, st.H.set b (.mem (spl cells off [.d (.sl rows)]))⟩ := by
 cases v <;> simp [goS3, AV.erase, AV.cells, AV.leaf]
theorem Jth5 (a b : List (List D)) : Jth2 (a ++ b) = Jth2 a ++ b.flatten.map AV.d := by simp [Jth2]
theorem Jt1g {P : Program} {K : ASt → Prop} {QP : AV → ASt → Prop} {dst : Option Nat} {st : ASt} {esz bytes : Nat} {x y : Opd} {b len : Nat} {rows ys : List (List D)} (h : evr st.env x = some (.hsl b 0 esz len)) (hb : st.H[b]? = some (.mem (Jth2 rows))) (hrl : rows.length = len)
  (hre : ∀ r ∈ rows, r.length = esz) (h0 : 0 < len) (hy : Jt5z st.env y = some ys) (hr : ∀ r ∈ ys, r.length = esz) (hz : 0 < esz) (hne : ys ≠ []) (hn : len + ys.length ≤ 1000000000000000000) (hbt : (len + ys.length) * bytes ≤ 140737488355328)
  (hK : K (put dst (.hsl b 0 esz (len + ys.length)) ⟨unview st.env, st.H.set b (.mem (Jth2 (rows ++ ys)))⟩)) (hK' : K (put dst (.hsl st.H.length 0 esz (len + ys.length)) ⟨st.env, st.H ++ [.mem (Jth2 (rows ++ ys))]⟩)) :
  AWio P false (.app esz bytes x y) dst K QP st := by
 simp only [AWio, h]
 rw [Jth5] at hK hK'
 refine ⟨trivial, b, len, Jth2 rows, ys, h, hb, by rw [Jth6 hre, hrl], h0, ?_, hy, hr, hz, hne, hn, hbt, hK, hK'⟩
 rw [List.all_eq_true]
 intro x hx
 unfold Jth2 at hx
 rw [List.mem_map] at hx
 obtain ⟨d, _, rfl⟩ := hx
 rfl
end Go.AE
set_option maxRecDepth 4000
namespace Go.AE
open Go
section
end
def shN (b : Int) : Nat := (IntKind.u64.wrap (bits .and .i64 b 63)).toNat
def aluB (op a b : Int) : Int :=
 if op = 5 then IntKind.i64.wrap (a + b)
 else if op = 6 then IntKind.i64.wrap (a - b)
 else if op = 7 then IntKind.i64.wrap (a * b)
 else if op = 8 then IntKind.i64.wrap (a.tdiv b)
 else if op = 9 then a.tmod b
 else if op = 10 then bits .and .i64 a b
 else if op = 11 then bits .or .i64 a b
 else if op = 12 then bits .xor .i64 a b
 else if op = 13 then IntKind.i64.wrap (a * 2 ^ min (shN b) 64)
 else if op = 14 then a.fdiv (2 ^ min (shN b) 64)
 else if op = 15 then (if a = b then 1 else 0)
 else if op = 16 then (if a < b then 1 else 0)
 else 0
def aluZ (op a b imm : Int) : Int × Bool :=
 if op = 1 then (imm, true) else if op = 2 then (a, true) else if op = 3 then (IntKind.i64.wrap (0 - a), true) else if op = 4 then (bits .xor .i64 (-1) a, true)
 else if 5 ≤ op ∧ op < 17 then (if (op = 8 ∨ op = 9) ∧ b = 0 then (0, false) else (aluB op a b, true)) else (0, false)
section
end
structure RunZ where (state : Int) (block at_ : Nat) (value : Int) (regs slots trace : List Int) (steps : Nat)
def RunZ.av (r : RunZ) : AV := .agg [AI r.state, AI r.block, AI r.at_, AI r.value, .d (intsD r.regs), .d (intsD r.slots), .d (intsD r.trace), AI r.steps]
def gI (l : List Int) (n : Int) : Int := l.getD n.toNat 0
def setI (l : List Int) (n v : Int) : List Int := l.set n.toNat v
def stepI (i : Instr) (r : RunZ) : RunZ :=
 if i.op = 17 then { r with trace := r.trace ++ [gI r.regs i.a], at_ := r.at_ + 1, steps := r.steps + 1 }
 else if (aluZ i.op (gI r.regs i.a) (gI r.regs i.b) i.imm).2 = true then { r with regs := setI r.regs i.d (aluZ i.op (gI r.regs i.a) (gI r.regs i.b) i.imm).1, at_ := r.at_ + 1, steps := r.steps + 1 }
 else { r with state := 2 }
theorem Jtbh (l : List Int) : ∀ r ∈ l.map intRow, r.length = 1 := Jth9 fun x => rfl
theorem lenI (l : List Int) : (Jth2 (l.map intRow)).length = l.length := by rw [Jth6 (Jtbh l)]; simp
theorem Jthr {l : List Int} {n v : Int} (h0 : 0 ≤ n) (h1 : n < l.length) : spl (Jth2 (l.map intRow)) n.toNat [AI v] = Jth2 ((setI l n v).map intRow) := by
 have := Jtie (Jtbh l) (row := [.int .i64 v]) rfl (k := n.toNat) (by simp; omega)
 rw [Nat.mul_one] at this
 unfold setI
 rw [List.map_set]; exact this
theorem Jths (l : List Int) (n v : Int) : (setI l n v).length = l.length := by simp [setI]
section
end
end Go.AE
set_option maxRecDepth 4000
namespace Go.AE
open Go
section
end
end Go.AE
set_option maxRecDepth 4000
namespace Go.AE
open Go
structure OkT (t : Term) (n k : Nat) : Prop where
 kind : t.kind = 1 ∨ t.kind = 2 ∨ t.kind = 3
 a : t.kind ≠ 1 → 0 ≤ t.a ∧ t.a < n
 to : t.kind = 1 ∨ t.kind = 2 → 0 ≤ t.to ∧ t.to < k
 els : t.kind = 2 → 0 ≤ t.els ∧ t.els < k
structure OkF (f : Func) (n : Nat) : Prop where
 code : ∀ b ∈ f.blocks, ∀ i ∈ b.code, (0 ≤ i.a ∧ i.a < n) ∧ (0 ≤ i.b ∧ i.b < n) ∧ (0 ≤ i.d ∧ i.d < n)
 term : ∀ b ∈ f.blocks, OkT b.term n f.blocks.length
structure OkR (f : Func) (n : Nat) (r : RunZ) : Prop where
 regs : r.regs.length = n
 block : r.block < f.blocks.length
 at_ : ∀ b, f.blocks[r.block]? = some b → r.at_ ≤ b.code.length
def run0 (f : Func) (args : List Int) : RunZ := ⟨0, 0, 0, 0, args ++ List.replicate (f.regs.toNat - args.length) 0, [], [], 0⟩
section
end
end Go.AE
set_option maxRecDepth 4000
namespace Go.AE
open Go
section
variable {P : Program} {K : ASt → Prop} {QP : AV → ASt → Prop} {dst : Option Nat} {st : ASt}
end
section
end
end Go.AE
set_option maxRecDepth 4000
namespace Go.AE
open Go
def readL (m : RunZ) (l : Int) : Int := if l.tmod 2 = 1 then gI m.slots (l.tdiv 2) else gI m.regs (l.tdiv 2)
def writeL (m : RunZ) (l v : Int) : RunZ := if l.tmod 2 = 1 then { m with slots := setI m.slots (l.tdiv 2) v } else { m with regs := setI m.regs (l.tdiv 2) v }
def stepMI (x : Mach) (m : RunZ) : RunZ :=
 if x.op = 18 then { writeL m x.dst (readL m x.src) with at_ := m.at_ + 1, steps := m.steps + 1 }
 else if x.op = 17 then { m with trace := m.trace ++ [gI m.regs x.a], at_ := m.at_ + 1, steps := m.steps + 1 }
 else if (aluZ x.op (gI m.regs x.a) (gI m.regs x.b) x.imm).2 = true then { m with regs := setI m.regs x.d (aluZ x.op (gI m.regs x.a) (gI m.regs x.b) x.imm).1, at_ := m.at_ + 1, steps := m.steps + 1 }
 else { m with state := 2 }
def stepMT (t : Term) (r : RunZ) : RunZ :=
 if t.kind = 3 then { r with steps := r.steps + 1, state := 1, value := gI r.regs t.a }
 else if t.kind = 1 then { r with steps := r.steps + 1, block := t.to.toNat, at_ := 0 }
 else if gI r.regs t.a = 0 then { r with steps := r.steps + 1, block := t.els.toNat, at_ := 0 }
 else { r with steps := r.steps + 1, block := t.to.toNat, at_ := 0 }
def stepM (g : MFunc) (m : RunZ) : RunZ := match g.blocks[m.block]? with
 | none => m
 | some b => match b.code[m.at_]? with
  | some x => stepMI x m
  | none => stepMT b.term m
def LocOk (m : RunZ) (l : Int) : Prop := -9223372036854775808 ≤ l ∧ l ≤ 9223372036854775807 ∧ 0 ≤ l.tdiv 2 ∧ (l.tmod 2 = 1 → l.tdiv 2 < m.slots.length) ∧ (l.tmod 2 ≠ 1 → l.tdiv 2 < m.regs.length)
section
end
end Go.AE
set_option maxRecDepth 4000
namespace Go.AE
open Go
section
end
end Go.AE
set_option maxRecDepth 4000
namespace Go.AE
open Go
structure OkX (m : RunZ) (x : Mach) : Prop where
 mv : x.op = 18 → LocOk m x.dst ∧ LocOk m x.src
 em : x.op = 17 → 0 ≤ x.a ∧ x.a < m.regs.length
 op : x.op ≠ 18 → x.op ≠ 17 → (0 ≤ x.a ∧ x.a < m.regs.length) ∧ (0 ≤ x.b ∧ x.b < m.regs.length) ∧ (0 ≤ x.d ∧ x.d < m.regs.length)
section
end
end Go.AE
set_option maxRecDepth 4000
namespace Go.AE
open Go
structure OkG (g : MFunc) (n1 n2 : Nat) : Prop where
 code : ∀ b ∈ g.blocks, ∀ x ∈ b.code, ∀ m : RunZ, m.regs.length = n1 → m.slots.length = n2 → OkX m x
 term : ∀ b ∈ g.blocks, OkT b.term n1 g.blocks.length
structure OkRM (g : MFunc) (n1 n2 : Nat) (m : RunZ) : Prop where
 regs : m.regs.length = n1
 slots : m.slots.length = n2
 block : m.block < g.blocks.length
 at_ : ∀ b, g.blocks[m.block]? = some b → m.at_ ≤ b.code.length
theorem Jtkh (m : RunZ) (l v : Int) : (writeL m l v).regs.length = m.regs.length ∧ (writeL m l v).slots.length = m.slots.length ∧ (writeL m l v).block = m.block ∧ (writeL m l v).state = m.state ∧ (writeL m l v).trace = m.trace := by
 unfold writeL; split
 ·exact ⟨rfl, by simp [setI], rfl, rfl, rfl⟩
 ·exact ⟨by simp [setI], rfl, rfl, rfl, rfl⟩
section
end
end Go.AE
set_option maxRecDepth 4000
namespace Go.AE
open Go
section
end
end Go.AE
set_option maxRecDepth 4000
namespace Go.AE
open Go
def Reach (g : MFunc) : Nat → RunZ → RunZ → Prop
 | 0, m, m' => m = m'
 | j + 1, m, m' => m.state = 0 ∧ Reach g j (stepM g m) m'
theorem Reach.trans {g : MFunc} : ∀ {j k : Nat} {a b c : RunZ}, Reach g j a b → Reach g k b c → Reach g (j + k) a c := by
 intro j
 induction j with
 | zero => intro k a b c h1 h2; unfold Reach at h1; subst h1; rw [Nat.zero_add]; exact h2
 | succ j ih =>
  intro k a b c h1 h2
  rw [Nat.succ_add]
  exact ⟨h1.1, ih h1.2 h2⟩
def foldM : List Mach → RunZ → RunZ
 | [], m => m
 | x :: xs, m => foldM xs (stepMI x m)
def goodM : List Mach → RunZ → Prop
 | [], _ => True
 | x :: xs, m => m.state = 0 ∧ goodM xs (stepMI x m)
theorem Jtis {x : Mach} {m : RunZ} (h : (stepMI x m).state = 0) : (stepMI x m).at_ = m.at_ + 1 := by
 unfold stepMI at h ⊢
 split at h
 ·rename_i h1; rw [if_pos h1]
 ·rename_i h1
  rw [if_neg h1]
  split at h
  ·rename_i h2; rw [if_pos h2]
  ·rename_i h2
   rw [if_neg h2]
   split at h
   ·rename_i h3; rw [if_pos h3]
   ·cases h
theorem Jt92 {l : List Int} {n v : Int} (h0 : 0 ≤ n) (h1 : n < l.length) : gI (setI l n v) n = v := by
 have h : n.toNat < l.length := by omega
 simp [gI, setI, List.getD_eq_getElem?_getD, h]
theorem Jt91 {l : List Int} {n k v : Int} (h0 : 0 ≤ n) (h1 : 0 ≤ k) (hne : n ≠ k) : gI (setI l n v) k = gI l k := by
 have h : n.toNat ≠ k.toNat := by omega
 simp [gI, setI, List.getD_eq_getElem?_getD, List.getElem?_set_ne h]
end Go.AE
set_option maxRecDepth 4000
namespace Go.AE
open Go
structure RelS (f : Func) (n : Nat) (r m : RunZ) : Prop where
 run : r.state = 0
 runm : m.state = 0
 block : m.block = r.block
 at_ : ∀ b, f.blocks[r.block]? = some b → m.at_ = (spCode (b.code.take r.at_)).length
 slots : m.slots = r.regs
 trace : m.trace = r.trace
 value : m.value = r.value
 two : m.regs.length = 2
 len : r.regs.length = n
end Go.AE
set_option maxRecDepth 4000
namespace Go.AE
open Go
structure SrcOk (f : Func) (n : Nat) : Prop where
 code : ∀ b ∈ f.blocks, ∀ i ∈ b.code, (1 ≤ i.op ∧ i.op ≤ 17) ∧ InOk n i
 term : ∀ b ∈ f.blocks, OkT b.term n f.blocks.length ∧ (b.term.kind ≠ 1 → slotZ b.term.a = 2 * b.term.a + 1)
structure EndS (r m : RunZ) : Prop where
 state : m.state = 1
 value : m.value = r.value
 block : m.block = r.block
 slots : m.slots = r.regs
 trace : m.trace = r.trace
end Go.AE
set_option maxRecDepth 4000
namespace Go.AE
open Go
structure JumpF (f : Func) : Prop where
 code : ∀ b ∈ f.blocks, b.code = [] ∧ b.term.kind = 1 ∧ 0 ≤ b.term.to ∧ b.term.to < f.blocks.length
section
variable {P : Program} {K : ASt → Prop} {QP : AV → ASt → Prop} {dst : Option Nat} {st : ASt}
end
section
end
end Go.AE
set_option maxRecDepth 4000
namespace Go.AE
open Go
theorem Jtbf {i : Instr} {n : Nat} (h : Jtga i (n : Int) = 0) (h0 : 0 < n) : (0 ≤ i.a ∧ i.a < n) ∧ (0 ≤ i.b ∧ i.b < n) ∧ (0 ≤ i.d ∧ i.d < n) := by
 unfold Jtga at h
 split at h
 ·cases h
 split at h
 ·cases h
 rename_i h9
 split at h
 ·cases h
 rename_i h12
 simp only [bad9, Bool.or_eq_true, Bool.and_eq_true, not_or, not_and, Bool.not_eq_true', Bool.not_eq_false, inZ, decide_eq_true_eq] at h9
 simp only [bad12, Bool.or_eq_true, Bool.and_eq_true, not_or, not_and, Bool.not_eq_true', bne_iff_ne, ne_eq, Decidable.not_not] at h12
 obtain ⟨⟨d, a⟩, b⟩ := h9
 obtain ⟨⟨⟨d2, a2⟩, b2⟩, _⟩ := h12
 have one : ∀ (u : Bool) (x : Int), (u = true → 0 ≤ x ∧ x < (n : Int)) → (u = false → x = 0) → 0 ≤ x ∧ x < (n : Int) := by
  intro u x h1 h2
  cases u with
  | true => exact h1 rfl
  | false => rw [h2 rfl]; omega
 exact ⟨one _ _ a a2, one _ _ b b2, one _ _ d d2⟩
theorem okT_of {t : Term} {n k : Nat} (h : Jtgc t (n : Int) (k : Int) = 0) : OkT t n k := by
 have hto := Jtjd h
 refine ⟨?_, fun hk => Jtjb h hk, fun hk => ?_, fun hk => ?_⟩
 ·unfold Jtgc at h
  split at h
  ·rename_i k1; exact .inl k1
  ·split at h
   ·rename_i k2; exact .inr (.inl k2)
   ·split at h
    ·rename_i k3; exact .inr (.inr k3)
    ·cases h
 ·refine hto _ ?_
  unfold succsZ
  rcases hk with k1 | k2
  ·rw [if_pos k1]; simp
  ·rw [if_neg (by omega), if_pos k2]; simp
 ·refine hto _ ?_
  unfold succsZ
  rw [if_neg (by omega), if_pos hk]; simp
section
theorem Jtg2 {P : Program} {p : Nums} (A : All P p) (f : Func) (args : List Int) (k : Int) : Jt4n P p.ref09_Right [f.av, .d (intsD args), AI k] [] fun o _ => o = .ret (AB (few f && decide (Jtg9 f = 0) && decide (k ≤ 400) && decide (args.length ≤ 100))) := by
 have cf := Jtfs A f
 have cc : few f = true → Jt4n P p.ref07_Check [f.av] [] fun o _ => o = .ret (AI (Jtg9 f)) := fun h => by
  obtain ⟨f1, f2, f3, f4⟩ := Jt8g.1 h
  exact Jtfq A f (by omega) (by omega)
 obtain ⟨rc, hrc⟩ : ∃ r, r = Jtg9 f := ⟨_, rfl⟩
 rw [← hrc] at cc ⊢
 obtain ⟨fw, hfw⟩ : ∃ b, b = few f := ⟨_, rfl⟩
 rw [← hfw] at cf cc ⊢
 obtain ⟨sR, hsR⟩ : ∃ x, x = f.blocks.map Block.row := ⟨_, rfl⟩
 obtain ⟨aR, haR⟩ : ∃ x, x = args.map intRow := ⟨_, rfl⟩
 have hal : aR.length = args.length := by rw [haR]; simp
 simp only [Func.av, intsD, ← hsR, ← haR] at cf cc ⊢
 refine A.ref09_Right.run rfl fun R hR => ?_
 (simp (maxSteps := 1000000) [Jtaz])
 (refine Jt13 cf (by rfl) (by rfl) ?_)
 cases fw with
 | false =>
  (simp (maxSteps := 1000000) [])
  (first | exact hR _ _ FrA | exact hR _ _ FnA)
 | true =>
  (simp (maxSteps := 1000000) [])
  (refine Jt13 (cc rfl) (by rfl) (by rfl) ?_)
  (simp (maxSteps := 1000000) [])
  by_cases h1 : rc = 0
  ·subst h1
   by_cases h2 : k ≤ 400
   ·have hcast : decide ((args.length : Int) ≤ 100) = decide (args.length ≤ 100) := by
     apply decide_eq_decide.2; omega
    (simp (maxSteps := 1000000) [h2, hal, hcast])
    (first | exact hR _ _ FrA | exact hR _ _ FnA | exact hR _ _ (Xf (hq := by simp [AV.erase, AV.unview, h2, hcast]; done)))
   ·(simp (maxSteps := 1000000) [h2])
    (first | exact hR _ _ FrA | exact hR _ _ FnA | exact hR _ _ (Xf (hq := by simp [AV.erase, AV.unview, h2]; done)))
  ·have h1b : (rc == 0) = false := by simpa using h1
   (simp (maxSteps := 1000000) [h1, h1b])
   (first | exact hR _ _ FrA | exact hR _ _ FnA | exact hR _ _ (Xf (hq := by simp [AV.erase, AV.unview, h1]; done)))
end
end Go.AE
set_option maxRecDepth 4000
namespace Go.AE
open Go
structure Inv (n n1 n2 : Nat) (s : List Pair) (r m : RunZ) : Prop where
 pos : ∀ q ∈ s, 0 ≤ q.v ∧ 0 ≤ q.l
 val : ∀ q ∈ s, gI r.regs q.v = readL m q.l
 trace : m.trace = r.trace
 block : m.block = r.block
 run : r.state = 0
 runm : m.state = 0
 len : r.regs.length = n
 len1 : m.regs.length = n1
 len2 : m.slots.length = n2
theorem Jtje {r : CR} {f : CS → CR} {s' : CS} (h : thenC r f = (s', none)) : r.2 = none ∧ f r.1 = (s', none) := by
 unfold thenC at h
 cases hr : r.2 with
 | none => rw [hr] at h; exact ⟨rfl, h⟩
 | some e => rw [hr] at h; cases h
theorem par_eq {a b : Int} (ha : 0 ≤ a) (hb : 0 ≤ b) (h1 : a.tmod 2 = 1 ↔ b.tmod 2 = 1) (h2 : a.tdiv 2 = b.tdiv 2) : a = b := by
 have m1 := Int.tmod_eq_emod_of_nonneg (b := 2) ha
 have m2 := Int.tmod_eq_emod_of_nonneg (b := 2) hb
 have d1 := Int.tdiv_eq_ediv_of_nonneg (b := 2) ha
 have d2 := Int.tdiv_eq_ediv_of_nonneg (b := 2) hb
 omega
theorem Jtja {a : Int} (ha : 0 ≤ a) : 0 ≤ a.tdiv 2 := by
 have d1 := Int.tdiv_eq_ediv_of_nonneg (b := 2) ha
 omega
theorem Jtff {m : RunZ} {d l v : Int} (hd : LocOk m d) (h0 : 0 ≤ d) (hl : 0 ≤ l) : readL (writeL m d v) l = if l = d then v else readL m l := by
 obtain ⟨_, _, d0, d1, d2⟩ := hd
 have l0 := Jtja hl
 by_cases hs : d.tmod 2 = 1
 ·have e : writeL m d v = { m with slots := setI m.slots (d.tdiv 2) v } := by unfold writeL; rw [if_pos hs]
  rw [e]
  by_cases hs2 : l.tmod 2 = 1
  ·have e1 : readL { m with slots := setI m.slots (d.tdiv 2) v } l = gI (setI m.slots (d.tdiv 2) v) (l.tdiv 2) := by unfold readL; rw [if_pos hs2]
   have e2 : readL m l = gI m.slots (l.tdiv 2) := by unfold readL; rw [if_pos hs2]
   rw [e1, e2]
   by_cases he : l = d
   ·subst he; rw [if_pos rfl]; exact Jt92 d0 (d1 hs)
   ·rw [if_neg he]
    exact Jt91 d0 l0 fun h => he (par_eq hl h0 (by simp [hs, hs2]) h.symm)
  ·have e1 : readL { m with slots := setI m.slots (d.tdiv 2) v } l = gI m.regs (l.tdiv 2) := by unfold readL; rw [if_neg hs2]
   have e2 : readL m l = gI m.regs (l.tdiv 2) := by unfold readL; rw [if_neg hs2]
   rw [e1, e2, if_neg (by rintro rfl; exact hs2 hs)]
 ·have e : writeL m d v = { m with regs := setI m.regs (d.tdiv 2) v } := by unfold writeL; rw [if_neg hs]
  rw [e]
  by_cases hs2 : l.tmod 2 = 1
  ·have e1 : readL { m with regs := setI m.regs (d.tdiv 2) v } l = gI m.slots (l.tdiv 2) := by unfold readL; rw [if_pos hs2]
   have e2 : readL m l = gI m.slots (l.tdiv 2) := by unfold readL; rw [if_pos hs2]
   rw [e1, e2, if_neg (by rintro rfl; exact hs hs2)]
  ·have e1 : readL { m with regs := setI m.regs (d.tdiv 2) v } l = gI (setI m.regs (d.tdiv 2) v) (l.tdiv 2) := by unfold readL; rw [if_neg hs2]
   have e2 : readL m l = gI m.regs (l.tdiv 2) := by unfold readL; rw [if_neg hs2]
   rw [e1, e2]
   by_cases he : l = d
   ·subst he; rw [if_pos rfl]; exact Jt92 d0 (d2 hs)
   ·rw [if_neg he]
    exact Jt91 d0 l0 fun h => he (par_eq hl h0 (by simp [hs, hs2]) h.symm)
theorem Jtit {i : Instr} {r : RunZ} (hc : i.op = 2) : stepI i r = { r with regs := setI r.regs i.d (gI r.regs i.a), at_ := r.at_ + 1, steps := r.steps + 1 } := by
 unfold stepI
 have hz : ∀ b, aluZ i.op (gI r.regs i.a) b i.imm = (gI r.regs i.a, true) := fun b => by unfold aluZ; rw [hc, if_neg (by decide), if_pos rfl]
 rw [if_neg (by rw [hc]; decide), hz, if_pos rfl]
section
variable {n n1 n2 : Nat} {s : List Pair} {r m : RunZ}
theorem Inv.copy {i : Instr} (h : Inv n n1 n2 s r m) (hc : i.op = 2) (hd : 0 ≤ i.d ∧ i.d < n) (ha : 0 ≤ i.a) : Inv n n1 n2 (copyP s i.d i.a) (stepI i r) m := by
 rw [Jtit hc]
 have hl : i.d < (r.regs.length : Int) := by rw [h.len]; exact hd.2
 refine ⟨fun q hq => ?_, fun q hq => ?_, h.trace, h.block, h.run, h.runm, by show (setI _ _ _).length = n; rw [Jths]; exact h.len, h.len1, h.len2⟩
 ·rcases Jtdj.1 hq with ⟨k1, _⟩ | ⟨k1, k2⟩
  ·exact h.pos q k1
  ·exact ⟨by rw [k1]; exact hd.1, (h.pos _ k2).2⟩
 ·show gI (setI r.regs i.d (gI r.regs i.a)) q.v = readL m q.l
  rcases Jtdj.1 hq with ⟨k1, k2⟩ | ⟨k1, k2⟩
  ·have p := h.pos q k1
   rcases k2 with k2 | k2
   ·by_cases he : q.v = i.d
    ·have v := h.val q k1
     rw [he] at v ⊢
     rw [Jt92 hd.1 hl, ← k2]; exact v
    ·rw [Jt91 hd.1 p.1 (fun h => he h.symm)]; exact h.val q k1
   ·rw [Jt91 hd.1 p.1 (fun h => k2 h.symm)]; exact h.val q k1
  ·rw [k1, Jt92 hd.1 hl]
   exact h.val _ k2
theorem Inv.move {x : Mach} (h : Inv n n1 n2 s r m) (hc : x.op = 18) (ok : OkX m x) (h0 : 0 ≤ x.dst) : Inv n n1 n2 (moveP s x.dst x.src) r (stepMI x m) := by
 obtain ⟨o1, o2⟩ := ok.mv hc
 have e : stepMI x m = { writeL m x.dst (readL m x.src) with at_ := m.at_ + 1, steps := m.steps + 1 } := by unfold stepMI; rw [if_pos hc]
 obtain ⟨w1, w2, w3, w4, w5⟩ := Jtkh m x.dst (readL m x.src)
 rw [e]
 have rd : ∀ l : Int, 0 ≤ l → readL { writeL m x.dst (readL m x.src) with at_ := m.at_ + 1, steps := m.steps + 1 } l = if l = x.dst then readL m x.src else readL m l := fun l hl => Jtff o1 h0 hl
 refine ⟨fun q hq => ?_, fun q hq => ?_, by show (writeL m _ _).trace = _; rw [w5]; exact h.trace, by show (writeL m _ _).block = _; rw [w3]; exact h.block, h.run, by show (writeL m _ _).state = _; rw [w4]; exact h.runm, h.len,
  by show (writeL m _ _).regs.length = _; rw [w1]; exact h.len1, by show (writeL m _ _).slots.length = _; rw [w2]; exact h.len2⟩
 ·rcases Jtdq.1 hq with ⟨k1, _⟩ | ⟨k1, k2⟩
  ·exact h.pos q k1
  ·exact ⟨(h.pos _ k2).1, by rw [k1]; exact h0⟩
 ·rcases Jtdq.1 hq with ⟨k1, k2⟩ | ⟨k1, k2⟩
  ·rw [rd _ (h.pos q k1).2]
   by_cases he : q.l = x.dst
   ·rw [if_pos he]
    rcases k2 with k2 | k2
    ·have v := h.val q k1
     rw [v, he, k2]
    ·exact absurd he k2
   ·rw [if_neg he]; exact h.val q k1
  ·rw [rd _ (by rw [k1]; exact h0), if_pos k1]
   exact h.val _ k2
theorem Inv.moves {most : Int} {ok : Mach → Prop} (hok : ∀ x, ok x → x.op = 18 ∧ 0 ≤ x.dst ∧ ∀ m : RunZ, m.regs.length = n1 → m.slots.length = n2 → OkX m x) :
  ∀ {l : List Mach} {k : Nat} {s s' : CS} {m : RunZ}, moveC most k l s = (s', none) → (∀ x ∈ l, ok x) → Inv n n1 n2 s.set r m →
   goodM l m ∧ Inv n n1 n2 s'.set r (foldM l m) ∧ (foldM l m).at_ = m.at_ + l.length ∧ (foldM l m).value = m.value := by
 intro l
 induction l with
 | nil =>
  intro k s s' m h _ hi
  unfold moveC at h
  injection h with h; subst h
  exact ⟨trivial, hi, rfl, rfl⟩
 | cons x l ih =>
  intro k s s' m h hl hi
  unfold moveC at h
  obtain ⟨_, h2⟩ := Jtje h
  obtain ⟨x1, x2, x3⟩ := hok x (hl x (by simp))
  have hi1 := hi.move x1 (x3 m hi.len1 hi.len2) x2
  obtain ⟨g1, g2, g3, g4⟩ := ih h2 (fun y hy => hl y (by simp [hy])) hi1
  refine ⟨⟨hi.runm, g1⟩, g2, ?_, ?_⟩
  ·show (foldM l (stepMI x m)).at_ = _
   rw [g3, Jtis hi1.runm, List.length_cons]; omega
  ·show (foldM l (stepMI x m)).value = _
   rw [g4]
   unfold stepMI; rw [if_pos x1]
   show (writeL m x.dst (readL m x.src)).value = _
   unfold writeL; split <;> rfl
end
theorem Jtge {v : Int} (h0 : 0 ≤ v) (h1 : v ≤ 1000000) : regZ v = 2 * v := by unfold regZ; exact wrap_i64 (by omega) (by omega)
section
variable {n n1 n2 : Nat} {r m : RunZ}
end
end Go.AE
