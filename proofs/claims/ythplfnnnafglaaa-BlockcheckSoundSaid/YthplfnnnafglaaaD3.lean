/- A part of the proof: the evaluator over abstract values, its codes, the contracts of the functions. -/
import Derived.Test.YthplfnnnafglaaaD2
import Derived.Sort.Grow
import Derived.Deep.Draws
set_option linter.unusedVariables false
set_option linter.unusedSimpArgs false
set_option maxRecDepth 100000
namespace Go.AE
@[simp] abbrev zi (n : Int) : AV := .d (.int .i64 n)
@[simp] abbrev ci (n : Int) : Opd := .c (.d (.int .i64 n))
@[simp] abbrev qo (d : Nat) (io : AO) : IOp := ⟨some d, io, none, false⟩
@[simp] abbrev qp (d : Nat) (io : AO) : IOp := ⟨some d, io, none, true⟩
@[simp] abbrev qn (io : AO) : IOp := ⟨none, io, none, false⟩
@[simp] abbrev qm (io : AO) : IOp := ⟨none, io, none, true⟩
structure Nums where
 law11_PairsetMatchesReference : Nat
 law11_PairsetMatchesSets : Nat
 law11_PairsetOrder : Nat
 law11_PairsetSubsets : Nat
 law23_LivenessMatchesReference : Nat
 law23_LivenessEquations : Nat
 law23_LivenessSound : Nat
 law23_LivenessNecessary : Nat
 law23_LivenessAppended : Nat
 law11_PairsetDrops : Nat
 law11_PairsetKeeps : Nat
 law11_awake : Nat
 ref11_Make : Nat
 pairset_Missing : Nat
 ref11_Missing : Nat
 pairset_Sorted : Nat
 ref11_Sorted : Nat
 ref11_Same : Nat
 pairset_Make : Nat
 pairset_Has : Nat
 ref11_Has : Nat
 pairset_Add : Nat
 ref11_Add : Nat
 pairset_Subset : Nat
 pairset_Union : Nat
 pairset_Less : Nat
 law23_awake : Nat
 ref07_Few : Nat
 ref07_Check : Nat
 ref23_Used : Nat
 ref23_Defines : Nat
 ref07_Numbers : Nat
 liveness_Uses : Nat
 liveness_Defs : Nat
 ref23_Same : Nat
 liveness_In : Nat
 ref23_In : Nat
 liveness_Out : Nat
 ref23_Out : Nat
 ref07_Successors : Nat
 ref23_Has : Nat
 ref09_Right : Nat
 ref09_Exec : Nat
 ref09_Step : Nat
 ref09_Copy : Nat
 ref09_Values : Nat
 ref07_Copy : Nat
 pairset_DropV : Nat
 pairset_DropL : Nat
 law11_spoil : Nat
 ref11_Less : Nat
 slices_Clone_Pair : Nat
 slices_SortFunc_Pair : Nat
 pairset_compare : Nat
 slices_Compact_Pair : Nat
 pairset_find : Nat
 ref07_Code : Nat
 ref07_Instr : Nat
 ref07_Term : Nat
 ref05_UsesA : Nat
 ref05_UsesB : Nat
 ref05_UsesD : Nat
 liveness_scan : Nat
 liveness_set_sorted : Nat
 liveness_solve : Nat
 ref23_live : Nat
 liveness_exit : Nat
 ref09_Start : Nat
 ref06_Eval : Nat
 pairset_filter : Nat
 pairset_DropV_1 : Nat
 pairset_DropL_1 : Nat
 slices_pdqsortCmpFunc_Pair : Nat
 math_bits_Len : Nat
 ref07_in : Nat
 liveness_scan_1 : Nat
 opcode_Of : Nat
 slices_Sort_int : Nat
 source_Successors : Nat
 ref06_bits : Nat
 ref06_half : Nat
 ref06_truth : Nat
 slices_insertionSortCmpFunc_Pair : Nat
 slices_heapSortCmpFunc_Pair : Nat
 slices_breakPatternsCmpFunc_Pair : Nat
 slices_choosePivotCmpFunc_Pair : Nat
 slices_reverseRangeCmpFunc_Pair : Nat
 slices_partialInsertionSortCmpFunc_Pair : Nat
 slices_partitionEqualCmpFunc_Pair : Nat
 slices_partitionCmpFunc_Pair : Nat
 math_bits_Len32 : Nat
 math_bits_Len64 : Nat
 opcode_known : Nat
 slices_pdqsortOrdered_int : Nat
 ref06_bit : Nat
 slices_siftDownCmpFunc_Pair : Nat
 slices_nextPowerOfTwo : Nat
 slices_xorshift_Next : Nat
 slices_medianAdjacentCmpFunc_Pair : Nat
 slices_medianCmpFunc_Pair : Nat
 slices_insertionSortOrdered_int : Nat
 slices_heapSortOrdered_int : Nat
 slices_breakPatternsOrdered_int : Nat
 slices_choosePivotOrdered_int : Nat
 slices_reverseRangeOrdered_int : Nat
 slices_partialInsertionSortOrdered_int : Nat
 cmp_Less_int : Nat
 slices_partitionEqualOrdered_int : Nat
 slices_partitionOrdered_int : Nat
 slices_order2CmpFunc_Pair : Nat
 slices_siftDownOrdered_int : Nat
 slices_medianAdjacentOrdered_int : Nat
 slices_medianOrdered_int : Nat
 cmp_isNaN_int : Nat
 slices_order2Ordered_int : Nat
 law22_SpillallKeeps : Nat
 law22_SpillallSlots : Nat
 law22_awake : Nat
 spillall_Cert : Nat
 ref22_Cert : Nat
 ref07_Same : Nat
 ref16_Same : Nat
 interp_Exec : Nat
 execute_Exec : Nat
 spillall_Block : Nat
 spillall_Moves : Nat
 source_Check : Nat
 slices_Clone_Instr : Nat
 spillall_invariant : Nat
 ref22_Block : Nat
 ref08_Moves : Nat
 ref08_Code : Nat
 ref08_Same : Nat
 ref15_Same : Nat
 interp_begin : Nat
 interp_state_step : Nat
 execute_begin : Nat
 execute_state_step : Nat
 spillall_builder_instr : Nat
 spillall_builder_add : Nat
 spillall_load : Nat
 source_Code : Nat
 source_block : Nat
 location_Slot : Nat
 ref22_move : Nat
 interp_state_instr : Nat
 interp_state_term : Nat
 execute_state_instr : Nat
 execute_state_term : Nat
 spillall_store : Nat
 location_Reg : Nat
 source_Instr : Nat
 source_Term : Nat
 alu_Eval : Nat
 execute_state_compute : Nat
 execute_state_move : Nat
 execute_state_emit : Nat
 opcode_Source : Nat
 source_within : Nat
 source_blank : Nat
 alu_operation : Nat
 execute_state_at : Nat
 alu_operation_1 : Nat
 alu_operation_2 : Nat
 alu_operation_3 : Nat
 alu_operation_4 : Nat
 alu_operation_5 : Nat
 alu_operation_6 : Nat
 alu_operation_7 : Nat
 alu_operation_8 : Nat
 alu_operation_9 : Nat
 alu_operation_10 : Nat
 alu_operation_11 : Nat
 alu_truth : Nat
 alu_operation_12 : Nat
 location_IsSlot : Nat
 location_Index : Nat
 law16_CheckerMatchesReference : Nat
 law16_CheckerOnce : Nat
 law16_CheckerLocal : Nat
 law16_CheckerSubset : Nat
 law16_CheckerKeeps : Nat
 law22_SpillallAccepted : Nat
 law16_CheckerSound : Nat
 law16_awake : Nat
 ref16_Few : Nat
 checker_Valid : Nat
 ref16_Valid : Nat
 checker_Check : Nat
 ref16_Check : Nat
 checker_Bound : Nat
 ref14_Check : Nat
 ref16_Copy : Nat
 law16_simulates : Nat
 ref08_Few : Nat
 ref15_Few : Nat
 machine_Check : Nat
 edge_Valid : Nat
 ref08_Check : Nat
 ref15_Valid : Nat
 checker_begin : Nat
 blockcheck_Check : Nat
 edge_Implies : Nat
 ref15_Initial : Nat
 machine_Code : Nat
 ref14_fail : Nat
 ref13_Code : Nat
 ref13_Terms : Nat
 ref14_grow : Nat
 ref12_Copy : Nat
 ref12_Move : Nat
 ref14_use : Nat
 ref12_Define : Nat
 ref08_Copy : Nat
 ref09_Prefix : Nat
 machine_block : Nat
 edge_total : Nat
 edge_pairs : Nat
 ref08_Instr : Nat
 ref04_InRange : Nat
 edge_Entry : Nat
 align_Code : Nat
 align_Terms : Nat
 blockcheck_checker_run : Nat
 ref13_Operations : Nat
 ref13_Others : Nat
 ref13_Same : Nat
 machine_Instr : Nat
 location_InRange : Nat
 edge_Initial : Nat
 align_skip_Instr : Nat
 align_copied : Nat
 align_skip_Mach : Nat
 align_moved : Nat
 align_Same : Nat
 blockcheck_checker_run_1 : Nat
 blockcheck_checker_row : Nat
 blockcheck_checker_use : Nat
 opcode_Machine : Nat
 machine_others : Nat
 machine_moves : Nat
 blockcheck_checker_cost : Nat
 blockcheck_checker_become : Nat
 transfer_Copy : Nat
 transfer_Move : Nat
 blockcheck_checker_instr : Nat
 machine_others_1 : Nat
 machine_others_2 : Nat
 machine_moves_1 : Nat
 machine_moves_2 : Nat
 transfer_rename : Nat
 transfer_Copy_1 : Nat
 transfer_Move_1 : Nat
 transfer_Define : Nat
 law12_TransferMatchesReference : Nat
 law12_TransferSound : Nat
 law12_TransferComplete : Nat
 law12_TransferMonotone : Nat
 law12_TransferKeeps : Nat
 law14_BlockcheckMatchesReference : Nat
 law14_BlockcheckSound : Nat
 law14_BlockcheckMonotone : Nat
 law14_BlockcheckSteps : Nat
 law14_BlockcheckKeeps : Nat
 law12_awake : Nat
 law12_known : Nat
 law12_holds : Nat
 law12_subset : Nat
 law14_awake : Nat
 law14_right : Nat
 ref14_Same : Nat
 law14_result : Nat
 ref10_Step : Nat
 ref10_Read : Nat
 law22_SpillallMatchesReference : Nat
 law04_LocationBijection : Nat
 law04_LocationTexts : Nat
 law04_LocationMatchesReference : Nat
 law04_LocationRange : Nat
 law04_awake : Nat
 location_Parse : Nat
 location_Text : Nat
 ref04_Parse : Nat
 ref04_Text : Nat
 strconv_Itoa : Nat
 ref04_Number : Nat
 ref04_Decimal : Nat
 ty_bcfail : Nat
@[simp] def Jqlh (p : Nums) : List IOp := [qo 6 (.mov (.t 0)), qo 7 (.len (.t 6)), qo 8 (.mov (.t 1)), qo 9 (.len (.t 8)), qo 10 (.bin .neq (.t 7) (.t 9))]
def Jql9 (p : Nums) : IC := (.region (Jqlh p) [])
@[simp] theorem Jel9 {p : Nums} : EqI (Jql9 p) (.region (Jqlh p) []) := eqi
def Jqla (p : Nums) : IC := (.seq (.region [⟨(some 4), (.asg (.c (.d (.bool false)))), none, false⟩] []) .ret)
@[simp] theorem Jela {p : Nums} : EqI (Jqla p) (.seq (.region [⟨(some 4), (.asg (.c (.d (.bool false)))), none, false⟩] []) .ret) := eqi
@[simp] def Jqli (p : Nums) : List IOp := [qo 11 (.mov (.t 5)), qo 12 (.mov (.t 0)), qo 13 (.len (.t 12)), qo 14 (.bin .lss (.t 11) (.t 13))]
def Jqlb (p : Nums) : IC := (.region (Jqli p) [])
@[simp] theorem Jelb {p : Nums} : EqI (Jqlb p) (.region (Jqli p) []) := eqi
@[simp] def Jqlj (p : Nums) : List IOp := [qp 17 (.mov (.t 0)), qp 18 (.mov (.t 5)), qp 19 (.iaddr 2 (.t 17) (.t 18)), qp 20 (.load (some 2) (.t 19)), qp 21 (.mov (.t 1)), qp 22 (.mov (.t 5)), qp 23 (.iaddr 2 (.t 21) (.t 22)), qp 24 (.load (some 2) (.t 23)), qo 25 (.eqs true [.int, .int] (.t 20) (.t 24))]
def Jqlc (p : Nums) : IC := (.region (Jqlj p) [])
@[simp] theorem Jelc {p : Nums} : EqI (Jqlc p) (.region (Jqlj p) []) := eqi
def Jqld (p : Nums) : IC := (.seq (.region [⟨(some 4), (.asg (.c (.d (.bool false)))), none, false⟩] []) .ret)
@[simp] theorem Jeld {p : Nums} : EqI (Jqld p) (.seq (.region [⟨(some 4), (.asg (.c (.d (.bool false)))), none, false⟩] []) .ret) := eqi
def Jqle (p : Nums) : IC := (.seq (Jqlc p) (.cond (.t 25) (Jqld p) .skip))
@[simp] theorem Jele {p : Nums} : EqI (Jqle p) (.seq (Jqlc p) (.cond (.t 25) (Jqld p) .skip)) := eqi
@[simp] def Jqlk (p : Nums) : List IOp := [qo 15 (.mov (.t 5)), qo 16 (.bin .add (.t 15) (ci 1)), qo 5 (.asg (.t 16))]
def Jqlf (p : Nums) : IC := (.region (Jqlk p) [])
@[simp] theorem Jelf {p : Nums} : EqI (Jqlf p) (.region (Jqlk p) []) := eqi
def Jqlg (p : Nums) : IC := (.seq (.seq (Jqlb p) (.cond (.t 14) .skip (.exit 0))) (.seq (.block 1 (Jqle p)) (Jqlf p)))
@[simp] theorem Jelg {p : Nums} : EqI (Jqlg p) (.seq (.seq (Jqlb p) (.cond (.t 14) .skip (.exit 0))) (.seq (.block 1 (Jqle p)) (Jqlf p))) := eqi
def Jtc2 (p : Nums) : IC := (.seq (.region [⟨(some 4), (.asg (.c (.d (.bool false)))), none, false⟩] []) (.seq (.seq (Jql9 p) (.cond (.t 10) (Jqla p) .skip)) (.seq (.seq (.region [⟨(some 5), (.asg (.c (.d (.int .i64 0)))), none, false⟩] []) (.block 0 (.loop (Jqlg p)))) (.seq (.region [⟨(some 4), (.asg (.c (.d (.bool true)))), none, false⟩] []) .ret))))
@[simp] def Jq8w (p : Nums) : List IOp := [qo 4 (.mov (.t 0)), qo 5 (.call p.slices_Clone_Pair [(.t 4)]), qo 3 (.asg (.t 5))]
def Jq8t (p : Nums) : IC := (.region (Jq8w p) [])
@[simp] theorem Je8t {p : Nums} : EqI (Jq8t p) (.region (Jq8w p) []) := eqi
@[simp] def Jq8x (p : Nums) : List IOp := [qo 6 (.mov (.t 3)), qo 7 (.call p.slices_SortFunc_Pair [(.t 6), (.c (.fn (.func p.pairset_compare) [] []))])]
def Jq8u (p : Nums) : IC := (.region (Jq8x p) [])
@[simp] theorem Je8u {p : Nums} : EqI (Jq8u p) (.region (Jq8x p) []) := eqi
@[simp] def Jq8y (p : Nums) : List IOp := [qo 8 (.mov (.t 3)), qo 9 (.call p.slices_Compact_Pair [(.t 8)]), qo 2 (.asg (.t 9))]
def Jq8v (p : Nums) : IC := (.region (Jq8y p) [])
@[simp] theorem Je8v {p : Nums} : EqI (Jq8v p) (.region (Jq8y p) []) := eqi
def Jtbb (p : Nums) : IC := (.seq (.region [⟨(some 2), (.asg (.c .nils)), none, false⟩] []) (.seq (Jq8t p) (.seq (Jq8u p) (.seq (Jq8v p) .ret))))
@[simp] def Jq8n (p : Nums) : List IOp := [qo 6 (.mov (.t 0)), qo 7 (.load (some 2) (.t 3)), qo 8 (.call p.pairset_find [(.t 6), (.t 7)]), qo 5 (.asg (.t 8))]
def Jq8l (p : Nums) : IC := (.region (Jq8n p) [])
@[simp] theorem Je8l {p : Nums} : EqI (Jq8l p) (.region (Jq8n p) []) := eqi
@[simp] def Jq8o (p : Nums) : List IOp := [qp 9 (.mov (.t 5)), qp 10 (.mov (.t 0)), qp 11 (.len (.t 10)), qo 12 (.bin .lss (.t 9) (.t 11)), qo 13 (.mov (.t 12)), ⟨(some 14), (.mov (.t 0)), (some (13, true)), true⟩, ⟨(some 15), (.mov (.t 5)), (some (13, true)), true⟩, ⟨(some 16), (.iaddr 2 (.t 14) (.t 15)), (some (13, true)), true⟩, ⟨(some 17), (.load (some 2) (.t 16)), (some (13, true)), true⟩, ⟨(some 18), (.load (some 2) (.t 3)), (some (13, true)), true⟩, ⟨(some 19), (.eqs false [.int, .int] (.t 17) (.t 18)), (some (13, true)), false⟩, qo 20 (.pick (.t 13) (.t 19) (.c (.d (.bool false)))), qo 4 (.asg (.t 20))]
def Jq8m (p : Nums) : IC := (.region (Jq8o p) [])
@[simp] theorem Je8m {p : Nums} : EqI (Jq8m p) (.region (Jq8o p) []) := eqi
def Jtb9 (p : Nums) : IC := (.seq (.region [⟨(some 3), (.box (.t 1)), none, false⟩, ⟨(some 4), (.asg (.c (.d (.bool false)))), none, false⟩] []) (.seq (Jq8l p) (.seq (Jq8m p) .ret)))
@[simp] def Jq87 (p : Nums) : List IOp := [qo 7 (.mov (.t 0)), qo 8 (.load (some 2) (.t 3)), qo 9 (.call p.pairset_find [(.t 7), (.t 8)]), qo 5 (.asg (.t 9))]
def Jq81 (p : Nums) : IC := (.region (Jq87 p) [])
@[simp] theorem Je81 {p : Nums} : EqI (Jq81 p) (.region (Jq87 p) []) := eqi
@[simp] def Jq88 (p : Nums) : List IOp := [qo 10 (.mov (.t 0)), qo 11 (.len (.t 10)), qo 12 (.bin .add (.t 11) (ci 1)), qo 13 (.mkslice 2 16 [(.int .i64 0), (.int .i64 0)] (ci 0) (.t 12)), qo 6 (.asg (.t 13))]
def Jq82 (p : Nums) : IC := (.region (Jq88 p) [])
@[simp] theorem Je82 {p : Nums} : EqI (Jq82 p) (.region (Jq88 p) []) := eqi
@[simp] def Jq89 (p : Nums) : List IOp := [qp 14 (.mov (.t 6)), qp 15 (.mov (.t 0)), qp 16 (.mov (.t 5)), qp 17 (.slc 2 (.t 15) none (some (.t 16))), qp 18 (.appq 2 16 (.t 14) (.t 17) 6), qp 19 (.load (some 2) (.t 3)), qp 20 (.bslice 2 1 [(.int .i64 0), (.int .i64 0)] [(0, (.t 19))]), qo 21 (.app 2 16 (.t 18) (.t 20)), qo 6 (.asg (.t 21))]
def Jq83 (p : Nums) : IC := (.region (Jq89 p) [41])
@[simp] theorem Je83 {p : Nums} : EqI (Jq83 p) (.region (Jq89 p) [41]) := eqi
@[simp] def Jq8a (p : Nums) : List IOp := [qp 22 (.mov (.t 5)), qp 23 (.mov (.t 0)), qp 24 (.len (.t 23)), qo 25 (.bin .lss (.t 22) (.t 24)), qo 26 (.mov (.t 25)), ⟨(some 27), (.mov (.t 0)), (some (26, true)), true⟩, ⟨(some 28), (.mov (.t 5)), (some (26, true)), true⟩, ⟨(some 29), (.iaddr 2 (.t 27) (.t 28)), (some (26, true)), true⟩, ⟨(some 30), (.load (some 2) (.t 29)), (some (26, true)), true⟩, ⟨(some 31), (.load (some 2) (.t 3)), (some (26, true)), true⟩, ⟨(some 32), (.eqs false [.int, .int] (.t 30) (.t 31)), (some (26, true)), false⟩, qo 33 (.pick (.t 26) (.t 32) (.c (.d (.bool false))))]
def Jq84 (p : Nums) : IC := (.region (Jq8a p) [])
@[simp] theorem Je84 {p : Nums} : EqI (Jq84 p) (.region (Jq8a p) []) := eqi
@[simp] def Jq8b (p : Nums) : List IOp := [qo 34 (.mov (.t 5)), qo 35 (.bin .add (.t 34) (ci 1)), qo 5 (.asg (.t 35))]
def Jq85 (p : Nums) : IC := (.region (Jq8b p) [])
@[simp] theorem Je85 {p : Nums} : EqI (Jq85 p) (.region (Jq8b p) []) := eqi
@[simp] def Jq8c (p : Nums) : List IOp := [qo 36 (.mov (.t 6)), qo 37 (.mov (.t 0)), qo 38 (.mov (.t 5)), qo 39 (.slc 2 (.t 37) (some (.t 38)) none), qo 40 (.app 2 16 (.t 36) (.t 39)), qo 4 (.asg (.t 40))]
def Jq86 (p : Nums) : IC := (.region (Jq8c p) [])
@[simp] theorem Je86 {p : Nums} : EqI (Jq86 p) (.region (Jq8c p) []) := eqi
def Jtb4 (p : Nums) : IC := (.seq (.region [⟨(some 3), (.box (.t 1)), none, false⟩, ⟨(some 4), (.asg (.c .nils)), none, false⟩] []) (.seq (Jq81 p) (.seq (Jq82 p) (.seq (Jq83 p) (.seq (.seq (Jq84 p) (.cond (.t 33) (Jq85 p) .skip)) (.seq (Jq86 p) .ret))))))
@[simp] def Jq9c (p : Nums) : List IOp := [qo 7 (.mov (.t 0)), qo 8 (.len (.t 7)), qo 9 (.mov (.t 1)), qo 10 (.len (.t 9)), qo 11 (.bin .add (.t 8) (.t 10)), qo 12 (.mkslice 2 16 [(.int .i64 0), (.int .i64 0)] (ci 0) (.t 11)), qo 5 (.asg (.t 12))]
def Jq8z (p : Nums) : IC := (.region (Jq9c p) [])
@[simp] theorem Je8z {p : Nums} : EqI (Jq8z p) (.region (Jq9c p) []) := eqi
@[simp] def Jq9f (p : Nums) : List IOp := [qo 13 (.mov (.t 0)), qo 14 (.len (.t 13)), qo 15 (.bin .gtr (.t 14) (ci 0)), qo 16 (.mov (.t 15)), ⟨(some 17), (.mov (.t 1)), (some (16, true)), false⟩, ⟨(some 18), (.len (.t 17)), (some (16, true)), false⟩, ⟨(some 19), (.bin .gtr (.t 18) (ci 0)), (some (16, true)), false⟩, qo 20 (.pick (.t 16) (.t 19) (.c (.d (.bool false))))]
def Jq94 (p : Nums) : IC := (.region (Jq9f p) [])
@[simp] theorem Je94 {p : Nums} : EqI (Jq94 p) (.region (Jq9f p) []) := eqi
@[simp] def Jq9g (p : Nums) : List IOp := [qo 21 (.mov (.t 0)), qo 22 (.iaddr 2 (.t 21) (ci 0)), qo 23 (.load (some 2) (.t 22)), qo 6 (.alloc [(zi 0), (zi 0)]), qn (.store 2 (.t 6) (.t 23))]
def Jq95 (p : Nums) : IC := (.region (Jq9g p) [])
@[simp] theorem Je95 {p : Nums} : EqI (Jq95 p) (.region (Jq9g p) []) := eqi
@[simp] def Jq9h (p : Nums) : List IOp := [qp 24 (.mov (.t 1)), qp 25 (.iaddr 2 (.t 24) (ci 0)), qp 26 (.load (some 2) (.t 25)), qp 27 (.load (some 2) (.t 6)), qo 28 (.call p.pairset_Less [(.t 26), (.t 27)])]
def Jq96 (p : Nums) : IC := (.region (Jq9h p) [])
@[simp] theorem Je96 {p : Nums} : EqI (Jq96 p) (.region (Jq9h p) []) := eqi
@[simp] def Jq9i (p : Nums) : List IOp := [qo 29 (.mov (.t 1)), qo 30 (.iaddr 2 (.t 29) (ci 0)), qo 31 (.load (some 2) (.t 30)), qn (.store 2 (.t 6) (.t 31))]
def Jq97 (p : Nums) : IC := (.region (Jq9i p) [])
@[simp] theorem Je97 {p : Nums} : EqI (Jq97 p) (.region (Jq9i p) []) := eqi
@[simp] def Jq9j (p : Nums) : List IOp := [qo 32 (.mov (.t 5)), qo 33 (.load (some 2) (.t 6)), qo 34 (.bslice 2 1 [(.int .i64 0), (.int .i64 0)] [(0, (.t 33))]), qo 35 (.app 2 16 (.t 32) (.t 34)), qo 5 (.asg (.t 35))]
def Jq98 (p : Nums) : IC := (.region (Jq9j p) [])
@[simp] theorem Je98 {p : Nums} : EqI (Jq98 p) (.region (Jq9j p) []) := eqi
@[simp] def Jq9k (p : Nums) : List IOp := [qp 36 (.mov (.t 0)), qp 37 (.iaddr 2 (.t 36) (ci 0)), qp 38 (.load (some 2) (.t 37)), qp 39 (.load (some 2) (.t 6)), qo 40 (.eqs false [.int, .int] (.t 38) (.t 39))]
def Jq99 (p : Nums) : IC := (.region (Jq9k p) [])
@[simp] theorem Je99 {p : Nums} : EqI (Jq99 p) (.region (Jq9k p) []) := eqi
@[simp] def Jq9l (p : Nums) : List IOp := [qo 41 (.mov (.t 0)), qo 42 (.slc 2 (.t 41) (some (ci 1)) none), qo 0 (.asg (.t 42))]
def Jq9a (p : Nums) : IC := (.region (Jq9l p) [])
@[simp] theorem Je9a {p : Nums} : EqI (Jq9a p) (.region (Jq9l p) []) := eqi
@[simp] def Jq9m (p : Nums) : List IOp := [qp 43 (.mov (.t 1)), qp 44 (.iaddr 2 (.t 43) (ci 0)), qp 45 (.load (some 2) (.t 44)), qp 46 (.load (some 2) (.t 6)), qo 47 (.eqs false [.int, .int] (.t 45) (.t 46))]
def Jq9b (p : Nums) : IC := (.region (Jq9m p) [])
@[simp] theorem Je9b {p : Nums} : EqI (Jq9b p) (.region (Jq9m p) []) := eqi
@[simp] def Jq9d (p : Nums) : List IOp := [qo 48 (.mov (.t 1)), qo 49 (.slc 2 (.t 48) (some (ci 1)) none), qo 1 (.asg (.t 49))]
def Jq90 (p : Nums) : IC := (.region (Jq9d p) [])
@[simp] theorem Je90 {p : Nums} : EqI (Jq90 p) (.region (Jq9d p) []) := eqi
def Jq91 (p : Nums) : IC := (.seq (Jq95 p) (.seq (.seq (Jq96 p) (.cond (.t 28) (Jq97 p) .skip)) (.seq (Jq98 p) (.seq (.seq (Jq99 p) (.cond (.t 40) (Jq9a p) .skip)) (.seq (Jq9b p) (.cond (.t 47) (Jq90 p) .skip))))))
@[simp] theorem Je91 {p : Nums} : EqI (Jq91 p) (.seq (Jq95 p) (.seq (.seq (Jq96 p) (.cond (.t 28) (Jq97 p) .skip)) (.seq (Jq98 p) (.seq (.seq (Jq99 p) (.cond (.t 40) (Jq9a p) .skip)) (.seq (Jq9b p) (.cond (.t 47) (Jq90 p) .skip)))))) := eqi
def Jq92 (p : Nums) : IC := (.seq (.seq (Jq94 p) (.cond (.t 20) .skip (.exit 0))) (.block 1 (Jq91 p)))
@[simp] theorem Je92 {p : Nums} : EqI (Jq92 p) (.seq (.seq (Jq94 p) (.cond (.t 20) .skip (.exit 0))) (.block 1 (Jq91 p))) := eqi
@[simp] def Jq9e (p : Nums) : List IOp := [qo 50 (.mov (.t 5)), qo 51 (.mov (.t 0)), qo 52 (.app 2 16 (.t 50) (.t 51)), qo 53 (.mov (.t 1)), qo 54 (.app 2 16 (.t 52) (.t 53)), qo 4 (.asg (.t 54))]
def Jq93 (p : Nums) : IC := (.region (Jq9e p) [])
@[simp] theorem Je93 {p : Nums} : EqI (Jq93 p) (.region (Jq9e p) []) := eqi
def Jtbc (p : Nums) : IC := (.seq (.region [⟨(some 4), (.asg (.c .nils)), none, false⟩] []) (.seq (Jq8z p) (.seq (.block 0 (.loop (Jq92 p))) (.seq (Jq93 p) .ret))))
@[simp] def Jq8r (p : Nums) : List IOp := [qo 2 (.box (.t 0)), qo 3 (.box (.t 1)), qo 4 (.asg (.c (.d (.bool false))))]
def Jq8p (p : Nums) : IC := (.region (Jq8r p) [])
@[simp] theorem Je8p {p : Nums} : EqI (Jq8p p) (.region (Jq8r p) []) := eqi
@[simp] def Jq8s (p : Nums) : List IOp := [qo 5 (.faddr 0 (.t 2)), qo 6 (.load none (.t 5)), qo 7 (.faddr 0 (.t 3)), qo 8 (.load none (.t 7)), qo 9 (.bin .lss (.t 6) (.t 8)), qo 10 (.mov (.t 9)), ⟨(some 11), (.faddr 0 (.t 2)), (some (10, false)), false⟩, ⟨(some 12), (.load none (.t 11)), (some (10, false)), false⟩, ⟨(some 13), (.faddr 0 (.t 3)), (some (10, false)), false⟩, ⟨(some 14), (.load none (.t 13)), (some (10, false)), false⟩, ⟨(some 15), (.bin .eql (.t 12) (.t 14)), (some (10, false)), false⟩, ⟨(some 16), (.mov (.t 15)), (some (10, false)), false⟩, ⟨(some 17), (.faddr 1 (.t 2)), (some (16, true)), false⟩, ⟨(some 18), (.load none (.t 17)), (some (16, true)), false⟩, ⟨(some 19), (.faddr 1 (.t 3)), (some (16, true)), false⟩, ⟨(some 20), (.load none (.t 19)), (some (16, true)), false⟩, ⟨(some 21), (.bin .lss (.t 18) (.t 20)), (some (16, true)), false⟩, ⟨(some 22), (.pick (.t 16) (.t 21) (.c (.d (.bool false)))), (some (10, false)), false⟩, qo 23 (.pick (.t 10) (.c (.d (.bool true))) (.t 22)), qo 4 (.asg (.t 23))]
def Jq8q (p : Nums) : IC := (.region (Jq8s p) [])
@[simp] theorem Je8q {p : Nums} : EqI (Jq8q p) (.region (Jq8s p) []) := eqi
def Jtba (p : Nums) : IC := (.seq (Jq8p p) (.seq (Jq8q p) .ret))
@[simp] def Jqe6 (p : Nums) : List IOp := [qo 8 (.faddr 0 (.t 1)), qo 9 (.load none (.t 8)), qo 10 (.bin .lss (.t 9) (ci 0)), qo 11 (.mov (.t 10)), ⟨(some 12), (.faddr 0 (.t 1)), (some (11, false)), false⟩, ⟨(some 13), (.load none (.t 12)), (some (11, false)), false⟩, ⟨(some 14), (.faddr 1 (.t 1)), (some (11, false)), false⟩, ⟨(some 15), (.load none (.t 14)), (some (11, false)), false⟩, ⟨(some 16), (.bin .gtr (.t 13) (.t 15)), (some (11, false)), false⟩, qo 17 (.pick (.t 11) (.c (.d (.bool true))) (.t 16))]
def Jqdl (p : Nums) : IC := (.region (Jqe6 p) [])
@[simp] theorem Jedl {p : Nums} : EqI (Jqdl p) (.region (Jqe6 p) []) := eqi
def Jqdw (p : Nums) : IC := (.seq (.region [⟨(some 2), (.asg (.c (.d (.int .i64 9)))), none, false⟩] []) .ret)
@[simp] theorem Jedw {p : Nums} : EqI (Jqdw p) (.seq (.region [⟨(some 2), (.asg (.c (.d (.int .i64 9)))), none, false⟩] []) .ret) := eqi
@[simp] def Jqed (p : Nums) : List IOp := [qo 18 (.faddr 1 (.t 1)), qo 19 (.load none (.t 18)), qo 20 (.bin .gtr (.t 19) (ci 1048576))]
def Jqdz (p : Nums) : IC := (.region (Jqed p) [])
@[simp] theorem Jedz {p : Nums} : EqI (Jqdz p) (.region (Jqed p) []) := eqi
def Jqe0 (p : Nums) : IC := (.seq (.region [⟨(some 2), (.asg (.c (.d (.int .i64 6)))), none, false⟩] []) .ret)
@[simp] theorem Jee0 {p : Nums} : EqI (Jqe0 p) (.seq (.region [⟨(some 2), (.asg (.c (.d (.int .i64 6)))), none, false⟩] []) .ret) := eqi
@[simp] def Jqee (p : Nums) : List IOp := [qo 21 (.faddr 2 (.t 1)), qo 22 (.load none (.t 21)), qo 23 (.len (.t 22)), qo 24 (.bin .eql (.t 23) (ci 0))]
def Jqe1 (p : Nums) : IC := (.region (Jqee p) [])
@[simp] theorem Jee1 {p : Nums} : EqI (Jqe1 p) (.region (Jqee p) []) := eqi
def Jqe2 (p : Nums) : IC := (.seq (.region [⟨(some 2), (.asg (.c (.d (.int .i64 14)))), none, false⟩] []) .ret)
@[simp] theorem Jee2 {p : Nums} : EqI (Jqe2 p) (.seq (.region [⟨(some 2), (.asg (.c (.d (.int .i64 14)))), none, false⟩] []) .ret) := eqi
@[simp] def Jqef (p : Nums) : List IOp := [qo 25 (.faddr 2 (.t 1)), qo 26 (.load none (.t 25)), qo 27 (.len (.t 26)), qo 28 (.bin .gtr (.t 27) (ci 1048576)), qo 29 (.mov (.t 28)), ⟨(some 30), (.load (some 3) (.t 1)), (some (29, false)), false⟩, ⟨(some 31), (.call p.ref07_Code [(.t 30)]), (some (29, false)), false⟩, ⟨(some 32), (.bin .gtr (.t 31) (ci 1048576)), (some (29, false)), false⟩, qo 33 (.pick (.t 29) (.c (.d (.bool true))) (.t 32))]
def Jqe3 (p : Nums) : IC := (.region (Jqef p) [])
@[simp] theorem Jee3 {p : Nums} : EqI (Jqe3 p) (.region (Jqef p) []) := eqi
def Jqe4 (p : Nums) : IC := (.seq (.region [⟨(some 2), (.asg (.c (.d (.int .i64 6)))), none, false⟩] []) .ret)
@[simp] theorem Jee4 {p : Nums} : EqI (Jqe4 p) (.seq (.region [⟨(some 2), (.asg (.c (.d (.int .i64 6)))), none, false⟩] []) .ret) := eqi
@[simp] def Jqeg (p : Nums) : List IOp := [qo 34 (.mov (.t 3)), qo 35 (.faddr 2 (.t 1)), qo 36 (.load none (.t 35)), qo 37 (.len (.t 36)), qo 38 (.bin .lss (.t 34) (.t 37))]
def Jqe5 (p : Nums) : IC := (.region (Jqeg p) [])
@[simp] theorem Jee5 {p : Nums} : EqI (Jqe5 p) (.region (Jqeg p) []) := eqi
@[simp] def Jqe7 (p : Nums) : List IOp := [qo 41 (.faddr 2 (.t 1)), qo 42 (.load none (.t 41)), qo 43 (.mov (.t 3)), qo 44 (.iaddr 5 (.t 42) (.t 43)), qo 45 (.load (some 5) (.t 44)), qo 4 (.alloc [.nils, (zi 0), (zi 0), (zi 0), (zi 0)]), qn (.store 5 (.t 4) (.t 45))]
def Jqdm (p : Nums) : IC := (.region (Jqe7 p) [])
@[simp] theorem Jedm {p : Nums} : EqI (Jqdm p) (.region (Jqe7 p) []) := eqi
@[simp] def Jqe8 (p : Nums) : List IOp := [qo 46 (.mov (.t 5)), qo 47 (.faddr 0 (.t 4)), qo 48 (.load none (.t 47)), qo 49 (.len (.t 48)), qo 50 (.bin .lss (.t 46) (.t 49))]
def Jqdn (p : Nums) : IC := (.region (Jqe8 p) [])
@[simp] theorem Jedn {p : Nums} : EqI (Jqdn p) (.region (Jqe8 p) []) := eqi
@[simp] def Jqe9 (p : Nums) : List IOp := [qp 53 (.faddr 0 (.t 4)), qp 54 (.load none (.t 53)), qp 55 (.mov (.t 5)), qp 56 (.iaddr 5 (.t 54) (.t 55)), qp 57 (.load (some 5) (.t 56)), qp 58 (.faddr 1 (.t 1)), qp 59 (.load none (.t 58)), qo 60 (.call p.ref07_Instr [(.t 57), (.t 59)]), qo 6 (.asg (.t 60))]
def Jqdo (p : Nums) : IC := (.region (Jqe9 p) [])
@[simp] theorem Jedo {p : Nums} : EqI (Jqdo p) (.region (Jqe9 p) []) := eqi
def Jqdp (p : Nums) : IC := (.seq (.region [⟨(some 63), (.mov (.t 6)), none, false⟩, ⟨(some 2), (.asg (.t 63)), none, false⟩] []) .ret)
@[simp] theorem Jedp {p : Nums} : EqI (Jqdp p) (.seq (.region [⟨(some 63), (.mov (.t 6)), none, false⟩, ⟨(some 2), (.asg (.t 63)), none, false⟩] []) .ret) := eqi
def Jqdq (p : Nums) : IC := (.seq (Jqdo p) (.seq (.region [⟨(some 61), (.mov (.t 6)), none, false⟩, ⟨(some 62), (.bin .neq (.t 61) (.c (.d (.int .i64 0)))), none, false⟩] []) (.cond (.t 62) (Jqdp p) .skip)))
@[simp] theorem Jedq {p : Nums} : EqI (Jqdq p) (.seq (Jqdo p) (.seq (.region [⟨(some 61), (.mov (.t 6)), none, false⟩, ⟨(some 62), (.bin .neq (.t 61) (.c (.d (.int .i64 0)))), none, false⟩] []) (.cond (.t 62) (Jqdp p) .skip))) := eqi
@[simp] def Jqea (p : Nums) : List IOp := [qo 51 (.mov (.t 5)), qo 52 (.bin .add (.t 51) (ci 1)), qo 5 (.asg (.t 52))]
def Jqdr (p : Nums) : IC := (.region (Jqea p) [])
@[simp] theorem Jedr {p : Nums} : EqI (Jqdr p) (.region (Jqea p) []) := eqi
def Jqds (p : Nums) : IC := (.seq (.seq (Jqdn p) (.cond (.t 50) .skip (.exit 2))) (.seq (.block 3 (Jqdq p)) (Jqdr p)))
@[simp] theorem Jeds {p : Nums} : EqI (Jqds p) (.seq (.seq (Jqdn p) (.cond (.t 50) .skip (.exit 2))) (.seq (.block 3 (Jqdq p)) (Jqdr p))) := eqi
@[simp] def Jqeb (p : Nums) : List IOp := [qo 64 (.faddr 1 (.t 4)), qo 65 (.load (some 4) (.t 64)), qo 66 (.faddr 1 (.t 1)), qo 67 (.load none (.t 66)), qo 68 (.faddr 2 (.t 1)), qo 69 (.load none (.t 68)), qo 70 (.len (.t 69)), qo 71 (.call p.ref07_Term [(.t 65), (.t 67), (.t 70)]), qo 7 (.asg (.t 71))]
def Jqdt (p : Nums) : IC := (.region (Jqeb p) [])
@[simp] theorem Jedt {p : Nums} : EqI (Jqdt p) (.region (Jqeb p) []) := eqi
def Jqdu (p : Nums) : IC := (.seq (.region [⟨(some 74), (.mov (.t 7)), none, false⟩, ⟨(some 2), (.asg (.t 74)), none, false⟩] []) .ret)
@[simp] theorem Jedu {p : Nums} : EqI (Jqdu p) (.seq (.region [⟨(some 74), (.mov (.t 7)), none, false⟩, ⟨(some 2), (.asg (.t 74)), none, false⟩] []) .ret) := eqi
def Jqdv (p : Nums) : IC := (.seq (Jqdm p) (.seq (.seq (.region [⟨(some 5), (.asg (.c (.d (.int .i64 0)))), none, false⟩] []) (.block 2 (.loop (Jqds p)))) (.seq (Jqdt p) (.seq (.region [⟨(some 72), (.mov (.t 7)), none, false⟩, ⟨(some 73), (.bin .neq (.t 72) (.c (.d (.int .i64 0)))), none, false⟩] []) (.cond (.t 73) (Jqdu p) .skip)))))
@[simp] theorem Jedv {p : Nums} : EqI (Jqdv p) (.seq (Jqdm p) (.seq (.seq (.region [⟨(some 5), (.asg (.c (.d (.int .i64 0)))), none, false⟩] []) (.block 2 (.loop (Jqds p)))) (.seq (Jqdt p) (.seq (.region [⟨(some 72), (.mov (.t 7)), none, false⟩, ⟨(some 73), (.bin .neq (.t 72) (.c (.d (.int .i64 0)))), none, false⟩] []) (.cond (.t 73) (Jqdu p) .skip))))) := eqi
@[simp] def Jqec (p : Nums) : List IOp := [qo 39 (.mov (.t 3)), qo 40 (.bin .add (.t 39) (ci 1)), qo 3 (.asg (.t 40))]
def Jqdx (p : Nums) : IC := (.region (Jqec p) [])
@[simp] theorem Jedx {p : Nums} : EqI (Jqdx p) (.region (Jqec p) []) := eqi
def Jqdy (p : Nums) : IC := (.seq (.seq (Jqe5 p) (.cond (.t 38) .skip (.exit 0))) (.seq (.block 1 (Jqdv p)) (Jqdx p)))
@[simp] theorem Jedy {p : Nums} : EqI (Jqdy p) (.seq (.seq (Jqe5 p) (.cond (.t 38) .skip (.exit 0))) (.seq (.block 1 (Jqdv p)) (Jqdx p))) := eqi
def Jtbo (p : Nums) : IC := (.seq (.region [⟨(some 1), (.box (.t 0)), none, false⟩, ⟨(some 2), (.asg (.c (.d (.int .i64 0)))), none, false⟩] []) (.seq (.seq (Jqdl p) (.cond (.t 17) (Jqdw p) .skip)) (.seq (.seq (Jqdz p) (.cond (.t 20) (Jqe0 p) .skip)) (.seq (.seq (Jqe1 p) (.cond (.t 24) (Jqe2 p) .skip)) (.seq (.seq (Jqe3 p) (.cond (.t 33) (Jqe4 p) .skip)) (.seq (.seq (.region [⟨(some 3), (.asg (.c (.d (.int .i64 0)))), none, false⟩] []) (.block 0 (.loop (Jqdy p)))) (.seq (.region [⟨(some 2), (.asg (.c (.d (.int .i64 0)))), none, false⟩] []) .ret)))))))
@[simp] def Jqis (p : Nums) : List IOp := [qo 2 (.box (.t 0)), qo 3 (.box (.t 1)), qo 4 (.alloc [(zi 0), (zi 0), (zi 0), (zi 0), .nils, .nils, .nils, (zi 0)])]
def Jqi5 (p : Nums) : IC := (.region (Jqis p) [])
@[simp] theorem Jei5 {p : Nums} : EqI (Jqi5 p) (.region (Jqis p) []) := eqi
@[simp] def Jqj0 (p : Nums) : List IOp := [qo 10 (.load (some 8) (.t 3)), qo 11 (.call p.ref09_Copy [(.t 10)]), qo 5 (.alloc [(zi 0), (zi 0), (zi 0), (zi 0), .nils, .nils, .nils, (zi 0)]), qn (.store 8 (.t 5) (.t 11))]
def Jqig (p : Nums) : IC := (.region (Jqj0 p) [])
@[simp] theorem Jeig {p : Nums} : EqI (Jqig p) (.region (Jqj0 p) []) := eqi
@[simp] def Jqj4 (p : Nums) : List IOp := [qo 12 (.faddr 0 (.t 3)), qo 13 (.load none (.t 12)), qo 14 (.bin .neq (.t 13) (ci 0))]
def Jqil (p : Nums) : IC := (.region (Jqj4 p) [])
@[simp] theorem Jeil {p : Nums} : EqI (Jqil p) (.region (Jqj4 p) []) := eqi
def Jqim (p : Nums) : IC := (.seq (.region [⟨(some 15), (.load (some 8) (.t 5)), none, false⟩, ⟨none, (.store 8 (.t 4) (.t 15)), none, false⟩] []) .ret)
@[simp] theorem Jeim {p : Nums} : EqI (Jqim p) (.seq (.region [⟨(some 15), (.load (some 8) (.t 5)), none, false⟩, ⟨none, (.store 8 (.t 4) (.t 15)), none, false⟩] []) .ret) := eqi
@[simp] def Jqj5 (p : Nums) : List IOp := [qo 16 (.faddr 2 (.t 2)), qo 17 (.load none (.t 16)), qo 18 (.faddr 1 (.t 3)), qo 19 (.load none (.t 18)), qo 20 (.iaddr 5 (.t 17) (.t 19)), qo 21 (.load (some 5) (.t 20)), qo 6 (.alloc [.nils, (zi 0), (zi 0), (zi 0), (zi 0)]), qn (.store 5 (.t 6) (.t 21))]
def Jqin (p : Nums) : IC := (.region (Jqj5 p) [])
@[simp] theorem Jein {p : Nums} : EqI (Jqin p) (.region (Jqj5 p) []) := eqi
@[simp] def Jqj6 (p : Nums) : List IOp := [qo 22 (.faddr 2 (.t 3)), qo 23 (.load none (.t 22)), qo 24 (.faddr 0 (.t 6)), qo 25 (.load none (.t 24)), qo 26 (.len (.t 25)), qo 27 (.bin .eql (.t 23) (.t 26))]
def Jqio (p : Nums) : IC := (.region (Jqj6 p) [])
@[simp] theorem Jeio {p : Nums} : EqI (Jqio p) (.region (Jqj6 p) []) := eqi
@[simp] def Jqj7 (p : Nums) : List IOp := [qo 28 (.faddr 7 (.t 5)), qo 29 (.load none (.t 28)), qo 30 (.bin .add (.t 29) (ci 1)), qo 31 (.faddr 7 (.t 5)), qn (.store 1 (.t 31) (.t 30))]
def Jqip (p : Nums) : IC := (.region (Jqj7 p) [])
@[simp] theorem Jeip {p : Nums} : EqI (Jqip p) (.region (Jqj7 p) []) := eqi
@[simp] def Jqj8 (p : Nums) : List IOp := [qo 32 (.faddr 1 (.t 6)), qo 33 (.faddr 0 (.t 32)), qo 34 (.load none (.t 33)), qo 35 (.bin .eql (.t 34) (ci 3))]
def Jqiq (p : Nums) : IC := (.region (Jqj8 p) [])
@[simp] theorem Jeiq {p : Nums} : EqI (Jqiq p) (.region (Jqj8 p) []) := eqi
@[simp] def Jqj9 (p : Nums) : List IOp := [qo 37 (.faddr 4 (.t 3)), qo 38 (.load none (.t 37)), qo 39 (.faddr 1 (.t 6)), qo 40 (.faddr 1 (.t 39)), qo 41 (.load none (.t 40)), qo 42 (.iaddr 1 (.t 38) (.t 41)), qo 43 (.load none (.t 42)), qo 44 (.faddr 3 (.t 5)), qn (.store 1 (.t 44) (.t 43))]
def Jqir (p : Nums) : IC := (.region (Jqj9 p) [])
@[simp] theorem Jeir {p : Nums} : EqI (Jqir p) (.region (Jqj9 p) []) := eqi
def Jqi6 (p : Nums) : IC := (.seq (.region [⟨(some 36), (.faddr 0 (.t 5)), none, false⟩, ⟨none, (.store 1 (.t 36) (.c (.d (.int .i64 1)))), none, false⟩] []) (.seq (Jqir p) (.seq (.region [⟨(some 45), (.load (some 8) (.t 5)), none, false⟩, ⟨none, (.store 8 (.t 4) (.t 45)), none, false⟩] []) .ret)))
@[simp] theorem Jei6 {p : Nums} : EqI (Jqi6 p) (.seq (.region [⟨(some 36), (.faddr 0 (.t 5)), none, false⟩, ⟨none, (.store 1 (.t 36) (.c (.d (.int .i64 1)))), none, false⟩] []) (.seq (Jqir p) (.seq (.region [⟨(some 45), (.load (some 8) (.t 5)), none, false⟩, ⟨none, (.store 8 (.t 4) (.t 45)), none, false⟩] []) .ret))) := eqi
@[simp] def Jqit (p : Nums) : List IOp := [qo 46 (.faddr 1 (.t 6)), qo 47 (.faddr 2 (.t 46)), qo 48 (.load none (.t 47)), qo 49 (.faddr 1 (.t 5)), qn (.store 1 (.t 49) (.t 48))]
def Jqi7 (p : Nums) : IC := (.region (Jqit p) [])
@[simp] theorem Jei7 {p : Nums} : EqI (Jqi7 p) (.region (Jqit p) []) := eqi
@[simp] def Jqiu (p : Nums) : List IOp := [qo 50 (.faddr 1 (.t 6)), qo 51 (.faddr 0 (.t 50)), qo 52 (.load none (.t 51)), qo 53 (.bin .eql (.t 52) (ci 2)), qo 54 (.mov (.t 53)), ⟨(some 55), (.faddr 4 (.t 3)), (some (54, true)), false⟩, ⟨(some 56), (.load none (.t 55)), (some (54, true)), false⟩, ⟨(some 57), (.faddr 1 (.t 6)), (some (54, true)), false⟩, ⟨(some 58), (.faddr 1 (.t 57)), (some (54, true)), false⟩, ⟨(some 59), (.load none (.t 58)), (some (54, true)), false⟩, ⟨(some 60), (.iaddr 1 (.t 56) (.t 59)), (some (54, true)), false⟩, ⟨(some 61), (.load none (.t 60)), (some (54, true)), false⟩, ⟨(some 62), (.bin .eql (.t 61) (ci 0)), (some (54, true)), false⟩, qo 63 (.pick (.t 54) (.t 62) (.c (.d (.bool false))))]
def Jqi8 (p : Nums) : IC := (.region (Jqiu p) [])
@[simp] theorem Jei8 {p : Nums} : EqI (Jqi8 p) (.region (Jqiu p) []) := eqi
@[simp] def Jqiv (p : Nums) : List IOp := [qo 64 (.faddr 1 (.t 6)), qo 65 (.faddr 3 (.t 64)), qo 66 (.load none (.t 65)), qo 67 (.faddr 1 (.t 5)), qn (.store 1 (.t 67) (.t 66))]
def Jqi9 (p : Nums) : IC := (.region (Jqiv p) [])
@[simp] theorem Jei9 {p : Nums} : EqI (Jqi9 p) (.region (Jqiv p) []) := eqi
def Jqia (p : Nums) : IC := (.seq (Jqip p) (.seq (.seq (Jqiq p) (.cond (.t 35) (Jqi6 p) .skip)) (.seq (Jqi7 p) (.seq (.seq (Jqi8 p) (.cond (.t 63) (Jqi9 p) .skip)) (.seq (.region [⟨(some 68), (.faddr 2 (.t 5)), none, false⟩, ⟨none, (.store 1 (.t 68) (.c (.d (.int .i64 0)))), none, false⟩] []) (.seq (.region [⟨(some 69), (.load (some 8) (.t 5)), none, false⟩, ⟨none, (.store 8 (.t 4) (.t 69)), none, false⟩] []) .ret))))))
@[simp] theorem Jeia {p : Nums} : EqI (Jqia p) (.seq (Jqip p) (.seq (.seq (Jqiq p) (.cond (.t 35) (Jqi6 p) .skip)) (.seq (Jqi7 p) (.seq (.seq (Jqi8 p) (.cond (.t 63) (Jqi9 p) .skip)) (.seq (.region [⟨(some 68), (.faddr 2 (.t 5)), none, false⟩, ⟨none, (.store 1 (.t 68) (.c (.d (.int .i64 0)))), none, false⟩] []) (.seq (.region [⟨(some 69), (.load (some 8) (.t 5)), none, false⟩, ⟨none, (.store 8 (.t 4) (.t 69)), none, false⟩] []) .ret)))))) := eqi
@[simp] def Jqiw (p : Nums) : List IOp := [qo 70 (.faddr 0 (.t 6)), qo 71 (.load none (.t 70)), qo 72 (.faddr 2 (.t 3)), qo 73 (.load none (.t 72)), qo 74 (.iaddr 5 (.t 71) (.t 73)), qo 75 (.load (some 5) (.t 74)), qo 7 (.alloc [(zi 0), (zi 0), (zi 0), (zi 0), (zi 0)]), qn (.store 5 (.t 7) (.t 75))]
def Jqib (p : Nums) : IC := (.region (Jqiw p) [])
@[simp] theorem Jeib {p : Nums} : EqI (Jqib p) (.region (Jqiw p) []) := eqi
@[simp] def Jqix (p : Nums) : List IOp := [qo 76 (.faddr 0 (.t 7)), qo 77 (.load none (.t 76)), qo 78 (.bin .eql (.t 77) (ci 17))]
def Jqic (p : Nums) : IC := (.region (Jqix p) [])
@[simp] theorem Jeic {p : Nums} : EqI (Jqic p) (.region (Jqix p) []) := eqi
@[simp] def Jqiy (p : Nums) : List IOp := [qp 79 (.faddr 6 (.t 5)), qp 80 (.load none (.t 79)), qp 81 (.faddr 4 (.t 3)), qp 82 (.load none (.t 81)), qp 83 (.faddr 2 (.t 7)), qp 84 (.load none (.t 83)), qp 85 (.iaddr 1 (.t 82) (.t 84)), qp 86 (.load none (.t 85)), qp 87 (.bslice 1 1 [(.int .i64 0)] [(0, (.t 86))]), qo 88 (.app 1 8 (.t 80) (.t 87)), qo 89 (.faddr 6 (.t 5)), qn (.store 1 (.t 89) (.t 88))]
def Jqid (p : Nums) : IC := (.region (Jqiy p) [])
@[simp] theorem Jeid {p : Nums} : EqI (Jqid p) (.region (Jqiy p) []) := eqi
@[simp] def Jqiz (p : Nums) : List IOp := [qp 91 (.faddr 0 (.t 7)), qp 92 (.load none (.t 91)), qp 93 (.faddr 4 (.t 3)), qp 94 (.load none (.t 93)), qp 95 (.faddr 2 (.t 7)), qp 96 (.load none (.t 95)), qp 97 (.iaddr 1 (.t 94) (.t 96)), qp 98 (.load none (.t 97)), qp 99 (.faddr 4 (.t 3)), qp 100 (.load none (.t 99)), qp 101 (.faddr 3 (.t 7)), qp 102 (.load none (.t 101)), qp 103 (.iaddr 1 (.t 100) (.t 102)), qp 104 (.load none (.t 103)), qp 105 (.faddr 4 (.t 7)), qp 106 (.load none (.t 105)), qo 107 (.call p.ref06_Eval [(.t 92), (.t 98), (.t 104), (.t 106)]), qo 90 (.mov (.t 107)), qp 108 (.ext (.t 90) 0), qp 109 (.ext (.t 90) 1), qp 8 (.asg (.t 108)), qo 9 (.asg (.t 109))]
def Jqie (p : Nums) : IC := (.region (Jqiz p) [])
@[simp] theorem Jeie {p : Nums} : EqI (Jqie p) (.region (Jqiz p) []) := eqi
def Jqif (p : Nums) : IC := (.seq (.region [⟨(some 112), (.faddr 0 (.t 5)), none, false⟩, ⟨none, (.store 1 (.t 112) (.c (.d (.int .i64 2)))), none, false⟩] []) (.seq (.region [⟨(some 113), (.load (some 8) (.t 5)), none, false⟩, ⟨none, (.store 8 (.t 4) (.t 113)), none, false⟩] []) .ret))
@[simp] theorem Jeif {p : Nums} : EqI (Jqif p) (.seq (.region [⟨(some 112), (.faddr 0 (.t 5)), none, false⟩, ⟨none, (.store 1 (.t 112) (.c (.d (.int .i64 2)))), none, false⟩] []) (.seq (.region [⟨(some 113), (.load (some 8) (.t 5)), none, false⟩, ⟨none, (.store 8 (.t 4) (.t 113)), none, false⟩] []) .ret)) := eqi
@[simp] def Jqj1 (p : Nums) : List IOp := [qo 114 (.faddr 4 (.t 5)), qo 115 (.load none (.t 114)), qo 116 (.faddr 1 (.t 7)), qo 117 (.load none (.t 116)), qo 118 (.mov (.t 8)), qo 119 (.iaddr 1 (.t 115) (.t 117)), qn (.store 1 (.t 119) (.t 118))]
def Jqih (p : Nums) : IC := (.region (Jqj1 p) [])
@[simp] theorem Jeih {p : Nums} : EqI (Jqih p) (.region (Jqj1 p) []) := eqi
def Jqii (p : Nums) : IC := (.seq (Jqie p) (.seq (.seq (.region [⟨(some 110), (.mov (.t 9)), none, false⟩, ⟨(some 111), (.un .not (.t 110)), none, false⟩] []) (.cond (.t 111) (Jqif p) .skip)) (Jqih p)))
@[simp] theorem Jeii {p : Nums} : EqI (Jqii p) (.seq (Jqie p) (.seq (.seq (.region [⟨(some 110), (.mov (.t 9)), none, false⟩, ⟨(some 111), (.un .not (.t 110)), none, false⟩] []) (.cond (.t 111) (Jqif p) .skip)) (Jqih p))) := eqi
@[simp] def Jqj2 (p : Nums) : List IOp := [qo 120 (.faddr 2 (.t 5)), qo 121 (.load none (.t 120)), qo 122 (.bin .add (.t 121) (ci 1)), qo 123 (.faddr 2 (.t 5)), qn (.store 1 (.t 123) (.t 122))]
def Jqij (p : Nums) : IC := (.region (Jqj2 p) [])
@[simp] theorem Jeij {p : Nums} : EqI (Jqij p) (.region (Jqj2 p) []) := eqi
@[simp] def Jqj3 (p : Nums) : List IOp := [qo 124 (.faddr 7 (.t 5)), qo 125 (.load none (.t 124)), qo 126 (.bin .add (.t 125) (ci 1)), qo 127 (.faddr 7 (.t 5)), qn (.store 1 (.t 127) (.t 126))]
def Jqik (p : Nums) : IC := (.region (Jqj3 p) [])
@[simp] theorem Jeik {p : Nums} : EqI (Jqik p) (.region (Jqj3 p) []) := eqi
def Jtby (p : Nums) : IC := (.seq (Jqi5 p) (.seq (Jqig p) (.seq (.seq (Jqil p) (.cond (.t 14) (Jqim p) .skip)) (.seq (Jqin p) (.seq (.seq (Jqio p) (.cond (.t 27) (Jqia p) .skip)) (.seq (Jqib p) (.seq (.seq (Jqic p) (.cond (.t 78) (Jqid p) (Jqii p))) (.seq (Jqij p) (.seq (Jqik p) (.seq (.region [⟨(some 128), (.load (some 8) (.t 5)), none, false⟩, ⟨none, (.store 8 (.t 4) (.t 128)), none, false⟩] []) .ret))))))))))
@[simp] def Jqi0 (p : Nums) : List IOp := [qo 1 (.box (.t 0)), qo 2 (.alloc [(zi 0), (zi 0), (zi 0), (zi 0), .nils, .nils, .nils, (zi 0)])]
def Jqhv (p : Nums) : IC := (.region (Jqi0 p) [])
@[simp] theorem Jehv {p : Nums} : EqI (Jqhv p) (.region (Jqi0 p) []) := eqi
@[simp] def Jqi1 (p : Nums) : List IOp := [qo 4 (.load (some 8) (.t 1)), qo 3 (.alloc [(zi 0), (zi 0), (zi 0), (zi 0), .nils, .nils, .nils, (zi 0)]), qn (.store 8 (.t 3) (.t 4))]
def Jqhw (p : Nums) : IC := (.region (Jqi1 p) [])
@[simp] theorem Jehw {p : Nums} : EqI (Jqhw p) (.region (Jqi1 p) []) := eqi
@[simp] def Jqi2 (p : Nums) : List IOp := [qo 5 (.bslice 1 0 [(.int .i64 0)] []), qo 6 (.faddr 4 (.t 1)), qo 7 (.load none (.t 6)), qo 8 (.app 1 8 (.t 5) (.t 7)), qo 9 (.faddr 4 (.t 3)), qn (.store 1 (.t 9) (.t 8))]
def Jqhx (p : Nums) : IC := (.region (Jqi2 p) [])
@[simp] theorem Jehx {p : Nums} : EqI (Jqhx p) (.region (Jqi2 p) []) := eqi
@[simp] def Jqi3 (p : Nums) : List IOp := [qo 10 (.bslice 1 0 [(.int .i64 0)] []), qo 11 (.faddr 5 (.t 1)), qo 12 (.load none (.t 11)), qo 13 (.app 1 8 (.t 10) (.t 12)), qo 14 (.faddr 5 (.t 3)), qn (.store 1 (.t 14) (.t 13))]
def Jqhy (p : Nums) : IC := (.region (Jqi3 p) [])
@[simp] theorem Jehy {p : Nums} : EqI (Jqhy p) (.region (Jqi3 p) []) := eqi
@[simp] def Jqi4 (p : Nums) : List IOp := [qo 15 (.bslice 1 0 [(.int .i64 0)] []), qo 16 (.faddr 6 (.t 1)), qo 17 (.load none (.t 16)), qo 18 (.app 1 8 (.t 15) (.t 17)), qo 19 (.faddr 6 (.t 3)), qn (.store 1 (.t 19) (.t 18))]
def Jqhz (p : Nums) : IC := (.region (Jqi4 p) [])
@[simp] theorem Jehz {p : Nums} : EqI (Jqhz p) (.region (Jqi4 p) []) := eqi
def Jtbx (p : Nums) : IC := (.seq (Jqhv p) (.seq (Jqhw p) (.seq (Jqhx p) (.seq (Jqhy p) (.seq (Jqhz p) (.seq (.region [⟨(some 20), (.load (some 8) (.t 3)), none, false⟩, ⟨none, (.store 8 (.t 2) (.t 20)), none, false⟩] []) .ret))))))
@[simp] def Jqji (p : Nums) : List IOp := [qo 6 (.mov (.t 0)), qo 7 (.len (.t 6)), qo 8 (.mov (.t 1)), qo 9 (.len (.t 8)), qo 10 (.bin .neq (.t 7) (.t 9))]
def Jqja (p : Nums) : IC := (.region (Jqji p) [])
@[simp] theorem Jeja {p : Nums} : EqI (Jqja p) (.region (Jqji p) []) := eqi
def Jqjb (p : Nums) : IC := (.seq (.region [⟨(some 4), (.asg (.c (.d (.bool false)))), none, false⟩] []) .ret)
@[simp] theorem Jejb {p : Nums} : EqI (Jqjb p) (.seq (.region [⟨(some 4), (.asg (.c (.d (.bool false)))), none, false⟩] []) .ret) := eqi
@[simp] def Jqjj (p : Nums) : List IOp := [qo 11 (.mov (.t 5)), qo 12 (.mov (.t 0)), qo 13 (.len (.t 12)), qo 14 (.bin .lss (.t 11) (.t 13))]
def Jqjc (p : Nums) : IC := (.region (Jqjj p) [])
@[simp] theorem Jejc {p : Nums} : EqI (Jqjc p) (.region (Jqjj p) []) := eqi
@[simp] def Jqjk (p : Nums) : List IOp := [qp 17 (.mov (.t 0)), qp 18 (.mov (.t 5)), qp 19 (.iaddr 1 (.t 17) (.t 18)), qp 20 (.load none (.t 19)), qp 21 (.mov (.t 1)), qp 22 (.mov (.t 5)), qp 23 (.iaddr 1 (.t 21) (.t 22)), qp 24 (.load none (.t 23)), qo 25 (.bin .neq (.t 20) (.t 24))]
def Jqjd (p : Nums) : IC := (.region (Jqjk p) [])
@[simp] theorem Jejd {p : Nums} : EqI (Jqjd p) (.region (Jqjk p) []) := eqi
def Jqje (p : Nums) : IC := (.seq (.region [⟨(some 4), (.asg (.c (.d (.bool false)))), none, false⟩] []) .ret)
@[simp] theorem Jeje {p : Nums} : EqI (Jqje p) (.seq (.region [⟨(some 4), (.asg (.c (.d (.bool false)))), none, false⟩] []) .ret) := eqi
def Jqjf (p : Nums) : IC := (.seq (Jqjd p) (.cond (.t 25) (Jqje p) .skip))
@[simp] theorem Jejf {p : Nums} : EqI (Jqjf p) (.seq (Jqjd p) (.cond (.t 25) (Jqje p) .skip)) := eqi
@[simp] def Jqjl (p : Nums) : List IOp := [qo 15 (.mov (.t 5)), qo 16 (.bin .add (.t 15) (ci 1)), qo 5 (.asg (.t 16))]
def Jqjg (p : Nums) : IC := (.region (Jqjl p) [])
@[simp] theorem Jejg {p : Nums} : EqI (Jqjg p) (.region (Jqjl p) []) := eqi
def Jqjh (p : Nums) : IC := (.seq (.seq (Jqjc p) (.cond (.t 14) .skip (.exit 0))) (.seq (.block 1 (Jqjf p)) (Jqjg p)))
@[simp] theorem Jejh {p : Nums} : EqI (Jqjh p) (.seq (.seq (Jqjc p) (.cond (.t 14) .skip (.exit 0))) (.seq (.block 1 (Jqjf p)) (Jqjg p))) := eqi
def Jtbz (p : Nums) : IC := (.seq (.region [⟨(some 4), (.asg (.c (.d (.bool false)))), none, false⟩] []) (.seq (.seq (Jqja p) (.cond (.t 10) (Jqjb p) .skip)) (.seq (.seq (.region [⟨(some 5), (.asg (.c (.d (.int .i64 0)))), none, false⟩] []) (.block 0 (.loop (Jqjh p)))) (.seq (.region [⟨(some 4), (.asg (.c (.d (.bool true)))), none, false⟩] []) .ret))))
@[simp] def Jq8k (p : Nums) : List IOp := [qo 5 (.mov (.t 0)), qo 6 (.mkfn (.func p.pairset_DropV_1) [] [(.t 3)]), qo 7 (.call p.pairset_filter [(.t 5), (.t 6)]), qo 4 (.asg (.t 7))]
def Jq8j (p : Nums) : IC := (.region (Jq8k p) [])
@[simp] theorem Je8j {p : Nums} : EqI (Jq8j p) (.region (Jq8k p) []) := eqi
def Jtb7 (p : Nums) : IC := (.seq (.region [⟨(some 3), (.box (.t 1)), none, false⟩, ⟨(some 4), (.asg (.c .nils)), none, false⟩] []) (.seq (Jq8j p) .ret))
@[simp] def Jq8g (p : Nums) : List IOp := [qo 5 (.mov (.t 0)), qo 6 (.mkfn (.func p.pairset_DropL_1) [] [(.t 3)]), qo 7 (.call p.pairset_filter [(.t 5), (.t 6)]), qo 4 (.asg (.t 7))]
def Jq8f (p : Nums) : IC := (.region (Jq8g p) [])
@[simp] theorem Je8f {p : Nums} : EqI (Jq8f p) (.region (Jq8g p) []) := eqi
def Jtb5 (p : Nums) : IC := (.seq (.region [⟨(some 3), (.box (.t 1)), none, false⟩, ⟨(some 4), (.asg (.c .nils)), none, false⟩] []) (.seq (Jq8f p) .ret))
def Jqll (p : Nums) : IC := (.seq (.region [⟨(some 2), (.asg (.c .nils)), none, false⟩] []) .ret)
@[simp] theorem Jell {p : Nums} : EqI (Jqll p) (.seq (.region [⟨(some 2), (.asg (.c .nils)), none, false⟩] []) .ret) := eqi
@[simp] def Jqln (p : Nums) : List IOp := [qo 5 (.bslice 2 0 [(.int .i64 0), (.int .i64 0)] []), qo 6 (.mov (.t 0)), qo 7 (.app 2 16 (.t 5) (.t 6)), qo 2 (.asg (.t 7))]
def Jqlm (p : Nums) : IC := (.region (Jqln p) [])
@[simp] theorem Jelm {p : Nums} : EqI (Jqlm p) (.region (Jqln p) []) := eqi
def Jtc3 (p : Nums) : IC := (.seq (.region [⟨(some 2), (.asg (.c .nils)), none, false⟩] []) (.seq (.seq (.region [⟨(some 3), (.mov (.t 0)), none, false⟩, ⟨(some 4), (.isnil false (.t 3)), none, false⟩] []) (.cond (.t 4) (Jqll p) .skip)) (.seq (Jqlm p) .ret)))
@[simp] def Jqm6 (p : Nums) : List IOp := [qo 6 (.mov (.t 0)), qo 7 (.len (.t 6)), qo 8 (.bin .lss (.t 7) (ci 2))]
def Jqlo (p : Nums) : IC := (.region (Jqm6 p) [])
@[simp] theorem Jelo {p : Nums} : EqI (Jqlo p) (.region (Jqm6 p) []) := eqi
def Jqly (p : Nums) : IC := (.seq (.region [⟨(some 9), (.mov (.t 0)), none, false⟩, ⟨(some 2), (.asg (.t 9)), none, false⟩] []) .ret)
@[simp] theorem Jely {p : Nums} : EqI (Jqly p) (.seq (.region [⟨(some 9), (.mov (.t 0)), none, false⟩, ⟨(some 2), (.asg (.t 9)), none, false⟩] []) .ret) := eqi
@[simp] def Jqmb (p : Nums) : List IOp := [qo 10 (.mov (.t 3)), qo 11 (.mov (.t 0)), qo 12 (.len (.t 11)), qo 13 (.bin .lss (.t 10) (.t 12))]
def Jqlz (p : Nums) : IC := (.region (Jqmb p) [])
@[simp] theorem Jelz {p : Nums} : EqI (Jqlz p) (.region (Jqmb p) []) := eqi
@[simp] def Jqmc (p : Nums) : List IOp := [qp 16 (.mov (.t 0)), qp 17 (.mov (.t 3)), qp 18 (.iaddr 2 (.t 16) (.t 17)), qp 19 (.load (some 2) (.t 18)), qp 20 (.mov (.t 0)), qp 21 (.mov (.t 3)), qp 22 (.bin .sub (.t 21) (ci 1)), qp 23 (.iaddr 2 (.t 20) (.t 22)), qp 24 (.load (some 2) (.t 23)), qo 25 (.eqs false [.int, .int] (.t 19) (.t 24))]
def Jqm0 (p : Nums) : IC := (.region (Jqmc p) [])
@[simp] theorem Jem0 {p : Nums} : EqI (Jqm0 p) (.region (Jqmc p) []) := eqi
@[simp] def Jqmd (p : Nums) : List IOp := [qo 26 (.mov (.t 0)), qo 27 (.mov (.t 3)), qo 28 (.slc 2 (.t 26) (some (.t 27)) none), qo 4 (.asg (.t 28))]
def Jqm1 (p : Nums) : IC := (.region (Jqmd p) [])
@[simp] theorem Jem1 {p : Nums} : EqI (Jqm1 p) (.region (Jqmd p) []) := eqi
@[simp] def Jqme (p : Nums) : List IOp := [qo 29 (.mov (.t 5)), qo 30 (.mov (.t 4)), qo 31 (.len (.t 30)), qo 32 (.bin .lss (.t 29) (.t 31))]
def Jqm2 (p : Nums) : IC := (.region (Jqme p) [])
@[simp] theorem Jem2 {p : Nums} : EqI (Jqm2 p) (.region (Jqme p) []) := eqi
@[simp] def Jqmf (p : Nums) : List IOp := [qp 35 (.mov (.t 4)), qp 36 (.mov (.t 5)), qp 37 (.iaddr 2 (.t 35) (.t 36)), qp 38 (.load (some 2) (.t 37)), qp 39 (.mov (.t 4)), qp 40 (.mov (.t 5)), qp 41 (.bin .sub (.t 40) (ci 1)), qp 42 (.iaddr 2 (.t 39) (.t 41)), qp 43 (.load (some 2) (.t 42)), qo 44 (.eqs true [.int, .int] (.t 38) (.t 43))]
def Jqm3 (p : Nums) : IC := (.region (Jqmf p) [])
@[simp] theorem Jem3 {p : Nums} : EqI (Jqm3 p) (.region (Jqmf p) []) := eqi
@[simp] def Jqmg (p : Nums) : List IOp := [qo 45 (.mov (.t 0)), qo 46 (.mov (.t 3)), qo 47 (.mov (.t 4)), qo 48 (.mov (.t 5)), qo 49 (.iaddr 2 (.t 47) (.t 48)), qo 50 (.load (some 2) (.t 49)), qo 51 (.iaddr 2 (.t 45) (.t 46)), qn (.store 2 (.t 51) (.t 50))]
def Jqm4 (p : Nums) : IC := (.region (Jqmg p) [])
@[simp] theorem Jem4 {p : Nums} : EqI (Jqm4 p) (.region (Jqmg p) []) := eqi
@[simp] def Jqmh (p : Nums) : List IOp := [qo 52 (.mov (.t 3)), qo 53 (.bin .add (.t 52) (ci 1)), qo 3 (.asg (.t 53))]
def Jqm5 (p : Nums) : IC := (.region (Jqmh p) [])
@[simp] theorem Jem5 {p : Nums} : EqI (Jqm5 p) (.region (Jqmh p) []) := eqi
def Jqlp (p : Nums) : IC := (.seq (Jqm3 p) (.cond (.t 44) (.seq (Jqm4 p) (Jqm5 p)) .skip))
@[simp] theorem Jelp {p : Nums} : EqI (Jqlp p) (.seq (Jqm3 p) (.cond (.t 44) (.seq (Jqm4 p) (Jqm5 p)) .skip)) := eqi
@[simp] def Jqm7 (p : Nums) : List IOp := [qo 33 (.mov (.t 5)), qo 34 (.bin .add (.t 33) (ci 1)), qo 5 (.asg (.t 34))]
def Jqlq (p : Nums) : IC := (.region (Jqm7 p) [])
@[simp] theorem Jelq {p : Nums} : EqI (Jqlq p) (.region (Jqm7 p) []) := eqi
def Jqlr (p : Nums) : IC := (.seq (.seq (Jqm2 p) (.cond (.t 32) .skip (.exit 2))) (.seq (.block 3 (Jqlp p)) (Jqlq p)))
@[simp] theorem Jelr {p : Nums} : EqI (Jqlr p) (.seq (.seq (Jqm2 p) (.cond (.t 32) .skip (.exit 2))) (.seq (.block 3 (Jqlp p)) (Jqlq p))) := eqi
@[simp] def Jqm8 (p : Nums) : List IOp := [qo 54 (.mov (.t 0)), qo 55 (.mov (.t 3)), qo 56 (.slc 2 (.t 54) (some (.t 55)) none), qn (.clr 2 [(.int .i64 0), (.int .i64 0)] (.t 56))]
def Jqls (p : Nums) : IC := (.region (Jqm8 p) [])
@[simp] theorem Jels {p : Nums} : EqI (Jqls p) (.region (Jqm8 p) []) := eqi
@[simp] def Jqm9 (p : Nums) : List IOp := [qo 57 (.mov (.t 0)), qo 58 (.mov (.t 3)), qo 59 (.slc 2 (.t 57) none (some (.t 58))), qo 2 (.asg (.t 59))]
def Jqlt (p : Nums) : IC := (.region (Jqm9 p) [])
@[simp] theorem Jelt {p : Nums} : EqI (Jqlt p) (.region (Jqm9 p) []) := eqi
def Jqlu (p : Nums) : IC := (.seq (Jqm1 p) (.seq (.seq (.region [⟨(some 5), (.asg (.c (.d (.int .i64 1)))), none, false⟩] []) (.block 2 (.loop (Jqlr p)))) (.seq (Jqls p) (.seq (Jqlt p) .ret))))
@[simp] theorem Jelu {p : Nums} : EqI (Jqlu p) (.seq (Jqm1 p) (.seq (.seq (.region [⟨(some 5), (.asg (.c (.d (.int .i64 1)))), none, false⟩] []) (.block 2 (.loop (Jqlr p)))) (.seq (Jqls p) (.seq (Jqlt p) .ret)))) := eqi
def Jqlv (p : Nums) : IC := (.seq (Jqm0 p) (.cond (.t 25) (Jqlu p) .skip))
@[simp] theorem Jelv {p : Nums} : EqI (Jqlv p) (.seq (Jqm0 p) (.cond (.t 25) (Jqlu p) .skip)) := eqi
@[simp] def Jqma (p : Nums) : List IOp := [qo 14 (.mov (.t 3)), qo 15 (.bin .add (.t 14) (ci 1)), qo 3 (.asg (.t 15))]
def Jqlw (p : Nums) : IC := (.region (Jqma p) [])
@[simp] theorem Jelw {p : Nums} : EqI (Jqlw p) (.region (Jqma p) []) := eqi
def Jqlx (p : Nums) : IC := (.seq (.seq (Jqlz p) (.cond (.t 13) .skip (.exit 0))) (.seq (.block 1 (Jqlv p)) (Jqlw p)))
@[simp] theorem Jelx {p : Nums} : EqI (Jqlx p) (.seq (.seq (Jqlz p) (.cond (.t 13) .skip (.exit 0))) (.seq (.block 1 (Jqlv p)) (Jqlw p))) := eqi
def Jtc4 (p : Nums) : IC := (.seq (.region [⟨(some 2), (.asg (.c .nils)), none, false⟩] []) (.seq (.seq (Jqlo p) (.cond (.t 8) (Jqly p) .skip)) (.seq (.seq (.region [⟨(some 3), (.asg (.c (.d (.int .i64 1)))), none, false⟩] []) (.block 0 (.loop (Jqlx p)))) (.seq (.region [⟨(some 60), (.mov (.t 0)), none, false⟩, ⟨(some 2), (.asg (.t 60)), none, false⟩] []) .ret))))
@[simp] def Jqa7 (p : Nums) : List IOp := [qo 8 (.mov (.t 0)), qo 9 (.len (.t 8)), qo 5 (.asg (ci 0)), qo 6 (.asg (.t 9))]
def Jq9z (p : Nums) : IC := (.region (Jqa7 p) [])
@[simp] theorem Je9z {p : Nums} : EqI (Jq9z p) (.region (Jqa7 p) []) := eqi
@[simp] def Jqa8 (p : Nums) : List IOp := [qo 10 (.mov (.t 5)), qo 11 (.mov (.t 6)), qo 12 (.bin .lss (.t 10) (.t 11))]
def Jqa0 (p : Nums) : IC := (.region (Jqa8 p) [])
@[simp] theorem Jea0 {p : Nums} : EqI (Jqa0 p) (.region (Jqa8 p) []) := eqi
@[simp] def Jqa9 (p : Nums) : List IOp := [qo 13 (.mov (.t 5)), qo 14 (.mov (.t 6)), qo 15 (.mov (.t 5)), qo 16 (.bin .sub (.t 14) (.t 15)), qo 17 (.bin .quo (.t 16) (ci 2)), qo 18 (.bin .add (.t 13) (.t 17)), qo 7 (.asg (.t 18))]
def Jqa1 (p : Nums) : IC := (.region (Jqa9 p) [])
@[simp] theorem Jea1 {p : Nums} : EqI (Jqa1 p) (.region (Jqa9 p) []) := eqi
@[simp] def Jqaa (p : Nums) : List IOp := [qp 19 (.mov (.t 0)), qp 20 (.mov (.t 7)), qp 21 (.iaddr 2 (.t 19) (.t 20)), qp 22 (.load (some 2) (.t 21)), qp 23 (.load (some 2) (.t 3)), qo 24 (.call p.pairset_Less [(.t 22), (.t 23)])]
def Jqa2 (p : Nums) : IC := (.region (Jqaa p) [])
@[simp] theorem Jea2 {p : Nums} : EqI (Jqa2 p) (.region (Jqaa p) []) := eqi
@[simp] def Jqab (p : Nums) : List IOp := [qo 25 (.mov (.t 7)), qo 26 (.bin .add (.t 25) (ci 1)), qo 5 (.asg (.t 26))]
def Jqa3 (p : Nums) : IC := (.region (Jqab p) [])
@[simp] theorem Jea3 {p : Nums} : EqI (Jqa3 p) (.region (Jqab p) []) := eqi
@[simp] def Jqac (p : Nums) : List IOp := [qo 27 (.mov (.t 7)), qo 6 (.asg (.t 27))]
def Jqa4 (p : Nums) : IC := (.region (Jqac p) [])
@[simp] theorem Jea4 {p : Nums} : EqI (Jqa4 p) (.region (Jqac p) []) := eqi
def Jqa5 (p : Nums) : IC := (.seq (Jqa1 p) (.seq (Jqa2 p) (.cond (.t 24) (Jqa3 p) (Jqa4 p))))
@[simp] theorem Jea5 {p : Nums} : EqI (Jqa5 p) (.seq (Jqa1 p) (.seq (Jqa2 p) (.cond (.t 24) (Jqa3 p) (Jqa4 p)))) := eqi
def Jqa6 (p : Nums) : IC := (.seq (.seq (Jqa0 p) (.cond (.t 12) .skip (.exit 0))) (.block 1 (Jqa5 p)))
@[simp] theorem Jea6 {p : Nums} : EqI (Jqa6 p) (.seq (.seq (Jqa0 p) (.cond (.t 12) .skip (.exit 0))) (.block 1 (Jqa5 p))) := eqi
def Jtbe (p : Nums) : IC := (.seq (.region [⟨(some 3), (.box (.t 1)), none, false⟩, ⟨(some 4), (.asg (.c (.d (.int .i64 0)))), none, false⟩] []) (.seq (Jq9z p) (.seq (.block 0 (.loop (Jqa6 p))) (.seq (.region [⟨(some 28), (.mov (.t 5)), none, false⟩, ⟨(some 4), (.asg (.t 28)), none, false⟩] []) .ret))))
@[simp] def Jqel (p : Nums) : List IOp := [qo 5 (.mov (.t 4)), qo 6 (.faddr 2 (.t 1)), qo 7 (.load none (.t 6)), qo 8 (.len (.t 7)), qo 9 (.bin .lss (.t 5) (.t 8))]
def Jqeh (p : Nums) : IC := (.region (Jqel p) [])
@[simp] theorem Jeeh {p : Nums} : EqI (Jqeh p) (.region (Jqel p) []) := eqi
@[simp] def Jqem (p : Nums) : List IOp := [qo 12 (.mov (.t 3)), qo 13 (.faddr 2 (.t 1)), qo 14 (.load none (.t 13)), qo 15 (.mov (.t 4)), qo 16 (.iaddr 5 (.t 14) (.t 15)), qo 17 (.faddr 0 (.t 16)), qo 18 (.load none (.t 17)), qo 19 (.len (.t 18)), qo 20 (.bin .add (.t 12) (.t 19)), qo 3 (.asg (.t 20))]
def Jqei (p : Nums) : IC := (.region (Jqem p) [])
@[simp] theorem Jeei {p : Nums} : EqI (Jqei p) (.region (Jqem p) []) := eqi
@[simp] def Jqen (p : Nums) : List IOp := [qo 10 (.mov (.t 4)), qo 11 (.bin .add (.t 10) (ci 1)), qo 4 (.asg (.t 11))]
def Jqej (p : Nums) : IC := (.region (Jqen p) [])
@[simp] theorem Jeej {p : Nums} : EqI (Jqej p) (.region (Jqen p) []) := eqi
def Jqek (p : Nums) : IC := (.seq (.seq (Jqeh p) (.cond (.t 9) .skip (.exit 0))) (.seq (.block 1 (Jqei p)) (Jqej p)))
@[simp] theorem Jeek {p : Nums} : EqI (Jqek p) (.seq (.seq (Jqeh p) (.cond (.t 9) .skip (.exit 0))) (.seq (.block 1 (Jqei p)) (Jqej p))) := eqi
def Jtbp (p : Nums) : IC := (.seq (.region [⟨(some 1), (.box (.t 0)), none, false⟩, ⟨(some 2), (.asg (.c (.d (.int .i64 0)))), none, false⟩] []) (.seq (.region [⟨(some 3), (.asg (.c (.d (.int .i64 0)))), none, false⟩] []) (.seq (.seq (.region [⟨(some 4), (.asg (.c (.d (.int .i64 0)))), none, false⟩] []) (.block 0 (.loop (Jqek p)))) (.seq (.region [⟨(some 21), (.mov (.t 3)), none, false⟩, ⟨(some 2), (.asg (.t 21)), none, false⟩] []) .ret))))
@[simp] def Jqex (p : Nums) : List IOp := [qo 5 (.faddr 0 (.t 2)), qo 6 (.load none (.t 5)), qo 7 (.bin .lss (.t 6) (ci 1)), qo 8 (.mov (.t 7)), ⟨(some 9), (.faddr 0 (.t 2)), (some (8, false)), false⟩, ⟨(some 10), (.load none (.t 9)), (some (8, false)), false⟩, ⟨(some 11), (.bin .gtr (.t 10) (ci 17)), (some (8, false)), false⟩, qo 12 (.pick (.t 8) (.c (.d (.bool true))) (.t 11))]
def Jqeo (p : Nums) : IC := (.region (Jqex p) [])
@[simp] theorem Jeeo {p : Nums} : EqI (Jqeo p) (.region (Jqex p) []) := eqi
def Jqep (p : Nums) : IC := (.seq (.region [⟨(some 4), (.asg (.c (.d (.int .i64 8)))), none, false⟩] []) .ret)
@[simp] theorem Jeep {p : Nums} : EqI (Jqep p) (.seq (.region [⟨(some 4), (.asg (.c (.d (.int .i64 8)))), none, false⟩] []) .ret) := eqi
def Jqeu (p : Nums) : IC := (.seq (.seq (Jqeo p) .cut) (.cond (.t 12) (Jqep p) .skip))
theorem Jeeu {p : Nums} : EqI (Jqeu p) (.seq (.seq (Jqeo p) .cut) (.cond (.t 12) (Jqep p) .skip)) := eqi
@[simp] def Jqey (p : Nums) : List IOp := [qo 13 (.faddr 0 (.t 2)), qo 14 (.load none (.t 13)), qo 15 (.call p.ref05_UsesD [(.t 14)]), qo 16 (.mov (.t 15)), ⟨(some 17), (.faddr 1 (.t 2)), (some (16, true)), false⟩, ⟨(some 18), (.load none (.t 17)), (some (16, true)), false⟩, ⟨(some 19), (.mov (.t 1)), (some (16, true)), false⟩, ⟨(some 20), (.call p.ref07_in [(.t 18), (.t 19)]), (some (16, true)), false⟩, ⟨(some 21), (.un .not (.t 20)), (some (16, true)), false⟩, qo 22 (.pick (.t 16) (.t 21) (.c (.d (.bool false)))), qo 23 (.mov (.t 22)), ⟨(some 24), (.faddr 0 (.t 2)), (some (23, false)), false⟩, ⟨(some 25), (.load none (.t 24)), (some (23, false)), false⟩, ⟨(some 26), (.call p.ref05_UsesA [(.t 25)]), (some (23, false)), false⟩, ⟨(some 27), (.mov (.t 26)), (some (23, false)), false⟩, ⟨(some 28), (.faddr 2 (.t 2)), (some (27, true)), false⟩, ⟨(some 29), (.load none (.t 28)), (some (27, true)), false⟩, ⟨(some 30), (.mov (.t 1)), (some (27, true)), false⟩, ⟨(some 31), (.call p.ref07_in [(.t 29), (.t 30)]), (some (27, true)), false⟩, ⟨(some 32), (.un .not (.t 31)), (some (27, true)), false⟩, ⟨(some 33), (.pick (.t 27) (.t 32) (.c (.d (.bool false)))), (some (23, false)), false⟩, qo 34 (.pick (.t 23) (.c (.d (.bool true))) (.t 33)), qo 35 (.mov (.t 34)), ⟨(some 36), (.faddr 0 (.t 2)), (some (35, false)), false⟩, ⟨(some 37), (.load none (.t 36)), (some (35, false)), false⟩, ⟨(some 38), (.call p.ref05_UsesB [(.t 37)]), (some (35, false)), false⟩, ⟨(some 39), (.mov (.t 38)), (some (35, false)), false⟩, ⟨(some 40), (.faddr 3 (.t 2)), (some (39, true)), false⟩, ⟨(some 41), (.load none (.t 40)), (some (39, true)), false⟩, ⟨(some 42), (.mov (.t 1)), (some (39, true)), false⟩, ⟨(some 43), (.call p.ref07_in [(.t 41), (.t 42)]), (some (39, true)), false⟩, ⟨(some 44), (.un .not (.t 43)), (some (39, true)), false⟩, ⟨(some 45), (.pick (.t 39) (.t 44) (.c (.d (.bool false)))), (some (35, false)), false⟩, qo 46 (.pick (.t 35) (.c (.d (.bool true))) (.t 45))]
def Jqeq (p : Nums) : IC := (.region (Jqey p) [])
@[simp] theorem Jeeq {p : Nums} : EqI (Jqeq p) (.region (Jqey p) []) := eqi
def Jqer (p : Nums) : IC := (.seq (.region [⟨(some 4), (.asg (.c (.d (.int .i64 9)))), none, false⟩] []) .ret)
@[simp] theorem Jeer {p : Nums} : EqI (Jqer p) (.seq (.region [⟨(some 4), (.asg (.c (.d (.int .i64 9)))), none, false⟩] []) .ret) := eqi
def Jqev (p : Nums) : IC := (.seq (.seq (Jqeq p) .cut) (.cond (.t 46) (Jqer p) .skip))
theorem Jeev {p : Nums} : EqI (Jqev p) (.seq (.seq (Jqeq p) .cut) (.cond (.t 46) (Jqer p) .skip)) := eqi
@[simp] def Jqez (p : Nums) : List IOp := [qo 47 (.faddr 0 (.t 2)), qo 48 (.load none (.t 47)), qo 49 (.call p.ref05_UsesD [(.t 48)]), qo 50 (.un .not (.t 49)), qo 51 (.mov (.t 50)), ⟨(some 52), (.faddr 1 (.t 2)), (some (51, true)), false⟩, ⟨(some 53), (.load none (.t 52)), (some (51, true)), false⟩, ⟨(some 54), (.bin .neq (.t 53) (ci 0)), (some (51, true)), false⟩, qo 55 (.pick (.t 51) (.t 54) (.c (.d (.bool false)))), qo 56 (.mov (.t 55)), ⟨(some 57), (.faddr 0 (.t 2)), (some (56, false)), false⟩, ⟨(some 58), (.load none (.t 57)), (some (56, false)), false⟩, ⟨(some 59), (.call p.ref05_UsesA [(.t 58)]), (some (56, false)), false⟩, ⟨(some 60), (.un .not (.t 59)), (some (56, false)), false⟩, ⟨(some 61), (.mov (.t 60)), (some (56, false)), false⟩, ⟨(some 62), (.faddr 2 (.t 2)), (some (61, true)), false⟩, ⟨(some 63), (.load none (.t 62)), (some (61, true)), false⟩, ⟨(some 64), (.bin .neq (.t 63) (ci 0)), (some (61, true)), false⟩, ⟨(some 65), (.pick (.t 61) (.t 64) (.c (.d (.bool false)))), (some (56, false)), false⟩, qo 66 (.pick (.t 56) (.c (.d (.bool true))) (.t 65)), qo 67 (.mov (.t 66)), ⟨(some 68), (.faddr 0 (.t 2)), (some (67, false)), false⟩, ⟨(some 69), (.load none (.t 68)), (some (67, false)), false⟩, ⟨(some 70), (.call p.ref05_UsesB [(.t 69)]), (some (67, false)), false⟩, ⟨(some 71), (.un .not (.t 70)), (some (67, false)), false⟩, ⟨(some 72), (.mov (.t 71)), (some (67, false)), false⟩, ⟨(some 73), (.faddr 3 (.t 2)), (some (72, true)), false⟩, ⟨(some 74), (.load none (.t 73)), (some (72, true)), false⟩, ⟨(some 75), (.bin .neq (.t 74) (ci 0)), (some (72, true)), false⟩, ⟨(some 76), (.pick (.t 72) (.t 75) (.c (.d (.bool false)))), (some (67, false)), false⟩, qo 77 (.pick (.t 67) (.c (.d (.bool true))) (.t 76)), qo 78 (.mov (.t 77)), ⟨(some 79), (.faddr 0 (.t 2)), (some (78, false)), false⟩, ⟨(some 80), (.load none (.t 79)), (some (78, false)), false⟩, ⟨(some 81), (.bin .neq (.t 80) (ci 1)), (some (78, false)), false⟩, ⟨(some 82), (.mov (.t 81)), (some (78, false)), false⟩, ⟨(some 83), (.faddr 4 (.t 2)), (some (82, true)), false⟩, ⟨(some 84), (.load none (.t 83)), (some (82, true)), false⟩, ⟨(some 85), (.bin .neq (.t 84) (ci 0)), (some (82, true)), false⟩, ⟨(some 86), (.pick (.t 82) (.t 85) (.c (.d (.bool false)))), (some (78, false)), false⟩, qo 87 (.pick (.t 78) (.c (.d (.bool true))) (.t 86))]
def Jqes (p : Nums) : IC := (.region (Jqez p) [])
@[simp] theorem Jees {p : Nums} : EqI (Jqes p) (.region (Jqez p) []) := eqi
def Jqet (p : Nums) : IC := (.seq (.region [⟨(some 4), (.asg (.c (.d (.int .i64 12)))), none, false⟩] []) .ret)
@[simp] theorem Jeet {p : Nums} : EqI (Jqet p) (.seq (.region [⟨(some 4), (.asg (.c (.d (.int .i64 12)))), none, false⟩] []) .ret) := eqi
def Jqew (p : Nums) : IC := (.seq (.seq (Jqes p) .cut) (.cond (.t 87) (Jqet p) .skip))
theorem Jeew {p : Nums} : EqI (Jqew p) (.seq (.seq (Jqes p) .cut) (.cond (.t 87) (Jqet p) .skip)) := eqi
def Jtbq (p : Nums) : IC := (.seq (.region [⟨(some 2), (.box (.t 0)), none, false⟩, ⟨(some 4), (.asg (.c (.d (.int .i64 0)))), none, false⟩] []) (.seq (Jqeu p) (.seq (Jqev p) (.seq (Jqew p) (.seq (.region [⟨(some 4), (.asg (.c (.d (.int .i64 0)))), none, false⟩] []) .ret)))))
@[simp] def Jqfi (p : Nums) : List IOp := [qo 11 (.faddr 2 (.t 3)), qo 12 (.load none (.t 11)), qo 13 (.mov (.t 2)), qo 14 (.call p.ref07_in [(.t 12), (.t 13)]), qo 15 (.un .not (.t 14))]
def Jqf0 (p : Nums) : IC := (.region (Jqfi p) [])
@[simp] theorem Jef0 {p : Nums} : EqI (Jqf0 p) (.region (Jqfi p) []) := eqi
def Jqfa (p : Nums) : IC := (.seq (.region [⟨(some 6), (.asg (.c (.d (.int .i64 11)))), none, false⟩] []) .ret)
@[simp] theorem Jefa {p : Nums} : EqI (Jqfa p) (.seq (.region [⟨(some 6), (.asg (.c (.d (.int .i64 11)))), none, false⟩] []) .ret) := eqi
@[simp] def Jqfk (p : Nums) : List IOp := [qo 16 (.faddr 1 (.t 3)), qo 17 (.load none (.t 16)), qo 18 (.bin .neq (.t 17) (ci 0)), qo 19 (.mov (.t 18)), ⟨(some 20), (.faddr 3 (.t 3)), (some (19, false)), false⟩, ⟨(some 21), (.load none (.t 20)), (some (19, false)), false⟩, ⟨(some 22), (.bin .neq (.t 21) (ci 0)), (some (19, false)), false⟩, qo 23 (.pick (.t 19) (.c (.d (.bool true))) (.t 22))]
def Jqfb (p : Nums) : IC := (.region (Jqfk p) [])
@[simp] theorem Jefb {p : Nums} : EqI (Jqfb p) (.region (Jqfk p) []) := eqi
def Jqfc (p : Nums) : IC := (.seq (.region [⟨(some 6), (.asg (.c (.d (.int .i64 12)))), none, false⟩] []) .ret)
@[simp] theorem Jefc {p : Nums} : EqI (Jqfc p) (.seq (.region [⟨(some 6), (.asg (.c (.d (.int .i64 12)))), none, false⟩] []) .ret) := eqi
@[simp] def Jqfl (p : Nums) : List IOp := [qo 26 (.faddr 1 (.t 3)), qo 27 (.load none (.t 26)), qo 28 (.mov (.t 1)), qo 29 (.call p.ref07_in [(.t 27), (.t 28)]), qo 30 (.un .not (.t 29))]
def Jqfd (p : Nums) : IC := (.region (Jqfl p) [])
@[simp] theorem Jefd {p : Nums} : EqI (Jqfd p) (.region (Jqfl p) []) := eqi
def Jqfe (p : Nums) : IC := (.seq (.region [⟨(some 6), (.asg (.c (.d (.int .i64 9)))), none, false⟩] []) .ret)
@[simp] theorem Jefe {p : Nums} : EqI (Jqfe p) (.seq (.region [⟨(some 6), (.asg (.c (.d (.int .i64 9)))), none, false⟩] []) .ret) := eqi
@[simp] def Jqfm (p : Nums) : List IOp := [qo 31 (.faddr 2 (.t 3)), qo 32 (.load none (.t 31)), qo 33 (.mov (.t 2)), qo 34 (.call p.ref07_in [(.t 32), (.t 33)]), qo 35 (.un .not (.t 34)), qo 36 (.mov (.t 35)), ⟨(some 37), (.faddr 3 (.t 3)), (some (36, false)), false⟩, ⟨(some 38), (.load none (.t 37)), (some (36, false)), false⟩, ⟨(some 39), (.mov (.t 2)), (some (36, false)), false⟩, ⟨(some 40), (.call p.ref07_in [(.t 38), (.t 39)]), (some (36, false)), false⟩, ⟨(some 41), (.un .not (.t 40)), (some (36, false)), false⟩, qo 42 (.pick (.t 36) (.c (.d (.bool true))) (.t 41))]
def Jqff (p : Nums) : IC := (.region (Jqfm p) [])
@[simp] theorem Jeff {p : Nums} : EqI (Jqff p) (.region (Jqfm p) []) := eqi
def Jqfg (p : Nums) : IC := (.seq (.region [⟨(some 6), (.asg (.c (.d (.int .i64 11)))), none, false⟩] []) .ret)
@[simp] theorem Jefg {p : Nums} : EqI (Jqfg p) (.seq (.region [⟨(some 6), (.asg (.c (.d (.int .i64 11)))), none, false⟩] []) .ret) := eqi
@[simp] def Jqfn (p : Nums) : List IOp := [qo 45 (.faddr 1 (.t 3)), qo 46 (.load none (.t 45)), qo 47 (.mov (.t 1)), qo 48 (.call p.ref07_in [(.t 46), (.t 47)]), qo 49 (.un .not (.t 48))]
def Jqfh (p : Nums) : IC := (.region (Jqfn p) [])
@[simp] theorem Jefh {p : Nums} : EqI (Jqfh p) (.region (Jqfn p) []) := eqi
def Jqf1 (p : Nums) : IC := (.seq (.region [⟨(some 6), (.asg (.c (.d (.int .i64 9)))), none, false⟩] []) .ret)
@[simp] theorem Jef1 {p : Nums} : EqI (Jqf1 p) (.seq (.region [⟨(some 6), (.asg (.c (.d (.int .i64 9)))), none, false⟩] []) .ret) := eqi
@[simp] def Jqfj (p : Nums) : List IOp := [qo 50 (.faddr 2 (.t 3)), qo 51 (.load none (.t 50)), qo 52 (.bin .neq (.t 51) (ci 0)), qo 53 (.mov (.t 52)), ⟨(some 54), (.faddr 3 (.t 3)), (some (53, false)), false⟩, ⟨(some 55), (.load none (.t 54)), (some (53, false)), false⟩, ⟨(some 56), (.bin .neq (.t 55) (ci 0)), (some (53, false)), false⟩, qo 57 (.pick (.t 53) (.c (.d (.bool true))) (.t 56))]
def Jqf2 (p : Nums) : IC := (.region (Jqfj p) [])
@[simp] theorem Jef2 {p : Nums} : EqI (Jqf2 p) (.region (Jqfj p) []) := eqi
def Jqf3 (p : Nums) : IC := (.seq (.region [⟨(some 6), (.asg (.c (.d (.int .i64 12)))), none, false⟩] []) .ret)
@[simp] theorem Jef3 {p : Nums} : EqI (Jqf3 p) (.seq (.region [⟨(some 6), (.asg (.c (.d (.int .i64 12)))), none, false⟩] []) .ret) := eqi
def Jqf4 (p : Nums) : IC := (.seq (.seq (Jqfh p) (.cond (.t 49) (Jqf1 p) .skip)) (.seq (.seq (Jqf2 p) (.cond (.t 57) (Jqf3 p) .skip)) (.seq (.region [⟨(some 6), (.asg (.c (.d (.int .i64 0)))), none, false⟩] []) .ret)))
@[simp] theorem Jef4 {p : Nums} : EqI (Jqf4 p) (.seq (.seq (Jqfh p) (.cond (.t 49) (Jqf1 p) .skip)) (.seq (.seq (Jqf2 p) (.cond (.t 57) (Jqf3 p) .skip)) (.seq (.region [⟨(some 6), (.asg (.c (.d (.int .i64 0)))), none, false⟩] []) .ret))) := eqi
def Jqf5 (p : Nums) : IC := (.seq (.seq (Jqfd p) (.cond (.t 30) (Jqfe p) .skip)) (.seq (.seq (Jqff p) (.cond (.t 42) (Jqfg p) .skip)) (.seq (.region [⟨(some 6), (.asg (.c (.d (.int .i64 0)))), none, false⟩] []) .ret)))
@[simp] theorem Jef5 {p : Nums} : EqI (Jqf5 p) (.seq (.seq (Jqfd p) (.cond (.t 30) (Jqfe p) .skip)) (.seq (.seq (Jqff p) (.cond (.t 42) (Jqfg p) .skip)) (.seq (.region [⟨(some 6), (.asg (.c (.d (.int .i64 0)))), none, false⟩] []) .ret))) := eqi
def Jqf6 (p : Nums) : IC := (.seq (.region [⟨(some 44), (.bin .eql (.t 8) (.c (.d (.int .i64 3)))), none, false⟩, ⟨(some 43), (.asg (.t 44)), none, false⟩] []) (.cond (.t 43) (Jqf4 p) .skip))
@[simp] theorem Jef6 {p : Nums} : EqI (Jqf6 p) (.seq (.region [⟨(some 44), (.bin .eql (.t 8) (.c (.d (.int .i64 3)))), none, false⟩, ⟨(some 43), (.asg (.t 44)), none, false⟩] []) (.cond (.t 43) (Jqf4 p) .skip)) := eqi
def Jqf7 (p : Nums) : IC := (.seq (.seq (Jqf0 p) (.cond (.t 15) (Jqfa p) .skip)) (.seq (.seq (Jqfb p) (.cond (.t 23) (Jqfc p) .skip)) (.seq (.region [⟨(some 6), (.asg (.c (.d (.int .i64 0)))), none, false⟩] []) .ret)))
@[simp] theorem Jef7 {p : Nums} : EqI (Jqf7 p) (.seq (.seq (Jqf0 p) (.cond (.t 15) (Jqfa p) .skip)) (.seq (.seq (Jqfb p) (.cond (.t 23) (Jqfc p) .skip)) (.seq (.region [⟨(some 6), (.asg (.c (.d (.int .i64 0)))), none, false⟩] []) .ret))) := eqi
def Jqf8 (p : Nums) : IC := (.seq (.region [⟨(some 25), (.bin .eql (.t 8) (.c (.d (.int .i64 2)))), none, false⟩, ⟨(some 24), (.asg (.t 25)), none, false⟩] []) (.cond (.t 24) (Jqf5 p) (Jqf6 p)))
@[simp] theorem Jef8 {p : Nums} : EqI (Jqf8 p) (.seq (.region [⟨(some 25), (.bin .eql (.t 8) (.c (.d (.int .i64 2)))), none, false⟩, ⟨(some 24), (.asg (.t 25)), none, false⟩] []) (.cond (.t 24) (Jqf5 p) (Jqf6 p))) := eqi
def Jqf9 (p : Nums) : IC := (.seq (.region [⟨(some 10), (.bin .eql (.t 8) (.c (.d (.int .i64 1)))), none, false⟩, ⟨(some 9), (.asg (.t 10)), none, false⟩] []) (.cond (.t 9) (Jqf7 p) (Jqf8 p)))
@[simp] theorem Jef9 {p : Nums} : EqI (Jqf9 p) (.seq (.region [⟨(some 10), (.bin .eql (.t 8) (.c (.d (.int .i64 1)))), none, false⟩, ⟨(some 9), (.asg (.t 10)), none, false⟩] []) (.cond (.t 9) (Jqf7 p) (Jqf8 p))) := eqi
def Jtbr (p : Nums) : IC := (.seq (.region [⟨(some 3), (.box (.t 0)), none, false⟩, ⟨(some 6), (.asg (.c (.d (.int .i64 0)))), none, false⟩] []) (.seq (.seq (.region [⟨(some 7), (.faddr 0 (.t 3)), none, false⟩, ⟨(some 8), (.load none (.t 7)), none, false⟩] []) (.block 0 (Jqf9 p))) (.seq (.region [⟨(some 6), (.asg (.c (.d (.int .i64 16)))), none, false⟩] []) .ret)))
@[simp] def Jqal (p : Nums) : List IOp := [qo 3 (.mov (.t 0)), qo 4 (.bin .geq (.t 3) (ci 2)), qo 5 (.mov (.t 4)), ⟨(some 6), (.mov (.t 0)), (some (5, true)), false⟩, ⟨(some 7), (.bin .leq (.t 6) (ci 17)), (some (5, true)), false⟩, qo 8 (.pick (.t 5) (.t 7) (.c (.d (.bool false)))), qo 2 (.asg (.t 8))]
def Jqak (p : Nums) : IC := (.region (Jqal p) [])
@[simp] theorem Jeak {p : Nums} : EqI (Jqak p) (.region (Jqal p) []) := eqi
def Jtbg (p : Nums) : IC := (.seq (.region [⟨(some 2), (.asg (.c (.d (.bool false)))), none, false⟩] []) (.seq (Jqak p) .ret))
@[simp] def Jqan (p : Nums) : List IOp := [qo 3 (.mov (.t 0)), qo 4 (.bin .geq (.t 3) (ci 5)), qo 5 (.mov (.t 4)), ⟨(some 6), (.mov (.t 0)), (some (5, true)), false⟩, ⟨(some 7), (.bin .leq (.t 6) (ci 16)), (some (5, true)), false⟩, qo 8 (.pick (.t 5) (.t 7) (.c (.d (.bool false)))), qo 2 (.asg (.t 8))]
def Jqam (p : Nums) : IC := (.region (Jqan p) [])
@[simp] theorem Jeam {p : Nums} : EqI (Jqam p) (.region (Jqan p) []) := eqi
def Jtbh (p : Nums) : IC := (.seq (.region [⟨(some 2), (.asg (.c (.d (.bool false)))), none, false⟩] []) (.seq (Jqam p) .ret))
@[simp] def Jqap (p : Nums) : List IOp := [qo 3 (.mov (.t 0)), qo 4 (.bin .geq (.t 3) (ci 1)), qo 5 (.mov (.t 4)), ⟨(some 6), (.mov (.t 0)), (some (5, true)), false⟩, ⟨(some 7), (.bin .leq (.t 6) (ci 16)), (some (5, true)), false⟩, qo 8 (.pick (.t 5) (.t 7) (.c (.d (.bool false)))), qo 2 (.asg (.t 8))]
def Jqao (p : Nums) : IC := (.region (Jqap p) [])
@[simp] theorem Jeao {p : Nums} : EqI (Jqao p) (.region (Jqap p) []) := eqi
def Jtbi (p : Nums) : IC := (.seq (.region [⟨(some 2), (.asg (.c (.d (.bool false)))), none, false⟩] []) (.seq (Jqao p) .ret))
@[simp] def Jqbx (p : Nums) : List IOp := [qo 16 (.mov (.t 3)), qo 8 (.asg (.t 16)), qo 9 (.asg (.c (.d (.bool true))))]
def Jqaq (p : Nums) : IC := (.region (Jqbx p) [])
@[simp] theorem Jeaq {p : Nums} : EqI (Jqaq p) (.region (Jqbx p) []) := eqi
@[simp] def Jqc8 (p : Nums) : List IOp := [qo 19 (.mov (.t 1)), qo 8 (.asg (.t 19)), qo 9 (.asg (.c (.d (.bool true))))]
def Jqb1 (p : Nums) : IC := (.region (Jqc8 p) [])
@[simp] theorem Jeb1 {p : Nums} : EqI (Jqb1 p) (.region (Jqc8 p) []) := eqi
@[simp] def Jqcf (p : Nums) : List IOp := [qo 22 (.mov (.t 1)), qo 23 (.bin .sub (ci 0) (.t 22)), qo 8 (.asg (.t 23)), qo 9 (.asg (.c (.d (.bool true))))]
def Jqbc (p : Nums) : IC := (.region (Jqcf p) [])
@[simp] theorem Jebc {p : Nums} : EqI (Jqbc p) (.region (Jqcf p) []) := eqi
@[simp] def Jqcg (p : Nums) : List IOp := [qo 26 (.mov (.t 1)), qo 27 (.bin .sub (ci 0) (.t 26)), qo 28 (.bin .sub (.t 27) (ci 1)), qo 8 (.asg (.t 28)), qo 9 (.asg (.c (.d (.bool true))))]
def Jqbn (p : Nums) : IC := (.region (Jqcg p) [])
@[simp] theorem Jebn {p : Nums} : EqI (Jqbn p) (.region (Jqcg p) []) := eqi
@[simp] def Jqch (p : Nums) : List IOp := [qo 31 (.mov (.t 1)), qo 32 (.mov (.t 2)), qo 33 (.bin .add (.t 31) (.t 32)), qo 8 (.asg (.t 33)), qo 9 (.asg (.c (.d (.bool true))))]
def Jqbs (p : Nums) : IC := (.region (Jqch p) [])
@[simp] theorem Jebs {p : Nums} : EqI (Jqbs p) (.region (Jqch p) []) := eqi
@[simp] def Jqci (p : Nums) : List IOp := [qo 36 (.mov (.t 1)), qo 37 (.mov (.t 2)), qo 38 (.bin .sub (.t 36) (.t 37)), qo 8 (.asg (.t 38)), qo 9 (.asg (.c (.d (.bool true))))]
def Jqbt (p : Nums) : IC := (.region (Jqci p) [])
@[simp] theorem Jebt {p : Nums} : EqI (Jqbt p) (.region (Jqci p) []) := eqi
@[simp] def Jqcj (p : Nums) : List IOp := [qo 41 (.mov (.t 1)), qo 42 (.mov (.t 2)), qo 43 (.bin .mul (.t 41) (.t 42)), qo 8 (.asg (.t 43)), qo 9 (.asg (.c (.d (.bool true))))]
def Jqbu (p : Nums) : IC := (.region (Jqcj p) [])
@[simp] theorem Jebu {p : Nums} : EqI (Jqbu p) (.region (Jqcj p) []) := eqi
@[simp] def Jqck (p : Nums) : List IOp := [qo 46 (.bin .eql (.t 13) (ci 9)), qo 44 (.asg (.t 46))]
def Jqbv (p : Nums) : IC := (.region (Jqck p) [])
@[simp] theorem Jebv {p : Nums} : EqI (Jqbv p) (.region (Jqck p) []) := eqi
def Jqbw (p : Nums) : IC := (.seq (.region [⟨(some 8), (.asg (.c (.d (.int .i64 0)))), none, false⟩, ⟨(some 9), (.asg (.c (.d (.bool false)))), none, false⟩] []) .ret)
@[simp] theorem Jebw {p : Nums} : EqI (Jqbw p) (.seq (.region [⟨(some 8), (.asg (.c (.d (.int .i64 0)))), none, false⟩, ⟨(some 9), (.asg (.c (.d (.bool false)))), none, false⟩] []) .ret) := eqi
@[simp] def Jqby (p : Nums) : List IOp := [qo 52 (.mov (.t 1)), qo 53 (.bin .sub (ci 0) (.t 52)), qo 10 (.asg (.t 53))]
def Jqar (p : Nums) : IC := (.region (Jqby p) [])
@[simp] theorem Jear {p : Nums} : EqI (Jqar p) (.region (Jqby p) []) := eqi
@[simp] def Jqbz (p : Nums) : List IOp := [qo 54 (.mov (.t 1)), qo 55 (.mov (.t 2)), qo 56 (.bin .quo (.t 54) (.t 55)), qo 10 (.asg (.t 56))]
def Jqas (p : Nums) : IC := (.region (Jqbz p) [])
@[simp] theorem Jeas {p : Nums} : EqI (Jqas p) (.region (Jqbz p) []) := eqi
@[simp] def Jqc0 (p : Nums) : List IOp := [qo 59 (.mov (.t 10)), qo 8 (.asg (.t 59)), qo 9 (.asg (.c (.d (.bool true))))]
def Jqat (p : Nums) : IC := (.region (Jqc0 p) [])
@[simp] theorem Jeat {p : Nums} : EqI (Jqat p) (.region (Jqc0 p) []) := eqi
@[simp] def Jqc1 (p : Nums) : List IOp := [qo 60 (.mov (.t 1)), qo 61 (.mov (.t 2)), qo 62 (.mov (.t 10)), qo 63 (.bin .mul (.t 61) (.t 62)), qo 64 (.bin .sub (.t 60) (.t 63)), qo 8 (.asg (.t 64)), qo 9 (.asg (.c (.d (.bool true))))]
def Jqau (p : Nums) : IC := (.region (Jqc1 p) [])
@[simp] theorem Jeau {p : Nums} : EqI (Jqau p) (.region (Jqc1 p) []) := eqi
@[simp] def Jqc2 (p : Nums) : List IOp := [qo 67 (.mov (.t 1)), qo 68 (.mov (.t 2)), qo 69 (.bslice 1 4 [(.bool false)] [(0, (.c (.d (.bool false)))), (1, (.c (.d (.bool false)))), (2, (.c (.d (.bool false)))), (3, (.c (.d (.bool true))))]), qo 70 (.call p.ref06_bits [(.t 67), (.t 68), (.t 69)]), qo 8 (.asg (.t 70)), qo 9 (.asg (.c (.d (.bool true))))]
def Jqav (p : Nums) : IC := (.region (Jqc2 p) [])
@[simp] theorem Jeav {p : Nums} : EqI (Jqav p) (.region (Jqc2 p) []) := eqi
@[simp] def Jqc3 (p : Nums) : List IOp := [qo 73 (.mov (.t 1)), qo 74 (.mov (.t 2)), qo 75 (.bslice 1 4 [(.bool false)] [(0, (.c (.d (.bool false)))), (1, (.c (.d (.bool true)))), (2, (.c (.d (.bool true)))), (3, (.c (.d (.bool true))))]), qo 76 (.call p.ref06_bits [(.t 73), (.t 74), (.t 75)]), qo 8 (.asg (.t 76)), qo 9 (.asg (.c (.d (.bool true))))]
def Jqaw (p : Nums) : IC := (.region (Jqc3 p) [])
@[simp] theorem Jeaw {p : Nums} : EqI (Jqaw p) (.region (Jqc3 p) []) := eqi
@[simp] def Jqc4 (p : Nums) : List IOp := [qo 79 (.mov (.t 1)), qo 80 (.mov (.t 2)), qo 81 (.bslice 1 4 [(.bool false)] [(0, (.c (.d (.bool false)))), (1, (.c (.d (.bool true)))), (2, (.c (.d (.bool true)))), (3, (.c (.d (.bool false))))]), qo 82 (.call p.ref06_bits [(.t 79), (.t 80), (.t 81)]), qo 8 (.asg (.t 82)), qo 9 (.asg (.c (.d (.bool true))))]
def Jqax (p : Nums) : IC := (.region (Jqc4 p) [])
@[simp] theorem Jeax {p : Nums} : EqI (Jqax p) (.region (Jqc4 p) []) := eqi
@[simp] def Jqc5 (p : Nums) : List IOp := [qo 85 (.bin .eql (.t 13) (ci 14)), qo 83 (.asg (.t 85))]
def Jqay (p : Nums) : IC := (.region (Jqc5 p) [])
@[simp] theorem Jeay {p : Nums} : EqI (Jqay p) (.region (Jqc5 p) []) := eqi
@[simp] def Jqc6 (p : Nums) : List IOp := [qo 86 (.mov (.t 2)), qo 87 (.conv .u64 (.t 86)), qo 88 (.bin .rem (.t 87) (.c (.d (.int .u64 64)))), qo 89 (.conv .i64 (.t 88)), qo 11 (.asg (.t 89))]
def Jqaz (p : Nums) : IC := (.region (Jqc6 p) [])
@[simp] theorem Jeaz {p : Nums} : EqI (Jqaz p) (.region (Jqc6 p) []) := eqi
@[simp] def Jqc7 (p : Nums) : List IOp := [qo 90 (.mov (.t 12)), qo 91 (.mov (.t 11)), qo 92 (.bin .lss (.t 90) (.t 91))]
def Jqb0 (p : Nums) : IC := (.region (Jqc7 p) [])
@[simp] theorem Jeb0 {p : Nums} : EqI (Jqb0 p) (.region (Jqc7 p) []) := eqi
@[simp] def Jqc9 (p : Nums) : List IOp := [qo 97 (.mov (.t 1)), qo 98 (.bin .mul (.t 97) (ci 2)), qo 1 (.asg (.t 98))]
def Jqb2 (p : Nums) : IC := (.region (Jqc9 p) [])
@[simp] theorem Jeb2 {p : Nums} : EqI (Jqb2 p) (.region (Jqc9 p) []) := eqi
@[simp] def Jqca (p : Nums) : List IOp := [qo 99 (.mov (.t 1)), qo 100 (.call p.ref06_half [(.t 99)]), qo 1 (.asg (.t 100))]
def Jqb3 (p : Nums) : IC := (.region (Jqca p) [])
@[simp] theorem Jeb3 {p : Nums} : EqI (Jqb3 p) (.region (Jqca p) []) := eqi
def Jqb4 (p : Nums) : IC := (.seq (.region [⟨(some 95), (.mov (.t 0)), none, false⟩, ⟨(some 96), (.bin .eql (.t 95) (.c (.d (.int .i64 13)))), none, false⟩] []) (.cond (.t 96) (Jqb2 p) (Jqb3 p)))
@[simp] theorem Jeb4 {p : Nums} : EqI (Jqb4 p) (.seq (.region [⟨(some 95), (.mov (.t 0)), none, false⟩, ⟨(some 96), (.bin .eql (.t 95) (.c (.d (.int .i64 13)))), none, false⟩] []) (.cond (.t 96) (Jqb2 p) (Jqb3 p))) := eqi
@[simp] def Jqcb (p : Nums) : List IOp := [qo 93 (.mov (.t 12)), qo 94 (.bin .add (.t 93) (ci 1)), qo 12 (.asg (.t 94))]
def Jqb5 (p : Nums) : IC := (.region (Jqcb p) [])
@[simp] theorem Jeb5 {p : Nums} : EqI (Jqb5 p) (.region (Jqcb p) []) := eqi
def Jqb6 (p : Nums) : IC := (.seq (.seq (Jqb0 p) (.cond (.t 92) .skip (.exit 1))) (.seq (.block 2 (Jqb4 p)) (Jqb5 p)))
@[simp] theorem Jeb6 {p : Nums} : EqI (Jqb6 p) (.seq (.seq (Jqb0 p) (.cond (.t 92) .skip (.exit 1))) (.seq (.block 2 (Jqb4 p)) (Jqb5 p))) := eqi
@[simp] def Jqcc (p : Nums) : List IOp := [qo 101 (.mov (.t 1)), qo 8 (.asg (.t 101)), qo 9 (.asg (.c (.d (.bool true))))]
def Jqb7 (p : Nums) : IC := (.region (Jqcc p) [])
@[simp] theorem Jeb7 {p : Nums} : EqI (Jqb7 p) (.region (Jqcc p) []) := eqi
@[simp] def Jqcd (p : Nums) : List IOp := [qo 104 (.mov (.t 1)), qo 105 (.mov (.t 2)), qo 106 (.bin .eql (.t 104) (.t 105)), qo 107 (.call p.ref06_truth [(.t 106)]), qo 8 (.asg (.t 107)), qo 9 (.asg (.c (.d (.bool true))))]
def Jqb8 (p : Nums) : IC := (.region (Jqcd p) [])
@[simp] theorem Jeb8 {p : Nums} : EqI (Jqb8 p) (.region (Jqcd p) []) := eqi
@[simp] def Jqce (p : Nums) : List IOp := [qo 110 (.mov (.t 1)), qo 111 (.mov (.t 2)), qo 112 (.bin .lss (.t 110) (.t 111)), qo 113 (.call p.ref06_truth [(.t 112)]), qo 8 (.asg (.t 113)), qo 9 (.asg (.c (.d (.bool true))))]
def Jqb9 (p : Nums) : IC := (.region (Jqce p) [])
@[simp] theorem Jeb9 {p : Nums} : EqI (Jqb9 p) (.region (Jqce p) []) := eqi
def Jqba (p : Nums) : IC := (.seq (.region [⟨(some 109), (.bin .eql (.t 13) (.c (.d (.int .i64 16)))), none, false⟩, ⟨(some 108), (.asg (.t 109)), none, false⟩] []) (.cond (.t 108) (.seq (Jqb9 p) .ret) .skip))
@[simp] theorem Jeba {p : Nums} : EqI (Jqba p) (.seq (.region [⟨(some 109), (.bin .eql (.t 13) (.c (.d (.int .i64 16)))), none, false⟩, ⟨(some 108), (.asg (.t 109)), none, false⟩] []) (.cond (.t 108) (.seq (Jqb9 p) .ret) .skip)) := eqi
def Jqbb (p : Nums) : IC := (.seq (Jqaz p) (.seq (.seq (.region [⟨(some 12), (.asg (.c (.d (.int .i64 0)))), none, false⟩] []) (.block 1 (.loop (Jqb6 p)))) (.seq (Jqb7 p) .ret)))
@[simp] theorem Jebb {p : Nums} : EqI (Jqbb p) (.seq (Jqaz p) (.seq (.seq (.region [⟨(some 12), (.asg (.c (.d (.int .i64 0)))), none, false⟩] []) (.block 1 (.loop (Jqb6 p)))) (.seq (Jqb7 p) .ret))) := eqi
def Jqbd (p : Nums) : IC := (.seq (.region [⟨(some 103), (.bin .eql (.t 13) (.c (.d (.int .i64 15)))), none, false⟩, ⟨(some 102), (.asg (.t 103)), none, false⟩] []) (.cond (.t 102) (.seq (Jqb8 p) .ret) (Jqba p)))
@[simp] theorem Jebd {p : Nums} : EqI (Jqbd p) (.seq (.region [⟨(some 103), (.bin .eql (.t 13) (.c (.d (.int .i64 15)))), none, false⟩, ⟨(some 102), (.asg (.t 103)), none, false⟩] []) (.cond (.t 102) (.seq (Jqb8 p) .ret) (Jqba p))) := eqi
def Jqbe (p : Nums) : IC := (.seq (.seq (.region [⟨(some 84), (.bin .eql (.t 13) (.c (.d (.int .i64 13)))), none, false⟩, ⟨(some 83), (.asg (.t 84)), none, false⟩] []) (.cond (.t 83) .skip (Jqay p))) (.cond (.t 83) (Jqbb p) (Jqbd p)))
@[simp] theorem Jebe {p : Nums} : EqI (Jqbe p) (.seq (.seq (.region [⟨(some 84), (.bin .eql (.t 13) (.c (.d (.int .i64 13)))), none, false⟩, ⟨(some 83), (.asg (.t 84)), none, false⟩] []) (.cond (.t 83) .skip (Jqay p))) (.cond (.t 83) (Jqbb p) (Jqbd p))) := eqi
def Jqbf (p : Nums) : IC := (.seq (.region [⟨(some 78), (.bin .eql (.t 13) (.c (.d (.int .i64 12)))), none, false⟩, ⟨(some 77), (.asg (.t 78)), none, false⟩] []) (.cond (.t 77) (.seq (Jqax p) .ret) (Jqbe p)))
@[simp] theorem Jebf {p : Nums} : EqI (Jqbf p) (.seq (.region [⟨(some 78), (.bin .eql (.t 13) (.c (.d (.int .i64 12)))), none, false⟩, ⟨(some 77), (.asg (.t 78)), none, false⟩] []) (.cond (.t 77) (.seq (Jqax p) .ret) (Jqbe p))) := eqi
def Jqbg (p : Nums) : IC := (.seq (.region [⟨(some 72), (.bin .eql (.t 13) (.c (.d (.int .i64 11)))), none, false⟩, ⟨(some 71), (.asg (.t 72)), none, false⟩] []) (.cond (.t 71) (.seq (Jqaw p) .ret) (Jqbf p)))
@[simp] theorem Jebg {p : Nums} : EqI (Jqbg p) (.seq (.region [⟨(some 72), (.bin .eql (.t 13) (.c (.d (.int .i64 11)))), none, false⟩, ⟨(some 71), (.asg (.t 72)), none, false⟩] []) (.cond (.t 71) (.seq (Jqaw p) .ret) (Jqbf p))) := eqi
def Jqbh (p : Nums) : IC := (.seq (.seq (.region [⟨(some 47), (.mov (.t 2)), none, false⟩, ⟨(some 48), (.bin .eql (.t 47) (.c (.d (.int .i64 0)))), none, false⟩] []) (.cond (.t 48) (Jqbw p) .skip)) (.seq (.region [⟨(some 49), (.mov (.t 1)), none, false⟩, ⟨(some 10), (.asg (.t 49)), none, false⟩] []) (.seq (.seq (.region [⟨(some 50), (.mov (.t 2)), none, false⟩, ⟨(some 51), (.bin .eql (.t 50) (.c (.d (.int .i64 (-1))))), none, false⟩] []) (.cond (.t 51) (Jqar p) (Jqas p))) (.seq (.seq (.region [⟨(some 57), (.mov (.t 0)), none, false⟩, ⟨(some 58), (.bin .eql (.t 57) (.c (.d (.int .i64 8)))), none, false⟩] []) (.cond (.t 58) (.seq (Jqat p) .ret) .skip)) (.seq (Jqau p) .ret)))))
@[simp] theorem Jebh {p : Nums} : EqI (Jqbh p) (.seq (.seq (.region [⟨(some 47), (.mov (.t 2)), none, false⟩, ⟨(some 48), (.bin .eql (.t 47) (.c (.d (.int .i64 0)))), none, false⟩] []) (.cond (.t 48) (Jqbw p) .skip)) (.seq (.region [⟨(some 49), (.mov (.t 1)), none, false⟩, ⟨(some 10), (.asg (.t 49)), none, false⟩] []) (.seq (.seq (.region [⟨(some 50), (.mov (.t 2)), none, false⟩, ⟨(some 51), (.bin .eql (.t 50) (.c (.d (.int .i64 (-1))))), none, false⟩] []) (.cond (.t 51) (Jqar p) (Jqas p))) (.seq (.seq (.region [⟨(some 57), (.mov (.t 0)), none, false⟩, ⟨(some 58), (.bin .eql (.t 57) (.c (.d (.int .i64 8)))), none, false⟩] []) (.cond (.t 58) (.seq (Jqat p) .ret) .skip)) (.seq (Jqau p) .ret))))) := eqi
def Jqbi (p : Nums) : IC := (.seq (.region [⟨(some 66), (.bin .eql (.t 13) (.c (.d (.int .i64 10)))), none, false⟩, ⟨(some 65), (.asg (.t 66)), none, false⟩] []) (.cond (.t 65) (.seq (Jqav p) .ret) (Jqbg p)))
@[simp] theorem Jebi {p : Nums} : EqI (Jqbi p) (.seq (.region [⟨(some 66), (.bin .eql (.t 13) (.c (.d (.int .i64 10)))), none, false⟩, ⟨(some 65), (.asg (.t 66)), none, false⟩] []) (.cond (.t 65) (.seq (Jqav p) .ret) (Jqbg p))) := eqi
def Jqbj (p : Nums) : IC := (.seq (.seq (.region [⟨(some 45), (.bin .eql (.t 13) (.c (.d (.int .i64 8)))), none, false⟩, ⟨(some 44), (.asg (.t 45)), none, false⟩] []) (.cond (.t 44) .skip (Jqbv p))) (.cond (.t 44) (Jqbh p) (Jqbi p)))
@[simp] theorem Jebj {p : Nums} : EqI (Jqbj p) (.seq (.seq (.region [⟨(some 45), (.bin .eql (.t 13) (.c (.d (.int .i64 8)))), none, false⟩, ⟨(some 44), (.asg (.t 45)), none, false⟩] []) (.cond (.t 44) .skip (Jqbv p))) (.cond (.t 44) (Jqbh p) (Jqbi p))) := eqi
def Jqbk (p : Nums) : IC := (.seq (.region [⟨(some 40), (.bin .eql (.t 13) (.c (.d (.int .i64 7)))), none, false⟩, ⟨(some 39), (.asg (.t 40)), none, false⟩] []) (.cond (.t 39) (.seq (Jqbu p) .ret) (Jqbj p)))
@[simp] theorem Jebk {p : Nums} : EqI (Jqbk p) (.seq (.region [⟨(some 40), (.bin .eql (.t 13) (.c (.d (.int .i64 7)))), none, false⟩, ⟨(some 39), (.asg (.t 40)), none, false⟩] []) (.cond (.t 39) (.seq (Jqbu p) .ret) (Jqbj p))) := eqi
def Jqbl (p : Nums) : IC := (.seq (.region [⟨(some 35), (.bin .eql (.t 13) (.c (.d (.int .i64 6)))), none, false⟩, ⟨(some 34), (.asg (.t 35)), none, false⟩] []) (.cond (.t 34) (.seq (Jqbt p) .ret) (Jqbk p)))
@[simp] theorem Jebl {p : Nums} : EqI (Jqbl p) (.seq (.region [⟨(some 35), (.bin .eql (.t 13) (.c (.d (.int .i64 6)))), none, false⟩, ⟨(some 34), (.asg (.t 35)), none, false⟩] []) (.cond (.t 34) (.seq (Jqbt p) .ret) (Jqbk p))) := eqi
def Jqbm (p : Nums) : IC := (.seq (.region [⟨(some 30), (.bin .eql (.t 13) (.c (.d (.int .i64 5)))), none, false⟩, ⟨(some 29), (.asg (.t 30)), none, false⟩] []) (.cond (.t 29) (.seq (Jqbs p) .ret) (Jqbl p)))
@[simp] theorem Jebm {p : Nums} : EqI (Jqbm p) (.seq (.region [⟨(some 30), (.bin .eql (.t 13) (.c (.d (.int .i64 5)))), none, false⟩, ⟨(some 29), (.asg (.t 30)), none, false⟩] []) (.cond (.t 29) (.seq (Jqbs p) .ret) (Jqbl p))) := eqi
def Jqbo (p : Nums) : IC := (.seq (.region [⟨(some 25), (.bin .eql (.t 13) (.c (.d (.int .i64 4)))), none, false⟩, ⟨(some 24), (.asg (.t 25)), none, false⟩] []) (.cond (.t 24) (.seq (Jqbn p) .ret) (Jqbm p)))
@[simp] theorem Jebo {p : Nums} : EqI (Jqbo p) (.seq (.region [⟨(some 25), (.bin .eql (.t 13) (.c (.d (.int .i64 4)))), none, false⟩, ⟨(some 24), (.asg (.t 25)), none, false⟩] []) (.cond (.t 24) (.seq (Jqbn p) .ret) (Jqbm p))) := eqi
def Jqbp (p : Nums) : IC := (.seq (.region [⟨(some 21), (.bin .eql (.t 13) (.c (.d (.int .i64 3)))), none, false⟩, ⟨(some 20), (.asg (.t 21)), none, false⟩] []) (.cond (.t 20) (.seq (Jqbc p) .ret) (Jqbo p)))
@[simp] theorem Jebp {p : Nums} : EqI (Jqbp p) (.seq (.region [⟨(some 21), (.bin .eql (.t 13) (.c (.d (.int .i64 3)))), none, false⟩, ⟨(some 20), (.asg (.t 21)), none, false⟩] []) (.cond (.t 20) (.seq (Jqbc p) .ret) (Jqbo p))) := eqi
def Jqbq (p : Nums) : IC := (.seq (.region [⟨(some 18), (.bin .eql (.t 13) (.c (.d (.int .i64 2)))), none, false⟩, ⟨(some 17), (.asg (.t 18)), none, false⟩] []) (.cond (.t 17) (.seq (Jqb1 p) .ret) (Jqbp p)))
@[simp] theorem Jebq {p : Nums} : EqI (Jqbq p) (.seq (.region [⟨(some 18), (.bin .eql (.t 13) (.c (.d (.int .i64 2)))), none, false⟩, ⟨(some 17), (.asg (.t 18)), none, false⟩] []) (.cond (.t 17) (.seq (Jqb1 p) .ret) (Jqbp p))) := eqi
def Jqbr (p : Nums) : IC := (.seq (.region [⟨(some 15), (.bin .eql (.t 13) (.c (.d (.int .i64 1)))), none, false⟩, ⟨(some 14), (.asg (.t 15)), none, false⟩] []) (.cond (.t 14) (.seq (Jqaq p) .ret) (Jqbq p)))
@[simp] theorem Jebr {p : Nums} : EqI (Jqbr p) (.seq (.region [⟨(some 15), (.bin .eql (.t 13) (.c (.d (.int .i64 1)))), none, false⟩, ⟨(some 14), (.asg (.t 15)), none, false⟩] []) (.cond (.t 14) (.seq (Jqaq p) .ret) (Jqbq p))) := eqi
def Jtbj (p : Nums) : IC := (.seq (.region [⟨(some 8), (.asg (.c (.d (.int .i64 0)))), none, false⟩, ⟨(some 9), (.asg (.c (.d (.bool false)))), none, false⟩] []) (.seq (.seq (.region [⟨(some 13), (.mov (.t 0)), none, false⟩] []) (.block 0 (Jqbr p))) (.seq (.region [⟨(some 8), (.asg (.c (.d (.int .i64 0)))), none, false⟩, ⟨(some 9), (.asg (.c (.d (.bool false)))), none, false⟩] []) .ret)))
@[simp] def Jq9u (p : Nums) : List IOp := [qo 8 (.mov (.t 0)), qo 9 (.len (.t 8)), qo 10 (.mkslice 2 16 [(.int .i64 0), (.int .i64 0)] (ci 0) (.t 9)), qo 5 (.take (.t 10))]
def Jq9n (p : Nums) : IC := (.region (Jq9u p) [])
@[simp] theorem Je9n {p : Nums} : EqI (Jq9n p) (.region (Jq9u p) []) := eqi
@[simp] def Jq9v (p : Nums) : List IOp := [qo 11 (.mov (.t 0)), qo 12 (.len (.t 11)), qo 13 (.mov (ci 0))]
def Jq9o (p : Nums) : IC := (.region (Jq9v p) [])
@[simp] theorem Je9o {p : Nums} : EqI (Jq9o p) (.region (Jq9v p) []) := eqi
@[simp] def Jq9w (p : Nums) : List IOp := [qo 15 (.iaddr 2 (.t 11) (.t 13)), qo 16 (.load (some 2) (.t 15)), qo 7 (.alloc [(zi 0), (zi 0)]), qn (.store 2 (.t 7) (.t 16))]
def Jq9p (p : Nums) : IC := (.region (Jq9w p) [])
@[simp] theorem Je9p {p : Nums} : EqI (Jq9p p) (.region (Jq9w p) []) := eqi
@[simp] def Jq9x (p : Nums) : List IOp := [qo 17 (.mov (.t 1)), qo 18 (.load (some 2) (.t 7)), qo 19 (.callv (.t 17) [(.t 18)])]
def Jq9q (p : Nums) : IC := (.region (Jq9x p) [])
@[simp] theorem Je9q {p : Nums} : EqI (Jq9q p) (.region (Jq9x p) []) := eqi
@[simp] def Jq9y (p : Nums) : List IOp := [qo 20 (.mov (.t 5)), qo 21 (.load (some 2) (.t 7)), qo 22 (.bslice 2 1 [(.int .i64 0), (.int .i64 0)] [(0, (.t 21))]), qo 23 (.app 2 16 (.t 20) (.t 22)), qo 5 (.take (.t 23))]
def Jq9r (p : Nums) : IC := (.region (Jq9y p) [])
@[simp] theorem Je9r {p : Nums} : EqI (Jq9r p) (.region (Jq9y p) []) := eqi
def Jq9s (p : Nums) : IC := (.seq (Jq9p p) (.seq (Jq9q p) (.cond (.t 19) (Jq9r p) .skip)))
@[simp] theorem Je9s {p : Nums} : EqI (Jq9s p) (.seq (Jq9p p) (.seq (Jq9q p) (.cond (.t 19) (Jq9r p) .skip))) := eqi
def Jq9t (p : Nums) : IC := (.seq (.region [⟨(some 14), (.bin .lss (.t 13) (.t 12)), none, false⟩] []) (.seq (.cond (.t 14) .skip (.exit 0)) (.seq (.block 1 (Jq9s p)) (.region [⟨(some 24), (.bin .add (.t 13) (.c (.d (.int .i64 1)))), none, false⟩, ⟨(some 13), (.mov (.t 24)), none, false⟩] []))))
@[simp] theorem Je9t {p : Nums} : EqI (Jq9t p) (.seq (.region [⟨(some 14), (.bin .lss (.t 13) (.t 12)), none, false⟩] []) (.seq (.cond (.t 14) .skip (.exit 0)) (.seq (.block 1 (Jq9s p)) (.region [⟨(some 24), (.bin .add (.t 13) (.c (.d (.int .i64 1)))), none, false⟩, ⟨(some 13), (.mov (.t 24)), none, false⟩] [])))) := eqi
def Jtbd (p : Nums) : IC := (.seq (.region [⟨(some 4), (.asg (.c .nils)), none, false⟩] []) (.seq (Jq9n p) (.seq (.seq (Jq9o p) (.block 0 (.loop (Jq9t p)))) (.seq (.region [⟨(some 25), (.mov (.t 5)), none, false⟩, ⟨(some 4), (.take (.t 25)), none, false⟩] []) .ret))))
@[simp] def Jq8i (p : Nums) : List IOp := [qo 4 (.faddr 0 (.t 2)), qo 5 (.load none (.t 4)), qo 6 (.load none (.t 1)), qo 7 (.bin .neq (.t 5) (.t 6)), qo 3 (.asg (.t 7))]
def Jq8h (p : Nums) : IC := (.region (Jq8i p) [])
@[simp] theorem Je8h {p : Nums} : EqI (Jq8h p) (.region (Jq8i p) []) := eqi
def Jtb8 (p : Nums) : IC := (.seq (.region [⟨(some 2), (.box (.t 0)), none, false⟩, ⟨(some 3), (.asg (.c (.d (.bool false)))), none, false⟩] []) (.seq (Jq8h p) .ret))
@[simp] def Jq8e (p : Nums) : List IOp := [qo 4 (.faddr 1 (.t 2)), qo 5 (.load none (.t 4)), qo 6 (.load none (.t 1)), qo 7 (.bin .neq (.t 5) (.t 6)), qo 3 (.asg (.t 7))]
def Jq8d (p : Nums) : IC := (.region (Jq8e p) [])
@[simp] theorem Je8d {p : Nums} : EqI (Jq8d p) (.region (Jq8e p) []) := eqi
def Jtb6 (p : Nums) : IC := (.seq (.region [⟨(some 2), (.box (.t 0)), none, false⟩, ⟨(some 3), (.asg (.c (.d (.bool false)))), none, false⟩] []) (.seq (Jq8d p) .ret))
@[simp] def Jqfp (p : Nums) : List IOp := [qo 5 (.mov (.t 0)), qo 6 (.bin .geq (.t 5) (ci 0)), qo 7 (.mov (.t 6)), ⟨(some 8), (.mov (.t 0)), (some (7, true)), false⟩, ⟨(some 9), (.mov (.t 1)), (some (7, true)), false⟩, ⟨(some 10), (.bin .lss (.t 8) (.t 9)), (some (7, true)), false⟩, qo 11 (.pick (.t 7) (.t 10) (.c (.d (.bool false)))), qo 4 (.asg (.t 11))]
def Jqfo (p : Nums) : IC := (.region (Jqfp p) [])
@[simp] theorem Jefo {p : Nums} : EqI (Jqfo p) (.region (Jqfp p) []) := eqi
def Jtbs (p : Nums) : IC := (.seq (.region [⟨(some 4), (.asg (.c (.d (.bool false)))), none, false⟩] []) (.seq (Jqfo p) .ret))
@[simp] def Jq7p (p : Nums) : List IOp := [qo 2 (.alloc [(.d (.bool false)), (.d (.bool false)), (.d (.bool false)), (.d (.bool false))]), qo 3 (.asg (.c (.d (.bool false))))]
def Jq7b (p : Nums) : IC := (.region (Jq7p p) [])
@[simp] theorem Je7b {p : Nums} : EqI (Jq7b p) (.region (Jq7p p) []) := eqi
@[simp] def Jq7r (p : Nums) : List IOp := [qo 5 (.mov (.t 0)), qo 6 (.call p.opcode_known [(.t 5)]), qo 7 (.un .not (.t 6)), qo 4 (.asg (.t 7))]
def Jq7h (p : Nums) : IC := (.region (Jq7r p) [])
@[simp] theorem Je7h {p : Nums} : EqI (Jq7h p) (.region (Jq7r p) []) := eqi
@[simp] def Jq7s (p : Nums) : List IOp := [qo 8 (.build [(.d (.bool false)), (.d (.bool false)), (.d (.bool false)), (.d (.bool false))] []), qn (.store 4 (.t 2) (.t 8)), qo 3 (.asg (.c (.d (.bool false))))]
def Jq7i (p : Nums) : IC := (.region (Jq7s p) [])
@[simp] theorem Je7i {p : Nums} : EqI (Jq7i p) (.region (Jq7s p) []) := eqi
@[simp] def Jq7t (p : Nums) : List IOp := [qo 10 (.mov (.t 0)), qo 11 (.bin .eql (.t 10) (ci 1)), qo 9 (.asg (.t 11))]
def Jq7j (p : Nums) : IC := (.region (Jq7t p) [])
@[simp] theorem Je7j {p : Nums} : EqI (Jq7j p) (.region (Jq7t p) []) := eqi
@[simp] def Jq7u (p : Nums) : List IOp := [qo 12 (.build [(.d (.bool false)), (.d (.bool false)), (.d (.bool false)), (.d (.bool false))] [(0, 1, (.c (.d (.bool true)))), (3, 1, (.c (.d (.bool true))))]), qn (.store 4 (.t 2) (.t 12)), qo 3 (.asg (.c (.d (.bool true))))]
def Jq7k (p : Nums) : IC := (.region (Jq7u p) [])
@[simp] theorem Je7k {p : Nums} : EqI (Jq7k p) (.region (Jq7u p) []) := eqi
@[simp] def Jq7v (p : Nums) : List IOp := [qo 14 (.mov (.t 0)), qo 15 (.bin .leq (.t 14) (ci 4)), qo 13 (.asg (.t 15))]
def Jq7l (p : Nums) : IC := (.region (Jq7v p) [])
@[simp] theorem Je7l {p : Nums} : EqI (Jq7l p) (.region (Jq7v p) []) := eqi
@[simp] def Jq7w (p : Nums) : List IOp := [qo 16 (.build [(.d (.bool false)), (.d (.bool false)), (.d (.bool false)), (.d (.bool false))] [(0, 1, (.c (.d (.bool true)))), (1, 1, (.c (.d (.bool true))))]), qn (.store 4 (.t 2) (.t 16)), qo 3 (.asg (.c (.d (.bool true))))]
def Jq7m (p : Nums) : IC := (.region (Jq7w p) [])
@[simp] theorem Je7m {p : Nums} : EqI (Jq7m p) (.region (Jq7w p) []) := eqi
@[simp] def Jq7x (p : Nums) : List IOp := [qo 18 (.mov (.t 0)), qo 19 (.bin .leq (.t 18) (ci 16)), qo 17 (.asg (.t 19))]
def Jq7n (p : Nums) : IC := (.region (Jq7x p) [])
@[simp] theorem Je7n {p : Nums} : EqI (Jq7n p) (.region (Jq7x p) []) := eqi
@[simp] def Jq7y (p : Nums) : List IOp := [qo 20 (.build [(.d (.bool false)), (.d (.bool false)), (.d (.bool false)), (.d (.bool false))] [(0, 1, (.c (.d (.bool true)))), (1, 1, (.c (.d (.bool true)))), (2, 1, (.c (.d (.bool true))))]), qn (.store 4 (.t 2) (.t 20)), qo 3 (.asg (.c (.d (.bool true))))]
def Jq7o (p : Nums) : IC := (.region (Jq7y p) [])
@[simp] theorem Je7o {p : Nums} : EqI (Jq7o p) (.region (Jq7y p) []) := eqi
def Jq7c (p : Nums) : IC := (.seq (Jq7n p) (.cond (.t 17) (.seq (Jq7o p) .ret) .skip))
@[simp] theorem Je7c {p : Nums} : EqI (Jq7c p) (.seq (Jq7n p) (.cond (.t 17) (.seq (Jq7o p) .ret) .skip)) := eqi
def Jq7d (p : Nums) : IC := (.seq (Jq7l p) (.cond (.t 13) (.seq (Jq7m p) .ret) (Jq7c p)))
@[simp] theorem Je7d {p : Nums} : EqI (Jq7d p) (.seq (Jq7l p) (.cond (.t 13) (.seq (Jq7m p) .ret) (Jq7c p))) := eqi
def Jq7e (p : Nums) : IC := (.seq (Jq7j p) (.cond (.t 9) (.seq (Jq7k p) .ret) (Jq7d p)))
@[simp] theorem Je7e {p : Nums} : EqI (Jq7e p) (.seq (Jq7j p) (.cond (.t 9) (.seq (Jq7k p) .ret) (Jq7d p))) := eqi
def Jq7f (p : Nums) : IC := (.seq (Jq7h p) (.cond (.t 4) (.seq (Jq7i p) .ret) (Jq7e p)))
@[simp] theorem Je7f {p : Nums} : EqI (Jq7f p) (.seq (Jq7h p) (.cond (.t 4) (.seq (Jq7i p) .ret) (Jq7e p))) := eqi
@[simp] def Jq7q (p : Nums) : List IOp := [qo 21 (.mov (.t 0)), qo 22 (.bin .eql (.t 21) (ci 17)), qo 23 (.build [(.d (.bool false)), (.d (.bool false)), (.d (.bool false)), (.d (.bool false))] [(1, 1, (.t 22))]), qn (.store 4 (.t 2) (.t 23)), qo 3 (.asg (.c (.d (.bool true))))]
def Jq7g (p : Nums) : IC := (.region (Jq7q p) [])
@[simp] theorem Je7g {p : Nums} : EqI (Jq7g p) (.region (Jq7q p) []) := eqi
def Jtb2 (p : Nums) : IC := (.seq (Jq7b p) (.seq (.block 0 (Jq7f p)) (.seq (Jq7g p) .ret)))
@[simp] def Jqd5 (p : Nums) : List IOp := [qo 15 (.mov (.t 0)), qo 16 (.conv .u64 (.t 15)), qo 17 (.mov (.t 9)), qo 18 (.call p.ref06_bit [(.t 16), (.t 17)])]
def Jqcu (p : Nums) : IC := (.region (Jqd5 p) [])
@[simp] theorem Jecu {p : Nums} : EqI (Jqcu p) (.region (Jqd5 p) []) := eqi
@[simp] def Jqd7 (p : Nums) : List IOp := [qo 10 (.asg (ci 2))]
def Jqcx (p : Nums) : IC := (.region (Jqd7 p) [])
@[simp] theorem Jecx {p : Nums} : EqI (Jqcx p) (.region (Jqd7 p) []) := eqi
@[simp] def Jqd8 (p : Nums) : List IOp := [qo 19 (.mov (.t 1)), qo 20 (.conv .u64 (.t 19)), qo 21 (.mov (.t 9)), qo 22 (.call p.ref06_bit [(.t 20), (.t 21)])]
def Jqcy (p : Nums) : IC := (.region (Jqd8 p) [])
@[simp] theorem Jecy {p : Nums} : EqI (Jqcy p) (.region (Jqd8 p) []) := eqi
@[simp] def Jqd9 (p : Nums) : List IOp := [qo 23 (.mov (.t 10)), qo 24 (.bin .add (.t 23) (ci 1)), qo 10 (.asg (.t 24))]
def Jqcz (p : Nums) : IC := (.region (Jqd9 p) [])
@[simp] theorem Jecz {p : Nums} : EqI (Jqcz p) (.region (Jqd9 p) []) := eqi
@[simp] def Jqda (p : Nums) : List IOp := [qo 25 (.mov (.t 2)), qo 26 (.mov (.t 10)), qo 27 (.iaddr 1 (.t 25) (.t 26)), qo 28 (.load none (.t 27))]
def Jqd0 (p : Nums) : IC := (.region (Jqda p) [])
@[simp] theorem Jed0 {p : Nums} : EqI (Jqd0 p) (.region (Jqda p) []) := eqi
@[simp] def Jqdb (p : Nums) : List IOp := [qo 29 (.mov (.t 7)), qo 30 (.mov (.t 8)), qo 31 (.bin .add (.t 29) (.t 30)), qo 7 (.asg (.t 31))]
def Jqd1 (p : Nums) : IC := (.region (Jqdb p) [])
@[simp] theorem Jed1 {p : Nums} : EqI (Jqd1 p) (.region (Jqdb p) []) := eqi
@[simp] def Jqdc (p : Nums) : List IOp := [qo 32 (.mov (.t 8)), qo 33 (.bin .mul (.t 32) (.c (.d (.int .u64 2)))), qo 8 (.asg (.t 33))]
def Jqd2 (p : Nums) : IC := (.region (Jqdc p) [])
@[simp] theorem Jed2 {p : Nums} : EqI (Jqd2 p) (.region (Jqdc p) []) := eqi
def Jqd3 (p : Nums) : IC := (.seq (.region [⟨(some 10), (.asg (.c (.d (.int .i64 0)))), none, false⟩] []) (.seq (.seq (Jqcu p) (.cond (.t 18) (Jqcx p) .skip)) (.seq (.seq (Jqcy p) (.cond (.t 22) (Jqcz p) .skip)) (.seq (.seq (Jqd0 p) (.cond (.t 28) (Jqd1 p) .skip)) (Jqd2 p)))))
@[simp] theorem Jed3 {p : Nums} : EqI (Jqd3 p) (.seq (.region [⟨(some 10), (.asg (.c (.d (.int .i64 0)))), none, false⟩] []) (.seq (.seq (Jqcu p) (.cond (.t 18) (Jqcx p) .skip)) (.seq (.seq (Jqcy p) (.cond (.t 22) (Jqcz p) .skip)) (.seq (.seq (Jqd0 p) (.cond (.t 28) (Jqd1 p) .skip)) (Jqd2 p))))) := eqi
@[simp] def Jqdd (p : Nums) : List IOp := [qo 13 (.mov (.t 9)), qo 14 (.bin .add (.t 13) (ci 1)), qo 9 (.asg (.t 14))]
def Jqd4 (p : Nums) : IC := (.region (Jqdd p) [])
@[simp] theorem Jed4 {p : Nums} : EqI (Jqd4 p) (.region (Jqdd p) []) := eqi
def Jqcv (p : Nums) : IC := (.seq (.seq (.region [⟨(some 11), (.mov (.t 9)), none, false⟩, ⟨(some 12), (.bin .lss (.t 11) (.c (.d (.int .i64 64)))), none, false⟩] []) (.cond (.t 12) .skip (.exit 0))) (.seq (.block 1 (Jqd3 p)) (Jqd4 p)))
@[simp] theorem Jecv {p : Nums} : EqI (Jqcv p) (.seq (.seq (.region [⟨(some 11), (.mov (.t 9)), none, false⟩, ⟨(some 12), (.bin .lss (.t 11) (.c (.d (.int .i64 64)))), none, false⟩] []) (.cond (.t 12) .skip (.exit 0))) (.seq (.block 1 (Jqd3 p)) (Jqd4 p))) := eqi
@[simp] def Jqd6 (p : Nums) : List IOp := [qo 34 (.mov (.t 7)), qo 35 (.conv .i64 (.t 34)), qo 6 (.asg (.t 35))]
def Jqcw (p : Nums) : IC := (.region (Jqd6 p) [])
@[simp] theorem Jecw {p : Nums} : EqI (Jqcw p) (.region (Jqd6 p) []) := eqi
def Jtbl (p : Nums) : IC := (.seq (.region [⟨(some 6), (.asg (.c (.d (.int .i64 0)))), none, false⟩] []) (.seq (.region [⟨(some 7), (.asg (.c (.d (.int .u64 0)))), none, false⟩] []) (.seq (.region [⟨(some 8), (.asg (.c (.d (.int .u64 1)))), none, false⟩] []) (.seq (.seq (.region [⟨(some 9), (.asg (.c (.d (.int .i64 0)))), none, false⟩] []) (.block 0 (.loop (Jqcv p)))) (.seq (Jqcw p) .ret)))))
@[simp] def Jqdh (p : Nums) : List IOp := [qo 3 (.mov (.t 0)), qo 4 (.bin .lss (.t 3) (ci 0)), qo 5 (.mov (.t 4)), ⟨(some 6), (.mov (.t 0)), (some (5, true)), false⟩, ⟨(some 7), (.bin .rem (.t 6) (ci 2)), (some (5, true)), false⟩, ⟨(some 8), (.bin .neq (.t 7) (ci 0)), (some (5, true)), false⟩, qo 9 (.pick (.t 5) (.t 8) (.c (.d (.bool false))))]
def Jqde (p : Nums) : IC := (.region (Jqdh p) [])
@[simp] theorem Jede {p : Nums} : EqI (Jqde p) (.region (Jqdh p) []) := eqi
@[simp] def Jqdi (p : Nums) : List IOp := [qo 10 (.mov (.t 0)), qo 11 (.bin .quo (.t 10) (ci 2)), qo 12 (.bin .sub (.t 11) (ci 1)), qo 2 (.asg (.t 12))]
def Jqdf (p : Nums) : IC := (.region (Jqdi p) [])
@[simp] theorem Jedf {p : Nums} : EqI (Jqdf p) (.region (Jqdi p) []) := eqi
@[simp] def Jqdj (p : Nums) : List IOp := [qo 13 (.mov (.t 0)), qo 14 (.bin .quo (.t 13) (ci 2)), qo 2 (.asg (.t 14))]
def Jqdg (p : Nums) : IC := (.region (Jqdj p) [])
@[simp] theorem Jedg {p : Nums} : EqI (Jqdg p) (.region (Jqdj p) []) := eqi
def Jtbm (p : Nums) : IC := (.seq (.region [⟨(some 2), (.asg (.c (.d (.int .i64 0)))), none, false⟩] []) (.seq (.seq (Jqde p) (.cond (.t 9) (.seq (Jqdf p) .ret) .skip)) (.seq (Jqdg p) .ret)))
def Jqdk (p : Nums) : IC := (.seq (.region [⟨(some 2), (.asg (.c (.d (.int .i64 1)))), none, false⟩] []) .ret)
@[simp] theorem Jedk {p : Nums} : EqI (Jqdk p) (.seq (.region [⟨(some 2), (.asg (.c (.d (.int .i64 1)))), none, false⟩] []) .ret) := eqi
def Jtbn (p : Nums) : IC := (.seq (.region [⟨(some 2), (.asg (.c (.d (.int .i64 0)))), none, false⟩] []) (.seq (.seq (.region [⟨(some 3), (.mov (.t 0)), none, false⟩] []) (.cond (.t 3) (Jqdk p) .skip)) (.seq (.region [⟨(some 2), (.asg (.c (.d (.int .i64 0)))), none, false⟩] []) .ret)))
@[simp] def Jq80 (p : Nums) : List IOp := [qo 3 (.mov (.t 0)), qo 4 (.bin .geq (.t 3) (ci 1)), qo 5 (.mov (.t 4)), ⟨(some 6), (.mov (.t 0)), (some (5, true)), false⟩, ⟨(some 7), (.bin .leq (.t 6) (ci 18)), (some (5, true)), false⟩, qo 8 (.pick (.t 5) (.t 7) (.c (.d (.bool false)))), qo 2 (.asg (.t 8))]
def Jq7z (p : Nums) : IC := (.region (Jq80 p) [])
@[simp] theorem Je7z {p : Nums} : EqI (Jq7z p) (.region (Jq80 p) []) := eqi
def Jtb3 (p : Nums) : IC := (.seq (.region [⟨(some 2), (.asg (.c (.d (.bool false)))), none, false⟩] []) (.seq (Jq7z p) .ret))
@[simp] def Jqcq (p : Nums) : List IOp := [qo 6 (.mov (.t 5)), qo 7 (.mov (.t 1)), qo 8 (.bin .lss (.t 6) (.t 7))]
def Jqcl (p : Nums) : IC := (.region (Jqcq p) [])
@[simp] theorem Jecl {p : Nums} : EqI (Jqcl p) (.region (Jqcq p) []) := eqi
@[simp] def Jqcr (p : Nums) : List IOp := [qo 11 (.mov (.t 0)), qo 12 (.bin .quo (.t 11) (.c (.d (.int .u64 2)))), qo 0 (.asg (.t 12))]
def Jqcm (p : Nums) : IC := (.region (Jqcr p) [])
@[simp] theorem Jecm {p : Nums} : EqI (Jqcm p) (.region (Jqcr p) []) := eqi
@[simp] def Jqcs (p : Nums) : List IOp := [qo 9 (.mov (.t 5)), qo 10 (.bin .add (.t 9) (ci 1)), qo 5 (.asg (.t 10))]
def Jqcn (p : Nums) : IC := (.region (Jqcs p) [])
@[simp] theorem Jecn {p : Nums} : EqI (Jqcn p) (.region (Jqcs p) []) := eqi
def Jqco (p : Nums) : IC := (.seq (.seq (Jqcl p) (.cond (.t 8) .skip (.exit 0))) (.seq (.block 1 (Jqcm p)) (Jqcn p)))
@[simp] theorem Jeco {p : Nums} : EqI (Jqco p) (.seq (.seq (Jqcl p) (.cond (.t 8) .skip (.exit 0))) (.seq (.block 1 (Jqcm p)) (Jqcn p))) := eqi
@[simp] def Jqct (p : Nums) : List IOp := [qo 13 (.mov (.t 0)), qo 14 (.bin .rem (.t 13) (.c (.d (.int .u64 2)))), qo 15 (.bin .eql (.t 14) (.c (.d (.int .u64 1)))), qo 4 (.asg (.t 15))]
def Jqcp (p : Nums) : IC := (.region (Jqct p) [])
@[simp] theorem Jecp {p : Nums} : EqI (Jqcp p) (.region (Jqct p) []) := eqi
def Jtbk (p : Nums) : IC := (.seq (.region [⟨(some 4), (.asg (.c (.d (.bool false)))), none, false⟩] []) (.seq (.seq (.region [⟨(some 5), (.asg (.c (.d (.int .i64 0)))), none, false⟩] []) (.block 0 (.loop (Jqco p)))) (.seq (Jqcp p) .ret)))
@[simp] def Jqhp (p : Nums) : List IOp := [qo 6 (.mov (.t 4)), qo 7 (.mov (.t 0)), qo 8 (.len (.t 7)), qo 9 (.bin .lss (.t 6) (.t 8))]
def Jqhg (p : Nums) : IC := (.region (Jqhp p) [])
@[simp] theorem Jehg {p : Nums} : EqI (Jqhg p) (.region (Jqhp p) []) := eqi
@[simp] def Jqhq (p : Nums) : List IOp := [qo 12 (.mov (.t 4)), qo 13 (.mov (.t 5)), qo 14 (.bin .add (.t 12) (.t 13)), qo 15 (.mov (.t 0)), qo 16 (.len (.t 15)), qo 17 (.bin .lss (.t 14) (.t 16)), qo 18 (.mov (.t 17)), ⟨(some 19), (.mov (.t 0)), (some (18, true)), false⟩, ⟨(some 20), (.mov (.t 4)), (some (18, true)), false⟩, ⟨(some 21), (.mov (.t 5)), (some (18, true)), false⟩, ⟨(some 22), (.bin .add (.t 20) (.t 21)), (some (18, true)), false⟩, ⟨(some 23), (.iaddr 7 (.t 19) (.t 22)), (some (18, true)), false⟩, ⟨(some 24), (.faddr 0 (.t 23)), (some (18, true)), false⟩, ⟨(some 25), (.load none (.t 24)), (some (18, true)), false⟩, ⟨(some 26), (.bin .eql (.t 25) (ci 18)), (some (18, true)), false⟩, qo 27 (.pick (.t 18) (.t 26) (.c (.d (.bool false))))]
def Jqhh (p : Nums) : IC := (.region (Jqhq p) [])
@[simp] theorem Jehh {p : Nums} : EqI (Jqhh p) (.region (Jqhq p) []) := eqi
@[simp] def Jqhr (p : Nums) : List IOp := [qo 28 (.mov (.t 5)), qo 29 (.bin .add (.t 28) (ci 1)), qo 5 (.asg (.t 29))]
def Jqhi (p : Nums) : IC := (.region (Jqhr p) [])
@[simp] theorem Jehi {p : Nums} : EqI (Jqhi p) (.region (Jqhr p) []) := eqi
def Jqhj (p : Nums) : IC := (.seq (.seq (Jqhh p) (.cond (.t 27) .skip (.exit 2))) (.block 3 (Jqhi p)))
@[simp] theorem Jehj {p : Nums} : EqI (Jqhj p) (.seq (.seq (Jqhh p) (.cond (.t 27) .skip (.exit 2))) (.block 3 (Jqhi p))) := eqi
@[simp] def Jqhs (p : Nums) : List IOp := [qo 30 (.mov (.t 5)), qo 31 (.mov (.t 3)), qo 32 (.bin .gtr (.t 30) (.t 31))]
def Jqhk (p : Nums) : IC := (.region (Jqhs p) [])
@[simp] theorem Jehk {p : Nums} : EqI (Jqhk p) (.region (Jqhs p) []) := eqi
@[simp] def Jqht (p : Nums) : List IOp := [qo 33 (.mov (.t 5)), qo 3 (.asg (.t 33))]
def Jqhl (p : Nums) : IC := (.region (Jqht p) [])
@[simp] theorem Jehl {p : Nums} : EqI (Jqhl p) (.region (Jqht p) []) := eqi
def Jqhm (p : Nums) : IC := (.seq (.region [⟨(some 5), (.asg (.c (.d (.int .i64 0)))), none, false⟩] []) (.seq (.block 2 (.loop (Jqhj p))) (.seq (Jqhk p) (.cond (.t 32) (Jqhl p) .skip))))
@[simp] theorem Jehm {p : Nums} : EqI (Jqhm p) (.seq (.region [⟨(some 5), (.asg (.c (.d (.int .i64 0)))), none, false⟩] []) (.seq (.block 2 (.loop (Jqhj p))) (.seq (Jqhk p) (.cond (.t 32) (Jqhl p) .skip)))) := eqi
@[simp] def Jqhu (p : Nums) : List IOp := [qo 10 (.mov (.t 4)), qo 11 (.bin .add (.t 10) (ci 1)), qo 4 (.asg (.t 11))]
def Jqhn (p : Nums) : IC := (.region (Jqhu p) [])
@[simp] theorem Jehn {p : Nums} : EqI (Jqhn p) (.region (Jqhu p) []) := eqi
def Jqho (p : Nums) : IC := (.seq (.seq (Jqhg p) (.cond (.t 9) .skip (.exit 0))) (.seq (.block 1 (Jqhm p)) (Jqhn p)))
@[simp] theorem Jeho {p : Nums} : EqI (Jqho p) (.seq (.seq (Jqhg p) (.cond (.t 9) .skip (.exit 0))) (.seq (.block 1 (Jqhm p)) (Jqhn p))) := eqi
def Jtbw (p : Nums) : IC := (.seq (.region [⟨(some 2), (.asg (.c (.d (.int .i64 0)))), none, false⟩] []) (.seq (.region [⟨(some 3), (.asg (.c (.d (.int .i64 0)))), none, false⟩] []) (.seq (.seq (.region [⟨(some 4), (.asg (.c (.d (.int .i64 0)))), none, false⟩] []) (.block 0 (.loop (Jqho p)))) (.seq (.region [⟨(some 34), (.mov (.t 3)), none, false⟩, ⟨(some 2), (.asg (.t 34)), none, false⟩] []) .ret))))
@[simp] def Jqgw (p : Nums) : List IOp := [qo 5 (.mov (.t 4)), qo 6 (.faddr 3 (.t 1)), qo 7 (.load none (.t 6)), qo 8 (.len (.t 7)), qo 9 (.bin .lss (.t 5) (.t 8))]
def Jqgs (p : Nums) : IC := (.region (Jqgw p) [])
@[simp] theorem Jegs {p : Nums} : EqI (Jqgs p) (.region (Jqgw p) []) := eqi
@[simp] def Jqgx (p : Nums) : List IOp := [qo 12 (.mov (.t 3)), qo 13 (.faddr 3 (.t 1)), qo 14 (.load none (.t 13)), qo 15 (.mov (.t 4)), qo 16 (.iaddr 5 (.t 14) (.t 15)), qo 17 (.faddr 0 (.t 16)), qo 18 (.load none (.t 17)), qo 19 (.len (.t 18)), qo 20 (.bin .add (.t 12) (.t 19)), qo 3 (.asg (.t 20))]
def Jqgt (p : Nums) : IC := (.region (Jqgx p) [])
@[simp] theorem Jegt {p : Nums} : EqI (Jqgt p) (.region (Jqgx p) []) := eqi
@[simp] def Jqgy (p : Nums) : List IOp := [qo 10 (.mov (.t 4)), qo 11 (.bin .add (.t 10) (ci 1)), qo 4 (.asg (.t 11))]
def Jqgu (p : Nums) : IC := (.region (Jqgy p) [])
@[simp] theorem Jegu {p : Nums} : EqI (Jqgu p) (.region (Jqgy p) []) := eqi
def Jqgv (p : Nums) : IC := (.seq (.seq (Jqgs p) (.cond (.t 9) .skip (.exit 0))) (.seq (.block 1 (Jqgt p)) (Jqgu p)))
@[simp] theorem Jegv {p : Nums} : EqI (Jqgv p) (.seq (.seq (Jqgs p) (.cond (.t 9) .skip (.exit 0))) (.seq (.block 1 (Jqgt p)) (Jqgu p))) := eqi
def Jtbu (p : Nums) : IC := (.seq (.region [⟨(some 1), (.box (.t 0)), none, false⟩, ⟨(some 2), (.asg (.c (.d (.int .i64 0)))), none, false⟩] []) (.seq (.region [⟨(some 3), (.asg (.c (.d (.int .i64 0)))), none, false⟩] []) (.seq (.seq (.region [⟨(some 4), (.asg (.c (.d (.int .i64 0)))), none, false⟩] []) (.block 0 (.loop (Jqgv p)))) (.seq (.region [⟨(some 21), (.mov (.t 3)), none, false⟩, ⟨(some 2), (.asg (.t 21)), none, false⟩] []) .ret))))
@[simp] def Jq7a (p : Nums) : List IOp := [qo 3 (.mov (.t 0)), qo 4 (.bin .mul (ci 2) (.t 3)), qo 2 (.asg (.t 4))]
def Jq79 (p : Nums) : IC := (.region (Jq7a p) [])
@[simp] theorem Je79 {p : Nums} : EqI (Jq79 p) (.region (Jq7a p) []) := eqi
def Jtb1 (p : Nums) : IC := (.seq (.region [⟨(some 2), (.asg (.c (.d (.int .i64 0)))), none, false⟩] []) (.seq (Jq79 p) .ret))
@[simp] def Jqgf (p : Nums) : List IOp := [qo 8 (.faddr 0 (.t 1)), qo 9 (.load none (.t 8)), qo 10 (.bin .lss (.t 9) (ci 0)), qo 11 (.mov (.t 10)), ⟨(some 12), (.faddr 0 (.t 1)), (some (11, false)), false⟩, ⟨(some 13), (.load none (.t 12)), (some (11, false)), false⟩, ⟨(some 14), (.faddr 2 (.t 1)), (some (11, false)), false⟩, ⟨(some 15), (.load none (.t 14)), (some (11, false)), false⟩, ⟨(some 16), (.bin .gtr (.t 13) (.t 15)), (some (11, false)), false⟩, qo 17 (.pick (.t 11) (.c (.d (.bool true))) (.t 16))]
def Jqfq (p : Nums) : IC := (.region (Jqgf p) [])
@[simp] theorem Jefq {p : Nums} : EqI (Jqfq p) (.region (Jqgf p) []) := eqi
def Jqg1 (p : Nums) : IC := (.seq (.region [⟨(some 2), (.asg (.c (.d (.int .i64 10)))), none, false⟩] []) .ret)
@[simp] theorem Jeg1 {p : Nums} : EqI (Jqg1 p) (.seq (.region [⟨(some 2), (.asg (.c (.d (.int .i64 10)))), none, false⟩] []) .ret) := eqi
@[simp] def Jqgo (p : Nums) : List IOp := [qo 18 (.faddr 1 (.t 1)), qo 19 (.load none (.t 18)), qo 20 (.bin .lss (.t 19) (ci 0))]
def Jqg8 (p : Nums) : IC := (.region (Jqgo p) [])
@[simp] theorem Jeg8 {p : Nums} : EqI (Jqg8 p) (.region (Jqgo p) []) := eqi
def Jqg9 (p : Nums) : IC := (.seq (.region [⟨(some 2), (.asg (.c (.d (.int .i64 9)))), none, false⟩] []) .ret)
@[simp] theorem Jeg9 {p : Nums} : EqI (Jqg9 p) (.seq (.region [⟨(some 2), (.asg (.c (.d (.int .i64 9)))), none, false⟩] []) .ret) := eqi
@[simp] def Jqgp (p : Nums) : List IOp := [qo 21 (.faddr 2 (.t 1)), qo 22 (.load none (.t 21)), qo 23 (.bin .gtr (.t 22) (ci 1048576)), qo 24 (.mov (.t 23)), ⟨(some 25), (.faddr 1 (.t 1)), (some (24, false)), false⟩, ⟨(some 26), (.load none (.t 25)), (some (24, false)), false⟩, ⟨(some 27), (.bin .gtr (.t 26) (ci 1048576)), (some (24, false)), false⟩, qo 28 (.pick (.t 24) (.c (.d (.bool true))) (.t 27))]
def Jqga (p : Nums) : IC := (.region (Jqgp p) [])
@[simp] theorem Jega {p : Nums} : EqI (Jqga p) (.region (Jqgp p) []) := eqi
def Jqgb (p : Nums) : IC := (.seq (.region [⟨(some 2), (.asg (.c (.d (.int .i64 6)))), none, false⟩] []) .ret)
@[simp] theorem Jegb {p : Nums} : EqI (Jqgb p) (.seq (.region [⟨(some 2), (.asg (.c (.d (.int .i64 6)))), none, false⟩] []) .ret) := eqi
@[simp] def Jqgq (p : Nums) : List IOp := [qo 29 (.faddr 3 (.t 1)), qo 30 (.load none (.t 29)), qo 31 (.len (.t 30)), qo 32 (.bin .eql (.t 31) (ci 0))]
def Jqgc (p : Nums) : IC := (.region (Jqgq p) [])
@[simp] theorem Jegc {p : Nums} : EqI (Jqgc p) (.region (Jqgq p) []) := eqi
def Jqgd (p : Nums) : IC := (.seq (.region [⟨(some 2), (.asg (.c (.d (.int .i64 14)))), none, false⟩] []) .ret)
@[simp] theorem Jegd {p : Nums} : EqI (Jqgd p) (.seq (.region [⟨(some 2), (.asg (.c (.d (.int .i64 14)))), none, false⟩] []) .ret) := eqi
@[simp] def Jqgr (p : Nums) : List IOp := [qo 33 (.faddr 3 (.t 1)), qo 34 (.load none (.t 33)), qo 35 (.len (.t 34)), qo 36 (.bin .gtr (.t 35) (ci 1048576)), qo 37 (.mov (.t 36)), ⟨(some 38), (.load (some 4) (.t 1)), (some (37, false)), false⟩, ⟨(some 39), (.call p.ref08_Code [(.t 38)]), (some (37, false)), false⟩, ⟨(some 40), (.bin .gtr (.t 39) (ci 1048576)), (some (37, false)), false⟩, qo 41 (.pick (.t 37) (.c (.d (.bool true))) (.t 40))]
def Jqge (p : Nums) : IC := (.region (Jqgr p) [])
@[simp] theorem Jege {p : Nums} : EqI (Jqge p) (.region (Jqgr p) []) := eqi
def Jqfr (p : Nums) : IC := (.seq (.region [⟨(some 2), (.asg (.c (.d (.int .i64 6)))), none, false⟩] []) .ret)
@[simp] theorem Jefr {p : Nums} : EqI (Jqfr p) (.seq (.region [⟨(some 2), (.asg (.c (.d (.int .i64 6)))), none, false⟩] []) .ret) := eqi
@[simp] def Jqgg (p : Nums) : List IOp := [qo 42 (.mov (.t 3)), qo 43 (.faddr 3 (.t 1)), qo 44 (.load none (.t 43)), qo 45 (.len (.t 44)), qo 46 (.bin .lss (.t 42) (.t 45))]
def Jqfs (p : Nums) : IC := (.region (Jqgg p) [])
@[simp] theorem Jefs {p : Nums} : EqI (Jqfs p) (.region (Jqgg p) []) := eqi
@[simp] def Jqgh (p : Nums) : List IOp := [qo 49 (.faddr 3 (.t 1)), qo 50 (.load none (.t 49)), qo 51 (.mov (.t 3)), qo 52 (.iaddr 5 (.t 50) (.t 51)), qo 53 (.load (some 5) (.t 52)), qo 4 (.alloc [.nils, (zi 0), (zi 0), (zi 0), (zi 0)]), qn (.store 5 (.t 4) (.t 53))]
def Jqft (p : Nums) : IC := (.region (Jqgh p) [])
@[simp] theorem Jeft {p : Nums} : EqI (Jqft p) (.region (Jqgh p) []) := eqi
@[simp] def Jqgi (p : Nums) : List IOp := [qo 54 (.mov (.t 5)), qo 55 (.faddr 0 (.t 4)), qo 56 (.load none (.t 55)), qo 57 (.len (.t 56)), qo 58 (.bin .lss (.t 54) (.t 57))]
def Jqfu (p : Nums) : IC := (.region (Jqgi p) [])
@[simp] theorem Jefu {p : Nums} : EqI (Jqfu p) (.region (Jqgi p) []) := eqi
@[simp] def Jqgj (p : Nums) : List IOp := [qp 61 (.faddr 0 (.t 4)), qp 62 (.load none (.t 61)), qp 63 (.mov (.t 5)), qp 64 (.iaddr 7 (.t 62) (.t 63)), qp 65 (.load (some 7) (.t 64)), qp 66 (.faddr 1 (.t 1)), qp 67 (.load none (.t 66)), qp 68 (.faddr 2 (.t 1)), qp 69 (.load none (.t 68)), qo 70 (.call p.ref08_Instr [(.t 65), (.t 67), (.t 69)]), qo 6 (.asg (.t 70))]
def Jqfv (p : Nums) : IC := (.region (Jqgj p) [])
@[simp] theorem Jefv {p : Nums} : EqI (Jqfv p) (.region (Jqgj p) []) := eqi
def Jqfw (p : Nums) : IC := (.seq (.region [⟨(some 73), (.mov (.t 6)), none, false⟩, ⟨(some 2), (.asg (.t 73)), none, false⟩] []) .ret)
@[simp] theorem Jefw {p : Nums} : EqI (Jqfw p) (.seq (.region [⟨(some 73), (.mov (.t 6)), none, false⟩, ⟨(some 2), (.asg (.t 73)), none, false⟩] []) .ret) := eqi
@[simp] def Jqgk (p : Nums) : List IOp := [qo 74 (.mov (.t 5)), qo 75 (.bin .geq (.t 74) (ci 64)), qo 76 (.mov (.t 75)), ⟨(some 77), (.faddr 0 (.t 4)), (some (76, true)), false⟩, ⟨(some 78), (.load none (.t 77)), (some (76, true)), false⟩, ⟨(some 79), (.mov (.t 5)), (some (76, true)), false⟩, ⟨(some 80), (.bin .sub (.t 79) (ci 64)), (some (76, true)), false⟩, ⟨(some 81), (.mov (.t 5)), (some (76, true)), false⟩, ⟨(some 82), (.bin .add (.t 81) (ci 1)), (some (76, true)), false⟩, ⟨(some 83), (.slc 7 (.t 78) (some (.t 80)) (some (.t 82))), (some (76, true)), false⟩, ⟨(some 84), (.call p.ref08_Moves [(.t 83)]), (some (76, true)), false⟩, ⟨(some 85), (.bin .gtr (.t 84) (ci 64)), (some (76, true)), false⟩, qo 86 (.pick (.t 76) (.t 85) (.c (.d (.bool false))))]
def Jqfx (p : Nums) : IC := (.region (Jqgk p) [])
@[simp] theorem Jefx {p : Nums} : EqI (Jqfx p) (.region (Jqgk p) []) := eqi
def Jqfy (p : Nums) : IC := (.seq (.region [⟨(some 2), (.asg (.c (.d (.int .i64 15)))), none, false⟩] []) .ret)
@[simp] theorem Jefy {p : Nums} : EqI (Jqfy p) (.seq (.region [⟨(some 2), (.asg (.c (.d (.int .i64 15)))), none, false⟩] []) .ret) := eqi
def Jqfz (p : Nums) : IC := (.seq (Jqfv p) (.seq (.seq (.region [⟨(some 71), (.mov (.t 6)), none, false⟩, ⟨(some 72), (.bin .neq (.t 71) (.c (.d (.int .i64 0)))), none, false⟩] []) (.cond (.t 72) (Jqfw p) .skip)) (.seq (Jqfx p) (.cond (.t 86) (Jqfy p) .skip))))
@[simp] theorem Jefz {p : Nums} : EqI (Jqfz p) (.seq (Jqfv p) (.seq (.seq (.region [⟨(some 71), (.mov (.t 6)), none, false⟩, ⟨(some 72), (.bin .neq (.t 71) (.c (.d (.int .i64 0)))), none, false⟩] []) (.cond (.t 72) (Jqfw p) .skip)) (.seq (Jqfx p) (.cond (.t 86) (Jqfy p) .skip)))) := eqi
@[simp] def Jqgl (p : Nums) : List IOp := [qo 59 (.mov (.t 5)), qo 60 (.bin .add (.t 59) (ci 1)), qo 5 (.asg (.t 60))]
def Jqg0 (p : Nums) : IC := (.region (Jqgl p) [])
@[simp] theorem Jeg0 {p : Nums} : EqI (Jqg0 p) (.region (Jqgl p) []) := eqi
def Jqg2 (p : Nums) : IC := (.seq (.seq (Jqfu p) (.cond (.t 58) .skip (.exit 2))) (.seq (.block 3 (Jqfz p)) (Jqg0 p)))
@[simp] theorem Jeg2 {p : Nums} : EqI (Jqg2 p) (.seq (.seq (Jqfu p) (.cond (.t 58) .skip (.exit 2))) (.seq (.block 3 (Jqfz p)) (Jqg0 p))) := eqi
@[simp] def Jqgm (p : Nums) : List IOp := [qo 87 (.faddr 1 (.t 4)), qo 88 (.load (some 4) (.t 87)), qo 89 (.faddr 1 (.t 1)), qo 90 (.load none (.t 89)), qo 91 (.faddr 3 (.t 1)), qo 92 (.load none (.t 91)), qo 93 (.len (.t 92)), qo 94 (.call p.ref07_Term [(.t 88), (.t 90), (.t 93)]), qo 7 (.asg (.t 94))]
def Jqg3 (p : Nums) : IC := (.region (Jqgm p) [])
@[simp] theorem Jeg3 {p : Nums} : EqI (Jqg3 p) (.region (Jqgm p) []) := eqi
def Jqg4 (p : Nums) : IC := (.seq (.region [⟨(some 97), (.mov (.t 7)), none, false⟩, ⟨(some 2), (.asg (.t 97)), none, false⟩] []) .ret)
@[simp] theorem Jeg4 {p : Nums} : EqI (Jqg4 p) (.seq (.region [⟨(some 97), (.mov (.t 7)), none, false⟩, ⟨(some 2), (.asg (.t 97)), none, false⟩] []) .ret) := eqi
def Jqg5 (p : Nums) : IC := (.seq (Jqft p) (.seq (.seq (.region [⟨(some 5), (.asg (.c (.d (.int .i64 0)))), none, false⟩] []) (.block 2 (.loop (Jqg2 p)))) (.seq (Jqg3 p) (.seq (.region [⟨(some 95), (.mov (.t 7)), none, false⟩, ⟨(some 96), (.bin .neq (.t 95) (.c (.d (.int .i64 0)))), none, false⟩] []) (.cond (.t 96) (Jqg4 p) .skip)))))
@[simp] theorem Jeg5 {p : Nums} : EqI (Jqg5 p) (.seq (Jqft p) (.seq (.seq (.region [⟨(some 5), (.asg (.c (.d (.int .i64 0)))), none, false⟩] []) (.block 2 (.loop (Jqg2 p)))) (.seq (Jqg3 p) (.seq (.region [⟨(some 95), (.mov (.t 7)), none, false⟩, ⟨(some 96), (.bin .neq (.t 95) (.c (.d (.int .i64 0)))), none, false⟩] []) (.cond (.t 96) (Jqg4 p) .skip))))) := eqi
@[simp] def Jqgn (p : Nums) : List IOp := [qo 47 (.mov (.t 3)), qo 48 (.bin .add (.t 47) (ci 1)), qo 3 (.asg (.t 48))]
def Jqg6 (p : Nums) : IC := (.region (Jqgn p) [])
@[simp] theorem Jeg6 {p : Nums} : EqI (Jqg6 p) (.region (Jqgn p) []) := eqi
def Jqg7 (p : Nums) : IC := (.seq (.seq (Jqfs p) (.cond (.t 46) .skip (.exit 0))) (.seq (.block 1 (Jqg5 p)) (Jqg6 p)))
@[simp] theorem Jeg7 {p : Nums} : EqI (Jqg7 p) (.seq (.seq (Jqfs p) (.cond (.t 46) .skip (.exit 0))) (.seq (.block 1 (Jqg5 p)) (Jqg6 p))) := eqi
def Jtbt (p : Nums) : IC := (.seq (.region [⟨(some 1), (.box (.t 0)), none, false⟩, ⟨(some 2), (.asg (.c (.d (.int .i64 0)))), none, false⟩] []) (.seq (.seq (Jqfq p) (.cond (.t 17) (Jqg1 p) .skip)) (.seq (.seq (Jqg8 p) (.cond (.t 20) (Jqg9 p) .skip)) (.seq (.seq (Jqga p) (.cond (.t 28) (Jqgb p) .skip)) (.seq (.seq (Jqgc p) (.cond (.t 32) (Jqgd p) .skip)) (.seq (.seq (Jqge p) (.cond (.t 41) (Jqfr p) .skip)) (.seq (.seq (.region [⟨(some 3), (.asg (.c (.d (.int .i64 0)))), none, false⟩] []) (.block 0 (.loop (Jqg7 p)))) (.seq (.region [⟨(some 2), (.asg (.c (.d (.int .i64 0)))), none, false⟩] []) .ret))))))))
@[simp] def Jq1k (p : Nums) : List IOp := [qo 4 (.box (.t 0)), qo 5 (.box (.t 1)), qo 8 (.alloc [.nils, (zi 0), (zi 0), (zi 0), (zi 0)])]
def Jq19 (p : Nums) : IC := (.region (Jq1k p) [])
@[simp] theorem Je19 {p : Nums} : EqI (Jq19 p) (.region (Jq1k p) []) := eqi
@[simp] def Jq1n (p : Nums) : List IOp := [qo 14 (.mov (.t 2)), qo 15 (.len (.t 14)), qo 16 (.mov (.t 3)), qo 17 (.bin .gtr (.t 15) (.t 16))]
def Jq1c (p : Nums) : IC := (.region (Jq1n p) [])
@[simp] theorem Je1c {p : Nums} : EqI (Jq1c p) (.region (Jq1n p) []) := eqi
@[simp] def Jq1o (p : Nums) : List IOp := [qo 18 (.mov (.t 2)), qo 19 (.len (.t 18)), qo 20 (.build [.nils, (zi 0), (zi 0), (zi 0), (zi 0)] [(1, 1, (ci 24)), (4, 1, (.t 19))]), qn (.store 5 (.t 8) (.t 20))]
def Jq1d (p : Nums) : IC := (.region (Jq1o p) [])
@[simp] theorem Je1d {p : Nums} : EqI (Jq1d p) (.region (Jq1o p) []) := eqi
@[simp] def Jq1p (p : Nums) : List IOp := [qo 22 (.faddr 0 (.t 4)), qo 23 (.load none (.t 22)), qo 24 (.faddr 0 (.t 5)), qo 25 (.load none (.t 24)), qo 26 (.call p.align_Code [(.t 23), (.t 25)]), qo 21 (.mov (.t 26)), qo 27 (.ext (.t 21) 0), qo 28 (.ext (.t 21) 1), qo 29 (.ext (.t 21) 2), qo 9 (.asg (.t 27)), qo 10 (.asg (.t 28)), qo 11 (.asg (.t 29))]
def Jq1e (p : Nums) : IC := (.region (Jq1p p) [])
@[simp] theorem Je1e {p : Nums} : EqI (Jq1e p) (.region (Jq1p p) []) := eqi
@[simp] def Jq1q (p : Nums) : List IOp := [qo 30 (.mov (.t 11)), qo 31 (.bin .eql (.t 30) (ci 0)), qo 32 (.mov (.t 31)), ⟨(some 33), (.faddr 1 (.t 4)), (some (32, true)), false⟩, ⟨(some 34), (.load (some 4) (.t 33)), (some (32, true)), false⟩, ⟨(some 35), (.faddr 1 (.t 5)), (some (32, true)), false⟩, ⟨(some 36), (.load (some 4) (.t 35)), (some (32, true)), false⟩, ⟨(some 37), (.call p.align_Terms [(.t 34), (.t 36)]), (some (32, true)), false⟩, ⟨(some 38), (.un .not (.t 37)), (some (32, true)), false⟩, qo 39 (.pick (.t 32) (.t 38) (.c (.d (.bool false))))]
def Jq1f (p : Nums) : IC := (.region (Jq1q p) [])
@[simp] theorem Je1f {p : Nums} : EqI (Jq1f p) (.region (Jq1q p) []) := eqi
@[simp] def Jq1r (p : Nums) : List IOp := [qo 11 (.asg (ci 20))]
def Jq1g (p : Nums) : IC := (.region (Jq1r p) [])
@[simp] theorem Je1g {p : Nums} : EqI (Jq1g p) (.region (Jq1r p) []) := eqi
@[simp] def Jq1s (p : Nums) : List IOp := [qo 42 (.mov (.t 11)), qo 43 (.mov (.t 10)), qo 44 (.mov (.t 2)), qo 45 (.len (.t 44)), qo 46 (.build [.nils, (zi 0), (zi 0), (zi 0), (zi 0)] [(1, 1, (.t 42)), (2, 1, (.t 43)), (4, 1, (.t 45))]), qn (.store 5 (.t 8) (.t 46))]
def Jq1h (p : Nums) : IC := (.region (Jq1s p) [])
@[simp] theorem Je1h {p : Nums} : EqI (Jq1h p) (.region (Jq1s p) []) := eqi
@[simp] def Jq1t (p : Nums) : List IOp := [qo 47 (.mov (.t 2)), qo 48 (.call p.pairset_Make [(.t 47)]), qo 49 (.mov (.t 3)), qo 50 (.mov (.t 2)), qo 51 (.len (.t 50)), qo 52 (.build [.nils, (zi 0), (zi 0), (zi 0)] [(0, 1, (.t 48)), (1, 1, (.t 49)), (3, 1, (.t 51))]), qo 53 (.box (.t 52)), qo 12 (.asg (.t 53))]
def Jq1i (p : Nums) : IC := (.region (Jq1t p) [])
@[simp] theorem Je1i {p : Nums} : EqI (Jq1i p) (.region (Jq1t p) []) := eqi
@[simp] def Jq1u (p : Nums) : List IOp := [qo 55 (.mov (.t 12)), qo 56 (.load (some 5) (.t 4)), qo 57 (.load (some 5) (.t 5)), qo 58 (.mov (.t 9)), qo 59 (.call p.blockcheck_checker_run [(.t 55), (.t 56), (.t 57), (.t 58)]), qo 54 (.mov (.t 59)), qo 60 (.ext (.t 54) 0), qo 61 (.ext (.t 54) 1), qo 11 (.asg (.t 60)), qo 10 (.asg (.t 61))]
def Jq1j (p : Nums) : IC := (.region (Jq1u p) [])
@[simp] theorem Je1j {p : Nums} : EqI (Jq1j p) (.region (Jq1u p) []) := eqi
@[simp] def Jq1l (p : Nums) : List IOp := [qp 62 (.mov (.t 11)), qp 63 (.mov (.t 10)), qp 64 (.mov (.t 12)), qp 65 (.nilck (.t 64)), qp 66 (.faddr 2 (.t 65)), qp 67 (.load none (.t 66)), qp 68 (.mov (.t 12)), qp 69 (.nilck (.t 68)), qp 70 (.faddr 3 (.t 69)), qp 71 (.load none (.t 70)), qp 72 (.build [.nils, (zi 0), (zi 0), (zi 0), (zi 0)] [(1, 1, (.t 62)), (2, 1, (.t 63)), (3, 1, (.t 67)), (4, 1, (.t 71))]), qp 13 (.alloc [.nils, (zi 0), (zi 0), (zi 0), (zi 0)]), qn (.store 5 (.t 13) (.t 72))]
def Jq1a (p : Nums) : IC := (.region (Jq1l p) [])
@[simp] theorem Je1a {p : Nums} : EqI (Jq1a p) (.region (Jq1l p) []) := eqi
@[simp] def Jq1m (p : Nums) : List IOp := [qo 75 (.mov (.t 12)), qo 76 (.nilck (.t 75)), qo 77 (.faddr 0 (.t 76)), qo 78 (.load none (.t 77)), qo 79 (.faddr 0 (.t 13)), qn (.store 1 (.t 79) (.t 78))]
def Jq1b (p : Nums) : IC := (.region (Jq1m p) [])
@[simp] theorem Je1b {p : Nums} : EqI (Jq1b p) (.region (Jq1m p) []) := eqi
def Jtap (p : Nums) : IC := (.seq (Jq19 p) (.seq (.seq (Jq1c p) (.cond (.t 17) (.seq (Jq1d p) .ret) .skip)) (.seq (Jq1e p) (.seq (.seq (Jq1f p) (.cond (.t 39) (Jq1g p) .skip)) (.seq (.seq (.region [⟨(some 40), (.mov (.t 11)), none, false⟩, ⟨(some 41), (.bin .neq (.t 40) (.c (.d (.int .i64 0)))), none, false⟩] []) (.cond (.t 41) (.seq (Jq1h p) .ret) .skip)) (.seq (Jq1i p) (.seq (Jq1j p) (.seq (Jq1a p) (.seq (.seq (.region [⟨(some 73), (.mov (.t 11)), none, false⟩, ⟨(some 74), (.bin .eql (.t 73) (.c (.d (.int .i64 0)))), none, false⟩] []) (.cond (.t 74) (Jq1b p) .skip)) (.seq (.region [⟨(some 80), (.load (some 5) (.t 13)), none, false⟩, ⟨none, (.store 5 (.t 8) (.t 80)), none, false⟩] []) .ret))))))))))
@[simp] def Jqha (p : Nums) : List IOp := [qo 8 (.faddr 0 (.t 3)), qo 9 (.load none (.t 8)), qo 10 (.bin .lss (.t 9) (ci 1)), qo 11 (.mov (.t 10)), ⟨(some 12), (.faddr 0 (.t 3)), (some (11, false)), false⟩, ⟨(some 13), (.load none (.t 12)), (some (11, false)), false⟩, ⟨(some 14), (.bin .gtr (.t 13) (ci 18)), (some (11, false)), false⟩, qo 15 (.pick (.t 11) (.c (.d (.bool true))) (.t 14)), qo 16 (.mov (.t 15)), ⟨(some 17), (.faddr 0 (.t 3)), (some (16, false)), false⟩, ⟨(some 18), (.load none (.t 17)), (some (16, false)), false⟩, ⟨(some 19), (.bin .eql (.t 18) (ci 2)), (some (16, false)), false⟩, qo 20 (.pick (.t 16) (.c (.d (.bool true))) (.t 19))]
def Jqgz (p : Nums) : IC := (.region (Jqha p) [])
@[simp] theorem Jegz {p : Nums} : EqI (Jqgz p) (.region (Jqha p) []) := eqi
def Jqh2 (p : Nums) : IC := (.seq (.region [⟨(some 6), (.asg (.c (.d (.int .i64 8)))), none, false⟩] []) .ret)
@[simp] theorem Jeh2 {p : Nums} : EqI (Jqh2 p) (.seq (.region [⟨(some 6), (.asg (.c (.d (.int .i64 8)))), none, false⟩] []) .ret) := eqi
@[simp] def Jqhc (p : Nums) : List IOp := [qo 21 (.faddr 0 (.t 3)), qo 22 (.load none (.t 21)), qo 23 (.bin .eql (.t 22) (ci 18))]
def Jqh3 (p : Nums) : IC := (.region (Jqhc p) [])
@[simp] theorem Jeh3 {p : Nums} : EqI (Jqh3 p) (.region (Jqhc p) []) := eqi
@[simp] def Jqhd (p : Nums) : List IOp := [qo 24 (.faddr 5 (.t 3)), qo 25 (.load none (.t 24)), qo 26 (.mov (.t 1)), qo 27 (.mov (.t 2)), qo 28 (.call p.ref04_InRange [(.t 25), (.t 26), (.t 27)]), qo 29 (.un .not (.t 28)), qo 30 (.mov (.t 29)), ⟨(some 31), (.faddr 6 (.t 3)), (some (30, false)), false⟩, ⟨(some 32), (.load none (.t 31)), (some (30, false)), false⟩, ⟨(some 33), (.mov (.t 1)), (some (30, false)), false⟩, ⟨(some 34), (.mov (.t 2)), (some (30, false)), false⟩, ⟨(some 35), (.call p.ref04_InRange [(.t 32), (.t 33), (.t 34)]), (some (30, false)), false⟩, ⟨(some 36), (.un .not (.t 35)), (some (30, false)), false⟩, qo 37 (.pick (.t 30) (.c (.d (.bool true))) (.t 36)), qo 38 (.mov (.t 37)), ⟨(some 39), (.faddr 5 (.t 3)), (some (38, false)), false⟩, ⟨(some 40), (.load none (.t 39)), (some (38, false)), false⟩, ⟨(some 41), (.bin .rem (.t 40) (ci 2)), (some (38, false)), false⟩, ⟨(some 42), (.bin .eql (.t 41) (ci 1)), (some (38, false)), false⟩, ⟨(some 43), (.mov (.t 42)), (some (38, false)), false⟩, ⟨(some 44), (.faddr 6 (.t 3)), (some (43, true)), false⟩, ⟨(some 45), (.load none (.t 44)), (some (43, true)), false⟩, ⟨(some 46), (.bin .rem (.t 45) (ci 2)), (some (43, true)), false⟩, ⟨(some 47), (.bin .eql (.t 46) (ci 1)), (some (43, true)), false⟩, ⟨(some 48), (.pick (.t 43) (.t 47) (.c (.d (.bool false)))), (some (38, false)), false⟩, qo 49 (.pick (.t 38) (.c (.d (.bool true))) (.t 48))]
def Jqh4 (p : Nums) : IC := (.region (Jqhd p) [])
@[simp] theorem Jeh4 {p : Nums} : EqI (Jqh4 p) (.region (Jqhd p) []) := eqi
def Jqh5 (p : Nums) : IC := (.seq (.region [⟨(some 6), (.asg (.c (.d (.int .i64 10)))), none, false⟩] []) .ret)
@[simp] theorem Jeh5 {p : Nums} : EqI (Jqh5 p) (.seq (.region [⟨(some 6), (.asg (.c (.d (.int .i64 10)))), none, false⟩] []) .ret) := eqi
@[simp] def Jqhe (p : Nums) : List IOp := [qo 50 (.faddr 1 (.t 3)), qo 51 (.load none (.t 50)), qo 52 (.bin .neq (.t 51) (ci 0)), qo 53 (.mov (.t 52)), ⟨(some 54), (.faddr 2 (.t 3)), (some (53, false)), false⟩, ⟨(some 55), (.load none (.t 54)), (some (53, false)), false⟩, ⟨(some 56), (.bin .neq (.t 55) (ci 0)), (some (53, false)), false⟩, qo 57 (.pick (.t 53) (.c (.d (.bool true))) (.t 56)), qo 58 (.mov (.t 57)), ⟨(some 59), (.faddr 3 (.t 3)), (some (58, false)), false⟩, ⟨(some 60), (.load none (.t 59)), (some (58, false)), false⟩, ⟨(some 61), (.bin .neq (.t 60) (ci 0)), (some (58, false)), false⟩, qo 62 (.pick (.t 58) (.c (.d (.bool true))) (.t 61)), qo 63 (.mov (.t 62)), ⟨(some 64), (.faddr 4 (.t 3)), (some (63, false)), false⟩, ⟨(some 65), (.load none (.t 64)), (some (63, false)), false⟩, ⟨(some 66), (.bin .neq (.t 65) (ci 0)), (some (63, false)), false⟩, qo 67 (.pick (.t 63) (.c (.d (.bool true))) (.t 66))]
def Jqh6 (p : Nums) : IC := (.region (Jqhe p) [])
@[simp] theorem Jeh6 {p : Nums} : EqI (Jqh6 p) (.region (Jqhe p) []) := eqi
def Jqh7 (p : Nums) : IC := (.seq (.region [⟨(some 6), (.asg (.c (.d (.int .i64 12)))), none, false⟩] []) .ret)
@[simp] theorem Jeh7 {p : Nums} : EqI (Jqh7 p) (.seq (.region [⟨(some 6), (.asg (.c (.d (.int .i64 12)))), none, false⟩] []) .ret) := eqi
def Jqh8 (p : Nums) : IC := (.seq (.seq (Jqh4 p) (.cond (.t 49) (Jqh5 p) .skip)) (.seq (.seq (Jqh6 p) (.cond (.t 67) (Jqh7 p) .skip)) (.seq (.region [⟨(some 6), (.asg (.c (.d (.int .i64 0)))), none, false⟩] []) .ret)))
@[simp] theorem Jeh8 {p : Nums} : EqI (Jqh8 p) (.seq (.seq (Jqh4 p) (.cond (.t 49) (Jqh5 p) .skip)) (.seq (.seq (Jqh6 p) (.cond (.t 67) (Jqh7 p) .skip)) (.seq (.region [⟨(some 6), (.asg (.c (.d (.int .i64 0)))), none, false⟩] []) .ret))) := eqi
@[simp] def Jqhf (p : Nums) : List IOp := [qo 68 (.faddr 0 (.t 3)), qo 69 (.load none (.t 68)), qo 70 (.faddr 1 (.t 3)), qo 71 (.load none (.t 70)), qo 72 (.faddr 2 (.t 3)), qo 73 (.load none (.t 72)), qo 74 (.faddr 3 (.t 3)), qo 75 (.load none (.t 74)), qo 76 (.faddr 4 (.t 3)), qo 77 (.load none (.t 76)), qo 78 (.build [(zi 0), (zi 0), (zi 0), (zi 0), (zi 0)] [(0, 1, (.t 69)), (1, 1, (.t 71)), (2, 1, (.t 73)), (3, 1, (.t 75)), (4, 1, (.t 77))]), qo 79 (.mov (.t 1)), qo 80 (.call p.ref07_Instr [(.t 78), (.t 79)]), qo 7 (.asg (.t 80))]
def Jqh9 (p : Nums) : IC := (.region (Jqhf p) [])
@[simp] theorem Jeh9 {p : Nums} : EqI (Jqh9 p) (.region (Jqhf p) []) := eqi
@[simp] def Jqhb (p : Nums) : List IOp := [qo 81 (.mov (.t 7)), qo 82 (.bin .eql (.t 81) (ci 0)), qo 83 (.mov (.t 82)), ⟨(some 84), (.faddr 5 (.t 3)), (some (83, true)), false⟩, ⟨(some 85), (.load none (.t 84)), (some (83, true)), false⟩, ⟨(some 86), (.bin .neq (.t 85) (ci 0)), (some (83, true)), false⟩, ⟨(some 87), (.mov (.t 86)), (some (83, true)), false⟩, ⟨(some 88), (.faddr 6 (.t 3)), (some (87, false)), false⟩, ⟨(some 89), (.load none (.t 88)), (some (87, false)), false⟩, ⟨(some 90), (.bin .neq (.t 89) (ci 0)), (some (87, false)), false⟩, ⟨(some 91), (.pick (.t 87) (.c (.d (.bool true))) (.t 90)), (some (83, true)), false⟩, qo 92 (.pick (.t 83) (.t 91) (.c (.d (.bool false))))]
def Jqh0 (p : Nums) : IC := (.region (Jqhb p) [])
@[simp] theorem Jeh0 {p : Nums} : EqI (Jqh0 p) (.region (Jqhb p) []) := eqi
def Jqh1 (p : Nums) : IC := (.seq (.region [⟨(some 6), (.asg (.c (.d (.int .i64 12)))), none, false⟩] []) .ret)
@[simp] theorem Jeh1 {p : Nums} : EqI (Jqh1 p) (.seq (.region [⟨(some 6), (.asg (.c (.d (.int .i64 12)))), none, false⟩] []) .ret) := eqi
def Jtbv (p : Nums) : IC := (.seq (.region [⟨(some 3), (.box (.t 0)), none, false⟩, ⟨(some 6), (.asg (.c (.d (.int .i64 0)))), none, false⟩] []) (.seq (.seq (Jqgz p) (.cond (.t 20) (Jqh2 p) .skip)) (.seq (.seq (Jqh3 p) (.cond (.t 23) (Jqh8 p) .skip)) (.seq (Jqh9 p) (.seq (.seq (Jqh0 p) (.cond (.t 92) (Jqh1 p) .skip)) (.seq (.region [⟨(some 93), (.mov (.t 7)), none, false⟩, ⟨(some 6), (.asg (.t 93)), none, false⟩] []) .ret))))))
def Jqad (p : Nums) : IC := (.seq (.region [⟨(some 6), (.asg (.c (.d (.bool false)))), none, false⟩] []) .ret)
@[simp] theorem Jead {p : Nums} : EqI (Jqad p) (.seq (.region [⟨(some 6), (.asg (.c (.d (.bool false)))), none, false⟩] []) .ret) := eqi
@[simp] def Jqah (p : Nums) : List IOp := [qo 9 (.mov (.t 0)), qo 10 (.bin .rem (.t 9) (ci 2)), qo 11 (.bin .eql (.t 10) (ci 1))]
def Jqae (p : Nums) : IC := (.region (Jqah p) [])
@[simp] theorem Jeae {p : Nums} : EqI (Jqae p) (.region (Jqah p) []) := eqi
@[simp] def Jqai (p : Nums) : List IOp := [qo 12 (.mov (.t 0)), qo 13 (.bin .quo (.t 12) (ci 2)), qo 14 (.mov (.t 2)), qo 15 (.bin .lss (.t 13) (.t 14)), qo 6 (.asg (.t 15))]
def Jqaf (p : Nums) : IC := (.region (Jqai p) [])
@[simp] theorem Jeaf {p : Nums} : EqI (Jqaf p) (.region (Jqai p) []) := eqi
@[simp] def Jqaj (p : Nums) : List IOp := [qo 16 (.mov (.t 0)), qo 17 (.bin .quo (.t 16) (ci 2)), qo 18 (.mov (.t 1)), qo 19 (.bin .lss (.t 17) (.t 18)), qo 6 (.asg (.t 19))]
def Jqag (p : Nums) : IC := (.region (Jqaj p) [])
@[simp] theorem Jeag {p : Nums} : EqI (Jqag p) (.region (Jqaj p) []) := eqi
def Jtbf (p : Nums) : IC := (.seq (.region [⟨(some 6), (.asg (.c (.d (.bool false)))), none, false⟩] []) (.seq (.seq (.region [⟨(some 7), (.mov (.t 0)), none, false⟩, ⟨(some 8), (.bin .lss (.t 7) (.c (.d (.int .i64 0)))), none, false⟩] []) (.cond (.t 8) (Jqad p) .skip)) (.seq (.seq (Jqae p) (.cond (.t 11) (.seq (Jqaf p) .ret) .skip)) (.seq (Jqag p) .ret))))
@[simp] def Jqc (p : Nums) : List IOp := [qo 4 (.asg (.c .nils)), qo 5 (.asg (ci 0)), qo 6 (.asg (ci 0))]
def Jq0 (p : Nums) : IC := (.region (Jqc p) [])
@[simp] theorem Je0 {p : Nums} : EqI (Jq0 p) (.region (Jqc p) []) := eqi
@[simp] def Jqf (p : Nums) : List IOp := [qo 11 (.mov (.t 8)), qo 12 (.mov (.t 0)), qo 13 (.mov (.t 8)), qo 14 (.call p.align_skip_Instr [(.t 12), (.t 13), (.c (.fn (.func p.align_copied) [] []))]), qo 15 (.mov (.t 9)), qo 16 (.mov (.t 1)), qo 17 (.mov (.t 9)), qo 18 (.call p.align_skip_Mach [(.t 16), (.t 17), (.c (.fn (.func p.align_moved) [] []))]), qo 19 (.build [(zi 0), (zi 0), (zi 0), (zi 0), (zi 0), (zi 0)] [(0, 1, (.t 11)), (1, 1, (.t 14)), (2, 1, (.t 15)), (3, 1, (.t 18))]), qo 10 (.alloc [(zi 0), (zi 0), (zi 0), (zi 0), (zi 0), (zi 0)]), qn (.store 6 (.t 10) (.t 19))]
def Jq4 (p : Nums) : IC := (.region (Jqf p) [])
@[simp] theorem Je4 {p : Nums} : EqI (Jq4 p) (.region (Jqf p) []) := eqi
@[simp] def Jqg (p : Nums) : List IOp := [qp 20 (.faddr 1 (.t 10)), qp 21 (.load none (.t 20)), qp 22 (.faddr 3 (.t 10)), qp 23 (.load none (.t 22)), qp 8 (.asg (.t 21)), qo 9 (.asg (.t 23))]
def Jq5 (p : Nums) : IC := (.region (Jqg p) [])
@[simp] theorem Je5 {p : Nums} : EqI (Jq5 p) (.region (Jqg p) []) := eqi
@[simp] def Jqh (p : Nums) : List IOp := [qo 24 (.mov (.t 8)), qo 25 (.mov (.t 0)), qo 26 (.len (.t 25)), qo 27 (.bin .eql (.t 24) (.t 26)), qo 28 (.mov (.t 27)), ⟨(some 29), (.mov (.t 9)), (some (28, true)), false⟩, ⟨(some 30), (.mov (.t 1)), (some (28, true)), false⟩, ⟨(some 31), (.len (.t 30)), (some (28, true)), false⟩, ⟨(some 32), (.bin .eql (.t 29) (.t 31)), (some (28, true)), false⟩, qo 33 (.pick (.t 28) (.t 32) (.c (.d (.bool false))))]
def Jq6 (p : Nums) : IC := (.region (Jqh p) [])
@[simp] theorem Je6 {p : Nums} : EqI (Jq6 p) (.region (Jqh p) []) := eqi
@[simp] def Jqi (p : Nums) : List IOp := [qo 34 (.faddr 4 (.t 10)), qn (.store 1 (.t 34) (ci (-1))), qo 35 (.faddr 5 (.t 10)), qn (.store 1 (.t 35) (ci (-1)))]
def Jq7 (p : Nums) : IC := (.region (Jqi p) [])
@[simp] theorem Je7 {p : Nums} : EqI (Jq7 p) (.region (Jqi p) []) := eqi
@[simp] def Jqj (p : Nums) : List IOp := [qo 36 (.mov (.t 7)), qo 37 (.load (some 6) (.t 10)), qo 38 (.bslice 6 1 [(.int .i64 0), (.int .i64 0), (.int .i64 0), (.int .i64 0), (.int .i64 0), (.int .i64 0)] [(0, (.t 37))]), qo 39 (.app 6 48 (.t 36) (.t 38)), qo 40 (.mov (.t 9)), qo 4 (.asg (.t 39)), qo 5 (.asg (.t 40)), qo 6 (.asg (ci 0))]
def Jq8 (p : Nums) : IC := (.region (Jqj p) [])
@[simp] theorem Je8 {p : Nums} : EqI (Jq8 p) (.region (Jqj p) []) := eqi
@[simp] def Jqk (p : Nums) : List IOp := [qp 41 (.mov (.t 8)), qp 42 (.mov (.t 0)), qp 43 (.len (.t 42)), qo 44 (.bin .eql (.t 41) (.t 43)), qo 45 (.mov (.t 44)), ⟨(some 46), (.mov (.t 9)), (some (45, false)), true⟩, ⟨(some 47), (.mov (.t 1)), (some (45, false)), true⟩, ⟨(some 48), (.len (.t 47)), (some (45, false)), true⟩, ⟨(some 49), (.bin .eql (.t 46) (.t 48)), (some (45, false)), false⟩, qo 50 (.pick (.t 45) (.c (.d (.bool true))) (.t 49)), qo 51 (.mov (.t 50)), ⟨(some 52), (.mov (.t 0)), (some (51, false)), true⟩, ⟨(some 53), (.mov (.t 8)), (some (51, false)), true⟩, ⟨(some 54), (.iaddr 5 (.t 52) (.t 53)), (some (51, false)), true⟩, ⟨(some 55), (.load (some 5) (.t 54)), (some (51, false)), true⟩, ⟨(some 56), (.mov (.t 1)), (some (51, false)), true⟩, ⟨(some 57), (.mov (.t 9)), (some (51, false)), true⟩, ⟨(some 58), (.iaddr 7 (.t 56) (.t 57)), (some (51, false)), true⟩, ⟨(some 59), (.load (some 7) (.t 58)), (some (51, false)), true⟩, ⟨(some 60), (.call p.align_Same [(.t 55), (.t 59)]), (some (51, false)), false⟩, ⟨(some 61), (.un .not (.t 60)), (some (51, false)), false⟩, qo 62 (.pick (.t 51) (.c (.d (.bool true))) (.t 61))]
def Jq9 (p : Nums) : IC := (.region (Jqk p) [])
@[simp] theorem Je9 {p : Nums} : EqI (Jq9 p) (.region (Jqk p) []) := eqi
@[simp] def Jql (p : Nums) : List IOp := [qo 63 (.mov (.t 9)), qo 4 (.asg (.c .nils)), qo 5 (.asg (.t 63)), qo 6 (.asg (ci 20))]
def Jqa (p : Nums) : IC := (.region (Jql p) [])
@[simp] theorem Jea {p : Nums} : EqI (Jqa p) (.region (Jql p) []) := eqi
@[simp] def Jqm (p : Nums) : List IOp := [qo 64 (.mov (.t 8)), qo 65 (.mov (.t 9)), qo 66 (.faddr 4 (.t 10)), qn (.store 1 (.t 66) (.t 64)), qo 67 (.faddr 5 (.t 10)), qn (.store 1 (.t 67) (.t 65))]
def Jqb (p : Nums) : IC := (.region (Jqm p) [])
@[simp] theorem Jeb {p : Nums} : EqI (Jqb p) (.region (Jqm p) []) := eqi
@[simp] def Jqd (p : Nums) : List IOp := [qo 68 (.mov (.t 7)), qo 69 (.load (some 6) (.t 10)), qo 70 (.bslice 6 1 [(.int .i64 0), (.int .i64 0), (.int .i64 0), (.int .i64 0), (.int .i64 0), (.int .i64 0)] [(0, (.t 69))]), qo 71 (.app 6 48 (.t 68) (.t 70)), qo 7 (.asg (.t 71))]
def Jq1 (p : Nums) : IC := (.region (Jqd p) [])
@[simp] theorem Je1 {p : Nums} : EqI (Jq1 p) (.region (Jqd p) []) := eqi
@[simp] def Jqe (p : Nums) : List IOp := [qo 72 (.mov (.t 8)), qo 73 (.bin .add (.t 72) (ci 1)), qo 74 (.mov (.t 9)), qo 75 (.bin .add (.t 74) (ci 1)), qo 8 (.asg (.t 73)), qo 9 (.asg (.t 75))]
def Jq2 (p : Nums) : IC := (.region (Jqe p) [])
@[simp] theorem Je2 {p : Nums} : EqI (Jq2 p) (.region (Jqe p) []) := eqi
def Jq3 (p : Nums) : IC := (.seq (Jq4 p) (.seq (Jq5 p) (.seq (.seq (Jq6 p) (.cond (.t 33) (.seq (Jq7 p) (.seq (Jq8 p) .ret)) .skip)) (.seq (.seq (Jq9 p) (.cond (.t 62) (.seq (Jqa p) .ret) .skip)) (.seq (Jqb p) (.seq (Jq1 p) (Jq2 p)))))))
@[simp] theorem Je3 {p : Nums} : EqI (Jq3 p) (.seq (Jq4 p) (.seq (Jq5 p) (.seq (.seq (Jq6 p) (.cond (.t 33) (.seq (Jq7 p) (.seq (Jq8 p) .ret)) .skip)) (.seq (.seq (Jq9 p) (.cond (.t 62) (.seq (Jqa p) .ret) .skip)) (.seq (Jqb p) (.seq (Jq1 p) (Jq2 p))))))) := eqi
def Jtai (p : Nums) : IC := (.seq (Jq0 p) (.seq (.region [⟨(some 7), (.asg (.c .nils)), none, false⟩] []) (.seq (.region [⟨(some 8), (.asg (.c (.d (.int .i64 0)))), none, false⟩, ⟨(some 9), (.asg (.c (.d (.int .i64 0)))), none, false⟩] []) (.block 0 (.loop (.block 1 (Jq3 p)))))))
@[simp] def Jqt (p : Nums) : List IOp := [qo 2 (.box (.t 0)), qo 3 (.box (.t 1)), qo 4 (.asg (.c (.d (.bool false))))]
def Jqr (p : Nums) : IC := (.region (Jqt p) [])
@[simp] theorem Jer {p : Nums} : EqI (Jqr p) (.region (Jqt p) []) := eqi
@[simp] def Jqu (p : Nums) : List IOp := [qo 5 (.faddr 0 (.t 2)), qo 6 (.load none (.t 5)), qo 7 (.faddr 0 (.t 3)), qo 8 (.load none (.t 7)), qo 9 (.bin .eql (.t 6) (.t 8)), qo 10 (.mov (.t 9)), ⟨(some 11), (.faddr 2 (.t 2)), (some (10, true)), false⟩, ⟨(some 12), (.load none (.t 11)), (some (10, true)), false⟩, ⟨(some 13), (.faddr 2 (.t 3)), (some (10, true)), false⟩, ⟨(some 14), (.load none (.t 13)), (some (10, true)), false⟩, ⟨(some 15), (.bin .eql (.t 12) (.t 14)), (some (10, true)), false⟩, qo 16 (.pick (.t 10) (.t 15) (.c (.d (.bool false)))), qo 17 (.mov (.t 16)), ⟨(some 18), (.faddr 3 (.t 2)), (some (17, true)), false⟩, ⟨(some 19), (.load none (.t 18)), (some (17, true)), false⟩, ⟨(some 20), (.faddr 3 (.t 3)), (some (17, true)), false⟩, ⟨(some 21), (.load none (.t 20)), (some (17, true)), false⟩, ⟨(some 22), (.bin .eql (.t 19) (.t 21)), (some (17, true)), false⟩, qo 23 (.pick (.t 17) (.t 22) (.c (.d (.bool false)))), qo 4 (.asg (.t 23))]
def Jqs (p : Nums) : IC := (.region (Jqu p) [])
@[simp] theorem Jes {p : Nums} : EqI (Jqs p) (.region (Jqu p) []) := eqi
def Jtak (p : Nums) : IC := (.seq (Jqr p) (.seq (Jqs p) .ret))
@[simp] def Jq12 (p : Nums) : List IOp := [qo 7 (.mov (.t 1)), qo 8 (.mov (.t 0)), qo 9 (.len (.t 8)), qo 10 (.bin .lss (.t 7) (.t 9)), qo 11 (.mov (.t 10)), ⟨(some 12), (.mov (.t 2)), (some (11, true)), false⟩, ⟨(some 13), (.mov (.t 0)), (some (11, true)), false⟩, ⟨(some 14), (.mov (.t 1)), (some (11, true)), false⟩, ⟨(some 15), (.iaddr 5 (.t 13) (.t 14)), (some (11, true)), false⟩, ⟨(some 16), (.load (some 5) (.t 15)), (some (11, true)), false⟩, ⟨(some 17), (.callv (.t 12) [(.t 16)]), (some (11, true)), false⟩, qo 18 (.pick (.t 11) (.t 17) (.c (.d (.bool false))))]
def Jqz (p : Nums) : IC := (.region (Jq12 p) [])
@[simp] theorem Jez {p : Nums} : EqI (Jqz p) (.region (Jq12 p) []) := eqi
@[simp] def Jq13 (p : Nums) : List IOp := [qo 19 (.mov (.t 1)), qo 20 (.bin .add (.t 19) (ci 1)), qo 1 (.asg (.t 20))]
def Jq10 (p : Nums) : IC := (.region (Jq13 p) [])
@[simp] theorem Je10 {p : Nums} : EqI (Jq10 p) (.region (Jq13 p) []) := eqi
def Jq11 (p : Nums) : IC := (.seq (.seq (Jqz p) (.cond (.t 18) .skip (.exit 0))) (.block 1 (Jq10 p)))
@[simp] theorem Je11 {p : Nums} : EqI (Jq11 p) (.seq (.seq (Jqz p) (.cond (.t 18) .skip (.exit 0))) (.block 1 (Jq10 p))) := eqi
def Jtan (p : Nums) : IC := (.seq (.region [⟨(some 6), (.asg (.c (.d (.int .i64 0)))), none, false⟩] []) (.seq (.block 0 (.loop (Jq11 p))) (.seq (.region [⟨(some 21), (.mov (.t 1)), none, false⟩, ⟨(some 6), (.asg (.t 21)), none, false⟩] []) .ret)))
@[simp] def Jqw (p : Nums) : List IOp := [qo 3 (.faddr 0 (.t 1)), qo 4 (.load none (.t 3)), qo 5 (.bin .eql (.t 4) (ci 2)), qo 2 (.asg (.t 5))]
def Jqv (p : Nums) : IC := (.region (Jqw p) [])
@[simp] theorem Jev {p : Nums} : EqI (Jqv p) (.region (Jqw p) []) := eqi
def Jtal (p : Nums) : IC := (.seq (.region [⟨(some 1), (.box (.t 0)), none, false⟩, ⟨(some 2), (.asg (.c (.d (.bool false)))), none, false⟩] []) (.seq (Jqv p) .ret))
@[simp] def Jq17 (p : Nums) : List IOp := [qo 7 (.mov (.t 1)), qo 8 (.mov (.t 0)), qo 9 (.len (.t 8)), qo 10 (.bin .lss (.t 7) (.t 9)), qo 11 (.mov (.t 10)), ⟨(some 12), (.mov (.t 2)), (some (11, true)), false⟩, ⟨(some 13), (.mov (.t 0)), (some (11, true)), false⟩, ⟨(some 14), (.mov (.t 1)), (some (11, true)), false⟩, ⟨(some 15), (.iaddr 7 (.t 13) (.t 14)), (some (11, true)), false⟩, ⟨(some 16), (.load (some 7) (.t 15)), (some (11, true)), false⟩, ⟨(some 17), (.callv (.t 12) [(.t 16)]), (some (11, true)), false⟩, qo 18 (.pick (.t 11) (.t 17) (.c (.d (.bool false))))]
def Jq14 (p : Nums) : IC := (.region (Jq17 p) [])
@[simp] theorem Je14 {p : Nums} : EqI (Jq14 p) (.region (Jq17 p) []) := eqi
@[simp] def Jq18 (p : Nums) : List IOp := [qo 19 (.mov (.t 1)), qo 20 (.bin .add (.t 19) (ci 1)), qo 1 (.asg (.t 20))]
def Jq15 (p : Nums) : IC := (.region (Jq18 p) [])
@[simp] theorem Je15 {p : Nums} : EqI (Jq15 p) (.region (Jq18 p) []) := eqi
def Jq16 (p : Nums) : IC := (.seq (.seq (Jq14 p) (.cond (.t 18) .skip (.exit 0))) (.block 1 (Jq15 p)))
@[simp] theorem Je16 {p : Nums} : EqI (Jq16 p) (.seq (.seq (Jq14 p) (.cond (.t 18) .skip (.exit 0))) (.block 1 (Jq15 p))) := eqi
def Jtao (p : Nums) : IC := (.seq (.region [⟨(some 6), (.asg (.c (.d (.int .i64 0)))), none, false⟩] []) (.seq (.block 0 (.loop (Jq16 p))) (.seq (.region [⟨(some 21), (.mov (.t 1)), none, false⟩, ⟨(some 6), (.asg (.t 21)), none, false⟩] []) .ret)))
@[simp] def Jqy (p : Nums) : List IOp := [qo 3 (.faddr 0 (.t 1)), qo 4 (.load none (.t 3)), qo 5 (.bin .eql (.t 4) (ci 18)), qo 2 (.asg (.t 5))]
def Jqx (p : Nums) : IC := (.region (Jqy p) [])
@[simp] theorem Jex {p : Nums} : EqI (Jqx p) (.region (Jqy p) []) := eqi
def Jtam (p : Nums) : IC := (.seq (.region [⟨(some 1), (.box (.t 0)), none, false⟩, ⟨(some 2), (.asg (.c (.d (.bool false)))), none, false⟩] []) (.seq (Jqx p) .ret))
@[simp] def Jqp (p : Nums) : List IOp := [qo 2 (.box (.t 0)), qo 3 (.box (.t 1)), qo 4 (.asg (.c (.d (.bool false))))]
def Jqn (p : Nums) : IC := (.region (Jqp p) [])
@[simp] theorem Jen {p : Nums} : EqI (Jqn p) (.region (Jqp p) []) := eqi
@[simp] def Jqq (p : Nums) : List IOp := [qo 5 (.faddr 0 (.t 2)), qo 6 (.load none (.t 5)), qo 7 (.faddr 0 (.t 3)), qo 8 (.load none (.t 7)), qo 9 (.bin .eql (.t 6) (.t 8)), qo 10 (.mov (.t 9)), ⟨(some 11), (.faddr 4 (.t 2)), (some (10, true)), false⟩, ⟨(some 12), (.load none (.t 11)), (some (10, true)), false⟩, ⟨(some 13), (.faddr 4 (.t 3)), (some (10, true)), false⟩, ⟨(some 14), (.load none (.t 13)), (some (10, true)), false⟩, ⟨(some 15), (.bin .eql (.t 12) (.t 14)), (some (10, true)), false⟩, qo 16 (.pick (.t 10) (.t 15) (.c (.d (.bool false)))), qo 17 (.mov (.t 16)), ⟨(some 18), (.faddr 0 (.t 2)), (some (17, true)), false⟩, ⟨(some 19), (.load none (.t 18)), (some (17, true)), false⟩, ⟨(some 20), (.bin .neq (.t 19) (ci 2)), (some (17, true)), false⟩, qo 21 (.pick (.t 17) (.t 20) (.c (.d (.bool false)))), qo 22 (.mov (.t 21)), ⟨(some 23), (.faddr 0 (.t 2)), (some (22, true)), false⟩, ⟨(some 24), (.load none (.t 23)), (some (22, true)), false⟩, ⟨(some 25), (.bin .neq (.t 24) (ci 18)), (some (22, true)), false⟩, qo 26 (.pick (.t 22) (.t 25) (.c (.d (.bool false)))), qo 4 (.asg (.t 26))]
def Jqo (p : Nums) : IC := (.region (Jqq p) [])
@[simp] theorem Jeo {p : Nums} : EqI (Jqo p) (.region (Jqq p) []) := eqi
def Jtaj (p : Nums) : IC := (.seq (Jqn p) (.seq (Jqo p) .ret))
@[simp] def Jq2p (p : Nums) : List IOp := [qo 11 (.faddr 0 (.t 5)), qo 12 (.load none (.t 11)), qo 13 (.faddr 0 (.t 7)), qo 14 (.load none (.t 13)), qo 15 (.faddr 1 (.t 7)), qo 16 (.load none (.t 15)), qo 17 (.slc 5 (.t 12) (some (.t 14)) (some (.t 16))), qo 18 (.len (.t 17)), qo 19 (.mov (ci 0))]
def Jq2c (p : Nums) : IC := (.region (Jq2p p) [])
@[simp] theorem Je2c {p : Nums} : EqI (Jq2c p) (.region (Jq2p p) []) := eqi
@[simp] def Jq2t (p : Nums) : List IOp := [qo 21 (.iaddr 5 (.t 17) (.t 19)), qo 22 (.load (some 5) (.t 21)), qo 9 (.alloc [(zi 0), (zi 0), (zi 0), (zi 0), (zi 0)]), qn (.store 5 (.t 9) (.t 22))]
def Jq2h (p : Nums) : IC := (.region (Jq2t p) [])
@[simp] theorem Je2h {p : Nums} : EqI (Jq2h p) (.region (Jq2t p) []) := eqi
@[simp] def Jq2u (p : Nums) : List IOp := [qp 25 (.mov (.t 0)), qp 26 (.mov (.t 0)), qp 27 (.nilck (.t 26)), qp 28 (.faddr 0 (.t 27)), qp 29 (.load none (.t 28)), qp 30 (.faddr 1 (.t 9)), qp 31 (.load none (.t 30)), qp 32 (.faddr 2 (.t 9)), qp 33 (.load none (.t 32)), qp 34 (.call p.transfer_Copy [(.t 29), (.t 31), (.t 33)]), qp 35 (.faddr 2 (.t 7)), qp 36 (.load none (.t 35)), qo 37 (.call p.blockcheck_checker_become [(.t 25), (.t 34), (.t 36)])]
def Jq2i (p : Nums) : IC := (.region (Jq2u p) [])
@[simp] theorem Je2i {p : Nums} : EqI (Jq2i p) (.region (Jq2u p) []) := eqi
def Jq2j (p : Nums) : IC := (.seq (Jq2h p) (.seq (.region [⟨(some 23), (.mov (.t 0)), none, false⟩, ⟨(some 24), (.call p.blockcheck_checker_cost [(.t 23)]), none, false⟩] []) (Jq2i p)))
@[simp] theorem Je2j {p : Nums} : EqI (Jq2j p) (.seq (Jq2h p) (.seq (.region [⟨(some 23), (.mov (.t 0)), none, false⟩, ⟨(some 24), (.call p.blockcheck_checker_cost [(.t 23)]), none, false⟩] []) (Jq2i p))) := eqi
def Jq2k (p : Nums) : IC := (.seq (.region [⟨(some 20), (.bin .lss (.t 19) (.t 18)), none, false⟩] []) (.seq (.cond (.t 20) .skip (.exit 0)) (.seq (.block 1 (Jq2j p)) (.region [⟨(some 38), (.bin .add (.t 19) (.c (.d (.int .i64 1)))), none, false⟩, ⟨(some 19), (.mov (.t 38)), none, false⟩] []))))
@[simp] theorem Je2k {p : Nums} : EqI (Jq2k p) (.seq (.region [⟨(some 20), (.bin .lss (.t 19) (.t 18)), none, false⟩] []) (.seq (.cond (.t 20) .skip (.exit 0)) (.seq (.block 1 (Jq2j p)) (.region [⟨(some 38), (.bin .add (.t 19) (.c (.d (.int .i64 1)))), none, false⟩, ⟨(some 19), (.mov (.t 38)), none, false⟩] [])))) := eqi
@[simp] def Jq2v (p : Nums) : List IOp := [qo 39 (.faddr 2 (.t 7)), qo 40 (.load none (.t 39)), qo 10 (.asg (.t 40))]
def Jq2l (p : Nums) : IC := (.region (Jq2v p) [])
@[simp] theorem Je2l {p : Nums} : EqI (Jq2l p) (.region (Jq2v p) []) := eqi
@[simp] def Jq2w (p : Nums) : List IOp := [qo 41 (.mov (.t 10)), qo 42 (.faddr 3 (.t 7)), qo 43 (.load none (.t 42)), qo 44 (.bin .lss (.t 41) (.t 43))]
def Jq2m (p : Nums) : IC := (.region (Jq2w p) [])
@[simp] theorem Je2m {p : Nums} : EqI (Jq2m p) (.region (Jq2w p) []) := eqi
@[simp] def Jq2x (p : Nums) : List IOp := [qp 49 (.mov (.t 0)), qp 50 (.mov (.t 0)), qp 51 (.nilck (.t 50)), qp 52 (.faddr 0 (.t 51)), qp 53 (.load none (.t 52)), qp 54 (.faddr 0 (.t 6)), qp 55 (.load none (.t 54)), qp 56 (.mov (.t 10)), qp 57 (.iaddr 7 (.t 55) (.t 56)), qp 58 (.faddr 5 (.t 57)), qp 59 (.load none (.t 58)), qp 60 (.faddr 0 (.t 6)), qp 61 (.load none (.t 60)), qp 62 (.mov (.t 10)), qp 63 (.iaddr 7 (.t 61) (.t 62)), qp 64 (.faddr 6 (.t 63)), qp 65 (.load none (.t 64)), qp 66 (.call p.transfer_Move [(.t 53), (.t 59), (.t 65)]), qp 67 (.mov (.t 10)), qo 68 (.call p.blockcheck_checker_become [(.t 49), (.t 66), (.t 67)])]
def Jq2n (p : Nums) : IC := (.region (Jq2x p) [])
@[simp] theorem Je2n {p : Nums} : EqI (Jq2n p) (.region (Jq2x p) []) := eqi
def Jq2o (p : Nums) : IC := (.seq (.region [⟨(some 47), (.mov (.t 0)), none, false⟩, ⟨(some 48), (.call p.blockcheck_checker_cost [(.t 47)]), none, false⟩] []) (Jq2n p))
@[simp] theorem Je2o {p : Nums} : EqI (Jq2o p) (.seq (.region [⟨(some 47), (.mov (.t 0)), none, false⟩, ⟨(some 48), (.call p.blockcheck_checker_cost [(.t 47)]), none, false⟩] []) (Jq2n p)) := eqi
@[simp] def Jq2q (p : Nums) : List IOp := [qo 45 (.mov (.t 10)), qo 46 (.bin .add (.t 45) (ci 1)), qo 10 (.asg (.t 46))]
def Jq2d (p : Nums) : IC := (.region (Jq2q p) [])
@[simp] theorem Je2d {p : Nums} : EqI (Jq2d p) (.region (Jq2q p) []) := eqi
def Jq2e (p : Nums) : IC := (.seq (.seq (Jq2m p) (.cond (.t 44) .skip (.exit 2))) (.seq (.block 3 (Jq2o p)) (Jq2d p)))
@[simp] theorem Je2e {p : Nums} : EqI (Jq2e p) (.seq (.seq (Jq2m p) (.cond (.t 44) .skip (.exit 2))) (.seq (.block 3 (Jq2o p)) (Jq2d p))) := eqi
@[simp] def Jq2r (p : Nums) : List IOp := [qo 69 (.faddr 4 (.t 7)), qo 70 (.load none (.t 69)), qo 71 (.bin .geq (.t 70) (ci 0))]
def Jq2f (p : Nums) : IC := (.region (Jq2r p) [])
@[simp] theorem Je2f {p : Nums} : EqI (Jq2f p) (.region (Jq2r p) []) := eqi
@[simp] def Jq2s (p : Nums) : List IOp := [qp 72 (.mov (.t 0)), qp 73 (.faddr 0 (.t 5)), qp 74 (.load none (.t 73)), qp 75 (.faddr 4 (.t 7)), qp 76 (.load none (.t 75)), qp 77 (.iaddr 5 (.t 74) (.t 76)), qp 78 (.load (some 5) (.t 77)), qp 79 (.faddr 0 (.t 6)), qp 80 (.load none (.t 79)), qp 81 (.faddr 5 (.t 7)), qp 82 (.load none (.t 81)), qp 83 (.iaddr 7 (.t 80) (.t 82)), qp 84 (.load (some 7) (.t 83)), qp 85 (.faddr 5 (.t 7)), qp 86 (.load none (.t 85)), qo 87 (.call p.blockcheck_checker_instr [(.t 72), (.t 78), (.t 84), (.t 86)])]
def Jq2g (p : Nums) : IC := (.region (Jq2s p) [])
@[simp] theorem Je2g {p : Nums} : EqI (Jq2g p) (.region (Jq2s p) []) := eqi
def Jtat (p : Nums) : IC := (.seq (.region [⟨(some 5), (.box (.t 1)), none, false⟩, ⟨(some 6), (.box (.t 2)), none, false⟩, ⟨(some 7), (.box (.t 3)), none, false⟩] []) (.seq (.seq (Jq2c p) (.block 0 (.loop (Jq2k p)))) (.seq (.seq (Jq2l p) (.block 2 (.loop (Jq2e p)))) (.seq (Jq2f p) (.cond (.t 71) (Jq2g p) .skip)))))
@[simp] def Jq3n (p : Nums) : List IOp := [qp 10 (.mov (.t 0)), qp 11 (.nilck (.t 10)), qp 12 (.faddr 0 (.t 11)), qp 13 (.load none (.t 12)), qp 14 (.mov (.t 1)), qp 15 (.mov (.t 2)), qp 16 (.call p.location_Reg [(.t 15)]), qp 17 (.build [(zi 0), (zi 0)] [(0, 1, (.t 14)), (1, 1, (.t 16))]), qo 18 (.call p.pairset_Has [(.t 13), (.t 17)]), qo 19 (.un .not (.t 18))]
def Jq3l (p : Nums) : IC := (.region (Jq3n p) [])
@[simp] theorem Je3l {p : Nums} : EqI (Jq3l p) (.region (Jq3n p) []) := eqi
@[simp] def Jq3o (p : Nums) : List IOp := [qo 20 (.mov (.t 3)), qo 21 (.build [(zi 0), (zi 0)] [(0, 1, (ci 21)), (1, 1, (.t 20))]), qo 22 (.mkif p.ty_bcfail (.t 21)), qn (.pan (.t 22))]
def Jq3m (p : Nums) : IC := (.region (Jq3o p) [])
@[simp] theorem Je3m {p : Nums} : EqI (Jq3m p) (.region (Jq3o p) []) := eqi
def Jtax (p : Nums) : IC := (.seq (.region [⟨(some 8), (.mov (.t 0)), none, false⟩, ⟨(some 9), (.call p.blockcheck_checker_cost [(.t 8)]), none, false⟩] []) (.seq (Jq3l p) (.cond (.t 19) (Jq3m p) .skip)))
@[simp] def Jq22 (p : Nums) : List IOp := [qp 2 (.mov (.t 0)), qp 3 (.nilck (.t 2)), qp 4 (.faddr 2 (.t 3)), qp 5 (.load none (.t 4)), qp 6 (.mov (.t 0)), qp 7 (.nilck (.t 6)), qp 8 (.faddr 0 (.t 7)), qp 9 (.load none (.t 8)), qp 10 (.len (.t 9)), qp 11 (.bin .add (ci 1) (.t 10)), qo 12 (.bin .add (.t 5) (.t 11)), qo 13 (.nilck (.t 2)), qo 14 (.faddr 2 (.t 13)), qn (.store 1 (.t 14) (.t 12))]
def Jq21 (p : Nums) : IC := (.region (Jq22 p) [])
@[simp] theorem Je21 {p : Nums} : EqI (Jq21 p) (.region (Jq22 p) []) := eqi
def Jtar (p : Nums) : IC := (Jq21 p)
@[simp] def Jq1y (p : Nums) : List IOp := [qo 6 (.mov (.t 0)), qo 7 (.mov (.t 0)), qo 8 (.mov (.t 1)), qo 9 (.mov (.t 0)), qo 10 (.nilck (.t 9)), qo 11 (.faddr 3 (.t 10)), qo 12 (.load none (.t 11)), qo 13 (.mov (.t 1)), qo 14 (.len (.t 13)), qo 15 (.mx (.t 12) (.t 14)), qo 16 (.nilck (.t 6)), qo 17 (.faddr 0 (.t 16)), qn (.store 1 (.t 17) (.t 8)), qo 18 (.nilck (.t 7)), qo 19 (.faddr 3 (.t 18)), qn (.store 1 (.t 19) (.t 15))]
def Jq1v (p : Nums) : IC := (.region (Jq1y p) [])
@[simp] theorem Je1v {p : Nums} : EqI (Jq1v p) (.region (Jq1y p) []) := eqi
@[simp] def Jq1z (p : Nums) : List IOp := [qo 20 (.mov (.t 1)), qo 21 (.len (.t 20)), qo 22 (.mov (.t 0)), qo 23 (.nilck (.t 22)), qo 24 (.faddr 1 (.t 23)), qo 25 (.load none (.t 24)), qo 26 (.bin .gtr (.t 21) (.t 25))]
def Jq1w (p : Nums) : IC := (.region (Jq1z p) [])
@[simp] theorem Je1w {p : Nums} : EqI (Jq1w p) (.region (Jq1z p) []) := eqi
@[simp] def Jq20 (p : Nums) : List IOp := [qo 27 (.mov (.t 2)), qo 28 (.build [(zi 0), (zi 0)] [(0, 1, (ci 24)), (1, 1, (.t 27))]), qo 29 (.mkif p.ty_bcfail (.t 28)), qn (.pan (.t 29))]
def Jq1x (p : Nums) : IC := (.region (Jq20 p) [])
@[simp] theorem Je1x {p : Nums} : EqI (Jq1x p) (.region (Jq20 p) []) := eqi
def Jtaq (p : Nums) : IC := (.seq (Jq1v p) (.seq (Jq1w p) (.cond (.t 26) (Jq1x p) .skip)))
@[simp] def Jqml (p : Nums) : List IOp := [qo 7 (.load none (.t 4)), qo 8 (.load none (.t 5)), qo 9 (.bin .eql (.t 7) (.t 8))]
def Jqmi (p : Nums) : IC := (.region (Jqml p) [])
@[simp] theorem Jemi {p : Nums} : EqI (Jqmi p) (.region (Jqml p) []) := eqi
@[simp] def Jqmm (p : Nums) : List IOp := [qo 10 (.mov (.t 0)), qo 11 (.call p.pairset_Make [(.t 10)]), qo 6 (.asg (.t 11))]
def Jqmj (p : Nums) : IC := (.region (Jqmm p) [])
@[simp] theorem Jemj {p : Nums} : EqI (Jqmj p) (.region (Jqmm p) []) := eqi
@[simp] def Jqmn (p : Nums) : List IOp := [qo 12 (.mov (.t 0)), qo 13 (.load none (.t 4)), qo 14 (.call p.pairset_DropV [(.t 12), (.t 13)]), qo 15 (.mov (.t 0)), qo 16 (.mkfn (.func p.transfer_Copy_1) [] [(.t 4), (.t 5)]), qo 17 (.call p.transfer_rename [(.t 14), (.t 15), (.t 16)]), qo 6 (.asg (.t 17))]
def Jqmk (p : Nums) : IC := (.region (Jqmn p) [])
@[simp] theorem Jemk {p : Nums} : EqI (Jqmk p) (.region (Jqmn p) []) := eqi
def Jtc5 (p : Nums) : IC := (.seq (.region [⟨(some 4), (.box (.t 1)), none, false⟩, ⟨(some 5), (.box (.t 2)), none, false⟩, ⟨(some 6), (.asg (.c .nils)), none, false⟩] []) (.seq (.seq (Jqmi p) (.cond (.t 9) (.seq (Jqmj p) .ret) .skip)) (.seq (Jqmk p) .ret)))
@[simp] def Jqmv (p : Nums) : List IOp := [qo 7 (.load none (.t 4)), qo 8 (.load none (.t 5)), qo 9 (.bin .eql (.t 7) (.t 8))]
def Jqms (p : Nums) : IC := (.region (Jqmv p) [])
@[simp] theorem Jems {p : Nums} : EqI (Jqms p) (.region (Jqmv p) []) := eqi
@[simp] def Jqmw (p : Nums) : List IOp := [qo 10 (.mov (.t 0)), qo 11 (.call p.pairset_Make [(.t 10)]), qo 6 (.asg (.t 11))]
def Jqmt (p : Nums) : IC := (.region (Jqmw p) [])
@[simp] theorem Jemt {p : Nums} : EqI (Jqmt p) (.region (Jqmw p) []) := eqi
@[simp] def Jqmx (p : Nums) : List IOp := [qo 12 (.mov (.t 0)), qo 13 (.load none (.t 4)), qo 14 (.call p.pairset_DropL [(.t 12), (.t 13)]), qo 15 (.mov (.t 0)), qo 16 (.mkfn (.func p.transfer_Move_1) [] [(.t 4), (.t 5)]), qo 17 (.call p.transfer_rename [(.t 14), (.t 15), (.t 16)]), qo 6 (.asg (.t 17))]
def Jqmu (p : Nums) : IC := (.region (Jqmx p) [])
@[simp] theorem Jemu {p : Nums} : EqI (Jqmu p) (.region (Jqmx p) []) := eqi
def Jtc7 (p : Nums) : IC := (.seq (.region [⟨(some 4), (.box (.t 1)), none, false⟩, ⟨(some 5), (.box (.t 2)), none, false⟩, ⟨(some 6), (.asg (.c .nils)), none, false⟩] []) (.seq (.seq (Jqms p) (.cond (.t 9) (.seq (Jqmt p) .ret) .skip)) (.seq (Jqmu p) .ret)))
@[simp] def Jq28 (p : Nums) : List IOp := [qo 11 (.faddr 0 (.t 5)), qo 12 (.load none (.t 11)), qo 13 (.call p.opcode_Of [(.t 12)]), qo 10 (.mov (.t 13)), qo 14 (.ext (.t 10) 0), qo 15 (.ext (.t 10) 1), qo 8 (.alloc [(.d (.bool false)), (.d (.bool false)), (.d (.bool false)), (.d (.bool false))]), qn (.store 4 (.t 8) (.t 14)), qo 9 (.asg (.t 15))]
def Jq23 (p : Nums) : IC := (.region (Jq28 p) [])
@[simp] theorem Je23 {p : Nums} : EqI (Jq23 p) (.region (Jq28 p) []) := eqi
@[simp] def Jq29 (p : Nums) : List IOp := [qo 18 (.mov (.t 0)), qo 19 (.faddr 2 (.t 5)), qo 20 (.load none (.t 19)), qo 21 (.faddr 2 (.t 6)), qo 22 (.load none (.t 21)), qo 23 (.mov (.t 3)), qo 24 (.call p.blockcheck_checker_use [(.t 18), (.t 20), (.t 22), (.t 23)])]
def Jq24 (p : Nums) : IC := (.region (Jq29 p) [])
@[simp] theorem Je24 {p : Nums} : EqI (Jq24 p) (.region (Jq29 p) []) := eqi
@[simp] def Jq2a (p : Nums) : List IOp := [qo 27 (.mov (.t 0)), qo 28 (.faddr 3 (.t 5)), qo 29 (.load none (.t 28)), qo 30 (.faddr 3 (.t 6)), qo 31 (.load none (.t 30)), qo 32 (.mov (.t 3)), qo 33 (.call p.blockcheck_checker_use [(.t 27), (.t 29), (.t 31), (.t 32)])]
def Jq25 (p : Nums) : IC := (.region (Jq2a p) [])
@[simp] theorem Je25 {p : Nums} : EqI (Jq25 p) (.region (Jq2a p) []) := eqi
@[simp] def Jq2b (p : Nums) : List IOp := [qp 38 (.mov (.t 0)), qp 39 (.mov (.t 0)), qp 40 (.nilck (.t 39)), qp 41 (.faddr 0 (.t 40)), qp 42 (.load none (.t 41)), qp 43 (.faddr 1 (.t 5)), qp 44 (.load none (.t 43)), qp 45 (.faddr 1 (.t 6)), qp 46 (.load none (.t 45)), qp 47 (.call p.location_Reg [(.t 46)]), qp 48 (.call p.transfer_Define [(.t 42), (.t 44), (.t 47)]), qp 49 (.mov (.t 3)), qo 50 (.call p.blockcheck_checker_become [(.t 38), (.t 48), (.t 49)])]
def Jq26 (p : Nums) : IC := (.region (Jq2b p) [])
@[simp] theorem Je26 {p : Nums} : EqI (Jq26 p) (.region (Jq2b p) []) := eqi
def Jq27 (p : Nums) : IC := (.seq (.region [⟨(some 36), (.mov (.t 0)), none, false⟩, ⟨(some 37), (.call p.blockcheck_checker_cost [(.t 36)]), none, false⟩] []) (Jq26 p))
@[simp] theorem Je27 {p : Nums} : EqI (Jq27 p) (.seq (.region [⟨(some 36), (.mov (.t 0)), none, false⟩, ⟨(some 37), (.call p.blockcheck_checker_cost [(.t 36)]), none, false⟩] []) (Jq26 p)) := eqi
def Jtas (p : Nums) : IC := (.seq (.region [⟨(some 5), (.box (.t 1)), none, false⟩, ⟨(some 6), (.box (.t 2)), none, false⟩] []) (.seq (Jq23 p) (.seq (.seq (.region [⟨(some 16), (.faddr 1 (.t 8)), none, false⟩, ⟨(some 17), (.load none (.t 16)), none, false⟩] []) (.cond (.t 17) (Jq24 p) .skip)) (.seq (.seq (.region [⟨(some 25), (.faddr 2 (.t 8)), none, false⟩, ⟨(some 26), (.load none (.t 25)), none, false⟩] []) (.cond (.t 26) (Jq25 p) .skip)) (.seq (.region [⟨(some 34), (.faddr 0 (.t 8)), none, false⟩, ⟨(some 35), (.load none (.t 34)), none, false⟩] []) (.cond (.t 35) (Jq27 p) .skip))))))
@[simp] def Jqn5 (p : Nums) : List IOp := [qo 12 (.mov (.t 1)), qo 13 (.len (.t 12)), qo 14 (.mov (ci 0))]
def Jqmy (p : Nums) : IC := (.region (Jqn5 p) [])
@[simp] theorem Jemy {p : Nums} : EqI (Jqmy p) (.region (Jqn5 p) []) := eqi
@[simp] def Jqn6 (p : Nums) : List IOp := [qo 16 (.iaddr 2 (.t 12) (.t 14)), qo 17 (.load (some 2) (.t 16)), qo 9 (.alloc [(zi 0), (zi 0)]), qn (.store 2 (.t 9) (.t 17))]
def Jqmz (p : Nums) : IC := (.region (Jqn6 p) [])
@[simp] theorem Jemz {p : Nums} : EqI (Jqmz p) (.region (Jqn6 p) []) := eqi
@[simp] def Jqn7 (p : Nums) : List IOp := [qo 19 (.mov (.t 2)), qo 20 (.load (some 2) (.t 9)), qo 21 (.callv (.t 19) [(.t 20)]), qo 18 (.mov (.t 21)), qo 22 (.ext (.t 18) 0), qo 23 (.ext (.t 18) 1), qo 10 (.alloc [(zi 0), (zi 0)]), qn (.store 2 (.t 10) (.t 22)), qo 11 (.asg (.t 23))]
def Jqn0 (p : Nums) : IC := (.region (Jqn7 p) [])
@[simp] theorem Jen0 {p : Nums} : EqI (Jqn0 p) (.region (Jqn7 p) []) := eqi
@[simp] def Jqn8 (p : Nums) : List IOp := [qo 25 (.mov (.t 7)), qo 26 (.load (some 2) (.t 10)), qo 27 (.bslice 2 1 [(.int .i64 0), (.int .i64 0)] [(0, (.t 26))]), qo 28 (.app 2 16 (.t 25) (.t 27)), qo 7 (.asg (.t 28))]
def Jqn1 (p : Nums) : IC := (.region (Jqn8 p) [])
@[simp] theorem Jen1 {p : Nums} : EqI (Jqn1 p) (.region (Jqn8 p) []) := eqi
def Jqn2 (p : Nums) : IC := (.seq (Jqmz p) (.seq (Jqn0 p) (.seq (.region [⟨(some 24), (.mov (.t 11)), none, false⟩] []) (.cond (.t 24) (Jqn1 p) .skip))))
@[simp] theorem Jen2 {p : Nums} : EqI (Jqn2 p) (.seq (Jqmz p) (.seq (Jqn0 p) (.seq (.region [⟨(some 24), (.mov (.t 11)), none, false⟩] []) (.cond (.t 24) (Jqn1 p) .skip)))) := eqi
def Jqn3 (p : Nums) : IC := (.seq (.region [⟨(some 15), (.bin .lss (.t 14) (.t 13)), none, false⟩] []) (.seq (.cond (.t 15) .skip (.exit 0)) (.seq (.block 1 (Jqn2 p)) (.region [⟨(some 29), (.bin .add (.t 14) (.c (.d (.int .i64 1)))), none, false⟩, ⟨(some 14), (.mov (.t 29)), none, false⟩] []))))
@[simp] theorem Jen3 {p : Nums} : EqI (Jqn3 p) (.seq (.region [⟨(some 15), (.bin .lss (.t 14) (.t 13)), none, false⟩] []) (.seq (.cond (.t 15) .skip (.exit 0)) (.seq (.block 1 (Jqn2 p)) (.region [⟨(some 29), (.bin .add (.t 14) (.c (.d (.int .i64 1)))), none, false⟩, ⟨(some 14), (.mov (.t 29)), none, false⟩] [])))) := eqi
@[simp] def Jqn9 (p : Nums) : List IOp := [qo 30 (.mov (.t 0)), qo 31 (.mov (.t 7)), qo 32 (.call p.pairset_Make [(.t 31)]), qo 33 (.call p.pairset_Union [(.t 30), (.t 32)]), qo 6 (.asg (.t 33))]
def Jqn4 (p : Nums) : IC := (.region (Jqn9 p) [])
@[simp] theorem Jen4 {p : Nums} : EqI (Jqn4 p) (.region (Jqn9 p) []) := eqi
def Jtc8 (p : Nums) : IC := (.seq (.region [⟨(some 6), (.asg (.c .nils)), none, false⟩] []) (.seq (.region [⟨(some 7), (.asg (.c .nils)), none, false⟩] []) (.seq (.seq (Jqmy p) (.block 0 (.loop (Jqn3 p)))) (.seq (Jqn4 p) .ret))))
@[simp] def Jqmq (p : Nums) : List IOp := [qo 8 (.mov (.t 0)), qo 9 (.mov (.t 1)), qo 10 (.call p.pairset_DropV [(.t 8), (.t 9)]), qo 11 (.mov (.t 2)), qo 12 (.call p.pairset_DropL [(.t 10), (.t 11)]), qo 7 (.asg (.t 12))]
def Jqmo (p : Nums) : IC := (.region (Jqmq p) [])
@[simp] theorem Jemo {p : Nums} : EqI (Jqmo p) (.region (Jqmq p) []) := eqi
@[simp] def Jqmr (p : Nums) : List IOp := [qo 13 (.mov (.t 7)), qo 14 (.mov (.t 1)), qo 15 (.mov (.t 2)), qo 16 (.build [(zi 0), (zi 0)] [(0, 1, (.t 14)), (1, 1, (.t 15))]), qo 17 (.call p.pairset_Add [(.t 13), (.t 16)]), qo 6 (.asg (.t 17))]
def Jqmp (p : Nums) : IC := (.region (Jqmr p) [])
@[simp] theorem Jemp {p : Nums} : EqI (Jqmp p) (.region (Jqmr p) []) := eqi
def Jtc6 (p : Nums) : IC := (.seq (.region [⟨(some 6), (.asg (.c .nils)), none, false⟩] []) (.seq (Jqmo p) (.seq (Jqmp p) .ret)))
@[simp] def Jq54 (p : Nums) : List IOp := [qo 6 (.box (.t 0)), qo 7 (.box (.t 1)), qo 12 (.asg (.c (.d (.bool false))))]
def Jq3p (p : Nums) : IC := (.region (Jq54 p) [])
@[simp] theorem Je3p {p : Nums} : EqI (Jq3p p) (.region (Jq54 p) []) := eqi
@[simp] def Jq59 (p : Nums) : List IOp := [qo 28 (.call p.law14_awake []), qo 29 (.un .not (.t 28)), qo 30 (.mov (.t 29)), ⟨(some 31), (.mov (.t 2)), (some (30, false)), false⟩, ⟨(some 32), (.len (.t 31)), (some (30, false)), false⟩, ⟨(some 33), (.bin .neq (.t 32) (ci 20)), (some (30, false)), false⟩, qo 34 (.pick (.t 30) (.c (.d (.bool true))) (.t 33)), qo 35 (.mov (.t 34)), ⟨(some 36), (.mov (.t 3)), (some (35, false)), false⟩, ⟨(some 37), (.len (.t 36)), (some (35, false)), false⟩, ⟨(some 38), (.bin .eql (.t 37) (ci 0)), (some (35, false)), false⟩, qo 39 (.pick (.t 35) (.c (.d (.bool true))) (.t 38)), qo 40 (.mov (.t 39)), ⟨(some 41), (.load (some 5) (.t 6)), (some (40, false)), false⟩, ⟨(some 42), (.load (some 5) (.t 7)), (some (40, false)), false⟩, ⟨(some 43), (.mov (.t 3)), (some (40, false)), false⟩, ⟨(some 44), (.len (.t 43)), (some (40, false)), false⟩, ⟨(some 45), (.mov (.t 4)), (some (40, false)), false⟩, ⟨(some 46), (.len (.t 45)), (some (40, false)), false⟩, ⟨(some 47), (.call p.law14_right [(.t 41), (.t 42), (.t 44), (.t 46)]), (some (40, false)), false⟩, ⟨(some 48), (.un .not (.t 47)), (some (40, false)), false⟩, qo 49 (.pick (.t 40) (.c (.d (.bool true))) (.t 48))]
def Jq3z (p : Nums) : IC := (.region (Jq59 p) [])
@[simp] theorem Je3z {p : Nums} : EqI (Jq3z p) (.region (Jq59 p) []) := eqi
def Jq4a (p : Nums) : IC := (.seq (.region [⟨(some 50), (.call p.law14_awake []), none, false⟩, ⟨(some 12), (.asg (.t 50)), none, false⟩] []) .ret)
@[simp] theorem Je4a {p : Nums} : EqI (Jq4a p) (.seq (.region [⟨(some 50), (.call p.law14_awake []), none, false⟩, ⟨(some 12), (.asg (.t 50)), none, false⟩] []) .ret) := eqi
@[simp] def Jq5q (p : Nums) : List IOp := [qo 55 (.mov (.t 16)), qo 56 (.mov (.t 3)), qo 57 (.len (.t 56)), qo 58 (.bin .mul (ci 2) (.t 57)), qo 59 (.bin .lss (.t 55) (.t 58)), qo 60 (.mov (.t 59)), ⟨(some 61), (.mov (.t 16)), (some (60, false)), false⟩, ⟨(some 62), (.mov (.t 4)), (some (60, false)), false⟩, ⟨(some 63), (.len (.t 62)), (some (60, false)), false⟩, ⟨(some 64), (.bin .mul (ci 2) (.t 63)), (some (60, false)), false⟩, ⟨(some 65), (.bin .lss (.t 61) (.t 64)), (some (60, false)), false⟩, qo 66 (.pick (.t 60) (.c (.d (.bool true))) (.t 65))]
def Jq4l (p : Nums) : IC := (.region (Jq5q p) [])
@[simp] theorem Je4l {p : Nums} : EqI (Jq4l p) (.region (Jq5q p) []) := eqi
@[simp] def Jq5x (p : Nums) : List IOp := [qo 69 (.mov (.t 16)), qo 70 (.bin .rem (.t 69) (ci 2)), qo 71 (.bin .eql (.t 70) (ci 0)), qo 72 (.mov (.t 71)), ⟨(some 73), (.mov (.t 16)), (some (72, true)), true⟩, ⟨(some 74), (.bin .quo (.t 73) (ci 2)), (some (72, true)), true⟩, ⟨(some 75), (.mov (.t 3)), (some (72, true)), true⟩, ⟨(some 76), (.len (.t 75)), (some (72, true)), true⟩, ⟨(some 77), (.bin .lss (.t 74) (.t 76)), (some (72, true)), false⟩, qo 78 (.pick (.t 72) (.t 77) (.c (.d (.bool false)))), qo 79 (.mov (.t 78)), ⟨(some 80), (.mov (.t 3)), (some (79, true)), true⟩, ⟨(some 81), (.mov (.t 16)), (some (79, true)), true⟩, ⟨(some 82), (.bin .quo (.t 81) (ci 2)), (some (79, true)), true⟩, ⟨(some 83), (.iaddr 1 (.t 80) (.t 82)), (some (79, true)), true⟩, ⟨(some 84), (.load none (.t 83)), (some (79, true)), true⟩, ⟨(some 85), (.mov (.t 2)), (some (79, true)), true⟩, ⟨(some 86), (.mov (.t 15)), (some (79, true)), true⟩, ⟨(some 87), (.iaddr 1 (.t 85) (.t 86)), (some (79, true)), true⟩, ⟨(some 88), (.load none (.t 87)), (some (79, true)), true⟩, ⟨(some 89), (.bin .eql (.t 84) (.t 88)), (some (79, true)), false⟩, qo 90 (.pick (.t 79) (.t 89) (.c (.d (.bool false)))), qo 91 (.mov (.t 90)), ⟨(some 92), (.mov (.t 16)), (some (91, false)), false⟩, ⟨(some 93), (.bin .rem (.t 92) (ci 2)), (some (91, false)), false⟩, ⟨(some 94), (.bin .eql (.t 93) (ci 1)), (some (91, false)), false⟩, ⟨(some 95), (.mov (.t 94)), (some (91, false)), false⟩, ⟨(some 96), (.mov (.t 16)), (some (95, true)), true⟩, ⟨(some 97), (.bin .quo (.t 96) (ci 2)), (some (95, true)), true⟩, ⟨(some 98), (.mov (.t 4)), (some (95, true)), true⟩, ⟨(some 99), (.len (.t 98)), (some (95, true)), true⟩, ⟨(some 100), (.bin .lss (.t 97) (.t 99)), (some (95, true)), false⟩, ⟨(some 101), (.pick (.t 95) (.t 100) (.c (.d (.bool false)))), (some (91, false)), false⟩, ⟨(some 102), (.mov (.t 101)), (some (91, false)), false⟩, ⟨(some 103), (.mov (.t 4)), (some (102, true)), true⟩, ⟨(some 104), (.mov (.t 16)), (some (102, true)), true⟩, ⟨(some 105), (.bin .quo (.t 104) (ci 2)), (some (102, true)), true⟩, ⟨(some 106), (.iaddr 1 (.t 103) (.t 105)), (some (102, true)), true⟩, ⟨(some 107), (.load none (.t 106)), (some (102, true)), true⟩, ⟨(some 108), (.mov (.t 2)), (some (102, true)), true⟩, ⟨(some 109), (.mov (.t 15)), (some (102, true)), true⟩, ⟨(some 110), (.iaddr 1 (.t 108) (.t 109)), (some (102, true)), true⟩, ⟨(some 111), (.load none (.t 110)), (some (102, true)), true⟩, ⟨(some 112), (.bin .eql (.t 107) (.t 111)), (some (102, true)), false⟩, ⟨(some 113), (.pick (.t 102) (.t 112) (.c (.d (.bool false)))), (some (91, false)), false⟩, qo 114 (.pick (.t 91) (.c (.d (.bool true))) (.t 113))]
def Jq4w (p : Nums) : IC := (.region (Jq5x p) [])
@[simp] theorem Je4w {p : Nums} : EqI (Jq4w p) (.region (Jq5x p) []) := eqi
@[simp] def Jq5y (p : Nums) : List IOp := [qo 115 (.mov (.t 14)), qo 116 (.mov (.t 5)), qo 117 (.len (.t 116)), qo 118 (.bin .geq (.t 115) (.t 117)), qo 119 (.mov (.t 118)), ⟨(some 120), (.mov (.t 5)), (some (119, false)), false⟩, ⟨(some 121), (.mov (.t 14)), (some (119, false)), false⟩, ⟨(some 122), (.iaddr 1 (.t 120) (.t 121)), (some (119, false)), false⟩, ⟨(some 123), (.load none (.t 122)), (some (119, false)), false⟩, ⟨(some 124), (.un .not (.t 123)), (some (119, false)), false⟩, qo 125 (.pick (.t 119) (.c (.d (.bool true))) (.t 124))]
def Jq4y (p : Nums) : IC := (.region (Jq5y p) [])
@[simp] theorem Je4y {p : Nums} : EqI (Jq4y p) (.region (Jq5y p) []) := eqi
@[simp] def Jq5z (p : Nums) : List IOp := [qo 126 (.mov (.t 13)), qo 127 (.mov (.t 15)), qo 128 (.mov (.t 16)), qo 129 (.build [(zi 0), (zi 0)] [(0, 1, (.t 127)), (1, 1, (.t 128))]), qo 130 (.bslice 2 1 [(.int .i64 0), (.int .i64 0)] [(0, (.t 129))]), qo 131 (.app 2 16 (.t 126) (.t 130)), qo 13 (.asg (.t 131))]
def Jq4z (p : Nums) : IC := (.region (Jq5z p) [])
@[simp] theorem Je4z {p : Nums} : EqI (Jq4z p) (.region (Jq5z p) []) := eqi
def Jq53 (p : Nums) : IC := (.seq (.seq (Jq4y p) .cut) (.cond (.t 125) (Jq4z p) .skip))
theorem Je53 {p : Nums} : EqI (Jq53 p) (.seq (.seq (Jq4y p) .cut) (.cond (.t 125) (Jq4z p) .skip)) := eqi
@[simp] def Jq60 (p : Nums) : List IOp := [qo 132 (.mov (.t 14)), qo 133 (.bin .add (.t 132) (ci 1)), qo 14 (.asg (.t 133))]
def Jq50 (p : Nums) : IC := (.region (Jq60 p) [])
@[simp] theorem Je50 {p : Nums} : EqI (Jq50 p) (.region (Jq60 p) []) := eqi
def Jq3q (p : Nums) : IC := (.seq (Jq53 p) (Jq50 p))
@[simp] theorem Je3q {p : Nums} : EqI (Jq3q p) (.seq (Jq53 p) (Jq50 p)) := eqi
def Jq51 (p : Nums) : IC := (.seq (.seq (Jq4w p) .cut) (.cond (.t 114) (Jq3q p) .skip))
theorem Je51 {p : Nums} : EqI (Jq51 p) (.seq (.seq (Jq4w p) .cut) (.cond (.t 114) (Jq3q p) .skip)) := eqi
@[simp] def Jq55 (p : Nums) : List IOp := [qo 67 (.mov (.t 16)), qo 68 (.bin .add (.t 67) (ci 1)), qo 16 (.asg (.t 68))]
def Jq3r (p : Nums) : IC := (.region (Jq55 p) [])
@[simp] theorem Je3r {p : Nums} : EqI (Jq3r p) (.region (Jq55 p) []) := eqi
def Jq3s (p : Nums) : IC := (.seq (.seq (Jq4l p) (.cond (.t 66) .skip (.exit 2))) (.seq (.block 3 (Jq51 p)) (Jq3r p)))
@[simp] theorem Je3s {p : Nums} : EqI (Jq3s p) (.seq (.seq (Jq4l p) (.cond (.t 66) .skip (.exit 2))) (.seq (.block 3 (Jq51 p)) (Jq3r p))) := eqi
def Jq3t (p : Nums) : IC := (.seq (.region [⟨(some 16), (.asg (.c (.d (.int .i64 0)))), none, false⟩] []) (.block 2 (.loop (Jq3s p))))
@[simp] theorem Je3t {p : Nums} : EqI (Jq3t p) (.seq (.region [⟨(some 16), (.asg (.c (.d (.int .i64 0)))), none, false⟩] []) (.block 2 (.loop (Jq3s p)))) := eqi
@[simp] def Jq56 (p : Nums) : List IOp := [qo 53 (.mov (.t 15)), qo 54 (.bin .add (.t 53) (ci 1)), qo 15 (.asg (.t 54))]
def Jq3u (p : Nums) : IC := (.region (Jq56 p) [])
@[simp] theorem Je3u {p : Nums} : EqI (Jq3u p) (.region (Jq56 p) []) := eqi
def Jq3v (p : Nums) : IC := (.seq (.seq (.region [⟨(some 51), (.mov (.t 15)), none, false⟩, ⟨(some 52), (.bin .lss (.t 51) (.c (.d (.int .i64 20)))), none, false⟩] []) (.cond (.t 52) .skip (.exit 0))) (.seq (.block 1 (Jq3t p)) (Jq3u p)))
@[simp] theorem Je3v {p : Nums} : EqI (Jq3v p) (.seq (.seq (.region [⟨(some 51), (.mov (.t 15)), none, false⟩, ⟨(some 52), (.bin .lss (.t 51) (.c (.d (.int .i64 20)))), none, false⟩] []) (.cond (.t 52) .skip (.exit 0))) (.seq (.block 1 (Jq3t p)) (Jq3u p))) := eqi
@[simp] def Jq57 (p : Nums) : List IOp := [qo 134 (.load (some 5) (.t 6)), qo 135 (.load (some 5) (.t 7)), qo 136 (.mov (.t 13)), qo 137 (.call p.blockcheck_Check [(.t 134), (.t 135), (.t 136), (ci 1000000)]), qo 17 (.alloc [.nils, (zi 0), (zi 0), (zi 0), (zi 0)]), qn (.store 5 (.t 17) (.t 137))]
def Jq3w (p : Nums) : IC := (.region (Jq57 p) [])
@[simp] theorem Je3w {p : Nums} : EqI (Jq3w p) (.region (Jq57 p) []) := eqi
@[simp] def Jq58 (p : Nums) : List IOp := [qo 138 (.faddr 1 (.t 17)), qo 139 (.load none (.t 138)), qo 140 (.bin .neq (.t 139) (ci 0))]
def Jq3x (p : Nums) : IC := (.region (Jq58 p) [])
@[simp] theorem Je3x {p : Nums} : EqI (Jq3x p) (.region (Jq58 p) []) := eqi
def Jq3y (p : Nums) : IC := (.seq (.region [⟨(some 12), (.asg (.c (.d (.bool true)))), none, false⟩] []) .ret)
@[simp] theorem Je3y {p : Nums} : EqI (Jq3y p) (.seq (.region [⟨(some 12), (.asg (.c (.d (.bool true)))), none, false⟩] []) .ret) := eqi
@[simp] def Jq5a (p : Nums) : List IOp := [qo 141 (.build [(zi 0), (zi 0), (zi 0), (zi 0)] [(0, 1, (ci 3))]), qo 18 (.alloc [(zi 0), (zi 0), (zi 0), (zi 0)]), qn (.store 4 (.t 18) (.t 141))]
def Jq40 (p : Nums) : IC := (.region (Jq5a p) [])
@[simp] theorem Je40 {p : Nums} : EqI (Jq40 p) (.region (Jq5a p) []) := eqi
@[simp] def Jq5b (p : Nums) : List IOp := [qo 142 (.build [(zi 0), (zi 0), .nils] [(1, 1, (ci 20))]), qo 19 (.alloc [(zi 0), (zi 0), .nils]), qn (.store 3 (.t 19) (.t 142))]
def Jq41 (p : Nums) : IC := (.region (Jq5b p) [])
@[simp] theorem Je41 {p : Nums} : EqI (Jq41 p) (.region (Jq5b p) []) := eqi
@[simp] def Jq5c (p : Nums) : List IOp := [qo 143 (.mov (.t 3)), qo 144 (.len (.t 143)), qo 145 (.mov (.t 4)), qo 146 (.len (.t 145)), qo 147 (.build [(zi 0), (zi 0), (zi 0), .nils] [(1, 1, (.t 144)), (2, 1, (.t 146))]), qo 20 (.alloc [(zi 0), (zi 0), (zi 0), .nils]), qn (.store 4 (.t 20) (.t 147))]
def Jq42 (p : Nums) : IC := (.region (Jq5c p) [])
@[simp] theorem Je42 {p : Nums} : EqI (Jq42 p) (.region (Jq5c p) []) := eqi
@[simp] def Jq5d (p : Nums) : List IOp := [qo 152 (.faddr 2 (.t 19)), qo 153 (.load none (.t 152)), qo 154 (.load (some 4) (.t 18)), qo 155 (.build [.nils, (zi 0), (zi 0), (zi 0), (zi 0)] [(1, 4, (.t 154))]), qo 156 (.bslice 5 1 [(.sl []), (.int .i64 0), (.int .i64 0), (.int .i64 0), (.int .i64 0)] [(0, (.t 155))]), qo 157 (.app 5 56 (.t 153) (.t 156)), qo 158 (.faddr 2 (.t 19)), qn (.store 1 (.t 158) (.t 157))]
def Jq43 (p : Nums) : IC := (.region (Jq5d p) [])
@[simp] theorem Je43 {p : Nums} : EqI (Jq43 p) (.region (Jq5d p) []) := eqi
@[simp] def Jq5e (p : Nums) : List IOp := [qo 159 (.faddr 3 (.t 20)), qo 160 (.load none (.t 159)), qo 161 (.load (some 4) (.t 18)), qo 162 (.build [.nils, (zi 0), (zi 0), (zi 0), (zi 0)] [(1, 4, (.t 161))]), qo 163 (.bslice 5 1 [(.sl []), (.int .i64 0), (.int .i64 0), (.int .i64 0), (.int .i64 0)] [(0, (.t 162))]), qo 164 (.app 5 56 (.t 160) (.t 163)), qo 165 (.faddr 3 (.t 20)), qn (.store 1 (.t 165) (.t 164))]
def Jq44 (p : Nums) : IC := (.region (Jq5e p) [])
@[simp] theorem Je44 {p : Nums} : EqI (Jq44 p) (.region (Jq5e p) []) := eqi
def Jq45 (p : Nums) : IC := (.seq (Jq43 p) (Jq44 p))
@[simp] theorem Je45 {p : Nums} : EqI (Jq45 p) (.seq (Jq43 p) (Jq44 p)) := eqi
@[simp] def Jq5f (p : Nums) : List IOp := [qo 150 (.mov (.t 21)), qo 151 (.bin .add (.t 150) (ci 1)), qo 21 (.asg (.t 151))]
def Jq46 (p : Nums) : IC := (.region (Jq5f p) [])
@[simp] theorem Je46 {p : Nums} : EqI (Jq46 p) (.region (Jq5f p) []) := eqi
def Jq47 (p : Nums) : IC := (.seq (.seq (.region [⟨(some 148), (.mov (.t 21)), none, false⟩, ⟨(some 149), (.bin .lss (.t 148) (.c (.d (.int .i64 31)))), none, false⟩] []) (.cond (.t 149) .skip (.exit 4))) (.seq (.block 5 (Jq45 p)) (Jq46 p)))
@[simp] theorem Je47 {p : Nums} : EqI (Jq47 p) (.seq (.seq (.region [⟨(some 148), (.mov (.t 21)), none, false⟩, ⟨(some 149), (.bin .lss (.t 148) (.c (.d (.int .i64 31)))), none, false⟩] []) (.cond (.t 149) .skip (.exit 4))) (.seq (.block 5 (Jq45 p)) (Jq46 p))) := eqi
@[simp] def Jq5g (p : Nums) : List IOp := [qo 166 (.faddr 2 (.t 19)), qo 167 (.load none (.t 166)), qo 168 (.load (some 5) (.t 6)), qo 169 (.iaddr 5 (.t 167) (ci 0)), qn (.store 5 (.t 169) (.t 168))]
def Jq48 (p : Nums) : IC := (.region (Jq5g p) [])
@[simp] theorem Je48 {p : Nums} : EqI (Jq48 p) (.region (Jq5g p) []) := eqi
@[simp] def Jq5h (p : Nums) : List IOp := [qo 170 (.faddr 3 (.t 20)), qo 171 (.load none (.t 170)), qo 172 (.load (some 5) (.t 7)), qo 173 (.iaddr 5 (.t 171) (ci 0)), qn (.store 5 (.t 173) (.t 172))]
def Jq49 (p : Nums) : IC := (.region (Jq5h p) [])
@[simp] theorem Je49 {p : Nums} : EqI (Jq49 p) (.region (Jq5h p) []) := eqi
@[simp] def Jq5i (p : Nums) : List IOp := [qo 174 (.bslice 1 0 [(.int .i64 0)] []), qo 175 (.mov (.t 2)), qo 176 (.app 1 8 (.t 174) (.t 175)), qo 177 (.build [(zi 0), (zi 0), (zi 0), (zi 0), .nils, .nils, .nils, (zi 0)] [(4, 1, (.t 176))]), qo 22 (.alloc [(zi 0), (zi 0), (zi 0), (zi 0), .nils, .nils, .nils, (zi 0)]), qn (.store 8 (.t 22) (.t 177))]
def Jq4b (p : Nums) : IC := (.region (Jq5i p) [])
@[simp] theorem Je4b {p : Nums} : EqI (Jq4b p) (.region (Jq5i p) []) := eqi
@[simp] def Jq5j (p : Nums) : List IOp := [qo 178 (.bslice 1 0 [(.int .i64 0)] []), qo 179 (.mov (.t 3)), qo 180 (.app 1 8 (.t 178) (.t 179)), qo 181 (.bslice 1 0 [(.int .i64 0)] []), qo 182 (.mov (.t 4)), qo 183 (.app 1 8 (.t 181) (.t 182)), qo 184 (.build [(zi 0), (zi 0), (zi 0), (zi 0), .nils, .nils, .nils, (zi 0)] [(4, 1, (.t 180)), (5, 1, (.t 183))]), qo 23 (.alloc [(zi 0), (zi 0), (zi 0), (zi 0), .nils, .nils, .nils, (zi 0)]), qn (.store 8 (.t 23) (.t 184))]
def Jq4c (p : Nums) : IC := (.region (Jq5j p) [])
@[simp] theorem Je4c {p : Nums} : EqI (Jq4c p) (.region (Jq5j p) []) := eqi
@[simp] def Jq5k (p : Nums) : List IOp := [qo 185 (.mov (.t 24)), qo 186 (.faddr 0 (.t 6)), qo 187 (.load none (.t 186)), qo 188 (.len (.t 187)), qo 189 (.bin .leq (.t 185) (.t 188))]
def Jq4d (p : Nums) : IC := (.region (Jq5k p) [])
@[simp] theorem Je4d {p : Nums} : EqI (Jq4d p) (.region (Jq5k p) []) := eqi
@[simp] def Jq5l (p : Nums) : List IOp := [qo 192 (.load (some 3) (.t 19)), qo 193 (.load (some 8) (.t 22)), qo 194 (.call p.ref09_Step [(.t 192), (.t 193)]), qn (.store 8 (.t 22) (.t 194))]
def Jq4e (p : Nums) : IC := (.region (Jq5l p) [])
@[simp] theorem Je4e {p : Nums} : EqI (Jq4e p) (.region (Jq5l p) []) := eqi
@[simp] def Jq5m (p : Nums) : List IOp := [qo 190 (.mov (.t 24)), qo 191 (.bin .add (.t 190) (ci 1)), qo 24 (.asg (.t 191))]
def Jq4f (p : Nums) : IC := (.region (Jq5m p) [])
@[simp] theorem Je4f {p : Nums} : EqI (Jq4f p) (.region (Jq5m p) []) := eqi
def Jq4g (p : Nums) : IC := (.seq (.seq (Jq4d p) (.cond (.t 189) .skip (.exit 6))) (.seq (.block 7 (Jq4e p)) (Jq4f p)))
@[simp] theorem Je4g {p : Nums} : EqI (Jq4g p) (.seq (.seq (Jq4d p) (.cond (.t 189) .skip (.exit 6))) (.seq (.block 7 (Jq4e p)) (Jq4f p))) := eqi
@[simp] def Jq5n (p : Nums) : List IOp := [qo 195 (.mov (.t 25)), qo 196 (.faddr 0 (.t 7)), qo 197 (.load none (.t 196)), qo 198 (.len (.t 197)), qo 199 (.bin .leq (.t 195) (.t 198))]
def Jq4h (p : Nums) : IC := (.region (Jq5n p) [])
@[simp] theorem Je4h {p : Nums} : EqI (Jq4h p) (.region (Jq5n p) []) := eqi
@[simp] def Jq5o (p : Nums) : List IOp := [qo 202 (.load (some 4) (.t 20)), qo 203 (.load (some 8) (.t 23)), qo 204 (.call p.ref10_Step [(.t 202), (.t 203)]), qn (.store 8 (.t 23) (.t 204))]
def Jq4i (p : Nums) : IC := (.region (Jq5o p) [])
@[simp] theorem Je4i {p : Nums} : EqI (Jq4i p) (.region (Jq5o p) []) := eqi
@[simp] def Jq5p (p : Nums) : List IOp := [qo 200 (.mov (.t 25)), qo 201 (.bin .add (.t 200) (ci 1)), qo 25 (.asg (.t 201))]
def Jq4j (p : Nums) : IC := (.region (Jq5p p) [])
@[simp] theorem Je4j {p : Nums} : EqI (Jq4j p) (.region (Jq5p p) []) := eqi
def Jq4k (p : Nums) : IC := (.seq (.seq (Jq4h p) (.cond (.t 199) .skip (.exit 8))) (.seq (.block 9 (Jq4i p)) (Jq4j p)))
@[simp] theorem Je4k {p : Nums} : EqI (Jq4k p) (.seq (.seq (Jq4h p) (.cond (.t 199) .skip (.exit 8))) (.seq (.block 9 (Jq4i p)) (Jq4j p))) := eqi
@[simp] def Jq5r (p : Nums) : List IOp := [qo 205 (.faddr 0 (.t 22)), qo 206 (.load none (.t 205)), qo 207 (.bin .eql (.t 206) (ci 2))]
def Jq4m (p : Nums) : IC := (.region (Jq5r p) [])
@[simp] theorem Je4m {p : Nums} : EqI (Jq4m p) (.region (Jq5r p) []) := eqi
def Jq4n (p : Nums) : IC := (.seq (.region [⟨(some 12), (.asg (.c (.d (.bool true)))), none, false⟩] []) .ret)
@[simp] theorem Je4n {p : Nums} : EqI (Jq4n p) (.seq (.region [⟨(some 12), (.asg (.c (.d (.bool true)))), none, false⟩] []) .ret) := eqi
@[simp] def Jq5s (p : Nums) : List IOp := [qo 208 (.faddr 0 (.t 22)), qo 209 (.load none (.t 208)), qo 210 (.faddr 0 (.t 23)), qo 211 (.load none (.t 210)), qo 212 (.bin .neq (.t 209) (.t 211)), qo 213 (.mov (.t 212)), ⟨(some 214), (.faddr 1 (.t 22)), (some (213, false)), false⟩, ⟨(some 215), (.load none (.t 214)), (some (213, false)), false⟩, ⟨(some 216), (.faddr 1 (.t 23)), (some (213, false)), false⟩, ⟨(some 217), (.load none (.t 216)), (some (213, false)), false⟩, ⟨(some 218), (.bin .neq (.t 215) (.t 217)), (some (213, false)), false⟩, qo 219 (.pick (.t 213) (.c (.d (.bool true))) (.t 218)), qo 220 (.mov (.t 219)), ⟨(some 221), (.faddr 3 (.t 22)), (some (220, false)), false⟩, ⟨(some 222), (.load none (.t 221)), (some (220, false)), false⟩, ⟨(some 223), (.faddr 3 (.t 23)), (some (220, false)), false⟩, ⟨(some 224), (.load none (.t 223)), (some (220, false)), false⟩, ⟨(some 225), (.bin .neq (.t 222) (.t 224)), (some (220, false)), false⟩, qo 226 (.pick (.t 220) (.c (.d (.bool true))) (.t 225)), qo 227 (.mov (.t 226)), ⟨(some 228), (.faddr 6 (.t 22)), (some (227, false)), false⟩, ⟨(some 229), (.load none (.t 228)), (some (227, false)), false⟩, ⟨(some 230), (.faddr 6 (.t 23)), (some (227, false)), false⟩, ⟨(some 231), (.load none (.t 230)), (some (227, false)), false⟩, ⟨(some 232), (.call p.ref09_Values [(.t 229), (.t 231)]), (some (227, false)), false⟩, ⟨(some 233), (.un .not (.t 232)), (some (227, false)), false⟩, qo 234 (.pick (.t 227) (.c (.d (.bool true))) (.t 233))]
def Jq4o (p : Nums) : IC := (.region (Jq5s p) [])
@[simp] theorem Je4o {p : Nums} : EqI (Jq4o p) (.region (Jq5s p) []) := eqi
def Jq4p (p : Nums) : IC := (.seq (.region [⟨(some 12), (.asg (.c (.d (.bool false)))), none, false⟩] []) .ret)
@[simp] theorem Je4p {p : Nums} : EqI (Jq4p p) (.seq (.region [⟨(some 12), (.asg (.c (.d (.bool false)))), none, false⟩] []) .ret) := eqi
@[simp] def Jq5t (p : Nums) : List IOp := [qo 235 (.mov (.t 26)), qo 236 (.faddr 0 (.t 17)), qo 237 (.load none (.t 236)), qo 238 (.len (.t 237)), qo 239 (.bin .lss (.t 235) (.t 238))]
def Jq4q (p : Nums) : IC := (.region (Jq5t p) [])
@[simp] theorem Je4q {p : Nums} : EqI (Jq4q p) (.region (Jq5t p) []) := eqi
@[simp] def Jq5u (p : Nums) : List IOp := [qo 242 (.faddr 0 (.t 17)), qo 243 (.load none (.t 242)), qo 244 (.mov (.t 26)), qo 245 (.iaddr 2 (.t 243) (.t 244)), qo 246 (.load (some 2) (.t 245)), qo 27 (.alloc [(zi 0), (zi 0)]), qn (.store 2 (.t 27) (.t 246))]
def Jq4r (p : Nums) : IC := (.region (Jq5u p) [])
@[simp] theorem Je4r {p : Nums} : EqI (Jq4r p) (.region (Jq5u p) []) := eqi
@[simp] def Jq5v (p : Nums) : List IOp := [qo 247 (.faddr 0 (.t 27)), qo 248 (.load none (.t 247)), qo 249 (.bin .lss (.t 248) (ci 0)), qo 250 (.mov (.t 249)), ⟨(some 251), (.faddr 0 (.t 27)), (some (250, false)), false⟩, ⟨(some 252), (.load none (.t 251)), (some (250, false)), false⟩, ⟨(some 253), (.bin .geq (.t 252) (ci 20)), (some (250, false)), false⟩, qo 254 (.pick (.t 250) (.c (.d (.bool true))) (.t 253)), qo 255 (.mov (.t 254)), ⟨(some 256), (.faddr 1 (.t 27)), (some (255, false)), false⟩, ⟨(some 257), (.load none (.t 256)), (some (255, false)), false⟩, ⟨(some 258), (.bin .lss (.t 257) (ci 0)), (some (255, false)), false⟩, qo 259 (.pick (.t 255) (.c (.d (.bool true))) (.t 258)), qo 260 (.mov (.t 259)), ⟨(some 261), (.faddr 1 (.t 27)), (some (260, false)), false⟩, ⟨(some 262), (.load none (.t 261)), (some (260, false)), false⟩, ⟨(some 263), (.bin .rem (.t 262) (ci 2)), (some (260, false)), false⟩, ⟨(some 264), (.bin .eql (.t 263) (ci 0)), (some (260, false)), false⟩, ⟨(some 265), (.mov (.t 264)), (some (260, false)), false⟩, ⟨(some 266), (.faddr 1 (.t 27)), (some (265, true)), true⟩, ⟨(some 267), (.load none (.t 266)), (some (265, true)), true⟩, ⟨(some 268), (.bin .quo (.t 267) (ci 2)), (some (265, true)), true⟩, ⟨(some 269), (.mov (.t 3)), (some (265, true)), true⟩, ⟨(some 270), (.len (.t 269)), (some (265, true)), true⟩, ⟨(some 271), (.bin .geq (.t 268) (.t 270)), (some (265, true)), false⟩, ⟨(some 272), (.pick (.t 265) (.t 271) (.c (.d (.bool false)))), (some (260, false)), false⟩, qo 273 (.pick (.t 260) (.c (.d (.bool true))) (.t 272)), qo 274 (.mov (.t 273)), ⟨(some 275), (.faddr 1 (.t 27)), (some (274, false)), false⟩, ⟨(some 276), (.load none (.t 275)), (some (274, false)), false⟩, ⟨(some 277), (.bin .rem (.t 276) (ci 2)), (some (274, false)), false⟩, ⟨(some 278), (.bin .eql (.t 277) (ci 1)), (some (274, false)), false⟩, ⟨(some 279), (.mov (.t 278)), (some (274, false)), false⟩, ⟨(some 280), (.faddr 1 (.t 27)), (some (279, true)), true⟩, ⟨(some 281), (.load none (.t 280)), (some (279, true)), true⟩, ⟨(some 282), (.bin .quo (.t 281) (ci 2)), (some (279, true)), true⟩, ⟨(some 283), (.mov (.t 4)), (some (279, true)), true⟩, ⟨(some 284), (.len (.t 283)), (some (279, true)), true⟩, ⟨(some 285), (.bin .geq (.t 282) (.t 284)), (some (279, true)), false⟩, ⟨(some 286), (.pick (.t 279) (.t 285) (.c (.d (.bool false)))), (some (274, false)), false⟩, qo 287 (.pick (.t 274) (.c (.d (.bool true))) (.t 286)), qo 288 (.mov (.t 287)), ⟨(some 289), (.load (some 8) (.t 23)), (some (288, false)), true⟩, ⟨(some 290), (.faddr 1 (.t 27)), (some (288, false)), true⟩, ⟨(some 291), (.load none (.t 290)), (some (288, false)), true⟩, ⟨(some 292), (.call p.ref10_Read [(.t 289), (.t 291)]), (some (288, false)), true⟩, ⟨(some 293), (.faddr 4 (.t 22)), (some (288, false)), true⟩, ⟨(some 294), (.load none (.t 293)), (some (288, false)), true⟩, ⟨(some 295), (.faddr 0 (.t 27)), (some (288, false)), true⟩, ⟨(some 296), (.load none (.t 295)), (some (288, false)), true⟩, ⟨(some 297), (.iaddr 1 (.t 294) (.t 296)), (some (288, false)), true⟩, ⟨(some 298), (.load none (.t 297)), (some (288, false)), true⟩, ⟨(some 299), (.bin .neq (.t 292) (.t 298)), (some (288, false)), false⟩, qo 300 (.pick (.t 288) (.c (.d (.bool true))) (.t 299))]
def Jq4s (p : Nums) : IC := (.region (Jq5v p) [])
@[simp] theorem Je4s {p : Nums} : EqI (Jq4s p) (.region (Jq5v p) []) := eqi
def Jq4t (p : Nums) : IC := (.seq (.region [⟨(some 12), (.asg (.c (.d (.bool false)))), none, false⟩] []) .ret)
@[simp] theorem Je4t {p : Nums} : EqI (Jq4t p) (.seq (.region [⟨(some 12), (.asg (.c (.d (.bool false)))), none, false⟩] []) .ret) := eqi
def Jq4u (p : Nums) : IC := (.seq (Jq4r p) (.seq (Jq4s p) (.cond (.t 300) (Jq4t p) .skip)))
@[simp] theorem Je4u {p : Nums} : EqI (Jq4u p) (.seq (Jq4r p) (.seq (Jq4s p) (.cond (.t 300) (Jq4t p) .skip))) := eqi
@[simp] def Jq5w (p : Nums) : List IOp := [qo 240 (.mov (.t 26)), qo 241 (.bin .add (.t 240) (ci 1)), qo 26 (.asg (.t 241))]
def Jq4v (p : Nums) : IC := (.region (Jq5w p) [])
@[simp] theorem Je4v {p : Nums} : EqI (Jq4v p) (.region (Jq5w p) []) := eqi
def Jq4x (p : Nums) : IC := (.seq (.seq (Jq4q p) (.cond (.t 239) .skip (.exit 10))) (.seq (.block 11 (Jq4u p)) (Jq4v p)))
@[simp] theorem Je4x {p : Nums} : EqI (Jq4x p) (.seq (.seq (Jq4q p) (.cond (.t 239) .skip (.exit 10))) (.seq (.block 11 (Jq4u p)) (Jq4v p))) := eqi
def Jq52 (p : Nums) : IC := (.seq (.seq (Jq49 p) .cut) (.seq (Jq4b p) (.seq (Jq4c p) (.seq (.seq (.region [⟨(some 24), (.asg (.c (.d (.int .i64 0)))), none, false⟩] []) (.block 6 (.loop (Jq4g p)))) (.seq (.seq (.region [⟨(some 25), (.asg (.c (.d (.int .i64 0)))), none, false⟩] []) (.block 8 (.loop (Jq4k p)))) (.seq (.seq (Jq4m p) (.cond (.t 207) (Jq4n p) .skip)) (.seq (.seq (Jq4o p) (.cond (.t 234) (Jq4p p) .skip)) (.seq (.seq (.region [⟨(some 26), (.asg (.c (.d (.int .i64 0)))), none, false⟩] []) (.block 10 (.loop (Jq4x p)))) (.seq (.region [⟨(some 12), (.asg (.c (.d (.bool true)))), none, false⟩] []) .ret)))))))))
theorem Je52 {p : Nums} : EqI (Jq52 p) (.seq (.seq (Jq49 p) .cut) (.seq (Jq4b p) (.seq (Jq4c p) (.seq (.seq (.region [⟨(some 24), (.asg (.c (.d (.int .i64 0)))), none, false⟩] []) (.block 6 (.loop (Jq4g p)))) (.seq (.seq (.region [⟨(some 25), (.asg (.c (.d (.int .i64 0)))), none, false⟩] []) (.block 8 (.loop (Jq4k p)))) (.seq (.seq (Jq4m p) (.cond (.t 207) (Jq4n p) .skip)) (.seq (.seq (Jq4o p) (.cond (.t 234) (Jq4p p) .skip)) (.seq (.seq (.region [⟨(some 26), (.asg (.c (.d (.int .i64 0)))), none, false⟩] []) (.block 10 (.loop (Jq4x p)))) (.seq (.region [⟨(some 12), (.asg (.c (.d (.bool true)))), none, false⟩] []) .ret))))))))) := eqi
def Jtay (p : Nums) : IC := (.seq (Jq3p p) (.seq (.seq (Jq3z p) (.cond (.t 49) (Jq4a p) .skip)) (.seq (.region [⟨(some 13), (.asg (.c .nils)), none, false⟩] []) (.seq (.region [⟨(some 14), (.asg (.c (.d (.int .i64 0)))), none, false⟩] []) (.seq (.seq (.region [⟨(some 15), (.asg (.c (.d (.int .i64 0)))), none, false⟩] []) (.block 0 (.loop (Jq3v p)))) (.seq (Jq3w p) (.seq (.seq (Jq3x p) (.cond (.t 140) (Jq3y p) .skip)) (.seq (Jq40 p) (.seq (Jq41 p) (.seq (Jq42 p) (.seq (.seq (.region [⟨(some 21), (.asg (.c (.d (.int .i64 0)))), none, false⟩] []) (.block 4 (.loop (Jq47 p)))) (.seq (Jq48 p) (Jq52 p)))))))))))))
@[simp] def Jq68 (p : Nums) : List IOp := [qo 7 (.build [(zi 0), (zi 0), (zi 0), (zi 0), (zi 0)] [(0, 1, (ci 17))]), qo 8 (.bslice 5 1 [(.int .i64 0), (.int .i64 0), (.int .i64 0), (.int .i64 0), (.int .i64 0)] [(0, (.t 7))]), qo 9 (.build [(zi 0), (zi 0), (zi 0), (zi 0)] [(0, 1, (ci 1))]), qo 10 (.build [.nils, (zi 0), (zi 0), (zi 0), (zi 0)] [(0, 1, (.t 8)), (1, 4, (.t 9))]), qo 1 (.alloc [.nils, (zi 0), (zi 0), (zi 0), (zi 0)]), qn (.store 5 (.t 1) (.t 10))]
def Jq61 (p : Nums) : IC := (.region (Jq68 p) [])
@[simp] theorem Je61 {p : Nums} : EqI (Jq61 p) (.region (Jq68 p) []) := eqi
@[simp] def Jq69 (p : Nums) : List IOp := [qo 11 (.build [(zi 0), (zi 0), (zi 0), (zi 0), (zi 0), (zi 0), (zi 0)] [(0, 1, (ci 18)), (5, 1, (ci 2)), (6, 1, (ci 1))]), qo 12 (.build [(zi 0), (zi 0), (zi 0), (zi 0), (zi 0), (zi 0), (zi 0)] [(0, 1, (ci 17)), (2, 1, (ci 1))]), qo 13 (.bslice 7 2 [(.int .i64 0), (.int .i64 0), (.int .i64 0), (.int .i64 0), (.int .i64 0), (.int .i64 0), (.int .i64 0)] [(0, (.t 11)), (1, (.t 12))]), qo 14 (.build [(zi 0), (zi 0), (zi 0), (zi 0)] [(0, 1, (ci 1))]), qo 15 (.build [.nils, (zi 0), (zi 0), (zi 0), (zi 0)] [(0, 1, (.t 13)), (1, 4, (.t 14))]), qo 2 (.alloc [.nils, (zi 0), (zi 0), (zi 0), (zi 0)]), qn (.store 5 (.t 2) (.t 15))]
def Jq62 (p : Nums) : IC := (.region (Jq69 p) [])
@[simp] theorem Je62 {p : Nums} : EqI (Jq62 p) (.region (Jq69 p) []) := eqi
@[simp] def Jq6a (p : Nums) : List IOp := [qo 16 (.build [(zi 0), (zi 0), (zi 0), (zi 0), (zi 0), (zi 0), (zi 0)] [(0, 1, (ci 17)), (2, 1, (ci 1))]), qo 17 (.bslice 7 1 [(.int .i64 0), (.int .i64 0), (.int .i64 0), (.int .i64 0), (.int .i64 0), (.int .i64 0), (.int .i64 0)] [(0, (.t 16))]), qo 18 (.build [(zi 0), (zi 0), (zi 0), (zi 0)] [(0, 1, (ci 1))]), qo 19 (.build [.nils, (zi 0), (zi 0), (zi 0), (zi 0)] [(0, 1, (.t 17)), (1, 4, (.t 18))]), qo 3 (.alloc [.nils, (zi 0), (zi 0), (zi 0), (zi 0)]), qn (.store 5 (.t 3) (.t 19))]
def Jq63 (p : Nums) : IC := (.region (Jq6a p) [])
@[simp] theorem Je63 {p : Nums} : EqI (Jq63 p) (.region (Jq6a p) []) := eqi
@[simp] def Jq6b (p : Nums) : List IOp := [qo 20 (.load (some 5) (.t 1)), qo 21 (.load (some 5) (.t 2)), qo 22 (.build [(zi 0), (zi 0)] [(0, 1, (ci 0)), (1, 1, (ci 1))]), qo 23 (.bslice 2 1 [(.int .i64 0), (.int .i64 0)] [(0, (.t 22))]), qo 24 (.call p.blockcheck_Check [(.t 20), (.t 21), (.t 23), (ci 9)]), qo 4 (.alloc [.nils, (zi 0), (zi 0), (zi 0), (zi 0)]), qn (.store 5 (.t 4) (.t 24))]
def Jq64 (p : Nums) : IC := (.region (Jq6b p) [])
@[simp] theorem Je64 {p : Nums} : EqI (Jq64 p) (.region (Jq6b p) []) := eqi
@[simp] def Jq6c (p : Nums) : List IOp := [qo 25 (.load (some 5) (.t 1)), qo 26 (.load (some 5) (.t 3)), qo 27 (.build [(zi 0), (zi 0)] [(0, 1, (ci 0)), (1, 1, (ci 1))]), qo 28 (.bslice 2 1 [(.int .i64 0), (.int .i64 0)] [(0, (.t 27))]), qo 29 (.call p.blockcheck_Check [(.t 25), (.t 26), (.t 28), (ci 9)]), qo 5 (.alloc [.nils, (zi 0), (zi 0), (zi 0), (zi 0)]), qn (.store 5 (.t 5) (.t 29))]
def Jq65 (p : Nums) : IC := (.region (Jq6c p) [])
@[simp] theorem Je65 {p : Nums} : EqI (Jq65 p) (.region (Jq6c p) []) := eqi
@[simp] def Jq6d (p : Nums) : List IOp := [qo 30 (.load (some 5) (.t 1)), qo 31 (.load (some 5) (.t 2)), qo 32 (.build [(zi 0), (zi 0)] [(0, 1, (ci 0)), (1, 1, (ci 1))]), qo 33 (.bslice 2 1 [(.int .i64 0), (.int .i64 0)] [(0, (.t 32))]), qo 34 (.call p.blockcheck_Check [(.t 30), (.t 31), (.t 33), (ci 1)]), qo 6 (.alloc [.nils, (zi 0), (zi 0), (zi 0), (zi 0)]), qn (.store 5 (.t 6) (.t 34))]
def Jq66 (p : Nums) : IC := (.region (Jq6d p) [])
@[simp] theorem Je66 {p : Nums} : EqI (Jq66 p) (.region (Jq6d p) []) := eqi
@[simp] def Jq6e (p : Nums) : List IOp := [qo 35 (.faddr 1 (.t 4)), qo 36 (.load none (.t 35)), qo 37 (.bin .eql (.t 36) (ci 0)), qo 38 (.mov (.t 37)), ⟨(some 39), (.faddr 0 (.t 4)), (some (38, true)), false⟩, ⟨(some 40), (.load none (.t 39)), (some (38, true)), false⟩, ⟨(some 41), (.build [(zi 0), (zi 0)] [(0, 1, (ci 0)), (1, 1, (ci 1))]), (some (38, true)), false⟩, ⟨(some 42), (.build [(zi 0), (zi 0)] [(0, 1, (ci 0)), (1, 1, (ci 2))]), (some (38, true)), false⟩, ⟨(some 43), (.bslice 2 2 [(.int .i64 0), (.int .i64 0)] [(0, (.t 41)), (1, (.t 42))]), (some (38, true)), false⟩, ⟨(some 44), (.call p.ref11_Same [(.t 40), (.t 43)]), (some (38, true)), false⟩, qo 45 (.pick (.t 38) (.t 44) (.c (.d (.bool false)))), qo 46 (.mov (.t 45)), ⟨(some 47), (.faddr 2 (.t 4)), (some (46, true)), false⟩, ⟨(some 48), (.load none (.t 47)), (some (46, true)), false⟩, ⟨(some 49), (.bin .eql (.t 48) (ci 2)), (some (46, true)), false⟩, qo 50 (.pick (.t 46) (.t 49) (.c (.d (.bool false)))), qo 51 (.mov (.t 50)), ⟨(some 52), (.faddr 3 (.t 4)), (some (51, true)), false⟩, ⟨(some 53), (.load none (.t 52)), (some (51, true)), false⟩, ⟨(some 54), (.bin .eql (.t 53) (ci 5)), (some (51, true)), false⟩, qo 55 (.pick (.t 51) (.t 54) (.c (.d (.bool false)))), qo 56 (.mov (.t 55)), ⟨(some 57), (.faddr 4 (.t 4)), (some (56, true)), false⟩, ⟨(some 58), (.load none (.t 57)), (some (56, true)), false⟩, ⟨(some 59), (.bin .eql (.t 58) (ci 2)), (some (56, true)), false⟩, qo 60 (.pick (.t 56) (.t 59) (.c (.d (.bool false)))), qo 61 (.mov (.t 60)), ⟨(some 62), (.faddr 1 (.t 5)), (some (61, true)), false⟩, ⟨(some 63), (.load none (.t 62)), (some (61, true)), false⟩, ⟨(some 64), (.bin .eql (.t 63) (ci 21)), (some (61, true)), false⟩, qo 65 (.pick (.t 61) (.t 64) (.c (.d (.bool false)))), qo 66 (.mov (.t 65)), ⟨(some 67), (.faddr 2 (.t 5)), (some (66, true)), false⟩, ⟨(some 68), (.load none (.t 67)), (some (66, true)), false⟩, ⟨(some 69), (.bin .eql (.t 68) (ci 0)), (some (66, true)), false⟩, qo 70 (.pick (.t 66) (.t 69) (.c (.d (.bool false)))), qo 71 (.mov (.t 70)), ⟨(some 72), (.faddr 0 (.t 5)), (some (71, true)), false⟩, ⟨(some 73), (.load none (.t 72)), (some (71, true)), false⟩, ⟨(some 74), (.len (.t 73)), (some (71, true)), false⟩, ⟨(some 75), (.bin .eql (.t 74) (ci 0)), (some (71, true)), false⟩, qo 76 (.pick (.t 71) (.t 75) (.c (.d (.bool false)))), qo 77 (.mov (.t 76)), ⟨(some 78), (.faddr 1 (.t 6)), (some (77, true)), false⟩, ⟨(some 79), (.load none (.t 78)), (some (77, true)), false⟩, ⟨(some 80), (.bin .eql (.t 79) (ci 24)), (some (77, true)), false⟩, qo 81 (.pick (.t 77) (.t 80) (.c (.d (.bool false)))), qo 82 (.mov (.t 81)), ⟨(some 83), (.faddr 4 (.t 6)), (some (82, true)), false⟩, ⟨(some 84), (.load none (.t 83)), (some (82, true)), false⟩, ⟨(some 85), (.bin .eql (.t 84) (ci 2)), (some (82, true)), false⟩, qo 86 (.pick (.t 82) (.t 85) (.c (.d (.bool false)))), qo 0 (.asg (.t 86))]
def Jq67 (p : Nums) : IC := (.region (Jq6e p) [])
@[simp] theorem Je67 {p : Nums} : EqI (Jq67 p) (.region (Jq6e p) []) := eqi
def Jtaz (p : Nums) : IC := (.seq (.region [⟨(some 0), (.asg (.c (.d (.bool false)))), none, false⟩] []) (.seq (Jq61 p) (.seq (Jq62 p) (.seq (Jq63 p) (.seq (Jq64 p) (.seq (Jq65 p) (.seq (Jq66 p) (.seq (Jq67 p) .ret))))))))
@[simp] def Jq6x (p : Nums) : List IOp := [qo 4 (.box (.t 0)), qo 5 (.box (.t 1)), qo 8 (.asg (.c (.d (.bool false))))]
def Jq6f (p : Nums) : IC := (.region (Jq6x p) [])
@[simp] theorem Je6f {p : Nums} : EqI (Jq6f p) (.region (Jq6x p) []) := eqi
@[simp] def Jq73 (p : Nums) : List IOp := [qo 13 (.faddr 0 (.t 4)), qo 14 (.load none (.t 13)), qo 15 (.len (.t 14)), qo 16 (.bin .gtr (.t 15) (ci 60)), qo 17 (.mov (.t 16)), ⟨(some 18), (.faddr 0 (.t 5)), (some (17, false)), false⟩, ⟨(some 19), (.load none (.t 18)), (some (17, false)), false⟩, ⟨(some 20), (.len (.t 19)), (some (17, false)), false⟩, ⟨(some 21), (.bin .gtr (.t 20) (ci 200)), (some (17, false)), false⟩, qo 22 (.pick (.t 17) (.c (.d (.bool true))) (.t 21)), qo 23 (.mov (.t 22)), ⟨(some 24), (.mov (.t 2)), (some (23, false)), false⟩, ⟨(some 25), (.bin .gtr (.t 24) (ci 20)), (some (23, false)), false⟩, qo 26 (.pick (.t 23) (.c (.d (.bool true))) (.t 25)), qo 27 (.mov (.t 26)), ⟨(some 28), (.mov (.t 3)), (some (27, false)), false⟩, ⟨(some 29), (.bin .gtr (.t 28) (ci 20)), (some (27, false)), false⟩, qo 30 (.pick (.t 27) (.c (.d (.bool true))) (.t 29)), qo 31 (.mov (.t 30)), ⟨(some 32), (.faddr 1 (.t 4)), (some (31, false)), false⟩, ⟨(some 33), (.faddr 2 (.t 32)), (some (31, false)), false⟩, ⟨(some 34), (.load none (.t 33)), (some (31, false)), false⟩, ⟨(some 35), (.bin .gtr (.t 34) (ci 30)), (some (31, false)), false⟩, qo 36 (.pick (.t 31) (.c (.d (.bool true))) (.t 35)), qo 37 (.mov (.t 36)), ⟨(some 38), (.faddr 1 (.t 4)), (some (37, false)), false⟩, ⟨(some 39), (.faddr 3 (.t 38)), (some (37, false)), false⟩, ⟨(some 40), (.load none (.t 39)), (some (37, false)), false⟩, ⟨(some 41), (.bin .gtr (.t 40) (ci 30)), (some (37, false)), false⟩, qo 42 (.pick (.t 37) (.c (.d (.bool true))) (.t 41)), qo 43 (.mov (.t 42)), ⟨(some 44), (.faddr 1 (.t 5)), (some (43, false)), false⟩, ⟨(some 45), (.faddr 2 (.t 44)), (some (43, false)), false⟩, ⟨(some 46), (.load none (.t 45)), (some (43, false)), false⟩, ⟨(some 47), (.bin .gtr (.t 46) (ci 30)), (some (43, false)), false⟩, qo 48 (.pick (.t 43) (.c (.d (.bool true))) (.t 47)), qo 49 (.mov (.t 48)), ⟨(some 50), (.faddr 1 (.t 5)), (some (49, false)), false⟩, ⟨(some 51), (.faddr 3 (.t 50)), (some (49, false)), false⟩, ⟨(some 52), (.load none (.t 51)), (some (49, false)), false⟩, ⟨(some 53), (.bin .gtr (.t 52) (ci 30)), (some (49, false)), false⟩, qo 54 (.pick (.t 49) (.c (.d (.bool true))) (.t 53)), qo 55 (.mov (.t 54)), ⟨(some 56), (.faddr 1 (.t 4)), (some (55, false)), false⟩, ⟨(some 57), (.faddr 2 (.t 56)), (some (55, false)), false⟩, ⟨(some 58), (.load none (.t 57)), (some (55, false)), false⟩, ⟨(some 59), (.bin .lss (.t 58) (ci 0)), (some (55, false)), false⟩, qo 60 (.pick (.t 55) (.c (.d (.bool true))) (.t 59)), qo 61 (.mov (.t 60)), ⟨(some 62), (.faddr 1 (.t 4)), (some (61, false)), false⟩, ⟨(some 63), (.faddr 3 (.t 62)), (some (61, false)), false⟩, ⟨(some 64), (.load none (.t 63)), (some (61, false)), false⟩, ⟨(some 65), (.bin .lss (.t 64) (ci 0)), (some (61, false)), false⟩, qo 66 (.pick (.t 61) (.c (.d (.bool true))) (.t 65))]
def Jq6n (p : Nums) : IC := (.region (Jq73 p) [])
@[simp] theorem Je6n {p : Nums} : EqI (Jq6n p) (.region (Jq73 p) []) := eqi
def Jq6o (p : Nums) : IC := (.seq (.region [⟨(some 8), (.asg (.c (.d (.bool false)))), none, false⟩] []) .ret)
@[simp] theorem Je6o {p : Nums} : EqI (Jq6o p) (.seq (.region [⟨(some 8), (.asg (.c (.d (.bool false)))), none, false⟩] []) .ret) := eqi
@[simp] def Jq74 (p : Nums) : List IOp := [qo 67 (.mkslice 5 56 [(.sl []), (.int .i64 0), (.int .i64 0), (.int .i64 0), (.int .i64 0)] (ci 31) (ci 31)), qo 9 (.asg (.t 67))]
def Jq6p (p : Nums) : IC := (.region (Jq74 p) [])
@[simp] theorem Je6p {p : Nums} : EqI (Jq6p p) (.region (Jq74 p) []) := eqi
@[simp] def Jq75 (p : Nums) : List IOp := [qo 72 (.mov (.t 9)), qo 73 (.mov (.t 10)), qo 74 (.build [(zi 0), (zi 0), (zi 0), (zi 0)] [(0, 1, (ci 3))]), qo 75 (.build [.nils, (zi 0), (zi 0), (zi 0), (zi 0)] [(1, 4, (.t 74))]), qo 76 (.iaddr 5 (.t 72) (.t 73)), qn (.store 5 (.t 76) (.t 75))]
def Jq6q (p : Nums) : IC := (.region (Jq75 p) [])
@[simp] theorem Je6q {p : Nums} : EqI (Jq6q p) (.region (Jq75 p) []) := eqi
@[simp] def Jq76 (p : Nums) : List IOp := [qo 70 (.mov (.t 10)), qo 71 (.bin .add (.t 70) (ci 1)), qo 10 (.asg (.t 71))]
def Jq6r (p : Nums) : IC := (.region (Jq76 p) [])
@[simp] theorem Je6r {p : Nums} : EqI (Jq6r p) (.region (Jq76 p) []) := eqi
def Jq6s (p : Nums) : IC := (.seq (.seq (.region [⟨(some 68), (.mov (.t 10)), none, false⟩, ⟨(some 69), (.bin .lss (.t 68) (.c (.d (.int .i64 31)))), none, false⟩] []) (.cond (.t 69) .skip (.exit 0))) (.seq (.block 1 (Jq6q p)) (Jq6r p)))
@[simp] theorem Je6s {p : Nums} : EqI (Jq6s p) (.seq (.seq (.region [⟨(some 68), (.mov (.t 10)), none, false⟩, ⟨(some 69), (.bin .lss (.t 68) (.c (.d (.int .i64 31)))), none, false⟩] []) (.cond (.t 69) .skip (.exit 0))) (.seq (.block 1 (Jq6q p)) (Jq6r p))) := eqi
@[simp] def Jq77 (p : Nums) : List IOp := [qo 77 (.mov (.t 9)), qo 78 (.load (some 5) (.t 4)), qo 79 (.iaddr 5 (.t 77) (ci 0)), qn (.store 5 (.t 79) (.t 78))]
def Jq6t (p : Nums) : IC := (.region (Jq77 p) [])
@[simp] theorem Je6t {p : Nums} : EqI (Jq6t p) (.region (Jq77 p) []) := eqi
@[simp] def Jq78 (p : Nums) : List IOp := [qo 80 (.mov (.t 9)), qo 81 (.build [(zi 0), (zi 0), .nils] [(1, 1, (ci 20)), (2, 1, (.t 80))]), qo 82 (.call p.ref07_Check [(.t 81)]), qo 83 (.bin .neq (.t 82) (ci 0))]
def Jq6u (p : Nums) : IC := (.region (Jq78 p) [])
@[simp] theorem Je6u {p : Nums} : EqI (Jq6u p) (.region (Jq78 p) []) := eqi
def Jq6g (p : Nums) : IC := (.seq (.region [⟨(some 8), (.asg (.c (.d (.bool false)))), none, false⟩] []) .ret)
@[simp] theorem Je6g {p : Nums} : EqI (Jq6g p) (.seq (.region [⟨(some 8), (.asg (.c (.d (.bool false)))), none, false⟩] []) .ret) := eqi
@[simp] def Jq6y (p : Nums) : List IOp := [qo 84 (.mkslice 5 56 [(.sl []), (.int .i64 0), (.int .i64 0), (.int .i64 0), (.int .i64 0)] (ci 31) (ci 31)), qo 11 (.asg (.t 84))]
def Jq6h (p : Nums) : IC := (.region (Jq6y p) [])
@[simp] theorem Je6h {p : Nums} : EqI (Jq6h p) (.region (Jq6y p) []) := eqi
@[simp] def Jq6z (p : Nums) : List IOp := [qo 89 (.mov (.t 11)), qo 90 (.mov (.t 12)), qo 91 (.build [(zi 0), (zi 0), (zi 0), (zi 0)] [(0, 1, (ci 3))]), qo 92 (.build [.nils, (zi 0), (zi 0), (zi 0), (zi 0)] [(1, 4, (.t 91))]), qo 93 (.iaddr 5 (.t 89) (.t 90)), qn (.store 5 (.t 93) (.t 92))]
def Jq6i (p : Nums) : IC := (.region (Jq6z p) [])
@[simp] theorem Je6i {p : Nums} : EqI (Jq6i p) (.region (Jq6z p) []) := eqi
@[simp] def Jq70 (p : Nums) : List IOp := [qo 87 (.mov (.t 12)), qo 88 (.bin .add (.t 87) (ci 1)), qo 12 (.asg (.t 88))]
def Jq6j (p : Nums) : IC := (.region (Jq70 p) [])
@[simp] theorem Je6j {p : Nums} : EqI (Jq6j p) (.region (Jq70 p) []) := eqi
def Jq6k (p : Nums) : IC := (.seq (.seq (.region [⟨(some 85), (.mov (.t 12)), none, false⟩, ⟨(some 86), (.bin .lss (.t 85) (.c (.d (.int .i64 31)))), none, false⟩] []) (.cond (.t 86) .skip (.exit 2))) (.seq (.block 3 (Jq6i p)) (Jq6j p)))
@[simp] theorem Je6k {p : Nums} : EqI (Jq6k p) (.seq (.seq (.region [⟨(some 85), (.mov (.t 12)), none, false⟩, ⟨(some 86), (.bin .lss (.t 85) (.c (.d (.int .i64 31)))), none, false⟩] []) (.cond (.t 86) .skip (.exit 2))) (.seq (.block 3 (Jq6i p)) (Jq6j p))) := eqi
@[simp] def Jq71 (p : Nums) : List IOp := [qo 94 (.mov (.t 11)), qo 95 (.load (some 5) (.t 5)), qo 96 (.iaddr 5 (.t 94) (ci 0)), qn (.store 5 (.t 96) (.t 95))]
def Jq6l (p : Nums) : IC := (.region (Jq71 p) [])
@[simp] theorem Je6l {p : Nums} : EqI (Jq6l p) (.region (Jq71 p) []) := eqi
@[simp] def Jq72 (p : Nums) : List IOp := [qo 97 (.mov (.t 2)), qo 98 (.mov (.t 3)), qo 99 (.mov (.t 11)), qo 100 (.build [(zi 0), (zi 0), (zi 0), .nils] [(1, 1, (.t 97)), (2, 1, (.t 98)), (3, 1, (.t 99))]), qo 101 (.call p.ref08_Check [(.t 100)]), qo 102 (.bin .eql (.t 101) (ci 0)), qo 8 (.asg (.t 102))]
def Jq6m (p : Nums) : IC := (.region (Jq72 p) [])
@[simp] theorem Je6m {p : Nums} : EqI (Jq6m p) (.region (Jq72 p) []) := eqi
def Jq6v (p : Nums) : IC := (.seq (.seq (Jq6l p) .cut) (.seq (Jq6m p) .ret))
theorem Je6v {p : Nums} : EqI (Jq6v p) (.seq (.seq (Jq6l p) .cut) (.seq (Jq6m p) .ret)) := eqi
def Jq6w (p : Nums) : IC := (.seq (.seq (Jq6t p) .cut) (.seq (.seq (Jq6u p) (.cond (.t 83) (Jq6g p) .skip)) (.seq (Jq6h p) (.seq (.seq (.region [⟨(some 12), (.asg (.c (.d (.int .i64 0)))), none, false⟩] []) (.block 2 (.loop (Jq6k p)))) (Jq6v p)))))
theorem Je6w {p : Nums} : EqI (Jq6w p) (.seq (.seq (Jq6t p) .cut) (.seq (.seq (Jq6u p) (.cond (.t 83) (Jq6g p) .skip)) (.seq (Jq6h p) (.seq (.seq (.region [⟨(some 12), (.asg (.c (.d (.int .i64 0)))), none, false⟩] []) (.block 2 (.loop (Jq6k p)))) (Jq6v p))))) := eqi
def Jtb0 (p : Nums) : IC := (.seq (Jq6f p) (.seq (.seq (Jq6n p) (.cond (.t 66) (Jq6o p) .skip)) (.seq (Jq6p p) (.seq (.seq (.region [⟨(some 10), (.asg (.c (.d (.int .i64 0)))), none, false⟩] []) (.block 0 (.loop (Jq6s p)))) (Jq6w p)))))
@[simp] def Jqkm (p : Nums) : List IOp := [qo 2 (.box (.t 0)), qo 3 (.box (.t 1)), qo 4 (.alloc [(zi 0), (zi 0), (zi 0), (zi 0), .nils, .nils, .nils, (zi 0)])]
def Jqjs (p : Nums) : IC := (.region (Jqkm p) [])
@[simp] theorem Jejs {p : Nums} : EqI (Jqjs p) (.region (Jqkm p) []) := eqi
@[simp] def Jqkv (p : Nums) : List IOp := [qo 11 (.load (some 8) (.t 3)), qo 12 (.call p.ref09_Copy [(.t 11)]), qo 5 (.alloc [(zi 0), (zi 0), (zi 0), (zi 0), .nils, .nils, .nils, (zi 0)]), qn (.store 8 (.t 5) (.t 12))]
def Jqk3 (p : Nums) : IC := (.region (Jqkv p) [])
@[simp] theorem Jek3 {p : Nums} : EqI (Jqk3 p) (.region (Jqkv p) []) := eqi
@[simp] def Jql2 (p : Nums) : List IOp := [qo 13 (.faddr 0 (.t 3)), qo 14 (.load none (.t 13)), qo 15 (.bin .neq (.t 14) (ci 0))]
def Jqke (p : Nums) : IC := (.region (Jql2 p) [])
@[simp] theorem Jeke {p : Nums} : EqI (Jqke p) (.region (Jql2 p) []) := eqi
def Jqkg (p : Nums) : IC := (.seq (.region [⟨(some 16), (.load (some 8) (.t 5)), none, false⟩, ⟨none, (.store 8 (.t 4) (.t 16)), none, false⟩] []) .ret)
@[simp] theorem Jekg {p : Nums} : EqI (Jqkg p) (.seq (.region [⟨(some 16), (.load (some 8) (.t 5)), none, false⟩, ⟨none, (.store 8 (.t 4) (.t 16)), none, false⟩] []) .ret) := eqi
@[simp] def Jql4 (p : Nums) : List IOp := [qo 17 (.faddr 3 (.t 2)), qo 18 (.load none (.t 17)), qo 19 (.faddr 1 (.t 3)), qo 20 (.load none (.t 19)), qo 21 (.iaddr 5 (.t 18) (.t 20)), qo 22 (.load (some 5) (.t 21)), qo 6 (.alloc [.nils, (zi 0), (zi 0), (zi 0), (zi 0)]), qn (.store 5 (.t 6) (.t 22))]
def Jqkh (p : Nums) : IC := (.region (Jql4 p) [])
@[simp] theorem Jekh {p : Nums} : EqI (Jqkh p) (.region (Jql4 p) []) := eqi
@[simp] def Jql5 (p : Nums) : List IOp := [qo 23 (.faddr 2 (.t 3)), qo 24 (.load none (.t 23)), qo 25 (.faddr 0 (.t 6)), qo 26 (.load none (.t 25)), qo 27 (.len (.t 26)), qo 28 (.bin .eql (.t 24) (.t 27))]
def Jqki (p : Nums) : IC := (.region (Jql5 p) [])
@[simp] theorem Jeki {p : Nums} : EqI (Jqki p) (.region (Jql5 p) []) := eqi
@[simp] def Jql6 (p : Nums) : List IOp := [qo 29 (.faddr 7 (.t 5)), qo 30 (.load none (.t 29)), qo 31 (.bin .add (.t 30) (ci 1)), qo 32 (.faddr 7 (.t 5)), qn (.store 1 (.t 32) (.t 31))]
def Jqkj (p : Nums) : IC := (.region (Jql6 p) [])
@[simp] theorem Jekj {p : Nums} : EqI (Jqkj p) (.region (Jql6 p) []) := eqi
@[simp] def Jql7 (p : Nums) : List IOp := [qo 33 (.faddr 1 (.t 6)), qo 34 (.faddr 0 (.t 33)), qo 35 (.load none (.t 34)), qo 36 (.bin .eql (.t 35) (ci 3))]
def Jqkk (p : Nums) : IC := (.region (Jql7 p) [])
@[simp] theorem Jekk {p : Nums} : EqI (Jqkk p) (.region (Jql7 p) []) := eqi
@[simp] def Jql8 (p : Nums) : List IOp := [qo 38 (.faddr 4 (.t 3)), qo 39 (.load none (.t 38)), qo 40 (.faddr 1 (.t 6)), qo 41 (.faddr 1 (.t 40)), qo 42 (.load none (.t 41)), qo 43 (.iaddr 1 (.t 39) (.t 42)), qo 44 (.load none (.t 43)), qo 45 (.faddr 3 (.t 5)), qn (.store 1 (.t 45) (.t 44))]
def Jqkl (p : Nums) : IC := (.region (Jql8 p) [])
@[simp] theorem Jekl {p : Nums} : EqI (Jqkl p) (.region (Jql8 p) []) := eqi
def Jqjt (p : Nums) : IC := (.seq (.region [⟨(some 37), (.faddr 0 (.t 5)), none, false⟩, ⟨none, (.store 1 (.t 37) (.c (.d (.int .i64 1)))), none, false⟩] []) (.seq (Jqkl p) (.seq (.region [⟨(some 46), (.load (some 8) (.t 5)), none, false⟩, ⟨none, (.store 8 (.t 4) (.t 46)), none, false⟩] []) .ret)))
@[simp] theorem Jejt {p : Nums} : EqI (Jqjt p) (.seq (.region [⟨(some 37), (.faddr 0 (.t 5)), none, false⟩, ⟨none, (.store 1 (.t 37) (.c (.d (.int .i64 1)))), none, false⟩] []) (.seq (Jqkl p) (.seq (.region [⟨(some 46), (.load (some 8) (.t 5)), none, false⟩, ⟨none, (.store 8 (.t 4) (.t 46)), none, false⟩] []) .ret))) := eqi
@[simp] def Jqkn (p : Nums) : List IOp := [qo 47 (.faddr 1 (.t 6)), qo 48 (.faddr 2 (.t 47)), qo 49 (.load none (.t 48)), qo 50 (.faddr 1 (.t 5)), qn (.store 1 (.t 50) (.t 49))]
def Jqju (p : Nums) : IC := (.region (Jqkn p) [])
@[simp] theorem Jeju {p : Nums} : EqI (Jqju p) (.region (Jqkn p) []) := eqi
@[simp] def Jqko (p : Nums) : List IOp := [qo 51 (.faddr 1 (.t 6)), qo 52 (.faddr 0 (.t 51)), qo 53 (.load none (.t 52)), qo 54 (.bin .eql (.t 53) (ci 2)), qo 55 (.mov (.t 54)), ⟨(some 56), (.faddr 4 (.t 3)), (some (55, true)), false⟩, ⟨(some 57), (.load none (.t 56)), (some (55, true)), false⟩, ⟨(some 58), (.faddr 1 (.t 6)), (some (55, true)), false⟩, ⟨(some 59), (.faddr 1 (.t 58)), (some (55, true)), false⟩, ⟨(some 60), (.load none (.t 59)), (some (55, true)), false⟩, ⟨(some 61), (.iaddr 1 (.t 57) (.t 60)), (some (55, true)), false⟩, ⟨(some 62), (.load none (.t 61)), (some (55, true)), false⟩, ⟨(some 63), (.bin .eql (.t 62) (ci 0)), (some (55, true)), false⟩, qo 64 (.pick (.t 55) (.t 63) (.c (.d (.bool false))))]
def Jqjv (p : Nums) : IC := (.region (Jqko p) [])
@[simp] theorem Jejv {p : Nums} : EqI (Jqjv p) (.region (Jqko p) []) := eqi
@[simp] def Jqkp (p : Nums) : List IOp := [qo 65 (.faddr 1 (.t 6)), qo 66 (.faddr 3 (.t 65)), qo 67 (.load none (.t 66)), qo 68 (.faddr 1 (.t 5)), qn (.store 1 (.t 68) (.t 67))]
def Jqjw (p : Nums) : IC := (.region (Jqkp p) [])
@[simp] theorem Jejw {p : Nums} : EqI (Jqjw p) (.region (Jqkp p) []) := eqi
def Jqjx (p : Nums) : IC := (.seq (Jqkj p) (.seq (.seq (Jqkk p) (.cond (.t 36) (Jqjt p) .skip)) (.seq (Jqju p) (.seq (.seq (Jqjv p) (.cond (.t 64) (Jqjw p) .skip)) (.seq (.region [⟨(some 69), (.faddr 2 (.t 5)), none, false⟩, ⟨none, (.store 1 (.t 69) (.c (.d (.int .i64 0)))), none, false⟩] []) (.seq (.region [⟨(some 70), (.load (some 8) (.t 5)), none, false⟩, ⟨none, (.store 8 (.t 4) (.t 70)), none, false⟩] []) .ret))))))
@[simp] theorem Jejx {p : Nums} : EqI (Jqjx p) (.seq (Jqkj p) (.seq (.seq (Jqkk p) (.cond (.t 36) (Jqjt p) .skip)) (.seq (Jqju p) (.seq (.seq (Jqjv p) (.cond (.t 64) (Jqjw p) .skip)) (.seq (.region [⟨(some 69), (.faddr 2 (.t 5)), none, false⟩, ⟨none, (.store 1 (.t 69) (.c (.d (.int .i64 0)))), none, false⟩] []) (.seq (.region [⟨(some 70), (.load (some 8) (.t 5)), none, false⟩, ⟨none, (.store 8 (.t 4) (.t 70)), none, false⟩] []) .ret)))))) := eqi
@[simp] def Jqkq (p : Nums) : List IOp := [qo 71 (.faddr 0 (.t 6)), qo 72 (.load none (.t 71)), qo 73 (.faddr 2 (.t 3)), qo 74 (.load none (.t 73)), qo 75 (.iaddr 7 (.t 72) (.t 74)), qo 76 (.load (some 7) (.t 75)), qo 7 (.alloc [(zi 0), (zi 0), (zi 0), (zi 0), (zi 0), (zi 0), (zi 0)]), qn (.store 7 (.t 7) (.t 76))]
def Jqjy (p : Nums) : IC := (.region (Jqkq p) [])
@[simp] theorem Jejy {p : Nums} : EqI (Jqjy p) (.region (Jqkq p) []) := eqi
@[simp] def Jqkr (p : Nums) : List IOp := [qo 77 (.faddr 0 (.t 7)), qo 78 (.load none (.t 77)), qo 79 (.bin .eql (.t 78) (ci 18))]
def Jqjz (p : Nums) : IC := (.region (Jqkr p) [])
@[simp] theorem Jejz {p : Nums} : EqI (Jqjz p) (.region (Jqkr p) []) := eqi
@[simp] def Jqks (p : Nums) : List IOp := [qo 80 (.load (some 8) (.t 3)), qo 81 (.faddr 6 (.t 7)), qo 82 (.load none (.t 81)), qo 83 (.call p.ref10_Read [(.t 80), (.t 82)]), qo 8 (.asg (.t 83))]
def Jqk0 (p : Nums) : IC := (.region (Jqks p) [])
@[simp] theorem Jek0 {p : Nums} : EqI (Jqk0 p) (.region (Jqks p) []) := eqi
@[simp] def Jqkt (p : Nums) : List IOp := [qo 84 (.faddr 5 (.t 7)), qo 85 (.load none (.t 84)), qo 86 (.bin .rem (.t 85) (ci 2)), qo 87 (.bin .eql (.t 86) (ci 1))]
def Jqk1 (p : Nums) : IC := (.region (Jqkt p) [])
@[simp] theorem Jek1 {p : Nums} : EqI (Jqk1 p) (.region (Jqkt p) []) := eqi
@[simp] def Jqku (p : Nums) : List IOp := [qo 88 (.faddr 5 (.t 5)), qo 89 (.load none (.t 88)), qo 90 (.faddr 5 (.t 7)), qo 91 (.load none (.t 90)), qo 92 (.bin .quo (.t 91) (ci 2)), qo 93 (.mov (.t 8)), qo 94 (.iaddr 1 (.t 89) (.t 92)), qn (.store 1 (.t 94) (.t 93))]
def Jqk2 (p : Nums) : IC := (.region (Jqku p) [])
@[simp] theorem Jek2 {p : Nums} : EqI (Jqk2 p) (.region (Jqku p) []) := eqi
@[simp] def Jqkw (p : Nums) : List IOp := [qo 95 (.faddr 4 (.t 5)), qo 96 (.load none (.t 95)), qo 97 (.faddr 5 (.t 7)), qo 98 (.load none (.t 97)), qo 99 (.bin .quo (.t 98) (ci 2)), qo 100 (.mov (.t 8)), qo 101 (.iaddr 1 (.t 96) (.t 99)), qn (.store 1 (.t 101) (.t 100))]
def Jqk4 (p : Nums) : IC := (.region (Jqkw p) [])
@[simp] theorem Jek4 {p : Nums} : EqI (Jqk4 p) (.region (Jqkw p) []) := eqi
@[simp] def Jqkx (p : Nums) : List IOp := [qo 102 (.faddr 0 (.t 7)), qo 103 (.load none (.t 102)), qo 104 (.bin .eql (.t 103) (ci 17))]
def Jqk5 (p : Nums) : IC := (.region (Jqkx p) [])
@[simp] theorem Jek5 {p : Nums} : EqI (Jqk5 p) (.region (Jqkx p) []) := eqi
@[simp] def Jqky (p : Nums) : List IOp := [qp 105 (.faddr 6 (.t 5)), qp 106 (.load none (.t 105)), qp 107 (.faddr 4 (.t 3)), qp 108 (.load none (.t 107)), qp 109 (.faddr 2 (.t 7)), qp 110 (.load none (.t 109)), qp 111 (.iaddr 1 (.t 108) (.t 110)), qp 112 (.load none (.t 111)), qp 113 (.bslice 1 1 [(.int .i64 0)] [(0, (.t 112))]), qo 114 (.app 1 8 (.t 106) (.t 113)), qo 115 (.faddr 6 (.t 5)), qn (.store 1 (.t 115) (.t 114))]
def Jqk6 (p : Nums) : IC := (.region (Jqky p) [])
@[simp] theorem Jek6 {p : Nums} : EqI (Jqk6 p) (.region (Jqky p) []) := eqi
@[simp] def Jqkz (p : Nums) : List IOp := [qp 117 (.faddr 0 (.t 7)), qp 118 (.load none (.t 117)), qp 119 (.faddr 4 (.t 3)), qp 120 (.load none (.t 119)), qp 121 (.faddr 2 (.t 7)), qp 122 (.load none (.t 121)), qp 123 (.iaddr 1 (.t 120) (.t 122)), qp 124 (.load none (.t 123)), qp 125 (.faddr 4 (.t 3)), qp 126 (.load none (.t 125)), qp 127 (.faddr 3 (.t 7)), qp 128 (.load none (.t 127)), qp 129 (.iaddr 1 (.t 126) (.t 128)), qp 130 (.load none (.t 129)), qp 131 (.faddr 4 (.t 7)), qp 132 (.load none (.t 131)), qo 133 (.call p.ref06_Eval [(.t 118), (.t 124), (.t 130), (.t 132)]), qo 116 (.mov (.t 133)), qp 134 (.ext (.t 116) 0), qp 135 (.ext (.t 116) 1), qp 9 (.asg (.t 134)), qo 10 (.asg (.t 135))]
def Jqk7 (p : Nums) : IC := (.region (Jqkz p) [])
@[simp] theorem Jek7 {p : Nums} : EqI (Jqk7 p) (.region (Jqkz p) []) := eqi
def Jqk8 (p : Nums) : IC := (.seq (.region [⟨(some 138), (.faddr 0 (.t 5)), none, false⟩, ⟨none, (.store 1 (.t 138) (.c (.d (.int .i64 2)))), none, false⟩] []) (.seq (.region [⟨(some 139), (.load (some 8) (.t 5)), none, false⟩, ⟨none, (.store 8 (.t 4) (.t 139)), none, false⟩] []) .ret))
@[simp] theorem Jek8 {p : Nums} : EqI (Jqk8 p) (.seq (.region [⟨(some 138), (.faddr 0 (.t 5)), none, false⟩, ⟨none, (.store 1 (.t 138) (.c (.d (.int .i64 2)))), none, false⟩] []) (.seq (.region [⟨(some 139), (.load (some 8) (.t 5)), none, false⟩, ⟨none, (.store 8 (.t 4) (.t 139)), none, false⟩] []) .ret)) := eqi
@[simp] def Jql0 (p : Nums) : List IOp := [qo 140 (.faddr 4 (.t 5)), qo 141 (.load none (.t 140)), qo 142 (.faddr 1 (.t 7)), qo 143 (.load none (.t 142)), qo 144 (.mov (.t 9)), qo 145 (.iaddr 1 (.t 141) (.t 143)), qn (.store 1 (.t 145) (.t 144))]
def Jqk9 (p : Nums) : IC := (.region (Jql0 p) [])
@[simp] theorem Jek9 {p : Nums} : EqI (Jqk9 p) (.region (Jql0 p) []) := eqi
def Jqka (p : Nums) : IC := (.seq (Jqk7 p) (.seq (.seq (.region [⟨(some 136), (.mov (.t 10)), none, false⟩, ⟨(some 137), (.un .not (.t 136)), none, false⟩] []) (.cond (.t 137) (Jqk8 p) .skip)) (Jqk9 p)))
@[simp] theorem Jeka {p : Nums} : EqI (Jqka p) (.seq (Jqk7 p) (.seq (.seq (.region [⟨(some 136), (.mov (.t 10)), none, false⟩, ⟨(some 137), (.un .not (.t 136)), none, false⟩] []) (.cond (.t 137) (Jqk8 p) .skip)) (Jqk9 p))) := eqi
def Jqkb (p : Nums) : IC := (.seq (Jqk0 p) (.seq (Jqk1 p) (.cond (.t 87) (Jqk2 p) (Jqk4 p))))
@[simp] theorem Jekb {p : Nums} : EqI (Jqkb p) (.seq (Jqk0 p) (.seq (Jqk1 p) (.cond (.t 87) (Jqk2 p) (Jqk4 p)))) := eqi
def Jqkc (p : Nums) : IC := (.seq (Jqk5 p) (.cond (.t 104) (Jqk6 p) (Jqka p)))
@[simp] theorem Jekc {p : Nums} : EqI (Jqkc p) (.seq (Jqk5 p) (.cond (.t 104) (Jqk6 p) (Jqka p))) := eqi
@[simp] def Jql1 (p : Nums) : List IOp := [qo 146 (.faddr 2 (.t 5)), qo 147 (.load none (.t 146)), qo 148 (.bin .add (.t 147) (ci 1)), qo 149 (.faddr 2 (.t 5)), qn (.store 1 (.t 149) (.t 148))]
def Jqkd (p : Nums) : IC := (.region (Jql1 p) [])
@[simp] theorem Jekd {p : Nums} : EqI (Jqkd p) (.region (Jql1 p) []) := eqi
@[simp] def Jql3 (p : Nums) : List IOp := [qo 150 (.faddr 7 (.t 5)), qo 151 (.load none (.t 150)), qo 152 (.bin .add (.t 151) (ci 1)), qo 153 (.faddr 7 (.t 5)), qn (.store 1 (.t 153) (.t 152))]
def Jqkf (p : Nums) : IC := (.region (Jql3 p) [])
@[simp] theorem Jekf {p : Nums} : EqI (Jqkf p) (.region (Jql3 p) []) := eqi
def Jtc1 (p : Nums) : IC := (.seq (Jqjs p) (.seq (Jqk3 p) (.seq (.seq (Jqke p) (.cond (.t 15) (Jqkg p) .skip)) (.seq (Jqkh p) (.seq (.seq (Jqki p) (.cond (.t 28) (Jqjx p) .skip)) (.seq (Jqjy p) (.seq (.seq (Jqjz p) (.cond (.t 79) (Jqkb p) (Jqkc p))) (.seq (Jqkd p) (.seq (Jqkf p) (.seq (.region [⟨(some 154), (.load (some 8) (.t 5)), none, false⟩, ⟨none, (.store 8 (.t 4) (.t 154)), none, false⟩] []) .ret))))))))))
@[simp] def Jqjp (p : Nums) : List IOp := [qo 5 (.mov (.t 1)), qo 6 (.bin .rem (.t 5) (ci 2)), qo 7 (.bin .eql (.t 6) (ci 1))]
def Jqjm (p : Nums) : IC := (.region (Jqjp p) [])
@[simp] theorem Jejm {p : Nums} : EqI (Jqjm p) (.region (Jqjp p) []) := eqi
@[simp] def Jqjq (p : Nums) : List IOp := [qo 8 (.faddr 5 (.t 2)), qo 9 (.load none (.t 8)), qo 10 (.mov (.t 1)), qo 11 (.bin .quo (.t 10) (ci 2)), qo 12 (.iaddr 1 (.t 9) (.t 11)), qo 13 (.load none (.t 12)), qo 4 (.asg (.t 13))]
def Jqjn (p : Nums) : IC := (.region (Jqjq p) [])
@[simp] theorem Jejn {p : Nums} : EqI (Jqjn p) (.region (Jqjq p) []) := eqi
@[simp] def Jqjr (p : Nums) : List IOp := [qo 14 (.faddr 4 (.t 2)), qo 15 (.load none (.t 14)), qo 16 (.mov (.t 1)), qo 17 (.bin .quo (.t 16) (ci 2)), qo 18 (.iaddr 1 (.t 15) (.t 17)), qo 19 (.load none (.t 18)), qo 4 (.asg (.t 19))]
def Jqjo (p : Nums) : IC := (.region (Jqjr p) [])
@[simp] theorem Jejo {p : Nums} : EqI (Jqjo p) (.region (Jqjr p) []) := eqi
def Jtc0 (p : Nums) : IC := (.seq (.region [⟨(some 2), (.box (.t 0)), none, false⟩, ⟨(some 4), (.asg (.c (.d (.int .i64 0)))), none, false⟩] []) (.seq (.seq (Jqjm p) (.cond (.t 7) (.seq (Jqjn p) .ret) .skip)) (.seq (Jqjo p) .ret)))
@[simp] def Jq2z (p : Nums) : List IOp := [qo 5 (.box (.t 1)), qo 6 (.box (.t 2)), qo 8 (.alloc [(zi 0)]), qo 9 (.alloc [(zi 0)])]
def Jq2y (p : Nums) : IC := (.region (Jq2z p) [])
@[simp] theorem Je2y {p : Nums} : EqI (Jq2y p) (.region (Jq2z p) []) := eqi
def Jtau (p : Nums) : IC := (Jq2y p)
@[simp] def Jq3f (p : Nums) : List IOp := [qo 13 (.mov (.t 3)), qo 14 (.len (.t 13)), qo 15 (.mov (ci 0))]
def Jq37 (p : Nums) : IC := (.region (Jq3f p) [])
@[simp] theorem Je37 {p : Nums} : EqI (Jq37 p) (.region (Jq3f p) []) := eqi
@[simp] def Jq3g (p : Nums) : List IOp := [qo 17 (.iaddr 6 (.t 13) (.t 15)), qo 18 (.load (some 6) (.t 17)), qo 11 (.alloc [(zi 0), (zi 0), (zi 0), (zi 0), (zi 0), (zi 0)]), qn (.store 6 (.t 11) (.t 18))]
def Jq38 (p : Nums) : IC := (.region (Jq3g p) [])
@[simp] theorem Je38 {p : Nums} : EqI (Jq38 p) (.region (Jq3g p) []) := eqi
@[simp] def Jq3h (p : Nums) : List IOp := [qo 19 (.mov (.t 0)), qo 20 (.load (some 5) (.t 5)), qo 21 (.load (some 5) (.t 6)), qo 22 (.load (some 6) (.t 11)), qo 23 (.call p.blockcheck_checker_row [(.t 19), (.t 20), (.t 21), (.t 22)])]
def Jq39 (p : Nums) : IC := (.region (Jq3h p) [])
@[simp] theorem Je39 {p : Nums} : EqI (Jq39 p) (.region (Jq3h p) []) := eqi
def Jq3a (p : Nums) : IC := (.seq (Jq38 p) (Jq39 p))
@[simp] theorem Je3a {p : Nums} : EqI (Jq3a p) (.seq (Jq38 p) (Jq39 p)) := eqi
def Jq3b (p : Nums) : IC := (.seq (.region [⟨(some 16), (.bin .lss (.t 15) (.t 14)), none, false⟩] []) (.seq (.cond (.t 16) .skip (.exit 0)) (.seq (.block 1 (Jq3a p)) (.region [⟨(some 24), (.bin .add (.t 15) (.c (.d (.int .i64 1)))), none, false⟩, ⟨(some 15), (.mov (.t 24)), none, false⟩] []))))
@[simp] theorem Je3b {p : Nums} : EqI (Jq3b p) (.seq (.region [⟨(some 16), (.bin .lss (.t 15) (.t 14)), none, false⟩] []) (.seq (.cond (.t 16) .skip (.exit 0)) (.seq (.block 1 (Jq3a p)) (.region [⟨(some 24), (.bin .add (.t 15) (.c (.d (.int .i64 1)))), none, false⟩, ⟨(some 15), (.mov (.t 24)), none, false⟩] [])))) := eqi
@[simp] def Jq3i (p : Nums) : List IOp := [qo 25 (.faddr 1 (.t 5)), qo 26 (.faddr 0 (.t 25)), qo 27 (.load none (.t 26)), qo 28 (.bin .neq (.t 27) (ci 1))]
def Jq3c (p : Nums) : IC := (.region (Jq3i p) [])
@[simp] theorem Je3c {p : Nums} : EqI (Jq3c p) (.region (Jq3i p) []) := eqi
@[simp] def Jq3j (p : Nums) : List IOp := [qo 29 (.mov (.t 0)), qo 30 (.faddr 1 (.t 5)), qo 31 (.faddr 1 (.t 30)), qo 32 (.load none (.t 31)), qo 33 (.faddr 1 (.t 6)), qo 34 (.faddr 1 (.t 33)), qo 35 (.load none (.t 34)), qo 36 (.faddr 0 (.t 6)), qo 37 (.load none (.t 36)), qo 38 (.len (.t 37)), qo 39 (.call p.blockcheck_checker_use [(.t 29), (.t 32), (.t 35), (.t 38)])]
def Jq3d (p : Nums) : IC := (.region (Jq3j p) [])
@[simp] theorem Je3d {p : Nums} : EqI (Jq3d p) (.region (Jq3j p) []) := eqi
@[simp] def Jq3k (p : Nums) : List IOp := [qp 40 (.faddr 0 (.t 6)), qp 41 (.load none (.t 40)), qp 42 (.len (.t 41)), qm (.storeq 1 (.t 8) (ci 0) [(40, 1)]), qn (.store 1 (.t 9) (.t 42))]
def Jq3e (p : Nums) : IC := (.region (Jq3k p) [])
@[simp] theorem Je3e {p : Nums} : EqI (Jq3e p) (.region (Jq3k p) []) := eqi
def Jtaw (p : Nums) : IC := (.seq (.seq (Jq37 p) (.block 0 (.loop (Jq3b p)))) (.seq (.seq (Jq3c p) (.cond (.t 28) (Jq3d p) .skip)) (.seq (Jq3e p) .ret)))
@[simp] def Jq34 (p : Nums) : List IOp := [qo 9 (.mov (.t 2)), qo 10 (.tas p.ty_bcfail (.t 9)), qo 8 (.mov (.t 10)), qo 11 (.ext (.t 8) 0), qo 12 (.ext (.t 8) 1), qo 3 (.alloc [(zi 0), (zi 0)]), qn (.store 2 (.t 3) (.t 11)), qo 4 (.asg (.t 12))]
def Jq30 (p : Nums) : IC := (.region (Jq34 p) [])
@[simp] theorem Je30 {p : Nums} : EqI (Jq30 p) (.region (Jq34 p) []) := eqi
@[simp] def Jq35 (p : Nums) : List IOp := [qo 15 (.mov (.t 2)), qn (.pan (.t 15))]
def Jq31 (p : Nums) : IC := (.region (Jq35 p) [])
@[simp] theorem Je31 {p : Nums} : EqI (Jq31 p) (.region (Jq35 p) []) := eqi
@[simp] def Jq36 (p : Nums) : List IOp := [qp 16 (.faddr 0 (.t 3)), qp 17 (.load none (.t 16)), qp 18 (.faddr 1 (.t 3)), qp 19 (.load none (.t 18)), qm (.storeq 1 (.t 0) (.t 17) [(18, 1)]), qn (.store 1 (.t 1) (.t 19))]
def Jq32 (p : Nums) : IC := (.region (Jq36 p) [])
@[simp] theorem Je32 {p : Nums} : EqI (Jq32 p) (.region (Jq36 p) []) := eqi
def Jq33 (p : Nums) : IC := (.seq (Jq30 p) (.seq (.seq (.region [⟨(some 13), (.mov (.t 4)), none, false⟩, ⟨(some 14), (.un .not (.t 13)), none, false⟩] []) (.cond (.t 14) (Jq31 p) .skip)) (Jq32 p)))
@[simp] theorem Je33 {p : Nums} : EqI (Jq33 p) (.seq (Jq30 p) (.seq (.seq (.region [⟨(some 13), (.mov (.t 4)), none, false⟩, ⟨(some 14), (.un .not (.t 13)), none, false⟩] []) (.cond (.t 14) (Jq31 p) .skip)) (Jq32 p))) := eqi
def Jtav (p : Nums) : IC := (.seq (.region [⟨(some 6), (.mov (.t 2)), none, false⟩, ⟨(some 7), (.isnif true (.t 6)), none, false⟩] []) (.cond (.t 7) (Jq33 p) .skip))
structure All (P : Program) (p : Nums) : Prop where
 ref11_Same : Has P p.ref11_Same 2 [(.tmp 4)] (Jtc2 p)
 pairset_Make : Has P p.pairset_Make 1 [(.tmp 2)] (Jtbb p)
 pairset_Has : Has P p.pairset_Has 2 [(.tmp 4)] (Jtb9 p)
 pairset_Add : Has P p.pairset_Add 2 [(.tmp 4)] (Jtb4 p)
 pairset_Union : Has P p.pairset_Union 2 [(.tmp 4)] (Jtbc p)
 pairset_Less : Has P p.pairset_Less 2 [(.tmp 4)] (Jtba p)
 ref07_Check : Has P p.ref07_Check 1 [(.tmp 2)] (Jtbo p)
 ref09_Step : Has P p.ref09_Step 2 [(.cell 4 (some 8))] (Jtby p)
 ref09_Copy : Has P p.ref09_Copy 1 [(.cell 2 (some 8))] (Jtbx p)
 ref09_Values : Has P p.ref09_Values 2 [(.tmp 4)] (Jtbz p)
 pairset_DropV : Has P p.pairset_DropV 2 [(.tmp 4)] (Jtb7 p)
 pairset_DropL : Has P p.pairset_DropL 2 [(.tmp 4)] (Jtb5 p)
 slices_Clone_Pair : Has P p.slices_Clone_Pair 1 [(.tmp 2)] (Jtc3 p)
 slices_Compact_Pair : Has P p.slices_Compact_Pair 1 [(.tmp 2)] (Jtc4 p)
 pairset_find : Has P p.pairset_find 2 [(.tmp 4)] (Jtbe p)
 ref07_Code : Has P p.ref07_Code 1 [(.tmp 2)] (Jtbp p)
 ref07_Instr : Has P p.ref07_Instr 2 [(.tmp 4)] (Jtbq p)
 ref07_Term : Has P p.ref07_Term 3 [(.tmp 6)] (Jtbr p)
 ref05_UsesA : Has P p.ref05_UsesA 1 [(.tmp 2)] (Jtbg p)
 ref05_UsesB : Has P p.ref05_UsesB 1 [(.tmp 2)] (Jtbh p)
 ref05_UsesD : Has P p.ref05_UsesD 1 [(.tmp 2)] (Jtbi p)
 ref06_Eval : Has P p.ref06_Eval 4 [(.tmp 8), (.tmp 9)] (Jtbj p)
 pairset_filter : Has P p.pairset_filter 2 [(.tmp 4)] (Jtbd p)
 pairset_DropV_1 : Has P p.pairset_DropV_1 2 [(.tmp 3)] (Jtb8 p)
 pairset_DropL_1 : Has P p.pairset_DropL_1 2 [(.tmp 3)] (Jtb6 p)
 ref07_in : Has P p.ref07_in 2 [(.tmp 4)] (Jtbs p)
 opcode_Of : Has P p.opcode_Of 1 [(.cell 2 (some 4)), (.tmp 3)] (Jtb2 p)
 ref06_bits : Has P p.ref06_bits 3 [(.tmp 6)] (Jtbl p)
 ref06_half : Has P p.ref06_half 1 [(.tmp 2)] (Jtbm p)
 ref06_truth : Has P p.ref06_truth 1 [(.tmp 2)] (Jtbn p)
 opcode_known : Has P p.opcode_known 1 [(.tmp 2)] (Jtb3 p)
 ref06_bit : Has P p.ref06_bit 2 [(.tmp 4)] (Jtbk p)
 ref08_Moves : Has P p.ref08_Moves 1 [(.tmp 2)] (Jtbw p)
 ref08_Code : Has P p.ref08_Code 1 [(.tmp 2)] (Jtbu p)
 location_Reg : Has P p.location_Reg 1 [(.tmp 2)] (Jtb1 p)
 ref08_Check : Has P p.ref08_Check 1 [(.tmp 2)] (Jtbt p)
 blockcheck_Check : Has P p.blockcheck_Check 4 [(.cell 8 (some 5))] (Jtap p)
 ref08_Instr : Has P p.ref08_Instr 3 [(.tmp 6)] (Jtbv p)
 ref04_InRange : Has P p.ref04_InRange 3 [(.tmp 6)] (Jtbf p)
 align_Code : Has P p.align_Code 2 [(.tmp 4), (.tmp 5), (.tmp 6)] (Jtai p)
 align_Terms : Has P p.align_Terms 2 [(.tmp 4)] (Jtak p)
 blockcheck_checker_run : HasD P p.blockcheck_checker_run 4 [(.cell 8 none), (.cell 9 none)] (Jtau p) (Jtaw p) 12 p.blockcheck_checker_run_1 [8, 9] (Jtav p) 5 2
 align_skip_Instr : Has P p.align_skip_Instr 3 [(.tmp 6)] (Jtan p)
 align_copied : Has P p.align_copied 1 [(.tmp 2)] (Jtal p)
 align_skip_Mach : Has P p.align_skip_Mach 3 [(.tmp 6)] (Jtao p)
 align_moved : Has P p.align_moved 1 [(.tmp 2)] (Jtam p)
 align_Same : Has P p.align_Same 2 [(.tmp 4)] (Jtaj p)
 blockcheck_checker_row : Has P p.blockcheck_checker_row 4 [] (Jtat p)
 blockcheck_checker_use : Has P p.blockcheck_checker_use 4 [] (Jtax p)
 blockcheck_checker_cost : Has P p.blockcheck_checker_cost 1 [] (Jtar p)
 blockcheck_checker_become : Has P p.blockcheck_checker_become 3 [] (Jtaq p)
 transfer_Copy : Has P p.transfer_Copy 3 [(.tmp 6)] (Jtc5 p)
 transfer_Move : Has P p.transfer_Move 3 [(.tmp 6)] (Jtc7 p)
 blockcheck_checker_instr : Has P p.blockcheck_checker_instr 4 [] (Jtas p)
 transfer_rename : Has P p.transfer_rename 3 [(.tmp 6)] (Jtc8 p)
 transfer_Define : Has P p.transfer_Define 3 [(.tmp 6)] (Jtc6 p)
 law14_BlockcheckSound : Has P p.law14_BlockcheckSound 6 [(.tmp 12)] (Jtay p)
 law14_awake : Has P p.law14_awake 0 [(.tmp 0)] (Jtaz p)
 law14_right : Has P p.law14_right 4 [(.tmp 8)] (Jtb0 p)
 ref10_Step : Has P p.ref10_Step 2 [(.cell 4 (some 8))] (Jtc1 p)
 ref10_Read : Has P p.ref10_Read 2 [(.tmp 4)] (Jtc0 p)
end Go.AE
namespace Go.AE
open Go Go.Sort
theorem Jt6l {P : Program} {f : Nat} {args : List AV} {H : List Blk} {x : AV} (hx : ∀ e rows, x ≠ .own e rows) (hxv : ∀ org e rows, x ≠ .view org e rows)
  (hH : ∀ (b : Nat) (cells : List AV) (j e : Nat) (rows : List (List D)), H[b]? = some (Blk.mem cells) → cells[j]? ≠ some (AV.own e rows))
  (h : ∀ (g : Gh) (vs : Array Value) (w : World), vs.size = args.length → Sim args.length ⟨enum 0 args, H⟩ g ⟨vs, []⟩ w → ∃ v, (∀ F φ w, Rel F φ w x.erase v) ∧ Calls P f vs w fun e w' => e = .returned v ∧ ∃ q os, w' = grow (w.drewN q) os) :
  Jt3w P f args H fun o H' => o = .ret x ∧ H' = H := by
 intro g vs w hvs hs
 obtain ⟨v, hv, hc⟩ := h g vs w hvs hs
 refine hc.mono ?_
 rintro e w' ⟨rfl, q, os, rfl⟩
 have hheap : (grow (w.drewN q) os).heap = w.heap ++ os := rfl
 have hsame : ∀ r, r < w.heap.size → (grow (w.drewN q) os).heap[r]? = w.heap[r]? := by
  intro r hr; rw [hheap, Array.getElem?_append, if_pos hr]
 have hst : Stab g.F w g.F (grow (w.drewN q) os) := by
  refine ⟨fun _ _ => Nat.le_refl _, fun r j u hj hu => ?_, Jt7f hsame⟩
  have hlt := World.block_lt_of_cell? w ⟨r, j, none⟩ hu
  simp only [World.cell?] at hu ⊢
  rw [hsame r hlt]; exact hu
 have hno : ∀ p e rows, AP ⟨[(0, x)], H⟩ p ≠ some (.own e rows) := by
  intro p e rows hp
  cases p with
  | tmp t =>
   simp only [AP, get] at hp
   split at hp
   ·injection hp with hp; exact hx e rows hp
   ·cases hp
  | cell b j =>
   simp only [AP] at hp
   split at hp
   ·rename_i cells hb; exact hH b cells j e rows hb hp
   ·cases hp
 refine ⟨.ret x, H, g, v, ⟨rfl, rfl⟩, rfl, ?_, ⟨rfl, rfl, rfl, ?_, fun r hr _ => ⟨hsame r hr, rfl⟩, hst⟩, fun _ _ _ h => h, Nat.le_refl _, ?_⟩
 ·refine { size := by simp, env := ?_, inj := hs.inj, lt := ?_, dom := hs.dom, mem := ?_, iter := ?_, glob := ?_, own := ?_, excl := ?_, apart := ?_, view := ?_ }
  ·intro t y hy
   simp only [AOut.val, get] at hy
   split at hy
   ·rename_i h0; subst h0; injection hy with hy; subst hy; exact hv _ _ _
   ·cases hy
  ·intro b r hb
   obtain ⟨h1, h2, h3⟩ := hs.lt b r hb
   refine ⟨?_, h2, h3⟩
   rw [hheap]; simp only [Array.size_append]; omega
  ·intro b cells r hb hr
   obtain ⟨c, e, h1, h2, h3⟩ := hs.mem b cells r hb hr
   refine ⟨c, e, by rw [hsame r (hs.lt b r hr).1]; exact h1, h2, fun j y hy => ?_⟩
   obtain ⟨k1, u, k2, k3⟩ := h3 j y hy
   exact ⟨k1, u, k2, k3.stab hst fun _ _ h => h⟩
  ·intro b s pos r hb hr
   rw [hsame r (hs.lt b r hr).1]; exact hs.iter b s pos r hb hr
  ·intro b s pos r hb hr
   rw [hsame r (hs.lt b r hr).1]; exact hs.glob b s pos r hb hr
  ·exact fun p e rows v hp _ => absurd hp (hno p e rows)
  ·rintro p p' r ⟨e, rows, _, hp, _⟩; exact absurd hp (hno p e rows)
  ·rintro p r b ⟨e, rows, _, hp, _⟩; exact absurd hp (hno p e rows)
  ·intro t org e rows hy
   simp only [AOut.val, get] at hy
   split at hy
   ·injection hy with hy; exact absurd hy (hxv org e rows)
   ·cases hy
 ·rw [hheap]; simp only [Array.size_append]; exact Nat.le_add_right _ _
 ·rintro r (⟨b, hb⟩ | ⟨p, e, rows, _, hp, _⟩)
  ·exact .inl (.inl ⟨b, hb⟩)
  ·exact absurd hp (hno p e rows)
abbrev I (n : Int) : D := .int .i64 n
abbrev AI (n : Int) : AV := .d (.int .i64 n)
abbrev AB (b : Bool) : AV := .d (.bool b)
structure Pair where (v l : Int)
 deriving DecidableEq, Inhabited
def Pair.row (q : Pair) : List D := [I q.v, I q.l]
def Pair.av (q : Pair) : AV := .agg [AI q.v, AI q.l]
def pairsD (l : List Pair) : D := .sl (l.map Pair.row)
theorem HasL.cons_inv {l : LT} {ls : List LT} {ds : List D} (h : HasL (l :: ls) ds) : ∃ d ds', ds = d :: ds' ∧ HasT l d ∧ HasL ls ds' := by
 obtain ⟨h1, h2⟩ := h
 cases ds with
 | nil => simp at h1
 | cons d ds => exact ⟨d, ds, rfl, h2 0 l d rfl rfl, by simpa using h1, fun j l' x a b => h2 (j + 1) l' x (by simpa using a) (by simpa using b)⟩
theorem HasL.nil_inv {ds : List D} (h : HasL [] ds) : ds = [] := by
 have := h.1; simpa using this
theorem HasT.int_inv {k : IntKind} {d : D} (h : HasT (.int k) d) : ∃ n, d = .int k n ∧ (Lit.int k n).wf = true := by
 cases h with
 | int _ n h => exact ⟨n, rfl, h⟩
theorem HasT.sl_inv {ls : List LT} {d : D} (h : HasT (.sl ls) d) : ∃ rows, d = .sl rows ∧ rows.length ≤ maxLen ∧ ∀ r ∈ rows, HasL ls r := by
 cases h with
 | sl _ rows hl h0 h => exact ⟨rows, rfl, hl, fun r hr => ⟨h0 r hr, h r hr⟩⟩
theorem Jtj7 {α : Type} {g : α → List D} {Q : List D → Prop} (h : ∀ r, Q r → ∃ x, r = g x) : ∀ {rows : List (List D)}, (∀ r ∈ rows, Q r) → ∃ l : List α, rows = l.map g := by
 intro rows
 induction rows with
 | nil => intro _; exact ⟨[], rfl⟩
 | cons r rows ih =>
  intro hq
  obtain ⟨x, rfl⟩ := h r (hq r (by simp))
  obtain ⟨l, rfl⟩ := ih fun r hr => hq r (by simp [hr])
  exact ⟨x :: l, rfl⟩
def ltI : LT := .int .i64
def lessP (a b : Pair) : Bool := if a.v = b.v then decide (a.l < b.l) else decide (a.v < b.v)
theorem Jtdi {a b : Pair} : lessP a b = true ↔ a.v < b.v ∨ (a.v = b.v ∧ a.l < b.l) := by
 unfold lessP; split <;> simp <;> omega
theorem Jtdl {a b : Pair} (h1 : lessP a b = false) (h2 : lessP b a = false) : a = b := by
 have h1 : ¬ lessP a b = true := by simp [h1]
 have h2 : ¬ lessP b a = true := by simp [h2]
 rw [Jtdi] at h1 h2
 obtain ⟨a1, a2⟩ := a; obtain ⟨b1, b2⟩ := b
 simp only [Pair.mk.injEq]; simp only at h1 h2; omega
theorem Jtdm {a b c : Pair} (h1 : lessP a b = true) (h2 : lessP b c = true) : lessP a c = true := by
 rw [Jtdi] at *; omega
theorem Jtdj (a : Pair) : lessP a a = false := by
 cases h : lessP a a with
 | false => rfl
 | true => rw [Jtdi] at h; omega
theorem Jtdh {a b : Pair} (h1 : lessP a b = true) : lessP b a = false := by
 cases h : lessP b a with
 | false => rfl
 | true => have := Jtdm h1 h; rw [Jtdj] at this; cases this
def stepA (p : Pair) (s : List Pair × Bool) (q : Pair) : List Pair × Bool :=
 let s := if s.2 = false ∧ lessP q p = false then (s.1 ++ [p], true) else s
 if q = p then s else (s.1 ++ [q], s.2)
def foldA (p : Pair) (l : List Pair) : List Pair × Bool := l.foldl (stepA p) ([], false)
def addP (l : List Pair) (p : Pair) : List Pair := if (foldA p l).2 = true then (foldA p l).1 else (foldA p l).1 ++ [p]
def makeP (l : List Pair) : List Pair := l.foldl addP []
def missP (a b : List Pair) : Option Pair := a.find? fun q => !decide (q ∈ b)
theorem Jt7z {a b : Pair} (h1 : a.v = b.v) (h2 : a.l = b.l) : a = b := by cases a; cases b; simp_all
theorem Jtg0 (a b : Pair) : (decide (a.v = b.v) && decide (a.l = b.l)) = decide (a = b) := by
 by_cases h : a = b
 ·subst h; simp
 ·rw [decide_eq_false h]
  cases h1 : decide (a.v = b.v) <;> cases h2 : decide (a.l = b.l) <;> simp_all
  exact h (Jt7z h1 h2)
theorem Jtfz (a b : Pair) : (a.v == b.v && a.l == b.l) = decide (a = b) := by
 rw [← Jtg0]; rfl
def Srt (l : List Pair) : Prop := l.Pairwise fun a b => lessP a b = true
theorem Jtkj {a : Pair} {l : List Pair} : Srt (a :: l) ↔ (∀ b ∈ l, lessP a b = true) ∧ Srt l := List.pairwise_cons
theorem Jtko {l : List Pair} (h : Srt l) {i j : Nat} (hij : i < j) (hj : j < l.length) : lessP (l[i]'(by omega)) l[j] = true := List.pairwise_iff_getElem.1 h i j (by omega) hj hij
theorem Jtkm : ∀ {a b : List Pair}, Srt a → Srt b → (∀ q, q ∈ a ↔ q ∈ b) → a = b := by
 intro a
 induction a with
 | nil =>
  intro b _ _ h
  cases b with
  | nil => rfl
  | cons y b => have := (h y).2 (by simp); cases this
 | cons x a ih =>
  intro b ha hb h
  cases b with
  | nil => have := (h x).1 (by simp); cases this
  | cons y b =>
   rw [Jtkj] at ha hb
   have exy : x = y := by
    have h1 := (h x).1 (by simp)
    have h2 := (h y).2 (by simp)
    rw [List.mem_cons] at h1 h2
    rcases h1 with h1 | h1
    ·exact h1
    ·rcases h2 with h2 | h2
     ·exact h2.symm
     ·have := Jtdh (hb.1 x h1); rw [ha.1 y h2] at this; cases this
   subst exy
   have : a = b := by
    refine ih ha.2 hb.2 fun q => ?_
    have hq := h q
    rw [List.mem_cons, List.mem_cons] at hq
    constructor
    ·intro hqa
     rcases hq.1 (.inr hqa) with e | e
     ·subst e; have := ha.1 q hqa; rw [Jtdj] at this; cases this
     ·exact e
    ·intro hqb
     rcases hq.2 (.inr hqb) with e | e
     ·subst e; have := hb.1 q hqb; rw [Jtdj] at this; cases this
     ·exact e
   rw [this]
def posP (l : List Pair) (p : Pair) : Nat := (l.takeWhile fun q => lessP q p).length
def insP (l : List Pair) (p : Pair) : List Pair := (l.takeWhile fun q => lessP q p) ++ p :: (l.dropWhile fun q => lessP q p).filter fun q => decide (q ≠ p)
theorem Jtdk {a b : Pair} (h : lessP a b = true) : a ≠ b := by rintro rfl; rw [Jtdj] at h; cases h
theorem Jt99 (p : Pair) (l out : List Pair) : l.foldl (stepA p) (out, true) = (out ++ l.filter (fun q => decide (q ≠ p)), true) := by
 induction l generalizing out with
 | nil => simp
 | cons q l ih =>
  by_cases e : q = p
  ·simp [stepA, e, ih]
  ·simp [stepA, e, ih]
theorem Jt9a (p : Pair) (l out : List Pair) : l.foldl (stepA p) (out, false) = if (l.dropWhile fun q => lessP q p) = [] then (out ++ l, false) else (out ++ insP l p, true) := by
 induction l generalizing out with
 | nil => simp
 | cons q l ih =>
  cases h : lessP q p with
  | true =>
   have hne := Jtdk h
   simp only [List.foldl_cons, stepA, h, hne, if_false, and_false, ih, List.dropWhile_cons, if_true, Bool.true_eq_false, insP, List.takeWhile_cons]
   split <;> simp [List.append_assoc]
  | false =>
   simp only [List.foldl_cons, stepA, h, and_self, if_true, List.dropWhile_cons, Bool.false_eq_true, if_false, reduceCtorEq, insP, List.takeWhile_cons, List.nil_append]
   by_cases e : q = p
   ·simp [e, Jt99]
   ·simp [e, Jt99]
theorem Jt4s (l : List Pair) (p : Pair) : addP l p = insP l p := by
 unfold addP foldA
 rw [Jt9a]
 split
 ·rename_i h
  simp only [List.nil_append, Bool.false_eq_true, if_false, insP, h, List.filter_nil]
  have : l.takeWhile (fun q => lessP q p) = l := by
   have e := List.takeWhile_append_dropWhile (p := fun q => lessP q p) (l := l)
   rw [h, List.append_nil] at e; exact e
  rw [this]
 ·simp
theorem Jten {l : List Pair} {p q : Pair} : q ∈ addP l p ↔ q = p ∨ q ∈ l := by
 rw [Jt4s, insP]
 have e := List.takeWhile_append_dropWhile (p := fun q => lessP q p) (l := l)
 have e2 : q ∈ l ↔ q ∈ l.takeWhile (fun q => lessP q p) ∨ q ∈ l.dropWhile (fun q => lessP q p) := by
  rw [← List.mem_append, e]
 simp only [List.mem_append, List.mem_cons, List.mem_filter, decide_eq_true_eq, e2]
 by_cases h : q = p <;> simp [h]
theorem Jt7r {l : List Pair} {p : Pair} (h : Srt l) : ∀ q ∈ l.dropWhile (fun q => lessP q p), lessP q p = false := by
 induction l with
 | nil => intro q hq; simp at hq
 | cons x l ih =>
  intro q hq
  rw [Jtkj] at h
  cases hx : lessP x p with
  | true => rw [List.dropWhile_cons, hx, if_pos rfl] at hq; exact ih h.2 q hq
  | false =>
   rw [List.dropWhile_cons, hx, if_neg (by simp)] at hq
   rcases List.mem_cons.1 hq with rfl | hq
   ·exact hx
   ·cases hqp : lessP q p with
    | false => rfl
    | true => rw [Jtdm (h.1 q hq) hqp] at hx; cases hx
theorem Jtlk {l : List Pair} {p : Pair} : ∀ q ∈ l.takeWhile (fun q => lessP q p), lessP q p = true := by
 induction l with
 | nil => intro q hq; simp at hq
 | cons x l ih =>
  intro q hq
  cases hx : lessP x p with
  | true =>
   rw [List.takeWhile_cons, hx, if_pos rfl] at hq
   rcases List.mem_cons.1 hq with rfl | hq
   ·exact hx
   ·exact ih q hq
  | false => rw [List.takeWhile_cons, hx, if_neg (by simp)] at hq; simp at hq
theorem Jtkt {a b : List Pair} (h : a.Sublist b) (hb : Srt b) : Srt a := List.Pairwise.sublist h hb
theorem Jtki {l : List Pair} {p : Pair} (h : Srt l) : Srt (addP l p) := by
 rw [Jt4s, insP]
 refine List.pairwise_append.2 ⟨Jtkt (List.takeWhile_sublist _) h, Jtkj.2 ⟨?_, ?_⟩, ?_⟩
 ·intro b hb
  rw [List.mem_filter, decide_eq_true_eq] at hb
  have h1 := Jt7r h b hb.1
  cases h2 : lessP p b with
  | true => rfl
  | false => exact absurd (Jtdl h2 h1).symm hb.2
 ·exact Jtkt (List.filter_sublist.trans (List.dropWhile_sublist _)) h
 ·intro a ha b hb
  have h1 := Jtlk a ha
  rcases List.mem_cons.1 hb with rfl | hb
  ·exact h1
  ·rw [List.mem_filter, decide_eq_true_eq] at hb
   have h2 := Jt7r h b hb.1
   cases h3 : lessP p b with
   | true => exact Jtdm h1 h3
   | false => exact absurd (Jtdl h3 h2).symm hb.2
theorem Jtef (l : List Pair) (q : Pair) : makeP (l ++ [q]) = addP (makeP l) q := by simp [makeP]
theorem Jtee {motive : List Pair → Prop} (h0 : motive []) (h1 : ∀ l q, motive l → motive (l ++ [q])) (l : List Pair) : motive l := by
 generalize hn : l.length = n
 induction n generalizing l with
 | zero => have : l = [] := List.length_eq_zero_iff.1 hn; subst this; exact h0
 | succ n ih =>
  have hne : l ≠ [] := by rintro rfl; simp at hn
  rw [← List.dropLast_concat_getLast hne]
  exact h1 _ _ (ih _ (by simp [hn]))
theorem Jtkp (l : List Pair) : Srt (makeP l) := by
 induction l using Jtee with
 | h0 => exact List.Pairwise.nil
 | h1 l q ih => rw [Jtef]; exact Jtki ih
theorem Jteq {l : List Pair} {q : Pair} : q ∈ makeP l ↔ q ∈ l := by
 induction l using Jtee with
 | h0 => simp [makeP]
 | h1 l x ih => rw [Jtef, Jten, ih]; simp [or_comm]
theorem Jtks {l : List Pair} (h : Srt l) : l.Nodup := List.Pairwise.imp (fun h => Jtdk h) h
theorem Jt4t (l : List Pair) (p : Pair) : (addP l p).length ≤ l.length + 1 := by
 rw [Jt4s, insP]
 have e := congrArg List.length (List.takeWhile_append_dropWhile (p := fun q => lessP q p) (l := l))
 have e2 := List.length_filter_le (fun q => decide (q ≠ p)) (l.dropWhile fun q => lessP q p)
 simp only [List.length_append, List.length_cons] at e ⊢; omega
theorem Jted (l : List Pair) : (makeP l).length ≤ l.length := by
 induction l using Jtee with
 | h0 => simp [makeP]
 | h1 l x ih => rw [Jtef]; have := Jt4t (makeP l) x; simp only [List.length_append, List.length_cons, List.length_nil]; omega
section
theorem Jthq {P : Program} {p : Nums} (A : All P p) (a b : List Pair) (h0 : a.length < 1000000000) (h1 : b.length < 1000000000) : Jt3w P p.ref11_Same [.d (pairsD a), .d (pairsD b)] [] fun o _ => o = .ret (AB (decide (a = b))) := by
 refine A.ref11_Same.run rfl fun R hR => ?_
 (simp (maxSteps := 1000000) [Jtc2, pairsD])
 ((first | refine Xc (fun hl => ?_) (fun hl => ?_) | refine Xo (fun hl => ?_) (fun hl => ?_)) <;> (try simp only [Xz, Xy] at hl))
 ·(simp (maxSteps := 1000000) [hl])
  have : a ≠ b := by rintro rfl; exact hl rfl
  (first | exact hR _ _ FrA | exact hR _ _ FnA | exact hR _ _ (Xf (hq := by simp [AV.erase, AV.unview, this]; done)))
 have hl' : a.length = b.length := by omega
 (simp (maxSteps := 1000000) [hl'])
 refine Jtd (fun k : Nat => ⟨[(5, AI k), (4, AB false), (1, .d (.sl (b.map Pair.row))), (0, .d (.sl (a.map Pair.row)))], []⟩) (fun k => k ≤ a.length ∧ a.take k = b.take k) (fun k => a.length - k) 0 (by simp) (by (exact wkA)) ?_
 rintro k ⟨hk, hz⟩ N hN
 (simp (maxSteps := 1000000) [])
 ((first | refine Xc (fun h2 => ?_) (fun h2 => ?_) | refine Xo (fun h2 => ?_) (fun h2 => ?_)) <;> (try simp only [Xz, Xy] at h2))
 ·have hkl : k < a.length := by simpa using h2
  have hkl2 : k < b.length := by omega
  have hb : a[k]? = some a[k] := by simp
  have hb2 : b[k]? = some b[k] := by simp
  have hw := Jtmv (k := k) (by omega)
  (simp (maxSteps := 1000000) [h2, hb, hb2, hkl2, Pair.row])
  ((first | refine Xc (fun h3 => ?_) (fun h3 => ?_) | refine Xo (fun h3 => ?_) (fun h3 => ?_)) <;> (try simp only [Xz, Xy] at h3))
  ·(simp (maxSteps := 1000000) [h3])
   have : a ≠ b := by rintro rfl; simp at h3
   (first | exact hR _ _ FrA | exact hR _ _ FnA | exact hR _ _ (Xf (hq := by simp [AV.erase, AV.unview, this]; done)))
  ·(simp (maxSteps := 1000000) [h3, hw])
   refine hN _ (k + 1) ⟨hkl, ?_⟩ (by (exact wkA)) (by omega)
   have e : a[k] = b[k] := by cases hq : a[k]; cases hq' : b[k]; simp_all
   rw [List.take_add_one, List.take_add_one, hb, hb2, hz, e]
 ·have hk' : k = a.length := by simp at h2; omega
  subst hk'
  have : a = b := by rw [List.take_length, hl', List.take_length] at hz; exact hz
  (simp (maxSteps := 1000000) [])
  (first | exact hR _ _ FrA | exact hR _ _ FnA | exact hR _ _ (Xf (hq := by simp [AV.erase, AV.unview, this]; done)))
end
section
end
section
theorem Jtg9 {P : Program} {p : Nums} (A : All P p) (a b : Pair) : Jt3w P p.pairset_Less [a.av, b.av] [] fun o _ => o = .ret (AB (lessP a b)) := by
 refine A.pairset_Less.run rfl fun R hR => ?_
 (simp (maxSteps := 1000000) [Jtba, Pair.av])
 ((first | refine Xc (fun h => ?_) (fun h => ?_) | refine Xo (fun h => ?_) (fun h => ?_)) <;> (try simp only [Xz, Xy] at h))
 ·(simp (maxSteps := 1000000) [h])
  have e : lessP a b = true := by rw [Jtdi]; omega
  (first | exact hR _ _ FrA | exact hR _ _ FnA | exact hR _ _ (Xf (hq := by simp [AV.erase, AV.unview, e]; done)))
 (simp (maxSteps := 1000000) [h])
 ((first | refine Xc (fun h1 => ?_) (fun h1 => ?_) | refine Xo (fun h1 => ?_) (fun h1 => ?_)) <;> (try simp only [Xz, Xy] at h1))
 ·(simp (maxSteps := 1000000) [h1])
  (first | exact hR _ _ FrA | exact hR _ _ FnA | exact hR _ _ (Xf (hq := by simp [AV.erase, AV.unview, lessP, h1]; done)))
 ·(simp (maxSteps := 1000000) [h1])
  have e : lessP a b = false := by
   cases e : lessP a b with
   | false => rfl
   | true => rw [Jtdi] at e; omega
  (first | exact hR _ _ FrA | exact hR _ _ FnA | exact hR _ _ (Xf (hq := by simp [AV.erase, AV.unview, e]; done)))
end
theorem Jtli {α : Type} (f : α → Bool) (l : List α) : l.takeWhile f = l.take (l.takeWhile f).length := by
 have e := List.takeWhile_append_dropWhile (p := f) (l := l)
 have := congrArg (List.take (l.takeWhile f).length) e
 rw [List.take_left'] at this
 ·exact this
 ·rfl
theorem Jt7q {α : Type} (f : α → Bool) (l : List α) : l.dropWhile f = l.drop (l.takeWhile f).length := by
 have e := List.takeWhile_append_dropWhile (p := f) (l := l)
 have := congrArg (List.drop (l.takeWhile f).length) e
 rw [List.drop_left'] at this
 ·exact this
 ·rfl
theorem Jtlh {α : Type} (f : α → Bool) (l : List α) (i : Nat) (hi : i ≤ l.length) (h1 : ∀ j, j < i → (h : j < l.length) → f l[j] = true) (h2 : (h : i < l.length) → f l[i] = false) : (l.takeWhile f).length = i := by
 induction l generalizing i with
 | nil => simp at hi; simp [hi]
 | cons x l ih =>
  cases i with
  | zero => have := h2 (by simp); simp at this; simp [List.takeWhile_cons, this]
  | succ i =>
   have h0 := h1 0 (by omega) (by simp)
   simp at h0
   rw [List.takeWhile_cons, h0, if_pos rfl, List.length_cons]
   have := ih i (by simpa using hi) (fun j hj h => by have := h1 (j + 1) (by omega) (by simpa using h); simpa using this) (fun h => by have := h2 (by simpa using h); simpa using this)
   rw [this]
theorem Jtgp (l : List Pair) (p : Pair) : posP l p ≤ l.length := (List.takeWhile_sublist _).length_le
theorem Jtgq {l : List Pair} {p : Pair} {j : Nat} (h : j < posP l p) (hl : j < l.length) : lessP l[j] p = true := by
 have h1 : (l.takeWhile fun q => lessP q p)[j]? = some l[j] := by
  rw [Jtli, List.getElem?_take]; simp only [posP] at h; simp [h]
 exact Jtlk _ (List.mem_of_getElem? h1)
theorem Jtgo {l : List Pair} {p : Pair} (hs : Srt l) {j : Nat} (h : posP l p ≤ j) (hl : j < l.length) : lessP l[j] p = false := by
 refine Jt7r hs _ ?_
 rw [Jt7q]
 have : (l.drop (posP l p))[j - posP l p]? = some l[j] := by rw [List.getElem?_drop]; simp [Nat.add_sub_cancel' h]
 exact List.mem_of_getElem? this
theorem Jtet {l : List Pair} {p : Pair} (hs : Srt l) : p ∈ l ↔ l[posP l p]? = some p := by
 constructor
 ·intro h
  obtain ⟨j, hj, e⟩ := List.getElem_of_mem h
  have h1 : posP l p ≤ j := by
   rcases Nat.lt_or_ge j (posP l p) with h2 | h2
   ·have := Jtgq h2 hj; rw [e, Jtdj] at this; cases this
   ·exact h2
  have h2 : j ≤ posP l p := by
   rcases Nat.lt_or_ge (posP l p) j with h2 | h2
   ·have h3 := Jtko hs h2 hj
    rw [e, Jtgo hs (Nat.le_refl _) (by omega)] at h3; cases h3
   ·exact h2
  have : posP l p = j := by omega
  rw [this, List.getElem?_eq_getElem hj, e]
 ·exact List.mem_of_getElem?
theorem Jt8k {l : List Pair} {p : Pair} (h : p ∉ l) : l.filter (fun q => decide (q ≠ p)) = l := by
 rw [List.filter_eq_self]; intro a ha; simp; rintro rfl; exact h ha
theorem Jt4u {l : List Pair} {p : Pair} (hs : Srt l) : addP l p = l.take (posP l p) ++ p :: l.drop (if p ∈ l then posP l p + 1 else posP l p) := by
 rw [Jt4s, insP, Jtli, Jt7q]
 show l.take (posP l p) ++ p :: (l.drop (posP l p)).filter _ = _
 congr 2
 split
 ·rename_i h
  have hp := (Jtet hs).1 h
  have hlt := (List.getElem?_eq_some_iff.1 hp).1
  have he := (List.getElem?_eq_some_iff.1 hp).2
  have hs' : Srt (l.drop (posP l p)) := Jtkt (List.drop_sublist _ _) hs
  rw [List.drop_eq_getElem_cons hlt, he] at hs' ⊢
  rw [List.filter_cons_of_neg (by simp)]
  refine Jt8k fun hm => ?_
  have := (Jtkj.1 hs').1 p hm
  rw [Jtdj] at this; cases this
 ·rename_i h
  exact Jt8k fun hm => h (List.drop_subset _ _ hm)
section
theorem Jtge {P : Program} {p : Nums} (A : All P p) (l : List Pair) (q : Pair) (h0 : l.length < 1000000000) (hs : Srt l) : Jt3w P p.pairset_find [.d (pairsD l), q.av] [] fun o _ => o = .ret (AI (posP l q)) := by
 refine A.pairset_find.run rfl fun R hR => ?_
 (simp (maxSteps := 1000000) [Jtbe, pairsD, Pair.av])
 refine Jtd (fun k : Nat × Nat => ⟨[(5, AI k.1), (6, AI k.2), (4, AI 0), (3, .ptr 0 0), (0, .d (.sl (l.map Pair.row)))], [.mem [AI q.v, AI q.l]]⟩)
  (fun k => k.1 ≤ k.2 ∧ k.2 ≤ l.length ∧ (∀ j, j < k.1 → (h : j < l.length) → lessP l[j] q = true) ∧ ∀ j, k.2 ≤ j → (h : j < l.length) → lessP l[j] q = false) (fun k => k.2 - k.1) (0, l.length) (by simp; intro j h1 h2; omega) (by (exact wkA)) ?_
 rintro ⟨a, b⟩ ⟨hab, hb, hlo, hhi⟩ N hN
 simp only at hab hb hlo hhi hN ⊢
 (simp (maxSteps := 1000000) [])
 ((first | refine Xc (fun h2 => ?_) (fun h2 => ?_) | refine Xo (fun h2 => ?_) (fun h2 => ?_)) <;> (try simp only [Xz, Xy] at h2))
 ·have hm : a + (b - a) / 2 < l.length := by omega
  have hma : a ≤ a + (b - a) / 2 := by omega
  have hmb : a + (b - a) / 2 < b := by omega
  have hw1 : IntKind.i64.wrap ((b : Int) - (a : Int)) = ((b - a : Nat) : Int) := by rw [wrap_i64 (by omega) (by omega)]; omega
  have hw2 : IntKind.i64.wrap (((b - a : Nat) : Int) / 2) = (((b - a) / 2 : Nat) : Int) := by rw [wrap_i64 (by omega) (by omega)]; omega
  have hw3 : IntKind.i64.wrap ((a : Int) + (((b - a) / 2 : Nat) : Int)) = ((a + (b - a) / 2 : Nat) : Int) := by rw [wrap_i64 (by omega) (by omega)]; omega
  obtain ⟨d, hd⟩ : ∃ d, d = b - a := ⟨_, rfl⟩
  obtain ⟨d2, hd2⟩ : ∃ d2, d2 = d / 2 := ⟨_, rfl⟩
  obtain ⟨m, hmm⟩ : ∃ m, m = a + d2 := ⟨_, rfl⟩
  have hw := Jtmv (k := m) (by omega)
  simp only [← hd, ← hd2, ← hmm] at hm hma hmb hw1 hw2 hw3
  have hbm : l[m]? = some l[m] := by simp
  (simp (maxSteps := 1000000) [h2, hw1])
  (simp (maxSteps := 1000000) [hw2])
  (simp (maxSteps := 1000000) [hw3, hbm, Pair.row])
  (refine Jty (Jtg9 A l[m] q) (by rfl) (by rfl) ?_)
  (simp (maxSteps := 1000000) [])
  ((first | refine Xc (fun h3 => ?_) (fun h3 => ?_) | refine Xo (fun h3 => ?_) (fun h3 => ?_)) <;> (try simp only [Xz, Xy] at h3))
  ·(simp (maxSteps := 1000000) [h3, hw])
   refine hN _ (m + 1, b) ⟨by simp only; omega, hb, ?_, hhi⟩ (by (exact wkA)) (by simp only; omega)
   intro j hj h
   simp only at hj
   by_cases e : j = m
   ·subst e; exact h3
   ·exact Jtdm (Jtko hs (by omega : j < m) hm) h3
  ·(simp (maxSteps := 1000000) [h3])
   refine hN _ (a, m) ⟨by simp only; omega, by simp only; omega, hlo, ?_⟩ (by (exact wkA)) (by simp only; omega)
   intro j hj h
   simp only at hj
   cases e : lessP l[j] q with
   | false => rfl
   | true =>
    by_cases e2 : j = m
    ·subst e2; rw [e] at h3; simp at h3
    ·rw [Jtdm (Jtko hs (by omega : m < j) h) e] at h3; simp at h3
 ·have e : a = b := by omega
  subst e
  have : posP l q = a := Jtlh _ l a hb hlo fun h => hhi a (by omega) h
  (simp (maxSteps := 1000000) [])
  (first | exact hR _ _ FrA | exact hR _ _ FnA | exact hR _ _ (Xf (hq := by simp [AV.erase, AV.unview, this]; done)))
theorem Jtg8 {P : Program} {p : Nums} (A : All P p) (l : List Pair) (q : Pair) (h0 : l.length < 1000000000) (hs : Srt l) : Jt3w P p.pairset_Has [.d (pairsD l), q.av] [] fun o _ => o = .ret (AB (decide (q ∈ l))) := by
 refine A.pairset_Has.run rfl fun R hR => ?_
 (simp (maxSteps := 1000000) [Jtb9, pairsD, Pair.av])
 (refine Jty (Jtge A l q h0 hs) (by rfl) (by rfl) ?_)
 (simp (maxSteps := 1000000) [])
 have hp := Jtet (p := q) hs
 have hle := Jtgp l q
 obtain ⟨i, hi⟩ : ∃ i, i = posP l q := ⟨_, rfl⟩
 rw [← hi] at hp hle ⊢
 ((first | refine Xc (fun h1 => ?_) (fun h1 => ?_) | refine Xo (fun h1 => ?_) (fun h1 => ?_)) <;> (try simp only [Xz, Xy] at h1))
 ·have hil : i < l.length := by omega
  have hb : l[i]? = some l[i] := by simp
  rw [hb] at hp
  (simp (maxSteps := 1000000) [h1, hb, Pair.row])
  have e : (l[i].v == q.v && l[i].l == q.l) = decide (q ∈ l) := by
   rw [Jtfz]; simp only [Option.some.injEq] at hp; simp [hp]
  (first | exact hR _ _ FrA | exact hR _ _ FnA | exact hR _ _ (Xf (hq := by simp [AV.erase, AV.unview, e, Pair.row]; done)))
 ·(simp (maxSteps := 1000000) [h1])
  have hb : l[i]? = none := by simp; omega
  rw [hb] at hp
  have e : q ∉ l := by simpa using hp
  (first | exact hR _ _ FrA | exact hR _ _ FnA | exact hR _ _ (Xf (hq := by simp [AV.erase, AV.unview, e]; done)))
end
section
theorem Jtg1 {P : Program} {p : Nums} (A : All P p) (l : List Pair) (q : Pair) (h0 : l.length < 1000000) (hs : Srt l) : Jt3w P p.pairset_Add [.d (pairsD l), q.av] [] fun o H' => o = .ret (.own 2 ((addP l q).map Pair.row)) ∧ H' = [] := by
 refine A.pairset_Add.run rfl fun R hR => ?_
 (simp (maxSteps := 1000000) [Jtb4, pairsD, Pair.av])
 (refine Jty (Jtge A l q (by omega) hs) (by rfl) (by rfl) ?_)
 have hw := Jtmv (k := l.length) (by omega)
 have hp := Jtet (p := q) hs
 have hle := Jtgp l q
 have hadd := Jt4u (p := q) hs
 obtain ⟨i, hi⟩ : ∃ i, i = posP l q := ⟨_, rfl⟩
 rw [← hi] at hp hle hadd ⊢
 (simp (maxSteps := 1000000) [hw])
 refine Jt24 (n := l.length + 1) (by rfl) (by rfl) (by omega) (by omega) (by decide) (by rfl) ?_
 (simp (maxSteps := 1000000) [hle, Pair.row])
 have hrow : ∀ m : List (List D), (∀ r ∈ m, r ∈ l.map Pair.row) → ∀ r ∈ m, r.length = 2 := fun m hm r hr => Jtj6 (f := Pair.row) (fun _ => rfl) r (hm r hr)
 refine ⟨hrow _ fun r hr => List.take_subset _ _ hr, by omega, by omega, ?_⟩
 (refine Jt1b (by rfl) (by rfl) (by rfl) ?_ (by decide) ?_ ?_ ?_)
 ·simp
 ·simp; omega
 ·simp; omega
 (simp (maxSteps := 1000000) [])
 have hln : (l.map Pair.row).length = l.length := by simp
 have fin : ∀ j, addP l q = l.take i ++ q :: l.drop j → (List.take i (l.map Pair.row) ++ [[D.int IntKind.i64 q.v, D.int IntKind.i64 q.l]]) ++ List.drop j (List.take l.length (l.map Pair.row)) = (addP l q).map Pair.row := by
  intro j hj
  rw [hj, List.take_of_length_le (i := l.length) (l := l.map Pair.row) (by simp)]
  simp [Pair.row]
 ((first | refine Xc (fun h1 => ?_) (fun h1 => ?_) | refine Xo (fun h1 => ?_) (fun h1 => ?_)) <;> (try simp only [Xz, Xy] at h1))
 ·have hil : i < l.length := by omega
  have hb : l[i]? = some l[i] := by simp
  rw [hb, Option.some.injEq] at hp
  (simp (maxSteps := 1000000) [h1, hb, Pair.row])
  ((first | refine Xc (fun h2 => ?_) (fun h2 => ?_) | refine Xo (fun h2 => ?_) (fun h2 => ?_)) <;> (try simp only [Xz, Xy] at h2))
  ·have e : l[i] = q := Jt7z h2.1 h2.2
   have hm := hp.2 e
   rw [if_pos hm] at hadd
   have hw2 := Jtmv (k := i) (by omega)
   obtain ⟨i1, hi1⟩ : ∃ i1, i1 = i + 1 := ⟨_, rfl⟩
   rw [← hi1] at hw2 hadd
   have hle1 : i1 ≤ l.length := by omega
   (simp (maxSteps := 1000000) [hw2, h2])
   (simp (maxSteps := 1000000) [hle1, Pair.row])
   (refine Jt1b (by rfl) (by rfl) (by rfl) ?_ (by decide) ?_ ?_ ?_)
   ·exact hrow _ fun r hr => List.take_subset _ _ (List.drop_subset _ _ hr)
   ·simp; omega
   ·simp; omega
   rw [fin i1 hadd]
   (simp (maxSteps := 1000000) [])
   exact hR _ _ (Jt3y _ _ rfl ⟨rfl, rfl⟩)
  ·have hm : q ∉ l := by
    intro hm; have := hp.1 hm
    rw [this] at h2; simp at h2
   rw [if_neg hm] at hadd
   (simp (maxSteps := 1000000) [h2, hle, Pair.row])
   (refine Jt1b (by rfl) (by rfl) (by rfl) ?_ (by decide) ?_ ?_ ?_)
   ·exact hrow _ fun r hr => List.take_subset _ _ (List.drop_subset _ _ hr)
   ·simp; omega
   ·simp; omega
   rw [fin i hadd]
   (simp (maxSteps := 1000000) [])
   exact hR _ _ (Jt3y _ _ rfl ⟨rfl, rfl⟩)
 ·have hm : q ∉ l := by
   intro hm; have := hp.1 hm
   rw [List.getElem?_eq_none (by omega)] at this; cases this
  rw [if_neg hm] at hadd
  (simp (maxSteps := 1000000) [h1, hle, Pair.row])
  (refine Jt1b (by rfl) (by rfl) (by rfl) ?_ (by decide) ?_ ?_ ?_)
  ·exact hrow _ fun r hr => List.take_subset _ _ (List.drop_subset _ _ hr)
  ·simp; omega
  ·simp; omega
  rw [fin i hadd]
  (simp (maxSteps := 1000000) [])
  exact hR _ _ (Jt3y _ _ rfl ⟨rfl, rfl⟩)
end
section
end
def mergeP : List Pair → List Pair → List Pair
 | [], b => b
 | x :: a, [] => x :: a
 | x :: a, y :: b => if lessP y x = true then y :: mergeP (x :: a) b else if y = x then x :: mergeP a b else x :: mergeP a (y :: b)
termination_by a b => a.length + b.length
theorem Jtey (a : List Pair) : mergeP a [] = a := by cases a <;> simp [mergeP]
theorem Jter {a b : List Pair} {q : Pair} : q ∈ mergeP a b ↔ q ∈ a ∨ q ∈ b := by
 induction a, b using mergeP.induct with
 | case1 b => simp [mergeP]
 | case2 x a => simp [mergeP]
 | case3 x a y b h ih => rw [mergeP, if_pos h, List.mem_cons, ih]; simp only [List.mem_cons]; constructor <;> (intro h; rcases h with h | h | h <;> simp_all)
 | case4 a b x h ih => rw [mergeP, if_neg h, if_pos rfl, List.mem_cons, ih]; simp only [List.mem_cons]; constructor <;> grind
 | case5 x a y b h h2 ih => rw [mergeP, if_neg h, if_neg h2, List.mem_cons, ih]; simp only [List.mem_cons]; constructor <;> grind
theorem Jtkq {a b : List Pair} (ha : Srt a) (hb : Srt b) : Srt (mergeP a b) := by
 induction a, b using mergeP.induct with
 | case1 b => simpa [mergeP] using hb
 | case2 x a => simpa [mergeP] using ha
 | case3 x a y b h ih =>
  rw [mergeP, if_pos h]
  refine Jtkj.2 ⟨fun q hq => ?_, ih ha (Jtkj.1 hb).2⟩
  rw [Jter, List.mem_cons] at hq
  rcases hq with (rfl | hq) | hq
  ·exact h
  ·exact Jtdm h ((Jtkj.1 ha).1 q hq)
  ·exact (Jtkj.1 hb).1 q hq
 | case4 a b x h ih =>
  rw [mergeP, if_neg h, if_pos rfl]
  refine Jtkj.2 ⟨fun q hq => ?_, ih (Jtkj.1 ha).2 (Jtkj.1 hb).2⟩
  rw [Jter] at hq
  rcases hq with hq | hq
  ·exact (Jtkj.1 ha).1 q hq
  ·exact (Jtkj.1 hb).1 q hq
 | case5 x a y b h h2 ih =>
  rw [mergeP, if_neg h, if_neg h2]
  have hxy : lessP x y = true := by
   cases e : lessP x y with
   | true => rfl
   | false => exact absurd (Jtdl (by simpa using h) e) h2
  refine Jtkj.2 ⟨fun q hq => ?_, ih (Jtkj.1 ha).2 hb⟩
  rw [Jter, List.mem_cons] at hq
  rcases hq with hq | rfl | hq
  ·exact (Jtkj.1 ha).1 q hq
  ·exact hxy
  ·exact Jtdm hxy ((Jtkj.1 hb).1 q hq)
section
theorem Jtgc {P : Program} {p : Nums} (A : All P p) (a b : List Pair) (h0 : a.length < 1000000) (h1 : b.length < 1000000) : Jt3w P p.pairset_Union [.d (pairsD a), .d (pairsD b)] [] fun o H' => o = .ret (.own 2 ((mergeP a b).map Pair.row)) ∧ H' = [] := by
 refine A.pairset_Union.run rfl fun R hR => ?_
 have hw : IntKind.i64.wrap ((a.length : Int) + (b.length : Int)) = ((a.length + b.length : Nat) : Int) := Jtmu (by omega)
 obtain ⟨n, hn⟩ : ∃ n, n = a.length + b.length := ⟨_, rfl⟩
 rw [← hn] at hw
 (simp (maxSteps := 1000000) [Jtbc, pairsD, hw])
 refine Jt24 (n := n) (by rfl) (by rfl) (by omega) (by omega) (by decide) (by rfl) ?_
 (simp (maxSteps := 1000000) [])
 have hrow : ∀ l : List Pair, ∀ r ∈ l.map Pair.row, r.length = 2 := fun l => Jtj6 fun x => rfl
 refine Jtd (fun s : List Pair × List Pair × List Pair => ⟨[(5, .own 2 (s.2.2.map Pair.row)), (4, .nils), (1, .d (.sl (s.2.1.map Pair.row))), (0, .d (.sl (s.1.map Pair.row)))], []⟩)
  (fun s => s.2.2 ++ mergeP s.1 s.2.1 = mergeP a b ∧ s.1.length + s.2.1.length + s.2.2.length ≤ n) (fun s => s.1.length + s.2.1.length) (a, b, []) ⟨by simp, by simp; omega⟩ (by simp only [List.map_nil]; (exact wkA)) ?_
 rintro ⟨xs, ys, out⟩ ⟨hm, hlen⟩ N hN
 simp only at hm hlen hN ⊢
 have fin : xs = [] ∨ ys = [] → (out.map Pair.row ++ xs.map Pair.row) ++ ys.map Pair.row = (mergeP a b).map Pair.row := by
  intro h
  rw [← hm]
  rcases h with rfl | rfl
  ·simp [mergeP]
  ·simp [Jtey]
 cases xs with
 | nil =>
  (simp (maxSteps := 1000000) [])
  (refine Jt1b (by rfl) (by rfl) (by rfl) ?_ (by decide) ?_ ?_ ?_)
  ·simp
  ·simp; omega
  ·simp; omega
  (simp (maxSteps := 1000000) [])
  (refine Jt1b (by rfl) (by rfl) (by rfl) ?_ (by decide) ?_ ?_ ?_)
  ·exact hrow _
  ·simp at hlen ⊢; omega
  ·simp at hlen ⊢; omega
  (simp (maxSteps := 1000000) [])
  exact hR _ _ (Jt3y _ _ rfl ⟨by simp [← fin (.inl rfl)], rfl⟩)
 | cons x xs =>
  have hx0 : ¬ ((xs.length : Int) + 1 ≤ 0) := by omega
  have hx1 : (0 : Int) < (xs.length : Int) + 1 := by omega
  cases ys with
  | nil =>
   (simp (maxSteps := 1000000) [hx1])
   (refine Jt1b (by rfl) (by rfl) (by rfl) ?_ (by decide) ?_ ?_ ?_)
   ·simpa using hrow (x :: xs)
   ·simp at hlen ⊢; omega
   ·simp at hlen ⊢; omega
   (simp (maxSteps := 1000000) [])
   (refine Jt1b (by rfl) (by rfl) (by rfl) ?_ (by decide) ?_ ?_ ?_)
   ·simp
   ·simp at hlen ⊢; omega
   ·simp at hlen ⊢; omega
   (simp (maxSteps := 1000000) [])
   have := fin (.inr rfl)
   simp only [List.map_cons, List.map_nil, List.append_nil] at this
   exact hR _ _ (Jt3y _ _ rfl ⟨by simp [← this], rfl⟩)
  | cons y ys =>
   have hy1 : (0 : Int) < (ys.length : Int) + 1 := by omega
   have hx2 : (1 : Int) ≤ (xs.length : Int) + 1 := by omega
   have hy2 : (1 : Int) ≤ (ys.length : Int) + 1 := by omega
   have htx : (xs.map Pair.row).take xs.length = xs.map Pair.row := List.take_of_length_le (by simp)
   have hty : (ys.map Pair.row).take ys.length = ys.map Pair.row := List.take_of_length_le (by simp)
   simp only [List.length_cons] at hlen
   rw [mergeP] at hm
   (simp (maxSteps := 1000000) [hx1, hy1, Pair.row])
   (refine Jty (Jtg9 A y x) (by rfl) (by rfl) ?_)
   (simp (maxSteps := 1000000) [])
   ((first | refine Xc (fun h2 => ?_) (fun h2 => ?_) | refine Xo (fun h2 => ?_) (fun h2 => ?_)) <;> (try simp only [Xz, Xy] at h2))
   ·rw [if_pos h2] at hm
    have hne : ¬ x = y := fun h => Jtdk h2 h.symm
    have hs1 : IntKind.i64.wrap 1 = 1 := by rw [wrap_i64 (by omega) (by omega)]
    (simp (maxSteps := 1000000) [h2, Pair.row])
    (refine Jt1b (by rfl) (by rfl) (by rfl) ?_ (by decide) ?_ ?_ ?_)
    ·simp
    ·simp at hlen ⊢; omega
    ·simp at hlen ⊢; omega
    (simp (maxSteps := 1000000) [Pair.row, Jtfz, hne, hy2, hty])
    refine hN _ (x :: xs, ys, out ++ [y]) ⟨by simp only; rw [← hm]; simp, by simp; omega⟩ ?_ (by simp only [List.length_cons]; omega)
    simp only [List.map_cons, List.map_append, List.map_nil, Pair.row]
    (exact wkA)
   ·have h2' : lessP y x = false := by simpa using h2
    rw [if_neg (by rw [h2']; simp)] at hm
    (simp (maxSteps := 1000000) [h2', Pair.row])
    (refine Jt1b (by rfl) (by rfl) (by rfl) ?_ (by decide) ?_ ?_ ?_)
    ·simp
    ·simp at hlen ⊢; omega
    ·simp at hlen ⊢; omega
    by_cases e : y = x
    ·rw [if_pos e] at hm
     subst e
     (simp (maxSteps := 1000000) [Pair.row, Jtfz, hx2, hy2, htx, hty])
     refine hN _ (xs, ys, out ++ [y]) ⟨by simp only; rw [← hm]; simp, by simp; omega⟩ ?_ (by simp only [List.length_cons]; omega)
     simp only [List.map_cons, List.map_append, List.map_nil, Pair.row]
     (exact wkA)
    ·rw [if_neg e] at hm
     (simp (maxSteps := 1000000) [Pair.row, Jtfz, e, hx2, htx])
     refine hN _ (xs, y :: ys, out ++ [x]) ⟨by simp only; rw [← hm]; simp, by simp; omega⟩ ?_ (by simp only [List.length_cons]; omega)
     simp only [List.map_cons, List.map_append, List.map_nil, Pair.row]
     (exact wkA)
end
theorem Jtj0 {rows : List (List D)} {e k : Nat} (he : ∀ r ∈ rows, r.length = e) (hk : k < rows.length) : ((Jtiw rows).drop (k * e)).take e = rows[k].map AV.d := by
 unfold Jtiw
 induction rows generalizing k with
 | nil => simp at hk
 | cons r rows ih =>
  have h1 := he r (by simp)
  cases k with
  | zero => simp only [Nat.zero_mul, List.drop_zero, List.flatten_cons, List.map_append, List.getElem_cons_zero]; rw [List.take_left' (by simp [h1])]
  | succ k =>
   have h2 := ih (fun r hr => he r (by simp [hr])) (k := k) (by simpa using hk)
   simp only [List.flatten_cons, List.map_append, List.getElem_cons_succ]
   have e1 : (k + 1) * e = (r.map AV.d).length + k * e := by rw [Nat.add_mul]; simp [h1]; omega
   rw [e1, List.drop_length_add_append]; exact h2
theorem Jtfy {l : List Pair} {k : Nat} (hk : k < l.length) : ((Jtiw (l.map Pair.row)).drop (k * 2)).take 2 = [AI l[k].v, AI l[k].l] := by
 rw [Jtj0 (e := 2) (rows := l.map Pair.row) (Jtj6 (f := Pair.row) fun _ => rfl) (by simpa using hk)]; simp [Pair.row]
theorem Jtiy (l : List Pair) : (Jtiw (l.map Pair.row)).length = l.length * 2 := by
 rw [Jtj2 (e := 2) (Jtj6 fun _ => rfl)]; simp
theorem Jtj1 (rows : List (List D)) : (Jtiw rows).map AV.erase = Jtiw rows := by
 simp [Jtiw, AV.erase, Function.comp_def]
def ddStep (out : List Pair) (q : Pair) : List Pair := if out.getLast? = some q then out else out ++ [q]
def dd (l : List Pair) : List Pair := l.foldl ddStep []
theorem Jt7l (l : List Pair) (q : Pair) : dd (l ++ [q]) = ddStep (dd l) q := by simp [dd]
theorem Jt7k (l : List Pair) : (dd l).getLast? = l.getLast? := by
 induction l using Jtee with
 | h0 => rfl
 | h1 l q ih =>
  rw [Jt7l, ddStep]
  split
  ·rename_i h; rw [h]; simp
  ·simp
theorem mem_dd {l : List Pair} {q : Pair} : q ∈ dd l ↔ q ∈ l := by
 induction l using Jtee with
 | h0 => simp [dd]
 | h1 l x ih =>
  rw [Jt7l, ddStep]
  split
  ·rename_i h
   rw [ih, List.mem_append]
   have : x ∈ l := by rw [Jt7k] at h; exact List.mem_of_getLast? h
   constructor
   ·exact .inl
   ·rintro (h | h)
    ·exact h
    ·simp at h; subst h; exact this
  ·rw [List.mem_append, List.mem_append, ih]
theorem Jt7n {l : List Pair} {k : Nat} (h0 : 0 < k) (h : k < l.length) : dd (l.take (k + 1)) = if l[k - 1]'(by omega) = l[k] then dd (l.take k) else dd (l.take k) ++ [l[k]] := by
 have e : l.take (k + 1) = l.take k ++ [l[k]] := by rw [List.take_add_one, List.getElem?_eq_getElem h]; rfl
 rw [e, Jt7l, ddStep, Jt7k]
 have : (l.take k).getLast? = some (l[k - 1]'(by omega)) := by
  rw [List.getLast?_eq_getElem?, List.getElem?_take]; simp only [List.length_take, Option.ite_none_right_eq_some]; rw [show min k l.length - 1 = k - 1 by omega, List.getElem?_eq_getElem (by omega)]; exact ⟨by omega, rfl⟩
 rw [this]; simp
def cptP (l : List Pair) : List Pair := dd l ++ List.replicate (l.length - (dd l).length) (⟨0, 0⟩ : Pair)
theorem Jt7e {l : List Pair} (h : dd l = l) : cptP l = l := by unfold cptP; rw [h]; simp
theorem srt_dd {l : List Pair} (h : l.Pairwise fun a b => lessP b a = false) : Srt (dd l) := by
 induction l using Jtee with
 | h0 => exact List.Pairwise.nil
 | h1 l x ih =>
  have h2 := List.pairwise_append.1 h
  have ih := ih h2.1
  rw [Jt7l, ddStep]
  split
  ·exact ih
  ·rename_i hl
   refine List.pairwise_append.2 ⟨ih, List.pairwise_singleton _ _, ?_⟩
   intro a ha b hb
   simp at hb; subst hb
   have hab := h2.2.2 a (mem_dd.1 ha) b (by simp)
   cases e : lessP a b with
   | true => rfl
   | false =>
    have eab := Jtdl e hab
    subst eab
    obtain ⟨j, hj, ej⟩ := List.getElem_of_mem ha
    have hne : dd l ≠ [] := List.ne_nil_of_mem ha
    have hjl : j < (dd l).length - 1 := by
     rcases Nat.lt_or_ge j ((dd l).length - 1) with h | h
     ·exact h
     ·refine absurd ?_ hl
      rw [List.getLast?_eq_getElem?, show (dd l).length - 1 = j by omega, List.getElem?_eq_getElem hj, ej]
    have h3 := Jtko ih hjl (by omega)
    rw [ej] at h3
    have hm : (dd l)[(dd l).length - 1]'(by omega) ∈ l := mem_dd.1 (List.getElem_mem _)
    rw [h2.2.2 _ hm a (by simp)] at h3; cases h3
section
theorem Jtk3 {P : Program} {p : Nums} (A : All P p) : Jt3w P p.slices_Clone_Pair [.d (.sl [])] [] fun o H' => o = .ret (.d (.sl [])) ∧ H' = [] := by
 refine A.slices_Clone_Pair.run rfl fun R hR => ?_
 (simp (maxSteps := 1000000) [Jtc3])
 refine Jt1v (by rfl) (fun _ => ?_) ?_
 ·(simp (maxSteps := 1000000) [])
  exact hR _ _ (Jt42 _ _ rfl (by (exact wkvA)) ⟨rfl, rfl⟩)
 ·(simp (maxSteps := 1000000) [])
  refine Jt1a (by rfl) (by rfl) (by simp) (by decide) (by simp) (by simp) (fun hn => ?_) fun hn => absurd rfl hn
  (simp (maxSteps := 1000000) [])
  exact hR _ _ (Jt42 _ _ rfl (by (exact wkvA)) ⟨rfl, rfl⟩)
theorem Jtk2 {P : Program} {p : Nums} (A : All P p) (l : List Pair) (hl : l ≠ []) (h0 : l.length < 1000000) : Jt3w P p.slices_Clone_Pair [.d (pairsD l)] [] fun o H' => o = .ret (.hsl 0 0 2 l.length) ∧ H' = [.mem (Jtiw (l.map Pair.row))] := by
 refine A.slices_Clone_Pair.run rfl fun R hR => ?_
 (simp (maxSteps := 1000000) [Jtc3, pairsD])
 refine Jt1v (by rfl) (fun h => absurd (by simpa using h) hl) ?_
 (simp (maxSteps := 1000000) [])
 refine Jt18 (.inl (by rfl)) (by rfl) (Jtj6 fun _ => rfl) (by decide) (by simp; omega) (by simp; omega) (by simpa using hl) ?_
 (simp (maxSteps := 1000000) [])
 exact hR _ _ (Jt41 _ _ _ rfl (by (exact wkA)) ⟨by simp, rfl⟩)
theorem Jtk5 {P : Program} {p : Nums} (A : All P p) : Jt3w P p.slices_Compact_Pair [.d (.sl [])] [] fun o H' => o = .ret (.d (.sl [])) ∧ H' = [] := by
 refine A.slices_Compact_Pair.run rfl fun R hR => ?_
 (simp (maxSteps := 1000000) [Jtc4])
 exact hR _ _ (Jt42 _ _ rfl (by (exact wkvA)) ⟨rfl, rfl⟩)
theorem Jtk4 {P : Program} {p : Nums} (A : All P p) (l : List Pair) (hl : l ≠ []) (h0 : l.length < 1000000) : Jt3w P p.slices_Compact_Pair [.hsl 0 0 2 l.length] [.mem (Jtiw (l.map Pair.row))] fun o H' => o = .ret (.hsl 0 0 2 (dd l).length) ∧ H' = [.mem (Jtiw ((cptP l).map Pair.row))] := by
 refine A.slices_Compact_Pair.run rfl fun R hR => ?_
 (simp (maxSteps := 1000000) [Jtc4])
 have hpos : 0 < l.length := List.length_pos_iff.2 hl
 have dd1 : dd (l.take 1) = l.take 1 := by
  cases l with
  | nil => exact absurd rfl hl
  | cons x l => simp [dd, ddStep]
 have done : dd l = l → R .ret ⟨[(2, .hsl 0 0 2 l.length)], [.mem (Jtiw (l.map Pair.row))]⟩ := by
  intro e
  refine hR _ _ (Jt41 _ (.hsl 0 0 2 l.length) [.mem (Jtiw (l.map Pair.row))] rfl (by (exact wkA)) ⟨by rw [e], by rw [Jt7e e]⟩)
 ((first | refine Xc (fun h1 => ?_) (fun h1 => ?_) | refine Xo (fun h1 => ?_) (fun h1 => ?_)) <;> (try simp only [Xz, Xy] at h1))
 ·have e1 : l.length = 1 := by omega
  have : dd l = l := by rw [show l.take 1 = l from List.take_of_length_le (by omega)] at dd1; exact dd1
  (simp (maxSteps := 1000000) [h1])
  refine hR _ _ (Jt41 _ (.hsl 0 0 2 l.length) [.mem (Jtiw (l.map Pair.row))] rfl (by (exact wkA)) ⟨by rw [this], by rw [Jt7e this]⟩)
 (simp (maxSteps := 1000000) [h1])
 refine Jtd (fun k : Nat => ⟨[(3, AI k), (2, .nils), (0, .hsl 0 0 2 l.length)], [.mem (Jtiw (l.map Pair.row))]⟩) (fun k => 1 ≤ k ∧ k ≤ l.length ∧ dd (l.take k) = l.take k) (fun k => l.length - k) 1 ⟨by omega, by omega, dd1⟩ (by (exact wkA)) ?_
 rintro k ⟨hk1, hk, hd⟩ N hN
 have hlc := Jtiy l
 (simp (maxSteps := 1000000) [])
 ((first | refine Xc (fun h2 => ?_) (fun h2 => ?_) | refine Xo (fun h2 => ?_) (fun h2 => ?_)) <;> (try simp only [Xz, Xy] at h2))
 ·have hkl : k < l.length := by omega
  have hw := Jtmv (k := k) (by omega)
  obtain ⟨km, hkm⟩ : ∃ km, km = k - 1 := ⟨_, rfl⟩
  have hw2 : IntKind.i64.wrap ((k : Int) - 1) = (km : Int) := by rw [wrap_i64 (by omega) (by omega)]; omega
  have hp1 := Jtfy (l := l) (k := km) (by omega)
  have hp2 := Jtfy (l := l) (k := k) hkl
  have hce := Jtj1 (l.map Pair.row)
  obtain ⟨C, hC⟩ : ∃ C, C = Jtiw (l.map Pair.row) := ⟨_, rfl⟩
  have hkml : km < l.length := by omega
  obtain ⟨x, hx⟩ : ∃ x, x = l[k] := ⟨_, rfl⟩
  obtain ⟨y, hy⟩ : ∃ y, y = l[km] := ⟨_, rfl⟩
  rw [← hC] at hlc hp1 hp2 hce ⊢
  rw [← hx] at hp2
  rw [← hy] at hp1
  have hl1 : km * 2 + 2 ≤ C.length := by omega
  have hl2 : k * 2 + 2 ≤ C.length := by omega
  have hk2 : (km : Int) < (l.length : Int) := by omega
  (simp (maxSteps := 1000000) [h2, hw2, hk2, hl1, hl2, hp1, hp2, hce, Jtfz])
  ((first | refine Xc (fun h3 => ?_) (fun h3 => ?_) | refine Xo (fun h3 => ?_) (fun h3 => ?_)) <;> (try simp only [Xz, Xy] at h3))
  ·have hsl : IntKind.i64.wrap 1 = 1 := by rw [wrap_i64 (by omega) (by omega)]
   have hkle : k ≤ l.length := by omega
   (simp (maxSteps := 1000000) [h3, hkle])
   have hdk : dd (l.take (k + 1)) = l.take k := by
    rw [Jt7n hk1 hkl, if_pos, hd]
    rw [← hx, h3, hy]; simp only [hkm]
   refine Jtd (fun s : Nat × Nat × List Pair => ⟨[(5, AI s.1), (4, .hsl 0 (k * 2) 2 (l.length - k)), (3, AI s.2.1), (2, .nils), (0, .hsl 0 0 2 l.length)], [.mem (Jtiw (s.2.2.map Pair.row))]⟩)
    (fun s => 1 ≤ s.1 ∧ k + s.1 ≤ l.length ∧ s.2.1 + 1 ≤ k + s.1 ∧ s.2.2.length = l.length ∧ s.2.2.take s.2.1 = dd (l.take (k + s.1)) ∧ s.2.2.drop (k + s.1 - 1) = l.drop (k + s.1 - 1)) (fun s => l.length - s.1) (1, k, l)
    ⟨by simp, by simp; omega, by simp, rfl, hdk.symm, rfl⟩ (by rw [hC]; (exact wkA)) ?_
   rintro ⟨j, i, cur⟩ ⟨hj1, hjn, hij, hcl, hct, hcd⟩ N2 hN2
   simp only at hj1 hjn hij hcl hct hcd hN2 ⊢
   have hlc2 := Jtiy cur
   have hce2 := Jtj1 (cur.map Pair.row)
   (simp (maxSteps := 1000000) [])
   ((first | refine Xc (fun h4 => ?_) (fun h4 => ?_) | refine Xo (fun h4 => ?_) (fun h4 => ?_)) <;> (try simp only [Xz, Xy] at h4))
   ·have h4' : k + j < l.length := by omega
    have hcur : ∀ m, k + j - 1 ≤ m → (h : m < l.length) → cur[m]'(by omega) = l[m] := by
     intro m h5 h6
     have e1 : (cur.drop (k + j - 1))[m - (k + j - 1)]? = cur[m]? := by rw [List.getElem?_drop, Nat.add_sub_cancel' h5]
     have e2 : (l.drop (k + j - 1))[m - (k + j - 1)]? = l[m]? := by rw [List.getElem?_drop, Nat.add_sub_cancel' h5]
     rw [hcd, e2, List.getElem?_eq_getElem h6, List.getElem?_eq_getElem (by omega)] at e1
     injection e1 with e1; exact e1.symm
    obtain ⟨jm, hjm⟩ : ∃ jm, jm = j - 1 := ⟨_, rfl⟩
    have hwj := Jtmv (k := j) (by omega)
    have hwi := Jtmv (k := i) (by omega)
    have hwjm : IntKind.i64.wrap ((j : Int) - 1) = (jm : Int) := by rw [wrap_i64 (by omega) (by omega)]; omega
    have hq1 := Jtfy (l := cur) (k := k + j) (by omega)
    have hq2 := Jtfy (l := cur) (k := k + jm) (by omega)
    rw [hcur _ (by omega) (by omega), Nat.add_mul] at hq1 hq2
    have hdj := Jt7n (l := l) (k := k + j) (by omega) h4'
    have ejm : k + j - 1 = k + jm := by omega
    simp only [ejm] at hdj hcur hcd
    obtain ⟨u, hu⟩ : ∃ u, u = l[k + j] := ⟨_, rfl⟩
    obtain ⟨v, hv⟩ : ∃ v, v = l[k + jm]'(by omega) := ⟨_, rfl⟩
    rw [← hu] at hq1 hdj
    rw [← hv] at hq2 hdj
    have hset := Jtkh (rows := cur.map Pair.row) (e := 2) (k := i) (row := u.row) (Jtj6 fun _ => rfl) rfl (by simp; omega)
    obtain ⟨E, hE⟩ : ∃ E, E = Jtiw (cur.map Pair.row) := ⟨_, rfl⟩
    rw [← hE] at hlc2 hce2 hq1 hq2 hset ⊢
    have hm1 : k * 2 + j * 2 + 2 ≤ E.length := by omega
    have hm2 : k * 2 + jm * 2 + 2 ≤ E.length := by omega
    have hm3 : i * 2 + 2 ≤ E.length := by omega
    have hn1 : (j : Int) < ((l.length - k : Nat) : Int) := by omega
    have hn2 : (jm : Int) < ((l.length - k : Nat) : Int) := by omega
    have hn3 : (i : Int) < (l.length : Int) := by omega
    have hcd' : ∀ c : List Pair, c.drop (k + jm) = l.drop (k + jm) → c.drop (k + j) = l.drop (k + j) := by
     intro c hc
     have := congrArg (List.drop 1) hc
     rw [List.drop_drop, List.drop_drop] at this
     rwa [show k + jm + 1 = k + j by omega] at this
    (simp (maxSteps := 1000000) [h4, hwjm, hn1, hn2, hm1, hm2, hq1, hq2, hce2, Jtfz])
    ((first | refine Xc (fun h5 => ?_) (fun h5 => ?_) | refine Xo (fun h5 => ?_) (fun h5 => ?_)) <;> (try simp only [Xz, Xy] at h5))
    ·(simp (maxSteps := 1000000) [h5, hn1, hn2, hn3, hm1, hm2, hm3, hq1, hq2, hce2, hwi, hwj])
     rw [if_neg (by intro e; exact h5 e.symm)] at hdj
     have hset' : List.take (i * 2) E ++ AI u.v :: AI u.l :: List.drop (i * 2 + 2) E = Jtiw ((cur.set i u).map Pair.row) := by
      rw [List.map_set, ← hset]; simp [spl, Pair.row]
     rw [hset']
     refine hN2 _ (j + 1, i + 1, cur.set i u) ⟨by simp only; omega, by simp only; omega, by simp only; omega, by simpa using hcl, ?_, ?_⟩ (by simp only; (exact wkA)) (by simp only; omega)
     ·simp only
      rw [← Nat.add_assoc, hdj, ← hct, List.take_add_one, List.getElem?_set_self (by omega), List.take_set_of_le (by omega)]; rfl
     ·simp only
      rw [show k + (j + 1) - 1 = k + j by omega, List.drop_set_of_lt (by omega)]; exact hcd' _ hcd
    ·(simp (maxSteps := 1000000) [h5, hwj])
     rw [if_pos (by simpa using Eq.symm (by simpa using h5))] at hdj
     refine hN2 _ (j + 1, i, cur) ⟨by simp only; omega, by simp only; omega, by simp only; omega, hcl, ?_, ?_⟩ (by simp only; rw [hE]; (exact wkA)) (by simp only; omega)
     ·simp only; rw [hct, ← Nat.add_assoc, hdj]
     ·simp only; rw [show k + (j + 1) - 1 = k + j by omega]; exact hcd' _ hcd
   ·have hj2 : k + j = l.length := by omega
    rw [hj2, List.take_length] at hct
    have hil : i < l.length := by omega
    have hil' : i ≤ l.length := by omega
    have hdl : (dd l).length = i := by rw [← hct]; simp; omega
    have hzero : ¬ (l.length - i = 0) := by omega
    (simp (maxSteps := 1000000) [hil'])
    refine Jt1l (by rfl) (by rfl) (by decide) (by omega) (by rfl) (by omega) ?_
    obtain ⟨T, hT⟩ : ∃ T : List Pair, T = List.replicate (l.length - i) (⟨0, 0⟩ : Pair) := ⟨_, rfl⟩
    obtain ⟨U, hU⟩ : ∃ U : List Pair, U = dd l ++ T := ⟨_, rfl⟩
    have hfin : spl (Jtiw (cur.map Pair.row)) (i * 2) (Jtiw (List.replicate (l.length - i) [I 0, I 0])) = Jtiw (U.map Pair.row) := by
     have h7 : (Jtiw (List.replicate (l.length - i) [I 0, I 0])).length = (l.length - i) * 2 := by
      rw [Jtj2 (e := 2) (fun r hr => by rw [List.eq_of_mem_replicate hr]; rfl)]; simp
     rw [spl, Jtj3 (e := 2) (rows := cur.map Pair.row) (Jtj6 (f := Pair.row) fun _ => rfl), h7, List.drop_of_length_le (by omega), List.append_nil, ← List.map_take, hct, hU, hT]
     simp [Jtiw, Pair.row]
    rw [hfin]
    (simp (maxSteps := 1000000) [hil'])
    refine hR _ _ (Jt41 _ (.hsl 0 0 2 i) [.mem (Jtiw (U.map Pair.row))] rfl (by (exact wkA)) ⟨by rw [hdl], by rw [hU, hT, cptP, hdl]⟩)
  ·(simp (maxSteps := 1000000) [h3, hw])
   refine hN _ (k + 1) ⟨by omega, hkl, ?_⟩ (by rw [hC]; (exact wkA)) (by omega)
   have e : ¬ l[k - 1]'(by omega) = l[k] := by
    rw [← hx]; intro e; apply h3; rw [← e, hy]; simp only [hkm]
   rw [Jt7n hk1 hkl, if_neg e, hd, List.take_add_one, List.getElem?_eq_getElem hkl]; rfl
 ·have hk' : k = l.length := by omega
  subst hk'
  rw [List.take_length] at hd
  (simp (maxSteps := 1000000) [])
  refine hR _ _ (Jt41 _ (.hsl 0 0 2 l.length) [.mem (Jtiw (l.map Pair.row))] rfl (by (exact wkA)) ⟨by rw [hd], by rw [Jt7e hd]⟩)
end
end Go.AE
