/- A part of the proof: the evaluator over abstract values, its codes, the contracts of the functions. -/
import Derived.Test.YtemgahndfjaogaaGreatG2
import Derived.Sort.Grow
import Derived.Deep.Draws
set_option linter.unusedVariables false
set_option linter.unusedSimpArgs false
set_option maxRecDepth 100000
namespace Go.AE
@[simp] abbrev zi (n : Int) : AV := .d (.int .i64 n)
@[simp] abbrev ci (n : Int) : Opd := .c (.d (.int .i64 n))
@[simp] abbrev qo (d : Nat) (io : AO) : IOp := ⟨some d, io, none, false⟩
@[simp] abbrev qp (d : Nat) (io : AO) : IOp := ⟨some d, io, none, true⟩
@[simp] abbrev qn (io : AO) : IOp := ⟨none, io, none, false⟩
@[simp] abbrev qm (io : AO) : IOp := ⟨none, io, none, true⟩
structure Nums where
 law16_CheckerMatchesReference : Nat
 law16_CheckerOnce : Nat
 law16_CheckerLocal : Nat
 law16_CheckerSubset : Nat
 law16_CheckerKeeps : Nat
 law16_CheckerSound : Nat
 law22_SpillallAccepted : Nat
 law16_awake : Nat
 ref16_Few : Nat
 checker_Valid : Nat
 ref16_Valid : Nat
 checker_Check : Nat
 ref16_Check : Nat
 ref07_Successors : Nat
 checker_Bound : Nat
 ref14_Check : Nat
 ref11_Missing : Nat
 ref16_Copy : Nat
 ref16_Same : Nat
 law16_simulates : Nat
 law22_awake : Nat
 ref07_Few : Nat
 ref07_Check : Nat
 spillall_Cert : Nat
 ref07_Same : Nat
 ref08_Few : Nat
 ref15_Few : Nat
 source_Check : Nat
 machine_Check : Nat
 edge_Valid : Nat
 ref08_Check : Nat
 ref15_Valid : Nat
 checker_begin : Nat
 blockcheck_Check : Nat
 source_Successors : Nat
 edge_Implies : Nat
 ref15_Initial : Nat
 source_Code : Nat
 machine_Code : Nat
 ref14_fail : Nat
 ref13_Code : Nat
 ref13_Terms : Nat
 ref14_grow : Nat
 ref12_Copy : Nat
 ref12_Move : Nat
 ref05_UsesA : Nat
 ref14_use : Nat
 ref05_UsesB : Nat
 ref05_UsesD : Nat
 ref12_Define : Nat
 ref11_Has : Nat
 ref07_Copy : Nat
 ref08_Copy : Nat
 ref08_Same : Nat
 ref15_Same : Nat
 interp_Exec : Nat
 execute_Exec : Nat
 ref09_Values : Nat
 ref09_Prefix : Nat
 spillall_Block : Nat
 spillall_Moves : Nat
 ref07_Code : Nat
 ref07_Instr : Nat
 ref07_Term : Nat
 slices_Clone_Instr : Nat
 spillall_invariant : Nat
 ref08_Code : Nat
 source_block : Nat
 machine_block : Nat
 edge_total : Nat
 edge_pairs : Nat
 ref08_Instr : Nat
 ref08_Moves : Nat
 ref04_InRange : Nat
 ref11_Less : Nat
 edge_Entry : Nat
 align_Code : Nat
 align_Terms : Nat
 pairset_Make : Nat
 blockcheck_checker_run : Nat
 pairset_Missing : Nat
 ref13_Operations : Nat
 ref13_Others : Nat
 ref13_Same : Nat
 ref11_Add : Nat
 ref11_Same : Nat
 interp_begin : Nat
 interp_state_step : Nat
 execute_begin : Nat
 execute_state_step : Nat
 spillall_builder_instr : Nat
 spillall_builder_add : Nat
 spillall_load : Nat
 ref07_in : Nat
 location_Slot : Nat
 source_Instr : Nat
 source_Term : Nat
 machine_Instr : Nat
 location_InRange : Nat
 pairset_Less : Nat
 edge_Initial : Nat
 align_skip_Instr : Nat
 align_copied : Nat
 align_skip_Mach : Nat
 align_moved : Nat
 align_Same : Nat
 slices_Clone_Pair : Nat
 slices_SortFunc_Pair : Nat
 pairset_compare : Nat
 slices_Compact_Pair : Nat
 blockcheck_checker_run_1 : Nat
 blockcheck_checker_row : Nat
 blockcheck_checker_use : Nat
 interp_state_instr : Nat
 interp_state_term : Nat
 execute_state_instr : Nat
 execute_state_term : Nat
 opcode_Of : Nat
 spillall_store : Nat
 location_Reg : Nat
 opcode_Source : Nat
 source_within : Nat
 source_blank : Nat
 opcode_Machine : Nat
 machine_others : Nat
 machine_moves : Nat
 location_IsSlot : Nat
 location_Index : Nat
 slices_pdqsortCmpFunc_Pair : Nat
 math_bits_Len : Nat
 blockcheck_checker_cost : Nat
 blockcheck_checker_become : Nat
 transfer_Copy : Nat
 transfer_Move : Nat
 blockcheck_checker_instr : Nat
 pairset_Has : Nat
 alu_Eval : Nat
 execute_state_compute : Nat
 execute_state_move : Nat
 execute_state_emit : Nat
 opcode_known : Nat
 machine_others_1 : Nat
 machine_others_2 : Nat
 machine_moves_1 : Nat
 machine_moves_2 : Nat
 slices_insertionSortCmpFunc_Pair : Nat
 slices_heapSortCmpFunc_Pair : Nat
 slices_breakPatternsCmpFunc_Pair : Nat
 slices_choosePivotCmpFunc_Pair : Nat
 slices_reverseRangeCmpFunc_Pair : Nat
 slices_partialInsertionSortCmpFunc_Pair : Nat
 slices_partitionEqualCmpFunc_Pair : Nat
 slices_partitionCmpFunc_Pair : Nat
 math_bits_Len32 : Nat
 math_bits_Len64 : Nat
 transfer_rename : Nat
 pairset_DropV : Nat
 transfer_Copy_1 : Nat
 pairset_DropL : Nat
 transfer_Move_1 : Nat
 transfer_Define : Nat
 pairset_find : Nat
 alu_operation : Nat
 execute_state_at : Nat
 slices_siftDownCmpFunc_Pair : Nat
 slices_nextPowerOfTwo : Nat
 slices_xorshift_Next : Nat
 slices_medianAdjacentCmpFunc_Pair : Nat
 slices_medianCmpFunc_Pair : Nat
 pairset_Union : Nat
 pairset_filter : Nat
 pairset_DropV_1 : Nat
 pairset_DropL_1 : Nat
 pairset_Add : Nat
 alu_operation_1 : Nat
 alu_operation_2 : Nat
 alu_operation_3 : Nat
 alu_operation_4 : Nat
 alu_operation_5 : Nat
 alu_operation_6 : Nat
 alu_operation_7 : Nat
 alu_operation_8 : Nat
 alu_operation_9 : Nat
 alu_operation_10 : Nat
 alu_operation_11 : Nat
 alu_truth : Nat
 alu_operation_12 : Nat
 slices_order2CmpFunc_Pair : Nat
 law11_PairsetMatchesReference : Nat
 law11_PairsetMatchesSets : Nat
 law11_PairsetOrder : Nat
 law11_PairsetSubsets : Nat
 law23_LivenessMatchesReference : Nat
 law23_LivenessEquations : Nat
 law23_LivenessSound : Nat
 law23_LivenessNecessary : Nat
 law23_LivenessAppended : Nat
 law11_PairsetDrops : Nat
 law11_PairsetKeeps : Nat
 law11_awake : Nat
 ref11_Make : Nat
 pairset_Sorted : Nat
 ref11_Sorted : Nat
 pairset_Subset : Nat
 law23_awake : Nat
 ref23_Used : Nat
 ref23_Defines : Nat
 ref07_Numbers : Nat
 liveness_Uses : Nat
 liveness_Defs : Nat
 ref23_Same : Nat
 liveness_In : Nat
 ref23_In : Nat
 liveness_Out : Nat
 ref23_Out : Nat
 ref23_Has : Nat
 ref09_Right : Nat
 ref09_Exec : Nat
 ref09_Step : Nat
 ref09_Copy : Nat
 law11_spoil : Nat
 liveness_scan : Nat
 liveness_set_sorted : Nat
 liveness_solve : Nat
 ref23_live : Nat
 liveness_exit : Nat
 ref09_Start : Nat
 ref06_Eval : Nat
 liveness_scan_1 : Nat
 slices_Sort_int : Nat
 ref06_bits : Nat
 ref06_half : Nat
 ref06_truth : Nat
 slices_pdqsortOrdered_int : Nat
 ref06_bit : Nat
 slices_insertionSortOrdered_int : Nat
 slices_heapSortOrdered_int : Nat
 slices_breakPatternsOrdered_int : Nat
 slices_choosePivotOrdered_int : Nat
 slices_reverseRangeOrdered_int : Nat
 slices_partialInsertionSortOrdered_int : Nat
 cmp_Less_int : Nat
 slices_partitionEqualOrdered_int : Nat
 slices_partitionOrdered_int : Nat
 slices_siftDownOrdered_int : Nat
 slices_medianAdjacentOrdered_int : Nat
 slices_medianOrdered_int : Nat
 cmp_isNaN_int : Nat
 slices_order2Ordered_int : Nat
 law12_TransferMatchesReference : Nat
 law12_TransferSound : Nat
 law12_TransferComplete : Nat
 law12_TransferMonotone : Nat
 law12_TransferKeeps : Nat
 law14_BlockcheckMatchesReference : Nat
 law14_BlockcheckSound : Nat
 law14_BlockcheckMonotone : Nat
 law14_BlockcheckSteps : Nat
 law14_BlockcheckKeeps : Nat
 law12_awake : Nat
 law12_known : Nat
 law12_holds : Nat
 law12_subset : Nat
 law14_awake : Nat
 law14_right : Nat
 ref14_Same : Nat
 law14_result : Nat
 ref10_Step : Nat
 ref10_Read : Nat
 law22_SpillallMatchesReference : Nat
 law22_SpillallKeeps : Nat
 law22_SpillallSlots : Nat
 ref22_Cert : Nat
 ref22_Block : Nat
 ref22_move : Nat
 law04_LocationBijection : Nat
 law04_LocationTexts : Nat
 law04_LocationMatchesReference : Nat
 law04_LocationRange : Nat
 law04_awake : Nat
 location_Parse : Nat
 location_Text : Nat
 ref04_Parse : Nat
 ref04_Text : Nat
 strconv_Itoa : Nat
 ref04_Number : Nat
 ref04_Decimal : Nat
 ty_bcfail : Nat
@[simp] def Jq7h (p : Nums) : List IOp := [qo 6 (.call p.law22_awake []), qo 7 (.un .not (.t 6)), qo 8 (.mov (.t 7)), ⟨(some 9), (.load (some 3) (.t 1)), (some (8, false)), false⟩, ⟨(some 10), (.call p.ref07_Few [(.t 9)]), (some (8, false)), false⟩, ⟨(some 11), (.un .not (.t 10)), (some (8, false)), false⟩, qo 12 (.pick (.t 8) (.c (.d (.bool true))) (.t 11)), qo 13 (.mov (.t 12)), ⟨(some 14), (.load (some 3) (.t 1)), (some (13, false)), false⟩, ⟨(some 15), (.call p.ref07_Check [(.t 14)]), (some (13, false)), false⟩, ⟨(some 16), (.bin .neq (.t 15) (ci 0)), (some (13, false)), false⟩, qo 17 (.pick (.t 13) (.c (.d (.bool true))) (.t 16))]
def Jq7b (p : Nums) : IC := (.region (Jq7h p) [])
@[simp] theorem Je7b {p : Nums} : EqI (Jq7b p) (.region (Jq7h p) []) := eqi
def Jq7c (p : Nums) : IC := (.seq (.region [⟨(some 18), (.call p.law22_awake []), none, false⟩, ⟨(some 2), (.asg (.t 18)), none, false⟩] []) .ret)
@[simp] theorem Je7c {p : Nums} : EqI (Jq7c p) (.seq (.region [⟨(some 18), (.call p.law22_awake []), none, false⟩, ⟨(some 2), (.asg (.t 18)), none, false⟩] []) .ret) := eqi
@[simp] def Jq7i (p : Nums) : List IOp := [qo 20 (.load (some 3) (.t 1)), qo 21 (.call p.spillall_Cert [(.t 20)]), qo 19 (.mov (.t 21)), qo 22 (.ext (.t 19) 0), qo 23 (.ext (.t 19) 1), qo 3 (.alloc [(zi 0), (zi 0), .nils, (zi 0), (zi 0), (zi 0), .nils, .nils]), qn (.store 8 (.t 3) (.t 22)), qo 4 (.asg (.t 23))]
def Jq7d (p : Nums) : IC := (.region (Jq7i p) [])
@[simp] theorem Je7d {p : Nums} : EqI (Jq7d p) (.region (Jq7i p) []) := eqi
@[simp] def Jq7j (p : Nums) : List IOp := [qo 26 (.mov (.t 4)), qo 27 (.bin .eql (.t 26) (ci 15)), qo 28 (.mov (.t 27)), ⟨(some 29), (.load (some 8) (.t 3)), (some (28, true)), false⟩, ⟨(some 30), (.build [(zi 0), (zi 0), .nils, (zi 0), (zi 0), (zi 0), .nils, .nils] []), (some (28, true)), false⟩, ⟨(some 31), (.call p.ref16_Same [(.t 29), (.t 30)]), (some (28, true)), false⟩, qo 32 (.pick (.t 28) (.t 31) (.c (.d (.bool false)))), qo 2 (.asg (.t 32))]
def Jq7e (p : Nums) : IC := (.region (Jq7j p) [])
@[simp] theorem Je7e {p : Nums} : EqI (Jq7e p) (.region (Jq7j p) []) := eqi
@[simp] def Jq7k (p : Nums) : List IOp := [qo 33 (.load (some 8) (.t 3)), qo 34 (.call p.checker_Check [(.t 33)]), qo 5 (.alloc [(zi 0), (zi 0), (zi 0), (zi 0), (zi 0), (zi 0), (zi 0)]), qn (.store 7 (.t 5) (.t 34))]
def Jq7f (p : Nums) : IC := (.region (Jq7k p) [])
@[simp] theorem Je7f {p : Nums} : EqI (Jq7f p) (.region (Jq7k p) []) := eqi
@[simp] def Jq7l (p : Nums) : List IOp := [qo 35 (.load (some 8) (.t 3)), qo 36 (.call p.checker_Valid [(.t 35)]), qo 37 (.bin .eql (.t 36) (ci 0)), qo 38 (.mov (.t 37)), ⟨(some 39), (.faddr 0 (.t 5)), (some (38, true)), false⟩, ⟨(some 40), (.load none (.t 39)), (some (38, true)), false⟩, ⟨(some 41), (.bin .eql (.t 40) (ci 0)), (some (38, true)), false⟩, qo 42 (.pick (.t 38) (.t 41) (.c (.d (.bool false)))), qo 43 (.mov (.t 42)), ⟨(some 44), (.faddr 3 (.t 5)), (some (43, true)), false⟩, ⟨(some 45), (.load none (.t 44)), (some (43, true)), false⟩, ⟨(some 46), (.faddr 2 (.t 1)), (some (43, true)), false⟩, ⟨(some 47), (.load none (.t 46)), (some (43, true)), false⟩, ⟨(some 48), (.len (.t 47)), (some (43, true)), false⟩, ⟨(some 49), (.bin .eql (.t 45) (.t 48)), (some (43, true)), false⟩, qo 50 (.pick (.t 43) (.t 49) (.c (.d (.bool false)))), qo 51 (.mov (.t 50)), ⟨(some 52), (.faddr 0 (.t 3)), (some (51, true)), false⟩, ⟨(some 53), (.load (some 3) (.t 52)), (some (51, true)), false⟩, ⟨(some 54), (.load (some 3) (.t 1)), (some (51, true)), false⟩, ⟨(some 55), (.call p.ref07_Same [(.t 53), (.t 54)]), (some (51, true)), false⟩, qo 56 (.pick (.t 51) (.t 55) (.c (.d (.bool false)))), qo 2 (.asg (.t 56))]
def Jq7g (p : Nums) : IC := (.region (Jq7l p) [])
@[simp] theorem Je7g {p : Nums} : EqI (Jq7g p) (.region (Jq7l p) []) := eqi
def Jtat (p : Nums) : IC := (.seq (.region [⟨(some 1), (.box (.t 0)), none, false⟩, ⟨(some 2), (.asg (.c (.d (.bool false)))), none, false⟩] []) (.seq (.seq (Jq7b p) (.cond (.t 17) (Jq7c p) .skip)) (.seq (Jq7d p) (.seq (.seq (.region [⟨(some 24), (.mov (.t 4)), none, false⟩, ⟨(some 25), (.bin .neq (.t 24) (.c (.d (.int .i64 0)))), none, false⟩] []) (.cond (.t 25) (.seq (Jq7e p) .ret) .skip)) (.seq (Jq7f p) (.seq (Jq7g p) .ret))))))
@[simp] def Jq4x (p : Nums) : List IOp := [qo 5 (.faddr 0 (.t 1)), qo 6 (.load (some 3) (.t 5)), qo 7 (.call p.source_Check [(.t 6)]), qo 3 (.asg (.t 7))]
def Jq4q (p : Nums) : IC := (.region (Jq4x p) [])
@[simp] theorem Je4q {p : Nums} : EqI (Jq4q p) (.region (Jq4x p) []) := eqi
def Jq4r (p : Nums) : IC := (.seq (.region [⟨(some 10), (.mov (.t 3)), none, false⟩, ⟨(some 2), (.asg (.t 10)), none, false⟩] []) .ret)
@[simp] theorem Je4r {p : Nums} : EqI (Jq4r p) (.seq (.region [⟨(some 10), (.mov (.t 3)), none, false⟩, ⟨(some 2), (.asg (.t 10)), none, false⟩] []) .ret) := eqi
@[simp] def Jq4y (p : Nums) : List IOp := [qo 11 (.faddr 3 (.t 1)), qo 12 (.load (some 4) (.t 11)), qo 13 (.call p.machine_Check [(.t 12)]), qo 4 (.asg (.t 13))]
def Jq4s (p : Nums) : IC := (.region (Jq4y p) [])
@[simp] theorem Je4s {p : Nums} : EqI (Jq4s p) (.region (Jq4y p) []) := eqi
def Jq4t (p : Nums) : IC := (.seq (.region [⟨(some 16), (.mov (.t 4)), none, false⟩, ⟨(some 2), (.asg (.t 16)), none, false⟩] []) .ret)
@[simp] theorem Je4t {p : Nums} : EqI (Jq4t p) (.seq (.region [⟨(some 16), (.mov (.t 4)), none, false⟩, ⟨(some 2), (.asg (.t 16)), none, false⟩] []) .ret) := eqi
@[simp] def Jq4z (p : Nums) : List IOp := [qo 17 (.faddr 0 (.t 1)), qo 18 (.faddr 2 (.t 17)), qo 19 (.load none (.t 18)), qo 20 (.len (.t 19)), qo 21 (.faddr 3 (.t 1)), qo 22 (.faddr 3 (.t 21)), qo 23 (.load none (.t 22)), qo 24 (.len (.t 23)), qo 25 (.bin .neq (.t 20) (.t 24)), qo 26 (.mov (.t 25)), ⟨(some 27), (.faddr 0 (.t 1)), (some (26, false)), false⟩, ⟨(some 28), (.faddr 0 (.t 27)), (some (26, false)), false⟩, ⟨(some 29), (.load none (.t 28)), (some (26, false)), false⟩, ⟨(some 30), (.faddr 3 (.t 1)), (some (26, false)), false⟩, ⟨(some 31), (.faddr 0 (.t 30)), (some (26, false)), false⟩, ⟨(some 32), (.load none (.t 31)), (some (26, false)), false⟩, ⟨(some 33), (.bin .neq (.t 29) (.t 32)), (some (26, false)), false⟩, qo 34 (.pick (.t 26) (.c (.d (.bool true))) (.t 33))]
def Jq4u (p : Nums) : IC := (.region (Jq4z p) [])
@[simp] theorem Je4u {p : Nums} : EqI (Jq4u p) (.region (Jq4z p) []) := eqi
def Jq4v (p : Nums) : IC := (.seq (.region [⟨(some 2), (.asg (.c (.d (.int .i64 14)))), none, false⟩] []) .ret)
@[simp] theorem Je4v {p : Nums} : EqI (Jq4v p) (.seq (.region [⟨(some 2), (.asg (.c (.d (.int .i64 14)))), none, false⟩] []) .ret) := eqi
@[simp] def Jq50 (p : Nums) : List IOp := [qo 35 (.faddr 7 (.t 1)), qo 36 (.load none (.t 35)), qo 37 (.faddr 0 (.t 1)), qo 38 (.faddr 2 (.t 37)), qo 39 (.load none (.t 38)), qo 40 (.len (.t 39)), qo 41 (.faddr 0 (.t 1)), qo 42 (.faddr 1 (.t 41)), qo 43 (.load none (.t 42)), qo 44 (.faddr 3 (.t 1)), qo 45 (.faddr 1 (.t 44)), qo 46 (.load none (.t 45)), qo 47 (.faddr 3 (.t 1)), qo 48 (.faddr 2 (.t 47)), qo 49 (.load none (.t 48)), qo 50 (.call p.edge_Valid [(.t 36), (.t 40), (.t 43), (.t 46), (.t 49)]), qo 2 (.asg (.t 50))]
def Jq4w (p : Nums) : IC := (.region (Jq50 p) [])
@[simp] theorem Je4w {p : Nums} : EqI (Jq4w p) (.region (Jq50 p) []) := eqi
def Jtal (p : Nums) : IC := (.seq (.region [⟨(some 1), (.box (.t 0)), none, false⟩, ⟨(some 2), (.asg (.c (.d (.int .i64 0)))), none, false⟩] []) (.seq (.seq (Jq4q p) (.seq (.region [⟨(some 8), (.mov (.t 3)), none, false⟩, ⟨(some 9), (.bin .neq (.t 8) (.c (.d (.int .i64 0)))), none, false⟩] []) (.cond (.t 9) (Jq4r p) .skip))) (.seq (.seq (Jq4s p) (.seq (.region [⟨(some 14), (.mov (.t 4)), none, false⟩, ⟨(some 15), (.bin .neq (.t 14) (.c (.d (.int .i64 0)))), none, false⟩] []) (.cond (.t 15) (Jq4t p) .skip))) (.seq (.seq (Jq4u p) (.cond (.t 34) (Jq4v p) .skip)) (.seq (Jq4w p) .ret)))))
@[simp] def Jq4a (p : Nums) : List IOp := [qo 1 (.box (.t 0)), qo 2 (.alloc [(zi 0), (zi 0), (zi 0), (zi 0), (zi 0), (zi 0), (zi 0)])]
def Jq3p (p : Nums) : IC := (.region (Jq4a p) [])
@[simp] theorem Je3p {p : Nums} : EqI (Jq3p p) (.region (Jq4a p) []) := eqi
@[simp] def Jq4j (p : Nums) : List IOp := [qo 12 (.load (some 8) (.t 1)), qo 13 (.call p.checker_Valid [(.t 12)]), qo 3 (.asg (.t 13))]
def Jq40 (p : Nums) : IC := (.region (Jq4j p) [])
@[simp] theorem Je40 {p : Nums} : EqI (Jq40 p) (.region (Jq4j p) []) := eqi
@[simp] def Jq4k (p : Nums) : List IOp := [qo 16 (.mov (.t 3)), qo 17 (.build [(zi 0), (zi 0), (zi 0), (zi 0), (zi 0), (zi 0), (zi 0)] [(0, 1, (.t 16))]), qn (.store 7 (.t 2) (.t 17))]
def Jq43 (p : Nums) : IC := (.region (Jq4k p) [])
@[simp] theorem Je43 {p : Nums} : EqI (Jq43 p) (.region (Jq4k p) []) := eqi
@[simp] def Jq4l (p : Nums) : List IOp := [qo 18 (.load (some 8) (.t 1)), qo 19 (.call p.checker_begin [(.t 18)]), qo 4 (.alloc [(zi 0), (zi 0), (zi 0), (zi 0), (zi 0), (zi 0), (zi 0)]), qn (.store 7 (.t 4) (.t 19))]
def Jq44 (p : Nums) : IC := (.region (Jq4l p) [])
@[simp] theorem Je44 {p : Nums} : EqI (Jq44 p) (.region (Jq4l p) []) := eqi
@[simp] def Jq4m (p : Nums) : List IOp := [qo 20 (.faddr 0 (.t 4)), qo 21 (.load none (.t 20)), qo 22 (.bin .neq (.t 21) (ci 0))]
def Jq45 (p : Nums) : IC := (.region (Jq4m p) [])
@[simp] theorem Je45 {p : Nums} : EqI (Jq45 p) (.region (Jq4m p) []) := eqi
def Jq46 (p : Nums) : IC := (.seq (.region [⟨(some 23), (.load (some 7) (.t 4)), none, false⟩, ⟨none, (.store 7 (.t 2) (.t 23)), none, false⟩] []) .ret)
@[simp] theorem Je46 {p : Nums} : EqI (Jq46 p) (.seq (.region [⟨(some 23), (.load (some 7) (.t 4)), none, false⟩, ⟨none, (.store 7 (.t 2) (.t 23)), none, false⟩] []) .ret) := eqi
@[simp] def Jq4n (p : Nums) : List IOp := [qo 24 (.faddr 0 (.t 1)), qo 25 (.faddr 2 (.t 24)), qo 26 (.load none (.t 25)), qo 27 (.len (.t 26)), qo 28 (.mov (ci 0))]
def Jq47 (p : Nums) : IC := (.region (Jq4n p) [])
@[simp] theorem Je47 {p : Nums} : EqI (Jq47 p) (.region (Jq4n p) []) := eqi
@[simp] def Jq4o (p : Nums) : List IOp := [qo 30 (.mov (.t 28)), qo 31 (.iaddr 5 (.t 26) (.t 28)), qo 32 (.load (some 5) (.t 31)), qo 6 (.alloc [.nils, (zi 0), (zi 0), (zi 0), (zi 0)]), qo 5 (.asg (.t 30)), qn (.store 5 (.t 6) (.t 32))]
def Jq48 (p : Nums) : IC := (.region (Jq4o p) [])
@[simp] theorem Je48 {p : Nums} : EqI (Jq48 p) (.region (Jq4o p) []) := eqi
@[simp] def Jq4p (p : Nums) : List IOp := [qp 33 (.load (some 5) (.t 6)), qp 34 (.faddr 3 (.t 1)), qp 35 (.faddr 3 (.t 34)), qp 36 (.load none (.t 35)), qp 37 (.mov (.t 5)), qp 38 (.iaddr 5 (.t 36) (.t 37)), qp 39 (.load (some 5) (.t 38)), qp 40 (.faddr 7 (.t 1)), qp 41 (.load none (.t 40)), qp 42 (.mov (.t 5)), qp 43 (.iaddr 1 (.t 41) (.t 42)), qp 44 (.load none (.t 43)), qp 45 (.call p.blockcheck_Check [(.t 33), (.t 39), (.t 44), (ci 1048576)]), qp 7 (.alloc [.nils, (zi 0), (zi 0), (zi 0), (zi 0)]), qn (.store 5 (.t 7) (.t 45))]
def Jq49 (p : Nums) : IC := (.region (Jq4p p) [])
@[simp] theorem Je49 {p : Nums} : EqI (Jq49 p) (.region (Jq4p p) []) := eqi
@[simp] def Jq4b (p : Nums) : List IOp := [qp 46 (.faddr 3 (.t 4)), qp 47 (.load none (.t 46)), qp 48 (.bin .add (.t 47) (ci 1)), qp 49 (.faddr 5 (.t 4)), qp 50 (.load none (.t 49)), qp 51 (.faddr 3 (.t 7)), qp 52 (.load none (.t 51)), qp 53 (.bin .add (.t 50) (.t 52)), qp 54 (.faddr 6 (.t 4)), qp 55 (.load none (.t 54)), qp 56 (.faddr 4 (.t 7)), qp 57 (.load none (.t 56)), qp 58 (.mx (.t 55) (.t 57)), qp 59 (.faddr 3 (.t 4)), qm (.storeq 1 (.t 59) (.t 48) [(51, 1), (56, 1)]), qp 60 (.faddr 5 (.t 4)), qm (.storeq 1 (.t 60) (.t 53) [(56, 1)]), qo 61 (.faddr 6 (.t 4)), qn (.store 1 (.t 61) (.t 58))]
def Jq3q (p : Nums) : IC := (.region (Jq4b p) [])
@[simp] theorem Je3q {p : Nums} : EqI (Jq3q p) (.region (Jq4b p) []) := eqi
@[simp] def Jq4c (p : Nums) : List IOp := [qo 62 (.faddr 1 (.t 7)), qo 63 (.load none (.t 62)), qo 64 (.bin .neq (.t 63) (ci 0))]
def Jq3r (p : Nums) : IC := (.region (Jq4c p) [])
@[simp] theorem Je3r {p : Nums} : EqI (Jq3r p) (.region (Jq4c p) []) := eqi
@[simp] def Jq4d (p : Nums) : List IOp := [qp 65 (.faddr 1 (.t 7)), qp 66 (.load none (.t 65)), qp 67 (.mov (.t 5)), qp 68 (.faddr 2 (.t 7)), qp 69 (.load none (.t 68)), qp 70 (.faddr 0 (.t 4)), qm (.storeq 1 (.t 70) (.t 66) [(68, 1)]), qp 71 (.faddr 1 (.t 4)), qm (.storeq 1 (.t 71) (.t 67) [(68, 1)]), qo 72 (.faddr 2 (.t 4)), qn (.store 1 (.t 72) (.t 69))]
def Jq3s (p : Nums) : IC := (.region (Jq4d p) [])
@[simp] theorem Je3s {p : Nums} : EqI (Jq3s p) (.region (Jq4d p) []) := eqi
@[simp] def Jq4e (p : Nums) : List IOp := [qo 73 (.faddr 1 (.t 6)), qo 74 (.load (some 4) (.t 73)), qo 75 (.call p.source_Successors [(.t 74)]), qo 76 (.len (.t 75)), qo 77 (.mov (ci 0))]
def Jq3t (p : Nums) : IC := (.region (Jq4e p) [])
@[simp] theorem Je3t {p : Nums} : EqI (Jq3t p) (.region (Jq4e p) []) := eqi
@[simp] def Jq4f (p : Nums) : List IOp := [qo 79 (.mov (.t 77)), qo 80 (.iaddr 1 (.t 75) (.t 77)), qo 81 (.load none (.t 80)), qo 8 (.asg (.t 79)), qo 9 (.asg (.t 81))]
def Jq3u (p : Nums) : IC := (.region (Jq4f p) [])
@[simp] theorem Je3u {p : Nums} : EqI (Jq3u p) (.region (Jq4f p) []) := eqi
@[simp] def Jq4g (p : Nums) : List IOp := [qp 82 (.faddr 4 (.t 4)), qp 83 (.load none (.t 82)), qp 84 (.bin .add (.t 83) (ci 1)), qp 85 (.faddr 5 (.t 4)), qp 86 (.load none (.t 85)), qp 87 (.bin .add (.t 86) (ci 1)), qp 88 (.faddr 0 (.t 7)), qp 89 (.load none (.t 88)), qp 90 (.len (.t 89)), qp 91 (.bin .add (.t 87) (.t 90)), qp 92 (.faddr 7 (.t 1)), qp 93 (.load none (.t 92)), qp 94 (.mov (.t 9)), qp 95 (.iaddr 1 (.t 93) (.t 94)), qp 96 (.load none (.t 95)), qp 97 (.len (.t 96)), qp 98 (.bin .add (.t 91) (.t 97)), qp 99 (.faddr 4 (.t 4)), qm (.storeq 1 (.t 99) (.t 84) [(88, 1), (92, 1), (95, 1)]), qo 100 (.faddr 5 (.t 4)), qn (.store 1 (.t 100) (.t 98))]
def Jq3v (p : Nums) : IC := (.region (Jq4g p) [])
@[simp] theorem Je3v {p : Nums} : EqI (Jq3v p) (.region (Jq4g p) []) := eqi
@[simp] def Jq4h (p : Nums) : List IOp := [qp 102 (.faddr 0 (.t 7)), qp 103 (.load none (.t 102)), qp 104 (.faddr 7 (.t 1)), qp 105 (.load none (.t 104)), qp 106 (.mov (.t 9)), qp 107 (.iaddr 1 (.t 105) (.t 106)), qp 108 (.load none (.t 107)), qp 109 (.call p.edge_Implies [(.t 103), (.t 108)]), qp 101 (.mov (.t 109)), qp 110 (.ext (.t 101) 0), qp 111 (.ext (.t 101) 1), qp 10 (.alloc [(zi 0), (zi 0)]), qm (.storeq 2 (.t 10) (.t 110) []), qo 11 (.asg (.t 111))]
def Jq3w (p : Nums) : IC := (.region (Jq4h p) [])
@[simp] theorem Je3w {p : Nums} : EqI (Jq3w p) (.region (Jq4h p) []) := eqi
@[simp] def Jq4i (p : Nums) : List IOp := [qo 114 (.mov (.t 11)), qo 115 (.mov (.t 5)), qo 116 (.mov (.t 8)), qo 117 (.faddr 0 (.t 4)), qn (.store 1 (.t 117) (.t 114)), qo 118 (.faddr 1 (.t 4)), qn (.store 1 (.t 118) (.t 115)), qo 119 (.faddr 2 (.t 4)), qn (.store 1 (.t 119) (.t 116))]
def Jq3x (p : Nums) : IC := (.region (Jq4i p) [])
@[simp] theorem Je3x {p : Nums} : EqI (Jq3x p) (.region (Jq4i p) []) := eqi
def Jq3y (p : Nums) : IC := (.seq (Jq3u p) (.seq (Jq3v p) (.seq (Jq3w p) (.seq (.region [⟨(some 112), (.mov (.t 11)), none, false⟩, ⟨(some 113), (.bin .neq (.t 112) (.c (.d (.int .i64 0)))), none, false⟩] []) (.cond (.t 113) (.seq (Jq3x p) (.exit 0)) .skip)))))
@[simp] theorem Je3y {p : Nums} : EqI (Jq3y p) (.seq (Jq3u p) (.seq (Jq3v p) (.seq (Jq3w p) (.seq (.region [⟨(some 112), (.mov (.t 11)), none, false⟩, ⟨(some 113), (.bin .neq (.t 112) (.c (.d (.int .i64 0)))), none, false⟩] []) (.cond (.t 113) (.seq (Jq3x p) (.exit 0)) .skip))))) := eqi
def Jq3z (p : Nums) : IC := (.seq (.region [⟨(some 78), (.bin .lss (.t 77) (.t 76)), none, false⟩] []) (.seq (.cond (.t 78) .skip (.exit 2)) (.seq (.block 3 (Jq3y p)) (.region [⟨(some 120), (.bin .add (.t 77) (.c (.d (.int .i64 1)))), none, false⟩, ⟨(some 77), (.mov (.t 120)), none, false⟩] []))))
@[simp] theorem Je3z {p : Nums} : EqI (Jq3z p) (.seq (.region [⟨(some 78), (.bin .lss (.t 77) (.t 76)), none, false⟩] []) (.seq (.cond (.t 78) .skip (.exit 2)) (.seq (.block 3 (Jq3y p)) (.region [⟨(some 120), (.bin .add (.t 77) (.c (.d (.int .i64 1)))), none, false⟩, ⟨(some 77), (.mov (.t 120)), none, false⟩] [])))) := eqi
def Jq41 (p : Nums) : IC := (.seq (Jq48 p) (.seq (Jq49 p) (.seq (Jq3q p) (.seq (.seq (Jq3r p) (.cond (.t 64) (.seq (Jq3s p) (.exit 0)) .skip)) (.seq (Jq3t p) (.block 2 (.loop (Jq3z p))))))))
@[simp] theorem Je41 {p : Nums} : EqI (Jq41 p) (.seq (Jq48 p) (.seq (Jq49 p) (.seq (Jq3q p) (.seq (.seq (Jq3r p) (.cond (.t 64) (.seq (Jq3s p) (.exit 0)) .skip)) (.seq (Jq3t p) (.block 2 (.loop (Jq3z p)))))))) := eqi
def Jq42 (p : Nums) : IC := (.seq (.region [⟨(some 29), (.bin .lss (.t 28) (.t 27)), none, false⟩] []) (.seq (.cond (.t 29) .skip (.exit 0)) (.seq (.block 1 (Jq41 p)) (.region [⟨(some 121), (.bin .add (.t 28) (.c (.d (.int .i64 1)))), none, false⟩, ⟨(some 28), (.mov (.t 121)), none, false⟩] []))))
@[simp] theorem Je42 {p : Nums} : EqI (Jq42 p) (.seq (.region [⟨(some 29), (.bin .lss (.t 28) (.t 27)), none, false⟩] []) (.seq (.cond (.t 29) .skip (.exit 0)) (.seq (.block 1 (Jq41 p)) (.region [⟨(some 121), (.bin .add (.t 28) (.c (.d (.int .i64 1)))), none, false⟩, ⟨(some 28), (.mov (.t 121)), none, false⟩] [])))) := eqi
def Jtak (p : Nums) : IC := (.seq (Jq3p p) (.seq (.seq (Jq40 p) (.seq (.region [⟨(some 14), (.mov (.t 3)), none, false⟩, ⟨(some 15), (.bin .neq (.t 14) (.c (.d (.int .i64 0)))), none, false⟩] []) (.cond (.t 15) (.seq (Jq43 p) .ret) .skip))) (.seq (Jq44 p) (.seq (.seq (Jq45 p) (.cond (.t 22) (Jq46 p) .skip)) (.seq .skip (.seq (.seq (Jq47 p) (.block 0 (.loop (Jq42 p)))) (.seq (.region [⟨(some 122), (.load (some 7) (.t 4)), none, false⟩, ⟨none, (.store 7 (.t 2) (.t 122)), none, false⟩] []) .ret)))))))
@[simp] def Jqj1 (p : Nums) : List IOp := [qo 2 (.box (.t 0)), qo 3 (.box (.t 1)), qo 4 (.asg (.c (.d (.bool false))))]
def Jqiz (p : Nums) : IC := (.region (Jqj1 p) [])
@[simp] theorem Jeiz {p : Nums} : EqI (Jqiz p) (.region (Jqj1 p) []) := eqi
@[simp] def Jqj2 (p : Nums) : List IOp := [qo 5 (.faddr 0 (.t 2)), qo 6 (.load (some 3) (.t 5)), qo 7 (.faddr 0 (.t 3)), qo 8 (.load (some 3) (.t 7)), qo 9 (.call p.ref07_Same [(.t 6), (.t 8)]), qo 10 (.mov (.t 9)), ⟨(some 11), (.faddr 3 (.t 2)), (some (10, true)), false⟩, ⟨(some 12), (.load (some 4) (.t 11)), (some (10, true)), false⟩, ⟨(some 13), (.faddr 3 (.t 3)), (some (10, true)), false⟩, ⟨(some 14), (.load (some 4) (.t 13)), (some (10, true)), false⟩, ⟨(some 15), (.call p.ref08_Same [(.t 12), (.t 14)]), (some (10, true)), false⟩, qo 16 (.pick (.t 10) (.t 15) (.c (.d (.bool false)))), qo 17 (.mov (.t 16)), ⟨(some 18), (.faddr 7 (.t 2)), (some (17, true)), false⟩, ⟨(some 19), (.load none (.t 18)), (some (17, true)), false⟩, ⟨(some 20), (.faddr 7 (.t 3)), (some (17, true)), false⟩, ⟨(some 21), (.load none (.t 20)), (some (17, true)), false⟩, ⟨(some 22), (.call p.ref15_Same [(.t 19), (.t 21)]), (some (17, true)), false⟩, qo 23 (.pick (.t 17) (.t 22) (.c (.d (.bool false)))), qo 4 (.asg (.t 23))]
def Jqj0 (p : Nums) : IC := (.region (Jqj2 p) [])
@[simp] theorem Jej0 {p : Nums} : EqI (Jqj0 p) (.region (Jqj2 p) []) := eqi
def Jtc3 (p : Nums) : IC := (.seq (Jqiz p) (.seq (Jqj0 p) .ret))
@[simp] def Jq7s (p : Nums) : List IOp := [qo 5 (.build [(zi 0), (zi 0), (zi 0), (zi 0), (zi 0)] [(0, 1, (ci 5)), (1, 1, (ci 0)), (2, 1, (ci 1)), (3, 1, (ci 2))]), qo 6 (.bslice 5 1 [(.int .i64 0), (.int .i64 0), (.int .i64 0), (.int .i64 0), (.int .i64 0)] [(0, (.t 5))]), qo 7 (.build [(zi 0), (zi 0), (zi 0), (zi 0)] [(0, 1, (ci 1))]), qo 8 (.build [.nils, (zi 0), (zi 0), (zi 0), (zi 0)] [(0, 1, (.t 6)), (1, 4, (.t 7))]), qo 1 (.alloc [.nils, (zi 0), (zi 0), (zi 0), (zi 0)]), qn (.store 5 (.t 1) (.t 8))]
def Jq7m (p : Nums) : IC := (.region (Jq7s p) [])
@[simp] theorem Je7m {p : Nums} : EqI (Jq7m p) (.region (Jq7s p) []) := eqi
@[simp] def Jq7t (p : Nums) : List IOp := [qo 9 (.load (some 5) (.t 1)), qo 10 (.call p.spillall_Block [(.t 9)]), qo 2 (.alloc [.nils, (zi 0), (zi 0), (zi 0), (zi 0)]), qn (.store 5 (.t 2) (.t 10))]
def Jq7n (p : Nums) : IC := (.region (Jq7t p) [])
@[simp] theorem Je7n {p : Nums} : EqI (Jq7n p) (.region (Jq7t p) []) := eqi
@[simp] def Jq7u (p : Nums) : List IOp := [qo 12 (.build [(zi 0), (zi 0), .nils] []), qo 13 (.call p.spillall_Cert [(.t 12)]), qo 11 (.mov (.t 13)), qo 14 (.ext (.t 11) 0), qo 15 (.ext (.t 11) 1), qo 3 (.alloc [(zi 0), (zi 0), .nils, (zi 0), (zi 0), (zi 0), .nils, .nils]), qn (.store 8 (.t 3) (.t 14)), qo 4 (.asg (.t 15))]
def Jq7o (p : Nums) : IC := (.region (Jq7u p) [])
@[simp] theorem Je7o {p : Nums} : EqI (Jq7o p) (.region (Jq7u p) []) := eqi
@[simp] def Jq7v (p : Nums) : List IOp := [qo 16 (.faddr 0 (.t 2)), qo 17 (.load none (.t 16)), qo 18 (.len (.t 17)), qo 19 (.bin .neq (.t 18) (ci 4))]
def Jq7p (p : Nums) : IC := (.region (Jq7v p) [])
@[simp] theorem Je7p {p : Nums} : EqI (Jq7p p) (.region (Jq7v p) []) := eqi
def Jq7q (p : Nums) : IC := (.seq (.region [⟨(some 0), (.asg (.c (.d (.bool false)))), none, false⟩] []) .ret)
@[simp] theorem Je7q {p : Nums} : EqI (Jq7q p) (.seq (.region [⟨(some 0), (.asg (.c (.d (.bool false)))), none, false⟩] []) .ret) := eqi
@[simp] def Jq7w (p : Nums) : List IOp := [qo 20 (.faddr 0 (.t 2)), qo 21 (.load none (.t 20)), qo 22 (.iaddr 7 (.t 21) (ci 0)), qo 23 (.load (some 7) (.t 22)), qo 24 (.build [(zi 0), (zi 0), (zi 0), (zi 0), (zi 0), (zi 0), (zi 0)] [(0, 1, (ci 18)), (5, 1, (ci 0)), (6, 1, (ci 3))]), qo 25 (.eqs false [.int, .int, .int, .int, .int, .int, .int] (.t 23) (.t 24)), qo 26 (.mov (.t 25)), ⟨(some 27), (.faddr 0 (.t 2)), (some (26, true)), false⟩, ⟨(some 28), (.load none (.t 27)), (some (26, true)), false⟩, ⟨(some 29), (.iaddr 7 (.t 28) (ci 1)), (some (26, true)), false⟩, ⟨(some 30), (.load (some 7) (.t 29)), (some (26, true)), false⟩, ⟨(some 31), (.build [(zi 0), (zi 0), (zi 0), (zi 0), (zi 0), (zi 0), (zi 0)] [(0, 1, (ci 18)), (5, 1, (ci 2)), (6, 1, (ci 5))]), (some (26, true)), false⟩, ⟨(some 32), (.eqs false [.int, .int, .int, .int, .int, .int, .int] (.t 30) (.t 31)), (some (26, true)), false⟩, qo 33 (.pick (.t 26) (.t 32) (.c (.d (.bool false)))), qo 34 (.mov (.t 33)), ⟨(some 35), (.faddr 0 (.t 2)), (some (34, true)), false⟩, ⟨(some 36), (.load none (.t 35)), (some (34, true)), false⟩, ⟨(some 37), (.iaddr 7 (.t 36) (ci 2)), (some (34, true)), false⟩, ⟨(some 38), (.load (some 7) (.t 37)), (some (34, true)), false⟩, ⟨(some 39), (.build [(zi 0), (zi 0), (zi 0), (zi 0), (zi 0), (zi 0), (zi 0)] [(0, 1, (ci 5)), (3, 1, (ci 1))]), (some (34, true)), false⟩, ⟨(some 40), (.eqs false [.int, .int, .int, .int, .int, .int, .int] (.t 38) (.t 39)), (some (34, true)), false⟩, qo 41 (.pick (.t 34) (.t 40) (.c (.d (.bool false)))), qo 42 (.mov (.t 41)), ⟨(some 43), (.faddr 0 (.t 2)), (some (42, true)), false⟩, ⟨(some 44), (.load none (.t 43)), (some (42, true)), false⟩, ⟨(some 45), (.iaddr 7 (.t 44) (ci 3)), (some (42, true)), false⟩, ⟨(some 46), (.load (some 7) (.t 45)), (some (42, true)), false⟩, ⟨(some 47), (.build [(zi 0), (zi 0), (zi 0), (zi 0), (zi 0), (zi 0), (zi 0)] [(0, 1, (ci 18)), (5, 1, (ci 1)), (6, 1, (ci 0))]), (some (42, true)), false⟩, ⟨(some 48), (.eqs false [.int, .int, .int, .int, .int, .int, .int] (.t 46) (.t 47)), (some (42, true)), false⟩, qo 49 (.pick (.t 42) (.t 48) (.c (.d (.bool false)))), qo 50 (.mov (.t 49)), ⟨(some 51), (.faddr 1 (.t 2)), (some (50, true)), false⟩, ⟨(some 52), (.load (some 4) (.t 51)), (some (50, true)), false⟩, ⟨(some 53), (.build [(zi 0), (zi 0), (zi 0), (zi 0)] [(0, 1, (ci 1))]), (some (50, true)), false⟩, ⟨(some 54), (.eqs false [.int, .int, .int, .int] (.t 52) (.t 53)), (some (50, true)), false⟩, qo 55 (.pick (.t 50) (.t 54) (.c (.d (.bool false)))), qo 56 (.mov (.t 55)), ⟨(some 57), (.mov (.t 4)), (some (56, true)), false⟩, ⟨(some 58), (.bin .eql (.t 57) (ci 14)), (some (56, true)), false⟩, qo 59 (.pick (.t 56) (.t 58) (.c (.d (.bool false)))), qo 60 (.mov (.t 59)), ⟨(some 61), (.load (some 5) (.t 1)), (some (60, true)), false⟩, ⟨(some 62), (.call p.spillall_Moves [(.t 61)]), (some (60, true)), false⟩, ⟨(some 63), (.bin .eql (.t 62) (ci 2)), (some (60, true)), false⟩, qo 64 (.pick (.t 60) (.t 63) (.c (.d (.bool false)))), qo 0 (.asg (.t 64))]
def Jq7r (p : Nums) : IC := (.region (Jq7w p) [])
@[simp] theorem Je7r {p : Nums} : EqI (Jq7r p) (.region (Jq7w p) []) := eqi
def Jtau (p : Nums) : IC := (.seq (.region [⟨(some 0), (.asg (.c (.d (.bool false)))), none, false⟩] []) (.seq (Jq7m p) (.seq (Jq7n p) (.seq (Jq7o p) (.seq (.seq (Jq7p p) (.cond (.t 19) (Jq7q p) .skip)) (.seq (Jq7r p) .ret))))))
@[simp] def Jqfu (p : Nums) : List IOp := [qo 4 (.faddr 2 (.t 1)), qo 5 (.load none (.t 4)), qo 6 (.len (.t 5)), qo 7 (.bin .gtr (.t 6) (ci 40)), qo 8 (.mov (.t 7)), ⟨(some 9), (.faddr 1 (.t 1)), (some (8, false)), false⟩, ⟨(some 10), (.load none (.t 9)), (some (8, false)), false⟩, ⟨(some 11), (.bin .gtr (.t 10) (ci 60)), (some (8, false)), false⟩, qo 12 (.pick (.t 8) (.c (.d (.bool true))) (.t 11))]
def Jqfl (p : Nums) : IC := (.region (Jqfu p) [])
@[simp] theorem Jefl {p : Nums} : EqI (Jqfl p) (.region (Jqfu p) []) := eqi
def Jqfm (p : Nums) : IC := (.seq (.region [⟨(some 2), (.asg (.c (.d (.bool false)))), none, false⟩] []) .ret)
@[simp] theorem Jefm {p : Nums} : EqI (Jqfm p) (.seq (.region [⟨(some 2), (.asg (.c (.d (.bool false)))), none, false⟩] []) .ret) := eqi
@[simp] def Jqfv (p : Nums) : List IOp := [qo 13 (.mov (.t 3)), qo 14 (.faddr 2 (.t 1)), qo 15 (.load none (.t 14)), qo 16 (.len (.t 15)), qo 17 (.bin .lss (.t 13) (.t 16))]
def Jqfn (p : Nums) : IC := (.region (Jqfv p) [])
@[simp] theorem Jefn {p : Nums} : EqI (Jqfn p) (.region (Jqfv p) []) := eqi
@[simp] def Jqfw (p : Nums) : List IOp := [qo 20 (.faddr 2 (.t 1)), qo 21 (.load none (.t 20)), qo 22 (.mov (.t 3)), qo 23 (.iaddr 5 (.t 21) (.t 22)), qo 24 (.faddr 0 (.t 23)), qo 25 (.load none (.t 24)), qo 26 (.len (.t 25)), qo 27 (.bin .gtr (.t 26) (ci 100))]
def Jqfo (p : Nums) : IC := (.region (Jqfw p) [])
@[simp] theorem Jefo {p : Nums} : EqI (Jqfo p) (.region (Jqfw p) []) := eqi
def Jqfp (p : Nums) : IC := (.seq (.region [⟨(some 2), (.asg (.c (.d (.bool false)))), none, false⟩] []) .ret)
@[simp] theorem Jefp {p : Nums} : EqI (Jqfp p) (.seq (.region [⟨(some 2), (.asg (.c (.d (.bool false)))), none, false⟩] []) .ret) := eqi
def Jqfq (p : Nums) : IC := (.seq (Jqfo p) (.cond (.t 27) (Jqfp p) .skip))
@[simp] theorem Jefq {p : Nums} : EqI (Jqfq p) (.seq (Jqfo p) (.cond (.t 27) (Jqfp p) .skip)) := eqi
@[simp] def Jqfx (p : Nums) : List IOp := [qo 18 (.mov (.t 3)), qo 19 (.bin .add (.t 18) (ci 1)), qo 3 (.asg (.t 19))]
def Jqfr (p : Nums) : IC := (.region (Jqfx p) [])
@[simp] theorem Jefr {p : Nums} : EqI (Jqfr p) (.region (Jqfx p) []) := eqi
def Jqfs (p : Nums) : IC := (.seq (.seq (Jqfn p) (.cond (.t 17) .skip (.exit 0))) (.seq (.block 1 (Jqfq p)) (Jqfr p)))
@[simp] theorem Jefs {p : Nums} : EqI (Jqfs p) (.seq (.seq (Jqfn p) (.cond (.t 17) .skip (.exit 0))) (.seq (.block 1 (Jqfq p)) (Jqfr p))) := eqi
@[simp] def Jqfy (p : Nums) : List IOp := [qo 28 (.load (some 3) (.t 1)), qo 29 (.call p.ref07_Code [(.t 28)]), qo 30 (.bin .leq (.t 29) (ci 300)), qo 2 (.asg (.t 30))]
def Jqft (p : Nums) : IC := (.region (Jqfy p) [])
@[simp] theorem Jeft {p : Nums} : EqI (Jqft p) (.region (Jqfy p) []) := eqi
def Jtbv (p : Nums) : IC := (.seq (.region [⟨(some 1), (.box (.t 0)), none, false⟩, ⟨(some 2), (.asg (.c (.d (.bool false)))), none, false⟩] []) (.seq (.seq (Jqfl p) (.cond (.t 12) (Jqfm p) .skip)) (.seq (.seq (.region [⟨(some 3), (.asg (.c (.d (.int .i64 0)))), none, false⟩] []) (.block 0 (.loop (Jqfs p)))) (.seq (Jqft p) .ret))))
@[simp] def Jqf3 (p : Nums) : List IOp := [qo 8 (.faddr 0 (.t 1)), qo 9 (.load none (.t 8)), qo 10 (.bin .lss (.t 9) (ci 0)), qo 11 (.mov (.t 10)), ⟨(some 12), (.faddr 0 (.t 1)), (some (11, false)), false⟩, ⟨(some 13), (.load none (.t 12)), (some (11, false)), false⟩, ⟨(some 14), (.faddr 1 (.t 1)), (some (11, false)), false⟩, ⟨(some 15), (.load none (.t 14)), (some (11, false)), false⟩, ⟨(some 16), (.bin .gtr (.t 13) (.t 15)), (some (11, false)), false⟩, qo 17 (.pick (.t 11) (.c (.d (.bool true))) (.t 16))]
def Jqei (p : Nums) : IC := (.region (Jqf3 p) [])
@[simp] theorem Jeei {p : Nums} : EqI (Jqei p) (.region (Jqf3 p) []) := eqi
def Jqet (p : Nums) : IC := (.seq (.region [⟨(some 2), (.asg (.c (.d (.int .i64 9)))), none, false⟩] []) .ret)
@[simp] theorem Jeet {p : Nums} : EqI (Jqet p) (.seq (.region [⟨(some 2), (.asg (.c (.d (.int .i64 9)))), none, false⟩] []) .ret) := eqi
@[simp] def Jqfa (p : Nums) : List IOp := [qo 18 (.faddr 1 (.t 1)), qo 19 (.load none (.t 18)), qo 20 (.bin .gtr (.t 19) (ci 1048576))]
def Jqew (p : Nums) : IC := (.region (Jqfa p) [])
@[simp] theorem Jeew {p : Nums} : EqI (Jqew p) (.region (Jqfa p) []) := eqi
def Jqex (p : Nums) : IC := (.seq (.region [⟨(some 2), (.asg (.c (.d (.int .i64 6)))), none, false⟩] []) .ret)
@[simp] theorem Jeex {p : Nums} : EqI (Jqex p) (.seq (.region [⟨(some 2), (.asg (.c (.d (.int .i64 6)))), none, false⟩] []) .ret) := eqi
@[simp] def Jqfb (p : Nums) : List IOp := [qo 21 (.faddr 2 (.t 1)), qo 22 (.load none (.t 21)), qo 23 (.len (.t 22)), qo 24 (.bin .eql (.t 23) (ci 0))]
def Jqey (p : Nums) : IC := (.region (Jqfb p) [])
@[simp] theorem Jeey {p : Nums} : EqI (Jqey p) (.region (Jqfb p) []) := eqi
def Jqez (p : Nums) : IC := (.seq (.region [⟨(some 2), (.asg (.c (.d (.int .i64 14)))), none, false⟩] []) .ret)
@[simp] theorem Jeez {p : Nums} : EqI (Jqez p) (.seq (.region [⟨(some 2), (.asg (.c (.d (.int .i64 14)))), none, false⟩] []) .ret) := eqi
@[simp] def Jqfc (p : Nums) : List IOp := [qo 25 (.faddr 2 (.t 1)), qo 26 (.load none (.t 25)), qo 27 (.len (.t 26)), qo 28 (.bin .gtr (.t 27) (ci 1048576)), qo 29 (.mov (.t 28)), ⟨(some 30), (.load (some 3) (.t 1)), (some (29, false)), false⟩, ⟨(some 31), (.call p.ref07_Code [(.t 30)]), (some (29, false)), false⟩, ⟨(some 32), (.bin .gtr (.t 31) (ci 1048576)), (some (29, false)), false⟩, qo 33 (.pick (.t 29) (.c (.d (.bool true))) (.t 32))]
def Jqf0 (p : Nums) : IC := (.region (Jqfc p) [])
@[simp] theorem Jef0 {p : Nums} : EqI (Jqf0 p) (.region (Jqfc p) []) := eqi
def Jqf1 (p : Nums) : IC := (.seq (.region [⟨(some 2), (.asg (.c (.d (.int .i64 6)))), none, false⟩] []) .ret)
@[simp] theorem Jef1 {p : Nums} : EqI (Jqf1 p) (.seq (.region [⟨(some 2), (.asg (.c (.d (.int .i64 6)))), none, false⟩] []) .ret) := eqi
@[simp] def Jqfd (p : Nums) : List IOp := [qo 34 (.mov (.t 3)), qo 35 (.faddr 2 (.t 1)), qo 36 (.load none (.t 35)), qo 37 (.len (.t 36)), qo 38 (.bin .lss (.t 34) (.t 37))]
def Jqf2 (p : Nums) : IC := (.region (Jqfd p) [])
@[simp] theorem Jef2 {p : Nums} : EqI (Jqf2 p) (.region (Jqfd p) []) := eqi
@[simp] def Jqf4 (p : Nums) : List IOp := [qo 41 (.faddr 2 (.t 1)), qo 42 (.load none (.t 41)), qo 43 (.mov (.t 3)), qo 44 (.iaddr 5 (.t 42) (.t 43)), qo 45 (.load (some 5) (.t 44)), qo 4 (.alloc [.nils, (zi 0), (zi 0), (zi 0), (zi 0)]), qn (.store 5 (.t 4) (.t 45))]
def Jqej (p : Nums) : IC := (.region (Jqf4 p) [])
@[simp] theorem Jeej {p : Nums} : EqI (Jqej p) (.region (Jqf4 p) []) := eqi
@[simp] def Jqf5 (p : Nums) : List IOp := [qo 46 (.mov (.t 5)), qo 47 (.faddr 0 (.t 4)), qo 48 (.load none (.t 47)), qo 49 (.len (.t 48)), qo 50 (.bin .lss (.t 46) (.t 49))]
def Jqek (p : Nums) : IC := (.region (Jqf5 p) [])
@[simp] theorem Jeek {p : Nums} : EqI (Jqek p) (.region (Jqf5 p) []) := eqi
@[simp] def Jqf6 (p : Nums) : List IOp := [qp 53 (.faddr 0 (.t 4)), qp 54 (.load none (.t 53)), qp 55 (.mov (.t 5)), qp 56 (.iaddr 5 (.t 54) (.t 55)), qp 57 (.load (some 5) (.t 56)), qp 58 (.faddr 1 (.t 1)), qp 59 (.load none (.t 58)), qo 60 (.call p.ref07_Instr [(.t 57), (.t 59)]), qo 6 (.asg (.t 60))]
def Jqel (p : Nums) : IC := (.region (Jqf6 p) [])
@[simp] theorem Jeel {p : Nums} : EqI (Jqel p) (.region (Jqf6 p) []) := eqi
def Jqem (p : Nums) : IC := (.seq (.region [⟨(some 63), (.mov (.t 6)), none, false⟩, ⟨(some 2), (.asg (.t 63)), none, false⟩] []) .ret)
@[simp] theorem Jeem {p : Nums} : EqI (Jqem p) (.seq (.region [⟨(some 63), (.mov (.t 6)), none, false⟩, ⟨(some 2), (.asg (.t 63)), none, false⟩] []) .ret) := eqi
def Jqen (p : Nums) : IC := (.seq (Jqel p) (.seq (.region [⟨(some 61), (.mov (.t 6)), none, false⟩, ⟨(some 62), (.bin .neq (.t 61) (.c (.d (.int .i64 0)))), none, false⟩] []) (.cond (.t 62) (Jqem p) .skip)))
@[simp] theorem Jeen {p : Nums} : EqI (Jqen p) (.seq (Jqel p) (.seq (.region [⟨(some 61), (.mov (.t 6)), none, false⟩, ⟨(some 62), (.bin .neq (.t 61) (.c (.d (.int .i64 0)))), none, false⟩] []) (.cond (.t 62) (Jqem p) .skip))) := eqi
@[simp] def Jqf7 (p : Nums) : List IOp := [qo 51 (.mov (.t 5)), qo 52 (.bin .add (.t 51) (ci 1)), qo 5 (.asg (.t 52))]
def Jqeo (p : Nums) : IC := (.region (Jqf7 p) [])
@[simp] theorem Jeeo {p : Nums} : EqI (Jqeo p) (.region (Jqf7 p) []) := eqi
def Jqep (p : Nums) : IC := (.seq (.seq (Jqek p) (.cond (.t 50) .skip (.exit 2))) (.seq (.block 3 (Jqen p)) (Jqeo p)))
@[simp] theorem Jeep {p : Nums} : EqI (Jqep p) (.seq (.seq (Jqek p) (.cond (.t 50) .skip (.exit 2))) (.seq (.block 3 (Jqen p)) (Jqeo p))) := eqi
@[simp] def Jqf8 (p : Nums) : List IOp := [qo 64 (.faddr 1 (.t 4)), qo 65 (.load (some 4) (.t 64)), qo 66 (.faddr 1 (.t 1)), qo 67 (.load none (.t 66)), qo 68 (.faddr 2 (.t 1)), qo 69 (.load none (.t 68)), qo 70 (.len (.t 69)), qo 71 (.call p.ref07_Term [(.t 65), (.t 67), (.t 70)]), qo 7 (.asg (.t 71))]
def Jqeq (p : Nums) : IC := (.region (Jqf8 p) [])
@[simp] theorem Jeeq {p : Nums} : EqI (Jqeq p) (.region (Jqf8 p) []) := eqi
def Jqer (p : Nums) : IC := (.seq (.region [⟨(some 74), (.mov (.t 7)), none, false⟩, ⟨(some 2), (.asg (.t 74)), none, false⟩] []) .ret)
@[simp] theorem Jeer {p : Nums} : EqI (Jqer p) (.seq (.region [⟨(some 74), (.mov (.t 7)), none, false⟩, ⟨(some 2), (.asg (.t 74)), none, false⟩] []) .ret) := eqi
def Jqes (p : Nums) : IC := (.seq (Jqej p) (.seq (.seq (.region [⟨(some 5), (.asg (.c (.d (.int .i64 0)))), none, false⟩] []) (.block 2 (.loop (Jqep p)))) (.seq (Jqeq p) (.seq (.region [⟨(some 72), (.mov (.t 7)), none, false⟩, ⟨(some 73), (.bin .neq (.t 72) (.c (.d (.int .i64 0)))), none, false⟩] []) (.cond (.t 73) (Jqer p) .skip)))))
@[simp] theorem Jees {p : Nums} : EqI (Jqes p) (.seq (Jqej p) (.seq (.seq (.region [⟨(some 5), (.asg (.c (.d (.int .i64 0)))), none, false⟩] []) (.block 2 (.loop (Jqep p)))) (.seq (Jqeq p) (.seq (.region [⟨(some 72), (.mov (.t 7)), none, false⟩, ⟨(some 73), (.bin .neq (.t 72) (.c (.d (.int .i64 0)))), none, false⟩] []) (.cond (.t 73) (Jqer p) .skip))))) := eqi
@[simp] def Jqf9 (p : Nums) : List IOp := [qo 39 (.mov (.t 3)), qo 40 (.bin .add (.t 39) (ci 1)), qo 3 (.asg (.t 40))]
def Jqeu (p : Nums) : IC := (.region (Jqf9 p) [])
@[simp] theorem Jeeu {p : Nums} : EqI (Jqeu p) (.region (Jqf9 p) []) := eqi
def Jqev (p : Nums) : IC := (.seq (.seq (Jqf2 p) (.cond (.t 38) .skip (.exit 0))) (.seq (.block 1 (Jqes p)) (Jqeu p)))
@[simp] theorem Jeev {p : Nums} : EqI (Jqev p) (.seq (.seq (Jqf2 p) (.cond (.t 38) .skip (.exit 0))) (.seq (.block 1 (Jqes p)) (Jqeu p))) := eqi
def Jtbt (p : Nums) : IC := (.seq (.region [⟨(some 1), (.box (.t 0)), none, false⟩, ⟨(some 2), (.asg (.c (.d (.int .i64 0)))), none, false⟩] []) (.seq (.seq (Jqei p) (.cond (.t 17) (Jqet p) .skip)) (.seq (.seq (Jqew p) (.cond (.t 20) (Jqex p) .skip)) (.seq (.seq (Jqey p) (.cond (.t 24) (Jqez p) .skip)) (.seq (.seq (Jqf0 p) (.cond (.t 33) (Jqf1 p) .skip)) (.seq (.seq (.region [⟨(some 3), (.asg (.c (.d (.int .i64 0)))), none, false⟩] []) (.block 0 (.loop (Jqev p)))) (.seq (.region [⟨(some 2), (.asg (.c (.d (.int .i64 0)))), none, false⟩] []) .ret)))))))
@[simp] def Jqo3 (p : Nums) : List IOp := [qo 1 (.box (.t 0)), qo 2 (.alloc [(zi 0), (zi 0), .nils, (zi 0), (zi 0), (zi 0), .nils, .nils]), qo 3 (.asg (ci 0))]
def Jqnh (p : Nums) : IC := (.region (Jqo3 p) [])
@[simp] theorem Jenh {p : Nums} : EqI (Jqnh p) (.region (Jqo3 p) []) := eqi
@[simp] def Jqoc (p : Nums) : List IOp := [qo 11 (.load (some 3) (.t 1)), qo 12 (.call p.source_Check [(.t 11)]), qo 4 (.asg (.t 12))]
def Jqns (p : Nums) : IC := (.region (Jqoc p) [])
@[simp] theorem Jens {p : Nums} : EqI (Jqns p) (.region (Jqoc p) []) := eqi
@[simp] def Jqoe (p : Nums) : List IOp := [qo 15 (.build [(zi 0), (zi 0), .nils, (zi 0), (zi 0), (zi 0), .nils, .nils] []), qo 16 (.mov (.t 4)), qn (.store 8 (.t 2) (.t 15)), qo 3 (.asg (.t 16))]
def Jqnw (p : Nums) : IC := (.region (Jqoe p) [])
@[simp] theorem Jenw {p : Nums} : EqI (Jqnw p) (.region (Jqoe p) []) := eqi
@[simp] def Jqof (p : Nums) : List IOp := [qo 17 (.faddr 0 (.t 1)), qo 18 (.load none (.t 17)), qo 19 (.faddr 1 (.t 1)), qo 20 (.load none (.t 19)), qo 21 (.build [(zi 0), (zi 0), .nils] [(0, 1, (.t 18)), (1, 1, (.t 20))]), qo 22 (.faddr 0 (.t 1)), qo 23 (.load none (.t 22)), qo 24 (.faddr 1 (.t 1)), qo 25 (.load none (.t 24)), qo 26 (.build [(zi 0), (zi 0), (zi 0), .nils] [(0, 1, (.t 23)), (1, 1, (ci 2)), (2, 1, (.t 25))]), qo 27 (.build [(zi 0), (zi 0), .nils, (zi 0), (zi 0), (zi 0), .nils, .nils] [(0, 3, (.t 21)), (3, 4, (.t 26))]), qo 5 (.alloc [(zi 0), (zi 0), .nils, (zi 0), (zi 0), (zi 0), .nils, .nils]), qn (.store 8 (.t 5) (.t 27))]
def Jqnx (p : Nums) : IC := (.region (Jqof p) [])
@[simp] theorem Jenx {p : Nums} : EqI (Jqnx p) (.region (Jqof p) []) := eqi
@[simp] def Jqog (p : Nums) : List IOp := [qo 28 (.faddr 2 (.t 1)), qo 29 (.load none (.t 28)), qo 30 (.len (.t 29)), qo 31 (.faddr 1 (.t 1)), qo 32 (.load none (.t 31)), qo 33 (.bin .mul (.t 30) (.t 32)), qo 34 (.bin .gtr (.t 33) (ci 1048576))]
def Jqny (p : Nums) : IC := (.region (Jqog p) [])
@[simp] theorem Jeny {p : Nums} : EqI (Jqny p) (.region (Jqog p) []) := eqi
@[simp] def Jqoh (p : Nums) : List IOp := [qo 35 (.build [(zi 0), (zi 0), .nils, (zi 0), (zi 0), (zi 0), .nils, .nils] []), qn (.store 8 (.t 2) (.t 35)), qo 3 (.asg (ci 6))]
def Jqnz (p : Nums) : IC := (.region (Jqoh p) [])
@[simp] theorem Jenz {p : Nums} : EqI (Jqnz p) (.region (Jqoh p) []) := eqi
@[simp] def Jqoi (p : Nums) : List IOp := [qo 36 (.faddr 2 (.t 1)), qo 37 (.load none (.t 36)), qo 38 (.len (.t 37)), qo 39 (.mov (ci 0))]
def Jqo0 (p : Nums) : IC := (.region (Jqoi p) [])
@[simp] theorem Jeo0 {p : Nums} : EqI (Jqo0 p) (.region (Jqoi p) []) := eqi
@[simp] def Jqoj (p : Nums) : List IOp := [qo 41 (.iaddr 5 (.t 37) (.t 39)), qo 42 (.load (some 5) (.t 41)), qo 9 (.alloc [.nils, (zi 0), (zi 0), (zi 0), (zi 0)]), qn (.store 5 (.t 9) (.t 42))]
def Jqo1 (p : Nums) : IC := (.region (Jqoj p) [])
@[simp] theorem Jeo1 {p : Nums} : EqI (Jqo1 p) (.region (Jqoj p) []) := eqi
@[simp] def Jqok (p : Nums) : List IOp := [qo 43 (.load (some 5) (.t 9)), qo 44 (.call p.spillall_Block [(.t 43)]), qo 10 (.alloc [.nils, (zi 0), (zi 0), (zi 0), (zi 0)]), qn (.store 5 (.t 10) (.t 44))]
def Jqo2 (p : Nums) : IC := (.region (Jqok p) [])
@[simp] theorem Jeo2 {p : Nums} : EqI (Jqo2 p) (.region (Jqok p) []) := eqi
@[simp] def Jqo4 (p : Nums) : List IOp := [qp 45 (.mov (.t 6)), qp 46 (.faddr 0 (.t 10)), qp 47 (.load none (.t 46)), qp 48 (.len (.t 47)), qp 49 (.bin .add (.t 45) (.t 48)), qp 50 (.mov (.t 7)), qp 51 (.load (some 5) (.t 9)), qp 52 (.call p.spillall_Moves [(.t 51)]), qp 53 (.mx (.t 50) (.t 52)), qp 6 (.asg (.t 49)), qo 7 (.asg (.t 53))]
def Jqni (p : Nums) : IC := (.region (Jqo4 p) [])
@[simp] theorem Jeni {p : Nums} : EqI (Jqni p) (.region (Jqo4 p) []) := eqi
@[simp] def Jqo5 (p : Nums) : List IOp := [qp 54 (.faddr 0 (.t 5)), qp 55 (.faddr 2 (.t 54)), qp 56 (.load none (.t 55)), qp 57 (.faddr 0 (.t 9)), qp 58 (.load none (.t 57)), qp 59 (.call p.slices_Clone_Instr [(.t 58)]), qp 60 (.faddr 1 (.t 9)), qp 61 (.load (some 4) (.t 60)), qp 62 (.build [.nils, (zi 0), (zi 0), (zi 0), (zi 0)] [(0, 1, (.t 59)), (1, 4, (.t 61))]), qp 63 (.bslice 5 1 [(.sl []), (.int .i64 0), (.int .i64 0), (.int .i64 0), (.int .i64 0)] [(0, (.t 62))]), qo 64 (.app 5 56 (.t 56) (.t 63)), qo 65 (.faddr 0 (.t 5)), qo 66 (.faddr 2 (.t 65)), qn (.store 1 (.t 66) (.t 64))]
def Jqnj (p : Nums) : IC := (.region (Jqo5 p) [])
@[simp] theorem Jenj {p : Nums} : EqI (Jqnj p) (.region (Jqo5 p) []) := eqi
@[simp] def Jqo6 (p : Nums) : List IOp := [qo 67 (.faddr 3 (.t 5)), qo 68 (.faddr 3 (.t 67)), qo 69 (.load none (.t 68)), qo 70 (.load (some 5) (.t 10)), qo 71 (.bslice 5 1 [(.sl []), (.int .i64 0), (.int .i64 0), (.int .i64 0), (.int .i64 0)] [(0, (.t 70))]), qo 72 (.app 5 56 (.t 69) (.t 71)), qo 73 (.faddr 3 (.t 5)), qo 74 (.faddr 3 (.t 73)), qn (.store 1 (.t 74) (.t 72))]
def Jqnk (p : Nums) : IC := (.region (Jqo6 p) [])
@[simp] theorem Jenk {p : Nums} : EqI (Jqnk p) (.region (Jqo6 p) []) := eqi
@[simp] def Jqo7 (p : Nums) : List IOp := [qp 75 (.faddr 7 (.t 5)), qp 76 (.load none (.t 75)), qp 77 (.faddr 1 (.t 1)), qp 78 (.load none (.t 77)), qp 79 (.call p.spillall_invariant [(.t 78)]), qp 80 (.bslice 1 1 [(.sl [])] [(0, (.t 79))]), qo 81 (.app 1 24 (.t 76) (.t 80)), qo 82 (.faddr 7 (.t 5)), qn (.store 1 (.t 82) (.t 81))]
def Jqnl (p : Nums) : IC := (.region (Jqo7 p) [])
@[simp] theorem Jenl {p : Nums} : EqI (Jqnl p) (.region (Jqo7 p) []) := eqi
def Jqnm (p : Nums) : IC := (.seq (Jqo1 p) (.seq (Jqo2 p) (.seq (Jqni p) (.seq (Jqnj p) (.seq (Jqnk p) (Jqnl p))))))
@[simp] theorem Jenm {p : Nums} : EqI (Jqnm p) (.seq (Jqo1 p) (.seq (Jqo2 p) (.seq (Jqni p) (.seq (Jqnj p) (.seq (Jqnk p) (Jqnl p)))))) := eqi
def Jqnn (p : Nums) : IC := (.seq (.region [⟨(some 40), (.bin .lss (.t 39) (.t 38)), none, false⟩] []) (.seq (.cond (.t 40) .skip (.exit 0)) (.seq (.block 1 (Jqnm p)) (.region [⟨(some 83), (.bin .add (.t 39) (.c (.d (.int .i64 1)))), none, false⟩, ⟨(some 39), (.mov (.t 83)), none, false⟩] []))))
@[simp] theorem Jenn {p : Nums} : EqI (Jqnn p) (.seq (.region [⟨(some 40), (.bin .lss (.t 39) (.t 38)), none, false⟩] []) (.seq (.cond (.t 40) .skip (.exit 0)) (.seq (.block 1 (Jqnm p)) (.region [⟨(some 83), (.bin .add (.t 39) (.c (.d (.int .i64 1)))), none, false⟩, ⟨(some 39), (.mov (.t 83)), none, false⟩] [])))) := eqi
@[simp] def Jqo8 (p : Nums) : List IOp := [qo 85 (.mov (.t 6)), qo 86 (.bin .gtr (.t 85) (ci 1048576)), qo 84 (.asg (.t 86))]
def Jqno (p : Nums) : IC := (.region (Jqo8 p) [])
@[simp] theorem Jeno {p : Nums} : EqI (Jqno p) (.region (Jqo8 p) []) := eqi
@[simp] def Jqo9 (p : Nums) : List IOp := [qo 87 (.build [(zi 0), (zi 0), .nils, (zi 0), (zi 0), (zi 0), .nils, .nils] []), qn (.store 8 (.t 2) (.t 87)), qo 3 (.asg (ci 6))]
def Jqnp (p : Nums) : IC := (.region (Jqo9 p) [])
@[simp] theorem Jenp {p : Nums} : EqI (Jqnp p) (.region (Jqo9 p) []) := eqi
@[simp] def Jqoa (p : Nums) : List IOp := [qo 89 (.mov (.t 7)), qo 90 (.bin .gtr (.t 89) (ci 64)), qo 88 (.asg (.t 90))]
def Jqnq (p : Nums) : IC := (.region (Jqoa p) [])
@[simp] theorem Jenq {p : Nums} : EqI (Jqnq p) (.region (Jqoa p) []) := eqi
@[simp] def Jqob (p : Nums) : List IOp := [qo 91 (.build [(zi 0), (zi 0), .nils, (zi 0), (zi 0), (zi 0), .nils, .nils] []), qn (.store 8 (.t 2) (.t 91)), qo 3 (.asg (ci 15))]
def Jqnr (p : Nums) : IC := (.region (Jqob p) [])
@[simp] theorem Jenr {p : Nums} : EqI (Jqnr p) (.region (Jqob p) []) := eqi
def Jqnt (p : Nums) : IC := (.seq (Jqnq p) (.cond (.t 88) (.seq (Jqnr p) .ret) .skip))
@[simp] theorem Jent {p : Nums} : EqI (Jqnt p) (.seq (Jqnq p) (.cond (.t 88) (.seq (Jqnr p) .ret) .skip)) := eqi
def Jqnu (p : Nums) : IC := (.seq (Jqno p) (.cond (.t 84) (.seq (Jqnp p) .ret) (Jqnt p)))
@[simp] theorem Jenu {p : Nums} : EqI (Jqnu p) (.seq (Jqno p) (.cond (.t 84) (.seq (Jqnp p) .ret) (Jqnt p))) := eqi
@[simp] def Jqod (p : Nums) : List IOp := [qo 92 (.load (some 8) (.t 5)), qn (.store 8 (.t 2) (.t 92)), qo 3 (.asg (ci 0))]
def Jqnv (p : Nums) : IC := (.region (Jqod p) [])
@[simp] theorem Jenv {p : Nums} : EqI (Jqnv p) (.region (Jqod p) []) := eqi
def Jtcg (p : Nums) : IC := (.seq (Jqnh p) (.seq (.seq (Jqns p) (.seq (.region [⟨(some 13), (.mov (.t 4)), none, false⟩, ⟨(some 14), (.bin .neq (.t 13) (.c (.d (.int .i64 0)))), none, false⟩] []) (.cond (.t 14) (.seq (Jqnw p) .ret) .skip))) (.seq (Jqnx p) (.seq (.seq (Jqny p) (.cond (.t 34) (.seq (Jqnz p) .ret) .skip)) (.seq (.region [⟨(some 6), (.asg (.c (.d (.int .i64 0)))), none, false⟩, ⟨(some 7), (.asg (.c (.d (.int .i64 0)))), none, false⟩] []) (.seq (.seq (Jqo0 p) (.block 0 (.loop (Jqnn p)))) (.seq (.block 2 (Jqnu p)) (.seq (Jqnv p) .ret))))))))
@[simp] def Jqgq (p : Nums) : List IOp := [qo 2 (.box (.t 0)), qo 3 (.box (.t 1)), qo 4 (.asg (.c (.d (.bool false))))]
def Jqgb (p : Nums) : IC := (.region (Jqgq p) [])
@[simp] theorem Jegb {p : Nums} : EqI (Jqgb p) (.region (Jqgq p) []) := eqi
@[simp] def Jqgt (p : Nums) : List IOp := [qo 7 (.faddr 0 (.t 2)), qo 8 (.load none (.t 7)), qo 9 (.faddr 0 (.t 3)), qo 10 (.load none (.t 9)), qo 11 (.bin .neq (.t 8) (.t 10)), qo 12 (.mov (.t 11)), ⟨(some 13), (.faddr 1 (.t 2)), (some (12, false)), false⟩, ⟨(some 14), (.load none (.t 13)), (some (12, false)), false⟩, ⟨(some 15), (.faddr 1 (.t 3)), (some (12, false)), false⟩, ⟨(some 16), (.load none (.t 15)), (some (12, false)), false⟩, ⟨(some 17), (.bin .neq (.t 14) (.t 16)), (some (12, false)), false⟩, qo 18 (.pick (.t 12) (.c (.d (.bool true))) (.t 17)), qo 19 (.mov (.t 18)), ⟨(some 20), (.faddr 2 (.t 2)), (some (19, false)), false⟩, ⟨(some 21), (.load none (.t 20)), (some (19, false)), false⟩, ⟨(some 22), (.len (.t 21)), (some (19, false)), false⟩, ⟨(some 23), (.faddr 2 (.t 3)), (some (19, false)), false⟩, ⟨(some 24), (.load none (.t 23)), (some (19, false)), false⟩, ⟨(some 25), (.len (.t 24)), (some (19, false)), false⟩, ⟨(some 26), (.bin .neq (.t 22) (.t 25)), (some (19, false)), false⟩, qo 27 (.pick (.t 19) (.c (.d (.bool true))) (.t 26))]
def Jqgi (p : Nums) : IC := (.region (Jqgt p) [])
@[simp] theorem Jegi {p : Nums} : EqI (Jqgi p) (.region (Jqgt p) []) := eqi
def Jqgj (p : Nums) : IC := (.seq (.region [⟨(some 4), (.asg (.c (.d (.bool false)))), none, false⟩] []) .ret)
@[simp] theorem Jegj {p : Nums} : EqI (Jqgj p) (.seq (.region [⟨(some 4), (.asg (.c (.d (.bool false)))), none, false⟩] []) .ret) := eqi
@[simp] def Jqgu (p : Nums) : List IOp := [qo 28 (.mov (.t 5)), qo 29 (.faddr 2 (.t 2)), qo 30 (.load none (.t 29)), qo 31 (.len (.t 30)), qo 32 (.bin .lss (.t 28) (.t 31))]
def Jqgk (p : Nums) : IC := (.region (Jqgu p) [])
@[simp] theorem Jegk {p : Nums} : EqI (Jqgk p) (.region (Jqgu p) []) := eqi
@[simp] def Jqgv (p : Nums) : List IOp := [qp 35 (.faddr 2 (.t 2)), qp 36 (.load none (.t 35)), qp 37 (.mov (.t 5)), qp 38 (.iaddr 5 (.t 36) (.t 37)), qp 39 (.faddr 1 (.t 38)), qp 40 (.load (some 4) (.t 39)), qp 41 (.faddr 2 (.t 3)), qp 42 (.load none (.t 41)), qp 43 (.mov (.t 5)), qp 44 (.iaddr 5 (.t 42) (.t 43)), qp 45 (.faddr 1 (.t 44)), qp 46 (.load (some 4) (.t 45)), qo 47 (.eqs true [.int, .int, .int, .int] (.t 40) (.t 46)), qo 48 (.mov (.t 47)), ⟨(some 49), (.faddr 2 (.t 2)), (some (48, false)), true⟩, ⟨(some 50), (.load none (.t 49)), (some (48, false)), true⟩, ⟨(some 51), (.mov (.t 5)), (some (48, false)), true⟩, ⟨(some 52), (.iaddr 5 (.t 50) (.t 51)), (some (48, false)), true⟩, ⟨(some 53), (.faddr 0 (.t 52)), (some (48, false)), true⟩, ⟨(some 54), (.load none (.t 53)), (some (48, false)), true⟩, ⟨(some 55), (.len (.t 54)), (some (48, false)), true⟩, ⟨(some 56), (.faddr 2 (.t 3)), (some (48, false)), true⟩, ⟨(some 57), (.load none (.t 56)), (some (48, false)), true⟩, ⟨(some 58), (.mov (.t 5)), (some (48, false)), true⟩, ⟨(some 59), (.iaddr 5 (.t 57) (.t 58)), (some (48, false)), true⟩, ⟨(some 60), (.faddr 0 (.t 59)), (some (48, false)), true⟩, ⟨(some 61), (.load none (.t 60)), (some (48, false)), true⟩, ⟨(some 62), (.len (.t 61)), (some (48, false)), true⟩, ⟨(some 63), (.bin .neq (.t 55) (.t 62)), (some (48, false)), false⟩, qo 64 (.pick (.t 48) (.c (.d (.bool true))) (.t 63))]
def Jqgl (p : Nums) : IC := (.region (Jqgv p) [])
@[simp] theorem Jegl {p : Nums} : EqI (Jqgl p) (.region (Jqgv p) []) := eqi
def Jqgm (p : Nums) : IC := (.seq (.region [⟨(some 4), (.asg (.c (.d (.bool false)))), none, false⟩] []) .ret)
@[simp] theorem Jegm {p : Nums} : EqI (Jqgm p) (.seq (.region [⟨(some 4), (.asg (.c (.d (.bool false)))), none, false⟩] []) .ret) := eqi
@[simp] def Jqgw (p : Nums) : List IOp := [qo 65 (.mov (.t 6)), qo 66 (.faddr 2 (.t 2)), qo 67 (.load none (.t 66)), qo 68 (.mov (.t 5)), qo 69 (.iaddr 5 (.t 67) (.t 68)), qo 70 (.faddr 0 (.t 69)), qo 71 (.load none (.t 70)), qo 72 (.len (.t 71)), qo 73 (.bin .lss (.t 65) (.t 72))]
def Jqgn (p : Nums) : IC := (.region (Jqgw p) [])
@[simp] theorem Jegn {p : Nums} : EqI (Jqgn p) (.region (Jqgw p) []) := eqi
@[simp] def Jqgx (p : Nums) : List IOp := [qp 76 (.faddr 2 (.t 2)), qp 77 (.load none (.t 76)), qp 78 (.mov (.t 5)), qp 79 (.iaddr 5 (.t 77) (.t 78)), qp 80 (.faddr 0 (.t 79)), qp 81 (.load none (.t 80)), qp 82 (.mov (.t 6)), qp 83 (.iaddr 5 (.t 81) (.t 82)), qp 84 (.load (some 5) (.t 83)), qp 85 (.faddr 2 (.t 3)), qp 86 (.load none (.t 85)), qp 87 (.mov (.t 5)), qp 88 (.iaddr 5 (.t 86) (.t 87)), qp 89 (.faddr 0 (.t 88)), qp 90 (.load none (.t 89)), qp 91 (.mov (.t 6)), qp 92 (.iaddr 5 (.t 90) (.t 91)), qp 93 (.load (some 5) (.t 92)), qo 94 (.eqs true [.int, .int, .int, .int, .int] (.t 84) (.t 93))]
def Jqgo (p : Nums) : IC := (.region (Jqgx p) [])
@[simp] theorem Jego {p : Nums} : EqI (Jqgo p) (.region (Jqgx p) []) := eqi
def Jqgp (p : Nums) : IC := (.seq (.region [⟨(some 4), (.asg (.c (.d (.bool false)))), none, false⟩] []) .ret)
@[simp] theorem Jegp {p : Nums} : EqI (Jqgp p) (.seq (.region [⟨(some 4), (.asg (.c (.d (.bool false)))), none, false⟩] []) .ret) := eqi
def Jqgc (p : Nums) : IC := (.seq (Jqgo p) (.cond (.t 94) (Jqgp p) .skip))
@[simp] theorem Jegc {p : Nums} : EqI (Jqgc p) (.seq (Jqgo p) (.cond (.t 94) (Jqgp p) .skip)) := eqi
@[simp] def Jqgr (p : Nums) : List IOp := [qo 74 (.mov (.t 6)), qo 75 (.bin .add (.t 74) (ci 1)), qo 6 (.asg (.t 75))]
def Jqgd (p : Nums) : IC := (.region (Jqgr p) [])
@[simp] theorem Jegd {p : Nums} : EqI (Jqgd p) (.region (Jqgr p) []) := eqi
def Jqge (p : Nums) : IC := (.seq (.seq (Jqgn p) (.cond (.t 73) .skip (.exit 2))) (.seq (.block 3 (Jqgc p)) (Jqgd p)))
@[simp] theorem Jege {p : Nums} : EqI (Jqge p) (.seq (.seq (Jqgn p) (.cond (.t 73) .skip (.exit 2))) (.seq (.block 3 (Jqgc p)) (Jqgd p))) := eqi
def Jqgf (p : Nums) : IC := (.seq (.seq (Jqgl p) (.cond (.t 64) (Jqgm p) .skip)) (.seq (.region [⟨(some 6), (.asg (.c (.d (.int .i64 0)))), none, false⟩] []) (.block 2 (.loop (Jqge p)))))
@[simp] theorem Jegf {p : Nums} : EqI (Jqgf p) (.seq (.seq (Jqgl p) (.cond (.t 64) (Jqgm p) .skip)) (.seq (.region [⟨(some 6), (.asg (.c (.d (.int .i64 0)))), none, false⟩] []) (.block 2 (.loop (Jqge p))))) := eqi
@[simp] def Jqgs (p : Nums) : List IOp := [qo 33 (.mov (.t 5)), qo 34 (.bin .add (.t 33) (ci 1)), qo 5 (.asg (.t 34))]
def Jqgg (p : Nums) : IC := (.region (Jqgs p) [])
@[simp] theorem Jegg {p : Nums} : EqI (Jqgg p) (.region (Jqgs p) []) := eqi
def Jqgh (p : Nums) : IC := (.seq (.seq (Jqgk p) (.cond (.t 32) .skip (.exit 0))) (.seq (.block 1 (Jqgf p)) (Jqgg p)))
@[simp] theorem Jegh {p : Nums} : EqI (Jqgh p) (.seq (.seq (Jqgk p) (.cond (.t 32) .skip (.exit 0))) (.seq (.block 1 (Jqgf p)) (Jqgg p))) := eqi
def Jtbx (p : Nums) : IC := (.seq (Jqgb p) (.seq (.seq (Jqgi p) (.cond (.t 27) (Jqgj p) .skip)) (.seq (.seq (.region [⟨(some 5), (.asg (.c (.d (.int .i64 0)))), none, false⟩] []) (.block 0 (.loop (Jqgh p)))) (.seq (.region [⟨(some 4), (.asg (.c (.d (.bool true)))), none, false⟩] []) .ret))))
@[simp] def Jqkl (p : Nums) : List IOp := [qo 7 (.faddr 0 (.t 1)), qo 8 (.load none (.t 7)), qo 9 (.bin .lss (.t 8) (ci 0)), qo 10 (.mov (.t 9)), ⟨(some 11), (.faddr 0 (.t 1)), (some (10, false)), false⟩, ⟨(some 12), (.load none (.t 11)), (some (10, false)), false⟩, ⟨(some 13), (.faddr 1 (.t 1)), (some (10, false)), false⟩, ⟨(some 14), (.load none (.t 13)), (some (10, false)), false⟩, ⟨(some 15), (.bin .gtr (.t 12) (.t 14)), (some (10, false)), false⟩, qo 16 (.pick (.t 10) (.c (.d (.bool true))) (.t 15)), qo 6 (.asg (.t 16))]
def Jqk3 (p : Nums) : IC := (.region (Jqkl p) [])
@[simp] theorem Jek3 {p : Nums} : EqI (Jqk3 p) (.region (Jqkl p) []) := eqi
@[simp] def Jqkp (p : Nums) : List IOp := [qo 18 (.faddr 1 (.t 1)), qo 19 (.load none (.t 18)), qo 20 (.bin .gtr (.t 19) (ci 1048576)), qo 17 (.asg (.t 20))]
def Jqkd (p : Nums) : IC := (.region (Jqkp p) [])
@[simp] theorem Jekd {p : Nums} : EqI (Jqkd p) (.region (Jqkp p) []) := eqi
@[simp] def Jqkq (p : Nums) : List IOp := [qo 22 (.faddr 2 (.t 1)), qo 23 (.load none (.t 22)), qo 24 (.len (.t 23)), qo 25 (.bin .eql (.t 24) (ci 0)), qo 21 (.asg (.t 25))]
def Jqke (p : Nums) : IC := (.region (Jqkq p) [])
@[simp] theorem Jeke {p : Nums} : EqI (Jqke p) (.region (Jqkq p) []) := eqi
@[simp] def Jqkr (p : Nums) : List IOp := [qo 27 (.faddr 2 (.t 1)), qo 28 (.load none (.t 27)), qo 29 (.len (.t 28)), qo 30 (.bin .gtr (.t 29) (ci 1048576)), qo 31 (.mov (.t 30)), ⟨(some 32), (.load (some 3) (.t 1)), (some (31, false)), false⟩, ⟨(some 33), (.call p.source_Code [(.t 32)]), (some (31, false)), false⟩, ⟨(some 34), (.bin .gtr (.t 33) (ci 1048576)), (some (31, false)), false⟩, qo 35 (.pick (.t 31) (.c (.d (.bool true))) (.t 34)), qo 26 (.asg (.t 35))]
def Jqkf (p : Nums) : IC := (.region (Jqkr p) [])
@[simp] theorem Jekf {p : Nums} : EqI (Jqkf p) (.region (Jqkr p) []) := eqi
def Jqkg (p : Nums) : IC := (.seq (.region [⟨(some 2), (.asg (.c (.d (.int .i64 6)))), none, false⟩] []) .ret)
@[simp] theorem Jekg {p : Nums} : EqI (Jqkg p) (.seq (.region [⟨(some 2), (.asg (.c (.d (.int .i64 6)))), none, false⟩] []) .ret) := eqi
def Jqkh (p : Nums) : IC := (.seq (.region [⟨(some 2), (.asg (.c (.d (.int .i64 14)))), none, false⟩] []) .ret)
@[simp] theorem Jekh {p : Nums} : EqI (Jqkh p) (.seq (.region [⟨(some 2), (.asg (.c (.d (.int .i64 14)))), none, false⟩] []) .ret) := eqi
def Jqki (p : Nums) : IC := (.seq (Jqkf p) (.cond (.t 26) (Jqkg p) .skip))
@[simp] theorem Jeki {p : Nums} : EqI (Jqki p) (.seq (Jqkf p) (.cond (.t 26) (Jqkg p) .skip)) := eqi
def Jqkj (p : Nums) : IC := (.seq (.region [⟨(some 2), (.asg (.c (.d (.int .i64 6)))), none, false⟩] []) .ret)
@[simp] theorem Jekj {p : Nums} : EqI (Jqkj p) (.seq (.region [⟨(some 2), (.asg (.c (.d (.int .i64 6)))), none, false⟩] []) .ret) := eqi
def Jqkk (p : Nums) : IC := (.seq (Jqke p) (.cond (.t 21) (Jqkh p) (Jqki p)))
@[simp] theorem Jekk {p : Nums} : EqI (Jqkk p) (.seq (Jqke p) (.cond (.t 21) (Jqkh p) (Jqki p))) := eqi
def Jqk4 (p : Nums) : IC := (.seq (.region [⟨(some 2), (.asg (.c (.d (.int .i64 9)))), none, false⟩] []) .ret)
@[simp] theorem Jek4 {p : Nums} : EqI (Jqk4 p) (.seq (.region [⟨(some 2), (.asg (.c (.d (.int .i64 9)))), none, false⟩] []) .ret) := eqi
def Jqk5 (p : Nums) : IC := (.seq (Jqkd p) (.cond (.t 17) (Jqkj p) (Jqkk p)))
@[simp] theorem Jek5 {p : Nums} : EqI (Jqk5 p) (.seq (Jqkd p) (.cond (.t 17) (Jqkj p) (Jqkk p))) := eqi
def Jqk6 (p : Nums) : IC := (.seq (Jqk3 p) (.cond (.t 6) (Jqk4 p) (Jqk5 p)))
@[simp] theorem Jek6 {p : Nums} : EqI (Jqk6 p) (.seq (Jqk3 p) (.cond (.t 6) (Jqk4 p) (Jqk5 p))) := eqi
@[simp] def Jqkm (p : Nums) : List IOp := [qo 36 (.faddr 2 (.t 1)), qo 37 (.load none (.t 36)), qo 38 (.len (.t 37)), qo 39 (.mov (ci 0))]
def Jqk7 (p : Nums) : IC := (.region (Jqkm p) [])
@[simp] theorem Jek7 {p : Nums} : EqI (Jqk7 p) (.region (Jqkm p) []) := eqi
@[simp] def Jqkn (p : Nums) : List IOp := [qo 41 (.iaddr 5 (.t 37) (.t 39)), qo 42 (.load (some 5) (.t 41)), qo 4 (.alloc [.nils, (zi 0), (zi 0), (zi 0), (zi 0)]), qn (.store 5 (.t 4) (.t 42))]
def Jqk8 (p : Nums) : IC := (.region (Jqkn p) [])
@[simp] theorem Jek8 {p : Nums} : EqI (Jqk8 p) (.region (Jqkn p) []) := eqi
@[simp] def Jqko (p : Nums) : List IOp := [qo 43 (.load (some 5) (.t 4)), qo 44 (.faddr 1 (.t 1)), qo 45 (.load none (.t 44)), qo 46 (.faddr 2 (.t 1)), qo 47 (.load none (.t 46)), qo 48 (.len (.t 47)), qo 49 (.call p.source_block [(.t 43), (.t 45), (.t 48)]), qo 5 (.asg (.t 49))]
def Jqk9 (p : Nums) : IC := (.region (Jqko p) [])
@[simp] theorem Jek9 {p : Nums} : EqI (Jqk9 p) (.region (Jqko p) []) := eqi
def Jqka (p : Nums) : IC := (.seq (.region [⟨(some 52), (.mov (.t 5)), none, false⟩, ⟨(some 2), (.asg (.t 52)), none, false⟩] []) .ret)
@[simp] theorem Jeka {p : Nums} : EqI (Jqka p) (.seq (.region [⟨(some 52), (.mov (.t 5)), none, false⟩, ⟨(some 2), (.asg (.t 52)), none, false⟩] []) .ret) := eqi
def Jqkb (p : Nums) : IC := (.seq (Jqk8 p) (.seq (Jqk9 p) (.seq (.region [⟨(some 50), (.mov (.t 5)), none, false⟩, ⟨(some 51), (.bin .neq (.t 50) (.c (.d (.int .i64 0)))), none, false⟩] []) (.cond (.t 51) (Jqka p) .skip))))
@[simp] theorem Jekb {p : Nums} : EqI (Jqkb p) (.seq (Jqk8 p) (.seq (Jqk9 p) (.seq (.region [⟨(some 50), (.mov (.t 5)), none, false⟩, ⟨(some 51), (.bin .neq (.t 50) (.c (.d (.int .i64 0)))), none, false⟩] []) (.cond (.t 51) (Jqka p) .skip)))) := eqi
def Jqkc (p : Nums) : IC := (.seq (.region [⟨(some 40), (.bin .lss (.t 39) (.t 38)), none, false⟩] []) (.seq (.cond (.t 40) .skip (.exit 1)) (.seq (.block 2 (Jqkb p)) (.region [⟨(some 53), (.bin .add (.t 39) (.c (.d (.int .i64 1)))), none, false⟩, ⟨(some 39), (.mov (.t 53)), none, false⟩] []))))
@[simp] theorem Jekc {p : Nums} : EqI (Jqkc p) (.seq (.region [⟨(some 40), (.bin .lss (.t 39) (.t 38)), none, false⟩] []) (.seq (.cond (.t 40) .skip (.exit 1)) (.seq (.block 2 (Jqkb p)) (.region [⟨(some 53), (.bin .add (.t 39) (.c (.d (.int .i64 1)))), none, false⟩, ⟨(some 39), (.mov (.t 53)), none, false⟩] [])))) := eqi
def Jtc7 (p : Nums) : IC := (.seq (.region [⟨(some 1), (.box (.t 0)), none, false⟩, ⟨(some 2), (.asg (.c (.d (.int .i64 0)))), none, false⟩] []) (.seq (.block 0 (Jqk6 p)) (.seq (.seq (Jqk7 p) (.block 1 (.loop (Jqkc p)))) (.seq (.region [⟨(some 2), (.asg (.c (.d (.int .i64 0)))), none, false⟩] []) .ret))))
@[simp] def Jq8u (p : Nums) : List IOp := [qo 7 (.faddr 0 (.t 1)), qo 8 (.load none (.t 7)), qo 9 (.bin .lss (.t 8) (ci 0)), qo 10 (.mov (.t 9)), ⟨(some 11), (.faddr 0 (.t 1)), (some (10, false)), false⟩, ⟨(some 12), (.load none (.t 11)), (some (10, false)), false⟩, ⟨(some 13), (.faddr 2 (.t 1)), (some (10, false)), false⟩, ⟨(some 14), (.load none (.t 13)), (some (10, false)), false⟩, ⟨(some 15), (.bin .gtr (.t 12) (.t 14)), (some (10, false)), false⟩, qo 16 (.pick (.t 10) (.c (.d (.bool true))) (.t 15)), qo 6 (.asg (.t 16))]
def Jq89 (p : Nums) : IC := (.region (Jq8u p) [])
@[simp] theorem Je89 {p : Nums} : EqI (Jq89 p) (.region (Jq8u p) []) := eqi
@[simp] def Jq8y (p : Nums) : List IOp := [qo 18 (.faddr 1 (.t 1)), qo 19 (.load none (.t 18)), qo 20 (.bin .lss (.t 19) (ci 0)), qo 17 (.asg (.t 20))]
def Jq8k (p : Nums) : IC := (.region (Jq8y p) [])
@[simp] theorem Je8k {p : Nums} : EqI (Jq8k p) (.region (Jq8y p) []) := eqi
@[simp] def Jq8z (p : Nums) : List IOp := [qo 22 (.faddr 2 (.t 1)), qo 23 (.load none (.t 22)), qo 24 (.bin .gtr (.t 23) (ci 1048576)), qo 25 (.mov (.t 24)), ⟨(some 26), (.faddr 1 (.t 1)), (some (25, false)), false⟩, ⟨(some 27), (.load none (.t 26)), (some (25, false)), false⟩, ⟨(some 28), (.bin .gtr (.t 27) (ci 1048576)), (some (25, false)), false⟩, qo 29 (.pick (.t 25) (.c (.d (.bool true))) (.t 28)), qo 21 (.asg (.t 29))]
def Jq8n (p : Nums) : IC := (.region (Jq8z p) [])
@[simp] theorem Je8n {p : Nums} : EqI (Jq8n p) (.region (Jq8z p) []) := eqi
@[simp] def Jq90 (p : Nums) : List IOp := [qo 31 (.faddr 3 (.t 1)), qo 32 (.load none (.t 31)), qo 33 (.len (.t 32)), qo 34 (.bin .eql (.t 33) (ci 0)), qo 30 (.asg (.t 34))]
def Jq8o (p : Nums) : IC := (.region (Jq90 p) [])
@[simp] theorem Je8o {p : Nums} : EqI (Jq8o p) (.region (Jq90 p) []) := eqi
@[simp] def Jq91 (p : Nums) : List IOp := [qo 36 (.faddr 3 (.t 1)), qo 37 (.load none (.t 36)), qo 38 (.len (.t 37)), qo 39 (.bin .gtr (.t 38) (ci 1048576)), qo 40 (.mov (.t 39)), ⟨(some 41), (.load (some 4) (.t 1)), (some (40, false)), false⟩, ⟨(some 42), (.call p.machine_Code [(.t 41)]), (some (40, false)), false⟩, ⟨(some 43), (.bin .gtr (.t 42) (ci 1048576)), (some (40, false)), false⟩, qo 44 (.pick (.t 40) (.c (.d (.bool true))) (.t 43)), qo 35 (.asg (.t 44))]
def Jq8p (p : Nums) : IC := (.region (Jq91 p) [])
@[simp] theorem Je8p {p : Nums} : EqI (Jq8p p) (.region (Jq91 p) []) := eqi
def Jq8q (p : Nums) : IC := (.seq (.region [⟨(some 2), (.asg (.c (.d (.int .i64 6)))), none, false⟩] []) .ret)
@[simp] theorem Je8q {p : Nums} : EqI (Jq8q p) (.seq (.region [⟨(some 2), (.asg (.c (.d (.int .i64 6)))), none, false⟩] []) .ret) := eqi
def Jq8r (p : Nums) : IC := (.seq (.region [⟨(some 2), (.asg (.c (.d (.int .i64 14)))), none, false⟩] []) .ret)
@[simp] theorem Je8r {p : Nums} : EqI (Jq8r p) (.seq (.region [⟨(some 2), (.asg (.c (.d (.int .i64 14)))), none, false⟩] []) .ret) := eqi
def Jq8s (p : Nums) : IC := (.seq (Jq8p p) (.cond (.t 35) (Jq8q p) .skip))
@[simp] theorem Je8s {p : Nums} : EqI (Jq8s p) (.seq (Jq8p p) (.cond (.t 35) (Jq8q p) .skip)) := eqi
def Jq8t (p : Nums) : IC := (.seq (.region [⟨(some 2), (.asg (.c (.d (.int .i64 6)))), none, false⟩] []) .ret)
@[simp] theorem Je8t {p : Nums} : EqI (Jq8t p) (.seq (.region [⟨(some 2), (.asg (.c (.d (.int .i64 6)))), none, false⟩] []) .ret) := eqi
def Jq8a (p : Nums) : IC := (.seq (Jq8o p) (.cond (.t 30) (Jq8r p) (Jq8s p)))
@[simp] theorem Je8a {p : Nums} : EqI (Jq8a p) (.seq (Jq8o p) (.cond (.t 30) (Jq8r p) (Jq8s p))) := eqi
def Jq8b (p : Nums) : IC := (.seq (.region [⟨(some 2), (.asg (.c (.d (.int .i64 9)))), none, false⟩] []) .ret)
@[simp] theorem Je8b {p : Nums} : EqI (Jq8b p) (.seq (.region [⟨(some 2), (.asg (.c (.d (.int .i64 9)))), none, false⟩] []) .ret) := eqi
def Jq8c (p : Nums) : IC := (.seq (Jq8n p) (.cond (.t 21) (Jq8t p) (Jq8a p)))
@[simp] theorem Je8c {p : Nums} : EqI (Jq8c p) (.seq (Jq8n p) (.cond (.t 21) (Jq8t p) (Jq8a p))) := eqi
def Jq8d (p : Nums) : IC := (.seq (.region [⟨(some 2), (.asg (.c (.d (.int .i64 10)))), none, false⟩] []) .ret)
@[simp] theorem Je8d {p : Nums} : EqI (Jq8d p) (.seq (.region [⟨(some 2), (.asg (.c (.d (.int .i64 10)))), none, false⟩] []) .ret) := eqi
def Jq8e (p : Nums) : IC := (.seq (Jq8k p) (.cond (.t 17) (Jq8b p) (Jq8c p)))
@[simp] theorem Je8e {p : Nums} : EqI (Jq8e p) (.seq (Jq8k p) (.cond (.t 17) (Jq8b p) (Jq8c p))) := eqi
def Jq8f (p : Nums) : IC := (.seq (Jq89 p) (.cond (.t 6) (Jq8d p) (Jq8e p)))
@[simp] theorem Je8f {p : Nums} : EqI (Jq8f p) (.seq (Jq89 p) (.cond (.t 6) (Jq8d p) (Jq8e p))) := eqi
@[simp] def Jq8v (p : Nums) : List IOp := [qo 45 (.faddr 3 (.t 1)), qo 46 (.load none (.t 45)), qo 47 (.len (.t 46)), qo 48 (.mov (ci 0))]
def Jq8g (p : Nums) : IC := (.region (Jq8v p) [])
@[simp] theorem Je8g {p : Nums} : EqI (Jq8g p) (.region (Jq8v p) []) := eqi
@[simp] def Jq8w (p : Nums) : List IOp := [qo 50 (.iaddr 5 (.t 46) (.t 48)), qo 51 (.load (some 5) (.t 50)), qo 4 (.alloc [.nils, (zi 0), (zi 0), (zi 0), (zi 0)]), qn (.store 5 (.t 4) (.t 51))]
def Jq8h (p : Nums) : IC := (.region (Jq8w p) [])
@[simp] theorem Je8h {p : Nums} : EqI (Jq8h p) (.region (Jq8w p) []) := eqi
@[simp] def Jq8x (p : Nums) : List IOp := [qo 52 (.load (some 4) (.t 1)), qo 53 (.load (some 5) (.t 4)), qo 54 (.call p.machine_block [(.t 52), (.t 53)]), qo 5 (.asg (.t 54))]
def Jq8i (p : Nums) : IC := (.region (Jq8x p) [])
@[simp] theorem Je8i {p : Nums} : EqI (Jq8i p) (.region (Jq8x p) []) := eqi
def Jq8j (p : Nums) : IC := (.seq (.region [⟨(some 57), (.mov (.t 5)), none, false⟩, ⟨(some 2), (.asg (.t 57)), none, false⟩] []) .ret)
@[simp] theorem Je8j {p : Nums} : EqI (Jq8j p) (.seq (.region [⟨(some 57), (.mov (.t 5)), none, false⟩, ⟨(some 2), (.asg (.t 57)), none, false⟩] []) .ret) := eqi
def Jq8l (p : Nums) : IC := (.seq (Jq8h p) (.seq (Jq8i p) (.seq (.region [⟨(some 55), (.mov (.t 5)), none, false⟩, ⟨(some 56), (.bin .neq (.t 55) (.c (.d (.int .i64 0)))), none, false⟩] []) (.cond (.t 56) (Jq8j p) .skip))))
@[simp] theorem Je8l {p : Nums} : EqI (Jq8l p) (.seq (Jq8h p) (.seq (Jq8i p) (.seq (.region [⟨(some 55), (.mov (.t 5)), none, false⟩, ⟨(some 56), (.bin .neq (.t 55) (.c (.d (.int .i64 0)))), none, false⟩] []) (.cond (.t 56) (Jq8j p) .skip)))) := eqi
def Jq8m (p : Nums) : IC := (.seq (.region [⟨(some 49), (.bin .lss (.t 48) (.t 47)), none, false⟩] []) (.seq (.cond (.t 49) .skip (.exit 1)) (.seq (.block 2 (Jq8l p)) (.region [⟨(some 58), (.bin .add (.t 48) (.c (.d (.int .i64 1)))), none, false⟩, ⟨(some 48), (.mov (.t 58)), none, false⟩] []))))
@[simp] theorem Je8m {p : Nums} : EqI (Jq8m p) (.seq (.region [⟨(some 49), (.bin .lss (.t 48) (.t 47)), none, false⟩] []) (.seq (.cond (.t 49) .skip (.exit 1)) (.seq (.block 2 (Jq8l p)) (.region [⟨(some 58), (.bin .add (.t 48) (.c (.d (.int .i64 1)))), none, false⟩, ⟨(some 48), (.mov (.t 58)), none, false⟩] [])))) := eqi
def Jtb0 (p : Nums) : IC := (.seq (.region [⟨(some 1), (.box (.t 0)), none, false⟩, ⟨(some 2), (.asg (.c (.d (.int .i64 0)))), none, false⟩] []) (.seq (.block 0 (Jq8f p)) (.seq (.seq (Jq8g p) (.block 1 (.loop (Jq8m p)))) (.seq (.region [⟨(some 2), (.asg (.c (.d (.int .i64 0)))), none, false⟩] []) .ret))))
@[simp] def Jq6i (p : Nums) : List IOp := [qo 15 (.mov (.t 0)), qo 16 (.len (.t 15)), qo 17 (.mov (.t 1)), qo 18 (.bin .neq (.t 16) (.t 17)), qo 14 (.asg (.t 18))]
def Jq66 (p : Nums) : IC := (.region (Jq6i p) [])
@[simp] theorem Je66 {p : Nums} : EqI (Jq66 p) (.region (Jq6i p) []) := eqi
@[simp] def Jq6j (p : Nums) : List IOp := [qo 20 (.mov (.t 0)), qo 21 (.call p.edge_total [(.t 20)]), qo 22 (.bin .gtr (.t 21) (ci 1048576)), qo 19 (.asg (.t 22))]
def Jq6a (p : Nums) : IC := (.region (Jq6j p) [])
@[simp] theorem Je6a {p : Nums} : EqI (Jq6a p) (.region (Jq6j p) []) := eqi
def Jq6b (p : Nums) : IC := (.seq (.region [⟨(some 10), (.asg (.c (.d (.int .i64 6)))), none, false⟩] []) .ret)
@[simp] theorem Je6b {p : Nums} : EqI (Jq6b p) (.seq (.region [⟨(some 10), (.asg (.c (.d (.int .i64 6)))), none, false⟩] []) .ret) := eqi
def Jq6c (p : Nums) : IC := (.seq (.region [⟨(some 10), (.asg (.c (.d (.int .i64 14)))), none, false⟩] []) .ret)
@[simp] theorem Je6c {p : Nums} : EqI (Jq6c p) (.seq (.region [⟨(some 10), (.asg (.c (.d (.int .i64 14)))), none, false⟩] []) .ret) := eqi
def Jq6d (p : Nums) : IC := (.seq (Jq6a p) (.cond (.t 19) (Jq6b p) .skip))
@[simp] theorem Je6d {p : Nums} : EqI (Jq6d p) (.seq (Jq6a p) (.cond (.t 19) (Jq6b p) .skip)) := eqi
def Jq6e (p : Nums) : IC := (.seq (Jq66 p) (.cond (.t 14) (Jq6c p) (Jq6d p)))
@[simp] theorem Je6e {p : Nums} : EqI (Jq6e p) (.seq (Jq66 p) (.cond (.t 14) (Jq6c p) (Jq6d p))) := eqi
@[simp] def Jq6k (p : Nums) : List IOp := [qo 23 (.mov (.t 0)), qo 24 (.len (.t 23)), qo 25 (.mov (ci 0))]
def Jq6f (p : Nums) : IC := (.region (Jq6k p) [])
@[simp] theorem Je6f {p : Nums} : EqI (Jq6f p) (.region (Jq6k p) []) := eqi
@[simp] def Jq6l (p : Nums) : List IOp := [qo 27 (.iaddr 1 (.t 23) (.t 25)), qo 28 (.load none (.t 27)), qo 12 (.asg (.t 28))]
def Jq6g (p : Nums) : IC := (.region (Jq6l p) [])
@[simp] theorem Je6g {p : Nums} : EqI (Jq6g p) (.region (Jq6l p) []) := eqi
@[simp] def Jq6m (p : Nums) : List IOp := [qo 29 (.mov (.t 12)), qo 30 (.mov (.t 2)), qo 31 (.mov (.t 3)), qo 32 (.mov (.t 4)), qo 33 (.call p.edge_pairs [(.t 29), (.t 30), (.t 31), (.t 32)]), qo 13 (.asg (.t 33))]
def Jq6h (p : Nums) : IC := (.region (Jq6m p) [])
@[simp] theorem Je6h {p : Nums} : EqI (Jq6h p) (.region (Jq6m p) []) := eqi
def Jq67 (p : Nums) : IC := (.seq (.region [⟨(some 36), (.mov (.t 13)), none, false⟩, ⟨(some 10), (.asg (.t 36)), none, false⟩] []) .ret)
@[simp] theorem Je67 {p : Nums} : EqI (Jq67 p) (.seq (.region [⟨(some 36), (.mov (.t 13)), none, false⟩, ⟨(some 10), (.asg (.t 36)), none, false⟩] []) .ret) := eqi
def Jq68 (p : Nums) : IC := (.seq (Jq6g p) (.seq (Jq6h p) (.seq (.region [⟨(some 34), (.mov (.t 13)), none, false⟩, ⟨(some 35), (.bin .neq (.t 34) (.c (.d (.int .i64 0)))), none, false⟩] []) (.cond (.t 35) (Jq67 p) .skip))))
@[simp] theorem Je68 {p : Nums} : EqI (Jq68 p) (.seq (Jq6g p) (.seq (Jq6h p) (.seq (.region [⟨(some 34), (.mov (.t 13)), none, false⟩, ⟨(some 35), (.bin .neq (.t 34) (.c (.d (.int .i64 0)))), none, false⟩] []) (.cond (.t 35) (Jq67 p) .skip)))) := eqi
def Jq69 (p : Nums) : IC := (.seq (.region [⟨(some 26), (.bin .lss (.t 25) (.t 24)), none, false⟩] []) (.seq (.cond (.t 26) .skip (.exit 1)) (.seq (.block 2 (Jq68 p)) (.region [⟨(some 37), (.bin .add (.t 25) (.c (.d (.int .i64 1)))), none, false⟩, ⟨(some 25), (.mov (.t 37)), none, false⟩] []))))
@[simp] theorem Je69 {p : Nums} : EqI (Jq69 p) (.seq (.region [⟨(some 26), (.bin .lss (.t 25) (.t 24)), none, false⟩] []) (.seq (.cond (.t 26) .skip (.exit 1)) (.seq (.block 2 (Jq68 p)) (.region [⟨(some 37), (.bin .add (.t 25) (.c (.d (.int .i64 1)))), none, false⟩, ⟨(some 25), (.mov (.t 37)), none, false⟩] [])))) := eqi
def Jtaq (p : Nums) : IC := (.seq (.region [⟨(some 10), (.asg (.c (.d (.int .i64 0)))), none, false⟩] []) (.seq (.block 0 (Jq6e p)) (.seq (.seq (Jq6f p) (.block 1 (.loop (Jq69 p)))) (.seq (.region [⟨(some 10), (.asg (.c (.d (.int .i64 0)))), none, false⟩] []) .ret))))
@[simp] def Jq58 (p : Nums) : List IOp := [qo 1 (.box (.t 0)), qo 2 (.alloc [(zi 0), (zi 0), (zi 0), (zi 0), (zi 0), (zi 0), (zi 0)])]
def Jq51 (p : Nums) : IC := (.region (Jq58 p) [])
@[simp] theorem Je51 {p : Nums} : EqI (Jq51 p) (.region (Jq58 p) []) := eqi
@[simp] def Jq59 (p : Nums) : List IOp := [qo 6 (.faddr 7 (.t 1)), qo 7 (.load none (.t 6)), qo 8 (.iaddr 1 (.t 7) (ci 0)), qo 9 (.load none (.t 8)), qo 10 (.len (.t 9)), qo 11 (.bin .add (ci 1) (.t 10)), qo 12 (.build [(zi 0), (zi 0), (zi 0), (zi 0), (zi 0), (zi 0), (zi 0)] [(5, 1, (.t 11))]), qo 3 (.alloc [(zi 0), (zi 0), (zi 0), (zi 0), (zi 0), (zi 0), (zi 0)]), qn (.store 7 (.t 3) (.t 12))]
def Jq52 (p : Nums) : IC := (.region (Jq59 p) [])
@[simp] theorem Je52 {p : Nums} : EqI (Jq52 p) (.region (Jq59 p) []) := eqi
@[simp] def Jq5a (p : Nums) : List IOp := [qo 13 (.faddr 7 (.t 1)), qo 14 (.load none (.t 13)), qo 15 (.len (.t 14)), qo 16 (.mov (ci 0))]
def Jq53 (p : Nums) : IC := (.region (Jq5a p) [])
@[simp] theorem Je53 {p : Nums} : EqI (Jq53 p) (.region (Jq5a p) []) := eqi
@[simp] def Jq5b (p : Nums) : List IOp := [qo 18 (.iaddr 1 (.t 14) (.t 16)), qo 19 (.load none (.t 18)), qo 5 (.asg (.t 19))]
def Jq54 (p : Nums) : IC := (.region (Jq5b p) [])
@[simp] theorem Je54 {p : Nums} : EqI (Jq54 p) (.region (Jq5b p) []) := eqi
@[simp] def Jq5c (p : Nums) : List IOp := [qo 20 (.faddr 6 (.t 3)), qo 21 (.load none (.t 20)), qo 22 (.mov (.t 5)), qo 23 (.len (.t 22)), qo 24 (.mx (.t 21) (.t 23)), qo 25 (.faddr 6 (.t 3)), qn (.store 1 (.t 25) (.t 24))]
def Jq55 (p : Nums) : IC := (.region (Jq5c p) [])
@[simp] theorem Je55 {p : Nums} : EqI (Jq55 p) (.region (Jq5c p) []) := eqi
def Jq56 (p : Nums) : IC := (.seq (.region [⟨(some 17), (.bin .lss (.t 16) (.t 15)), none, false⟩] []) (.seq (.cond (.t 17) .skip (.exit 0)) (.seq (.block 1 (.seq (Jq54 p) (Jq55 p))) (.region [⟨(some 26), (.bin .add (.t 16) (.c (.d (.int .i64 1)))), none, false⟩, ⟨(some 16), (.mov (.t 26)), none, false⟩] []))))
@[simp] theorem Je56 {p : Nums} : EqI (Jq56 p) (.seq (.region [⟨(some 17), (.bin .lss (.t 16) (.t 15)), none, false⟩] []) (.seq (.cond (.t 17) .skip (.exit 0)) (.seq (.block 1 (.seq (Jq54 p) (Jq55 p))) (.region [⟨(some 26), (.bin .add (.t 16) (.c (.d (.int .i64 1)))), none, false⟩, ⟨(some 16), (.mov (.t 26)), none, false⟩] [])))) := eqi
@[simp] def Jq5d (p : Nums) : List IOp := [qp 28 (.faddr 7 (.t 1)), qp 29 (.load none (.t 28)), qp 30 (.iaddr 1 (.t 29) (ci 0)), qp 31 (.load none (.t 30)), qp 32 (.faddr 0 (.t 1)), qp 33 (.faddr 0 (.t 32)), qp 34 (.load none (.t 33)), qo 35 (.call p.edge_Entry [(.t 31), (.t 34)]), qo 27 (.mov (.t 35)), qp 36 (.ext (.t 27) 0), qp 37 (.ext (.t 27) 1), qo 38 (.faddr 0 (.t 3)), qn (.store 1 (.t 38) (.t 37))]
def Jq57 (p : Nums) : IC := (.region (Jq5d p) [])
@[simp] theorem Je57 {p : Nums} : EqI (Jq57 p) (.region (Jq5d p) []) := eqi
def Jtam (p : Nums) : IC := (.seq (Jq51 p) (.seq (Jq52 p) (.seq (.seq (Jq53 p) (.block 0 (.loop (Jq56 p)))) (.seq (Jq57 p) (.seq (.region [⟨(some 39), (.load (some 7) (.t 3)), none, false⟩, ⟨none, (.store 7 (.t 2) (.t 39)), none, false⟩] []) .ret)))))
@[simp] def Jq1k (p : Nums) : List IOp := [qo 4 (.box (.t 0)), qo 5 (.box (.t 1)), qo 8 (.alloc [.nils, (zi 0), (zi 0), (zi 0), (zi 0)])]
def Jq19 (p : Nums) : IC := (.region (Jq1k p) [])
@[simp] theorem Je19 {p : Nums} : EqI (Jq19 p) (.region (Jq1k p) []) := eqi
@[simp] def Jq1n (p : Nums) : List IOp := [qo 14 (.mov (.t 2)), qo 15 (.len (.t 14)), qo 16 (.mov (.t 3)), qo 17 (.bin .gtr (.t 15) (.t 16))]
def Jq1c (p : Nums) : IC := (.region (Jq1n p) [])
@[simp] theorem Je1c {p : Nums} : EqI (Jq1c p) (.region (Jq1n p) []) := eqi
@[simp] def Jq1o (p : Nums) : List IOp := [qo 18 (.mov (.t 2)), qo 19 (.len (.t 18)), qo 20 (.build [.nils, (zi 0), (zi 0), (zi 0), (zi 0)] [(1, 1, (ci 24)), (4, 1, (.t 19))]), qn (.store 5 (.t 8) (.t 20))]
def Jq1d (p : Nums) : IC := (.region (Jq1o p) [])
@[simp] theorem Je1d {p : Nums} : EqI (Jq1d p) (.region (Jq1o p) []) := eqi
@[simp] def Jq1p (p : Nums) : List IOp := [qo 22 (.faddr 0 (.t 4)), qo 23 (.load none (.t 22)), qo 24 (.faddr 0 (.t 5)), qo 25 (.load none (.t 24)), qo 26 (.call p.align_Code [(.t 23), (.t 25)]), qo 21 (.mov (.t 26)), qo 27 (.ext (.t 21) 0), qo 28 (.ext (.t 21) 1), qo 29 (.ext (.t 21) 2), qo 9 (.asg (.t 27)), qo 10 (.asg (.t 28)), qo 11 (.asg (.t 29))]
def Jq1e (p : Nums) : IC := (.region (Jq1p p) [])
@[simp] theorem Je1e {p : Nums} : EqI (Jq1e p) (.region (Jq1p p) []) := eqi
@[simp] def Jq1q (p : Nums) : List IOp := [qo 30 (.mov (.t 11)), qo 31 (.bin .eql (.t 30) (ci 0)), qo 32 (.mov (.t 31)), ⟨(some 33), (.faddr 1 (.t 4)), (some (32, true)), false⟩, ⟨(some 34), (.load (some 4) (.t 33)), (some (32, true)), false⟩, ⟨(some 35), (.faddr 1 (.t 5)), (some (32, true)), false⟩, ⟨(some 36), (.load (some 4) (.t 35)), (some (32, true)), false⟩, ⟨(some 37), (.call p.align_Terms [(.t 34), (.t 36)]), (some (32, true)), false⟩, ⟨(some 38), (.un .not (.t 37)), (some (32, true)), false⟩, qo 39 (.pick (.t 32) (.t 38) (.c (.d (.bool false))))]
def Jq1f (p : Nums) : IC := (.region (Jq1q p) [])
@[simp] theorem Je1f {p : Nums} : EqI (Jq1f p) (.region (Jq1q p) []) := eqi
@[simp] def Jq1r (p : Nums) : List IOp := [qo 11 (.asg (ci 20))]
def Jq1g (p : Nums) : IC := (.region (Jq1r p) [])
@[simp] theorem Je1g {p : Nums} : EqI (Jq1g p) (.region (Jq1r p) []) := eqi
@[simp] def Jq1s (p : Nums) : List IOp := [qo 42 (.mov (.t 11)), qo 43 (.mov (.t 10)), qo 44 (.mov (.t 2)), qo 45 (.len (.t 44)), qo 46 (.build [.nils, (zi 0), (zi 0), (zi 0), (zi 0)] [(1, 1, (.t 42)), (2, 1, (.t 43)), (4, 1, (.t 45))]), qn (.store 5 (.t 8) (.t 46))]
def Jq1h (p : Nums) : IC := (.region (Jq1s p) [])
@[simp] theorem Je1h {p : Nums} : EqI (Jq1h p) (.region (Jq1s p) []) := eqi
@[simp] def Jq1t (p : Nums) : List IOp := [qo 47 (.mov (.t 2)), qo 48 (.call p.pairset_Make [(.t 47)]), qo 49 (.mov (.t 3)), qo 50 (.mov (.t 2)), qo 51 (.len (.t 50)), qo 52 (.build [.nils, (zi 0), (zi 0), (zi 0)] [(0, 1, (.t 48)), (1, 1, (.t 49)), (3, 1, (.t 51))]), qo 53 (.box (.t 52)), qo 12 (.asg (.t 53))]
def Jq1i (p : Nums) : IC := (.region (Jq1t p) [])
@[simp] theorem Je1i {p : Nums} : EqI (Jq1i p) (.region (Jq1t p) []) := eqi
@[simp] def Jq1u (p : Nums) : List IOp := [qo 55 (.mov (.t 12)), qo 56 (.load (some 5) (.t 4)), qo 57 (.load (some 5) (.t 5)), qo 58 (.mov (.t 9)), qo 59 (.call p.blockcheck_checker_run [(.t 55), (.t 56), (.t 57), (.t 58)]), qo 54 (.mov (.t 59)), qo 60 (.ext (.t 54) 0), qo 61 (.ext (.t 54) 1), qo 11 (.asg (.t 60)), qo 10 (.asg (.t 61))]
def Jq1j (p : Nums) : IC := (.region (Jq1u p) [])
@[simp] theorem Je1j {p : Nums} : EqI (Jq1j p) (.region (Jq1u p) []) := eqi
@[simp] def Jq1l (p : Nums) : List IOp := [qp 62 (.mov (.t 11)), qp 63 (.mov (.t 10)), qp 64 (.mov (.t 12)), qp 65 (.nilck (.t 64)), qp 66 (.faddr 2 (.t 65)), qp 67 (.load none (.t 66)), qp 68 (.mov (.t 12)), qp 69 (.nilck (.t 68)), qp 70 (.faddr 3 (.t 69)), qp 71 (.load none (.t 70)), qp 72 (.build [.nils, (zi 0), (zi 0), (zi 0), (zi 0)] [(1, 1, (.t 62)), (2, 1, (.t 63)), (3, 1, (.t 67)), (4, 1, (.t 71))]), qp 13 (.alloc [.nils, (zi 0), (zi 0), (zi 0), (zi 0)]), qn (.store 5 (.t 13) (.t 72))]
def Jq1a (p : Nums) : IC := (.region (Jq1l p) [])
@[simp] theorem Je1a {p : Nums} : EqI (Jq1a p) (.region (Jq1l p) []) := eqi
@[simp] def Jq1m (p : Nums) : List IOp := [qo 75 (.mov (.t 12)), qo 76 (.nilck (.t 75)), qo 77 (.faddr 0 (.t 76)), qo 78 (.load none (.t 77)), qo 79 (.faddr 0 (.t 13)), qn (.store 1 (.t 79) (.t 78))]
def Jq1b (p : Nums) : IC := (.region (Jq1m p) [])
@[simp] theorem Je1b {p : Nums} : EqI (Jq1b p) (.region (Jq1m p) []) := eqi
def Jtab (p : Nums) : IC := (.seq (Jq19 p) (.seq (.seq (Jq1c p) (.cond (.t 17) (.seq (Jq1d p) .ret) .skip)) (.seq (Jq1e p) (.seq (.seq (Jq1f p) (.cond (.t 39) (Jq1g p) .skip)) (.seq (.seq (.region [⟨(some 40), (.mov (.t 11)), none, false⟩, ⟨(some 41), (.bin .neq (.t 40) (.c (.d (.int .i64 0)))), none, false⟩] []) (.cond (.t 41) (.seq (Jq1h p) .ret) .skip)) (.seq (Jq1i p) (.seq (Jq1j p) (.seq (Jq1a p) (.seq (.seq (.region [⟨(some 73), (.mov (.t 11)), none, false⟩, ⟨(some 74), (.bin .eql (.t 73) (.c (.d (.int .i64 0)))), none, false⟩] []) (.cond (.t 74) (Jq1b p) .skip)) (.seq (.region [⟨(some 80), (.load (some 5) (.t 13)), none, false⟩, ⟨none, (.store 5 (.t 8) (.t 80)), none, false⟩] []) .ret))))))))))
@[simp] def Jqlj (p : Nums) : List IOp := [qo 7 (.faddr 2 (.t 1)), qo 8 (.load none (.t 7)), qo 9 (.bslice 1 1 [(.int .i64 0)] [(0, (.t 8))]), qo 2 (.asg (.t 9))]
def Jqlf (p : Nums) : IC := (.region (Jqlj p) [])
@[simp] theorem Jelf {p : Nums} : EqI (Jqlf p) (.region (Jqlj p) []) := eqi
@[simp] def Jqlk (p : Nums) : List IOp := [qo 12 (.faddr 2 (.t 1)), qo 13 (.load none (.t 12)), qo 14 (.faddr 3 (.t 1)), qo 15 (.load none (.t 14)), qo 16 (.bslice 1 2 [(.int .i64 0)] [(0, (.t 13)), (1, (.t 15))]), qo 2 (.asg (.t 16))]
def Jqlg (p : Nums) : IC := (.region (Jqlk p) [])
@[simp] theorem Jelg {p : Nums} : EqI (Jqlg p) (.region (Jqlk p) []) := eqi
def Jqlh (p : Nums) : IC := (.seq (.region [⟨(some 11), (.bin .eql (.t 4) (.c (.d (.int .i64 2)))), none, false⟩, ⟨(some 10), (.asg (.t 11)), none, false⟩] []) (.cond (.t 10) (.seq (Jqlg p) .ret) .skip))
@[simp] theorem Jelh {p : Nums} : EqI (Jqlh p) (.seq (.region [⟨(some 11), (.bin .eql (.t 4) (.c (.d (.int .i64 2)))), none, false⟩, ⟨(some 10), (.asg (.t 11)), none, false⟩] []) (.cond (.t 10) (.seq (Jqlg p) .ret) .skip)) := eqi
def Jqli (p : Nums) : IC := (.seq (.region [⟨(some 6), (.bin .eql (.t 4) (.c (.d (.int .i64 1)))), none, false⟩, ⟨(some 5), (.asg (.t 6)), none, false⟩] []) (.cond (.t 5) (.seq (Jqlf p) .ret) (Jqlh p)))
@[simp] theorem Jeli {p : Nums} : EqI (Jqli p) (.seq (.region [⟨(some 6), (.bin .eql (.t 4) (.c (.d (.int .i64 1)))), none, false⟩, ⟨(some 5), (.asg (.t 6)), none, false⟩] []) (.cond (.t 5) (.seq (Jqlf p) .ret) (Jqlh p))) := eqi
def Jtca (p : Nums) : IC := (.seq (.region [⟨(some 1), (.box (.t 0)), none, false⟩, ⟨(some 2), (.asg (.c .nils)), none, false⟩] []) (.seq (.seq (.region [⟨(some 3), (.faddr 0 (.t 1)), none, false⟩, ⟨(some 4), (.load none (.t 3)), none, false⟩] []) (.block 0 (Jqli p))) (.seq (.region [⟨(some 2), (.asg (.c .nils)), none, false⟩] []) .ret)))
@[simp] def Jq5w (p : Nums) : List IOp := [qo 4 (.alloc [(zi 0), (zi 0)]), qo 5 (.asg (ci 0))]
def Jq5s (p : Nums) : IC := (.region (Jq5w p) [])
@[simp] theorem Je5s {p : Nums} : EqI (Jq5s p) (.region (Jq5w p) []) := eqi
@[simp] def Jq5x (p : Nums) : List IOp := [qo 9 (.mov (.t 1)), qo 10 (.mov (.t 0)), qo 11 (.call p.pairset_Missing [(.t 9), (.t 10)]), qo 8 (.mov (.t 11)), qo 12 (.ext (.t 8) 0), qo 13 (.ext (.t 8) 1), qo 6 (.alloc [(zi 0), (zi 0)]), qn (.store 2 (.t 6) (.t 12)), qo 7 (.asg (.t 13))]
def Jq5t (p : Nums) : IC := (.region (Jq5x p) [])
@[simp] theorem Je5t {p : Nums} : EqI (Jq5t p) (.region (Jq5x p) []) := eqi
@[simp] def Jq5y (p : Nums) : List IOp := [qo 15 (.load (some 2) (.t 6)), qn (.store 2 (.t 4) (.t 15)), qo 5 (.asg (ci 22))]
def Jq5u (p : Nums) : IC := (.region (Jq5y p) [])
@[simp] theorem Je5u {p : Nums} : EqI (Jq5u p) (.region (Jq5y p) []) := eqi
@[simp] def Jq5z (p : Nums) : List IOp := [qo 16 (.build [(zi 0), (zi 0)] []), qn (.store 2 (.t 4) (.t 16)), qo 5 (.asg (ci 0))]
def Jq5v (p : Nums) : IC := (.region (Jq5z p) [])
@[simp] theorem Je5v {p : Nums} : EqI (Jq5v p) (.region (Jq5z p) []) := eqi
def Jtao (p : Nums) : IC := (.seq (Jq5s p) (.seq (.seq (Jq5t p) (.seq (.region [⟨(some 14), (.mov (.t 7)), none, false⟩] []) (.cond (.t 14) (.seq (Jq5u p) .ret) .skip))) (.seq (Jq5v p) .ret)))
@[simp] def Jqkw (p : Nums) : List IOp := [qo 6 (.faddr 2 (.t 1)), qo 7 (.load none (.t 6)), qo 8 (.len (.t 7)), qo 9 (.mov (ci 0))]
def Jqks (p : Nums) : IC := (.region (Jqkw p) [])
@[simp] theorem Jeks {p : Nums} : EqI (Jqks p) (.region (Jqkw p) []) := eqi
@[simp] def Jqkx (p : Nums) : List IOp := [qo 11 (.iaddr 5 (.t 7) (.t 9)), qo 12 (.load (some 5) (.t 11)), qo 5 (.alloc [.nils, (zi 0), (zi 0), (zi 0), (zi 0)]), qn (.store 5 (.t 5) (.t 12))]
def Jqkt (p : Nums) : IC := (.region (Jqkx p) [])
@[simp] theorem Jekt {p : Nums} : EqI (Jqkt p) (.region (Jqkx p) []) := eqi
@[simp] def Jqky (p : Nums) : List IOp := [qo 13 (.mov (.t 3)), qo 14 (.faddr 0 (.t 5)), qo 15 (.load none (.t 14)), qo 16 (.len (.t 15)), qo 17 (.bin .add (.t 13) (.t 16)), qo 3 (.asg (.t 17))]
def Jqku (p : Nums) : IC := (.region (Jqky p) [])
@[simp] theorem Jeku {p : Nums} : EqI (Jqku p) (.region (Jqky p) []) := eqi
def Jqkv (p : Nums) : IC := (.seq (.region [⟨(some 10), (.bin .lss (.t 9) (.t 8)), none, false⟩] []) (.seq (.cond (.t 10) .skip (.exit 0)) (.seq (.block 1 (.seq (Jqkt p) (Jqku p))) (.region [⟨(some 18), (.bin .add (.t 9) (.c (.d (.int .i64 1)))), none, false⟩, ⟨(some 9), (.mov (.t 18)), none, false⟩] []))))
@[simp] theorem Jekv {p : Nums} : EqI (Jqkv p) (.seq (.region [⟨(some 10), (.bin .lss (.t 9) (.t 8)), none, false⟩] []) (.seq (.cond (.t 10) .skip (.exit 0)) (.seq (.block 1 (.seq (Jqkt p) (Jqku p))) (.region [⟨(some 18), (.bin .add (.t 9) (.c (.d (.int .i64 1)))), none, false⟩, ⟨(some 9), (.mov (.t 18)), none, false⟩] [])))) := eqi
def Jtc8 (p : Nums) : IC := (.seq (.region [⟨(some 1), (.box (.t 0)), none, false⟩, ⟨(some 2), (.asg (.c (.d (.int .i64 0)))), none, false⟩] []) (.seq (.region [⟨(some 3), (.asg (.c (.d (.int .i64 0)))), none, false⟩] []) (.seq (.seq (Jqks p) (.block 0 (.loop (Jqkv p)))) (.seq (.region [⟨(some 19), (.mov (.t 3)), none, false⟩, ⟨(some 2), (.asg (.t 19)), none, false⟩] []) .ret))))
@[simp] def Jq96 (p : Nums) : List IOp := [qo 6 (.faddr 3 (.t 1)), qo 7 (.load none (.t 6)), qo 8 (.len (.t 7)), qo 9 (.mov (ci 0))]
def Jq92 (p : Nums) : IC := (.region (Jq96 p) [])
@[simp] theorem Je92 {p : Nums} : EqI (Jq92 p) (.region (Jq96 p) []) := eqi
@[simp] def Jq97 (p : Nums) : List IOp := [qo 11 (.iaddr 5 (.t 7) (.t 9)), qo 12 (.load (some 5) (.t 11)), qo 5 (.alloc [.nils, (zi 0), (zi 0), (zi 0), (zi 0)]), qn (.store 5 (.t 5) (.t 12))]
def Jq93 (p : Nums) : IC := (.region (Jq97 p) [])
@[simp] theorem Je93 {p : Nums} : EqI (Jq93 p) (.region (Jq97 p) []) := eqi
@[simp] def Jq98 (p : Nums) : List IOp := [qo 13 (.mov (.t 3)), qo 14 (.faddr 0 (.t 5)), qo 15 (.load none (.t 14)), qo 16 (.len (.t 15)), qo 17 (.bin .add (.t 13) (.t 16)), qo 3 (.asg (.t 17))]
def Jq94 (p : Nums) : IC := (.region (Jq98 p) [])
@[simp] theorem Je94 {p : Nums} : EqI (Jq94 p) (.region (Jq98 p) []) := eqi
def Jq95 (p : Nums) : IC := (.seq (.region [⟨(some 10), (.bin .lss (.t 9) (.t 8)), none, false⟩] []) (.seq (.cond (.t 10) .skip (.exit 0)) (.seq (.block 1 (.seq (Jq93 p) (Jq94 p))) (.region [⟨(some 18), (.bin .add (.t 9) (.c (.d (.int .i64 1)))), none, false⟩, ⟨(some 9), (.mov (.t 18)), none, false⟩] []))))
@[simp] theorem Je95 {p : Nums} : EqI (Jq95 p) (.seq (.region [⟨(some 10), (.bin .lss (.t 9) (.t 8)), none, false⟩] []) (.seq (.cond (.t 10) .skip (.exit 0)) (.seq (.block 1 (.seq (Jq93 p) (Jq94 p))) (.region [⟨(some 18), (.bin .add (.t 9) (.c (.d (.int .i64 1)))), none, false⟩, ⟨(some 9), (.mov (.t 18)), none, false⟩] [])))) := eqi
def Jtb1 (p : Nums) : IC := (.seq (.region [⟨(some 1), (.box (.t 0)), none, false⟩, ⟨(some 2), (.asg (.c (.d (.int .i64 0)))), none, false⟩] []) (.seq (.region [⟨(some 3), (.asg (.c (.d (.int .i64 0)))), none, false⟩] []) (.seq (.seq (Jq92 p) (.block 0 (.loop (Jq95 p)))) (.seq (.region [⟨(some 19), (.mov (.t 3)), none, false⟩, ⟨(some 2), (.asg (.t 19)), none, false⟩] []) .ret))))
@[simp] def Jqed (p : Nums) : List IOp := [qo 3 (.mov (.t 0)), qo 4 (.bin .geq (.t 3) (ci 2)), qo 5 (.mov (.t 4)), ⟨(some 6), (.mov (.t 0)), (some (5, true)), false⟩, ⟨(some 7), (.bin .leq (.t 6) (ci 17)), (some (5, true)), false⟩, qo 8 (.pick (.t 5) (.t 7) (.c (.d (.bool false)))), qo 2 (.asg (.t 8))]
def Jqec (p : Nums) : IC := (.region (Jqed p) [])
@[simp] theorem Jeec {p : Nums} : EqI (Jqec p) (.region (Jqed p) []) := eqi
def Jtbq (p : Nums) : IC := (.seq (.region [⟨(some 2), (.asg (.c (.d (.bool false)))), none, false⟩] []) (.seq (Jqec p) .ret))
@[simp] def Jqef (p : Nums) : List IOp := [qo 3 (.mov (.t 0)), qo 4 (.bin .geq (.t 3) (ci 5)), qo 5 (.mov (.t 4)), ⟨(some 6), (.mov (.t 0)), (some (5, true)), false⟩, ⟨(some 7), (.bin .leq (.t 6) (ci 16)), (some (5, true)), false⟩, qo 8 (.pick (.t 5) (.t 7) (.c (.d (.bool false)))), qo 2 (.asg (.t 8))]
def Jqee (p : Nums) : IC := (.region (Jqef p) [])
@[simp] theorem Jeee {p : Nums} : EqI (Jqee p) (.region (Jqef p) []) := eqi
def Jtbr (p : Nums) : IC := (.seq (.region [⟨(some 2), (.asg (.c (.d (.bool false)))), none, false⟩] []) (.seq (Jqee p) .ret))
@[simp] def Jqeh (p : Nums) : List IOp := [qo 3 (.mov (.t 0)), qo 4 (.bin .geq (.t 3) (ci 1)), qo 5 (.mov (.t 4)), ⟨(some 6), (.mov (.t 0)), (some (5, true)), false⟩, ⟨(some 7), (.bin .leq (.t 6) (ci 16)), (some (5, true)), false⟩, qo 8 (.pick (.t 5) (.t 7) (.c (.d (.bool false)))), qo 2 (.asg (.t 8))]
def Jqeg (p : Nums) : IC := (.region (Jqeh p) [])
@[simp] theorem Jeeg {p : Nums} : EqI (Jqeg p) (.region (Jqeh p) []) := eqi
def Jtbs (p : Nums) : IC := (.seq (.region [⟨(some 2), (.asg (.c (.d (.bool false)))), none, false⟩] []) (.seq (Jqeg p) .ret))
@[simp] def Jqi3 (p : Nums) : List IOp := [qo 2 (.box (.t 0)), qo 3 (.box (.t 1)), qo 4 (.asg (.c (.d (.bool false))))]
def Jqho (p : Nums) : IC := (.region (Jqi3 p) [])
@[simp] theorem Jeho {p : Nums} : EqI (Jqho p) (.region (Jqi3 p) []) := eqi
@[simp] def Jqi6 (p : Nums) : List IOp := [qo 7 (.faddr 0 (.t 2)), qo 8 (.load none (.t 7)), qo 9 (.faddr 0 (.t 3)), qo 10 (.load none (.t 9)), qo 11 (.bin .neq (.t 8) (.t 10)), qo 12 (.mov (.t 11)), ⟨(some 13), (.faddr 1 (.t 2)), (some (12, false)), false⟩, ⟨(some 14), (.load none (.t 13)), (some (12, false)), false⟩, ⟨(some 15), (.faddr 1 (.t 3)), (some (12, false)), false⟩, ⟨(some 16), (.load none (.t 15)), (some (12, false)), false⟩, ⟨(some 17), (.bin .neq (.t 14) (.t 16)), (some (12, false)), false⟩, qo 18 (.pick (.t 12) (.c (.d (.bool true))) (.t 17)), qo 19 (.mov (.t 18)), ⟨(some 20), (.faddr 2 (.t 2)), (some (19, false)), false⟩, ⟨(some 21), (.load none (.t 20)), (some (19, false)), false⟩, ⟨(some 22), (.faddr 2 (.t 3)), (some (19, false)), false⟩, ⟨(some 23), (.load none (.t 22)), (some (19, false)), false⟩, ⟨(some 24), (.bin .neq (.t 21) (.t 23)), (some (19, false)), false⟩, qo 25 (.pick (.t 19) (.c (.d (.bool true))) (.t 24)), qo 26 (.mov (.t 25)), ⟨(some 27), (.faddr 3 (.t 2)), (some (26, false)), false⟩, ⟨(some 28), (.load none (.t 27)), (some (26, false)), false⟩, ⟨(some 29), (.len (.t 28)), (some (26, false)), false⟩, ⟨(some 30), (.faddr 3 (.t 3)), (some (26, false)), false⟩, ⟨(some 31), (.load none (.t 30)), (some (26, false)), false⟩, ⟨(some 32), (.len (.t 31)), (some (26, false)), false⟩, ⟨(some 33), (.bin .neq (.t 29) (.t 32)), (some (26, false)), false⟩, qo 34 (.pick (.t 26) (.c (.d (.bool true))) (.t 33))]
def Jqhv (p : Nums) : IC := (.region (Jqi6 p) [])
@[simp] theorem Jehv {p : Nums} : EqI (Jqhv p) (.region (Jqi6 p) []) := eqi
def Jqhw (p : Nums) : IC := (.seq (.region [⟨(some 4), (.asg (.c (.d (.bool false)))), none, false⟩] []) .ret)
@[simp] theorem Jehw {p : Nums} : EqI (Jqhw p) (.seq (.region [⟨(some 4), (.asg (.c (.d (.bool false)))), none, false⟩] []) .ret) := eqi
@[simp] def Jqi7 (p : Nums) : List IOp := [qo 35 (.mov (.t 5)), qo 36 (.faddr 3 (.t 2)), qo 37 (.load none (.t 36)), qo 38 (.len (.t 37)), qo 39 (.bin .lss (.t 35) (.t 38))]
def Jqhx (p : Nums) : IC := (.region (Jqi7 p) [])
@[simp] theorem Jehx {p : Nums} : EqI (Jqhx p) (.region (Jqi7 p) []) := eqi
@[simp] def Jqi8 (p : Nums) : List IOp := [qp 42 (.faddr 3 (.t 2)), qp 43 (.load none (.t 42)), qp 44 (.mov (.t 5)), qp 45 (.iaddr 5 (.t 43) (.t 44)), qp 46 (.faddr 1 (.t 45)), qp 47 (.load (some 4) (.t 46)), qp 48 (.faddr 3 (.t 3)), qp 49 (.load none (.t 48)), qp 50 (.mov (.t 5)), qp 51 (.iaddr 5 (.t 49) (.t 50)), qp 52 (.faddr 1 (.t 51)), qp 53 (.load (some 4) (.t 52)), qo 54 (.eqs true [.int, .int, .int, .int] (.t 47) (.t 53)), qo 55 (.mov (.t 54)), ⟨(some 56), (.faddr 3 (.t 2)), (some (55, false)), true⟩, ⟨(some 57), (.load none (.t 56)), (some (55, false)), true⟩, ⟨(some 58), (.mov (.t 5)), (some (55, false)), true⟩, ⟨(some 59), (.iaddr 5 (.t 57) (.t 58)), (some (55, false)), true⟩, ⟨(some 60), (.faddr 0 (.t 59)), (some (55, false)), true⟩, ⟨(some 61), (.load none (.t 60)), (some (55, false)), true⟩, ⟨(some 62), (.len (.t 61)), (some (55, false)), true⟩, ⟨(some 63), (.faddr 3 (.t 3)), (some (55, false)), true⟩, ⟨(some 64), (.load none (.t 63)), (some (55, false)), true⟩, ⟨(some 65), (.mov (.t 5)), (some (55, false)), true⟩, ⟨(some 66), (.iaddr 5 (.t 64) (.t 65)), (some (55, false)), true⟩, ⟨(some 67), (.faddr 0 (.t 66)), (some (55, false)), true⟩, ⟨(some 68), (.load none (.t 67)), (some (55, false)), true⟩, ⟨(some 69), (.len (.t 68)), (some (55, false)), true⟩, ⟨(some 70), (.bin .neq (.t 62) (.t 69)), (some (55, false)), false⟩, qo 71 (.pick (.t 55) (.c (.d (.bool true))) (.t 70))]
def Jqhy (p : Nums) : IC := (.region (Jqi8 p) [])
@[simp] theorem Jehy {p : Nums} : EqI (Jqhy p) (.region (Jqi8 p) []) := eqi
def Jqhz (p : Nums) : IC := (.seq (.region [⟨(some 4), (.asg (.c (.d (.bool false)))), none, false⟩] []) .ret)
@[simp] theorem Jehz {p : Nums} : EqI (Jqhz p) (.seq (.region [⟨(some 4), (.asg (.c (.d (.bool false)))), none, false⟩] []) .ret) := eqi
@[simp] def Jqi9 (p : Nums) : List IOp := [qo 72 (.mov (.t 6)), qo 73 (.faddr 3 (.t 2)), qo 74 (.load none (.t 73)), qo 75 (.mov (.t 5)), qo 76 (.iaddr 5 (.t 74) (.t 75)), qo 77 (.faddr 0 (.t 76)), qo 78 (.load none (.t 77)), qo 79 (.len (.t 78)), qo 80 (.bin .lss (.t 72) (.t 79))]
def Jqi0 (p : Nums) : IC := (.region (Jqi9 p) [])
@[simp] theorem Jei0 {p : Nums} : EqI (Jqi0 p) (.region (Jqi9 p) []) := eqi
@[simp] def Jqia (p : Nums) : List IOp := [qp 83 (.faddr 3 (.t 2)), qp 84 (.load none (.t 83)), qp 85 (.mov (.t 5)), qp 86 (.iaddr 5 (.t 84) (.t 85)), qp 87 (.faddr 0 (.t 86)), qp 88 (.load none (.t 87)), qp 89 (.mov (.t 6)), qp 90 (.iaddr 7 (.t 88) (.t 89)), qp 91 (.load (some 7) (.t 90)), qp 92 (.faddr 3 (.t 3)), qp 93 (.load none (.t 92)), qp 94 (.mov (.t 5)), qp 95 (.iaddr 5 (.t 93) (.t 94)), qp 96 (.faddr 0 (.t 95)), qp 97 (.load none (.t 96)), qp 98 (.mov (.t 6)), qp 99 (.iaddr 7 (.t 97) (.t 98)), qp 100 (.load (some 7) (.t 99)), qo 101 (.eqs true [.int, .int, .int, .int, .int, .int, .int] (.t 91) (.t 100))]
def Jqi1 (p : Nums) : IC := (.region (Jqia p) [])
@[simp] theorem Jei1 {p : Nums} : EqI (Jqi1 p) (.region (Jqia p) []) := eqi
def Jqi2 (p : Nums) : IC := (.seq (.region [⟨(some 4), (.asg (.c (.d (.bool false)))), none, false⟩] []) .ret)
@[simp] theorem Jei2 {p : Nums} : EqI (Jqi2 p) (.seq (.region [⟨(some 4), (.asg (.c (.d (.bool false)))), none, false⟩] []) .ret) := eqi
def Jqhp (p : Nums) : IC := (.seq (Jqi1 p) (.cond (.t 101) (Jqi2 p) .skip))
@[simp] theorem Jehp {p : Nums} : EqI (Jqhp p) (.seq (Jqi1 p) (.cond (.t 101) (Jqi2 p) .skip)) := eqi
@[simp] def Jqi4 (p : Nums) : List IOp := [qo 81 (.mov (.t 6)), qo 82 (.bin .add (.t 81) (ci 1)), qo 6 (.asg (.t 82))]
def Jqhq (p : Nums) : IC := (.region (Jqi4 p) [])
@[simp] theorem Jehq {p : Nums} : EqI (Jqhq p) (.region (Jqi4 p) []) := eqi
def Jqhr (p : Nums) : IC := (.seq (.seq (Jqi0 p) (.cond (.t 80) .skip (.exit 2))) (.seq (.block 3 (Jqhp p)) (Jqhq p)))
@[simp] theorem Jehr {p : Nums} : EqI (Jqhr p) (.seq (.seq (Jqi0 p) (.cond (.t 80) .skip (.exit 2))) (.seq (.block 3 (Jqhp p)) (Jqhq p))) := eqi
def Jqhs (p : Nums) : IC := (.seq (.seq (Jqhy p) (.cond (.t 71) (Jqhz p) .skip)) (.seq (.region [⟨(some 6), (.asg (.c (.d (.int .i64 0)))), none, false⟩] []) (.block 2 (.loop (Jqhr p)))))
@[simp] theorem Jehs {p : Nums} : EqI (Jqhs p) (.seq (.seq (Jqhy p) (.cond (.t 71) (Jqhz p) .skip)) (.seq (.region [⟨(some 6), (.asg (.c (.d (.int .i64 0)))), none, false⟩] []) (.block 2 (.loop (Jqhr p))))) := eqi
@[simp] def Jqi5 (p : Nums) : List IOp := [qo 40 (.mov (.t 5)), qo 41 (.bin .add (.t 40) (ci 1)), qo 5 (.asg (.t 41))]
def Jqht (p : Nums) : IC := (.region (Jqi5 p) [])
@[simp] theorem Jeht {p : Nums} : EqI (Jqht p) (.region (Jqi5 p) []) := eqi
def Jqhu (p : Nums) : IC := (.seq (.seq (Jqhx p) (.cond (.t 39) .skip (.exit 0))) (.seq (.block 1 (Jqhs p)) (Jqht p)))
@[simp] theorem Jehu {p : Nums} : EqI (Jqhu p) (.seq (.seq (Jqhx p) (.cond (.t 39) .skip (.exit 0))) (.seq (.block 1 (Jqhs p)) (Jqht p))) := eqi
def Jtc0 (p : Nums) : IC := (.seq (Jqho p) (.seq (.seq (Jqhv p) (.cond (.t 34) (Jqhw p) .skip)) (.seq (.seq (.region [⟨(some 5), (.asg (.c (.d (.int .i64 0)))), none, false⟩] []) (.block 0 (.loop (Jqhu p)))) (.seq (.region [⟨(some 4), (.asg (.c (.d (.bool true)))), none, false⟩] []) .ret))))
@[simp] def Jqiv (p : Nums) : List IOp := [qo 6 (.mov (.t 0)), qo 7 (.len (.t 6)), qo 8 (.mov (.t 1)), qo 9 (.len (.t 8)), qo 10 (.bin .neq (.t 7) (.t 9))]
def Jqin (p : Nums) : IC := (.region (Jqiv p) [])
@[simp] theorem Jein {p : Nums} : EqI (Jqin p) (.region (Jqiv p) []) := eqi
def Jqio (p : Nums) : IC := (.seq (.region [⟨(some 4), (.asg (.c (.d (.bool false)))), none, false⟩] []) .ret)
@[simp] theorem Jeio {p : Nums} : EqI (Jqio p) (.seq (.region [⟨(some 4), (.asg (.c (.d (.bool false)))), none, false⟩] []) .ret) := eqi
@[simp] def Jqiw (p : Nums) : List IOp := [qo 11 (.mov (.t 5)), qo 12 (.mov (.t 0)), qo 13 (.len (.t 12)), qo 14 (.bin .lss (.t 11) (.t 13))]
def Jqip (p : Nums) : IC := (.region (Jqiw p) [])
@[simp] theorem Jeip {p : Nums} : EqI (Jqip p) (.region (Jqiw p) []) := eqi
@[simp] def Jqix (p : Nums) : List IOp := [qp 17 (.mov (.t 0)), qp 18 (.mov (.t 5)), qp 19 (.iaddr 1 (.t 17) (.t 18)), qp 20 (.load none (.t 19)), qp 21 (.mov (.t 1)), qp 22 (.mov (.t 5)), qp 23 (.iaddr 1 (.t 21) (.t 22)), qp 24 (.load none (.t 23)), qo 25 (.call p.ref11_Same [(.t 20), (.t 24)]), qo 26 (.un .not (.t 25))]
def Jqiq (p : Nums) : IC := (.region (Jqix p) [])
@[simp] theorem Jeiq {p : Nums} : EqI (Jqiq p) (.region (Jqix p) []) := eqi
def Jqir (p : Nums) : IC := (.seq (.region [⟨(some 4), (.asg (.c (.d (.bool false)))), none, false⟩] []) .ret)
@[simp] theorem Jeir {p : Nums} : EqI (Jqir p) (.seq (.region [⟨(some 4), (.asg (.c (.d (.bool false)))), none, false⟩] []) .ret) := eqi
def Jqis (p : Nums) : IC := (.seq (Jqiq p) (.cond (.t 26) (Jqir p) .skip))
@[simp] theorem Jeis {p : Nums} : EqI (Jqis p) (.seq (Jqiq p) (.cond (.t 26) (Jqir p) .skip)) := eqi
@[simp] def Jqiy (p : Nums) : List IOp := [qo 15 (.mov (.t 5)), qo 16 (.bin .add (.t 15) (ci 1)), qo 5 (.asg (.t 16))]
def Jqit (p : Nums) : IC := (.region (Jqiy p) [])
@[simp] theorem Jeit {p : Nums} : EqI (Jqit p) (.region (Jqiy p) []) := eqi
def Jqiu (p : Nums) : IC := (.seq (.seq (Jqip p) (.cond (.t 14) .skip (.exit 0))) (.seq (.block 1 (Jqis p)) (Jqit p)))
@[simp] theorem Jeiu {p : Nums} : EqI (Jqiu p) (.seq (.seq (Jqip p) (.cond (.t 14) .skip (.exit 0))) (.seq (.block 1 (Jqis p)) (Jqit p))) := eqi
def Jtc2 (p : Nums) : IC := (.seq (.region [⟨(some 4), (.asg (.c (.d (.bool false)))), none, false⟩] []) (.seq (.seq (Jqin p) (.cond (.t 10) (Jqio p) .skip)) (.seq (.seq (.region [⟨(some 5), (.asg (.c (.d (.int .i64 0)))), none, false⟩] []) (.block 0 (.loop (Jqiu p)))) (.seq (.region [⟨(some 4), (.asg (.c (.d (.bool true)))), none, false⟩] []) .ret))))
@[simp] def Jqn9 (p : Nums) : List IOp := [qo 1 (.box (.t 0)), qo 2 (.alloc [.nils, (zi 0), (zi 0), (zi 0), (zi 0)])]
def Jqn0 (p : Nums) : IC := (.region (Jqn9 p) [])
@[simp] theorem Jen0 {p : Nums} : EqI (Jqn0 p) (.region (Jqn9 p) []) := eqi
@[simp] def Jqna (p : Nums) : List IOp := [qo 7 (.faddr 0 (.t 1)), qo 8 (.load none (.t 7)), qo 9 (.len (.t 8)), qo 10 (.mov (ci 0))]
def Jqn1 (p : Nums) : IC := (.region (Jqna p) [])
@[simp] theorem Jen1 {p : Nums} : EqI (Jqn1 p) (.region (Jqna p) []) := eqi
@[simp] def Jqnb (p : Nums) : List IOp := [qo 12 (.iaddr 5 (.t 8) (.t 10)), qo 13 (.load (some 5) (.t 12)), qo 5 (.alloc [(zi 0), (zi 0), (zi 0), (zi 0), (zi 0)]), qn (.store 5 (.t 5) (.t 13))]
def Jqn2 (p : Nums) : IC := (.region (Jqnb p) [])
@[simp] theorem Jen2 {p : Nums} : EqI (Jqn2 p) (.region (Jqnb p) []) := eqi
@[simp] def Jqnc (p : Nums) : List IOp := [qo 14 (.load (some 5) (.t 5)), qo 15 (.call p.spillall_builder_instr [(.t 3), (.t 14)])]
def Jqn3 (p : Nums) : IC := (.region (Jqnc p) [])
@[simp] theorem Jen3 {p : Nums} : EqI (Jqn3 p) (.region (Jqnc p) []) := eqi
def Jqn4 (p : Nums) : IC := (.seq (.region [⟨(some 11), (.bin .lss (.t 10) (.t 9)), none, false⟩] []) (.seq (.cond (.t 11) .skip (.exit 0)) (.seq (.block 1 (.seq (Jqn2 p) (Jqn3 p))) (.region [⟨(some 16), (.bin .add (.t 10) (.c (.d (.int .i64 1)))), none, false⟩, ⟨(some 10), (.mov (.t 16)), none, false⟩] []))))
@[simp] theorem Jen4 {p : Nums} : EqI (Jqn4 p) (.seq (.region [⟨(some 11), (.bin .lss (.t 10) (.t 9)), none, false⟩] []) (.seq (.cond (.t 11) .skip (.exit 0)) (.seq (.block 1 (.seq (Jqn2 p) (Jqn3 p))) (.region [⟨(some 16), (.bin .add (.t 10) (.c (.d (.int .i64 1)))), none, false⟩, ⟨(some 10), (.mov (.t 16)), none, false⟩] [])))) := eqi
@[simp] def Jqnd (p : Nums) : List IOp := [qo 17 (.faddr 1 (.t 1)), qo 18 (.load (some 4) (.t 17)), qo 6 (.alloc [(zi 0), (zi 0), (zi 0), (zi 0)]), qn (.store 4 (.t 6) (.t 18))]
def Jqn5 (p : Nums) : IC := (.region (Jqnd p) [])
@[simp] theorem Jen5 {p : Nums} : EqI (Jqn5 p) (.region (Jqnd p) []) := eqi
@[simp] def Jqne (p : Nums) : List IOp := [qo 19 (.faddr 0 (.t 6)), qo 20 (.load none (.t 19)), qo 21 (.bin .neq (.t 20) (ci 1))]
def Jqn6 (p : Nums) : IC := (.region (Jqne p) [])
@[simp] theorem Jen6 {p : Nums} : EqI (Jqn6 p) (.region (Jqne p) []) := eqi
@[simp] def Jqnf (p : Nums) : List IOp := [qo 22 (.faddr 1 (.t 6)), qo 23 (.load none (.t 22)), qo 24 (.call p.spillall_load [(ci 0), (.t 23)]), qo 25 (.bslice 7 1 [(.int .i64 0), (.int .i64 0), (.int .i64 0), (.int .i64 0), (.int .i64 0), (.int .i64 0), (.int .i64 0)] [(0, (.t 24))]), qo 26 (.call p.spillall_builder_add [(.t 3), (.t 25)])]
def Jqn7 (p : Nums) : IC := (.region (Jqnf p) [])
@[simp] theorem Jen7 {p : Nums} : EqI (Jqn7 p) (.region (Jqnf p) []) := eqi
@[simp] def Jqng (p : Nums) : List IOp := [qo 28 (.faddr 0 (.t 3)), qo 29 (.load none (.t 28)), qo 30 (.load (some 4) (.t 6)), qo 31 (.build [.nils, (zi 0), (zi 0), (zi 0), (zi 0)] [(0, 1, (.t 29)), (1, 4, (.t 30))]), qn (.store 5 (.t 2) (.t 31))]
def Jqn8 (p : Nums) : IC := (.region (Jqng p) [])
@[simp] theorem Jen8 {p : Nums} : EqI (Jqn8 p) (.region (Jqng p) []) := eqi
def Jtcf (p : Nums) : IC := (.seq (Jqn0 p) (.seq (.region [⟨(some 3), (.alloc [.nils]), none, false⟩] []) (.seq (.seq (Jqn1 p) (.block 0 (.loop (Jqn4 p)))) (.seq (Jqn5 p) (.seq (.seq (Jqn6 p) (.cond (.t 21) (Jqn7 p) .skip)) (.seq (.region [⟨(some 27), (.faddr 1 (.t 6)), none, false⟩, ⟨none, (.store 1 (.t 27) (.c (.d (.int .i64 0)))), none, false⟩] []) (.seq (Jqn8 p) .ret)))))))
@[simp] def Jqot (p : Nums) : List IOp := [qo 7 (.load (some 5) (.t 1)), qo 8 (.call p.spillall_Block [(.t 7)]), qo 9 (.fld 0 none (.t 8)), qo 10 (.len (.t 9)), qo 11 (.mov (ci 0))]
def Jqol (p : Nums) : IC := (.region (Jqot p) [])
@[simp] theorem Jeol {p : Nums} : EqI (Jqol p) (.region (Jqot p) []) := eqi
@[simp] def Jqou (p : Nums) : List IOp := [qo 13 (.iaddr 7 (.t 9) (.t 11)), qo 14 (.load (some 7) (.t 13)), qo 6 (.alloc [(zi 0), (zi 0), (zi 0), (zi 0), (zi 0), (zi 0), (zi 0)]), qn (.store 7 (.t 6) (.t 14))]
def Jqom (p : Nums) : IC := (.region (Jqou p) [])
@[simp] theorem Jeom {p : Nums} : EqI (Jqom p) (.region (Jqou p) []) := eqi
@[simp] def Jqov (p : Nums) : List IOp := [qo 15 (.mov (.t 4)), qo 16 (.bin .add (.t 15) (ci 1)), qo 4 (.asg (.t 16))]
def Jqon (p : Nums) : IC := (.region (Jqov p) [])
@[simp] theorem Jeon {p : Nums} : EqI (Jqon p) (.region (Jqov p) []) := eqi
@[simp] def Jqow (p : Nums) : List IOp := [qo 17 (.faddr 0 (.t 6)), qo 18 (.load none (.t 17)), qo 19 (.bin .neq (.t 18) (ci 18))]
def Jqoo (p : Nums) : IC := (.region (Jqow p) [])
@[simp] theorem Jeoo {p : Nums} : EqI (Jqoo p) (.region (Jqow p) []) := eqi
@[simp] def Jqox (p : Nums) : List IOp := [qo 4 (.asg (ci 0))]
def Jqop (p : Nums) : IC := (.region (Jqox p) [])
@[simp] theorem Jeop {p : Nums} : EqI (Jqop p) (.region (Jqox p) []) := eqi
@[simp] def Jqoy (p : Nums) : List IOp := [qo 20 (.mov (.t 3)), qo 21 (.mov (.t 4)), qo 22 (.mx (.t 20) (.t 21)), qo 3 (.asg (.t 22))]
def Jqoq (p : Nums) : IC := (.region (Jqoy p) [])
@[simp] theorem Jeoq {p : Nums} : EqI (Jqoq p) (.region (Jqoy p) []) := eqi
def Jqor (p : Nums) : IC := (.seq (Jqom p) (.seq (Jqon p) (.seq (.seq (Jqoo p) (.cond (.t 19) (Jqop p) .skip)) (Jqoq p))))
@[simp] theorem Jeor {p : Nums} : EqI (Jqor p) (.seq (Jqom p) (.seq (Jqon p) (.seq (.seq (Jqoo p) (.cond (.t 19) (Jqop p) .skip)) (Jqoq p)))) := eqi
def Jqos (p : Nums) : IC := (.seq (.region [⟨(some 12), (.bin .lss (.t 11) (.t 10)), none, false⟩] []) (.seq (.cond (.t 12) .skip (.exit 0)) (.seq (.block 1 (Jqor p)) (.region [⟨(some 23), (.bin .add (.t 11) (.c (.d (.int .i64 1)))), none, false⟩, ⟨(some 11), (.mov (.t 23)), none, false⟩] []))))
@[simp] theorem Jeos {p : Nums} : EqI (Jqos p) (.seq (.region [⟨(some 12), (.bin .lss (.t 11) (.t 10)), none, false⟩] []) (.seq (.cond (.t 12) .skip (.exit 0)) (.seq (.block 1 (Jqor p)) (.region [⟨(some 23), (.bin .add (.t 11) (.c (.d (.int .i64 1)))), none, false⟩, ⟨(some 11), (.mov (.t 23)), none, false⟩] [])))) := eqi
def Jtch (p : Nums) : IC := (.seq (.region [⟨(some 1), (.box (.t 0)), none, false⟩, ⟨(some 2), (.asg (.c (.d (.int .i64 0)))), none, false⟩] []) (.seq (.region [⟨(some 3), (.asg (.c (.d (.int .i64 0)))), none, false⟩, ⟨(some 4), (.asg (.c (.d (.int .i64 0)))), none, false⟩] []) (.seq (.seq (Jqol p) (.block 0 (.loop (Jqos p)))) (.seq (.region [⟨(some 24), (.mov (.t 3)), none, false⟩, ⟨(some 2), (.asg (.t 24)), none, false⟩] []) .ret))))
@[simp] def Jqfi (p : Nums) : List IOp := [qo 5 (.mov (.t 4)), qo 6 (.faddr 2 (.t 1)), qo 7 (.load none (.t 6)), qo 8 (.len (.t 7)), qo 9 (.bin .lss (.t 5) (.t 8))]
def Jqfe (p : Nums) : IC := (.region (Jqfi p) [])
@[simp] theorem Jefe {p : Nums} : EqI (Jqfe p) (.region (Jqfi p) []) := eqi
@[simp] def Jqfj (p : Nums) : List IOp := [qo 12 (.mov (.t 3)), qo 13 (.faddr 2 (.t 1)), qo 14 (.load none (.t 13)), qo 15 (.mov (.t 4)), qo 16 (.iaddr 5 (.t 14) (.t 15)), qo 17 (.faddr 0 (.t 16)), qo 18 (.load none (.t 17)), qo 19 (.len (.t 18)), qo 20 (.bin .add (.t 12) (.t 19)), qo 3 (.asg (.t 20))]
def Jqff (p : Nums) : IC := (.region (Jqfj p) [])
@[simp] theorem Jeff {p : Nums} : EqI (Jqff p) (.region (Jqfj p) []) := eqi
@[simp] def Jqfk (p : Nums) : List IOp := [qo 10 (.mov (.t 4)), qo 11 (.bin .add (.t 10) (ci 1)), qo 4 (.asg (.t 11))]
def Jqfg (p : Nums) : IC := (.region (Jqfk p) [])
@[simp] theorem Jefg {p : Nums} : EqI (Jqfg p) (.region (Jqfk p) []) := eqi
def Jqfh (p : Nums) : IC := (.seq (.seq (Jqfe p) (.cond (.t 9) .skip (.exit 0))) (.seq (.block 1 (Jqff p)) (Jqfg p)))
@[simp] theorem Jefh {p : Nums} : EqI (Jqfh p) (.seq (.seq (Jqfe p) (.cond (.t 9) .skip (.exit 0))) (.seq (.block 1 (Jqff p)) (Jqfg p))) := eqi
def Jtbu (p : Nums) : IC := (.seq (.region [⟨(some 1), (.box (.t 0)), none, false⟩, ⟨(some 2), (.asg (.c (.d (.int .i64 0)))), none, false⟩] []) (.seq (.region [⟨(some 3), (.asg (.c (.d (.int .i64 0)))), none, false⟩] []) (.seq (.seq (.region [⟨(some 4), (.asg (.c (.d (.int .i64 0)))), none, false⟩] []) (.block 0 (.loop (Jqfh p)))) (.seq (.region [⟨(some 21), (.mov (.t 3)), none, false⟩, ⟨(some 2), (.asg (.t 21)), none, false⟩] []) .ret))))
@[simp] def Jqg8 (p : Nums) : List IOp := [qo 5 (.faddr 0 (.t 2)), qo 6 (.load none (.t 5)), qo 7 (.bin .lss (.t 6) (ci 1)), qo 8 (.mov (.t 7)), ⟨(some 9), (.faddr 0 (.t 2)), (some (8, false)), false⟩, ⟨(some 10), (.load none (.t 9)), (some (8, false)), false⟩, ⟨(some 11), (.bin .gtr (.t 10) (ci 17)), (some (8, false)), false⟩, qo 12 (.pick (.t 8) (.c (.d (.bool true))) (.t 11))]
def Jqfz (p : Nums) : IC := (.region (Jqg8 p) [])
@[simp] theorem Jefz {p : Nums} : EqI (Jqfz p) (.region (Jqg8 p) []) := eqi
def Jqg0 (p : Nums) : IC := (.seq (.region [⟨(some 4), (.asg (.c (.d (.int .i64 8)))), none, false⟩] []) .ret)
@[simp] theorem Jeg0 {p : Nums} : EqI (Jqg0 p) (.seq (.region [⟨(some 4), (.asg (.c (.d (.int .i64 8)))), none, false⟩] []) .ret) := eqi
def Jqg5 (p : Nums) : IC := (.seq (.seq (Jqfz p) .cut) (.cond (.t 12) (Jqg0 p) .skip))
theorem Jeg5 {p : Nums} : EqI (Jqg5 p) (.seq (.seq (Jqfz p) .cut) (.cond (.t 12) (Jqg0 p) .skip)) := eqi
@[simp] def Jqg9 (p : Nums) : List IOp := [qo 13 (.faddr 0 (.t 2)), qo 14 (.load none (.t 13)), qo 15 (.call p.ref05_UsesD [(.t 14)]), qo 16 (.mov (.t 15)), ⟨(some 17), (.faddr 1 (.t 2)), (some (16, true)), false⟩, ⟨(some 18), (.load none (.t 17)), (some (16, true)), false⟩, ⟨(some 19), (.mov (.t 1)), (some (16, true)), false⟩, ⟨(some 20), (.call p.ref07_in [(.t 18), (.t 19)]), (some (16, true)), false⟩, ⟨(some 21), (.un .not (.t 20)), (some (16, true)), false⟩, qo 22 (.pick (.t 16) (.t 21) (.c (.d (.bool false)))), qo 23 (.mov (.t 22)), ⟨(some 24), (.faddr 0 (.t 2)), (some (23, false)), false⟩, ⟨(some 25), (.load none (.t 24)), (some (23, false)), false⟩, ⟨(some 26), (.call p.ref05_UsesA [(.t 25)]), (some (23, false)), false⟩, ⟨(some 27), (.mov (.t 26)), (some (23, false)), false⟩, ⟨(some 28), (.faddr 2 (.t 2)), (some (27, true)), false⟩, ⟨(some 29), (.load none (.t 28)), (some (27, true)), false⟩, ⟨(some 30), (.mov (.t 1)), (some (27, true)), false⟩, ⟨(some 31), (.call p.ref07_in [(.t 29), (.t 30)]), (some (27, true)), false⟩, ⟨(some 32), (.un .not (.t 31)), (some (27, true)), false⟩, ⟨(some 33), (.pick (.t 27) (.t 32) (.c (.d (.bool false)))), (some (23, false)), false⟩, qo 34 (.pick (.t 23) (.c (.d (.bool true))) (.t 33)), qo 35 (.mov (.t 34)), ⟨(some 36), (.faddr 0 (.t 2)), (some (35, false)), false⟩, ⟨(some 37), (.load none (.t 36)), (some (35, false)), false⟩, ⟨(some 38), (.call p.ref05_UsesB [(.t 37)]), (some (35, false)), false⟩, ⟨(some 39), (.mov (.t 38)), (some (35, false)), false⟩, ⟨(some 40), (.faddr 3 (.t 2)), (some (39, true)), false⟩, ⟨(some 41), (.load none (.t 40)), (some (39, true)), false⟩, ⟨(some 42), (.mov (.t 1)), (some (39, true)), false⟩, ⟨(some 43), (.call p.ref07_in [(.t 41), (.t 42)]), (some (39, true)), false⟩, ⟨(some 44), (.un .not (.t 43)), (some (39, true)), false⟩, ⟨(some 45), (.pick (.t 39) (.t 44) (.c (.d (.bool false)))), (some (35, false)), false⟩, qo 46 (.pick (.t 35) (.c (.d (.bool true))) (.t 45))]
def Jqg1 (p : Nums) : IC := (.region (Jqg9 p) [])
@[simp] theorem Jeg1 {p : Nums} : EqI (Jqg1 p) (.region (Jqg9 p) []) := eqi
def Jqg2 (p : Nums) : IC := (.seq (.region [⟨(some 4), (.asg (.c (.d (.int .i64 9)))), none, false⟩] []) .ret)
@[simp] theorem Jeg2 {p : Nums} : EqI (Jqg2 p) (.seq (.region [⟨(some 4), (.asg (.c (.d (.int .i64 9)))), none, false⟩] []) .ret) := eqi
def Jqg6 (p : Nums) : IC := (.seq (.seq (Jqg1 p) .cut) (.cond (.t 46) (Jqg2 p) .skip))
theorem Jeg6 {p : Nums} : EqI (Jqg6 p) (.seq (.seq (Jqg1 p) .cut) (.cond (.t 46) (Jqg2 p) .skip)) := eqi
@[simp] def Jqga (p : Nums) : List IOp := [qo 47 (.faddr 0 (.t 2)), qo 48 (.load none (.t 47)), qo 49 (.call p.ref05_UsesD [(.t 48)]), qo 50 (.un .not (.t 49)), qo 51 (.mov (.t 50)), ⟨(some 52), (.faddr 1 (.t 2)), (some (51, true)), false⟩, ⟨(some 53), (.load none (.t 52)), (some (51, true)), false⟩, ⟨(some 54), (.bin .neq (.t 53) (ci 0)), (some (51, true)), false⟩, qo 55 (.pick (.t 51) (.t 54) (.c (.d (.bool false)))), qo 56 (.mov (.t 55)), ⟨(some 57), (.faddr 0 (.t 2)), (some (56, false)), false⟩, ⟨(some 58), (.load none (.t 57)), (some (56, false)), false⟩, ⟨(some 59), (.call p.ref05_UsesA [(.t 58)]), (some (56, false)), false⟩, ⟨(some 60), (.un .not (.t 59)), (some (56, false)), false⟩, ⟨(some 61), (.mov (.t 60)), (some (56, false)), false⟩, ⟨(some 62), (.faddr 2 (.t 2)), (some (61, true)), false⟩, ⟨(some 63), (.load none (.t 62)), (some (61, true)), false⟩, ⟨(some 64), (.bin .neq (.t 63) (ci 0)), (some (61, true)), false⟩, ⟨(some 65), (.pick (.t 61) (.t 64) (.c (.d (.bool false)))), (some (56, false)), false⟩, qo 66 (.pick (.t 56) (.c (.d (.bool true))) (.t 65)), qo 67 (.mov (.t 66)), ⟨(some 68), (.faddr 0 (.t 2)), (some (67, false)), false⟩, ⟨(some 69), (.load none (.t 68)), (some (67, false)), false⟩, ⟨(some 70), (.call p.ref05_UsesB [(.t 69)]), (some (67, false)), false⟩, ⟨(some 71), (.un .not (.t 70)), (some (67, false)), false⟩, ⟨(some 72), (.mov (.t 71)), (some (67, false)), false⟩, ⟨(some 73), (.faddr 3 (.t 2)), (some (72, true)), false⟩, ⟨(some 74), (.load none (.t 73)), (some (72, true)), false⟩, ⟨(some 75), (.bin .neq (.t 74) (ci 0)), (some (72, true)), false⟩, ⟨(some 76), (.pick (.t 72) (.t 75) (.c (.d (.bool false)))), (some (67, false)), false⟩, qo 77 (.pick (.t 67) (.c (.d (.bool true))) (.t 76)), qo 78 (.mov (.t 77)), ⟨(some 79), (.faddr 0 (.t 2)), (some (78, false)), false⟩, ⟨(some 80), (.load none (.t 79)), (some (78, false)), false⟩, ⟨(some 81), (.bin .neq (.t 80) (ci 1)), (some (78, false)), false⟩, ⟨(some 82), (.mov (.t 81)), (some (78, false)), false⟩, ⟨(some 83), (.faddr 4 (.t 2)), (some (82, true)), false⟩, ⟨(some 84), (.load none (.t 83)), (some (82, true)), false⟩, ⟨(some 85), (.bin .neq (.t 84) (ci 0)), (some (82, true)), false⟩, ⟨(some 86), (.pick (.t 82) (.t 85) (.c (.d (.bool false)))), (some (78, false)), false⟩, qo 87 (.pick (.t 78) (.c (.d (.bool true))) (.t 86))]
def Jqg3 (p : Nums) : IC := (.region (Jqga p) [])
@[simp] theorem Jeg3 {p : Nums} : EqI (Jqg3 p) (.region (Jqga p) []) := eqi
def Jqg4 (p : Nums) : IC := (.seq (.region [⟨(some 4), (.asg (.c (.d (.int .i64 12)))), none, false⟩] []) .ret)
@[simp] theorem Jeg4 {p : Nums} : EqI (Jqg4 p) (.seq (.region [⟨(some 4), (.asg (.c (.d (.int .i64 12)))), none, false⟩] []) .ret) := eqi
def Jqg7 (p : Nums) : IC := (.seq (.seq (Jqg3 p) .cut) (.cond (.t 87) (Jqg4 p) .skip))
theorem Jeg7 {p : Nums} : EqI (Jqg7 p) (.seq (.seq (Jqg3 p) .cut) (.cond (.t 87) (Jqg4 p) .skip)) := eqi
def Jtbw (p : Nums) : IC := (.seq (.region [⟨(some 2), (.box (.t 0)), none, false⟩, ⟨(some 4), (.asg (.c (.d (.int .i64 0)))), none, false⟩] []) (.seq (Jqg5 p) (.seq (Jqg6 p) (.seq (Jqg7 p) (.seq (.region [⟨(some 4), (.asg (.c (.d (.int .i64 0)))), none, false⟩] []) .ret)))))
@[simp] def Jqhg (p : Nums) : List IOp := [qo 11 (.faddr 2 (.t 3)), qo 12 (.load none (.t 11)), qo 13 (.mov (.t 2)), qo 14 (.call p.ref07_in [(.t 12), (.t 13)]), qo 15 (.un .not (.t 14))]
def Jqgy (p : Nums) : IC := (.region (Jqhg p) [])
@[simp] theorem Jegy {p : Nums} : EqI (Jqgy p) (.region (Jqhg p) []) := eqi
def Jqh8 (p : Nums) : IC := (.seq (.region [⟨(some 6), (.asg (.c (.d (.int .i64 11)))), none, false⟩] []) .ret)
@[simp] theorem Jeh8 {p : Nums} : EqI (Jqh8 p) (.seq (.region [⟨(some 6), (.asg (.c (.d (.int .i64 11)))), none, false⟩] []) .ret) := eqi
@[simp] def Jqhi (p : Nums) : List IOp := [qo 16 (.faddr 1 (.t 3)), qo 17 (.load none (.t 16)), qo 18 (.bin .neq (.t 17) (ci 0)), qo 19 (.mov (.t 18)), ⟨(some 20), (.faddr 3 (.t 3)), (some (19, false)), false⟩, ⟨(some 21), (.load none (.t 20)), (some (19, false)), false⟩, ⟨(some 22), (.bin .neq (.t 21) (ci 0)), (some (19, false)), false⟩, qo 23 (.pick (.t 19) (.c (.d (.bool true))) (.t 22))]
def Jqh9 (p : Nums) : IC := (.region (Jqhi p) [])
@[simp] theorem Jeh9 {p : Nums} : EqI (Jqh9 p) (.region (Jqhi p) []) := eqi
def Jqha (p : Nums) : IC := (.seq (.region [⟨(some 6), (.asg (.c (.d (.int .i64 12)))), none, false⟩] []) .ret)
@[simp] theorem Jeha {p : Nums} : EqI (Jqha p) (.seq (.region [⟨(some 6), (.asg (.c (.d (.int .i64 12)))), none, false⟩] []) .ret) := eqi
@[simp] def Jqhj (p : Nums) : List IOp := [qo 26 (.faddr 1 (.t 3)), qo 27 (.load none (.t 26)), qo 28 (.mov (.t 1)), qo 29 (.call p.ref07_in [(.t 27), (.t 28)]), qo 30 (.un .not (.t 29))]
def Jqhb (p : Nums) : IC := (.region (Jqhj p) [])
@[simp] theorem Jehb {p : Nums} : EqI (Jqhb p) (.region (Jqhj p) []) := eqi
def Jqhc (p : Nums) : IC := (.seq (.region [⟨(some 6), (.asg (.c (.d (.int .i64 9)))), none, false⟩] []) .ret)
@[simp] theorem Jehc {p : Nums} : EqI (Jqhc p) (.seq (.region [⟨(some 6), (.asg (.c (.d (.int .i64 9)))), none, false⟩] []) .ret) := eqi
@[simp] def Jqhk (p : Nums) : List IOp := [qo 31 (.faddr 2 (.t 3)), qo 32 (.load none (.t 31)), qo 33 (.mov (.t 2)), qo 34 (.call p.ref07_in [(.t 32), (.t 33)]), qo 35 (.un .not (.t 34)), qo 36 (.mov (.t 35)), ⟨(some 37), (.faddr 3 (.t 3)), (some (36, false)), false⟩, ⟨(some 38), (.load none (.t 37)), (some (36, false)), false⟩, ⟨(some 39), (.mov (.t 2)), (some (36, false)), false⟩, ⟨(some 40), (.call p.ref07_in [(.t 38), (.t 39)]), (some (36, false)), false⟩, ⟨(some 41), (.un .not (.t 40)), (some (36, false)), false⟩, qo 42 (.pick (.t 36) (.c (.d (.bool true))) (.t 41))]
def Jqhd (p : Nums) : IC := (.region (Jqhk p) [])
@[simp] theorem Jehd {p : Nums} : EqI (Jqhd p) (.region (Jqhk p) []) := eqi
def Jqhe (p : Nums) : IC := (.seq (.region [⟨(some 6), (.asg (.c (.d (.int .i64 11)))), none, false⟩] []) .ret)
@[simp] theorem Jehe {p : Nums} : EqI (Jqhe p) (.seq (.region [⟨(some 6), (.asg (.c (.d (.int .i64 11)))), none, false⟩] []) .ret) := eqi
@[simp] def Jqhl (p : Nums) : List IOp := [qo 45 (.faddr 1 (.t 3)), qo 46 (.load none (.t 45)), qo 47 (.mov (.t 1)), qo 48 (.call p.ref07_in [(.t 46), (.t 47)]), qo 49 (.un .not (.t 48))]
def Jqhf (p : Nums) : IC := (.region (Jqhl p) [])
@[simp] theorem Jehf {p : Nums} : EqI (Jqhf p) (.region (Jqhl p) []) := eqi
def Jqgz (p : Nums) : IC := (.seq (.region [⟨(some 6), (.asg (.c (.d (.int .i64 9)))), none, false⟩] []) .ret)
@[simp] theorem Jegz {p : Nums} : EqI (Jqgz p) (.seq (.region [⟨(some 6), (.asg (.c (.d (.int .i64 9)))), none, false⟩] []) .ret) := eqi
@[simp] def Jqhh (p : Nums) : List IOp := [qo 50 (.faddr 2 (.t 3)), qo 51 (.load none (.t 50)), qo 52 (.bin .neq (.t 51) (ci 0)), qo 53 (.mov (.t 52)), ⟨(some 54), (.faddr 3 (.t 3)), (some (53, false)), false⟩, ⟨(some 55), (.load none (.t 54)), (some (53, false)), false⟩, ⟨(some 56), (.bin .neq (.t 55) (ci 0)), (some (53, false)), false⟩, qo 57 (.pick (.t 53) (.c (.d (.bool true))) (.t 56))]
def Jqh0 (p : Nums) : IC := (.region (Jqhh p) [])
@[simp] theorem Jeh0 {p : Nums} : EqI (Jqh0 p) (.region (Jqhh p) []) := eqi
def Jqh1 (p : Nums) : IC := (.seq (.region [⟨(some 6), (.asg (.c (.d (.int .i64 12)))), none, false⟩] []) .ret)
@[simp] theorem Jeh1 {p : Nums} : EqI (Jqh1 p) (.seq (.region [⟨(some 6), (.asg (.c (.d (.int .i64 12)))), none, false⟩] []) .ret) := eqi
def Jqh2 (p : Nums) : IC := (.seq (.seq (Jqhf p) (.cond (.t 49) (Jqgz p) .skip)) (.seq (.seq (Jqh0 p) (.cond (.t 57) (Jqh1 p) .skip)) (.seq (.region [⟨(some 6), (.asg (.c (.d (.int .i64 0)))), none, false⟩] []) .ret)))
@[simp] theorem Jeh2 {p : Nums} : EqI (Jqh2 p) (.seq (.seq (Jqhf p) (.cond (.t 49) (Jqgz p) .skip)) (.seq (.seq (Jqh0 p) (.cond (.t 57) (Jqh1 p) .skip)) (.seq (.region [⟨(some 6), (.asg (.c (.d (.int .i64 0)))), none, false⟩] []) .ret))) := eqi
def Jqh3 (p : Nums) : IC := (.seq (.seq (Jqhb p) (.cond (.t 30) (Jqhc p) .skip)) (.seq (.seq (Jqhd p) (.cond (.t 42) (Jqhe p) .skip)) (.seq (.region [⟨(some 6), (.asg (.c (.d (.int .i64 0)))), none, false⟩] []) .ret)))
@[simp] theorem Jeh3 {p : Nums} : EqI (Jqh3 p) (.seq (.seq (Jqhb p) (.cond (.t 30) (Jqhc p) .skip)) (.seq (.seq (Jqhd p) (.cond (.t 42) (Jqhe p) .skip)) (.seq (.region [⟨(some 6), (.asg (.c (.d (.int .i64 0)))), none, false⟩] []) .ret))) := eqi
def Jqh4 (p : Nums) : IC := (.seq (.region [⟨(some 44), (.bin .eql (.t 8) (.c (.d (.int .i64 3)))), none, false⟩, ⟨(some 43), (.asg (.t 44)), none, false⟩] []) (.cond (.t 43) (Jqh2 p) .skip))
@[simp] theorem Jeh4 {p : Nums} : EqI (Jqh4 p) (.seq (.region [⟨(some 44), (.bin .eql (.t 8) (.c (.d (.int .i64 3)))), none, false⟩, ⟨(some 43), (.asg (.t 44)), none, false⟩] []) (.cond (.t 43) (Jqh2 p) .skip)) := eqi
def Jqh5 (p : Nums) : IC := (.seq (.seq (Jqgy p) (.cond (.t 15) (Jqh8 p) .skip)) (.seq (.seq (Jqh9 p) (.cond (.t 23) (Jqha p) .skip)) (.seq (.region [⟨(some 6), (.asg (.c (.d (.int .i64 0)))), none, false⟩] []) .ret)))
@[simp] theorem Jeh5 {p : Nums} : EqI (Jqh5 p) (.seq (.seq (Jqgy p) (.cond (.t 15) (Jqh8 p) .skip)) (.seq (.seq (Jqh9 p) (.cond (.t 23) (Jqha p) .skip)) (.seq (.region [⟨(some 6), (.asg (.c (.d (.int .i64 0)))), none, false⟩] []) .ret))) := eqi
def Jqh6 (p : Nums) : IC := (.seq (.region [⟨(some 25), (.bin .eql (.t 8) (.c (.d (.int .i64 2)))), none, false⟩, ⟨(some 24), (.asg (.t 25)), none, false⟩] []) (.cond (.t 24) (Jqh3 p) (Jqh4 p)))
@[simp] theorem Jeh6 {p : Nums} : EqI (Jqh6 p) (.seq (.region [⟨(some 25), (.bin .eql (.t 8) (.c (.d (.int .i64 2)))), none, false⟩, ⟨(some 24), (.asg (.t 25)), none, false⟩] []) (.cond (.t 24) (Jqh3 p) (Jqh4 p))) := eqi
def Jqh7 (p : Nums) : IC := (.seq (.region [⟨(some 10), (.bin .eql (.t 8) (.c (.d (.int .i64 1)))), none, false⟩, ⟨(some 9), (.asg (.t 10)), none, false⟩] []) (.cond (.t 9) (Jqh5 p) (Jqh6 p)))
@[simp] theorem Jeh7 {p : Nums} : EqI (Jqh7 p) (.seq (.region [⟨(some 10), (.bin .eql (.t 8) (.c (.d (.int .i64 1)))), none, false⟩, ⟨(some 9), (.asg (.t 10)), none, false⟩] []) (.cond (.t 9) (Jqh5 p) (Jqh6 p))) := eqi
def Jtby (p : Nums) : IC := (.seq (.region [⟨(some 3), (.box (.t 0)), none, false⟩, ⟨(some 6), (.asg (.c (.d (.int .i64 0)))), none, false⟩] []) (.seq (.seq (.region [⟨(some 7), (.faddr 0 (.t 3)), none, false⟩, ⟨(some 8), (.load none (.t 7)), none, false⟩] []) (.block 0 (Jqh7 p))) (.seq (.region [⟨(some 6), (.asg (.c (.d (.int .i64 16)))), none, false⟩] []) .ret)))
def Jqj3 (p : Nums) : IC := (.seq (.region [⟨(some 2), (.asg (.c .nils)), none, false⟩] []) .ret)
@[simp] theorem Jej3 {p : Nums} : EqI (Jqj3 p) (.seq (.region [⟨(some 2), (.asg (.c .nils)), none, false⟩] []) .ret) := eqi
@[simp] def Jqj5 (p : Nums) : List IOp := [qo 5 (.bslice 5 0 [(.int .i64 0), (.int .i64 0), (.int .i64 0), (.int .i64 0), (.int .i64 0)] []), qo 6 (.mov (.t 0)), qo 7 (.app 5 40 (.t 5) (.t 6)), qo 2 (.asg (.t 7))]
def Jqj4 (p : Nums) : IC := (.region (Jqj5 p) [])
@[simp] theorem Jej4 {p : Nums} : EqI (Jqj4 p) (.region (Jqj5 p) []) := eqi
def Jtc4 (p : Nums) : IC := (.seq (.region [⟨(some 2), (.asg (.c .nils)), none, false⟩] []) (.seq (.seq (.region [⟨(some 3), (.mov (.t 0)), none, false⟩, ⟨(some 4), (.isnil false (.t 3)), none, false⟩] []) (.cond (.t 4) (Jqj3 p) .skip)) (.seq (Jqj4 p) .ret)))
@[simp] def Jqpl (p : Nums) : List IOp := [qo 5 (.mov (.t 0)), qo 6 (.mkslice 2 16 [(.int .i64 0), (.int .i64 0)] (.t 5) (.t 5)), qo 3 (.asg (.t 6))]
def Jqph (p : Nums) : IC := (.region (Jqpl p) [])
@[simp] theorem Jeph {p : Nums} : EqI (Jqph p) (.region (Jqpl p) []) := eqi
@[simp] def Jqpm (p : Nums) : List IOp := [qo 11 (.mov (.t 3)), qo 12 (.mov (.t 4)), qo 13 (.mov (.t 4)), qo 14 (.mov (.t 4)), qo 15 (.call p.location_Slot [(.t 14)]), qo 16 (.build [(zi 0), (zi 0)] [(0, 1, (.t 13)), (1, 1, (.t 15))]), qo 17 (.iaddr 2 (.t 11) (.t 12)), qn (.store 2 (.t 17) (.t 16))]
def Jqpi (p : Nums) : IC := (.region (Jqpm p) [])
@[simp] theorem Jepi {p : Nums} : EqI (Jqpi p) (.region (Jqpm p) []) := eqi
def Jqpj (p : Nums) : IC := (.seq (.region [⟨(some 10), (.mov (.t 8)), none, false⟩, ⟨(some 4), (.asg (.t 10)), none, false⟩] []) (Jqpi p))
@[simp] theorem Jepj {p : Nums} : EqI (Jqpj p) (.seq (.region [⟨(some 10), (.mov (.t 8)), none, false⟩, ⟨(some 4), (.asg (.t 10)), none, false⟩] []) (Jqpi p)) := eqi
def Jqpk (p : Nums) : IC := (.seq (.region [⟨(some 9), (.bin .lss (.t 8) (.t 7)), none, false⟩] []) (.seq (.cond (.t 9) .skip (.exit 0)) (.seq (.block 1 (Jqpj p)) (.region [⟨(some 18), (.bin .add (.t 8) (.c (.d (.int .i64 1)))), none, false⟩, ⟨(some 8), (.mov (.t 18)), none, false⟩] []))))
@[simp] theorem Jepk {p : Nums} : EqI (Jqpk p) (.seq (.region [⟨(some 9), (.bin .lss (.t 8) (.t 7)), none, false⟩] []) (.seq (.cond (.t 9) .skip (.exit 0)) (.seq (.block 1 (Jqpj p)) (.region [⟨(some 18), (.bin .add (.t 8) (.c (.d (.int .i64 1)))), none, false⟩, ⟨(some 8), (.mov (.t 18)), none, false⟩] [])))) := eqi
def Jtck (p : Nums) : IC := (.seq (.region [⟨(some 2), (.asg (.c .nils)), none, false⟩] []) (.seq (Jqph p) (.seq (.seq (.region [⟨(some 7), (.mov (.t 0)), none, false⟩, ⟨(some 8), (.mov (.c (.d (.int .i64 0)))), none, false⟩] []) (.block 0 (.loop (Jqpk p)))) (.seq (.region [⟨(some 19), (.mov (.t 3)), none, false⟩, ⟨(some 2), (.asg (.t 19)), none, false⟩] []) .ret))))
@[simp] def Jqmn (p : Nums) : List IOp := [qo 10 (.faddr 0 (.t 3)), qo 11 (.load none (.t 10)), qo 12 (.len (.t 11)), qo 13 (.mov (ci 0))]
def Jqmg (p : Nums) : IC := (.region (Jqmn p) [])
@[simp] theorem Jemg {p : Nums} : EqI (Jqmg p) (.region (Jqmn p) []) := eqi
@[simp] def Jqmo (p : Nums) : List IOp := [qo 15 (.iaddr 5 (.t 11) (.t 13)), qo 16 (.load (some 5) (.t 15)), qo 8 (.alloc [(zi 0), (zi 0), (zi 0), (zi 0), (zi 0)]), qn (.store 5 (.t 8) (.t 16))]
def Jqmh (p : Nums) : IC := (.region (Jqmo p) [])
@[simp] theorem Jemh {p : Nums} : EqI (Jqmh p) (.region (Jqmo p) []) := eqi
@[simp] def Jqmp (p : Nums) : List IOp := [qo 17 (.load (some 5) (.t 8)), qo 18 (.mov (.t 1)), qo 19 (.call p.source_Instr [(.t 17), (.t 18)]), qo 9 (.asg (.t 19))]
def Jqmi (p : Nums) : IC := (.region (Jqmp p) [])
@[simp] theorem Jemi {p : Nums} : EqI (Jqmi p) (.region (Jqmp p) []) := eqi
def Jqmj (p : Nums) : IC := (.seq (.region [⟨(some 22), (.mov (.t 9)), none, false⟩, ⟨(some 6), (.asg (.t 22)), none, false⟩] []) .ret)
@[simp] theorem Jemj {p : Nums} : EqI (Jqmj p) (.seq (.region [⟨(some 22), (.mov (.t 9)), none, false⟩, ⟨(some 6), (.asg (.t 22)), none, false⟩] []) .ret) := eqi
def Jqmk (p : Nums) : IC := (.seq (Jqmh p) (.seq (Jqmi p) (.seq (.region [⟨(some 20), (.mov (.t 9)), none, false⟩, ⟨(some 21), (.bin .neq (.t 20) (.c (.d (.int .i64 0)))), none, false⟩] []) (.cond (.t 21) (Jqmj p) .skip))))
@[simp] theorem Jemk {p : Nums} : EqI (Jqmk p) (.seq (Jqmh p) (.seq (Jqmi p) (.seq (.region [⟨(some 20), (.mov (.t 9)), none, false⟩, ⟨(some 21), (.bin .neq (.t 20) (.c (.d (.int .i64 0)))), none, false⟩] []) (.cond (.t 21) (Jqmj p) .skip)))) := eqi
def Jqml (p : Nums) : IC := (.seq (.region [⟨(some 14), (.bin .lss (.t 13) (.t 12)), none, false⟩] []) (.seq (.cond (.t 14) .skip (.exit 0)) (.seq (.block 1 (Jqmk p)) (.region [⟨(some 23), (.bin .add (.t 13) (.c (.d (.int .i64 1)))), none, false⟩, ⟨(some 13), (.mov (.t 23)), none, false⟩] []))))
@[simp] theorem Jeml {p : Nums} : EqI (Jqml p) (.seq (.region [⟨(some 14), (.bin .lss (.t 13) (.t 12)), none, false⟩] []) (.seq (.cond (.t 14) .skip (.exit 0)) (.seq (.block 1 (Jqmk p)) (.region [⟨(some 23), (.bin .add (.t 13) (.c (.d (.int .i64 1)))), none, false⟩, ⟨(some 13), (.mov (.t 23)), none, false⟩] [])))) := eqi
@[simp] def Jqmq (p : Nums) : List IOp := [qo 24 (.faddr 1 (.t 3)), qo 25 (.load (some 4) (.t 24)), qo 26 (.mov (.t 1)), qo 27 (.mov (.t 2)), qo 28 (.call p.source_Term [(.t 25), (.t 26), (.t 27)]), qo 6 (.asg (.t 28))]
def Jqmm (p : Nums) : IC := (.region (Jqmq p) [])
@[simp] theorem Jemm {p : Nums} : EqI (Jqmm p) (.region (Jqmq p) []) := eqi
def Jtcd (p : Nums) : IC := (.seq (.region [⟨(some 3), (.box (.t 0)), none, false⟩, ⟨(some 6), (.asg (.c (.d (.int .i64 0)))), none, false⟩] []) (.seq (.seq (Jqmg p) (.block 0 (.loop (Jqml p)))) (.seq (Jqmm p) .ret)))
@[simp] def Jqa0 (p : Nums) : List IOp := [qo 2 (.box (.t 0)), qo 3 (.box (.t 1)), qo 4 (.asg (ci 0))]
def Jq9o (p : Nums) : IC := (.region (Jqa0 p) [])
@[simp] theorem Je9o {p : Nums} : EqI (Jq9o p) (.region (Jqa0 p) []) := eqi
@[simp] def Jqa2 (p : Nums) : List IOp := [qo 9 (.faddr 0 (.t 3)), qo 10 (.load none (.t 9)), qo 11 (.len (.t 10)), qo 12 (.mov (ci 0))]
def Jq9s (p : Nums) : IC := (.region (Jqa2 p) [])
@[simp] theorem Je9s {p : Nums} : EqI (Jq9s p) (.region (Jqa2 p) []) := eqi
@[simp] def Jqa3 (p : Nums) : List IOp := [qo 14 (.iaddr 7 (.t 10) (.t 12)), qo 15 (.load (some 7) (.t 14)), qo 7 (.alloc [(zi 0), (zi 0), (zi 0), (zi 0), (zi 0), (zi 0), (zi 0)]), qn (.store 7 (.t 7) (.t 15))]
def Jq9t (p : Nums) : IC := (.region (Jqa3 p) [])
@[simp] theorem Je9t {p : Nums} : EqI (Jq9t p) (.region (Jqa3 p) []) := eqi
@[simp] def Jqa4 (p : Nums) : List IOp := [qo 16 (.load (some 7) (.t 7)), qo 17 (.faddr 1 (.t 2)), qo 18 (.load none (.t 17)), qo 19 (.faddr 2 (.t 2)), qo 20 (.load none (.t 19)), qo 21 (.call p.machine_Instr [(.t 16), (.t 18), (.t 20)]), qo 8 (.asg (.t 21))]
def Jq9u (p : Nums) : IC := (.region (Jqa4 p) [])
@[simp] theorem Je9u {p : Nums} : EqI (Jq9u p) (.region (Jqa4 p) []) := eqi
def Jq9v (p : Nums) : IC := (.seq (.region [⟨(some 24), (.mov (.t 8)), none, false⟩, ⟨(some 4), (.asg (.t 24)), none, false⟩] []) .ret)
@[simp] theorem Je9v {p : Nums} : EqI (Jq9v p) (.seq (.region [⟨(some 24), (.mov (.t 8)), none, false⟩, ⟨(some 4), (.asg (.t 24)), none, false⟩] []) .ret) := eqi
@[simp] def Jqa5 (p : Nums) : List IOp := [qo 25 (.mov (.t 5)), qo 26 (.bin .add (.t 25) (ci 1)), qo 5 (.asg (.t 26))]
def Jq9w (p : Nums) : IC := (.region (Jqa5 p) [])
@[simp] theorem Je9w {p : Nums} : EqI (Jq9w p) (.region (Jqa5 p) []) := eqi
@[simp] def Jqa6 (p : Nums) : List IOp := [qo 27 (.faddr 0 (.t 7)), qo 28 (.load none (.t 27)), qo 29 (.bin .neq (.t 28) (ci 18))]
def Jq9x (p : Nums) : IC := (.region (Jqa6 p) [])
@[simp] theorem Je9x {p : Nums} : EqI (Jq9x p) (.region (Jqa6 p) []) := eqi
@[simp] def Jqa7 (p : Nums) : List IOp := [qo 5 (.asg (ci 0))]
def Jq9y (p : Nums) : IC := (.region (Jqa7 p) [])
@[simp] theorem Je9y {p : Nums} : EqI (Jq9y p) (.region (Jqa7 p) []) := eqi
def Jq9z (p : Nums) : IC := (.seq (.region [⟨(some 4), (.asg (.c (.d (.int .i64 15)))), none, false⟩] []) .ret)
@[simp] theorem Je9z {p : Nums} : EqI (Jq9z p) (.seq (.region [⟨(some 4), (.asg (.c (.d (.int .i64 15)))), none, false⟩] []) .ret) := eqi
def Jq9p (p : Nums) : IC := (.seq (Jq9t p) (.seq (.seq (Jq9u p) (.seq (.region [⟨(some 22), (.mov (.t 8)), none, false⟩, ⟨(some 23), (.bin .neq (.t 22) (.c (.d (.int .i64 0)))), none, false⟩] []) (.cond (.t 23) (Jq9v p) .skip))) (.seq (Jq9w p) (.seq (.seq (Jq9x p) (.cond (.t 29) (Jq9y p) .skip)) (.seq (.region [⟨(some 30), (.mov (.t 5)), none, false⟩, ⟨(some 31), (.bin .gtr (.t 30) (.c (.d (.int .i64 64)))), none, false⟩] []) (.cond (.t 31) (Jq9z p) .skip))))))
@[simp] theorem Je9p {p : Nums} : EqI (Jq9p p) (.seq (Jq9t p) (.seq (.seq (Jq9u p) (.seq (.region [⟨(some 22), (.mov (.t 8)), none, false⟩, ⟨(some 23), (.bin .neq (.t 22) (.c (.d (.int .i64 0)))), none, false⟩] []) (.cond (.t 23) (Jq9v p) .skip))) (.seq (Jq9w p) (.seq (.seq (Jq9x p) (.cond (.t 29) (Jq9y p) .skip)) (.seq (.region [⟨(some 30), (.mov (.t 5)), none, false⟩, ⟨(some 31), (.bin .gtr (.t 30) (.c (.d (.int .i64 64)))), none, false⟩] []) (.cond (.t 31) (Jq9z p) .skip)))))) := eqi
def Jq9q (p : Nums) : IC := (.seq (.region [⟨(some 13), (.bin .lss (.t 12) (.t 11)), none, false⟩] []) (.seq (.cond (.t 13) .skip (.exit 0)) (.seq (.block 1 (Jq9p p)) (.region [⟨(some 32), (.bin .add (.t 12) (.c (.d (.int .i64 1)))), none, false⟩, ⟨(some 12), (.mov (.t 32)), none, false⟩] []))))
@[simp] theorem Je9q {p : Nums} : EqI (Jq9q p) (.seq (.region [⟨(some 13), (.bin .lss (.t 12) (.t 11)), none, false⟩] []) (.seq (.cond (.t 13) .skip (.exit 0)) (.seq (.block 1 (Jq9p p)) (.region [⟨(some 32), (.bin .add (.t 12) (.c (.d (.int .i64 1)))), none, false⟩, ⟨(some 12), (.mov (.t 32)), none, false⟩] [])))) := eqi
@[simp] def Jqa1 (p : Nums) : List IOp := [qo 33 (.faddr 1 (.t 3)), qo 34 (.load (some 4) (.t 33)), qo 35 (.faddr 1 (.t 2)), qo 36 (.load none (.t 35)), qo 37 (.faddr 3 (.t 2)), qo 38 (.load none (.t 37)), qo 39 (.len (.t 38)), qo 40 (.call p.source_Term [(.t 34), (.t 36), (.t 39)]), qo 4 (.asg (.t 40))]
def Jq9r (p : Nums) : IC := (.region (Jqa1 p) [])
@[simp] theorem Je9r {p : Nums} : EqI (Jq9r p) (.region (Jqa1 p) []) := eqi
def Jtb3 (p : Nums) : IC := (.seq (Jq9o p) (.seq (.region [⟨(some 5), (.asg (.c (.d (.int .i64 0)))), none, false⟩] []) (.seq (.seq (Jq9s p) (.block 0 (.loop (Jq9q p)))) (.seq (Jq9r p) .ret))))
@[simp] def Jq78 (p : Nums) : List IOp := [qo 6 (.mov (.t 0)), qo 7 (.len (.t 6)), qo 8 (.mov (ci 0))]
def Jq74 (p : Nums) : IC := (.region (Jq78 p) [])
@[simp] theorem Je74 {p : Nums} : EqI (Jq74 p) (.region (Jq78 p) []) := eqi
@[simp] def Jq79 (p : Nums) : List IOp := [qo 10 (.iaddr 1 (.t 6) (.t 8)), qo 11 (.load none (.t 10)), qo 5 (.asg (.t 11))]
def Jq75 (p : Nums) : IC := (.region (Jq79 p) [])
@[simp] theorem Je75 {p : Nums} : EqI (Jq75 p) (.region (Jq79 p) []) := eqi
@[simp] def Jq7a (p : Nums) : List IOp := [qo 12 (.mov (.t 3)), qo 13 (.mov (.t 5)), qo 14 (.len (.t 13)), qo 15 (.bin .add (.t 12) (.t 14)), qo 3 (.asg (.t 15))]
def Jq76 (p : Nums) : IC := (.region (Jq7a p) [])
@[simp] theorem Je76 {p : Nums} : EqI (Jq76 p) (.region (Jq7a p) []) := eqi
def Jq77 (p : Nums) : IC := (.seq (.region [⟨(some 9), (.bin .lss (.t 8) (.t 7)), none, false⟩] []) (.seq (.cond (.t 9) .skip (.exit 0)) (.seq (.block 1 (.seq (Jq75 p) (Jq76 p))) (.region [⟨(some 16), (.bin .add (.t 8) (.c (.d (.int .i64 1)))), none, false⟩, ⟨(some 8), (.mov (.t 16)), none, false⟩] []))))
@[simp] theorem Je77 {p : Nums} : EqI (Jq77 p) (.seq (.region [⟨(some 9), (.bin .lss (.t 8) (.t 7)), none, false⟩] []) (.seq (.cond (.t 9) .skip (.exit 0)) (.seq (.block 1 (.seq (Jq75 p) (Jq76 p))) (.region [⟨(some 16), (.bin .add (.t 8) (.c (.d (.int .i64 1)))), none, false⟩, ⟨(some 8), (.mov (.t 16)), none, false⟩] [])))) := eqi
def Jtas (p : Nums) : IC := (.seq (.region [⟨(some 2), (.asg (.c (.d (.int .i64 0)))), none, false⟩] []) (.seq (.region [⟨(some 3), (.asg (.c (.d (.int .i64 0)))), none, false⟩] []) (.seq (.seq (Jq74 p) (.block 0 (.loop (Jq77 p)))) (.seq (.region [⟨(some 17), (.mov (.t 3)), none, false⟩, ⟨(some 2), (.asg (.t 17)), none, false⟩] []) .ret))))
@[simp] def Jq6z (p : Nums) : List IOp := [qo 11 (.mov (.t 0)), qo 12 (.len (.t 11)), qo 13 (.mov (ci 0))]
def Jq6n (p : Nums) : IC := (.region (Jq6z p) [])
@[simp] theorem Je6n {p : Nums} : EqI (Jq6n p) (.region (Jq6z p) []) := eqi
@[simp] def Jq70 (p : Nums) : List IOp := [qo 15 (.mov (.t 13)), qo 16 (.iaddr 2 (.t 11) (.t 13)), qo 17 (.load (some 2) (.t 16)), qo 10 (.alloc [(zi 0), (zi 0)]), qo 9 (.asg (.t 15)), qn (.store 2 (.t 10) (.t 17))]
def Jq6r (p : Nums) : IC := (.region (Jq70 p) [])
@[simp] theorem Je6r {p : Nums} : EqI (Jq6r p) (.region (Jq70 p) []) := eqi
@[simp] def Jq71 (p : Nums) : List IOp := [qo 19 (.faddr 0 (.t 10)), qo 20 (.load none (.t 19)), qo 21 (.bin .lss (.t 20) (ci 0)), qo 22 (.mov (.t 21)), ⟨(some 23), (.faddr 0 (.t 10)), (some (22, false)), false⟩, ⟨(some 24), (.load none (.t 23)), (some (22, false)), false⟩, ⟨(some 25), (.mov (.t 1)), (some (22, false)), false⟩, ⟨(some 26), (.bin .geq (.t 24) (.t 25)), (some (22, false)), false⟩, qo 27 (.pick (.t 22) (.c (.d (.bool true))) (.t 26)), qo 18 (.asg (.t 27))]
def Jq6s (p : Nums) : IC := (.region (Jq71 p) [])
@[simp] theorem Je6s {p : Nums} : EqI (Jq6s p) (.region (Jq71 p) []) := eqi
@[simp] def Jq72 (p : Nums) : List IOp := [qo 29 (.faddr 1 (.t 10)), qo 30 (.load none (.t 29)), qo 31 (.mov (.t 2)), qo 32 (.mov (.t 3)), qo 33 (.call p.location_InRange [(.t 30), (.t 31), (.t 32)]), qo 34 (.un .not (.t 33)), qo 28 (.asg (.t 34))]
def Jq6t (p : Nums) : IC := (.region (Jq72 p) [])
@[simp] theorem Je6t {p : Nums} : EqI (Jq6t p) (.region (Jq72 p) []) := eqi
@[simp] def Jq73 (p : Nums) : List IOp := [qo 36 (.mov (.t 9)), qo 37 (.bin .gtr (.t 36) (ci 0)), qo 38 (.mov (.t 37)), ⟨(some 39), (.mov (.t 0)), (some (38, true)), true⟩, ⟨(some 40), (.mov (.t 9)), (some (38, true)), true⟩, ⟨(some 41), (.bin .sub (.t 40) (ci 1)), (some (38, true)), true⟩, ⟨(some 42), (.iaddr 2 (.t 39) (.t 41)), (some (38, true)), true⟩, ⟨(some 43), (.load (some 2) (.t 42)), (some (38, true)), true⟩, ⟨(some 44), (.load (some 2) (.t 10)), (some (38, true)), true⟩, ⟨(some 45), (.call p.pairset_Less [(.t 43), (.t 44)]), (some (38, true)), false⟩, ⟨(some 46), (.un .not (.t 45)), (some (38, true)), false⟩, qo 47 (.pick (.t 38) (.t 46) (.c (.d (.bool false)))), qo 35 (.asg (.t 47))]
def Jq6u (p : Nums) : IC := (.region (Jq73 p) [])
@[simp] theorem Je6u {p : Nums} : EqI (Jq6u p) (.region (Jq73 p) []) := eqi
def Jq6v (p : Nums) : IC := (.seq (.region [⟨(some 8), (.asg (.c (.d (.int .i64 13)))), none, false⟩] []) .ret)
@[simp] theorem Je6v {p : Nums} : EqI (Jq6v p) (.seq (.region [⟨(some 8), (.asg (.c (.d (.int .i64 13)))), none, false⟩] []) .ret) := eqi
def Jq6w (p : Nums) : IC := (.seq (.region [⟨(some 8), (.asg (.c (.d (.int .i64 10)))), none, false⟩] []) .ret)
@[simp] theorem Je6w {p : Nums} : EqI (Jq6w p) (.seq (.region [⟨(some 8), (.asg (.c (.d (.int .i64 10)))), none, false⟩] []) .ret) := eqi
def Jq6x (p : Nums) : IC := (.seq (Jq6u p) (.cond (.t 35) (Jq6v p) .skip))
@[simp] theorem Je6x {p : Nums} : EqI (Jq6x p) (.seq (Jq6u p) (.cond (.t 35) (Jq6v p) .skip)) := eqi
def Jq6y (p : Nums) : IC := (.seq (.region [⟨(some 8), (.asg (.c (.d (.int .i64 9)))), none, false⟩] []) .ret)
@[simp] theorem Je6y {p : Nums} : EqI (Jq6y p) (.seq (.region [⟨(some 8), (.asg (.c (.d (.int .i64 9)))), none, false⟩] []) .ret) := eqi
def Jq6o (p : Nums) : IC := (.seq (Jq6t p) (.cond (.t 28) (Jq6w p) (Jq6x p)))
@[simp] theorem Je6o {p : Nums} : EqI (Jq6o p) (.seq (Jq6t p) (.cond (.t 28) (Jq6w p) (Jq6x p))) := eqi
def Jq6p (p : Nums) : IC := (.seq (Jq6s p) (.cond (.t 18) (Jq6y p) (Jq6o p)))
@[simp] theorem Je6p {p : Nums} : EqI (Jq6p p) (.seq (Jq6s p) (.cond (.t 18) (Jq6y p) (Jq6o p))) := eqi
def Jq6q (p : Nums) : IC := (.seq (.region [⟨(some 14), (.bin .lss (.t 13) (.t 12)), none, false⟩] []) (.seq (.cond (.t 14) .skip (.exit 0)) (.seq (.block 1 (.seq (Jq6r p) (.block 2 (Jq6p p)))) (.region [⟨(some 48), (.bin .add (.t 13) (.c (.d (.int .i64 1)))), none, false⟩, ⟨(some 13), (.mov (.t 48)), none, false⟩] []))))
@[simp] theorem Je6q {p : Nums} : EqI (Jq6q p) (.seq (.region [⟨(some 14), (.bin .lss (.t 13) (.t 12)), none, false⟩] []) (.seq (.cond (.t 14) .skip (.exit 0)) (.seq (.block 1 (.seq (Jq6r p) (.block 2 (Jq6p p)))) (.region [⟨(some 48), (.bin .add (.t 13) (.c (.d (.int .i64 1)))), none, false⟩, ⟨(some 13), (.mov (.t 48)), none, false⟩] [])))) := eqi
def Jtar (p : Nums) : IC := (.seq (.region [⟨(some 8), (.asg (.c (.d (.int .i64 0)))), none, false⟩] []) (.seq (.seq (Jq6n p) (.block 0 (.loop (Jq6q p)))) (.seq (.region [⟨(some 8), (.asg (.c (.d (.int .i64 0)))), none, false⟩] []) .ret)))
@[simp] def Jq5m (p : Nums) : List IOp := [qo 4 (.alloc [(zi 0), (zi 0)]), qo 5 (.asg (ci 0))]
def Jq5e (p : Nums) : IC := (.region (Jq5m p) [])
@[simp] theorem Je5e {p : Nums} : EqI (Jq5e p) (.region (Jq5m p) []) := eqi
@[simp] def Jq5n (p : Nums) : List IOp := [qo 8 (.mov (.t 0)), qo 9 (.len (.t 8)), qo 10 (.mov (ci 0))]
def Jq5f (p : Nums) : IC := (.region (Jq5n p) [])
@[simp] theorem Je5f {p : Nums} : EqI (Jq5f p) (.region (Jq5n p) []) := eqi
@[simp] def Jq5o (p : Nums) : List IOp := [qo 12 (.iaddr 2 (.t 8) (.t 10)), qo 13 (.load (some 2) (.t 12)), qo 7 (.alloc [(zi 0), (zi 0)]), qn (.store 2 (.t 7) (.t 13))]
def Jq5g (p : Nums) : IC := (.region (Jq5o p) [])
@[simp] theorem Je5g {p : Nums} : EqI (Jq5g p) (.region (Jq5o p) []) := eqi
@[simp] def Jq5p (p : Nums) : List IOp := [qo 14 (.load (some 2) (.t 7)), qo 15 (.mov (.t 1)), qo 16 (.call p.edge_Initial [(.t 14), (.t 15)]), qo 17 (.un .not (.t 16))]
def Jq5h (p : Nums) : IC := (.region (Jq5p p) [])
@[simp] theorem Je5h {p : Nums} : EqI (Jq5h p) (.region (Jq5p p) []) := eqi
@[simp] def Jq5q (p : Nums) : List IOp := [qo 18 (.load (some 2) (.t 7)), qn (.store 2 (.t 4) (.t 18)), qo 5 (.asg (ci 23))]
def Jq5i (p : Nums) : IC := (.region (Jq5q p) [])
@[simp] theorem Je5i {p : Nums} : EqI (Jq5i p) (.region (Jq5q p) []) := eqi
def Jq5j (p : Nums) : IC := (.seq (Jq5g p) (.seq (Jq5h p) (.cond (.t 17) (.seq (Jq5i p) .ret) .skip)))
@[simp] theorem Je5j {p : Nums} : EqI (Jq5j p) (.seq (Jq5g p) (.seq (Jq5h p) (.cond (.t 17) (.seq (Jq5i p) .ret) .skip))) := eqi
def Jq5k (p : Nums) : IC := (.seq (.region [⟨(some 11), (.bin .lss (.t 10) (.t 9)), none, false⟩] []) (.seq (.cond (.t 11) .skip (.exit 0)) (.seq (.block 1 (Jq5j p)) (.region [⟨(some 19), (.bin .add (.t 10) (.c (.d (.int .i64 1)))), none, false⟩, ⟨(some 10), (.mov (.t 19)), none, false⟩] []))))
@[simp] theorem Je5k {p : Nums} : EqI (Jq5k p) (.seq (.region [⟨(some 11), (.bin .lss (.t 10) (.t 9)), none, false⟩] []) (.seq (.cond (.t 11) .skip (.exit 0)) (.seq (.block 1 (Jq5j p)) (.region [⟨(some 19), (.bin .add (.t 10) (.c (.d (.int .i64 1)))), none, false⟩, ⟨(some 10), (.mov (.t 19)), none, false⟩] [])))) := eqi
@[simp] def Jq5r (p : Nums) : List IOp := [qo 20 (.build [(zi 0), (zi 0)] []), qn (.store 2 (.t 4) (.t 20)), qo 5 (.asg (ci 0))]
def Jq5l (p : Nums) : IC := (.region (Jq5r p) [])
@[simp] theorem Je5l {p : Nums} : EqI (Jq5l p) (.region (Jq5r p) []) := eqi
def Jtan (p : Nums) : IC := (.seq (Jq5e p) (.seq (.seq (Jq5f p) (.block 0 (.loop (Jq5k p)))) (.seq (Jq5l p) .ret)))
@[simp] def Jqc (p : Nums) : List IOp := [qo 4 (.asg (.c .nils)), qo 5 (.asg (ci 0)), qo 6 (.asg (ci 0))]
def Jq0 (p : Nums) : IC := (.region (Jqc p) [])
@[simp] theorem Je0 {p : Nums} : EqI (Jq0 p) (.region (Jqc p) []) := eqi
@[simp] def Jqf (p : Nums) : List IOp := [qo 11 (.mov (.t 8)), qo 12 (.mov (.t 0)), qo 13 (.mov (.t 8)), qo 14 (.call p.align_skip_Instr [(.t 12), (.t 13), (.c (.fn (.func p.align_copied) [] []))]), qo 15 (.mov (.t 9)), qo 16 (.mov (.t 1)), qo 17 (.mov (.t 9)), qo 18 (.call p.align_skip_Mach [(.t 16), (.t 17), (.c (.fn (.func p.align_moved) [] []))]), qo 19 (.build [(zi 0), (zi 0), (zi 0), (zi 0), (zi 0), (zi 0)] [(0, 1, (.t 11)), (1, 1, (.t 14)), (2, 1, (.t 15)), (3, 1, (.t 18))]), qo 10 (.alloc [(zi 0), (zi 0), (zi 0), (zi 0), (zi 0), (zi 0)]), qn (.store 6 (.t 10) (.t 19))]
def Jq4 (p : Nums) : IC := (.region (Jqf p) [])
@[simp] theorem Je4 {p : Nums} : EqI (Jq4 p) (.region (Jqf p) []) := eqi
@[simp] def Jqg (p : Nums) : List IOp := [qp 20 (.faddr 1 (.t 10)), qp 21 (.load none (.t 20)), qp 22 (.faddr 3 (.t 10)), qp 23 (.load none (.t 22)), qp 8 (.asg (.t 21)), qo 9 (.asg (.t 23))]
def Jq5 (p : Nums) : IC := (.region (Jqg p) [])
@[simp] theorem Je5 {p : Nums} : EqI (Jq5 p) (.region (Jqg p) []) := eqi
@[simp] def Jqh (p : Nums) : List IOp := [qo 24 (.mov (.t 8)), qo 25 (.mov (.t 0)), qo 26 (.len (.t 25)), qo 27 (.bin .eql (.t 24) (.t 26)), qo 28 (.mov (.t 27)), ⟨(some 29), (.mov (.t 9)), (some (28, true)), false⟩, ⟨(some 30), (.mov (.t 1)), (some (28, true)), false⟩, ⟨(some 31), (.len (.t 30)), (some (28, true)), false⟩, ⟨(some 32), (.bin .eql (.t 29) (.t 31)), (some (28, true)), false⟩, qo 33 (.pick (.t 28) (.t 32) (.c (.d (.bool false))))]
def Jq6 (p : Nums) : IC := (.region (Jqh p) [])
@[simp] theorem Je6 {p : Nums} : EqI (Jq6 p) (.region (Jqh p) []) := eqi
@[simp] def Jqi (p : Nums) : List IOp := [qo 34 (.faddr 4 (.t 10)), qn (.store 1 (.t 34) (ci (-1))), qo 35 (.faddr 5 (.t 10)), qn (.store 1 (.t 35) (ci (-1)))]
def Jq7 (p : Nums) : IC := (.region (Jqi p) [])
@[simp] theorem Je7 {p : Nums} : EqI (Jq7 p) (.region (Jqi p) []) := eqi
@[simp] def Jqj (p : Nums) : List IOp := [qo 36 (.mov (.t 7)), qo 37 (.load (some 6) (.t 10)), qo 38 (.bslice 6 1 [(.int .i64 0), (.int .i64 0), (.int .i64 0), (.int .i64 0), (.int .i64 0), (.int .i64 0)] [(0, (.t 37))]), qo 39 (.app 6 48 (.t 36) (.t 38)), qo 40 (.mov (.t 9)), qo 4 (.asg (.t 39)), qo 5 (.asg (.t 40)), qo 6 (.asg (ci 0))]
def Jq8 (p : Nums) : IC := (.region (Jqj p) [])
@[simp] theorem Je8 {p : Nums} : EqI (Jq8 p) (.region (Jqj p) []) := eqi
@[simp] def Jqk (p : Nums) : List IOp := [qp 41 (.mov (.t 8)), qp 42 (.mov (.t 0)), qp 43 (.len (.t 42)), qo 44 (.bin .eql (.t 41) (.t 43)), qo 45 (.mov (.t 44)), ⟨(some 46), (.mov (.t 9)), (some (45, false)), true⟩, ⟨(some 47), (.mov (.t 1)), (some (45, false)), true⟩, ⟨(some 48), (.len (.t 47)), (some (45, false)), true⟩, ⟨(some 49), (.bin .eql (.t 46) (.t 48)), (some (45, false)), false⟩, qo 50 (.pick (.t 45) (.c (.d (.bool true))) (.t 49)), qo 51 (.mov (.t 50)), ⟨(some 52), (.mov (.t 0)), (some (51, false)), true⟩, ⟨(some 53), (.mov (.t 8)), (some (51, false)), true⟩, ⟨(some 54), (.iaddr 5 (.t 52) (.t 53)), (some (51, false)), true⟩, ⟨(some 55), (.load (some 5) (.t 54)), (some (51, false)), true⟩, ⟨(some 56), (.mov (.t 1)), (some (51, false)), true⟩, ⟨(some 57), (.mov (.t 9)), (some (51, false)), true⟩, ⟨(some 58), (.iaddr 7 (.t 56) (.t 57)), (some (51, false)), true⟩, ⟨(some 59), (.load (some 7) (.t 58)), (some (51, false)), true⟩, ⟨(some 60), (.call p.align_Same [(.t 55), (.t 59)]), (some (51, false)), false⟩, ⟨(some 61), (.un .not (.t 60)), (some (51, false)), false⟩, qo 62 (.pick (.t 51) (.c (.d (.bool true))) (.t 61))]
def Jq9 (p : Nums) : IC := (.region (Jqk p) [])
@[simp] theorem Je9 {p : Nums} : EqI (Jq9 p) (.region (Jqk p) []) := eqi
@[simp] def Jql (p : Nums) : List IOp := [qo 63 (.mov (.t 9)), qo 4 (.asg (.c .nils)), qo 5 (.asg (.t 63)), qo 6 (.asg (ci 20))]
def Jqa (p : Nums) : IC := (.region (Jql p) [])
@[simp] theorem Jea {p : Nums} : EqI (Jqa p) (.region (Jql p) []) := eqi
@[simp] def Jqm (p : Nums) : List IOp := [qo 64 (.mov (.t 8)), qo 65 (.mov (.t 9)), qo 66 (.faddr 4 (.t 10)), qn (.store 1 (.t 66) (.t 64)), qo 67 (.faddr 5 (.t 10)), qn (.store 1 (.t 67) (.t 65))]
def Jqb (p : Nums) : IC := (.region (Jqm p) [])
@[simp] theorem Jeb {p : Nums} : EqI (Jqb p) (.region (Jqm p) []) := eqi
@[simp] def Jqd (p : Nums) : List IOp := [qo 68 (.mov (.t 7)), qo 69 (.load (some 6) (.t 10)), qo 70 (.bslice 6 1 [(.int .i64 0), (.int .i64 0), (.int .i64 0), (.int .i64 0), (.int .i64 0), (.int .i64 0)] [(0, (.t 69))]), qo 71 (.app 6 48 (.t 68) (.t 70)), qo 7 (.asg (.t 71))]
def Jq1 (p : Nums) : IC := (.region (Jqd p) [])
@[simp] theorem Je1 {p : Nums} : EqI (Jq1 p) (.region (Jqd p) []) := eqi
@[simp] def Jqe (p : Nums) : List IOp := [qo 72 (.mov (.t 8)), qo 73 (.bin .add (.t 72) (ci 1)), qo 74 (.mov (.t 9)), qo 75 (.bin .add (.t 74) (ci 1)), qo 8 (.asg (.t 73)), qo 9 (.asg (.t 75))]
def Jq2 (p : Nums) : IC := (.region (Jqe p) [])
@[simp] theorem Je2 {p : Nums} : EqI (Jq2 p) (.region (Jqe p) []) := eqi
def Jq3 (p : Nums) : IC := (.seq (Jq4 p) (.seq (Jq5 p) (.seq (.seq (Jq6 p) (.cond (.t 33) (.seq (Jq7 p) (.seq (Jq8 p) .ret)) .skip)) (.seq (.seq (Jq9 p) (.cond (.t 62) (.seq (Jqa p) .ret) .skip)) (.seq (Jqb p) (.seq (Jq1 p) (Jq2 p)))))))
@[simp] theorem Je3 {p : Nums} : EqI (Jq3 p) (.seq (Jq4 p) (.seq (Jq5 p) (.seq (.seq (Jq6 p) (.cond (.t 33) (.seq (Jq7 p) (.seq (Jq8 p) .ret)) .skip)) (.seq (.seq (Jq9 p) (.cond (.t 62) (.seq (Jqa p) .ret) .skip)) (.seq (Jqb p) (.seq (Jq1 p) (Jq2 p))))))) := eqi
def Jta4 (p : Nums) : IC := (.seq (Jq0 p) (.seq (.region [⟨(some 7), (.asg (.c .nils)), none, false⟩] []) (.seq (.region [⟨(some 8), (.asg (.c (.d (.int .i64 0)))), none, false⟩, ⟨(some 9), (.asg (.c (.d (.int .i64 0)))), none, false⟩] []) (.block 0 (.loop (.block 1 (Jq3 p)))))))
@[simp] def Jqt (p : Nums) : List IOp := [qo 2 (.box (.t 0)), qo 3 (.box (.t 1)), qo 4 (.asg (.c (.d (.bool false))))]
def Jqr (p : Nums) : IC := (.region (Jqt p) [])
@[simp] theorem Jer {p : Nums} : EqI (Jqr p) (.region (Jqt p) []) := eqi
@[simp] def Jqu (p : Nums) : List IOp := [qo 5 (.faddr 0 (.t 2)), qo 6 (.load none (.t 5)), qo 7 (.faddr 0 (.t 3)), qo 8 (.load none (.t 7)), qo 9 (.bin .eql (.t 6) (.t 8)), qo 10 (.mov (.t 9)), ⟨(some 11), (.faddr 2 (.t 2)), (some (10, true)), false⟩, ⟨(some 12), (.load none (.t 11)), (some (10, true)), false⟩, ⟨(some 13), (.faddr 2 (.t 3)), (some (10, true)), false⟩, ⟨(some 14), (.load none (.t 13)), (some (10, true)), false⟩, ⟨(some 15), (.bin .eql (.t 12) (.t 14)), (some (10, true)), false⟩, qo 16 (.pick (.t 10) (.t 15) (.c (.d (.bool false)))), qo 17 (.mov (.t 16)), ⟨(some 18), (.faddr 3 (.t 2)), (some (17, true)), false⟩, ⟨(some 19), (.load none (.t 18)), (some (17, true)), false⟩, ⟨(some 20), (.faddr 3 (.t 3)), (some (17, true)), false⟩, ⟨(some 21), (.load none (.t 20)), (some (17, true)), false⟩, ⟨(some 22), (.bin .eql (.t 19) (.t 21)), (some (17, true)), false⟩, qo 23 (.pick (.t 17) (.t 22) (.c (.d (.bool false)))), qo 4 (.asg (.t 23))]
def Jqs (p : Nums) : IC := (.region (Jqu p) [])
@[simp] theorem Jes {p : Nums} : EqI (Jqs p) (.region (Jqu p) []) := eqi
def Jta6 (p : Nums) : IC := (.seq (Jqr p) (.seq (Jqs p) .ret))
@[simp] def Jqcc (p : Nums) : List IOp := [qo 4 (.mov (.t 0)), qo 5 (.call p.slices_Clone_Pair [(.t 4)]), qo 3 (.asg (.t 5))]
def Jqc9 (p : Nums) : IC := (.region (Jqcc p) [])
@[simp] theorem Jec9 {p : Nums} : EqI (Jqc9 p) (.region (Jqcc p) []) := eqi
@[simp] def Jqcd (p : Nums) : List IOp := [qo 6 (.mov (.t 3)), qo 7 (.call p.slices_SortFunc_Pair [(.t 6), (.c (.fn (.func p.pairset_compare) [] []))])]
def Jqca (p : Nums) : IC := (.region (Jqcd p) [])
@[simp] theorem Jeca {p : Nums} : EqI (Jqca p) (.region (Jqcd p) []) := eqi
@[simp] def Jqce (p : Nums) : List IOp := [qo 8 (.mov (.t 3)), qo 9 (.call p.slices_Compact_Pair [(.t 8)]), qo 2 (.asg (.t 9))]
def Jqcb (p : Nums) : IC := (.region (Jqce p) [])
@[simp] theorem Jecb {p : Nums} : EqI (Jqcb p) (.region (Jqce p) []) := eqi
def Jtbl (p : Nums) : IC := (.seq (.region [⟨(some 2), (.asg (.c .nils)), none, false⟩] []) (.seq (Jqc9 p) (.seq (Jqca p) (.seq (Jqcb p) .ret))))
@[simp] def Jqcq (p : Nums) : List IOp := [qo 4 (.alloc [(zi 0), (zi 0)]), qo 5 (.asg (.c (.d (.bool false))))]
def Jqcf (p : Nums) : IC := (.region (Jqcq p) [])
@[simp] theorem Jecf {p : Nums} : EqI (Jqcf p) (.region (Jqcq p) []) := eqi
@[simp] def Jqcs (p : Nums) : List IOp := [qo 9 (.mov (.t 0)), qo 10 (.len (.t 9)), qo 11 (.mov (ci 0))]
def Jqci (p : Nums) : IC := (.region (Jqcs p) [])
@[simp] theorem Jeci {p : Nums} : EqI (Jqci p) (.region (Jqcs p) []) := eqi
@[simp] def Jqct (p : Nums) : List IOp := [qo 13 (.iaddr 2 (.t 9) (.t 11)), qo 14 (.load (some 2) (.t 13)), qo 8 (.alloc [(zi 0), (zi 0)]), qn (.store 2 (.t 8) (.t 14))]
def Jqcj (p : Nums) : IC := (.region (Jqct p) [])
@[simp] theorem Jecj {p : Nums} : EqI (Jqcj p) (.region (Jqct p) []) := eqi
@[simp] def Jqcu (p : Nums) : List IOp := [qp 15 (.mov (.t 6)), qp 16 (.mov (.t 1)), qp 17 (.len (.t 16)), qo 18 (.bin .lss (.t 15) (.t 17)), qo 19 (.mov (.t 18)), ⟨(some 20), (.mov (.t 1)), (some (19, true)), true⟩, ⟨(some 21), (.mov (.t 6)), (some (19, true)), true⟩, ⟨(some 22), (.iaddr 2 (.t 20) (.t 21)), (some (19, true)), true⟩, ⟨(some 23), (.load (some 2) (.t 22)), (some (19, true)), true⟩, ⟨(some 24), (.load (some 2) (.t 8)), (some (19, true)), true⟩, ⟨(some 25), (.call p.pairset_Less [(.t 23), (.t 24)]), (some (19, true)), false⟩, qo 26 (.pick (.t 19) (.t 25) (.c (.d (.bool false))))]
def Jqck (p : Nums) : IC := (.region (Jqcu p) [])
@[simp] theorem Jeck {p : Nums} : EqI (Jqck p) (.region (Jqcu p) []) := eqi
@[simp] def Jqcv (p : Nums) : List IOp := [qo 27 (.mov (.t 6)), qo 28 (.bin .add (.t 27) (ci 1)), qo 6 (.asg (.t 28))]
def Jqcl (p : Nums) : IC := (.region (Jqcv p) [])
@[simp] theorem Jecl {p : Nums} : EqI (Jqcl p) (.region (Jqcv p) []) := eqi
def Jqcm (p : Nums) : IC := (.seq (.seq (Jqck p) (.cond (.t 26) .skip (.exit 2))) (.block 3 (Jqcl p)))
@[simp] theorem Jecm {p : Nums} : EqI (Jqcm p) (.seq (.seq (Jqck p) (.cond (.t 26) .skip (.exit 2))) (.block 3 (Jqcl p))) := eqi
@[simp] def Jqcw (p : Nums) : List IOp := [qp 29 (.mov (.t 6)), qp 30 (.mov (.t 1)), qp 31 (.len (.t 30)), qo 32 (.bin .eql (.t 29) (.t 31)), qo 33 (.mov (.t 32)), ⟨(some 34), (.mov (.t 1)), (some (33, false)), true⟩, ⟨(some 35), (.mov (.t 6)), (some (33, false)), true⟩, ⟨(some 36), (.iaddr 2 (.t 34) (.t 35)), (some (33, false)), true⟩, ⟨(some 37), (.load (some 2) (.t 36)), (some (33, false)), true⟩, ⟨(some 38), (.load (some 2) (.t 8)), (some (33, false)), true⟩, ⟨(some 39), (.eqs true [.int, .int] (.t 37) (.t 38)), (some (33, false)), false⟩, qo 40 (.pick (.t 33) (.c (.d (.bool true))) (.t 39))]
def Jqcn (p : Nums) : IC := (.region (Jqcw p) [])
@[simp] theorem Jecn {p : Nums} : EqI (Jqcn p) (.region (Jqcw p) []) := eqi
@[simp] def Jqcx (p : Nums) : List IOp := [qo 41 (.load (some 2) (.t 8)), qn (.store 2 (.t 4) (.t 41)), qo 5 (.asg (.c (.d (.bool true))))]
def Jqco (p : Nums) : IC := (.region (Jqcx p) [])
@[simp] theorem Jeco {p : Nums} : EqI (Jqco p) (.region (Jqcx p) []) := eqi
def Jqcp (p : Nums) : IC := (.seq (Jqcj p) (.seq (.block 2 (.loop (Jqcm p))) (.seq (Jqcn p) (.cond (.t 40) (.seq (Jqco p) .ret) .skip))))
@[simp] theorem Jecp {p : Nums} : EqI (Jqcp p) (.seq (Jqcj p) (.seq (.block 2 (.loop (Jqcm p))) (.seq (Jqcn p) (.cond (.t 40) (.seq (Jqco p) .ret) .skip)))) := eqi
def Jqcg (p : Nums) : IC := (.seq (.region [⟨(some 12), (.bin .lss (.t 11) (.t 10)), none, false⟩] []) (.seq (.cond (.t 12) .skip (.exit 0)) (.seq (.block 1 (Jqcp p)) (.region [⟨(some 42), (.bin .add (.t 11) (.c (.d (.int .i64 1)))), none, false⟩, ⟨(some 11), (.mov (.t 42)), none, false⟩] []))))
@[simp] theorem Jecg {p : Nums} : EqI (Jqcg p) (.seq (.region [⟨(some 12), (.bin .lss (.t 11) (.t 10)), none, false⟩] []) (.seq (.cond (.t 12) .skip (.exit 0)) (.seq (.block 1 (Jqcp p)) (.region [⟨(some 42), (.bin .add (.t 11) (.c (.d (.int .i64 1)))), none, false⟩, ⟨(some 11), (.mov (.t 42)), none, false⟩] [])))) := eqi
@[simp] def Jqcr (p : Nums) : List IOp := [qo 43 (.build [(zi 0), (zi 0)] []), qn (.store 2 (.t 4) (.t 43)), qo 5 (.asg (.c (.d (.bool false))))]
def Jqch (p : Nums) : IC := (.region (Jqcr p) [])
@[simp] theorem Jech {p : Nums} : EqI (Jqch p) (.region (Jqcr p) []) := eqi
def Jtbm (p : Nums) : IC := (.seq (Jqcf p) (.seq (.region [⟨(some 6), (.asg (.c (.d (.int .i64 0)))), none, false⟩] []) (.seq (.seq (Jqci p) (.block 0 (.loop (Jqcg p)))) (.seq (Jqch p) .ret))))
@[simp] def Jqij (p : Nums) : List IOp := [qo 6 (.mov (.t 0)), qo 7 (.len (.t 6)), qo 8 (.mov (.t 1)), qo 9 (.len (.t 8)), qo 10 (.bin .neq (.t 7) (.t 9))]
def Jqib (p : Nums) : IC := (.region (Jqij p) [])
@[simp] theorem Jeib {p : Nums} : EqI (Jqib p) (.region (Jqij p) []) := eqi
def Jqic (p : Nums) : IC := (.seq (.region [⟨(some 4), (.asg (.c (.d (.bool false)))), none, false⟩] []) .ret)
@[simp] theorem Jeic {p : Nums} : EqI (Jqic p) (.seq (.region [⟨(some 4), (.asg (.c (.d (.bool false)))), none, false⟩] []) .ret) := eqi
@[simp] def Jqik (p : Nums) : List IOp := [qo 11 (.mov (.t 5)), qo 12 (.mov (.t 0)), qo 13 (.len (.t 12)), qo 14 (.bin .lss (.t 11) (.t 13))]
def Jqid (p : Nums) : IC := (.region (Jqik p) [])
@[simp] theorem Jeid {p : Nums} : EqI (Jqid p) (.region (Jqik p) []) := eqi
@[simp] def Jqil (p : Nums) : List IOp := [qp 17 (.mov (.t 0)), qp 18 (.mov (.t 5)), qp 19 (.iaddr 2 (.t 17) (.t 18)), qp 20 (.load (some 2) (.t 19)), qp 21 (.mov (.t 1)), qp 22 (.mov (.t 5)), qp 23 (.iaddr 2 (.t 21) (.t 22)), qp 24 (.load (some 2) (.t 23)), qo 25 (.eqs true [.int, .int] (.t 20) (.t 24))]
def Jqie (p : Nums) : IC := (.region (Jqil p) [])
@[simp] theorem Jeie {p : Nums} : EqI (Jqie p) (.region (Jqil p) []) := eqi
def Jqif (p : Nums) : IC := (.seq (.region [⟨(some 4), (.asg (.c (.d (.bool false)))), none, false⟩] []) .ret)
@[simp] theorem Jeif {p : Nums} : EqI (Jqif p) (.seq (.region [⟨(some 4), (.asg (.c (.d (.bool false)))), none, false⟩] []) .ret) := eqi
def Jqig (p : Nums) : IC := (.seq (Jqie p) (.cond (.t 25) (Jqif p) .skip))
@[simp] theorem Jeig {p : Nums} : EqI (Jqig p) (.seq (Jqie p) (.cond (.t 25) (Jqif p) .skip)) := eqi
@[simp] def Jqim (p : Nums) : List IOp := [qo 15 (.mov (.t 5)), qo 16 (.bin .add (.t 15) (ci 1)), qo 5 (.asg (.t 16))]
def Jqih (p : Nums) : IC := (.region (Jqim p) [])
@[simp] theorem Jeih {p : Nums} : EqI (Jqih p) (.region (Jqim p) []) := eqi
def Jqii (p : Nums) : IC := (.seq (.seq (Jqid p) (.cond (.t 14) .skip (.exit 0))) (.seq (.block 1 (Jqig p)) (Jqih p)))
@[simp] theorem Jeii {p : Nums} : EqI (Jqii p) (.seq (.seq (Jqid p) (.cond (.t 14) .skip (.exit 0))) (.seq (.block 1 (Jqig p)) (Jqih p))) := eqi
def Jtc1 (p : Nums) : IC := (.seq (.region [⟨(some 4), (.asg (.c (.d (.bool false)))), none, false⟩] []) (.seq (.seq (Jqib p) (.cond (.t 10) (Jqic p) .skip)) (.seq (.seq (.region [⟨(some 5), (.asg (.c (.d (.int .i64 0)))), none, false⟩] []) (.block 0 (.loop (Jqii p)))) (.seq (.region [⟨(some 4), (.asg (.c (.d (.bool true)))), none, false⟩] []) .ret))))
@[simp] def Jqpa (p : Nums) : List IOp := [qo 8 (.faddr 0 (.t 3)), qo 9 (.load none (.t 8)), qo 10 (.call p.opcode_Of [(.t 9)]), qo 7 (.mov (.t 10)), qo 11 (.ext (.t 7) 0), qo 12 (.ext (.t 7) 1), qo 4 (.alloc [(.d (.bool false)), (.d (.bool false)), (.d (.bool false)), (.d (.bool false))]), qn (.store 4 (.t 4) (.t 11)), qo 5 (.asg (.t 12))]
def Jqp1 (p : Nums) : IC := (.region (Jqpa p) [])
@[simp] theorem Jep1 {p : Nums} : EqI (Jqp1 p) (.region (Jqpa p) []) := eqi
@[simp] def Jqpb (p : Nums) : List IOp := [qo 15 (.mov (.t 0)), qo 16 (.faddr 2 (.t 3)), qo 17 (.load none (.t 16)), qo 18 (.call p.spillall_load [(ci 0), (.t 17)]), qo 19 (.bslice 7 1 [(.int .i64 0), (.int .i64 0), (.int .i64 0), (.int .i64 0), (.int .i64 0), (.int .i64 0), (.int .i64 0)] [(0, (.t 18))]), qo 20 (.call p.spillall_builder_add [(.t 15), (.t 19)])]
def Jqp2 (p : Nums) : IC := (.region (Jqpb p) [])
@[simp] theorem Jep2 {p : Nums} : EqI (Jqp2 p) (.region (Jqpb p) []) := eqi
@[simp] def Jqpc (p : Nums) : List IOp := [qo 21 (.faddr 0 (.t 3)), qo 22 (.load none (.t 21)), qo 23 (.bin .neq (.t 22) (ci 2))]
def Jqp3 (p : Nums) : IC := (.region (Jqpc p) [])
@[simp] theorem Jep3 {p : Nums} : EqI (Jqp3 p) (.region (Jqpc p) []) := eqi
@[simp] def Jqpd (p : Nums) : List IOp := [qo 24 (.faddr 0 (.t 3)), qo 25 (.load none (.t 24)), qo 26 (.faddr 4 (.t 3)), qo 27 (.load none (.t 26)), qo 28 (.build [(zi 0), (zi 0), (zi 0), (zi 0), (zi 0), (zi 0), (zi 0)] [(0, 1, (.t 25)), (4, 1, (.t 27))]), qo 6 (.alloc [(zi 0), (zi 0), (zi 0), (zi 0), (zi 0), (zi 0), (zi 0)]), qn (.store 7 (.t 6) (.t 28))]
def Jqp4 (p : Nums) : IC := (.region (Jqpd p) [])
@[simp] theorem Jep4 {p : Nums} : EqI (Jqp4 p) (.region (Jqpd p) []) := eqi
@[simp] def Jqpe (p : Nums) : List IOp := [qo 31 (.mov (.t 0)), qo 32 (.faddr 3 (.t 3)), qo 33 (.load none (.t 32)), qo 34 (.call p.spillall_load [(ci 1), (.t 33)]), qo 35 (.bslice 7 1 [(.int .i64 0), (.int .i64 0), (.int .i64 0), (.int .i64 0), (.int .i64 0), (.int .i64 0), (.int .i64 0)] [(0, (.t 34))]), qo 36 (.call p.spillall_builder_add [(.t 31), (.t 35)])]
def Jqp5 (p : Nums) : IC := (.region (Jqpe p) [])
@[simp] theorem Jep5 {p : Nums} : EqI (Jqp5 p) (.region (Jqpe p) []) := eqi
def Jqp6 (p : Nums) : IC := (.seq (Jqp5 p) (.region [⟨(some 37), (.faddr 3 (.t 6)), none, false⟩, ⟨none, (.store 1 (.t 37) (.c (.d (.int .i64 1)))), none, false⟩] []))
@[simp] theorem Jep6 {p : Nums} : EqI (Jqp6 p) (.seq (Jqp5 p) (.region [⟨(some 37), (.faddr 3 (.t 6)), none, false⟩, ⟨none, (.store 1 (.t 37) (.c (.d (.int .i64 1)))), none, false⟩] [])) := eqi
@[simp] def Jqpf (p : Nums) : List IOp := [qo 38 (.mov (.t 0)), qo 39 (.load (some 7) (.t 6)), qo 40 (.bslice 7 1 [(.int .i64 0), (.int .i64 0), (.int .i64 0), (.int .i64 0), (.int .i64 0), (.int .i64 0), (.int .i64 0)] [(0, (.t 39))]), qo 41 (.call p.spillall_builder_add [(.t 38), (.t 40)])]
def Jqp7 (p : Nums) : IC := (.region (Jqpf p) [])
@[simp] theorem Jep7 {p : Nums} : EqI (Jqp7 p) (.region (Jqpf p) []) := eqi
def Jqp8 (p : Nums) : IC := (.seq (Jqp4 p) (.seq (.seq (.region [⟨(some 29), (.faddr 2 (.t 4)), none, false⟩, ⟨(some 30), (.load none (.t 29)), none, false⟩] []) (.cond (.t 30) (Jqp6 p) .skip)) (Jqp7 p)))
@[simp] theorem Jep8 {p : Nums} : EqI (Jqp8 p) (.seq (Jqp4 p) (.seq (.seq (.region [⟨(some 29), (.faddr 2 (.t 4)), none, false⟩, ⟨(some 30), (.load none (.t 29)), none, false⟩] []) (.cond (.t 30) (Jqp6 p) .skip)) (Jqp7 p))) := eqi
@[simp] def Jqpg (p : Nums) : List IOp := [qo 44 (.mov (.t 0)), qo 45 (.faddr 1 (.t 3)), qo 46 (.load none (.t 45)), qo 47 (.call p.spillall_store [(.t 46)]), qo 48 (.bslice 7 1 [(.int .i64 0), (.int .i64 0), (.int .i64 0), (.int .i64 0), (.int .i64 0), (.int .i64 0), (.int .i64 0)] [(0, (.t 47))]), qo 49 (.call p.spillall_builder_add [(.t 44), (.t 48)])]
def Jqp9 (p : Nums) : IC := (.region (Jqpg p) [])
@[simp] theorem Jep9 {p : Nums} : EqI (Jqp9 p) (.region (Jqpg p) []) := eqi
def Jtcj (p : Nums) : IC := (.seq (.region [⟨(some 3), (.box (.t 1)), none, false⟩] []) (.seq (Jqp1 p) (.seq (.seq (.region [⟨(some 13), (.faddr 1 (.t 4)), none, false⟩, ⟨(some 14), (.load none (.t 13)), none, false⟩] []) (.cond (.t 14) (Jqp2 p) .skip)) (.seq (.seq (Jqp3 p) (.cond (.t 23) (Jqp8 p) .skip)) (.seq (.region [⟨(some 42), (.faddr 0 (.t 4)), none, false⟩, ⟨(some 43), (.load none (.t 42)), none, false⟩] []) (.cond (.t 43) (Jqp9 p) .skip))))))
@[simp] def Jqp0 (p : Nums) : List IOp := [qo 4 (.mov (.t 0)), qo 5 (.mov (.t 0)), qo 6 (.nilck (.t 5)), qo 7 (.faddr 0 (.t 6)), qo 8 (.load none (.t 7)), qo 9 (.mov (.t 1)), qo 10 (.app 7 56 (.t 8) (.t 9)), qo 11 (.nilck (.t 4)), qo 12 (.faddr 0 (.t 11)), qn (.store 1 (.t 12) (.t 10))]
def Jqoz (p : Nums) : IC := (.region (Jqp0 p) [])
@[simp] theorem Jeoz {p : Nums} : EqI (Jqoz p) (.region (Jqp0 p) []) := eqi
def Jtci (p : Nums) : IC := (Jqoz p)
@[simp] def Jqpp (p : Nums) : List IOp := [qo 4 (.alloc [(zi 0), (zi 0), (zi 0), (zi 0), (zi 0), (zi 0), (zi 0)])]
def Jqpn (p : Nums) : IC := (.region (Jqpp p) [])
@[simp] theorem Jepn {p : Nums} : EqI (Jqpn p) (.region (Jqpp p) []) := eqi
@[simp] def Jqpq (p : Nums) : List IOp := [qo 5 (.mov (.t 0)), qo 6 (.call p.location_Reg [(.t 5)]), qo 7 (.mov (.t 1)), qo 8 (.call p.location_Slot [(.t 7)]), qo 9 (.build [(zi 0), (zi 0), (zi 0), (zi 0), (zi 0), (zi 0), (zi 0)] [(0, 1, (ci 18)), (5, 1, (.t 6)), (6, 1, (.t 8))]), qn (.store 7 (.t 4) (.t 9))]
def Jqpo (p : Nums) : IC := (.region (Jqpq p) [])
@[simp] theorem Jepo {p : Nums} : EqI (Jqpo p) (.region (Jqpq p) []) := eqi
def Jtcl (p : Nums) : IC := (.seq (Jqpn p) (.seq (Jqpo p) .ret))
@[simp] def Jqhn (p : Nums) : List IOp := [qo 5 (.mov (.t 0)), qo 6 (.bin .geq (.t 5) (ci 0)), qo 7 (.mov (.t 6)), ⟨(some 8), (.mov (.t 0)), (some (7, true)), false⟩, ⟨(some 9), (.mov (.t 1)), (some (7, true)), false⟩, ⟨(some 10), (.bin .lss (.t 8) (.t 9)), (some (7, true)), false⟩, qo 11 (.pick (.t 7) (.t 10) (.c (.d (.bool false)))), qo 4 (.asg (.t 11))]
def Jqhm (p : Nums) : IC := (.region (Jqhn p) [])
@[simp] theorem Jehm {p : Nums} : EqI (Jqhm p) (.region (Jqhn p) []) := eqi
def Jtbz (p : Nums) : IC := (.seq (.region [⟨(some 4), (.asg (.c (.d (.bool false)))), none, false⟩] []) (.seq (Jqhm p) .ret))
@[simp] def Jq88 (p : Nums) : List IOp := [qo 3 (.mov (.t 0)), qo 4 (.bin .mul (ci 2) (.t 3)), qo 5 (.bin .add (.t 4) (ci 1)), qo 2 (.asg (.t 5))]
def Jq87 (p : Nums) : IC := (.region (Jq88 p) [])
@[simp] theorem Je87 {p : Nums} : EqI (Jq87 p) (.region (Jq88 p) []) := eqi
def Jtaz (p : Nums) : IC := (.seq (.region [⟨(some 2), (.asg (.c (.d (.int .i64 0)))), none, false⟩] []) (.seq (Jq87 p) .ret))
@[simp] def Jqla (p : Nums) : List IOp := [qo 9 (.faddr 0 (.t 2)), qo 10 (.load none (.t 9)), qo 11 (.call p.opcode_Of [(.t 10)]), qo 8 (.mov (.t 11)), qo 12 (.ext (.t 8) 0), qo 13 (.ext (.t 8) 1), qo 5 (.alloc [(.d (.bool false)), (.d (.bool false)), (.d (.bool false)), (.d (.bool false))]), qn (.store 4 (.t 5) (.t 12)), qo 6 (.asg (.t 13))]
def Jqkz (p : Nums) : IC := (.region (Jqla p) [])
@[simp] theorem Jekz {p : Nums} : EqI (Jqkz p) (.region (Jqla p) []) := eqi
@[simp] def Jqlb (p : Nums) : List IOp := [qo 14 (.faddr 1 (.t 2)), qo 15 (.load none (.t 14)), qo 16 (.faddr 0 (.t 5)), qo 17 (.load none (.t 16)), qo 18 (.mov (.t 1)), qo 19 (.build [(zi 0), (.d (.bool false)), (zi 0)] [(0, 1, (.t 15)), (1, 1, (.t 17)), (2, 1, (.t 18))]), qo 20 (.faddr 2 (.t 2)), qo 21 (.load none (.t 20)), qo 22 (.faddr 1 (.t 5)), qo 23 (.load none (.t 22)), qo 24 (.mov (.t 1)), qo 25 (.build [(zi 0), (.d (.bool false)), (zi 0)] [(0, 1, (.t 21)), (1, 1, (.t 23)), (2, 1, (.t 24))]), qo 26 (.faddr 3 (.t 2)), qo 27 (.load none (.t 26)), qo 28 (.faddr 2 (.t 5)), qo 29 (.load none (.t 28)), qo 30 (.mov (.t 1)), qo 31 (.build [(zi 0), (.d (.bool false)), (zi 0)] [(0, 1, (.t 27)), (1, 1, (.t 29)), (2, 1, (.t 30))]), qo 32 (.bslice 3 3 [(.int .i64 0), (.bool false), (.int .i64 0)] [(0, (.t 19)), (1, (.t 25)), (2, (.t 31))]), qo 7 (.asg (.t 32))]
def Jql2 (p : Nums) : IC := (.region (Jqlb p) [])
@[simp] theorem Jel2 {p : Nums} : EqI (Jql2 p) (.region (Jqlb p) []) := eqi
@[simp] def Jqlc (p : Nums) : List IOp := [qo 34 (.faddr 0 (.t 2)), qo 35 (.load none (.t 34)), qo 36 (.call p.opcode_Source [(.t 35)]), qo 37 (.un .not (.t 36)), qo 33 (.asg (.t 37))]
def Jql3 (p : Nums) : IC := (.region (Jqlc p) [])
@[simp] theorem Jel3 {p : Nums} : EqI (Jql3 p) (.region (Jqlc p) []) := eqi
@[simp] def Jqld (p : Nums) : List IOp := [qo 39 (.mov (.t 7)), qo 40 (.call p.source_within [(.t 39)]), qo 41 (.un .not (.t 40)), qo 38 (.asg (.t 41))]
def Jql4 (p : Nums) : IC := (.region (Jqld p) [])
@[simp] theorem Jel4 {p : Nums} : EqI (Jql4 p) (.region (Jqld p) []) := eqi
@[simp] def Jqle (p : Nums) : List IOp := [qo 43 (.mov (.t 7)), qo 44 (.call p.source_blank [(.t 43)]), qo 45 (.un .not (.t 44)), qo 46 (.mov (.t 45)), ⟨(some 47), (.faddr 3 (.t 5)), (some (46, false)), false⟩, ⟨(some 48), (.load none (.t 47)), (some (46, false)), false⟩, ⟨(some 49), (.un .not (.t 48)), (some (46, false)), false⟩, ⟨(some 50), (.mov (.t 49)), (some (46, false)), false⟩, ⟨(some 51), (.faddr 4 (.t 2)), (some (50, true)), false⟩, ⟨(some 52), (.load none (.t 51)), (some (50, true)), false⟩, ⟨(some 53), (.bin .neq (.t 52) (ci 0)), (some (50, true)), false⟩, ⟨(some 54), (.pick (.t 50) (.t 53) (.c (.d (.bool false)))), (some (46, false)), false⟩, qo 55 (.pick (.t 46) (.c (.d (.bool true))) (.t 54)), qo 42 (.asg (.t 55))]
def Jql5 (p : Nums) : IC := (.region (Jqle p) [])
@[simp] theorem Jel5 {p : Nums} : EqI (Jql5 p) (.region (Jqle p) []) := eqi
def Jql6 (p : Nums) : IC := (.seq (.region [⟨(some 4), (.asg (.c (.d (.int .i64 12)))), none, false⟩] []) .ret)
@[simp] theorem Jel6 {p : Nums} : EqI (Jql6 p) (.seq (.region [⟨(some 4), (.asg (.c (.d (.int .i64 12)))), none, false⟩] []) .ret) := eqi
def Jql7 (p : Nums) : IC := (.seq (.region [⟨(some 4), (.asg (.c (.d (.int .i64 9)))), none, false⟩] []) .ret)
@[simp] theorem Jel7 {p : Nums} : EqI (Jql7 p) (.seq (.region [⟨(some 4), (.asg (.c (.d (.int .i64 9)))), none, false⟩] []) .ret) := eqi
def Jql8 (p : Nums) : IC := (.seq (Jql5 p) (.cond (.t 42) (Jql6 p) .skip))
@[simp] theorem Jel8 {p : Nums} : EqI (Jql8 p) (.seq (Jql5 p) (.cond (.t 42) (Jql6 p) .skip)) := eqi
def Jql9 (p : Nums) : IC := (.seq (.region [⟨(some 4), (.asg (.c (.d (.int .i64 8)))), none, false⟩] []) .ret)
@[simp] theorem Jel9 {p : Nums} : EqI (Jql9 p) (.seq (.region [⟨(some 4), (.asg (.c (.d (.int .i64 8)))), none, false⟩] []) .ret) := eqi
def Jql0 (p : Nums) : IC := (.seq (Jql4 p) (.cond (.t 38) (Jql7 p) (Jql8 p)))
@[simp] theorem Jel0 {p : Nums} : EqI (Jql0 p) (.seq (Jql4 p) (.cond (.t 38) (Jql7 p) (Jql8 p))) := eqi
def Jql1 (p : Nums) : IC := (.seq (Jql3 p) (.cond (.t 33) (Jql9 p) (Jql0 p)))
@[simp] theorem Jel1 {p : Nums} : EqI (Jql1 p) (.seq (Jql3 p) (.cond (.t 33) (Jql9 p) (Jql0 p))) := eqi
def Jtc9 (p : Nums) : IC := (.seq (.region [⟨(some 2), (.box (.t 0)), none, false⟩, ⟨(some 4), (.asg (.c (.d (.int .i64 0)))), none, false⟩] []) (.seq (Jqkz p) (.seq (Jql2 p) (.seq (.block 0 (Jql1 p)) (.seq (.region [⟨(some 4), (.asg (.c (.d (.int .i64 0)))), none, false⟩] []) .ret)))))
@[simp] def Jqm0 (p : Nums) : List IOp := [qo 10 (.faddr 1 (.t 3)), qo 11 (.load none (.t 10)), qo 12 (.faddr 0 (.t 3)), qo 13 (.load none (.t 12)), qo 14 (.bin .neq (.t 13) (ci 1)), qo 15 (.mov (.t 1)), qo 16 (.build [(zi 0), (.d (.bool false)), (zi 0)] [(0, 1, (.t 11)), (1, 1, (.t 14)), (2, 1, (.t 15))]), qo 7 (.alloc [(zi 0), (.d (.bool false)), (zi 0)]), qn (.store 3 (.t 7) (.t 16))]
def Jqll (p : Nums) : IC := (.region (Jqm0 p) [])
@[simp] theorem Jell {p : Nums} : EqI (Jqll p) (.region (Jqm0 p) []) := eqi
@[simp] def Jqm1 (p : Nums) : List IOp := [qo 17 (.faddr 2 (.t 3)), qo 18 (.load none (.t 17)), qo 19 (.faddr 0 (.t 3)), qo 20 (.load none (.t 19)), qo 21 (.bin .neq (.t 20) (ci 3)), qo 22 (.mov (.t 2)), qo 23 (.build [(zi 0), (.d (.bool false)), (zi 0)] [(0, 1, (.t 18)), (1, 1, (.t 21)), (2, 1, (.t 22))]), qo 8 (.alloc [(zi 0), (.d (.bool false)), (zi 0)]), qn (.store 3 (.t 8) (.t 23))]
def Jqls (p : Nums) : IC := (.region (Jqm1 p) [])
@[simp] theorem Jels {p : Nums} : EqI (Jqls p) (.region (Jqm1 p) []) := eqi
@[simp] def Jqm2 (p : Nums) : List IOp := [qo 24 (.faddr 3 (.t 3)), qo 25 (.load none (.t 24)), qo 26 (.faddr 0 (.t 3)), qo 27 (.load none (.t 26)), qo 28 (.bin .eql (.t 27) (ci 2)), qo 29 (.mov (.t 2)), qo 30 (.build [(zi 0), (.d (.bool false)), (zi 0)] [(0, 1, (.t 25)), (1, 1, (.t 28)), (2, 1, (.t 29))]), qo 9 (.alloc [(zi 0), (.d (.bool false)), (zi 0)]), qn (.store 3 (.t 9) (.t 30))]
def Jqlt (p : Nums) : IC := (.region (Jqm2 p) [])
@[simp] theorem Jelt {p : Nums} : EqI (Jqlt p) (.region (Jqm2 p) []) := eqi
@[simp] def Jqm3 (p : Nums) : List IOp := [qo 32 (.faddr 0 (.t 3)), qo 33 (.load none (.t 32)), qo 34 (.bin .lss (.t 33) (ci 1)), qo 35 (.mov (.t 34)), ⟨(some 36), (.faddr 0 (.t 3)), (some (35, false)), false⟩, ⟨(some 37), (.load none (.t 36)), (some (35, false)), false⟩, ⟨(some 38), (.bin .gtr (.t 37) (ci 3)), (some (35, false)), false⟩, qo 39 (.pick (.t 35) (.c (.d (.bool true))) (.t 38)), qo 31 (.asg (.t 39))]
def Jqlu (p : Nums) : IC := (.region (Jqm3 p) [])
@[simp] theorem Jelu {p : Nums} : EqI (Jqlu p) (.region (Jqm3 p) []) := eqi
@[simp] def Jqm4 (p : Nums) : List IOp := [qo 41 (.load (some 3) (.t 7)), qo 42 (.bslice 3 1 [(.int .i64 0), (.bool false), (.int .i64 0)] [(0, (.t 41))]), qo 43 (.call p.source_within [(.t 42)]), qo 44 (.un .not (.t 43)), qo 40 (.asg (.t 44))]
def Jqlv (p : Nums) : IC := (.region (Jqm4 p) [])
@[simp] theorem Jelv {p : Nums} : EqI (Jqlv p) (.region (Jqm4 p) []) := eqi
@[simp] def Jqm5 (p : Nums) : List IOp := [qo 46 (.load (some 3) (.t 8)), qo 47 (.load (some 3) (.t 9)), qo 48 (.bslice 3 2 [(.int .i64 0), (.bool false), (.int .i64 0)] [(0, (.t 46)), (1, (.t 47))]), qo 49 (.call p.source_within [(.t 48)]), qo 50 (.un .not (.t 49)), qo 45 (.asg (.t 50))]
def Jqlw (p : Nums) : IC := (.region (Jqm5 p) [])
@[simp] theorem Jelw {p : Nums} : EqI (Jqlw p) (.region (Jqm5 p) []) := eqi
@[simp] def Jqm6 (p : Nums) : List IOp := [qo 52 (.load (some 3) (.t 7)), qo 53 (.load (some 3) (.t 8)), qo 54 (.load (some 3) (.t 9)), qo 55 (.bslice 3 3 [(.int .i64 0), (.bool false), (.int .i64 0)] [(0, (.t 52)), (1, (.t 53)), (2, (.t 54))]), qo 56 (.call p.source_blank [(.t 55)]), qo 57 (.un .not (.t 56)), qo 51 (.asg (.t 57))]
def Jqlx (p : Nums) : IC := (.region (Jqm6 p) [])
@[simp] theorem Jelx {p : Nums} : EqI (Jqlx p) (.region (Jqm6 p) []) := eqi
def Jqly (p : Nums) : IC := (.seq (.region [⟨(some 6), (.asg (.c (.d (.int .i64 12)))), none, false⟩] []) .ret)
@[simp] theorem Jely {p : Nums} : EqI (Jqly p) (.seq (.region [⟨(some 6), (.asg (.c (.d (.int .i64 12)))), none, false⟩] []) .ret) := eqi
def Jqlz (p : Nums) : IC := (.seq (.region [⟨(some 6), (.asg (.c (.d (.int .i64 11)))), none, false⟩] []) .ret)
@[simp] theorem Jelz {p : Nums} : EqI (Jqlz p) (.seq (.region [⟨(some 6), (.asg (.c (.d (.int .i64 11)))), none, false⟩] []) .ret) := eqi
def Jqlm (p : Nums) : IC := (.seq (Jqlx p) (.cond (.t 51) (Jqly p) .skip))
@[simp] theorem Jelm {p : Nums} : EqI (Jqlm p) (.seq (Jqlx p) (.cond (.t 51) (Jqly p) .skip)) := eqi
def Jqln (p : Nums) : IC := (.seq (.region [⟨(some 6), (.asg (.c (.d (.int .i64 9)))), none, false⟩] []) .ret)
@[simp] theorem Jeln {p : Nums} : EqI (Jqln p) (.seq (.region [⟨(some 6), (.asg (.c (.d (.int .i64 9)))), none, false⟩] []) .ret) := eqi
def Jqlo (p : Nums) : IC := (.seq (Jqlw p) (.cond (.t 45) (Jqlz p) (Jqlm p)))
@[simp] theorem Jelo {p : Nums} : EqI (Jqlo p) (.seq (Jqlw p) (.cond (.t 45) (Jqlz p) (Jqlm p))) := eqi
def Jqlp (p : Nums) : IC := (.seq (.region [⟨(some 6), (.asg (.c (.d (.int .i64 16)))), none, false⟩] []) .ret)
@[simp] theorem Jelp {p : Nums} : EqI (Jqlp p) (.seq (.region [⟨(some 6), (.asg (.c (.d (.int .i64 16)))), none, false⟩] []) .ret) := eqi
def Jqlq (p : Nums) : IC := (.seq (Jqlv p) (.cond (.t 40) (Jqln p) (Jqlo p)))
@[simp] theorem Jelq {p : Nums} : EqI (Jqlq p) (.seq (Jqlv p) (.cond (.t 40) (Jqln p) (Jqlo p))) := eqi
def Jqlr (p : Nums) : IC := (.seq (Jqlu p) (.cond (.t 31) (Jqlp p) (Jqlq p)))
@[simp] theorem Jelr {p : Nums} : EqI (Jqlr p) (.seq (Jqlu p) (.cond (.t 31) (Jqlp p) (Jqlq p))) := eqi
def Jtcb (p : Nums) : IC := (.seq (.region [⟨(some 3), (.box (.t 0)), none, false⟩, ⟨(some 6), (.asg (.c (.d (.int .i64 0)))), none, false⟩] []) (.seq (Jqll p) (.seq (Jqls p) (.seq (Jqlt p) (.seq (.block 0 (Jqlr p)) (.seq (.region [⟨(some 6), (.asg (.c (.d (.int .i64 0)))), none, false⟩] []) .ret))))))
@[simp] def Jq9i (p : Nums) : List IOp := [qo 9 (.faddr 0 (.t 3)), qo 10 (.load none (.t 9)), qo 11 (.call p.opcode_Machine [(.t 10)]), qo 12 (.un .not (.t 11))]
def Jq99 (p : Nums) : IC := (.region (Jq9i p) [])
@[simp] theorem Je99 {p : Nums} : EqI (Jq99 p) (.region (Jq9i p) []) := eqi
def Jq9a (p : Nums) : IC := (.seq (.region [⟨(some 6), (.asg (.c (.d (.int .i64 8)))), none, false⟩] []) .ret)
@[simp] theorem Je9a {p : Nums} : EqI (Jq9a p) (.seq (.region [⟨(some 6), (.asg (.c (.d (.int .i64 8)))), none, false⟩] []) .ret) := eqi
@[simp] def Jq9j (p : Nums) : List IOp := [qo 13 (.call p.machine_others []), qo 7 (.alloc [.nilfn, .nilfn]), qn (.store 2 (.t 7) (.t 13))]
def Jq9b (p : Nums) : IC := (.region (Jq9j p) [])
@[simp] theorem Je9b {p : Nums} : EqI (Jq9b p) (.region (Jq9j p) []) := eqi
@[simp] def Jq9k (p : Nums) : List IOp := [qo 14 (.faddr 0 (.t 3)), qo 15 (.load none (.t 14)), qo 16 (.bin .eql (.t 15) (ci 18))]
def Jq9c (p : Nums) : IC := (.region (Jq9k p) [])
@[simp] theorem Je9c {p : Nums} : EqI (Jq9c p) (.region (Jq9k p) []) := eqi
@[simp] def Jq9l (p : Nums) : List IOp := [qo 17 (.call p.machine_moves []), qn (.store 2 (.t 7) (.t 17))]
def Jq9d (p : Nums) : IC := (.region (Jq9l p) [])
@[simp] theorem Je9d {p : Nums} : EqI (Jq9d p) (.region (Jq9l p) []) := eqi
@[simp] def Jq9m (p : Nums) : List IOp := [qo 18 (.faddr 0 (.t 7)), qo 19 (.load none (.t 18)), qo 20 (.load (some 7) (.t 3)), qo 21 (.mov (.t 1)), qo 22 (.mov (.t 2)), qo 23 (.callv (.t 19) [(.t 20), (.t 21), (.t 22)]), qo 8 (.asg (.t 23))]
def Jq9e (p : Nums) : IC := (.region (Jq9m p) [])
@[simp] theorem Je9e {p : Nums} : EqI (Jq9e p) (.region (Jq9m p) []) := eqi
def Jq9f (p : Nums) : IC := (.seq (.region [⟨(some 26), (.mov (.t 8)), none, false⟩, ⟨(some 6), (.asg (.t 26)), none, false⟩] []) .ret)
@[simp] theorem Je9f {p : Nums} : EqI (Jq9f p) (.seq (.region [⟨(some 26), (.mov (.t 8)), none, false⟩, ⟨(some 6), (.asg (.t 26)), none, false⟩] []) .ret) := eqi
@[simp] def Jq9n (p : Nums) : List IOp := [qo 27 (.faddr 1 (.t 7)), qo 28 (.load none (.t 27)), qo 29 (.load (some 7) (.t 3)), qo 30 (.callv (.t 28) [(.t 29)]), qo 31 (.un .not (.t 30))]
def Jq9g (p : Nums) : IC := (.region (Jq9n p) [])
@[simp] theorem Je9g {p : Nums} : EqI (Jq9g p) (.region (Jq9n p) []) := eqi
def Jq9h (p : Nums) : IC := (.seq (.region [⟨(some 6), (.asg (.c (.d (.int .i64 12)))), none, false⟩] []) .ret)
@[simp] theorem Je9h {p : Nums} : EqI (Jq9h p) (.seq (.region [⟨(some 6), (.asg (.c (.d (.int .i64 12)))), none, false⟩] []) .ret) := eqi
def Jtb2 (p : Nums) : IC := (.seq (.region [⟨(some 3), (.box (.t 0)), none, false⟩, ⟨(some 6), (.asg (.c (.d (.int .i64 0)))), none, false⟩] []) (.seq (.seq (Jq99 p) (.cond (.t 12) (Jq9a p) .skip)) (.seq (Jq9b p) (.seq (.seq (Jq9c p) (.cond (.t 16) (Jq9d p) .skip)) (.seq (.seq (Jq9e p) (.seq (.region [⟨(some 24), (.mov (.t 8)), none, false⟩, ⟨(some 25), (.bin .neq (.t 24) (.c (.d (.int .i64 0)))), none, false⟩] []) (.cond (.t 25) (Jq9f p) .skip))) (.seq (.seq (Jq9g p) (.cond (.t 31) (Jq9h p) .skip)) (.seq (.region [⟨(some 6), (.asg (.c (.d (.int .i64 0)))), none, false⟩] []) .ret)))))))
@[simp] def Jq7z (p : Nums) : List IOp := [qo 9 (.mov (.t 0)), qo 10 (.bin .geq (.t 9) (ci 0)), qo 11 (.mov (.t 10)), ⟨(some 12), (.mov (.t 0)), (some (11, true)), false⟩, ⟨(some 13), (.call p.location_Index [(.t 12)]), (some (11, true)), false⟩, ⟨(some 14), (.mov (.t 2)), (some (11, true)), false⟩, ⟨(some 15), (.bin .lss (.t 13) (.t 14)), (some (11, true)), false⟩, qo 16 (.pick (.t 11) (.t 15) (.c (.d (.bool false)))), qo 6 (.asg (.t 16))]
def Jq7x (p : Nums) : IC := (.region (Jq7z p) [])
@[simp] theorem Je7x {p : Nums} : EqI (Jq7x p) (.region (Jq7z p) []) := eqi
@[simp] def Jq80 (p : Nums) : List IOp := [qo 17 (.mov (.t 0)), qo 18 (.bin .geq (.t 17) (ci 0)), qo 19 (.mov (.t 18)), ⟨(some 20), (.mov (.t 0)), (some (19, true)), false⟩, ⟨(some 21), (.call p.location_Index [(.t 20)]), (some (19, true)), false⟩, ⟨(some 22), (.mov (.t 1)), (some (19, true)), false⟩, ⟨(some 23), (.bin .lss (.t 21) (.t 22)), (some (19, true)), false⟩, qo 24 (.pick (.t 19) (.t 23) (.c (.d (.bool false)))), qo 6 (.asg (.t 24))]
def Jq7y (p : Nums) : IC := (.region (Jq80 p) [])
@[simp] theorem Je7y {p : Nums} : EqI (Jq7y p) (.region (Jq80 p) []) := eqi
def Jtav (p : Nums) : IC := (.seq (.region [⟨(some 6), (.asg (.c (.d (.bool false)))), none, false⟩] []) (.seq (.seq (.region [⟨(some 7), (.mov (.t 0)), none, false⟩, ⟨(some 8), (.call p.location_IsSlot [(.t 7)]), none, false⟩] []) (.cond (.t 8) (.seq (Jq7x p) .ret) .skip)) (.seq (Jq7y p) .ret)))
@[simp] def Jqc7 (p : Nums) : List IOp := [qo 2 (.box (.t 0)), qo 3 (.box (.t 1)), qo 4 (.asg (.c (.d (.bool false))))]
def Jqc5 (p : Nums) : IC := (.region (Jqc7 p) [])
@[simp] theorem Jec5 {p : Nums} : EqI (Jqc5 p) (.region (Jqc7 p) []) := eqi
@[simp] def Jqc8 (p : Nums) : List IOp := [qo 5 (.faddr 0 (.t 2)), qo 6 (.load none (.t 5)), qo 7 (.faddr 0 (.t 3)), qo 8 (.load none (.t 7)), qo 9 (.bin .lss (.t 6) (.t 8)), qo 10 (.mov (.t 9)), ⟨(some 11), (.faddr 0 (.t 2)), (some (10, false)), false⟩, ⟨(some 12), (.load none (.t 11)), (some (10, false)), false⟩, ⟨(some 13), (.faddr 0 (.t 3)), (some (10, false)), false⟩, ⟨(some 14), (.load none (.t 13)), (some (10, false)), false⟩, ⟨(some 15), (.bin .eql (.t 12) (.t 14)), (some (10, false)), false⟩, ⟨(some 16), (.mov (.t 15)), (some (10, false)), false⟩, ⟨(some 17), (.faddr 1 (.t 2)), (some (16, true)), false⟩, ⟨(some 18), (.load none (.t 17)), (some (16, true)), false⟩, ⟨(some 19), (.faddr 1 (.t 3)), (some (16, true)), false⟩, ⟨(some 20), (.load none (.t 19)), (some (16, true)), false⟩, ⟨(some 21), (.bin .lss (.t 18) (.t 20)), (some (16, true)), false⟩, ⟨(some 22), (.pick (.t 16) (.t 21) (.c (.d (.bool false)))), (some (10, false)), false⟩, qo 23 (.pick (.t 10) (.c (.d (.bool true))) (.t 22)), qo 4 (.asg (.t 23))]
def Jqc6 (p : Nums) : IC := (.region (Jqc8 p) [])
@[simp] theorem Jec6 {p : Nums} : EqI (Jqc6 p) (.region (Jqc8 p) []) := eqi
def Jtbk (p : Nums) : IC := (.seq (Jqc5 p) (.seq (Jqc6 p) .ret))
@[simp] def Jq63 (p : Nums) : List IOp := [qo 5 (.faddr 0 (.t 2)), qo 6 (.load none (.t 5)), qo 7 (.mov (.t 1)), qo 8 (.bin .lss (.t 6) (.t 7))]
def Jq60 (p : Nums) : IC := (.region (Jq63 p) [])
@[simp] theorem Je60 {p : Nums} : EqI (Jq60 p) (.region (Jq63 p) []) := eqi
@[simp] def Jq64 (p : Nums) : List IOp := [qp 9 (.faddr 1 (.t 2)), qp 10 (.load none (.t 9)), qp 11 (.faddr 0 (.t 2)), qp 12 (.load none (.t 11)), qp 13 (.call p.location_Slot [(.t 12)]), qo 14 (.bin .eql (.t 10) (.t 13)), qo 4 (.asg (.t 14))]
def Jq61 (p : Nums) : IC := (.region (Jq64 p) [])
@[simp] theorem Je61 {p : Nums} : EqI (Jq61 p) (.region (Jq64 p) []) := eqi
@[simp] def Jq65 (p : Nums) : List IOp := [qo 15 (.faddr 1 (.t 2)), qo 16 (.load none (.t 15)), qo 17 (.call p.location_IsSlot [(.t 16)]), qo 18 (.un .not (.t 17)), qo 19 (.mov (.t 18)), ⟨(some 20), (.faddr 1 (.t 2)), (some (19, false)), false⟩, ⟨(some 21), (.load none (.t 20)), (some (19, false)), false⟩, ⟨(some 22), (.call p.location_Index [(.t 21)]), (some (19, false)), false⟩, ⟨(some 23), (.mov (.t 1)), (some (19, false)), false⟩, ⟨(some 24), (.bin .geq (.t 22) (.t 23)), (some (19, false)), false⟩, qo 25 (.pick (.t 19) (.c (.d (.bool true))) (.t 24)), qo 4 (.asg (.t 25))]
def Jq62 (p : Nums) : IC := (.region (Jq65 p) [])
@[simp] theorem Je62 {p : Nums} : EqI (Jq62 p) (.region (Jq65 p) []) := eqi
def Jtap (p : Nums) : IC := (.seq (.region [⟨(some 2), (.box (.t 0)), none, false⟩, ⟨(some 4), (.asg (.c (.d (.bool false)))), none, false⟩] []) (.seq (.seq (Jq60 p) (.cond (.t 8) (.seq (Jq61 p) .ret) .skip)) (.seq (Jq62 p) .ret)))
@[simp] def Jq12 (p : Nums) : List IOp := [qo 7 (.mov (.t 1)), qo 8 (.mov (.t 0)), qo 9 (.len (.t 8)), qo 10 (.bin .lss (.t 7) (.t 9)), qo 11 (.mov (.t 10)), ⟨(some 12), (.mov (.t 2)), (some (11, true)), false⟩, ⟨(some 13), (.mov (.t 0)), (some (11, true)), false⟩, ⟨(some 14), (.mov (.t 1)), (some (11, true)), false⟩, ⟨(some 15), (.iaddr 5 (.t 13) (.t 14)), (some (11, true)), false⟩, ⟨(some 16), (.load (some 5) (.t 15)), (some (11, true)), false⟩, ⟨(some 17), (.callv (.t 12) [(.t 16)]), (some (11, true)), false⟩, qo 18 (.pick (.t 11) (.t 17) (.c (.d (.bool false))))]
def Jqz (p : Nums) : IC := (.region (Jq12 p) [])
@[simp] theorem Jez {p : Nums} : EqI (Jqz p) (.region (Jq12 p) []) := eqi
@[simp] def Jq13 (p : Nums) : List IOp := [qo 19 (.mov (.t 1)), qo 20 (.bin .add (.t 19) (ci 1)), qo 1 (.asg (.t 20))]
def Jq10 (p : Nums) : IC := (.region (Jq13 p) [])
@[simp] theorem Je10 {p : Nums} : EqI (Jq10 p) (.region (Jq13 p) []) := eqi
def Jq11 (p : Nums) : IC := (.seq (.seq (Jqz p) (.cond (.t 18) .skip (.exit 0))) (.block 1 (Jq10 p)))
@[simp] theorem Je11 {p : Nums} : EqI (Jq11 p) (.seq (.seq (Jqz p) (.cond (.t 18) .skip (.exit 0))) (.block 1 (Jq10 p))) := eqi
def Jta9 (p : Nums) : IC := (.seq (.region [⟨(some 6), (.asg (.c (.d (.int .i64 0)))), none, false⟩] []) (.seq (.block 0 (.loop (Jq11 p))) (.seq (.region [⟨(some 21), (.mov (.t 1)), none, false⟩, ⟨(some 6), (.asg (.t 21)), none, false⟩] []) .ret)))
@[simp] def Jqw (p : Nums) : List IOp := [qo 3 (.faddr 0 (.t 1)), qo 4 (.load none (.t 3)), qo 5 (.bin .eql (.t 4) (ci 2)), qo 2 (.asg (.t 5))]
def Jqv (p : Nums) : IC := (.region (Jqw p) [])
@[simp] theorem Jev {p : Nums} : EqI (Jqv p) (.region (Jqw p) []) := eqi
def Jta7 (p : Nums) : IC := (.seq (.region [⟨(some 1), (.box (.t 0)), none, false⟩, ⟨(some 2), (.asg (.c (.d (.bool false)))), none, false⟩] []) (.seq (Jqv p) .ret))
@[simp] def Jq17 (p : Nums) : List IOp := [qo 7 (.mov (.t 1)), qo 8 (.mov (.t 0)), qo 9 (.len (.t 8)), qo 10 (.bin .lss (.t 7) (.t 9)), qo 11 (.mov (.t 10)), ⟨(some 12), (.mov (.t 2)), (some (11, true)), false⟩, ⟨(some 13), (.mov (.t 0)), (some (11, true)), false⟩, ⟨(some 14), (.mov (.t 1)), (some (11, true)), false⟩, ⟨(some 15), (.iaddr 7 (.t 13) (.t 14)), (some (11, true)), false⟩, ⟨(some 16), (.load (some 7) (.t 15)), (some (11, true)), false⟩, ⟨(some 17), (.callv (.t 12) [(.t 16)]), (some (11, true)), false⟩, qo 18 (.pick (.t 11) (.t 17) (.c (.d (.bool false))))]
def Jq14 (p : Nums) : IC := (.region (Jq17 p) [])
@[simp] theorem Je14 {p : Nums} : EqI (Jq14 p) (.region (Jq17 p) []) := eqi
@[simp] def Jq18 (p : Nums) : List IOp := [qo 19 (.mov (.t 1)), qo 20 (.bin .add (.t 19) (ci 1)), qo 1 (.asg (.t 20))]
def Jq15 (p : Nums) : IC := (.region (Jq18 p) [])
@[simp] theorem Je15 {p : Nums} : EqI (Jq15 p) (.region (Jq18 p) []) := eqi
def Jq16 (p : Nums) : IC := (.seq (.seq (Jq14 p) (.cond (.t 18) .skip (.exit 0))) (.block 1 (Jq15 p)))
@[simp] theorem Je16 {p : Nums} : EqI (Jq16 p) (.seq (.seq (Jq14 p) (.cond (.t 18) .skip (.exit 0))) (.block 1 (Jq15 p))) := eqi
def Jtaa (p : Nums) : IC := (.seq (.region [⟨(some 6), (.asg (.c (.d (.int .i64 0)))), none, false⟩] []) (.seq (.block 0 (.loop (Jq16 p))) (.seq (.region [⟨(some 21), (.mov (.t 1)), none, false⟩, ⟨(some 6), (.asg (.t 21)), none, false⟩] []) .ret)))
@[simp] def Jqy (p : Nums) : List IOp := [qo 3 (.faddr 0 (.t 1)), qo 4 (.load none (.t 3)), qo 5 (.bin .eql (.t 4) (ci 18)), qo 2 (.asg (.t 5))]
def Jqx (p : Nums) : IC := (.region (Jqy p) [])
@[simp] theorem Jex {p : Nums} : EqI (Jqx p) (.region (Jqy p) []) := eqi
def Jta8 (p : Nums) : IC := (.seq (.region [⟨(some 1), (.box (.t 0)), none, false⟩, ⟨(some 2), (.asg (.c (.d (.bool false)))), none, false⟩] []) (.seq (Jqx p) .ret))
@[simp] def Jqp (p : Nums) : List IOp := [qo 2 (.box (.t 0)), qo 3 (.box (.t 1)), qo 4 (.asg (.c (.d (.bool false))))]
def Jqn (p : Nums) : IC := (.region (Jqp p) [])
@[simp] theorem Jen {p : Nums} : EqI (Jqn p) (.region (Jqp p) []) := eqi
@[simp] def Jqq (p : Nums) : List IOp := [qo 5 (.faddr 0 (.t 2)), qo 6 (.load none (.t 5)), qo 7 (.faddr 0 (.t 3)), qo 8 (.load none (.t 7)), qo 9 (.bin .eql (.t 6) (.t 8)), qo 10 (.mov (.t 9)), ⟨(some 11), (.faddr 4 (.t 2)), (some (10, true)), false⟩, ⟨(some 12), (.load none (.t 11)), (some (10, true)), false⟩, ⟨(some 13), (.faddr 4 (.t 3)), (some (10, true)), false⟩, ⟨(some 14), (.load none (.t 13)), (some (10, true)), false⟩, ⟨(some 15), (.bin .eql (.t 12) (.t 14)), (some (10, true)), false⟩, qo 16 (.pick (.t 10) (.t 15) (.c (.d (.bool false)))), qo 17 (.mov (.t 16)), ⟨(some 18), (.faddr 0 (.t 2)), (some (17, true)), false⟩, ⟨(some 19), (.load none (.t 18)), (some (17, true)), false⟩, ⟨(some 20), (.bin .neq (.t 19) (ci 2)), (some (17, true)), false⟩, qo 21 (.pick (.t 17) (.t 20) (.c (.d (.bool false)))), qo 22 (.mov (.t 21)), ⟨(some 23), (.faddr 0 (.t 2)), (some (22, true)), false⟩, ⟨(some 24), (.load none (.t 23)), (some (22, true)), false⟩, ⟨(some 25), (.bin .neq (.t 24) (ci 18)), (some (22, true)), false⟩, qo 26 (.pick (.t 22) (.t 25) (.c (.d (.bool false)))), qo 4 (.asg (.t 26))]
def Jqo (p : Nums) : IC := (.region (Jqq p) [])
@[simp] theorem Jeo {p : Nums} : EqI (Jqo p) (.region (Jqq p) []) := eqi
def Jta5 (p : Nums) : IC := (.seq (Jqn p) (.seq (Jqo p) .ret))
def Jqj6 (p : Nums) : IC := (.seq (.region [⟨(some 2), (.asg (.c .nils)), none, false⟩] []) .ret)
@[simp] theorem Jej6 {p : Nums} : EqI (Jqj6 p) (.seq (.region [⟨(some 2), (.asg (.c .nils)), none, false⟩] []) .ret) := eqi
@[simp] def Jqj8 (p : Nums) : List IOp := [qo 5 (.bslice 2 0 [(.int .i64 0), (.int .i64 0)] []), qo 6 (.mov (.t 0)), qo 7 (.app 2 16 (.t 5) (.t 6)), qo 2 (.asg (.t 7))]
def Jqj7 (p : Nums) : IC := (.region (Jqj8 p) [])
@[simp] theorem Jej7 {p : Nums} : EqI (Jqj7 p) (.region (Jqj8 p) []) := eqi
def Jtc5 (p : Nums) : IC := (.seq (.region [⟨(some 2), (.asg (.c .nils)), none, false⟩] []) (.seq (.seq (.region [⟨(some 3), (.mov (.t 0)), none, false⟩, ⟨(some 4), (.isnil false (.t 3)), none, false⟩] []) (.cond (.t 4) (Jqj6 p) .skip)) (.seq (Jqj7 p) .ret)))
@[simp] def Jqjr (p : Nums) : List IOp := [qo 6 (.mov (.t 0)), qo 7 (.len (.t 6)), qo 8 (.bin .lss (.t 7) (ci 2))]
def Jqj9 (p : Nums) : IC := (.region (Jqjr p) [])
@[simp] theorem Jej9 {p : Nums} : EqI (Jqj9 p) (.region (Jqjr p) []) := eqi
def Jqjj (p : Nums) : IC := (.seq (.region [⟨(some 9), (.mov (.t 0)), none, false⟩, ⟨(some 2), (.asg (.t 9)), none, false⟩] []) .ret)
@[simp] theorem Jejj {p : Nums} : EqI (Jqjj p) (.seq (.region [⟨(some 9), (.mov (.t 0)), none, false⟩, ⟨(some 2), (.asg (.t 9)), none, false⟩] []) .ret) := eqi
@[simp] def Jqjw (p : Nums) : List IOp := [qo 10 (.mov (.t 3)), qo 11 (.mov (.t 0)), qo 12 (.len (.t 11)), qo 13 (.bin .lss (.t 10) (.t 12))]
def Jqjk (p : Nums) : IC := (.region (Jqjw p) [])
@[simp] theorem Jejk {p : Nums} : EqI (Jqjk p) (.region (Jqjw p) []) := eqi
@[simp] def Jqjx (p : Nums) : List IOp := [qp 16 (.mov (.t 0)), qp 17 (.mov (.t 3)), qp 18 (.iaddr 2 (.t 16) (.t 17)), qp 19 (.load (some 2) (.t 18)), qp 20 (.mov (.t 0)), qp 21 (.mov (.t 3)), qp 22 (.bin .sub (.t 21) (ci 1)), qp 23 (.iaddr 2 (.t 20) (.t 22)), qp 24 (.load (some 2) (.t 23)), qo 25 (.eqs false [.int, .int] (.t 19) (.t 24))]
def Jqjl (p : Nums) : IC := (.region (Jqjx p) [])
@[simp] theorem Jejl {p : Nums} : EqI (Jqjl p) (.region (Jqjx p) []) := eqi
@[simp] def Jqjy (p : Nums) : List IOp := [qo 26 (.mov (.t 0)), qo 27 (.mov (.t 3)), qo 28 (.slc 2 (.t 26) (some (.t 27)) none), qo 4 (.asg (.t 28))]
def Jqjm (p : Nums) : IC := (.region (Jqjy p) [])
@[simp] theorem Jejm {p : Nums} : EqI (Jqjm p) (.region (Jqjy p) []) := eqi
@[simp] def Jqjz (p : Nums) : List IOp := [qo 29 (.mov (.t 5)), qo 30 (.mov (.t 4)), qo 31 (.len (.t 30)), qo 32 (.bin .lss (.t 29) (.t 31))]
def Jqjn (p : Nums) : IC := (.region (Jqjz p) [])
@[simp] theorem Jejn {p : Nums} : EqI (Jqjn p) (.region (Jqjz p) []) := eqi
@[simp] def Jqk0 (p : Nums) : List IOp := [qp 35 (.mov (.t 4)), qp 36 (.mov (.t 5)), qp 37 (.iaddr 2 (.t 35) (.t 36)), qp 38 (.load (some 2) (.t 37)), qp 39 (.mov (.t 4)), qp 40 (.mov (.t 5)), qp 41 (.bin .sub (.t 40) (ci 1)), qp 42 (.iaddr 2 (.t 39) (.t 41)), qp 43 (.load (some 2) (.t 42)), qo 44 (.eqs true [.int, .int] (.t 38) (.t 43))]
def Jqjo (p : Nums) : IC := (.region (Jqk0 p) [])
@[simp] theorem Jejo {p : Nums} : EqI (Jqjo p) (.region (Jqk0 p) []) := eqi
@[simp] def Jqk1 (p : Nums) : List IOp := [qo 45 (.mov (.t 0)), qo 46 (.mov (.t 3)), qo 47 (.mov (.t 4)), qo 48 (.mov (.t 5)), qo 49 (.iaddr 2 (.t 47) (.t 48)), qo 50 (.load (some 2) (.t 49)), qo 51 (.iaddr 2 (.t 45) (.t 46)), qn (.store 2 (.t 51) (.t 50))]
def Jqjp (p : Nums) : IC := (.region (Jqk1 p) [])
@[simp] theorem Jejp {p : Nums} : EqI (Jqjp p) (.region (Jqk1 p) []) := eqi
@[simp] def Jqk2 (p : Nums) : List IOp := [qo 52 (.mov (.t 3)), qo 53 (.bin .add (.t 52) (ci 1)), qo 3 (.asg (.t 53))]
def Jqjq (p : Nums) : IC := (.region (Jqk2 p) [])
@[simp] theorem Jejq {p : Nums} : EqI (Jqjq p) (.region (Jqk2 p) []) := eqi
def Jqja (p : Nums) : IC := (.seq (Jqjo p) (.cond (.t 44) (.seq (Jqjp p) (Jqjq p)) .skip))
@[simp] theorem Jeja {p : Nums} : EqI (Jqja p) (.seq (Jqjo p) (.cond (.t 44) (.seq (Jqjp p) (Jqjq p)) .skip)) := eqi
@[simp] def Jqjs (p : Nums) : List IOp := [qo 33 (.mov (.t 5)), qo 34 (.bin .add (.t 33) (ci 1)), qo 5 (.asg (.t 34))]
def Jqjb (p : Nums) : IC := (.region (Jqjs p) [])
@[simp] theorem Jejb {p : Nums} : EqI (Jqjb p) (.region (Jqjs p) []) := eqi
def Jqjc (p : Nums) : IC := (.seq (.seq (Jqjn p) (.cond (.t 32) .skip (.exit 2))) (.seq (.block 3 (Jqja p)) (Jqjb p)))
@[simp] theorem Jejc {p : Nums} : EqI (Jqjc p) (.seq (.seq (Jqjn p) (.cond (.t 32) .skip (.exit 2))) (.seq (.block 3 (Jqja p)) (Jqjb p))) := eqi
@[simp] def Jqjt (p : Nums) : List IOp := [qo 54 (.mov (.t 0)), qo 55 (.mov (.t 3)), qo 56 (.slc 2 (.t 54) (some (.t 55)) none), qn (.clr 2 [(.int .i64 0), (.int .i64 0)] (.t 56))]
def Jqjd (p : Nums) : IC := (.region (Jqjt p) [])
@[simp] theorem Jejd {p : Nums} : EqI (Jqjd p) (.region (Jqjt p) []) := eqi
@[simp] def Jqju (p : Nums) : List IOp := [qo 57 (.mov (.t 0)), qo 58 (.mov (.t 3)), qo 59 (.slc 2 (.t 57) none (some (.t 58))), qo 2 (.asg (.t 59))]
def Jqje (p : Nums) : IC := (.region (Jqju p) [])
@[simp] theorem Jeje {p : Nums} : EqI (Jqje p) (.region (Jqju p) []) := eqi
def Jqjf (p : Nums) : IC := (.seq (Jqjm p) (.seq (.seq (.region [⟨(some 5), (.asg (.c (.d (.int .i64 1)))), none, false⟩] []) (.block 2 (.loop (Jqjc p)))) (.seq (Jqjd p) (.seq (Jqje p) .ret))))
@[simp] theorem Jejf {p : Nums} : EqI (Jqjf p) (.seq (Jqjm p) (.seq (.seq (.region [⟨(some 5), (.asg (.c (.d (.int .i64 1)))), none, false⟩] []) (.block 2 (.loop (Jqjc p)))) (.seq (Jqjd p) (.seq (Jqje p) .ret)))) := eqi
def Jqjg (p : Nums) : IC := (.seq (Jqjl p) (.cond (.t 25) (Jqjf p) .skip))
@[simp] theorem Jejg {p : Nums} : EqI (Jqjg p) (.seq (Jqjl p) (.cond (.t 25) (Jqjf p) .skip)) := eqi
@[simp] def Jqjv (p : Nums) : List IOp := [qo 14 (.mov (.t 3)), qo 15 (.bin .add (.t 14) (ci 1)), qo 3 (.asg (.t 15))]
def Jqjh (p : Nums) : IC := (.region (Jqjv p) [])
@[simp] theorem Jejh {p : Nums} : EqI (Jqjh p) (.region (Jqjv p) []) := eqi
def Jqji (p : Nums) : IC := (.seq (.seq (Jqjk p) (.cond (.t 13) .skip (.exit 0))) (.seq (.block 1 (Jqjg p)) (Jqjh p)))
@[simp] theorem Jeji {p : Nums} : EqI (Jqji p) (.seq (.seq (Jqjk p) (.cond (.t 13) .skip (.exit 0))) (.seq (.block 1 (Jqjg p)) (Jqjh p))) := eqi
def Jtc6 (p : Nums) : IC := (.seq (.region [⟨(some 2), (.asg (.c .nils)), none, false⟩] []) (.seq (.seq (Jqj9 p) (.cond (.t 8) (Jqjj p) .skip)) (.seq (.seq (.region [⟨(some 3), (.asg (.c (.d (.int .i64 1)))), none, false⟩] []) (.block 0 (.loop (Jqji p)))) (.seq (.region [⟨(some 60), (.mov (.t 0)), none, false⟩, ⟨(some 2), (.asg (.t 60)), none, false⟩] []) .ret))))
@[simp] def Jq2p (p : Nums) : List IOp := [qo 11 (.faddr 0 (.t 5)), qo 12 (.load none (.t 11)), qo 13 (.faddr 0 (.t 7)), qo 14 (.load none (.t 13)), qo 15 (.faddr 1 (.t 7)), qo 16 (.load none (.t 15)), qo 17 (.slc 5 (.t 12) (some (.t 14)) (some (.t 16))), qo 18 (.len (.t 17)), qo 19 (.mov (ci 0))]
def Jq2c (p : Nums) : IC := (.region (Jq2p p) [])
@[simp] theorem Je2c {p : Nums} : EqI (Jq2c p) (.region (Jq2p p) []) := eqi
@[simp] def Jq2t (p : Nums) : List IOp := [qo 21 (.iaddr 5 (.t 17) (.t 19)), qo 22 (.load (some 5) (.t 21)), qo 9 (.alloc [(zi 0), (zi 0), (zi 0), (zi 0), (zi 0)]), qn (.store 5 (.t 9) (.t 22))]
def Jq2h (p : Nums) : IC := (.region (Jq2t p) [])
@[simp] theorem Je2h {p : Nums} : EqI (Jq2h p) (.region (Jq2t p) []) := eqi
@[simp] def Jq2u (p : Nums) : List IOp := [qp 25 (.mov (.t 0)), qp 26 (.mov (.t 0)), qp 27 (.nilck (.t 26)), qp 28 (.faddr 0 (.t 27)), qp 29 (.load none (.t 28)), qp 30 (.faddr 1 (.t 9)), qp 31 (.load none (.t 30)), qp 32 (.faddr 2 (.t 9)), qp 33 (.load none (.t 32)), qp 34 (.call p.transfer_Copy [(.t 29), (.t 31), (.t 33)]), qp 35 (.faddr 2 (.t 7)), qp 36 (.load none (.t 35)), qo 37 (.call p.blockcheck_checker_become [(.t 25), (.t 34), (.t 36)])]
def Jq2i (p : Nums) : IC := (.region (Jq2u p) [])
@[simp] theorem Je2i {p : Nums} : EqI (Jq2i p) (.region (Jq2u p) []) := eqi
def Jq2j (p : Nums) : IC := (.seq (Jq2h p) (.seq (.region [⟨(some 23), (.mov (.t 0)), none, false⟩, ⟨(some 24), (.call p.blockcheck_checker_cost [(.t 23)]), none, false⟩] []) (Jq2i p)))
@[simp] theorem Je2j {p : Nums} : EqI (Jq2j p) (.seq (Jq2h p) (.seq (.region [⟨(some 23), (.mov (.t 0)), none, false⟩, ⟨(some 24), (.call p.blockcheck_checker_cost [(.t 23)]), none, false⟩] []) (Jq2i p))) := eqi
def Jq2k (p : Nums) : IC := (.seq (.region [⟨(some 20), (.bin .lss (.t 19) (.t 18)), none, false⟩] []) (.seq (.cond (.t 20) .skip (.exit 0)) (.seq (.block 1 (Jq2j p)) (.region [⟨(some 38), (.bin .add (.t 19) (.c (.d (.int .i64 1)))), none, false⟩, ⟨(some 19), (.mov (.t 38)), none, false⟩] []))))
@[simp] theorem Je2k {p : Nums} : EqI (Jq2k p) (.seq (.region [⟨(some 20), (.bin .lss (.t 19) (.t 18)), none, false⟩] []) (.seq (.cond (.t 20) .skip (.exit 0)) (.seq (.block 1 (Jq2j p)) (.region [⟨(some 38), (.bin .add (.t 19) (.c (.d (.int .i64 1)))), none, false⟩, ⟨(some 19), (.mov (.t 38)), none, false⟩] [])))) := eqi
@[simp] def Jq2v (p : Nums) : List IOp := [qo 39 (.faddr 2 (.t 7)), qo 40 (.load none (.t 39)), qo 10 (.asg (.t 40))]
def Jq2l (p : Nums) : IC := (.region (Jq2v p) [])
@[simp] theorem Je2l {p : Nums} : EqI (Jq2l p) (.region (Jq2v p) []) := eqi
@[simp] def Jq2w (p : Nums) : List IOp := [qo 41 (.mov (.t 10)), qo 42 (.faddr 3 (.t 7)), qo 43 (.load none (.t 42)), qo 44 (.bin .lss (.t 41) (.t 43))]
def Jq2m (p : Nums) : IC := (.region (Jq2w p) [])
@[simp] theorem Je2m {p : Nums} : EqI (Jq2m p) (.region (Jq2w p) []) := eqi
@[simp] def Jq2x (p : Nums) : List IOp := [qp 49 (.mov (.t 0)), qp 50 (.mov (.t 0)), qp 51 (.nilck (.t 50)), qp 52 (.faddr 0 (.t 51)), qp 53 (.load none (.t 52)), qp 54 (.faddr 0 (.t 6)), qp 55 (.load none (.t 54)), qp 56 (.mov (.t 10)), qp 57 (.iaddr 7 (.t 55) (.t 56)), qp 58 (.faddr 5 (.t 57)), qp 59 (.load none (.t 58)), qp 60 (.faddr 0 (.t 6)), qp 61 (.load none (.t 60)), qp 62 (.mov (.t 10)), qp 63 (.iaddr 7 (.t 61) (.t 62)), qp 64 (.faddr 6 (.t 63)), qp 65 (.load none (.t 64)), qp 66 (.call p.transfer_Move [(.t 53), (.t 59), (.t 65)]), qp 67 (.mov (.t 10)), qo 68 (.call p.blockcheck_checker_become [(.t 49), (.t 66), (.t 67)])]
def Jq2n (p : Nums) : IC := (.region (Jq2x p) [])
@[simp] theorem Je2n {p : Nums} : EqI (Jq2n p) (.region (Jq2x p) []) := eqi
def Jq2o (p : Nums) : IC := (.seq (.region [⟨(some 47), (.mov (.t 0)), none, false⟩, ⟨(some 48), (.call p.blockcheck_checker_cost [(.t 47)]), none, false⟩] []) (Jq2n p))
@[simp] theorem Je2o {p : Nums} : EqI (Jq2o p) (.seq (.region [⟨(some 47), (.mov (.t 0)), none, false⟩, ⟨(some 48), (.call p.blockcheck_checker_cost [(.t 47)]), none, false⟩] []) (Jq2n p)) := eqi
@[simp] def Jq2q (p : Nums) : List IOp := [qo 45 (.mov (.t 10)), qo 46 (.bin .add (.t 45) (ci 1)), qo 10 (.asg (.t 46))]
def Jq2d (p : Nums) : IC := (.region (Jq2q p) [])
@[simp] theorem Je2d {p : Nums} : EqI (Jq2d p) (.region (Jq2q p) []) := eqi
def Jq2e (p : Nums) : IC := (.seq (.seq (Jq2m p) (.cond (.t 44) .skip (.exit 2))) (.seq (.block 3 (Jq2o p)) (Jq2d p)))
@[simp] theorem Je2e {p : Nums} : EqI (Jq2e p) (.seq (.seq (Jq2m p) (.cond (.t 44) .skip (.exit 2))) (.seq (.block 3 (Jq2o p)) (Jq2d p))) := eqi
@[simp] def Jq2r (p : Nums) : List IOp := [qo 69 (.faddr 4 (.t 7)), qo 70 (.load none (.t 69)), qo 71 (.bin .geq (.t 70) (ci 0))]
def Jq2f (p : Nums) : IC := (.region (Jq2r p) [])
@[simp] theorem Je2f {p : Nums} : EqI (Jq2f p) (.region (Jq2r p) []) := eqi
@[simp] def Jq2s (p : Nums) : List IOp := [qp 72 (.mov (.t 0)), qp 73 (.faddr 0 (.t 5)), qp 74 (.load none (.t 73)), qp 75 (.faddr 4 (.t 7)), qp 76 (.load none (.t 75)), qp 77 (.iaddr 5 (.t 74) (.t 76)), qp 78 (.load (some 5) (.t 77)), qp 79 (.faddr 0 (.t 6)), qp 80 (.load none (.t 79)), qp 81 (.faddr 5 (.t 7)), qp 82 (.load none (.t 81)), qp 83 (.iaddr 7 (.t 80) (.t 82)), qp 84 (.load (some 7) (.t 83)), qp 85 (.faddr 5 (.t 7)), qp 86 (.load none (.t 85)), qo 87 (.call p.blockcheck_checker_instr [(.t 72), (.t 78), (.t 84), (.t 86)])]
def Jq2g (p : Nums) : IC := (.region (Jq2s p) [])
@[simp] theorem Je2g {p : Nums} : EqI (Jq2g p) (.region (Jq2s p) []) := eqi
def Jtaf (p : Nums) : IC := (.seq (.region [⟨(some 5), (.box (.t 1)), none, false⟩, ⟨(some 6), (.box (.t 2)), none, false⟩, ⟨(some 7), (.box (.t 3)), none, false⟩] []) (.seq (.seq (Jq2c p) (.block 0 (.loop (Jq2k p)))) (.seq (.seq (Jq2l p) (.block 2 (.loop (Jq2e p)))) (.seq (Jq2f p) (.cond (.t 71) (Jq2g p) .skip)))))
@[simp] def Jq3n (p : Nums) : List IOp := [qp 10 (.mov (.t 0)), qp 11 (.nilck (.t 10)), qp 12 (.faddr 0 (.t 11)), qp 13 (.load none (.t 12)), qp 14 (.mov (.t 1)), qp 15 (.mov (.t 2)), qp 16 (.call p.location_Reg [(.t 15)]), qp 17 (.build [(zi 0), (zi 0)] [(0, 1, (.t 14)), (1, 1, (.t 16))]), qo 18 (.call p.pairset_Has [(.t 13), (.t 17)]), qo 19 (.un .not (.t 18))]
def Jq3l (p : Nums) : IC := (.region (Jq3n p) [])
@[simp] theorem Je3l {p : Nums} : EqI (Jq3l p) (.region (Jq3n p) []) := eqi
@[simp] def Jq3o (p : Nums) : List IOp := [qo 20 (.mov (.t 3)), qo 21 (.build [(zi 0), (zi 0)] [(0, 1, (ci 21)), (1, 1, (.t 20))]), qo 22 (.mkif p.ty_bcfail (.t 21)), qn (.pan (.t 22))]
def Jq3m (p : Nums) : IC := (.region (Jq3o p) [])
@[simp] theorem Je3m {p : Nums} : EqI (Jq3m p) (.region (Jq3o p) []) := eqi
def Jtaj (p : Nums) : IC := (.seq (.region [⟨(some 8), (.mov (.t 0)), none, false⟩, ⟨(some 9), (.call p.blockcheck_checker_cost [(.t 8)]), none, false⟩] []) (.seq (Jq3l p) (.cond (.t 19) (Jq3m p) .skip)))
@[simp] def Jqb3 (p : Nums) : List IOp := [qo 2 (.alloc [(.d (.bool false)), (.d (.bool false)), (.d (.bool false)), (.d (.bool false))]), qo 3 (.asg (.c (.d (.bool false))))]
def Jqap (p : Nums) : IC := (.region (Jqb3 p) [])
@[simp] theorem Jeap {p : Nums} : EqI (Jqap p) (.region (Jqb3 p) []) := eqi
@[simp] def Jqb5 (p : Nums) : List IOp := [qo 5 (.mov (.t 0)), qo 6 (.call p.opcode_known [(.t 5)]), qo 7 (.un .not (.t 6)), qo 4 (.asg (.t 7))]
def Jqav (p : Nums) : IC := (.region (Jqb5 p) [])
@[simp] theorem Jeav {p : Nums} : EqI (Jqav p) (.region (Jqb5 p) []) := eqi
@[simp] def Jqb6 (p : Nums) : List IOp := [qo 8 (.build [(.d (.bool false)), (.d (.bool false)), (.d (.bool false)), (.d (.bool false))] []), qn (.store 4 (.t 2) (.t 8)), qo 3 (.asg (.c (.d (.bool false))))]
def Jqaw (p : Nums) : IC := (.region (Jqb6 p) [])
@[simp] theorem Jeaw {p : Nums} : EqI (Jqaw p) (.region (Jqb6 p) []) := eqi
@[simp] def Jqb7 (p : Nums) : List IOp := [qo 10 (.mov (.t 0)), qo 11 (.bin .eql (.t 10) (ci 1)), qo 9 (.asg (.t 11))]
def Jqax (p : Nums) : IC := (.region (Jqb7 p) [])
@[simp] theorem Jeax {p : Nums} : EqI (Jqax p) (.region (Jqb7 p) []) := eqi
@[simp] def Jqb8 (p : Nums) : List IOp := [qo 12 (.build [(.d (.bool false)), (.d (.bool false)), (.d (.bool false)), (.d (.bool false))] [(0, 1, (.c (.d (.bool true)))), (3, 1, (.c (.d (.bool true))))]), qn (.store 4 (.t 2) (.t 12)), qo 3 (.asg (.c (.d (.bool true))))]
def Jqay (p : Nums) : IC := (.region (Jqb8 p) [])
@[simp] theorem Jeay {p : Nums} : EqI (Jqay p) (.region (Jqb8 p) []) := eqi
@[simp] def Jqb9 (p : Nums) : List IOp := [qo 14 (.mov (.t 0)), qo 15 (.bin .leq (.t 14) (ci 4)), qo 13 (.asg (.t 15))]
def Jqaz (p : Nums) : IC := (.region (Jqb9 p) [])
@[simp] theorem Jeaz {p : Nums} : EqI (Jqaz p) (.region (Jqb9 p) []) := eqi
@[simp] def Jqba (p : Nums) : List IOp := [qo 16 (.build [(.d (.bool false)), (.d (.bool false)), (.d (.bool false)), (.d (.bool false))] [(0, 1, (.c (.d (.bool true)))), (1, 1, (.c (.d (.bool true))))]), qn (.store 4 (.t 2) (.t 16)), qo 3 (.asg (.c (.d (.bool true))))]
def Jqb0 (p : Nums) : IC := (.region (Jqba p) [])
@[simp] theorem Jeb0 {p : Nums} : EqI (Jqb0 p) (.region (Jqba p) []) := eqi
@[simp] def Jqbb (p : Nums) : List IOp := [qo 18 (.mov (.t 0)), qo 19 (.bin .leq (.t 18) (ci 16)), qo 17 (.asg (.t 19))]
def Jqb1 (p : Nums) : IC := (.region (Jqbb p) [])
@[simp] theorem Jeb1 {p : Nums} : EqI (Jqb1 p) (.region (Jqbb p) []) := eqi
@[simp] def Jqbc (p : Nums) : List IOp := [qo 20 (.build [(.d (.bool false)), (.d (.bool false)), (.d (.bool false)), (.d (.bool false))] [(0, 1, (.c (.d (.bool true)))), (1, 1, (.c (.d (.bool true)))), (2, 1, (.c (.d (.bool true))))]), qn (.store 4 (.t 2) (.t 20)), qo 3 (.asg (.c (.d (.bool true))))]
def Jqb2 (p : Nums) : IC := (.region (Jqbc p) [])
@[simp] theorem Jeb2 {p : Nums} : EqI (Jqb2 p) (.region (Jqbc p) []) := eqi
def Jqaq (p : Nums) : IC := (.seq (Jqb1 p) (.cond (.t 17) (.seq (Jqb2 p) .ret) .skip))
@[simp] theorem Jeaq {p : Nums} : EqI (Jqaq p) (.seq (Jqb1 p) (.cond (.t 17) (.seq (Jqb2 p) .ret) .skip)) := eqi
def Jqar (p : Nums) : IC := (.seq (Jqaz p) (.cond (.t 13) (.seq (Jqb0 p) .ret) (Jqaq p)))
@[simp] theorem Jear {p : Nums} : EqI (Jqar p) (.seq (Jqaz p) (.cond (.t 13) (.seq (Jqb0 p) .ret) (Jqaq p))) := eqi
def Jqas (p : Nums) : IC := (.seq (Jqax p) (.cond (.t 9) (.seq (Jqay p) .ret) (Jqar p)))
@[simp] theorem Jeas {p : Nums} : EqI (Jqas p) (.seq (Jqax p) (.cond (.t 9) (.seq (Jqay p) .ret) (Jqar p))) := eqi
def Jqat (p : Nums) : IC := (.seq (Jqav p) (.cond (.t 4) (.seq (Jqaw p) .ret) (Jqas p)))
@[simp] theorem Jeat {p : Nums} : EqI (Jqat p) (.seq (Jqav p) (.cond (.t 4) (.seq (Jqaw p) .ret) (Jqas p))) := eqi
@[simp] def Jqb4 (p : Nums) : List IOp := [qo 21 (.mov (.t 0)), qo 22 (.bin .eql (.t 21) (ci 17)), qo 23 (.build [(.d (.bool false)), (.d (.bool false)), (.d (.bool false)), (.d (.bool false))] [(1, 1, (.t 22))]), qn (.store 4 (.t 2) (.t 23)), qo 3 (.asg (.c (.d (.bool true))))]
def Jqau (p : Nums) : IC := (.region (Jqb4 p) [])
@[simp] theorem Jeau {p : Nums} : EqI (Jqau p) (.region (Jqb4 p) []) := eqi
def Jtbb (p : Nums) : IC := (.seq (Jqap p) (.seq (.block 0 (Jqat p)) (.seq (Jqau p) .ret)))
@[simp] def Jqpt (p : Nums) : List IOp := [qo 2 (.alloc [(zi 0), (zi 0), (zi 0), (zi 0), (zi 0), (zi 0), (zi 0)])]
def Jqpr (p : Nums) : IC := (.region (Jqpt p) [])
@[simp] theorem Jepr {p : Nums} : EqI (Jqpr p) (.region (Jqpt p) []) := eqi
@[simp] def Jqpu (p : Nums) : List IOp := [qo 3 (.mov (.t 0)), qo 4 (.call p.location_Slot [(.t 3)]), qo 5 (.call p.location_Reg [(ci 0)]), qo 6 (.build [(zi 0), (zi 0), (zi 0), (zi 0), (zi 0), (zi 0), (zi 0)] [(0, 1, (ci 18)), (5, 1, (.t 4)), (6, 1, (.t 5))]), qn (.store 7 (.t 2) (.t 6))]
def Jqps (p : Nums) : IC := (.region (Jqpu p) [])
@[simp] theorem Jeps {p : Nums} : EqI (Jqps p) (.region (Jqpu p) []) := eqi
def Jtcm (p : Nums) : IC := (.seq (Jqpr p) (.seq (Jqps p) .ret))
@[simp] def Jq86 (p : Nums) : List IOp := [qo 3 (.mov (.t 0)), qo 4 (.bin .mul (ci 2) (.t 3)), qo 2 (.asg (.t 4))]
def Jq85 (p : Nums) : IC := (.region (Jq86 p) [])
@[simp] theorem Je85 {p : Nums} : EqI (Jq85 p) (.region (Jq86 p) []) := eqi
def Jtay (p : Nums) : IC := (.seq (.region [⟨(some 2), (.asg (.c (.d (.int .i64 0)))), none, false⟩] []) (.seq (Jq85 p) .ret))
@[simp] def Jqbe (p : Nums) : List IOp := [qo 3 (.mov (.t 0)), qo 4 (.call p.opcode_known [(.t 3)]), qo 5 (.mov (.t 4)), ⟨(some 6), (.mov (.t 0)), (some (5, true)), false⟩, ⟨(some 7), (.bin .neq (.t 6) (ci 18)), (some (5, true)), false⟩, qo 8 (.pick (.t 5) (.t 7) (.c (.d (.bool false)))), qo 2 (.asg (.t 8))]
def Jqbd (p : Nums) : IC := (.region (Jqbe p) [])
@[simp] theorem Jebd {p : Nums} : EqI (Jqbd p) (.region (Jqbe p) []) := eqi
def Jtbc (p : Nums) : IC := (.seq (.region [⟨(some 2), (.asg (.c (.d (.bool false)))), none, false⟩] []) (.seq (Jqbd p) .ret))
@[simp] def Jqmx (p : Nums) : List IOp := [qo 5 (.mov (.t 0)), qo 6 (.len (.t 5)), qo 7 (.mov (ci 0))]
def Jqmr (p : Nums) : IC := (.region (Jqmx p) [])
@[simp] theorem Jemr {p : Nums} : EqI (Jqmr p) (.region (Jqmx p) []) := eqi
@[simp] def Jqmy (p : Nums) : List IOp := [qo 9 (.iaddr 3 (.t 5) (.t 7)), qo 10 (.load (some 3) (.t 9)), qo 4 (.alloc [(zi 0), (.d (.bool false)), (zi 0)]), qn (.store 3 (.t 4) (.t 10))]
def Jqms (p : Nums) : IC := (.region (Jqmy p) [])
@[simp] theorem Jems {p : Nums} : EqI (Jqms p) (.region (Jqmy p) []) := eqi
@[simp] def Jqmz (p : Nums) : List IOp := [qo 11 (.faddr 1 (.t 4)), qo 12 (.load none (.t 11)), qo 13 (.mov (.t 12)), ⟨(some 14), (.faddr 0 (.t 4)), (some (13, true)), false⟩, ⟨(some 15), (.load none (.t 14)), (some (13, true)), false⟩, ⟨(some 16), (.bin .lss (.t 15) (ci 0)), (some (13, true)), false⟩, ⟨(some 17), (.mov (.t 16)), (some (13, true)), false⟩, ⟨(some 18), (.faddr 0 (.t 4)), (some (17, false)), false⟩, ⟨(some 19), (.load none (.t 18)), (some (17, false)), false⟩, ⟨(some 20), (.faddr 2 (.t 4)), (some (17, false)), false⟩, ⟨(some 21), (.load none (.t 20)), (some (17, false)), false⟩, ⟨(some 22), (.bin .geq (.t 19) (.t 21)), (some (17, false)), false⟩, ⟨(some 23), (.pick (.t 17) (.c (.d (.bool true))) (.t 22)), (some (13, true)), false⟩, qo 24 (.pick (.t 13) (.t 23) (.c (.d (.bool false))))]
def Jqmt (p : Nums) : IC := (.region (Jqmz p) [])
@[simp] theorem Jemt {p : Nums} : EqI (Jqmt p) (.region (Jqmz p) []) := eqi
def Jqmu (p : Nums) : IC := (.seq (.region [⟨(some 2), (.asg (.c (.d (.bool false)))), none, false⟩] []) .ret)
@[simp] theorem Jemu {p : Nums} : EqI (Jqmu p) (.seq (.region [⟨(some 2), (.asg (.c (.d (.bool false)))), none, false⟩] []) .ret) := eqi
def Jqmv (p : Nums) : IC := (.seq (Jqms p) (.seq (Jqmt p) (.cond (.t 24) (Jqmu p) .skip)))
@[simp] theorem Jemv {p : Nums} : EqI (Jqmv p) (.seq (Jqms p) (.seq (Jqmt p) (.cond (.t 24) (Jqmu p) .skip))) := eqi
def Jqmw (p : Nums) : IC := (.seq (.region [⟨(some 8), (.bin .lss (.t 7) (.t 6)), none, false⟩] []) (.seq (.cond (.t 8) .skip (.exit 0)) (.seq (.block 1 (Jqmv p)) (.region [⟨(some 25), (.bin .add (.t 7) (.c (.d (.int .i64 1)))), none, false⟩, ⟨(some 7), (.mov (.t 25)), none, false⟩] []))))
@[simp] theorem Jemw {p : Nums} : EqI (Jqmw p) (.seq (.region [⟨(some 8), (.bin .lss (.t 7) (.t 6)), none, false⟩] []) (.seq (.cond (.t 8) .skip (.exit 0)) (.seq (.block 1 (Jqmv p)) (.region [⟨(some 25), (.bin .add (.t 7) (.c (.d (.int .i64 1)))), none, false⟩, ⟨(some 7), (.mov (.t 25)), none, false⟩] [])))) := eqi
def Jtce (p : Nums) : IC := (.seq (.region [⟨(some 2), (.asg (.c (.d (.bool false)))), none, false⟩] []) (.seq (.seq (Jqmr p) (.block 0 (.loop (Jqmw p)))) (.seq (.region [⟨(some 2), (.asg (.c (.d (.bool true)))), none, false⟩] []) .ret)))
@[simp] def Jqmd (p : Nums) : List IOp := [qo 5 (.mov (.t 0)), qo 6 (.len (.t 5)), qo 7 (.mov (ci 0))]
def Jqm7 (p : Nums) : IC := (.region (Jqmd p) [])
@[simp] theorem Jem7 {p : Nums} : EqI (Jqm7 p) (.region (Jqmd p) []) := eqi
@[simp] def Jqme (p : Nums) : List IOp := [qo 9 (.iaddr 3 (.t 5) (.t 7)), qo 10 (.load (some 3) (.t 9)), qo 4 (.alloc [(zi 0), (.d (.bool false)), (zi 0)]), qn (.store 3 (.t 4) (.t 10))]
def Jqm8 (p : Nums) : IC := (.region (Jqme p) [])
@[simp] theorem Jem8 {p : Nums} : EqI (Jqm8 p) (.region (Jqme p) []) := eqi
@[simp] def Jqmf (p : Nums) : List IOp := [qo 11 (.faddr 1 (.t 4)), qo 12 (.load none (.t 11)), qo 13 (.un .not (.t 12)), qo 14 (.mov (.t 13)), ⟨(some 15), (.faddr 0 (.t 4)), (some (14, true)), false⟩, ⟨(some 16), (.load none (.t 15)), (some (14, true)), false⟩, ⟨(some 17), (.bin .neq (.t 16) (ci 0)), (some (14, true)), false⟩, qo 18 (.pick (.t 14) (.t 17) (.c (.d (.bool false))))]
def Jqm9 (p : Nums) : IC := (.region (Jqmf p) [])
@[simp] theorem Jem9 {p : Nums} : EqI (Jqm9 p) (.region (Jqmf p) []) := eqi
def Jqma (p : Nums) : IC := (.seq (.region [⟨(some 2), (.asg (.c (.d (.bool false)))), none, false⟩] []) .ret)
@[simp] theorem Jema {p : Nums} : EqI (Jqma p) (.seq (.region [⟨(some 2), (.asg (.c (.d (.bool false)))), none, false⟩] []) .ret) := eqi
def Jqmb (p : Nums) : IC := (.seq (Jqm8 p) (.seq (Jqm9 p) (.cond (.t 18) (Jqma p) .skip)))
@[simp] theorem Jemb {p : Nums} : EqI (Jqmb p) (.seq (Jqm8 p) (.seq (Jqm9 p) (.cond (.t 18) (Jqma p) .skip))) := eqi
def Jqmc (p : Nums) : IC := (.seq (.region [⟨(some 8), (.bin .lss (.t 7) (.t 6)), none, false⟩] []) (.seq (.cond (.t 8) .skip (.exit 0)) (.seq (.block 1 (Jqmb p)) (.region [⟨(some 19), (.bin .add (.t 7) (.c (.d (.int .i64 1)))), none, false⟩, ⟨(some 7), (.mov (.t 19)), none, false⟩] []))))
@[simp] theorem Jemc {p : Nums} : EqI (Jqmc p) (.seq (.region [⟨(some 8), (.bin .lss (.t 7) (.t 6)), none, false⟩] []) (.seq (.cond (.t 8) .skip (.exit 0)) (.seq (.block 1 (Jqmb p)) (.region [⟨(some 19), (.bin .add (.t 7) (.c (.d (.int .i64 1)))), none, false⟩, ⟨(some 7), (.mov (.t 19)), none, false⟩] [])))) := eqi
def Jtcc (p : Nums) : IC := (.seq (.region [⟨(some 2), (.asg (.c (.d (.bool false)))), none, false⟩] []) (.seq (.seq (Jqm7 p) (.block 0 (.loop (Jqmc p)))) (.seq (.region [⟨(some 2), (.asg (.c (.d (.bool true)))), none, false⟩] []) .ret)))
@[simp] def Jqao (p : Nums) : List IOp := [qo 3 (.mov (.t 0)), qo 4 (.call p.opcode_known [(.t 3)]), qo 5 (.mov (.t 4)), ⟨(some 6), (.mov (.t 0)), (some (5, true)), false⟩, ⟨(some 7), (.bin .neq (.t 6) (ci 2)), (some (5, true)), false⟩, qo 8 (.pick (.t 5) (.t 7) (.c (.d (.bool false)))), qo 2 (.asg (.t 8))]
def Jqan (p : Nums) : IC := (.region (Jqao p) [])
@[simp] theorem Jean {p : Nums} : EqI (Jqan p) (.region (Jqao p) []) := eqi
def Jtba (p : Nums) : IC := (.seq (.region [⟨(some 2), (.asg (.c (.d (.bool false)))), none, false⟩] []) (.seq (Jqan p) .ret))
@[simp] def Jqam (p : Nums) : List IOp := [qo 1 (.build [.nilfn, .nilfn] [(0, 1, (.c (.fn (.func p.machine_others_1) [] []))), (1, 1, (.c (.fn (.func p.machine_others_2) [] [])))]), qn (.store 2 (.t 0) (.t 1))]
def Jqal (p : Nums) : IC := (.region (Jqam p) [])
@[simp] theorem Jeal {p : Nums} : EqI (Jqal p) (.region (Jqam p) []) := eqi
def Jtb7 (p : Nums) : IC := (.seq (.region [⟨(some 0), (.alloc [.nilfn, .nilfn]), none, false⟩] []) (.seq (Jqal p) .ret))
@[simp] def Jqag (p : Nums) : List IOp := [qo 1 (.build [.nilfn, .nilfn] [(0, 1, (.c (.fn (.func p.machine_moves_1) [] []))), (1, 1, (.c (.fn (.func p.machine_moves_2) [] [])))]), qn (.store 2 (.t 0) (.t 1))]
def Jqaf (p : Nums) : IC := (.region (Jqag p) [])
@[simp] theorem Jeaf {p : Nums} : EqI (Jqaf p) (.region (Jqag p) []) := eqi
def Jtb4 (p : Nums) : IC := (.seq (.region [⟨(some 0), (.alloc [.nilfn, .nilfn]), none, false⟩] []) (.seq (Jqaf p) .ret))
@[simp] def Jq84 (p : Nums) : List IOp := [qo 3 (.mov (.t 0)), qo 4 (.bin .rem (.t 3) (ci 2)), qo 5 (.bin .eql (.t 4) (ci 1)), qo 2 (.asg (.t 5))]
def Jq83 (p : Nums) : IC := (.region (Jq84 p) [])
@[simp] theorem Je83 {p : Nums} : EqI (Jq83 p) (.region (Jq84 p) []) := eqi
def Jtax (p : Nums) : IC := (.seq (.region [⟨(some 2), (.asg (.c (.d (.bool false)))), none, false⟩] []) (.seq (Jq83 p) .ret))
@[simp] def Jq82 (p : Nums) : List IOp := [qo 3 (.mov (.t 0)), qo 4 (.bin .quo (.t 3) (ci 2)), qo 2 (.asg (.t 4))]
def Jq81 (p : Nums) : IC := (.region (Jq82 p) [])
@[simp] theorem Je81 {p : Nums} : EqI (Jq81 p) (.region (Jq82 p) []) := eqi
def Jtaw (p : Nums) : IC := (.seq (.region [⟨(some 2), (.asg (.c (.d (.int .i64 0)))), none, false⟩] []) (.seq (Jq81 p) .ret))
@[simp] def Jq22 (p : Nums) : List IOp := [qp 2 (.mov (.t 0)), qp 3 (.nilck (.t 2)), qp 4 (.faddr 2 (.t 3)), qp 5 (.load none (.t 4)), qp 6 (.mov (.t 0)), qp 7 (.nilck (.t 6)), qp 8 (.faddr 0 (.t 7)), qp 9 (.load none (.t 8)), qp 10 (.len (.t 9)), qp 11 (.bin .add (ci 1) (.t 10)), qo 12 (.bin .add (.t 5) (.t 11)), qo 13 (.nilck (.t 2)), qo 14 (.faddr 2 (.t 13)), qn (.store 1 (.t 14) (.t 12))]
def Jq21 (p : Nums) : IC := (.region (Jq22 p) [])
@[simp] theorem Je21 {p : Nums} : EqI (Jq21 p) (.region (Jq22 p) []) := eqi
def Jtad (p : Nums) : IC := (Jq21 p)
@[simp] def Jq1y (p : Nums) : List IOp := [qo 6 (.mov (.t 0)), qo 7 (.mov (.t 0)), qo 8 (.mov (.t 1)), qo 9 (.mov (.t 0)), qo 10 (.nilck (.t 9)), qo 11 (.faddr 3 (.t 10)), qo 12 (.load none (.t 11)), qo 13 (.mov (.t 1)), qo 14 (.len (.t 13)), qo 15 (.mx (.t 12) (.t 14)), qo 16 (.nilck (.t 6)), qo 17 (.faddr 0 (.t 16)), qn (.store 1 (.t 17) (.t 8)), qo 18 (.nilck (.t 7)), qo 19 (.faddr 3 (.t 18)), qn (.store 1 (.t 19) (.t 15))]
def Jq1v (p : Nums) : IC := (.region (Jq1y p) [])
@[simp] theorem Je1v {p : Nums} : EqI (Jq1v p) (.region (Jq1y p) []) := eqi
@[simp] def Jq1z (p : Nums) : List IOp := [qo 20 (.mov (.t 1)), qo 21 (.len (.t 20)), qo 22 (.mov (.t 0)), qo 23 (.nilck (.t 22)), qo 24 (.faddr 1 (.t 23)), qo 25 (.load none (.t 24)), qo 26 (.bin .gtr (.t 21) (.t 25))]
def Jq1w (p : Nums) : IC := (.region (Jq1z p) [])
@[simp] theorem Je1w {p : Nums} : EqI (Jq1w p) (.region (Jq1z p) []) := eqi
@[simp] def Jq20 (p : Nums) : List IOp := [qo 27 (.mov (.t 2)), qo 28 (.build [(zi 0), (zi 0)] [(0, 1, (ci 24)), (1, 1, (.t 27))]), qo 29 (.mkif p.ty_bcfail (.t 28)), qn (.pan (.t 29))]
def Jq1x (p : Nums) : IC := (.region (Jq20 p) [])
@[simp] theorem Je1x {p : Nums} : EqI (Jq1x p) (.region (Jq20 p) []) := eqi
def Jtac (p : Nums) : IC := (.seq (Jq1v p) (.seq (Jq1w p) (.cond (.t 26) (Jq1x p) .skip)))
@[simp] def Jqpy (p : Nums) : List IOp := [qo 7 (.load none (.t 4)), qo 8 (.load none (.t 5)), qo 9 (.bin .eql (.t 7) (.t 8))]
def Jqpv (p : Nums) : IC := (.region (Jqpy p) [])
@[simp] theorem Jepv {p : Nums} : EqI (Jqpv p) (.region (Jqpy p) []) := eqi
@[simp] def Jqpz (p : Nums) : List IOp := [qo 10 (.mov (.t 0)), qo 11 (.call p.pairset_Make [(.t 10)]), qo 6 (.asg (.t 11))]
def Jqpw (p : Nums) : IC := (.region (Jqpz p) [])
@[simp] theorem Jepw {p : Nums} : EqI (Jqpw p) (.region (Jqpz p) []) := eqi
@[simp] def Jqq0 (p : Nums) : List IOp := [qo 12 (.mov (.t 0)), qo 13 (.load none (.t 4)), qo 14 (.call p.pairset_DropV [(.t 12), (.t 13)]), qo 15 (.mov (.t 0)), qo 16 (.mkfn (.func p.transfer_Copy_1) [] [(.t 4), (.t 5)]), qo 17 (.call p.transfer_rename [(.t 14), (.t 15), (.t 16)]), qo 6 (.asg (.t 17))]
def Jqpx (p : Nums) : IC := (.region (Jqq0 p) [])
@[simp] theorem Jepx {p : Nums} : EqI (Jqpx p) (.region (Jqq0 p) []) := eqi
def Jtcn (p : Nums) : IC := (.seq (.region [⟨(some 4), (.box (.t 1)), none, false⟩, ⟨(some 5), (.box (.t 2)), none, false⟩, ⟨(some 6), (.asg (.c .nils)), none, false⟩] []) (.seq (.seq (Jqpv p) (.cond (.t 9) (.seq (Jqpw p) .ret) .skip)) (.seq (Jqpx p) .ret)))
@[simp] def Jqq8 (p : Nums) : List IOp := [qo 7 (.load none (.t 4)), qo 8 (.load none (.t 5)), qo 9 (.bin .eql (.t 7) (.t 8))]
def Jqq5 (p : Nums) : IC := (.region (Jqq8 p) [])
@[simp] theorem Jeq5 {p : Nums} : EqI (Jqq5 p) (.region (Jqq8 p) []) := eqi
@[simp] def Jqq9 (p : Nums) : List IOp := [qo 10 (.mov (.t 0)), qo 11 (.call p.pairset_Make [(.t 10)]), qo 6 (.asg (.t 11))]
def Jqq6 (p : Nums) : IC := (.region (Jqq9 p) [])
@[simp] theorem Jeq6 {p : Nums} : EqI (Jqq6 p) (.region (Jqq9 p) []) := eqi
@[simp] def Jqqa (p : Nums) : List IOp := [qo 12 (.mov (.t 0)), qo 13 (.load none (.t 4)), qo 14 (.call p.pairset_DropL [(.t 12), (.t 13)]), qo 15 (.mov (.t 0)), qo 16 (.mkfn (.func p.transfer_Move_1) [] [(.t 4), (.t 5)]), qo 17 (.call p.transfer_rename [(.t 14), (.t 15), (.t 16)]), qo 6 (.asg (.t 17))]
def Jqq7 (p : Nums) : IC := (.region (Jqqa p) [])
@[simp] theorem Jeq7 {p : Nums} : EqI (Jqq7 p) (.region (Jqqa p) []) := eqi
def Jtcp (p : Nums) : IC := (.seq (.region [⟨(some 4), (.box (.t 1)), none, false⟩, ⟨(some 5), (.box (.t 2)), none, false⟩, ⟨(some 6), (.asg (.c .nils)), none, false⟩] []) (.seq (.seq (Jqq5 p) (.cond (.t 9) (.seq (Jqq6 p) .ret) .skip)) (.seq (Jqq7 p) .ret)))
@[simp] def Jq28 (p : Nums) : List IOp := [qo 11 (.faddr 0 (.t 5)), qo 12 (.load none (.t 11)), qo 13 (.call p.opcode_Of [(.t 12)]), qo 10 (.mov (.t 13)), qo 14 (.ext (.t 10) 0), qo 15 (.ext (.t 10) 1), qo 8 (.alloc [(.d (.bool false)), (.d (.bool false)), (.d (.bool false)), (.d (.bool false))]), qn (.store 4 (.t 8) (.t 14)), qo 9 (.asg (.t 15))]
def Jq23 (p : Nums) : IC := (.region (Jq28 p) [])
@[simp] theorem Je23 {p : Nums} : EqI (Jq23 p) (.region (Jq28 p) []) := eqi
@[simp] def Jq29 (p : Nums) : List IOp := [qo 18 (.mov (.t 0)), qo 19 (.faddr 2 (.t 5)), qo 20 (.load none (.t 19)), qo 21 (.faddr 2 (.t 6)), qo 22 (.load none (.t 21)), qo 23 (.mov (.t 3)), qo 24 (.call p.blockcheck_checker_use [(.t 18), (.t 20), (.t 22), (.t 23)])]
def Jq24 (p : Nums) : IC := (.region (Jq29 p) [])
@[simp] theorem Je24 {p : Nums} : EqI (Jq24 p) (.region (Jq29 p) []) := eqi
@[simp] def Jq2a (p : Nums) : List IOp := [qo 27 (.mov (.t 0)), qo 28 (.faddr 3 (.t 5)), qo 29 (.load none (.t 28)), qo 30 (.faddr 3 (.t 6)), qo 31 (.load none (.t 30)), qo 32 (.mov (.t 3)), qo 33 (.call p.blockcheck_checker_use [(.t 27), (.t 29), (.t 31), (.t 32)])]
def Jq25 (p : Nums) : IC := (.region (Jq2a p) [])
@[simp] theorem Je25 {p : Nums} : EqI (Jq25 p) (.region (Jq2a p) []) := eqi
@[simp] def Jq2b (p : Nums) : List IOp := [qp 38 (.mov (.t 0)), qp 39 (.mov (.t 0)), qp 40 (.nilck (.t 39)), qp 41 (.faddr 0 (.t 40)), qp 42 (.load none (.t 41)), qp 43 (.faddr 1 (.t 5)), qp 44 (.load none (.t 43)), qp 45 (.faddr 1 (.t 6)), qp 46 (.load none (.t 45)), qp 47 (.call p.location_Reg [(.t 46)]), qp 48 (.call p.transfer_Define [(.t 42), (.t 44), (.t 47)]), qp 49 (.mov (.t 3)), qo 50 (.call p.blockcheck_checker_become [(.t 38), (.t 48), (.t 49)])]
def Jq26 (p : Nums) : IC := (.region (Jq2b p) [])
@[simp] theorem Je26 {p : Nums} : EqI (Jq26 p) (.region (Jq2b p) []) := eqi
def Jq27 (p : Nums) : IC := (.seq (.region [⟨(some 36), (.mov (.t 0)), none, false⟩, ⟨(some 37), (.call p.blockcheck_checker_cost [(.t 36)]), none, false⟩] []) (Jq26 p))
@[simp] theorem Je27 {p : Nums} : EqI (Jq27 p) (.seq (.region [⟨(some 36), (.mov (.t 0)), none, false⟩, ⟨(some 37), (.call p.blockcheck_checker_cost [(.t 36)]), none, false⟩] []) (Jq26 p)) := eqi
def Jtae (p : Nums) : IC := (.seq (.region [⟨(some 5), (.box (.t 1)), none, false⟩, ⟨(some 6), (.box (.t 2)), none, false⟩] []) (.seq (Jq23 p) (.seq (.seq (.region [⟨(some 16), (.faddr 1 (.t 8)), none, false⟩, ⟨(some 17), (.load none (.t 16)), none, false⟩] []) (.cond (.t 17) (Jq24 p) .skip)) (.seq (.seq (.region [⟨(some 25), (.faddr 2 (.t 8)), none, false⟩, ⟨(some 26), (.load none (.t 25)), none, false⟩] []) (.cond (.t 26) (Jq25 p) .skip)) (.seq (.region [⟨(some 34), (.faddr 0 (.t 8)), none, false⟩, ⟨(some 35), (.load none (.t 34)), none, false⟩] []) (.cond (.t 35) (Jq27 p) .skip))))))
@[simp] def Jqc3 (p : Nums) : List IOp := [qo 6 (.mov (.t 0)), qo 7 (.load (some 2) (.t 3)), qo 8 (.call p.pairset_find [(.t 6), (.t 7)]), qo 5 (.asg (.t 8))]
def Jqc1 (p : Nums) : IC := (.region (Jqc3 p) [])
@[simp] theorem Jec1 {p : Nums} : EqI (Jqc1 p) (.region (Jqc3 p) []) := eqi
@[simp] def Jqc4 (p : Nums) : List IOp := [qp 9 (.mov (.t 5)), qp 10 (.mov (.t 0)), qp 11 (.len (.t 10)), qo 12 (.bin .lss (.t 9) (.t 11)), qo 13 (.mov (.t 12)), ⟨(some 14), (.mov (.t 0)), (some (13, true)), true⟩, ⟨(some 15), (.mov (.t 5)), (some (13, true)), true⟩, ⟨(some 16), (.iaddr 2 (.t 14) (.t 15)), (some (13, true)), true⟩, ⟨(some 17), (.load (some 2) (.t 16)), (some (13, true)), true⟩, ⟨(some 18), (.load (some 2) (.t 3)), (some (13, true)), true⟩, ⟨(some 19), (.eqs false [.int, .int] (.t 17) (.t 18)), (some (13, true)), false⟩, qo 20 (.pick (.t 13) (.t 19) (.c (.d (.bool false)))), qo 4 (.asg (.t 20))]
def Jqc2 (p : Nums) : IC := (.region (Jqc4 p) [])
@[simp] theorem Jec2 {p : Nums} : EqI (Jqc2 p) (.region (Jqc4 p) []) := eqi
def Jtbj (p : Nums) : IC := (.seq (.region [⟨(some 3), (.box (.t 1)), none, false⟩, ⟨(some 4), (.asg (.c (.d (.bool false)))), none, false⟩] []) (.seq (Jqc1 p) (.seq (Jqc2 p) .ret)))
@[simp] def Jqbg (p : Nums) : List IOp := [qo 3 (.mov (.t 0)), qo 4 (.bin .geq (.t 3) (ci 1)), qo 5 (.mov (.t 4)), ⟨(some 6), (.mov (.t 0)), (some (5, true)), false⟩, ⟨(some 7), (.bin .leq (.t 6) (ci 18)), (some (5, true)), false⟩, qo 8 (.pick (.t 5) (.t 7) (.c (.d (.bool false)))), qo 2 (.asg (.t 8))]
def Jqbf (p : Nums) : IC := (.region (Jqbg p) [])
@[simp] theorem Jebf {p : Nums} : EqI (Jqbf p) (.region (Jqbg p) []) := eqi
def Jtbd (p : Nums) : IC := (.seq (.region [⟨(some 2), (.asg (.c (.d (.bool false)))), none, false⟩] []) (.seq (Jqbf p) .ret))
@[simp] def Jqai (p : Nums) : List IOp := [qo 7 (.faddr 0 (.t 3)), qo 8 (.load none (.t 7)), qo 9 (.faddr 1 (.t 3)), qo 10 (.load none (.t 9)), qo 11 (.faddr 2 (.t 3)), qo 12 (.load none (.t 11)), qo 13 (.faddr 3 (.t 3)), qo 14 (.load none (.t 13)), qo 15 (.faddr 4 (.t 3)), qo 16 (.load none (.t 15)), qo 17 (.build [(zi 0), (zi 0), (zi 0), (zi 0), (zi 0)] [(0, 1, (.t 8)), (1, 1, (.t 10)), (2, 1, (.t 12)), (3, 1, (.t 14)), (4, 1, (.t 16))]), qo 18 (.mov (.t 1)), qo 19 (.call p.source_Instr [(.t 17), (.t 18)]), qo 6 (.asg (.t 19))]
def Jqah (p : Nums) : IC := (.region (Jqai p) [])
@[simp] theorem Jeah {p : Nums} : EqI (Jqah p) (.region (Jqai p) []) := eqi
def Jtb8 (p : Nums) : IC := (.seq (.region [⟨(some 3), (.box (.t 0)), none, false⟩, ⟨(some 6), (.asg (.c (.d (.int .i64 0)))), none, false⟩] []) (.seq (Jqah p) .ret))
@[simp] def Jqak (p : Nums) : List IOp := [qo 3 (.faddr 5 (.t 1)), qo 4 (.load none (.t 3)), qo 5 (.bin .eql (.t 4) (ci 0)), qo 6 (.mov (.t 5)), ⟨(some 7), (.faddr 6 (.t 1)), (some (6, true)), false⟩, ⟨(some 8), (.load none (.t 7)), (some (6, true)), false⟩, ⟨(some 9), (.bin .eql (.t 8) (ci 0)), (some (6, true)), false⟩, qo 10 (.pick (.t 6) (.t 9) (.c (.d (.bool false)))), qo 2 (.asg (.t 10))]
def Jqaj (p : Nums) : IC := (.region (Jqak p) [])
@[simp] theorem Jeaj {p : Nums} : EqI (Jqaj p) (.region (Jqak p) []) := eqi
def Jtb9 (p : Nums) : IC := (.seq (.region [⟨(some 1), (.box (.t 0)), none, false⟩, ⟨(some 2), (.asg (.c (.d (.bool false)))), none, false⟩] []) (.seq (Jqaj p) .ret))
@[simp] def Jqab (p : Nums) : List IOp := [qo 8 (.faddr 5 (.t 3)), qo 9 (.load none (.t 8)), qo 10 (.call p.location_IsSlot [(.t 9)]), qo 11 (.mov (.t 10)), ⟨(some 12), (.faddr 6 (.t 3)), (some (11, true)), false⟩, ⟨(some 13), (.load none (.t 12)), (some (11, true)), false⟩, ⟨(some 14), (.call p.location_IsSlot [(.t 13)]), (some (11, true)), false⟩, qo 15 (.pick (.t 11) (.t 14) (.c (.d (.bool false)))), qo 7 (.asg (.t 15))]
def Jqa8 (p : Nums) : IC := (.region (Jqab p) [])
@[simp] theorem Jea8 {p : Nums} : EqI (Jqa8 p) (.region (Jqab p) []) := eqi
@[simp] def Jqac (p : Nums) : List IOp := [qo 16 (.mov (.t 7)), qo 17 (.mov (.t 16)), ⟨(some 18), (.faddr 5 (.t 3)), (some (17, false)), false⟩, ⟨(some 19), (.load none (.t 18)), (some (17, false)), false⟩, ⟨(some 20), (.mov (.t 1)), (some (17, false)), false⟩, ⟨(some 21), (.mov (.t 2)), (some (17, false)), false⟩, ⟨(some 22), (.call p.location_InRange [(.t 19), (.t 20), (.t 21)]), (some (17, false)), false⟩, ⟨(some 23), (.un .not (.t 22)), (some (17, false)), false⟩, qo 24 (.pick (.t 17) (.c (.d (.bool true))) (.t 23)), qo 25 (.mov (.t 24)), ⟨(some 26), (.faddr 6 (.t 3)), (some (25, false)), false⟩, ⟨(some 27), (.load none (.t 26)), (some (25, false)), false⟩, ⟨(some 28), (.mov (.t 1)), (some (25, false)), false⟩, ⟨(some 29), (.mov (.t 2)), (some (25, false)), false⟩, ⟨(some 30), (.call p.location_InRange [(.t 27), (.t 28), (.t 29)]), (some (25, false)), false⟩, ⟨(some 31), (.un .not (.t 30)), (some (25, false)), false⟩, qo 32 (.pick (.t 25) (.c (.d (.bool true))) (.t 31))]
def Jqa9 (p : Nums) : IC := (.region (Jqac p) [])
@[simp] theorem Jea9 {p : Nums} : EqI (Jqa9 p) (.region (Jqac p) []) := eqi
def Jqaa (p : Nums) : IC := (.seq (.region [⟨(some 6), (.asg (.c (.d (.int .i64 10)))), none, false⟩] []) .ret)
@[simp] theorem Jeaa {p : Nums} : EqI (Jqaa p) (.seq (.region [⟨(some 6), (.asg (.c (.d (.int .i64 10)))), none, false⟩] []) .ret) := eqi
def Jtb5 (p : Nums) : IC := (.seq (.region [⟨(some 3), (.box (.t 0)), none, false⟩, ⟨(some 6), (.asg (.c (.d (.int .i64 0)))), none, false⟩] []) (.seq (Jqa8 p) (.seq (.seq (Jqa9 p) (.cond (.t 32) (Jqaa p) .skip)) (.seq (.region [⟨(some 6), (.asg (.c (.d (.int .i64 0)))), none, false⟩] []) .ret))))
@[simp] def Jqae (p : Nums) : List IOp := [qo 3 (.faddr 1 (.t 1)), qo 4 (.load none (.t 3)), qo 5 (.bin .eql (.t 4) (ci 0)), qo 6 (.mov (.t 5)), ⟨(some 7), (.faddr 2 (.t 1)), (some (6, true)), false⟩, ⟨(some 8), (.load none (.t 7)), (some (6, true)), false⟩, ⟨(some 9), (.bin .eql (.t 8) (ci 0)), (some (6, true)), false⟩, qo 10 (.pick (.t 6) (.t 9) (.c (.d (.bool false)))), qo 11 (.mov (.t 10)), ⟨(some 12), (.faddr 3 (.t 1)), (some (11, true)), false⟩, ⟨(some 13), (.load none (.t 12)), (some (11, true)), false⟩, ⟨(some 14), (.bin .eql (.t 13) (ci 0)), (some (11, true)), false⟩, qo 15 (.pick (.t 11) (.t 14) (.c (.d (.bool false)))), qo 16 (.mov (.t 15)), ⟨(some 17), (.faddr 4 (.t 1)), (some (16, true)), false⟩, ⟨(some 18), (.load none (.t 17)), (some (16, true)), false⟩, ⟨(some 19), (.bin .eql (.t 18) (ci 0)), (some (16, true)), false⟩, qo 20 (.pick (.t 16) (.t 19) (.c (.d (.bool false)))), qo 2 (.asg (.t 20))]
def Jqad (p : Nums) : IC := (.region (Jqae p) [])
@[simp] theorem Jead {p : Nums} : EqI (Jqad p) (.region (Jqae p) []) := eqi
def Jtb6 (p : Nums) : IC := (.seq (.region [⟨(some 1), (.box (.t 0)), none, false⟩, ⟨(some 2), (.asg (.c (.d (.bool false)))), none, false⟩] []) (.seq (Jqad p) .ret))
@[simp] def Jqqi (p : Nums) : List IOp := [qo 12 (.mov (.t 1)), qo 13 (.len (.t 12)), qo 14 (.mov (ci 0))]
def Jqqb (p : Nums) : IC := (.region (Jqqi p) [])
@[simp] theorem Jeqb {p : Nums} : EqI (Jqqb p) (.region (Jqqi p) []) := eqi
@[simp] def Jqqj (p : Nums) : List IOp := [qo 16 (.iaddr 2 (.t 12) (.t 14)), qo 17 (.load (some 2) (.t 16)), qo 9 (.alloc [(zi 0), (zi 0)]), qn (.store 2 (.t 9) (.t 17))]
def Jqqc (p : Nums) : IC := (.region (Jqqj p) [])
@[simp] theorem Jeqc {p : Nums} : EqI (Jqqc p) (.region (Jqqj p) []) := eqi
@[simp] def Jqqk (p : Nums) : List IOp := [qo 19 (.mov (.t 2)), qo 20 (.load (some 2) (.t 9)), qo 21 (.callv (.t 19) [(.t 20)]), qo 18 (.mov (.t 21)), qo 22 (.ext (.t 18) 0), qo 23 (.ext (.t 18) 1), qo 10 (.alloc [(zi 0), (zi 0)]), qn (.store 2 (.t 10) (.t 22)), qo 11 (.asg (.t 23))]
def Jqqd (p : Nums) : IC := (.region (Jqqk p) [])
@[simp] theorem Jeqd {p : Nums} : EqI (Jqqd p) (.region (Jqqk p) []) := eqi
@[simp] def Jqql (p : Nums) : List IOp := [qo 25 (.mov (.t 7)), qo 26 (.load (some 2) (.t 10)), qo 27 (.bslice 2 1 [(.int .i64 0), (.int .i64 0)] [(0, (.t 26))]), qo 28 (.app 2 16 (.t 25) (.t 27)), qo 7 (.asg (.t 28))]
def Jqqe (p : Nums) : IC := (.region (Jqql p) [])
@[simp] theorem Jeqe {p : Nums} : EqI (Jqqe p) (.region (Jqql p) []) := eqi
def Jqqf (p : Nums) : IC := (.seq (Jqqc p) (.seq (Jqqd p) (.seq (.region [⟨(some 24), (.mov (.t 11)), none, false⟩] []) (.cond (.t 24) (Jqqe p) .skip))))
@[simp] theorem Jeqf {p : Nums} : EqI (Jqqf p) (.seq (Jqqc p) (.seq (Jqqd p) (.seq (.region [⟨(some 24), (.mov (.t 11)), none, false⟩] []) (.cond (.t 24) (Jqqe p) .skip)))) := eqi
def Jqqg (p : Nums) : IC := (.seq (.region [⟨(some 15), (.bin .lss (.t 14) (.t 13)), none, false⟩] []) (.seq (.cond (.t 15) .skip (.exit 0)) (.seq (.block 1 (Jqqf p)) (.region [⟨(some 29), (.bin .add (.t 14) (.c (.d (.int .i64 1)))), none, false⟩, ⟨(some 14), (.mov (.t 29)), none, false⟩] []))))
@[simp] theorem Jeqg {p : Nums} : EqI (Jqqg p) (.seq (.region [⟨(some 15), (.bin .lss (.t 14) (.t 13)), none, false⟩] []) (.seq (.cond (.t 15) .skip (.exit 0)) (.seq (.block 1 (Jqqf p)) (.region [⟨(some 29), (.bin .add (.t 14) (.c (.d (.int .i64 1)))), none, false⟩, ⟨(some 14), (.mov (.t 29)), none, false⟩] [])))) := eqi
@[simp] def Jqqm (p : Nums) : List IOp := [qo 30 (.mov (.t 0)), qo 31 (.mov (.t 7)), qo 32 (.call p.pairset_Make [(.t 31)]), qo 33 (.call p.pairset_Union [(.t 30), (.t 32)]), qo 6 (.asg (.t 33))]
def Jqqh (p : Nums) : IC := (.region (Jqqm p) [])
@[simp] theorem Jeqh {p : Nums} : EqI (Jqqh p) (.region (Jqqm p) []) := eqi
def Jtcq (p : Nums) : IC := (.seq (.region [⟨(some 6), (.asg (.c .nils)), none, false⟩] []) (.seq (.region [⟨(some 7), (.asg (.c .nils)), none, false⟩] []) (.seq (.seq (Jqqb p) (.block 0 (.loop (Jqqg p)))) (.seq (Jqqh p) .ret))))
@[simp] def Jqc0 (p : Nums) : List IOp := [qo 5 (.mov (.t 0)), qo 6 (.mkfn (.func p.pairset_DropV_1) [] [(.t 3)]), qo 7 (.call p.pairset_filter [(.t 5), (.t 6)]), qo 4 (.asg (.t 7))]
def Jqbz (p : Nums) : IC := (.region (Jqc0 p) [])
@[simp] theorem Jebz {p : Nums} : EqI (Jqbz p) (.region (Jqc0 p) []) := eqi
def Jtbh (p : Nums) : IC := (.seq (.region [⟨(some 3), (.box (.t 1)), none, false⟩, ⟨(some 4), (.asg (.c .nils)), none, false⟩] []) (.seq (Jqbz p) .ret))
@[simp] def Jqbw (p : Nums) : List IOp := [qo 5 (.mov (.t 0)), qo 6 (.mkfn (.func p.pairset_DropL_1) [] [(.t 3)]), qo 7 (.call p.pairset_filter [(.t 5), (.t 6)]), qo 4 (.asg (.t 7))]
def Jqbv (p : Nums) : IC := (.region (Jqbw p) [])
@[simp] theorem Jebv {p : Nums} : EqI (Jqbv p) (.region (Jqbw p) []) := eqi
def Jtbf (p : Nums) : IC := (.seq (.region [⟨(some 3), (.box (.t 1)), none, false⟩, ⟨(some 4), (.asg (.c .nils)), none, false⟩] []) (.seq (Jqbv p) .ret))
@[simp] def Jqq3 (p : Nums) : List IOp := [qo 8 (.mov (.t 0)), qo 9 (.mov (.t 1)), qo 10 (.call p.pairset_DropV [(.t 8), (.t 9)]), qo 11 (.mov (.t 2)), qo 12 (.call p.pairset_DropL [(.t 10), (.t 11)]), qo 7 (.asg (.t 12))]
def Jqq1 (p : Nums) : IC := (.region (Jqq3 p) [])
@[simp] theorem Jeq1 {p : Nums} : EqI (Jqq1 p) (.region (Jqq3 p) []) := eqi
@[simp] def Jqq4 (p : Nums) : List IOp := [qo 13 (.mov (.t 7)), qo 14 (.mov (.t 1)), qo 15 (.mov (.t 2)), qo 16 (.build [(zi 0), (zi 0)] [(0, 1, (.t 14)), (1, 1, (.t 15))]), qo 17 (.call p.pairset_Add [(.t 13), (.t 16)]), qo 6 (.asg (.t 17))]
def Jqq2 (p : Nums) : IC := (.region (Jqq4 p) [])
@[simp] theorem Jeq2 {p : Nums} : EqI (Jqq2 p) (.region (Jqq4 p) []) := eqi
def Jtco (p : Nums) : IC := (.seq (.region [⟨(some 6), (.asg (.c .nils)), none, false⟩] []) (.seq (Jqq1 p) (.seq (Jqq2 p) .ret)))
@[simp] def Jqe6 (p : Nums) : List IOp := [qo 8 (.mov (.t 0)), qo 9 (.len (.t 8)), qo 5 (.asg (ci 0)), qo 6 (.asg (.t 9))]
def Jqdy (p : Nums) : IC := (.region (Jqe6 p) [])
@[simp] theorem Jedy {p : Nums} : EqI (Jqdy p) (.region (Jqe6 p) []) := eqi
@[simp] def Jqe7 (p : Nums) : List IOp := [qo 10 (.mov (.t 5)), qo 11 (.mov (.t 6)), qo 12 (.bin .lss (.t 10) (.t 11))]
def Jqdz (p : Nums) : IC := (.region (Jqe7 p) [])
@[simp] theorem Jedz {p : Nums} : EqI (Jqdz p) (.region (Jqe7 p) []) := eqi
@[simp] def Jqe8 (p : Nums) : List IOp := [qo 13 (.mov (.t 5)), qo 14 (.mov (.t 6)), qo 15 (.mov (.t 5)), qo 16 (.bin .sub (.t 14) (.t 15)), qo 17 (.bin .quo (.t 16) (ci 2)), qo 18 (.bin .add (.t 13) (.t 17)), qo 7 (.asg (.t 18))]
def Jqe0 (p : Nums) : IC := (.region (Jqe8 p) [])
@[simp] theorem Jee0 {p : Nums} : EqI (Jqe0 p) (.region (Jqe8 p) []) := eqi
@[simp] def Jqe9 (p : Nums) : List IOp := [qp 19 (.mov (.t 0)), qp 20 (.mov (.t 7)), qp 21 (.iaddr 2 (.t 19) (.t 20)), qp 22 (.load (some 2) (.t 21)), qp 23 (.load (some 2) (.t 3)), qo 24 (.call p.pairset_Less [(.t 22), (.t 23)])]
def Jqe1 (p : Nums) : IC := (.region (Jqe9 p) [])
@[simp] theorem Jee1 {p : Nums} : EqI (Jqe1 p) (.region (Jqe9 p) []) := eqi
@[simp] def Jqea (p : Nums) : List IOp := [qo 25 (.mov (.t 7)), qo 26 (.bin .add (.t 25) (ci 1)), qo 5 (.asg (.t 26))]
def Jqe2 (p : Nums) : IC := (.region (Jqea p) [])
@[simp] theorem Jee2 {p : Nums} : EqI (Jqe2 p) (.region (Jqea p) []) := eqi
@[simp] def Jqeb (p : Nums) : List IOp := [qo 27 (.mov (.t 7)), qo 6 (.asg (.t 27))]
def Jqe3 (p : Nums) : IC := (.region (Jqeb p) [])
@[simp] theorem Jee3 {p : Nums} : EqI (Jqe3 p) (.region (Jqeb p) []) := eqi
def Jqe4 (p : Nums) : IC := (.seq (Jqe0 p) (.seq (Jqe1 p) (.cond (.t 24) (Jqe2 p) (Jqe3 p))))
@[simp] theorem Jee4 {p : Nums} : EqI (Jqe4 p) (.seq (Jqe0 p) (.seq (Jqe1 p) (.cond (.t 24) (Jqe2 p) (Jqe3 p)))) := eqi
def Jqe5 (p : Nums) : IC := (.seq (.seq (Jqdz p) (.cond (.t 12) .skip (.exit 0))) (.block 1 (Jqe4 p)))
@[simp] theorem Jee5 {p : Nums} : EqI (Jqe5 p) (.seq (.seq (Jqdz p) (.cond (.t 12) .skip (.exit 0))) (.block 1 (Jqe4 p))) := eqi
def Jtbp (p : Nums) : IC := (.seq (.region [⟨(some 3), (.box (.t 1)), none, false⟩, ⟨(some 4), (.asg (.c (.d (.int .i64 0)))), none, false⟩] []) (.seq (Jqdy p) (.seq (.block 0 (.loop (Jqe5 p))) (.seq (.region [⟨(some 28), (.mov (.t 5)), none, false⟩, ⟨(some 4), (.asg (.t 28)), none, false⟩] []) .ret))))
@[simp] def Jqdb (p : Nums) : List IOp := [qo 7 (.mov (.t 0)), qo 8 (.len (.t 7)), qo 9 (.mov (.t 1)), qo 10 (.len (.t 9)), qo 11 (.bin .add (.t 8) (.t 10)), qo 12 (.mkslice 2 16 [(.int .i64 0), (.int .i64 0)] (ci 0) (.t 11)), qo 5 (.asg (.t 12))]
def Jqcy (p : Nums) : IC := (.region (Jqdb p) [])
@[simp] theorem Jecy {p : Nums} : EqI (Jqcy p) (.region (Jqdb p) []) := eqi
@[simp] def Jqde (p : Nums) : List IOp := [qo 13 (.mov (.t 0)), qo 14 (.len (.t 13)), qo 15 (.bin .gtr (.t 14) (ci 0)), qo 16 (.mov (.t 15)), ⟨(some 17), (.mov (.t 1)), (some (16, true)), false⟩, ⟨(some 18), (.len (.t 17)), (some (16, true)), false⟩, ⟨(some 19), (.bin .gtr (.t 18) (ci 0)), (some (16, true)), false⟩, qo 20 (.pick (.t 16) (.t 19) (.c (.d (.bool false))))]
def Jqd3 (p : Nums) : IC := (.region (Jqde p) [])
@[simp] theorem Jed3 {p : Nums} : EqI (Jqd3 p) (.region (Jqde p) []) := eqi
@[simp] def Jqdf (p : Nums) : List IOp := [qo 21 (.mov (.t 0)), qo 22 (.iaddr 2 (.t 21) (ci 0)), qo 23 (.load (some 2) (.t 22)), qo 6 (.alloc [(zi 0), (zi 0)]), qn (.store 2 (.t 6) (.t 23))]
def Jqd4 (p : Nums) : IC := (.region (Jqdf p) [])
@[simp] theorem Jed4 {p : Nums} : EqI (Jqd4 p) (.region (Jqdf p) []) := eqi
@[simp] def Jqdg (p : Nums) : List IOp := [qp 24 (.mov (.t 1)), qp 25 (.iaddr 2 (.t 24) (ci 0)), qp 26 (.load (some 2) (.t 25)), qp 27 (.load (some 2) (.t 6)), qo 28 (.call p.pairset_Less [(.t 26), (.t 27)])]
def Jqd5 (p : Nums) : IC := (.region (Jqdg p) [])
@[simp] theorem Jed5 {p : Nums} : EqI (Jqd5 p) (.region (Jqdg p) []) := eqi
@[simp] def Jqdh (p : Nums) : List IOp := [qo 29 (.mov (.t 1)), qo 30 (.iaddr 2 (.t 29) (ci 0)), qo 31 (.load (some 2) (.t 30)), qn (.store 2 (.t 6) (.t 31))]
def Jqd6 (p : Nums) : IC := (.region (Jqdh p) [])
@[simp] theorem Jed6 {p : Nums} : EqI (Jqd6 p) (.region (Jqdh p) []) := eqi
@[simp] def Jqdi (p : Nums) : List IOp := [qo 32 (.mov (.t 5)), qo 33 (.load (some 2) (.t 6)), qo 34 (.bslice 2 1 [(.int .i64 0), (.int .i64 0)] [(0, (.t 33))]), qo 35 (.app 2 16 (.t 32) (.t 34)), qo 5 (.asg (.t 35))]
def Jqd7 (p : Nums) : IC := (.region (Jqdi p) [])
@[simp] theorem Jed7 {p : Nums} : EqI (Jqd7 p) (.region (Jqdi p) []) := eqi
@[simp] def Jqdj (p : Nums) : List IOp := [qp 36 (.mov (.t 0)), qp 37 (.iaddr 2 (.t 36) (ci 0)), qp 38 (.load (some 2) (.t 37)), qp 39 (.load (some 2) (.t 6)), qo 40 (.eqs false [.int, .int] (.t 38) (.t 39))]
def Jqd8 (p : Nums) : IC := (.region (Jqdj p) [])
@[simp] theorem Jed8 {p : Nums} : EqI (Jqd8 p) (.region (Jqdj p) []) := eqi
@[simp] def Jqdk (p : Nums) : List IOp := [qo 41 (.mov (.t 0)), qo 42 (.slc 2 (.t 41) (some (ci 1)) none), qo 0 (.asg (.t 42))]
def Jqd9 (p : Nums) : IC := (.region (Jqdk p) [])
@[simp] theorem Jed9 {p : Nums} : EqI (Jqd9 p) (.region (Jqdk p) []) := eqi
@[simp] def Jqdl (p : Nums) : List IOp := [qp 43 (.mov (.t 1)), qp 44 (.iaddr 2 (.t 43) (ci 0)), qp 45 (.load (some 2) (.t 44)), qp 46 (.load (some 2) (.t 6)), qo 47 (.eqs false [.int, .int] (.t 45) (.t 46))]
def Jqda (p : Nums) : IC := (.region (Jqdl p) [])
@[simp] theorem Jeda {p : Nums} : EqI (Jqda p) (.region (Jqdl p) []) := eqi
@[simp] def Jqdc (p : Nums) : List IOp := [qo 48 (.mov (.t 1)), qo 49 (.slc 2 (.t 48) (some (ci 1)) none), qo 1 (.asg (.t 49))]
def Jqcz (p : Nums) : IC := (.region (Jqdc p) [])
@[simp] theorem Jecz {p : Nums} : EqI (Jqcz p) (.region (Jqdc p) []) := eqi
def Jqd0 (p : Nums) : IC := (.seq (Jqd4 p) (.seq (.seq (Jqd5 p) (.cond (.t 28) (Jqd6 p) .skip)) (.seq (Jqd7 p) (.seq (.seq (Jqd8 p) (.cond (.t 40) (Jqd9 p) .skip)) (.seq (Jqda p) (.cond (.t 47) (Jqcz p) .skip))))))
@[simp] theorem Jed0 {p : Nums} : EqI (Jqd0 p) (.seq (Jqd4 p) (.seq (.seq (Jqd5 p) (.cond (.t 28) (Jqd6 p) .skip)) (.seq (Jqd7 p) (.seq (.seq (Jqd8 p) (.cond (.t 40) (Jqd9 p) .skip)) (.seq (Jqda p) (.cond (.t 47) (Jqcz p) .skip)))))) := eqi
def Jqd1 (p : Nums) : IC := (.seq (.seq (Jqd3 p) (.cond (.t 20) .skip (.exit 0))) (.block 1 (Jqd0 p)))
@[simp] theorem Jed1 {p : Nums} : EqI (Jqd1 p) (.seq (.seq (Jqd3 p) (.cond (.t 20) .skip (.exit 0))) (.block 1 (Jqd0 p))) := eqi
@[simp] def Jqdd (p : Nums) : List IOp := [qo 50 (.mov (.t 5)), qo 51 (.mov (.t 0)), qo 52 (.app 2 16 (.t 50) (.t 51)), qo 53 (.mov (.t 1)), qo 54 (.app 2 16 (.t 52) (.t 53)), qo 4 (.asg (.t 54))]
def Jqd2 (p : Nums) : IC := (.region (Jqdd p) [])
@[simp] theorem Jed2 {p : Nums} : EqI (Jqd2 p) (.region (Jqdd p) []) := eqi
def Jtbn (p : Nums) : IC := (.seq (.region [⟨(some 4), (.asg (.c .nils)), none, false⟩] []) (.seq (Jqcy p) (.seq (.block 0 (.loop (Jqd1 p))) (.seq (Jqd2 p) .ret))))
@[simp] def Jqdt (p : Nums) : List IOp := [qo 8 (.mov (.t 0)), qo 9 (.len (.t 8)), qo 10 (.mkslice 2 16 [(.int .i64 0), (.int .i64 0)] (ci 0) (.t 9)), qo 5 (.take (.t 10))]
def Jqdm (p : Nums) : IC := (.region (Jqdt p) [])
@[simp] theorem Jedm {p : Nums} : EqI (Jqdm p) (.region (Jqdt p) []) := eqi
@[simp] def Jqdu (p : Nums) : List IOp := [qo 11 (.mov (.t 0)), qo 12 (.len (.t 11)), qo 13 (.mov (ci 0))]
def Jqdn (p : Nums) : IC := (.region (Jqdu p) [])
@[simp] theorem Jedn {p : Nums} : EqI (Jqdn p) (.region (Jqdu p) []) := eqi
@[simp] def Jqdv (p : Nums) : List IOp := [qo 15 (.iaddr 2 (.t 11) (.t 13)), qo 16 (.load (some 2) (.t 15)), qo 7 (.alloc [(zi 0), (zi 0)]), qn (.store 2 (.t 7) (.t 16))]
def Jqdo (p : Nums) : IC := (.region (Jqdv p) [])
@[simp] theorem Jedo {p : Nums} : EqI (Jqdo p) (.region (Jqdv p) []) := eqi
@[simp] def Jqdw (p : Nums) : List IOp := [qo 17 (.mov (.t 1)), qo 18 (.load (some 2) (.t 7)), qo 19 (.callv (.t 17) [(.t 18)])]
def Jqdp (p : Nums) : IC := (.region (Jqdw p) [])
@[simp] theorem Jedp {p : Nums} : EqI (Jqdp p) (.region (Jqdw p) []) := eqi
@[simp] def Jqdx (p : Nums) : List IOp := [qo 20 (.mov (.t 5)), qo 21 (.load (some 2) (.t 7)), qo 22 (.bslice 2 1 [(.int .i64 0), (.int .i64 0)] [(0, (.t 21))]), qo 23 (.app 2 16 (.t 20) (.t 22)), qo 5 (.take (.t 23))]
def Jqdq (p : Nums) : IC := (.region (Jqdx p) [])
@[simp] theorem Jedq {p : Nums} : EqI (Jqdq p) (.region (Jqdx p) []) := eqi
def Jqdr (p : Nums) : IC := (.seq (Jqdo p) (.seq (Jqdp p) (.cond (.t 19) (Jqdq p) .skip)))
@[simp] theorem Jedr {p : Nums} : EqI (Jqdr p) (.seq (Jqdo p) (.seq (Jqdp p) (.cond (.t 19) (Jqdq p) .skip))) := eqi
def Jqds (p : Nums) : IC := (.seq (.region [⟨(some 14), (.bin .lss (.t 13) (.t 12)), none, false⟩] []) (.seq (.cond (.t 14) .skip (.exit 0)) (.seq (.block 1 (Jqdr p)) (.region [⟨(some 24), (.bin .add (.t 13) (.c (.d (.int .i64 1)))), none, false⟩, ⟨(some 13), (.mov (.t 24)), none, false⟩] []))))
@[simp] theorem Jeds {p : Nums} : EqI (Jqds p) (.seq (.region [⟨(some 14), (.bin .lss (.t 13) (.t 12)), none, false⟩] []) (.seq (.cond (.t 14) .skip (.exit 0)) (.seq (.block 1 (Jqdr p)) (.region [⟨(some 24), (.bin .add (.t 13) (.c (.d (.int .i64 1)))), none, false⟩, ⟨(some 13), (.mov (.t 24)), none, false⟩] [])))) := eqi
def Jtbo (p : Nums) : IC := (.seq (.region [⟨(some 4), (.asg (.c .nils)), none, false⟩] []) (.seq (Jqdm p) (.seq (.seq (Jqdn p) (.block 0 (.loop (Jqds p)))) (.seq (.region [⟨(some 25), (.mov (.t 5)), none, false⟩, ⟨(some 4), (.take (.t 25)), none, false⟩] []) .ret))))
@[simp] def Jqby (p : Nums) : List IOp := [qo 4 (.faddr 0 (.t 2)), qo 5 (.load none (.t 4)), qo 6 (.load none (.t 1)), qo 7 (.bin .neq (.t 5) (.t 6)), qo 3 (.asg (.t 7))]
def Jqbx (p : Nums) : IC := (.region (Jqby p) [])
@[simp] theorem Jebx {p : Nums} : EqI (Jqbx p) (.region (Jqby p) []) := eqi
def Jtbi (p : Nums) : IC := (.seq (.region [⟨(some 2), (.box (.t 0)), none, false⟩, ⟨(some 3), (.asg (.c (.d (.bool false)))), none, false⟩] []) (.seq (Jqbx p) .ret))
@[simp] def Jqbu (p : Nums) : List IOp := [qo 4 (.faddr 1 (.t 2)), qo 5 (.load none (.t 4)), qo 6 (.load none (.t 1)), qo 7 (.bin .neq (.t 5) (.t 6)), qo 3 (.asg (.t 7))]
def Jqbt (p : Nums) : IC := (.region (Jqbu p) [])
@[simp] theorem Jebt {p : Nums} : EqI (Jqbt p) (.region (Jqbu p) []) := eqi
def Jtbg (p : Nums) : IC := (.seq (.region [⟨(some 2), (.box (.t 0)), none, false⟩, ⟨(some 3), (.asg (.c (.d (.bool false)))), none, false⟩] []) (.seq (Jqbt p) .ret))
@[simp] def Jqbn (p : Nums) : List IOp := [qo 7 (.mov (.t 0)), qo 8 (.load (some 2) (.t 3)), qo 9 (.call p.pairset_find [(.t 7), (.t 8)]), qo 5 (.asg (.t 9))]
def Jqbh (p : Nums) : IC := (.region (Jqbn p) [])
@[simp] theorem Jebh {p : Nums} : EqI (Jqbh p) (.region (Jqbn p) []) := eqi
@[simp] def Jqbo (p : Nums) : List IOp := [qo 10 (.mov (.t 0)), qo 11 (.len (.t 10)), qo 12 (.bin .add (.t 11) (ci 1)), qo 13 (.mkslice 2 16 [(.int .i64 0), (.int .i64 0)] (ci 0) (.t 12)), qo 6 (.asg (.t 13))]
def Jqbi (p : Nums) : IC := (.region (Jqbo p) [])
@[simp] theorem Jebi {p : Nums} : EqI (Jqbi p) (.region (Jqbo p) []) := eqi
@[simp] def Jqbp (p : Nums) : List IOp := [qp 14 (.mov (.t 6)), qp 15 (.mov (.t 0)), qp 16 (.mov (.t 5)), qp 17 (.slc 2 (.t 15) none (some (.t 16))), qp 18 (.appq 2 16 (.t 14) (.t 17) 6), qp 19 (.load (some 2) (.t 3)), qp 20 (.bslice 2 1 [(.int .i64 0), (.int .i64 0)] [(0, (.t 19))]), qo 21 (.app 2 16 (.t 18) (.t 20)), qo 6 (.asg (.t 21))]
def Jqbj (p : Nums) : IC := (.region (Jqbp p) [41])
@[simp] theorem Jebj {p : Nums} : EqI (Jqbj p) (.region (Jqbp p) [41]) := eqi
@[simp] def Jqbq (p : Nums) : List IOp := [qp 22 (.mov (.t 5)), qp 23 (.mov (.t 0)), qp 24 (.len (.t 23)), qo 25 (.bin .lss (.t 22) (.t 24)), qo 26 (.mov (.t 25)), ⟨(some 27), (.mov (.t 0)), (some (26, true)), true⟩, ⟨(some 28), (.mov (.t 5)), (some (26, true)), true⟩, ⟨(some 29), (.iaddr 2 (.t 27) (.t 28)), (some (26, true)), true⟩, ⟨(some 30), (.load (some 2) (.t 29)), (some (26, true)), true⟩, ⟨(some 31), (.load (some 2) (.t 3)), (some (26, true)), true⟩, ⟨(some 32), (.eqs false [.int, .int] (.t 30) (.t 31)), (some (26, true)), false⟩, qo 33 (.pick (.t 26) (.t 32) (.c (.d (.bool false))))]
def Jqbk (p : Nums) : IC := (.region (Jqbq p) [])
@[simp] theorem Jebk {p : Nums} : EqI (Jqbk p) (.region (Jqbq p) []) := eqi
@[simp] def Jqbr (p : Nums) : List IOp := [qo 34 (.mov (.t 5)), qo 35 (.bin .add (.t 34) (ci 1)), qo 5 (.asg (.t 35))]
def Jqbl (p : Nums) : IC := (.region (Jqbr p) [])
@[simp] theorem Jebl {p : Nums} : EqI (Jqbl p) (.region (Jqbr p) []) := eqi
@[simp] def Jqbs (p : Nums) : List IOp := [qo 36 (.mov (.t 6)), qo 37 (.mov (.t 0)), qo 38 (.mov (.t 5)), qo 39 (.slc 2 (.t 37) (some (.t 38)) none), qo 40 (.app 2 16 (.t 36) (.t 39)), qo 4 (.asg (.t 40))]
def Jqbm (p : Nums) : IC := (.region (Jqbs p) [])
@[simp] theorem Jebm {p : Nums} : EqI (Jqbm p) (.region (Jqbs p) []) := eqi
def Jtbe (p : Nums) : IC := (.seq (.region [⟨(some 3), (.box (.t 1)), none, false⟩, ⟨(some 4), (.asg (.c .nils)), none, false⟩] []) (.seq (Jqbh p) (.seq (Jqbi p) (.seq (Jqbj p) (.seq (.seq (Jqbk p) (.cond (.t 33) (Jqbl p) .skip)) (.seq (Jqbm p) .ret))))))
@[simp] def Jq2z (p : Nums) : List IOp := [qo 5 (.box (.t 1)), qo 6 (.box (.t 2)), qo 8 (.alloc [(zi 0)]), qo 9 (.alloc [(zi 0)])]
def Jq2y (p : Nums) : IC := (.region (Jq2z p) [])
@[simp] theorem Je2y {p : Nums} : EqI (Jq2y p) (.region (Jq2z p) []) := eqi
def Jtag (p : Nums) : IC := (Jq2y p)
@[simp] def Jq3f (p : Nums) : List IOp := [qo 13 (.mov (.t 3)), qo 14 (.len (.t 13)), qo 15 (.mov (ci 0))]
def Jq37 (p : Nums) : IC := (.region (Jq3f p) [])
@[simp] theorem Je37 {p : Nums} : EqI (Jq37 p) (.region (Jq3f p) []) := eqi
@[simp] def Jq3g (p : Nums) : List IOp := [qo 17 (.iaddr 6 (.t 13) (.t 15)), qo 18 (.load (some 6) (.t 17)), qo 11 (.alloc [(zi 0), (zi 0), (zi 0), (zi 0), (zi 0), (zi 0)]), qn (.store 6 (.t 11) (.t 18))]
def Jq38 (p : Nums) : IC := (.region (Jq3g p) [])
@[simp] theorem Je38 {p : Nums} : EqI (Jq38 p) (.region (Jq3g p) []) := eqi
@[simp] def Jq3h (p : Nums) : List IOp := [qo 19 (.mov (.t 0)), qo 20 (.load (some 5) (.t 5)), qo 21 (.load (some 5) (.t 6)), qo 22 (.load (some 6) (.t 11)), qo 23 (.call p.blockcheck_checker_row [(.t 19), (.t 20), (.t 21), (.t 22)])]
def Jq39 (p : Nums) : IC := (.region (Jq3h p) [])
@[simp] theorem Je39 {p : Nums} : EqI (Jq39 p) (.region (Jq3h p) []) := eqi
def Jq3a (p : Nums) : IC := (.seq (Jq38 p) (Jq39 p))
@[simp] theorem Je3a {p : Nums} : EqI (Jq3a p) (.seq (Jq38 p) (Jq39 p)) := eqi
def Jq3b (p : Nums) : IC := (.seq (.region [⟨(some 16), (.bin .lss (.t 15) (.t 14)), none, false⟩] []) (.seq (.cond (.t 16) .skip (.exit 0)) (.seq (.block 1 (Jq3a p)) (.region [⟨(some 24), (.bin .add (.t 15) (.c (.d (.int .i64 1)))), none, false⟩, ⟨(some 15), (.mov (.t 24)), none, false⟩] []))))
@[simp] theorem Je3b {p : Nums} : EqI (Jq3b p) (.seq (.region [⟨(some 16), (.bin .lss (.t 15) (.t 14)), none, false⟩] []) (.seq (.cond (.t 16) .skip (.exit 0)) (.seq (.block 1 (Jq3a p)) (.region [⟨(some 24), (.bin .add (.t 15) (.c (.d (.int .i64 1)))), none, false⟩, ⟨(some 15), (.mov (.t 24)), none, false⟩] [])))) := eqi
@[simp] def Jq3i (p : Nums) : List IOp := [qo 25 (.faddr 1 (.t 5)), qo 26 (.faddr 0 (.t 25)), qo 27 (.load none (.t 26)), qo 28 (.bin .neq (.t 27) (ci 1))]
def Jq3c (p : Nums) : IC := (.region (Jq3i p) [])
@[simp] theorem Je3c {p : Nums} : EqI (Jq3c p) (.region (Jq3i p) []) := eqi
@[simp] def Jq3j (p : Nums) : List IOp := [qo 29 (.mov (.t 0)), qo 30 (.faddr 1 (.t 5)), qo 31 (.faddr 1 (.t 30)), qo 32 (.load none (.t 31)), qo 33 (.faddr 1 (.t 6)), qo 34 (.faddr 1 (.t 33)), qo 35 (.load none (.t 34)), qo 36 (.faddr 0 (.t 6)), qo 37 (.load none (.t 36)), qo 38 (.len (.t 37)), qo 39 (.call p.blockcheck_checker_use [(.t 29), (.t 32), (.t 35), (.t 38)])]
def Jq3d (p : Nums) : IC := (.region (Jq3j p) [])
@[simp] theorem Je3d {p : Nums} : EqI (Jq3d p) (.region (Jq3j p) []) := eqi
@[simp] def Jq3k (p : Nums) : List IOp := [qp 40 (.faddr 0 (.t 6)), qp 41 (.load none (.t 40)), qp 42 (.len (.t 41)), qm (.storeq 1 (.t 8) (ci 0) [(40, 1)]), qn (.store 1 (.t 9) (.t 42))]
def Jq3e (p : Nums) : IC := (.region (Jq3k p) [])
@[simp] theorem Je3e {p : Nums} : EqI (Jq3e p) (.region (Jq3k p) []) := eqi
def Jtai (p : Nums) : IC := (.seq (.seq (Jq37 p) (.block 0 (.loop (Jq3b p)))) (.seq (.seq (Jq3c p) (.cond (.t 28) (Jq3d p) .skip)) (.seq (Jq3e p) .ret)))
@[simp] def Jq34 (p : Nums) : List IOp := [qo 9 (.mov (.t 2)), qo 10 (.tas p.ty_bcfail (.t 9)), qo 8 (.mov (.t 10)), qo 11 (.ext (.t 8) 0), qo 12 (.ext (.t 8) 1), qo 3 (.alloc [(zi 0), (zi 0)]), qn (.store 2 (.t 3) (.t 11)), qo 4 (.asg (.t 12))]
def Jq30 (p : Nums) : IC := (.region (Jq34 p) [])
@[simp] theorem Je30 {p : Nums} : EqI (Jq30 p) (.region (Jq34 p) []) := eqi
@[simp] def Jq35 (p : Nums) : List IOp := [qo 15 (.mov (.t 2)), qn (.pan (.t 15))]
def Jq31 (p : Nums) : IC := (.region (Jq35 p) [])
@[simp] theorem Je31 {p : Nums} : EqI (Jq31 p) (.region (Jq35 p) []) := eqi
@[simp] def Jq36 (p : Nums) : List IOp := [qp 16 (.faddr 0 (.t 3)), qp 17 (.load none (.t 16)), qp 18 (.faddr 1 (.t 3)), qp 19 (.load none (.t 18)), qm (.storeq 1 (.t 0) (.t 17) [(18, 1)]), qn (.store 1 (.t 1) (.t 19))]
def Jq32 (p : Nums) : IC := (.region (Jq36 p) [])
@[simp] theorem Je32 {p : Nums} : EqI (Jq32 p) (.region (Jq36 p) []) := eqi
def Jq33 (p : Nums) : IC := (.seq (Jq30 p) (.seq (.seq (.region [⟨(some 13), (.mov (.t 4)), none, false⟩, ⟨(some 14), (.un .not (.t 13)), none, false⟩] []) (.cond (.t 14) (Jq31 p) .skip)) (Jq32 p)))
@[simp] theorem Je33 {p : Nums} : EqI (Jq33 p) (.seq (Jq30 p) (.seq (.seq (.region [⟨(some 13), (.mov (.t 4)), none, false⟩, ⟨(some 14), (.un .not (.t 13)), none, false⟩] []) (.cond (.t 14) (Jq31 p) .skip)) (Jq32 p))) := eqi
def Jtah (p : Nums) : IC := (.seq (.region [⟨(some 6), (.mov (.t 2)), none, false⟩, ⟨(some 7), (.isnif true (.t 6)), none, false⟩] []) (.cond (.t 7) (Jq33 p) .skip))
structure All (P : Program) (p : Nums) : Prop where
 law22_SpillallAccepted : Has P p.law22_SpillallAccepted 1 [(.tmp 2)] (Jtat p)
 checker_Valid : Has P p.checker_Valid 1 [(.tmp 2)] (Jtal p)
 checker_Check : Has P p.checker_Check 1 [(.cell 2 (some 7))] (Jtak p)
 ref16_Same : Has P p.ref16_Same 2 [(.tmp 4)] (Jtc3 p)
 law22_awake : Has P p.law22_awake 0 [(.tmp 0)] (Jtau p)
 ref07_Few : Has P p.ref07_Few 1 [(.tmp 2)] (Jtbv p)
 ref07_Check : Has P p.ref07_Check 1 [(.tmp 2)] (Jtbt p)
 spillall_Cert : Has P p.spillall_Cert 1 [(.cell 2 (some 8)), (.tmp 3)] (Jtcg p)
 ref07_Same : Has P p.ref07_Same 2 [(.tmp 4)] (Jtbx p)
 source_Check : Has P p.source_Check 1 [(.tmp 2)] (Jtc7 p)
 machine_Check : Has P p.machine_Check 1 [(.tmp 2)] (Jtb0 p)
 edge_Valid : Has P p.edge_Valid 5 [(.tmp 10)] (Jtaq p)
 checker_begin : Has P p.checker_begin 1 [(.cell 2 (some 7))] (Jtam p)
 blockcheck_Check : Has P p.blockcheck_Check 4 [(.cell 8 (some 5))] (Jtab p)
 source_Successors : Has P p.source_Successors 1 [(.tmp 2)] (Jtca p)
 edge_Implies : Has P p.edge_Implies 2 [(.cell 4 (some 2)), (.tmp 5)] (Jtao p)
 source_Code : Has P p.source_Code 1 [(.tmp 2)] (Jtc8 p)
 machine_Code : Has P p.machine_Code 1 [(.tmp 2)] (Jtb1 p)
 ref05_UsesA : Has P p.ref05_UsesA 1 [(.tmp 2)] (Jtbq p)
 ref05_UsesB : Has P p.ref05_UsesB 1 [(.tmp 2)] (Jtbr p)
 ref05_UsesD : Has P p.ref05_UsesD 1 [(.tmp 2)] (Jtbs p)
 ref08_Same : Has P p.ref08_Same 2 [(.tmp 4)] (Jtc0 p)
 ref15_Same : Has P p.ref15_Same 2 [(.tmp 4)] (Jtc2 p)
 spillall_Block : Has P p.spillall_Block 1 [(.cell 2 (some 5))] (Jtcf p)
 spillall_Moves : Has P p.spillall_Moves 1 [(.tmp 2)] (Jtch p)
 ref07_Code : Has P p.ref07_Code 1 [(.tmp 2)] (Jtbu p)
 ref07_Instr : Has P p.ref07_Instr 2 [(.tmp 4)] (Jtbw p)
 ref07_Term : Has P p.ref07_Term 3 [(.tmp 6)] (Jtby p)
 slices_Clone_Instr : Has P p.slices_Clone_Instr 1 [(.tmp 2)] (Jtc4 p)
 spillall_invariant : Has P p.spillall_invariant 1 [(.tmp 2)] (Jtck p)
 source_block : Has P p.source_block 3 [(.tmp 6)] (Jtcd p)
 machine_block : Has P p.machine_block 2 [(.tmp 4)] (Jtb3 p)
 edge_total : Has P p.edge_total 1 [(.tmp 2)] (Jtas p)
 edge_pairs : Has P p.edge_pairs 4 [(.tmp 8)] (Jtar p)
 edge_Entry : Has P p.edge_Entry 2 [(.cell 4 (some 2)), (.tmp 5)] (Jtan p)
 align_Code : Has P p.align_Code 2 [(.tmp 4), (.tmp 5), (.tmp 6)] (Jta4 p)
 align_Terms : Has P p.align_Terms 2 [(.tmp 4)] (Jta6 p)
 pairset_Make : Has P p.pairset_Make 1 [(.tmp 2)] (Jtbl p)
 blockcheck_checker_run : HasD P p.blockcheck_checker_run 4 [(.cell 8 none), (.cell 9 none)] (Jtag p) (Jtai p) 12 p.blockcheck_checker_run_1 [8, 9] (Jtah p) 5 2
 pairset_Missing : Has P p.pairset_Missing 2 [(.cell 4 (some 2)), (.tmp 5)] (Jtbm p)
 ref11_Same : Has P p.ref11_Same 2 [(.tmp 4)] (Jtc1 p)
 spillall_builder_instr : Has P p.spillall_builder_instr 2 [] (Jtcj p)
 spillall_builder_add : Has P p.spillall_builder_add 2 [] (Jtci p)
 spillall_load : Has P p.spillall_load 2 [(.cell 4 (some 7))] (Jtcl p)
 ref07_in : Has P p.ref07_in 2 [(.tmp 4)] (Jtbz p)
 location_Slot : Has P p.location_Slot 1 [(.tmp 2)] (Jtaz p)
 source_Instr : Has P p.source_Instr 2 [(.tmp 4)] (Jtc9 p)
 source_Term : Has P p.source_Term 3 [(.tmp 6)] (Jtcb p)
 machine_Instr : Has P p.machine_Instr 3 [(.tmp 6)] (Jtb2 p)
 location_InRange : Has P p.location_InRange 3 [(.tmp 6)] (Jtav p)
 pairset_Less : Has P p.pairset_Less 2 [(.tmp 4)] (Jtbk p)
 edge_Initial : Has P p.edge_Initial 2 [(.tmp 4)] (Jtap p)
 align_skip_Instr : Has P p.align_skip_Instr 3 [(.tmp 6)] (Jta9 p)
 align_copied : Has P p.align_copied 1 [(.tmp 2)] (Jta7 p)
 align_skip_Mach : Has P p.align_skip_Mach 3 [(.tmp 6)] (Jtaa p)
 align_moved : Has P p.align_moved 1 [(.tmp 2)] (Jta8 p)
 align_Same : Has P p.align_Same 2 [(.tmp 4)] (Jta5 p)
 slices_Clone_Pair : Has P p.slices_Clone_Pair 1 [(.tmp 2)] (Jtc5 p)
 slices_Compact_Pair : Has P p.slices_Compact_Pair 1 [(.tmp 2)] (Jtc6 p)
 blockcheck_checker_row : Has P p.blockcheck_checker_row 4 [] (Jtaf p)
 blockcheck_checker_use : Has P p.blockcheck_checker_use 4 [] (Jtaj p)
 opcode_Of : Has P p.opcode_Of 1 [(.cell 2 (some 4)), (.tmp 3)] (Jtbb p)
 spillall_store : Has P p.spillall_store 1 [(.cell 2 (some 7))] (Jtcm p)
 location_Reg : Has P p.location_Reg 1 [(.tmp 2)] (Jtay p)
 opcode_Source : Has P p.opcode_Source 1 [(.tmp 2)] (Jtbc p)
 source_within : Has P p.source_within 1 [(.tmp 2)] (Jtce p)
 source_blank : Has P p.source_blank 1 [(.tmp 2)] (Jtcc p)
 opcode_Machine : Has P p.opcode_Machine 1 [(.tmp 2)] (Jtba p)
 machine_others : Has P p.machine_others 0 [(.cell 0 (some 2))] (Jtb7 p)
 machine_moves : Has P p.machine_moves 0 [(.cell 0 (some 2))] (Jtb4 p)
 location_IsSlot : Has P p.location_IsSlot 1 [(.tmp 2)] (Jtax p)
 location_Index : Has P p.location_Index 1 [(.tmp 2)] (Jtaw p)
 blockcheck_checker_cost : Has P p.blockcheck_checker_cost 1 [] (Jtad p)
 blockcheck_checker_become : Has P p.blockcheck_checker_become 3 [] (Jtac p)
 transfer_Copy : Has P p.transfer_Copy 3 [(.tmp 6)] (Jtcn p)
 transfer_Move : Has P p.transfer_Move 3 [(.tmp 6)] (Jtcp p)
 blockcheck_checker_instr : Has P p.blockcheck_checker_instr 4 [] (Jtae p)
 pairset_Has : Has P p.pairset_Has 2 [(.tmp 4)] (Jtbj p)
 opcode_known : Has P p.opcode_known 1 [(.tmp 2)] (Jtbd p)
 machine_others_1 : Has P p.machine_others_1 3 [(.tmp 6)] (Jtb8 p)
 machine_others_2 : Has P p.machine_others_2 1 [(.tmp 2)] (Jtb9 p)
 machine_moves_1 : Has P p.machine_moves_1 3 [(.tmp 6)] (Jtb5 p)
 machine_moves_2 : Has P p.machine_moves_2 1 [(.tmp 2)] (Jtb6 p)
 transfer_rename : Has P p.transfer_rename 3 [(.tmp 6)] (Jtcq p)
 pairset_DropV : Has P p.pairset_DropV 2 [(.tmp 4)] (Jtbh p)
 pairset_DropL : Has P p.pairset_DropL 2 [(.tmp 4)] (Jtbf p)
 transfer_Define : Has P p.transfer_Define 3 [(.tmp 6)] (Jtco p)
 pairset_find : Has P p.pairset_find 2 [(.tmp 4)] (Jtbp p)
 pairset_Union : Has P p.pairset_Union 2 [(.tmp 4)] (Jtbn p)
 pairset_filter : Has P p.pairset_filter 2 [(.tmp 4)] (Jtbo p)
 pairset_DropV_1 : Has P p.pairset_DropV_1 2 [(.tmp 3)] (Jtbi p)
 pairset_DropL_1 : Has P p.pairset_DropL_1 2 [(.tmp 3)] (Jtbg p)
 pairset_Add : Has P p.pairset_Add 2 [(.tmp 4)] (Jtbe p)
end Go.AE
namespace Go.AE
open Go Go.Sort
theorem Jt6a {P : Program} {f : Nat} {args : List AV} {H : List Blk} {x : AV} (hx : ∀ e rows, x ≠ .own e rows) (hxv : ∀ org e rows, x ≠ .view org e rows)
  (hH : ∀ (b : Nat) (cells : List AV) (j e : Nat) (rows : List (List D)), H[b]? = some (Blk.mem cells) → cells[j]? ≠ some (AV.own e rows))
  (h : ∀ (g : Gh) (vs : Array Value) (w : World), vs.size = args.length → Sim args.length ⟨enum 0 args, H⟩ g ⟨vs, []⟩ w → ∃ v, (∀ F φ w, Rel F φ w x.erase v) ∧ Calls P f vs w fun e w' => e = .returned v ∧ ∃ q os, w' = grow (w.drewN q) os) :
  Jt3p P f args H fun o H' => o = .ret x ∧ H' = H := by
 intro g vs w hvs hs
 obtain ⟨v, hv, hc⟩ := h g vs w hvs hs
 refine hc.mono ?_
 rintro e w' ⟨rfl, q, os, rfl⟩
 have hheap : (grow (w.drewN q) os).heap = w.heap ++ os := rfl
 have hsame : ∀ r, r < w.heap.size → (grow (w.drewN q) os).heap[r]? = w.heap[r]? := by
  intro r hr; rw [hheap, Array.getElem?_append, if_pos hr]
 have hst : Stab g.F w g.F (grow (w.drewN q) os) := by
  refine ⟨fun _ _ => Nat.le_refl _, fun r j u hj hu => ?_, Jt7c hsame⟩
  have hlt := World.block_lt_of_cell? w ⟨r, j, none⟩ hu
  simp only [World.cell?] at hu ⊢
  rw [hsame r hlt]; exact hu
 have hno : ∀ p e rows, AP ⟨[(0, x)], H⟩ p ≠ some (.own e rows) := by
  intro p e rows hp
  cases p with
  | tmp t =>
   simp only [AP, get] at hp
   split at hp
   ·injection hp with hp; exact hx e rows hp
   ·cases hp
  | cell b j =>
   simp only [AP] at hp
   split at hp
   ·rename_i cells hb; exact hH b cells j e rows hb hp
   ·cases hp
 refine ⟨.ret x, H, g, v, ⟨rfl, rfl⟩, rfl, ?_, ⟨rfl, rfl, rfl, ?_, fun r hr _ => ⟨hsame r hr, rfl⟩, hst⟩, fun _ _ _ h => h, Nat.le_refl _, ?_⟩
 ·refine { size := by simp, env := ?_, inj := hs.inj, lt := ?_, dom := hs.dom, mem := ?_, iter := ?_, glob := ?_, own := ?_, excl := ?_, apart := ?_, view := ?_ }
  ·intro t y hy
   simp only [AOut.val, get] at hy
   split at hy
   ·rename_i h0; subst h0; injection hy with hy; subst hy; exact hv _ _ _
   ·cases hy
  ·intro b r hb
   obtain ⟨h1, h2, h3⟩ := hs.lt b r hb
   refine ⟨?_, h2, h3⟩
   rw [hheap]; simp only [Array.size_append]; omega
  ·intro b cells r hb hr
   obtain ⟨c, e, h1, h2, h3⟩ := hs.mem b cells r hb hr
   refine ⟨c, e, by rw [hsame r (hs.lt b r hr).1]; exact h1, h2, fun j y hy => ?_⟩
   obtain ⟨k1, u, k2, k3⟩ := h3 j y hy
   exact ⟨k1, u, k2, k3.stab hst fun _ _ h => h⟩
  ·intro b s pos r hb hr
   rw [hsame r (hs.lt b r hr).1]; exact hs.iter b s pos r hb hr
  ·intro b s pos r hb hr
   rw [hsame r (hs.lt b r hr).1]; exact hs.glob b s pos r hb hr
  ·exact fun p e rows v hp _ => absurd hp (hno p e rows)
  ·rintro p p' r ⟨e, rows, _, hp, _⟩; exact absurd hp (hno p e rows)
  ·rintro p r b ⟨e, rows, _, hp, _⟩; exact absurd hp (hno p e rows)
  ·intro t org e rows hy
   simp only [AOut.val, get] at hy
   split at hy
   ·injection hy with hy; exact absurd hy (hxv org e rows)
   ·cases hy
 ·rw [hheap]; simp only [Array.size_append]; exact Nat.le_add_right _ _
 ·rintro r (⟨b, hb⟩ | ⟨p, e, rows, _, hp, _⟩)
  ·exact .inl (.inl ⟨b, hb⟩)
  ·exact absurd hp (hno p e rows)
abbrev I (n : Int) : D := .int .i64 n
abbrev AI (n : Int) : AV := .d (.int .i64 n)
abbrev AB (b : Bool) : AV := .d (.bool b)
structure Pair where (v l : Int)
 deriving DecidableEq, Inhabited
def Pair.row (q : Pair) : List D := [I q.v, I q.l]
def Pair.av (q : Pair) : AV := .agg [AI q.v, AI q.l]
def pairsD (l : List Pair) : D := .sl (l.map Pair.row)
theorem HasL.cons_inv {l : LT} {ls : List LT} {ds : List D} (h : HasL (l :: ls) ds) : ∃ d ds', ds = d :: ds' ∧ HasT l d ∧ HasL ls ds' := by
 obtain ⟨h1, h2⟩ := h
 cases ds with
 | nil => simp at h1
 | cons d ds => exact ⟨d, ds, rfl, h2 0 l d rfl rfl, by simpa using h1, fun j l' x a b => h2 (j + 1) l' x (by simpa using a) (by simpa using b)⟩
theorem HasL.nil_inv {ds : List D} (h : HasL [] ds) : ds = [] := by
 have := h.1; simpa using this
theorem HasT.int_inv {k : IntKind} {d : D} (h : HasT (.int k) d) : ∃ n, d = .int k n ∧ (Lit.int k n).wf = true := by
 cases h with
 | int _ n h => exact ⟨n, rfl, h⟩
theorem HasT.sl_inv {ls : List LT} {d : D} (h : HasT (.sl ls) d) : ∃ rows, d = .sl rows ∧ rows.length ≤ maxLen ∧ ∀ r ∈ rows, HasL ls r := by
 cases h with
 | sl _ rows hl h0 h => exact ⟨rows, rfl, hl, fun r hr => ⟨h0 r hr, h r hr⟩⟩
theorem Jtjk {α : Type} {g : α → List D} {Q : List D → Prop} (h : ∀ r, Q r → ∃ x, r = g x) : ∀ {rows : List (List D)}, (∀ r ∈ rows, Q r) → ∃ l : List α, rows = l.map g := by
 intro rows
 induction rows with
 | nil => intro _; exact ⟨[], rfl⟩
 | cons r rows ih =>
  intro hq
  obtain ⟨x, rfl⟩ := h r (hq r (by simp))
  obtain ⟨l, rfl⟩ := ih fun r hr => hq r (by simp [hr])
  exact ⟨x :: l, rfl⟩
def ltI : LT := .int .i64
def lessP (a b : Pair) : Bool := if a.v = b.v then decide (a.l < b.l) else decide (a.v < b.v)
theorem Jtdr {a b : Pair} : lessP a b = true ↔ a.v < b.v ∨ (a.v = b.v ∧ a.l < b.l) := by
 unfold lessP; split <;> simp <;> omega
theorem Jtdu {a b : Pair} (h1 : lessP a b = false) (h2 : lessP b a = false) : a = b := by
 have h1 : ¬ lessP a b = true := by simp [h1]
 have h2 : ¬ lessP b a = true := by simp [h2]
 rw [Jtdr] at h1 h2
 obtain ⟨a1, a2⟩ := a; obtain ⟨b1, b2⟩ := b
 simp only [Pair.mk.injEq]; simp only at h1 h2; omega
theorem Jtdv {a b c : Pair} (h1 : lessP a b = true) (h2 : lessP b c = true) : lessP a c = true := by
 rw [Jtdr] at *; omega
theorem Jtds (a : Pair) : lessP a a = false := by
 cases h : lessP a a with
 | false => rfl
 | true => rw [Jtdr] at h; omega
theorem Jtdq {a b : Pair} (h1 : lessP a b = true) : lessP b a = false := by
 cases h : lessP b a with
 | false => rfl
 | true => have := Jtdv h1 h; rw [Jtds] at this; cases this
def stepA (p : Pair) (s : List Pair × Bool) (q : Pair) : List Pair × Bool :=
 let s := if s.2 = false ∧ lessP q p = false then (s.1 ++ [p], true) else s
 if q = p then s else (s.1 ++ [q], s.2)
def foldA (p : Pair) (l : List Pair) : List Pair × Bool := l.foldl (stepA p) ([], false)
def addP (l : List Pair) (p : Pair) : List Pair := if (foldA p l).2 = true then (foldA p l).1 else (foldA p l).1 ++ [p]
def makeP (l : List Pair) : List Pair := l.foldl addP []
def missP (a b : List Pair) : Option Pair := a.find? fun q => !decide (q ∈ b)
theorem Jt85 {a b : Pair} (h1 : a.v = b.v) (h2 : a.l = b.l) : a = b := by cases a; cases b; simp_all
theorem Jtgw (a b : Pair) : (decide (a.v = b.v) && decide (a.l = b.l)) = decide (a = b) := by
 by_cases h : a = b
 ·subst h; simp
 ·rw [decide_eq_false h]
  cases h1 : decide (a.v = b.v) <;> cases h2 : decide (a.l = b.l) <;> simp_all
  exact h (Jt85 h1 h2)
theorem Jtgv (a b : Pair) : (a.v == b.v && a.l == b.l) = decide (a = b) := by
 rw [← Jtgw]; rfl
def Srt (l : List Pair) : Prop := l.Pairwise fun a b => lessP a b = true
theorem Jtmj {a : Pair} {l : List Pair} : Srt (a :: l) ↔ (∀ b ∈ l, lessP a b = true) ∧ Srt l := List.pairwise_cons
theorem Jtmo {l : List Pair} (h : Srt l) {i j : Nat} (hij : i < j) (hj : j < l.length) : lessP (l[i]'(by omega)) l[j] = true := List.pairwise_iff_getElem.1 h i j (by omega) hj hij
theorem Jtmi {l : List Pair} : Srt l ↔ ∀ k, (h : k + 1 < l.length) → lessP (l[k]) (l[k+1]) = true := by
 constructor
 ·intro h k hk; exact Jtmo h (by omega) hk
 ·intro h
  refine List.pairwise_iff_getElem.2 fun i j hi hj hij => ?_
  obtain ⟨n, rfl⟩ : ∃ n, j = i + 1 + n := ⟨j - (i + 1), by omega⟩
  induction n with
  | zero => exact h i hj
  | succ n ih => exact Jtdv (ih (by omega) (by omega)) (h (i + 1 + n) (by omega))
theorem Jtmm : ∀ {a b : List Pair}, Srt a → Srt b → (∀ q, q ∈ a ↔ q ∈ b) → a = b := by
 intro a
 induction a with
 | nil =>
  intro b _ _ h
  cases b with
  | nil => rfl
  | cons y b => have := (h y).2 (by simp); cases this
 | cons x a ih =>
  intro b ha hb h
  cases b with
  | nil => have := (h x).1 (by simp); cases this
  | cons y b =>
   rw [Jtmj] at ha hb
   have exy : x = y := by
    have h1 := (h x).1 (by simp)
    have h2 := (h y).2 (by simp)
    rw [List.mem_cons] at h1 h2
    rcases h1 with h1 | h1
    ·exact h1
    ·rcases h2 with h2 | h2
     ·exact h2.symm
     ·have := Jtdq (hb.1 x h1); rw [ha.1 y h2] at this; cases this
   subst exy
   have : a = b := by
    refine ih ha.2 hb.2 fun q => ?_
    have hq := h q
    rw [List.mem_cons, List.mem_cons] at hq
    constructor
    ·intro hqa
     rcases hq.1 (.inr hqa) with e | e
     ·subst e; have := ha.1 q hqa; rw [Jtds] at this; cases this
     ·exact e
    ·intro hqb
     rcases hq.2 (.inr hqb) with e | e
     ·subst e; have := hb.1 q hqb; rw [Jtds] at this; cases this
     ·exact e
   rw [this]
def posP (l : List Pair) (p : Pair) : Nat := (l.takeWhile fun q => lessP q p).length
def insP (l : List Pair) (p : Pair) : List Pair := (l.takeWhile fun q => lessP q p) ++ p :: (l.dropWhile fun q => lessP q p).filter fun q => decide (q ≠ p)
theorem Jtdt {a b : Pair} (h : lessP a b = true) : a ≠ b := by rintro rfl; rw [Jtds] at h; cases h
theorem Jt93 (p : Pair) (l out : List Pair) : l.foldl (stepA p) (out, true) = (out ++ l.filter (fun q => decide (q ≠ p)), true) := by
 induction l generalizing out with
 | nil => simp
 | cons q l ih =>
  by_cases e : q = p
  ·simp [stepA, e, ih]
  ·simp [stepA, e, ih]
theorem Jt94 (p : Pair) (l out : List Pair) : l.foldl (stepA p) (out, false) = if (l.dropWhile fun q => lessP q p) = [] then (out ++ l, false) else (out ++ insP l p, true) := by
 induction l generalizing out with
 | nil => simp
 | cons q l ih =>
  cases h : lessP q p with
  | true =>
   have hne := Jtdt h
   simp only [List.foldl_cons, stepA, h, hne, if_false, and_false, ih, List.dropWhile_cons, if_true, Bool.true_eq_false, insP, List.takeWhile_cons]
   split <;> simp [List.append_assoc]
  | false =>
   simp only [List.foldl_cons, stepA, h, and_self, if_true, List.dropWhile_cons, Bool.false_eq_true, if_false, reduceCtorEq, insP, List.takeWhile_cons, List.nil_append]
   by_cases e : q = p
   ·simp [e, Jt93]
   ·simp [e, Jt93]
theorem Jt4f (l : List Pair) (p : Pair) : addP l p = insP l p := by
 unfold addP foldA
 rw [Jt94]
 split
 ·rename_i h
  simp only [List.nil_append, Bool.false_eq_true, if_false, insP, h, List.filter_nil]
  have : l.takeWhile (fun q => lessP q p) = l := by
   have e := List.takeWhile_append_dropWhile (p := fun q => lessP q p) (l := l)
   rw [h, List.append_nil] at e; exact e
  rw [this]
 ·simp
theorem Jtey {l : List Pair} {p q : Pair} : q ∈ addP l p ↔ q = p ∨ q ∈ l := by
 rw [Jt4f, insP]
 have e := List.takeWhile_append_dropWhile (p := fun q => lessP q p) (l := l)
 have e2 : q ∈ l ↔ q ∈ l.takeWhile (fun q => lessP q p) ∨ q ∈ l.dropWhile (fun q => lessP q p) := by
  rw [← List.mem_append, e]
 simp only [List.mem_append, List.mem_cons, List.mem_filter, decide_eq_true_eq, e2]
 by_cases h : q = p <;> simp [h]
theorem Jt7o {l : List Pair} {p : Pair} (h : Srt l) : ∀ q ∈ l.dropWhile (fun q => lessP q p), lessP q p = false := by
 induction l with
 | nil => intro q hq; simp at hq
 | cons x l ih =>
  intro q hq
  rw [Jtmj] at h
  cases hx : lessP x p with
  | true => rw [List.dropWhile_cons, hx, if_pos rfl] at hq; exact ih h.2 q hq
  | false =>
   rw [List.dropWhile_cons, hx, if_neg (by simp)] at hq
   rcases List.mem_cons.1 hq with rfl | hq
   ·exact hx
   ·cases hqp : lessP q p with
    | false => rfl
    | true => rw [Jtdv (h.1 q hq) hqp] at hx; cases hx
theorem Jtnc {l : List Pair} {p : Pair} : ∀ q ∈ l.takeWhile (fun q => lessP q p), lessP q p = true := by
 induction l with
 | nil => intro q hq; simp at hq
 | cons x l ih =>
  intro q hq
  cases hx : lessP x p with
  | true =>
   rw [List.takeWhile_cons, hx, if_pos rfl] at hq
   rcases List.mem_cons.1 hq with rfl | hq
   ·exact hx
   ·exact ih q hq
  | false => rw [List.takeWhile_cons, hx, if_neg (by simp)] at hq; simp at hq
theorem Jtmt {a b : List Pair} (h : a.Sublist b) (hb : Srt b) : Srt a := List.Pairwise.sublist h hb
theorem Jtmh {l : List Pair} {p : Pair} (h : Srt l) : Srt (addP l p) := by
 rw [Jt4f, insP]
 refine List.pairwise_append.2 ⟨Jtmt (List.takeWhile_sublist _) h, Jtmj.2 ⟨?_, ?_⟩, ?_⟩
 ·intro b hb
  rw [List.mem_filter, decide_eq_true_eq] at hb
  have h1 := Jt7o h b hb.1
  cases h2 : lessP p b with
  | true => rfl
  | false => exact absurd (Jtdu h2 h1).symm hb.2
 ·exact Jtmt (List.filter_sublist.trans (List.dropWhile_sublist _)) h
 ·intro a ha b hb
  have h1 := Jtnc a ha
  rcases List.mem_cons.1 hb with rfl | hb
  ·exact h1
  ·rw [List.mem_filter, decide_eq_true_eq] at hb
   have h2 := Jt7o h b hb.1
   cases h3 : lessP p b with
   | true => exact Jtdv h1 h3
   | false => exact absurd (Jtdu h3 h2).symm hb.2
theorem Jter (l : List Pair) (q : Pair) : makeP (l ++ [q]) = addP (makeP l) q := by simp [makeP]
theorem Jteq {motive : List Pair → Prop} (h0 : motive []) (h1 : ∀ l q, motive l → motive (l ++ [q])) (l : List Pair) : motive l := by
 generalize hn : l.length = n
 induction n generalizing l with
 | zero => have : l = [] := List.length_eq_zero_iff.1 hn; subst this; exact h0
 | succ n ih =>
  have hne : l ≠ [] := by rintro rfl; simp at hn
  rw [← List.dropLast_concat_getLast hne]
  exact h1 _ _ (ih _ (by simp [hn]))
theorem Jtmp (l : List Pair) : Srt (makeP l) := by
 induction l using Jteq with
 | h0 => exact List.Pairwise.nil
 | h1 l q ih => rw [Jter]; exact Jtmh ih
theorem Jtf1 {l : List Pair} {q : Pair} : q ∈ makeP l ↔ q ∈ l := by
 induction l using Jteq with
 | h0 => simp [makeP]
 | h1 l x ih => rw [Jter, Jtey, ih]; simp [or_comm]
theorem Jtms {l : List Pair} (h : Srt l) : l.Nodup := List.Pairwise.imp (fun h => Jtdt h) h
theorem Jt4g (l : List Pair) (p : Pair) : (addP l p).length ≤ l.length + 1 := by
 rw [Jt4f, insP]
 have e := congrArg List.length (List.takeWhile_append_dropWhile (p := fun q => lessP q p) (l := l))
 have e2 := List.length_filter_le (fun q => decide (q ≠ p)) (l.dropWhile fun q => lessP q p)
 simp only [List.length_append, List.length_cons] at e ⊢; omega
theorem Jtep (l : List Pair) : (makeP l).length ≤ l.length := by
 induction l using Jteq with
 | h0 => simp [makeP]
 | h1 l x ih => rw [Jter]; have := Jt4g (makeP l) x; simp only [List.length_append, List.length_cons, List.length_nil]; omega
section
end
section
end
def missA (a b : List Pair) : AV := .tup [((missP a b).getD ⟨0, 0⟩).av, AB (missP a b).isSome]
theorem Jtff {a b : List Pair} {k : Nat} (h : k < a.length) (h1 : ∀ q ∈ a.take k, q ∈ b) (h2 : a[k] ∉ b) : missP a b = some a[k] := by
 unfold missP
 have e : a = a.take k ++ a[k] :: a.drop (k + 1) := by rw [List.getElem_cons_drop, List.take_append_drop]
 have e1 : (a.take k).find? (fun q => !decide (q ∈ b)) = none := by
  rw [List.find?_eq_none]; intro q hq; simp [h1 q hq]
 have e2 : (a[k] :: a.drop (k + 1)).find? (fun q => !decide (q ∈ b)) = some a[k] := by
  rw [List.find?_cons_of_pos (by simp [h2])]
 have e3 := congrArg (List.find? fun q => !decide (q ∈ b)) e
 rw [List.find?_append, e1, e2] at e3
 exact e3
theorem Jtfg {a b : List Pair} (h1 : ∀ q ∈ a, q ∈ b) : missP a b = none := by
 unfold missP; rw [List.find?_eq_none]; intro q hq; simp [h1 q hq]
section
theorem Jth5 {P : Program} {p : Nums} (A : All P p) (a b : Pair) : Jt3p P p.pairset_Less [a.av, b.av] [] fun o _ => o = .ret (AB (lessP a b)) := by
 refine A.pairset_Less.run rfl fun R hR => ?_
 (simp (maxSteps := 1000000) [Jtbk, Pair.av])
 ((first | refine Xc (fun h => ?_) (fun h => ?_) | refine Xo (fun h => ?_) (fun h => ?_)) <;> (try simp only [Xz, Xy] at h))
 ·(simp (maxSteps := 1000000) [h])
  have e : lessP a b = true := by rw [Jtdr]; omega
  (first | exact hR _ _ FrA | exact hR _ _ FnA | exact hR _ _ (Xf (hq := by simp [AV.erase, AV.unview, e]; done)))
 (simp (maxSteps := 1000000) [h])
 ((first | refine Xc (fun h1 => ?_) (fun h1 => ?_) | refine Xo (fun h1 => ?_) (fun h1 => ?_)) <;> (try simp only [Xz, Xy] at h1))
 ·(simp (maxSteps := 1000000) [h1])
  (first | exact hR _ _ FrA | exact hR _ _ FnA | exact hR _ _ (Xf (hq := by simp [AV.erase, AV.unview, lessP, h1]; done)))
 ·(simp (maxSteps := 1000000) [h1])
  have e : lessP a b = false := by
   cases e : lessP a b with
   | false => rfl
   | true => rw [Jtdr] at e; omega
  (first | exact hR _ _ FrA | exact hR _ _ FnA | exact hR _ _ (Xf (hq := by simp [AV.erase, AV.unview, e]; done)))
end
end Go.AE
