/- A part of the proof: the evaluator over abstract values, its codes, the contracts of the functions. -/
import Derived.Test.YtemgahndfjaogaaA2
import Derived.Shelf.SlSortCmp.NoneTotal
import Derived.Lib.ItoaNum
set_option linter.unusedVariables false
set_option linter.unusedSimpArgs false
set_option maxRecDepth 100000
namespace Go.AE
@[simp] abbrev zi (n : Int) : AV := .d (.int .i64 n)
@[simp] abbrev ci (n : Int) : Opd := .c (.d (.int .i64 n))
@[simp] abbrev qo (d : Nat) (io : AO) : IOp := ⟨some d, io, none, false⟩
@[simp] abbrev qp (d : Nat) (io : AO) : IOp := ⟨some d, io, none, true⟩
@[simp] abbrev qn (io : AO) : IOp := ⟨none, io, none, false⟩
@[simp] abbrev qm (io : AO) : IOp := ⟨none, io, none, true⟩
structure Nums where
 law16_CheckerMatchesReference : Nat
 law16_CheckerOnce : Nat
 law16_CheckerLocal : Nat
 law16_CheckerSubset : Nat
 law16_CheckerKeeps : Nat
 law16_CheckerSound : Nat
 law22_SpillallAccepted : Nat
 law16_awake : Nat
 ref16_Few : Nat
 checker_Valid : Nat
 ref16_Valid : Nat
 checker_Check : Nat
 ref16_Check : Nat
 ref07_Successors : Nat
 checker_Bound : Nat
 ref14_Check : Nat
 ref11_Missing : Nat
 ref16_Copy : Nat
 ref16_Same : Nat
 law16_simulates : Nat
 law22_awake : Nat
 ref07_Few : Nat
 ref07_Check : Nat
 spillall_Cert : Nat
 ref07_Same : Nat
 ref08_Few : Nat
 ref15_Few : Nat
 source_Check : Nat
 machine_Check : Nat
 edge_Valid : Nat
 ref08_Check : Nat
 ref15_Valid : Nat
 checker_begin : Nat
 blockcheck_Check : Nat
 source_Successors : Nat
 edge_Implies : Nat
 ref15_Initial : Nat
 source_Code : Nat
 machine_Code : Nat
 ref14_fail : Nat
 ref13_Code : Nat
 ref13_Terms : Nat
 ref14_grow : Nat
 ref12_Copy : Nat
 ref12_Move : Nat
 ref05_UsesA : Nat
 ref14_use : Nat
 ref05_UsesB : Nat
 ref05_UsesD : Nat
 ref12_Define : Nat
 ref11_Has : Nat
 ref07_Copy : Nat
 ref08_Copy : Nat
 ref08_Same : Nat
 ref15_Same : Nat
 interp_Exec : Nat
 execute_Exec : Nat
 ref09_Values : Nat
 ref09_Prefix : Nat
 spillall_Block : Nat
 spillall_Moves : Nat
 ref07_Code : Nat
 ref07_Instr : Nat
 ref07_Term : Nat
 slices_Clone_Instr : Nat
 spillall_invariant : Nat
 ref08_Code : Nat
 source_block : Nat
 machine_block : Nat
 edge_total : Nat
 edge_pairs : Nat
 ref08_Instr : Nat
 ref08_Moves : Nat
 ref04_InRange : Nat
 ref11_Less : Nat
 edge_Entry : Nat
 align_Code : Nat
 align_Terms : Nat
 pairset_Make : Nat
 blockcheck_checker_run : Nat
 pairset_Missing : Nat
 ref13_Operations : Nat
 ref13_Others : Nat
 ref13_Same : Nat
 ref11_Add : Nat
 ref11_Same : Nat
 interp_begin : Nat
 interp_state_step : Nat
 execute_begin : Nat
 execute_state_step : Nat
 spillall_builder_instr : Nat
 spillall_builder_add : Nat
 spillall_load : Nat
 ref07_in : Nat
 location_Slot : Nat
 source_Instr : Nat
 source_Term : Nat
 machine_Instr : Nat
 location_InRange : Nat
 pairset_Less : Nat
 edge_Initial : Nat
 align_skip_Instr : Nat
 align_copied : Nat
 align_skip_Mach : Nat
 align_moved : Nat
 align_Same : Nat
 slices_Clone_Pair : Nat
 slices_SortFunc_Pair : Nat
 pairset_compare : Nat
 slices_Compact_Pair : Nat
 blockcheck_checker_run_1 : Nat
 blockcheck_checker_row : Nat
 blockcheck_checker_use : Nat
 interp_state_instr : Nat
 interp_state_term : Nat
 execute_state_instr : Nat
 execute_state_term : Nat
 opcode_Of : Nat
 spillall_store : Nat
 location_Reg : Nat
 opcode_Source : Nat
 source_within : Nat
 source_blank : Nat
 opcode_Machine : Nat
 machine_others : Nat
 machine_moves : Nat
 location_IsSlot : Nat
 location_Index : Nat
 slices_pdqsortCmpFunc_Pair : Nat
 math_bits_Len : Nat
 blockcheck_checker_cost : Nat
 blockcheck_checker_become : Nat
 transfer_Copy : Nat
 transfer_Move : Nat
 blockcheck_checker_instr : Nat
 pairset_Has : Nat
 alu_Eval : Nat
 execute_state_compute : Nat
 execute_state_move : Nat
 execute_state_emit : Nat
 opcode_known : Nat
 machine_others_1 : Nat
 machine_others_2 : Nat
 machine_moves_1 : Nat
 machine_moves_2 : Nat
 slices_insertionSortCmpFunc_Pair : Nat
 slices_heapSortCmpFunc_Pair : Nat
 slices_breakPatternsCmpFunc_Pair : Nat
 slices_choosePivotCmpFunc_Pair : Nat
 slices_reverseRangeCmpFunc_Pair : Nat
 slices_partialInsertionSortCmpFunc_Pair : Nat
 slices_partitionEqualCmpFunc_Pair : Nat
 slices_partitionCmpFunc_Pair : Nat
 math_bits_Len32 : Nat
 math_bits_Len64 : Nat
 transfer_rename : Nat
 pairset_DropV : Nat
 transfer_Copy_1 : Nat
 pairset_DropL : Nat
 transfer_Move_1 : Nat
 transfer_Define : Nat
 pairset_find : Nat
 alu_operation : Nat
 execute_state_at : Nat
 slices_siftDownCmpFunc_Pair : Nat
 slices_nextPowerOfTwo : Nat
 slices_xorshift_Next : Nat
 slices_medianAdjacentCmpFunc_Pair : Nat
 slices_medianCmpFunc_Pair : Nat
 pairset_Union : Nat
 pairset_filter : Nat
 pairset_DropV_1 : Nat
 pairset_DropL_1 : Nat
 pairset_Add : Nat
 alu_operation_1 : Nat
 alu_operation_2 : Nat
 alu_operation_3 : Nat
 alu_operation_4 : Nat
 alu_operation_5 : Nat
 alu_operation_6 : Nat
 alu_operation_7 : Nat
 alu_operation_8 : Nat
 alu_operation_9 : Nat
 alu_operation_10 : Nat
 alu_operation_11 : Nat
 alu_truth : Nat
 alu_operation_12 : Nat
 slices_order2CmpFunc_Pair : Nat
 law11_PairsetMatchesReference : Nat
 law11_PairsetMatchesSets : Nat
 law11_PairsetOrder : Nat
 law11_PairsetSubsets : Nat
 law23_LivenessMatchesReference : Nat
 law23_LivenessEquations : Nat
 law23_LivenessSound : Nat
 law23_LivenessNecessary : Nat
 law23_LivenessAppended : Nat
 law11_PairsetDrops : Nat
 law11_PairsetKeeps : Nat
 law11_awake : Nat
 ref11_Make : Nat
 pairset_Sorted : Nat
 ref11_Sorted : Nat
 pairset_Subset : Nat
 law23_awake : Nat
 ref23_Used : Nat
 ref23_Defines : Nat
 ref07_Numbers : Nat
 liveness_Uses : Nat
 liveness_Defs : Nat
 ref23_Same : Nat
 liveness_In : Nat
 ref23_In : Nat
 liveness_Out : Nat
 ref23_Out : Nat
 ref23_Has : Nat
 ref09_Right : Nat
 ref09_Exec : Nat
 ref09_Step : Nat
 ref09_Copy : Nat
 law11_spoil : Nat
 liveness_scan : Nat
 liveness_set_sorted : Nat
 liveness_solve : Nat
 ref23_live : Nat
 liveness_exit : Nat
 ref09_Start : Nat
 ref06_Eval : Nat
 liveness_scan_1 : Nat
 slices_Sort_int : Nat
 ref06_bits : Nat
 ref06_half : Nat
 ref06_truth : Nat
 slices_pdqsortOrdered_int : Nat
 ref06_bit : Nat
 slices_insertionSortOrdered_int : Nat
 slices_heapSortOrdered_int : Nat
 slices_breakPatternsOrdered_int : Nat
 slices_choosePivotOrdered_int : Nat
 slices_reverseRangeOrdered_int : Nat
 slices_partialInsertionSortOrdered_int : Nat
 cmp_Less_int : Nat
 slices_partitionEqualOrdered_int : Nat
 slices_partitionOrdered_int : Nat
 slices_siftDownOrdered_int : Nat
 slices_medianAdjacentOrdered_int : Nat
 slices_medianOrdered_int : Nat
 cmp_isNaN_int : Nat
 slices_order2Ordered_int : Nat
 law12_TransferMatchesReference : Nat
 law12_TransferSound : Nat
 law12_TransferComplete : Nat
 law12_TransferMonotone : Nat
 law12_TransferKeeps : Nat
 law14_BlockcheckMatchesReference : Nat
 law14_BlockcheckSound : Nat
 law14_BlockcheckMonotone : Nat
 law14_BlockcheckSteps : Nat
 law14_BlockcheckKeeps : Nat
 law12_awake : Nat
 law12_known : Nat
 law12_holds : Nat
 law12_subset : Nat
 law14_awake : Nat
 law14_right : Nat
 ref14_Same : Nat
 law14_result : Nat
 ref10_Step : Nat
 ref10_Read : Nat
 law22_SpillallMatchesReference : Nat
 law22_SpillallKeeps : Nat
 law22_SpillallSlots : Nat
 ref22_Cert : Nat
 ref22_Block : Nat
 ref22_move : Nat
 law04_LocationBijection : Nat
 law04_LocationTexts : Nat
 law04_LocationMatchesReference : Nat
 law04_LocationRange : Nat
 law04_awake : Nat
 location_Parse : Nat
 location_Text : Nat
 ref04_Parse : Nat
 ref04_Text : Nat
 strconv_Itoa : Nat
 ref04_Number : Nat
 ref04_Decimal : Nat
 ty_bcfail : Nat
@[simp] def Jq6b (p : Nums) : List IOp := [qo 5 (.build [(zi 0), (zi 0), (zi 0), (zi 0), (zi 0)] [(0, 1, (ci 5)), (1, 1, (ci 0)), (2, 1, (ci 1)), (3, 1, (ci 2))]), qo 6 (.bslice 5 1 [(.int .i64 0), (.int .i64 0), (.int .i64 0), (.int .i64 0), (.int .i64 0)] [(0, (.t 5))]), qo 7 (.build [(zi 0), (zi 0), (zi 0), (zi 0)] [(0, 1, (ci 1))]), qo 8 (.build [.nils, (zi 0), (zi 0), (zi 0), (zi 0)] [(0, 1, (.t 6)), (1, 4, (.t 7))]), qo 1 (.alloc [.nils, (zi 0), (zi 0), (zi 0), (zi 0)]), qn (.store 5 (.t 1) (.t 8))]
def Jq65 (p : Nums) : IC := (.region (Jq6b p) [])
@[simp] theorem Je65 {p : Nums} : EqI (Jq65 p) (.region (Jq6b p) []) := eqi
@[simp] def Jq6c (p : Nums) : List IOp := [qo 9 (.load (some 5) (.t 1)), qo 10 (.call p.spillall_Block [(.t 9)]), qo 2 (.alloc [.nils, (zi 0), (zi 0), (zi 0), (zi 0)]), qn (.store 5 (.t 2) (.t 10))]
def Jq66 (p : Nums) : IC := (.region (Jq6c p) [])
@[simp] theorem Je66 {p : Nums} : EqI (Jq66 p) (.region (Jq6c p) []) := eqi
@[simp] def Jq6d (p : Nums) : List IOp := [qo 12 (.build [(zi 0), (zi 0), .nils] []), qo 13 (.call p.spillall_Cert [(.t 12)]), qo 11 (.mov (.t 13)), qo 14 (.ext (.t 11) 0), qo 15 (.ext (.t 11) 1), qo 3 (.alloc [(zi 0), (zi 0), .nils, (zi 0), (zi 0), (zi 0), .nils, .nils]), qn (.store 8 (.t 3) (.t 14)), qo 4 (.asg (.t 15))]
def Jq67 (p : Nums) : IC := (.region (Jq6d p) [])
@[simp] theorem Je67 {p : Nums} : EqI (Jq67 p) (.region (Jq6d p) []) := eqi
@[simp] def Jq6e (p : Nums) : List IOp := [qo 16 (.faddr 0 (.t 2)), qo 17 (.load none (.t 16)), qo 18 (.len (.t 17)), qo 19 (.bin .neq (.t 18) (ci 4))]
def Jq68 (p : Nums) : IC := (.region (Jq6e p) [])
@[simp] theorem Je68 {p : Nums} : EqI (Jq68 p) (.region (Jq6e p) []) := eqi
def Jq69 (p : Nums) : IC := (.seq (.region [⟨(some 0), (.asg (.c (.d (.bool false)))), none, false⟩] []) .ret)
@[simp] theorem Je69 {p : Nums} : EqI (Jq69 p) (.seq (.region [⟨(some 0), (.asg (.c (.d (.bool false)))), none, false⟩] []) .ret) := eqi
@[simp] def Jq6f (p : Nums) : List IOp := [qo 20 (.faddr 0 (.t 2)), qo 21 (.load none (.t 20)), qo 22 (.iaddr 7 (.t 21) (ci 0)), qo 23 (.load (some 7) (.t 22)), qo 24 (.build [(zi 0), (zi 0), (zi 0), (zi 0), (zi 0), (zi 0), (zi 0)] [(0, 1, (ci 18)), (5, 1, (ci 0)), (6, 1, (ci 3))]), qo 25 (.eqs false [.int, .int, .int, .int, .int, .int, .int] (.t 23) (.t 24)), qo 26 (.mov (.t 25)), ⟨(some 27), (.faddr 0 (.t 2)), (some (26, true)), false⟩, ⟨(some 28), (.load none (.t 27)), (some (26, true)), false⟩, ⟨(some 29), (.iaddr 7 (.t 28) (ci 1)), (some (26, true)), false⟩, ⟨(some 30), (.load (some 7) (.t 29)), (some (26, true)), false⟩, ⟨(some 31), (.build [(zi 0), (zi 0), (zi 0), (zi 0), (zi 0), (zi 0), (zi 0)] [(0, 1, (ci 18)), (5, 1, (ci 2)), (6, 1, (ci 5))]), (some (26, true)), false⟩, ⟨(some 32), (.eqs false [.int, .int, .int, .int, .int, .int, .int] (.t 30) (.t 31)), (some (26, true)), false⟩, qo 33 (.pick (.t 26) (.t 32) (.c (.d (.bool false)))), qo 34 (.mov (.t 33)), ⟨(some 35), (.faddr 0 (.t 2)), (some (34, true)), false⟩, ⟨(some 36), (.load none (.t 35)), (some (34, true)), false⟩, ⟨(some 37), (.iaddr 7 (.t 36) (ci 2)), (some (34, true)), false⟩, ⟨(some 38), (.load (some 7) (.t 37)), (some (34, true)), false⟩, ⟨(some 39), (.build [(zi 0), (zi 0), (zi 0), (zi 0), (zi 0), (zi 0), (zi 0)] [(0, 1, (ci 5)), (3, 1, (ci 1))]), (some (34, true)), false⟩, ⟨(some 40), (.eqs false [.int, .int, .int, .int, .int, .int, .int] (.t 38) (.t 39)), (some (34, true)), false⟩, qo 41 (.pick (.t 34) (.t 40) (.c (.d (.bool false)))), qo 42 (.mov (.t 41)), ⟨(some 43), (.faddr 0 (.t 2)), (some (42, true)), false⟩, ⟨(some 44), (.load none (.t 43)), (some (42, true)), false⟩, ⟨(some 45), (.iaddr 7 (.t 44) (ci 3)), (some (42, true)), false⟩, ⟨(some 46), (.load (some 7) (.t 45)), (some (42, true)), false⟩, ⟨(some 47), (.build [(zi 0), (zi 0), (zi 0), (zi 0), (zi 0), (zi 0), (zi 0)] [(0, 1, (ci 18)), (5, 1, (ci 1)), (6, 1, (ci 0))]), (some (42, true)), false⟩, ⟨(some 48), (.eqs false [.int, .int, .int, .int, .int, .int, .int] (.t 46) (.t 47)), (some (42, true)), false⟩, qo 49 (.pick (.t 42) (.t 48) (.c (.d (.bool false)))), qo 50 (.mov (.t 49)), ⟨(some 51), (.faddr 1 (.t 2)), (some (50, true)), false⟩, ⟨(some 52), (.load (some 4) (.t 51)), (some (50, true)), false⟩, ⟨(some 53), (.build [(zi 0), (zi 0), (zi 0), (zi 0)] [(0, 1, (ci 1))]), (some (50, true)), false⟩, ⟨(some 54), (.eqs false [.int, .int, .int, .int] (.t 52) (.t 53)), (some (50, true)), false⟩, qo 55 (.pick (.t 50) (.t 54) (.c (.d (.bool false)))), qo 56 (.mov (.t 55)), ⟨(some 57), (.mov (.t 4)), (some (56, true)), false⟩, ⟨(some 58), (.bin .eql (.t 57) (ci 14)), (some (56, true)), false⟩, qo 59 (.pick (.t 56) (.t 58) (.c (.d (.bool false)))), qo 60 (.mov (.t 59)), ⟨(some 61), (.load (some 5) (.t 1)), (some (60, true)), false⟩, ⟨(some 62), (.call p.spillall_Moves [(.t 61)]), (some (60, true)), false⟩, ⟨(some 63), (.bin .eql (.t 62) (ci 2)), (some (60, true)), false⟩, qo 64 (.pick (.t 60) (.t 63) (.c (.d (.bool false)))), qo 0 (.asg (.t 64))]
def Jq6a (p : Nums) : IC := (.region (Jq6f p) [])
@[simp] theorem Je6a {p : Nums} : EqI (Jq6a p) (.region (Jq6f p) []) := eqi
def Jtau (p : Nums) : IC := (.seq (.region [⟨(some 0), (.asg (.c (.d (.bool false)))), none, false⟩] []) (.seq (Jq65 p) (.seq (Jq66 p) (.seq (Jq67 p) (.seq (.seq (Jq68 p) (.cond (.t 19) (Jq69 p) .skip)) (.seq (Jq6a p) .ret))))))
@[simp] def Jq8y (p : Nums) : List IOp := [qo 4 (.faddr 2 (.t 1)), qo 5 (.load none (.t 4)), qo 6 (.len (.t 5)), qo 7 (.bin .gtr (.t 6) (ci 40)), qo 8 (.mov (.t 7)), ⟨(some 9), (.faddr 1 (.t 1)), (some (8, false)), false⟩, ⟨(some 10), (.load none (.t 9)), (some (8, false)), false⟩, ⟨(some 11), (.bin .gtr (.t 10) (ci 60)), (some (8, false)), false⟩, qo 12 (.pick (.t 8) (.c (.d (.bool true))) (.t 11))]
def Jq8p (p : Nums) : IC := (.region (Jq8y p) [])
@[simp] theorem Je8p {p : Nums} : EqI (Jq8p p) (.region (Jq8y p) []) := eqi
def Jq8q (p : Nums) : IC := (.seq (.region [⟨(some 2), (.asg (.c (.d (.bool false)))), none, false⟩] []) .ret)
@[simp] theorem Je8q {p : Nums} : EqI (Jq8q p) (.seq (.region [⟨(some 2), (.asg (.c (.d (.bool false)))), none, false⟩] []) .ret) := eqi
@[simp] def Jq8z (p : Nums) : List IOp := [qo 13 (.mov (.t 3)), qo 14 (.faddr 2 (.t 1)), qo 15 (.load none (.t 14)), qo 16 (.len (.t 15)), qo 17 (.bin .lss (.t 13) (.t 16))]
def Jq8r (p : Nums) : IC := (.region (Jq8z p) [])
@[simp] theorem Je8r {p : Nums} : EqI (Jq8r p) (.region (Jq8z p) []) := eqi
@[simp] def Jq90 (p : Nums) : List IOp := [qo 20 (.faddr 2 (.t 1)), qo 21 (.load none (.t 20)), qo 22 (.mov (.t 3)), qo 23 (.iaddr 5 (.t 21) (.t 22)), qo 24 (.faddr 0 (.t 23)), qo 25 (.load none (.t 24)), qo 26 (.len (.t 25)), qo 27 (.bin .gtr (.t 26) (ci 100))]
def Jq8s (p : Nums) : IC := (.region (Jq90 p) [])
@[simp] theorem Je8s {p : Nums} : EqI (Jq8s p) (.region (Jq90 p) []) := eqi
def Jq8t (p : Nums) : IC := (.seq (.region [⟨(some 2), (.asg (.c (.d (.bool false)))), none, false⟩] []) .ret)
@[simp] theorem Je8t {p : Nums} : EqI (Jq8t p) (.seq (.region [⟨(some 2), (.asg (.c (.d (.bool false)))), none, false⟩] []) .ret) := eqi
def Jq8u (p : Nums) : IC := (.seq (Jq8s p) (.cond (.t 27) (Jq8t p) .skip))
@[simp] theorem Je8u {p : Nums} : EqI (Jq8u p) (.seq (Jq8s p) (.cond (.t 27) (Jq8t p) .skip)) := eqi
@[simp] def Jq91 (p : Nums) : List IOp := [qo 18 (.mov (.t 3)), qo 19 (.bin .add (.t 18) (ci 1)), qo 3 (.asg (.t 19))]
def Jq8v (p : Nums) : IC := (.region (Jq91 p) [])
@[simp] theorem Je8v {p : Nums} : EqI (Jq8v p) (.region (Jq91 p) []) := eqi
def Jq8w (p : Nums) : IC := (.seq (.seq (Jq8r p) (.cond (.t 17) .skip (.exit 0))) (.seq (.block 1 (Jq8u p)) (Jq8v p)))
@[simp] theorem Je8w {p : Nums} : EqI (Jq8w p) (.seq (.seq (Jq8r p) (.cond (.t 17) .skip (.exit 0))) (.seq (.block 1 (Jq8u p)) (Jq8v p))) := eqi
@[simp] def Jq92 (p : Nums) : List IOp := [qo 28 (.load (some 3) (.t 1)), qo 29 (.call p.ref07_Code [(.t 28)]), qo 30 (.bin .leq (.t 29) (ci 300)), qo 2 (.asg (.t 30))]
def Jq8x (p : Nums) : IC := (.region (Jq92 p) [])
@[simp] theorem Je8x {p : Nums} : EqI (Jq8x p) (.region (Jq92 p) []) := eqi
def Jtb7 (p : Nums) : IC := (.seq (.region [⟨(some 1), (.box (.t 0)), none, false⟩, ⟨(some 2), (.asg (.c (.d (.bool false)))), none, false⟩] []) (.seq (.seq (Jq8p p) (.cond (.t 12) (Jq8q p) .skip)) (.seq (.seq (.region [⟨(some 3), (.asg (.c (.d (.int .i64 0)))), none, false⟩] []) (.block 0 (.loop (Jq8w p)))) (.seq (Jq8x p) .ret))))
@[simp] def Jq87 (p : Nums) : List IOp := [qo 8 (.faddr 0 (.t 1)), qo 9 (.load none (.t 8)), qo 10 (.bin .lss (.t 9) (ci 0)), qo 11 (.mov (.t 10)), ⟨(some 12), (.faddr 0 (.t 1)), (some (11, false)), false⟩, ⟨(some 13), (.load none (.t 12)), (some (11, false)), false⟩, ⟨(some 14), (.faddr 1 (.t 1)), (some (11, false)), false⟩, ⟨(some 15), (.load none (.t 14)), (some (11, false)), false⟩, ⟨(some 16), (.bin .gtr (.t 13) (.t 15)), (some (11, false)), false⟩, qo 17 (.pick (.t 11) (.c (.d (.bool true))) (.t 16))]
def Jq7m (p : Nums) : IC := (.region (Jq87 p) [])
@[simp] theorem Je7m {p : Nums} : EqI (Jq7m p) (.region (Jq87 p) []) := eqi
def Jq7x (p : Nums) : IC := (.seq (.region [⟨(some 2), (.asg (.c (.d (.int .i64 9)))), none, false⟩] []) .ret)
@[simp] theorem Je7x {p : Nums} : EqI (Jq7x p) (.seq (.region [⟨(some 2), (.asg (.c (.d (.int .i64 9)))), none, false⟩] []) .ret) := eqi
@[simp] def Jq8e (p : Nums) : List IOp := [qo 18 (.faddr 1 (.t 1)), qo 19 (.load none (.t 18)), qo 20 (.bin .gtr (.t 19) (ci 1048576))]
def Jq80 (p : Nums) : IC := (.region (Jq8e p) [])
@[simp] theorem Je80 {p : Nums} : EqI (Jq80 p) (.region (Jq8e p) []) := eqi
def Jq81 (p : Nums) : IC := (.seq (.region [⟨(some 2), (.asg (.c (.d (.int .i64 6)))), none, false⟩] []) .ret)
@[simp] theorem Je81 {p : Nums} : EqI (Jq81 p) (.seq (.region [⟨(some 2), (.asg (.c (.d (.int .i64 6)))), none, false⟩] []) .ret) := eqi
@[simp] def Jq8f (p : Nums) : List IOp := [qo 21 (.faddr 2 (.t 1)), qo 22 (.load none (.t 21)), qo 23 (.len (.t 22)), qo 24 (.bin .eql (.t 23) (ci 0))]
def Jq82 (p : Nums) : IC := (.region (Jq8f p) [])
@[simp] theorem Je82 {p : Nums} : EqI (Jq82 p) (.region (Jq8f p) []) := eqi
def Jq83 (p : Nums) : IC := (.seq (.region [⟨(some 2), (.asg (.c (.d (.int .i64 14)))), none, false⟩] []) .ret)
@[simp] theorem Je83 {p : Nums} : EqI (Jq83 p) (.seq (.region [⟨(some 2), (.asg (.c (.d (.int .i64 14)))), none, false⟩] []) .ret) := eqi
@[simp] def Jq8g (p : Nums) : List IOp := [qo 25 (.faddr 2 (.t 1)), qo 26 (.load none (.t 25)), qo 27 (.len (.t 26)), qo 28 (.bin .gtr (.t 27) (ci 1048576)), qo 29 (.mov (.t 28)), ⟨(some 30), (.load (some 3) (.t 1)), (some (29, false)), false⟩, ⟨(some 31), (.call p.ref07_Code [(.t 30)]), (some (29, false)), false⟩, ⟨(some 32), (.bin .gtr (.t 31) (ci 1048576)), (some (29, false)), false⟩, qo 33 (.pick (.t 29) (.c (.d (.bool true))) (.t 32))]
def Jq84 (p : Nums) : IC := (.region (Jq8g p) [])
@[simp] theorem Je84 {p : Nums} : EqI (Jq84 p) (.region (Jq8g p) []) := eqi
def Jq85 (p : Nums) : IC := (.seq (.region [⟨(some 2), (.asg (.c (.d (.int .i64 6)))), none, false⟩] []) .ret)
@[simp] theorem Je85 {p : Nums} : EqI (Jq85 p) (.seq (.region [⟨(some 2), (.asg (.c (.d (.int .i64 6)))), none, false⟩] []) .ret) := eqi
@[simp] def Jq8h (p : Nums) : List IOp := [qo 34 (.mov (.t 3)), qo 35 (.faddr 2 (.t 1)), qo 36 (.load none (.t 35)), qo 37 (.len (.t 36)), qo 38 (.bin .lss (.t 34) (.t 37))]
def Jq86 (p : Nums) : IC := (.region (Jq8h p) [])
@[simp] theorem Je86 {p : Nums} : EqI (Jq86 p) (.region (Jq8h p) []) := eqi
@[simp] def Jq88 (p : Nums) : List IOp := [qo 41 (.faddr 2 (.t 1)), qo 42 (.load none (.t 41)), qo 43 (.mov (.t 3)), qo 44 (.iaddr 5 (.t 42) (.t 43)), qo 45 (.load (some 5) (.t 44)), qo 4 (.alloc [.nils, (zi 0), (zi 0), (zi 0), (zi 0)]), qn (.store 5 (.t 4) (.t 45))]
def Jq7n (p : Nums) : IC := (.region (Jq88 p) [])
@[simp] theorem Je7n {p : Nums} : EqI (Jq7n p) (.region (Jq88 p) []) := eqi
@[simp] def Jq89 (p : Nums) : List IOp := [qo 46 (.mov (.t 5)), qo 47 (.faddr 0 (.t 4)), qo 48 (.load none (.t 47)), qo 49 (.len (.t 48)), qo 50 (.bin .lss (.t 46) (.t 49))]
def Jq7o (p : Nums) : IC := (.region (Jq89 p) [])
@[simp] theorem Je7o {p : Nums} : EqI (Jq7o p) (.region (Jq89 p) []) := eqi
@[simp] def Jq8a (p : Nums) : List IOp := [qp 53 (.faddr 0 (.t 4)), qp 54 (.load none (.t 53)), qp 55 (.mov (.t 5)), qp 56 (.iaddr 5 (.t 54) (.t 55)), qp 57 (.load (some 5) (.t 56)), qp 58 (.faddr 1 (.t 1)), qp 59 (.load none (.t 58)), qo 60 (.call p.ref07_Instr [(.t 57), (.t 59)]), qo 6 (.asg (.t 60))]
def Jq7p (p : Nums) : IC := (.region (Jq8a p) [])
@[simp] theorem Je7p {p : Nums} : EqI (Jq7p p) (.region (Jq8a p) []) := eqi
def Jq7q (p : Nums) : IC := (.seq (.region [⟨(some 63), (.mov (.t 6)), none, false⟩, ⟨(some 2), (.asg (.t 63)), none, false⟩] []) .ret)
@[simp] theorem Je7q {p : Nums} : EqI (Jq7q p) (.seq (.region [⟨(some 63), (.mov (.t 6)), none, false⟩, ⟨(some 2), (.asg (.t 63)), none, false⟩] []) .ret) := eqi
def Jq7r (p : Nums) : IC := (.seq (Jq7p p) (.seq (.region [⟨(some 61), (.mov (.t 6)), none, false⟩, ⟨(some 62), (.bin .neq (.t 61) (.c (.d (.int .i64 0)))), none, false⟩] []) (.cond (.t 62) (Jq7q p) .skip)))
@[simp] theorem Je7r {p : Nums} : EqI (Jq7r p) (.seq (Jq7p p) (.seq (.region [⟨(some 61), (.mov (.t 6)), none, false⟩, ⟨(some 62), (.bin .neq (.t 61) (.c (.d (.int .i64 0)))), none, false⟩] []) (.cond (.t 62) (Jq7q p) .skip))) := eqi
@[simp] def Jq8b (p : Nums) : List IOp := [qo 51 (.mov (.t 5)), qo 52 (.bin .add (.t 51) (ci 1)), qo 5 (.asg (.t 52))]
def Jq7s (p : Nums) : IC := (.region (Jq8b p) [])
@[simp] theorem Je7s {p : Nums} : EqI (Jq7s p) (.region (Jq8b p) []) := eqi
def Jq7t (p : Nums) : IC := (.seq (.seq (Jq7o p) (.cond (.t 50) .skip (.exit 2))) (.seq (.block 3 (Jq7r p)) (Jq7s p)))
@[simp] theorem Je7t {p : Nums} : EqI (Jq7t p) (.seq (.seq (Jq7o p) (.cond (.t 50) .skip (.exit 2))) (.seq (.block 3 (Jq7r p)) (Jq7s p))) := eqi
@[simp] def Jq8c (p : Nums) : List IOp := [qo 64 (.faddr 1 (.t 4)), qo 65 (.load (some 4) (.t 64)), qo 66 (.faddr 1 (.t 1)), qo 67 (.load none (.t 66)), qo 68 (.faddr 2 (.t 1)), qo 69 (.load none (.t 68)), qo 70 (.len (.t 69)), qo 71 (.call p.ref07_Term [(.t 65), (.t 67), (.t 70)]), qo 7 (.asg (.t 71))]
def Jq7u (p : Nums) : IC := (.region (Jq8c p) [])
@[simp] theorem Je7u {p : Nums} : EqI (Jq7u p) (.region (Jq8c p) []) := eqi
def Jq7v (p : Nums) : IC := (.seq (.region [⟨(some 74), (.mov (.t 7)), none, false⟩, ⟨(some 2), (.asg (.t 74)), none, false⟩] []) .ret)
@[simp] theorem Je7v {p : Nums} : EqI (Jq7v p) (.seq (.region [⟨(some 74), (.mov (.t 7)), none, false⟩, ⟨(some 2), (.asg (.t 74)), none, false⟩] []) .ret) := eqi
def Jq7w (p : Nums) : IC := (.seq (Jq7n p) (.seq (.seq (.region [⟨(some 5), (.asg (.c (.d (.int .i64 0)))), none, false⟩] []) (.block 2 (.loop (Jq7t p)))) (.seq (Jq7u p) (.seq (.region [⟨(some 72), (.mov (.t 7)), none, false⟩, ⟨(some 73), (.bin .neq (.t 72) (.c (.d (.int .i64 0)))), none, false⟩] []) (.cond (.t 73) (Jq7v p) .skip)))))
@[simp] theorem Je7w {p : Nums} : EqI (Jq7w p) (.seq (Jq7n p) (.seq (.seq (.region [⟨(some 5), (.asg (.c (.d (.int .i64 0)))), none, false⟩] []) (.block 2 (.loop (Jq7t p)))) (.seq (Jq7u p) (.seq (.region [⟨(some 72), (.mov (.t 7)), none, false⟩, ⟨(some 73), (.bin .neq (.t 72) (.c (.d (.int .i64 0)))), none, false⟩] []) (.cond (.t 73) (Jq7v p) .skip))))) := eqi
@[simp] def Jq8d (p : Nums) : List IOp := [qo 39 (.mov (.t 3)), qo 40 (.bin .add (.t 39) (ci 1)), qo 3 (.asg (.t 40))]
def Jq7y (p : Nums) : IC := (.region (Jq8d p) [])
@[simp] theorem Je7y {p : Nums} : EqI (Jq7y p) (.region (Jq8d p) []) := eqi
def Jq7z (p : Nums) : IC := (.seq (.seq (Jq86 p) (.cond (.t 38) .skip (.exit 0))) (.seq (.block 1 (Jq7w p)) (Jq7y p)))
@[simp] theorem Je7z {p : Nums} : EqI (Jq7z p) (.seq (.seq (Jq86 p) (.cond (.t 38) .skip (.exit 0))) (.seq (.block 1 (Jq7w p)) (Jq7y p))) := eqi
def Jtb5 (p : Nums) : IC := (.seq (.region [⟨(some 1), (.box (.t 0)), none, false⟩, ⟨(some 2), (.asg (.c (.d (.int .i64 0)))), none, false⟩] []) (.seq (.seq (Jq7m p) (.cond (.t 17) (Jq7x p) .skip)) (.seq (.seq (Jq80 p) (.cond (.t 20) (Jq81 p) .skip)) (.seq (.seq (Jq82 p) (.cond (.t 24) (Jq83 p) .skip)) (.seq (.seq (Jq84 p) (.cond (.t 33) (Jq85 p) .skip)) (.seq (.seq (.region [⟨(some 3), (.asg (.c (.d (.int .i64 0)))), none, false⟩] []) (.block 0 (.loop (Jq7z p)))) (.seq (.region [⟨(some 2), (.asg (.c (.d (.int .i64 0)))), none, false⟩] []) .ret)))))))
@[simp] def Jqeg (p : Nums) : List IOp := [qo 1 (.box (.t 0)), qo 2 (.alloc [(zi 0), (zi 0), .nils, (zi 0), (zi 0), (zi 0), .nils, .nils]), qo 3 (.asg (ci 0))]
def Jqdu (p : Nums) : IC := (.region (Jqeg p) [])
@[simp] theorem Jedu {p : Nums} : EqI (Jqdu p) (.region (Jqeg p) []) := eqi
@[simp] def Jqep (p : Nums) : List IOp := [qo 11 (.load (some 3) (.t 1)), qo 12 (.call p.source_Check [(.t 11)]), qo 4 (.asg (.t 12))]
def Jqe5 (p : Nums) : IC := (.region (Jqep p) [])
@[simp] theorem Jee5 {p : Nums} : EqI (Jqe5 p) (.region (Jqep p) []) := eqi
@[simp] def Jqer (p : Nums) : List IOp := [qo 15 (.build [(zi 0), (zi 0), .nils, (zi 0), (zi 0), (zi 0), .nils, .nils] []), qo 16 (.mov (.t 4)), qn (.store 8 (.t 2) (.t 15)), qo 3 (.asg (.t 16))]
def Jqe9 (p : Nums) : IC := (.region (Jqer p) [])
@[simp] theorem Jee9 {p : Nums} : EqI (Jqe9 p) (.region (Jqer p) []) := eqi
@[simp] def Jqes (p : Nums) : List IOp := [qo 17 (.faddr 0 (.t 1)), qo 18 (.load none (.t 17)), qo 19 (.faddr 1 (.t 1)), qo 20 (.load none (.t 19)), qo 21 (.build [(zi 0), (zi 0), .nils] [(0, 1, (.t 18)), (1, 1, (.t 20))]), qo 22 (.faddr 0 (.t 1)), qo 23 (.load none (.t 22)), qo 24 (.faddr 1 (.t 1)), qo 25 (.load none (.t 24)), qo 26 (.build [(zi 0), (zi 0), (zi 0), .nils] [(0, 1, (.t 23)), (1, 1, (ci 2)), (2, 1, (.t 25))]), qo 27 (.build [(zi 0), (zi 0), .nils, (zi 0), (zi 0), (zi 0), .nils, .nils] [(0, 3, (.t 21)), (3, 4, (.t 26))]), qo 5 (.alloc [(zi 0), (zi 0), .nils, (zi 0), (zi 0), (zi 0), .nils, .nils]), qn (.store 8 (.t 5) (.t 27))]
def Jqea (p : Nums) : IC := (.region (Jqes p) [])
@[simp] theorem Jeea {p : Nums} : EqI (Jqea p) (.region (Jqes p) []) := eqi
@[simp] def Jqet (p : Nums) : List IOp := [qo 28 (.faddr 2 (.t 1)), qo 29 (.load none (.t 28)), qo 30 (.len (.t 29)), qo 31 (.faddr 1 (.t 1)), qo 32 (.load none (.t 31)), qo 33 (.bin .mul (.t 30) (.t 32)), qo 34 (.bin .gtr (.t 33) (ci 1048576))]
def Jqeb (p : Nums) : IC := (.region (Jqet p) [])
@[simp] theorem Jeeb {p : Nums} : EqI (Jqeb p) (.region (Jqet p) []) := eqi
@[simp] def Jqeu (p : Nums) : List IOp := [qo 35 (.build [(zi 0), (zi 0), .nils, (zi 0), (zi 0), (zi 0), .nils, .nils] []), qn (.store 8 (.t 2) (.t 35)), qo 3 (.asg (ci 6))]
def Jqec (p : Nums) : IC := (.region (Jqeu p) [])
@[simp] theorem Jeec {p : Nums} : EqI (Jqec p) (.region (Jqeu p) []) := eqi
@[simp] def Jqev (p : Nums) : List IOp := [qo 36 (.faddr 2 (.t 1)), qo 37 (.load none (.t 36)), qo 38 (.len (.t 37)), qo 39 (.mov (ci 0))]
def Jqed (p : Nums) : IC := (.region (Jqev p) [])
@[simp] theorem Jeed {p : Nums} : EqI (Jqed p) (.region (Jqev p) []) := eqi
@[simp] def Jqew (p : Nums) : List IOp := [qo 41 (.iaddr 5 (.t 37) (.t 39)), qo 42 (.load (some 5) (.t 41)), qo 9 (.alloc [.nils, (zi 0), (zi 0), (zi 0), (zi 0)]), qn (.store 5 (.t 9) (.t 42))]
def Jqee (p : Nums) : IC := (.region (Jqew p) [])
@[simp] theorem Jeee {p : Nums} : EqI (Jqee p) (.region (Jqew p) []) := eqi
@[simp] def Jqex (p : Nums) : List IOp := [qo 43 (.load (some 5) (.t 9)), qo 44 (.call p.spillall_Block [(.t 43)]), qo 10 (.alloc [.nils, (zi 0), (zi 0), (zi 0), (zi 0)]), qn (.store 5 (.t 10) (.t 44))]
def Jqef (p : Nums) : IC := (.region (Jqex p) [])
@[simp] theorem Jeef {p : Nums} : EqI (Jqef p) (.region (Jqex p) []) := eqi
@[simp] def Jqeh (p : Nums) : List IOp := [qp 45 (.mov (.t 6)), qp 46 (.faddr 0 (.t 10)), qp 47 (.load none (.t 46)), qp 48 (.len (.t 47)), qp 49 (.bin .add (.t 45) (.t 48)), qp 50 (.mov (.t 7)), qp 51 (.load (some 5) (.t 9)), qp 52 (.call p.spillall_Moves [(.t 51)]), qp 53 (.mx (.t 50) (.t 52)), qp 6 (.asg (.t 49)), qo 7 (.asg (.t 53))]
def Jqdv (p : Nums) : IC := (.region (Jqeh p) [])
@[simp] theorem Jedv {p : Nums} : EqI (Jqdv p) (.region (Jqeh p) []) := eqi
@[simp] def Jqei (p : Nums) : List IOp := [qp 54 (.faddr 0 (.t 5)), qp 55 (.faddr 2 (.t 54)), qp 56 (.load none (.t 55)), qp 57 (.faddr 0 (.t 9)), qp 58 (.load none (.t 57)), qp 59 (.call p.slices_Clone_Instr [(.t 58)]), qp 60 (.faddr 1 (.t 9)), qp 61 (.load (some 4) (.t 60)), qp 62 (.build [.nils, (zi 0), (zi 0), (zi 0), (zi 0)] [(0, 1, (.t 59)), (1, 4, (.t 61))]), qp 63 (.bslice 5 1 [(.sl []), (.int .i64 0), (.int .i64 0), (.int .i64 0), (.int .i64 0)] [(0, (.t 62))]), qo 64 (.app 5 56 (.t 56) (.t 63)), qo 65 (.faddr 0 (.t 5)), qo 66 (.faddr 2 (.t 65)), qn (.store 1 (.t 66) (.t 64))]
def Jqdw (p : Nums) : IC := (.region (Jqei p) [])
@[simp] theorem Jedw {p : Nums} : EqI (Jqdw p) (.region (Jqei p) []) := eqi
@[simp] def Jqej (p : Nums) : List IOp := [qo 67 (.faddr 3 (.t 5)), qo 68 (.faddr 3 (.t 67)), qo 69 (.load none (.t 68)), qo 70 (.load (some 5) (.t 10)), qo 71 (.bslice 5 1 [(.sl []), (.int .i64 0), (.int .i64 0), (.int .i64 0), (.int .i64 0)] [(0, (.t 70))]), qo 72 (.app 5 56 (.t 69) (.t 71)), qo 73 (.faddr 3 (.t 5)), qo 74 (.faddr 3 (.t 73)), qn (.store 1 (.t 74) (.t 72))]
def Jqdx (p : Nums) : IC := (.region (Jqej p) [])
@[simp] theorem Jedx {p : Nums} : EqI (Jqdx p) (.region (Jqej p) []) := eqi
@[simp] def Jqek (p : Nums) : List IOp := [qp 75 (.faddr 7 (.t 5)), qp 76 (.load none (.t 75)), qp 77 (.faddr 1 (.t 1)), qp 78 (.load none (.t 77)), qp 79 (.call p.spillall_invariant [(.t 78)]), qp 80 (.bslice 1 1 [(.sl [])] [(0, (.t 79))]), qo 81 (.app 1 24 (.t 76) (.t 80)), qo 82 (.faddr 7 (.t 5)), qn (.store 1 (.t 82) (.t 81))]
def Jqdy (p : Nums) : IC := (.region (Jqek p) [])
@[simp] theorem Jedy {p : Nums} : EqI (Jqdy p) (.region (Jqek p) []) := eqi
def Jqdz (p : Nums) : IC := (.seq (Jqee p) (.seq (Jqef p) (.seq (Jqdv p) (.seq (Jqdw p) (.seq (Jqdx p) (Jqdy p))))))
@[simp] theorem Jedz {p : Nums} : EqI (Jqdz p) (.seq (Jqee p) (.seq (Jqef p) (.seq (Jqdv p) (.seq (Jqdw p) (.seq (Jqdx p) (Jqdy p)))))) := eqi
def Jqe0 (p : Nums) : IC := (.seq (.region [⟨(some 40), (.bin .lss (.t 39) (.t 38)), none, false⟩] []) (.seq (.cond (.t 40) .skip (.exit 0)) (.seq (.block 1 (Jqdz p)) (.region [⟨(some 83), (.bin .add (.t 39) (.c (.d (.int .i64 1)))), none, false⟩, ⟨(some 39), (.mov (.t 83)), none, false⟩] []))))
@[simp] theorem Jee0 {p : Nums} : EqI (Jqe0 p) (.seq (.region [⟨(some 40), (.bin .lss (.t 39) (.t 38)), none, false⟩] []) (.seq (.cond (.t 40) .skip (.exit 0)) (.seq (.block 1 (Jqdz p)) (.region [⟨(some 83), (.bin .add (.t 39) (.c (.d (.int .i64 1)))), none, false⟩, ⟨(some 39), (.mov (.t 83)), none, false⟩] [])))) := eqi
@[simp] def Jqel (p : Nums) : List IOp := [qo 85 (.mov (.t 6)), qo 86 (.bin .gtr (.t 85) (ci 1048576)), qo 84 (.asg (.t 86))]
def Jqe1 (p : Nums) : IC := (.region (Jqel p) [])
@[simp] theorem Jee1 {p : Nums} : EqI (Jqe1 p) (.region (Jqel p) []) := eqi
@[simp] def Jqem (p : Nums) : List IOp := [qo 87 (.build [(zi 0), (zi 0), .nils, (zi 0), (zi 0), (zi 0), .nils, .nils] []), qn (.store 8 (.t 2) (.t 87)), qo 3 (.asg (ci 6))]
def Jqe2 (p : Nums) : IC := (.region (Jqem p) [])
@[simp] theorem Jee2 {p : Nums} : EqI (Jqe2 p) (.region (Jqem p) []) := eqi
@[simp] def Jqen (p : Nums) : List IOp := [qo 89 (.mov (.t 7)), qo 90 (.bin .gtr (.t 89) (ci 64)), qo 88 (.asg (.t 90))]
def Jqe3 (p : Nums) : IC := (.region (Jqen p) [])
@[simp] theorem Jee3 {p : Nums} : EqI (Jqe3 p) (.region (Jqen p) []) := eqi
@[simp] def Jqeo (p : Nums) : List IOp := [qo 91 (.build [(zi 0), (zi 0), .nils, (zi 0), (zi 0), (zi 0), .nils, .nils] []), qn (.store 8 (.t 2) (.t 91)), qo 3 (.asg (ci 15))]
def Jqe4 (p : Nums) : IC := (.region (Jqeo p) [])
@[simp] theorem Jee4 {p : Nums} : EqI (Jqe4 p) (.region (Jqeo p) []) := eqi
def Jqe6 (p : Nums) : IC := (.seq (Jqe3 p) (.cond (.t 88) (.seq (Jqe4 p) .ret) .skip))
@[simp] theorem Jee6 {p : Nums} : EqI (Jqe6 p) (.seq (Jqe3 p) (.cond (.t 88) (.seq (Jqe4 p) .ret) .skip)) := eqi
def Jqe7 (p : Nums) : IC := (.seq (Jqe1 p) (.cond (.t 84) (.seq (Jqe2 p) .ret) (Jqe6 p)))
@[simp] theorem Jee7 {p : Nums} : EqI (Jqe7 p) (.seq (Jqe1 p) (.cond (.t 84) (.seq (Jqe2 p) .ret) (Jqe6 p))) := eqi
@[simp] def Jqeq (p : Nums) : List IOp := [qo 92 (.load (some 8) (.t 5)), qn (.store 8 (.t 2) (.t 92)), qo 3 (.asg (ci 0))]
def Jqe8 (p : Nums) : IC := (.region (Jqeq p) [])
@[simp] theorem Jee8 {p : Nums} : EqI (Jqe8 p) (.region (Jqeq p) []) := eqi
def Jtbm (p : Nums) : IC := (.seq (Jqdu p) (.seq (.seq (Jqe5 p) (.seq (.region [⟨(some 13), (.mov (.t 4)), none, false⟩, ⟨(some 14), (.bin .neq (.t 13) (.c (.d (.int .i64 0)))), none, false⟩] []) (.cond (.t 14) (.seq (Jqe9 p) .ret) .skip))) (.seq (Jqea p) (.seq (.seq (Jqeb p) (.cond (.t 34) (.seq (Jqec p) .ret) .skip)) (.seq (.region [⟨(some 6), (.asg (.c (.d (.int .i64 0)))), none, false⟩, ⟨(some 7), (.asg (.c (.d (.int .i64 0)))), none, false⟩] []) (.seq (.seq (Jqed p) (.block 0 (.loop (Jqe0 p)))) (.seq (.block 2 (Jqe7 p)) (.seq (Jqe8 p) .ret))))))))
@[simp] def Jqb4 (p : Nums) : List IOp := [qo 7 (.faddr 0 (.t 1)), qo 8 (.load none (.t 7)), qo 9 (.bin .lss (.t 8) (ci 0)), qo 10 (.mov (.t 9)), ⟨(some 11), (.faddr 0 (.t 1)), (some (10, false)), false⟩, ⟨(some 12), (.load none (.t 11)), (some (10, false)), false⟩, ⟨(some 13), (.faddr 1 (.t 1)), (some (10, false)), false⟩, ⟨(some 14), (.load none (.t 13)), (some (10, false)), false⟩, ⟨(some 15), (.bin .gtr (.t 12) (.t 14)), (some (10, false)), false⟩, qo 16 (.pick (.t 10) (.c (.d (.bool true))) (.t 15)), qo 6 (.asg (.t 16))]
def Jqam (p : Nums) : IC := (.region (Jqb4 p) [])
@[simp] theorem Jeam {p : Nums} : EqI (Jqam p) (.region (Jqb4 p) []) := eqi
@[simp] def Jqb8 (p : Nums) : List IOp := [qo 18 (.faddr 1 (.t 1)), qo 19 (.load none (.t 18)), qo 20 (.bin .gtr (.t 19) (ci 1048576)), qo 17 (.asg (.t 20))]
def Jqaw (p : Nums) : IC := (.region (Jqb8 p) [])
@[simp] theorem Jeaw {p : Nums} : EqI (Jqaw p) (.region (Jqb8 p) []) := eqi
@[simp] def Jqb9 (p : Nums) : List IOp := [qo 22 (.faddr 2 (.t 1)), qo 23 (.load none (.t 22)), qo 24 (.len (.t 23)), qo 25 (.bin .eql (.t 24) (ci 0)), qo 21 (.asg (.t 25))]
def Jqax (p : Nums) : IC := (.region (Jqb9 p) [])
@[simp] theorem Jeax {p : Nums} : EqI (Jqax p) (.region (Jqb9 p) []) := eqi
@[simp] def Jqba (p : Nums) : List IOp := [qo 27 (.faddr 2 (.t 1)), qo 28 (.load none (.t 27)), qo 29 (.len (.t 28)), qo 30 (.bin .gtr (.t 29) (ci 1048576)), qo 31 (.mov (.t 30)), ⟨(some 32), (.load (some 3) (.t 1)), (some (31, false)), false⟩, ⟨(some 33), (.call p.source_Code [(.t 32)]), (some (31, false)), false⟩, ⟨(some 34), (.bin .gtr (.t 33) (ci 1048576)), (some (31, false)), false⟩, qo 35 (.pick (.t 31) (.c (.d (.bool true))) (.t 34)), qo 26 (.asg (.t 35))]
def Jqay (p : Nums) : IC := (.region (Jqba p) [])
@[simp] theorem Jeay {p : Nums} : EqI (Jqay p) (.region (Jqba p) []) := eqi
def Jqaz (p : Nums) : IC := (.seq (.region [⟨(some 2), (.asg (.c (.d (.int .i64 6)))), none, false⟩] []) .ret)
@[simp] theorem Jeaz {p : Nums} : EqI (Jqaz p) (.seq (.region [⟨(some 2), (.asg (.c (.d (.int .i64 6)))), none, false⟩] []) .ret) := eqi
def Jqb0 (p : Nums) : IC := (.seq (.region [⟨(some 2), (.asg (.c (.d (.int .i64 14)))), none, false⟩] []) .ret)
@[simp] theorem Jeb0 {p : Nums} : EqI (Jqb0 p) (.seq (.region [⟨(some 2), (.asg (.c (.d (.int .i64 14)))), none, false⟩] []) .ret) := eqi
def Jqb1 (p : Nums) : IC := (.seq (Jqay p) (.cond (.t 26) (Jqaz p) .skip))
@[simp] theorem Jeb1 {p : Nums} : EqI (Jqb1 p) (.seq (Jqay p) (.cond (.t 26) (Jqaz p) .skip)) := eqi
def Jqb2 (p : Nums) : IC := (.seq (.region [⟨(some 2), (.asg (.c (.d (.int .i64 6)))), none, false⟩] []) .ret)
@[simp] theorem Jeb2 {p : Nums} : EqI (Jqb2 p) (.seq (.region [⟨(some 2), (.asg (.c (.d (.int .i64 6)))), none, false⟩] []) .ret) := eqi
def Jqb3 (p : Nums) : IC := (.seq (Jqax p) (.cond (.t 21) (Jqb0 p) (Jqb1 p)))
@[simp] theorem Jeb3 {p : Nums} : EqI (Jqb3 p) (.seq (Jqax p) (.cond (.t 21) (Jqb0 p) (Jqb1 p))) := eqi
def Jqan (p : Nums) : IC := (.seq (.region [⟨(some 2), (.asg (.c (.d (.int .i64 9)))), none, false⟩] []) .ret)
@[simp] theorem Jean {p : Nums} : EqI (Jqan p) (.seq (.region [⟨(some 2), (.asg (.c (.d (.int .i64 9)))), none, false⟩] []) .ret) := eqi
def Jqao (p : Nums) : IC := (.seq (Jqaw p) (.cond (.t 17) (Jqb2 p) (Jqb3 p)))
@[simp] theorem Jeao {p : Nums} : EqI (Jqao p) (.seq (Jqaw p) (.cond (.t 17) (Jqb2 p) (Jqb3 p))) := eqi
def Jqap (p : Nums) : IC := (.seq (Jqam p) (.cond (.t 6) (Jqan p) (Jqao p)))
@[simp] theorem Jeap {p : Nums} : EqI (Jqap p) (.seq (Jqam p) (.cond (.t 6) (Jqan p) (Jqao p))) := eqi
@[simp] def Jqb5 (p : Nums) : List IOp := [qo 36 (.faddr 2 (.t 1)), qo 37 (.load none (.t 36)), qo 38 (.len (.t 37)), qo 39 (.mov (ci 0))]
def Jqaq (p : Nums) : IC := (.region (Jqb5 p) [])
@[simp] theorem Jeaq {p : Nums} : EqI (Jqaq p) (.region (Jqb5 p) []) := eqi
@[simp] def Jqb6 (p : Nums) : List IOp := [qo 41 (.iaddr 5 (.t 37) (.t 39)), qo 42 (.load (some 5) (.t 41)), qo 4 (.alloc [.nils, (zi 0), (zi 0), (zi 0), (zi 0)]), qn (.store 5 (.t 4) (.t 42))]
def Jqar (p : Nums) : IC := (.region (Jqb6 p) [])
@[simp] theorem Jear {p : Nums} : EqI (Jqar p) (.region (Jqb6 p) []) := eqi
@[simp] def Jqb7 (p : Nums) : List IOp := [qo 43 (.load (some 5) (.t 4)), qo 44 (.faddr 1 (.t 1)), qo 45 (.load none (.t 44)), qo 46 (.faddr 2 (.t 1)), qo 47 (.load none (.t 46)), qo 48 (.len (.t 47)), qo 49 (.call p.source_block [(.t 43), (.t 45), (.t 48)]), qo 5 (.asg (.t 49))]
def Jqas (p : Nums) : IC := (.region (Jqb7 p) [])
@[simp] theorem Jeas {p : Nums} : EqI (Jqas p) (.region (Jqb7 p) []) := eqi
def Jqat (p : Nums) : IC := (.seq (.region [⟨(some 52), (.mov (.t 5)), none, false⟩, ⟨(some 2), (.asg (.t 52)), none, false⟩] []) .ret)
@[simp] theorem Jeat {p : Nums} : EqI (Jqat p) (.seq (.region [⟨(some 52), (.mov (.t 5)), none, false⟩, ⟨(some 2), (.asg (.t 52)), none, false⟩] []) .ret) := eqi
def Jqau (p : Nums) : IC := (.seq (Jqar p) (.seq (Jqas p) (.seq (.region [⟨(some 50), (.mov (.t 5)), none, false⟩, ⟨(some 51), (.bin .neq (.t 50) (.c (.d (.int .i64 0)))), none, false⟩] []) (.cond (.t 51) (Jqat p) .skip))))
@[simp] theorem Jeau {p : Nums} : EqI (Jqau p) (.seq (Jqar p) (.seq (Jqas p) (.seq (.region [⟨(some 50), (.mov (.t 5)), none, false⟩, ⟨(some 51), (.bin .neq (.t 50) (.c (.d (.int .i64 0)))), none, false⟩] []) (.cond (.t 51) (Jqat p) .skip)))) := eqi
def Jqav (p : Nums) : IC := (.seq (.region [⟨(some 40), (.bin .lss (.t 39) (.t 38)), none, false⟩] []) (.seq (.cond (.t 40) .skip (.exit 1)) (.seq (.block 2 (Jqau p)) (.region [⟨(some 53), (.bin .add (.t 39) (.c (.d (.int .i64 1)))), none, false⟩, ⟨(some 39), (.mov (.t 53)), none, false⟩] []))))
@[simp] theorem Jeav {p : Nums} : EqI (Jqav p) (.seq (.region [⟨(some 40), (.bin .lss (.t 39) (.t 38)), none, false⟩] []) (.seq (.cond (.t 40) .skip (.exit 1)) (.seq (.block 2 (Jqau p)) (.region [⟨(some 53), (.bin .add (.t 39) (.c (.d (.int .i64 1)))), none, false⟩, ⟨(some 39), (.mov (.t 53)), none, false⟩] [])))) := eqi
def Jtbe (p : Nums) : IC := (.seq (.region [⟨(some 1), (.box (.t 0)), none, false⟩, ⟨(some 2), (.asg (.c (.d (.int .i64 0)))), none, false⟩] []) (.seq (.block 0 (Jqap p)) (.seq (.seq (Jqaq p) (.block 1 (.loop (Jqav p)))) (.seq (.region [⟨(some 2), (.asg (.c (.d (.int .i64 0)))), none, false⟩] []) .ret))))
@[simp] def Jqbf (p : Nums) : List IOp := [qo 6 (.faddr 2 (.t 1)), qo 7 (.load none (.t 6)), qo 8 (.len (.t 7)), qo 9 (.mov (ci 0))]
def Jqbb (p : Nums) : IC := (.region (Jqbf p) [])
@[simp] theorem Jebb {p : Nums} : EqI (Jqbb p) (.region (Jqbf p) []) := eqi
@[simp] def Jqbg (p : Nums) : List IOp := [qo 11 (.iaddr 5 (.t 7) (.t 9)), qo 12 (.load (some 5) (.t 11)), qo 5 (.alloc [.nils, (zi 0), (zi 0), (zi 0), (zi 0)]), qn (.store 5 (.t 5) (.t 12))]
def Jqbc (p : Nums) : IC := (.region (Jqbg p) [])
@[simp] theorem Jebc {p : Nums} : EqI (Jqbc p) (.region (Jqbg p) []) := eqi
@[simp] def Jqbh (p : Nums) : List IOp := [qo 13 (.mov (.t 3)), qo 14 (.faddr 0 (.t 5)), qo 15 (.load none (.t 14)), qo 16 (.len (.t 15)), qo 17 (.bin .add (.t 13) (.t 16)), qo 3 (.asg (.t 17))]
def Jqbd (p : Nums) : IC := (.region (Jqbh p) [])
@[simp] theorem Jebd {p : Nums} : EqI (Jqbd p) (.region (Jqbh p) []) := eqi
def Jqbe (p : Nums) : IC := (.seq (.region [⟨(some 10), (.bin .lss (.t 9) (.t 8)), none, false⟩] []) (.seq (.cond (.t 10) .skip (.exit 0)) (.seq (.block 1 (.seq (Jqbc p) (Jqbd p))) (.region [⟨(some 18), (.bin .add (.t 9) (.c (.d (.int .i64 1)))), none, false⟩, ⟨(some 9), (.mov (.t 18)), none, false⟩] []))))
@[simp] theorem Jebe {p : Nums} : EqI (Jqbe p) (.seq (.region [⟨(some 10), (.bin .lss (.t 9) (.t 8)), none, false⟩] []) (.seq (.cond (.t 10) .skip (.exit 0)) (.seq (.block 1 (.seq (Jqbc p) (Jqbd p))) (.region [⟨(some 18), (.bin .add (.t 9) (.c (.d (.int .i64 1)))), none, false⟩, ⟨(some 9), (.mov (.t 18)), none, false⟩] [])))) := eqi
def Jtbf (p : Nums) : IC := (.seq (.region [⟨(some 1), (.box (.t 0)), none, false⟩, ⟨(some 2), (.asg (.c (.d (.int .i64 0)))), none, false⟩] []) (.seq (.region [⟨(some 3), (.asg (.c (.d (.int .i64 0)))), none, false⟩] []) (.seq (.seq (Jqbb p) (.block 0 (.loop (Jqbe p)))) (.seq (.region [⟨(some 19), (.mov (.t 3)), none, false⟩, ⟨(some 2), (.asg (.t 19)), none, false⟩] []) .ret))))
@[simp] def Jq7h (p : Nums) : List IOp := [qo 3 (.mov (.t 0)), qo 4 (.bin .geq (.t 3) (ci 2)), qo 5 (.mov (.t 4)), ⟨(some 6), (.mov (.t 0)), (some (5, true)), false⟩, ⟨(some 7), (.bin .leq (.t 6) (ci 17)), (some (5, true)), false⟩, qo 8 (.pick (.t 5) (.t 7) (.c (.d (.bool false)))), qo 2 (.asg (.t 8))]
def Jq7g (p : Nums) : IC := (.region (Jq7h p) [])
@[simp] theorem Je7g {p : Nums} : EqI (Jq7g p) (.region (Jq7h p) []) := eqi
def Jtb2 (p : Nums) : IC := (.seq (.region [⟨(some 2), (.asg (.c (.d (.bool false)))), none, false⟩] []) (.seq (Jq7g p) .ret))
@[simp] def Jq7j (p : Nums) : List IOp := [qo 3 (.mov (.t 0)), qo 4 (.bin .geq (.t 3) (ci 5)), qo 5 (.mov (.t 4)), ⟨(some 6), (.mov (.t 0)), (some (5, true)), false⟩, ⟨(some 7), (.bin .leq (.t 6) (ci 16)), (some (5, true)), false⟩, qo 8 (.pick (.t 5) (.t 7) (.c (.d (.bool false)))), qo 2 (.asg (.t 8))]
def Jq7i (p : Nums) : IC := (.region (Jq7j p) [])
@[simp] theorem Je7i {p : Nums} : EqI (Jq7i p) (.region (Jq7j p) []) := eqi
def Jtb3 (p : Nums) : IC := (.seq (.region [⟨(some 2), (.asg (.c (.d (.bool false)))), none, false⟩] []) (.seq (Jq7i p) .ret))
@[simp] def Jq7l (p : Nums) : List IOp := [qo 3 (.mov (.t 0)), qo 4 (.bin .geq (.t 3) (ci 1)), qo 5 (.mov (.t 4)), ⟨(some 6), (.mov (.t 0)), (some (5, true)), false⟩, ⟨(some 7), (.bin .leq (.t 6) (ci 16)), (some (5, true)), false⟩, qo 8 (.pick (.t 5) (.t 7) (.c (.d (.bool false)))), qo 2 (.asg (.t 8))]
def Jq7k (p : Nums) : IC := (.region (Jq7l p) [])
@[simp] theorem Je7k {p : Nums} : EqI (Jq7k p) (.region (Jq7l p) []) := eqi
def Jtb4 (p : Nums) : IC := (.seq (.region [⟨(some 2), (.asg (.c (.d (.bool false)))), none, false⟩] []) (.seq (Jq7k p) .ret))
@[simp] def Jq49 (p : Nums) : List IOp := [qo 3 (.box (.t 0)), qo 6 (.alloc [(zi 0), (zi 0), (zi 0), (zi 0), .nils, .nils, .nils, (zi 0)]), qo 7 (.asg (ci 0))]
def Jq41 (p : Nums) : IC := (.region (Jq49 p) [])
@[simp] theorem Je41 {p : Nums} : EqI (Jq41 p) (.region (Jq49 p) []) := eqi
@[simp] def Jq4a (p : Nums) : List IOp := [qo 9 (.mov (.t 1)), qo 10 (.len (.t 9)), qo 11 (.faddr 0 (.t 3)), qo 12 (.load none (.t 11)), qo 13 (.bin .neq (.t 10) (.t 12))]
def Jq42 (p : Nums) : IC := (.region (Jq4a p) [])
@[simp] theorem Je42 {p : Nums} : EqI (Jq42 p) (.region (Jq4a p) []) := eqi
@[simp] def Jq4b (p : Nums) : List IOp := [qo 14 (.build [(zi 0), (zi 0), (zi 0), (zi 0), .nils, .nils, .nils, (zi 0)] []), qn (.store 8 (.t 6) (.t 14)), qo 7 (.asg (ci 32))]
def Jq43 (p : Nums) : IC := (.region (Jq4b p) [])
@[simp] theorem Je43 {p : Nums} : EqI (Jq43 p) (.region (Jq4b p) []) := eqi
@[simp] def Jq4c (p : Nums) : List IOp := [qo 15 (.load (some 3) (.t 3)), qo 16 (.mov (.t 1)), qo 17 (.call p.interp_begin [(.t 15), (.t 16)]), qo 8 (.asg (.t 17))]
def Jq44 (p : Nums) : IC := (.region (Jq4c p) [])
@[simp] theorem Je44 {p : Nums} : EqI (Jq44 p) (.region (Jq4c p) []) := eqi
@[simp] def Jq4d (p : Nums) : List IOp := [qo 18 (.mov (.t 8)), qo 19 (.nilck (.t 18)), qo 20 (.faddr 0 (.t 19)), qo 21 (.faddr 0 (.t 20)), qo 22 (.load none (.t 21)), qo 23 (.bin .eql (.t 22) (ci 0)), qo 24 (.mov (.t 23)), ⟨(some 25), (.mov (.t 8)), (some (24, true)), false⟩, ⟨(some 26), (.nilck (.t 25)), (some (24, true)), false⟩, ⟨(some 27), (.faddr 0 (.t 26)), (some (24, true)), false⟩, ⟨(some 28), (.faddr 7 (.t 27)), (some (24, true)), false⟩, ⟨(some 29), (.load none (.t 28)), (some (24, true)), false⟩, ⟨(some 30), (.mov (.t 2)), (some (24, true)), false⟩, ⟨(some 31), (.mn (.t 30) (ci 1073741824)), (some (24, true)), false⟩, ⟨(some 32), (.bin .lss (.t 29) (.t 31)), (some (24, true)), false⟩, qo 33 (.pick (.t 24) (.t 32) (.c (.d (.bool false))))]
def Jq45 (p : Nums) : IC := (.region (Jq4d p) [])
@[simp] theorem Je45 {p : Nums} : EqI (Jq45 p) (.region (Jq4d p) []) := eqi
@[simp] def Jq4e (p : Nums) : List IOp := [qo 34 (.mov (.t 8)), qo 35 (.call p.interp_state_step [(.t 34)])]
def Jq46 (p : Nums) : IC := (.region (Jq4e p) [])
@[simp] theorem Je46 {p : Nums} : EqI (Jq46 p) (.region (Jq4e p) []) := eqi
def Jq47 (p : Nums) : IC := (.seq (.seq (Jq45 p) (.cond (.t 33) .skip (.exit 0))) (.block 1 (Jq46 p)))
@[simp] theorem Je47 {p : Nums} : EqI (Jq47 p) (.seq (.seq (Jq45 p) (.cond (.t 33) .skip (.exit 0))) (.block 1 (Jq46 p))) := eqi
@[simp] def Jq4f (p : Nums) : List IOp := [qo 36 (.mov (.t 8)), qo 37 (.nilck (.t 36)), qo 38 (.faddr 0 (.t 37)), qo 39 (.load (some 8) (.t 38)), qn (.store 8 (.t 6) (.t 39)), qo 7 (.asg (ci 0))]
def Jq48 (p : Nums) : IC := (.region (Jq4f p) [])
@[simp] theorem Je48 {p : Nums} : EqI (Jq48 p) (.region (Jq4f p) []) := eqi
def Jtao (p : Nums) : IC := (.seq (Jq41 p) (.seq (.seq (Jq42 p) (.cond (.t 13) (.seq (Jq43 p) .ret) .skip)) (.seq (Jq44 p) (.seq (.block 0 (.loop (Jq47 p))) (.seq (Jq48 p) .ret)))))
@[simp] def Jq2b (p : Nums) : List IOp := [qo 3 (.box (.t 0)), qo 6 (.alloc [(zi 0), (zi 0), (zi 0), (zi 0), .nils, .nils, .nils, (zi 0)]), qo 7 (.asg (ci 0))]
def Jq23 (p : Nums) : IC := (.region (Jq2b p) [])
@[simp] theorem Je23 {p : Nums} : EqI (Jq23 p) (.region (Jq2b p) []) := eqi
@[simp] def Jq2c (p : Nums) : List IOp := [qo 9 (.mov (.t 1)), qo 10 (.len (.t 9)), qo 11 (.faddr 0 (.t 3)), qo 12 (.load none (.t 11)), qo 13 (.bin .neq (.t 10) (.t 12))]
def Jq24 (p : Nums) : IC := (.region (Jq2c p) [])
@[simp] theorem Je24 {p : Nums} : EqI (Jq24 p) (.region (Jq2c p) []) := eqi
@[simp] def Jq2d (p : Nums) : List IOp := [qo 14 (.build [(zi 0), (zi 0), (zi 0), (zi 0), .nils, .nils, .nils, (zi 0)] []), qn (.store 8 (.t 6) (.t 14)), qo 7 (.asg (ci 32))]
def Jq25 (p : Nums) : IC := (.region (Jq2d p) [])
@[simp] theorem Je25 {p : Nums} : EqI (Jq25 p) (.region (Jq2d p) []) := eqi
@[simp] def Jq2e (p : Nums) : List IOp := [qo 15 (.load (some 4) (.t 3)), qo 16 (.mov (.t 1)), qo 17 (.call p.execute_begin [(.t 15), (.t 16)]), qo 8 (.asg (.t 17))]
def Jq26 (p : Nums) : IC := (.region (Jq2e p) [])
@[simp] theorem Je26 {p : Nums} : EqI (Jq26 p) (.region (Jq2e p) []) := eqi
@[simp] def Jq2f (p : Nums) : List IOp := [qo 18 (.mov (.t 8)), qo 19 (.nilck (.t 18)), qo 20 (.faddr 0 (.t 19)), qo 21 (.faddr 0 (.t 20)), qo 22 (.load none (.t 21)), qo 23 (.bin .eql (.t 22) (ci 0)), qo 24 (.mov (.t 23)), ⟨(some 25), (.mov (.t 8)), (some (24, true)), false⟩, ⟨(some 26), (.nilck (.t 25)), (some (24, true)), false⟩, ⟨(some 27), (.faddr 0 (.t 26)), (some (24, true)), false⟩, ⟨(some 28), (.faddr 7 (.t 27)), (some (24, true)), false⟩, ⟨(some 29), (.load none (.t 28)), (some (24, true)), false⟩, ⟨(some 30), (.mov (.t 2)), (some (24, true)), false⟩, ⟨(some 31), (.mn (.t 30) (ci 1073741824)), (some (24, true)), false⟩, ⟨(some 32), (.bin .lss (.t 29) (.t 31)), (some (24, true)), false⟩, qo 33 (.pick (.t 24) (.t 32) (.c (.d (.bool false))))]
def Jq27 (p : Nums) : IC := (.region (Jq2f p) [])
@[simp] theorem Je27 {p : Nums} : EqI (Jq27 p) (.region (Jq2f p) []) := eqi
@[simp] def Jq2g (p : Nums) : List IOp := [qo 34 (.mov (.t 8)), qo 35 (.call p.execute_state_step [(.t 34)])]
def Jq28 (p : Nums) : IC := (.region (Jq2g p) [])
@[simp] theorem Je28 {p : Nums} : EqI (Jq28 p) (.region (Jq2g p) []) := eqi
def Jq29 (p : Nums) : IC := (.seq (.seq (Jq27 p) (.cond (.t 33) .skip (.exit 0))) (.block 1 (Jq28 p)))
@[simp] theorem Je29 {p : Nums} : EqI (Jq29 p) (.seq (.seq (Jq27 p) (.cond (.t 33) .skip (.exit 0))) (.block 1 (Jq28 p))) := eqi
@[simp] def Jq2h (p : Nums) : List IOp := [qo 36 (.mov (.t 8)), qo 37 (.nilck (.t 36)), qo 38 (.faddr 0 (.t 37)), qo 39 (.load (some 8) (.t 38)), qn (.store 8 (.t 6) (.t 39)), qo 7 (.asg (ci 0))]
def Jq2a (p : Nums) : IC := (.region (Jq2h p) [])
@[simp] theorem Je2a {p : Nums} : EqI (Jq2a p) (.region (Jq2h p) []) := eqi
def Jtaf (p : Nums) : IC := (.seq (Jq23 p) (.seq (.seq (Jq24 p) (.cond (.t 13) (.seq (Jq25 p) .ret) .skip)) (.seq (Jq26 p) (.seq (.block 0 (.loop (Jq29 p))) (.seq (Jq2a p) .ret)))))
@[simp] def Jqaf (p : Nums) : List IOp := [qo 6 (.mov (.t 0)), qo 7 (.len (.t 6)), qo 8 (.mov (.t 1)), qo 9 (.len (.t 8)), qo 10 (.bin .neq (.t 7) (.t 9))]
def Jqa7 (p : Nums) : IC := (.region (Jqaf p) [])
@[simp] theorem Jea7 {p : Nums} : EqI (Jqa7 p) (.region (Jqaf p) []) := eqi
def Jqa8 (p : Nums) : IC := (.seq (.region [⟨(some 4), (.asg (.c (.d (.bool false)))), none, false⟩] []) .ret)
@[simp] theorem Jea8 {p : Nums} : EqI (Jqa8 p) (.seq (.region [⟨(some 4), (.asg (.c (.d (.bool false)))), none, false⟩] []) .ret) := eqi
@[simp] def Jqag (p : Nums) : List IOp := [qo 11 (.mov (.t 5)), qo 12 (.mov (.t 0)), qo 13 (.len (.t 12)), qo 14 (.bin .lss (.t 11) (.t 13))]
def Jqa9 (p : Nums) : IC := (.region (Jqag p) [])
@[simp] theorem Jea9 {p : Nums} : EqI (Jqa9 p) (.region (Jqag p) []) := eqi
@[simp] def Jqah (p : Nums) : List IOp := [qp 17 (.mov (.t 0)), qp 18 (.mov (.t 5)), qp 19 (.iaddr 1 (.t 17) (.t 18)), qp 20 (.load none (.t 19)), qp 21 (.mov (.t 1)), qp 22 (.mov (.t 5)), qp 23 (.iaddr 1 (.t 21) (.t 22)), qp 24 (.load none (.t 23)), qo 25 (.bin .neq (.t 20) (.t 24))]
def Jqaa (p : Nums) : IC := (.region (Jqah p) [])
@[simp] theorem Jeaa {p : Nums} : EqI (Jqaa p) (.region (Jqah p) []) := eqi
def Jqab (p : Nums) : IC := (.seq (.region [⟨(some 4), (.asg (.c (.d (.bool false)))), none, false⟩] []) .ret)
@[simp] theorem Jeab {p : Nums} : EqI (Jqab p) (.seq (.region [⟨(some 4), (.asg (.c (.d (.bool false)))), none, false⟩] []) .ret) := eqi
def Jqac (p : Nums) : IC := (.seq (Jqaa p) (.cond (.t 25) (Jqab p) .skip))
@[simp] theorem Jeac {p : Nums} : EqI (Jqac p) (.seq (Jqaa p) (.cond (.t 25) (Jqab p) .skip)) := eqi
@[simp] def Jqai (p : Nums) : List IOp := [qo 15 (.mov (.t 5)), qo 16 (.bin .add (.t 15) (ci 1)), qo 5 (.asg (.t 16))]
def Jqad (p : Nums) : IC := (.region (Jqai p) [])
@[simp] theorem Jead {p : Nums} : EqI (Jqad p) (.region (Jqai p) []) := eqi
def Jqae (p : Nums) : IC := (.seq (.seq (Jqa9 p) (.cond (.t 14) .skip (.exit 0))) (.seq (.block 1 (Jqac p)) (Jqad p)))
@[simp] theorem Jeae {p : Nums} : EqI (Jqae p) (.seq (.seq (Jqa9 p) (.cond (.t 14) .skip (.exit 0))) (.seq (.block 1 (Jqac p)) (Jqad p))) := eqi
def Jtbc (p : Nums) : IC := (.seq (.region [⟨(some 4), (.asg (.c (.d (.bool false)))), none, false⟩] []) (.seq (.seq (Jqa7 p) (.cond (.t 10) (Jqa8 p) .skip)) (.seq (.seq (.region [⟨(some 5), (.asg (.c (.d (.int .i64 0)))), none, false⟩] []) (.block 0 (.loop (Jqae p)))) (.seq (.region [⟨(some 4), (.asg (.c (.d (.bool true)))), none, false⟩] []) .ret))))
@[simp] def Jqdm (p : Nums) : List IOp := [qo 1 (.box (.t 0)), qo 2 (.alloc [.nils, (zi 0), (zi 0), (zi 0), (zi 0)])]
def Jqdd (p : Nums) : IC := (.region (Jqdm p) [])
@[simp] theorem Jedd {p : Nums} : EqI (Jqdd p) (.region (Jqdm p) []) := eqi
@[simp] def Jqdn (p : Nums) : List IOp := [qo 7 (.faddr 0 (.t 1)), qo 8 (.load none (.t 7)), qo 9 (.len (.t 8)), qo 10 (.mov (ci 0))]
def Jqde (p : Nums) : IC := (.region (Jqdn p) [])
@[simp] theorem Jede {p : Nums} : EqI (Jqde p) (.region (Jqdn p) []) := eqi
@[simp] def Jqdo (p : Nums) : List IOp := [qo 12 (.iaddr 5 (.t 8) (.t 10)), qo 13 (.load (some 5) (.t 12)), qo 5 (.alloc [(zi 0), (zi 0), (zi 0), (zi 0), (zi 0)]), qn (.store 5 (.t 5) (.t 13))]
def Jqdf (p : Nums) : IC := (.region (Jqdo p) [])
@[simp] theorem Jedf {p : Nums} : EqI (Jqdf p) (.region (Jqdo p) []) := eqi
@[simp] def Jqdp (p : Nums) : List IOp := [qo 14 (.load (some 5) (.t 5)), qo 15 (.call p.spillall_builder_instr [(.t 3), (.t 14)])]
def Jqdg (p : Nums) : IC := (.region (Jqdp p) [])
@[simp] theorem Jedg {p : Nums} : EqI (Jqdg p) (.region (Jqdp p) []) := eqi
def Jqdh (p : Nums) : IC := (.seq (.region [⟨(some 11), (.bin .lss (.t 10) (.t 9)), none, false⟩] []) (.seq (.cond (.t 11) .skip (.exit 0)) (.seq (.block 1 (.seq (Jqdf p) (Jqdg p))) (.region [⟨(some 16), (.bin .add (.t 10) (.c (.d (.int .i64 1)))), none, false⟩, ⟨(some 10), (.mov (.t 16)), none, false⟩] []))))
@[simp] theorem Jedh {p : Nums} : EqI (Jqdh p) (.seq (.region [⟨(some 11), (.bin .lss (.t 10) (.t 9)), none, false⟩] []) (.seq (.cond (.t 11) .skip (.exit 0)) (.seq (.block 1 (.seq (Jqdf p) (Jqdg p))) (.region [⟨(some 16), (.bin .add (.t 10) (.c (.d (.int .i64 1)))), none, false⟩, ⟨(some 10), (.mov (.t 16)), none, false⟩] [])))) := eqi
@[simp] def Jqdq (p : Nums) : List IOp := [qo 17 (.faddr 1 (.t 1)), qo 18 (.load (some 4) (.t 17)), qo 6 (.alloc [(zi 0), (zi 0), (zi 0), (zi 0)]), qn (.store 4 (.t 6) (.t 18))]
def Jqdi (p : Nums) : IC := (.region (Jqdq p) [])
@[simp] theorem Jedi {p : Nums} : EqI (Jqdi p) (.region (Jqdq p) []) := eqi
@[simp] def Jqdr (p : Nums) : List IOp := [qo 19 (.faddr 0 (.t 6)), qo 20 (.load none (.t 19)), qo 21 (.bin .neq (.t 20) (ci 1))]
def Jqdj (p : Nums) : IC := (.region (Jqdr p) [])
@[simp] theorem Jedj {p : Nums} : EqI (Jqdj p) (.region (Jqdr p) []) := eqi
@[simp] def Jqds (p : Nums) : List IOp := [qo 22 (.faddr 1 (.t 6)), qo 23 (.load none (.t 22)), qo 24 (.call p.spillall_load [(ci 0), (.t 23)]), qo 25 (.bslice 7 1 [(.int .i64 0), (.int .i64 0), (.int .i64 0), (.int .i64 0), (.int .i64 0), (.int .i64 0), (.int .i64 0)] [(0, (.t 24))]), qo 26 (.call p.spillall_builder_add [(.t 3), (.t 25)])]
def Jqdk (p : Nums) : IC := (.region (Jqds p) [])
@[simp] theorem Jedk {p : Nums} : EqI (Jqdk p) (.region (Jqds p) []) := eqi
@[simp] def Jqdt (p : Nums) : List IOp := [qo 28 (.faddr 0 (.t 3)), qo 29 (.load none (.t 28)), qo 30 (.load (some 4) (.t 6)), qo 31 (.build [.nils, (zi 0), (zi 0), (zi 0), (zi 0)] [(0, 1, (.t 29)), (1, 4, (.t 30))]), qn (.store 5 (.t 2) (.t 31))]
def Jqdl (p : Nums) : IC := (.region (Jqdt p) [])
@[simp] theorem Jedl {p : Nums} : EqI (Jqdl p) (.region (Jqdt p) []) := eqi
def Jtbl (p : Nums) : IC := (.seq (Jqdd p) (.seq (.region [⟨(some 3), (.alloc [.nils]), none, false⟩] []) (.seq (.seq (Jqde p) (.block 0 (.loop (Jqdh p)))) (.seq (Jqdi p) (.seq (.seq (Jqdj p) (.cond (.t 21) (Jqdk p) .skip)) (.seq (.region [⟨(some 27), (.faddr 1 (.t 6)), none, false⟩, ⟨none, (.store 1 (.t 27) (.c (.d (.int .i64 0)))), none, false⟩] []) (.seq (Jqdl p) .ret)))))))
@[simp] def Jqf6 (p : Nums) : List IOp := [qo 7 (.load (some 5) (.t 1)), qo 8 (.call p.spillall_Block [(.t 7)]), qo 9 (.fld 0 none (.t 8)), qo 10 (.len (.t 9)), qo 11 (.mov (ci 0))]
def Jqey (p : Nums) : IC := (.region (Jqf6 p) [])
@[simp] theorem Jeey {p : Nums} : EqI (Jqey p) (.region (Jqf6 p) []) := eqi
@[simp] def Jqf7 (p : Nums) : List IOp := [qo 13 (.iaddr 7 (.t 9) (.t 11)), qo 14 (.load (some 7) (.t 13)), qo 6 (.alloc [(zi 0), (zi 0), (zi 0), (zi 0), (zi 0), (zi 0), (zi 0)]), qn (.store 7 (.t 6) (.t 14))]
def Jqez (p : Nums) : IC := (.region (Jqf7 p) [])
@[simp] theorem Jeez {p : Nums} : EqI (Jqez p) (.region (Jqf7 p) []) := eqi
@[simp] def Jqf8 (p : Nums) : List IOp := [qo 15 (.mov (.t 4)), qo 16 (.bin .add (.t 15) (ci 1)), qo 4 (.asg (.t 16))]
def Jqf0 (p : Nums) : IC := (.region (Jqf8 p) [])
@[simp] theorem Jef0 {p : Nums} : EqI (Jqf0 p) (.region (Jqf8 p) []) := eqi
@[simp] def Jqf9 (p : Nums) : List IOp := [qo 17 (.faddr 0 (.t 6)), qo 18 (.load none (.t 17)), qo 19 (.bin .neq (.t 18) (ci 18))]
def Jqf1 (p : Nums) : IC := (.region (Jqf9 p) [])
@[simp] theorem Jef1 {p : Nums} : EqI (Jqf1 p) (.region (Jqf9 p) []) := eqi
@[simp] def Jqfa (p : Nums) : List IOp := [qo 4 (.asg (ci 0))]
def Jqf2 (p : Nums) : IC := (.region (Jqfa p) [])
@[simp] theorem Jef2 {p : Nums} : EqI (Jqf2 p) (.region (Jqfa p) []) := eqi
@[simp] def Jqfb (p : Nums) : List IOp := [qo 20 (.mov (.t 3)), qo 21 (.mov (.t 4)), qo 22 (.mx (.t 20) (.t 21)), qo 3 (.asg (.t 22))]
def Jqf3 (p : Nums) : IC := (.region (Jqfb p) [])
@[simp] theorem Jef3 {p : Nums} : EqI (Jqf3 p) (.region (Jqfb p) []) := eqi
def Jqf4 (p : Nums) : IC := (.seq (Jqez p) (.seq (Jqf0 p) (.seq (.seq (Jqf1 p) (.cond (.t 19) (Jqf2 p) .skip)) (Jqf3 p))))
@[simp] theorem Jef4 {p : Nums} : EqI (Jqf4 p) (.seq (Jqez p) (.seq (Jqf0 p) (.seq (.seq (Jqf1 p) (.cond (.t 19) (Jqf2 p) .skip)) (Jqf3 p)))) := eqi
def Jqf5 (p : Nums) : IC := (.seq (.region [⟨(some 12), (.bin .lss (.t 11) (.t 10)), none, false⟩] []) (.seq (.cond (.t 12) .skip (.exit 0)) (.seq (.block 1 (Jqf4 p)) (.region [⟨(some 23), (.bin .add (.t 11) (.c (.d (.int .i64 1)))), none, false⟩, ⟨(some 11), (.mov (.t 23)), none, false⟩] []))))
@[simp] theorem Jef5 {p : Nums} : EqI (Jqf5 p) (.seq (.region [⟨(some 12), (.bin .lss (.t 11) (.t 10)), none, false⟩] []) (.seq (.cond (.t 12) .skip (.exit 0)) (.seq (.block 1 (Jqf4 p)) (.region [⟨(some 23), (.bin .add (.t 11) (.c (.d (.int .i64 1)))), none, false⟩, ⟨(some 11), (.mov (.t 23)), none, false⟩] [])))) := eqi
def Jtbn (p : Nums) : IC := (.seq (.region [⟨(some 1), (.box (.t 0)), none, false⟩, ⟨(some 2), (.asg (.c (.d (.int .i64 0)))), none, false⟩] []) (.seq (.region [⟨(some 3), (.asg (.c (.d (.int .i64 0)))), none, false⟩, ⟨(some 4), (.asg (.c (.d (.int .i64 0)))), none, false⟩] []) (.seq (.seq (Jqey p) (.block 0 (.loop (Jqf5 p)))) (.seq (.region [⟨(some 24), (.mov (.t 3)), none, false⟩, ⟨(some 2), (.asg (.t 24)), none, false⟩] []) .ret))))
@[simp] def Jq8m (p : Nums) : List IOp := [qo 5 (.mov (.t 4)), qo 6 (.faddr 2 (.t 1)), qo 7 (.load none (.t 6)), qo 8 (.len (.t 7)), qo 9 (.bin .lss (.t 5) (.t 8))]
def Jq8i (p : Nums) : IC := (.region (Jq8m p) [])
@[simp] theorem Je8i {p : Nums} : EqI (Jq8i p) (.region (Jq8m p) []) := eqi
@[simp] def Jq8n (p : Nums) : List IOp := [qo 12 (.mov (.t 3)), qo 13 (.faddr 2 (.t 1)), qo 14 (.load none (.t 13)), qo 15 (.mov (.t 4)), qo 16 (.iaddr 5 (.t 14) (.t 15)), qo 17 (.faddr 0 (.t 16)), qo 18 (.load none (.t 17)), qo 19 (.len (.t 18)), qo 20 (.bin .add (.t 12) (.t 19)), qo 3 (.asg (.t 20))]
def Jq8j (p : Nums) : IC := (.region (Jq8n p) [])
@[simp] theorem Je8j {p : Nums} : EqI (Jq8j p) (.region (Jq8n p) []) := eqi
@[simp] def Jq8o (p : Nums) : List IOp := [qo 10 (.mov (.t 4)), qo 11 (.bin .add (.t 10) (ci 1)), qo 4 (.asg (.t 11))]
def Jq8k (p : Nums) : IC := (.region (Jq8o p) [])
@[simp] theorem Je8k {p : Nums} : EqI (Jq8k p) (.region (Jq8o p) []) := eqi
def Jq8l (p : Nums) : IC := (.seq (.seq (Jq8i p) (.cond (.t 9) .skip (.exit 0))) (.seq (.block 1 (Jq8j p)) (Jq8k p)))
@[simp] theorem Je8l {p : Nums} : EqI (Jq8l p) (.seq (.seq (Jq8i p) (.cond (.t 9) .skip (.exit 0))) (.seq (.block 1 (Jq8j p)) (Jq8k p))) := eqi
def Jtb6 (p : Nums) : IC := (.seq (.region [⟨(some 1), (.box (.t 0)), none, false⟩, ⟨(some 2), (.asg (.c (.d (.int .i64 0)))), none, false⟩] []) (.seq (.region [⟨(some 3), (.asg (.c (.d (.int .i64 0)))), none, false⟩] []) (.seq (.seq (.region [⟨(some 4), (.asg (.c (.d (.int .i64 0)))), none, false⟩] []) (.block 0 (.loop (Jq8l p)))) (.seq (.region [⟨(some 21), (.mov (.t 3)), none, false⟩, ⟨(some 2), (.asg (.t 21)), none, false⟩] []) .ret))))
@[simp] def Jq9c (p : Nums) : List IOp := [qo 5 (.faddr 0 (.t 2)), qo 6 (.load none (.t 5)), qo 7 (.bin .lss (.t 6) (ci 1)), qo 8 (.mov (.t 7)), ⟨(some 9), (.faddr 0 (.t 2)), (some (8, false)), false⟩, ⟨(some 10), (.load none (.t 9)), (some (8, false)), false⟩, ⟨(some 11), (.bin .gtr (.t 10) (ci 17)), (some (8, false)), false⟩, qo 12 (.pick (.t 8) (.c (.d (.bool true))) (.t 11))]
def Jq93 (p : Nums) : IC := (.region (Jq9c p) [])
@[simp] theorem Je93 {p : Nums} : EqI (Jq93 p) (.region (Jq9c p) []) := eqi
def Jq94 (p : Nums) : IC := (.seq (.region [⟨(some 4), (.asg (.c (.d (.int .i64 8)))), none, false⟩] []) .ret)
@[simp] theorem Je94 {p : Nums} : EqI (Jq94 p) (.seq (.region [⟨(some 4), (.asg (.c (.d (.int .i64 8)))), none, false⟩] []) .ret) := eqi
def Jq99 (p : Nums) : IC := (.seq (.seq (Jq93 p) .cut) (.cond (.t 12) (Jq94 p) .skip))
theorem Je99 {p : Nums} : EqI (Jq99 p) (.seq (.seq (Jq93 p) .cut) (.cond (.t 12) (Jq94 p) .skip)) := eqi
@[simp] def Jq9d (p : Nums) : List IOp := [qo 13 (.faddr 0 (.t 2)), qo 14 (.load none (.t 13)), qo 15 (.call p.ref05_UsesD [(.t 14)]), qo 16 (.mov (.t 15)), ⟨(some 17), (.faddr 1 (.t 2)), (some (16, true)), false⟩, ⟨(some 18), (.load none (.t 17)), (some (16, true)), false⟩, ⟨(some 19), (.mov (.t 1)), (some (16, true)), false⟩, ⟨(some 20), (.call p.ref07_in [(.t 18), (.t 19)]), (some (16, true)), false⟩, ⟨(some 21), (.un .not (.t 20)), (some (16, true)), false⟩, qo 22 (.pick (.t 16) (.t 21) (.c (.d (.bool false)))), qo 23 (.mov (.t 22)), ⟨(some 24), (.faddr 0 (.t 2)), (some (23, false)), false⟩, ⟨(some 25), (.load none (.t 24)), (some (23, false)), false⟩, ⟨(some 26), (.call p.ref05_UsesA [(.t 25)]), (some (23, false)), false⟩, ⟨(some 27), (.mov (.t 26)), (some (23, false)), false⟩, ⟨(some 28), (.faddr 2 (.t 2)), (some (27, true)), false⟩, ⟨(some 29), (.load none (.t 28)), (some (27, true)), false⟩, ⟨(some 30), (.mov (.t 1)), (some (27, true)), false⟩, ⟨(some 31), (.call p.ref07_in [(.t 29), (.t 30)]), (some (27, true)), false⟩, ⟨(some 32), (.un .not (.t 31)), (some (27, true)), false⟩, ⟨(some 33), (.pick (.t 27) (.t 32) (.c (.d (.bool false)))), (some (23, false)), false⟩, qo 34 (.pick (.t 23) (.c (.d (.bool true))) (.t 33)), qo 35 (.mov (.t 34)), ⟨(some 36), (.faddr 0 (.t 2)), (some (35, false)), false⟩, ⟨(some 37), (.load none (.t 36)), (some (35, false)), false⟩, ⟨(some 38), (.call p.ref05_UsesB [(.t 37)]), (some (35, false)), false⟩, ⟨(some 39), (.mov (.t 38)), (some (35, false)), false⟩, ⟨(some 40), (.faddr 3 (.t 2)), (some (39, true)), false⟩, ⟨(some 41), (.load none (.t 40)), (some (39, true)), false⟩, ⟨(some 42), (.mov (.t 1)), (some (39, true)), false⟩, ⟨(some 43), (.call p.ref07_in [(.t 41), (.t 42)]), (some (39, true)), false⟩, ⟨(some 44), (.un .not (.t 43)), (some (39, true)), false⟩, ⟨(some 45), (.pick (.t 39) (.t 44) (.c (.d (.bool false)))), (some (35, false)), false⟩, qo 46 (.pick (.t 35) (.c (.d (.bool true))) (.t 45))]
def Jq95 (p : Nums) : IC := (.region (Jq9d p) [])
@[simp] theorem Je95 {p : Nums} : EqI (Jq95 p) (.region (Jq9d p) []) := eqi
def Jq96 (p : Nums) : IC := (.seq (.region [⟨(some 4), (.asg (.c (.d (.int .i64 9)))), none, false⟩] []) .ret)
@[simp] theorem Je96 {p : Nums} : EqI (Jq96 p) (.seq (.region [⟨(some 4), (.asg (.c (.d (.int .i64 9)))), none, false⟩] []) .ret) := eqi
def Jq9a (p : Nums) : IC := (.seq (.seq (Jq95 p) .cut) (.cond (.t 46) (Jq96 p) .skip))
theorem Je9a {p : Nums} : EqI (Jq9a p) (.seq (.seq (Jq95 p) .cut) (.cond (.t 46) (Jq96 p) .skip)) := eqi
@[simp] def Jq9e (p : Nums) : List IOp := [qo 47 (.faddr 0 (.t 2)), qo 48 (.load none (.t 47)), qo 49 (.call p.ref05_UsesD [(.t 48)]), qo 50 (.un .not (.t 49)), qo 51 (.mov (.t 50)), ⟨(some 52), (.faddr 1 (.t 2)), (some (51, true)), false⟩, ⟨(some 53), (.load none (.t 52)), (some (51, true)), false⟩, ⟨(some 54), (.bin .neq (.t 53) (ci 0)), (some (51, true)), false⟩, qo 55 (.pick (.t 51) (.t 54) (.c (.d (.bool false)))), qo 56 (.mov (.t 55)), ⟨(some 57), (.faddr 0 (.t 2)), (some (56, false)), false⟩, ⟨(some 58), (.load none (.t 57)), (some (56, false)), false⟩, ⟨(some 59), (.call p.ref05_UsesA [(.t 58)]), (some (56, false)), false⟩, ⟨(some 60), (.un .not (.t 59)), (some (56, false)), false⟩, ⟨(some 61), (.mov (.t 60)), (some (56, false)), false⟩, ⟨(some 62), (.faddr 2 (.t 2)), (some (61, true)), false⟩, ⟨(some 63), (.load none (.t 62)), (some (61, true)), false⟩, ⟨(some 64), (.bin .neq (.t 63) (ci 0)), (some (61, true)), false⟩, ⟨(some 65), (.pick (.t 61) (.t 64) (.c (.d (.bool false)))), (some (56, false)), false⟩, qo 66 (.pick (.t 56) (.c (.d (.bool true))) (.t 65)), qo 67 (.mov (.t 66)), ⟨(some 68), (.faddr 0 (.t 2)), (some (67, false)), false⟩, ⟨(some 69), (.load none (.t 68)), (some (67, false)), false⟩, ⟨(some 70), (.call p.ref05_UsesB [(.t 69)]), (some (67, false)), false⟩, ⟨(some 71), (.un .not (.t 70)), (some (67, false)), false⟩, ⟨(some 72), (.mov (.t 71)), (some (67, false)), false⟩, ⟨(some 73), (.faddr 3 (.t 2)), (some (72, true)), false⟩, ⟨(some 74), (.load none (.t 73)), (some (72, true)), false⟩, ⟨(some 75), (.bin .neq (.t 74) (ci 0)), (some (72, true)), false⟩, ⟨(some 76), (.pick (.t 72) (.t 75) (.c (.d (.bool false)))), (some (67, false)), false⟩, qo 77 (.pick (.t 67) (.c (.d (.bool true))) (.t 76)), qo 78 (.mov (.t 77)), ⟨(some 79), (.faddr 0 (.t 2)), (some (78, false)), false⟩, ⟨(some 80), (.load none (.t 79)), (some (78, false)), false⟩, ⟨(some 81), (.bin .neq (.t 80) (ci 1)), (some (78, false)), false⟩, ⟨(some 82), (.mov (.t 81)), (some (78, false)), false⟩, ⟨(some 83), (.faddr 4 (.t 2)), (some (82, true)), false⟩, ⟨(some 84), (.load none (.t 83)), (some (82, true)), false⟩, ⟨(some 85), (.bin .neq (.t 84) (ci 0)), (some (82, true)), false⟩, ⟨(some 86), (.pick (.t 82) (.t 85) (.c (.d (.bool false)))), (some (78, false)), false⟩, qo 87 (.pick (.t 78) (.c (.d (.bool true))) (.t 86))]
def Jq97 (p : Nums) : IC := (.region (Jq9e p) [])
@[simp] theorem Je97 {p : Nums} : EqI (Jq97 p) (.region (Jq9e p) []) := eqi
def Jq98 (p : Nums) : IC := (.seq (.region [⟨(some 4), (.asg (.c (.d (.int .i64 12)))), none, false⟩] []) .ret)
@[simp] theorem Je98 {p : Nums} : EqI (Jq98 p) (.seq (.region [⟨(some 4), (.asg (.c (.d (.int .i64 12)))), none, false⟩] []) .ret) := eqi
def Jq9b (p : Nums) : IC := (.seq (.seq (Jq97 p) .cut) (.cond (.t 87) (Jq98 p) .skip))
theorem Je9b {p : Nums} : EqI (Jq9b p) (.seq (.seq (Jq97 p) .cut) (.cond (.t 87) (Jq98 p) .skip)) := eqi
def Jtb8 (p : Nums) : IC := (.seq (.region [⟨(some 2), (.box (.t 0)), none, false⟩, ⟨(some 4), (.asg (.c (.d (.int .i64 0)))), none, false⟩] []) (.seq (Jq99 p) (.seq (Jq9a p) (.seq (Jq9b p) (.seq (.region [⟨(some 4), (.asg (.c (.d (.int .i64 0)))), none, false⟩] []) .ret)))))
@[simp] def Jq9x (p : Nums) : List IOp := [qo 11 (.faddr 2 (.t 3)), qo 12 (.load none (.t 11)), qo 13 (.mov (.t 2)), qo 14 (.call p.ref07_in [(.t 12), (.t 13)]), qo 15 (.un .not (.t 14))]
def Jq9f (p : Nums) : IC := (.region (Jq9x p) [])
@[simp] theorem Je9f {p : Nums} : EqI (Jq9f p) (.region (Jq9x p) []) := eqi
def Jq9p (p : Nums) : IC := (.seq (.region [⟨(some 6), (.asg (.c (.d (.int .i64 11)))), none, false⟩] []) .ret)
@[simp] theorem Je9p {p : Nums} : EqI (Jq9p p) (.seq (.region [⟨(some 6), (.asg (.c (.d (.int .i64 11)))), none, false⟩] []) .ret) := eqi
@[simp] def Jq9z (p : Nums) : List IOp := [qo 16 (.faddr 1 (.t 3)), qo 17 (.load none (.t 16)), qo 18 (.bin .neq (.t 17) (ci 0)), qo 19 (.mov (.t 18)), ⟨(some 20), (.faddr 3 (.t 3)), (some (19, false)), false⟩, ⟨(some 21), (.load none (.t 20)), (some (19, false)), false⟩, ⟨(some 22), (.bin .neq (.t 21) (ci 0)), (some (19, false)), false⟩, qo 23 (.pick (.t 19) (.c (.d (.bool true))) (.t 22))]
def Jq9q (p : Nums) : IC := (.region (Jq9z p) [])
@[simp] theorem Je9q {p : Nums} : EqI (Jq9q p) (.region (Jq9z p) []) := eqi
def Jq9r (p : Nums) : IC := (.seq (.region [⟨(some 6), (.asg (.c (.d (.int .i64 12)))), none, false⟩] []) .ret)
@[simp] theorem Je9r {p : Nums} : EqI (Jq9r p) (.seq (.region [⟨(some 6), (.asg (.c (.d (.int .i64 12)))), none, false⟩] []) .ret) := eqi
@[simp] def Jqa0 (p : Nums) : List IOp := [qo 26 (.faddr 1 (.t 3)), qo 27 (.load none (.t 26)), qo 28 (.mov (.t 1)), qo 29 (.call p.ref07_in [(.t 27), (.t 28)]), qo 30 (.un .not (.t 29))]
def Jq9s (p : Nums) : IC := (.region (Jqa0 p) [])
@[simp] theorem Je9s {p : Nums} : EqI (Jq9s p) (.region (Jqa0 p) []) := eqi
def Jq9t (p : Nums) : IC := (.seq (.region [⟨(some 6), (.asg (.c (.d (.int .i64 9)))), none, false⟩] []) .ret)
@[simp] theorem Je9t {p : Nums} : EqI (Jq9t p) (.seq (.region [⟨(some 6), (.asg (.c (.d (.int .i64 9)))), none, false⟩] []) .ret) := eqi
@[simp] def Jqa1 (p : Nums) : List IOp := [qo 31 (.faddr 2 (.t 3)), qo 32 (.load none (.t 31)), qo 33 (.mov (.t 2)), qo 34 (.call p.ref07_in [(.t 32), (.t 33)]), qo 35 (.un .not (.t 34)), qo 36 (.mov (.t 35)), ⟨(some 37), (.faddr 3 (.t 3)), (some (36, false)), false⟩, ⟨(some 38), (.load none (.t 37)), (some (36, false)), false⟩, ⟨(some 39), (.mov (.t 2)), (some (36, false)), false⟩, ⟨(some 40), (.call p.ref07_in [(.t 38), (.t 39)]), (some (36, false)), false⟩, ⟨(some 41), (.un .not (.t 40)), (some (36, false)), false⟩, qo 42 (.pick (.t 36) (.c (.d (.bool true))) (.t 41))]
def Jq9u (p : Nums) : IC := (.region (Jqa1 p) [])
@[simp] theorem Je9u {p : Nums} : EqI (Jq9u p) (.region (Jqa1 p) []) := eqi
def Jq9v (p : Nums) : IC := (.seq (.region [⟨(some 6), (.asg (.c (.d (.int .i64 11)))), none, false⟩] []) .ret)
@[simp] theorem Je9v {p : Nums} : EqI (Jq9v p) (.seq (.region [⟨(some 6), (.asg (.c (.d (.int .i64 11)))), none, false⟩] []) .ret) := eqi
@[simp] def Jqa2 (p : Nums) : List IOp := [qo 45 (.faddr 1 (.t 3)), qo 46 (.load none (.t 45)), qo 47 (.mov (.t 1)), qo 48 (.call p.ref07_in [(.t 46), (.t 47)]), qo 49 (.un .not (.t 48))]
def Jq9w (p : Nums) : IC := (.region (Jqa2 p) [])
@[simp] theorem Je9w {p : Nums} : EqI (Jq9w p) (.region (Jqa2 p) []) := eqi
def Jq9g (p : Nums) : IC := (.seq (.region [⟨(some 6), (.asg (.c (.d (.int .i64 9)))), none, false⟩] []) .ret)
@[simp] theorem Je9g {p : Nums} : EqI (Jq9g p) (.seq (.region [⟨(some 6), (.asg (.c (.d (.int .i64 9)))), none, false⟩] []) .ret) := eqi
@[simp] def Jq9y (p : Nums) : List IOp := [qo 50 (.faddr 2 (.t 3)), qo 51 (.load none (.t 50)), qo 52 (.bin .neq (.t 51) (ci 0)), qo 53 (.mov (.t 52)), ⟨(some 54), (.faddr 3 (.t 3)), (some (53, false)), false⟩, ⟨(some 55), (.load none (.t 54)), (some (53, false)), false⟩, ⟨(some 56), (.bin .neq (.t 55) (ci 0)), (some (53, false)), false⟩, qo 57 (.pick (.t 53) (.c (.d (.bool true))) (.t 56))]
def Jq9h (p : Nums) : IC := (.region (Jq9y p) [])
@[simp] theorem Je9h {p : Nums} : EqI (Jq9h p) (.region (Jq9y p) []) := eqi
def Jq9i (p : Nums) : IC := (.seq (.region [⟨(some 6), (.asg (.c (.d (.int .i64 12)))), none, false⟩] []) .ret)
@[simp] theorem Je9i {p : Nums} : EqI (Jq9i p) (.seq (.region [⟨(some 6), (.asg (.c (.d (.int .i64 12)))), none, false⟩] []) .ret) := eqi
def Jq9j (p : Nums) : IC := (.seq (.seq (Jq9w p) (.cond (.t 49) (Jq9g p) .skip)) (.seq (.seq (Jq9h p) (.cond (.t 57) (Jq9i p) .skip)) (.seq (.region [⟨(some 6), (.asg (.c (.d (.int .i64 0)))), none, false⟩] []) .ret)))
@[simp] theorem Je9j {p : Nums} : EqI (Jq9j p) (.seq (.seq (Jq9w p) (.cond (.t 49) (Jq9g p) .skip)) (.seq (.seq (Jq9h p) (.cond (.t 57) (Jq9i p) .skip)) (.seq (.region [⟨(some 6), (.asg (.c (.d (.int .i64 0)))), none, false⟩] []) .ret))) := eqi
def Jq9k (p : Nums) : IC := (.seq (.seq (Jq9s p) (.cond (.t 30) (Jq9t p) .skip)) (.seq (.seq (Jq9u p) (.cond (.t 42) (Jq9v p) .skip)) (.seq (.region [⟨(some 6), (.asg (.c (.d (.int .i64 0)))), none, false⟩] []) .ret)))
@[simp] theorem Je9k {p : Nums} : EqI (Jq9k p) (.seq (.seq (Jq9s p) (.cond (.t 30) (Jq9t p) .skip)) (.seq (.seq (Jq9u p) (.cond (.t 42) (Jq9v p) .skip)) (.seq (.region [⟨(some 6), (.asg (.c (.d (.int .i64 0)))), none, false⟩] []) .ret))) := eqi
def Jq9l (p : Nums) : IC := (.seq (.region [⟨(some 44), (.bin .eql (.t 8) (.c (.d (.int .i64 3)))), none, false⟩, ⟨(some 43), (.asg (.t 44)), none, false⟩] []) (.cond (.t 43) (Jq9j p) .skip))
@[simp] theorem Je9l {p : Nums} : EqI (Jq9l p) (.seq (.region [⟨(some 44), (.bin .eql (.t 8) (.c (.d (.int .i64 3)))), none, false⟩, ⟨(some 43), (.asg (.t 44)), none, false⟩] []) (.cond (.t 43) (Jq9j p) .skip)) := eqi
def Jq9m (p : Nums) : IC := (.seq (.seq (Jq9f p) (.cond (.t 15) (Jq9p p) .skip)) (.seq (.seq (Jq9q p) (.cond (.t 23) (Jq9r p) .skip)) (.seq (.region [⟨(some 6), (.asg (.c (.d (.int .i64 0)))), none, false⟩] []) .ret)))
@[simp] theorem Je9m {p : Nums} : EqI (Jq9m p) (.seq (.seq (Jq9f p) (.cond (.t 15) (Jq9p p) .skip)) (.seq (.seq (Jq9q p) (.cond (.t 23) (Jq9r p) .skip)) (.seq (.region [⟨(some 6), (.asg (.c (.d (.int .i64 0)))), none, false⟩] []) .ret))) := eqi
def Jq9n (p : Nums) : IC := (.seq (.region [⟨(some 25), (.bin .eql (.t 8) (.c (.d (.int .i64 2)))), none, false⟩, ⟨(some 24), (.asg (.t 25)), none, false⟩] []) (.cond (.t 24) (Jq9k p) (Jq9l p)))
@[simp] theorem Je9n {p : Nums} : EqI (Jq9n p) (.seq (.region [⟨(some 25), (.bin .eql (.t 8) (.c (.d (.int .i64 2)))), none, false⟩, ⟨(some 24), (.asg (.t 25)), none, false⟩] []) (.cond (.t 24) (Jq9k p) (Jq9l p))) := eqi
def Jq9o (p : Nums) : IC := (.seq (.region [⟨(some 10), (.bin .eql (.t 8) (.c (.d (.int .i64 1)))), none, false⟩, ⟨(some 9), (.asg (.t 10)), none, false⟩] []) (.cond (.t 9) (Jq9m p) (Jq9n p)))
@[simp] theorem Je9o {p : Nums} : EqI (Jq9o p) (.seq (.region [⟨(some 10), (.bin .eql (.t 8) (.c (.d (.int .i64 1)))), none, false⟩, ⟨(some 9), (.asg (.t 10)), none, false⟩] []) (.cond (.t 9) (Jq9m p) (Jq9n p))) := eqi
def Jtb9 (p : Nums) : IC := (.seq (.region [⟨(some 3), (.box (.t 0)), none, false⟩, ⟨(some 6), (.asg (.c (.d (.int .i64 0)))), none, false⟩] []) (.seq (.seq (.region [⟨(some 7), (.faddr 0 (.t 3)), none, false⟩, ⟨(some 8), (.load none (.t 7)), none, false⟩] []) (.block 0 (Jq9o p))) (.seq (.region [⟨(some 6), (.asg (.c (.d (.int .i64 16)))), none, false⟩] []) .ret)))
def Jqaj (p : Nums) : IC := (.seq (.region [⟨(some 2), (.asg (.c .nils)), none, false⟩] []) .ret)
@[simp] theorem Jeaj {p : Nums} : EqI (Jqaj p) (.seq (.region [⟨(some 2), (.asg (.c .nils)), none, false⟩] []) .ret) := eqi
@[simp] def Jqal (p : Nums) : List IOp := [qo 5 (.bslice 5 0 [(.int .i64 0), (.int .i64 0), (.int .i64 0), (.int .i64 0), (.int .i64 0)] []), qo 6 (.mov (.t 0)), qo 7 (.app 5 40 (.t 5) (.t 6)), qo 2 (.asg (.t 7))]
def Jqak (p : Nums) : IC := (.region (Jqal p) [])
@[simp] theorem Jeak {p : Nums} : EqI (Jqak p) (.region (Jqal p) []) := eqi
def Jtbd (p : Nums) : IC := (.seq (.region [⟨(some 2), (.asg (.c .nils)), none, false⟩] []) (.seq (.seq (.region [⟨(some 3), (.mov (.t 0)), none, false⟩, ⟨(some 4), (.isnil false (.t 3)), none, false⟩] []) (.cond (.t 4) (Jqaj p) .skip)) (.seq (Jqak p) .ret)))
@[simp] def Jqfy (p : Nums) : List IOp := [qo 5 (.mov (.t 0)), qo 6 (.mkslice 2 16 [(.int .i64 0), (.int .i64 0)] (.t 5) (.t 5)), qo 3 (.asg (.t 6))]
def Jqfu (p : Nums) : IC := (.region (Jqfy p) [])
@[simp] theorem Jefu {p : Nums} : EqI (Jqfu p) (.region (Jqfy p) []) := eqi
@[simp] def Jqfz (p : Nums) : List IOp := [qo 11 (.mov (.t 3)), qo 12 (.mov (.t 4)), qo 13 (.mov (.t 4)), qo 14 (.mov (.t 4)), qo 15 (.call p.location_Slot [(.t 14)]), qo 16 (.build [(zi 0), (zi 0)] [(0, 1, (.t 13)), (1, 1, (.t 15))]), qo 17 (.iaddr 2 (.t 11) (.t 12)), qn (.store 2 (.t 17) (.t 16))]
def Jqfv (p : Nums) : IC := (.region (Jqfz p) [])
@[simp] theorem Jefv {p : Nums} : EqI (Jqfv p) (.region (Jqfz p) []) := eqi
def Jqfw (p : Nums) : IC := (.seq (.region [⟨(some 10), (.mov (.t 8)), none, false⟩, ⟨(some 4), (.asg (.t 10)), none, false⟩] []) (Jqfv p))
@[simp] theorem Jefw {p : Nums} : EqI (Jqfw p) (.seq (.region [⟨(some 10), (.mov (.t 8)), none, false⟩, ⟨(some 4), (.asg (.t 10)), none, false⟩] []) (Jqfv p)) := eqi
def Jqfx (p : Nums) : IC := (.seq (.region [⟨(some 9), (.bin .lss (.t 8) (.t 7)), none, false⟩] []) (.seq (.cond (.t 9) .skip (.exit 0)) (.seq (.block 1 (Jqfw p)) (.region [⟨(some 18), (.bin .add (.t 8) (.c (.d (.int .i64 1)))), none, false⟩, ⟨(some 8), (.mov (.t 18)), none, false⟩] []))))
@[simp] theorem Jefx {p : Nums} : EqI (Jqfx p) (.seq (.region [⟨(some 9), (.bin .lss (.t 8) (.t 7)), none, false⟩] []) (.seq (.cond (.t 9) .skip (.exit 0)) (.seq (.block 1 (Jqfw p)) (.region [⟨(some 18), (.bin .add (.t 8) (.c (.d (.int .i64 1)))), none, false⟩, ⟨(some 8), (.mov (.t 18)), none, false⟩] [])))) := eqi
def Jtbq (p : Nums) : IC := (.seq (.region [⟨(some 2), (.asg (.c .nils)), none, false⟩] []) (.seq (Jqfu p) (.seq (.seq (.region [⟨(some 7), (.mov (.t 0)), none, false⟩, ⟨(some 8), (.mov (.c (.d (.int .i64 0)))), none, false⟩] []) (.block 0 (.loop (Jqfx p)))) (.seq (.region [⟨(some 19), (.mov (.t 3)), none, false⟩, ⟨(some 2), (.asg (.t 19)), none, false⟩] []) .ret))))
@[simp] def Jqd0 (p : Nums) : List IOp := [qo 10 (.faddr 0 (.t 3)), qo 11 (.load none (.t 10)), qo 12 (.len (.t 11)), qo 13 (.mov (ci 0))]
def Jqct (p : Nums) : IC := (.region (Jqd0 p) [])
@[simp] theorem Ject {p : Nums} : EqI (Jqct p) (.region (Jqd0 p) []) := eqi
@[simp] def Jqd1 (p : Nums) : List IOp := [qo 15 (.iaddr 5 (.t 11) (.t 13)), qo 16 (.load (some 5) (.t 15)), qo 8 (.alloc [(zi 0), (zi 0), (zi 0), (zi 0), (zi 0)]), qn (.store 5 (.t 8) (.t 16))]
def Jqcu (p : Nums) : IC := (.region (Jqd1 p) [])
@[simp] theorem Jecu {p : Nums} : EqI (Jqcu p) (.region (Jqd1 p) []) := eqi
@[simp] def Jqd2 (p : Nums) : List IOp := [qo 17 (.load (some 5) (.t 8)), qo 18 (.mov (.t 1)), qo 19 (.call p.source_Instr [(.t 17), (.t 18)]), qo 9 (.asg (.t 19))]
def Jqcv (p : Nums) : IC := (.region (Jqd2 p) [])
@[simp] theorem Jecv {p : Nums} : EqI (Jqcv p) (.region (Jqd2 p) []) := eqi
def Jqcw (p : Nums) : IC := (.seq (.region [⟨(some 22), (.mov (.t 9)), none, false⟩, ⟨(some 6), (.asg (.t 22)), none, false⟩] []) .ret)
@[simp] theorem Jecw {p : Nums} : EqI (Jqcw p) (.seq (.region [⟨(some 22), (.mov (.t 9)), none, false⟩, ⟨(some 6), (.asg (.t 22)), none, false⟩] []) .ret) := eqi
def Jqcx (p : Nums) : IC := (.seq (Jqcu p) (.seq (Jqcv p) (.seq (.region [⟨(some 20), (.mov (.t 9)), none, false⟩, ⟨(some 21), (.bin .neq (.t 20) (.c (.d (.int .i64 0)))), none, false⟩] []) (.cond (.t 21) (Jqcw p) .skip))))
@[simp] theorem Jecx {p : Nums} : EqI (Jqcx p) (.seq (Jqcu p) (.seq (Jqcv p) (.seq (.region [⟨(some 20), (.mov (.t 9)), none, false⟩, ⟨(some 21), (.bin .neq (.t 20) (.c (.d (.int .i64 0)))), none, false⟩] []) (.cond (.t 21) (Jqcw p) .skip)))) := eqi
def Jqcy (p : Nums) : IC := (.seq (.region [⟨(some 14), (.bin .lss (.t 13) (.t 12)), none, false⟩] []) (.seq (.cond (.t 14) .skip (.exit 0)) (.seq (.block 1 (Jqcx p)) (.region [⟨(some 23), (.bin .add (.t 13) (.c (.d (.int .i64 1)))), none, false⟩, ⟨(some 13), (.mov (.t 23)), none, false⟩] []))))
@[simp] theorem Jecy {p : Nums} : EqI (Jqcy p) (.seq (.region [⟨(some 14), (.bin .lss (.t 13) (.t 12)), none, false⟩] []) (.seq (.cond (.t 14) .skip (.exit 0)) (.seq (.block 1 (Jqcx p)) (.region [⟨(some 23), (.bin .add (.t 13) (.c (.d (.int .i64 1)))), none, false⟩, ⟨(some 13), (.mov (.t 23)), none, false⟩] [])))) := eqi
@[simp] def Jqd3 (p : Nums) : List IOp := [qo 24 (.faddr 1 (.t 3)), qo 25 (.load (some 4) (.t 24)), qo 26 (.mov (.t 1)), qo 27 (.mov (.t 2)), qo 28 (.call p.source_Term [(.t 25), (.t 26), (.t 27)]), qo 6 (.asg (.t 28))]
def Jqcz (p : Nums) : IC := (.region (Jqd3 p) [])
@[simp] theorem Jecz {p : Nums} : EqI (Jqcz p) (.region (Jqd3 p) []) := eqi
def Jtbj (p : Nums) : IC := (.seq (.region [⟨(some 3), (.box (.t 0)), none, false⟩, ⟨(some 6), (.asg (.c (.d (.int .i64 0)))), none, false⟩] []) (.seq (.seq (Jqct p) (.block 0 (.loop (Jqcy p)))) (.seq (Jqcz p) .ret)))
@[simp] def Jq4j (p : Nums) : List IOp := [qo 6 (.load (some 3) (.t 2)), qo 7 (.build [(zi 0), (zi 0), (zi 0), (zi 0), .nils, .nils, .nils, (zi 0), (zi 0), (zi 0), .nils] [(8, 3, (.t 6))]), qo 8 (.box (.t 7)), qo 5 (.asg (.t 8))]
def Jq4g (p : Nums) : IC := (.region (Jq4j p) [])
@[simp] theorem Je4g {p : Nums} : EqI (Jq4g p) (.region (Jq4j p) []) := eqi
@[simp] def Jq4k (p : Nums) : List IOp := [qo 9 (.mov (.t 5)), qo 10 (.faddr 1 (.t 2)), qo 11 (.load none (.t 10)), qo 12 (.mkslice 1 8 [(.int .i64 0)] (.t 11) (.t 11)), qo 13 (.nilck (.t 9)), qo 14 (.faddr 0 (.t 13)), qo 15 (.faddr 4 (.t 14)), qn (.store 1 (.t 15) (.t 12))]
def Jq4h (p : Nums) : IC := (.region (Jq4k p) [])
@[simp] theorem Je4h {p : Nums} : EqI (Jq4h p) (.region (Jq4k p) []) := eqi
@[simp] def Jq4l (p : Nums) : List IOp := [qo 16 (.mov (.t 5)), qo 17 (.nilck (.t 16)), qo 18 (.faddr 0 (.t 17)), qo 19 (.faddr 4 (.t 18)), qo 20 (.load none (.t 19)), qo 21 (.mov (.t 1)), qo 22 (.cpy 1 (.t 20) (.t 21))]
def Jq4i (p : Nums) : IC := (.region (Jq4l p) [])
@[simp] theorem Je4i {p : Nums} : EqI (Jq4i p) (.region (Jq4l p) []) := eqi
def Jtap (p : Nums) : IC := (.seq (.region [⟨(some 2), (.box (.t 0)), none, false⟩, ⟨(some 4), (.asg (.c .nilp)), none, false⟩] []) (.seq (Jq4g p) (.seq (Jq4h p) (.seq (Jq4i p) (.seq (.region [⟨(some 23), (.mov (.t 5)), none, false⟩, ⟨(some 4), (.asg (.t 23)), none, false⟩] []) .ret)))))
@[simp] def Jq55 (p : Nums) : List IOp := [qp 3 (.mov (.t 0)), qp 4 (.nilck (.t 3)), qp 5 (.faddr 8 (.t 4)), qp 6 (.faddr 2 (.t 5)), qp 7 (.load none (.t 6)), qp 8 (.mov (.t 0)), qp 9 (.nilck (.t 8)), qp 10 (.faddr 0 (.t 9)), qp 11 (.faddr 1 (.t 10)), qp 12 (.load none (.t 11)), qp 13 (.iaddr 5 (.t 7) (.t 12)), qp 14 (.load (some 5) (.t 13)), qp 2 (.alloc [.nils, (zi 0), (zi 0), (zi 0), (zi 0)]), qn (.store 5 (.t 2) (.t 14))]
def Jq51 (p : Nums) : IC := (.region (Jq55 p) [])
@[simp] theorem Je51 {p : Nums} : EqI (Jq51 p) (.region (Jq55 p) []) := eqi
@[simp] def Jq56 (p : Nums) : List IOp := [qp 15 (.mov (.t 0)), qp 16 (.nilck (.t 15)), qp 17 (.faddr 0 (.t 16)), qp 18 (.faddr 2 (.t 17)), qp 19 (.load none (.t 18)), qp 20 (.faddr 0 (.t 2)), qp 21 (.load none (.t 20)), qp 22 (.len (.t 21)), qo 23 (.bin .lss (.t 19) (.t 22))]
def Jq52 (p : Nums) : IC := (.region (Jq56 p) [])
@[simp] theorem Je52 {p : Nums} : EqI (Jq52 p) (.region (Jq56 p) []) := eqi
@[simp] def Jq57 (p : Nums) : List IOp := [qp 24 (.mov (.t 0)), qp 25 (.faddr 0 (.t 2)), qp 26 (.load none (.t 25)), qp 27 (.mov (.t 0)), qp 28 (.nilck (.t 27)), qp 29 (.faddr 0 (.t 28)), qp 30 (.faddr 2 (.t 29)), qp 31 (.load none (.t 30)), qp 32 (.iaddr 5 (.t 26) (.t 31)), qp 33 (.load (some 5) (.t 32)), qo 34 (.call p.interp_state_instr [(.t 24), (.t 33)])]
def Jq53 (p : Nums) : IC := (.region (Jq57 p) [])
@[simp] theorem Je53 {p : Nums} : EqI (Jq53 p) (.region (Jq57 p) []) := eqi
@[simp] def Jq58 (p : Nums) : List IOp := [qo 35 (.mov (.t 0)), qo 36 (.faddr 1 (.t 2)), qo 37 (.load (some 4) (.t 36)), qo 38 (.call p.interp_state_term [(.t 35), (.t 37)])]
def Jq54 (p : Nums) : IC := (.region (Jq58 p) [])
@[simp] theorem Je54 {p : Nums} : EqI (Jq54 p) (.region (Jq58 p) []) := eqi
def Jtar (p : Nums) : IC := (.seq (Jq51 p) (.seq (Jq52 p) (.cond (.t 23) (Jq53 p) (Jq54 p))))
@[simp] def Jq3g (p : Nums) : List IOp := [qp 3 (.mov (.t 0)), qp 4 (.nilck (.t 3)), qp 5 (.faddr 8 (.t 4)), qp 6 (.faddr 3 (.t 5)), qp 7 (.load none (.t 6)), qp 8 (.mov (.t 0)), qp 9 (.nilck (.t 8)), qp 10 (.faddr 0 (.t 9)), qp 11 (.faddr 1 (.t 10)), qp 12 (.load none (.t 11)), qp 13 (.iaddr 5 (.t 7) (.t 12)), qp 14 (.load (some 5) (.t 13)), qp 2 (.alloc [.nils, (zi 0), (zi 0), (zi 0), (zi 0)]), qn (.store 5 (.t 2) (.t 14))]
def Jq3c (p : Nums) : IC := (.region (Jq3g p) [])
@[simp] theorem Je3c {p : Nums} : EqI (Jq3c p) (.region (Jq3g p) []) := eqi
@[simp] def Jq3h (p : Nums) : List IOp := [qp 15 (.mov (.t 0)), qp 16 (.nilck (.t 15)), qp 17 (.faddr 0 (.t 16)), qp 18 (.faddr 2 (.t 17)), qp 19 (.load none (.t 18)), qp 20 (.faddr 0 (.t 2)), qp 21 (.load none (.t 20)), qp 22 (.len (.t 21)), qo 23 (.bin .lss (.t 19) (.t 22))]
def Jq3d (p : Nums) : IC := (.region (Jq3h p) [])
@[simp] theorem Je3d {p : Nums} : EqI (Jq3d p) (.region (Jq3h p) []) := eqi
@[simp] def Jq3i (p : Nums) : List IOp := [qp 24 (.mov (.t 0)), qp 25 (.faddr 0 (.t 2)), qp 26 (.load none (.t 25)), qp 27 (.mov (.t 0)), qp 28 (.nilck (.t 27)), qp 29 (.faddr 0 (.t 28)), qp 30 (.faddr 2 (.t 29)), qp 31 (.load none (.t 30)), qp 32 (.iaddr 7 (.t 26) (.t 31)), qp 33 (.load (some 7) (.t 32)), qo 34 (.call p.execute_state_instr [(.t 24), (.t 33)])]
def Jq3e (p : Nums) : IC := (.region (Jq3i p) [])
@[simp] theorem Je3e {p : Nums} : EqI (Jq3e p) (.region (Jq3i p) []) := eqi
@[simp] def Jq3j (p : Nums) : List IOp := [qo 35 (.mov (.t 0)), qo 36 (.faddr 1 (.t 2)), qo 37 (.load (some 4) (.t 36)), qo 38 (.call p.execute_state_term [(.t 35), (.t 37)])]
def Jq3f (p : Nums) : IC := (.region (Jq3j p) [])
@[simp] theorem Je3f {p : Nums} : EqI (Jq3f p) (.region (Jq3j p) []) := eqi
def Jtam (p : Nums) : IC := (.seq (Jq3c p) (.seq (Jq3d p) (.cond (.t 23) (Jq3e p) (Jq3f p))))
@[simp] def Jqfn (p : Nums) : List IOp := [qo 8 (.faddr 0 (.t 3)), qo 9 (.load none (.t 8)), qo 10 (.call p.opcode_Of [(.t 9)]), qo 7 (.mov (.t 10)), qo 11 (.ext (.t 7) 0), qo 12 (.ext (.t 7) 1), qo 4 (.alloc [(.d (.bool false)), (.d (.bool false)), (.d (.bool false)), (.d (.bool false))]), qn (.store 4 (.t 4) (.t 11)), qo 5 (.asg (.t 12))]
def Jqfe (p : Nums) : IC := (.region (Jqfn p) [])
@[simp] theorem Jefe {p : Nums} : EqI (Jqfe p) (.region (Jqfn p) []) := eqi
@[simp] def Jqfo (p : Nums) : List IOp := [qo 15 (.mov (.t 0)), qo 16 (.faddr 2 (.t 3)), qo 17 (.load none (.t 16)), qo 18 (.call p.spillall_load [(ci 0), (.t 17)]), qo 19 (.bslice 7 1 [(.int .i64 0), (.int .i64 0), (.int .i64 0), (.int .i64 0), (.int .i64 0), (.int .i64 0), (.int .i64 0)] [(0, (.t 18))]), qo 20 (.call p.spillall_builder_add [(.t 15), (.t 19)])]
def Jqff (p : Nums) : IC := (.region (Jqfo p) [])
@[simp] theorem Jeff {p : Nums} : EqI (Jqff p) (.region (Jqfo p) []) := eqi
@[simp] def Jqfp (p : Nums) : List IOp := [qo 21 (.faddr 0 (.t 3)), qo 22 (.load none (.t 21)), qo 23 (.bin .neq (.t 22) (ci 2))]
def Jqfg (p : Nums) : IC := (.region (Jqfp p) [])
@[simp] theorem Jefg {p : Nums} : EqI (Jqfg p) (.region (Jqfp p) []) := eqi
@[simp] def Jqfq (p : Nums) : List IOp := [qo 24 (.faddr 0 (.t 3)), qo 25 (.load none (.t 24)), qo 26 (.faddr 4 (.t 3)), qo 27 (.load none (.t 26)), qo 28 (.build [(zi 0), (zi 0), (zi 0), (zi 0), (zi 0), (zi 0), (zi 0)] [(0, 1, (.t 25)), (4, 1, (.t 27))]), qo 6 (.alloc [(zi 0), (zi 0), (zi 0), (zi 0), (zi 0), (zi 0), (zi 0)]), qn (.store 7 (.t 6) (.t 28))]
def Jqfh (p : Nums) : IC := (.region (Jqfq p) [])
@[simp] theorem Jefh {p : Nums} : EqI (Jqfh p) (.region (Jqfq p) []) := eqi
@[simp] def Jqfr (p : Nums) : List IOp := [qo 31 (.mov (.t 0)), qo 32 (.faddr 3 (.t 3)), qo 33 (.load none (.t 32)), qo 34 (.call p.spillall_load [(ci 1), (.t 33)]), qo 35 (.bslice 7 1 [(.int .i64 0), (.int .i64 0), (.int .i64 0), (.int .i64 0), (.int .i64 0), (.int .i64 0), (.int .i64 0)] [(0, (.t 34))]), qo 36 (.call p.spillall_builder_add [(.t 31), (.t 35)])]
def Jqfi (p : Nums) : IC := (.region (Jqfr p) [])
@[simp] theorem Jefi {p : Nums} : EqI (Jqfi p) (.region (Jqfr p) []) := eqi
def Jqfj (p : Nums) : IC := (.seq (Jqfi p) (.region [⟨(some 37), (.faddr 3 (.t 6)), none, false⟩, ⟨none, (.store 1 (.t 37) (.c (.d (.int .i64 1)))), none, false⟩] []))
@[simp] theorem Jefj {p : Nums} : EqI (Jqfj p) (.seq (Jqfi p) (.region [⟨(some 37), (.faddr 3 (.t 6)), none, false⟩, ⟨none, (.store 1 (.t 37) (.c (.d (.int .i64 1)))), none, false⟩] [])) := eqi
@[simp] def Jqfs (p : Nums) : List IOp := [qo 38 (.mov (.t 0)), qo 39 (.load (some 7) (.t 6)), qo 40 (.bslice 7 1 [(.int .i64 0), (.int .i64 0), (.int .i64 0), (.int .i64 0), (.int .i64 0), (.int .i64 0), (.int .i64 0)] [(0, (.t 39))]), qo 41 (.call p.spillall_builder_add [(.t 38), (.t 40)])]
def Jqfk (p : Nums) : IC := (.region (Jqfs p) [])
@[simp] theorem Jefk {p : Nums} : EqI (Jqfk p) (.region (Jqfs p) []) := eqi
def Jqfl (p : Nums) : IC := (.seq (Jqfh p) (.seq (.seq (.region [⟨(some 29), (.faddr 2 (.t 4)), none, false⟩, ⟨(some 30), (.load none (.t 29)), none, false⟩] []) (.cond (.t 30) (Jqfj p) .skip)) (Jqfk p)))
@[simp] theorem Jefl {p : Nums} : EqI (Jqfl p) (.seq (Jqfh p) (.seq (.seq (.region [⟨(some 29), (.faddr 2 (.t 4)), none, false⟩, ⟨(some 30), (.load none (.t 29)), none, false⟩] []) (.cond (.t 30) (Jqfj p) .skip)) (Jqfk p))) := eqi
@[simp] def Jqft (p : Nums) : List IOp := [qo 44 (.mov (.t 0)), qo 45 (.faddr 1 (.t 3)), qo 46 (.load none (.t 45)), qo 47 (.call p.spillall_store [(.t 46)]), qo 48 (.bslice 7 1 [(.int .i64 0), (.int .i64 0), (.int .i64 0), (.int .i64 0), (.int .i64 0), (.int .i64 0), (.int .i64 0)] [(0, (.t 47))]), qo 49 (.call p.spillall_builder_add [(.t 44), (.t 48)])]
def Jqfm (p : Nums) : IC := (.region (Jqft p) [])
@[simp] theorem Jefm {p : Nums} : EqI (Jqfm p) (.region (Jqft p) []) := eqi
def Jtbp (p : Nums) : IC := (.seq (.region [⟨(some 3), (.box (.t 1)), none, false⟩] []) (.seq (Jqfe p) (.seq (.seq (.region [⟨(some 13), (.faddr 1 (.t 4)), none, false⟩, ⟨(some 14), (.load none (.t 13)), none, false⟩] []) (.cond (.t 14) (Jqff p) .skip)) (.seq (.seq (Jqfg p) (.cond (.t 23) (Jqfl p) .skip)) (.seq (.region [⟨(some 42), (.faddr 0 (.t 4)), none, false⟩, ⟨(some 43), (.load none (.t 42)), none, false⟩] []) (.cond (.t 43) (Jqfm p) .skip))))))
@[simp] def Jqfd (p : Nums) : List IOp := [qo 4 (.mov (.t 0)), qo 5 (.mov (.t 0)), qo 6 (.nilck (.t 5)), qo 7 (.faddr 0 (.t 6)), qo 8 (.load none (.t 7)), qo 9 (.mov (.t 1)), qo 10 (.app 7 56 (.t 8) (.t 9)), qo 11 (.nilck (.t 4)), qo 12 (.faddr 0 (.t 11)), qn (.store 1 (.t 12) (.t 10))]
def Jqfc (p : Nums) : IC := (.region (Jqfd p) [])
@[simp] theorem Jefc {p : Nums} : EqI (Jqfc p) (.region (Jqfd p) []) := eqi
def Jtbo (p : Nums) : IC := (Jqfc p)
@[simp] def Jqg2 (p : Nums) : List IOp := [qo 4 (.alloc [(zi 0), (zi 0), (zi 0), (zi 0), (zi 0), (zi 0), (zi 0)])]
def Jqg0 (p : Nums) : IC := (.region (Jqg2 p) [])
@[simp] theorem Jeg0 {p : Nums} : EqI (Jqg0 p) (.region (Jqg2 p) []) := eqi
@[simp] def Jqg3 (p : Nums) : List IOp := [qo 5 (.mov (.t 0)), qo 6 (.call p.location_Reg [(.t 5)]), qo 7 (.mov (.t 1)), qo 8 (.call p.location_Slot [(.t 7)]), qo 9 (.build [(zi 0), (zi 0), (zi 0), (zi 0), (zi 0), (zi 0), (zi 0)] [(0, 1, (ci 18)), (5, 1, (.t 6)), (6, 1, (.t 8))]), qn (.store 7 (.t 4) (.t 9))]
def Jqg1 (p : Nums) : IC := (.region (Jqg3 p) [])
@[simp] theorem Jeg1 {p : Nums} : EqI (Jqg1 p) (.region (Jqg3 p) []) := eqi
def Jtbr (p : Nums) : IC := (.seq (Jqg0 p) (.seq (Jqg1 p) .ret))
@[simp] def Jqa4 (p : Nums) : List IOp := [qo 5 (.mov (.t 0)), qo 6 (.bin .geq (.t 5) (ci 0)), qo 7 (.mov (.t 6)), ⟨(some 8), (.mov (.t 0)), (some (7, true)), false⟩, ⟨(some 9), (.mov (.t 1)), (some (7, true)), false⟩, ⟨(some 10), (.bin .lss (.t 8) (.t 9)), (some (7, true)), false⟩, qo 11 (.pick (.t 7) (.t 10) (.c (.d (.bool false)))), qo 4 (.asg (.t 11))]
def Jqa3 (p : Nums) : IC := (.region (Jqa4 p) [])
@[simp] theorem Jea3 {p : Nums} : EqI (Jqa3 p) (.region (Jqa4 p) []) := eqi
def Jtba (p : Nums) : IC := (.seq (.region [⟨(some 4), (.asg (.c (.d (.bool false)))), none, false⟩] []) (.seq (Jqa3 p) .ret))
@[simp] def Jq6n (p : Nums) : List IOp := [qo 3 (.mov (.t 0)), qo 4 (.bin .mul (ci 2) (.t 3)), qo 5 (.bin .add (.t 4) (ci 1)), qo 2 (.asg (.t 5))]
def Jq6m (p : Nums) : IC := (.region (Jq6n p) [])
@[simp] theorem Je6m {p : Nums} : EqI (Jq6m p) (.region (Jq6n p) []) := eqi
def Jtay (p : Nums) : IC := (.seq (.region [⟨(some 2), (.asg (.c (.d (.int .i64 0)))), none, false⟩] []) (.seq (Jq6m p) .ret))
@[simp] def Jqbt (p : Nums) : List IOp := [qo 9 (.faddr 0 (.t 2)), qo 10 (.load none (.t 9)), qo 11 (.call p.opcode_Of [(.t 10)]), qo 8 (.mov (.t 11)), qo 12 (.ext (.t 8) 0), qo 13 (.ext (.t 8) 1), qo 5 (.alloc [(.d (.bool false)), (.d (.bool false)), (.d (.bool false)), (.d (.bool false))]), qn (.store 4 (.t 5) (.t 12)), qo 6 (.asg (.t 13))]
def Jqbi (p : Nums) : IC := (.region (Jqbt p) [])
@[simp] theorem Jebi {p : Nums} : EqI (Jqbi p) (.region (Jqbt p) []) := eqi
@[simp] def Jqbu (p : Nums) : List IOp := [qo 14 (.faddr 1 (.t 2)), qo 15 (.load none (.t 14)), qo 16 (.faddr 0 (.t 5)), qo 17 (.load none (.t 16)), qo 18 (.mov (.t 1)), qo 19 (.build [(zi 0), (.d (.bool false)), (zi 0)] [(0, 1, (.t 15)), (1, 1, (.t 17)), (2, 1, (.t 18))]), qo 20 (.faddr 2 (.t 2)), qo 21 (.load none (.t 20)), qo 22 (.faddr 1 (.t 5)), qo 23 (.load none (.t 22)), qo 24 (.mov (.t 1)), qo 25 (.build [(zi 0), (.d (.bool false)), (zi 0)] [(0, 1, (.t 21)), (1, 1, (.t 23)), (2, 1, (.t 24))]), qo 26 (.faddr 3 (.t 2)), qo 27 (.load none (.t 26)), qo 28 (.faddr 2 (.t 5)), qo 29 (.load none (.t 28)), qo 30 (.mov (.t 1)), qo 31 (.build [(zi 0), (.d (.bool false)), (zi 0)] [(0, 1, (.t 27)), (1, 1, (.t 29)), (2, 1, (.t 30))]), qo 32 (.bslice 3 3 [(.int .i64 0), (.bool false), (.int .i64 0)] [(0, (.t 19)), (1, (.t 25)), (2, (.t 31))]), qo 7 (.asg (.t 32))]
def Jqbl (p : Nums) : IC := (.region (Jqbu p) [])
@[simp] theorem Jebl {p : Nums} : EqI (Jqbl p) (.region (Jqbu p) []) := eqi
@[simp] def Jqbv (p : Nums) : List IOp := [qo 34 (.faddr 0 (.t 2)), qo 35 (.load none (.t 34)), qo 36 (.call p.opcode_Source [(.t 35)]), qo 37 (.un .not (.t 36)), qo 33 (.asg (.t 37))]
def Jqbm (p : Nums) : IC := (.region (Jqbv p) [])
@[simp] theorem Jebm {p : Nums} : EqI (Jqbm p) (.region (Jqbv p) []) := eqi
@[simp] def Jqbw (p : Nums) : List IOp := [qo 39 (.mov (.t 7)), qo 40 (.call p.source_within [(.t 39)]), qo 41 (.un .not (.t 40)), qo 38 (.asg (.t 41))]
def Jqbn (p : Nums) : IC := (.region (Jqbw p) [])
@[simp] theorem Jebn {p : Nums} : EqI (Jqbn p) (.region (Jqbw p) []) := eqi
@[simp] def Jqbx (p : Nums) : List IOp := [qo 43 (.mov (.t 7)), qo 44 (.call p.source_blank [(.t 43)]), qo 45 (.un .not (.t 44)), qo 46 (.mov (.t 45)), ⟨(some 47), (.faddr 3 (.t 5)), (some (46, false)), false⟩, ⟨(some 48), (.load none (.t 47)), (some (46, false)), false⟩, ⟨(some 49), (.un .not (.t 48)), (some (46, false)), false⟩, ⟨(some 50), (.mov (.t 49)), (some (46, false)), false⟩, ⟨(some 51), (.faddr 4 (.t 2)), (some (50, true)), false⟩, ⟨(some 52), (.load none (.t 51)), (some (50, true)), false⟩, ⟨(some 53), (.bin .neq (.t 52) (ci 0)), (some (50, true)), false⟩, ⟨(some 54), (.pick (.t 50) (.t 53) (.c (.d (.bool false)))), (some (46, false)), false⟩, qo 55 (.pick (.t 46) (.c (.d (.bool true))) (.t 54)), qo 42 (.asg (.t 55))]
def Jqbo (p : Nums) : IC := (.region (Jqbx p) [])
@[simp] theorem Jebo {p : Nums} : EqI (Jqbo p) (.region (Jqbx p) []) := eqi
def Jqbp (p : Nums) : IC := (.seq (.region [⟨(some 4), (.asg (.c (.d (.int .i64 12)))), none, false⟩] []) .ret)
@[simp] theorem Jebp {p : Nums} : EqI (Jqbp p) (.seq (.region [⟨(some 4), (.asg (.c (.d (.int .i64 12)))), none, false⟩] []) .ret) := eqi
def Jqbq (p : Nums) : IC := (.seq (.region [⟨(some 4), (.asg (.c (.d (.int .i64 9)))), none, false⟩] []) .ret)
@[simp] theorem Jebq {p : Nums} : EqI (Jqbq p) (.seq (.region [⟨(some 4), (.asg (.c (.d (.int .i64 9)))), none, false⟩] []) .ret) := eqi
def Jqbr (p : Nums) : IC := (.seq (Jqbo p) (.cond (.t 42) (Jqbp p) .skip))
@[simp] theorem Jebr {p : Nums} : EqI (Jqbr p) (.seq (Jqbo p) (.cond (.t 42) (Jqbp p) .skip)) := eqi
def Jqbs (p : Nums) : IC := (.seq (.region [⟨(some 4), (.asg (.c (.d (.int .i64 8)))), none, false⟩] []) .ret)
@[simp] theorem Jebs {p : Nums} : EqI (Jqbs p) (.seq (.region [⟨(some 4), (.asg (.c (.d (.int .i64 8)))), none, false⟩] []) .ret) := eqi
def Jqbj (p : Nums) : IC := (.seq (Jqbn p) (.cond (.t 38) (Jqbq p) (Jqbr p)))
@[simp] theorem Jebj {p : Nums} : EqI (Jqbj p) (.seq (Jqbn p) (.cond (.t 38) (Jqbq p) (Jqbr p))) := eqi
def Jqbk (p : Nums) : IC := (.seq (Jqbm p) (.cond (.t 33) (Jqbs p) (Jqbj p)))
@[simp] theorem Jebk {p : Nums} : EqI (Jqbk p) (.seq (Jqbm p) (.cond (.t 33) (Jqbs p) (Jqbj p))) := eqi
def Jtbg (p : Nums) : IC := (.seq (.region [⟨(some 2), (.box (.t 0)), none, false⟩, ⟨(some 4), (.asg (.c (.d (.int .i64 0)))), none, false⟩] []) (.seq (Jqbi p) (.seq (Jqbl p) (.seq (.block 0 (Jqbk p)) (.seq (.region [⟨(some 4), (.asg (.c (.d (.int .i64 0)))), none, false⟩] []) .ret)))))
@[simp] def Jqcd (p : Nums) : List IOp := [qo 10 (.faddr 1 (.t 3)), qo 11 (.load none (.t 10)), qo 12 (.faddr 0 (.t 3)), qo 13 (.load none (.t 12)), qo 14 (.bin .neq (.t 13) (ci 1)), qo 15 (.mov (.t 1)), qo 16 (.build [(zi 0), (.d (.bool false)), (zi 0)] [(0, 1, (.t 11)), (1, 1, (.t 14)), (2, 1, (.t 15))]), qo 7 (.alloc [(zi 0), (.d (.bool false)), (zi 0)]), qn (.store 3 (.t 7) (.t 16))]
def Jqby (p : Nums) : IC := (.region (Jqcd p) [])
@[simp] theorem Jeby {p : Nums} : EqI (Jqby p) (.region (Jqcd p) []) := eqi
@[simp] def Jqce (p : Nums) : List IOp := [qo 17 (.faddr 2 (.t 3)), qo 18 (.load none (.t 17)), qo 19 (.faddr 0 (.t 3)), qo 20 (.load none (.t 19)), qo 21 (.bin .neq (.t 20) (ci 3)), qo 22 (.mov (.t 2)), qo 23 (.build [(zi 0), (.d (.bool false)), (zi 0)] [(0, 1, (.t 18)), (1, 1, (.t 21)), (2, 1, (.t 22))]), qo 8 (.alloc [(zi 0), (.d (.bool false)), (zi 0)]), qn (.store 3 (.t 8) (.t 23))]
def Jqc5 (p : Nums) : IC := (.region (Jqce p) [])
@[simp] theorem Jec5 {p : Nums} : EqI (Jqc5 p) (.region (Jqce p) []) := eqi
@[simp] def Jqcf (p : Nums) : List IOp := [qo 24 (.faddr 3 (.t 3)), qo 25 (.load none (.t 24)), qo 26 (.faddr 0 (.t 3)), qo 27 (.load none (.t 26)), qo 28 (.bin .eql (.t 27) (ci 2)), qo 29 (.mov (.t 2)), qo 30 (.build [(zi 0), (.d (.bool false)), (zi 0)] [(0, 1, (.t 25)), (1, 1, (.t 28)), (2, 1, (.t 29))]), qo 9 (.alloc [(zi 0), (.d (.bool false)), (zi 0)]), qn (.store 3 (.t 9) (.t 30))]
def Jqc6 (p : Nums) : IC := (.region (Jqcf p) [])
@[simp] theorem Jec6 {p : Nums} : EqI (Jqc6 p) (.region (Jqcf p) []) := eqi
@[simp] def Jqcg (p : Nums) : List IOp := [qo 32 (.faddr 0 (.t 3)), qo 33 (.load none (.t 32)), qo 34 (.bin .lss (.t 33) (ci 1)), qo 35 (.mov (.t 34)), ⟨(some 36), (.faddr 0 (.t 3)), (some (35, false)), false⟩, ⟨(some 37), (.load none (.t 36)), (some (35, false)), false⟩, ⟨(some 38), (.bin .gtr (.t 37) (ci 3)), (some (35, false)), false⟩, qo 39 (.pick (.t 35) (.c (.d (.bool true))) (.t 38)), qo 31 (.asg (.t 39))]
def Jqc7 (p : Nums) : IC := (.region (Jqcg p) [])
@[simp] theorem Jec7 {p : Nums} : EqI (Jqc7 p) (.region (Jqcg p) []) := eqi
@[simp] def Jqch (p : Nums) : List IOp := [qo 41 (.load (some 3) (.t 7)), qo 42 (.bslice 3 1 [(.int .i64 0), (.bool false), (.int .i64 0)] [(0, (.t 41))]), qo 43 (.call p.source_within [(.t 42)]), qo 44 (.un .not (.t 43)), qo 40 (.asg (.t 44))]
def Jqc8 (p : Nums) : IC := (.region (Jqch p) [])
@[simp] theorem Jec8 {p : Nums} : EqI (Jqc8 p) (.region (Jqch p) []) := eqi
@[simp] def Jqci (p : Nums) : List IOp := [qo 46 (.load (some 3) (.t 8)), qo 47 (.load (some 3) (.t 9)), qo 48 (.bslice 3 2 [(.int .i64 0), (.bool false), (.int .i64 0)] [(0, (.t 46)), (1, (.t 47))]), qo 49 (.call p.source_within [(.t 48)]), qo 50 (.un .not (.t 49)), qo 45 (.asg (.t 50))]
def Jqc9 (p : Nums) : IC := (.region (Jqci p) [])
@[simp] theorem Jec9 {p : Nums} : EqI (Jqc9 p) (.region (Jqci p) []) := eqi
@[simp] def Jqcj (p : Nums) : List IOp := [qo 52 (.load (some 3) (.t 7)), qo 53 (.load (some 3) (.t 8)), qo 54 (.load (some 3) (.t 9)), qo 55 (.bslice 3 3 [(.int .i64 0), (.bool false), (.int .i64 0)] [(0, (.t 52)), (1, (.t 53)), (2, (.t 54))]), qo 56 (.call p.source_blank [(.t 55)]), qo 57 (.un .not (.t 56)), qo 51 (.asg (.t 57))]
def Jqca (p : Nums) : IC := (.region (Jqcj p) [])
@[simp] theorem Jeca {p : Nums} : EqI (Jqca p) (.region (Jqcj p) []) := eqi
def Jqcb (p : Nums) : IC := (.seq (.region [⟨(some 6), (.asg (.c (.d (.int .i64 12)))), none, false⟩] []) .ret)
@[simp] theorem Jecb {p : Nums} : EqI (Jqcb p) (.seq (.region [⟨(some 6), (.asg (.c (.d (.int .i64 12)))), none, false⟩] []) .ret) := eqi
def Jqcc (p : Nums) : IC := (.seq (.region [⟨(some 6), (.asg (.c (.d (.int .i64 11)))), none, false⟩] []) .ret)
@[simp] theorem Jecc {p : Nums} : EqI (Jqcc p) (.seq (.region [⟨(some 6), (.asg (.c (.d (.int .i64 11)))), none, false⟩] []) .ret) := eqi
def Jqbz (p : Nums) : IC := (.seq (Jqca p) (.cond (.t 51) (Jqcb p) .skip))
@[simp] theorem Jebz {p : Nums} : EqI (Jqbz p) (.seq (Jqca p) (.cond (.t 51) (Jqcb p) .skip)) := eqi
def Jqc0 (p : Nums) : IC := (.seq (.region [⟨(some 6), (.asg (.c (.d (.int .i64 9)))), none, false⟩] []) .ret)
@[simp] theorem Jec0 {p : Nums} : EqI (Jqc0 p) (.seq (.region [⟨(some 6), (.asg (.c (.d (.int .i64 9)))), none, false⟩] []) .ret) := eqi
def Jqc1 (p : Nums) : IC := (.seq (Jqc9 p) (.cond (.t 45) (Jqcc p) (Jqbz p)))
@[simp] theorem Jec1 {p : Nums} : EqI (Jqc1 p) (.seq (Jqc9 p) (.cond (.t 45) (Jqcc p) (Jqbz p))) := eqi
def Jqc2 (p : Nums) : IC := (.seq (.region [⟨(some 6), (.asg (.c (.d (.int .i64 16)))), none, false⟩] []) .ret)
@[simp] theorem Jec2 {p : Nums} : EqI (Jqc2 p) (.seq (.region [⟨(some 6), (.asg (.c (.d (.int .i64 16)))), none, false⟩] []) .ret) := eqi
def Jqc3 (p : Nums) : IC := (.seq (Jqc8 p) (.cond (.t 40) (Jqc0 p) (Jqc1 p)))
@[simp] theorem Jec3 {p : Nums} : EqI (Jqc3 p) (.seq (Jqc8 p) (.cond (.t 40) (Jqc0 p) (Jqc1 p))) := eqi
def Jqc4 (p : Nums) : IC := (.seq (Jqc7 p) (.cond (.t 31) (Jqc2 p) (Jqc3 p)))
@[simp] theorem Jec4 {p : Nums} : EqI (Jqc4 p) (.seq (Jqc7 p) (.cond (.t 31) (Jqc2 p) (Jqc3 p))) := eqi
def Jtbh (p : Nums) : IC := (.seq (.region [⟨(some 3), (.box (.t 0)), none, false⟩, ⟨(some 6), (.asg (.c (.d (.int .i64 0)))), none, false⟩] []) (.seq (Jqby p) (.seq (Jqc5 p) (.seq (Jqc6 p) (.seq (.block 0 (Jqc4 p)) (.seq (.region [⟨(some 6), (.asg (.c (.d (.int .i64 0)))), none, false⟩] []) .ret))))))
@[simp] def Jq4u (p : Nums) : List IOp := [qo 6 (.faddr 0 (.t 3)), qo 7 (.load none (.t 6)), qo 8 (.bin .eql (.t 7) (ci 17))]
def Jq4m (p : Nums) : IC := (.region (Jq4u p) [])
@[simp] theorem Je4m {p : Nums} : EqI (Jq4m p) (.region (Jq4u p) []) := eqi
@[simp] def Jq4v (p : Nums) : List IOp := [qo 9 (.mov (.t 0)), qp 10 (.mov (.t 0)), qp 11 (.nilck (.t 10)), qp 12 (.faddr 0 (.t 11)), qp 13 (.faddr 6 (.t 12)), qp 14 (.load none (.t 13)), qp 15 (.mov (.t 0)), qp 16 (.nilck (.t 15)), qp 17 (.faddr 0 (.t 16)), qp 18 (.faddr 4 (.t 17)), qp 19 (.load none (.t 18)), qp 20 (.faddr 2 (.t 3)), qp 21 (.load none (.t 20)), qp 22 (.iaddr 1 (.t 19) (.t 21)), qp 23 (.load none (.t 22)), qp 24 (.bslice 1 1 [(.int .i64 0)] [(0, (.t 23))]), qo 25 (.app 1 8 (.t 14) (.t 24)), qo 26 (.nilck (.t 9)), qo 27 (.faddr 0 (.t 26)), qo 28 (.faddr 6 (.t 27)), qn (.store 1 (.t 28) (.t 25))]
def Jq4n (p : Nums) : IC := (.region (Jq4v p) [])
@[simp] theorem Je4n {p : Nums} : EqI (Jq4n p) (.region (Jq4v p) []) := eqi
@[simp] def Jq4w (p : Nums) : List IOp := [qp 30 (.faddr 0 (.t 3)), qp 31 (.load none (.t 30)), qp 32 (.mov (.t 0)), qp 33 (.nilck (.t 32)), qp 34 (.faddr 0 (.t 33)), qp 35 (.faddr 4 (.t 34)), qp 36 (.load none (.t 35)), qp 37 (.faddr 2 (.t 3)), qp 38 (.load none (.t 37)), qp 39 (.iaddr 1 (.t 36) (.t 38)), qp 40 (.load none (.t 39)), qp 41 (.mov (.t 0)), qp 42 (.nilck (.t 41)), qp 43 (.faddr 0 (.t 42)), qp 44 (.faddr 4 (.t 43)), qp 45 (.load none (.t 44)), qp 46 (.faddr 3 (.t 3)), qp 47 (.load none (.t 46)), qp 48 (.iaddr 1 (.t 45) (.t 47)), qp 49 (.load none (.t 48)), qp 50 (.faddr 4 (.t 3)), qp 51 (.load none (.t 50)), qo 52 (.call p.alu_Eval [(.t 31), (.t 40), (.t 49), (.t 51)]), qo 29 (.mov (.t 52)), qp 53 (.ext (.t 29) 0), qp 54 (.ext (.t 29) 1), qp 4 (.asg (.t 53)), qo 5 (.asg (.t 54))]
def Jq4o (p : Nums) : IC := (.region (Jq4w p) [])
@[simp] theorem Je4o {p : Nums} : EqI (Jq4o p) (.region (Jq4w p) []) := eqi
@[simp] def Jq4x (p : Nums) : List IOp := [qo 57 (.mov (.t 0)), qo 58 (.nilck (.t 57)), qo 59 (.faddr 0 (.t 58)), qo 60 (.faddr 0 (.t 59)), qn (.store 1 (.t 60) (ci 2))]
def Jq4p (p : Nums) : IC := (.region (Jq4x p) [])
@[simp] theorem Je4p {p : Nums} : EqI (Jq4p p) (.region (Jq4x p) []) := eqi
@[simp] def Jq4y (p : Nums) : List IOp := [qo 61 (.mov (.t 0)), qp 62 (.nilck (.t 61)), qp 63 (.faddr 0 (.t 62)), qp 64 (.faddr 4 (.t 63)), qp 65 (.load none (.t 64)), qp 66 (.faddr 1 (.t 3)), qp 67 (.load none (.t 66)), qp 68 (.mov (.t 4)), qo 69 (.iaddr 1 (.t 65) (.t 67)), qn (.store 1 (.t 69) (.t 68))]
def Jq4q (p : Nums) : IC := (.region (Jq4y p) [])
@[simp] theorem Je4q {p : Nums} : EqI (Jq4q p) (.region (Jq4y p) []) := eqi
def Jq4r (p : Nums) : IC := (.seq (Jq4o p) (.seq (.seq (.region [⟨(some 55), (.mov (.t 5)), none, false⟩, ⟨(some 56), (.un .not (.t 55)), none, false⟩] []) (.cond (.t 56) (.seq (Jq4p p) .ret) .skip)) (Jq4q p)))
@[simp] theorem Je4r {p : Nums} : EqI (Jq4r p) (.seq (Jq4o p) (.seq (.seq (.region [⟨(some 55), (.mov (.t 5)), none, false⟩, ⟨(some 56), (.un .not (.t 55)), none, false⟩] []) (.cond (.t 56) (.seq (Jq4p p) .ret) .skip)) (Jq4q p))) := eqi
@[simp] def Jq4z (p : Nums) : List IOp := [qo 70 (.mov (.t 0)), qo 71 (.nilck (.t 70)), qo 72 (.faddr 0 (.t 71)), qo 73 (.faddr 2 (.t 72)), qo 74 (.load none (.t 73)), qo 75 (.bin .add (.t 74) (ci 1)), qo 76 (.nilck (.t 70)), qo 77 (.faddr 0 (.t 76)), qo 78 (.faddr 2 (.t 77)), qn (.store 1 (.t 78) (.t 75))]
def Jq4s (p : Nums) : IC := (.region (Jq4z p) [])
@[simp] theorem Je4s {p : Nums} : EqI (Jq4s p) (.region (Jq4z p) []) := eqi
@[simp] def Jq50 (p : Nums) : List IOp := [qo 79 (.mov (.t 0)), qo 80 (.nilck (.t 79)), qo 81 (.faddr 0 (.t 80)), qo 82 (.faddr 7 (.t 81)), qo 83 (.load none (.t 82)), qo 84 (.bin .add (.t 83) (ci 1)), qo 85 (.nilck (.t 79)), qo 86 (.faddr 0 (.t 85)), qo 87 (.faddr 7 (.t 86)), qn (.store 1 (.t 87) (.t 84))]
def Jq4t (p : Nums) : IC := (.region (Jq50 p) [])
@[simp] theorem Je4t {p : Nums} : EqI (Jq4t p) (.region (Jq50 p) []) := eqi
def Jtaq (p : Nums) : IC := (.seq (.region [⟨(some 3), (.box (.t 1)), none, false⟩] []) (.seq (.seq (Jq4m p) (.cond (.t 8) (Jq4n p) (Jq4r p))) (.seq (Jq4s p) (Jq4t p))))
@[simp] def Jq5i (p : Nums) : List IOp := [qo 4 (.mov (.t 0)), qo 5 (.nilck (.t 4)), qo 6 (.faddr 0 (.t 5)), qo 7 (.faddr 7 (.t 6)), qo 8 (.load none (.t 7)), qo 9 (.bin .add (.t 8) (ci 1)), qo 10 (.nilck (.t 4)), qo 11 (.faddr 0 (.t 10)), qo 12 (.faddr 7 (.t 11)), qn (.store 1 (.t 12) (.t 9))]
def Jq59 (p : Nums) : IC := (.region (Jq5i p) [])
@[simp] theorem Je59 {p : Nums} : EqI (Jq59 p) (.region (Jq5i p) []) := eqi
@[simp] def Jq5j (p : Nums) : List IOp := [qo 20 (.faddr 0 (.t 3)), qo 21 (.load none (.t 20)), qo 22 (.bin .eql (.t 21) (ci 3)), qo 19 (.asg (.t 22))]
def Jq5a (p : Nums) : IC := (.region (Jq5j p) [])
@[simp] theorem Je5a {p : Nums} : EqI (Jq5a p) (.region (Jq5j p) []) := eqi
@[simp] def Jq5k (p : Nums) : List IOp := [qp 23 (.mov (.t 0)), qp 24 (.mov (.t 0)), qp 25 (.mov (.t 0)), qp 26 (.nilck (.t 25)), qp 27 (.faddr 0 (.t 26)), qp 28 (.faddr 4 (.t 27)), qp 29 (.load none (.t 28)), qp 30 (.faddr 1 (.t 3)), qp 31 (.load none (.t 30)), qp 32 (.iaddr 1 (.t 29) (.t 31)), qp 33 (.load none (.t 32)), qp 34 (.nilck (.t 23)), qp 35 (.faddr 0 (.t 34)), qp 36 (.faddr 0 (.t 35)), qm (.storeq 1 (.t 36) (ci 1) []), qo 37 (.nilck (.t 24)), qo 38 (.faddr 0 (.t 37)), qo 39 (.faddr 3 (.t 38)), qn (.store 1 (.t 39) (.t 33))]
def Jq5b (p : Nums) : IC := (.region (Jq5k p) [])
@[simp] theorem Je5b {p : Nums} : EqI (Jq5b p) (.region (Jq5k p) []) := eqi
@[simp] def Jq5l (p : Nums) : List IOp := [qo 41 (.faddr 0 (.t 3)), qo 42 (.load none (.t 41)), qo 43 (.bin .eql (.t 42) (ci 2)), qo 44 (.mov (.t 43)), ⟨(some 45), (.mov (.t 0)), (some (44, true)), true⟩, ⟨(some 46), (.nilck (.t 45)), (some (44, true)), true⟩, ⟨(some 47), (.faddr 0 (.t 46)), (some (44, true)), true⟩, ⟨(some 48), (.faddr 4 (.t 47)), (some (44, true)), true⟩, ⟨(some 49), (.load none (.t 48)), (some (44, true)), true⟩, ⟨(some 50), (.faddr 1 (.t 3)), (some (44, true)), true⟩, ⟨(some 51), (.load none (.t 50)), (some (44, true)), true⟩, ⟨(some 52), (.iaddr 1 (.t 49) (.t 51)), (some (44, true)), false⟩, ⟨(some 53), (.load none (.t 52)), (some (44, true)), false⟩, ⟨(some 54), (.bin .eql (.t 53) (ci 0)), (some (44, true)), false⟩, qo 55 (.pick (.t 44) (.t 54) (.c (.d (.bool false)))), qo 40 (.asg (.t 55))]
def Jq5c (p : Nums) : IC := (.region (Jq5l p) [])
@[simp] theorem Je5c {p : Nums} : EqI (Jq5c p) (.region (Jq5l p) []) := eqi
@[simp] def Jq5m (p : Nums) : List IOp := [qo 56 (.mov (.t 0)), qo 57 (.faddr 3 (.t 3)), qo 58 (.load none (.t 57)), qo 59 (.nilck (.t 56)), qo 60 (.faddr 0 (.t 59)), qo 61 (.faddr 1 (.t 60)), qn (.store 1 (.t 61) (.t 58))]
def Jq5d (p : Nums) : IC := (.region (Jq5m p) [])
@[simp] theorem Je5d {p : Nums} : EqI (Jq5d p) (.region (Jq5m p) []) := eqi
@[simp] def Jq5n (p : Nums) : List IOp := [qo 13 (.mov (.t 0)), qo 14 (.faddr 2 (.t 3)), qo 15 (.load none (.t 14)), qo 16 (.nilck (.t 13)), qo 17 (.faddr 0 (.t 16)), qo 18 (.faddr 1 (.t 17)), qn (.store 1 (.t 18) (.t 15))]
def Jq5e (p : Nums) : IC := (.region (Jq5n p) [])
@[simp] theorem Je5e {p : Nums} : EqI (Jq5e p) (.region (Jq5n p) []) := eqi
def Jq5f (p : Nums) : IC := (.seq (Jq5c p) (.cond (.t 40) (Jq5d p) (Jq5e p)))
@[simp] theorem Je5f {p : Nums} : EqI (Jq5f p) (.seq (Jq5c p) (.cond (.t 40) (Jq5d p) (Jq5e p))) := eqi
def Jq5g (p : Nums) : IC := (.seq (Jq5a p) (.cond (.t 19) (.seq (Jq5b p) .ret) (Jq5f p)))
@[simp] theorem Je5g {p : Nums} : EqI (Jq5g p) (.seq (Jq5a p) (.cond (.t 19) (.seq (Jq5b p) .ret) (Jq5f p))) := eqi
@[simp] def Jq5o (p : Nums) : List IOp := [qo 62 (.mov (.t 0)), qo 63 (.nilck (.t 62)), qo 64 (.faddr 0 (.t 63)), qo 65 (.faddr 2 (.t 64)), qn (.store 1 (.t 65) (ci 0))]
def Jq5h (p : Nums) : IC := (.region (Jq5o p) [])
@[simp] theorem Je5h {p : Nums} : EqI (Jq5h p) (.region (Jq5o p) []) := eqi
def Jtas (p : Nums) : IC := (.seq (.region [⟨(some 3), (.box (.t 1)), none, false⟩] []) (.seq (Jq59 p) (.seq (.block 0 (Jq5g p)) (Jq5h p))))
@[simp] def Jq35 (p : Nums) : List IOp := [qo 5 (.mov (.t 0)), qo 6 (.mkfn (.func p.execute_state_compute) [(.t 5)] []), qo 4 (.asg (.t 6))]
def Jq2w (p : Nums) : IC := (.region (Jq35 p) [])
@[simp] theorem Je2w {p : Nums} : EqI (Jq2w p) (.region (Jq35 p) []) := eqi
@[simp] def Jq36 (p : Nums) : List IOp := [qo 11 (.mov (.t 0)), qo 12 (.mkfn (.func p.execute_state_move) [(.t 11)] []), qo 4 (.asg (.t 12))]
def Jq2x (p : Nums) : IC := (.region (Jq36 p) [])
@[simp] theorem Je2x {p : Nums} : EqI (Jq2x p) (.region (Jq36 p) []) := eqi
@[simp] def Jq37 (p : Nums) : List IOp := [qo 15 (.mov (.t 0)), qo 16 (.mkfn (.func p.execute_state_emit) [(.t 15)] []), qo 4 (.asg (.t 16))]
def Jq2y (p : Nums) : IC := (.region (Jq37 p) [])
@[simp] theorem Je2y {p : Nums} : EqI (Jq2y p) (.region (Jq37 p) []) := eqi
def Jq2z (p : Nums) : IC := (.seq (.region [⟨(some 14), (.bin .eql (.t 8) (.c (.d (.int .i64 17)))), none, false⟩, ⟨(some 13), (.asg (.t 14)), none, false⟩] []) (.cond (.t 13) (Jq2y p) .skip))
@[simp] theorem Je2z {p : Nums} : EqI (Jq2z p) (.seq (.region [⟨(some 14), (.bin .eql (.t 8) (.c (.d (.int .i64 17)))), none, false⟩, ⟨(some 13), (.asg (.t 14)), none, false⟩] []) (.cond (.t 13) (Jq2y p) .skip)) := eqi
def Jq30 (p : Nums) : IC := (.seq (.region [⟨(some 10), (.bin .eql (.t 8) (.c (.d (.int .i64 18)))), none, false⟩, ⟨(some 9), (.asg (.t 10)), none, false⟩] []) (.cond (.t 9) (Jq2x p) (Jq2z p)))
@[simp] theorem Je30 {p : Nums} : EqI (Jq30 p) (.seq (.region [⟨(some 10), (.bin .eql (.t 8) (.c (.d (.int .i64 18)))), none, false⟩, ⟨(some 9), (.asg (.t 10)), none, false⟩] []) (.cond (.t 9) (Jq2x p) (Jq2z p))) := eqi
@[simp] def Jq38 (p : Nums) : List IOp := [qo 17 (.mov (.t 4)), qo 18 (.load (some 7) (.t 3)), qo 19 (.callv (.t 17) [(.t 18)]), qo 20 (.un .not (.t 19))]
def Jq31 (p : Nums) : IC := (.region (Jq38 p) [])
@[simp] theorem Je31 {p : Nums} : EqI (Jq31 p) (.region (Jq38 p) []) := eqi
@[simp] def Jq39 (p : Nums) : List IOp := [qo 21 (.mov (.t 0)), qo 22 (.nilck (.t 21)), qo 23 (.faddr 0 (.t 22)), qo 24 (.faddr 0 (.t 23)), qn (.store 1 (.t 24) (ci 2))]
def Jq32 (p : Nums) : IC := (.region (Jq39 p) [])
@[simp] theorem Je32 {p : Nums} : EqI (Jq32 p) (.region (Jq39 p) []) := eqi
@[simp] def Jq3a (p : Nums) : List IOp := [qo 25 (.mov (.t 0)), qo 26 (.nilck (.t 25)), qo 27 (.faddr 0 (.t 26)), qo 28 (.faddr 2 (.t 27)), qo 29 (.load none (.t 28)), qo 30 (.bin .add (.t 29) (ci 1)), qo 31 (.nilck (.t 25)), qo 32 (.faddr 0 (.t 31)), qo 33 (.faddr 2 (.t 32)), qn (.store 1 (.t 33) (.t 30))]
def Jq33 (p : Nums) : IC := (.region (Jq3a p) [])
@[simp] theorem Je33 {p : Nums} : EqI (Jq33 p) (.region (Jq3a p) []) := eqi
@[simp] def Jq3b (p : Nums) : List IOp := [qo 34 (.mov (.t 0)), qo 35 (.nilck (.t 34)), qo 36 (.faddr 0 (.t 35)), qo 37 (.faddr 7 (.t 36)), qo 38 (.load none (.t 37)), qo 39 (.bin .add (.t 38) (ci 1)), qo 40 (.nilck (.t 34)), qo 41 (.faddr 0 (.t 40)), qo 42 (.faddr 7 (.t 41)), qn (.store 1 (.t 42) (.t 39))]
def Jq34 (p : Nums) : IC := (.region (Jq3b p) [])
@[simp] theorem Je34 {p : Nums} : EqI (Jq34 p) (.region (Jq3b p) []) := eqi
def Jtak (p : Nums) : IC := (.seq (.region [⟨(some 3), (.box (.t 1)), none, false⟩] []) (.seq (Jq2w p) (.seq (.seq (.region [⟨(some 7), (.faddr 0 (.t 3)), none, false⟩, ⟨(some 8), (.load none (.t 7)), none, false⟩] []) (.block 0 (Jq30 p))) (.seq (.seq (Jq31 p) (.cond (.t 20) (.seq (Jq32 p) .ret) .skip)) (.seq (Jq33 p) (Jq34 p))))))
@[simp] def Jq3u (p : Nums) : List IOp := [qo 4 (.mov (.t 0)), qo 5 (.nilck (.t 4)), qo 6 (.faddr 0 (.t 5)), qo 7 (.faddr 7 (.t 6)), qo 8 (.load none (.t 7)), qo 9 (.bin .add (.t 8) (ci 1)), qo 10 (.nilck (.t 4)), qo 11 (.faddr 0 (.t 10)), qo 12 (.faddr 7 (.t 11)), qn (.store 1 (.t 12) (.t 9))]
def Jq3k (p : Nums) : IC := (.region (Jq3u p) [])
@[simp] theorem Je3k {p : Nums} : EqI (Jq3k p) (.region (Jq3u p) []) := eqi
@[simp] def Jq3w (p : Nums) : List IOp := [qp 39 (.mov (.t 0)), qp 40 (.mov (.t 0)), qp 41 (.mov (.t 0)), qp 42 (.nilck (.t 41)), qp 43 (.faddr 0 (.t 42)), qp 44 (.faddr 4 (.t 43)), qp 45 (.load none (.t 44)), qp 46 (.faddr 1 (.t 3)), qp 47 (.load none (.t 46)), qp 48 (.iaddr 1 (.t 45) (.t 47)), qp 49 (.load none (.t 48)), qp 50 (.nilck (.t 39)), qp 51 (.faddr 0 (.t 50)), qp 52 (.faddr 0 (.t 51)), qm (.storeq 1 (.t 52) (ci 1) []), qo 53 (.nilck (.t 40)), qo 54 (.faddr 0 (.t 53)), qo 55 (.faddr 3 (.t 54)), qn (.store 1 (.t 55) (.t 49))]
def Jq3m (p : Nums) : IC := (.region (Jq3w p) [])
@[simp] theorem Je3m {p : Nums} : EqI (Jq3m p) (.region (Jq3w p) []) := eqi
@[simp] def Jq3x (p : Nums) : List IOp := [qo 58 (.mov (.t 0)), qo 59 (.faddr 2 (.t 3)), qo 60 (.load none (.t 59)), qo 61 (.nilck (.t 58)), qo 62 (.faddr 0 (.t 61)), qo 63 (.faddr 1 (.t 62)), qn (.store 1 (.t 63) (.t 60))]
def Jq3n (p : Nums) : IC := (.region (Jq3x p) [])
@[simp] theorem Je3n {p : Nums} : EqI (Jq3n p) (.region (Jq3x p) []) := eqi
@[simp] def Jq3y (p : Nums) : List IOp := [qo 15 (.mov (.t 0)), qo 16 (.faddr 3 (.t 3)), qo 17 (.load none (.t 16)), qo 18 (.nilck (.t 15)), qo 19 (.faddr 0 (.t 18)), qo 20 (.faddr 1 (.t 19)), qn (.store 1 (.t 20) (.t 17))]
def Jq3o (p : Nums) : IC := (.region (Jq3y p) [])
@[simp] theorem Je3o {p : Nums} : EqI (Jq3o p) (.region (Jq3y p) []) := eqi
@[simp] def Jq3z (p : Nums) : List IOp := [qp 21 (.mov (.t 0)), qp 22 (.nilck (.t 21)), qp 23 (.faddr 0 (.t 22)), qp 24 (.faddr 4 (.t 23)), qp 25 (.load none (.t 24)), qp 26 (.faddr 1 (.t 3)), qp 27 (.load none (.t 26)), qo 28 (.iaddr 1 (.t 25) (.t 27)), qo 29 (.load none (.t 28)), qo 30 (.bin .neq (.t 29) (ci 0))]
def Jq3p (p : Nums) : IC := (.region (Jq3z p) [])
@[simp] theorem Je3p {p : Nums} : EqI (Jq3p p) (.region (Jq3z p) []) := eqi
@[simp] def Jq40 (p : Nums) : List IOp := [qo 31 (.mov (.t 0)), qo 32 (.faddr 2 (.t 3)), qo 33 (.load none (.t 32)), qo 34 (.nilck (.t 31)), qo 35 (.faddr 0 (.t 34)), qo 36 (.faddr 1 (.t 35)), qn (.store 1 (.t 36) (.t 33))]
def Jq3q (p : Nums) : IC := (.region (Jq40 p) [])
@[simp] theorem Je3q {p : Nums} : EqI (Jq3q p) (.region (Jq40 p) []) := eqi
def Jq3r (p : Nums) : IC := (.seq (Jq3o p) (.seq (Jq3p p) (.cond (.t 30) (Jq3q p) .skip)))
@[simp] theorem Je3r {p : Nums} : EqI (Jq3r p) (.seq (Jq3o p) (.seq (Jq3p p) (.cond (.t 30) (Jq3q p) .skip))) := eqi
def Jq3s (p : Nums) : IC := (.seq (.region [⟨(some 57), (.bin .eql (.t 14) (.c (.d (.int .i64 1)))), none, false⟩, ⟨(some 56), (.asg (.t 57)), none, false⟩] []) (.cond (.t 56) (Jq3n p) (Jq3r p)))
@[simp] theorem Je3s {p : Nums} : EqI (Jq3s p) (.seq (.region [⟨(some 57), (.bin .eql (.t 14) (.c (.d (.int .i64 1)))), none, false⟩, ⟨(some 56), (.asg (.t 57)), none, false⟩] []) (.cond (.t 56) (Jq3n p) (Jq3r p))) := eqi
def Jq3t (p : Nums) : IC := (.seq (.region [⟨(some 38), (.bin .eql (.t 14) (.c (.d (.int .i64 3)))), none, false⟩, ⟨(some 37), (.asg (.t 38)), none, false⟩] []) (.cond (.t 37) (.seq (Jq3m p) .ret) (Jq3s p)))
@[simp] theorem Je3t {p : Nums} : EqI (Jq3t p) (.seq (.region [⟨(some 38), (.bin .eql (.t 14) (.c (.d (.int .i64 3)))), none, false⟩, ⟨(some 37), (.asg (.t 38)), none, false⟩] []) (.cond (.t 37) (.seq (Jq3m p) .ret) (Jq3s p))) := eqi
@[simp] def Jq3v (p : Nums) : List IOp := [qo 64 (.mov (.t 0)), qo 65 (.nilck (.t 64)), qo 66 (.faddr 0 (.t 65)), qo 67 (.faddr 2 (.t 66)), qn (.store 1 (.t 67) (ci 0))]
def Jq3l (p : Nums) : IC := (.region (Jq3v p) [])
@[simp] theorem Je3l {p : Nums} : EqI (Jq3l p) (.region (Jq3v p) []) := eqi
def Jtan (p : Nums) : IC := (.seq (.region [⟨(some 3), (.box (.t 1)), none, false⟩] []) (.seq (Jq3k p) (.seq (.seq (.region [⟨(some 13), (.faddr 0 (.t 3)), none, false⟩, ⟨(some 14), (.load none (.t 13)), none, false⟩] []) (.block 0 (Jq3t p))) (Jq3l p))))
@[simp] def Jq72 (p : Nums) : List IOp := [qo 2 (.alloc [(.d (.bool false)), (.d (.bool false)), (.d (.bool false)), (.d (.bool false))]), qo 3 (.asg (.c (.d (.bool false))))]
def Jq6o (p : Nums) : IC := (.region (Jq72 p) [])
@[simp] theorem Je6o {p : Nums} : EqI (Jq6o p) (.region (Jq72 p) []) := eqi
@[simp] def Jq74 (p : Nums) : List IOp := [qo 5 (.mov (.t 0)), qo 6 (.call p.opcode_known [(.t 5)]), qo 7 (.un .not (.t 6)), qo 4 (.asg (.t 7))]
def Jq6u (p : Nums) : IC := (.region (Jq74 p) [])
@[simp] theorem Je6u {p : Nums} : EqI (Jq6u p) (.region (Jq74 p) []) := eqi
@[simp] def Jq75 (p : Nums) : List IOp := [qo 8 (.build [(.d (.bool false)), (.d (.bool false)), (.d (.bool false)), (.d (.bool false))] []), qn (.store 4 (.t 2) (.t 8)), qo 3 (.asg (.c (.d (.bool false))))]
def Jq6v (p : Nums) : IC := (.region (Jq75 p) [])
@[simp] theorem Je6v {p : Nums} : EqI (Jq6v p) (.region (Jq75 p) []) := eqi
@[simp] def Jq76 (p : Nums) : List IOp := [qo 10 (.mov (.t 0)), qo 11 (.bin .eql (.t 10) (ci 1)), qo 9 (.asg (.t 11))]
def Jq6w (p : Nums) : IC := (.region (Jq76 p) [])
@[simp] theorem Je6w {p : Nums} : EqI (Jq6w p) (.region (Jq76 p) []) := eqi
@[simp] def Jq77 (p : Nums) : List IOp := [qo 12 (.build [(.d (.bool false)), (.d (.bool false)), (.d (.bool false)), (.d (.bool false))] [(0, 1, (.c (.d (.bool true)))), (3, 1, (.c (.d (.bool true))))]), qn (.store 4 (.t 2) (.t 12)), qo 3 (.asg (.c (.d (.bool true))))]
def Jq6x (p : Nums) : IC := (.region (Jq77 p) [])
@[simp] theorem Je6x {p : Nums} : EqI (Jq6x p) (.region (Jq77 p) []) := eqi
@[simp] def Jq78 (p : Nums) : List IOp := [qo 14 (.mov (.t 0)), qo 15 (.bin .leq (.t 14) (ci 4)), qo 13 (.asg (.t 15))]
def Jq6y (p : Nums) : IC := (.region (Jq78 p) [])
@[simp] theorem Je6y {p : Nums} : EqI (Jq6y p) (.region (Jq78 p) []) := eqi
@[simp] def Jq79 (p : Nums) : List IOp := [qo 16 (.build [(.d (.bool false)), (.d (.bool false)), (.d (.bool false)), (.d (.bool false))] [(0, 1, (.c (.d (.bool true)))), (1, 1, (.c (.d (.bool true))))]), qn (.store 4 (.t 2) (.t 16)), qo 3 (.asg (.c (.d (.bool true))))]
def Jq6z (p : Nums) : IC := (.region (Jq79 p) [])
@[simp] theorem Je6z {p : Nums} : EqI (Jq6z p) (.region (Jq79 p) []) := eqi
@[simp] def Jq7a (p : Nums) : List IOp := [qo 18 (.mov (.t 0)), qo 19 (.bin .leq (.t 18) (ci 16)), qo 17 (.asg (.t 19))]
def Jq70 (p : Nums) : IC := (.region (Jq7a p) [])
@[simp] theorem Je70 {p : Nums} : EqI (Jq70 p) (.region (Jq7a p) []) := eqi
@[simp] def Jq7b (p : Nums) : List IOp := [qo 20 (.build [(.d (.bool false)), (.d (.bool false)), (.d (.bool false)), (.d (.bool false))] [(0, 1, (.c (.d (.bool true)))), (1, 1, (.c (.d (.bool true)))), (2, 1, (.c (.d (.bool true))))]), qn (.store 4 (.t 2) (.t 20)), qo 3 (.asg (.c (.d (.bool true))))]
def Jq71 (p : Nums) : IC := (.region (Jq7b p) [])
@[simp] theorem Je71 {p : Nums} : EqI (Jq71 p) (.region (Jq7b p) []) := eqi
def Jq6p (p : Nums) : IC := (.seq (Jq70 p) (.cond (.t 17) (.seq (Jq71 p) .ret) .skip))
@[simp] theorem Je6p {p : Nums} : EqI (Jq6p p) (.seq (Jq70 p) (.cond (.t 17) (.seq (Jq71 p) .ret) .skip)) := eqi
def Jq6q (p : Nums) : IC := (.seq (Jq6y p) (.cond (.t 13) (.seq (Jq6z p) .ret) (Jq6p p)))
@[simp] theorem Je6q {p : Nums} : EqI (Jq6q p) (.seq (Jq6y p) (.cond (.t 13) (.seq (Jq6z p) .ret) (Jq6p p))) := eqi
def Jq6r (p : Nums) : IC := (.seq (Jq6w p) (.cond (.t 9) (.seq (Jq6x p) .ret) (Jq6q p)))
@[simp] theorem Je6r {p : Nums} : EqI (Jq6r p) (.seq (Jq6w p) (.cond (.t 9) (.seq (Jq6x p) .ret) (Jq6q p))) := eqi
def Jq6s (p : Nums) : IC := (.seq (Jq6u p) (.cond (.t 4) (.seq (Jq6v p) .ret) (Jq6r p)))
@[simp] theorem Je6s {p : Nums} : EqI (Jq6s p) (.seq (Jq6u p) (.cond (.t 4) (.seq (Jq6v p) .ret) (Jq6r p))) := eqi
@[simp] def Jq73 (p : Nums) : List IOp := [qo 21 (.mov (.t 0)), qo 22 (.bin .eql (.t 21) (ci 17)), qo 23 (.build [(.d (.bool false)), (.d (.bool false)), (.d (.bool false)), (.d (.bool false))] [(1, 1, (.t 22))]), qn (.store 4 (.t 2) (.t 23)), qo 3 (.asg (.c (.d (.bool true))))]
def Jq6t (p : Nums) : IC := (.region (Jq73 p) [])
@[simp] theorem Je6t {p : Nums} : EqI (Jq6t p) (.region (Jq73 p) []) := eqi
def Jtaz (p : Nums) : IC := (.seq (Jq6o p) (.seq (.block 0 (Jq6s p)) (.seq (Jq6t p) .ret)))
@[simp] def Jqg6 (p : Nums) : List IOp := [qo 2 (.alloc [(zi 0), (zi 0), (zi 0), (zi 0), (zi 0), (zi 0), (zi 0)])]
def Jqg4 (p : Nums) : IC := (.region (Jqg6 p) [])
@[simp] theorem Jeg4 {p : Nums} : EqI (Jqg4 p) (.region (Jqg6 p) []) := eqi
@[simp] def Jqg7 (p : Nums) : List IOp := [qo 3 (.mov (.t 0)), qo 4 (.call p.location_Slot [(.t 3)]), qo 5 (.call p.location_Reg [(ci 0)]), qo 6 (.build [(zi 0), (zi 0), (zi 0), (zi 0), (zi 0), (zi 0), (zi 0)] [(0, 1, (ci 18)), (5, 1, (.t 4)), (6, 1, (.t 5))]), qn (.store 7 (.t 2) (.t 6))]
def Jqg5 (p : Nums) : IC := (.region (Jqg7 p) [])
@[simp] theorem Jeg5 {p : Nums} : EqI (Jqg5 p) (.region (Jqg7 p) []) := eqi
def Jtbs (p : Nums) : IC := (.seq (Jqg4 p) (.seq (Jqg5 p) .ret))
@[simp] def Jq6l (p : Nums) : List IOp := [qo 3 (.mov (.t 0)), qo 4 (.bin .mul (ci 2) (.t 3)), qo 2 (.asg (.t 4))]
def Jq6k (p : Nums) : IC := (.region (Jq6l p) [])
@[simp] theorem Je6k {p : Nums} : EqI (Jq6k p) (.region (Jq6l p) []) := eqi
def Jtax (p : Nums) : IC := (.seq (.region [⟨(some 2), (.asg (.c (.d (.int .i64 0)))), none, false⟩] []) (.seq (Jq6k p) .ret))
@[simp] def Jq7d (p : Nums) : List IOp := [qo 3 (.mov (.t 0)), qo 4 (.call p.opcode_known [(.t 3)]), qo 5 (.mov (.t 4)), ⟨(some 6), (.mov (.t 0)), (some (5, true)), false⟩, ⟨(some 7), (.bin .neq (.t 6) (ci 18)), (some (5, true)), false⟩, qo 8 (.pick (.t 5) (.t 7) (.c (.d (.bool false)))), qo 2 (.asg (.t 8))]
def Jq7c (p : Nums) : IC := (.region (Jq7d p) [])
@[simp] theorem Je7c {p : Nums} : EqI (Jq7c p) (.region (Jq7d p) []) := eqi
def Jtb0 (p : Nums) : IC := (.seq (.region [⟨(some 2), (.asg (.c (.d (.bool false)))), none, false⟩] []) (.seq (Jq7c p) .ret))
@[simp] def Jqda (p : Nums) : List IOp := [qo 5 (.mov (.t 0)), qo 6 (.len (.t 5)), qo 7 (.mov (ci 0))]
def Jqd4 (p : Nums) : IC := (.region (Jqda p) [])
@[simp] theorem Jed4 {p : Nums} : EqI (Jqd4 p) (.region (Jqda p) []) := eqi
@[simp] def Jqdb (p : Nums) : List IOp := [qo 9 (.iaddr 3 (.t 5) (.t 7)), qo 10 (.load (some 3) (.t 9)), qo 4 (.alloc [(zi 0), (.d (.bool false)), (zi 0)]), qn (.store 3 (.t 4) (.t 10))]
def Jqd5 (p : Nums) : IC := (.region (Jqdb p) [])
@[simp] theorem Jed5 {p : Nums} : EqI (Jqd5 p) (.region (Jqdb p) []) := eqi
@[simp] def Jqdc (p : Nums) : List IOp := [qo 11 (.faddr 1 (.t 4)), qo 12 (.load none (.t 11)), qo 13 (.mov (.t 12)), ⟨(some 14), (.faddr 0 (.t 4)), (some (13, true)), false⟩, ⟨(some 15), (.load none (.t 14)), (some (13, true)), false⟩, ⟨(some 16), (.bin .lss (.t 15) (ci 0)), (some (13, true)), false⟩, ⟨(some 17), (.mov (.t 16)), (some (13, true)), false⟩, ⟨(some 18), (.faddr 0 (.t 4)), (some (17, false)), false⟩, ⟨(some 19), (.load none (.t 18)), (some (17, false)), false⟩, ⟨(some 20), (.faddr 2 (.t 4)), (some (17, false)), false⟩, ⟨(some 21), (.load none (.t 20)), (some (17, false)), false⟩, ⟨(some 22), (.bin .geq (.t 19) (.t 21)), (some (17, false)), false⟩, ⟨(some 23), (.pick (.t 17) (.c (.d (.bool true))) (.t 22)), (some (13, true)), false⟩, qo 24 (.pick (.t 13) (.t 23) (.c (.d (.bool false))))]
def Jqd6 (p : Nums) : IC := (.region (Jqdc p) [])
@[simp] theorem Jed6 {p : Nums} : EqI (Jqd6 p) (.region (Jqdc p) []) := eqi
def Jqd7 (p : Nums) : IC := (.seq (.region [⟨(some 2), (.asg (.c (.d (.bool false)))), none, false⟩] []) .ret)
@[simp] theorem Jed7 {p : Nums} : EqI (Jqd7 p) (.seq (.region [⟨(some 2), (.asg (.c (.d (.bool false)))), none, false⟩] []) .ret) := eqi
def Jqd8 (p : Nums) : IC := (.seq (Jqd5 p) (.seq (Jqd6 p) (.cond (.t 24) (Jqd7 p) .skip)))
@[simp] theorem Jed8 {p : Nums} : EqI (Jqd8 p) (.seq (Jqd5 p) (.seq (Jqd6 p) (.cond (.t 24) (Jqd7 p) .skip))) := eqi
def Jqd9 (p : Nums) : IC := (.seq (.region [⟨(some 8), (.bin .lss (.t 7) (.t 6)), none, false⟩] []) (.seq (.cond (.t 8) .skip (.exit 0)) (.seq (.block 1 (Jqd8 p)) (.region [⟨(some 25), (.bin .add (.t 7) (.c (.d (.int .i64 1)))), none, false⟩, ⟨(some 7), (.mov (.t 25)), none, false⟩] []))))
@[simp] theorem Jed9 {p : Nums} : EqI (Jqd9 p) (.seq (.region [⟨(some 8), (.bin .lss (.t 7) (.t 6)), none, false⟩] []) (.seq (.cond (.t 8) .skip (.exit 0)) (.seq (.block 1 (Jqd8 p)) (.region [⟨(some 25), (.bin .add (.t 7) (.c (.d (.int .i64 1)))), none, false⟩, ⟨(some 7), (.mov (.t 25)), none, false⟩] [])))) := eqi
def Jtbk (p : Nums) : IC := (.seq (.region [⟨(some 2), (.asg (.c (.d (.bool false)))), none, false⟩] []) (.seq (.seq (Jqd4 p) (.block 0 (.loop (Jqd9 p)))) (.seq (.region [⟨(some 2), (.asg (.c (.d (.bool true)))), none, false⟩] []) .ret)))
@[simp] def Jqcq (p : Nums) : List IOp := [qo 5 (.mov (.t 0)), qo 6 (.len (.t 5)), qo 7 (.mov (ci 0))]
def Jqck (p : Nums) : IC := (.region (Jqcq p) [])
@[simp] theorem Jeck {p : Nums} : EqI (Jqck p) (.region (Jqcq p) []) := eqi
@[simp] def Jqcr (p : Nums) : List IOp := [qo 9 (.iaddr 3 (.t 5) (.t 7)), qo 10 (.load (some 3) (.t 9)), qo 4 (.alloc [(zi 0), (.d (.bool false)), (zi 0)]), qn (.store 3 (.t 4) (.t 10))]
def Jqcl (p : Nums) : IC := (.region (Jqcr p) [])
@[simp] theorem Jecl {p : Nums} : EqI (Jqcl p) (.region (Jqcr p) []) := eqi
@[simp] def Jqcs (p : Nums) : List IOp := [qo 11 (.faddr 1 (.t 4)), qo 12 (.load none (.t 11)), qo 13 (.un .not (.t 12)), qo 14 (.mov (.t 13)), ⟨(some 15), (.faddr 0 (.t 4)), (some (14, true)), false⟩, ⟨(some 16), (.load none (.t 15)), (some (14, true)), false⟩, ⟨(some 17), (.bin .neq (.t 16) (ci 0)), (some (14, true)), false⟩, qo 18 (.pick (.t 14) (.t 17) (.c (.d (.bool false))))]
def Jqcm (p : Nums) : IC := (.region (Jqcs p) [])
@[simp] theorem Jecm {p : Nums} : EqI (Jqcm p) (.region (Jqcs p) []) := eqi
def Jqcn (p : Nums) : IC := (.seq (.region [⟨(some 2), (.asg (.c (.d (.bool false)))), none, false⟩] []) .ret)
@[simp] theorem Jecn {p : Nums} : EqI (Jqcn p) (.seq (.region [⟨(some 2), (.asg (.c (.d (.bool false)))), none, false⟩] []) .ret) := eqi
def Jqco (p : Nums) : IC := (.seq (Jqcl p) (.seq (Jqcm p) (.cond (.t 18) (Jqcn p) .skip)))
@[simp] theorem Jeco {p : Nums} : EqI (Jqco p) (.seq (Jqcl p) (.seq (Jqcm p) (.cond (.t 18) (Jqcn p) .skip))) := eqi
def Jqcp (p : Nums) : IC := (.seq (.region [⟨(some 8), (.bin .lss (.t 7) (.t 6)), none, false⟩] []) (.seq (.cond (.t 8) .skip (.exit 0)) (.seq (.block 1 (Jqco p)) (.region [⟨(some 19), (.bin .add (.t 7) (.c (.d (.int .i64 1)))), none, false⟩, ⟨(some 7), (.mov (.t 19)), none, false⟩] []))))
@[simp] theorem Jecp {p : Nums} : EqI (Jqcp p) (.seq (.region [⟨(some 8), (.bin .lss (.t 7) (.t 6)), none, false⟩] []) (.seq (.cond (.t 8) .skip (.exit 0)) (.seq (.block 1 (Jqco p)) (.region [⟨(some 19), (.bin .add (.t 7) (.c (.d (.int .i64 1)))), none, false⟩, ⟨(some 7), (.mov (.t 19)), none, false⟩] [])))) := eqi
def Jtbi (p : Nums) : IC := (.seq (.region [⟨(some 2), (.asg (.c (.d (.bool false)))), none, false⟩] []) (.seq (.seq (Jqck p) (.block 0 (.loop (Jqcp p)))) (.seq (.region [⟨(some 2), (.asg (.c (.d (.bool true)))), none, false⟩] []) .ret)))
@[simp] def Jq6j (p : Nums) : List IOp := [qo 3 (.mov (.t 0)), qo 4 (.bin .rem (.t 3) (ci 2)), qo 5 (.bin .eql (.t 4) (ci 1)), qo 2 (.asg (.t 5))]
def Jq6i (p : Nums) : IC := (.region (Jq6j p) [])
@[simp] theorem Je6i {p : Nums} : EqI (Jq6i p) (.region (Jq6j p) []) := eqi
def Jtaw (p : Nums) : IC := (.seq (.region [⟨(some 2), (.asg (.c (.d (.bool false)))), none, false⟩] []) (.seq (Jq6i p) .ret))
@[simp] def Jq6h (p : Nums) : List IOp := [qo 3 (.mov (.t 0)), qo 4 (.bin .quo (.t 3) (ci 2)), qo 2 (.asg (.t 4))]
def Jq6g (p : Nums) : IC := (.region (Jq6h p) [])
@[simp] theorem Je6g {p : Nums} : EqI (Jq6g p) (.region (Jq6h p) []) := eqi
def Jtav (p : Nums) : IC := (.seq (.region [⟨(some 2), (.asg (.c (.d (.int .i64 0)))), none, false⟩] []) (.seq (Jq6g p) .ret))
@[simp] def Jqc (p : Nums) : List IOp := [qo 15 (.mov (.t 3)), qo 8 (.asg (.t 15)), qo 9 (.asg (.c (.d (.bool true))))]
def Jq0 (p : Nums) : IC := (.region (Jqc p) [])
@[simp] theorem Je0 {p : Nums} : EqI (Jq0 p) (.region (Jqc p) []) := eqi
@[simp] def Jqf (p : Nums) : List IOp := [qo 18 (.mov (.t 1)), qo 8 (.asg (.t 18)), qo 9 (.asg (.c (.d (.bool true))))]
def Jq4 (p : Nums) : IC := (.region (Jqf p) [])
@[simp] theorem Je4 {p : Nums} : EqI (Jq4 p) (.region (Jqf p) []) := eqi
@[simp] def Jqg (p : Nums) : List IOp := [qo 21 (.mov (.t 1)), qo 22 (.un .neg (.t 21)), qo 8 (.asg (.t 22)), qo 9 (.asg (.c (.d (.bool true))))]
def Jq5 (p : Nums) : IC := (.region (Jqg p) [])
@[simp] theorem Je5 {p : Nums} : EqI (Jq5 p) (.region (Jqg p) []) := eqi
@[simp] def Jqh (p : Nums) : List IOp := [qo 25 (.mov (.t 1)), qo 26 (.un .xor (.t 25)), qo 8 (.asg (.t 26)), qo 9 (.asg (.c (.d (.bool true))))]
def Jq6 (p : Nums) : IC := (.region (Jqh p) [])
@[simp] theorem Je6 {p : Nums} : EqI (Jq6 p) (.region (Jqh p) []) := eqi
def Jq7 (p : Nums) : IC := (.seq (.region [⟨(some 24), (.bin .eql (.t 12) (.c (.d (.int .i64 4)))), none, false⟩, ⟨(some 23), (.asg (.t 24)), none, false⟩] []) (.cond (.t 23) (.seq (Jq6 p) .ret) .skip))
@[simp] theorem Je7 {p : Nums} : EqI (Jq7 p) (.seq (.region [⟨(some 24), (.bin .eql (.t 12) (.c (.d (.int .i64 4)))), none, false⟩, ⟨(some 23), (.asg (.t 24)), none, false⟩] []) (.cond (.t 23) (.seq (Jq6 p) .ret) .skip)) := eqi
def Jq8 (p : Nums) : IC := (.seq (.region [⟨(some 20), (.bin .eql (.t 12) (.c (.d (.int .i64 3)))), none, false⟩, ⟨(some 19), (.asg (.t 20)), none, false⟩] []) (.cond (.t 19) (.seq (Jq5 p) .ret) (Jq7 p)))
@[simp] theorem Je8 {p : Nums} : EqI (Jq8 p) (.seq (.region [⟨(some 20), (.bin .eql (.t 12) (.c (.d (.int .i64 3)))), none, false⟩, ⟨(some 19), (.asg (.t 20)), none, false⟩] []) (.cond (.t 19) (.seq (Jq5 p) .ret) (Jq7 p))) := eqi
def Jq9 (p : Nums) : IC := (.seq (.region [⟨(some 17), (.bin .eql (.t 12) (.c (.d (.int .i64 2)))), none, false⟩, ⟨(some 16), (.asg (.t 17)), none, false⟩] []) (.cond (.t 16) (.seq (Jq4 p) .ret) (Jq8 p)))
@[simp] theorem Je9 {p : Nums} : EqI (Jq9 p) (.seq (.region [⟨(some 17), (.bin .eql (.t 12) (.c (.d (.int .i64 2)))), none, false⟩, ⟨(some 16), (.asg (.t 17)), none, false⟩] []) (.cond (.t 16) (.seq (Jq4 p) .ret) (Jq8 p))) := eqi
def Jqa (p : Nums) : IC := (.seq (.region [⟨(some 14), (.bin .eql (.t 12) (.c (.d (.int .i64 1)))), none, false⟩, ⟨(some 13), (.asg (.t 14)), none, false⟩] []) (.cond (.t 13) (.seq (Jq0 p) .ret) (Jq9 p)))
@[simp] theorem Jea {p : Nums} : EqI (Jqa p) (.seq (.region [⟨(some 14), (.bin .eql (.t 12) (.c (.d (.int .i64 1)))), none, false⟩, ⟨(some 13), (.asg (.t 14)), none, false⟩] []) (.cond (.t 13) (.seq (Jq0 p) .ret) (Jq9 p))) := eqi
@[simp] def Jqi (p : Nums) : List IOp := [qo 28 (.mov (.t 0)), qo 29 (.call p.alu_operation [(.t 28)]), qo 27 (.mov (.t 29)), qo 30 (.ext (.t 27) 0), qo 31 (.ext (.t 27) 1), qo 10 (.alloc [.nilfn, (.d (.bool false))]), qn (.store 2 (.t 10) (.t 30)), qo 11 (.asg (.t 31))]
def Jqb (p : Nums) : IC := (.region (Jqi p) [])
@[simp] theorem Jeb {p : Nums} : EqI (Jqb p) (.region (Jqi p) []) := eqi
@[simp] def Jqd (p : Nums) : List IOp := [qo 32 (.mov (.t 11)), qo 33 (.un .not (.t 32)), qo 34 (.mov (.t 33)), ⟨(some 35), (.faddr 1 (.t 10)), (some (34, false)), false⟩, ⟨(some 36), (.load none (.t 35)), (some (34, false)), false⟩, ⟨(some 37), (.mov (.t 36)), (some (34, false)), false⟩, ⟨(some 38), (.mov (.t 2)), (some (37, true)), false⟩, ⟨(some 39), (.bin .eql (.t 38) (ci 0)), (some (37, true)), false⟩, ⟨(some 40), (.pick (.t 37) (.t 39) (.c (.d (.bool false)))), (some (34, false)), false⟩, qo 41 (.pick (.t 34) (.c (.d (.bool true))) (.t 40))]
def Jq1 (p : Nums) : IC := (.region (Jqd p) [])
@[simp] theorem Je1 {p : Nums} : EqI (Jq1 p) (.region (Jqd p) []) := eqi
def Jq2 (p : Nums) : IC := (.seq (.region [⟨(some 8), (.asg (.c (.d (.int .i64 0)))), none, false⟩, ⟨(some 9), (.asg (.c (.d (.bool false)))), none, false⟩] []) .ret)
@[simp] theorem Je2 {p : Nums} : EqI (Jq2 p) (.seq (.region [⟨(some 8), (.asg (.c (.d (.int .i64 0)))), none, false⟩, ⟨(some 9), (.asg (.c (.d (.bool false)))), none, false⟩] []) .ret) := eqi
@[simp] def Jqe (p : Nums) : List IOp := [qo 42 (.faddr 0 (.t 10)), qo 43 (.load none (.t 42)), qo 44 (.mov (.t 1)), qo 45 (.mov (.t 2)), qo 46 (.callv (.t 43) [(.t 44), (.t 45)]), qo 8 (.asg (.t 46)), qo 9 (.asg (.c (.d (.bool true))))]
def Jq3 (p : Nums) : IC := (.region (Jqe p) [])
@[simp] theorem Je3 {p : Nums} : EqI (Jq3 p) (.region (Jqe p) []) := eqi
def Jta0 (p : Nums) : IC := (.seq (.region [⟨(some 8), (.asg (.c (.d (.int .i64 0)))), none, false⟩, ⟨(some 9), (.asg (.c (.d (.bool false)))), none, false⟩] []) (.seq (.seq (.region [⟨(some 12), (.mov (.t 0)), none, false⟩] []) (.block 0 (Jqa p))) (.seq (Jqb p) (.seq (.seq (Jq1 p) (.cond (.t 41) (Jq2 p) .skip)) (.seq (Jq3 p) .ret)))))
@[simp] def Jq2s (p : Nums) : List IOp := [qp 8 (.faddr 0 (.t 3)), qp 9 (.load none (.t 8)), qp 10 (.mov (.t 0)), qp 11 (.nilck (.t 10)), qp 12 (.faddr 0 (.t 11)), qp 13 (.faddr 4 (.t 12)), qp 14 (.load none (.t 13)), qp 15 (.faddr 2 (.t 3)), qp 16 (.load none (.t 15)), qp 17 (.iaddr 1 (.t 14) (.t 16)), qp 18 (.load none (.t 17)), qp 19 (.mov (.t 0)), qp 20 (.nilck (.t 19)), qp 21 (.faddr 0 (.t 20)), qp 22 (.faddr 4 (.t 21)), qp 23 (.load none (.t 22)), qp 24 (.faddr 3 (.t 3)), qp 25 (.load none (.t 24)), qp 26 (.iaddr 1 (.t 23) (.t 25)), qp 27 (.load none (.t 26)), qp 28 (.faddr 4 (.t 3)), qp 29 (.load none (.t 28)), qo 30 (.call p.alu_Eval [(.t 9), (.t 18), (.t 27), (.t 29)]), qo 7 (.mov (.t 30)), qp 31 (.ext (.t 7) 0), qp 32 (.ext (.t 7) 1), qp 5 (.asg (.t 31)), qo 6 (.asg (.t 32))]
def Jq2q (p : Nums) : IC := (.region (Jq2s p) [])
@[simp] theorem Je2q {p : Nums} : EqI (Jq2q p) (.region (Jq2s p) []) := eqi
@[simp] def Jq2t (p : Nums) : List IOp := [qp 34 (.mov (.t 0)), qp 35 (.nilck (.t 34)), qp 36 (.faddr 0 (.t 35)), qp 37 (.faddr 4 (.t 36)), qp 38 (.load none (.t 37)), qp 39 (.faddr 1 (.t 3)), qp 40 (.load none (.t 39)), qp 41 (.mov (.t 5)), qo 42 (.iaddr 1 (.t 38) (.t 40)), qn (.store 1 (.t 42) (.t 41))]
def Jq2r (p : Nums) : IC := (.region (Jq2t p) [])
@[simp] theorem Je2r {p : Nums} : EqI (Jq2r p) (.region (Jq2t p) []) := eqi
def Jtai (p : Nums) : IC := (.seq (.region [⟨(some 3), (.box (.t 1)), none, false⟩, ⟨(some 4), (.asg (.c (.d (.bool false)))), none, false⟩] []) (.seq (Jq2q p) (.seq (.seq (.region [⟨(some 33), (.mov (.t 6)), none, false⟩] []) (.cond (.t 33) (Jq2r p) .skip)) (.seq (.region [⟨(some 43), (.mov (.t 6)), none, false⟩, ⟨(some 4), (.asg (.t 43)), none, false⟩] []) .ret))))
def Jtal (p : Nums) : IC := (.seq (.region [⟨(some 3), (.box (.t 1)), none, false⟩, ⟨(some 4), (.asg (.c (.d (.bool false)))), none, false⟩] []) (.seq (.tree (.step ⟨(some 5), (.mov (.t 0)), none, false⟩ (.step ⟨(some 6), (.faddr 5 (.t 3)), none, false⟩ (.step ⟨(some 9), (.mov (.t 0)), none, false⟩ (.step ⟨(some 10), (.faddr 6 (.t 3)), none, false⟩ (.alt (.step ⟨(some 7), (.load none (.t 6)), none, false⟩ (.alt (.step ⟨(some 8), (.call p.execute_state_at [(.t 5), (.t 7)]), none, false⟩ (.step ⟨(some 11), (.load none (.t 10)), none, false⟩ (.step ⟨(some 12), (.call p.execute_state_at [(.t 9), (.t 11)]), none, false⟩ (.step ⟨(some 13), (.nilck (.t 12)), none, false⟩ (.step ⟨(some 14), (.load none (.t 13)), none, false⟩ (.step ⟨(some 15), (.nilck (.t 8)), none, false⟩ (.step ⟨none, (.store 1 (.t 15) (.t 14)), none, false⟩ .done))))))) (.step ⟨(some 11), (.load none (.t 10)), none, false⟩ (.step ⟨(some 8), (.call p.execute_state_at [(.t 5), (.t 7)]), none, false⟩ (.step ⟨(some 12), (.call p.execute_state_at [(.t 9), (.t 11)]), none, false⟩ (.step ⟨(some 13), (.nilck (.t 12)), none, false⟩ (.step ⟨(some 14), (.load none (.t 13)), none, false⟩ (.step ⟨(some 15), (.nilck (.t 8)), none, false⟩ (.step ⟨none, (.store 1 (.t 15) (.t 14)), none, false⟩ .done))))))))) (.step ⟨(some 11), (.load none (.t 10)), none, false⟩ (.step ⟨(some 7), (.load none (.t 6)), none, false⟩ (.step ⟨(some 8), (.call p.execute_state_at [(.t 5), (.t 7)]), none, false⟩ (.step ⟨(some 12), (.call p.execute_state_at [(.t 9), (.t 11)]), none, false⟩ (.step ⟨(some 13), (.nilck (.t 12)), none, false⟩ (.step ⟨(some 14), (.load none (.t 13)), none, false⟩ (.step ⟨(some 15), (.nilck (.t 8)), none, false⟩ (.step ⟨none, (.store 1 (.t 15) (.t 14)), none, false⟩ .done)))))))))))))) (.seq (.region [⟨(some 4), (.asg (.c (.d (.bool true)))), none, false⟩] []) .ret)))
@[simp] def Jq2v (p : Nums) : List IOp := [qo 5 (.mov (.t 0)), qp 6 (.mov (.t 0)), qp 7 (.nilck (.t 6)), qp 8 (.faddr 0 (.t 7)), qp 9 (.faddr 6 (.t 8)), qp 10 (.load none (.t 9)), qp 11 (.mov (.t 0)), qp 12 (.nilck (.t 11)), qp 13 (.faddr 0 (.t 12)), qp 14 (.faddr 4 (.t 13)), qp 15 (.load none (.t 14)), qp 16 (.faddr 2 (.t 3)), qp 17 (.load none (.t 16)), qp 18 (.iaddr 1 (.t 15) (.t 17)), qp 19 (.load none (.t 18)), qp 20 (.bslice 1 1 [(.int .i64 0)] [(0, (.t 19))]), qo 21 (.app 1 8 (.t 10) (.t 20)), qo 22 (.nilck (.t 5)), qo 23 (.faddr 0 (.t 22)), qo 24 (.faddr 6 (.t 23)), qn (.store 1 (.t 24) (.t 21))]
def Jq2u (p : Nums) : IC := (.region (Jq2v p) [])
@[simp] theorem Je2u {p : Nums} : EqI (Jq2u p) (.region (Jq2v p) []) := eqi
def Jtaj (p : Nums) : IC := (.seq (.region [⟨(some 3), (.box (.t 1)), none, false⟩, ⟨(some 4), (.asg (.c (.d (.bool false)))), none, false⟩] []) (.seq (Jq2u p) (.seq (.region [⟨(some 4), (.asg (.c (.d (.bool true)))), none, false⟩] []) .ret)))
@[simp] def Jq7f (p : Nums) : List IOp := [qo 3 (.mov (.t 0)), qo 4 (.bin .geq (.t 3) (ci 1)), qo 5 (.mov (.t 4)), ⟨(some 6), (.mov (.t 0)), (some (5, true)), false⟩, ⟨(some 7), (.bin .leq (.t 6) (ci 18)), (some (5, true)), false⟩, qo 8 (.pick (.t 5) (.t 7) (.c (.d (.bool false)))), qo 2 (.asg (.t 8))]
def Jq7e (p : Nums) : IC := (.region (Jq7f p) [])
@[simp] theorem Je7e {p : Nums} : EqI (Jq7e p) (.region (Jq7f p) []) := eqi
def Jtb1 (p : Nums) : IC := (.seq (.region [⟨(some 2), (.asg (.c (.d (.bool false)))), none, false⟩] []) (.seq (Jq7e p) .ret))
@[simp] def Jq1b (p : Nums) : List IOp := [qo 5 (.build [.nilfn, (.d (.bool false))] [(0, 1, (.c (.fn (.func p.alu_operation_1) [] [])))]), qo 6 (.build [.nilfn, (.d (.bool false))] [(0, 1, (.c (.fn (.func p.alu_operation_2) [] [])))]), qo 7 (.build [.nilfn, (.d (.bool false))] [(0, 1, (.c (.fn (.func p.alu_operation_3) [] [])))]), qo 8 (.build [.nilfn, (.d (.bool false))] [(0, 1, (.c (.fn (.func p.alu_operation_4) [] []))), (1, 1, (.c (.d (.bool true))))]), qo 9 (.build [.nilfn, (.d (.bool false))] [(0, 1, (.c (.fn (.func p.alu_operation_5) [] []))), (1, 1, (.c (.d (.bool true))))]), qo 10 (.build [.nilfn, (.d (.bool false))] [(0, 1, (.c (.fn (.func p.alu_operation_6) [] [])))]), qo 11 (.build [.nilfn, (.d (.bool false))] [(0, 1, (.c (.fn (.func p.alu_operation_7) [] [])))]), qo 12 (.build [.nilfn, (.d (.bool false))] [(0, 1, (.c (.fn (.func p.alu_operation_8) [] [])))]), qo 13 (.build [.nilfn, (.d (.bool false))] [(0, 1, (.c (.fn (.func p.alu_operation_9) [] [])))]), qo 14 (.build [.nilfn, (.d (.bool false))] [(0, 1, (.c (.fn (.func p.alu_operation_10) [] [])))]), qo 15 (.build [.nilfn, (.d (.bool false))] [(0, 1, (.c (.fn (.func p.alu_operation_11) [] [])))]), qo 16 (.build [.nilfn, (.d (.bool false))] [(0, 1, (.c (.fn (.func p.alu_operation_12) [] [])))]), qo 17 (.build [.nilfn, (.d (.bool false)), .nilfn, (.d (.bool false)), .nilfn, (.d (.bool false)), .nilfn, (.d (.bool false)), .nilfn, (.d (.bool false)), .nilfn, (.d (.bool false)), .nilfn, (.d (.bool false)), .nilfn, (.d (.bool false)), .nilfn, (.d (.bool false)), .nilfn, (.d (.bool false)), .nilfn, (.d (.bool false)), .nilfn, (.d (.bool false)), .nilfn, (.d (.bool false)), .nilfn, (.d (.bool false)), .nilfn, (.d (.bool false)), .nilfn, (.d (.bool false)), .nilfn, (.d (.bool false))] [(10, 2, (.t 5)), (12, 2, (.t 6)), (14, 2, (.t 7)), (16, 2, (.t 8)), (18, 2, (.t 9)), (20, 2, (.t 10)), (22, 2, (.t 11)), (24, 2, (.t 12)), (26, 2, (.t 13)), (28, 2, (.t 14)), (30, 2, (.t 15)), (32, 2, (.t 16))]), qo 4 (.alloc [.nilfn, (.d (.bool false)), .nilfn, (.d (.bool false)), .nilfn, (.d (.bool false)), .nilfn, (.d (.bool false)), .nilfn, (.d (.bool false)), .nilfn, (.d (.bool false)), .nilfn, (.d (.bool false)), .nilfn, (.d (.bool false)), .nilfn, (.d (.bool false)), .nilfn, (.d (.bool false)), .nilfn, (.d (.bool false)), .nilfn, (.d (.bool false)), .nilfn, (.d (.bool false)), .nilfn, (.d (.bool false)), .nilfn, (.d (.bool false)), .nilfn, (.d (.bool false)), .nilfn, (.d (.bool false))]), qn (.store 34 (.t 4) (.t 17))]
def Jq17 (p : Nums) : IC := (.region (Jq1b p) [])
@[simp] theorem Je17 {p : Nums} : EqI (Jq17 p) (.region (Jq1b p) []) := eqi
@[simp] def Jq1c (p : Nums) : List IOp := [qo 18 (.mov (.t 0)), qo 19 (.bin .lss (.t 18) (ci 5)), qo 20 (.mov (.t 19)), ⟨(some 21), (.mov (.t 0)), (some (20, false)), false⟩, ⟨(some 22), (.bin .geq (.t 21) (ci 17)), (some (20, false)), false⟩, qo 23 (.pick (.t 20) (.c (.d (.bool true))) (.t 22))]
def Jq18 (p : Nums) : IC := (.region (Jq1c p) [])
@[simp] theorem Je18 {p : Nums} : EqI (Jq18 p) (.region (Jq1c p) []) := eqi
@[simp] def Jq1d (p : Nums) : List IOp := [qo 24 (.build [.nilfn, (.d (.bool false))] []), qn (.store 2 (.t 2) (.t 24)), qo 3 (.asg (.c (.d (.bool false))))]
def Jq19 (p : Nums) : IC := (.region (Jq1d p) [])
@[simp] theorem Je19 {p : Nums} : EqI (Jq19 p) (.region (Jq1d p) []) := eqi
@[simp] def Jq1e (p : Nums) : List IOp := [qo 25 (.mov (.t 0)), qo 26 (.iaddrA 17 2 (.t 4) (.t 25)), qo 27 (.load (some 2) (.t 26)), qn (.store 2 (.t 2) (.t 27)), qo 3 (.asg (.c (.d (.bool true))))]
def Jq1a (p : Nums) : IC := (.region (Jq1e p) [])
@[simp] theorem Je1a {p : Nums} : EqI (Jq1a p) (.region (Jq1e p) []) := eqi
def Jta1 (p : Nums) : IC := (.seq (.region [⟨(some 2), (.alloc [.nilfn, (.d (.bool false))]), none, false⟩, ⟨(some 3), (.asg (.c (.d (.bool false)))), none, false⟩] []) (.seq (Jq17 p) (.seq (.seq (Jq18 p) (.cond (.t 23) (.seq (Jq19 p) .ret) .skip)) (.seq (Jq1a p) .ret))))
@[simp] def Jq2o (p : Nums) : List IOp := [qp 7 (.mov (.t 0)), qp 8 (.nilck (.t 7)), qp 9 (.faddr 0 (.t 8)), qp 10 (.faddr 5 (.t 9)), qp 11 (.load none (.t 10)), qp 12 (.mov (.t 1)), qp 13 (.call p.location_Index [(.t 12)]), qo 14 (.iaddr 1 (.t 11) (.t 13)), qo 4 (.asg (.t 14))]
def Jq2m (p : Nums) : IC := (.region (Jq2o p) [])
@[simp] theorem Je2m {p : Nums} : EqI (Jq2m p) (.region (Jq2o p) []) := eqi
@[simp] def Jq2p (p : Nums) : List IOp := [qp 15 (.mov (.t 0)), qp 16 (.nilck (.t 15)), qp 17 (.faddr 0 (.t 16)), qp 18 (.faddr 4 (.t 17)), qp 19 (.load none (.t 18)), qp 20 (.mov (.t 1)), qp 21 (.call p.location_Index [(.t 20)]), qo 22 (.iaddr 1 (.t 19) (.t 21)), qo 4 (.asg (.t 22))]
def Jq2n (p : Nums) : IC := (.region (Jq2p p) [])
@[simp] theorem Je2n {p : Nums} : EqI (Jq2n p) (.region (Jq2p p) []) := eqi
def Jtah (p : Nums) : IC := (.seq (.region [⟨(some 4), (.asg (.c .nilp)), none, false⟩] []) (.seq (.seq (.region [⟨(some 5), (.mov (.t 1)), none, false⟩, ⟨(some 6), (.call p.location_IsSlot [(.t 5)]), none, false⟩] []) (.cond (.t 6) (.seq (Jq2m p) .ret) .skip)) (.seq (Jq2n p) .ret)))
@[simp] def Jqq (p : Nums) : List IOp := [qo 5 (.mov (.t 0)), qo 6 (.mov (.t 1)), qo 7 (.bin .add (.t 5) (.t 6)), qo 4 (.asg (.t 7))]
def Jqp (p : Nums) : IC := (.region (Jqq p) [])
@[simp] theorem Jep {p : Nums} : EqI (Jqp p) (.region (Jqq p) []) := eqi
def Jta2 (p : Nums) : IC := (.seq (.region [⟨(some 4), (.asg (.c (.d (.int .i64 0)))), none, false⟩] []) (.seq (Jqp p) .ret))
@[simp] def Jqs (p : Nums) : List IOp := [qo 5 (.mov (.t 0)), qo 6 (.mov (.t 1)), qo 7 (.bin .sub (.t 5) (.t 6)), qo 4 (.asg (.t 7))]
def Jqr (p : Nums) : IC := (.region (Jqs p) [])
@[simp] theorem Jer {p : Nums} : EqI (Jqr p) (.region (Jqs p) []) := eqi
def Jta6 (p : Nums) : IC := (.seq (.region [⟨(some 4), (.asg (.c (.d (.int .i64 0)))), none, false⟩] []) (.seq (Jqr p) .ret))
@[simp] def Jqu (p : Nums) : List IOp := [qo 5 (.mov (.t 0)), qo 6 (.mov (.t 1)), qo 7 (.bin .mul (.t 5) (.t 6)), qo 4 (.asg (.t 7))]
def Jqt (p : Nums) : IC := (.region (Jqu p) [])
@[simp] theorem Jet {p : Nums} : EqI (Jqt p) (.region (Jqu p) []) := eqi
def Jta7 (p : Nums) : IC := (.seq (.region [⟨(some 4), (.asg (.c (.d (.int .i64 0)))), none, false⟩] []) (.seq (Jqt p) .ret))
@[simp] def Jqw (p : Nums) : List IOp := [qo 5 (.mov (.t 0)), qo 6 (.mov (.t 1)), qo 7 (.bin .quo (.t 5) (.t 6)), qo 4 (.asg (.t 7))]
def Jqv (p : Nums) : IC := (.region (Jqw p) [])
@[simp] theorem Jev {p : Nums} : EqI (Jqv p) (.region (Jqw p) []) := eqi
def Jta8 (p : Nums) : IC := (.seq (.region [⟨(some 4), (.asg (.c (.d (.int .i64 0)))), none, false⟩] []) (.seq (Jqv p) .ret))
@[simp] def Jqy (p : Nums) : List IOp := [qo 5 (.mov (.t 0)), qo 6 (.mov (.t 1)), qo 7 (.bin .rem (.t 5) (.t 6)), qo 4 (.asg (.t 7))]
def Jqx (p : Nums) : IC := (.region (Jqy p) [])
@[simp] theorem Jex {p : Nums} : EqI (Jqx p) (.region (Jqy p) []) := eqi
def Jta9 (p : Nums) : IC := (.seq (.region [⟨(some 4), (.asg (.c (.d (.int .i64 0)))), none, false⟩] []) (.seq (Jqx p) .ret))
@[simp] def Jq10 (p : Nums) : List IOp := [qo 5 (.mov (.t 0)), qo 6 (.mov (.t 1)), qo 7 (.bin .and (.t 5) (.t 6)), qo 4 (.asg (.t 7))]
def Jqz (p : Nums) : IC := (.region (Jq10 p) [])
@[simp] theorem Jez {p : Nums} : EqI (Jqz p) (.region (Jq10 p) []) := eqi
def Jtaa (p : Nums) : IC := (.seq (.region [⟨(some 4), (.asg (.c (.d (.int .i64 0)))), none, false⟩] []) (.seq (Jqz p) .ret))
@[simp] def Jq12 (p : Nums) : List IOp := [qo 5 (.mov (.t 0)), qo 6 (.mov (.t 1)), qo 7 (.bin .or (.t 5) (.t 6)), qo 4 (.asg (.t 7))]
def Jq11 (p : Nums) : IC := (.region (Jq12 p) [])
@[simp] theorem Je11 {p : Nums} : EqI (Jq11 p) (.region (Jq12 p) []) := eqi
def Jtab (p : Nums) : IC := (.seq (.region [⟨(some 4), (.asg (.c (.d (.int .i64 0)))), none, false⟩] []) (.seq (Jq11 p) .ret))
@[simp] def Jq14 (p : Nums) : List IOp := [qo 5 (.mov (.t 0)), qo 6 (.mov (.t 1)), qo 7 (.bin .xor (.t 5) (.t 6)), qo 4 (.asg (.t 7))]
def Jq13 (p : Nums) : IC := (.region (Jq14 p) [])
@[simp] theorem Je13 {p : Nums} : EqI (Jq13 p) (.region (Jq14 p) []) := eqi
def Jtac (p : Nums) : IC := (.seq (.region [⟨(some 4), (.asg (.c (.d (.int .i64 0)))), none, false⟩] []) (.seq (Jq13 p) .ret))
@[simp] def Jq16 (p : Nums) : List IOp := [qo 5 (.mov (.t 0)), qo 6 (.mov (.t 1)), qo 7 (.bin .and (.t 6) (ci 63)), qo 8 (.conv .u64 (.t 7)), qo 9 (.bin .shl (.t 5) (.t 8)), qo 4 (.asg (.t 9))]
def Jq15 (p : Nums) : IC := (.region (Jq16 p) [])
@[simp] theorem Je15 {p : Nums} : EqI (Jq15 p) (.region (Jq16 p) []) := eqi
def Jtad (p : Nums) : IC := (.seq (.region [⟨(some 4), (.asg (.c (.d (.int .i64 0)))), none, false⟩] []) (.seq (Jq15 p) .ret))
@[simp] def Jqk (p : Nums) : List IOp := [qo 5 (.mov (.t 0)), qo 6 (.mov (.t 1)), qo 7 (.bin .and (.t 6) (ci 63)), qo 8 (.conv .u64 (.t 7)), qo 9 (.bin .shr (.t 5) (.t 8)), qo 4 (.asg (.t 9))]
def Jqj (p : Nums) : IC := (.region (Jqk p) [])
@[simp] theorem Jej {p : Nums} : EqI (Jqj p) (.region (Jqk p) []) := eqi
def Jta3 (p : Nums) : IC := (.seq (.region [⟨(some 4), (.asg (.c (.d (.int .i64 0)))), none, false⟩] []) (.seq (Jqj p) .ret))
@[simp] def Jqm (p : Nums) : List IOp := [qo 5 (.mov (.t 0)), qo 6 (.mov (.t 1)), qo 7 (.bin .eql (.t 5) (.t 6)), qo 8 (.call p.alu_truth [(.t 7)]), qo 4 (.asg (.t 8))]
def Jql (p : Nums) : IC := (.region (Jqm p) [])
@[simp] theorem Jel {p : Nums} : EqI (Jql p) (.region (Jqm p) []) := eqi
def Jta4 (p : Nums) : IC := (.seq (.region [⟨(some 4), (.asg (.c (.d (.int .i64 0)))), none, false⟩] []) (.seq (Jql p) .ret))
def Jq1f (p : Nums) : IC := (.seq (.region [⟨(some 2), (.asg (.c (.d (.int .i64 1)))), none, false⟩] []) .ret)
@[simp] theorem Je1f {p : Nums} : EqI (Jq1f p) (.seq (.region [⟨(some 2), (.asg (.c (.d (.int .i64 1)))), none, false⟩] []) .ret) := eqi
def Jtae (p : Nums) : IC := (.seq (.region [⟨(some 2), (.asg (.c (.d (.int .i64 0)))), none, false⟩] []) (.seq (.seq (.region [⟨(some 3), (.mov (.t 0)), none, false⟩] []) (.cond (.t 3) (Jq1f p) .skip)) (.seq (.region [⟨(some 2), (.asg (.c (.d (.int .i64 0)))), none, false⟩] []) .ret)))
@[simp] def Jqo (p : Nums) : List IOp := [qo 5 (.mov (.t 0)), qo 6 (.mov (.t 1)), qo 7 (.bin .lss (.t 5) (.t 6)), qo 8 (.call p.alu_truth [(.t 7)]), qo 4 (.asg (.t 8))]
def Jqn (p : Nums) : IC := (.region (Jqo p) [])
@[simp] theorem Jen {p : Nums} : EqI (Jqn p) (.region (Jqo p) []) := eqi
def Jta5 (p : Nums) : IC := (.seq (.region [⟨(some 4), (.asg (.c (.d (.int .i64 0)))), none, false⟩] []) (.seq (Jqn p) .ret))
@[simp] def Jqa6 (p : Nums) : List IOp := [qo 7 (.load (some 3) (.t 3)), qo 8 (.call p.ref07_Few [(.t 7)]), qo 9 (.mov (.t 8)), ⟨(some 10), (.load (some 3) (.t 3)), (some (9, true)), false⟩, ⟨(some 11), (.call p.ref07_Check [(.t 10)]), (some (9, true)), false⟩, ⟨(some 12), (.bin .eql (.t 11) (ci 0)), (some (9, true)), false⟩, qo 13 (.pick (.t 9) (.t 12) (.c (.d (.bool false)))), qo 14 (.mov (.t 13)), ⟨(some 15), (.mov (.t 2)), (some (14, true)), false⟩, ⟨(some 16), (.bin .leq (.t 15) (ci 400)), (some (14, true)), false⟩, qo 17 (.pick (.t 14) (.t 16) (.c (.d (.bool false)))), qo 18 (.mov (.t 17)), ⟨(some 19), (.mov (.t 1)), (some (18, true)), false⟩, ⟨(some 20), (.len (.t 19)), (some (18, true)), false⟩, ⟨(some 21), (.bin .leq (.t 20) (ci 100)), (some (18, true)), false⟩, qo 22 (.pick (.t 18) (.t 21) (.c (.d (.bool false)))), qo 6 (.asg (.t 22))]
def Jqa5 (p : Nums) : IC := (.region (Jqa6 p) [])
@[simp] theorem Jea5 {p : Nums} : EqI (Jqa5 p) (.region (Jqa6 p) []) := eqi
def Jtbb (p : Nums) : IC := (.seq (.region [⟨(some 3), (.box (.t 0)), none, false⟩, ⟨(some 6), (.asg (.c (.d (.bool false)))), none, false⟩] []) (.seq (Jqa5 p) .ret))
@[simp] def Jq5y (p : Nums) : List IOp := [qo 13 (.call p.law22_awake []), qo 14 (.un .not (.t 13)), qo 15 (.mov (.t 14)), ⟨(some 16), (.load (some 3) (.t 3)), (some (15, false)), false⟩, ⟨(some 17), (.mov (.t 1)), (some (15, false)), false⟩, ⟨(some 18), (.call p.ref09_Right [(.t 16), (.t 17), (ci 0)]), (some (15, false)), false⟩, ⟨(some 19), (.un .not (.t 18)), (some (15, false)), false⟩, qo 20 (.pick (.t 15) (.c (.d (.bool true))) (.t 19)), qo 21 (.mov (.t 20)), ⟨(some 22), (.mov (.t 1)), (some (21, false)), false⟩, ⟨(some 23), (.len (.t 22)), (some (21, false)), false⟩, ⟨(some 24), (.faddr 0 (.t 3)), (some (21, false)), false⟩, ⟨(some 25), (.load none (.t 24)), (some (21, false)), false⟩, ⟨(some 26), (.bin .neq (.t 23) (.t 25)), (some (21, false)), false⟩, qo 27 (.pick (.t 21) (.c (.d (.bool true))) (.t 26))]
def Jq5p (p : Nums) : IC := (.region (Jq5y p) [])
@[simp] theorem Je5p {p : Nums} : EqI (Jq5p p) (.region (Jq5y p) []) := eqi
def Jq5q (p : Nums) : IC := (.seq (.region [⟨(some 28), (.call p.law22_awake []), none, false⟩, ⟨(some 6), (.asg (.t 28)), none, false⟩] []) .ret)
@[simp] theorem Je5q {p : Nums} : EqI (Jq5q p) (.seq (.region [⟨(some 28), (.call p.law22_awake []), none, false⟩, ⟨(some 6), (.asg (.t 28)), none, false⟩] []) .ret) := eqi
@[simp] def Jq5z (p : Nums) : List IOp := [qo 30 (.load (some 3) (.t 3)), qo 31 (.call p.spillall_Cert [(.t 30)]), qo 29 (.mov (.t 31)), qo 32 (.ext (.t 29) 0), qo 33 (.ext (.t 29) 1), qo 7 (.alloc [(zi 0), (zi 0), .nils, (zi 0), (zi 0), (zi 0), .nils, .nils]), qn (.store 8 (.t 7) (.t 32)), qo 8 (.asg (.t 33))]
def Jq5r (p : Nums) : IC := (.region (Jq5z p) [])
@[simp] theorem Je5r {p : Nums} : EqI (Jq5r p) (.region (Jq5z p) []) := eqi
@[simp] def Jq60 (p : Nums) : List IOp := [qo 36 (.mov (.t 8)), qo 37 (.bin .eql (.t 36) (ci 15)), qo 6 (.asg (.t 37))]
def Jq5s (p : Nums) : IC := (.region (Jq60 p) [])
@[simp] theorem Je5s {p : Nums} : EqI (Jq5s p) (.region (Jq60 p) []) := eqi
@[simp] def Jq61 (p : Nums) : List IOp := [qo 39 (.load (some 3) (.t 3)), qo 40 (.mov (.t 1)), qo 41 (.mov (.t 2)), qo 42 (.conv .i64 (.t 41)), qo 43 (.call p.interp_Exec [(.t 39), (.t 40), (.t 42)]), qo 38 (.mov (.t 43)), qo 44 (.ext (.t 38) 0), qo 45 (.ext (.t 38) 1), qo 9 (.alloc [(zi 0), (zi 0), (zi 0), (zi 0), .nils, .nils, .nils, (zi 0)]), qn (.store 8 (.t 9) (.t 44)), qo 10 (.asg (.t 45))]
def Jq5t (p : Nums) : IC := (.region (Jq61 p) [])
@[simp] theorem Je5t {p : Nums} : EqI (Jq5t p) (.region (Jq61 p) []) := eqi
@[simp] def Jq62 (p : Nums) : List IOp := [qo 46 (.faddr 0 (.t 9)), qo 47 (.load none (.t 46)), qo 48 (.bin .neq (.t 47) (ci 1))]
def Jq5u (p : Nums) : IC := (.region (Jq62 p) [])
@[simp] theorem Je5u {p : Nums} : EqI (Jq5u p) (.region (Jq62 p) []) := eqi
def Jq5v (p : Nums) : IC := (.seq (.region [⟨(some 6), (.asg (.c (.d (.bool true)))), none, false⟩] []) .ret)
@[simp] theorem Je5v {p : Nums} : EqI (Jq5v p) (.seq (.region [⟨(some 6), (.asg (.c (.d (.bool true)))), none, false⟩] []) .ret) := eqi
@[simp] def Jq63 (p : Nums) : List IOp := [qo 50 (.faddr 3 (.t 7)), qo 51 (.load (some 4) (.t 50)), qo 52 (.mov (.t 1)), qo 53 (.faddr 7 (.t 9)), qo 54 (.load none (.t 53)), qo 55 (.bin .mul (ci 65) (.t 54)), qo 56 (.call p.execute_Exec [(.t 51), (.t 52), (.t 55)]), qo 49 (.mov (.t 56)), qo 57 (.ext (.t 49) 0), qo 58 (.ext (.t 49) 1), qo 11 (.alloc [(zi 0), (zi 0), (zi 0), (zi 0), .nils, .nils, .nils, (zi 0)]), qn (.store 8 (.t 11) (.t 57)), qo 12 (.asg (.t 58))]
def Jq5w (p : Nums) : IC := (.region (Jq63 p) [])
@[simp] theorem Je5w {p : Nums} : EqI (Jq5w p) (.region (Jq63 p) []) := eqi
@[simp] def Jq64 (p : Nums) : List IOp := [qo 59 (.faddr 0 (.t 11)), qo 60 (.load none (.t 59)), qo 61 (.bin .eql (.t 60) (ci 1)), qo 62 (.mov (.t 61)), ⟨(some 63), (.faddr 3 (.t 11)), (some (62, true)), false⟩, ⟨(some 64), (.load none (.t 63)), (some (62, true)), false⟩, ⟨(some 65), (.faddr 3 (.t 9)), (some (62, true)), false⟩, ⟨(some 66), (.load none (.t 65)), (some (62, true)), false⟩, ⟨(some 67), (.bin .eql (.t 64) (.t 66)), (some (62, true)), false⟩, qo 68 (.pick (.t 62) (.t 67) (.c (.d (.bool false)))), qo 69 (.mov (.t 68)), ⟨(some 70), (.faddr 1 (.t 11)), (some (69, true)), false⟩, ⟨(some 71), (.load none (.t 70)), (some (69, true)), false⟩, ⟨(some 72), (.faddr 1 (.t 9)), (some (69, true)), false⟩, ⟨(some 73), (.load none (.t 72)), (some (69, true)), false⟩, ⟨(some 74), (.bin .eql (.t 71) (.t 73)), (some (69, true)), false⟩, qo 75 (.pick (.t 69) (.t 74) (.c (.d (.bool false)))), qo 76 (.mov (.t 75)), ⟨(some 77), (.faddr 5 (.t 11)), (some (76, true)), false⟩, ⟨(some 78), (.load none (.t 77)), (some (76, true)), false⟩, ⟨(some 79), (.faddr 4 (.t 9)), (some (76, true)), false⟩, ⟨(some 80), (.load none (.t 79)), (some (76, true)), false⟩, ⟨(some 81), (.call p.ref09_Values [(.t 78), (.t 80)]), (some (76, true)), false⟩, qo 82 (.pick (.t 76) (.t 81) (.c (.d (.bool false)))), qo 83 (.mov (.t 82)), ⟨(some 84), (.faddr 6 (.t 11)), (some (83, true)), false⟩, ⟨(some 85), (.load none (.t 84)), (some (83, true)), false⟩, ⟨(some 86), (.faddr 6 (.t 9)), (some (83, true)), false⟩, ⟨(some 87), (.load none (.t 86)), (some (83, true)), false⟩, ⟨(some 88), (.call p.ref09_Values [(.t 85), (.t 87)]), (some (83, true)), false⟩, qo 89 (.pick (.t 83) (.t 88) (.c (.d (.bool false)))), qo 6 (.asg (.t 89))]
def Jq5x (p : Nums) : IC := (.region (Jq64 p) [])
@[simp] theorem Je5x {p : Nums} : EqI (Jq5x p) (.region (Jq64 p) []) := eqi
def Jtat (p : Nums) : IC := (.seq (.region [⟨(some 3), (.box (.t 0)), none, false⟩, ⟨(some 6), (.asg (.c (.d (.bool false)))), none, false⟩] []) (.seq (.seq (Jq5p p) (.cond (.t 27) (Jq5q p) .skip)) (.seq (Jq5r p) (.seq (.seq (.region [⟨(some 34), (.mov (.t 8)), none, false⟩, ⟨(some 35), (.bin .neq (.t 34) (.c (.d (.int .i64 0)))), none, false⟩] []) (.cond (.t 35) (.seq (Jq5s p) .ret) .skip)) (.seq (Jq5t p) (.seq (.seq (Jq5u p) (.cond (.t 48) (Jq5v p) .skip)) (.seq (Jq5w p) (.seq (Jq5x p) .ret))))))))
@[simp] def Jq1h (p : Nums) : List IOp := [qo 5 (.box (.t 1)), qo 6 (.box (.t 2)), qo 8 (.alloc [(zi 0)]), qo 9 (.alloc [(zi 0)])]
def Jq1g (p : Nums) : IC := (.region (Jq1h p) [])
@[simp] theorem Je1g {p : Nums} : EqI (Jq1g p) (.region (Jq1h p) []) := eqi
@[simp] def Jq1x (p : Nums) : List IOp := [qo 13 (.mov (.t 3)), qo 14 (.len (.t 13)), qo 15 (.mov (ci 0))]
def Jq1p (p : Nums) : IC := (.region (Jq1x p) [])
@[simp] theorem Je1p {p : Nums} : EqI (Jq1p p) (.region (Jq1x p) []) := eqi
@[simp] def Jq1y (p : Nums) : List IOp := [qo 17 (.iaddr 6 (.t 13) (.t 15)), qo 18 (.load (some 6) (.t 17)), qo 11 (.alloc [(zi 0), (zi 0), (zi 0), (zi 0), (zi 0), (zi 0)]), qn (.store 6 (.t 11) (.t 18))]
def Jq1q (p : Nums) : IC := (.region (Jq1y p) [])
@[simp] theorem Je1q {p : Nums} : EqI (Jq1q p) (.region (Jq1y p) []) := eqi
@[simp] def Jq1z (p : Nums) : List IOp := [qo 19 (.mov (.t 0)), qo 20 (.load (some 5) (.t 5)), qo 21 (.load (some 5) (.t 6)), qo 22 (.load (some 6) (.t 11)), qo 23 (.call p.blockcheck_checker_row [(.t 19), (.t 20), (.t 21), (.t 22)])]
def Jq1r (p : Nums) : IC := (.region (Jq1z p) [])
@[simp] theorem Je1r {p : Nums} : EqI (Jq1r p) (.region (Jq1z p) []) := eqi
def Jq1s (p : Nums) : IC := (.seq (Jq1q p) (Jq1r p))
@[simp] theorem Je1s {p : Nums} : EqI (Jq1s p) (.seq (Jq1q p) (Jq1r p)) := eqi
def Jq1t (p : Nums) : IC := (.seq (.region [⟨(some 16), (.bin .lss (.t 15) (.t 14)), none, false⟩] []) (.seq (.cond (.t 16) .skip (.exit 0)) (.seq (.block 1 (Jq1s p)) (.region [⟨(some 24), (.bin .add (.t 15) (.c (.d (.int .i64 1)))), none, false⟩, ⟨(some 15), (.mov (.t 24)), none, false⟩] []))))
@[simp] theorem Je1t {p : Nums} : EqI (Jq1t p) (.seq (.region [⟨(some 16), (.bin .lss (.t 15) (.t 14)), none, false⟩] []) (.seq (.cond (.t 16) .skip (.exit 0)) (.seq (.block 1 (Jq1s p)) (.region [⟨(some 24), (.bin .add (.t 15) (.c (.d (.int .i64 1)))), none, false⟩, ⟨(some 15), (.mov (.t 24)), none, false⟩] [])))) := eqi
@[simp] def Jq20 (p : Nums) : List IOp := [qo 25 (.faddr 1 (.t 5)), qo 26 (.faddr 0 (.t 25)), qo 27 (.load none (.t 26)), qo 28 (.bin .neq (.t 27) (ci 1))]
def Jq1u (p : Nums) : IC := (.region (Jq20 p) [])
@[simp] theorem Je1u {p : Nums} : EqI (Jq1u p) (.region (Jq20 p) []) := eqi
@[simp] def Jq21 (p : Nums) : List IOp := [qo 29 (.mov (.t 0)), qo 30 (.faddr 1 (.t 5)), qo 31 (.faddr 1 (.t 30)), qo 32 (.load none (.t 31)), qo 33 (.faddr 1 (.t 6)), qo 34 (.faddr 1 (.t 33)), qo 35 (.load none (.t 34)), qo 36 (.faddr 0 (.t 6)), qo 37 (.load none (.t 36)), qo 38 (.len (.t 37)), qo 39 (.call p.blockcheck_checker_use [(.t 29), (.t 32), (.t 35), (.t 38)])]
def Jq1v (p : Nums) : IC := (.region (Jq21 p) [])
@[simp] theorem Je1v {p : Nums} : EqI (Jq1v p) (.region (Jq21 p) []) := eqi
@[simp] def Jq22 (p : Nums) : List IOp := [qp 40 (.faddr 0 (.t 6)), qp 41 (.load none (.t 40)), qp 42 (.len (.t 41)), qm (.storeq 1 (.t 8) (ci 0) [(40, 1)]), qn (.store 1 (.t 9) (.t 42))]
def Jq1w (p : Nums) : IC := (.region (Jq22 p) [])
@[simp] theorem Je1w {p : Nums} : EqI (Jq1w p) (.region (Jq22 p) []) := eqi
@[simp] def Jq1m (p : Nums) : List IOp := [qo 9 (.mov (.t 2)), qo 10 (.tas p.ty_bcfail (.t 9)), qo 8 (.mov (.t 10)), qo 11 (.ext (.t 8) 0), qo 12 (.ext (.t 8) 1), qo 3 (.alloc [(zi 0), (zi 0)]), qn (.store 2 (.t 3) (.t 11)), qo 4 (.asg (.t 12))]
def Jq1i (p : Nums) : IC := (.region (Jq1m p) [])
@[simp] theorem Je1i {p : Nums} : EqI (Jq1i p) (.region (Jq1m p) []) := eqi
@[simp] def Jq1n (p : Nums) : List IOp := [qo 15 (.mov (.t 2)), qn (.pan (.t 15))]
def Jq1j (p : Nums) : IC := (.region (Jq1n p) [])
@[simp] theorem Je1j {p : Nums} : EqI (Jq1j p) (.region (Jq1n p) []) := eqi
@[simp] def Jq1o (p : Nums) : List IOp := [qp 16 (.faddr 0 (.t 3)), qp 17 (.load none (.t 16)), qp 18 (.faddr 1 (.t 3)), qp 19 (.load none (.t 18)), qm (.storeq 1 (.t 0) (.t 17) [(18, 1)]), qn (.store 1 (.t 1) (.t 19))]
def Jq1k (p : Nums) : IC := (.region (Jq1o p) [])
@[simp] theorem Je1k {p : Nums} : EqI (Jq1k p) (.region (Jq1o p) []) := eqi
def Jq1l (p : Nums) : IC := (.seq (Jq1i p) (.seq (.seq (.region [⟨(some 13), (.mov (.t 4)), none, false⟩, ⟨(some 14), (.un .not (.t 13)), none, false⟩] []) (.cond (.t 14) (Jq1j p) .skip)) (Jq1k p)))
@[simp] theorem Je1l {p : Nums} : EqI (Jq1l p) (.seq (Jq1i p) (.seq (.seq (.region [⟨(some 13), (.mov (.t 4)), none, false⟩, ⟨(some 14), (.un .not (.t 13)), none, false⟩] []) (.cond (.t 14) (Jq1j p) .skip)) (Jq1k p))) := eqi
@[simp] def Jq2k (p : Nums) : List IOp := [qo 6 (.load (some 4) (.t 2)), qo 7 (.build [(zi 0), (zi 0), (zi 0), (zi 0), .nils, .nils, .nils, (zi 0), (zi 0), (zi 0), (zi 0), .nils] [(8, 4, (.t 6))]), qo 8 (.box (.t 7)), qo 5 (.asg (.t 8))]
def Jq2i (p : Nums) : IC := (.region (Jq2k p) [])
@[simp] theorem Je2i {p : Nums} : EqI (Jq2i p) (.region (Jq2k p) []) := eqi
@[simp] def Jq2l (p : Nums) : List IOp := [qo 23 (.mov (.t 5)), qo 24 (.nilck (.t 23)), qo 25 (.faddr 0 (.t 24)), qo 26 (.faddr 5 (.t 25)), qo 27 (.load none (.t 26)), qo 28 (.mov (.t 1)), qo 29 (.cpy 1 (.t 27) (.t 28))]
def Jq2j (p : Nums) : IC := (.region (Jq2l p) [])
@[simp] theorem Je2j {p : Nums} : EqI (Jq2j p) (.region (Jq2l p) []) := eqi
def Jtag (p : Nums) : IC := (.seq (.region [⟨(some 2), (.box (.t 0)), none, false⟩, ⟨(some 4), (.asg (.c .nilp)), none, false⟩] []) (.seq (Jq2i p) (.seq (.tree (.step ⟨(some 9), (.mov (.t 5)), none, false⟩ (.step ⟨(some 10), (.mov (.t 5)), none, false⟩ (.step ⟨(some 11), (.faddr 1 (.t 2)), none, false⟩ (.step ⟨(some 14), (.faddr 2 (.t 2)), none, false⟩ (.alt (.step ⟨(some 12), (.load none (.t 11)), none, false⟩ (.alt (.step ⟨(some 13), (.mkslice 1 8 [(.int .i64 0)] (.t 12) (.t 12)), none, false⟩ (.alt (.step ⟨(some 15), (.load none (.t 14)), none, false⟩ (.alt (.step ⟨(some 16), (.mkslice 1 8 [(.int .i64 0)] (.t 15) (.t 15)), none, false⟩ (.step ⟨(some 17), (.nilck (.t 9)), none, false⟩ (.step ⟨(some 18), (.faddr 0 (.t 17)), none, false⟩ (.step ⟨(some 19), (.faddr 4 (.t 18)), none, false⟩ (.step ⟨none, (.store 1 (.t 19) (.t 13)), none, false⟩ (.step ⟨(some 20), (.nilck (.t 10)), none, false⟩ (.step ⟨(some 21), (.faddr 0 (.t 20)), none, false⟩ (.step ⟨(some 22), (.faddr 5 (.t 21)), none, false⟩ (.step ⟨none, (.store 1 (.t 22) (.t 16)), none, false⟩ .done))))))))) (.step ⟨(some 17), (.nilck (.t 9)), none, false⟩ (.step ⟨(some 18), (.faddr 0 (.t 17)), none, false⟩ (.step ⟨(some 19), (.faddr 4 (.t 18)), none, false⟩ (.alt (.step ⟨(some 16), (.mkslice 1 8 [(.int .i64 0)] (.t 15) (.t 15)), none, false⟩ (.step ⟨none, (.store 1 (.t 19) (.t 13)), none, false⟩ (.step ⟨(some 20), (.nilck (.t 10)), none, false⟩ (.step ⟨(some 21), (.faddr 0 (.t 20)), none, false⟩ (.step ⟨(some 22), (.faddr 5 (.t 21)), none, false⟩ (.step ⟨none, (.store 1 (.t 22) (.t 16)), none, false⟩ .done)))))) (.step ⟨none, (.store 1 (.t 19) (.t 13)), none, false⟩ (.step ⟨(some 16), (.mkslice 1 8 [(.int .i64 0)] (.t 15) (.t 15)), none, false⟩ (.step ⟨(some 20), (.nilck (.t 10)), none, false⟩ (.step ⟨(some 21), (.faddr 0 (.t 20)), none, false⟩ (.step ⟨(some 22), (.faddr 5 (.t 21)), none, false⟩ (.step ⟨none, (.store 1 (.t 22) (.t 16)), none, false⟩ .done)))))))))))) (.step ⟨(some 17), (.nilck (.t 9)), none, false⟩ (.step ⟨(some 18), (.faddr 0 (.t 17)), none, false⟩ (.step ⟨(some 19), (.faddr 4 (.t 18)), none, false⟩ (.alt (.step ⟨(some 15), (.load none (.t 14)), none, false⟩ (.alt (.step ⟨(some 16), (.mkslice 1 8 [(.int .i64 0)] (.t 15) (.t 15)), none, false⟩ (.step ⟨none, (.store 1 (.t 19) (.t 13)), none, false⟩ (.step ⟨(some 20), (.nilck (.t 10)), none, false⟩ (.step ⟨(some 21), (.faddr 0 (.t 20)), none, false⟩ (.step ⟨(some 22), (.faddr 5 (.t 21)), none, false⟩ (.step ⟨none, (.store 1 (.t 22) (.t 16)), none, false⟩ .done)))))) (.step ⟨none, (.store 1 (.t 19) (.t 13)), none, false⟩ (.step ⟨(some 16), (.mkslice 1 8 [(.int .i64 0)] (.t 15) (.t 15)), none, false⟩ (.step ⟨(some 20), (.nilck (.t 10)), none, false⟩ (.step ⟨(some 21), (.faddr 0 (.t 20)), none, false⟩ (.step ⟨(some 22), (.faddr 5 (.t 21)), none, false⟩ (.step ⟨none, (.store 1 (.t 22) (.t 16)), none, false⟩ .done)))))))) (.step ⟨none, (.store 1 (.t 19) (.t 13)), none, false⟩ (.step ⟨(some 15), (.load none (.t 14)), none, false⟩ (.step ⟨(some 16), (.mkslice 1 8 [(.int .i64 0)] (.t 15) (.t 15)), none, false⟩ (.step ⟨(some 20), (.nilck (.t 10)), none, false⟩ (.step ⟨(some 21), (.faddr 0 (.t 20)), none, false⟩ (.step ⟨(some 22), (.faddr 5 (.t 21)), none, false⟩ (.step ⟨none, (.store 1 (.t 22) (.t 16)), none, false⟩ .done))))))))))))) (.step ⟨(some 15), (.load none (.t 14)), none, false⟩ (.alt (.step ⟨(some 13), (.mkslice 1 8 [(.int .i64 0)] (.t 12) (.t 12)), none, false⟩ (.alt (.step ⟨(some 16), (.mkslice 1 8 [(.int .i64 0)] (.t 15) (.t 15)), none, false⟩ (.step ⟨(some 17), (.nilck (.t 9)), none, false⟩ (.step ⟨(some 18), (.faddr 0 (.t 17)), none, false⟩ (.step ⟨(some 19), (.faddr 4 (.t 18)), none, false⟩ (.step ⟨none, (.store 1 (.t 19) (.t 13)), none, false⟩ (.step ⟨(some 20), (.nilck (.t 10)), none, false⟩ (.step ⟨(some 21), (.faddr 0 (.t 20)), none, false⟩ (.step ⟨(some 22), (.faddr 5 (.t 21)), none, false⟩ (.step ⟨none, (.store 1 (.t 22) (.t 16)), none, false⟩ .done))))))))) (.step ⟨(some 17), (.nilck (.t 9)), none, false⟩ (.step ⟨(some 18), (.faddr 0 (.t 17)), none, false⟩ (.step ⟨(some 19), (.faddr 4 (.t 18)), none, false⟩ (.alt (.step ⟨(some 16), (.mkslice 1 8 [(.int .i64 0)] (.t 15) (.t 15)), none, false⟩ (.step ⟨none, (.store 1 (.t 19) (.t 13)), none, false⟩ (.step ⟨(some 20), (.nilck (.t 10)), none, false⟩ (.step ⟨(some 21), (.faddr 0 (.t 20)), none, false⟩ (.step ⟨(some 22), (.faddr 5 (.t 21)), none, false⟩ (.step ⟨none, (.store 1 (.t 22) (.t 16)), none, false⟩ .done)))))) (.step ⟨none, (.store 1 (.t 19) (.t 13)), none, false⟩ (.step ⟨(some 16), (.mkslice 1 8 [(.int .i64 0)] (.t 15) (.t 15)), none, false⟩ (.step ⟨(some 20), (.nilck (.t 10)), none, false⟩ (.step ⟨(some 21), (.faddr 0 (.t 20)), none, false⟩ (.step ⟨(some 22), (.faddr 5 (.t 21)), none, false⟩ (.step ⟨none, (.store 1 (.t 22) (.t 16)), none, false⟩ .done)))))))))))) (.step ⟨(some 16), (.mkslice 1 8 [(.int .i64 0)] (.t 15) (.t 15)), none, false⟩ (.step ⟨(some 13), (.mkslice 1 8 [(.int .i64 0)] (.t 12) (.t 12)), none, false⟩ (.step ⟨(some 17), (.nilck (.t 9)), none, false⟩ (.step ⟨(some 18), (.faddr 0 (.t 17)), none, false⟩ (.step ⟨(some 19), (.faddr 4 (.t 18)), none, false⟩ (.step ⟨none, (.store 1 (.t 19) (.t 13)), none, false⟩ (.step ⟨(some 20), (.nilck (.t 10)), none, false⟩ (.step ⟨(some 21), (.faddr 0 (.t 20)), none, false⟩ (.step ⟨(some 22), (.faddr 5 (.t 21)), none, false⟩ (.step ⟨none, (.store 1 (.t 22) (.t 16)), none, false⟩ .done)))))))))))))) (.step ⟨(some 15), (.load none (.t 14)), none, false⟩ (.alt (.step ⟨(some 12), (.load none (.t 11)), none, false⟩ (.alt (.step ⟨(some 13), (.mkslice 1 8 [(.int .i64 0)] (.t 12) (.t 12)), none, false⟩ (.alt (.step ⟨(some 16), (.mkslice 1 8 [(.int .i64 0)] (.t 15) (.t 15)), none, false⟩ (.step ⟨(some 17), (.nilck (.t 9)), none, false⟩ (.step ⟨(some 18), (.faddr 0 (.t 17)), none, false⟩ (.step ⟨(some 19), (.faddr 4 (.t 18)), none, false⟩ (.step ⟨none, (.store 1 (.t 19) (.t 13)), none, false⟩ (.step ⟨(some 20), (.nilck (.t 10)), none, false⟩ (.step ⟨(some 21), (.faddr 0 (.t 20)), none, false⟩ (.step ⟨(some 22), (.faddr 5 (.t 21)), none, false⟩ (.step ⟨none, (.store 1 (.t 22) (.t 16)), none, false⟩ .done))))))))) (.step ⟨(some 17), (.nilck (.t 9)), none, false⟩ (.step ⟨(some 18), (.faddr 0 (.t 17)), none, false⟩ (.step ⟨(some 19), (.faddr 4 (.t 18)), none, false⟩ (.alt (.step ⟨(some 16), (.mkslice 1 8 [(.int .i64 0)] (.t 15) (.t 15)), none, false⟩ (.step ⟨none, (.store 1 (.t 19) (.t 13)), none, false⟩ (.step ⟨(some 20), (.nilck (.t 10)), none, false⟩ (.step ⟨(some 21), (.faddr 0 (.t 20)), none, false⟩ (.step ⟨(some 22), (.faddr 5 (.t 21)), none, false⟩ (.step ⟨none, (.store 1 (.t 22) (.t 16)), none, false⟩ .done)))))) (.step ⟨none, (.store 1 (.t 19) (.t 13)), none, false⟩ (.step ⟨(some 16), (.mkslice 1 8 [(.int .i64 0)] (.t 15) (.t 15)), none, false⟩ (.step ⟨(some 20), (.nilck (.t 10)), none, false⟩ (.step ⟨(some 21), (.faddr 0 (.t 20)), none, false⟩ (.step ⟨(some 22), (.faddr 5 (.t 21)), none, false⟩ (.step ⟨none, (.store 1 (.t 22) (.t 16)), none, false⟩ .done)))))))))))) (.step ⟨(some 16), (.mkslice 1 8 [(.int .i64 0)] (.t 15) (.t 15)), none, false⟩ (.step ⟨(some 13), (.mkslice 1 8 [(.int .i64 0)] (.t 12) (.t 12)), none, false⟩ (.step ⟨(some 17), (.nilck (.t 9)), none, false⟩ (.step ⟨(some 18), (.faddr 0 (.t 17)), none, false⟩ (.step ⟨(some 19), (.faddr 4 (.t 18)), none, false⟩ (.step ⟨none, (.store 1 (.t 19) (.t 13)), none, false⟩ (.step ⟨(some 20), (.nilck (.t 10)), none, false⟩ (.step ⟨(some 21), (.faddr 0 (.t 20)), none, false⟩ (.step ⟨(some 22), (.faddr 5 (.t 21)), none, false⟩ (.step ⟨none, (.store 1 (.t 22) (.t 16)), none, false⟩ .done)))))))))))) (.step ⟨(some 16), (.mkslice 1 8 [(.int .i64 0)] (.t 15) (.t 15)), none, false⟩ (.step ⟨(some 12), (.load none (.t 11)), none, false⟩ (.step ⟨(some 13), (.mkslice 1 8 [(.int .i64 0)] (.t 12) (.t 12)), none, false⟩ (.step ⟨(some 17), (.nilck (.t 9)), none, false⟩ (.step ⟨(some 18), (.faddr 0 (.t 17)), none, false⟩ (.step ⟨(some 19), (.faddr 4 (.t 18)), none, false⟩ (.step ⟨none, (.store 1 (.t 19) (.t 13)), none, false⟩ (.step ⟨(some 20), (.nilck (.t 10)), none, false⟩ (.step ⟨(some 21), (.faddr 0 (.t 20)), none, false⟩ (.step ⟨(some 22), (.faddr 5 (.t 21)), none, false⟩ (.step ⟨none, (.store 1 (.t 22) (.t 16)), none, false⟩ .done))))))))))))))))))) (.seq (Jq2j p) (.seq (.region [⟨(some 30), (.mov (.t 5)), none, false⟩, ⟨(some 4), (.asg (.t 30)), none, false⟩] []) .ret)))))
structure All (P : Program) (p : Nums) : Prop where
 law22_awake : Has P p.law22_awake 0 [(.tmp 0)] (Jtau p)
 ref07_Few : Has P p.ref07_Few 1 [(.tmp 2)] (Jtb7 p)
 ref07_Check : Has P p.ref07_Check 1 [(.tmp 2)] (Jtb5 p)
 spillall_Cert : Has P p.spillall_Cert 1 [(.cell 2 (some 8)), (.tmp 3)] (Jtbm p)
 source_Check : Has P p.source_Check 1 [(.tmp 2)] (Jtbe p)
 source_Code : Has P p.source_Code 1 [(.tmp 2)] (Jtbf p)
 ref05_UsesA : Has P p.ref05_UsesA 1 [(.tmp 2)] (Jtb2 p)
 ref05_UsesB : Has P p.ref05_UsesB 1 [(.tmp 2)] (Jtb3 p)
 ref05_UsesD : Has P p.ref05_UsesD 1 [(.tmp 2)] (Jtb4 p)
 interp_Exec : Has P p.interp_Exec 3 [(.cell 6 (some 8)), (.tmp 7)] (Jtao p)
 execute_Exec : Has P p.execute_Exec 3 [(.cell 6 (some 8)), (.tmp 7)] (Jtaf p)
 ref09_Values : Has P p.ref09_Values 2 [(.tmp 4)] (Jtbc p)
 spillall_Block : Has P p.spillall_Block 1 [(.cell 2 (some 5))] (Jtbl p)
 spillall_Moves : Has P p.spillall_Moves 1 [(.tmp 2)] (Jtbn p)
 ref07_Code : Has P p.ref07_Code 1 [(.tmp 2)] (Jtb6 p)
 ref07_Instr : Has P p.ref07_Instr 2 [(.tmp 4)] (Jtb8 p)
 ref07_Term : Has P p.ref07_Term 3 [(.tmp 6)] (Jtb9 p)
 slices_Clone_Instr : Has P p.slices_Clone_Instr 1 [(.tmp 2)] (Jtbd p)
 spillall_invariant : Has P p.spillall_invariant 1 [(.tmp 2)] (Jtbq p)
 source_block : Has P p.source_block 3 [(.tmp 6)] (Jtbj p)
 interp_begin : Has P p.interp_begin 2 [(.tmp 4)] (Jtap p)
 execute_begin : Has P p.execute_begin 2 [(.tmp 4)] (Jtag p)
 interp_state_step : Has P p.interp_state_step 1 [] (Jtar p)
 execute_state_step : Has P p.execute_state_step 1 [] (Jtam p)
 spillall_builder_instr : Has P p.spillall_builder_instr 2 [] (Jtbp p)
 spillall_builder_add : Has P p.spillall_builder_add 2 [] (Jtbo p)
 spillall_load : Has P p.spillall_load 2 [(.cell 4 (some 7))] (Jtbr p)
 ref07_in : Has P p.ref07_in 2 [(.tmp 4)] (Jtba p)
 location_Slot : Has P p.location_Slot 1 [(.tmp 2)] (Jtay p)
 source_Instr : Has P p.source_Instr 2 [(.tmp 4)] (Jtbg p)
 source_Term : Has P p.source_Term 3 [(.tmp 6)] (Jtbh p)
 interp_state_instr : Has P p.interp_state_instr 2 [] (Jtaq p)
 interp_state_term : Has P p.interp_state_term 2 [] (Jtas p)
 execute_state_instr : Has P p.execute_state_instr 2 [] (Jtak p)
 execute_state_term : Has P p.execute_state_term 2 [] (Jtan p)
 opcode_Of : Has P p.opcode_Of 1 [(.cell 2 (some 4)), (.tmp 3)] (Jtaz p)
 spillall_store : Has P p.spillall_store 1 [(.cell 2 (some 7))] (Jtbs p)
 location_Reg : Has P p.location_Reg 1 [(.tmp 2)] (Jtax p)
 opcode_Source : Has P p.opcode_Source 1 [(.tmp 2)] (Jtb0 p)
 source_within : Has P p.source_within 1 [(.tmp 2)] (Jtbk p)
 source_blank : Has P p.source_blank 1 [(.tmp 2)] (Jtbi p)
 location_IsSlot : Has P p.location_IsSlot 1 [(.tmp 2)] (Jtaw p)
 location_Index : Has P p.location_Index 1 [(.tmp 2)] (Jtav p)
 alu_Eval : Has P p.alu_Eval 4 [(.tmp 8), (.tmp 9)] (Jta0 p)
 execute_state_compute : Has P p.execute_state_compute 2 [(.tmp 4)] (Jtai p)
 execute_state_move : Has P p.execute_state_move 2 [(.tmp 4)] (Jtal p)
 execute_state_emit : Has P p.execute_state_emit 2 [(.tmp 4)] (Jtaj p)
 opcode_known : Has P p.opcode_known 1 [(.tmp 2)] (Jtb1 p)
 alu_operation : Has P p.alu_operation 1 [(.cell 2 (some 2)), (.tmp 3)] (Jta1 p)
 execute_state_at : Has P p.execute_state_at 2 [(.tmp 4)] (Jtah p)
 alu_operation_1 : Has P p.alu_operation_1 2 [(.tmp 4)] (Jta2 p)
 alu_operation_2 : Has P p.alu_operation_2 2 [(.tmp 4)] (Jta6 p)
 alu_operation_3 : Has P p.alu_operation_3 2 [(.tmp 4)] (Jta7 p)
 alu_operation_4 : Has P p.alu_operation_4 2 [(.tmp 4)] (Jta8 p)
 alu_operation_5 : Has P p.alu_operation_5 2 [(.tmp 4)] (Jta9 p)
 alu_operation_6 : Has P p.alu_operation_6 2 [(.tmp 4)] (Jtaa p)
 alu_operation_7 : Has P p.alu_operation_7 2 [(.tmp 4)] (Jtab p)
 alu_operation_8 : Has P p.alu_operation_8 2 [(.tmp 4)] (Jtac p)
 alu_operation_9 : Has P p.alu_operation_9 2 [(.tmp 4)] (Jtad p)
 alu_operation_10 : Has P p.alu_operation_10 2 [(.tmp 4)] (Jta3 p)
 alu_operation_11 : Has P p.alu_operation_11 2 [(.tmp 4)] (Jta4 p)
 alu_truth : Has P p.alu_truth 1 [(.tmp 2)] (Jtae p)
 alu_operation_12 : Has P p.alu_operation_12 2 [(.tmp 4)] (Jta5 p)
 ref09_Right : Has P p.ref09_Right 3 [(.tmp 6)] (Jtbb p)
 law22_SpillallSlots : Has P p.law22_SpillallSlots 3 [(.tmp 6)] (Jtat p)
abbrev I (n : Int) : D := .int .i64 n
abbrev AI (n : Int) : AV := .d (.int .i64 n)
abbrev AB (b : Bool) : AV := .d (.bool b)
structure Pair where (v l : Int)
 deriving DecidableEq, Inhabited
def Pair.row (q : Pair) : List D := [I q.v, I q.l]
def Pair.av (q : Pair) : AV := .agg [AI q.v, AI q.l]
def pairsD (l : List Pair) : D := .sl (l.map Pair.row)
theorem HasL.cons_inv {l : LT} {ls : List LT} {ds : List D} (h : HasL (l :: ls) ds) : ∃ d ds', ds = d :: ds' ∧ HasT l d ∧ HasL ls ds' := by
 obtain ⟨h1, h2⟩ := h
 cases ds with
 | nil => simp at h1
 | cons d ds => exact ⟨d, ds, rfl, h2 0 l d rfl rfl, by simpa using h1, fun j l' x a b => h2 (j + 1) l' x (by simpa using a) (by simpa using b)⟩
theorem HasL.nil_inv {ds : List D} (h : HasL [] ds) : ds = [] := by
 have := h.1; simpa using this
theorem HasT.int_inv {k : IntKind} {d : D} (h : HasT (.int k) d) : ∃ n, d = .int k n ∧ (Lit.int k n).wf = true := by
 cases h with
 | int _ n h => exact ⟨n, rfl, h⟩
theorem HasT.sl_inv {ls : List LT} {d : D} (h : HasT (.sl ls) d) : ∃ rows, d = .sl rows ∧ rows.length ≤ maxLen ∧ ∀ r ∈ rows, HasL ls r := by
 cases h with
 | sl _ rows hl h0 h => exact ⟨rows, rfl, hl, fun r hr => ⟨h0 r hr, h r hr⟩⟩
theorem Jtha {α : Type} {g : α → List D} {Q : List D → Prop} (h : ∀ r, Q r → ∃ x, r = g x) : ∀ {rows : List (List D)}, (∀ r ∈ rows, Q r) → ∃ l : List α, rows = l.map g := by
 intro rows
 induction rows with
 | nil => intro _; exact ⟨[], rfl⟩
 | cons r rows ih =>
  intro hq
  obtain ⟨x, rfl⟩ := h r (hq r (by simp))
  obtain ⟨l, rfl⟩ := ih fun r hr => hq r (by simp [hr])
  exact ⟨x :: l, rfl⟩
def ltI : LT := .int .i64
def lessP (a b : Pair) : Bool := if a.v = b.v then decide (a.l < b.l) else decide (a.v < b.v)
theorem Jtd3 {a b : Pair} : lessP a b = true ↔ a.v < b.v ∨ (a.v = b.v ∧ a.l < b.l) := by
 unfold lessP; split <;> simp <;> omega
theorem Jtd6 {a b : Pair} (h1 : lessP a b = false) (h2 : lessP b a = false) : a = b := by
 have h1 : ¬ lessP a b = true := by simp [h1]
 have h2 : ¬ lessP b a = true := by simp [h2]
 rw [Jtd3] at h1 h2
 obtain ⟨a1, a2⟩ := a; obtain ⟨b1, b2⟩ := b
 simp only [Pair.mk.injEq]; simp only at h1 h2; omega
theorem Jtd7 {a b c : Pair} (h1 : lessP a b = true) (h2 : lessP b c = true) : lessP a c = true := by
 rw [Jtd3] at *; omega
theorem Jtd4 (a : Pair) : lessP a a = false := by
 cases h : lessP a a with
 | false => rfl
 | true => rw [Jtd3] at h; omega
def stepA (p : Pair) (s : List Pair × Bool) (q : Pair) : List Pair × Bool :=
 let s := if s.2 = false ∧ lessP q p = false then (s.1 ++ [p], true) else s
 if q = p then s else (s.1 ++ [q], s.2)
def foldA (p : Pair) (l : List Pair) : List Pair × Bool := l.foldl (stepA p) ([], false)
def addP (l : List Pair) (p : Pair) : List Pair := if (foldA p l).2 = true then (foldA p l).1 else (foldA p l).1 ++ [p]
def makeP (l : List Pair) : List Pair := l.foldl addP []
theorem Jt7o {a b : Pair} (h1 : a.v = b.v) (h2 : a.l = b.l) : a = b := by cases a; cases b; simp_all
def Srt (l : List Pair) : Prop := l.Pairwise fun a b => lessP a b = true
theorem Jtjj {a : Pair} {l : List Pair} : Srt (a :: l) ↔ (∀ b ∈ l, lessP a b = true) ∧ Srt l := List.pairwise_cons
theorem Jtjn {l : List Pair} (h : Srt l) {i j : Nat} (hij : i < j) (hj : j < l.length) : lessP (l[i]'(by omega)) l[j] = true := List.pairwise_iff_getElem.1 h i j (by omega) hj hij
theorem Jtji {l : List Pair} : Srt l ↔ ∀ k, (h : k + 1 < l.length) → lessP (l[k]) (l[k+1]) = true := by
 constructor
 ·intro h k hk; exact Jtjn h (by omega) hk
 ·intro h
  refine List.pairwise_iff_getElem.2 fun i j hi hj hij => ?_
  obtain ⟨n, rfl⟩ : ∃ n, j = i + 1 + n := ⟨j - (i + 1), by omega⟩
  induction n with
  | zero => exact h i hj
  | succ n ih => exact Jtd7 (ih (by omega) (by omega)) (h (i + 1 + n) (by omega))
def insP (l : List Pair) (p : Pair) : List Pair := (l.takeWhile fun q => lessP q p) ++ p :: (l.dropWhile fun q => lessP q p).filter fun q => decide (q ≠ p)
theorem Jtd5 {a b : Pair} (h : lessP a b = true) : a ≠ b := by rintro rfl; rw [Jtd4] at h; cases h
theorem Jt8s (p : Pair) (l out : List Pair) : l.foldl (stepA p) (out, true) = (out ++ l.filter (fun q => decide (q ≠ p)), true) := by
 induction l generalizing out with
 | nil => simp
 | cons q l ih =>
  by_cases e : q = p
  ·simp [stepA, e, ih]
  ·simp [stepA, e, ih]
theorem Jt8t (p : Pair) (l out : List Pair) : l.foldl (stepA p) (out, false) = if (l.dropWhile fun q => lessP q p) = [] then (out ++ l, false) else (out ++ insP l p, true) := by
 induction l generalizing out with
 | nil => simp
 | cons q l ih =>
  cases h : lessP q p with
  | true =>
   have hne := Jtd5 h
   simp only [List.foldl_cons, stepA, h, hne, if_false, and_false, ih, List.dropWhile_cons, if_true, Bool.true_eq_false, insP, List.takeWhile_cons]
   split <;> simp [List.append_assoc]
  | false =>
   simp only [List.foldl_cons, stepA, h, and_self, if_true, List.dropWhile_cons, Bool.false_eq_true, if_false, reduceCtorEq, insP, List.takeWhile_cons, List.nil_append]
   by_cases e : q = p
   ·simp [e, Jt8s]
   ·simp [e, Jt8s]
theorem Jt4k (l : List Pair) (p : Pair) : addP l p = insP l p := by
 unfold addP foldA
 rw [Jt8t]
 split
 ·rename_i h
  simp only [List.nil_append, Bool.false_eq_true, if_false, insP, h, List.filter_nil]
  have : l.takeWhile (fun q => lessP q p) = l := by
   have e := List.takeWhile_append_dropWhile (p := fun q => lessP q p) (l := l)
   rw [h, List.append_nil] at e; exact e
  rw [this]
 ·simp
theorem Jte5 {l : List Pair} {p q : Pair} : q ∈ addP l p ↔ q = p ∨ q ∈ l := by
 rw [Jt4k, insP]
 have e := List.takeWhile_append_dropWhile (p := fun q => lessP q p) (l := l)
 have e2 : q ∈ l ↔ q ∈ l.takeWhile (fun q => lessP q p) ∨ q ∈ l.dropWhile (fun q => lessP q p) := by
  rw [← List.mem_append, e]
 simp only [List.mem_append, List.mem_cons, List.mem_filter, decide_eq_true_eq, e2]
 by_cases h : q = p <;> simp [h]
theorem Jt7i {l : List Pair} {p : Pair} (h : Srt l) : ∀ q ∈ l.dropWhile (fun q => lessP q p), lessP q p = false := by
 induction l with
 | nil => intro q hq; simp at hq
 | cons x l ih =>
  intro q hq
  rw [Jtjj] at h
  cases hx : lessP x p with
  | true => rw [List.dropWhile_cons, hx, if_pos rfl] at hq; exact ih h.2 q hq
  | false =>
   rw [List.dropWhile_cons, hx, if_neg (by simp)] at hq
   rcases List.mem_cons.1 hq with rfl | hq
   ·exact hx
   ·cases hqp : lessP q p with
    | false => rfl
    | true => rw [Jtd7 (h.1 q hq) hqp] at hx; cases hx
theorem Jtkp {l : List Pair} {p : Pair} : ∀ q ∈ l.takeWhile (fun q => lessP q p), lessP q p = true := by
 induction l with
 | nil => intro q hq; simp at hq
 | cons x l ih =>
  intro q hq
  cases hx : lessP x p with
  | true =>
   rw [List.takeWhile_cons, hx, if_pos rfl] at hq
   rcases List.mem_cons.1 hq with rfl | hq
   ·exact hx
   ·exact ih q hq
  | false => rw [List.takeWhile_cons, hx, if_neg (by simp)] at hq; simp at hq
theorem Jtjs {a b : List Pair} (h : a.Sublist b) (hb : Srt b) : Srt a := List.Pairwise.sublist h hb
theorem Jtjh {l : List Pair} {p : Pair} (h : Srt l) : Srt (addP l p) := by
 rw [Jt4k, insP]
 refine List.pairwise_append.2 ⟨Jtjs (List.takeWhile_sublist _) h, Jtjj.2 ⟨?_, ?_⟩, ?_⟩
 ·intro b hb
  rw [List.mem_filter, decide_eq_true_eq] at hb
  have h1 := Jt7i h b hb.1
  cases h2 : lessP p b with
  | true => rfl
  | false => exact absurd (Jtd6 h2 h1).symm hb.2
 ·exact Jtjs (List.filter_sublist.trans (List.dropWhile_sublist _)) h
 ·intro a ha b hb
  have h1 := Jtkp a ha
  rcases List.mem_cons.1 hb with rfl | hb
  ·exact h1
  ·rw [List.mem_filter, decide_eq_true_eq] at hb
   have h2 := Jt7i h b hb.1
   cases h3 : lessP p b with
   | true => exact Jtd7 h1 h3
   | false => exact absurd (Jtd6 h3 h2).symm hb.2
theorem Jtdy (l : List Pair) (q : Pair) : makeP (l ++ [q]) = addP (makeP l) q := by simp [makeP]
theorem Jtdx {motive : List Pair → Prop} (h0 : motive []) (h1 : ∀ l q, motive l → motive (l ++ [q])) (l : List Pair) : motive l := by
 generalize hn : l.length = n
 induction n generalizing l with
 | zero => have : l = [] := List.length_eq_zero_iff.1 hn; subst this; exact h0
 | succ n ih =>
  have hne : l ≠ [] := by rintro rfl; simp at hn
  rw [← List.dropLast_concat_getLast hne]
  exact h1 _ _ (ih _ (by simp [hn]))
theorem Jtjo (l : List Pair) : Srt (makeP l) := by
 induction l using Jtdx with
 | h0 => exact List.Pairwise.nil
 | h1 l q ih => rw [Jtdy]; exact Jtjh ih
theorem Jte8 {l : List Pair} {q : Pair} : q ∈ makeP l ↔ q ∈ l := by
 induction l using Jtdx with
 | h0 => simp [makeP]
 | h1 l x ih => rw [Jtdy, Jte5, ih]; simp [or_comm]
theorem Jtjr {l : List Pair} (h : Srt l) : l.Nodup := List.Pairwise.imp (fun h => Jtd5 h) h
theorem Jt4l (l : List Pair) (p : Pair) : (addP l p).length ≤ l.length + 1 := by
 rw [Jt4k, insP]
 have e := congrArg List.length (List.takeWhile_append_dropWhile (p := fun q => lessP q p) (l := l))
 have e2 := List.length_filter_le (fun q => decide (q ≠ p)) (l.dropWhile fun q => lessP q p)
 simp only [List.length_append, List.length_cons] at e ⊢; omega
theorem Jtdw (l : List Pair) : (makeP l).length ≤ l.length := by
 induction l using Jtdx with
 | h0 => simp [makeP]
 | h1 l x ih => rw [Jtdy]; have := Jt4l (makeP l) x; simp only [List.length_append, List.length_cons, List.length_nil]; omega
section
end
section
end
section
end
section
end
section
end
section
end
def mergeP : List Pair → List Pair → List Pair
 | [], b => b
 | x :: a, [] => x :: a
 | x :: a, y :: b => if lessP y x = true then y :: mergeP (x :: a) b else if y = x then x :: mergeP a b else x :: mergeP a (y :: b)
termination_by a b => a.length + b.length
theorem Jte9 {a b : List Pair} {q : Pair} : q ∈ mergeP a b ↔ q ∈ a ∨ q ∈ b := by
 induction a, b using mergeP.induct with
 | case1 b => simp [mergeP]
 | case2 x a => simp [mergeP]
 | case3 x a y b h ih => rw [mergeP, if_pos h, List.mem_cons, ih]; simp only [List.mem_cons]; constructor <;> (intro h; rcases h with h | h | h <;> simp_all)
 | case4 a b x h ih => rw [mergeP, if_neg h, if_pos rfl, List.mem_cons, ih]; simp only [List.mem_cons]; constructor <;> grind
 | case5 x a y b h h2 ih => rw [mergeP, if_neg h, if_neg h2, List.mem_cons, ih]; simp only [List.mem_cons]; constructor <;> grind
theorem Jtjp {a b : List Pair} (ha : Srt a) (hb : Srt b) : Srt (mergeP a b) := by
 induction a, b using mergeP.induct with
 | case1 b => simpa [mergeP] using hb
 | case2 x a => simpa [mergeP] using ha
 | case3 x a y b h ih =>
  rw [mergeP, if_pos h]
  refine Jtjj.2 ⟨fun q hq => ?_, ih ha (Jtjj.1 hb).2⟩
  rw [Jte9, List.mem_cons] at hq
  rcases hq with (rfl | hq) | hq
  ·exact h
  ·exact Jtd7 h ((Jtjj.1 ha).1 q hq)
  ·exact (Jtjj.1 hb).1 q hq
 | case4 a b x h ih =>
  rw [mergeP, if_neg h, if_pos rfl]
  refine Jtjj.2 ⟨fun q hq => ?_, ih (Jtjj.1 ha).2 (Jtjj.1 hb).2⟩
  rw [Jte9] at hq
  rcases hq with hq | hq
  ·exact (Jtjj.1 ha).1 q hq
  ·exact (Jtjj.1 hb).1 q hq
 | case5 x a y b h h2 ih =>
  rw [mergeP, if_neg h, if_neg h2]
  have hxy : lessP x y = true := by
   cases e : lessP x y with
   | true => rfl
   | false => exact absurd (Jtd6 (by simpa using h) e) h2
  refine Jtjj.2 ⟨fun q hq => ?_, ih (Jtjj.1 ha).2 hb⟩
  rw [Jte9, List.mem_cons] at hq
  rcases hq with hq | rfl | hq
  ·exact (Jtjj.1 ha).1 q hq
  ·exact hxy
  ·exact Jtd7 hxy ((Jtjj.1 hb).1 q hq)
section
end
section
end
end Go.AE
namespace Go.AE
open Go Go.Proofs Go.Shelf Go.Sort
def sortP (l : List Pair) : List Pair := l.mergeSort fun x y => !lessP y x
section
variable {P : Program} {ρ : Ren}
end
structure SortOk (P : Program) (p : Nums) : Prop where
 none : Jt3w P p.slices_SortFunc_Pair [.d (.sl []), .fn (.func p.pairset_compare) [] []] [] fun o H' => o = .ret (.tup []) ∧ H' = []
 some : ∀ l : List Pair, l ≠ [] → l.length < 1000000 → Jt3w P p.slices_SortFunc_Pair [.hsl 0 0 2 l.length, .fn (.func p.pairset_compare) [] []] [.mem (Jth5 (l.map Pair.row))] fun o H' => o = .ret (.tup []) ∧ H' = [.mem (Jth5 ((sortP l).map Pair.row))]
section
end
def renP (c : Pair → Bool) (f : Pair → Pair) (l : List Pair) : List Pair := (l.filter c).map f
theorem Jted {c : Pair → Bool} {f : Pair → Pair} {l : List Pair} {q : Pair} : q ∈ renP c f l ↔ ∃ p ∈ l, c p = true ∧ f p = q := by
 unfold renP; simp only [List.mem_map, List.mem_filter, and_assoc]
def copyP (l : List Pair) (d a : Int) : List Pair := if d = a then makeP l else mergeP (l.filter fun x => x.v != d) (makeP (renP (fun x => x.v == a) (fun x => ⟨d, x.l⟩) l))
def moveP (l : List Pair) (d a : Int) : List Pair := if d = a then makeP l else mergeP (l.filter fun x => x.l != d) (makeP (renP (fun x => x.l == a) (fun x => ⟨x.v, d⟩) l))
def defP (l : List Pair) (d t : Int) : List Pair := addP ((l.filter fun x => x.v != d).filter fun x => x.l != t) ⟨d, t⟩
theorem Jtjm {l : List Pair} {f : Pair → Bool} (h : Srt l) : Srt (l.filter f) := List.Pairwise.filter f h
theorem Jtjk {l : List Pair} {d a : Int} (h : Srt l) : Srt (copyP l d a) := by
 unfold copyP; split
 ·exact Jtjo _
 ·exact Jtjp (Jtjm h) (Jtjo _)
theorem Jtjq {l : List Pair} {d a : Int} (h : Srt l) : Srt (moveP l d a) := by
 unfold moveP; split
 ·exact Jtjo _
 ·exact Jtjp (Jtjm h) (Jtjo _)
theorem Jtjl {l : List Pair} {d t : Int} (h : Srt l) : Srt (defP l d t) := Jtjh (Jtjm (Jtjm h))
theorem Jte6 {l : List Pair} {d a : Int} {q : Pair} : q ∈ copyP l d a ↔ (q ∈ l ∧ (d = a ∨ q.v ≠ d)) ∨ (q.v = d ∧ (⟨a, q.l⟩ : Pair) ∈ l) := by
 unfold copyP
 by_cases h : d = a
 ·subst h
  rw [if_pos rfl, Jte8]
  constructor
  ·intro hq; exact .inl ⟨hq, .inl rfl⟩
  ·rintro (⟨hq, _⟩ | ⟨e, hq⟩)
   ·exact hq
   ·have : (⟨d, q.l⟩ : Pair) = q := Jt7o e.symm rfl
    rw [this] at hq; exact hq
 ·rw [if_neg h, Jte9, Jte8, Jted, List.mem_filter]
  constructor
  ·rintro (⟨h1, h2⟩ | ⟨p, h1, h2, rfl⟩)
   ·exact .inl ⟨h1, .inr (by simpa using h2)⟩
   ·refine .inr ⟨rfl, ?_⟩
    have e : p.v = a := by simpa using h2
    have : (⟨a, p.l⟩ : Pair) = p := Jt7o e.symm rfl
    simpa [this] using h1
  ·rintro (⟨h1, h2⟩ | ⟨h1, h2⟩)
   ·exact .inl ⟨h1, by simpa using h2.resolve_left h⟩
   ·exact .inr ⟨_, h2, by simp, Jt7o h1.symm rfl⟩
theorem Jtea {l : List Pair} {d a : Int} {q : Pair} : q ∈ moveP l d a ↔ (q ∈ l ∧ (d = a ∨ q.l ≠ d)) ∨ (q.l = d ∧ (⟨q.v, a⟩ : Pair) ∈ l) := by
 unfold moveP
 by_cases h : d = a
 ·subst h
  rw [if_pos rfl, Jte8]
  constructor
  ·intro hq; exact .inl ⟨hq, .inl rfl⟩
  ·rintro (⟨hq, _⟩ | ⟨e, hq⟩)
   ·exact hq
   ·have : (⟨q.v, d⟩ : Pair) = q := Jt7o rfl e.symm
    rw [this] at hq; exact hq
 ·rw [if_neg h, Jte9, Jte8, Jted, List.mem_filter]
  constructor
  ·rintro (⟨h1, h2⟩ | ⟨p, h1, h2, rfl⟩)
   ·exact .inl ⟨h1, .inr (by simpa using h2)⟩
   ·refine .inr ⟨rfl, ?_⟩
    have e : p.l = a := by simpa using h2
    have : (⟨p.v, a⟩ : Pair) = p := Jt7o rfl e.symm
    simpa [this] using h1
  ·rintro (⟨h1, h2⟩ | ⟨h1, h2⟩)
   ·exact .inl ⟨h1, by simpa using h2.resolve_left h⟩
   ·exact .inr ⟨_, h2, by simp, Jt7o rfl h1.symm⟩
theorem Jte7 {l : List Pair} {d t : Int} {q : Pair} : q ∈ defP l d t ↔ q = ⟨d, t⟩ ∨ (q ∈ l ∧ q.v ≠ d ∧ q.l ≠ t) := by
 unfold defP
 rw [Jte5, List.mem_filter, List.mem_filter]
 simp [and_assoc]
section
end
section
end
section
end
section
end
section
end
structure ClosOk (P : Program) (p : Nums) : Prop where
 ok1 : okFn P p.transfer_Copy_1 = true
 ok2 : okFn P p.transfer_Move_1 = true
 copy : ∀ (x : Pair) (d a : Int), Jt3w P p.transfer_Copy_1 [x.av, .ptr 0 0, .ptr 1 0] [.mem [AI d], .mem [AI a]] fun o H' => o = .ret (.tup [(⟨d, x.l⟩ : Pair).av, AB (x.v == a)]) ∧ H' = [.mem [AI d], .mem [AI a]]
 move : ∀ (x : Pair) (d a : Int), Jt3w P p.transfer_Move_1 [x.av, .ptr 0 0, .ptr 1 0] [.mem [AI d], .mem [AI a]] fun o H' => o = .ret (.tup [(⟨x.v, d⟩ : Pair).av, AB (x.l == a)]) ∧ H' = [.mem [AI d], .mem [AI a]]
section
end
section
end
section
end
section
end
section
end
def intRow (n : Int) : List D := [.int .i64 n]
def intsD (l : List Int) : D := .sl (l.map intRow)
section
end
section
end
def AU (n : Int) : AV := .d (.int .u8 n)
section
end
section
end
theorem Jtl8 {n : Int} (hw : (Lit.int .u8 n).wf = true) : 0 ≤ n ∧ n < 256 := by
 simp [Lit.wf, IntKind.min, IntKind.max, IntKind.signed, IntKind.bits] at hw
 omega
theorem u8_of {d : D} (h : HasT (.int .u8) d) : ∃ n : Int, AV.d d = AU n ∧ (0 ≤ n ∧ n < 256) := by
 obtain ⟨n, rfl, hw⟩ := h.int_inv
 exact ⟨n, rfl, Jtl8 hw⟩
theorem Jtcg {d : D} (h : HasT (.sl [ltI]) d) : ∃ l : List Int, AV.d d = .d (intsD l) ∧ l.length ≤ maxLen := by
 obtain ⟨rows, rfl, hl, hr⟩ := h.sl_inv
 obtain ⟨l, rfl⟩ := Jtha (g := intRow) (fun r hr => by
  obtain ⟨_, _, rfl, h0, h⟩ := HasL.cons_inv hr
  obtain rfl := h.nil_inv
  obtain ⟨a, rfl, _⟩ := h0.int_inv
  exact ⟨a, rfl⟩) hr
 exact ⟨l, rfl, by simpa using hl⟩
def isDig (c : UInt8) : Bool := decide (48 ≤ c.toNat) && decide (c.toNat ≤ 57)
def valD (ds : List UInt8) : Nat := ds.foldl (fun n c => 10 * n + (c.toNat - 48)) 0
def okD (ds : List UInt8) : Prop := ds ≠ [] ∧ (∀ c ∈ ds, isDig c = true) ∧ (ds.length ≤ 1 ∨ ds.head? ≠ some 48) ∧ valD ds < 1099511627776
instance (ds : List UInt8) : Decidable (okD ds) := by unfold okD; infer_instance
theorem Jtkt (k : Nat) : ((k : Int)).tdiv 2 = ((k / 2 : Nat) : Int) := rfl
theorem Jtks (l : Int) (h0 : -9223372036854775808 ≤ l) (h1 : l ≤ 9223372036854775807) : IntKind.i64.wrap (l.tdiv 2) = l.tdiv 2 := by
 rcases Int.le_total 0 l with h | h
 ·obtain ⟨k, rfl⟩ := Int.eq_ofNat_of_zero_le h
  rw [Jtkt]; exact wrap_i64 (by omega) (by omega)
 ·obtain ⟨k, hk⟩ := Int.eq_ofNat_of_zero_le (show 0 ≤ -l by omega)
  have : l = -(k : Int) := by omega
  subst this
  rw [Int.neg_tdiv, Jtkt]; exact wrap_i64 (by omega) (by omega)
section
theorem Jtdm {P : Program} {p : Nums} (A : All P p) (l : Int) : Jt3w P p.location_IsSlot [AI l] [] fun o _ => o = .ret (AB (l.tmod 2 == 1)) := by
 refine A.location_IsSlot.run rfl fun R hR => ?_
 (simp (maxSteps := 1000000) [Jtaw])
 (first | exact hR _ _ FrA | exact hR _ _ FnA)
theorem Jtdl {P : Program} {p : Nums} (A : All P p) (l : Int) (h0 : -9223372036854775808 ≤ l) (h1 : l ≤ 9223372036854775807) : Jt3w P p.location_Index [AI l] [] fun o _ => o = .ret (AI (l.tdiv 2)) := by
 refine A.location_Index.run rfl fun R hR => ?_
 have hw := Jtks l h0 h1
 (simp (maxSteps := 1000000) [Jtav, hw])
 (first | exact hR _ _ FrA | exact hR _ _ FnA)
def rngZ (l r s : Int) : Bool := if l.tmod 2 = 1 then decide (0 ≤ l) && decide (l.tdiv 2 < s) else decide (0 ≤ l) && decide (l.tdiv 2 < r)
end
structure Mach where (op d a b imm dst src : Int)
 deriving DecidableEq, Inhabited
def Mach.row (m : Mach) : List D := [I m.op, I m.d, I m.a, I m.b, I m.imm, I m.dst, I m.src]
def Mach.av (m : Mach) : AV := .agg [AI m.op, AI m.d, AI m.a, AI m.b, AI m.imm, AI m.dst, AI m.src]
def regZ (n : Int) : Int := IntKind.i64.wrap (2 * n)
def slotZ (n : Int) : Int := IntKind.i64.wrap (IntKind.i64.wrap (2 * n) + 1)
def mvM (dst src : Int) : Mach := ⟨18, 0, 0, 0, 0, dst, src⟩
section
theorem Jtdo {P : Program} {p : Nums} (A : All P p) (x : Int) : Jt3w P p.location_Slot [AI x] [] fun o _ => o = .ret (AI (slotZ x)) := by
 refine A.location_Slot.run rfl fun R hR => ?_
 (simp (maxSteps := 1000000) [Jtay])
 (first | exact hR _ _ FrA | exact hR _ _ FnA)
theorem Jtdn {P : Program} {p : Nums} (A : All P p) (x : Int) : Jt3w P p.location_Reg [AI x] [] fun o _ => o = .ret (AI (regZ x)) := by
 refine A.location_Reg.run rfl fun R hR => ?_
 (simp (maxSteps := 1000000) [Jtax])
 (first | exact hR _ _ FrA | exact hR _ _ FnA)
theorem Jtj5 {P : Program} {p : Nums} (A : All P p) (x y : Int) : Jt3w P p.spillall_load [AI x, AI y] [] fun o _ => o = .ret (mvM (regZ x) (slotZ y)).av := by
 refine A.spillall_load.run rfl fun R hR => ?_
 (simp (maxSteps := 1000000) [Jtbr])
 (refine Jty (Jtdn A _) (by rfl) (by rfl) ?_)
 (simp (maxSteps := 1000000) [])
 (refine Jty (Jtdo A _) (by rfl) (by rfl) ?_)
 (simp (maxSteps := 1000000) [])
 (first | exact hR _ _ FrA | exact hR _ _ FnA)
theorem Jtj6 {P : Program} {p : Nums} (A : All P p) (y : Int) : Jt3w P p.spillall_store [AI y] [] fun o _ => o = .ret (mvM (slotZ y) (regZ 0)).av := by
 refine A.spillall_store.run rfl fun R hR => ?_
 (simp (maxSteps := 1000000) [Jtbs])
 (refine Jty (Jtdo A _) (by rfl) (by rfl) ?_)
 (simp (maxSteps := 1000000) [])
 (refine Jty (Jtdn A _) (by rfl) (by rfl) ?_)
 (simp (maxSteps := 1000000) [])
 (first | exact hR _ _ FrA | exact hR _ _ FnA)
def knownZ (x : Int) : Bool := decide (1 ≤ x ∧ x ≤ 18)
theorem Jtfb {P : Program} {p : Nums} (A : All P p) (x : Int) : Jt3w P p.opcode_known [AI x] [] fun o _ => o = .ret (AB (knownZ x)) := by
 refine A.opcode_known.run rfl fun R hR => ?_
 (simp (maxSteps := 1000000) [Jtb1])
 ((first | refine Xc (fun hx => ?_) (fun hx => ?_) | refine Xo (fun hx => ?_) (fun hx => ?_)) <;> (try simp only [Xz, Xy] at hx))
 ·(simp (maxSteps := 1000000) [hx])
  (first | exact hR _ _ FrA | exact hR _ _ FnA | exact hR _ _ (Xf (hq := by simp [AV.erase, AV.unview, knownZ, hx]; done)))
 ·(simp (maxSteps := 1000000) [hx])
  (first | exact hR _ _ FrA | exact hR _ _ FnA | exact hR _ _ (Xf (hq := by simp [AV.erase, AV.unview, knownZ, hx]; done)))
structure Shape where (D A B Imm : Bool)
def shapeZ (x : Int) : Shape :=
 if knownZ x = false then ⟨false, false, false, false⟩ else if x = 1 then ⟨true, false, false, true⟩ else if x ≤ 4 then ⟨true, true, false, false⟩ else if x ≤ 16 then ⟨true, true, true, false⟩ else ⟨false, x == 17, false, false⟩
theorem Jtf9 {P : Program} {p : Nums} (A : All P p) (x : Int) : Jt3w P p.opcode_Of [AI x] [] fun o _ => o = .ret (.tup [.agg [AB (shapeZ x).D, AB (shapeZ x).A, AB (shapeZ x).B, AB (shapeZ x).Imm], AB (knownZ x)]) := by
 refine A.opcode_Of.run rfl fun R hR => ?_
 (simp (maxSteps := 1000000) [Jtaz])
 (refine Jty (Jtfb A _) (by rfl) (by rfl) ?_)
 (simp (maxSteps := 1000000) [])
 ((first | refine Xc (fun h1 => ?_) (fun h1 => ?_) | refine Xo (fun h1 => ?_) (fun h1 => ?_)) <;> (try simp only [Xz, Xy] at h1))
 ·(simp (maxSteps := 1000000) [h1])
  (first | exact hR _ _ FrA | exact hR _ _ FnA | exact hR _ _ (Xf (hq := by simp [AV.erase, AV.unview, shapeZ, h1]; done)))
 ·(simp (maxSteps := 1000000) [h1])
  ((first | refine Xc (fun h2 => ?_) (fun h2 => ?_) | refine Xo (fun h2 => ?_) (fun h2 => ?_)) <;> (try simp only [Xz, Xy] at h2))
  ·subst h2
   (simp (maxSteps := 1000000) [])
   (first | exact hR _ _ FrA | exact hR _ _ FnA | exact hR _ _ (Xf (hq := by simp [AV.erase, AV.unview, shapeZ, h1]; done)))
  ·(simp (maxSteps := 1000000) [h2])
   ((first | refine Xc (fun h3 => ?_) (fun h3 => ?_) | refine Xo (fun h3 => ?_) (fun h3 => ?_)) <;> (try simp only [Xz, Xy] at h3))
   ·(simp (maxSteps := 1000000) [h3])
    (first | exact hR _ _ FrA | exact hR _ _ FnA | exact hR _ _ (Xf (hq := by simp [AV.erase, AV.unview, shapeZ, h1, h2, h3]; done)))
   ·(simp (maxSteps := 1000000) [h3])
    ((first | refine Xc (fun h4 => ?_) (fun h4 => ?_) | refine Xo (fun h4 => ?_) (fun h4 => ?_)) <;> (try simp only [Xz, Xy] at h4))
    ·(simp (maxSteps := 1000000) [h4])
     (first | exact hR _ _ FrA | exact hR _ _ FnA | exact hR _ _ (Xf (hq := by simp [AV.erase, AV.unview, shapeZ, h1, h2, h3, h4]; done)))
    ·(simp (maxSteps := 1000000) [h4])
     (first | exact hR _ _ FrA | exact hR _ _ FnA | exact hR _ _ (Xf (hq := by simp [AV.erase, AV.unview, shapeZ, h1, h2, h3, h4]; done)))
def Jti9 (x : Int) : Bool := knownZ x && x != 18
theorem Jtfa {P : Program} {p : Nums} (A : All P p) (x : Int) : Jt3w P p.opcode_Source [AI x] [] fun o _ => o = .ret (AB (Jti9 x)) := by
 refine A.opcode_Source.run rfl fun R hR => ?_
 (simp (maxSteps := 1000000) [Jtb0])
 (refine Jty (Jtfb A _) (by rfl) (by rfl) ?_)
 (simp (maxSteps := 1000000) [])
 ((first | refine Xc (fun h1 => ?_) (fun h1 => ?_) | refine Xo (fun h1 => ?_) (fun h1 => ?_)) <;> (try simp only [Xz, Xy] at h1))
 ·(simp (maxSteps := 1000000) [h1])
  (first | exact hR _ _ FrA | exact hR _ _ FnA | exact hR _ _ (Xf (hq := by simp [AV.erase, AV.unview, h1, Jti9]; done)))
 ·(simp (maxSteps := 1000000) [h1])
  (first | exact hR _ _ FrA | exact hR _ _ FnA | exact hR _ _ (Xf (hq := by simp [AV.erase, AV.unview, h1, Jti9]; done)))
def inZ (x n : Int) : Bool := decide (0 ≤ x ∧ x < n)
theorem Jtg5 {P : Program} {p : Nums} (A : All P p) (x n : Int) : Jt3w P p.ref07_in [AI x, AI n] [] fun o _ => o = .ret (AB (inZ x n)) := by
 refine A.ref07_in.run rfl fun R hR => ?_
 (simp (maxSteps := 1000000) [Jtba])
 ((first | refine Xc (fun h1 => ?_) (fun h1 => ?_) | refine Xo (fun h1 => ?_) (fun h1 => ?_)) <;> (try simp only [Xz, Xy] at h1))
 ·(simp (maxSteps := 1000000) [h1])
  (first | exact hR _ _ FrA | exact hR _ _ FnA | exact hR _ _ (Xf (hq := by simp [AV.erase, AV.unview, h1, inZ]; done)))
 ·(simp (maxSteps := 1000000) [h1])
  (first | exact hR _ _ FrA | exact hR _ _ FnA | exact hR _ _ (Xf (hq := by simp [AV.erase, AV.unview, h1, inZ]; done)))
def usesA (x : Int) : Bool := decide (2 ≤ x ∧ x ≤ 17)
theorem Jtfx {P : Program} {p : Nums} (A : All P p) (x : Int) : Jt3w P p.ref05_UsesA [AI x] [] fun o _ => o = .ret (AB (usesA x)) := by
 refine A.ref05_UsesA.run rfl fun R hR => ?_
 (simp (maxSteps := 1000000) [Jtb2])
 ((first | refine Xc (fun hx => ?_) (fun hx => ?_) | refine Xo (fun hx => ?_) (fun hx => ?_)) <;> (try simp only [Xz, Xy] at hx))
 ·(simp (maxSteps := 1000000) [hx])
  (first | exact hR _ _ FrA | exact hR _ _ FnA | exact hR _ _ (Xf (hq := by simp [AV.erase, AV.unview, usesA, hx]; done)))
 ·(simp (maxSteps := 1000000) [hx])
  (first | exact hR _ _ FrA | exact hR _ _ FnA | exact hR _ _ (Xf (hq := by simp [AV.erase, AV.unview, usesA, hx]; done)))
def usesB (x : Int) : Bool := decide (5 ≤ x ∧ x ≤ 16)
theorem Jtfy {P : Program} {p : Nums} (A : All P p) (x : Int) : Jt3w P p.ref05_UsesB [AI x] [] fun o _ => o = .ret (AB (usesB x)) := by
 refine A.ref05_UsesB.run rfl fun R hR => ?_
 (simp (maxSteps := 1000000) [Jtb3])
 ((first | refine Xc (fun hx => ?_) (fun hx => ?_) | refine Xo (fun hx => ?_) (fun hx => ?_)) <;> (try simp only [Xz, Xy] at hx))
 ·(simp (maxSteps := 1000000) [hx])
  (first | exact hR _ _ FrA | exact hR _ _ FnA | exact hR _ _ (Xf (hq := by simp [AV.erase, AV.unview, usesB, hx]; done)))
 ·(simp (maxSteps := 1000000) [hx])
  (first | exact hR _ _ FrA | exact hR _ _ FnA | exact hR _ _ (Xf (hq := by simp [AV.erase, AV.unview, usesB, hx]; done)))
def usesD (x : Int) : Bool := decide (1 ≤ x ∧ x ≤ 16)
theorem Jtfz {P : Program} {p : Nums} (A : All P p) (x : Int) : Jt3w P p.ref05_UsesD [AI x] [] fun o _ => o = .ret (AB (usesD x)) := by
 refine A.ref05_UsesD.run rfl fun R hR => ?_
 (simp (maxSteps := 1000000) [Jtb4])
 ((first | refine Xc (fun hx => ?_) (fun hx => ?_) | refine Xo (fun hx => ?_) (fun hx => ?_)) <;> (try simp only [Xz, Xy] at hx))
 ·(simp (maxSteps := 1000000) [hx])
  (first | exact hR _ _ FrA | exact hR _ _ FnA | exact hR _ _ (Xf (hq := by simp [AV.erase, AV.unview, usesD, hx]; done)))
 ·(simp (maxSteps := 1000000) [hx])
  (first | exact hR _ _ FrA | exact hR _ _ FnA | exact hR _ _ (Xf (hq := by simp [AV.erase, AV.unview, usesD, hx]; done)))
end
structure Field where (value : Int) (used : Bool) (bound : Int)
def Field.row (f : Field) : List D := [I f.value, .bool f.used, I f.bound]
def Field.bad (f : Field) : Bool := f.used && (decide (f.value < 0) || decide (f.bound ≤ f.value))
def Jtlk (fs : List Field) : Bool := !fs.any Field.bad
section
theorem Jtih {P : Program} {p : Nums} (A : All P p) (fs : List Field) (hl : fs.length < 1000000) : Jt3w P p.source_within [.d (.sl (fs.map Field.row))] [] fun o _ => o = .ret (AB (Jtlk fs)) := by
 refine A.source_within.run rfl fun R hR => ?_
 (simp (maxSteps := 1000000) [Jtbk])
 refine Jtd (fun k : Nat => ⟨[(7, AI k), (6, AI fs.length), (5, .d (.sl (fs.map Field.row))), (2, AB false)], []⟩) (fun k => k ≤ fs.length ∧ (fs.take k).any Field.bad = false) (fun k => fs.length - k) 0 (by simp) (by (exact wkA)) ?_
 rintro k ⟨hk, hno⟩ N hN
 (simp (maxSteps := 1000000) [])
 ((first | refine Xc (fun h1 => ?_) (fun h1 => ?_) | refine Xo (fun h1 => ?_) (fun h1 => ?_)) <;> (try simp only [Xz, Xy] at h1))
 ·have hkl : k < fs.length := by simpa using h1
  have hf : fs[k]? = some fs[k] := by simp [hkl]
  have hw := Jtlt (k := k) (by omega)
  have htk : fs.take (k + 1) = fs.take k ++ [fs[k]] := by rw [List.take_add_one, hf]; rfl
  have hany : Jtlk fs = true → fs[k].bad = false := by
   intro h; simp [Jtlk] at h; exact h _ (List.getElem_mem hkl)
  have next : ∀ env H, fs[k].bad = false → Wk 0 ⟨env, H⟩ ⟨[(7, AI ((k + 1 : Nat) : Int)), (6, AI fs.length), (5, .d (.sl (fs.map Field.row))), (2, AB false)], []⟩ → N ⟨env, H⟩ :=
   fun env H hb hw => hN _ (k + 1) ⟨hkl, by rw [htk, List.any_append, hno]; simp [hb]⟩ hw (by omega)
  have stop : fs[k].bad = true → Jtlk fs = false := by
   intro h; cases hz : Jtlk fs with
   | false => rfl
   | true => rw [hany hz] at h; cases h
  (simp (maxSteps := 1000000) [h1, hf, Field.row])
  ((first | refine Xc (fun h2 => ?_) (fun h2 => ?_) | refine Xo (fun h2 => ?_) (fun h2 => ?_)) <;> (try simp only [Xz, Xy] at h2))
  ·(simp (maxSteps := 1000000) [h2])
   ((first | refine Xc (fun h3 => ?_) (fun h3 => ?_) | refine Xo (fun h3 => ?_) (fun h3 => ?_)) <;> (try simp only [Xz, Xy] at h3))
   ·(simp (maxSteps := 1000000) [h2, h3])
    (first | exact hR _ _ FrA | exact hR _ _ FnA | exact hR _ _ (Xf (hq := by simp [AV.erase, AV.unview, stop (by simp [Field.bad, h2, h3])]; done)))
   ·(simp (maxSteps := 1000000) [h2, h3])
    ((first | refine Xc (fun h4 => ?_) (fun h4 => ?_) | refine Xo (fun h4 => ?_) (fun h4 => ?_)) <;> (try simp only [Xz, Xy] at h4))
    ·(simp (maxSteps := 1000000) [h2, h3, h4])
     (first | exact hR _ _ FrA | exact hR _ _ FnA | exact hR _ _ (Xf (hq := by simp [AV.erase, AV.unview, stop (by simp [Field.bad, h2, h3, h4])]; done)))
    ·(simp (maxSteps := 1000000) [h2, h3, h4, hw])
     exact next _ _ (by simp [Field.bad, h2, h3, h4]) (by (exact wkA))
  ·(simp (maxSteps := 1000000) [h2, hw])
   exact next _ _ (by simp [Field.bad, h2]) (by (exact wkA))
 ·(simp (maxSteps := 1000000) [h1])
  have hk' : k = fs.length := by simp at h1; omega
  subst hk'
  rw [List.take_length] at hno
  (first | exact hR _ _ FrA | exact hR _ _ FnA | exact hR _ _ (Xf (hq := by simp [AV.erase, AV.unview, Jtlk, hno]; done)))
end
def Field.odd (f : Field) : Bool := !f.used && f.value != 0
def blankZ (fs : List Field) : Bool := !fs.any Field.odd
structure Instr where (op d a b imm : Int)
 deriving DecidableEq, Inhabited
def Instr.row (i : Instr) : List D := [I i.op, I i.d, I i.a, I i.b, I i.imm]
def Instr.av (i : Instr) : AV := .agg [AI i.op, AI i.d, AI i.a, AI i.b, AI i.imm]
structure Term where (kind a to els : Int)
 deriving DecidableEq, Inhabited
def Term.row (i : Term) : List D := [I i.kind, I i.a, I i.to, I i.els]
def Term.av (i : Term) : AV := .agg [AI i.kind, AI i.a, AI i.to, AI i.els]
def flds (i : Instr) (regs : Int) : List Field := [⟨i.d, (shapeZ i.op).D, regs⟩, ⟨i.a, (shapeZ i.op).A, regs⟩, ⟨i.b, (shapeZ i.op).B, regs⟩]
def Jtjd (i : Instr) (regs : Int) : Int :=
 if Jti9 i.op = false then 8 else if Jtlk (flds i regs) = false then 9 else if blankZ (flds i regs) = false then 12 else if (shapeZ i.op).Imm = false ∧ i.imm ≠ 0 then 12 else 0
section
theorem Jtie {P : Program} {p : Nums} (A : All P p) (fs : List Field) (hl : fs.length < 1000000) : Jt3w P p.source_blank [.d (.sl (fs.map Field.row))] [] fun o _ => o = .ret (AB (blankZ fs)) := by
 refine A.source_blank.run rfl fun R hR => ?_
 (simp (maxSteps := 1000000) [Jtbi])
 refine Jtd (fun k : Nat => ⟨[(7, AI k), (6, AI fs.length), (5, .d (.sl (fs.map Field.row))), (2, AB false)], []⟩) (fun k => k ≤ fs.length ∧ (fs.take k).any Field.odd = false) (fun k => fs.length - k) 0 (by simp) (by (exact wkA)) ?_
 rintro k ⟨hk, hno⟩ N hN
 (simp (maxSteps := 1000000) [])
 ((first | refine Xc (fun h1 => ?_) (fun h1 => ?_) | refine Xo (fun h1 => ?_) (fun h1 => ?_)) <;> (try simp only [Xz, Xy] at h1))
 ·have hkl : k < fs.length := by simpa using h1
  have hf : fs[k]? = some fs[k] := by simp [hkl]
  have hw := Jtlt (k := k) (by omega)
  have htk : fs.take (k + 1) = fs.take k ++ [fs[k]] := by rw [List.take_add_one, hf]; rfl
  have hany : blankZ fs = true → fs[k].odd = false := by
   intro h; simp [blankZ] at h; exact h _ (List.getElem_mem hkl)
  have next : ∀ env H, fs[k].odd = false → Wk 0 ⟨env, H⟩ ⟨[(7, AI ((k + 1 : Nat) : Int)), (6, AI fs.length), (5, .d (.sl (fs.map Field.row))), (2, AB false)], []⟩ → N ⟨env, H⟩ :=
   fun env H hb hw => hN _ (k + 1) ⟨hkl, by rw [htk, List.any_append, hno]; simp [hb]⟩ hw (by omega)
  have stop : fs[k].odd = true → blankZ fs = false := by
   intro h; cases hz : blankZ fs with
   | false => rfl
   | true => rw [hany hz] at h; cases h
  (simp (maxSteps := 1000000) [h1, hf, Field.row])
  ((first | refine Xc (fun h2 => ?_) (fun h2 => ?_) | refine Xo (fun h2 => ?_) (fun h2 => ?_)) <;> (try simp only [Xz, Xy] at h2))
  ·(simp (maxSteps := 1000000) [h2])
   ((first | refine Xc (fun h3 => ?_) (fun h3 => ?_) | refine Xo (fun h3 => ?_) (fun h3 => ?_)) <;> (try simp only [Xz, Xy] at h3))
   ·(simp (maxSteps := 1000000) [h2, h3])
    (first | exact hR _ _ FrA | exact hR _ _ FnA | exact hR _ _ (Xf (hq := by simp [AV.erase, AV.unview, stop (by simp [Field.odd, h2, h3])]; done)))
   ·(simp (maxSteps := 1000000) [h2, h3, hw])
    exact next _ _ (by simp [Field.odd, h2, h3]) (by (exact wkA))
  ·(simp (maxSteps := 1000000) [h2, hw])
   exact next _ _ (by simp [Field.odd, h2]) (by (exact wkA))
 ·(simp (maxSteps := 1000000) [h1])
  have hk' : k = fs.length := by simp at h1; omega
  subst hk'
  rw [List.take_length] at hno
  (first | exact hR _ _ FrA | exact hR _ _ FnA | exact hR _ _ (Xf (hq := by simp [AV.erase, AV.unview, blankZ, hno]; done)))
theorem Jtic {P : Program} {p : Nums} (A : All P p) (i : Instr) (regs : Int) : Jt3w P p.source_Instr [i.av, AI regs] [] fun o _ => o = .ret (AI (Jtjd i regs)) := by
 have hflds : AV.d (.sl [[I i.d, .bool (shapeZ i.op).D, I regs], [I i.a, .bool (shapeZ i.op).A, I regs], [I i.b, .bool (shapeZ i.op).B, I regs]]) = .d (.sl ((flds i regs).map Field.row)) := rfl
 refine A.source_Instr.run rfl fun R hR => ?_
 (simp (maxSteps := 1000000) [Jtbg, Instr.av])
 (refine Jty (Jtf9 A _) (by rfl) (by rfl) ?_)
 (simp (maxSteps := 1000000) [])
 (refine Jty (Jtfa A _) (by rfl) (by rfl) ?_)
 (simp (maxSteps := 1000000) [])
 ((first | refine Xc (fun h1 => ?_) (fun h1 => ?_) | refine Xo (fun h1 => ?_) (fun h1 => ?_)) <;> (try simp only [Xz, Xy] at h1))
 ·(simp (maxSteps := 1000000) [h1])
  (first | exact hR _ _ FrA | exact hR _ _ FnA | exact hR _ _ (Xf (hq := by simp [AV.erase, AV.unview, Jtjd, h1]; done)))
 ·(simp (maxSteps := 1000000) [h1])
  (refine Jty (Jtih A (flds i regs) (by simp [flds])) (by rfl) (by rfl) ?_)
  (simp (maxSteps := 1000000) [])
  ((first | refine Xc (fun h2 => ?_) (fun h2 => ?_) | refine Xo (fun h2 => ?_) (fun h2 => ?_)) <;> (try simp only [Xz, Xy] at h2))
  ·(simp (maxSteps := 1000000) [h2])
   (first | exact hR _ _ FrA | exact hR _ _ FnA | exact hR _ _ (Xf (hq := by simp [AV.erase, AV.unview, Jtjd, h1, h2]; done)))
  ·(simp (maxSteps := 1000000) [h2])
   (refine Jty (Jtie A (flds i regs) (by simp [flds])) (by rfl) (by rfl) ?_)
   (simp (maxSteps := 1000000) [])
   ((first | refine Xc (fun h3 => ?_) (fun h3 => ?_) | refine Xo (fun h3 => ?_) (fun h3 => ?_)) <;> (try simp only [Xz, Xy] at h3))
   ·(simp (maxSteps := 1000000) [h3])
    (first | exact hR _ _ FrA | exact hR _ _ FnA | exact hR _ _ (Xf (hq := by simp [AV.erase, AV.unview, Jtjd, h1, h2, h3]; done)))
   ·(simp (maxSteps := 1000000) [h3])
    ((first | refine Xc (fun h4 => ?_) (fun h4 => ?_) | refine Xo (fun h4 => ?_) (fun h4 => ?_)) <;> (try simp only [Xz, Xy] at h4))
    ·(simp (maxSteps := 1000000) [h4])
     ((first | refine Xc (fun h5 => ?_) (fun h5 => ?_) | refine Xo (fun h5 => ?_) (fun h5 => ?_)) <;> (try simp only [Xz, Xy] at h5))
     ·(simp (maxSteps := 1000000) [h5])
      (first | exact hR _ _ FrA | exact hR _ _ FnA | exact hR _ _ (Xf (hq := by simp [AV.erase, AV.unview, Jtjd, h1, h2, h3, h4, h5]; done)))
     ·(simp (maxSteps := 1000000) [h5])
      (first | exact hR _ _ FrA | exact hR _ _ FnA | exact hR _ _ (Xf (hq := by simp [AV.erase, AV.unview, Jtjd, h1, h2, h3, h4, h5]; done)))
    ·(simp (maxSteps := 1000000) [h4])
     (first | exact hR _ _ FrA | exact hR _ _ FnA | exact hR _ _ (Xf (hq := by simp [AV.erase, AV.unview, Jtjd, h1, h2, h3, h4]; done)))
def fldsT (t : Term) (regs blocks : Int) : List Field := [⟨t.a, t.kind != 1, regs⟩, ⟨t.to, t.kind != 3, blocks⟩, ⟨t.els, t.kind == 2, blocks⟩]
def Jtje (t : Term) (regs blocks : Int) : Int :=
 if t.kind < 1 ∨ 3 < t.kind then 16 else if Jtlk ((fldsT t regs blocks).take 1) = false then 9 else if Jtlk ((fldsT t regs blocks).drop 1) = false then 11 else if blankZ (fldsT t regs blocks) = false then 12 else 0
theorem Jtid {P : Program} {p : Nums} (A : All P p) (t : Term) (regs blocks : Int) : Jt3w P p.source_Term [t.av, AI regs, AI blocks] [] fun o _ => o = .ret (AI (Jtje t regs blocks)) := by
 refine A.source_Term.run rfl fun R hR => ?_
 (simp (maxSteps := 1000000) [Jtbh, Term.av])
 ((first | refine Xc (fun h1 => ?_) (fun h1 => ?_) | refine Xo (fun h1 => ?_) (fun h1 => ?_)) <;> (try simp only [Xz, Xy] at h1))
 ·(simp (maxSteps := 1000000) [h1])
  (first | exact hR _ _ FrA | exact hR _ _ FnA | exact hR _ _ (Xf (hq := by simp [AV.erase, AV.unview, Jtje, h1]; done)))
 ·(simp (maxSteps := 1000000) [h1])
  ((first | refine Xc (fun h2 => ?_) (fun h2 => ?_) | refine Xo (fun h2 => ?_) (fun h2 => ?_)) <;> (try simp only [Xz, Xy] at h2))
  ·(simp (maxSteps := 1000000) [h2])
   (first | exact hR _ _ FrA | exact hR _ _ FnA | exact hR _ _ (Xf (hq := by simp [AV.erase, AV.unview, Jtje, h1, h2]; done)))
  ·(simp (maxSteps := 1000000) [h2])
   (refine Jty (Jtih A ((fldsT t regs blocks).take 1) (by simp [fldsT])) (by rfl) (by rfl) ?_)
   (simp (maxSteps := 1000000) [])
   ((first | refine Xc (fun h3 => ?_) (fun h3 => ?_) | refine Xo (fun h3 => ?_) (fun h3 => ?_)) <;> (try simp only [Xz, Xy] at h3))
   ·(simp (maxSteps := 1000000) [h3])
    (first | exact hR _ _ FrA | exact hR _ _ FnA | exact hR _ _ (Xf (hq := by simp [AV.erase, AV.unview, Jtje, h1, h2, h3]; done)))
   ·(simp (maxSteps := 1000000) [h3])
    (refine Jty (Jtih A ((fldsT t regs blocks).drop 1) (by simp [fldsT])) (by rfl) (by rfl) ?_)
    (simp (maxSteps := 1000000) [])
    ((first | refine Xc (fun h4 => ?_) (fun h4 => ?_) | refine Xo (fun h4 => ?_) (fun h4 => ?_)) <;> (try simp only [Xz, Xy] at h4))
    ·(simp (maxSteps := 1000000) [h4])
     (first | exact hR _ _ FrA | exact hR _ _ FnA | exact hR _ _ (Xf (hq := by simp [AV.erase, AV.unview, Jtje, h1, h2, h3, h4]; done)))
    ·(simp (maxSteps := 1000000) [h4])
     (refine Jty (Jtie A (fldsT t regs blocks) (by simp [fldsT])) (by rfl) (by rfl) ?_)
     (simp (maxSteps := 1000000) [])
     ((first | refine Xc (fun h5 => ?_) (fun h5 => ?_) | refine Xo (fun h5 => ?_) (fun h5 => ?_)) <;> (try simp only [Xz, Xy] at h5))
     ·(simp (maxSteps := 1000000) [h5])
      (first | exact hR _ _ FrA | exact hR _ _ FnA | exact hR _ _ (Xf (hq := by simp [AV.erase, AV.unview, Jtje, h1, h2, h3, h4, h5]; done)))
     ·(simp (maxSteps := 1000000) [h5])
      (first | exact hR _ _ FrA | exact hR _ _ FnA | exact hR _ _ (Xf (hq := by simp [AV.erase, AV.unview, Jtje, h1, h2, h3, h4, h5]; done)))
end
structure Block where (code : List Instr) (term : Term)
 deriving Inhabited
def Block.row (b : Block) : List D := [.sl (b.code.map Instr.row), I b.term.kind, I b.term.a, I b.term.to, I b.term.els]
def Block.av (b : Block) : AV := .agg [.d (.sl (b.code.map Instr.row)), AI b.term.kind, AI b.term.a, AI b.term.to, AI b.term.els]
structure Func where (args regs : Int) (blocks : List Block)
def Func.av (f : Func) : AV := .agg [AI f.args, AI f.regs, .d (.sl (f.blocks.map Block.row))]
def codeN (bs : List Block) : Nat := (bs.map fun b => b.code.length).sum
theorem Jt73 {bs : List Block} {k : Nat} {b : Block} (h : bs[k]? = some b) : codeN (bs.take (k + 1)) = codeN (bs.take k) + b.code.length := by
 rw [codeN, List.take_add_one, h]; simp [codeN]
theorem Jt70 (a b : List Block) : codeN (a ++ b) = codeN a + codeN b := by simp [codeN]
theorem Jt72 (bs : List Block) (k : Nat) : codeN (bs.take k) ≤ codeN bs := by
 have h := Jt70 (bs.take k) (bs.drop k)
 rw [List.take_append_drop] at h; omega
def Jt8f : List Int → Int
 | [] => 0
 | e :: es => if e ≠ 0 then e else Jt8f es
theorem Jt8j {es : List Int} {k : Nat} (h : ∀ e ∈ es.take k, e = 0) : Jt8f es = Jt8f (es.drop k) := by
 induction k generalizing es with
 | zero => rfl
 | succ k ih =>
  cases es with
  | nil => rfl
  | cons e es =>
   have : e = 0 := h e (by simp)
   simp only [Jt8f, this, ne_eq, not_true_eq_false, if_false, List.drop_succ_cons]
   exact ih fun x hx => h x (by simp [hx])
theorem Jt8i {es : List Int} {k : Nat} {e : Int} (h : ∀ e ∈ es.take k, e = 0) (hk : es[k]? = some e) (he : e ≠ 0) : Jt8f es = e := by
 rw [Jt8j h]
 have hlt := (List.getElem?_eq_some_iff.1 hk).1
 rw [List.drop_eq_getElem_cons hlt]
 have : es[k] = e := (List.getElem?_eq_some_iff.1 hk).2
 simp [Jt8f, this, he]
theorem Jt8g {es : List Int} (h : ∀ e ∈ es, e = 0) : Jt8f es = 0 := by
 rw [Jt8j (k := es.length) (by simpa using h)]; simp [Jt8f]
def Jtja (b : Block) (regs blocks : Int) : Int :=
 let e := Jt8f (b.code.map (Jtjd · regs))
 if e ≠ 0 then e else Jtje b.term regs blocks
theorem take_zero {α : Type} {f : α → Int} {l : List α} {k : Nat} {x : α} (h : ∀ e ∈ (l.map f).take k, e = 0) (hx : l[k]? = some x) (h0 : f x = 0) : ∀ e ∈ (l.map f).take (k + 1), e = 0 := by
 intro e he
 rw [List.take_add_one, List.mem_append] at he
 rcases he with he | he
 ·exact h e he
 ·rw [List.getElem?_map, hx] at he; simp at he; rw [he]; exact h0
section
theorem Jtib {P : Program} {p : Nums} (A : All P p) (f : Func) (h0 : f.blocks.length < 1000000000) (h1 : codeN f.blocks < 1000000000) : Jt3w P p.source_Code [f.av] [] fun o _ => o = .ret (AI (codeN f.blocks)) := by
 refine A.source_Code.run rfl fun R hR => ?_
 (simp (maxSteps := 1000000) [Jtbf, Func.av])
 refine Jtd (fun k : Nat => ⟨[(9, AI k), (8, AI f.blocks.length), (7, .d (.sl (f.blocks.map Block.row))), (3, AI (codeN (f.blocks.take k)))], []⟩) (fun k => k ≤ f.blocks.length) (fun k => f.blocks.length - k) 0 (by simp) (by (exact wkA)) ?_
 intro k hk N hN
 (simp (maxSteps := 1000000) [])
 ((first | refine Xc (fun h2 => ?_) (fun h2 => ?_) | refine Xo (fun h2 => ?_) (fun h2 => ?_)) <;> (try simp only [Xz, Xy] at h2))
 ·have hkl : k < f.blocks.length := by simpa using h2
  have hb : f.blocks[k]? = some f.blocks[k] := by simp [hkl]
  have hw := Jtlt (k := k) (by omega)
  have hs := Jt73 hb
  have hle := Jt72 f.blocks (k + 1)
  have hw2 := Jtls (a := codeN (f.blocks.take k)) (b := f.blocks[k].code.length) (by omega)
  rw [← hs] at hw2
  (simp (maxSteps := 1000000) [h2, List.getElem?_map, hb, Block.row, hw, hw2])
  exact hN _ (k + 1) hkl (by (exact wkA)) (by omega)
 ·have hk' : k = f.blocks.length := by simp at h2; omega
  subst hk'
  (simp (maxSteps := 1000000) [])
  (first | exact hR _ _ FrA | exact hR _ _ FnA | exact hR _ _ (Xf (hq := by simp [AV.erase, AV.unview, List.take_length]; done)))
theorem Jtif {P : Program} {p : Nums} (A : All P p) (b : Block) (regs blocks : Int) (h0 : b.code.length < 1000000000) : Jt3w P p.source_block [b.av, AI regs, AI blocks] [] fun o _ => o = .ret (AI (Jtja b regs blocks)) := by
 refine A.source_block.run rfl fun R hR => ?_
 (simp (maxSteps := 1000000) [Jtbj, Block.av])
 refine Jtd (fun k : Nat => ⟨[(13, AI k), (12, AI b.code.length), (11, .d (.sl (b.code.map Instr.row))), (3, .ptr 0 0), (1, AI regs), (2, AI blocks)], [.mem [.d (.sl (b.code.map Instr.row)), AI b.term.kind, AI b.term.a, AI b.term.to, AI b.term.els]]⟩)
  (fun k => k ≤ b.code.length ∧ ∀ e ∈ (b.code.map (Jtjd · regs)).take k, e = 0) (fun k => b.code.length - k) 0 (by simp) (by (exact wkA)) ?_
 rintro k ⟨hk, hz⟩ N hN
 (simp (maxSteps := 1000000) [])
 ((first | refine Xc (fun h2 => ?_) (fun h2 => ?_) | refine Xo (fun h2 => ?_) (fun h2 => ?_)) <;> (try simp only [Xz, Xy] at h2))
 ·have hkl : k < b.code.length := by simpa using h2
  have hb : b.code[k]? = some b.code[k] := by simp [hkl]
  have hw := Jtlt (k := k) (by omega)
  (simp (maxSteps := 1000000) [h2, hb, Instr.row])
  (refine Jty (Jtic A b.code[k] regs) (by rfl) (by rfl) ?_)
  (simp (maxSteps := 1000000) [])
  ((first | refine Xc (fun h3 => ?_) (fun h3 => ?_) | refine Xo (fun h3 => ?_) (fun h3 => ?_)) <;> (try simp only [Xz, Xy] at h3))
  ·(simp (maxSteps := 1000000) [h3])
   have : Jt8f (b.code.map (Jtjd · regs)) = Jtjd b.code[k] regs := Jt8i hz (by simp [hkl]) h3
   (first | exact hR _ _ FrA | exact hR _ _ FnA | exact hR _ _ (Xf (hq := by simp [AV.erase, AV.unview, Jtja, this, h3]; done)))
  ·(simp (maxSteps := 1000000) [h3, hw])
   exact hN _ (k + 1) ⟨hkl, take_zero hz hb (by simpa using h3)⟩ (by (exact wkA)) (by omega)
 ·have hk' : k = b.code.length := by simp at h2; omega
  subst hk'
  have hfe : Jt8f (b.code.map (Jtjd · regs)) = 0 := Jt8g (by rw [List.take_of_length_le (by simp)] at hz; exact hz)
  (simp (maxSteps := 1000000) [])
  (refine Jty (Jtid A b.term regs blocks) (by rfl) (by rfl) ?_)
  (simp (maxSteps := 1000000) [])
  (first | exact hR _ _ FrA | exact hR _ _ FnA | exact hR _ _ (Xf (hq := by simp [AV.erase, AV.unview, Jtja, hfe]; done)))
def Jtjb (f : Func) : Int :=
 if f.args < 0 ∨ f.regs < f.args then 9 else if 1048576 < f.regs then 6 else if f.blocks.length = 0 then 14 else if 1048576 < f.blocks.length ∨ 1048576 < codeN f.blocks then 6
 else Jt8f (f.blocks.map fun b => Jtja b f.regs f.blocks.length)
theorem Jtia {P : Program} {p : Nums} (A : All P p) (f : Func) (h0 : f.blocks.length < 1000000000) (h1 : codeN f.blocks < 1000000000) : Jt3w P p.source_Check [f.av] [] fun o _ => o = .ret (AI (Jtjb f)) := by
 refine A.source_Check.run rfl fun R hR => ?_
 (simp (maxSteps := 1000000) [Jtbe, Func.av])
 ((first | refine Xc (fun a1 => ?_) (fun a1 => ?_) | refine Xo (fun a1 => ?_) (fun a1 => ?_)) <;> (try simp only [Xz, Xy] at a1))
 ·(simp (maxSteps := 1000000) [a1])
  have e : Jtjb f = 9 := by unfold Jtjb; repeat (first | rw [if_pos (by omega)] | rw [if_neg (by omega)])
  (first | exact hR _ _ FrA | exact hR _ _ FnA | exact hR _ _ (Xf (hq := by simp [AV.erase, AV.unview, e]; done)))
 (simp (maxSteps := 1000000) [a1])
 ((first | refine Xc (fun a2 => ?_) (fun a2 => ?_) | refine Xo (fun a2 => ?_) (fun a2 => ?_)) <;> (try simp only [Xz, Xy] at a2))
 ·(simp (maxSteps := 1000000) [a2])
  have e : Jtjb f = 9 := by unfold Jtjb; repeat (first | rw [if_pos (by omega)] | rw [if_neg (by omega)])
  (first | exact hR _ _ FrA | exact hR _ _ FnA | exact hR _ _ (Xf (hq := by simp [AV.erase, AV.unview, e]; done)))
 (simp (maxSteps := 1000000) [a2])
 ((first | refine Xc (fun a3 => ?_) (fun a3 => ?_) | refine Xo (fun a3 => ?_) (fun a3 => ?_)) <;> (try simp only [Xz, Xy] at a3))
 ·(simp (maxSteps := 1000000) [a3])
  have e : Jtjb f = 6 := by unfold Jtjb; repeat (first | rw [if_pos (by omega)] | rw [if_neg (by omega)])
  (first | exact hR _ _ FrA | exact hR _ _ FnA | exact hR _ _ (Xf (hq := by simp [AV.erase, AV.unview, e]; done)))
 (simp (maxSteps := 1000000) [a3])
 ((first | refine Xc (fun a4 => ?_) (fun a4 => ?_) | refine Xo (fun a4 => ?_) (fun a4 => ?_)) <;> (try simp only [Xz, Xy] at a4))
 ·(simp (maxSteps := 1000000) [a4])
  have e : Jtjb f = 14 := by unfold Jtjb; repeat (first | rw [if_pos (by omega)] | rw [if_neg (by omega)])
  (first | exact hR _ _ FrA | exact hR _ _ FnA | exact hR _ _ (Xf (hq := by simp [AV.erase, AV.unview, e]; done)))
 (simp (maxSteps := 1000000) [a4])
 ((first | refine Xc (fun a5 => ?_) (fun a5 => ?_) | refine Xo (fun a5 => ?_) (fun a5 => ?_)) <;> (try simp only [Xz, Xy] at a5))
 ·(simp (maxSteps := 1000000) [a5])
  have e : Jtjb f = 6 := by unfold Jtjb; repeat (first | rw [if_pos (by omega)] | rw [if_neg (by omega)])
  (first | exact hR _ _ FrA | exact hR _ _ FnA | exact hR _ _ (Xf (hq := by simp [AV.erase, AV.unview, e]; done)))
 (simp (maxSteps := 1000000) [a5])
 (refine Jty (Jtib A f h0 h1) (by rfl) (by rfl) ?_)
 (simp (maxSteps := 1000000) [])
 ((first | refine Xc (fun a6 => ?_) (fun a6 => ?_) | refine Xo (fun a6 => ?_) (fun a6 => ?_)) <;> (try simp only [Xz, Xy] at a6))
 ·(simp (maxSteps := 1000000) [a6])
  have e : Jtjb f = 6 := by unfold Jtjb; repeat (first | rw [if_pos (by omega)] | rw [if_neg (by omega)])
  (first | exact hR _ _ FrA | exact hR _ _ FnA | exact hR _ _ (Xf (hq := by simp [AV.erase, AV.unview, e]; done)))
 (simp (maxSteps := 1000000) [a6])
 have e : Jtjb f = Jt8f (f.blocks.map fun b => Jtja b f.regs f.blocks.length) := by
  unfold Jtjb; repeat (first | rw [if_pos (by omega)] | rw [if_neg (by omega)])
 refine Jtd (fun k : Nat => ⟨[(39, AI k), (38, AI f.blocks.length), (37, .d (.sl (f.blocks.map Block.row))), (1, .ptr 0 0)], [.mem [AI f.args, AI f.regs, .d (.sl (f.blocks.map Block.row))]]⟩)
  (fun k => k ≤ f.blocks.length ∧ ∀ e ∈ (f.blocks.map fun b => Jtja b f.regs f.blocks.length).take k, e = 0) (fun k => f.blocks.length - k) 0 (by simp) (by (exact wkA)) ?_
 rintro k ⟨hk, hz⟩ N hN
 (simp (maxSteps := 1000000) [])
 ((first | refine Xc (fun h2 => ?_) (fun h2 => ?_) | refine Xo (fun h2 => ?_) (fun h2 => ?_)) <;> (try simp only [Xz, Xy] at h2))
 ·have hkl : k < f.blocks.length := by simpa using h2
  have hb : f.blocks[k]? = some f.blocks[k] := by simp [hkl]
  have hw := Jtlt (k := k) (by omega)
  have hbl : f.blocks[k].code.length < 1000000000 := by
   have h3 := Jt73 hb
   have h4 := Jt72 f.blocks (k + 1)
   omega
  (simp (maxSteps := 1000000) [h2, hb, Block.row])
  (refine Jty (Jtif A f.blocks[k] f.regs f.blocks.length hbl) (by rfl) (by rfl) ?_)
  (simp (maxSteps := 1000000) [])
  ((first | refine Xc (fun h3 => ?_) (fun h3 => ?_) | refine Xo (fun h3 => ?_) (fun h3 => ?_)) <;> (try simp only [Xz, Xy] at h3))
  ·(simp (maxSteps := 1000000) [h3])
   have e2 : Jt8f (f.blocks.map fun b => Jtja b f.regs f.blocks.length) = Jtja f.blocks[k] f.regs f.blocks.length := Jt8i hz (by simp [hkl]) h3
   (first | exact hR _ _ FrA | exact hR _ _ FnA | exact hR _ _ (Xf (hq := by simp [AV.erase, AV.unview, e, e2]; done)))
  ·(simp (maxSteps := 1000000) [h3, hw])
   exact hN _ (k + 1) ⟨hkl, take_zero hz hb (by simpa using h3)⟩ (by (exact wkA)) (by omega)
 ·have hk' : k = f.blocks.length := by simp at h2; omega
  subst hk'
  have hfe : Jt8f (f.blocks.map fun b => Jtja b f.regs f.blocks.length) = 0 := Jt8g (by rw [List.take_of_length_le (by simp)] at hz; exact hz)
  (simp (maxSteps := 1000000) [])
  (first | exact hR _ _ FrA | exact hR _ _ FnA | exact hR _ _ (Xf (hq := by simp [AV.erase, AV.unview, e, hfe]; done)))
end
def bad9 (i : Instr) (regs : Int) : Bool := usesD i.op && !inZ i.d regs || usesA i.op && !inZ i.a regs || usesB i.op && !inZ i.b regs
def bad12 (i : Instr) : Bool := !usesD i.op && i.d != 0 || !usesA i.op && i.a != 0 || !usesB i.op && i.b != 0 || i.op != 1 && i.imm != 0
def Jtga (i : Instr) (regs : Int) : Int := if i.op < 1 ∨ 17 < i.op then 8 else if bad9 i regs = true then 9 else if bad12 i = true then 12 else 0
def Jtgg (t : Term) (regs blocks : Int) : Int :=
 if t.kind = 1 then (if inZ t.to blocks = false then 11 else if t.a ≠ 0 ∨ t.els ≠ 0 then 12 else 0)
 else if t.kind = 2 then (if inZ t.a regs = false then 9 else if inZ t.to blocks = false ∨ inZ t.els blocks = false then 11 else 0)
 else if t.kind = 3 then (if inZ t.a regs = false then 9 else if t.to ≠ 0 ∨ t.els ≠ 0 then 12 else 0)
 else 16
section
theorem Jtg4 {P : Program} {p : Nums} (A : All P p) (t : Term) (regs blocks : Int) : Jt3w P p.ref07_Term [t.av, AI regs, AI blocks] [] fun o _ => o = .ret (AI (Jtgg t regs blocks)) := by
 refine A.ref07_Term.run rfl fun R hR => ?_
 (simp (maxSteps := 1000000) [Jtb9, Term.av])
 repeat' (first | ((refine Jty (Jtg5 A _ _) (by rfl) (by rfl) ?_); (simp (maxSteps := 1000000) [])) | (((first | refine Xc (fun hbr => ?_) (fun hbr => ?_) | refine Xo (fun hbr => ?_) (fun hbr => ?_)) <;> (try simp only [Xz, Xy] at hbr)) <;> simp (maxSteps := 1000000) [hbr]) | ((first | refine hR _ _ (Jt3y _ rfl rfl ?_) | refine hR _ _ (Jt3x _ rfl rfl ?_)); clear hR; (try simp_all [AV.erase, AV.unview, Jtgg])))
end
section
set_option maxHeartbeats 4000000 in
theorem Jtg3 {P : Program} {p : Nums} (A : All P p) (i : Instr) (regs : Int) : Jt3w P p.ref07_Instr [i.av, AI regs] [] fun o _ => o = .ret (AI (Jtga i regs)) := by
 refine A.ref07_Instr.run rfl fun R hR => ?_
 (simp (maxSteps := 1000000) [Jtb8, Instr.av])
 rw [Je99]
 refine Jte ⟨[(12, AB (decide (i.op < 1) || decide (17 < i.op))), (2, .ptr 0 0), (4, AI 0), (1, AI regs)], [.mem [AI i.op, AI i.d, AI i.a, AI i.b, AI i.imm]]⟩ (fun N hN => ?_) ?_
 ·(simp (maxSteps := 1000000) [])
  ((first | refine Xc (fun h => ?_) (fun h => ?_) | refine Xo (fun h => ?_) (fun h => ?_)) <;> (try simp only [Xz, Xy] at h))
  ·(simp (maxSteps := 1000000) [h])
   exact hN _ (by simp only [h]; (exact wkA))
  ·(simp (maxSteps := 1000000) [h])
   exact hN _ (by simp only [h]; (exact wkA))
 ((first | refine Xc (fun h1 => ?_) (fun h1 => ?_) | refine Xo (fun h1 => ?_) (fun h1 => ?_)) <;> (try simp only [Xz, Xy] at h1))
 ·(simp (maxSteps := 1000000) [h1])
  have e : Jtga i regs = 8 := by unfold Jtga; rw [if_pos h1]
  (first | exact hR _ _ FrA | exact hR _ _ FnA | exact hR _ _ (Xf (hq := by simp [AV.erase, AV.unview, e]; done)))
 (simp (maxSteps := 1000000) [h1])
 rw [Je9a]
 refine Jte ⟨[(46, AB (bad9 i regs)), (2, .ptr 0 0), (4, AI 0), (1, AI regs)], [.mem [AI i.op, AI i.d, AI i.a, AI i.b, AI i.imm]]⟩ (fun N hN => ?_) ?_
 ·(simp (maxSteps := 1000000) [])
  cases uD : usesD i.op <;> cases uA : usesA i.op <;> cases uB : usesB i.op <;> cases nD : inZ i.d regs <;> cases nA : inZ i.a regs <;> cases nB : inZ i.b regs <;>
   (repeat' (first | ((refine Jty (Jtg5 A _ _) (by rfl) (by rfl) ?_); (simp (maxSteps := 1000000) [nD, nA, nB])) | ((refine Jty (Jtfx A _) (by rfl) (by rfl) ?_); (simp (maxSteps := 1000000) [uA])) | ((refine Jty (Jtfy A _) (by rfl) (by rfl) ?_); (simp (maxSteps := 1000000) [uB])) | ((refine Jty (Jtfz A _) (by rfl) (by rfl) ?_); (simp (maxSteps := 1000000) [uD])))) <;>
   exact hN _ (by simp only [bad9, uD, uA, uB, nD, nA, nB]; (exact wkA))
 ((first | refine Xc (fun h2 => ?_) (fun h2 => ?_) | refine Xo (fun h2 => ?_) (fun h2 => ?_)) <;> (try simp only [Xz, Xy] at h2))
 ·(simp (maxSteps := 1000000) [h2])
  have e : Jtga i regs = 9 := by unfold Jtga; rw [if_neg (by simp at h1; omega), if_pos h2]
  (first | exact hR _ _ FrA | exact hR _ _ FnA | exact hR _ _ (Xf (hq := by simp [AV.erase, AV.unview, e]; done)))
 (simp (maxSteps := 1000000) [h2])
 rw [Je9b]
 refine Jte ⟨[(87, AB (bad12 i)), (2, .ptr 0 0), (4, AI 0), (1, AI regs)], [.mem [AI i.op, AI i.d, AI i.a, AI i.b, AI i.imm]]⟩ (fun N hN => ?_) ?_
 ·clear hR h1 h2
  (simp (maxSteps := 1000000) [])
  cases uD : usesD i.op <;> cases uA : usesA i.op <;> cases uB : usesB i.op <;>
   (repeat' (first | ((refine Jty (Jtfx A _) (by rfl) (by rfl) ?_); (simp (maxSteps := 1000000) [uA])) | ((refine Jty (Jtfy A _) (by rfl) (by rfl) ?_); (simp (maxSteps := 1000000) [uB])) | ((refine Jty (Jtfz A _) (by rfl) (by rfl) ?_); (simp (maxSteps := 1000000) [uD])) | (((first | refine Xc (fun hbr => ?_) (fun hbr => ?_) | refine Xo (fun hbr => ?_) (fun hbr => ?_)) <;> (try simp only [Xz, Xy] at hbr)) <;> simp (maxSteps := 1000000) [hbr]))) <;>
   (refine hN _ ?_; clear hN; cases hb : bad12 i) <;> (first | ((exact wkA); done) | (exfalso; simp_all [bad12]; done) | (simp_all [bad12]; (exact wkA); done) | (cases hi : (i.imm != 0) <;> first | ((exact wkA); done) | (simp only [*]; (exact wkA); done) | (exfalso; simp_all [bad12]; done)))
 ((first | refine Xc (fun h3 => ?_) (fun h3 => ?_) | refine Xo (fun h3 => ?_) (fun h3 => ?_)) <;> (try simp only [Xz, Xy] at h3))
 ·(simp (maxSteps := 1000000) [h3])
  have e : Jtga i regs = 12 := by unfold Jtga; rw [if_neg (by simp at h1; omega), if_neg (by simpa using h2), if_pos h3]
  (first | exact hR _ _ FrA | exact hR _ _ FnA | exact hR _ _ (Xf (hq := by simp [AV.erase, AV.unview, e]; done)))
 (simp (maxSteps := 1000000) [h3])
 have e : Jtga i regs = 0 := by unfold Jtga; rw [if_neg (by simp at h1; omega), if_neg (by simpa using h2), if_neg (by simpa using h3)]
 (first | exact hR _ _ FrA | exact hR _ _ FnA | exact hR _ _ (Xf (hq := by simp [AV.erase, AV.unview, e]; done)))
end
def few (f : Func) : Bool := decide (f.blocks.length ≤ 40) && decide (f.regs ≤ 60) && f.blocks.all (fun b => decide (b.code.length ≤ 100)) && decide (codeN f.blocks ≤ 300)
def Jtg8 (b : Block) (regs blocks : Int) : Int :=
 let e := Jt8f (b.code.map (Jtga · regs))
 if e ≠ 0 then e else Jtgg b.term regs blocks
def Jtg9 (f : Func) : Int :=
 if f.args < 0 ∨ f.regs < f.args then 9 else if 1048576 < f.regs then 6 else if f.blocks.length = 0 then 14 else if 1048576 < f.blocks.length ∨ 1048576 < codeN f.blocks then 6
 else Jt8f (f.blocks.map fun b => Jtg8 b f.regs f.blocks.length)
theorem Jt71 {bs : List Block} (h : ∀ b ∈ bs, b.code.length ≤ 100) : codeN bs ≤ 100 * bs.length := by
 induction bs with
 | nil => simp [codeN]
 | cons b bs ih =>
  have h1 := h b (by simp)
  have h2 := ih fun x hx => h x (by simp [hx])
  simp only [codeN, List.map_cons, List.sum_cons, List.length_cons] at *
  omega
theorem Jt8d {f : Func} : few f = true ↔ f.blocks.length ≤ 40 ∧ f.regs ≤ 60 ∧ (∀ b ∈ f.blocks, b.code.length ≤ 100) ∧ codeN f.blocks ≤ 300 := by
 simp [few, and_assoc]
section
theorem Jtg1 {P : Program} {p : Nums} (A : All P p) (f : Func) (h0 : f.blocks.length < 1000000000) (h1 : codeN f.blocks < 1000000000) : Jt3w P p.ref07_Code [f.av] [] fun o _ => o = .ret (AI (codeN f.blocks)) := by
 refine A.ref07_Code.run rfl fun R hR => ?_
 (simp (maxSteps := 1000000) [Jtb6, Func.av])
 refine Jtd (fun k : Nat => ⟨[(4, AI k), (1, .ptr 0 0), (3, AI (codeN (f.blocks.take k)))], [.mem [AI f.args, AI f.regs, .d (.sl (f.blocks.map Block.row))]]⟩) (fun k => k ≤ f.blocks.length) (fun k => f.blocks.length - k) 0 (by simp) (by (exact wkA)) ?_
 intro k hk N hN
 (simp (maxSteps := 1000000) [])
 ((first | refine Xc (fun h2 => ?_) (fun h2 => ?_) | refine Xo (fun h2 => ?_) (fun h2 => ?_)) <;> (try simp only [Xz, Xy] at h2))
 ·have hkl : k < f.blocks.length := by simpa using h2
  have hb : f.blocks[k]? = some f.blocks[k] := by simp [hkl]
  have hw := Jtlt (k := k) (by omega)
  have hs := Jt73 hb
  have hle := Jt72 f.blocks (k + 1)
  have hw2 := Jtls (a := codeN (f.blocks.take k)) (b := f.blocks[k].code.length) (by omega)
  rw [← hs] at hw2
  (simp (maxSteps := 1000000) [h2, List.getElem?_map, hb, Block.row, hw, hw2])
  exact hN _ (k + 1) hkl (by (exact wkA)) (by omega)
 ·have hk' : k = f.blocks.length := by simp at h2; omega
  subst hk'
  (simp (maxSteps := 1000000) [])
  (first | exact hR _ _ FrA | exact hR _ _ FnA | exact hR _ _ (Xf (hq := by simp [AV.erase, AV.unview, List.take_length]; done)))
theorem Jtg2 {P : Program} {p : Nums} (A : All P p) (f : Func) : Jt3w P p.ref07_Few [f.av] [] fun o _ => o = .ret (AB (few f)) := by
 refine A.ref07_Few.run rfl fun R hR => ?_
 (simp (maxSteps := 1000000) [Jtb7, Func.av])
 ((first | refine Xc (fun a1 => ?_) (fun a1 => ?_) | refine Xo (fun a1 => ?_) (fun a1 => ?_)) <;> (try simp only [Xz, Xy] at a1))
 ·(simp (maxSteps := 1000000) [a1])
  have e : few f = false := by simp [few]; omega
  (first | exact hR _ _ FrA | exact hR _ _ FnA | exact hR _ _ (Xf (hq := by simp [AV.erase, AV.unview, e]; done)))
 (simp (maxSteps := 1000000) [a1])
 ((first | refine Xc (fun a2 => ?_) (fun a2 => ?_) | refine Xo (fun a2 => ?_) (fun a2 => ?_)) <;> (try simp only [Xz, Xy] at a2))
 ·(simp (maxSteps := 1000000) [a2])
  have e : few f = false := by simp [few]; omega
  (first | exact hR _ _ FrA | exact hR _ _ FnA | exact hR _ _ (Xf (hq := by simp [AV.erase, AV.unview, e]; done)))
 (simp (maxSteps := 1000000) [a2])
 refine Jtd (fun k : Nat => ⟨[(3, AI k), (1, .ptr 0 0)], [.mem [AI f.args, AI f.regs, .d (.sl (f.blocks.map Block.row))]]⟩)
  (fun k => k ≤ f.blocks.length ∧ ∀ b ∈ f.blocks.take k, b.code.length ≤ 100) (fun k => f.blocks.length - k) 0 (by simp) (by (exact wkA)) ?_
 rintro k ⟨hk, hz⟩ N hN
 (simp (maxSteps := 1000000) [])
 ((first | refine Xc (fun h2 => ?_) (fun h2 => ?_) | refine Xo (fun h2 => ?_) (fun h2 => ?_)) <;> (try simp only [Xz, Xy] at h2))
 ·have hkl : k < f.blocks.length := by simpa using h2
  have hb : f.blocks[k]? = some f.blocks[k] := by simp [hkl]
  have hw := Jtlt (k := k) (by omega)
  (simp (maxSteps := 1000000) [h2, hb, Block.row])
  ((first | refine Xc (fun h3 => ?_) (fun h3 => ?_) | refine Xo (fun h3 => ?_) (fun h3 => ?_)) <;> (try simp only [Xz, Xy] at h3))
  ·(simp (maxSteps := 1000000) [h3])
   have e : few f = false := by
    have : ¬ (∀ b ∈ f.blocks, b.code.length ≤ 100) := fun h => by have := h f.blocks[k] (by simp); omega
    simp [few]; intro _ _ h; exact absurd h this
   (first | exact hR _ _ FrA | exact hR _ _ FnA | exact hR _ _ (Xf (hq := by simp [AV.erase, AV.unview, e]; done)))
  ·(simp (maxSteps := 1000000) [h3, hw])
   refine hN _ (k + 1) ⟨hkl, ?_⟩ (by (exact wkA)) (by omega)
   intro b hb'
   rw [List.take_add_one, hb, List.mem_append] at hb'
   rcases hb' with hb' | hb'
   ·exact hz b hb'
   ·simp at hb'; subst hb'; omega
 ·have hk' : k = f.blocks.length := by simp at h2; omega
  subst hk'
  (simp (maxSteps := 1000000) [])
  have hcb : codeN f.blocks ≤ 100 * f.blocks.length := Jt71 (by rw [List.take_length] at hz; exact hz)
  (refine Jty (Jtg1 A f (by omega) (by omega)) (by rfl) (by rfl) ?_)
  (simp (maxSteps := 1000000) [])
  have e : few f = decide ((codeN f.blocks : Int) ≤ 300) := by
   rw [List.take_length] at hz
   have e1 : f.blocks.all (fun b => decide (b.code.length ≤ 100)) = true := by simpa using hz
   have e2 : decide (f.blocks.length ≤ 40) = true := by simp; omega
   have e3 : decide (f.regs ≤ 60) = true := by simp; omega
   simp only [few, e1, e2, e3, Bool.true_and]
   congr 1; simp; omega
  (first | exact hR _ _ FrA | exact hR _ _ FnA | exact hR _ _ (Xf (hq := by simp [AV.erase, AV.unview, e]; done)))
theorem Jtg0 {P : Program} {p : Nums} (A : All P p) (f : Func) (h0 : f.blocks.length < 1000000000) (h1 : codeN f.blocks < 1000000000) : Jt3w P p.ref07_Check [f.av] [] fun o _ => o = .ret (AI (Jtg9 f)) := by
 refine A.ref07_Check.run rfl fun R hR => ?_
 (simp (maxSteps := 1000000) [Jtb5, Func.av])
 ((first | refine Xc (fun a1 => ?_) (fun a1 => ?_) | refine Xo (fun a1 => ?_) (fun a1 => ?_)) <;> (try simp only [Xz, Xy] at a1))
 ·(simp (maxSteps := 1000000) [a1])
  have e : Jtg9 f = 9 := by unfold Jtg9; repeat (first | rw [if_pos (by omega)] | rw [if_neg (by omega)])
  (first | exact hR _ _ FrA | exact hR _ _ FnA | exact hR _ _ (Xf (hq := by simp [AV.erase, AV.unview, e]; done)))
 (simp (maxSteps := 1000000) [a1])
 ((first | refine Xc (fun a2 => ?_) (fun a2 => ?_) | refine Xo (fun a2 => ?_) (fun a2 => ?_)) <;> (try simp only [Xz, Xy] at a2))
 ·(simp (maxSteps := 1000000) [a2])
  have e : Jtg9 f = 9 := by unfold Jtg9; repeat (first | rw [if_pos (by omega)] | rw [if_neg (by omega)])
  (first | exact hR _ _ FrA | exact hR _ _ FnA | exact hR _ _ (Xf (hq := by simp [AV.erase, AV.unview, e]; done)))
 (simp (maxSteps := 1000000) [a2])
 ((first | refine Xc (fun a3 => ?_) (fun a3 => ?_) | refine Xo (fun a3 => ?_) (fun a3 => ?_)) <;> (try simp only [Xz, Xy] at a3))
 ·(simp (maxSteps := 1000000) [a3])
  have e : Jtg9 f = 6 := by unfold Jtg9; repeat (first | rw [if_pos (by omega)] | rw [if_neg (by omega)])
  (first | exact hR _ _ FrA | exact hR _ _ FnA | exact hR _ _ (Xf (hq := by simp [AV.erase, AV.unview, e]; done)))
 (simp (maxSteps := 1000000) [a3])
 ((first | refine Xc (fun a4 => ?_) (fun a4 => ?_) | refine Xo (fun a4 => ?_) (fun a4 => ?_)) <;> (try simp only [Xz, Xy] at a4))
 ·(simp (maxSteps := 1000000) [a4])
  have e : Jtg9 f = 14 := by unfold Jtg9; repeat (first | rw [if_pos (by omega)] | rw [if_neg (by omega)])
  (first | exact hR _ _ FrA | exact hR _ _ FnA | exact hR _ _ (Xf (hq := by simp [AV.erase, AV.unview, e]; done)))
 (simp (maxSteps := 1000000) [a4])
 ((first | refine Xc (fun a5 => ?_) (fun a5 => ?_) | refine Xo (fun a5 => ?_) (fun a5 => ?_)) <;> (try simp only [Xz, Xy] at a5))
 ·(simp (maxSteps := 1000000) [a5])
  have e : Jtg9 f = 6 := by unfold Jtg9; repeat (first | rw [if_pos (by omega)] | rw [if_neg (by omega)])
  (first | exact hR _ _ FrA | exact hR _ _ FnA | exact hR _ _ (Xf (hq := by simp [AV.erase, AV.unview, e]; done)))
 (simp (maxSteps := 1000000) [a5])
 (refine Jty (Jtg1 A f h0 h1) (by rfl) (by rfl) ?_)
 (simp (maxSteps := 1000000) [])
 ((first | refine Xc (fun a6 => ?_) (fun a6 => ?_) | refine Xo (fun a6 => ?_) (fun a6 => ?_)) <;> (try simp only [Xz, Xy] at a6))
 ·(simp (maxSteps := 1000000) [a6])
  have e : Jtg9 f = 6 := by unfold Jtg9; repeat (first | rw [if_pos (by omega)] | rw [if_neg (by omega)])
  (first | exact hR _ _ FrA | exact hR _ _ FnA | exact hR _ _ (Xf (hq := by simp [AV.erase, AV.unview, e]; done)))
 (simp (maxSteps := 1000000) [a6])
 have e : Jtg9 f = Jt8f (f.blocks.map fun b => Jtg8 b f.regs f.blocks.length) := by
  unfold Jtg9; repeat (first | rw [if_pos (by omega)] | rw [if_neg (by omega)])
 refine Jtd (fun k : Nat => ⟨[(3, AI k), (2, AI 0), (1, .ptr 0 0)], [.mem [AI f.args, AI f.regs, .d (.sl (f.blocks.map Block.row))]]⟩)
  (fun k => k ≤ f.blocks.length ∧ ∀ e ∈ (f.blocks.map fun b => Jtg8 b f.regs f.blocks.length).take k, e = 0) (fun k => f.blocks.length - k) 0 (by simp) (by (exact wkA)) ?_
 rintro k ⟨hk, hz⟩ N hN
 (simp (maxSteps := 1000000) [])
 ((first | refine Xc (fun h2 => ?_) (fun h2 => ?_) | refine Xo (fun h2 => ?_) (fun h2 => ?_)) <;> (try simp only [Xz, Xy] at h2))
 ·have hkl : k < f.blocks.length := by simpa using h2
  have hb : f.blocks[k]? = some f.blocks[k] := by simp [hkl]
  have hw := Jtlt (k := k) (by omega)
  have hbl : f.blocks[k].code.length < 1000000000 := by
   have h3 := Jt73 hb
   have h4 := Jt72 f.blocks (k + 1)
   omega
  (simp (maxSteps := 1000000) [h2, hb, Block.row])
  refine Jtd (fun j : Nat => ⟨[(5, AI j), (4, .ptr 1 0), (3, AI k), (2, AI 0), (1, .ptr 0 0)], [.mem [AI f.args, AI f.regs, .d (.sl (f.blocks.map Block.row))], .mem [.d (.sl (f.blocks[k].code.map Instr.row)), AI f.blocks[k].term.kind, AI f.blocks[k].term.a, AI f.blocks[k].term.to, AI f.blocks[k].term.els]]⟩)
   (fun j => j ≤ f.blocks[k].code.length ∧ ∀ e ∈ (f.blocks[k].code.map (Jtga · f.regs)).take j, e = 0) (fun j => f.blocks[k].code.length - j) 0 (by simp) (by (exact wkA)) ?_
  rintro j ⟨hj, hy⟩ N' hN'
  (simp (maxSteps := 1000000) [])
  ((first | refine Xc (fun h3 => ?_) (fun h3 => ?_) | refine Xo (fun h3 => ?_) (fun h3 => ?_)) <;> (try simp only [Xz, Xy] at h3))
  ·have hjl : j < f.blocks[k].code.length := by simpa using h3
   have hbj : f.blocks[k].code[j]? = some f.blocks[k].code[j] := by simp [hjl]
   have hwj := Jtlt (k := j) (by omega)
   (simp (maxSteps := 1000000) [h3, hbj, Instr.row])
   (refine Jty (Jtg3 A f.blocks[k].code[j] f.regs) (by rfl) (by rfl) ?_)
   (simp (maxSteps := 1000000) [])
   ((first | refine Xc (fun h4 => ?_) (fun h4 => ?_) | refine Xo (fun h4 => ?_) (fun h4 => ?_)) <;> (try simp only [Xz, Xy] at h4))
   ·(simp (maxSteps := 1000000) [h4])
    have e2 : Jt8f (f.blocks[k].code.map (Jtga · f.regs)) = Jtga f.blocks[k].code[j] f.regs := Jt8i hy (by simp [hjl]) h4
    have e3 : Jtg8 f.blocks[k] f.regs f.blocks.length = Jtga f.blocks[k].code[j] f.regs := by simp [Jtg8, e2, h4]
    have e4 : Jt8f (f.blocks.map fun b => Jtg8 b f.regs f.blocks.length) = Jtg8 f.blocks[k] f.regs f.blocks.length := Jt8i hz (by simp [hkl]) (by rw [e3]; exact h4)
    (first | exact hR _ _ FrA | exact hR _ _ FnA | exact hR _ _ (Xf (hq := by simp [AV.erase, AV.unview, e, e4, e3]; done)))
   ·(simp (maxSteps := 1000000) [h4, hwj])
    exact hN' _ (j + 1) ⟨hjl, take_zero hy hbj (by simpa using h4)⟩ (by (exact wkA)) (by omega)
  ·have hj' : j = f.blocks[k].code.length := by simp at h3; omega
   subst hj'
   have hfe : Jt8f (f.blocks[k].code.map (Jtga · f.regs)) = 0 := Jt8g (by rw [List.take_of_length_le (by simp)] at hy; exact hy)
   have e3 : Jtg8 f.blocks[k] f.regs f.blocks.length = Jtgg f.blocks[k].term f.regs f.blocks.length := by simp [Jtg8, hfe]
   (simp (maxSteps := 1000000) [])
   (refine Jty (Jtg4 A f.blocks[k].term f.regs f.blocks.length) (by rfl) (by rfl) ?_)
   (simp (maxSteps := 1000000) [])
   ((first | refine Xc (fun h5 => ?_) (fun h5 => ?_) | refine Xo (fun h5 => ?_) (fun h5 => ?_)) <;> (try simp only [Xz, Xy] at h5))
   ·(simp (maxSteps := 1000000) [h5])
    have e4 : Jt8f (f.blocks.map fun b => Jtg8 b f.regs f.blocks.length) = Jtg8 f.blocks[k] f.regs f.blocks.length := Jt8i hz (by simp [hkl]) (by rw [e3]; exact h5)
    (first | exact hR _ _ FrA | exact hR _ _ FnA | exact hR _ _ (Xf (hq := by simp [AV.erase, AV.unview, e, e4, e3]; done)))
   ·(simp (maxSteps := 1000000) [h5, hw])
    exact hN _ (k + 1) ⟨hkl, take_zero hz hb (by rw [e3]; simpa using h5)⟩ (by (exact wkA)) (by omega)
 ·have hk' : k = f.blocks.length := by simp at h2; omega
  subst hk'
  have hfe : Jt8f (f.blocks.map fun b => Jtg8 b f.regs f.blocks.length) = 0 := Jt8g (by rw [List.take_of_length_le (by simp)] at hz; exact hz)
  (simp (maxSteps := 1000000) [])
  (first | exact hR _ _ FrA | exact hR _ _ FnA | exact hR _ _ (Xf (hq := by simp [AV.erase, AV.unview, e, hfe]; done)))
end
structure MBlock where (code : List Mach) (term : Term)
 deriving Inhabited
def MBlock.row (b : MBlock) : List D := [.sl (b.code.map Mach.row), I b.term.kind, I b.term.a, I b.term.to, I b.term.els]
def MBlock.av (b : MBlock) : AV := .agg [.d (.sl (b.code.map Mach.row)), AI b.term.kind, AI b.term.a, AI b.term.to, AI b.term.els]
structure MFunc where (args regs slots : Int) (blocks : List MBlock)
def MFunc.av (f : MFunc) : AV := .agg [AI f.args, AI f.regs, AI f.slots, .d (.sl (f.blocks.map MBlock.row))]
def witD (w : List (List Pair)) : D := .sl (w.map fun l => [pairsD l])
structure Cert where (S : Func) (T : MFunc) (W : List (List Pair))
def Cert.av (c : Cert) : AV := .agg [AI c.S.args, AI c.S.regs, .d (.sl (c.S.blocks.map Block.row)), AI c.T.args, AI c.T.regs, AI c.T.slots, .d (.sl (c.T.blocks.map MBlock.row)), .d (witD c.W)]
section
end
def opM (i : Instr) (b : Int) : Mach := ⟨i.op, 0, 0, b, i.imm, 0, 0⟩
def Jtip (i : Instr) : List Mach :=
  (if (shapeZ i.op).A = true then [mvM (regZ 0) (slotZ i.a)] else []) ++
  ((if (i.op != 2) = true then (if (shapeZ i.op).B = true then [mvM (regZ 1) (slotZ i.b), opM i 1] else [opM i 0]) else []) ++
   (if (shapeZ i.op).D = true then [mvM (slotZ i.d) (regZ 0)] else []))
def spCode (l : List Instr) : List Mach := l.flatMap Jtip
def Jtii (b : Block) : MBlock := ⟨spCode b.code ++ (if b.term.kind = 1 then [] else [mvM (regZ 0) (slotZ b.term.a)]), { b.term with a := 0 }⟩
theorem Jtiq (i : Instr) : (Jtip i).length ≤ 4 := by
 unfold Jtip
 split <;> split <;> (try split) <;> (try split) <;> simp
theorem Jtim (l : List Instr) : (spCode l).length ≤ 4 * l.length := by
 induction l with
 | nil => simp [spCode]
 | cons i l ih =>
  have := Jtiq i
  simp only [spCode, List.flatMap_cons, List.length_append, List.length_cons] at *
  omega
theorem Jtij (b : Block) : (Jtii b).code.length ≤ 4 * b.code.length + 1 := by
 have := Jtim b.code
 simp only [Jtii, List.length_append]
 split <;> simp <;> omega
section
theorem Jt67 {P : Program} {p : Nums} (A : All P p) (rows l : List (List D)) (hl : ∀ r ∈ l, r.length = 7) (h : rows.length + l.length ≤ 1000000000) : Jt3w P p.spillall_builder_add [.ptr 0 0, .d (.sl l)] [.mem [.own 7 rows]]
  fun o H' => o = .ret (.tup []) ∧ H' = [.mem [.own 7 (rows ++ l)]] := by
 refine A.spillall_builder_add.run rfl fun R hR => ?_
 (simp (maxSteps := 1000000) [Jtbo])
 (refine Jt1a (by rfl) (by rfl) (by rfl) ?_ (by decide) ?_ ?_ ?_)
 ·exact hl
 ·omega
 ·omega
 (simp (maxSteps := 1000000) [])
 exact hR _ _ (Fin_wk (.tup []) (.tup []) [.mem [.own 7 (rows ++ l)]] rfl (by (exact wkA)) ⟨rfl, rfl⟩)
theorem Jt68 {P : Program} {p : Nums} (A : All P p) (rows : List (List D)) (i : Instr) (h : rows.length ≤ 900000000) : Jt3w P p.spillall_builder_instr [.ptr 0 0, i.av] [.mem [.own 7 rows]]
  fun o H' => o = .ret (.tup []) ∧ H' = [.mem [.own 7 (rows ++ (Jtip i).map Mach.row)]] := by
 refine A.spillall_builder_instr.run rfl fun R hR => ?_
 (simp (maxSteps := 1000000) [Jtbp, Instr.av])
 (refine Jty (Jtf9 A i.op) (by rfl) (by rfl) ?_)
 (simp (maxSteps := 1000000) [])
 have hs : Jtip i = Jtip i := rfl
 conv at hs => rhs; unfold Jtip
 cases hA : (shapeZ i.op).A <;> cases hB : (shapeZ i.op).B <;> cases hD : (shapeZ i.op).D <;> cases h2 : (i.op != 2) <;>
  simp only [hA, hB, hD, h2, if_true, if_false, List.nil_append, List.append_nil, List.cons_append, reduceCtorEq] at hs <;>
  (simp (maxSteps := 1000000) [hA, hB, hD, h2]) <;>
  (repeat' (first
   | ((refine Jty (Jtj5 A _ _) (by rfl) (by rfl) ?_); (simp (maxSteps := 1000000) [Mach.av, mvM]))
   | ((refine Jty (Jtj6 A _) (by rfl) (by rfl) ?_); (simp (maxSteps := 1000000) [Mach.av, mvM]))
   | (refine Jt10 [0] (Jt67 A _ _ ?_ ?_) (by decide) (by rfl) (by rfl) (by rfl) (by rfl) (by rfl) (by rfl) ?_; (focus (simp; done)); (focus (simp; omega)); (simp (maxSteps := 1000000) [hA, hB, hD, h2])))) <;>
  (refine hR _ _ (Fin_wk (.tup []) (.tup []) [.mem [.own 7 (rows ++ (Jtip i).map Mach.row)]] rfl ?_ ⟨rfl, rfl⟩); rw [hs]; simp [Mach.row, mvM, opM]; (exact wkA))
end
def Jthp (s : Nat × Nat) (m : Mach) : Nat × Nat := let n := if (m.op != 18) = true then 0 else s.2 + 1; (max s.1 n, n)
def Jthi (l : List Mach) : Nat × Nat := l.foldl Jthp (0, 0)
def Jtiw (b : Block) : Nat := (Jthi (Jtii b).code).1
theorem Jthj (l : List Mach) : (Jthi l).1 ≤ l.length ∧ (Jthi l).2 ≤ l.length := by
 suffices ∀ (l : List Mach) (s : Nat × Nat), (l.foldl Jthp s).1 ≤ max s.1 (s.2 + l.length) ∧ (l.foldl Jthp s).2 ≤ s.2 + l.length by
  have := this l (0, 0); simp only [Jthi]; omega
 intro l
 induction l with
 | nil => intro s; simp; omega
 | cons m l ih =>
  intro s
  have := ih (Jthp s m)
  simp only [List.foldl_cons, List.length_cons]
  have h2 : (Jthp s m).2 ≤ s.2 + 1 := by simp only [Jthp]; split <;> omega
  have h1 : (Jthp s m).1 ≤ max s.1 (s.2 + 1) := by simp only [Jthp]; split <;> omega
  omega
theorem Jthk {l : List Mach} {k : Nat} {m : Mach} (h : l[k]? = some m) : Jthi (l.take (k + 1)) = Jthp (Jthi (l.take k)) m := by
 rw [Jthi, List.take_add_one, h]; simp [Jthi]
def spInv (n : Nat) : List Pair := (List.range n).map fun (v : Nat) => ⟨(v : Int), slotZ v⟩
def Jtch (n k : Nat) : List (List D) := (spInv k).map Pair.row ++ List.replicate (n - k) [I 0, I 0]
theorem Jtci {n k : Nat} (h : k ≤ n) : (Jtch n k).length = n := by simp [Jtch, spInv]; omega
theorem Jtck {n k : Nat} : ∀ r ∈ Jtch n k, r.length = 2 := by
 intro r hr
 rcases List.mem_append.1 hr with hr | hr
 ·obtain ⟨x, _, rfl⟩ := List.mem_map.1 hr; rfl
 ·rw [List.eq_of_mem_replicate hr]; rfl
theorem Jtcj {n k : Nat} (h : k < n) : (Jtch n k).set k [I k, I (slotZ k)] = Jtch n (k + 1) := by
 have e1 : n - k = (n - (k + 1)) + 1 := by omega
 have e2 : ((spInv k).map Pair.row).length = k := by simp [spInv]
 simp only [Jtch, e1, List.replicate_succ]
 conv => lhs; rw [List.set_append_right _ _ (by omega), e2, Nat.sub_self, List.set_cons_zero]
 have e3 : spInv (k + 1) = spInv k ++ [⟨k, slotZ k⟩] := by simp [spInv, List.range_succ]
 rw [e3]; simp [Pair.row]
section
theorem Jtj0 {P : Program} {p : Nums} (A : All P p) (b : Block) (h0 : b.code.length ≤ 10000000) : Jt3w P p.spillall_Block [b.av] [] fun o _ => o = .ret (Jtii b).av := by
 refine A.spillall_Block.run rfl fun R hR => ?_
 (simp (maxSteps := 1000000) [Jtbl, Block.av])
 refine Jtd (fun k : Nat => ⟨[(10, AI k), (9, AI b.code.length), (8, .d (.sl (b.code.map Instr.row))), (3, .ptr 2 0), (2, .ptr 1 0), (1, .ptr 0 0)],
  [.mem [.d (.sl (b.code.map Instr.row)), AI b.term.kind, AI b.term.a, AI b.term.to, AI b.term.els], .mem [.nils, AI 0, AI 0, AI 0, AI 0], .mem [.own 7 ((spCode (b.code.take k)).map Mach.row)]]⟩)
  (fun k => k ≤ b.code.length) (fun k => b.code.length - k) 0 (by simp) (by (exact wkA)) ?_
 intro k hk N hN
 (simp (maxSteps := 1000000) [])
 ((first | refine Xc (fun h2 => ?_) (fun h2 => ?_) | refine Xo (fun h2 => ?_) (fun h2 => ?_)) <;> (try simp only [Xz, Xy] at h2))
 ·have hkl : k < b.code.length := by simpa using h2
  have hb : b.code[k]? = some b.code[k] := by simp [hkl]
  have hw := Jtlt (k := k) (by omega)
  have hle := Jtim (b.code.take k)
  have hl2 := List.length_take_le k b.code
  have hs : spCode (b.code.take (k + 1)) = spCode (b.code.take k) ++ Jtip b.code[k] := by
   rw [List.take_add_one, hb]; simp only [spCode, Option.toList_some, List.flatMap_append, List.flatMap_cons, List.flatMap_nil, List.append_nil]
  (simp (maxSteps := 1000000) [h2, hb, Instr.row])
  refine Jt10 [2] (Jt68 A _ b.code[k] ?_) (by decide) (by rfl) (by rfl) (by rfl) (by rfl) (by rfl) (by rfl) ?_
  ·simp; omega
  (simp (maxSteps := 1000000) [hw])
  exact hN _ (k + 1) hkl (by rw [hs]; simp only [List.map_append]; (exact wkA)) (by omega)
 ·have hk' : k = b.code.length := by simp at h2; omega
  subst hk'
  rw [List.take_length]
  have hle := Jtim b.code
  (simp (maxSteps := 1000000) [])
  ((first | refine Xc (fun h3 => ?_) (fun h3 => ?_) | refine Xo (fun h3 => ?_) (fun h3 => ?_)) <;> (try simp only [Xz, Xy] at h3))
  ·(simp (maxSteps := 1000000) [h3])
   (refine Jty (Jtj5 A _ _) (by rfl) (by rfl) ?_)
   (simp (maxSteps := 1000000) [Mach.av, mvM])
   refine Jt10 [2] (Jt67 A _ _ ?_ ?_) (by decide) (by rfl) (by rfl) (by rfl) (by rfl) (by rfl) (by rfl) ?_
   ·simp
   ·simp; omega
   (simp (maxSteps := 1000000) [])
   (first | exact hR _ _ FrA | exact hR _ _ FnA | exact hR _ _ (Xf (hq := by simp [AV.erase, AV.unview, MBlock.av, Jtii, h3, Mach.row, mvM]; done)))
  ·(simp (maxSteps := 1000000) [h3])
   (first | exact hR _ _ FrA | exact hR _ _ FnA | exact hR _ _ (Xf (hq := by simp [AV.erase, AV.unview, MBlock.av, Jtii, h3, Mach.row, mvM]; done)))
theorem Jtj2 {P : Program} {p : Nums} (A : All P p) (b : Block) (h0 : b.code.length ≤ 10000000) : Jt3w P p.spillall_Moves [b.av] [] fun o _ => o = .ret (AI (Jtiw b)) := by
 refine A.spillall_Moves.run rfl fun R hR => ?_
 (simp (maxSteps := 1000000) [Jtbn, Block.av])
 (refine Jty (Jtj0 A b h0) (by rfl) (by rfl) ?_)
 have hbl := Jtij b
 generalize hc : (Jtii b).code = code at hbl
 (simp (maxSteps := 1000000) [MBlock.av, hc])
 refine Jtd (fun k : Nat => ⟨[(11, AI k), (10, AI code.length), (9, .d (.sl (code.map Mach.row))), (3, AI (Jthi (code.take k)).1), (4, AI (Jthi (code.take k)).2), (2, AI 0)], []⟩)
  (fun k => k ≤ code.length) (fun k => code.length - k) 0 (by simp) (by (exact wkA)) ?_
 intro k hk N hN
 (simp (maxSteps := 1000000) [])
 ((first | refine Xc (fun h2 => ?_) (fun h2 => ?_) | refine Xo (fun h2 => ?_) (fun h2 => ?_)) <;> (try simp only [Xz, Xy] at h2))
 ·have hkl : k < code.length := by simpa using h2
  have hb : code[k]? = some code[k] := by simp [hkl]
  have hw := Jtlt (k := k) (by omega)
  have hle := Jthj (code.take k)
  have hl2 := List.length_take_le k code
  have hs := Jthk hb
  have hw2 := Jtlt (k := (Jthi (code.take k)).2) (by omega)
  (simp (maxSteps := 1000000) [h2, hb, Mach.row, hw, hw2])
  ((first | refine Xc (fun h3 => ?_) (fun h3 => ?_) | refine Xo (fun h3 => ?_) (fun h3 => ?_)) <;> (try simp only [Xz, Xy] at h3))
  ·(simp (maxSteps := 1000000) [h3, hw])
   have e1 : (Jthi (code.take (k + 1))) = ((Jthi (code.take k)).1, 0) := by rw [hs]; simp [Jthp, h3]
   have e2 : (if ((Jthi (code.take k)).1 : Int) < 0 then 0 else ((Jthi (code.take k)).1 : Int)) = ((Jthi (code.take k)).1 : Int) := by split <;> omega
   exact hN _ (k + 1) hkl (by rw [e1, e2]; (exact wkA)) (by omega)
  ·(simp (maxSteps := 1000000) [h3, hw])
   have e1 : (Jthi (code.take (k + 1))) = (max (Jthi (code.take k)).1 ((Jthi (code.take k)).2 + 1), (Jthi (code.take k)).2 + 1) := by rw [hs]; simp [Jthp, h3]
   have e2 : (if ((Jthi (code.take k)).1 : Int) < (Jthi (code.take k)).2 + 1 then ((Jthi (code.take k)).2 : Int) + 1 else ((Jthi (code.take k)).1 : Int)) = ((max (Jthi (code.take k)).1 ((Jthi (code.take k)).2 + 1) : Nat) : Int) := by split <;> omega
   exact hN _ (k + 1) hkl (by rw [e1, e2]; (exact wkA)) (by omega)
 ·have hk' : k = code.length := by simp at h2; omega
  subst hk'
  rw [List.take_length]
  (simp (maxSteps := 1000000) [])
  (first | exact hR _ _ FrA | exact hR _ _ FnA | exact hR _ _ (Xf (hq := by simp [AV.erase, AV.unview, Jtiw, hc]; done)))
theorem Jtj3 {P : Program} {p : Nums} (A : All P p) (n : Nat) (h0 : n ≤ 10000000) : Jt3w P p.spillall_invariant [AI n] [] fun o _ => o = .ret (.d (pairsD (spInv n))) := by
 refine A.spillall_invariant.run rfl fun R hR => ?_
 (simp (maxSteps := 1000000) [Jtbq])
 refine Jt23 (n := n) (by rfl) (by rfl) (by omega) (by omega) (by decide) rfl ?_
 (simp (maxSteps := 1000000) [])
 refine Jtd (fun k : Nat => ⟨[(8, AI k), (7, AI n), (3, .hsl 0 0 2 n), (2, .nils)], [.mem (Jth5 (Jtch n k))]⟩) (fun k => k ≤ n) (fun k => n - k) 0 (by simp) ?_ ?_
 ·have e : Jtch n 0 = List.replicate n [I 0, I 0] := by simp [Jtch, spInv]
  rw [e]; (exact wkA)
 intro k hk N hN
 (simp (maxSteps := 1000000) [])
 ((first | refine Xc (fun h2 => ?_) (fun h2 => ?_) | refine Xo (fun h2 => ?_) (fun h2 => ?_)) <;> (try simp only [Xz, Xy] at h2))
 ·have hkl : k < n := by simpa using h2
  have hw := Jtlt (k := k) (by omega)
  have hl := Jth6 (Jtck (n := n) (k := k))
  rw [Jtci hk] at hl
  have e := Jtj9 (k := k) (row := [I k, I (slotZ k)]) (Jtck (n := n) (k := k)) rfl (by rw [Jtci hk]; exact hkl)
  rw [Jtcj hkl] at e
  simp [spl] at e
  (simp (maxSteps := 1000000) [h2])
  (refine Jty (Jtdo A _) (by rfl) (by rfl) ?_)
  (simp (maxSteps := 1000000) [h2, hkl, hw])
  refine ⟨by omega, ?_⟩
  rw [e]
  exact hN _ (k + 1) hkl (by (exact wkA)) (by omega)
 ·have hk' : k = n := by simp at h2; omega
  subst hk'
  (simp (maxSteps := 1000000) [])
  refine hR _ _ (Jt3z (.hsl 0 0 2 k) (.d (pairsD (spInv k))) [] rfl ?_ rfl)
  have e : Jtch k k = (spInv k).map Pair.row := by simp [Jtch]
  rw [e]
  refine Wk.of ⟨⟨_, rfl, .inl (.hsl 0 0 2 k (Jth5 ((spInv k).map Pair.row)) _ rfl (by simp) ?_ (by simp [spInv]) ?_)⟩, trivial⟩ (by simp [WkHs]) (by simp)
  ·have := Jth6 (rows := (spInv k).map Pair.row) (e := 2) (Jth9 fun _ => rfl)
   rw [List.drop_zero, List.take_of_length_le (by rw [this]; simp [spInv])]; rfl
  ·exact Jth9 fun _ => rfl
end
def mcodeN (bs : List MBlock) : Nat := (bs.map fun b => b.code.length).sum
theorem Jte4 {bs : List MBlock} {k : Nat} {b : MBlock} (h : bs[k]? = some b) : mcodeN (bs.take (k + 1)) = mcodeN (bs.take k) + b.code.length := by
 rw [mcodeN, List.take_add_one, h]; simp [mcodeN]
theorem Jte1 (a b : List MBlock) : mcodeN (a ++ b) = mcodeN a + mcodeN b := by simp [mcodeN]
theorem Jte2 (bs : List MBlock) (k : Nat) : mcodeN (bs.take k) ≤ mcodeN bs := by
 have h := Jte1 (bs.take k) (bs.drop k)
 rw [List.take_append_drop] at h; omega
theorem Jte3 (bs : List Block) : mcodeN (bs.map Jtii) ≤ 4 * codeN bs + bs.length := by
 induction bs with
 | nil => simp [mcodeN]
 | cons b bs ih =>
  have := Jtij b
  simp only [mcodeN, codeN, List.map_cons, List.sum_cons, List.length_cons] at *
  omega
def mostN (l : List Nat) : Nat := l.foldl max 0
theorem Jtel {l : List Nat} {k x : Nat} (h : l[k]? = some x) : mostN (l.take (k + 1)) = max (mostN (l.take k)) x := by
 rw [mostN, List.take_add_one, h]; simp [mostN]
def Jt6r : Cert := ⟨⟨0, 0, []⟩, ⟨0, 0, 0, []⟩, []⟩
def spCert (f : Func) : Cert := ⟨f, ⟨f.args, 2, f.regs, f.blocks.map Jtii⟩, List.replicate f.blocks.length (spInv f.regs.toNat)⟩
def spRun (f : Func) : Nat := mostN (f.blocks.map Jtiw)
def prodZ (f : Func) : Int := IntKind.i64.wrap (f.blocks.length * f.regs)
def Jtil (f : Func) : Cert × Int :=
 if Jtjb f ≠ 0 then (Jt6r, Jtjb f) else if prodZ f > 1048576 then (Jt6r, 6) else if mcodeN (f.blocks.map Jtii) > 1048576 then (Jt6r, 6) else if spRun f > 64 then (Jt6r, 15) else (spCert f, 0)
theorem Jt8h {es : List Int} (h : Jt8f es = 0) : ∀ e ∈ es, e = 0 := by
 induction es with
 | nil => intro e he; simp at he
 | cons e es ih =>
  simp only [Jt8f] at h
  intro x hx
  split at h
  ·exact absurd h ‹_›
  ·rcases List.mem_cons.1 hx with rfl | hx
   ·simp_all
   ·exact ih h x hx
theorem Jtjc {f : Func} (h : Jtjb f = 0) : 0 ≤ f.args ∧ f.args ≤ f.regs ∧ f.regs ≤ 1048576 ∧ 0 < f.blocks.length ∧ f.blocks.length ≤ 1048576 ∧ codeN f.blocks ≤ 1048576 := by
 unfold Jtjb at h
 split at h
 ·cases h
 split at h
 ·cases h
 split at h
 ·cases h
 split at h
 ·cases h
 omega
theorem Jtkq {α : Type} {l : List α} {k : Nat} {x : α} (h : l[k]? = some x) : l.take (k + 1) = l.take k ++ [x] := by rw [List.take_add_one, h]; rfl
section
theorem Jti6 {P : Program} {p : Nums} (A : All P p) (l : List Instr) (h0 : l.length ≤ 1000000000) : Jt3w P p.slices_Clone_Instr [.d (.sl (l.map Instr.row))] [] fun o _ => o = .ret (.d (.sl (l.map Instr.row))) := by
 refine A.slices_Clone_Instr.run rfl fun R hR => ?_
 (simp (maxSteps := 1000000) [Jtbd])
 refine Jt1v (by rfl) (fun hn => ?_) ?_
 ·have hl : l = [] := by simpa using hn
  subst hl
  (simp (maxSteps := 1000000) [])
  exact hR _ _ (Jt40 _ _ rfl (by (exact wkvA)) rfl)
 ·(simp (maxSteps := 1000000) [])
  refine Jt19 (by rfl) (by rfl) (Jth9 fun _ => rfl) (by decide) (by simp; omega) (by simp; omega) (fun hn => ?_) fun hn => ?_
  ·have hl : l = [] := by simpa using hn
   subst hl
   (simp (maxSteps := 1000000) [])
   exact hR _ _ (Jt40 _ _ rfl (by (exact wkvA)) rfl)
  ·(simp (maxSteps := 1000000) [])
   exact hR _ _ (Jt40 _ _ rfl (by (exact wkvA)) rfl)
theorem Jtj4 {P : Program} {p : Nums} (A : All P p) (r : Int) (h0 : 0 ≤ r) (h1 : r ≤ 10000000) : Jt3w P p.spillall_invariant [AI r] [] fun o _ => o = .ret (.d (pairsD (spInv r.toNat))) := by
 have h := Jtj3 A r.toNat (by omega)
 rwa [Int.toNat_of_nonneg h0] at h
theorem Jtj1 {P : Program} {p : Nums} (A : All P p) (f : Func) (h0 : f.blocks.length ≤ 1000000) (h1 : codeN f.blocks ≤ 1000000) : Jt3w P p.spillall_Cert [f.av] [] fun o _ => o = .ret (.tup [(Jtil f).1.av, AI (Jtil f).2]) := by
 refine A.spillall_Cert.run rfl fun R hR => ?_
 (simp (maxSteps := 1000000) [Jtbm, Func.av])
 (refine Jty (Jtia A f (by omega) (by omega)) (by rfl) (by rfl) ?_)
 (simp (maxSteps := 1000000) [])
 ((first | refine Xc (fun a1 => ?_) (fun a1 => ?_) | refine Xo (fun a1 => ?_) (fun a1 => ?_)) <;> (try simp only [Xz, Xy] at a1))
 ·(simp (maxSteps := 1000000) [a1])
  have e : Jtil f = (Jt6r, Jtjb f) := by unfold Jtil; rw [if_pos a1]
  exact hR _ _ (Jt40 _ _ rfl (by rw [e]; (exact wkvA)) rfl)
 have hok := Jtjc (by simpa using a1)
 (simp (maxSteps := 1000000) [a1])
 ((first | refine Xc (fun a2 => ?_) (fun a2 => ?_) | refine Xo (fun a2 => ?_) (fun a2 => ?_)) <;> (try simp only [Xz, Xy] at a2))
 ·(simp (maxSteps := 1000000) [a2])
  have e : Jtil f = (Jt6r, 6) := by unfold Jtil; rw [if_neg (by simpa using a1), if_pos (by simpa [prodZ] using a2)]
  exact hR _ _ (Jt40 _ _ rfl (by rw [e]; (exact wkvA)) rfl)
 (simp (maxSteps := 1000000) [a2])
 obtain ⟨sR, hsR⟩ : ∃ x, x = f.blocks.map Block.row := ⟨_, rfl⟩
 obtain ⟨tB, htB⟩ : ∃ x, x = f.blocks.map Jtii := ⟨_, rfl⟩
 obtain ⟨tR, htR⟩ : ∃ x, x = tB.map MBlock.row := ⟨_, rfl⟩
 obtain ⟨mB, hmB⟩ : ∃ x, x = f.blocks.map Jtiw := ⟨_, rfl⟩
 have hmc := Jte3 f.blocks
 rw [← htB] at hmc
 rw [← hsR]
 refine Jtd (fun k : Nat => ⟨[(39, AI k), (38, AI f.blocks.length), (37, .d (.sl sR)), (1, .ptr 0 0), (2, .ptr 1 0), (3, AI 0), (5, .ptr 2 0), (6, AI (mcodeN (tB.take k))), (7, AI (mostN (mB.take k)))],
  [.mem [AI f.args, AI f.regs, .d (.sl sR)], .mem [AI 0, AI 0, .nils, AI 0, AI 0, AI 0, .nils, .nils],
   .mem [AI f.args, AI f.regs, .own 5 (sR.take k), AI f.args, AI 2, AI f.regs, .own 5 (tR.take k), .own 1 (List.replicate k [pairsD (spInv f.regs.toNat)])]]⟩)
  (fun k => k ≤ f.blocks.length) (fun k => f.blocks.length - k) 0 (by simp) (by (exact wkA)) ?_
 intro k hk N hN
 (simp (maxSteps := 1000000) [])
 ((first | refine Xc (fun h2 => ?_) (fun h2 => ?_) | refine Xo (fun h2 => ?_) (fun h2 => ?_)) <;> (try simp only [Xz, Xy] at h2))
 ·have hkl : k < f.blocks.length := by simpa using h2
  have hb : f.blocks[k]? = some f.blocks[k] := by simp [hkl]
  have hsk : sR[k]? = some f.blocks[k].row := by rw [hsR, List.getElem?_map, hb]; rfl
  have htBk : tB[k]? = some (Jtii f.blocks[k]) := by rw [htB, List.getElem?_map, hb]; rfl
  have htk : tR[k]? = some (Jtii f.blocks[k]).row := by rw [htR, List.getElem?_map, htBk]; rfl
  have hmk : mB[k]? = some (Jtiw f.blocks[k]) := by rw [hmB, List.getElem?_map, hb]; rfl
  have hw := Jtlt (k := k) (by omega)
  have hcl : f.blocks[k].code.length ≤ 1000000 := by
   have h3 := Jt73 hb
   have h4 := Jt72 f.blocks (k + 1)
   omega
  have hmle := Jte2 tB (k + 1)
  have hms := Jte4 htBk
  have hw2 := Jtls (a := mcodeN (tB.take k)) (b := (Jtii f.blocks[k]).code.length) (by omega)
  rw [← hms] at hw2
  have hl1 := List.length_take_le k sR
  have hl2 := List.length_take_le k tR
  have ess : sR.take k ++ [f.blocks[k].row] = sR.take (k + 1) := (Jtkq hsk).symm
  have ets : tR.take k ++ [(Jtii f.blocks[k]).row] = tR.take (k + 1) := (Jtkq htk).symm
  have ers : List.replicate k [pairsD (spInv f.regs.toNat)] ++ [[pairsD (spInv f.regs.toNat)]] = List.replicate (k + 1) [pairsD (spInv f.regs.toNat)] := List.replicate_succ'.symm
  have ess5 : ∀ r ∈ sR.take k, r.length = 5 := fun r hr => by
   have := List.mem_of_mem_take hr; rw [hsR] at this; obtain ⟨x, _, rfl⟩ := List.mem_map.1 this; rfl
  have emx : (if mostN (mB.take k) < Jtiw f.blocks[k] then ((Jtiw f.blocks[k] : Nat) : Int) else ((mostN (mB.take k) : Nat) : Int)) = ((mostN (mB.take (k + 1)) : Nat) : Int) := by
   rw [Jtel hmk]; split <;> omega
  simp only [Block.row, MBlock.row] at hsk ess ets
  (simp (maxSteps := 1000000) [h2, hsk])
  (refine Jty (Jtj0 A f.blocks[k] (by omega)) (by rfl) (by rfl) ?_)
  (simp (maxSteps := 1000000) [MBlock.av])
  (refine Jty (Jtj2 A f.blocks[k] (by omega)) (by rfl) (by rfl) ?_)
  (simp (maxSteps := 1000000) [])
  (refine Jty (Jti6 A f.blocks[k].code (by omega)) (by rfl) (by rfl) ?_)
  (simp (maxSteps := 1000000) [])
  (refine Jt1a (by rfl) (by rfl) (by rfl) ?_ (by decide) ?_ ?_ ?_)
  ·simp
  ·simp; omega
  ·simp; omega
  (simp (maxSteps := 1000000) [ess])
  (refine Jt1a (by rfl) (by rfl) (by rfl) ?_ (by decide) ?_ ?_ ?_)
  ·simp
  ·simp; omega
  ·simp; omega
  (simp (maxSteps := 1000000) [ets])
  (refine Jty (Jtj4 A f.regs (by omega) (by omega)) (by rfl) (by rfl) ?_)
  (simp (maxSteps := 1000000) [])
  (refine Jt1a (by rfl) (by rfl) (by rfl) ?_ (by decide) ?_ ?_ ?_)
  ·simp
  ·simp; omega
  ·simp; omega
  (simp (maxSteps := 1000000) [ers, hw, hw2])
  exact hN _ (k + 1) hkl (by rw [emx]; (exact wkA)) (by omega)
 ·have hk' : k = f.blocks.length := by simp at h2; omega
  subst hk'
  have e1 : sR.take f.blocks.length = sR := List.take_of_length_le (by rw [hsR]; simp)
  have e2 : tR.take f.blocks.length = tR := List.take_of_length_le (by rw [htR, htB]; simp)
  have e3 : tB.take f.blocks.length = tB := List.take_of_length_le (by rw [htB]; simp)
  have e4 : mB.take f.blocks.length = mB := List.take_of_length_le (by rw [hmB]; simp)
  rw [e1, e2, e3, e4]
  (simp (maxSteps := 1000000) [])
  ((first | refine Xc (fun b1 => ?_) (fun b1 => ?_) | refine Xo (fun b1 => ?_) (fun b1 => ?_)) <;> (try simp only [Xz, Xy] at b1))
  ·(simp (maxSteps := 1000000) [b1])
   have e : Jtil f = (Jt6r, 6) := by unfold Jtil; rw [if_neg (by simpa using a1), if_neg (by simpa [prodZ] using a2), if_pos (by rw [← htB]; omega)]
   exact hR _ _ (Jt40 _ _ rfl (by rw [e]; (exact wkvA)) rfl)
  (simp (maxSteps := 1000000) [b1])
  ((first | refine Xc (fun b2 => ?_) (fun b2 => ?_) | refine Xo (fun b2 => ?_) (fun b2 => ?_)) <;> (try simp only [Xz, Xy] at b2))
  ·(simp (maxSteps := 1000000) [b2])
   have e : Jtil f = (Jt6r, 15) := by unfold Jtil; rw [if_neg (by simpa using a1), if_neg (by simpa [prodZ] using a2), if_neg (by rw [← htB]; omega), if_pos (by rw [spRun, ← hmB]; omega)]
   exact hR _ _ (Jt40 _ _ rfl (by rw [e]; (exact wkvA)) rfl)
  (simp (maxSteps := 1000000) [b2])
  have e : Jtil f = (spCert f, 0) := by unfold Jtil; rw [if_neg (by simpa using a1), if_neg (by simpa [prodZ] using a2), if_neg (by rw [← htB]; omega), if_neg (by rw [spRun, ← hmB]; omega)]
  refine hR _ _ (Jt40 _ _ rfl (by rw [e, hsR, htR, htB, spCert, Cert.av, witD, List.map_replicate]; (exact wkvA)) rfl)
end
def lead : List Mach → Nat
 | [] => 0
 | m :: l => if (m.op == 18) = true then lead l + 1 else 0
def Jtge (l : List Mach) : Nat := mostN ((List.range l.length).map fun i => lead (l.drop i))
theorem Jtcz (l : List Mach) : lead l ≤ l.length := by
 induction l with
 | nil => simp [lead]
 | cons m l ih => simp only [lead, List.length_cons]; split <;> omega
section
end
theorem Jtew {α : Type} [DecidableEq α] : ∀ {l m : List α}, l.Nodup → (∀ x ∈ l, x ∈ m) → l.length ≤ m.length := by
 intro l
 induction l with
 | nil => intro m _ _; simp
 | cons x l ih =>
  intro m hn hs
  rw [List.nodup_cons] at hn
  have hx := hs x (by simp)
  have := ih (m := m.erase x) hn.2 fun y hy => (List.mem_erase_of_ne (by rintro rfl; exact hn.1 hy)).2 (hs y (by simp [hy]))
  rw [List.length_erase_of_mem hx] at this
  have := List.length_pos_of_mem hx
  simp only [List.length_cons]; omega
def prodP (V L : List Int) : List Pair := V.flatMap fun v => L.map fun l => (⟨v, l⟩ : Pair)
theorem Jtfo (V L : List Int) : (prodP V L).length = V.length * L.length := by
 unfold prodP
 induction V with
 | nil => simp
 | cons v V ih => simp only [List.flatMap_cons, List.length_append, List.length_map, List.length_cons, ih, Nat.add_mul]; omega
theorem Jteb {V L : List Int} {q : Pair} : q ∈ prodP V L ↔ q.v ∈ V ∧ q.l ∈ L := by
 unfold prodP
 simp only [List.mem_flatMap, List.mem_map]
 constructor
 ·rintro ⟨v, hv, l, hl, rfl⟩; exact ⟨hv, hl⟩
 ·rintro ⟨hv, hl⟩; exact ⟨q.v, hv, q.l, hl, rfl⟩
structure Over (V L : List Int) (l : List Pair) : Prop where
 srt : Srt l
 mem : ∀ q ∈ l, q.v ∈ V ∧ q.l ∈ L
theorem Over.len {V L : List Int} {l : List Pair} (h : Over V L l) : l.length ≤ V.length * L.length := by
 rw [← Jtfo]
 exact Jtew (Jtjr h.srt) fun q hq => Jteb.2 (h.mem q hq)
theorem Over.copy {V L : List Int} {l : List Pair} (h : Over V L l) {d a : Int} (hd : d ∈ V) : Over V L (copyP l d a) := by
 refine ⟨Jtjk h.srt, fun q hq => ?_⟩
 rcases Jte6.1 hq with ⟨h1, _⟩ | ⟨h1, h2⟩
 ·exact h.mem q h1
 ·exact ⟨by rw [h1]; exact hd, (h.mem _ h2).2⟩
theorem Over.move {V L : List Int} {l : List Pair} (h : Over V L l) {d a : Int} (hd : d ∈ L) : Over V L (moveP l d a) := by
 refine ⟨Jtjq h.srt, fun q hq => ?_⟩
 rcases Jtea.1 hq with ⟨h1, _⟩ | ⟨h1, h2⟩
 ·exact h.mem q h1
 ·exact ⟨(h.mem _ h2).1, by rw [h1]; exact hd⟩
theorem Over.define {V L : List Int} {l : List Pair} (h : Over V L l) {d t : Int} (hd : d ∈ V) (ht : t ∈ L) : Over V L (defP l d t) := by
 refine ⟨Jtjl h.srt, fun q hq => ?_⟩
 rcases Jte7.1 hq with rfl | ⟨h1, _⟩
 ·exact ⟨hd, ht⟩
 ·exact h.mem q h1
structure CS where (set : List Pair) (steps largest : Nat)
abbrev CR := CS × Option (Int × Int)
def costC (s : CS) : CS := ⟨s.set, s.steps + 1 + s.set.length, s.largest⟩
def Jt60 (most : Int) (s : CS) (l : List Pair) (at_ : Int) : CR := (⟨l, s.steps, max s.largest l.length⟩, if (l.length : Int) > most then some (24, at_) else none)
def useC (s : CS) (v t at_ : Int) : CR := (costC s, if (⟨v, t⟩ : Pair) ∈ s.set then none else some (21, at_))
def thenC (r : CR) (f : CS → CR) : CR := match r.2 with
 | none => f r.1
 | some e => (r.1, some e)
theorem Jtkx {s : CS} {f : CS → CR} : thenC (s, none) f = f s := rfl
theorem Jtky {s : CS} {e : Int × Int} {f : CS → CR} : thenC (s, some e) f = (s, some e) := rfl
structure Room (V L : List Int) (s : CS) (n : Nat) : Prop where
 over : Over V L s.set
 few : V.length * L.length < 100000
 steps : s.steps + 100001 * n < 1000000000000000000
 lg : s.largest < 100000
theorem Room.len {V L : List Int} {s : CS} {n : Nat} (h : Room V L s n) : s.set.length < 100000 := Nat.lt_of_le_of_lt h.over.len h.few
theorem Room.mono {V L : List Int} {s : CS} {n m : Nat} (h : Room V L s n) (hm : m ≤ n) : Room V L s m := ⟨h.over, h.few, by have := h.steps; omega, h.lg⟩
theorem Room.cost {V L : List Int} {s : CS} {n : Nat} (h : Room V L s (n + 1)) : Room V L (costC s) n :=
 ⟨h.over, h.few, by have := h.steps; have := h.len; simp only [costC]; omega, h.lg⟩
theorem Room.become {V L : List Int} {s : CS} {n : Nat} (h : Room V L s n) {l : List Pair} (hl : Over V L l) (most at_ : Int) : Room V L (Jt60 most s l at_).1 n := by
 refine ⟨hl, h.few, h.steps, ?_⟩
 have := h.lg
 have := Nat.lt_of_le_of_lt hl.len h.few
 simp only [Jt60]; omega
theorem Room.use {V L : List Int} {s : CS} {n : Nat} (h : Room V L s (n + 1)) (v t at_ : Int) : Room V L (useC s v t at_).1 n := h.cost
section
variable {P : Program} {m : Nat} {Q : AExit → ASt → Prop} {st : ASt} {K : ASt → Prop} {QP : AV → ASt → Prop} {dst : Option Nat}
attribute [simp] panEnd
end
section
end
def instrC (most : Int) (s : CS) (i : Instr) (m : Mach) (at_ : Int) : CR :=
 thenC (if usesA i.op = true then useC s i.a (regZ m.a) at_ else (s, none)) fun s =>
  thenC (if usesB i.op = true then useC s i.b (regZ m.b) at_ else (s, none)) fun s =>
   if usesD i.op = true then Jt60 most (costC s) (defP s.set i.d (regZ m.d)) at_ else (s, none)
section
end
theorem Jtc1 {V L : List Int} {most : Int} {s : CS} {n : Nat} {i : Instr} {m : Mach} {at_ : Int} (h : Room V L s (n + 3)) (hd : usesD i.op = true → i.d ∈ V ∧ regZ m.d ∈ L) : Room V L (instrC most s i m at_).1 n := by
 unfold instrC
 have h2 : Room V L (if usesA i.op = true then useC s i.a (regZ m.a) at_ else (s, none)).1 (n + 2) := by split <;> first | exact h.use _ _ _ | exact h.mono (by omega)
 generalize (if usesA i.op = true then useC s i.a (regZ m.a) at_ else (s, none)) = r at h2
 obtain ⟨s1, e⟩ := r
 cases e with
 | some e => rw [Jtky]; exact h2.mono (by omega)
 | none =>
  rw [Jtkx]
  have h3 : Room V L (if usesB i.op = true then useC s1 i.b (regZ m.b) at_ else (s1, none)).1 (n + 1) := by split <;> first | exact h2.use _ _ _ | exact h2.mono (by omega)
  generalize (if usesB i.op = true then useC s1 i.b (regZ m.b) at_ else (s1, none)) = r at h3
  obtain ⟨s2, e⟩ := r
  cases e with
  | some e => rw [Jtky]; exact h3.mono (by omega)
  | none =>
   rw [Jtkx]
   split
   ·rename_i hu
    obtain ⟨k1, k2⟩ := hd hu
    exact h3.cost.become (h3.over.define k1 k2) _ _
   ·exact h3.mono (by omega)
section
end
structure ARow where (cf ct mf mt : Nat) (src mach : Int)
def ARow.row (r : ARow) : List D := [I r.cf, I r.ct, I r.mf, I r.mt, I r.src, I r.mach]
def ARow.av (r : ARow) : AV := .agg [AI r.cf, AI r.ct, AI r.mf, AI r.mt, AI r.src, AI r.mach]
def copyC (most at_ : Int) : List Instr → CS → CR
 | [], s => (s, none)
 | i :: is, s => thenC (Jt60 most (costC s) (copyP s.set i.d i.a) at_) (copyC most at_ is)
def moveC (most : Int) : Nat → List Mach → CS → CR
 | _, [], s => (s, none)
 | k, m :: ms, s => thenC (Jt60 most (costC s) (moveP s.set m.dst m.src) k) (moveC most (k + 1) ms)
def lastC (most : Int) (b : List Instr) (m : List Mach) (r : ARow) (s : CS) : CR :=
 if 0 ≤ r.src then match b[r.src.toNat]?, m[r.mach.toNat]? with
  | some i, some x => instrC most s i x r.mach
  | _, _ => (s, none)
 else (s, none)
def rowC (most : Int) (b : List Instr) (m : List Mach) (r : ARow) (s : CS) : CR :=
 thenC (copyC most r.mf ((b.take r.ct).drop r.cf) s) fun s => thenC (moveC most r.mf ((m.take r.mt).drop r.mf) s) (lastC most b m r)
structure RowOk (b : List Instr) (m : List Mach) (r : ARow) : Prop where
 hc : r.cf ≤ r.ct ∧ r.ct ≤ b.length
 hm : r.mf ≤ r.mt ∧ r.mt ≤ m.length
 hs : 0 ≤ r.src → r.src < b.length ∧ 0 ≤ r.mach ∧ r.mach < m.length
structure VLOk (V L : List Int) (b : List Instr) (m : List Mach) : Prop where
 v : ∀ i ∈ b, i.d ∈ V
 l : ∀ x ∈ m, x.dst ∈ L ∧ regZ x.d ∈ L
theorem Room.copyStep {V L : List Int} {s : CS} {n : Nat} (h : Room V L s (n + 1)) {d a : Int} (hd : d ∈ V) (most at_ : Int) : Room V L (Jt60 most (costC s) (copyP s.set d a) at_).1 n := h.cost.become (h.over.copy hd) _ _
theorem Room.moveStep {V L : List Int} {s : CS} {n : Nat} (h : Room V L s (n + 1)) {d a : Int} (hd : d ∈ L) (most at_ : Int) : Room V L (Jt60 most (costC s) (moveP s.set d a) at_).1 n := h.cost.become (h.over.move hd) _ _
theorem Jt79 {V L : List Int} {most at_ : Int} : ∀ {l : List Instr} {s : CS} {n : Nat}, Room V L s (n + l.length) → (∀ i ∈ l, i.d ∈ V) → Room V L (copyC most at_ l s).1 n := by
 intro l
 induction l with
 | nil => intro s n h _; exact h
 | cons i l ih =>
  intro s n h hv
  have h1 := Room.copyStep (n := n + l.length) (by simpa [Nat.add_assoc] using h) (hv i (by simp)) most at_ (a := i.a)
  simp only [copyC]
  generalize Jt60 most (costC s) (copyP s.set i.d i.a) at_ = r at h1
  obtain ⟨s1, e⟩ := r
  cases e with
  | some e => rw [Jtky]; exact h1.mono (by omega)
  | none => rw [Jtkx]; exact ih h1 fun j hj => hv j (by simp [hj])
theorem Jteo {V L : List Int} {most : Int} : ∀ {l : List Mach} {k : Nat} {s : CS} {n : Nat}, Room V L s (n + l.length) → (∀ x ∈ l, x.dst ∈ L) → Room V L (moveC most k l s).1 n := by
 intro l
 induction l with
 | nil => intro k s n h _; exact h
 | cons i l ih =>
  intro k s n h hv
  have h1 := Room.moveStep (n := n + l.length) (by simpa [Nat.add_assoc] using h) (hv i (by simp)) most k (a := i.src)
  simp only [moveC]
  generalize Jt60 most (costC s) (moveP s.set i.dst i.src) k = r at h1
  obtain ⟨s1, e⟩ := r
  cases e with
  | some e => rw [Jtky]; exact h1.mono (by omega)
  | none => rw [Jtkx]; exact ih h1 fun j hj => hv j (by simp [hj])
theorem Jtcu {V L : List Int} {most : Int} {b : List Instr} {m : List Mach} {r : ARow} {s : CS} {n : Nat} (h : Room V L s (n + 3)) (hv : VLOk V L b m) : Room V L (lastC most b m r s).1 n := by
 unfold lastC
 split
 ·split
  ·rename_i i x h1 h2
   exact Jtc1 h fun _ => ⟨hv.v i (List.mem_of_getElem? h1), (hv.l x (List.mem_of_getElem? h2)).2⟩
  ·exact h.mono (by omega)
 ·exact h.mono (by omega)
theorem Jth4 {V L : List Int} {most : Int} {b : List Instr} {m : List Mach} {r : ARow} {s : CS} {n : Nat} (h : Room V L s (n + 3 + ((m.take r.mt).drop r.mf).length + ((b.take r.ct).drop r.cf).length)) (hv : VLOk V L b m) : Room V L (rowC most b m r s).1 n := by
 unfold rowC
 have h1 := Jt79 (most := most) (at_ := r.mf) h fun i hi => hv.v i (List.mem_of_mem_take (List.mem_of_mem_drop hi))
 generalize copyC most r.mf ((b.take r.ct).drop r.cf) s = q at h1
 obtain ⟨s1, e⟩ := q
 cases e with
 | some e => rw [Jtky]; exact h1.mono (by omega)
 | none =>
  rw [Jtkx]
  have h2 := Jteo (most := most) (k := r.mf) h1 fun i hi => (hv.l i (List.mem_of_mem_take (List.mem_of_mem_drop hi))).1
  generalize moveC most r.mf ((m.take r.mt).drop r.mf) s1 = q at h2
  obtain ⟨s2, e⟩ := q
  cases e with
  | some e => rw [Jtky]; exact h2.mono (by omega)
  | none => rw [Jtkx]; exact Jtcu h2 hv
section
end
def rowsC (most : Int) (b : List Instr) (m : List Mach) : List ARow → CS → CR
 | [], s => (s, none)
 | r :: rs, s => thenC (rowC most b m r s) (rowsC most b m rs)
def runC (most : Int) (b : Block) (m : MBlock) (rows : List ARow) (s : CS) : CR :=
 thenC (rowsC most b.code m.code rows s) fun s => if b.term.kind = 1 then (s, none) else useC s b.term.a (regZ m.term.a) m.code.length
def runE (m : MBlock) : Option (Int × Int) → Int × Int
 | none => (0, m.code.length)
 | some e => e
def needR (r : ARow) : Nat := 3 + (r.mt - r.mf) + (r.ct - r.cf)
def needRs (rs : List ARow) : Nat := (rs.map needR).sum
section
variable {P : Program} {p : Nums}
end
theorem Jtes (r : ARow) (rs : List ARow) : needRs (r :: rs) = needR r + needRs rs := by simp [needRs]
section
end
def isCopy (i : Instr) : Bool := i.op == 2
def isMove (m : Mach) : Bool := m.op == 18
def skipW {α : Type} (f : α → Bool) (l : List α) (i : Nat) : Nat := i + ((l.drop i).takeWhile f).length
theorem Jti1 {α : Type} (f : α → Bool) (l : List α) (i : Nat) : i ≤ skipW f l i := Nat.le_add_right _ _
theorem Jti2 {α : Type} {f : α → Bool} {l : List α} {i : Nat} (h : i ≤ l.length) : skipW f l i ≤ l.length := by
 have := (List.takeWhile_prefix f (l := l.drop i)).length_le
 rw [List.length_drop] at this
 unfold skipW; omega
def sameI (i : Instr) (m : Mach) : Bool := i.op == m.op && i.imm == m.imm && i.op != 2 && i.op != 18
def termsZ (a b : Term) : Bool := a.kind == b.kind && a.to == b.to && a.els == b.els
def alignS (code : List Instr) (mach : List Mach) : Nat → Nat → Nat → List ARow → List ARow × Nat × Int
 | 0, _, k, _ => ([], k, 20)
 | f + 1, i, k, rows =>
  if skipW isCopy code i = code.length ∧ skipW isMove mach k = mach.length then (rows ++ [⟨i, skipW isCopy code i, k, skipW isMove mach k, -1, -1⟩], skipW isMove mach k, 0)
  else match code[skipW isCopy code i]?, mach[skipW isMove mach k]? with
   | some x, some y => if sameI x y = true then alignS code mach f (skipW isCopy code i + 1) (skipW isMove mach k + 1) (rows ++ [⟨i, skipW isCopy code i, k, skipW isMove mach k, skipW isCopy code i, skipW isMove mach k⟩]) else ([], skipW isMove mach k, 20)
   | _, _ => ([], skipW isMove mach k, 20)
def alignZ (code : List Instr) (mach : List Mach) : List ARow × Nat × Int := alignS code mach (code.length + 1) 0 0 []
section
end
section
end
end Go.AE
