/- A part of the proof: the evaluator over abstract values, its codes, the contracts of the functions. -/
import Derived.Test.YtemgahndfjaogaaGreatH2
import Derived.Sort.Grow
import Derived.Deep.Draws
set_option linter.unusedVariables false
set_option linter.unusedSimpArgs false
set_option maxRecDepth 100000
namespace Go.AE
@[simp] abbrev zi (n : Int) : AV := .d (.int .i64 n)
@[simp] abbrev ci (n : Int) : Opd := .c (.d (.int .i64 n))
@[simp] abbrev qo (d : Nat) (io : AO) : IOp := ⟨some d, io, none, false⟩
@[simp] abbrev qp (d : Nat) (io : AO) : IOp := ⟨some d, io, none, true⟩
@[simp] abbrev qn (io : AO) : IOp := ⟨none, io, none, false⟩
@[simp] abbrev qm (io : AO) : IOp := ⟨none, io, none, true⟩
structure Nums where
 law16_CheckerMatchesReference : Nat
 law16_CheckerOnce : Nat
 law16_CheckerLocal : Nat
 law16_CheckerSubset : Nat
 law16_CheckerKeeps : Nat
 law16_CheckerSound : Nat
 law22_SpillallAccepted : Nat
 law16_awake : Nat
 ref16_Few : Nat
 checker_Valid : Nat
 ref16_Valid : Nat
 checker_Check : Nat
 ref16_Check : Nat
 ref07_Successors : Nat
 checker_Bound : Nat
 ref14_Check : Nat
 ref11_Missing : Nat
 ref16_Copy : Nat
 ref16_Same : Nat
 law16_simulates : Nat
 law22_awake : Nat
 ref07_Few : Nat
 ref07_Check : Nat
 spillall_Cert : Nat
 ref07_Same : Nat
 ref08_Few : Nat
 ref15_Few : Nat
 source_Check : Nat
 machine_Check : Nat
 edge_Valid : Nat
 ref08_Check : Nat
 ref15_Valid : Nat
 checker_begin : Nat
 blockcheck_Check : Nat
 source_Successors : Nat
 edge_Implies : Nat
 ref15_Initial : Nat
 source_Code : Nat
 machine_Code : Nat
 ref14_fail : Nat
 ref13_Code : Nat
 ref13_Terms : Nat
 ref14_grow : Nat
 ref12_Copy : Nat
 ref12_Move : Nat
 ref05_UsesA : Nat
 ref14_use : Nat
 ref05_UsesB : Nat
 ref05_UsesD : Nat
 ref12_Define : Nat
 ref11_Has : Nat
 ref07_Copy : Nat
 ref08_Copy : Nat
 ref08_Same : Nat
 ref15_Same : Nat
 interp_Exec : Nat
 execute_Exec : Nat
 ref09_Values : Nat
 ref09_Prefix : Nat
 spillall_Block : Nat
 spillall_Moves : Nat
 ref07_Code : Nat
 ref07_Instr : Nat
 ref07_Term : Nat
 slices_Clone_Instr : Nat
 spillall_invariant : Nat
 ref08_Code : Nat
 source_block : Nat
 machine_block : Nat
 edge_total : Nat
 edge_pairs : Nat
 ref08_Instr : Nat
 ref08_Moves : Nat
 ref04_InRange : Nat
 ref11_Less : Nat
 edge_Entry : Nat
 align_Code : Nat
 align_Terms : Nat
 pairset_Make : Nat
 blockcheck_checker_run : Nat
 pairset_Missing : Nat
 ref13_Operations : Nat
 ref13_Others : Nat
 ref13_Same : Nat
 ref11_Add : Nat
 ref11_Same : Nat
 interp_begin : Nat
 interp_state_step : Nat
 execute_begin : Nat
 execute_state_step : Nat
 spillall_builder_instr : Nat
 spillall_builder_add : Nat
 spillall_load : Nat
 ref07_in : Nat
 location_Slot : Nat
 source_Instr : Nat
 source_Term : Nat
 machine_Instr : Nat
 location_InRange : Nat
 pairset_Less : Nat
 edge_Initial : Nat
 align_skip_Instr : Nat
 align_copied : Nat
 align_skip_Mach : Nat
 align_moved : Nat
 align_Same : Nat
 slices_Clone_Pair : Nat
 slices_SortFunc_Pair : Nat
 pairset_compare : Nat
 slices_Compact_Pair : Nat
 blockcheck_checker_run_1 : Nat
 blockcheck_checker_row : Nat
 blockcheck_checker_use : Nat
 interp_state_instr : Nat
 interp_state_term : Nat
 execute_state_instr : Nat
 execute_state_term : Nat
 opcode_Of : Nat
 spillall_store : Nat
 location_Reg : Nat
 opcode_Source : Nat
 source_within : Nat
 source_blank : Nat
 opcode_Machine : Nat
 machine_others : Nat
 machine_moves : Nat
 location_IsSlot : Nat
 location_Index : Nat
 slices_pdqsortCmpFunc_Pair : Nat
 math_bits_Len : Nat
 blockcheck_checker_cost : Nat
 blockcheck_checker_become : Nat
 transfer_Copy : Nat
 transfer_Move : Nat
 blockcheck_checker_instr : Nat
 pairset_Has : Nat
 alu_Eval : Nat
 execute_state_compute : Nat
 execute_state_move : Nat
 execute_state_emit : Nat
 opcode_known : Nat
 machine_others_1 : Nat
 machine_others_2 : Nat
 machine_moves_1 : Nat
 machine_moves_2 : Nat
 slices_insertionSortCmpFunc_Pair : Nat
 slices_heapSortCmpFunc_Pair : Nat
 slices_breakPatternsCmpFunc_Pair : Nat
 slices_choosePivotCmpFunc_Pair : Nat
 slices_reverseRangeCmpFunc_Pair : Nat
 slices_partialInsertionSortCmpFunc_Pair : Nat
 slices_partitionEqualCmpFunc_Pair : Nat
 slices_partitionCmpFunc_Pair : Nat
 math_bits_Len32 : Nat
 math_bits_Len64 : Nat
 transfer_rename : Nat
 pairset_DropV : Nat
 transfer_Copy_1 : Nat
 pairset_DropL : Nat
 transfer_Move_1 : Nat
 transfer_Define : Nat
 pairset_find : Nat
 alu_operation : Nat
 execute_state_at : Nat
 slices_siftDownCmpFunc_Pair : Nat
 slices_nextPowerOfTwo : Nat
 slices_xorshift_Next : Nat
 slices_medianAdjacentCmpFunc_Pair : Nat
 slices_medianCmpFunc_Pair : Nat
 pairset_Union : Nat
 pairset_filter : Nat
 pairset_DropV_1 : Nat
 pairset_DropL_1 : Nat
 pairset_Add : Nat
 alu_operation_1 : Nat
 alu_operation_2 : Nat
 alu_operation_3 : Nat
 alu_operation_4 : Nat
 alu_operation_5 : Nat
 alu_operation_6 : Nat
 alu_operation_7 : Nat
 alu_operation_8 : Nat
 alu_operation_9 : Nat
 alu_operation_10 : Nat
 alu_operation_11 : Nat
 alu_truth : Nat
 alu_operation_12 : Nat
 slices_order2CmpFunc_Pair : Nat
 law11_PairsetMatchesReference : Nat
 law11_PairsetMatchesSets : Nat
 law11_PairsetOrder : Nat
 law11_PairsetSubsets : Nat
 law23_LivenessMatchesReference : Nat
 law23_LivenessEquations : Nat
 law23_LivenessSound : Nat
 law23_LivenessNecessary : Nat
 law23_LivenessAppended : Nat
 law11_PairsetDrops : Nat
 law11_PairsetKeeps : Nat
 law11_awake : Nat
 ref11_Make : Nat
 pairset_Sorted : Nat
 ref11_Sorted : Nat
 pairset_Subset : Nat
 law23_awake : Nat
 ref23_Used : Nat
 ref23_Defines : Nat
 ref07_Numbers : Nat
 liveness_Uses : Nat
 liveness_Defs : Nat
 ref23_Same : Nat
 liveness_In : Nat
 ref23_In : Nat
 liveness_Out : Nat
 ref23_Out : Nat
 ref23_Has : Nat
 ref09_Right : Nat
 ref09_Exec : Nat
 ref09_Step : Nat
 ref09_Copy : Nat
 law11_spoil : Nat
 liveness_scan : Nat
 liveness_set_sorted : Nat
 liveness_solve : Nat
 ref23_live : Nat
 liveness_exit : Nat
 ref09_Start : Nat
 ref06_Eval : Nat
 liveness_scan_1 : Nat
 slices_Sort_int : Nat
 ref06_bits : Nat
 ref06_half : Nat
 ref06_truth : Nat
 slices_pdqsortOrdered_int : Nat
 ref06_bit : Nat
 slices_insertionSortOrdered_int : Nat
 slices_heapSortOrdered_int : Nat
 slices_breakPatternsOrdered_int : Nat
 slices_choosePivotOrdered_int : Nat
 slices_reverseRangeOrdered_int : Nat
 slices_partialInsertionSortOrdered_int : Nat
 cmp_Less_int : Nat
 slices_partitionEqualOrdered_int : Nat
 slices_partitionOrdered_int : Nat
 slices_siftDownOrdered_int : Nat
 slices_medianAdjacentOrdered_int : Nat
 slices_medianOrdered_int : Nat
 cmp_isNaN_int : Nat
 slices_order2Ordered_int : Nat
 law12_TransferMatchesReference : Nat
 law12_TransferSound : Nat
 law12_TransferComplete : Nat
 law12_TransferMonotone : Nat
 law12_TransferKeeps : Nat
 law14_BlockcheckMatchesReference : Nat
 law14_BlockcheckSound : Nat
 law14_BlockcheckMonotone : Nat
 law14_BlockcheckSteps : Nat
 law14_BlockcheckKeeps : Nat
 law12_awake : Nat
 law12_known : Nat
 law12_holds : Nat
 law12_subset : Nat
 law14_awake : Nat
 law14_right : Nat
 ref14_Same : Nat
 law14_result : Nat
 ref10_Step : Nat
 ref10_Read : Nat
 law22_SpillallMatchesReference : Nat
 law22_SpillallKeeps : Nat
 law22_SpillallSlots : Nat
 ref22_Cert : Nat
 ref22_Block : Nat
 ref22_move : Nat
 law04_LocationBijection : Nat
 law04_LocationTexts : Nat
 law04_LocationMatchesReference : Nat
 law04_LocationRange : Nat
 law04_awake : Nat
 location_Parse : Nat
 location_Text : Nat
 ref04_Parse : Nat
 ref04_Text : Nat
 strconv_Itoa : Nat
 ref04_Number : Nat
 ref04_Decimal : Nat
 ty_bcfail : Nat
@[simp] def Jq89 (p : Nums) : List IOp := [qo 18 (.call p.law16_awake []), qo 19 (.un .not (.t 18)), qo 20 (.mov (.t 19)), ⟨(some 21), (.load (some 8) (.t 3)), (some (20, false)), false⟩, ⟨(some 22), (.call p.ref16_Few [(.t 21)]), (some (20, false)), false⟩, ⟨(some 23), (.un .not (.t 22)), (some (20, false)), false⟩, qo 24 (.pick (.t 20) (.c (.d (.bool true))) (.t 23)), qo 25 (.mov (.t 24)), ⟨(some 26), (.load (some 8) (.t 3)), (some (25, false)), false⟩, ⟨(some 27), (.call p.checker_Check [(.t 26)]), (some (25, false)), false⟩, ⟨(some 28), (.fld 0 none (.t 27)), (some (25, false)), false⟩, ⟨(some 29), (.bin .neq (.t 28) (ci 0)), (some (25, false)), false⟩, qo 30 (.pick (.t 25) (.c (.d (.bool true))) (.t 29))]
def Jq7m (p : Nums) : IC := (.region (Jq89 p) [])
@[simp] theorem Je7m {p : Nums} : EqI (Jq7m p) (.region (Jq89 p) []) := eqi
def Jq7x (p : Nums) : IC := (.seq (.region [⟨(some 31), (.call p.law16_awake []), none, false⟩, ⟨(some 6), (.asg (.t 31)), none, false⟩] []) .ret)
@[simp] theorem Je7x {p : Nums} : EqI (Jq7x p) (.seq (.region [⟨(some 31), (.call p.law16_awake []), none, false⟩, ⟨(some 6), (.asg (.t 31)), none, false⟩] []) .ret) := eqi
@[simp] def Jq8l (p : Nums) : List IOp := [qo 32 (.load (some 8) (.t 3)), qo 33 (.call p.ref16_Copy [(.t 32)]), qo 7 (.alloc [(zi 0), (zi 0), .nils, (zi 0), (zi 0), (zi 0), .nils, .nils]), qn (.store 8 (.t 7) (.t 33))]
def Jq82 (p : Nums) : IC := (.region (Jq8l p) [])
@[simp] theorem Je82 {p : Nums} : EqI (Jq82 p) (.region (Jq8l p) []) := eqi
@[simp] def Jq8m (p : Nums) : List IOp := [qo 34 (.mov (.t 1)), qo 35 (.conv .i64 (.t 34)), qo 36 (.faddr 7 (.t 3)), qo 37 (.load none (.t 36)), qo 38 (.len (.t 37)), qo 39 (.bin .rem (.t 35) (.t 38)), qo 8 (.asg (.t 39))]
def Jq83 (p : Nums) : IC := (.region (Jq8m p) [])
@[simp] theorem Je83 {p : Nums} : EqI (Jq83 p) (.region (Jq8m p) []) := eqi
@[simp] def Jq8n (p : Nums) : List IOp := [qo 40 (.mov (.t 10)), qo 41 (.faddr 7 (.t 3)), qo 42 (.load none (.t 41)), qo 43 (.mov (.t 8)), qo 44 (.iaddr 1 (.t 42) (.t 43)), qo 45 (.load none (.t 44)), qo 46 (.len (.t 45)), qo 47 (.bin .lss (.t 40) (.t 46))]
def Jq84 (p : Nums) : IC := (.region (Jq8n p) [])
@[simp] theorem Je84 {p : Nums} : EqI (Jq84 p) (.region (Jq8n p) []) := eqi
@[simp] def Jq8o (p : Nums) : List IOp := [qo 50 (.mov (.t 10)), qo 51 (.mov (.t 2)), qo 52 (.len (.t 51)), qo 53 (.bin .geq (.t 50) (.t 52)), qo 54 (.mov (.t 53)), ⟨(some 55), (.mov (.t 2)), (some (54, false)), false⟩, ⟨(some 56), (.mov (.t 10)), (some (54, false)), false⟩, ⟨(some 57), (.iaddr 1 (.t 55) (.t 56)), (some (54, false)), false⟩, ⟨(some 58), (.load none (.t 57)), (some (54, false)), false⟩, ⟨(some 59), (.un .not (.t 58)), (some (54, false)), false⟩, qo 60 (.pick (.t 54) (.c (.d (.bool true))) (.t 59))]
def Jq85 (p : Nums) : IC := (.region (Jq8o p) [])
@[simp] theorem Je85 {p : Nums} : EqI (Jq85 p) (.region (Jq8o p) []) := eqi
@[simp] def Jq8p (p : Nums) : List IOp := [qo 61 (.mov (.t 9)), qo 62 (.faddr 7 (.t 3)), qo 63 (.load none (.t 62)), qo 64 (.mov (.t 8)), qo 65 (.iaddr 1 (.t 63) (.t 64)), qo 66 (.load none (.t 65)), qo 67 (.mov (.t 10)), qo 68 (.iaddr 2 (.t 66) (.t 67)), qo 69 (.load (some 2) (.t 68)), qo 70 (.bslice 2 1 [(.int .i64 0), (.int .i64 0)] [(0, (.t 69))]), qo 71 (.app 2 16 (.t 61) (.t 70)), qo 9 (.asg (.t 71))]
def Jq86 (p : Nums) : IC := (.region (Jq8p p) [])
@[simp] theorem Je86 {p : Nums} : EqI (Jq86 p) (.region (Jq8p p) []) := eqi
def Jq87 (p : Nums) : IC := (.seq (Jq85 p) (.cond (.t 60) (Jq86 p) .skip))
@[simp] theorem Je87 {p : Nums} : EqI (Jq87 p) (.seq (Jq85 p) (.cond (.t 60) (Jq86 p) .skip)) := eqi
@[simp] def Jq8q (p : Nums) : List IOp := [qo 48 (.mov (.t 10)), qo 49 (.bin .add (.t 48) (ci 1)), qo 10 (.asg (.t 49))]
def Jq88 (p : Nums) : IC := (.region (Jq8q p) [])
@[simp] theorem Je88 {p : Nums} : EqI (Jq88 p) (.region (Jq8q p) []) := eqi
def Jq7n (p : Nums) : IC := (.seq (.seq (Jq84 p) (.cond (.t 47) .skip (.exit 0))) (.seq (.block 1 (Jq87 p)) (Jq88 p)))
@[simp] theorem Je7n {p : Nums} : EqI (Jq7n p) (.seq (.seq (Jq84 p) (.cond (.t 47) .skip (.exit 0))) (.seq (.block 1 (Jq87 p)) (Jq88 p))) := eqi
@[simp] def Jq8a (p : Nums) : List IOp := [qo 72 (.faddr 7 (.t 7)), qo 73 (.load none (.t 72)), qo 74 (.mov (.t 8)), qo 75 (.mov (.t 9)), qo 76 (.iaddr 1 (.t 73) (.t 74)), qn (.store 1 (.t 76) (.t 75))]
def Jq7o (p : Nums) : IC := (.region (Jq8a p) [])
@[simp] theorem Je7o {p : Nums} : EqI (Jq7o p) (.region (Jq8a p) []) := eqi
@[simp] def Jq8b (p : Nums) : List IOp := [qp 77 (.faddr 0 (.t 3)), qp 78 (.faddr 2 (.t 77)), qp 79 (.load none (.t 78)), qp 80 (.mov (.t 8)), qp 81 (.iaddr 5 (.t 79) (.t 80)), qp 82 (.load (some 5) (.t 81)), qp 83 (.faddr 3 (.t 3)), qp 84 (.faddr 3 (.t 83)), qp 85 (.load none (.t 84)), qp 86 (.mov (.t 8)), qp 87 (.iaddr 5 (.t 85) (.t 86)), qp 88 (.load (some 5) (.t 87)), qp 89 (.mov (.t 9)), qp 90 (.call p.ref14_Check [(.t 82), (.t 88), (.t 89), (ci 1048576)]), qp 11 (.alloc [.nils, (zi 0), (zi 0), (zi 0), (zi 0)]), qn (.store 5 (.t 11) (.t 90))]
def Jq7p (p : Nums) : IC := (.region (Jq8b p) [])
@[simp] theorem Je7p {p : Nums} : EqI (Jq7p p) (.region (Jq8b p) []) := eqi
@[simp] def Jq8c (p : Nums) : List IOp := [qo 91 (.faddr 0 (.t 3)), qo 92 (.faddr 2 (.t 91)), qo 93 (.load none (.t 92)), qo 94 (.mov (.t 8)), qo 95 (.iaddr 5 (.t 93) (.t 94)), qo 96 (.faddr 1 (.t 95)), qo 97 (.load (some 4) (.t 96)), qo 98 (.call p.ref07_Successors [(.t 97)]), qo 12 (.asg (.t 98))]
def Jq7q (p : Nums) : IC := (.region (Jq8c p) [])
@[simp] theorem Je7q {p : Nums} : EqI (Jq7q p) (.region (Jq8c p) []) := eqi
@[simp] def Jq8d (p : Nums) : List IOp := [qo 99 (.faddr 1 (.t 11)), qo 100 (.load none (.t 99)), qo 101 (.bin .eql (.t 100) (ci 0)), qo 13 (.asg (.t 101))]
def Jq7r (p : Nums) : IC := (.region (Jq8d p) [])
@[simp] theorem Je7r {p : Nums} : EqI (Jq7r p) (.region (Jq8d p) []) := eqi
@[simp] def Jq8e (p : Nums) : List IOp := [qo 102 (.mov (.t 14)), qo 103 (.mov (.t 12)), qo 104 (.len (.t 103)), qo 105 (.bin .lss (.t 102) (.t 104)), qo 106 (.mov (.t 105)), ⟨(some 107), (.mov (.t 13)), (some (106, true)), false⟩, qo 108 (.pick (.t 106) (.t 107) (.c (.d (.bool false))))]
def Jq7s (p : Nums) : IC := (.region (Jq8e p) [])
@[simp] theorem Je7s {p : Nums} : EqI (Jq7s p) (.region (Jq8e p) []) := eqi
@[simp] def Jq8f (p : Nums) : List IOp := [qp 112 (.faddr 7 (.t 7)), qp 113 (.load none (.t 112)), qp 114 (.mov (.t 12)), qp 115 (.mov (.t 14)), qp 116 (.iaddr 1 (.t 114) (.t 115)), qp 117 (.load none (.t 116)), qp 118 (.iaddr 1 (.t 113) (.t 117)), qp 119 (.load none (.t 118)), qp 120 (.faddr 0 (.t 11)), qp 121 (.load none (.t 120)), qp 122 (.call p.ref11_Missing [(.t 119), (.t 121)]), qp 111 (.mov (.t 122)), qp 123 (.ext (.t 111) 0), qp 124 (.ext (.t 111) 1), qp 15 (.alloc [(zi 0), (zi 0)]), qm (.storeq 2 (.t 15) (.t 123) []), qo 16 (.asg (.t 124))]
def Jq7t (p : Nums) : IC := (.region (Jq8f p) [])
@[simp] theorem Je7t {p : Nums} : EqI (Jq7t p) (.region (Jq8f p) []) := eqi
@[simp] def Jq8g (p : Nums) : List IOp := [qo 125 (.mov (.t 16)), qo 126 (.un .not (.t 125)), qo 13 (.asg (.t 126))]
def Jq7u (p : Nums) : IC := (.region (Jq8g p) [])
@[simp] theorem Je7u {p : Nums} : EqI (Jq7u p) (.region (Jq8g p) []) := eqi
def Jq7v (p : Nums) : IC := (.seq (Jq7t p) (Jq7u p))
@[simp] theorem Je7v {p : Nums} : EqI (Jq7v p) (.seq (Jq7t p) (Jq7u p)) := eqi
@[simp] def Jq8h (p : Nums) : List IOp := [qo 109 (.mov (.t 14)), qo 110 (.bin .add (.t 109) (ci 1)), qo 14 (.asg (.t 110))]
def Jq7w (p : Nums) : IC := (.region (Jq8h p) [])
@[simp] theorem Je7w {p : Nums} : EqI (Jq7w p) (.region (Jq8h p) []) := eqi
def Jq7y (p : Nums) : IC := (.seq (.seq (Jq7s p) (.cond (.t 108) .skip (.exit 2))) (.seq (.block 3 (Jq7v p)) (Jq7w p)))
@[simp] theorem Je7y {p : Nums} : EqI (Jq7y p) (.seq (.seq (Jq7s p) (.cond (.t 108) .skip (.exit 2))) (.seq (.block 3 (Jq7v p)) (Jq7w p))) := eqi
@[simp] def Jq8i (p : Nums) : List IOp := [qo 127 (.load (some 8) (.t 7)), qo 128 (.call p.checker_Check [(.t 127)]), qo 17 (.alloc [(zi 0), (zi 0), (zi 0), (zi 0), (zi 0), (zi 0), (zi 0)]), qn (.store 7 (.t 17) (.t 128))]
def Jq7z (p : Nums) : IC := (.region (Jq8i p) [])
@[simp] theorem Je7z {p : Nums} : EqI (Jq7z p) (.region (Jq8i p) []) := eqi
@[simp] def Jq8j (p : Nums) : List IOp := [qo 130 (.faddr 0 (.t 17)), qo 131 (.load none (.t 130)), qo 132 (.bin .eql (.t 131) (ci 0)), qo 6 (.asg (.t 132))]
def Jq80 (p : Nums) : IC := (.region (Jq8j p) [])
@[simp] theorem Je80 {p : Nums} : EqI (Jq80 p) (.region (Jq8j p) []) := eqi
@[simp] def Jq8k (p : Nums) : List IOp := [qo 133 (.faddr 0 (.t 17)), qo 134 (.load none (.t 133)), qo 135 (.bin .neq (.t 134) (ci 0)), qo 136 (.mov (.t 135)), ⟨(some 137), (.faddr 1 (.t 17)), (some (136, true)), false⟩, ⟨(some 138), (.load none (.t 137)), (some (136, true)), false⟩, ⟨(some 139), (.mov (.t 8)), (some (136, true)), false⟩, ⟨(some 140), (.bin .eql (.t 138) (.t 139)), (some (136, true)), false⟩, qo 141 (.pick (.t 136) (.t 140) (.c (.d (.bool false)))), qo 6 (.asg (.t 141))]
def Jq81 (p : Nums) : IC := (.region (Jq8k p) [])
@[simp] theorem Je81 {p : Nums} : EqI (Jq81 p) (.region (Jq8k p) []) := eqi
def Jtb1 (p : Nums) : IC := (.seq (.region [⟨(some 3), (.box (.t 0)), none, false⟩, ⟨(some 6), (.asg (.c (.d (.bool false)))), none, false⟩] []) (.seq (.seq (Jq7m p) (.cond (.t 30) (Jq7x p) .skip)) (.seq (Jq82 p) (.seq (Jq83 p) (.seq (.region [⟨(some 9), (.asg (.c .nils)), none, false⟩] []) (.seq (.seq (.region [⟨(some 10), (.asg (.c (.d (.int .i64 0)))), none, false⟩] []) (.block 0 (.loop (Jq7n p)))) (.seq (Jq7o p) (.seq (Jq7p p) (.seq (Jq7q p) (.seq (Jq7r p) (.seq (.seq (.region [⟨(some 14), (.asg (.c (.d (.int .i64 0)))), none, false⟩] []) (.block 2 (.loop (Jq7y p)))) (.seq (Jq7z p) (.seq (.seq (.region [⟨(some 129), (.mov (.t 13)), none, false⟩] []) (.cond (.t 129) (.seq (Jq80 p) .ret) .skip)) (.seq (Jq81 p) .ret))))))))))))))
@[simp] def Jq8y (p : Nums) : List IOp := [qo 6 (.build [(zi 0), (zi 0), (zi 0), (zi 0)] [(0, 1, (ci 3))]), qo 1 (.alloc [(zi 0), (zi 0), (zi 0), (zi 0)]), qn (.store 4 (.t 1) (.t 6))]
def Jq8r (p : Nums) : IC := (.region (Jq8y p) [])
@[simp] theorem Je8r {p : Nums} : EqI (Jq8r p) (.region (Jq8y p) []) := eqi
@[simp] def Jq8z (p : Nums) : List IOp := [qo 7 (.load (some 4) (.t 1)), qo 8 (.build [.nils, (zi 0), (zi 0), (zi 0), (zi 0)] [(1, 4, (.t 7))]), qo 9 (.bslice 5 1 [(.sl []), (.int .i64 0), (.int .i64 0), (.int .i64 0), (.int .i64 0)] [(0, (.t 8))]), qo 10 (.build [(zi 0), (zi 0), .nils] [(1, 1, (ci 1)), (2, 1, (.t 9))]), qo 11 (.load (some 4) (.t 1)), qo 12 (.build [.nils, (zi 0), (zi 0), (zi 0), (zi 0)] [(1, 4, (.t 11))]), qo 13 (.bslice 5 1 [(.sl []), (.int .i64 0), (.int .i64 0), (.int .i64 0), (.int .i64 0)] [(0, (.t 12))]), qo 14 (.build [(zi 0), (zi 0), (zi 0), .nils] [(1, 1, (ci 1)), (3, 1, (.t 13))]), qo 15 (.bslice 2 0 [(.int .i64 0), (.int .i64 0)] []), qo 16 (.bslice 1 1 [(.sl [])] [(0, (.t 15))]), qo 17 (.build [(zi 0), (zi 0), .nils, (zi 0), (zi 0), (zi 0), .nils, .nils] [(0, 3, (.t 10)), (3, 4, (.t 14)), (7, 1, (.t 16))]), qo 2 (.alloc [(zi 0), (zi 0), .nils, (zi 0), (zi 0), (zi 0), .nils, .nils]), qn (.store 8 (.t 2) (.t 17))]
def Jq8s (p : Nums) : IC := (.region (Jq8z p) [])
@[simp] theorem Je8s {p : Nums} : EqI (Jq8s p) (.region (Jq8z p) []) := eqi
@[simp] def Jq90 (p : Nums) : List IOp := [qo 18 (.load (some 8) (.t 2)), qo 3 (.alloc [(zi 0), (zi 0), .nils, (zi 0), (zi 0), (zi 0), .nils, .nils]), qn (.store 8 (.t 3) (.t 18))]
def Jq8t (p : Nums) : IC := (.region (Jq90 p) [])
@[simp] theorem Je8t {p : Nums} : EqI (Jq8t p) (.region (Jq90 p) []) := eqi
@[simp] def Jq91 (p : Nums) : List IOp := [qo 19 (.build [(zi 0), (zi 0)] [(0, 1, (ci 0)), (1, 1, (ci 0))]), qo 20 (.bslice 2 1 [(.int .i64 0), (.int .i64 0)] [(0, (.t 19))]), qo 21 (.bslice 1 1 [(.sl [])] [(0, (.t 20))]), qo 22 (.faddr 7 (.t 3)), qn (.store 1 (.t 22) (.t 21))]
def Jq8u (p : Nums) : IC := (.region (Jq91 p) [])
@[simp] theorem Je8u {p : Nums} : EqI (Jq8u p) (.region (Jq91 p) []) := eqi
@[simp] def Jq92 (p : Nums) : List IOp := [qo 23 (.load (some 8) (.t 2)), qo 24 (.call p.checker_Check [(.t 23)]), qo 4 (.alloc [(zi 0), (zi 0), (zi 0), (zi 0), (zi 0), (zi 0), (zi 0)]), qn (.store 7 (.t 4) (.t 24))]
def Jq8v (p : Nums) : IC := (.region (Jq92 p) [])
@[simp] theorem Je8v {p : Nums} : EqI (Jq8v p) (.region (Jq92 p) []) := eqi
@[simp] def Jq93 (p : Nums) : List IOp := [qo 25 (.load (some 8) (.t 3)), qo 26 (.call p.checker_Check [(.t 25)]), qo 5 (.alloc [(zi 0), (zi 0), (zi 0), (zi 0), (zi 0), (zi 0), (zi 0)]), qn (.store 7 (.t 5) (.t 26))]
def Jq8w (p : Nums) : IC := (.region (Jq93 p) [])
@[simp] theorem Je8w {p : Nums} : EqI (Jq8w p) (.region (Jq93 p) []) := eqi
@[simp] def Jq94 (p : Nums) : List IOp := [qo 27 (.load (some 7) (.t 4)), qo 28 (.build [(zi 0), (zi 0), (zi 0), (zi 0), (zi 0), (zi 0), (zi 0)] [(0, 1, (ci 21)), (3, 1, (ci 1)), (5, 1, (ci 2))]), qo 29 (.eqs false [.int, .int, .int, .int, .int, .int, .int] (.t 27) (.t 28)), qo 30 (.mov (.t 29)), ⟨(some 31), (.load (some 7) (.t 5)), (some (30, true)), false⟩, ⟨(some 32), (.build [(zi 0), (zi 0), (zi 0), (zi 0), (zi 0), (zi 0), (zi 0)] [(3, 1, (ci 1)), (5, 1, (ci 4)), (6, 1, (ci 1))]), (some (30, true)), false⟩, ⟨(some 33), (.eqs false [.int, .int, .int, .int, .int, .int, .int] (.t 31) (.t 32)), (some (30, true)), false⟩, qo 34 (.pick (.t 30) (.t 33) (.c (.d (.bool false)))), qo 35 (.mov (.t 34)), ⟨(some 36), (.load (some 8) (.t 2)), (some (35, true)), false⟩, ⟨(some 37), (.call p.checker_Valid [(.t 36)]), (some (35, true)), false⟩, ⟨(some 38), (.bin .eql (.t 37) (ci 0)), (some (35, true)), false⟩, qo 39 (.pick (.t 35) (.t 38) (.c (.d (.bool false)))), qo 40 (.mov (.t 39)), ⟨(some 41), (.build [(zi 0), (zi 0), .nils, (zi 0), (zi 0), (zi 0), .nils, .nils] []), (some (40, true)), false⟩, ⟨(some 42), (.call p.checker_Valid [(.t 41)]), (some (40, true)), false⟩, ⟨(some 43), (.bin .eql (.t 42) (ci 14)), (some (40, true)), false⟩, qo 44 (.pick (.t 40) (.t 43) (.c (.d (.bool false)))), qo 45 (.mov (.t 44)), ⟨(some 46), (.load (some 8) (.t 3)), (some (45, true)), false⟩, ⟨(some 47), (.call p.checker_Bound [(.t 46), (ci 1)]), (some (45, true)), false⟩, ⟨(some 48), (.bin .eql (.t 47) (ci 12)), (some (45, true)), false⟩, qo 49 (.pick (.t 45) (.t 48) (.c (.d (.bool false)))), qo 50 (.mov (.t 49)), ⟨(some 51), (.build [(zi 0), (zi 0), .nils, (zi 0), (zi 0), (zi 0), .nils, .nils] []), (some (50, true)), false⟩, ⟨(some 52), (.call p.checker_Check [(.t 51)]), (some (50, true)), false⟩, ⟨(some 53), (.build [(zi 0), (zi 0), (zi 0), (zi 0), (zi 0), (zi 0), (zi 0)] [(0, 1, (ci 14))]), (some (50, true)), false⟩, ⟨(some 54), (.eqs false [.int, .int, .int, .int, .int, .int, .int] (.t 52) (.t 53)), (some (50, true)), false⟩, qo 55 (.pick (.t 50) (.t 54) (.c (.d (.bool false)))), qo 0 (.asg (.t 55))]
def Jq8x (p : Nums) : IC := (.region (Jq94 p) [])
@[simp] theorem Je8x {p : Nums} : EqI (Jq8x p) (.region (Jq94 p) []) := eqi
def Jtb2 (p : Nums) : IC := (.seq (.region [⟨(some 0), (.asg (.c (.d (.bool false)))), none, false⟩] []) (.seq (Jq8r p) (.seq (Jq8s p) (.seq (Jq8t p) (.seq (Jq8u p) (.seq (Jq8v p) (.seq (Jq8w p) (.seq (Jq8x p) .ret))))))))
@[simp] def Jqp1 (p : Nums) : List IOp := [qo 3 (.faddr 0 (.t 1)), qo 4 (.load (some 3) (.t 3)), qo 5 (.call p.ref07_Few [(.t 4)]), qo 6 (.mov (.t 5)), ⟨(some 7), (.faddr 3 (.t 1)), (some (6, true)), false⟩, ⟨(some 8), (.load (some 4) (.t 7)), (some (6, true)), false⟩, ⟨(some 9), (.call p.ref08_Few [(.t 8)]), (some (6, true)), false⟩, qo 10 (.pick (.t 6) (.t 9) (.c (.d (.bool false)))), qo 11 (.mov (.t 10)), ⟨(some 12), (.faddr 7 (.t 1)), (some (11, true)), false⟩, ⟨(some 13), (.load none (.t 12)), (some (11, true)), false⟩, ⟨(some 14), (.call p.ref15_Few [(.t 13)]), (some (11, true)), false⟩, qo 15 (.pick (.t 11) (.t 14) (.c (.d (.bool false)))), qo 2 (.asg (.t 15))]
def Jqp0 (p : Nums) : IC := (.region (Jqp1 p) [])
@[simp] theorem Jep0 {p : Nums} : EqI (Jqp0 p) (.region (Jqp1 p) []) := eqi
def Jtcq (p : Nums) : IC := (.seq (.region [⟨(some 1), (.box (.t 0)), none, false⟩, ⟨(some 2), (.asg (.c (.d (.bool false)))), none, false⟩] []) (.seq (Jqp0 p) .ret))
@[simp] def Jq58 (p : Nums) : List IOp := [qo 5 (.faddr 0 (.t 1)), qo 6 (.load (some 3) (.t 5)), qo 7 (.call p.source_Check [(.t 6)]), qo 3 (.asg (.t 7))]
def Jq51 (p : Nums) : IC := (.region (Jq58 p) [])
@[simp] theorem Je51 {p : Nums} : EqI (Jq51 p) (.region (Jq58 p) []) := eqi
def Jq52 (p : Nums) : IC := (.seq (.region [⟨(some 10), (.mov (.t 3)), none, false⟩, ⟨(some 2), (.asg (.t 10)), none, false⟩] []) .ret)
@[simp] theorem Je52 {p : Nums} : EqI (Jq52 p) (.seq (.region [⟨(some 10), (.mov (.t 3)), none, false⟩, ⟨(some 2), (.asg (.t 10)), none, false⟩] []) .ret) := eqi
@[simp] def Jq59 (p : Nums) : List IOp := [qo 11 (.faddr 3 (.t 1)), qo 12 (.load (some 4) (.t 11)), qo 13 (.call p.machine_Check [(.t 12)]), qo 4 (.asg (.t 13))]
def Jq53 (p : Nums) : IC := (.region (Jq59 p) [])
@[simp] theorem Je53 {p : Nums} : EqI (Jq53 p) (.region (Jq59 p) []) := eqi
def Jq54 (p : Nums) : IC := (.seq (.region [⟨(some 16), (.mov (.t 4)), none, false⟩, ⟨(some 2), (.asg (.t 16)), none, false⟩] []) .ret)
@[simp] theorem Je54 {p : Nums} : EqI (Jq54 p) (.seq (.region [⟨(some 16), (.mov (.t 4)), none, false⟩, ⟨(some 2), (.asg (.t 16)), none, false⟩] []) .ret) := eqi
@[simp] def Jq5a (p : Nums) : List IOp := [qo 17 (.faddr 0 (.t 1)), qo 18 (.faddr 2 (.t 17)), qo 19 (.load none (.t 18)), qo 20 (.len (.t 19)), qo 21 (.faddr 3 (.t 1)), qo 22 (.faddr 3 (.t 21)), qo 23 (.load none (.t 22)), qo 24 (.len (.t 23)), qo 25 (.bin .neq (.t 20) (.t 24)), qo 26 (.mov (.t 25)), ⟨(some 27), (.faddr 0 (.t 1)), (some (26, false)), false⟩, ⟨(some 28), (.faddr 0 (.t 27)), (some (26, false)), false⟩, ⟨(some 29), (.load none (.t 28)), (some (26, false)), false⟩, ⟨(some 30), (.faddr 3 (.t 1)), (some (26, false)), false⟩, ⟨(some 31), (.faddr 0 (.t 30)), (some (26, false)), false⟩, ⟨(some 32), (.load none (.t 31)), (some (26, false)), false⟩, ⟨(some 33), (.bin .neq (.t 29) (.t 32)), (some (26, false)), false⟩, qo 34 (.pick (.t 26) (.c (.d (.bool true))) (.t 33))]
def Jq55 (p : Nums) : IC := (.region (Jq5a p) [])
@[simp] theorem Je55 {p : Nums} : EqI (Jq55 p) (.region (Jq5a p) []) := eqi
def Jq56 (p : Nums) : IC := (.seq (.region [⟨(some 2), (.asg (.c (.d (.int .i64 14)))), none, false⟩] []) .ret)
@[simp] theorem Je56 {p : Nums} : EqI (Jq56 p) (.seq (.region [⟨(some 2), (.asg (.c (.d (.int .i64 14)))), none, false⟩] []) .ret) := eqi
@[simp] def Jq5b (p : Nums) : List IOp := [qo 35 (.faddr 7 (.t 1)), qo 36 (.load none (.t 35)), qo 37 (.faddr 0 (.t 1)), qo 38 (.faddr 2 (.t 37)), qo 39 (.load none (.t 38)), qo 40 (.len (.t 39)), qo 41 (.faddr 0 (.t 1)), qo 42 (.faddr 1 (.t 41)), qo 43 (.load none (.t 42)), qo 44 (.faddr 3 (.t 1)), qo 45 (.faddr 1 (.t 44)), qo 46 (.load none (.t 45)), qo 47 (.faddr 3 (.t 1)), qo 48 (.faddr 2 (.t 47)), qo 49 (.load none (.t 48)), qo 50 (.call p.edge_Valid [(.t 36), (.t 40), (.t 43), (.t 46), (.t 49)]), qo 2 (.asg (.t 50))]
def Jq57 (p : Nums) : IC := (.region (Jq5b p) [])
@[simp] theorem Je57 {p : Nums} : EqI (Jq57 p) (.region (Jq5b p) []) := eqi
def Jtat (p : Nums) : IC := (.seq (.region [⟨(some 1), (.box (.t 0)), none, false⟩, ⟨(some 2), (.asg (.c (.d (.int .i64 0)))), none, false⟩] []) (.seq (.seq (Jq51 p) (.seq (.region [⟨(some 8), (.mov (.t 3)), none, false⟩, ⟨(some 9), (.bin .neq (.t 8) (.c (.d (.int .i64 0)))), none, false⟩] []) (.cond (.t 9) (Jq52 p) .skip))) (.seq (.seq (Jq53 p) (.seq (.region [⟨(some 14), (.mov (.t 4)), none, false⟩, ⟨(some 15), (.bin .neq (.t 14) (.c (.d (.int .i64 0)))), none, false⟩] []) (.cond (.t 15) (Jq54 p) .skip))) (.seq (.seq (Jq55 p) (.cond (.t 34) (Jq56 p) .skip)) (.seq (Jq57 p) .ret)))))
@[simp] def Jq4l (p : Nums) : List IOp := [qo 1 (.box (.t 0)), qo 2 (.alloc [(zi 0), (zi 0), (zi 0), (zi 0), (zi 0), (zi 0), (zi 0)])]
def Jq40 (p : Nums) : IC := (.region (Jq4l p) [])
@[simp] theorem Je40 {p : Nums} : EqI (Jq40 p) (.region (Jq4l p) []) := eqi
@[simp] def Jq4u (p : Nums) : List IOp := [qo 12 (.load (some 8) (.t 1)), qo 13 (.call p.checker_Valid [(.t 12)]), qo 3 (.asg (.t 13))]
def Jq4b (p : Nums) : IC := (.region (Jq4u p) [])
@[simp] theorem Je4b {p : Nums} : EqI (Jq4b p) (.region (Jq4u p) []) := eqi
@[simp] def Jq4v (p : Nums) : List IOp := [qo 16 (.mov (.t 3)), qo 17 (.build [(zi 0), (zi 0), (zi 0), (zi 0), (zi 0), (zi 0), (zi 0)] [(0, 1, (.t 16))]), qn (.store 7 (.t 2) (.t 17))]
def Jq4e (p : Nums) : IC := (.region (Jq4v p) [])
@[simp] theorem Je4e {p : Nums} : EqI (Jq4e p) (.region (Jq4v p) []) := eqi
@[simp] def Jq4w (p : Nums) : List IOp := [qo 18 (.load (some 8) (.t 1)), qo 19 (.call p.checker_begin [(.t 18)]), qo 4 (.alloc [(zi 0), (zi 0), (zi 0), (zi 0), (zi 0), (zi 0), (zi 0)]), qn (.store 7 (.t 4) (.t 19))]
def Jq4f (p : Nums) : IC := (.region (Jq4w p) [])
@[simp] theorem Je4f {p : Nums} : EqI (Jq4f p) (.region (Jq4w p) []) := eqi
@[simp] def Jq4x (p : Nums) : List IOp := [qo 20 (.faddr 0 (.t 4)), qo 21 (.load none (.t 20)), qo 22 (.bin .neq (.t 21) (ci 0))]
def Jq4g (p : Nums) : IC := (.region (Jq4x p) [])
@[simp] theorem Je4g {p : Nums} : EqI (Jq4g p) (.region (Jq4x p) []) := eqi
def Jq4h (p : Nums) : IC := (.seq (.region [⟨(some 23), (.load (some 7) (.t 4)), none, false⟩, ⟨none, (.store 7 (.t 2) (.t 23)), none, false⟩] []) .ret)
@[simp] theorem Je4h {p : Nums} : EqI (Jq4h p) (.seq (.region [⟨(some 23), (.load (some 7) (.t 4)), none, false⟩, ⟨none, (.store 7 (.t 2) (.t 23)), none, false⟩] []) .ret) := eqi
@[simp] def Jq4y (p : Nums) : List IOp := [qo 24 (.faddr 0 (.t 1)), qo 25 (.faddr 2 (.t 24)), qo 26 (.load none (.t 25)), qo 27 (.len (.t 26)), qo 28 (.mov (ci 0))]
def Jq4i (p : Nums) : IC := (.region (Jq4y p) [])
@[simp] theorem Je4i {p : Nums} : EqI (Jq4i p) (.region (Jq4y p) []) := eqi
@[simp] def Jq4z (p : Nums) : List IOp := [qo 30 (.mov (.t 28)), qo 31 (.iaddr 5 (.t 26) (.t 28)), qo 32 (.load (some 5) (.t 31)), qo 6 (.alloc [.nils, (zi 0), (zi 0), (zi 0), (zi 0)]), qo 5 (.asg (.t 30)), qn (.store 5 (.t 6) (.t 32))]
def Jq4j (p : Nums) : IC := (.region (Jq4z p) [])
@[simp] theorem Je4j {p : Nums} : EqI (Jq4j p) (.region (Jq4z p) []) := eqi
@[simp] def Jq50 (p : Nums) : List IOp := [qp 33 (.load (some 5) (.t 6)), qp 34 (.faddr 3 (.t 1)), qp 35 (.faddr 3 (.t 34)), qp 36 (.load none (.t 35)), qp 37 (.mov (.t 5)), qp 38 (.iaddr 5 (.t 36) (.t 37)), qp 39 (.load (some 5) (.t 38)), qp 40 (.faddr 7 (.t 1)), qp 41 (.load none (.t 40)), qp 42 (.mov (.t 5)), qp 43 (.iaddr 1 (.t 41) (.t 42)), qp 44 (.load none (.t 43)), qp 45 (.call p.blockcheck_Check [(.t 33), (.t 39), (.t 44), (ci 1048576)]), qp 7 (.alloc [.nils, (zi 0), (zi 0), (zi 0), (zi 0)]), qn (.store 5 (.t 7) (.t 45))]
def Jq4k (p : Nums) : IC := (.region (Jq50 p) [])
@[simp] theorem Je4k {p : Nums} : EqI (Jq4k p) (.region (Jq50 p) []) := eqi
@[simp] def Jq4m (p : Nums) : List IOp := [qp 46 (.faddr 3 (.t 4)), qp 47 (.load none (.t 46)), qp 48 (.bin .add (.t 47) (ci 1)), qp 49 (.faddr 5 (.t 4)), qp 50 (.load none (.t 49)), qp 51 (.faddr 3 (.t 7)), qp 52 (.load none (.t 51)), qp 53 (.bin .add (.t 50) (.t 52)), qp 54 (.faddr 6 (.t 4)), qp 55 (.load none (.t 54)), qp 56 (.faddr 4 (.t 7)), qp 57 (.load none (.t 56)), qp 58 (.mx (.t 55) (.t 57)), qp 59 (.faddr 3 (.t 4)), qm (.storeq 1 (.t 59) (.t 48) [(51, 1), (56, 1)]), qp 60 (.faddr 5 (.t 4)), qm (.storeq 1 (.t 60) (.t 53) [(56, 1)]), qo 61 (.faddr 6 (.t 4)), qn (.store 1 (.t 61) (.t 58))]
def Jq41 (p : Nums) : IC := (.region (Jq4m p) [])
@[simp] theorem Je41 {p : Nums} : EqI (Jq41 p) (.region (Jq4m p) []) := eqi
@[simp] def Jq4n (p : Nums) : List IOp := [qo 62 (.faddr 1 (.t 7)), qo 63 (.load none (.t 62)), qo 64 (.bin .neq (.t 63) (ci 0))]
def Jq42 (p : Nums) : IC := (.region (Jq4n p) [])
@[simp] theorem Je42 {p : Nums} : EqI (Jq42 p) (.region (Jq4n p) []) := eqi
@[simp] def Jq4o (p : Nums) : List IOp := [qp 65 (.faddr 1 (.t 7)), qp 66 (.load none (.t 65)), qp 67 (.mov (.t 5)), qp 68 (.faddr 2 (.t 7)), qp 69 (.load none (.t 68)), qp 70 (.faddr 0 (.t 4)), qm (.storeq 1 (.t 70) (.t 66) [(68, 1)]), qp 71 (.faddr 1 (.t 4)), qm (.storeq 1 (.t 71) (.t 67) [(68, 1)]), qo 72 (.faddr 2 (.t 4)), qn (.store 1 (.t 72) (.t 69))]
def Jq43 (p : Nums) : IC := (.region (Jq4o p) [])
@[simp] theorem Je43 {p : Nums} : EqI (Jq43 p) (.region (Jq4o p) []) := eqi
@[simp] def Jq4p (p : Nums) : List IOp := [qo 73 (.faddr 1 (.t 6)), qo 74 (.load (some 4) (.t 73)), qo 75 (.call p.source_Successors [(.t 74)]), qo 76 (.len (.t 75)), qo 77 (.mov (ci 0))]
def Jq44 (p : Nums) : IC := (.region (Jq4p p) [])
@[simp] theorem Je44 {p : Nums} : EqI (Jq44 p) (.region (Jq4p p) []) := eqi
@[simp] def Jq4q (p : Nums) : List IOp := [qo 79 (.mov (.t 77)), qo 80 (.iaddr 1 (.t 75) (.t 77)), qo 81 (.load none (.t 80)), qo 8 (.asg (.t 79)), qo 9 (.asg (.t 81))]
def Jq45 (p : Nums) : IC := (.region (Jq4q p) [])
@[simp] theorem Je45 {p : Nums} : EqI (Jq45 p) (.region (Jq4q p) []) := eqi
@[simp] def Jq4r (p : Nums) : List IOp := [qp 82 (.faddr 4 (.t 4)), qp 83 (.load none (.t 82)), qp 84 (.bin .add (.t 83) (ci 1)), qp 85 (.faddr 5 (.t 4)), qp 86 (.load none (.t 85)), qp 87 (.bin .add (.t 86) (ci 1)), qp 88 (.faddr 0 (.t 7)), qp 89 (.load none (.t 88)), qp 90 (.len (.t 89)), qp 91 (.bin .add (.t 87) (.t 90)), qp 92 (.faddr 7 (.t 1)), qp 93 (.load none (.t 92)), qp 94 (.mov (.t 9)), qp 95 (.iaddr 1 (.t 93) (.t 94)), qp 96 (.load none (.t 95)), qp 97 (.len (.t 96)), qp 98 (.bin .add (.t 91) (.t 97)), qp 99 (.faddr 4 (.t 4)), qm (.storeq 1 (.t 99) (.t 84) [(88, 1), (92, 1), (95, 1)]), qo 100 (.faddr 5 (.t 4)), qn (.store 1 (.t 100) (.t 98))]
def Jq46 (p : Nums) : IC := (.region (Jq4r p) [])
@[simp] theorem Je46 {p : Nums} : EqI (Jq46 p) (.region (Jq4r p) []) := eqi
@[simp] def Jq4s (p : Nums) : List IOp := [qp 102 (.faddr 0 (.t 7)), qp 103 (.load none (.t 102)), qp 104 (.faddr 7 (.t 1)), qp 105 (.load none (.t 104)), qp 106 (.mov (.t 9)), qp 107 (.iaddr 1 (.t 105) (.t 106)), qp 108 (.load none (.t 107)), qp 109 (.call p.edge_Implies [(.t 103), (.t 108)]), qp 101 (.mov (.t 109)), qp 110 (.ext (.t 101) 0), qp 111 (.ext (.t 101) 1), qp 10 (.alloc [(zi 0), (zi 0)]), qm (.storeq 2 (.t 10) (.t 110) []), qo 11 (.asg (.t 111))]
def Jq47 (p : Nums) : IC := (.region (Jq4s p) [])
@[simp] theorem Je47 {p : Nums} : EqI (Jq47 p) (.region (Jq4s p) []) := eqi
@[simp] def Jq4t (p : Nums) : List IOp := [qo 114 (.mov (.t 11)), qo 115 (.mov (.t 5)), qo 116 (.mov (.t 8)), qo 117 (.faddr 0 (.t 4)), qn (.store 1 (.t 117) (.t 114)), qo 118 (.faddr 1 (.t 4)), qn (.store 1 (.t 118) (.t 115)), qo 119 (.faddr 2 (.t 4)), qn (.store 1 (.t 119) (.t 116))]
def Jq48 (p : Nums) : IC := (.region (Jq4t p) [])
@[simp] theorem Je48 {p : Nums} : EqI (Jq48 p) (.region (Jq4t p) []) := eqi
def Jq49 (p : Nums) : IC := (.seq (Jq45 p) (.seq (Jq46 p) (.seq (Jq47 p) (.seq (.region [⟨(some 112), (.mov (.t 11)), none, false⟩, ⟨(some 113), (.bin .neq (.t 112) (.c (.d (.int .i64 0)))), none, false⟩] []) (.cond (.t 113) (.seq (Jq48 p) (.exit 0)) .skip)))))
@[simp] theorem Je49 {p : Nums} : EqI (Jq49 p) (.seq (Jq45 p) (.seq (Jq46 p) (.seq (Jq47 p) (.seq (.region [⟨(some 112), (.mov (.t 11)), none, false⟩, ⟨(some 113), (.bin .neq (.t 112) (.c (.d (.int .i64 0)))), none, false⟩] []) (.cond (.t 113) (.seq (Jq48 p) (.exit 0)) .skip))))) := eqi
def Jq4a (p : Nums) : IC := (.seq (.region [⟨(some 78), (.bin .lss (.t 77) (.t 76)), none, false⟩] []) (.seq (.cond (.t 78) .skip (.exit 2)) (.seq (.block 3 (Jq49 p)) (.region [⟨(some 120), (.bin .add (.t 77) (.c (.d (.int .i64 1)))), none, false⟩, ⟨(some 77), (.mov (.t 120)), none, false⟩] []))))
@[simp] theorem Je4a {p : Nums} : EqI (Jq4a p) (.seq (.region [⟨(some 78), (.bin .lss (.t 77) (.t 76)), none, false⟩] []) (.seq (.cond (.t 78) .skip (.exit 2)) (.seq (.block 3 (Jq49 p)) (.region [⟨(some 120), (.bin .add (.t 77) (.c (.d (.int .i64 1)))), none, false⟩, ⟨(some 77), (.mov (.t 120)), none, false⟩] [])))) := eqi
def Jq4c (p : Nums) : IC := (.seq (Jq4j p) (.seq (Jq4k p) (.seq (Jq41 p) (.seq (.seq (Jq42 p) (.cond (.t 64) (.seq (Jq43 p) (.exit 0)) .skip)) (.seq (Jq44 p) (.block 2 (.loop (Jq4a p))))))))
@[simp] theorem Je4c {p : Nums} : EqI (Jq4c p) (.seq (Jq4j p) (.seq (Jq4k p) (.seq (Jq41 p) (.seq (.seq (Jq42 p) (.cond (.t 64) (.seq (Jq43 p) (.exit 0)) .skip)) (.seq (Jq44 p) (.block 2 (.loop (Jq4a p)))))))) := eqi
def Jq4d (p : Nums) : IC := (.seq (.region [⟨(some 29), (.bin .lss (.t 28) (.t 27)), none, false⟩] []) (.seq (.cond (.t 29) .skip (.exit 0)) (.seq (.block 1 (Jq4c p)) (.region [⟨(some 121), (.bin .add (.t 28) (.c (.d (.int .i64 1)))), none, false⟩, ⟨(some 28), (.mov (.t 121)), none, false⟩] []))))
@[simp] theorem Je4d {p : Nums} : EqI (Jq4d p) (.seq (.region [⟨(some 29), (.bin .lss (.t 28) (.t 27)), none, false⟩] []) (.seq (.cond (.t 29) .skip (.exit 0)) (.seq (.block 1 (Jq4c p)) (.region [⟨(some 121), (.bin .add (.t 28) (.c (.d (.int .i64 1)))), none, false⟩, ⟨(some 28), (.mov (.t 121)), none, false⟩] [])))) := eqi
def Jtas (p : Nums) : IC := (.seq (Jq40 p) (.seq (.seq (Jq4b p) (.seq (.region [⟨(some 14), (.mov (.t 3)), none, false⟩, ⟨(some 15), (.bin .neq (.t 14) (.c (.d (.int .i64 0)))), none, false⟩] []) (.cond (.t 15) (.seq (Jq4e p) .ret) .skip))) (.seq (Jq4f p) (.seq (.seq (Jq4g p) (.cond (.t 22) (Jq4h p) .skip)) (.seq .skip (.seq (.seq (Jq4i p) (.block 0 (.loop (Jq4d p)))) (.seq (.region [⟨(some 122), (.load (some 7) (.t 4)), none, false⟩, ⟨none, (.store 7 (.t 2) (.t 122)), none, false⟩] []) .ret)))))))
@[simp] def Jqgo (p : Nums) : List IOp := [qo 3 (.faddr 0 (.t 1)), qo 4 (.load none (.t 3)), qo 5 (.bin .eql (.t 4) (ci 1))]
def Jqgk (p : Nums) : IC := (.region (Jqgo p) [])
@[simp] theorem Jegk {p : Nums} : EqI (Jqgk p) (.region (Jqgo p) []) := eqi
@[simp] def Jqgp (p : Nums) : List IOp := [qo 6 (.faddr 2 (.t 1)), qo 7 (.load none (.t 6)), qo 8 (.bslice 1 1 [(.int .i64 0)] [(0, (.t 7))]), qo 2 (.asg (.t 8))]
def Jqgl (p : Nums) : IC := (.region (Jqgp p) [])
@[simp] theorem Jegl {p : Nums} : EqI (Jqgl p) (.region (Jqgp p) []) := eqi
@[simp] def Jqgq (p : Nums) : List IOp := [qo 9 (.faddr 0 (.t 1)), qo 10 (.load none (.t 9)), qo 11 (.bin .eql (.t 10) (ci 2))]
def Jqgm (p : Nums) : IC := (.region (Jqgq p) [])
@[simp] theorem Jegm {p : Nums} : EqI (Jqgm p) (.region (Jqgq p) []) := eqi
@[simp] def Jqgr (p : Nums) : List IOp := [qo 12 (.faddr 2 (.t 1)), qo 13 (.load none (.t 12)), qo 14 (.faddr 3 (.t 1)), qo 15 (.load none (.t 14)), qo 16 (.bslice 1 2 [(.int .i64 0)] [(0, (.t 13)), (1, (.t 15))]), qo 2 (.asg (.t 16))]
def Jqgn (p : Nums) : IC := (.region (Jqgr p) [])
@[simp] theorem Jegn {p : Nums} : EqI (Jqgn p) (.region (Jqgr p) []) := eqi
def Jtc4 (p : Nums) : IC := (.seq (.region [⟨(some 1), (.box (.t 0)), none, false⟩, ⟨(some 2), (.asg (.c .nils)), none, false⟩] []) (.seq (.seq (Jqgk p) (.cond (.t 5) (.seq (Jqgl p) .ret) .skip)) (.seq (.seq (Jqgm p) (.cond (.t 11) (.seq (Jqgn p) .ret) .skip)) (.seq (.region [⟨(some 2), (.asg (.c .nils)), none, false⟩] []) .ret))))
@[simp] def Jq3v (p : Nums) : List IOp := [qp 8 (.faddr 0 (.t 2)), qp 9 (.load (some 3) (.t 8)), qp 10 (.call p.source_Code [(.t 9)]), qp 11 (.faddr 3 (.t 2)), qp 12 (.load (some 4) (.t 11)), qp 13 (.call p.machine_Code [(.t 12)]), qp 14 (.bin .add (.t 10) (.t 13)), qp 15 (.faddr 0 (.t 2)), qp 16 (.faddr 2 (.t 15)), qp 17 (.load none (.t 16)), qp 18 (.len (.t 17)), qo 19 (.bin .add (.t 14) (.t 18)), qo 20 (.bin .add (.t 19) (ci 1)), qo 5 (.asg (.t 20))]
def Jq3p (p : Nums) : IC := (.region (Jq3v p) [])
@[simp] theorem Je3p {p : Nums} : EqI (Jq3p p) (.region (Jq3v p) []) := eqi
@[simp] def Jq3w (p : Nums) : List IOp := [qo 21 (.faddr 0 (.t 2)), qo 22 (.faddr 2 (.t 21)), qo 23 (.load none (.t 22)), qo 24 (.len (.t 23)), qo 25 (.mov (ci 0))]
def Jq3q (p : Nums) : IC := (.region (Jq3w p) [])
@[simp] theorem Je3q {p : Nums} : EqI (Jq3q p) (.region (Jq3w p) []) := eqi
@[simp] def Jq3x (p : Nums) : List IOp := [qo 27 (.iaddr 5 (.t 23) (.t 25)), qo 28 (.load (some 5) (.t 27)), qo 7 (.alloc [.nils, (zi 0), (zi 0), (zi 0), (zi 0)]), qn (.store 5 (.t 7) (.t 28))]
def Jq3r (p : Nums) : IC := (.region (Jq3x p) [])
@[simp] theorem Je3r {p : Nums} : EqI (Jq3r p) (.region (Jq3x p) []) := eqi
@[simp] def Jq3y (p : Nums) : List IOp := [qo 29 (.mov (.t 5)), qo 30 (.faddr 1 (.t 7)), qo 31 (.load (some 4) (.t 30)), qo 32 (.call p.source_Successors [(.t 31)]), qo 33 (.len (.t 32)), qo 34 (.bin .add (.t 29) (.t 33)), qo 5 (.asg (.t 34))]
def Jq3s (p : Nums) : IC := (.region (Jq3y p) [])
@[simp] theorem Je3s {p : Nums} : EqI (Jq3s p) (.region (Jq3y p) []) := eqi
def Jq3t (p : Nums) : IC := (.seq (.region [⟨(some 26), (.bin .lss (.t 25) (.t 24)), none, false⟩] []) (.seq (.cond (.t 26) .skip (.exit 0)) (.seq (.block 1 (.seq (Jq3r p) (Jq3s p))) (.region [⟨(some 35), (.bin .add (.t 25) (.c (.d (.int .i64 1)))), none, false⟩, ⟨(some 25), (.mov (.t 35)), none, false⟩] []))))
@[simp] theorem Je3t {p : Nums} : EqI (Jq3t p) (.seq (.region [⟨(some 26), (.bin .lss (.t 25) (.t 24)), none, false⟩] []) (.seq (.cond (.t 26) .skip (.exit 0)) (.seq (.block 1 (.seq (Jq3r p) (Jq3s p))) (.region [⟨(some 35), (.bin .add (.t 25) (.c (.d (.int .i64 1)))), none, false⟩, ⟨(some 25), (.mov (.t 35)), none, false⟩] [])))) := eqi
@[simp] def Jq3z (p : Nums) : List IOp := [qo 36 (.mov (.t 5)), qo 37 (.bin .mul (ci 3) (.t 36)), qo 38 (.mov (.t 1)), qo 39 (.bin .add (.t 38) (ci 1)), qo 40 (.bin .mul (.t 37) (.t 39)), qo 4 (.asg (.t 40))]
def Jq3u (p : Nums) : IC := (.region (Jq3z p) [])
@[simp] theorem Je3u {p : Nums} : EqI (Jq3u p) (.region (Jq3z p) []) := eqi
def Jtar (p : Nums) : IC := (.seq (.region [⟨(some 2), (.box (.t 0)), none, false⟩, ⟨(some 4), (.asg (.c (.d (.int .i64 0)))), none, false⟩] []) (.seq (Jq3p p) (.seq (.seq (Jq3q p) (.block 0 (.loop (Jq3t p)))) (.seq (Jq3u p) .ret))))
@[simp] def Jqmp (p : Nums) : List IOp := [qo 4 (.box (.t 0)), qo 5 (.box (.t 1)), qo 8 (.alloc [.nils, (zi 0), (zi 0), (zi 0), (zi 0)])]
def Jqlo (p : Nums) : IC := (.region (Jqmp p) [])
@[simp] theorem Jelo {p : Nums} : EqI (Jqlo p) (.region (Jqmp p) []) := eqi
@[simp] def Jqmz (p : Nums) : List IOp := [qo 20 (.bslice 2 0 [(.int .i64 0), (.int .i64 0)] []), qo 21 (.mov (.t 2)), qo 22 (.app 2 16 (.t 20) (.t 21)), qo 23 (.mov (.t 2)), qo 24 (.len (.t 23)), qo 25 (.build [.nils, (zi 0), (zi 0), (zi 0), (zi 0)] [(0, 1, (.t 22)), (4, 1, (.t 24))]), qo 9 (.alloc [.nils, (zi 0), (zi 0), (zi 0), (zi 0)]), qn (.store 5 (.t 9) (.t 25))]
def Jqlz (p : Nums) : IC := (.region (Jqmz p) [])
@[simp] theorem Jelz {p : Nums} : EqI (Jqlz p) (.region (Jqmz p) []) := eqi
@[simp] def Jqn9 (p : Nums) : List IOp := [qo 26 (.mov (.t 2)), qo 27 (.len (.t 26)), qo 28 (.mov (.t 3)), qo 29 (.bin .gtr (.t 27) (.t 28))]
def Jqma (p : Nums) : IC := (.region (Jqn9 p) [])
@[simp] theorem Jema {p : Nums} : EqI (Jqma p) (.region (Jqn9 p) []) := eqi
@[simp] def Jqng (p : Nums) : List IOp := [qo 30 (.load (some 5) (.t 9)), qo 31 (.call p.ref14_fail [(.t 30), (ci 24), (ci 0)]), qn (.store 5 (.t 8) (.t 31))]
def Jqmj (p : Nums) : IC := (.region (Jqng p) [])
@[simp] theorem Jemj {p : Nums} : EqI (Jqmj p) (.region (Jqng p) []) := eqi
@[simp] def Jqnh (p : Nums) : List IOp := [qo 33 (.faddr 0 (.t 4)), qo 34 (.load none (.t 33)), qo 35 (.faddr 0 (.t 5)), qo 36 (.load none (.t 35)), qo 37 (.call p.ref13_Code [(.t 34), (.t 36)]), qo 32 (.mov (.t 37)), qo 38 (.ext (.t 32) 0), qo 39 (.ext (.t 32) 1), qo 40 (.ext (.t 32) 2), qo 10 (.asg (.t 38)), qo 11 (.asg (.t 39)), qo 12 (.asg (.t 40))]
def Jqmk (p : Nums) : IC := (.region (Jqnh p) [])
@[simp] theorem Jemk {p : Nums} : EqI (Jqmk p) (.region (Jqnh p) []) := eqi
@[simp] def Jqni (p : Nums) : List IOp := [qo 43 (.load (some 5) (.t 9)), qo 44 (.mov (.t 11)), qo 45 (.call p.ref14_fail [(.t 43), (ci 20), (.t 44)]), qn (.store 5 (.t 8) (.t 45))]
def Jqml (p : Nums) : IC := (.region (Jqni p) [])
@[simp] theorem Jeml {p : Nums} : EqI (Jqml p) (.region (Jqni p) []) := eqi
@[simp] def Jqnj (p : Nums) : List IOp := [qo 46 (.faddr 0 (.t 5)), qo 47 (.load none (.t 46)), qo 48 (.len (.t 47)), qo 13 (.asg (.t 48))]
def Jqmm (p : Nums) : IC := (.region (Jqnj p) [])
@[simp] theorem Jemm {p : Nums} : EqI (Jqmm p) (.region (Jqnj p) []) := eqi
@[simp] def Jqnk (p : Nums) : List IOp := [qo 49 (.faddr 1 (.t 4)), qo 50 (.load (some 4) (.t 49)), qo 51 (.faddr 1 (.t 5)), qo 52 (.load (some 4) (.t 51)), qo 53 (.call p.ref13_Terms [(.t 50), (.t 52)]), qo 54 (.un .not (.t 53))]
def Jqmn (p : Nums) : IC := (.region (Jqnk p) [])
@[simp] theorem Jemn {p : Nums} : EqI (Jqmn p) (.region (Jqnk p) []) := eqi
@[simp] def Jqnl (p : Nums) : List IOp := [qo 55 (.load (some 5) (.t 9)), qo 56 (.mov (.t 13)), qo 57 (.call p.ref14_fail [(.t 55), (ci 20), (.t 56)]), qn (.store 5 (.t 8) (.t 57))]
def Jqmo (p : Nums) : IC := (.region (Jqnl p) [])
@[simp] theorem Jemo {p : Nums} : EqI (Jqmo p) (.region (Jqnl p) []) := eqi
@[simp] def Jqmq (p : Nums) : List IOp := [qo 58 (.mov (.t 14)), qo 59 (.mov (.t 10)), qo 60 (.len (.t 59)), qo 61 (.bin .lss (.t 58) (.t 60))]
def Jqlp (p : Nums) : IC := (.region (Jqmq p) [])
@[simp] theorem Jelp {p : Nums} : EqI (Jqlp p) (.region (Jqmq p) []) := eqi
@[simp] def Jqmr (p : Nums) : List IOp := [qo 64 (.mov (.t 10)), qo 65 (.mov (.t 14)), qo 66 (.iaddr 6 (.t 64) (.t 65)), qo 67 (.load (some 6) (.t 66)), qo 15 (.alloc [(zi 0), (zi 0), (zi 0), (zi 0), (zi 0), (zi 0)]), qn (.store 6 (.t 15) (.t 67))]
def Jqlq (p : Nums) : IC := (.region (Jqmr p) [])
@[simp] theorem Jelq {p : Nums} : EqI (Jqlq p) (.region (Jqmr p) []) := eqi
@[simp] def Jqms (p : Nums) : List IOp := [qo 68 (.faddr 0 (.t 15)), qo 69 (.load none (.t 68)), qo 16 (.asg (.t 69))]
def Jqlr (p : Nums) : IC := (.region (Jqms p) [])
@[simp] theorem Jelr {p : Nums} : EqI (Jqlr p) (.region (Jqms p) []) := eqi
@[simp] def Jqmt (p : Nums) : List IOp := [qo 70 (.mov (.t 16)), qo 71 (.faddr 1 (.t 15)), qo 72 (.load none (.t 71)), qo 73 (.bin .lss (.t 70) (.t 72)), qo 74 (.mov (.t 73)), ⟨(some 75), (.faddr 1 (.t 9)), (some (74, true)), false⟩, ⟨(some 76), (.load none (.t 75)), (some (74, true)), false⟩, ⟨(some 77), (.bin .eql (.t 76) (ci 0)), (some (74, true)), false⟩, qo 78 (.pick (.t 74) (.t 77) (.c (.d (.bool false))))]
def Jqls (p : Nums) : IC := (.region (Jqmt p) [])
@[simp] theorem Jels {p : Nums} : EqI (Jqls p) (.region (Jqmt p) []) := eqi
@[simp] def Jqmu (p : Nums) : List IOp := [qp 81 (.load (some 5) (.t 9)), qp 82 (.faddr 0 (.t 9)), qp 83 (.load none (.t 82)), qp 84 (.faddr 0 (.t 4)), qp 85 (.load none (.t 84)), qp 86 (.mov (.t 16)), qp 87 (.iaddr 5 (.t 85) (.t 86)), qp 88 (.faddr 1 (.t 87)), qp 89 (.load none (.t 88)), qp 90 (.faddr 0 (.t 4)), qp 91 (.load none (.t 90)), qp 92 (.mov (.t 16)), qp 93 (.iaddr 5 (.t 91) (.t 92)), qp 94 (.faddr 2 (.t 93)), qp 95 (.load none (.t 94)), qp 96 (.call p.ref12_Copy [(.t 83), (.t 89), (.t 95)]), qp 97 (.mov (.t 3)), qp 98 (.faddr 2 (.t 15)), qp 99 (.load none (.t 98)), qo 100 (.call p.ref14_grow [(.t 81), (.t 96), (.t 97), (.t 99)]), qn (.store 5 (.t 9) (.t 100))]
def Jqlt (p : Nums) : IC := (.region (Jqmu p) [])
@[simp] theorem Jelt {p : Nums} : EqI (Jqlt p) (.region (Jqmu p) []) := eqi
@[simp] def Jqmv (p : Nums) : List IOp := [qo 79 (.mov (.t 16)), qo 80 (.bin .add (.t 79) (ci 1)), qo 16 (.asg (.t 80))]
def Jqlu (p : Nums) : IC := (.region (Jqmv p) [])
@[simp] theorem Jelu {p : Nums} : EqI (Jqlu p) (.region (Jqmv p) []) := eqi
def Jqlv (p : Nums) : IC := (.seq (.seq (Jqls p) (.cond (.t 78) .skip (.exit 2))) (.seq (.block 3 (Jqlt p)) (Jqlu p)))
@[simp] theorem Jelv {p : Nums} : EqI (Jqlv p) (.seq (.seq (Jqls p) (.cond (.t 78) .skip (.exit 2))) (.seq (.block 3 (Jqlt p)) (Jqlu p))) := eqi
@[simp] def Jqmw (p : Nums) : List IOp := [qo 101 (.faddr 2 (.t 15)), qo 102 (.load none (.t 101)), qo 17 (.asg (.t 102))]
def Jqlw (p : Nums) : IC := (.region (Jqmw p) [])
@[simp] theorem Jelw {p : Nums} : EqI (Jqlw p) (.region (Jqmw p) []) := eqi
@[simp] def Jqmx (p : Nums) : List IOp := [qo 103 (.mov (.t 17)), qo 104 (.faddr 3 (.t 15)), qo 105 (.load none (.t 104)), qo 106 (.bin .lss (.t 103) (.t 105)), qo 107 (.mov (.t 106)), ⟨(some 108), (.faddr 1 (.t 9)), (some (107, true)), false⟩, ⟨(some 109), (.load none (.t 108)), (some (107, true)), false⟩, ⟨(some 110), (.bin .eql (.t 109) (ci 0)), (some (107, true)), false⟩, qo 111 (.pick (.t 107) (.t 110) (.c (.d (.bool false))))]
def Jqlx (p : Nums) : IC := (.region (Jqmx p) [])
@[simp] theorem Jelx {p : Nums} : EqI (Jqlx p) (.region (Jqmx p) []) := eqi
@[simp] def Jqmy (p : Nums) : List IOp := [qp 114 (.load (some 5) (.t 9)), qp 115 (.faddr 0 (.t 9)), qp 116 (.load none (.t 115)), qp 117 (.faddr 0 (.t 5)), qp 118 (.load none (.t 117)), qp 119 (.mov (.t 17)), qp 120 (.iaddr 7 (.t 118) (.t 119)), qp 121 (.faddr 5 (.t 120)), qp 122 (.load none (.t 121)), qp 123 (.faddr 0 (.t 5)), qp 124 (.load none (.t 123)), qp 125 (.mov (.t 17)), qp 126 (.iaddr 7 (.t 124) (.t 125)), qp 127 (.faddr 6 (.t 126)), qp 128 (.load none (.t 127)), qp 129 (.call p.ref12_Move [(.t 116), (.t 122), (.t 128)]), qp 130 (.mov (.t 3)), qp 131 (.mov (.t 17)), qo 132 (.call p.ref14_grow [(.t 114), (.t 129), (.t 130), (.t 131)]), qn (.store 5 (.t 9) (.t 132))]
def Jqly (p : Nums) : IC := (.region (Jqmy p) [])
@[simp] theorem Jely {p : Nums} : EqI (Jqly p) (.region (Jqmy p) []) := eqi
@[simp] def Jqn0 (p : Nums) : List IOp := [qo 112 (.mov (.t 17)), qo 113 (.bin .add (.t 112) (ci 1)), qo 17 (.asg (.t 113))]
def Jqm0 (p : Nums) : IC := (.region (Jqn0 p) [])
@[simp] theorem Jem0 {p : Nums} : EqI (Jqm0 p) (.region (Jqn0 p) []) := eqi
def Jqm1 (p : Nums) : IC := (.seq (.seq (Jqlx p) (.cond (.t 111) .skip (.exit 4))) (.seq (.block 5 (Jqly p)) (Jqm0 p)))
@[simp] theorem Jem1 {p : Nums} : EqI (Jqm1 p) (.seq (.seq (Jqlx p) (.cond (.t 111) .skip (.exit 4))) (.seq (.block 5 (Jqly p)) (Jqm0 p))) := eqi
@[simp] def Jqn1 (p : Nums) : List IOp := [qo 133 (.faddr 4 (.t 15)), qo 134 (.load none (.t 133)), qo 135 (.bin .lss (.t 134) (ci 0)), qo 136 (.mov (.t 135)), ⟨(some 137), (.faddr 1 (.t 9)), (some (136, false)), false⟩, ⟨(some 138), (.load none (.t 137)), (some (136, false)), false⟩, ⟨(some 139), (.bin .neq (.t 138) (ci 0)), (some (136, false)), false⟩, qo 140 (.pick (.t 136) (.c (.d (.bool true))) (.t 139))]
def Jqm2 (p : Nums) : IC := (.region (Jqn1 p) [])
@[simp] theorem Jem2 {p : Nums} : EqI (Jqm2 p) (.region (Jqn1 p) []) := eqi
@[simp] def Jqn2 (p : Nums) : List IOp := [qo 141 (.faddr 0 (.t 4)), qo 142 (.load none (.t 141)), qo 143 (.faddr 4 (.t 15)), qo 144 (.load none (.t 143)), qo 145 (.iaddr 5 (.t 142) (.t 144)), qo 146 (.load (some 5) (.t 145)), qo 18 (.alloc [(zi 0), (zi 0), (zi 0), (zi 0), (zi 0)]), qn (.store 5 (.t 18) (.t 146))]
def Jqm3 (p : Nums) : IC := (.region (Jqn2 p) [])
@[simp] theorem Jem3 {p : Nums} : EqI (Jqm3 p) (.region (Jqn2 p) []) := eqi
@[simp] def Jqn3 (p : Nums) : List IOp := [qo 147 (.faddr 0 (.t 5)), qo 148 (.load none (.t 147)), qo 149 (.faddr 5 (.t 15)), qo 150 (.load none (.t 149)), qo 151 (.iaddr 7 (.t 148) (.t 150)), qo 152 (.load (some 7) (.t 151)), qo 19 (.alloc [(zi 0), (zi 0), (zi 0), (zi 0), (zi 0), (zi 0), (zi 0)]), qn (.store 7 (.t 19) (.t 152))]
def Jqm4 (p : Nums) : IC := (.region (Jqn3 p) [])
@[simp] theorem Jem4 {p : Nums} : EqI (Jqm4 p) (.region (Jqn3 p) []) := eqi
@[simp] def Jqn4 (p : Nums) : List IOp := [qo 153 (.faddr 0 (.t 18)), qo 154 (.load none (.t 153)), qo 155 (.call p.ref05_UsesA [(.t 154)])]
def Jqm5 (p : Nums) : IC := (.region (Jqn4 p) [])
@[simp] theorem Jem5 {p : Nums} : EqI (Jqm5 p) (.region (Jqn4 p) []) := eqi
@[simp] def Jqn5 (p : Nums) : List IOp := [qo 156 (.load (some 5) (.t 9)), qo 157 (.faddr 2 (.t 18)), qo 158 (.load none (.t 157)), qo 159 (.faddr 2 (.t 19)), qo 160 (.load none (.t 159)), qo 161 (.faddr 5 (.t 15)), qo 162 (.load none (.t 161)), qo 163 (.call p.ref14_use [(.t 156), (.t 158), (.t 160), (.t 162)]), qn (.store 5 (.t 9) (.t 163))]
def Jqm6 (p : Nums) : IC := (.region (Jqn5 p) [])
@[simp] theorem Jem6 {p : Nums} : EqI (Jqm6 p) (.region (Jqn5 p) []) := eqi
@[simp] def Jqn6 (p : Nums) : List IOp := [qo 164 (.faddr 0 (.t 18)), qo 165 (.load none (.t 164)), qo 166 (.call p.ref05_UsesB [(.t 165)]), qo 167 (.mov (.t 166)), ⟨(some 168), (.faddr 1 (.t 9)), (some (167, true)), false⟩, ⟨(some 169), (.load none (.t 168)), (some (167, true)), false⟩, ⟨(some 170), (.bin .eql (.t 169) (ci 0)), (some (167, true)), false⟩, qo 171 (.pick (.t 167) (.t 170) (.c (.d (.bool false))))]
def Jqm7 (p : Nums) : IC := (.region (Jqn6 p) [])
@[simp] theorem Jem7 {p : Nums} : EqI (Jqm7 p) (.region (Jqn6 p) []) := eqi
@[simp] def Jqn7 (p : Nums) : List IOp := [qo 172 (.load (some 5) (.t 9)), qo 173 (.faddr 3 (.t 18)), qo 174 (.load none (.t 173)), qo 175 (.faddr 3 (.t 19)), qo 176 (.load none (.t 175)), qo 177 (.faddr 5 (.t 15)), qo 178 (.load none (.t 177)), qo 179 (.call p.ref14_use [(.t 172), (.t 174), (.t 176), (.t 178)]), qn (.store 5 (.t 9) (.t 179))]
def Jqm8 (p : Nums) : IC := (.region (Jqn7 p) [])
@[simp] theorem Jem8 {p : Nums} : EqI (Jqm8 p) (.region (Jqn7 p) []) := eqi
@[simp] def Jqn8 (p : Nums) : List IOp := [qo 180 (.faddr 0 (.t 18)), qo 181 (.load none (.t 180)), qo 182 (.call p.ref05_UsesD [(.t 181)]), qo 183 (.mov (.t 182)), ⟨(some 184), (.faddr 1 (.t 9)), (some (183, true)), false⟩, ⟨(some 185), (.load none (.t 184)), (some (183, true)), false⟩, ⟨(some 186), (.bin .eql (.t 185) (ci 0)), (some (183, true)), false⟩, qo 187 (.pick (.t 183) (.t 186) (.c (.d (.bool false))))]
def Jqm9 (p : Nums) : IC := (.region (Jqn8 p) [])
@[simp] theorem Jem9 {p : Nums} : EqI (Jqm9 p) (.region (Jqn8 p) []) := eqi
@[simp] def Jqna (p : Nums) : List IOp := [qp 188 (.load (some 5) (.t 9)), qp 189 (.faddr 0 (.t 9)), qp 190 (.load none (.t 189)), qp 191 (.faddr 1 (.t 18)), qp 192 (.load none (.t 191)), qp 193 (.faddr 1 (.t 19)), qp 194 (.load none (.t 193)), qp 195 (.bin .mul (ci 2) (.t 194)), qp 196 (.call p.ref12_Define [(.t 190), (.t 192), (.t 195)]), qp 197 (.mov (.t 3)), qp 198 (.faddr 5 (.t 15)), qp 199 (.load none (.t 198)), qo 200 (.call p.ref14_grow [(.t 188), (.t 196), (.t 197), (.t 199)]), qn (.store 5 (.t 9) (.t 200))]
def Jqmb (p : Nums) : IC := (.region (Jqna p) [])
@[simp] theorem Jemb {p : Nums} : EqI (Jqmb p) (.region (Jqna p) []) := eqi
def Jqmc (p : Nums) : IC := (.seq (Jqlq p) (.seq (.seq (Jqlr p) (.block 2 (.loop (Jqlv p)))) (.seq (.seq (Jqlw p) (.block 4 (.loop (Jqm1 p)))) (.seq (.seq (Jqm2 p) (.cond (.t 140) (.exit 1) .skip)) (.seq (Jqm3 p) (.seq (Jqm4 p) (.seq (.seq (Jqm5 p) (.cond (.t 155) (Jqm6 p) .skip)) (.seq (.seq (Jqm7 p) (.cond (.t 171) (Jqm8 p) .skip)) (.seq (Jqm9 p) (.cond (.t 187) (Jqmb p) .skip))))))))))
@[simp] theorem Jemc {p : Nums} : EqI (Jqmc p) (.seq (Jqlq p) (.seq (.seq (Jqlr p) (.block 2 (.loop (Jqlv p)))) (.seq (.seq (Jqlw p) (.block 4 (.loop (Jqm1 p)))) (.seq (.seq (Jqm2 p) (.cond (.t 140) (.exit 1) .skip)) (.seq (Jqm3 p) (.seq (Jqm4 p) (.seq (.seq (Jqm5 p) (.cond (.t 155) (Jqm6 p) .skip)) (.seq (.seq (Jqm7 p) (.cond (.t 171) (Jqm8 p) .skip)) (.seq (Jqm9 p) (.cond (.t 187) (Jqmb p) .skip)))))))))) := eqi
@[simp] def Jqnb (p : Nums) : List IOp := [qo 62 (.mov (.t 14)), qo 63 (.bin .add (.t 62) (ci 1)), qo 14 (.asg (.t 63))]
def Jqmd (p : Nums) : IC := (.region (Jqnb p) [])
@[simp] theorem Jemd {p : Nums} : EqI (Jqmd p) (.region (Jqnb p) []) := eqi
def Jqme (p : Nums) : IC := (.seq (.seq (Jqlp p) (.cond (.t 61) .skip (.exit 0))) (.seq (.block 1 (Jqmc p)) (Jqmd p)))
@[simp] theorem Jeme {p : Nums} : EqI (Jqme p) (.seq (.seq (Jqlp p) (.cond (.t 61) .skip (.exit 0))) (.seq (.block 1 (Jqmc p)) (Jqmd p))) := eqi
@[simp] def Jqnc (p : Nums) : List IOp := [qo 201 (.faddr 1 (.t 4)), qo 202 (.faddr 0 (.t 201)), qo 203 (.load none (.t 202)), qo 204 (.bin .neq (.t 203) (ci 1)), qo 205 (.mov (.t 204)), ⟨(some 206), (.faddr 1 (.t 9)), (some (205, true)), false⟩, ⟨(some 207), (.load none (.t 206)), (some (205, true)), false⟩, ⟨(some 208), (.bin .eql (.t 207) (ci 0)), (some (205, true)), false⟩, qo 209 (.pick (.t 205) (.t 208) (.c (.d (.bool false))))]
def Jqmf (p : Nums) : IC := (.region (Jqnc p) [])
@[simp] theorem Jemf {p : Nums} : EqI (Jqmf p) (.region (Jqnc p) []) := eqi
@[simp] def Jqnd (p : Nums) : List IOp := [qo 210 (.load (some 5) (.t 9)), qo 211 (.faddr 1 (.t 4)), qo 212 (.faddr 1 (.t 211)), qo 213 (.load none (.t 212)), qo 214 (.faddr 1 (.t 5)), qo 215 (.faddr 1 (.t 214)), qo 216 (.load none (.t 215)), qo 217 (.mov (.t 13)), qo 218 (.call p.ref14_use [(.t 210), (.t 213), (.t 216), (.t 217)]), qn (.store 5 (.t 9) (.t 218))]
def Jqmg (p : Nums) : IC := (.region (Jqnd p) [])
@[simp] theorem Jemg {p : Nums} : EqI (Jqmg p) (.region (Jqnd p) []) := eqi
@[simp] def Jqne (p : Nums) : List IOp := [qo 219 (.faddr 1 (.t 9)), qo 220 (.load none (.t 219)), qo 221 (.bin .eql (.t 220) (ci 0))]
def Jqmh (p : Nums) : IC := (.region (Jqne p) [])
@[simp] theorem Jemh {p : Nums} : EqI (Jqmh p) (.region (Jqne p) []) := eqi
@[simp] def Jqnf (p : Nums) : List IOp := [qo 222 (.mov (.t 13)), qo 223 (.faddr 2 (.t 9)), qn (.store 1 (.t 223) (.t 222))]
def Jqmi (p : Nums) : IC := (.region (Jqnf p) [])
@[simp] theorem Jemi {p : Nums} : EqI (Jqmi p) (.region (Jqnf p) []) := eqi
def Jtck (p : Nums) : IC := (.seq (Jqlo p) (.seq (Jqlz p) (.seq (.seq (Jqma p) (.cond (.t 29) (.seq (Jqmj p) .ret) .skip)) (.seq (Jqmk p) (.seq (.seq (.region [⟨(some 41), (.mov (.t 12)), none, false⟩, ⟨(some 42), (.bin .neq (.t 41) (.c (.d (.int .i64 0)))), none, false⟩] []) (.cond (.t 42) (.seq (Jqml p) .ret) .skip)) (.seq (Jqmm p) (.seq (.seq (Jqmn p) (.cond (.t 54) (.seq (Jqmo p) .ret) .skip)) (.seq (.seq (.region [⟨(some 14), (.asg (.c (.d (.int .i64 0)))), none, false⟩] []) (.block 0 (.loop (Jqme p)))) (.seq (.seq (Jqmf p) (.cond (.t 209) (Jqmg p) .skip)) (.seq (.seq (Jqmh p) (.cond (.t 221) (Jqmi p) .skip)) (.seq (.region [⟨(some 224), (.load (some 5) (.t 9)), none, false⟩, ⟨none, (.store 5 (.t 8) (.t 224)), none, false⟩] []) .ret)))))))))))
@[simp] def Jqiu (p : Nums) : List IOp := [qo 4 (.alloc [(zi 0), (zi 0)]), qo 5 (.asg (.c (.d (.bool false))))]
def Jqim (p : Nums) : IC := (.region (Jqiu p) [])
@[simp] theorem Jeim {p : Nums} : EqI (Jqim p) (.region (Jqiu p) []) := eqi
@[simp] def Jqiv (p : Nums) : List IOp := [qo 7 (.mov (.t 6)), qo 8 (.mov (.t 0)), qo 9 (.len (.t 8)), qo 10 (.bin .lss (.t 7) (.t 9))]
def Jqin (p : Nums) : IC := (.region (Jqiv p) [])
@[simp] theorem Jein {p : Nums} : EqI (Jqin p) (.region (Jqiv p) []) := eqi
@[simp] def Jqiw (p : Nums) : List IOp := [qo 13 (.mov (.t 1)), qo 14 (.mov (.t 0)), qo 15 (.mov (.t 6)), qo 16 (.iaddr 2 (.t 14) (.t 15)), qo 17 (.load (some 2) (.t 16)), qo 18 (.call p.ref11_Has [(.t 13), (.t 17)]), qo 19 (.un .not (.t 18))]
def Jqio (p : Nums) : IC := (.region (Jqiw p) [])
@[simp] theorem Jeio {p : Nums} : EqI (Jqio p) (.region (Jqiw p) []) := eqi
@[simp] def Jqix (p : Nums) : List IOp := [qo 20 (.mov (.t 0)), qo 21 (.mov (.t 6)), qo 22 (.iaddr 2 (.t 20) (.t 21)), qo 23 (.load (some 2) (.t 22)), qn (.store 2 (.t 4) (.t 23)), qo 5 (.asg (.c (.d (.bool true))))]
def Jqip (p : Nums) : IC := (.region (Jqix p) [])
@[simp] theorem Jeip {p : Nums} : EqI (Jqip p) (.region (Jqix p) []) := eqi
def Jqiq (p : Nums) : IC := (.seq (Jqio p) (.cond (.t 19) (.seq (Jqip p) .ret) .skip))
@[simp] theorem Jeiq {p : Nums} : EqI (Jqiq p) (.seq (Jqio p) (.cond (.t 19) (.seq (Jqip p) .ret) .skip)) := eqi
@[simp] def Jqiy (p : Nums) : List IOp := [qo 11 (.mov (.t 6)), qo 12 (.bin .add (.t 11) (ci 1)), qo 6 (.asg (.t 12))]
def Jqir (p : Nums) : IC := (.region (Jqiy p) [])
@[simp] theorem Jeir {p : Nums} : EqI (Jqir p) (.region (Jqiy p) []) := eqi
def Jqis (p : Nums) : IC := (.seq (.seq (Jqin p) (.cond (.t 10) .skip (.exit 0))) (.seq (.block 1 (Jqiq p)) (Jqir p)))
@[simp] theorem Jeis {p : Nums} : EqI (Jqis p) (.seq (.seq (Jqin p) (.cond (.t 10) .skip (.exit 0))) (.seq (.block 1 (Jqiq p)) (Jqir p))) := eqi
@[simp] def Jqiz (p : Nums) : List IOp := [qo 24 (.build [(zi 0), (zi 0)] []), qn (.store 2 (.t 4) (.t 24)), qo 5 (.asg (.c (.d (.bool false))))]
def Jqit (p : Nums) : IC := (.region (Jqiz p) [])
@[simp] theorem Jeit {p : Nums} : EqI (Jqit p) (.region (Jqiz p) []) := eqi
def Jtcb (p : Nums) : IC := (.seq (Jqim p) (.seq (.seq (.region [⟨(some 6), (.asg (.c (.d (.int .i64 0)))), none, false⟩] []) (.block 0 (.loop (Jqis p)))) (.seq (Jqit p) .ret)))
@[simp] def Jqov (p : Nums) : List IOp := [qo 1 (.box (.t 0)), qo 2 (.alloc [(zi 0), (zi 0), .nils, (zi 0), (zi 0), (zi 0), .nils, .nils])]
def Jqop (p : Nums) : IC := (.region (Jqov p) [])
@[simp] theorem Jeop {p : Nums} : EqI (Jqop p) (.region (Jqov p) []) := eqi
@[simp] def Jqow (p : Nums) : List IOp := [qp 5 (.faddr 0 (.t 1)), qp 6 (.load (some 3) (.t 5)), qp 7 (.call p.ref07_Copy [(.t 6)]), qp 8 (.faddr 3 (.t 1)), qp 9 (.load (some 4) (.t 8)), qp 10 (.call p.ref08_Copy [(.t 9)]), qp 11 (.build [(zi 0), (zi 0), .nils, (zi 0), (zi 0), (zi 0), .nils, .nils] [(0, 3, (.t 7)), (3, 4, (.t 10))]), qp 3 (.alloc [(zi 0), (zi 0), .nils, (zi 0), (zi 0), (zi 0), .nils, .nils]), qn (.store 8 (.t 3) (.t 11))]
def Jqoq (p : Nums) : IC := (.region (Jqow p) [])
@[simp] theorem Jeoq {p : Nums} : EqI (Jqoq p) (.region (Jqow p) []) := eqi
@[simp] def Jqox (p : Nums) : List IOp := [qo 12 (.mov (.t 4)), qo 13 (.faddr 7 (.t 1)), qo 14 (.load none (.t 13)), qo 15 (.len (.t 14)), qo 16 (.bin .lss (.t 12) (.t 15))]
def Jqor (p : Nums) : IC := (.region (Jqox p) [])
@[simp] theorem Jeor {p : Nums} : EqI (Jqor p) (.region (Jqox p) []) := eqi
@[simp] def Jqoy (p : Nums) : List IOp := [qp 19 (.faddr 7 (.t 3)), qp 20 (.load none (.t 19)), qp 21 (.bslice 2 0 [(.int .i64 0), (.int .i64 0)] []), qp 22 (.faddr 7 (.t 1)), qp 23 (.load none (.t 22)), qp 24 (.mov (.t 4)), qp 25 (.iaddr 1 (.t 23) (.t 24)), qp 26 (.load none (.t 25)), qp 27 (.app 2 16 (.t 21) (.t 26)), qp 28 (.bslice 1 1 [(.sl [])] [(0, (.t 27))]), qo 29 (.app 1 24 (.t 20) (.t 28)), qo 30 (.faddr 7 (.t 3)), qn (.store 1 (.t 30) (.t 29))]
def Jqos (p : Nums) : IC := (.region (Jqoy p) [])
@[simp] theorem Jeos {p : Nums} : EqI (Jqos p) (.region (Jqoy p) []) := eqi
@[simp] def Jqoz (p : Nums) : List IOp := [qo 17 (.mov (.t 4)), qo 18 (.bin .add (.t 17) (ci 1)), qo 4 (.asg (.t 18))]
def Jqot (p : Nums) : IC := (.region (Jqoz p) [])
@[simp] theorem Jeot {p : Nums} : EqI (Jqot p) (.region (Jqoz p) []) := eqi
def Jqou (p : Nums) : IC := (.seq (.seq (Jqor p) (.cond (.t 16) .skip (.exit 0))) (.seq (.block 1 (Jqos p)) (Jqot p)))
@[simp] theorem Jeou {p : Nums} : EqI (Jqou p) (.seq (.seq (Jqor p) (.cond (.t 16) .skip (.exit 0))) (.seq (.block 1 (Jqos p)) (Jqot p))) := eqi
def Jtcp (p : Nums) : IC := (.seq (Jqop p) (.seq (Jqoq p) (.seq (.seq (.region [⟨(some 4), (.asg (.c (.d (.int .i64 0)))), none, false⟩] []) (.block 0 (.loop (Jqou p)))) (.seq (.region [⟨(some 31), (.load (some 8) (.t 3)), none, false⟩, ⟨none, (.store 8 (.t 2) (.t 31)), none, false⟩] []) .ret))))
@[simp] def Jqgf (p : Nums) : List IOp := [qo 4 (.faddr 2 (.t 1)), qo 5 (.load none (.t 4)), qo 6 (.len (.t 5)), qo 7 (.bin .gtr (.t 6) (ci 40)), qo 8 (.mov (.t 7)), ⟨(some 9), (.faddr 1 (.t 1)), (some (8, false)), false⟩, ⟨(some 10), (.load none (.t 9)), (some (8, false)), false⟩, ⟨(some 11), (.bin .gtr (.t 10) (ci 60)), (some (8, false)), false⟩, qo 12 (.pick (.t 8) (.c (.d (.bool true))) (.t 11))]
def Jqg6 (p : Nums) : IC := (.region (Jqgf p) [])
@[simp] theorem Jeg6 {p : Nums} : EqI (Jqg6 p) (.region (Jqgf p) []) := eqi
def Jqg7 (p : Nums) : IC := (.seq (.region [⟨(some 2), (.asg (.c (.d (.bool false)))), none, false⟩] []) .ret)
@[simp] theorem Jeg7 {p : Nums} : EqI (Jqg7 p) (.seq (.region [⟨(some 2), (.asg (.c (.d (.bool false)))), none, false⟩] []) .ret) := eqi
@[simp] def Jqgg (p : Nums) : List IOp := [qo 13 (.mov (.t 3)), qo 14 (.faddr 2 (.t 1)), qo 15 (.load none (.t 14)), qo 16 (.len (.t 15)), qo 17 (.bin .lss (.t 13) (.t 16))]
def Jqg8 (p : Nums) : IC := (.region (Jqgg p) [])
@[simp] theorem Jeg8 {p : Nums} : EqI (Jqg8 p) (.region (Jqgg p) []) := eqi
@[simp] def Jqgh (p : Nums) : List IOp := [qo 20 (.faddr 2 (.t 1)), qo 21 (.load none (.t 20)), qo 22 (.mov (.t 3)), qo 23 (.iaddr 5 (.t 21) (.t 22)), qo 24 (.faddr 0 (.t 23)), qo 25 (.load none (.t 24)), qo 26 (.len (.t 25)), qo 27 (.bin .gtr (.t 26) (ci 100))]
def Jqg9 (p : Nums) : IC := (.region (Jqgh p) [])
@[simp] theorem Jeg9 {p : Nums} : EqI (Jqg9 p) (.region (Jqgh p) []) := eqi
def Jqga (p : Nums) : IC := (.seq (.region [⟨(some 2), (.asg (.c (.d (.bool false)))), none, false⟩] []) .ret)
@[simp] theorem Jega {p : Nums} : EqI (Jqga p) (.seq (.region [⟨(some 2), (.asg (.c (.d (.bool false)))), none, false⟩] []) .ret) := eqi
def Jqgb (p : Nums) : IC := (.seq (Jqg9 p) (.cond (.t 27) (Jqga p) .skip))
@[simp] theorem Jegb {p : Nums} : EqI (Jqgb p) (.seq (Jqg9 p) (.cond (.t 27) (Jqga p) .skip)) := eqi
@[simp] def Jqgi (p : Nums) : List IOp := [qo 18 (.mov (.t 3)), qo 19 (.bin .add (.t 18) (ci 1)), qo 3 (.asg (.t 19))]
def Jqgc (p : Nums) : IC := (.region (Jqgi p) [])
@[simp] theorem Jegc {p : Nums} : EqI (Jqgc p) (.region (Jqgi p) []) := eqi
def Jqgd (p : Nums) : IC := (.seq (.seq (Jqg8 p) (.cond (.t 17) .skip (.exit 0))) (.seq (.block 1 (Jqgb p)) (Jqgc p)))
@[simp] theorem Jegd {p : Nums} : EqI (Jqgd p) (.seq (.seq (Jqg8 p) (.cond (.t 17) .skip (.exit 0))) (.seq (.block 1 (Jqgb p)) (Jqgc p))) := eqi
@[simp] def Jqgj (p : Nums) : List IOp := [qo 28 (.load (some 3) (.t 1)), qo 29 (.call p.ref07_Code [(.t 28)]), qo 30 (.bin .leq (.t 29) (ci 300)), qo 2 (.asg (.t 30))]
def Jqge (p : Nums) : IC := (.region (Jqgj p) [])
@[simp] theorem Jege {p : Nums} : EqI (Jqge p) (.region (Jqgj p) []) := eqi
def Jtc3 (p : Nums) : IC := (.seq (.region [⟨(some 1), (.box (.t 0)), none, false⟩, ⟨(some 2), (.asg (.c (.d (.bool false)))), none, false⟩] []) (.seq (.seq (Jqg6 p) (.cond (.t 12) (Jqg7 p) .skip)) (.seq (.seq (.region [⟨(some 3), (.asg (.c (.d (.int .i64 0)))), none, false⟩] []) (.block 0 (.loop (Jqgd p)))) (.seq (Jqge p) .ret))))
@[simp] def Jqhj (p : Nums) : List IOp := [qo 4 (.faddr 3 (.t 1)), qo 5 (.load none (.t 4)), qo 6 (.len (.t 5)), qo 7 (.bin .gtr (.t 6) (ci 40)), qo 8 (.mov (.t 7)), ⟨(some 9), (.faddr 1 (.t 1)), (some (8, false)), false⟩, ⟨(some 10), (.load none (.t 9)), (some (8, false)), false⟩, ⟨(some 11), (.bin .gtr (.t 10) (ci 60)), (some (8, false)), false⟩, qo 12 (.pick (.t 8) (.c (.d (.bool true))) (.t 11)), qo 13 (.mov (.t 12)), ⟨(some 14), (.faddr 2 (.t 1)), (some (13, false)), false⟩, ⟨(some 15), (.load none (.t 14)), (some (13, false)), false⟩, ⟨(some 16), (.bin .gtr (.t 15) (ci 60)), (some (13, false)), false⟩, qo 17 (.pick (.t 13) (.c (.d (.bool true))) (.t 16))]
def Jqha (p : Nums) : IC := (.region (Jqhj p) [])
@[simp] theorem Jeha {p : Nums} : EqI (Jqha p) (.region (Jqhj p) []) := eqi
def Jqhb (p : Nums) : IC := (.seq (.region [⟨(some 2), (.asg (.c (.d (.bool false)))), none, false⟩] []) .ret)
@[simp] theorem Jehb {p : Nums} : EqI (Jqhb p) (.seq (.region [⟨(some 2), (.asg (.c (.d (.bool false)))), none, false⟩] []) .ret) := eqi
@[simp] def Jqhk (p : Nums) : List IOp := [qo 18 (.mov (.t 3)), qo 19 (.faddr 3 (.t 1)), qo 20 (.load none (.t 19)), qo 21 (.len (.t 20)), qo 22 (.bin .lss (.t 18) (.t 21))]
def Jqhc (p : Nums) : IC := (.region (Jqhk p) [])
@[simp] theorem Jehc {p : Nums} : EqI (Jqhc p) (.region (Jqhk p) []) := eqi
@[simp] def Jqhl (p : Nums) : List IOp := [qo 25 (.faddr 3 (.t 1)), qo 26 (.load none (.t 25)), qo 27 (.mov (.t 3)), qo 28 (.iaddr 5 (.t 26) (.t 27)), qo 29 (.faddr 0 (.t 28)), qo 30 (.load none (.t 29)), qo 31 (.len (.t 30)), qo 32 (.bin .gtr (.t 31) (ci 300))]
def Jqhd (p : Nums) : IC := (.region (Jqhl p) [])
@[simp] theorem Jehd {p : Nums} : EqI (Jqhd p) (.region (Jqhl p) []) := eqi
def Jqhe (p : Nums) : IC := (.seq (.region [⟨(some 2), (.asg (.c (.d (.bool false)))), none, false⟩] []) .ret)
@[simp] theorem Jehe {p : Nums} : EqI (Jqhe p) (.seq (.region [⟨(some 2), (.asg (.c (.d (.bool false)))), none, false⟩] []) .ret) := eqi
def Jqhf (p : Nums) : IC := (.seq (Jqhd p) (.cond (.t 32) (Jqhe p) .skip))
@[simp] theorem Jehf {p : Nums} : EqI (Jqhf p) (.seq (Jqhd p) (.cond (.t 32) (Jqhe p) .skip)) := eqi
@[simp] def Jqhm (p : Nums) : List IOp := [qo 23 (.mov (.t 3)), qo 24 (.bin .add (.t 23) (ci 1)), qo 3 (.asg (.t 24))]
def Jqhg (p : Nums) : IC := (.region (Jqhm p) [])
@[simp] theorem Jehg {p : Nums} : EqI (Jqhg p) (.region (Jqhm p) []) := eqi
def Jqhh (p : Nums) : IC := (.seq (.seq (Jqhc p) (.cond (.t 22) .skip (.exit 0))) (.seq (.block 1 (Jqhf p)) (Jqhg p)))
@[simp] theorem Jehh {p : Nums} : EqI (Jqhh p) (.seq (.seq (Jqhc p) (.cond (.t 22) .skip (.exit 0))) (.seq (.block 1 (Jqhf p)) (Jqhg p))) := eqi
@[simp] def Jqhn (p : Nums) : List IOp := [qo 33 (.load (some 4) (.t 1)), qo 34 (.call p.ref08_Code [(.t 33)]), qo 35 (.bin .leq (.t 34) (ci 900)), qo 2 (.asg (.t 35))]
def Jqhi (p : Nums) : IC := (.region (Jqhn p) [])
@[simp] theorem Jehi {p : Nums} : EqI (Jqhi p) (.region (Jqhn p) []) := eqi
def Jtc7 (p : Nums) : IC := (.seq (.region [⟨(some 1), (.box (.t 0)), none, false⟩, ⟨(some 2), (.asg (.c (.d (.bool false)))), none, false⟩] []) (.seq (.seq (Jqha p) (.cond (.t 17) (Jqhb p) .skip)) (.seq (.seq (.region [⟨(some 3), (.asg (.c (.d (.int .i64 0)))), none, false⟩] []) (.block 0 (.loop (Jqhh p)))) (.seq (Jqhi p) .ret))))
@[simp] def Jqol (p : Nums) : List IOp := [qo 4 (.mov (.t 3)), qo 5 (.mov (.t 0)), qo 6 (.len (.t 5)), qo 7 (.bin .lss (.t 4) (.t 6)), qo 8 (.mov (.t 7)), ⟨(some 9), (.mov (.t 3)), (some (8, true)), false⟩, ⟨(some 10), (.bin .leq (.t 9) (ci 40)), (some (8, true)), false⟩, qo 11 (.pick (.t 8) (.t 10) (.c (.d (.bool false))))]
def Jqoe (p : Nums) : IC := (.region (Jqol p) [])
@[simp] theorem Jeoe {p : Nums} : EqI (Jqoe p) (.region (Jqol p) []) := eqi
@[simp] def Jqom (p : Nums) : List IOp := [qo 14 (.mov (.t 0)), qo 15 (.mov (.t 3)), qo 16 (.iaddr 1 (.t 14) (.t 15)), qo 17 (.load none (.t 16)), qo 18 (.len (.t 17)), qo 19 (.bin .gtr (.t 18) (ci 400))]
def Jqof (p : Nums) : IC := (.region (Jqom p) [])
@[simp] theorem Jeof {p : Nums} : EqI (Jqof p) (.region (Jqom p) []) := eqi
def Jqog (p : Nums) : IC := (.seq (.region [⟨(some 2), (.asg (.c (.d (.bool false)))), none, false⟩] []) .ret)
@[simp] theorem Jeog {p : Nums} : EqI (Jqog p) (.seq (.region [⟨(some 2), (.asg (.c (.d (.bool false)))), none, false⟩] []) .ret) := eqi
def Jqoh (p : Nums) : IC := (.seq (Jqof p) (.cond (.t 19) (Jqog p) .skip))
@[simp] theorem Jeoh {p : Nums} : EqI (Jqoh p) (.seq (Jqof p) (.cond (.t 19) (Jqog p) .skip)) := eqi
@[simp] def Jqon (p : Nums) : List IOp := [qo 12 (.mov (.t 3)), qo 13 (.bin .add (.t 12) (ci 1)), qo 3 (.asg (.t 13))]
def Jqoi (p : Nums) : IC := (.region (Jqon p) [])
@[simp] theorem Jeoi {p : Nums} : EqI (Jqoi p) (.region (Jqon p) []) := eqi
def Jqoj (p : Nums) : IC := (.seq (.seq (Jqoe p) (.cond (.t 11) .skip (.exit 0))) (.seq (.block 1 (Jqoh p)) (Jqoi p)))
@[simp] theorem Jeoj {p : Nums} : EqI (Jqoj p) (.seq (.seq (Jqoe p) (.cond (.t 11) .skip (.exit 0))) (.seq (.block 1 (Jqoh p)) (Jqoi p))) := eqi
@[simp] def Jqoo (p : Nums) : List IOp := [qo 20 (.mov (.t 0)), qo 21 (.len (.t 20)), qo 22 (.bin .leq (.t 21) (ci 40)), qo 2 (.asg (.t 22))]
def Jqok (p : Nums) : IC := (.region (Jqoo p) [])
@[simp] theorem Jeok {p : Nums} : EqI (Jqok p) (.region (Jqoo p) []) := eqi
def Jtco (p : Nums) : IC := (.seq (.region [⟨(some 2), (.asg (.c (.d (.bool false)))), none, false⟩] []) (.seq (.seq (.region [⟨(some 3), (.asg (.c (.d (.int .i64 0)))), none, false⟩] []) (.block 0 (.loop (Jqoj p)))) (.seq (Jqok p) .ret)))
@[simp] def Jqqh (p : Nums) : List IOp := [qo 7 (.faddr 0 (.t 1)), qo 8 (.load none (.t 7)), qo 9 (.bin .lss (.t 8) (ci 0)), qo 10 (.mov (.t 9)), ⟨(some 11), (.faddr 0 (.t 1)), (some (10, false)), false⟩, ⟨(some 12), (.load none (.t 11)), (some (10, false)), false⟩, ⟨(some 13), (.faddr 1 (.t 1)), (some (10, false)), false⟩, ⟨(some 14), (.load none (.t 13)), (some (10, false)), false⟩, ⟨(some 15), (.bin .gtr (.t 12) (.t 14)), (some (10, false)), false⟩, qo 16 (.pick (.t 10) (.c (.d (.bool true))) (.t 15)), qo 6 (.asg (.t 16))]
def Jqpz (p : Nums) : IC := (.region (Jqqh p) [])
@[simp] theorem Jepz {p : Nums} : EqI (Jqpz p) (.region (Jqqh p) []) := eqi
@[simp] def Jqql (p : Nums) : List IOp := [qo 18 (.faddr 1 (.t 1)), qo 19 (.load none (.t 18)), qo 20 (.bin .gtr (.t 19) (ci 1048576)), qo 17 (.asg (.t 20))]
def Jqq9 (p : Nums) : IC := (.region (Jqql p) [])
@[simp] theorem Jeq9 {p : Nums} : EqI (Jqq9 p) (.region (Jqql p) []) := eqi
@[simp] def Jqqm (p : Nums) : List IOp := [qo 22 (.faddr 2 (.t 1)), qo 23 (.load none (.t 22)), qo 24 (.len (.t 23)), qo 25 (.bin .eql (.t 24) (ci 0)), qo 21 (.asg (.t 25))]
def Jqqa (p : Nums) : IC := (.region (Jqqm p) [])
@[simp] theorem Jeqa {p : Nums} : EqI (Jqqa p) (.region (Jqqm p) []) := eqi
@[simp] def Jqqn (p : Nums) : List IOp := [qo 27 (.faddr 2 (.t 1)), qo 28 (.load none (.t 27)), qo 29 (.len (.t 28)), qo 30 (.bin .gtr (.t 29) (ci 1048576)), qo 31 (.mov (.t 30)), ⟨(some 32), (.load (some 3) (.t 1)), (some (31, false)), false⟩, ⟨(some 33), (.call p.source_Code [(.t 32)]), (some (31, false)), false⟩, ⟨(some 34), (.bin .gtr (.t 33) (ci 1048576)), (some (31, false)), false⟩, qo 35 (.pick (.t 31) (.c (.d (.bool true))) (.t 34)), qo 26 (.asg (.t 35))]
def Jqqb (p : Nums) : IC := (.region (Jqqn p) [])
@[simp] theorem Jeqb {p : Nums} : EqI (Jqqb p) (.region (Jqqn p) []) := eqi
def Jqqc (p : Nums) : IC := (.seq (.region [⟨(some 2), (.asg (.c (.d (.int .i64 6)))), none, false⟩] []) .ret)
@[simp] theorem Jeqc {p : Nums} : EqI (Jqqc p) (.seq (.region [⟨(some 2), (.asg (.c (.d (.int .i64 6)))), none, false⟩] []) .ret) := eqi
def Jqqd (p : Nums) : IC := (.seq (.region [⟨(some 2), (.asg (.c (.d (.int .i64 14)))), none, false⟩] []) .ret)
@[simp] theorem Jeqd {p : Nums} : EqI (Jqqd p) (.seq (.region [⟨(some 2), (.asg (.c (.d (.int .i64 14)))), none, false⟩] []) .ret) := eqi
def Jqqe (p : Nums) : IC := (.seq (Jqqb p) (.cond (.t 26) (Jqqc p) .skip))
@[simp] theorem Jeqe {p : Nums} : EqI (Jqqe p) (.seq (Jqqb p) (.cond (.t 26) (Jqqc p) .skip)) := eqi
def Jqqf (p : Nums) : IC := (.seq (.region [⟨(some 2), (.asg (.c (.d (.int .i64 6)))), none, false⟩] []) .ret)
@[simp] theorem Jeqf {p : Nums} : EqI (Jqqf p) (.seq (.region [⟨(some 2), (.asg (.c (.d (.int .i64 6)))), none, false⟩] []) .ret) := eqi
def Jqqg (p : Nums) : IC := (.seq (Jqqa p) (.cond (.t 21) (Jqqd p) (Jqqe p)))
@[simp] theorem Jeqg {p : Nums} : EqI (Jqqg p) (.seq (Jqqa p) (.cond (.t 21) (Jqqd p) (Jqqe p))) := eqi
def Jqq0 (p : Nums) : IC := (.seq (.region [⟨(some 2), (.asg (.c (.d (.int .i64 9)))), none, false⟩] []) .ret)
@[simp] theorem Jeq0 {p : Nums} : EqI (Jqq0 p) (.seq (.region [⟨(some 2), (.asg (.c (.d (.int .i64 9)))), none, false⟩] []) .ret) := eqi
def Jqq1 (p : Nums) : IC := (.seq (Jqq9 p) (.cond (.t 17) (Jqqf p) (Jqqg p)))
@[simp] theorem Jeq1 {p : Nums} : EqI (Jqq1 p) (.seq (Jqq9 p) (.cond (.t 17) (Jqqf p) (Jqqg p))) := eqi
def Jqq2 (p : Nums) : IC := (.seq (Jqpz p) (.cond (.t 6) (Jqq0 p) (Jqq1 p)))
@[simp] theorem Jeq2 {p : Nums} : EqI (Jqq2 p) (.seq (Jqpz p) (.cond (.t 6) (Jqq0 p) (Jqq1 p))) := eqi
@[simp] def Jqqi (p : Nums) : List IOp := [qo 36 (.faddr 2 (.t 1)), qo 37 (.load none (.t 36)), qo 38 (.len (.t 37)), qo 39 (.mov (ci 0))]
def Jqq3 (p : Nums) : IC := (.region (Jqqi p) [])
@[simp] theorem Jeq3 {p : Nums} : EqI (Jqq3 p) (.region (Jqqi p) []) := eqi
@[simp] def Jqqj (p : Nums) : List IOp := [qo 41 (.iaddr 5 (.t 37) (.t 39)), qo 42 (.load (some 5) (.t 41)), qo 4 (.alloc [.nils, (zi 0), (zi 0), (zi 0), (zi 0)]), qn (.store 5 (.t 4) (.t 42))]
def Jqq4 (p : Nums) : IC := (.region (Jqqj p) [])
@[simp] theorem Jeq4 {p : Nums} : EqI (Jqq4 p) (.region (Jqqj p) []) := eqi
@[simp] def Jqqk (p : Nums) : List IOp := [qo 43 (.load (some 5) (.t 4)), qo 44 (.faddr 1 (.t 1)), qo 45 (.load none (.t 44)), qo 46 (.faddr 2 (.t 1)), qo 47 (.load none (.t 46)), qo 48 (.len (.t 47)), qo 49 (.call p.source_block [(.t 43), (.t 45), (.t 48)]), qo 5 (.asg (.t 49))]
def Jqq5 (p : Nums) : IC := (.region (Jqqk p) [])
@[simp] theorem Jeq5 {p : Nums} : EqI (Jqq5 p) (.region (Jqqk p) []) := eqi
def Jqq6 (p : Nums) : IC := (.seq (.region [⟨(some 52), (.mov (.t 5)), none, false⟩, ⟨(some 2), (.asg (.t 52)), none, false⟩] []) .ret)
@[simp] theorem Jeq6 {p : Nums} : EqI (Jqq6 p) (.seq (.region [⟨(some 52), (.mov (.t 5)), none, false⟩, ⟨(some 2), (.asg (.t 52)), none, false⟩] []) .ret) := eqi
def Jqq7 (p : Nums) : IC := (.seq (Jqq4 p) (.seq (Jqq5 p) (.seq (.region [⟨(some 50), (.mov (.t 5)), none, false⟩, ⟨(some 51), (.bin .neq (.t 50) (.c (.d (.int .i64 0)))), none, false⟩] []) (.cond (.t 51) (Jqq6 p) .skip))))
@[simp] theorem Jeq7 {p : Nums} : EqI (Jqq7 p) (.seq (Jqq4 p) (.seq (Jqq5 p) (.seq (.region [⟨(some 50), (.mov (.t 5)), none, false⟩, ⟨(some 51), (.bin .neq (.t 50) (.c (.d (.int .i64 0)))), none, false⟩] []) (.cond (.t 51) (Jqq6 p) .skip)))) := eqi
def Jqq8 (p : Nums) : IC := (.seq (.region [⟨(some 40), (.bin .lss (.t 39) (.t 38)), none, false⟩] []) (.seq (.cond (.t 40) .skip (.exit 1)) (.seq (.block 2 (Jqq7 p)) (.region [⟨(some 53), (.bin .add (.t 39) (.c (.d (.int .i64 1)))), none, false⟩, ⟨(some 39), (.mov (.t 53)), none, false⟩] []))))
@[simp] theorem Jeq8 {p : Nums} : EqI (Jqq8 p) (.seq (.region [⟨(some 40), (.bin .lss (.t 39) (.t 38)), none, false⟩] []) (.seq (.cond (.t 40) .skip (.exit 1)) (.seq (.block 2 (Jqq7 p)) (.region [⟨(some 53), (.bin .add (.t 39) (.c (.d (.int .i64 1)))), none, false⟩, ⟨(some 39), (.mov (.t 53)), none, false⟩] [])))) := eqi
def Jtct (p : Nums) : IC := (.seq (.region [⟨(some 1), (.box (.t 0)), none, false⟩, ⟨(some 2), (.asg (.c (.d (.int .i64 0)))), none, false⟩] []) (.seq (.block 0 (Jqq2 p)) (.seq (.seq (Jqq3 p) (.block 1 (.loop (Jqq8 p)))) (.seq (.region [⟨(some 2), (.asg (.c (.d (.int .i64 0)))), none, false⟩] []) .ret))))
@[simp] def Jqa2 (p : Nums) : List IOp := [qo 7 (.faddr 0 (.t 1)), qo 8 (.load none (.t 7)), qo 9 (.bin .lss (.t 8) (ci 0)), qo 10 (.mov (.t 9)), ⟨(some 11), (.faddr 0 (.t 1)), (some (10, false)), false⟩, ⟨(some 12), (.load none (.t 11)), (some (10, false)), false⟩, ⟨(some 13), (.faddr 2 (.t 1)), (some (10, false)), false⟩, ⟨(some 14), (.load none (.t 13)), (some (10, false)), false⟩, ⟨(some 15), (.bin .gtr (.t 12) (.t 14)), (some (10, false)), false⟩, qo 16 (.pick (.t 10) (.c (.d (.bool true))) (.t 15)), qo 6 (.asg (.t 16))]
def Jq9h (p : Nums) : IC := (.region (Jqa2 p) [])
@[simp] theorem Je9h {p : Nums} : EqI (Jq9h p) (.region (Jqa2 p) []) := eqi
@[simp] def Jqa6 (p : Nums) : List IOp := [qo 18 (.faddr 1 (.t 1)), qo 19 (.load none (.t 18)), qo 20 (.bin .lss (.t 19) (ci 0)), qo 17 (.asg (.t 20))]
def Jq9s (p : Nums) : IC := (.region (Jqa6 p) [])
@[simp] theorem Je9s {p : Nums} : EqI (Jq9s p) (.region (Jqa6 p) []) := eqi
@[simp] def Jqa7 (p : Nums) : List IOp := [qo 22 (.faddr 2 (.t 1)), qo 23 (.load none (.t 22)), qo 24 (.bin .gtr (.t 23) (ci 1048576)), qo 25 (.mov (.t 24)), ⟨(some 26), (.faddr 1 (.t 1)), (some (25, false)), false⟩, ⟨(some 27), (.load none (.t 26)), (some (25, false)), false⟩, ⟨(some 28), (.bin .gtr (.t 27) (ci 1048576)), (some (25, false)), false⟩, qo 29 (.pick (.t 25) (.c (.d (.bool true))) (.t 28)), qo 21 (.asg (.t 29))]
def Jq9v (p : Nums) : IC := (.region (Jqa7 p) [])
@[simp] theorem Je9v {p : Nums} : EqI (Jq9v p) (.region (Jqa7 p) []) := eqi
@[simp] def Jqa8 (p : Nums) : List IOp := [qo 31 (.faddr 3 (.t 1)), qo 32 (.load none (.t 31)), qo 33 (.len (.t 32)), qo 34 (.bin .eql (.t 33) (ci 0)), qo 30 (.asg (.t 34))]
def Jq9w (p : Nums) : IC := (.region (Jqa8 p) [])
@[simp] theorem Je9w {p : Nums} : EqI (Jq9w p) (.region (Jqa8 p) []) := eqi
@[simp] def Jqa9 (p : Nums) : List IOp := [qo 36 (.faddr 3 (.t 1)), qo 37 (.load none (.t 36)), qo 38 (.len (.t 37)), qo 39 (.bin .gtr (.t 38) (ci 1048576)), qo 40 (.mov (.t 39)), ⟨(some 41), (.load (some 4) (.t 1)), (some (40, false)), false⟩, ⟨(some 42), (.call p.machine_Code [(.t 41)]), (some (40, false)), false⟩, ⟨(some 43), (.bin .gtr (.t 42) (ci 1048576)), (some (40, false)), false⟩, qo 44 (.pick (.t 40) (.c (.d (.bool true))) (.t 43)), qo 35 (.asg (.t 44))]
def Jq9x (p : Nums) : IC := (.region (Jqa9 p) [])
@[simp] theorem Je9x {p : Nums} : EqI (Jq9x p) (.region (Jqa9 p) []) := eqi
def Jq9y (p : Nums) : IC := (.seq (.region [⟨(some 2), (.asg (.c (.d (.int .i64 6)))), none, false⟩] []) .ret)
@[simp] theorem Je9y {p : Nums} : EqI (Jq9y p) (.seq (.region [⟨(some 2), (.asg (.c (.d (.int .i64 6)))), none, false⟩] []) .ret) := eqi
def Jq9z (p : Nums) : IC := (.seq (.region [⟨(some 2), (.asg (.c (.d (.int .i64 14)))), none, false⟩] []) .ret)
@[simp] theorem Je9z {p : Nums} : EqI (Jq9z p) (.seq (.region [⟨(some 2), (.asg (.c (.d (.int .i64 14)))), none, false⟩] []) .ret) := eqi
def Jqa0 (p : Nums) : IC := (.seq (Jq9x p) (.cond (.t 35) (Jq9y p) .skip))
@[simp] theorem Jea0 {p : Nums} : EqI (Jqa0 p) (.seq (Jq9x p) (.cond (.t 35) (Jq9y p) .skip)) := eqi
def Jqa1 (p : Nums) : IC := (.seq (.region [⟨(some 2), (.asg (.c (.d (.int .i64 6)))), none, false⟩] []) .ret)
@[simp] theorem Jea1 {p : Nums} : EqI (Jqa1 p) (.seq (.region [⟨(some 2), (.asg (.c (.d (.int .i64 6)))), none, false⟩] []) .ret) := eqi
def Jq9i (p : Nums) : IC := (.seq (Jq9w p) (.cond (.t 30) (Jq9z p) (Jqa0 p)))
@[simp] theorem Je9i {p : Nums} : EqI (Jq9i p) (.seq (Jq9w p) (.cond (.t 30) (Jq9z p) (Jqa0 p))) := eqi
def Jq9j (p : Nums) : IC := (.seq (.region [⟨(some 2), (.asg (.c (.d (.int .i64 9)))), none, false⟩] []) .ret)
@[simp] theorem Je9j {p : Nums} : EqI (Jq9j p) (.seq (.region [⟨(some 2), (.asg (.c (.d (.int .i64 9)))), none, false⟩] []) .ret) := eqi
def Jq9k (p : Nums) : IC := (.seq (Jq9v p) (.cond (.t 21) (Jqa1 p) (Jq9i p)))
@[simp] theorem Je9k {p : Nums} : EqI (Jq9k p) (.seq (Jq9v p) (.cond (.t 21) (Jqa1 p) (Jq9i p))) := eqi
def Jq9l (p : Nums) : IC := (.seq (.region [⟨(some 2), (.asg (.c (.d (.int .i64 10)))), none, false⟩] []) .ret)
@[simp] theorem Je9l {p : Nums} : EqI (Jq9l p) (.seq (.region [⟨(some 2), (.asg (.c (.d (.int .i64 10)))), none, false⟩] []) .ret) := eqi
def Jq9m (p : Nums) : IC := (.seq (Jq9s p) (.cond (.t 17) (Jq9j p) (Jq9k p)))
@[simp] theorem Je9m {p : Nums} : EqI (Jq9m p) (.seq (Jq9s p) (.cond (.t 17) (Jq9j p) (Jq9k p))) := eqi
def Jq9n (p : Nums) : IC := (.seq (Jq9h p) (.cond (.t 6) (Jq9l p) (Jq9m p)))
@[simp] theorem Je9n {p : Nums} : EqI (Jq9n p) (.seq (Jq9h p) (.cond (.t 6) (Jq9l p) (Jq9m p))) := eqi
@[simp] def Jqa3 (p : Nums) : List IOp := [qo 45 (.faddr 3 (.t 1)), qo 46 (.load none (.t 45)), qo 47 (.len (.t 46)), qo 48 (.mov (ci 0))]
def Jq9o (p : Nums) : IC := (.region (Jqa3 p) [])
@[simp] theorem Je9o {p : Nums} : EqI (Jq9o p) (.region (Jqa3 p) []) := eqi
@[simp] def Jqa4 (p : Nums) : List IOp := [qo 50 (.iaddr 5 (.t 46) (.t 48)), qo 51 (.load (some 5) (.t 50)), qo 4 (.alloc [.nils, (zi 0), (zi 0), (zi 0), (zi 0)]), qn (.store 5 (.t 4) (.t 51))]
def Jq9p (p : Nums) : IC := (.region (Jqa4 p) [])
@[simp] theorem Je9p {p : Nums} : EqI (Jq9p p) (.region (Jqa4 p) []) := eqi
@[simp] def Jqa5 (p : Nums) : List IOp := [qo 52 (.load (some 4) (.t 1)), qo 53 (.load (some 5) (.t 4)), qo 54 (.call p.machine_block [(.t 52), (.t 53)]), qo 5 (.asg (.t 54))]
def Jq9q (p : Nums) : IC := (.region (Jqa5 p) [])
@[simp] theorem Je9q {p : Nums} : EqI (Jq9q p) (.region (Jqa5 p) []) := eqi
def Jq9r (p : Nums) : IC := (.seq (.region [⟨(some 57), (.mov (.t 5)), none, false⟩, ⟨(some 2), (.asg (.t 57)), none, false⟩] []) .ret)
@[simp] theorem Je9r {p : Nums} : EqI (Jq9r p) (.seq (.region [⟨(some 57), (.mov (.t 5)), none, false⟩, ⟨(some 2), (.asg (.t 57)), none, false⟩] []) .ret) := eqi
def Jq9t (p : Nums) : IC := (.seq (Jq9p p) (.seq (Jq9q p) (.seq (.region [⟨(some 55), (.mov (.t 5)), none, false⟩, ⟨(some 56), (.bin .neq (.t 55) (.c (.d (.int .i64 0)))), none, false⟩] []) (.cond (.t 56) (Jq9r p) .skip))))
@[simp] theorem Je9t {p : Nums} : EqI (Jq9t p) (.seq (Jq9p p) (.seq (Jq9q p) (.seq (.region [⟨(some 55), (.mov (.t 5)), none, false⟩, ⟨(some 56), (.bin .neq (.t 55) (.c (.d (.int .i64 0)))), none, false⟩] []) (.cond (.t 56) (Jq9r p) .skip)))) := eqi
def Jq9u (p : Nums) : IC := (.seq (.region [⟨(some 49), (.bin .lss (.t 48) (.t 47)), none, false⟩] []) (.seq (.cond (.t 49) .skip (.exit 1)) (.seq (.block 2 (Jq9t p)) (.region [⟨(some 58), (.bin .add (.t 48) (.c (.d (.int .i64 1)))), none, false⟩, ⟨(some 48), (.mov (.t 58)), none, false⟩] []))))
@[simp] theorem Je9u {p : Nums} : EqI (Jq9u p) (.seq (.region [⟨(some 49), (.bin .lss (.t 48) (.t 47)), none, false⟩] []) (.seq (.cond (.t 49) .skip (.exit 1)) (.seq (.block 2 (Jq9t p)) (.region [⟨(some 58), (.bin .add (.t 48) (.c (.d (.int .i64 1)))), none, false⟩, ⟨(some 48), (.mov (.t 58)), none, false⟩] [])))) := eqi
def Jtb8 (p : Nums) : IC := (.seq (.region [⟨(some 1), (.box (.t 0)), none, false⟩, ⟨(some 2), (.asg (.c (.d (.int .i64 0)))), none, false⟩] []) (.seq (.block 0 (Jq9n p)) (.seq (.seq (Jq9o p) (.block 1 (.loop (Jq9u p)))) (.seq (.region [⟨(some 2), (.asg (.c (.d (.int .i64 0)))), none, false⟩] []) .ret))))
@[simp] def Jq6t (p : Nums) : List IOp := [qo 15 (.mov (.t 0)), qo 16 (.len (.t 15)), qo 17 (.mov (.t 1)), qo 18 (.bin .neq (.t 16) (.t 17)), qo 14 (.asg (.t 18))]
def Jq6h (p : Nums) : IC := (.region (Jq6t p) [])
@[simp] theorem Je6h {p : Nums} : EqI (Jq6h p) (.region (Jq6t p) []) := eqi
@[simp] def Jq6u (p : Nums) : List IOp := [qo 20 (.mov (.t 0)), qo 21 (.call p.edge_total [(.t 20)]), qo 22 (.bin .gtr (.t 21) (ci 1048576)), qo 19 (.asg (.t 22))]
def Jq6l (p : Nums) : IC := (.region (Jq6u p) [])
@[simp] theorem Je6l {p : Nums} : EqI (Jq6l p) (.region (Jq6u p) []) := eqi
def Jq6m (p : Nums) : IC := (.seq (.region [⟨(some 10), (.asg (.c (.d (.int .i64 6)))), none, false⟩] []) .ret)
@[simp] theorem Je6m {p : Nums} : EqI (Jq6m p) (.seq (.region [⟨(some 10), (.asg (.c (.d (.int .i64 6)))), none, false⟩] []) .ret) := eqi
def Jq6n (p : Nums) : IC := (.seq (.region [⟨(some 10), (.asg (.c (.d (.int .i64 14)))), none, false⟩] []) .ret)
@[simp] theorem Je6n {p : Nums} : EqI (Jq6n p) (.seq (.region [⟨(some 10), (.asg (.c (.d (.int .i64 14)))), none, false⟩] []) .ret) := eqi
def Jq6o (p : Nums) : IC := (.seq (Jq6l p) (.cond (.t 19) (Jq6m p) .skip))
@[simp] theorem Je6o {p : Nums} : EqI (Jq6o p) (.seq (Jq6l p) (.cond (.t 19) (Jq6m p) .skip)) := eqi
def Jq6p (p : Nums) : IC := (.seq (Jq6h p) (.cond (.t 14) (Jq6n p) (Jq6o p)))
@[simp] theorem Je6p {p : Nums} : EqI (Jq6p p) (.seq (Jq6h p) (.cond (.t 14) (Jq6n p) (Jq6o p))) := eqi
@[simp] def Jq6v (p : Nums) : List IOp := [qo 23 (.mov (.t 0)), qo 24 (.len (.t 23)), qo 25 (.mov (ci 0))]
def Jq6q (p : Nums) : IC := (.region (Jq6v p) [])
@[simp] theorem Je6q {p : Nums} : EqI (Jq6q p) (.region (Jq6v p) []) := eqi
@[simp] def Jq6w (p : Nums) : List IOp := [qo 27 (.iaddr 1 (.t 23) (.t 25)), qo 28 (.load none (.t 27)), qo 12 (.asg (.t 28))]
def Jq6r (p : Nums) : IC := (.region (Jq6w p) [])
@[simp] theorem Je6r {p : Nums} : EqI (Jq6r p) (.region (Jq6w p) []) := eqi
@[simp] def Jq6x (p : Nums) : List IOp := [qo 29 (.mov (.t 12)), qo 30 (.mov (.t 2)), qo 31 (.mov (.t 3)), qo 32 (.mov (.t 4)), qo 33 (.call p.edge_pairs [(.t 29), (.t 30), (.t 31), (.t 32)]), qo 13 (.asg (.t 33))]
def Jq6s (p : Nums) : IC := (.region (Jq6x p) [])
@[simp] theorem Je6s {p : Nums} : EqI (Jq6s p) (.region (Jq6x p) []) := eqi
def Jq6i (p : Nums) : IC := (.seq (.region [⟨(some 36), (.mov (.t 13)), none, false⟩, ⟨(some 10), (.asg (.t 36)), none, false⟩] []) .ret)
@[simp] theorem Je6i {p : Nums} : EqI (Jq6i p) (.seq (.region [⟨(some 36), (.mov (.t 13)), none, false⟩, ⟨(some 10), (.asg (.t 36)), none, false⟩] []) .ret) := eqi
def Jq6j (p : Nums) : IC := (.seq (Jq6r p) (.seq (Jq6s p) (.seq (.region [⟨(some 34), (.mov (.t 13)), none, false⟩, ⟨(some 35), (.bin .neq (.t 34) (.c (.d (.int .i64 0)))), none, false⟩] []) (.cond (.t 35) (Jq6i p) .skip))))
@[simp] theorem Je6j {p : Nums} : EqI (Jq6j p) (.seq (Jq6r p) (.seq (Jq6s p) (.seq (.region [⟨(some 34), (.mov (.t 13)), none, false⟩, ⟨(some 35), (.bin .neq (.t 34) (.c (.d (.int .i64 0)))), none, false⟩] []) (.cond (.t 35) (Jq6i p) .skip)))) := eqi
def Jq6k (p : Nums) : IC := (.seq (.region [⟨(some 26), (.bin .lss (.t 25) (.t 24)), none, false⟩] []) (.seq (.cond (.t 26) .skip (.exit 1)) (.seq (.block 2 (Jq6j p)) (.region [⟨(some 37), (.bin .add (.t 25) (.c (.d (.int .i64 1)))), none, false⟩, ⟨(some 25), (.mov (.t 37)), none, false⟩] []))))
@[simp] theorem Je6k {p : Nums} : EqI (Jq6k p) (.seq (.region [⟨(some 26), (.bin .lss (.t 25) (.t 24)), none, false⟩] []) (.seq (.cond (.t 26) .skip (.exit 1)) (.seq (.block 2 (Jq6j p)) (.region [⟨(some 37), (.bin .add (.t 25) (.c (.d (.int .i64 1)))), none, false⟩, ⟨(some 25), (.mov (.t 37)), none, false⟩] [])))) := eqi
def Jtay (p : Nums) : IC := (.seq (.region [⟨(some 10), (.asg (.c (.d (.int .i64 0)))), none, false⟩] []) (.seq (.block 0 (Jq6p p)) (.seq (.seq (Jq6q p) (.block 1 (.loop (Jq6k p)))) (.seq (.region [⟨(some 10), (.asg (.c (.d (.int .i64 0)))), none, false⟩] []) .ret))))
@[simp] def Jq5j (p : Nums) : List IOp := [qo 1 (.box (.t 0)), qo 2 (.alloc [(zi 0), (zi 0), (zi 0), (zi 0), (zi 0), (zi 0), (zi 0)])]
def Jq5c (p : Nums) : IC := (.region (Jq5j p) [])
@[simp] theorem Je5c {p : Nums} : EqI (Jq5c p) (.region (Jq5j p) []) := eqi
@[simp] def Jq5k (p : Nums) : List IOp := [qo 6 (.faddr 7 (.t 1)), qo 7 (.load none (.t 6)), qo 8 (.iaddr 1 (.t 7) (ci 0)), qo 9 (.load none (.t 8)), qo 10 (.len (.t 9)), qo 11 (.bin .add (ci 1) (.t 10)), qo 12 (.build [(zi 0), (zi 0), (zi 0), (zi 0), (zi 0), (zi 0), (zi 0)] [(5, 1, (.t 11))]), qo 3 (.alloc [(zi 0), (zi 0), (zi 0), (zi 0), (zi 0), (zi 0), (zi 0)]), qn (.store 7 (.t 3) (.t 12))]
def Jq5d (p : Nums) : IC := (.region (Jq5k p) [])
@[simp] theorem Je5d {p : Nums} : EqI (Jq5d p) (.region (Jq5k p) []) := eqi
@[simp] def Jq5l (p : Nums) : List IOp := [qo 13 (.faddr 7 (.t 1)), qo 14 (.load none (.t 13)), qo 15 (.len (.t 14)), qo 16 (.mov (ci 0))]
def Jq5e (p : Nums) : IC := (.region (Jq5l p) [])
@[simp] theorem Je5e {p : Nums} : EqI (Jq5e p) (.region (Jq5l p) []) := eqi
@[simp] def Jq5m (p : Nums) : List IOp := [qo 18 (.iaddr 1 (.t 14) (.t 16)), qo 19 (.load none (.t 18)), qo 5 (.asg (.t 19))]
def Jq5f (p : Nums) : IC := (.region (Jq5m p) [])
@[simp] theorem Je5f {p : Nums} : EqI (Jq5f p) (.region (Jq5m p) []) := eqi
@[simp] def Jq5n (p : Nums) : List IOp := [qo 20 (.faddr 6 (.t 3)), qo 21 (.load none (.t 20)), qo 22 (.mov (.t 5)), qo 23 (.len (.t 22)), qo 24 (.mx (.t 21) (.t 23)), qo 25 (.faddr 6 (.t 3)), qn (.store 1 (.t 25) (.t 24))]
def Jq5g (p : Nums) : IC := (.region (Jq5n p) [])
@[simp] theorem Je5g {p : Nums} : EqI (Jq5g p) (.region (Jq5n p) []) := eqi
def Jq5h (p : Nums) : IC := (.seq (.region [⟨(some 17), (.bin .lss (.t 16) (.t 15)), none, false⟩] []) (.seq (.cond (.t 17) .skip (.exit 0)) (.seq (.block 1 (.seq (Jq5f p) (Jq5g p))) (.region [⟨(some 26), (.bin .add (.t 16) (.c (.d (.int .i64 1)))), none, false⟩, ⟨(some 16), (.mov (.t 26)), none, false⟩] []))))
@[simp] theorem Je5h {p : Nums} : EqI (Jq5h p) (.seq (.region [⟨(some 17), (.bin .lss (.t 16) (.t 15)), none, false⟩] []) (.seq (.cond (.t 17) .skip (.exit 0)) (.seq (.block 1 (.seq (Jq5f p) (Jq5g p))) (.region [⟨(some 26), (.bin .add (.t 16) (.c (.d (.int .i64 1)))), none, false⟩, ⟨(some 16), (.mov (.t 26)), none, false⟩] [])))) := eqi
@[simp] def Jq5o (p : Nums) : List IOp := [qp 28 (.faddr 7 (.t 1)), qp 29 (.load none (.t 28)), qp 30 (.iaddr 1 (.t 29) (ci 0)), qp 31 (.load none (.t 30)), qp 32 (.faddr 0 (.t 1)), qp 33 (.faddr 0 (.t 32)), qp 34 (.load none (.t 33)), qo 35 (.call p.edge_Entry [(.t 31), (.t 34)]), qo 27 (.mov (.t 35)), qp 36 (.ext (.t 27) 0), qp 37 (.ext (.t 27) 1), qo 38 (.faddr 0 (.t 3)), qn (.store 1 (.t 38) (.t 37))]
def Jq5i (p : Nums) : IC := (.region (Jq5o p) [])
@[simp] theorem Je5i {p : Nums} : EqI (Jq5i p) (.region (Jq5o p) []) := eqi
def Jtau (p : Nums) : IC := (.seq (Jq5c p) (.seq (Jq5d p) (.seq (.seq (Jq5e p) (.block 0 (.loop (Jq5h p)))) (.seq (Jq5i p) (.seq (.region [⟨(some 39), (.load (some 7) (.t 3)), none, false⟩, ⟨none, (.store 7 (.t 2) (.t 39)), none, false⟩] []) .ret)))))
@[simp] def Jq1k (p : Nums) : List IOp := [qo 4 (.box (.t 0)), qo 5 (.box (.t 1)), qo 8 (.alloc [.nils, (zi 0), (zi 0), (zi 0), (zi 0)])]
def Jq19 (p : Nums) : IC := (.region (Jq1k p) [])
@[simp] theorem Je19 {p : Nums} : EqI (Jq19 p) (.region (Jq1k p) []) := eqi
@[simp] def Jq1n (p : Nums) : List IOp := [qo 14 (.mov (.t 2)), qo 15 (.len (.t 14)), qo 16 (.mov (.t 3)), qo 17 (.bin .gtr (.t 15) (.t 16))]
def Jq1c (p : Nums) : IC := (.region (Jq1n p) [])
@[simp] theorem Je1c {p : Nums} : EqI (Jq1c p) (.region (Jq1n p) []) := eqi
@[simp] def Jq1o (p : Nums) : List IOp := [qo 18 (.mov (.t 2)), qo 19 (.len (.t 18)), qo 20 (.build [.nils, (zi 0), (zi 0), (zi 0), (zi 0)] [(1, 1, (ci 24)), (4, 1, (.t 19))]), qn (.store 5 (.t 8) (.t 20))]
def Jq1d (p : Nums) : IC := (.region (Jq1o p) [])
@[simp] theorem Je1d {p : Nums} : EqI (Jq1d p) (.region (Jq1o p) []) := eqi
@[simp] def Jq1p (p : Nums) : List IOp := [qo 22 (.faddr 0 (.t 4)), qo 23 (.load none (.t 22)), qo 24 (.faddr 0 (.t 5)), qo 25 (.load none (.t 24)), qo 26 (.call p.align_Code [(.t 23), (.t 25)]), qo 21 (.mov (.t 26)), qo 27 (.ext (.t 21) 0), qo 28 (.ext (.t 21) 1), qo 29 (.ext (.t 21) 2), qo 9 (.asg (.t 27)), qo 10 (.asg (.t 28)), qo 11 (.asg (.t 29))]
def Jq1e (p : Nums) : IC := (.region (Jq1p p) [])
@[simp] theorem Je1e {p : Nums} : EqI (Jq1e p) (.region (Jq1p p) []) := eqi
@[simp] def Jq1q (p : Nums) : List IOp := [qo 30 (.mov (.t 11)), qo 31 (.bin .eql (.t 30) (ci 0)), qo 32 (.mov (.t 31)), ⟨(some 33), (.faddr 1 (.t 4)), (some (32, true)), false⟩, ⟨(some 34), (.load (some 4) (.t 33)), (some (32, true)), false⟩, ⟨(some 35), (.faddr 1 (.t 5)), (some (32, true)), false⟩, ⟨(some 36), (.load (some 4) (.t 35)), (some (32, true)), false⟩, ⟨(some 37), (.call p.align_Terms [(.t 34), (.t 36)]), (some (32, true)), false⟩, ⟨(some 38), (.un .not (.t 37)), (some (32, true)), false⟩, qo 39 (.pick (.t 32) (.t 38) (.c (.d (.bool false))))]
def Jq1f (p : Nums) : IC := (.region (Jq1q p) [])
@[simp] theorem Je1f {p : Nums} : EqI (Jq1f p) (.region (Jq1q p) []) := eqi
@[simp] def Jq1r (p : Nums) : List IOp := [qo 11 (.asg (ci 20))]
def Jq1g (p : Nums) : IC := (.region (Jq1r p) [])
@[simp] theorem Je1g {p : Nums} : EqI (Jq1g p) (.region (Jq1r p) []) := eqi
@[simp] def Jq1s (p : Nums) : List IOp := [qo 42 (.mov (.t 11)), qo 43 (.mov (.t 10)), qo 44 (.mov (.t 2)), qo 45 (.len (.t 44)), qo 46 (.build [.nils, (zi 0), (zi 0), (zi 0), (zi 0)] [(1, 1, (.t 42)), (2, 1, (.t 43)), (4, 1, (.t 45))]), qn (.store 5 (.t 8) (.t 46))]
def Jq1h (p : Nums) : IC := (.region (Jq1s p) [])
@[simp] theorem Je1h {p : Nums} : EqI (Jq1h p) (.region (Jq1s p) []) := eqi
@[simp] def Jq1t (p : Nums) : List IOp := [qo 47 (.mov (.t 2)), qo 48 (.call p.pairset_Make [(.t 47)]), qo 49 (.mov (.t 3)), qo 50 (.mov (.t 2)), qo 51 (.len (.t 50)), qo 52 (.build [.nils, (zi 0), (zi 0), (zi 0)] [(0, 1, (.t 48)), (1, 1, (.t 49)), (3, 1, (.t 51))]), qo 53 (.box (.t 52)), qo 12 (.asg (.t 53))]
def Jq1i (p : Nums) : IC := (.region (Jq1t p) [])
@[simp] theorem Je1i {p : Nums} : EqI (Jq1i p) (.region (Jq1t p) []) := eqi
@[simp] def Jq1u (p : Nums) : List IOp := [qo 55 (.mov (.t 12)), qo 56 (.load (some 5) (.t 4)), qo 57 (.load (some 5) (.t 5)), qo 58 (.mov (.t 9)), qo 59 (.call p.blockcheck_checker_run [(.t 55), (.t 56), (.t 57), (.t 58)]), qo 54 (.mov (.t 59)), qo 60 (.ext (.t 54) 0), qo 61 (.ext (.t 54) 1), qo 11 (.asg (.t 60)), qo 10 (.asg (.t 61))]
def Jq1j (p : Nums) : IC := (.region (Jq1u p) [])
@[simp] theorem Je1j {p : Nums} : EqI (Jq1j p) (.region (Jq1u p) []) := eqi
@[simp] def Jq1l (p : Nums) : List IOp := [qp 62 (.mov (.t 11)), qp 63 (.mov (.t 10)), qp 64 (.mov (.t 12)), qp 65 (.nilck (.t 64)), qp 66 (.faddr 2 (.t 65)), qp 67 (.load none (.t 66)), qp 68 (.mov (.t 12)), qp 69 (.nilck (.t 68)), qp 70 (.faddr 3 (.t 69)), qp 71 (.load none (.t 70)), qp 72 (.build [.nils, (zi 0), (zi 0), (zi 0), (zi 0)] [(1, 1, (.t 62)), (2, 1, (.t 63)), (3, 1, (.t 67)), (4, 1, (.t 71))]), qp 13 (.alloc [.nils, (zi 0), (zi 0), (zi 0), (zi 0)]), qn (.store 5 (.t 13) (.t 72))]
def Jq1a (p : Nums) : IC := (.region (Jq1l p) [])
@[simp] theorem Je1a {p : Nums} : EqI (Jq1a p) (.region (Jq1l p) []) := eqi
@[simp] def Jq1m (p : Nums) : List IOp := [qo 75 (.mov (.t 12)), qo 76 (.nilck (.t 75)), qo 77 (.faddr 0 (.t 76)), qo 78 (.load none (.t 77)), qo 79 (.faddr 0 (.t 13)), qn (.store 1 (.t 79) (.t 78))]
def Jq1b (p : Nums) : IC := (.region (Jq1m p) [])
@[simp] theorem Je1b {p : Nums} : EqI (Jq1b p) (.region (Jq1m p) []) := eqi
def Jtai (p : Nums) : IC := (.seq (Jq19 p) (.seq (.seq (Jq1c p) (.cond (.t 17) (.seq (Jq1d p) .ret) .skip)) (.seq (Jq1e p) (.seq (.seq (Jq1f p) (.cond (.t 39) (Jq1g p) .skip)) (.seq (.seq (.region [⟨(some 40), (.mov (.t 11)), none, false⟩, ⟨(some 41), (.bin .neq (.t 40) (.c (.d (.int .i64 0)))), none, false⟩] []) (.cond (.t 41) (.seq (Jq1h p) .ret) .skip)) (.seq (Jq1i p) (.seq (Jq1j p) (.seq (Jq1a p) (.seq (.seq (.region [⟨(some 73), (.mov (.t 11)), none, false⟩, ⟨(some 74), (.bin .eql (.t 73) (.c (.d (.int .i64 0)))), none, false⟩] []) (.cond (.t 74) (Jq1b p) .skip)) (.seq (.region [⟨(some 80), (.load (some 5) (.t 13)), none, false⟩, ⟨none, (.store 5 (.t 8) (.t 80)), none, false⟩] []) .ret))))))))))
@[simp] def Jqrf (p : Nums) : List IOp := [qo 7 (.faddr 2 (.t 1)), qo 8 (.load none (.t 7)), qo 9 (.bslice 1 1 [(.int .i64 0)] [(0, (.t 8))]), qo 2 (.asg (.t 9))]
def Jqrb (p : Nums) : IC := (.region (Jqrf p) [])
@[simp] theorem Jerb {p : Nums} : EqI (Jqrb p) (.region (Jqrf p) []) := eqi
@[simp] def Jqrg (p : Nums) : List IOp := [qo 12 (.faddr 2 (.t 1)), qo 13 (.load none (.t 12)), qo 14 (.faddr 3 (.t 1)), qo 15 (.load none (.t 14)), qo 16 (.bslice 1 2 [(.int .i64 0)] [(0, (.t 13)), (1, (.t 15))]), qo 2 (.asg (.t 16))]
def Jqrc (p : Nums) : IC := (.region (Jqrg p) [])
@[simp] theorem Jerc {p : Nums} : EqI (Jqrc p) (.region (Jqrg p) []) := eqi
def Jqrd (p : Nums) : IC := (.seq (.region [⟨(some 11), (.bin .eql (.t 4) (.c (.d (.int .i64 2)))), none, false⟩, ⟨(some 10), (.asg (.t 11)), none, false⟩] []) (.cond (.t 10) (.seq (Jqrc p) .ret) .skip))
@[simp] theorem Jerd {p : Nums} : EqI (Jqrd p) (.seq (.region [⟨(some 11), (.bin .eql (.t 4) (.c (.d (.int .i64 2)))), none, false⟩, ⟨(some 10), (.asg (.t 11)), none, false⟩] []) (.cond (.t 10) (.seq (Jqrc p) .ret) .skip)) := eqi
def Jqre (p : Nums) : IC := (.seq (.region [⟨(some 6), (.bin .eql (.t 4) (.c (.d (.int .i64 1)))), none, false⟩, ⟨(some 5), (.asg (.t 6)), none, false⟩] []) (.cond (.t 5) (.seq (Jqrb p) .ret) (Jqrd p)))
@[simp] theorem Jere {p : Nums} : EqI (Jqre p) (.seq (.region [⟨(some 6), (.bin .eql (.t 4) (.c (.d (.int .i64 1)))), none, false⟩, ⟨(some 5), (.asg (.t 6)), none, false⟩] []) (.cond (.t 5) (.seq (Jqrb p) .ret) (Jqrd p))) := eqi
def Jtcw (p : Nums) : IC := (.seq (.region [⟨(some 1), (.box (.t 0)), none, false⟩, ⟨(some 2), (.asg (.c .nils)), none, false⟩] []) (.seq (.seq (.region [⟨(some 3), (.faddr 0 (.t 1)), none, false⟩, ⟨(some 4), (.load none (.t 3)), none, false⟩] []) (.block 0 (Jqre p))) (.seq (.region [⟨(some 2), (.asg (.c .nils)), none, false⟩] []) .ret)))
@[simp] def Jq67 (p : Nums) : List IOp := [qo 4 (.alloc [(zi 0), (zi 0)]), qo 5 (.asg (ci 0))]
def Jq63 (p : Nums) : IC := (.region (Jq67 p) [])
@[simp] theorem Je63 {p : Nums} : EqI (Jq63 p) (.region (Jq67 p) []) := eqi
@[simp] def Jq68 (p : Nums) : List IOp := [qo 9 (.mov (.t 1)), qo 10 (.mov (.t 0)), qo 11 (.call p.pairset_Missing [(.t 9), (.t 10)]), qo 8 (.mov (.t 11)), qo 12 (.ext (.t 8) 0), qo 13 (.ext (.t 8) 1), qo 6 (.alloc [(zi 0), (zi 0)]), qn (.store 2 (.t 6) (.t 12)), qo 7 (.asg (.t 13))]
def Jq64 (p : Nums) : IC := (.region (Jq68 p) [])
@[simp] theorem Je64 {p : Nums} : EqI (Jq64 p) (.region (Jq68 p) []) := eqi
@[simp] def Jq69 (p : Nums) : List IOp := [qo 15 (.load (some 2) (.t 6)), qn (.store 2 (.t 4) (.t 15)), qo 5 (.asg (ci 22))]
def Jq65 (p : Nums) : IC := (.region (Jq69 p) [])
@[simp] theorem Je65 {p : Nums} : EqI (Jq65 p) (.region (Jq69 p) []) := eqi
@[simp] def Jq6a (p : Nums) : List IOp := [qo 16 (.build [(zi 0), (zi 0)] []), qn (.store 2 (.t 4) (.t 16)), qo 5 (.asg (ci 0))]
def Jq66 (p : Nums) : IC := (.region (Jq6a p) [])
@[simp] theorem Je66 {p : Nums} : EqI (Jq66 p) (.region (Jq6a p) []) := eqi
def Jtaw (p : Nums) : IC := (.seq (Jq63 p) (.seq (.seq (Jq64 p) (.seq (.region [⟨(some 14), (.mov (.t 7)), none, false⟩] []) (.cond (.t 14) (.seq (Jq65 p) .ret) .skip))) (.seq (Jq66 p) .ret)))
@[simp] def Jqqs (p : Nums) : List IOp := [qo 6 (.faddr 2 (.t 1)), qo 7 (.load none (.t 6)), qo 8 (.len (.t 7)), qo 9 (.mov (ci 0))]
def Jqqo (p : Nums) : IC := (.region (Jqqs p) [])
@[simp] theorem Jeqo {p : Nums} : EqI (Jqqo p) (.region (Jqqs p) []) := eqi
@[simp] def Jqqt (p : Nums) : List IOp := [qo 11 (.iaddr 5 (.t 7) (.t 9)), qo 12 (.load (some 5) (.t 11)), qo 5 (.alloc [.nils, (zi 0), (zi 0), (zi 0), (zi 0)]), qn (.store 5 (.t 5) (.t 12))]
def Jqqp (p : Nums) : IC := (.region (Jqqt p) [])
@[simp] theorem Jeqp {p : Nums} : EqI (Jqqp p) (.region (Jqqt p) []) := eqi
@[simp] def Jqqu (p : Nums) : List IOp := [qo 13 (.mov (.t 3)), qo 14 (.faddr 0 (.t 5)), qo 15 (.load none (.t 14)), qo 16 (.len (.t 15)), qo 17 (.bin .add (.t 13) (.t 16)), qo 3 (.asg (.t 17))]
def Jqqq (p : Nums) : IC := (.region (Jqqu p) [])
@[simp] theorem Jeqq {p : Nums} : EqI (Jqqq p) (.region (Jqqu p) []) := eqi
def Jqqr (p : Nums) : IC := (.seq (.region [⟨(some 10), (.bin .lss (.t 9) (.t 8)), none, false⟩] []) (.seq (.cond (.t 10) .skip (.exit 0)) (.seq (.block 1 (.seq (Jqqp p) (Jqqq p))) (.region [⟨(some 18), (.bin .add (.t 9) (.c (.d (.int .i64 1)))), none, false⟩, ⟨(some 9), (.mov (.t 18)), none, false⟩] []))))
@[simp] theorem Jeqr {p : Nums} : EqI (Jqqr p) (.seq (.region [⟨(some 10), (.bin .lss (.t 9) (.t 8)), none, false⟩] []) (.seq (.cond (.t 10) .skip (.exit 0)) (.seq (.block 1 (.seq (Jqqp p) (Jqqq p))) (.region [⟨(some 18), (.bin .add (.t 9) (.c (.d (.int .i64 1)))), none, false⟩, ⟨(some 9), (.mov (.t 18)), none, false⟩] [])))) := eqi
def Jtcu (p : Nums) : IC := (.seq (.region [⟨(some 1), (.box (.t 0)), none, false⟩, ⟨(some 2), (.asg (.c (.d (.int .i64 0)))), none, false⟩] []) (.seq (.region [⟨(some 3), (.asg (.c (.d (.int .i64 0)))), none, false⟩] []) (.seq (.seq (Jqqo p) (.block 0 (.loop (Jqqr p)))) (.seq (.region [⟨(some 19), (.mov (.t 3)), none, false⟩, ⟨(some 2), (.asg (.t 19)), none, false⟩] []) .ret))))
@[simp] def Jqae (p : Nums) : List IOp := [qo 6 (.faddr 3 (.t 1)), qo 7 (.load none (.t 6)), qo 8 (.len (.t 7)), qo 9 (.mov (ci 0))]
def Jqaa (p : Nums) : IC := (.region (Jqae p) [])
@[simp] theorem Jeaa {p : Nums} : EqI (Jqaa p) (.region (Jqae p) []) := eqi
@[simp] def Jqaf (p : Nums) : List IOp := [qo 11 (.iaddr 5 (.t 7) (.t 9)), qo 12 (.load (some 5) (.t 11)), qo 5 (.alloc [.nils, (zi 0), (zi 0), (zi 0), (zi 0)]), qn (.store 5 (.t 5) (.t 12))]
def Jqab (p : Nums) : IC := (.region (Jqaf p) [])
@[simp] theorem Jeab {p : Nums} : EqI (Jqab p) (.region (Jqaf p) []) := eqi
@[simp] def Jqag (p : Nums) : List IOp := [qo 13 (.mov (.t 3)), qo 14 (.faddr 0 (.t 5)), qo 15 (.load none (.t 14)), qo 16 (.len (.t 15)), qo 17 (.bin .add (.t 13) (.t 16)), qo 3 (.asg (.t 17))]
def Jqac (p : Nums) : IC := (.region (Jqag p) [])
@[simp] theorem Jeac {p : Nums} : EqI (Jqac p) (.region (Jqag p) []) := eqi
def Jqad (p : Nums) : IC := (.seq (.region [⟨(some 10), (.bin .lss (.t 9) (.t 8)), none, false⟩] []) (.seq (.cond (.t 10) .skip (.exit 0)) (.seq (.block 1 (.seq (Jqab p) (Jqac p))) (.region [⟨(some 18), (.bin .add (.t 9) (.c (.d (.int .i64 1)))), none, false⟩, ⟨(some 9), (.mov (.t 18)), none, false⟩] []))))
@[simp] theorem Jead {p : Nums} : EqI (Jqad p) (.seq (.region [⟨(some 10), (.bin .lss (.t 9) (.t 8)), none, false⟩] []) (.seq (.cond (.t 10) .skip (.exit 0)) (.seq (.block 1 (.seq (Jqab p) (Jqac p))) (.region [⟨(some 18), (.bin .add (.t 9) (.c (.d (.int .i64 1)))), none, false⟩, ⟨(some 9), (.mov (.t 18)), none, false⟩] [])))) := eqi
def Jtb9 (p : Nums) : IC := (.seq (.region [⟨(some 1), (.box (.t 0)), none, false⟩, ⟨(some 2), (.asg (.c (.d (.int .i64 0)))), none, false⟩] []) (.seq (.region [⟨(some 3), (.asg (.c (.d (.int .i64 0)))), none, false⟩] []) (.seq (.seq (Jqaa p) (.block 0 (.loop (Jqad p)))) (.seq (.region [⟨(some 19), (.mov (.t 3)), none, false⟩, ⟨(some 2), (.asg (.t 19)), none, false⟩] []) .ret))))
@[simp] def Jqnp (p : Nums) : List IOp := [qo 3 (.box (.t 0)), qo 6 (.alloc [.nils, (zi 0), (zi 0), (zi 0), (zi 0)])]
def Jqnm (p : Nums) : IC := (.region (Jqnp p) [])
@[simp] theorem Jenm {p : Nums} : EqI (Jqnm p) (.region (Jqnp p) []) := eqi
@[simp] def Jqnq (p : Nums) : List IOp := [qo 8 (.mov (.t 1)), qo 9 (.faddr 1 (.t 3)), qn (.store 1 (.t 9) (.t 8))]
def Jqnn (p : Nums) : IC := (.region (Jqnq p) [])
@[simp] theorem Jenn {p : Nums} : EqI (Jqnn p) (.region (Jqnq p) []) := eqi
@[simp] def Jqnr (p : Nums) : List IOp := [qo 10 (.mov (.t 2)), qo 11 (.faddr 2 (.t 3)), qn (.store 1 (.t 11) (.t 10))]
def Jqno (p : Nums) : IC := (.region (Jqnr p) [])
@[simp] theorem Jeno {p : Nums} : EqI (Jqno p) (.region (Jqnr p) []) := eqi
def Jtcl (p : Nums) : IC := (.seq (Jqnm p) (.seq (.region [⟨(some 7), (.faddr 0 (.t 3)), none, false⟩, ⟨none, (.store 1 (.t 7) (.c .nils)), none, false⟩] []) (.seq (Jqnn p) (.seq (Jqno p) (.seq (.region [⟨(some 12), (.load (some 5) (.t 3)), none, false⟩, ⟨none, (.store 5 (.t 6) (.t 12)), none, false⟩] []) .ret)))))
@[simp] def Jqkj (p : Nums) : List IOp := [qo 4 (.asg (.c .nils)), qo 5 (.asg (ci 0)), qo 6 (.asg (ci 0))]
def Jqk4 (p : Nums) : IC := (.region (Jqkj p) [])
@[simp] theorem Jek4 {p : Nums} : EqI (Jqk4 p) (.region (Jqkj p) []) := eqi
@[simp] def Jqko (p : Nums) : List IOp := [qo 13 (.mov (.t 0)), qo 14 (.call p.ref13_Operations [(.t 13)]), qo 7 (.asg (.t 14))]
def Jqkb (p : Nums) : IC := (.region (Jqko p) [])
@[simp] theorem Jekb {p : Nums} : EqI (Jqkb p) (.region (Jqko p) []) := eqi
@[simp] def Jqkp (p : Nums) : List IOp := [qo 15 (.mov (.t 1)), qo 16 (.call p.ref13_Others [(.t 15)]), qo 8 (.asg (.t 16))]
def Jqkc (p : Nums) : IC := (.region (Jqkp p) [])
@[simp] theorem Jekc {p : Nums} : EqI (Jqkc p) (.region (Jqkp p) []) := eqi
@[simp] def Jqkq (p : Nums) : List IOp := [qo 17 (.mov (.t 12)), qo 18 (.mov (.t 8)), qo 19 (.len (.t 18)), qo 20 (.bin .lss (.t 17) (.t 19))]
def Jqkd (p : Nums) : IC := (.region (Jqkq p) [])
@[simp] theorem Jekd {p : Nums} : EqI (Jqkd p) (.region (Jqkq p) []) := eqi
@[simp] def Jqkr (p : Nums) : List IOp := [qp 23 (.mov (.t 12)), qp 24 (.mov (.t 7)), qp 25 (.len (.t 24)), qo 26 (.bin .geq (.t 23) (.t 25)), qo 27 (.mov (.t 26)), ⟨(some 28), (.mov (.t 0)), (some (27, false)), true⟩, ⟨(some 29), (.mov (.t 7)), (some (27, false)), true⟩, ⟨(some 30), (.mov (.t 12)), (some (27, false)), true⟩, ⟨(some 31), (.iaddr 1 (.t 29) (.t 30)), (some (27, false)), true⟩, ⟨(some 32), (.load none (.t 31)), (some (27, false)), true⟩, ⟨(some 33), (.iaddr 5 (.t 28) (.t 32)), (some (27, false)), true⟩, ⟨(some 34), (.load (some 5) (.t 33)), (some (27, false)), true⟩, ⟨(some 35), (.mov (.t 1)), (some (27, false)), true⟩, ⟨(some 36), (.mov (.t 8)), (some (27, false)), true⟩, ⟨(some 37), (.mov (.t 12)), (some (27, false)), true⟩, ⟨(some 38), (.iaddr 1 (.t 36) (.t 37)), (some (27, false)), true⟩, ⟨(some 39), (.load none (.t 38)), (some (27, false)), true⟩, ⟨(some 40), (.iaddr 7 (.t 35) (.t 39)), (some (27, false)), true⟩, ⟨(some 41), (.load (some 7) (.t 40)), (some (27, false)), true⟩, ⟨(some 42), (.call p.ref13_Same [(.t 34), (.t 41)]), (some (27, false)), false⟩, ⟨(some 43), (.un .not (.t 42)), (some (27, false)), false⟩, qo 44 (.pick (.t 27) (.c (.d (.bool true))) (.t 43))]
def Jqke (p : Nums) : IC := (.region (Jqkr p) [])
@[simp] theorem Jeke {p : Nums} : EqI (Jqke p) (.region (Jqkr p) []) := eqi
@[simp] def Jqks (p : Nums) : List IOp := [qp 45 (.mov (.t 8)), qp 46 (.mov (.t 12)), qp 47 (.iaddr 1 (.t 45) (.t 46)), qp 48 (.load none (.t 47)), qp 4 (.asg (.c .nils)), qo 5 (.asg (.t 48)), qo 6 (.asg (ci 20))]
def Jqkf (p : Nums) : IC := (.region (Jqks p) [])
@[simp] theorem Jekf {p : Nums} : EqI (Jqkf p) (.region (Jqks p) []) := eqi
@[simp] def Jqkt (p : Nums) : List IOp := [qp 49 (.mov (.t 9)), qp 50 (.mov (.t 10)), qp 51 (.mov (.t 7)), qp 52 (.mov (.t 12)), qp 53 (.iaddr 1 (.t 51) (.t 52)), qp 54 (.load none (.t 53)), qp 55 (.mov (.t 11)), qp 56 (.mov (.t 8)), qp 57 (.mov (.t 12)), qp 58 (.iaddr 1 (.t 56) (.t 57)), qp 59 (.load none (.t 58)), qp 60 (.mov (.t 7)), qp 61 (.mov (.t 12)), qp 62 (.iaddr 1 (.t 60) (.t 61)), qp 63 (.load none (.t 62)), qp 64 (.mov (.t 8)), qp 65 (.mov (.t 12)), qp 66 (.iaddr 1 (.t 64) (.t 65)), qp 67 (.load none (.t 66)), qp 68 (.build [(zi 0), (zi 0), (zi 0), (zi 0), (zi 0), (zi 0)] [(0, 1, (.t 50)), (1, 1, (.t 54)), (2, 1, (.t 55)), (3, 1, (.t 59)), (4, 1, (.t 63)), (5, 1, (.t 67))]), qp 69 (.bslice 6 1 [(.int .i64 0), (.int .i64 0), (.int .i64 0), (.int .i64 0), (.int .i64 0), (.int .i64 0)] [(0, (.t 68))]), qo 70 (.app 6 48 (.t 49) (.t 69)), qo 9 (.asg (.t 70))]
def Jqkg (p : Nums) : IC := (.region (Jqkt p) [])
@[simp] theorem Jekg {p : Nums} : EqI (Jqkg p) (.region (Jqkt p) []) := eqi
@[simp] def Jqku (p : Nums) : List IOp := [qo 71 (.mov (.t 7)), qo 72 (.mov (.t 12)), qo 73 (.iaddr 1 (.t 71) (.t 72)), qo 74 (.load none (.t 73)), qo 75 (.bin .add (.t 74) (ci 1)), qo 10 (.asg (.t 75))]
def Jqkh (p : Nums) : IC := (.region (Jqku p) [])
@[simp] theorem Jekh {p : Nums} : EqI (Jqkh p) (.region (Jqku p) []) := eqi
@[simp] def Jqkv (p : Nums) : List IOp := [qo 76 (.mov (.t 8)), qo 77 (.mov (.t 12)), qo 78 (.iaddr 1 (.t 76) (.t 77)), qo 79 (.load none (.t 78)), qo 80 (.bin .add (.t 79) (ci 1)), qo 11 (.asg (.t 80))]
def Jqki (p : Nums) : IC := (.region (Jqkv p) [])
@[simp] theorem Jeki {p : Nums} : EqI (Jqki p) (.region (Jqkv p) []) := eqi
def Jqk5 (p : Nums) : IC := (.seq (.seq (Jqke p) (.cond (.t 44) (.seq (Jqkf p) .ret) .skip)) (.seq (Jqkg p) (.seq (Jqkh p) (Jqki p))))
@[simp] theorem Jek5 {p : Nums} : EqI (Jqk5 p) (.seq (.seq (Jqke p) (.cond (.t 44) (.seq (Jqkf p) .ret) .skip)) (.seq (Jqkg p) (.seq (Jqkh p) (Jqki p)))) := eqi
@[simp] def Jqkk (p : Nums) : List IOp := [qo 21 (.mov (.t 12)), qo 22 (.bin .add (.t 21) (ci 1)), qo 12 (.asg (.t 22))]
def Jqk6 (p : Nums) : IC := (.region (Jqkk p) [])
@[simp] theorem Jek6 {p : Nums} : EqI (Jqk6 p) (.region (Jqkk p) []) := eqi
def Jqk7 (p : Nums) : IC := (.seq (.seq (Jqkd p) (.cond (.t 20) .skip (.exit 0))) (.seq (.block 1 (Jqk5 p)) (Jqk6 p)))
@[simp] theorem Jek7 {p : Nums} : EqI (Jqk7 p) (.seq (.seq (Jqkd p) (.cond (.t 20) .skip (.exit 0))) (.seq (.block 1 (Jqk5 p)) (Jqk6 p))) := eqi
@[simp] def Jqkl (p : Nums) : List IOp := [qo 81 (.mov (.t 7)), qo 82 (.len (.t 81)), qo 83 (.mov (.t 8)), qo 84 (.len (.t 83)), qo 85 (.bin .gtr (.t 82) (.t 84))]
def Jqk8 (p : Nums) : IC := (.region (Jqkl p) [])
@[simp] theorem Jek8 {p : Nums} : EqI (Jqk8 p) (.region (Jqkl p) []) := eqi
@[simp] def Jqkm (p : Nums) : List IOp := [qo 86 (.mov (.t 1)), qo 87 (.len (.t 86)), qo 4 (.asg (.c .nils)), qo 5 (.asg (.t 87)), qo 6 (.asg (ci 20))]
def Jqk9 (p : Nums) : IC := (.region (Jqkm p) [])
@[simp] theorem Jek9 {p : Nums} : EqI (Jqk9 p) (.region (Jqkm p) []) := eqi
@[simp] def Jqkn (p : Nums) : List IOp := [qo 88 (.mov (.t 9)), qo 89 (.mov (.t 10)), qo 90 (.mov (.t 0)), qo 91 (.len (.t 90)), qo 92 (.mov (.t 11)), qo 93 (.mov (.t 1)), qo 94 (.len (.t 93)), qo 95 (.build [(zi 0), (zi 0), (zi 0), (zi 0), (zi 0), (zi 0)] [(0, 1, (.t 89)), (1, 1, (.t 91)), (2, 1, (.t 92)), (3, 1, (.t 94)), (4, 1, (ci (-1))), (5, 1, (ci (-1)))]), qo 96 (.bslice 6 1 [(.int .i64 0), (.int .i64 0), (.int .i64 0), (.int .i64 0), (.int .i64 0), (.int .i64 0)] [(0, (.t 95))]), qo 97 (.app 6 48 (.t 88) (.t 96)), qo 98 (.mov (.t 1)), qo 99 (.len (.t 98)), qo 4 (.asg (.t 97)), qo 5 (.asg (.t 99)), qo 6 (.asg (ci 0))]
def Jqka (p : Nums) : IC := (.region (Jqkn p) [])
@[simp] theorem Jeka {p : Nums} : EqI (Jqka p) (.region (Jqkn p) []) := eqi
def Jtcf (p : Nums) : IC := (.seq (Jqk4 p) (.seq (Jqkb p) (.seq (Jqkc p) (.seq (.region [⟨(some 9), (.asg (.c .nils)), none, false⟩] []) (.seq (.region [⟨(some 10), (.asg (.c (.d (.int .i64 0)))), none, false⟩] []) (.seq (.region [⟨(some 11), (.asg (.c (.d (.int .i64 0)))), none, false⟩] []) (.seq (.seq (.region [⟨(some 12), (.asg (.c (.d (.int .i64 0)))), none, false⟩] []) (.block 0 (.loop (Jqk7 p)))) (.seq (.seq (Jqk8 p) (.cond (.t 85) (.seq (Jqk9 p) .ret) .skip)) (.seq (Jqka p) .ret)))))))))
@[simp] def Jqlm (p : Nums) : List IOp := [qo 2 (.box (.t 0)), qo 3 (.box (.t 1)), qo 4 (.asg (.c (.d (.bool false))))]
def Jqlk (p : Nums) : IC := (.region (Jqlm p) [])
@[simp] theorem Jelk {p : Nums} : EqI (Jqlk p) (.region (Jqlm p) []) := eqi
@[simp] def Jqln (p : Nums) : List IOp := [qo 7 (.load (some 4) (.t 2)), qo 8 (.load (some 4) (.t 3)), qo 9 (.eqs false [.int, .int, .int, .int] (.t 7) (.t 8)), qo 4 (.asg (.t 9))]
def Jqll (p : Nums) : IC := (.region (Jqln p) [])
@[simp] theorem Jell {p : Nums} : EqI (Jqll p) (.region (Jqln p) []) := eqi
def Jtcj (p : Nums) : IC := (.seq (Jqlk p) (.seq (.region [⟨(some 5), (.faddr 1 (.t 2)), none, false⟩, ⟨none, (.store 1 (.t 5) (.c (.d (.int .i64 0)))), none, false⟩] []) (.seq (.region [⟨(some 6), (.faddr 1 (.t 3)), none, false⟩, ⟨none, (.store 1 (.t 6) (.c (.d (.int .i64 0)))), none, false⟩] []) (.seq (Jqll p) .ret))))
@[simp] def Jqnz (p : Nums) : List IOp := [qo 4 (.box (.t 0)), qo 8 (.alloc [.nils, (zi 0), (zi 0), (zi 0), (zi 0)])]
def Jqns (p : Nums) : IC := (.region (Jqnz p) [])
@[simp] theorem Jens {p : Nums} : EqI (Jqns p) (.region (Jqnz p) []) := eqi
@[simp] def Jqo0 (p : Nums) : List IOp := [qo 9 (.faddr 3 (.t 4)), qo 10 (.load none (.t 9)), qo 11 (.bin .add (.t 10) (ci 1)), qo 12 (.faddr 0 (.t 4)), qo 13 (.load none (.t 12)), qo 14 (.len (.t 13)), qo 15 (.bin .add (.t 11) (.t 14)), qo 16 (.faddr 3 (.t 4)), qn (.store 1 (.t 16) (.t 15))]
def Jqnt (p : Nums) : IC := (.region (Jqo0 p) [])
@[simp] theorem Jent {p : Nums} : EqI (Jqnt p) (.region (Jqo0 p) []) := eqi
@[simp] def Jqo1 (p : Nums) : List IOp := [qo 17 (.mov (.t 1)), qo 18 (.faddr 0 (.t 4)), qn (.store 1 (.t 18) (.t 17))]
def Jqnu (p : Nums) : IC := (.region (Jqo1 p) [])
@[simp] theorem Jenu {p : Nums} : EqI (Jqnu p) (.region (Jqo1 p) []) := eqi
@[simp] def Jqo2 (p : Nums) : List IOp := [qo 19 (.mov (.t 1)), qo 20 (.len (.t 19)), qo 21 (.faddr 4 (.t 4)), qo 22 (.load none (.t 21)), qo 23 (.bin .gtr (.t 20) (.t 22))]
def Jqnv (p : Nums) : IC := (.region (Jqo2 p) [])
@[simp] theorem Jenv {p : Nums} : EqI (Jqnv p) (.region (Jqo2 p) []) := eqi
@[simp] def Jqo3 (p : Nums) : List IOp := [qo 24 (.mov (.t 1)), qo 25 (.len (.t 24)), qo 26 (.faddr 4 (.t 4)), qn (.store 1 (.t 26) (.t 25))]
def Jqnw (p : Nums) : IC := (.region (Jqo3 p) [])
@[simp] theorem Jenw {p : Nums} : EqI (Jqnw p) (.region (Jqo3 p) []) := eqi
@[simp] def Jqo4 (p : Nums) : List IOp := [qo 27 (.mov (.t 1)), qo 28 (.len (.t 27)), qo 29 (.mov (.t 2)), qo 30 (.bin .gtr (.t 28) (.t 29))]
def Jqnx (p : Nums) : IC := (.region (Jqo4 p) [])
@[simp] theorem Jenx {p : Nums} : EqI (Jqnx p) (.region (Jqo4 p) []) := eqi
@[simp] def Jqo5 (p : Nums) : List IOp := [qo 31 (.load (some 5) (.t 4)), qo 32 (.mov (.t 3)), qo 33 (.call p.ref14_fail [(.t 31), (ci 24), (.t 32)]), qn (.store 5 (.t 8) (.t 33))]
def Jqny (p : Nums) : IC := (.region (Jqo5 p) [])
@[simp] theorem Jeny {p : Nums} : EqI (Jqny p) (.region (Jqo5 p) []) := eqi
def Jtcm (p : Nums) : IC := (.seq (Jqns p) (.seq (Jqnt p) (.seq (Jqnu p) (.seq (.seq (Jqnv p) (.cond (.t 23) (Jqnw p) .skip)) (.seq (.seq (Jqnx p) (.cond (.t 30) (.seq (Jqny p) .ret) .skip)) (.seq (.region [⟨(some 34), (.load (some 5) (.t 4)), none, false⟩, ⟨none, (.store 5 (.t 8) (.t 34)), none, false⟩] []) .ret))))))
@[simp] def Jqj8 (p : Nums) : List IOp := [qo 9 (.mov (.t 8)), qo 10 (.mov (.t 0)), qo 11 (.len (.t 10)), qo 12 (.bin .lss (.t 9) (.t 11))]
def Jqj0 (p : Nums) : IC := (.region (Jqj8 p) [])
@[simp] theorem Jej0 {p : Nums} : EqI (Jqj0 p) (.region (Jqj8 p) []) := eqi
@[simp] def Jqj9 (p : Nums) : List IOp := [qo 15 (.mov (.t 1)), qo 16 (.mov (.t 2)), qo 17 (.bin .eql (.t 15) (.t 16)), qo 18 (.mov (.t 17)), ⟨(some 19), (.mov (.t 0)), (some (18, false)), false⟩, ⟨(some 20), (.mov (.t 8)), (some (18, false)), false⟩, ⟨(some 21), (.iaddr 2 (.t 19) (.t 20)), (some (18, false)), false⟩, ⟨(some 22), (.faddr 0 (.t 21)), (some (18, false)), false⟩, ⟨(some 23), (.load none (.t 22)), (some (18, false)), false⟩, ⟨(some 24), (.mov (.t 1)), (some (18, false)), false⟩, ⟨(some 25), (.bin .neq (.t 23) (.t 24)), (some (18, false)), false⟩, qo 26 (.pick (.t 18) (.c (.d (.bool true))) (.t 25))]
def Jqj1 (p : Nums) : IC := (.region (Jqj9 p) [])
@[simp] theorem Jej1 {p : Nums} : EqI (Jqj1 p) (.region (Jqj9 p) []) := eqi
@[simp] def Jqja (p : Nums) : List IOp := [qo 27 (.mov (.t 7)), qo 28 (.mov (.t 0)), qo 29 (.mov (.t 8)), qo 30 (.iaddr 2 (.t 28) (.t 29)), qo 31 (.load (some 2) (.t 30)), qo 32 (.call p.ref11_Add [(.t 27), (.t 31)]), qo 7 (.asg (.t 32))]
def Jqj2 (p : Nums) : IC := (.region (Jqja p) [])
@[simp] theorem Jej2 {p : Nums} : EqI (Jqj2 p) (.region (Jqja p) []) := eqi
@[simp] def Jqjb (p : Nums) : List IOp := [qo 33 (.mov (.t 0)), qo 34 (.mov (.t 8)), qo 35 (.iaddr 2 (.t 33) (.t 34)), qo 36 (.faddr 0 (.t 35)), qo 37 (.load none (.t 36)), qo 38 (.mov (.t 2)), qo 39 (.bin .eql (.t 37) (.t 38))]
def Jqj3 (p : Nums) : IC := (.region (Jqjb p) [])
@[simp] theorem Jej3 {p : Nums} : EqI (Jqj3 p) (.region (Jqjb p) []) := eqi
@[simp] def Jqjc (p : Nums) : List IOp := [qo 40 (.mov (.t 7)), qo 41 (.mov (.t 1)), qo 42 (.mov (.t 0)), qo 43 (.mov (.t 8)), qo 44 (.iaddr 2 (.t 42) (.t 43)), qo 45 (.faddr 1 (.t 44)), qo 46 (.load none (.t 45)), qo 47 (.build [(zi 0), (zi 0)] [(0, 1, (.t 41)), (1, 1, (.t 46))]), qo 48 (.call p.ref11_Add [(.t 40), (.t 47)]), qo 7 (.asg (.t 48))]
def Jqj4 (p : Nums) : IC := (.region (Jqjc p) [])
@[simp] theorem Jej4 {p : Nums} : EqI (Jqj4 p) (.region (Jqjc p) []) := eqi
def Jqj5 (p : Nums) : IC := (.seq (.seq (Jqj1 p) (.cond (.t 26) (Jqj2 p) .skip)) (.seq (Jqj3 p) (.cond (.t 39) (Jqj4 p) .skip)))
@[simp] theorem Jej5 {p : Nums} : EqI (Jqj5 p) (.seq (.seq (Jqj1 p) (.cond (.t 26) (Jqj2 p) .skip)) (.seq (Jqj3 p) (.cond (.t 39) (Jqj4 p) .skip))) := eqi
@[simp] def Jqjd (p : Nums) : List IOp := [qo 13 (.mov (.t 8)), qo 14 (.bin .add (.t 13) (ci 1)), qo 8 (.asg (.t 14))]
def Jqj6 (p : Nums) : IC := (.region (Jqjd p) [])
@[simp] theorem Jej6 {p : Nums} : EqI (Jqj6 p) (.region (Jqjd p) []) := eqi
def Jqj7 (p : Nums) : IC := (.seq (.seq (Jqj0 p) (.cond (.t 12) .skip (.exit 0))) (.seq (.block 1 (Jqj5 p)) (Jqj6 p)))
@[simp] theorem Jej7 {p : Nums} : EqI (Jqj7 p) (.seq (.seq (Jqj0 p) (.cond (.t 12) .skip (.exit 0))) (.seq (.block 1 (Jqj5 p)) (Jqj6 p))) := eqi
def Jtcc (p : Nums) : IC := (.seq (.region [⟨(some 6), (.asg (.c .nils)), none, false⟩] []) (.seq (.region [⟨(some 7), (.asg (.c .nils)), none, false⟩] []) (.seq (.seq (.region [⟨(some 8), (.asg (.c (.d (.int .i64 0)))), none, false⟩] []) (.block 0 (.loop (Jqj7 p)))) (.seq (.region [⟨(some 49), (.mov (.t 7)), none, false⟩, ⟨(some 6), (.asg (.t 49)), none, false⟩] []) .ret))))
@[simp] def Jqjy (p : Nums) : List IOp := [qo 9 (.mov (.t 8)), qo 10 (.mov (.t 0)), qo 11 (.len (.t 10)), qo 12 (.bin .lss (.t 9) (.t 11))]
def Jqjq (p : Nums) : IC := (.region (Jqjy p) [])
@[simp] theorem Jejq {p : Nums} : EqI (Jqjq p) (.region (Jqjy p) []) := eqi
@[simp] def Jqjz (p : Nums) : List IOp := [qo 15 (.mov (.t 1)), qo 16 (.mov (.t 2)), qo 17 (.bin .eql (.t 15) (.t 16)), qo 18 (.mov (.t 17)), ⟨(some 19), (.mov (.t 0)), (some (18, false)), false⟩, ⟨(some 20), (.mov (.t 8)), (some (18, false)), false⟩, ⟨(some 21), (.iaddr 2 (.t 19) (.t 20)), (some (18, false)), false⟩, ⟨(some 22), (.faddr 1 (.t 21)), (some (18, false)), false⟩, ⟨(some 23), (.load none (.t 22)), (some (18, false)), false⟩, ⟨(some 24), (.mov (.t 1)), (some (18, false)), false⟩, ⟨(some 25), (.bin .neq (.t 23) (.t 24)), (some (18, false)), false⟩, qo 26 (.pick (.t 18) (.c (.d (.bool true))) (.t 25))]
def Jqjr (p : Nums) : IC := (.region (Jqjz p) [])
@[simp] theorem Jejr {p : Nums} : EqI (Jqjr p) (.region (Jqjz p) []) := eqi
@[simp] def Jqk0 (p : Nums) : List IOp := [qo 27 (.mov (.t 7)), qo 28 (.mov (.t 0)), qo 29 (.mov (.t 8)), qo 30 (.iaddr 2 (.t 28) (.t 29)), qo 31 (.load (some 2) (.t 30)), qo 32 (.call p.ref11_Add [(.t 27), (.t 31)]), qo 7 (.asg (.t 32))]
def Jqjs (p : Nums) : IC := (.region (Jqk0 p) [])
@[simp] theorem Jejs {p : Nums} : EqI (Jqjs p) (.region (Jqk0 p) []) := eqi
@[simp] def Jqk1 (p : Nums) : List IOp := [qo 33 (.mov (.t 0)), qo 34 (.mov (.t 8)), qo 35 (.iaddr 2 (.t 33) (.t 34)), qo 36 (.faddr 1 (.t 35)), qo 37 (.load none (.t 36)), qo 38 (.mov (.t 2)), qo 39 (.bin .eql (.t 37) (.t 38))]
def Jqjt (p : Nums) : IC := (.region (Jqk1 p) [])
@[simp] theorem Jejt {p : Nums} : EqI (Jqjt p) (.region (Jqk1 p) []) := eqi
@[simp] def Jqk2 (p : Nums) : List IOp := [qo 40 (.mov (.t 7)), qo 41 (.mov (.t 0)), qo 42 (.mov (.t 8)), qo 43 (.iaddr 2 (.t 41) (.t 42)), qo 44 (.faddr 0 (.t 43)), qo 45 (.load none (.t 44)), qo 46 (.mov (.t 1)), qo 47 (.build [(zi 0), (zi 0)] [(0, 1, (.t 45)), (1, 1, (.t 46))]), qo 48 (.call p.ref11_Add [(.t 40), (.t 47)]), qo 7 (.asg (.t 48))]
def Jqju (p : Nums) : IC := (.region (Jqk2 p) [])
@[simp] theorem Jeju {p : Nums} : EqI (Jqju p) (.region (Jqk2 p) []) := eqi
def Jqjv (p : Nums) : IC := (.seq (.seq (Jqjr p) (.cond (.t 26) (Jqjs p) .skip)) (.seq (Jqjt p) (.cond (.t 39) (Jqju p) .skip)))
@[simp] theorem Jejv {p : Nums} : EqI (Jqjv p) (.seq (.seq (Jqjr p) (.cond (.t 26) (Jqjs p) .skip)) (.seq (Jqjt p) (.cond (.t 39) (Jqju p) .skip))) := eqi
@[simp] def Jqk3 (p : Nums) : List IOp := [qo 13 (.mov (.t 8)), qo 14 (.bin .add (.t 13) (ci 1)), qo 8 (.asg (.t 14))]
def Jqjw (p : Nums) : IC := (.region (Jqk3 p) [])
@[simp] theorem Jejw {p : Nums} : EqI (Jqjw p) (.region (Jqk3 p) []) := eqi
def Jqjx (p : Nums) : IC := (.seq (.seq (Jqjq p) (.cond (.t 12) .skip (.exit 0))) (.seq (.block 1 (Jqjv p)) (Jqjw p)))
@[simp] theorem Jejx {p : Nums} : EqI (Jqjx p) (.seq (.seq (Jqjq p) (.cond (.t 12) .skip (.exit 0))) (.seq (.block 1 (Jqjv p)) (Jqjw p))) := eqi
def Jtce (p : Nums) : IC := (.seq (.region [⟨(some 6), (.asg (.c .nils)), none, false⟩] []) (.seq (.region [⟨(some 7), (.asg (.c .nils)), none, false⟩] []) (.seq (.seq (.region [⟨(some 8), (.asg (.c (.d (.int .i64 0)))), none, false⟩] []) (.block 0 (.loop (Jqjx p)))) (.seq (.region [⟨(some 49), (.mov (.t 7)), none, false⟩, ⟨(some 6), (.asg (.t 49)), none, false⟩] []) .ret))))
@[simp] def Jqfl (p : Nums) : List IOp := [qo 3 (.mov (.t 0)), qo 4 (.bin .geq (.t 3) (ci 2)), qo 5 (.mov (.t 4)), ⟨(some 6), (.mov (.t 0)), (some (5, true)), false⟩, ⟨(some 7), (.bin .leq (.t 6) (ci 17)), (some (5, true)), false⟩, qo 8 (.pick (.t 5) (.t 7) (.c (.d (.bool false)))), qo 2 (.asg (.t 8))]
def Jqfk (p : Nums) : IC := (.region (Jqfl p) [])
@[simp] theorem Jefk {p : Nums} : EqI (Jqfk p) (.region (Jqfl p) []) := eqi
def Jtby (p : Nums) : IC := (.seq (.region [⟨(some 2), (.asg (.c (.d (.bool false)))), none, false⟩] []) (.seq (Jqfk p) .ret))
@[simp] def Jqoa (p : Nums) : List IOp := [qo 4 (.box (.t 0)), qo 8 (.alloc [.nils, (zi 0), (zi 0), (zi 0), (zi 0)])]
def Jqo6 (p : Nums) : IC := (.region (Jqoa p) [])
@[simp] theorem Jeo6 {p : Nums} : EqI (Jqo6 p) (.region (Jqoa p) []) := eqi
@[simp] def Jqob (p : Nums) : List IOp := [qo 9 (.faddr 3 (.t 4)), qo 10 (.load none (.t 9)), qo 11 (.bin .add (.t 10) (ci 1)), qo 12 (.faddr 0 (.t 4)), qo 13 (.load none (.t 12)), qo 14 (.len (.t 13)), qo 15 (.bin .add (.t 11) (.t 14)), qo 16 (.faddr 3 (.t 4)), qn (.store 1 (.t 16) (.t 15))]
def Jqo7 (p : Nums) : IC := (.region (Jqob p) [])
@[simp] theorem Jeo7 {p : Nums} : EqI (Jqo7 p) (.region (Jqob p) []) := eqi
@[simp] def Jqoc (p : Nums) : List IOp := [qo 17 (.faddr 0 (.t 4)), qo 18 (.load none (.t 17)), qo 19 (.mov (.t 1)), qo 20 (.mov (.t 2)), qo 21 (.bin .mul (ci 2) (.t 20)), qo 22 (.build [(zi 0), (zi 0)] [(0, 1, (.t 19)), (1, 1, (.t 21))]), qo 23 (.call p.ref11_Has [(.t 18), (.t 22)]), qo 24 (.un .not (.t 23))]
def Jqo8 (p : Nums) : IC := (.region (Jqoc p) [])
@[simp] theorem Jeo8 {p : Nums} : EqI (Jqo8 p) (.region (Jqoc p) []) := eqi
@[simp] def Jqod (p : Nums) : List IOp := [qo 25 (.load (some 5) (.t 4)), qo 26 (.mov (.t 3)), qo 27 (.call p.ref14_fail [(.t 25), (ci 21), (.t 26)]), qn (.store 5 (.t 8) (.t 27))]
def Jqo9 (p : Nums) : IC := (.region (Jqod p) [])
@[simp] theorem Jeo9 {p : Nums} : EqI (Jqo9 p) (.region (Jqod p) []) := eqi
def Jtcn (p : Nums) : IC := (.seq (Jqo6 p) (.seq (Jqo7 p) (.seq (.seq (Jqo8 p) (.cond (.t 24) (.seq (Jqo9 p) .ret) .skip)) (.seq (.region [⟨(some 28), (.load (some 5) (.t 4)), none, false⟩, ⟨none, (.store 5 (.t 8) (.t 28)), none, false⟩] []) .ret))))
@[simp] def Jqfn (p : Nums) : List IOp := [qo 3 (.mov (.t 0)), qo 4 (.bin .geq (.t 3) (ci 5)), qo 5 (.mov (.t 4)), ⟨(some 6), (.mov (.t 0)), (some (5, true)), false⟩, ⟨(some 7), (.bin .leq (.t 6) (ci 16)), (some (5, true)), false⟩, qo 8 (.pick (.t 5) (.t 7) (.c (.d (.bool false)))), qo 2 (.asg (.t 8))]
def Jqfm (p : Nums) : IC := (.region (Jqfn p) [])
@[simp] theorem Jefm {p : Nums} : EqI (Jqfm p) (.region (Jqfn p) []) := eqi
def Jtbz (p : Nums) : IC := (.seq (.region [⟨(some 2), (.asg (.c (.d (.bool false)))), none, false⟩] []) (.seq (Jqfm p) .ret))
@[simp] def Jqfp (p : Nums) : List IOp := [qo 3 (.mov (.t 0)), qo 4 (.bin .geq (.t 3) (ci 1)), qo 5 (.mov (.t 4)), ⟨(some 6), (.mov (.t 0)), (some (5, true)), false⟩, ⟨(some 7), (.bin .leq (.t 6) (ci 16)), (some (5, true)), false⟩, qo 8 (.pick (.t 5) (.t 7) (.c (.d (.bool false)))), qo 2 (.asg (.t 8))]
def Jqfo (p : Nums) : IC := (.region (Jqfp p) [])
@[simp] theorem Jefo {p : Nums} : EqI (Jqfo p) (.region (Jqfp p) []) := eqi
def Jtc0 (p : Nums) : IC := (.seq (.region [⟨(some 2), (.asg (.c (.d (.bool false)))), none, false⟩] []) (.seq (Jqfo p) .ret))
@[simp] def Jqjl (p : Nums) : List IOp := [qo 9 (.mov (.t 1)), qo 10 (.mov (.t 2)), qo 11 (.build [(zi 0), (zi 0)] [(0, 1, (.t 9)), (1, 1, (.t 10))]), qo 12 (.bslice 2 1 [(.int .i64 0), (.int .i64 0)] [(0, (.t 11))]), qo 7 (.asg (.t 12))]
def Jqje (p : Nums) : IC := (.region (Jqjl p) [])
@[simp] theorem Jeje {p : Nums} : EqI (Jqje p) (.region (Jqjl p) []) := eqi
@[simp] def Jqjm (p : Nums) : List IOp := [qo 13 (.mov (.t 8)), qo 14 (.mov (.t 0)), qo 15 (.len (.t 14)), qo 16 (.bin .lss (.t 13) (.t 15))]
def Jqjf (p : Nums) : IC := (.region (Jqjm p) [])
@[simp] theorem Jejf {p : Nums} : EqI (Jqjf p) (.region (Jqjm p) []) := eqi
@[simp] def Jqjn (p : Nums) : List IOp := [qo 19 (.mov (.t 0)), qo 20 (.mov (.t 8)), qo 21 (.iaddr 2 (.t 19) (.t 20)), qo 22 (.faddr 0 (.t 21)), qo 23 (.load none (.t 22)), qo 24 (.mov (.t 1)), qo 25 (.bin .neq (.t 23) (.t 24)), qo 26 (.mov (.t 25)), ⟨(some 27), (.mov (.t 0)), (some (26, true)), false⟩, ⟨(some 28), (.mov (.t 8)), (some (26, true)), false⟩, ⟨(some 29), (.iaddr 2 (.t 27) (.t 28)), (some (26, true)), false⟩, ⟨(some 30), (.faddr 1 (.t 29)), (some (26, true)), false⟩, ⟨(some 31), (.load none (.t 30)), (some (26, true)), false⟩, ⟨(some 32), (.mov (.t 2)), (some (26, true)), false⟩, ⟨(some 33), (.bin .neq (.t 31) (.t 32)), (some (26, true)), false⟩, qo 34 (.pick (.t 26) (.t 33) (.c (.d (.bool false))))]
def Jqjg (p : Nums) : IC := (.region (Jqjn p) [])
@[simp] theorem Jejg {p : Nums} : EqI (Jqjg p) (.region (Jqjn p) []) := eqi
@[simp] def Jqjo (p : Nums) : List IOp := [qo 35 (.mov (.t 7)), qo 36 (.mov (.t 0)), qo 37 (.mov (.t 8)), qo 38 (.iaddr 2 (.t 36) (.t 37)), qo 39 (.load (some 2) (.t 38)), qo 40 (.call p.ref11_Add [(.t 35), (.t 39)]), qo 7 (.asg (.t 40))]
def Jqjh (p : Nums) : IC := (.region (Jqjo p) [])
@[simp] theorem Jejh {p : Nums} : EqI (Jqjh p) (.region (Jqjo p) []) := eqi
def Jqji (p : Nums) : IC := (.seq (Jqjg p) (.cond (.t 34) (Jqjh p) .skip))
@[simp] theorem Jeji {p : Nums} : EqI (Jqji p) (.seq (Jqjg p) (.cond (.t 34) (Jqjh p) .skip)) := eqi
@[simp] def Jqjp (p : Nums) : List IOp := [qo 17 (.mov (.t 8)), qo 18 (.bin .add (.t 17) (ci 1)), qo 8 (.asg (.t 18))]
def Jqjj (p : Nums) : IC := (.region (Jqjp p) [])
@[simp] theorem Jejj {p : Nums} : EqI (Jqjj p) (.region (Jqjp p) []) := eqi
def Jqjk (p : Nums) : IC := (.seq (.seq (Jqjf p) (.cond (.t 16) .skip (.exit 0))) (.seq (.block 1 (Jqji p)) (Jqjj p)))
@[simp] theorem Jejk {p : Nums} : EqI (Jqjk p) (.seq (.seq (Jqjf p) (.cond (.t 16) .skip (.exit 0))) (.seq (.block 1 (Jqji p)) (Jqjj p))) := eqi
def Jtcd (p : Nums) : IC := (.seq (.region [⟨(some 6), (.asg (.c .nils)), none, false⟩] []) (.seq (Jqje p) (.seq (.seq (.region [⟨(some 8), (.asg (.c (.d (.int .i64 0)))), none, false⟩] []) (.block 0 (.loop (Jqjk p)))) (.seq (.region [⟨(some 41), (.mov (.t 7)), none, false⟩, ⟨(some 6), (.asg (.t 41)), none, false⟩] []) .ret))))
@[simp] def Jqib (p : Nums) : List IOp := [qo 6 (.mov (.t 5)), qo 7 (.mov (.t 0)), qo 8 (.len (.t 7)), qo 9 (.bin .lss (.t 6) (.t 8))]
def Jqi5 (p : Nums) : IC := (.region (Jqib p) [])
@[simp] theorem Jei5 {p : Nums} : EqI (Jqi5 p) (.region (Jqib p) []) := eqi
@[simp] def Jqic (p : Nums) : List IOp := [qp 12 (.mov (.t 0)), qp 13 (.mov (.t 5)), qp 14 (.iaddr 2 (.t 12) (.t 13)), qp 15 (.load (some 2) (.t 14)), qp 16 (.load (some 2) (.t 3)), qo 17 (.eqs false [.int, .int] (.t 15) (.t 16))]
def Jqi6 (p : Nums) : IC := (.region (Jqic p) [])
@[simp] theorem Jei6 {p : Nums} : EqI (Jqi6 p) (.region (Jqic p) []) := eqi
def Jqi7 (p : Nums) : IC := (.seq (.region [⟨(some 4), (.asg (.c (.d (.bool true)))), none, false⟩] []) .ret)
@[simp] theorem Jei7 {p : Nums} : EqI (Jqi7 p) (.seq (.region [⟨(some 4), (.asg (.c (.d (.bool true)))), none, false⟩] []) .ret) := eqi
def Jqi8 (p : Nums) : IC := (.seq (Jqi6 p) (.cond (.t 17) (Jqi7 p) .skip))
@[simp] theorem Jei8 {p : Nums} : EqI (Jqi8 p) (.seq (Jqi6 p) (.cond (.t 17) (Jqi7 p) .skip)) := eqi
@[simp] def Jqid (p : Nums) : List IOp := [qo 10 (.mov (.t 5)), qo 11 (.bin .add (.t 10) (ci 1)), qo 5 (.asg (.t 11))]
def Jqi9 (p : Nums) : IC := (.region (Jqid p) [])
@[simp] theorem Jei9 {p : Nums} : EqI (Jqi9 p) (.region (Jqid p) []) := eqi
def Jqia (p : Nums) : IC := (.seq (.seq (Jqi5 p) (.cond (.t 9) .skip (.exit 0))) (.seq (.block 1 (Jqi8 p)) (Jqi9 p)))
@[simp] theorem Jeia {p : Nums} : EqI (Jqia p) (.seq (.seq (Jqi5 p) (.cond (.t 9) .skip (.exit 0))) (.seq (.block 1 (Jqi8 p)) (Jqi9 p))) := eqi
def Jtc9 (p : Nums) : IC := (.seq (.region [⟨(some 3), (.box (.t 1)), none, false⟩, ⟨(some 4), (.asg (.c (.d (.bool false)))), none, false⟩] []) (.seq (.seq (.region [⟨(some 5), (.asg (.c (.d (.int .i64 0)))), none, false⟩] []) (.block 0 (.loop (Jqia p)))) (.seq (.region [⟨(some 4), (.asg (.c (.d (.bool false)))), none, false⟩] []) .ret)))
@[simp] def Jqg2 (p : Nums) : List IOp := [qo 5 (.faddr 0 (.t 1)), qo 6 (.load none (.t 5)), qo 7 (.faddr 1 (.t 1)), qo 8 (.load none (.t 7)), qo 9 (.build [(zi 0), (zi 0), .nils] [(0, 1, (.t 6)), (1, 1, (.t 8))]), qo 3 (.alloc [(zi 0), (zi 0), .nils]), qn (.store 3 (.t 3) (.t 9))]
def Jqfx (p : Nums) : IC := (.region (Jqg2 p) [])
@[simp] theorem Jefx {p : Nums} : EqI (Jqfx p) (.region (Jqg2 p) []) := eqi
@[simp] def Jqg3 (p : Nums) : List IOp := [qo 10 (.mov (.t 4)), qo 11 (.faddr 2 (.t 1)), qo 12 (.load none (.t 11)), qo 13 (.len (.t 12)), qo 14 (.bin .lss (.t 10) (.t 13))]
def Jqfy (p : Nums) : IC := (.region (Jqg3 p) [])
@[simp] theorem Jefy {p : Nums} : EqI (Jqfy p) (.region (Jqg3 p) []) := eqi
@[simp] def Jqg4 (p : Nums) : List IOp := [qp 17 (.faddr 2 (.t 3)), qp 18 (.load none (.t 17)), qp 19 (.bslice 5 0 [(.int .i64 0), (.int .i64 0), (.int .i64 0), (.int .i64 0), (.int .i64 0)] []), qp 20 (.faddr 2 (.t 1)), qp 21 (.load none (.t 20)), qp 22 (.mov (.t 4)), qp 23 (.iaddr 5 (.t 21) (.t 22)), qp 24 (.faddr 0 (.t 23)), qp 25 (.load none (.t 24)), qp 26 (.app 5 40 (.t 19) (.t 25)), qp 27 (.faddr 2 (.t 1)), qp 28 (.load none (.t 27)), qp 29 (.mov (.t 4)), qp 30 (.iaddr 5 (.t 28) (.t 29)), qp 31 (.faddr 1 (.t 30)), qp 32 (.load (some 4) (.t 31)), qp 33 (.build [.nils, (zi 0), (zi 0), (zi 0), (zi 0)] [(0, 1, (.t 26)), (1, 4, (.t 32))]), qp 34 (.bslice 5 1 [(.sl []), (.int .i64 0), (.int .i64 0), (.int .i64 0), (.int .i64 0)] [(0, (.t 33))]), qo 35 (.app 5 56 (.t 18) (.t 34)), qo 36 (.faddr 2 (.t 3)), qn (.store 1 (.t 36) (.t 35))]
def Jqfz (p : Nums) : IC := (.region (Jqg4 p) [])
@[simp] theorem Jefz {p : Nums} : EqI (Jqfz p) (.region (Jqg4 p) []) := eqi
@[simp] def Jqg5 (p : Nums) : List IOp := [qo 15 (.mov (.t 4)), qo 16 (.bin .add (.t 15) (ci 1)), qo 4 (.asg (.t 16))]
def Jqg0 (p : Nums) : IC := (.region (Jqg5 p) [])
@[simp] theorem Jeg0 {p : Nums} : EqI (Jqg0 p) (.region (Jqg5 p) []) := eqi
def Jqg1 (p : Nums) : IC := (.seq (.seq (Jqfy p) (.cond (.t 14) .skip (.exit 0))) (.seq (.block 1 (Jqfz p)) (Jqg0 p)))
@[simp] theorem Jeg1 {p : Nums} : EqI (Jqg1 p) (.seq (.seq (Jqfy p) (.cond (.t 14) .skip (.exit 0))) (.seq (.block 1 (Jqfz p)) (Jqg0 p))) := eqi
def Jtc2 (p : Nums) : IC := (.seq (.region [⟨(some 1), (.box (.t 0)), none, false⟩, ⟨(some 2), (.alloc [(.d (.int .i64 0)), (.d (.int .i64 0)), .nils]), none, false⟩] []) (.seq (Jqfx p) (.seq (.seq (.region [⟨(some 4), (.asg (.c (.d (.int .i64 0)))), none, false⟩] []) (.block 0 (.loop (Jqg1 p)))) (.seq (.region [⟨(some 37), (.load (some 3) (.t 3)), none, false⟩, ⟨none, (.store 3 (.t 2) (.t 37)), none, false⟩] []) .ret))))
@[simp] def Jqh5 (p : Nums) : List IOp := [qo 1 (.box (.t 0)), qo 2 (.alloc [(zi 0), (zi 0), (zi 0), .nils])]
def Jqgz (p : Nums) : IC := (.region (Jqh5 p) [])
@[simp] theorem Jegz {p : Nums} : EqI (Jqgz p) (.region (Jqh5 p) []) := eqi
@[simp] def Jqh6 (p : Nums) : List IOp := [qo 5 (.faddr 0 (.t 1)), qo 6 (.load none (.t 5)), qo 7 (.faddr 1 (.t 1)), qo 8 (.load none (.t 7)), qo 9 (.faddr 2 (.t 1)), qo 10 (.load none (.t 9)), qo 11 (.build [(zi 0), (zi 0), (zi 0), .nils] [(0, 1, (.t 6)), (1, 1, (.t 8)), (2, 1, (.t 10))]), qo 3 (.alloc [(zi 0), (zi 0), (zi 0), .nils]), qn (.store 4 (.t 3) (.t 11))]
def Jqh0 (p : Nums) : IC := (.region (Jqh6 p) [])
@[simp] theorem Jeh0 {p : Nums} : EqI (Jqh0 p) (.region (Jqh6 p) []) := eqi
@[simp] def Jqh7 (p : Nums) : List IOp := [qo 12 (.mov (.t 4)), qo 13 (.faddr 3 (.t 1)), qo 14 (.load none (.t 13)), qo 15 (.len (.t 14)), qo 16 (.bin .lss (.t 12) (.t 15))]
def Jqh1 (p : Nums) : IC := (.region (Jqh7 p) [])
@[simp] theorem Jeh1 {p : Nums} : EqI (Jqh1 p) (.region (Jqh7 p) []) := eqi
@[simp] def Jqh8 (p : Nums) : List IOp := [qp 19 (.faddr 3 (.t 3)), qp 20 (.load none (.t 19)), qp 21 (.bslice 7 0 [(.int .i64 0), (.int .i64 0), (.int .i64 0), (.int .i64 0), (.int .i64 0), (.int .i64 0), (.int .i64 0)] []), qp 22 (.faddr 3 (.t 1)), qp 23 (.load none (.t 22)), qp 24 (.mov (.t 4)), qp 25 (.iaddr 5 (.t 23) (.t 24)), qp 26 (.faddr 0 (.t 25)), qp 27 (.load none (.t 26)), qp 28 (.app 7 56 (.t 21) (.t 27)), qp 29 (.faddr 3 (.t 1)), qp 30 (.load none (.t 29)), qp 31 (.mov (.t 4)), qp 32 (.iaddr 5 (.t 30) (.t 31)), qp 33 (.faddr 1 (.t 32)), qp 34 (.load (some 4) (.t 33)), qp 35 (.build [.nils, (zi 0), (zi 0), (zi 0), (zi 0)] [(0, 1, (.t 28)), (1, 4, (.t 34))]), qp 36 (.bslice 5 1 [(.sl []), (.int .i64 0), (.int .i64 0), (.int .i64 0), (.int .i64 0)] [(0, (.t 35))]), qo 37 (.app 5 56 (.t 20) (.t 36)), qo 38 (.faddr 3 (.t 3)), qn (.store 1 (.t 38) (.t 37))]
def Jqh2 (p : Nums) : IC := (.region (Jqh8 p) [])
@[simp] theorem Jeh2 {p : Nums} : EqI (Jqh2 p) (.region (Jqh8 p) []) := eqi
@[simp] def Jqh9 (p : Nums) : List IOp := [qo 17 (.mov (.t 4)), qo 18 (.bin .add (.t 17) (ci 1)), qo 4 (.asg (.t 18))]
def Jqh3 (p : Nums) : IC := (.region (Jqh9 p) [])
@[simp] theorem Jeh3 {p : Nums} : EqI (Jqh3 p) (.region (Jqh9 p) []) := eqi
def Jqh4 (p : Nums) : IC := (.seq (.seq (Jqh1 p) (.cond (.t 16) .skip (.exit 0))) (.seq (.block 1 (Jqh2 p)) (Jqh3 p)))
@[simp] theorem Jeh4 {p : Nums} : EqI (Jqh4 p) (.seq (.seq (Jqh1 p) (.cond (.t 16) .skip (.exit 0))) (.seq (.block 1 (Jqh2 p)) (Jqh3 p))) := eqi
def Jtc6 (p : Nums) : IC := (.seq (Jqgz p) (.seq (Jqh0 p) (.seq (.seq (.region [⟨(some 4), (.asg (.c (.d (.int .i64 0)))), none, false⟩] []) (.block 0 (.loop (Jqh4 p)))) (.seq (.region [⟨(some 39), (.load (some 4) (.t 3)), none, false⟩, ⟨none, (.store 4 (.t 2) (.t 39)), none, false⟩] []) .ret))))
@[simp] def Jqfu (p : Nums) : List IOp := [qo 5 (.mov (.t 4)), qo 6 (.faddr 2 (.t 1)), qo 7 (.load none (.t 6)), qo 8 (.len (.t 7)), qo 9 (.bin .lss (.t 5) (.t 8))]
def Jqfq (p : Nums) : IC := (.region (Jqfu p) [])
@[simp] theorem Jefq {p : Nums} : EqI (Jqfq p) (.region (Jqfu p) []) := eqi
@[simp] def Jqfv (p : Nums) : List IOp := [qo 12 (.mov (.t 3)), qo 13 (.faddr 2 (.t 1)), qo 14 (.load none (.t 13)), qo 15 (.mov (.t 4)), qo 16 (.iaddr 5 (.t 14) (.t 15)), qo 17 (.faddr 0 (.t 16)), qo 18 (.load none (.t 17)), qo 19 (.len (.t 18)), qo 20 (.bin .add (.t 12) (.t 19)), qo 3 (.asg (.t 20))]
def Jqfr (p : Nums) : IC := (.region (Jqfv p) [])
@[simp] theorem Jefr {p : Nums} : EqI (Jqfr p) (.region (Jqfv p) []) := eqi
@[simp] def Jqfw (p : Nums) : List IOp := [qo 10 (.mov (.t 4)), qo 11 (.bin .add (.t 10) (ci 1)), qo 4 (.asg (.t 11))]
def Jqfs (p : Nums) : IC := (.region (Jqfw p) [])
@[simp] theorem Jefs {p : Nums} : EqI (Jqfs p) (.region (Jqfw p) []) := eqi
def Jqft (p : Nums) : IC := (.seq (.seq (Jqfq p) (.cond (.t 9) .skip (.exit 0))) (.seq (.block 1 (Jqfr p)) (Jqfs p)))
@[simp] theorem Jeft {p : Nums} : EqI (Jqft p) (.seq (.seq (Jqfq p) (.cond (.t 9) .skip (.exit 0))) (.seq (.block 1 (Jqfr p)) (Jqfs p))) := eqi
def Jtc1 (p : Nums) : IC := (.seq (.region [⟨(some 1), (.box (.t 0)), none, false⟩, ⟨(some 2), (.asg (.c (.d (.int .i64 0)))), none, false⟩] []) (.seq (.region [⟨(some 3), (.asg (.c (.d (.int .i64 0)))), none, false⟩] []) (.seq (.seq (.region [⟨(some 4), (.asg (.c (.d (.int .i64 0)))), none, false⟩] []) (.block 0 (.loop (Jqft p)))) (.seq (.region [⟨(some 21), (.mov (.t 3)), none, false⟩, ⟨(some 2), (.asg (.t 21)), none, false⟩] []) .ret))))
@[simp] def Jqgw (p : Nums) : List IOp := [qo 5 (.mov (.t 4)), qo 6 (.faddr 3 (.t 1)), qo 7 (.load none (.t 6)), qo 8 (.len (.t 7)), qo 9 (.bin .lss (.t 5) (.t 8))]
def Jqgs (p : Nums) : IC := (.region (Jqgw p) [])
@[simp] theorem Jegs {p : Nums} : EqI (Jqgs p) (.region (Jqgw p) []) := eqi
@[simp] def Jqgx (p : Nums) : List IOp := [qo 12 (.mov (.t 3)), qo 13 (.faddr 3 (.t 1)), qo 14 (.load none (.t 13)), qo 15 (.mov (.t 4)), qo 16 (.iaddr 5 (.t 14) (.t 15)), qo 17 (.faddr 0 (.t 16)), qo 18 (.load none (.t 17)), qo 19 (.len (.t 18)), qo 20 (.bin .add (.t 12) (.t 19)), qo 3 (.asg (.t 20))]
def Jqgt (p : Nums) : IC := (.region (Jqgx p) [])
@[simp] theorem Jegt {p : Nums} : EqI (Jqgt p) (.region (Jqgx p) []) := eqi
@[simp] def Jqgy (p : Nums) : List IOp := [qo 10 (.mov (.t 4)), qo 11 (.bin .add (.t 10) (ci 1)), qo 4 (.asg (.t 11))]
def Jqgu (p : Nums) : IC := (.region (Jqgy p) [])
@[simp] theorem Jegu {p : Nums} : EqI (Jqgu p) (.region (Jqgy p) []) := eqi
def Jqgv (p : Nums) : IC := (.seq (.seq (Jqgs p) (.cond (.t 9) .skip (.exit 0))) (.seq (.block 1 (Jqgt p)) (Jqgu p)))
@[simp] theorem Jegv {p : Nums} : EqI (Jqgv p) (.seq (.seq (Jqgs p) (.cond (.t 9) .skip (.exit 0))) (.seq (.block 1 (Jqgt p)) (Jqgu p))) := eqi
def Jtc5 (p : Nums) : IC := (.seq (.region [⟨(some 1), (.box (.t 0)), none, false⟩, ⟨(some 2), (.asg (.c (.d (.int .i64 0)))), none, false⟩] []) (.seq (.region [⟨(some 3), (.asg (.c (.d (.int .i64 0)))), none, false⟩] []) (.seq (.seq (.region [⟨(some 4), (.asg (.c (.d (.int .i64 0)))), none, false⟩] []) (.block 0 (.loop (Jqgv p)))) (.seq (.region [⟨(some 21), (.mov (.t 3)), none, false⟩, ⟨(some 2), (.asg (.t 21)), none, false⟩] []) .ret))))
@[simp] def Jqsj (p : Nums) : List IOp := [qo 10 (.faddr 0 (.t 3)), qo 11 (.load none (.t 10)), qo 12 (.len (.t 11)), qo 13 (.mov (ci 0))]
def Jqsc (p : Nums) : IC := (.region (Jqsj p) [])
@[simp] theorem Jesc {p : Nums} : EqI (Jqsc p) (.region (Jqsj p) []) := eqi
@[simp] def Jqsk (p : Nums) : List IOp := [qo 15 (.iaddr 5 (.t 11) (.t 13)), qo 16 (.load (some 5) (.t 15)), qo 8 (.alloc [(zi 0), (zi 0), (zi 0), (zi 0), (zi 0)]), qn (.store 5 (.t 8) (.t 16))]
def Jqsd (p : Nums) : IC := (.region (Jqsk p) [])
@[simp] theorem Jesd {p : Nums} : EqI (Jqsd p) (.region (Jqsk p) []) := eqi
@[simp] def Jqsl (p : Nums) : List IOp := [qo 17 (.load (some 5) (.t 8)), qo 18 (.mov (.t 1)), qo 19 (.call p.source_Instr [(.t 17), (.t 18)]), qo 9 (.asg (.t 19))]
def Jqse (p : Nums) : IC := (.region (Jqsl p) [])
@[simp] theorem Jese {p : Nums} : EqI (Jqse p) (.region (Jqsl p) []) := eqi
def Jqsf (p : Nums) : IC := (.seq (.region [⟨(some 22), (.mov (.t 9)), none, false⟩, ⟨(some 6), (.asg (.t 22)), none, false⟩] []) .ret)
@[simp] theorem Jesf {p : Nums} : EqI (Jqsf p) (.seq (.region [⟨(some 22), (.mov (.t 9)), none, false⟩, ⟨(some 6), (.asg (.t 22)), none, false⟩] []) .ret) := eqi
def Jqsg (p : Nums) : IC := (.seq (Jqsd p) (.seq (Jqse p) (.seq (.region [⟨(some 20), (.mov (.t 9)), none, false⟩, ⟨(some 21), (.bin .neq (.t 20) (.c (.d (.int .i64 0)))), none, false⟩] []) (.cond (.t 21) (Jqsf p) .skip))))
@[simp] theorem Jesg {p : Nums} : EqI (Jqsg p) (.seq (Jqsd p) (.seq (Jqse p) (.seq (.region [⟨(some 20), (.mov (.t 9)), none, false⟩, ⟨(some 21), (.bin .neq (.t 20) (.c (.d (.int .i64 0)))), none, false⟩] []) (.cond (.t 21) (Jqsf p) .skip)))) := eqi
def Jqsh (p : Nums) : IC := (.seq (.region [⟨(some 14), (.bin .lss (.t 13) (.t 12)), none, false⟩] []) (.seq (.cond (.t 14) .skip (.exit 0)) (.seq (.block 1 (Jqsg p)) (.region [⟨(some 23), (.bin .add (.t 13) (.c (.d (.int .i64 1)))), none, false⟩, ⟨(some 13), (.mov (.t 23)), none, false⟩] []))))
@[simp] theorem Jesh {p : Nums} : EqI (Jqsh p) (.seq (.region [⟨(some 14), (.bin .lss (.t 13) (.t 12)), none, false⟩] []) (.seq (.cond (.t 14) .skip (.exit 0)) (.seq (.block 1 (Jqsg p)) (.region [⟨(some 23), (.bin .add (.t 13) (.c (.d (.int .i64 1)))), none, false⟩, ⟨(some 13), (.mov (.t 23)), none, false⟩] [])))) := eqi
@[simp] def Jqsm (p : Nums) : List IOp := [qo 24 (.faddr 1 (.t 3)), qo 25 (.load (some 4) (.t 24)), qo 26 (.mov (.t 1)), qo 27 (.mov (.t 2)), qo 28 (.call p.source_Term [(.t 25), (.t 26), (.t 27)]), qo 6 (.asg (.t 28))]
def Jqsi (p : Nums) : IC := (.region (Jqsm p) [])
@[simp] theorem Jesi {p : Nums} : EqI (Jqsi p) (.region (Jqsm p) []) := eqi
def Jtcz (p : Nums) : IC := (.seq (.region [⟨(some 3), (.box (.t 0)), none, false⟩, ⟨(some 6), (.asg (.c (.d (.int .i64 0)))), none, false⟩] []) (.seq (.seq (Jqsc p) (.block 0 (.loop (Jqsh p)))) (.seq (Jqsi p) .ret)))
@[simp] def Jqb8 (p : Nums) : List IOp := [qo 2 (.box (.t 0)), qo 3 (.box (.t 1)), qo 4 (.asg (ci 0))]
def Jqaw (p : Nums) : IC := (.region (Jqb8 p) [])
@[simp] theorem Jeaw {p : Nums} : EqI (Jqaw p) (.region (Jqb8 p) []) := eqi
@[simp] def Jqba (p : Nums) : List IOp := [qo 9 (.faddr 0 (.t 3)), qo 10 (.load none (.t 9)), qo 11 (.len (.t 10)), qo 12 (.mov (ci 0))]
def Jqb0 (p : Nums) : IC := (.region (Jqba p) [])
@[simp] theorem Jeb0 {p : Nums} : EqI (Jqb0 p) (.region (Jqba p) []) := eqi
@[simp] def Jqbb (p : Nums) : List IOp := [qo 14 (.iaddr 7 (.t 10) (.t 12)), qo 15 (.load (some 7) (.t 14)), qo 7 (.alloc [(zi 0), (zi 0), (zi 0), (zi 0), (zi 0), (zi 0), (zi 0)]), qn (.store 7 (.t 7) (.t 15))]
def Jqb1 (p : Nums) : IC := (.region (Jqbb p) [])
@[simp] theorem Jeb1 {p : Nums} : EqI (Jqb1 p) (.region (Jqbb p) []) := eqi
@[simp] def Jqbc (p : Nums) : List IOp := [qo 16 (.load (some 7) (.t 7)), qo 17 (.faddr 1 (.t 2)), qo 18 (.load none (.t 17)), qo 19 (.faddr 2 (.t 2)), qo 20 (.load none (.t 19)), qo 21 (.call p.machine_Instr [(.t 16), (.t 18), (.t 20)]), qo 8 (.asg (.t 21))]
def Jqb2 (p : Nums) : IC := (.region (Jqbc p) [])
@[simp] theorem Jeb2 {p : Nums} : EqI (Jqb2 p) (.region (Jqbc p) []) := eqi
def Jqb3 (p : Nums) : IC := (.seq (.region [⟨(some 24), (.mov (.t 8)), none, false⟩, ⟨(some 4), (.asg (.t 24)), none, false⟩] []) .ret)
@[simp] theorem Jeb3 {p : Nums} : EqI (Jqb3 p) (.seq (.region [⟨(some 24), (.mov (.t 8)), none, false⟩, ⟨(some 4), (.asg (.t 24)), none, false⟩] []) .ret) := eqi
@[simp] def Jqbd (p : Nums) : List IOp := [qo 25 (.mov (.t 5)), qo 26 (.bin .add (.t 25) (ci 1)), qo 5 (.asg (.t 26))]
def Jqb4 (p : Nums) : IC := (.region (Jqbd p) [])
@[simp] theorem Jeb4 {p : Nums} : EqI (Jqb4 p) (.region (Jqbd p) []) := eqi
@[simp] def Jqbe (p : Nums) : List IOp := [qo 27 (.faddr 0 (.t 7)), qo 28 (.load none (.t 27)), qo 29 (.bin .neq (.t 28) (ci 18))]
def Jqb5 (p : Nums) : IC := (.region (Jqbe p) [])
@[simp] theorem Jeb5 {p : Nums} : EqI (Jqb5 p) (.region (Jqbe p) []) := eqi
@[simp] def Jqbf (p : Nums) : List IOp := [qo 5 (.asg (ci 0))]
def Jqb6 (p : Nums) : IC := (.region (Jqbf p) [])
@[simp] theorem Jeb6 {p : Nums} : EqI (Jqb6 p) (.region (Jqbf p) []) := eqi
def Jqb7 (p : Nums) : IC := (.seq (.region [⟨(some 4), (.asg (.c (.d (.int .i64 15)))), none, false⟩] []) .ret)
@[simp] theorem Jeb7 {p : Nums} : EqI (Jqb7 p) (.seq (.region [⟨(some 4), (.asg (.c (.d (.int .i64 15)))), none, false⟩] []) .ret) := eqi
def Jqax (p : Nums) : IC := (.seq (Jqb1 p) (.seq (.seq (Jqb2 p) (.seq (.region [⟨(some 22), (.mov (.t 8)), none, false⟩, ⟨(some 23), (.bin .neq (.t 22) (.c (.d (.int .i64 0)))), none, false⟩] []) (.cond (.t 23) (Jqb3 p) .skip))) (.seq (Jqb4 p) (.seq (.seq (Jqb5 p) (.cond (.t 29) (Jqb6 p) .skip)) (.seq (.region [⟨(some 30), (.mov (.t 5)), none, false⟩, ⟨(some 31), (.bin .gtr (.t 30) (.c (.d (.int .i64 64)))), none, false⟩] []) (.cond (.t 31) (Jqb7 p) .skip))))))
@[simp] theorem Jeax {p : Nums} : EqI (Jqax p) (.seq (Jqb1 p) (.seq (.seq (Jqb2 p) (.seq (.region [⟨(some 22), (.mov (.t 8)), none, false⟩, ⟨(some 23), (.bin .neq (.t 22) (.c (.d (.int .i64 0)))), none, false⟩] []) (.cond (.t 23) (Jqb3 p) .skip))) (.seq (Jqb4 p) (.seq (.seq (Jqb5 p) (.cond (.t 29) (Jqb6 p) .skip)) (.seq (.region [⟨(some 30), (.mov (.t 5)), none, false⟩, ⟨(some 31), (.bin .gtr (.t 30) (.c (.d (.int .i64 64)))), none, false⟩] []) (.cond (.t 31) (Jqb7 p) .skip)))))) := eqi
def Jqay (p : Nums) : IC := (.seq (.region [⟨(some 13), (.bin .lss (.t 12) (.t 11)), none, false⟩] []) (.seq (.cond (.t 13) .skip (.exit 0)) (.seq (.block 1 (Jqax p)) (.region [⟨(some 32), (.bin .add (.t 12) (.c (.d (.int .i64 1)))), none, false⟩, ⟨(some 12), (.mov (.t 32)), none, false⟩] []))))
@[simp] theorem Jeay {p : Nums} : EqI (Jqay p) (.seq (.region [⟨(some 13), (.bin .lss (.t 12) (.t 11)), none, false⟩] []) (.seq (.cond (.t 13) .skip (.exit 0)) (.seq (.block 1 (Jqax p)) (.region [⟨(some 32), (.bin .add (.t 12) (.c (.d (.int .i64 1)))), none, false⟩, ⟨(some 12), (.mov (.t 32)), none, false⟩] [])))) := eqi
@[simp] def Jqb9 (p : Nums) : List IOp := [qo 33 (.faddr 1 (.t 3)), qo 34 (.load (some 4) (.t 33)), qo 35 (.faddr 1 (.t 2)), qo 36 (.load none (.t 35)), qo 37 (.faddr 3 (.t 2)), qo 38 (.load none (.t 37)), qo 39 (.len (.t 38)), qo 40 (.call p.source_Term [(.t 34), (.t 36), (.t 39)]), qo 4 (.asg (.t 40))]
def Jqaz (p : Nums) : IC := (.region (Jqb9 p) [])
@[simp] theorem Jeaz {p : Nums} : EqI (Jqaz p) (.region (Jqb9 p) []) := eqi
def Jtbb (p : Nums) : IC := (.seq (Jqaw p) (.seq (.region [⟨(some 5), (.asg (.c (.d (.int .i64 0)))), none, false⟩] []) (.seq (.seq (Jqb0 p) (.block 0 (.loop (Jqay p)))) (.seq (Jqaz p) .ret))))
@[simp] def Jq7j (p : Nums) : List IOp := [qo 6 (.mov (.t 0)), qo 7 (.len (.t 6)), qo 8 (.mov (ci 0))]
def Jq7f (p : Nums) : IC := (.region (Jq7j p) [])
@[simp] theorem Je7f {p : Nums} : EqI (Jq7f p) (.region (Jq7j p) []) := eqi
@[simp] def Jq7k (p : Nums) : List IOp := [qo 10 (.iaddr 1 (.t 6) (.t 8)), qo 11 (.load none (.t 10)), qo 5 (.asg (.t 11))]
def Jq7g (p : Nums) : IC := (.region (Jq7k p) [])
@[simp] theorem Je7g {p : Nums} : EqI (Jq7g p) (.region (Jq7k p) []) := eqi
@[simp] def Jq7l (p : Nums) : List IOp := [qo 12 (.mov (.t 3)), qo 13 (.mov (.t 5)), qo 14 (.len (.t 13)), qo 15 (.bin .add (.t 12) (.t 14)), qo 3 (.asg (.t 15))]
def Jq7h (p : Nums) : IC := (.region (Jq7l p) [])
@[simp] theorem Je7h {p : Nums} : EqI (Jq7h p) (.region (Jq7l p) []) := eqi
def Jq7i (p : Nums) : IC := (.seq (.region [⟨(some 9), (.bin .lss (.t 8) (.t 7)), none, false⟩] []) (.seq (.cond (.t 9) .skip (.exit 0)) (.seq (.block 1 (.seq (Jq7g p) (Jq7h p))) (.region [⟨(some 16), (.bin .add (.t 8) (.c (.d (.int .i64 1)))), none, false⟩, ⟨(some 8), (.mov (.t 16)), none, false⟩] []))))
@[simp] theorem Je7i {p : Nums} : EqI (Jq7i p) (.seq (.region [⟨(some 9), (.bin .lss (.t 8) (.t 7)), none, false⟩] []) (.seq (.cond (.t 9) .skip (.exit 0)) (.seq (.block 1 (.seq (Jq7g p) (Jq7h p))) (.region [⟨(some 16), (.bin .add (.t 8) (.c (.d (.int .i64 1)))), none, false⟩, ⟨(some 8), (.mov (.t 16)), none, false⟩] [])))) := eqi
def Jtb0 (p : Nums) : IC := (.seq (.region [⟨(some 2), (.asg (.c (.d (.int .i64 0)))), none, false⟩] []) (.seq (.region [⟨(some 3), (.asg (.c (.d (.int .i64 0)))), none, false⟩] []) (.seq (.seq (Jq7f p) (.block 0 (.loop (Jq7i p)))) (.seq (.region [⟨(some 17), (.mov (.t 3)), none, false⟩, ⟨(some 2), (.asg (.t 17)), none, false⟩] []) .ret))))
@[simp] def Jq7a (p : Nums) : List IOp := [qo 11 (.mov (.t 0)), qo 12 (.len (.t 11)), qo 13 (.mov (ci 0))]
def Jq6y (p : Nums) : IC := (.region (Jq7a p) [])
@[simp] theorem Je6y {p : Nums} : EqI (Jq6y p) (.region (Jq7a p) []) := eqi
@[simp] def Jq7b (p : Nums) : List IOp := [qo 15 (.mov (.t 13)), qo 16 (.iaddr 2 (.t 11) (.t 13)), qo 17 (.load (some 2) (.t 16)), qo 10 (.alloc [(zi 0), (zi 0)]), qo 9 (.asg (.t 15)), qn (.store 2 (.t 10) (.t 17))]
def Jq72 (p : Nums) : IC := (.region (Jq7b p) [])
@[simp] theorem Je72 {p : Nums} : EqI (Jq72 p) (.region (Jq7b p) []) := eqi
@[simp] def Jq7c (p : Nums) : List IOp := [qo 19 (.faddr 0 (.t 10)), qo 20 (.load none (.t 19)), qo 21 (.bin .lss (.t 20) (ci 0)), qo 22 (.mov (.t 21)), ⟨(some 23), (.faddr 0 (.t 10)), (some (22, false)), false⟩, ⟨(some 24), (.load none (.t 23)), (some (22, false)), false⟩, ⟨(some 25), (.mov (.t 1)), (some (22, false)), false⟩, ⟨(some 26), (.bin .geq (.t 24) (.t 25)), (some (22, false)), false⟩, qo 27 (.pick (.t 22) (.c (.d (.bool true))) (.t 26)), qo 18 (.asg (.t 27))]
def Jq73 (p : Nums) : IC := (.region (Jq7c p) [])
@[simp] theorem Je73 {p : Nums} : EqI (Jq73 p) (.region (Jq7c p) []) := eqi
@[simp] def Jq7d (p : Nums) : List IOp := [qo 29 (.faddr 1 (.t 10)), qo 30 (.load none (.t 29)), qo 31 (.mov (.t 2)), qo 32 (.mov (.t 3)), qo 33 (.call p.location_InRange [(.t 30), (.t 31), (.t 32)]), qo 34 (.un .not (.t 33)), qo 28 (.asg (.t 34))]
def Jq74 (p : Nums) : IC := (.region (Jq7d p) [])
@[simp] theorem Je74 {p : Nums} : EqI (Jq74 p) (.region (Jq7d p) []) := eqi
@[simp] def Jq7e (p : Nums) : List IOp := [qo 36 (.mov (.t 9)), qo 37 (.bin .gtr (.t 36) (ci 0)), qo 38 (.mov (.t 37)), ⟨(some 39), (.mov (.t 0)), (some (38, true)), true⟩, ⟨(some 40), (.mov (.t 9)), (some (38, true)), true⟩, ⟨(some 41), (.bin .sub (.t 40) (ci 1)), (some (38, true)), true⟩, ⟨(some 42), (.iaddr 2 (.t 39) (.t 41)), (some (38, true)), true⟩, ⟨(some 43), (.load (some 2) (.t 42)), (some (38, true)), true⟩, ⟨(some 44), (.load (some 2) (.t 10)), (some (38, true)), true⟩, ⟨(some 45), (.call p.pairset_Less [(.t 43), (.t 44)]), (some (38, true)), false⟩, ⟨(some 46), (.un .not (.t 45)), (some (38, true)), false⟩, qo 47 (.pick (.t 38) (.t 46) (.c (.d (.bool false)))), qo 35 (.asg (.t 47))]
def Jq75 (p : Nums) : IC := (.region (Jq7e p) [])
@[simp] theorem Je75 {p : Nums} : EqI (Jq75 p) (.region (Jq7e p) []) := eqi
def Jq76 (p : Nums) : IC := (.seq (.region [⟨(some 8), (.asg (.c (.d (.int .i64 13)))), none, false⟩] []) .ret)
@[simp] theorem Je76 {p : Nums} : EqI (Jq76 p) (.seq (.region [⟨(some 8), (.asg (.c (.d (.int .i64 13)))), none, false⟩] []) .ret) := eqi
def Jq77 (p : Nums) : IC := (.seq (.region [⟨(some 8), (.asg (.c (.d (.int .i64 10)))), none, false⟩] []) .ret)
@[simp] theorem Je77 {p : Nums} : EqI (Jq77 p) (.seq (.region [⟨(some 8), (.asg (.c (.d (.int .i64 10)))), none, false⟩] []) .ret) := eqi
def Jq78 (p : Nums) : IC := (.seq (Jq75 p) (.cond (.t 35) (Jq76 p) .skip))
@[simp] theorem Je78 {p : Nums} : EqI (Jq78 p) (.seq (Jq75 p) (.cond (.t 35) (Jq76 p) .skip)) := eqi
def Jq79 (p : Nums) : IC := (.seq (.region [⟨(some 8), (.asg (.c (.d (.int .i64 9)))), none, false⟩] []) .ret)
@[simp] theorem Je79 {p : Nums} : EqI (Jq79 p) (.seq (.region [⟨(some 8), (.asg (.c (.d (.int .i64 9)))), none, false⟩] []) .ret) := eqi
def Jq6z (p : Nums) : IC := (.seq (Jq74 p) (.cond (.t 28) (Jq77 p) (Jq78 p)))
@[simp] theorem Je6z {p : Nums} : EqI (Jq6z p) (.seq (Jq74 p) (.cond (.t 28) (Jq77 p) (Jq78 p))) := eqi
def Jq70 (p : Nums) : IC := (.seq (Jq73 p) (.cond (.t 18) (Jq79 p) (Jq6z p)))
@[simp] theorem Je70 {p : Nums} : EqI (Jq70 p) (.seq (Jq73 p) (.cond (.t 18) (Jq79 p) (Jq6z p))) := eqi
def Jq71 (p : Nums) : IC := (.seq (.region [⟨(some 14), (.bin .lss (.t 13) (.t 12)), none, false⟩] []) (.seq (.cond (.t 14) .skip (.exit 0)) (.seq (.block 1 (.seq (Jq72 p) (.block 2 (Jq70 p)))) (.region [⟨(some 48), (.bin .add (.t 13) (.c (.d (.int .i64 1)))), none, false⟩, ⟨(some 13), (.mov (.t 48)), none, false⟩] []))))
@[simp] theorem Je71 {p : Nums} : EqI (Jq71 p) (.seq (.region [⟨(some 14), (.bin .lss (.t 13) (.t 12)), none, false⟩] []) (.seq (.cond (.t 14) .skip (.exit 0)) (.seq (.block 1 (.seq (Jq72 p) (.block 2 (Jq70 p)))) (.region [⟨(some 48), (.bin .add (.t 13) (.c (.d (.int .i64 1)))), none, false⟩, ⟨(some 13), (.mov (.t 48)), none, false⟩] [])))) := eqi
def Jtaz (p : Nums) : IC := (.seq (.region [⟨(some 8), (.asg (.c (.d (.int .i64 0)))), none, false⟩] []) (.seq (.seq (Jq6y p) (.block 0 (.loop (Jq71 p)))) (.seq (.region [⟨(some 8), (.asg (.c (.d (.int .i64 0)))), none, false⟩] []) .ret)))
@[simp] def Jqii (p : Nums) : List IOp := [qo 2 (.box (.t 0)), qo 3 (.box (.t 1)), qo 4 (.asg (.c (.d (.bool false))))]
def Jqie (p : Nums) : IC := (.region (Jqii p) [])
@[simp] theorem Jeie {p : Nums} : EqI (Jqie p) (.region (Jqii p) []) := eqi
@[simp] def Jqij (p : Nums) : List IOp := [qo 5 (.faddr 0 (.t 2)), qo 6 (.load none (.t 5)), qo 7 (.faddr 0 (.t 3)), qo 8 (.load none (.t 7)), qo 9 (.bin .neq (.t 6) (.t 8))]
def Jqif (p : Nums) : IC := (.region (Jqij p) [])
@[simp] theorem Jeif {p : Nums} : EqI (Jqif p) (.region (Jqij p) []) := eqi
@[simp] def Jqik (p : Nums) : List IOp := [qo 10 (.faddr 0 (.t 2)), qo 11 (.load none (.t 10)), qo 12 (.faddr 0 (.t 3)), qo 13 (.load none (.t 12)), qo 14 (.bin .lss (.t 11) (.t 13)), qo 4 (.asg (.t 14))]
def Jqig (p : Nums) : IC := (.region (Jqik p) [])
@[simp] theorem Jeig {p : Nums} : EqI (Jqig p) (.region (Jqik p) []) := eqi
@[simp] def Jqil (p : Nums) : List IOp := [qo 15 (.faddr 1 (.t 2)), qo 16 (.load none (.t 15)), qo 17 (.faddr 1 (.t 3)), qo 18 (.load none (.t 17)), qo 19 (.bin .lss (.t 16) (.t 18)), qo 4 (.asg (.t 19))]
def Jqih (p : Nums) : IC := (.region (Jqil p) [])
@[simp] theorem Jeih {p : Nums} : EqI (Jqih p) (.region (Jqil p) []) := eqi
def Jtca (p : Nums) : IC := (.seq (Jqie p) (.seq (.seq (Jqif p) (.cond (.t 9) (.seq (Jqig p) .ret) .skip)) (.seq (Jqih p) .ret)))
@[simp] def Jq5x (p : Nums) : List IOp := [qo 4 (.alloc [(zi 0), (zi 0)]), qo 5 (.asg (ci 0))]
def Jq5p (p : Nums) : IC := (.region (Jq5x p) [])
@[simp] theorem Je5p {p : Nums} : EqI (Jq5p p) (.region (Jq5x p) []) := eqi
@[simp] def Jq5y (p : Nums) : List IOp := [qo 8 (.mov (.t 0)), qo 9 (.len (.t 8)), qo 10 (.mov (ci 0))]
def Jq5q (p : Nums) : IC := (.region (Jq5y p) [])
@[simp] theorem Je5q {p : Nums} : EqI (Jq5q p) (.region (Jq5y p) []) := eqi
@[simp] def Jq5z (p : Nums) : List IOp := [qo 12 (.iaddr 2 (.t 8) (.t 10)), qo 13 (.load (some 2) (.t 12)), qo 7 (.alloc [(zi 0), (zi 0)]), qn (.store 2 (.t 7) (.t 13))]
def Jq5r (p : Nums) : IC := (.region (Jq5z p) [])
@[simp] theorem Je5r {p : Nums} : EqI (Jq5r p) (.region (Jq5z p) []) := eqi
@[simp] def Jq60 (p : Nums) : List IOp := [qo 14 (.load (some 2) (.t 7)), qo 15 (.mov (.t 1)), qo 16 (.call p.edge_Initial [(.t 14), (.t 15)]), qo 17 (.un .not (.t 16))]
def Jq5s (p : Nums) : IC := (.region (Jq60 p) [])
@[simp] theorem Je5s {p : Nums} : EqI (Jq5s p) (.region (Jq60 p) []) := eqi
@[simp] def Jq61 (p : Nums) : List IOp := [qo 18 (.load (some 2) (.t 7)), qn (.store 2 (.t 4) (.t 18)), qo 5 (.asg (ci 23))]
def Jq5t (p : Nums) : IC := (.region (Jq61 p) [])
@[simp] theorem Je5t {p : Nums} : EqI (Jq5t p) (.region (Jq61 p) []) := eqi
def Jq5u (p : Nums) : IC := (.seq (Jq5r p) (.seq (Jq5s p) (.cond (.t 17) (.seq (Jq5t p) .ret) .skip)))
@[simp] theorem Je5u {p : Nums} : EqI (Jq5u p) (.seq (Jq5r p) (.seq (Jq5s p) (.cond (.t 17) (.seq (Jq5t p) .ret) .skip))) := eqi
def Jq5v (p : Nums) : IC := (.seq (.region [⟨(some 11), (.bin .lss (.t 10) (.t 9)), none, false⟩] []) (.seq (.cond (.t 11) .skip (.exit 0)) (.seq (.block 1 (Jq5u p)) (.region [⟨(some 19), (.bin .add (.t 10) (.c (.d (.int .i64 1)))), none, false⟩, ⟨(some 10), (.mov (.t 19)), none, false⟩] []))))
@[simp] theorem Je5v {p : Nums} : EqI (Jq5v p) (.seq (.region [⟨(some 11), (.bin .lss (.t 10) (.t 9)), none, false⟩] []) (.seq (.cond (.t 11) .skip (.exit 0)) (.seq (.block 1 (Jq5u p)) (.region [⟨(some 19), (.bin .add (.t 10) (.c (.d (.int .i64 1)))), none, false⟩, ⟨(some 10), (.mov (.t 19)), none, false⟩] [])))) := eqi
@[simp] def Jq62 (p : Nums) : List IOp := [qo 20 (.build [(zi 0), (zi 0)] []), qn (.store 2 (.t 4) (.t 20)), qo 5 (.asg (ci 0))]
def Jq5w (p : Nums) : IC := (.region (Jq62 p) [])
@[simp] theorem Je5w {p : Nums} : EqI (Jq5w p) (.region (Jq62 p) []) := eqi
def Jtav (p : Nums) : IC := (.seq (Jq5p p) (.seq (.seq (Jq5q p) (.block 0 (.loop (Jq5v p)))) (.seq (Jq5w p) .ret)))
@[simp] def Jqc (p : Nums) : List IOp := [qo 4 (.asg (.c .nils)), qo 5 (.asg (ci 0)), qo 6 (.asg (ci 0))]
def Jq0 (p : Nums) : IC := (.region (Jqc p) [])
@[simp] theorem Je0 {p : Nums} : EqI (Jq0 p) (.region (Jqc p) []) := eqi
@[simp] def Jqf (p : Nums) : List IOp := [qo 11 (.mov (.t 8)), qo 12 (.mov (.t 0)), qo 13 (.mov (.t 8)), qo 14 (.call p.align_skip_Instr [(.t 12), (.t 13), (.c (.fn (.func p.align_copied) [] []))]), qo 15 (.mov (.t 9)), qo 16 (.mov (.t 1)), qo 17 (.mov (.t 9)), qo 18 (.call p.align_skip_Mach [(.t 16), (.t 17), (.c (.fn (.func p.align_moved) [] []))]), qo 19 (.build [(zi 0), (zi 0), (zi 0), (zi 0), (zi 0), (zi 0)] [(0, 1, (.t 11)), (1, 1, (.t 14)), (2, 1, (.t 15)), (3, 1, (.t 18))]), qo 10 (.alloc [(zi 0), (zi 0), (zi 0), (zi 0), (zi 0), (zi 0)]), qn (.store 6 (.t 10) (.t 19))]
def Jq4 (p : Nums) : IC := (.region (Jqf p) [])
@[simp] theorem Je4 {p : Nums} : EqI (Jq4 p) (.region (Jqf p) []) := eqi
@[simp] def Jqg (p : Nums) : List IOp := [qp 20 (.faddr 1 (.t 10)), qp 21 (.load none (.t 20)), qp 22 (.faddr 3 (.t 10)), qp 23 (.load none (.t 22)), qp 8 (.asg (.t 21)), qo 9 (.asg (.t 23))]
def Jq5 (p : Nums) : IC := (.region (Jqg p) [])
@[simp] theorem Je5 {p : Nums} : EqI (Jq5 p) (.region (Jqg p) []) := eqi
@[simp] def Jqh (p : Nums) : List IOp := [qo 24 (.mov (.t 8)), qo 25 (.mov (.t 0)), qo 26 (.len (.t 25)), qo 27 (.bin .eql (.t 24) (.t 26)), qo 28 (.mov (.t 27)), ⟨(some 29), (.mov (.t 9)), (some (28, true)), false⟩, ⟨(some 30), (.mov (.t 1)), (some (28, true)), false⟩, ⟨(some 31), (.len (.t 30)), (some (28, true)), false⟩, ⟨(some 32), (.bin .eql (.t 29) (.t 31)), (some (28, true)), false⟩, qo 33 (.pick (.t 28) (.t 32) (.c (.d (.bool false))))]
def Jq6 (p : Nums) : IC := (.region (Jqh p) [])
@[simp] theorem Je6 {p : Nums} : EqI (Jq6 p) (.region (Jqh p) []) := eqi
@[simp] def Jqi (p : Nums) : List IOp := [qo 34 (.faddr 4 (.t 10)), qn (.store 1 (.t 34) (ci (-1))), qo 35 (.faddr 5 (.t 10)), qn (.store 1 (.t 35) (ci (-1)))]
def Jq7 (p : Nums) : IC := (.region (Jqi p) [])
@[simp] theorem Je7 {p : Nums} : EqI (Jq7 p) (.region (Jqi p) []) := eqi
@[simp] def Jqj (p : Nums) : List IOp := [qo 36 (.mov (.t 7)), qo 37 (.load (some 6) (.t 10)), qo 38 (.bslice 6 1 [(.int .i64 0), (.int .i64 0), (.int .i64 0), (.int .i64 0), (.int .i64 0), (.int .i64 0)] [(0, (.t 37))]), qo 39 (.app 6 48 (.t 36) (.t 38)), qo 40 (.mov (.t 9)), qo 4 (.asg (.t 39)), qo 5 (.asg (.t 40)), qo 6 (.asg (ci 0))]
def Jq8 (p : Nums) : IC := (.region (Jqj p) [])
@[simp] theorem Je8 {p : Nums} : EqI (Jq8 p) (.region (Jqj p) []) := eqi
@[simp] def Jqk (p : Nums) : List IOp := [qp 41 (.mov (.t 8)), qp 42 (.mov (.t 0)), qp 43 (.len (.t 42)), qo 44 (.bin .eql (.t 41) (.t 43)), qo 45 (.mov (.t 44)), ⟨(some 46), (.mov (.t 9)), (some (45, false)), true⟩, ⟨(some 47), (.mov (.t 1)), (some (45, false)), true⟩, ⟨(some 48), (.len (.t 47)), (some (45, false)), true⟩, ⟨(some 49), (.bin .eql (.t 46) (.t 48)), (some (45, false)), false⟩, qo 50 (.pick (.t 45) (.c (.d (.bool true))) (.t 49)), qo 51 (.mov (.t 50)), ⟨(some 52), (.mov (.t 0)), (some (51, false)), true⟩, ⟨(some 53), (.mov (.t 8)), (some (51, false)), true⟩, ⟨(some 54), (.iaddr 5 (.t 52) (.t 53)), (some (51, false)), true⟩, ⟨(some 55), (.load (some 5) (.t 54)), (some (51, false)), true⟩, ⟨(some 56), (.mov (.t 1)), (some (51, false)), true⟩, ⟨(some 57), (.mov (.t 9)), (some (51, false)), true⟩, ⟨(some 58), (.iaddr 7 (.t 56) (.t 57)), (some (51, false)), true⟩, ⟨(some 59), (.load (some 7) (.t 58)), (some (51, false)), true⟩, ⟨(some 60), (.call p.align_Same [(.t 55), (.t 59)]), (some (51, false)), false⟩, ⟨(some 61), (.un .not (.t 60)), (some (51, false)), false⟩, qo 62 (.pick (.t 51) (.c (.d (.bool true))) (.t 61))]
def Jq9 (p : Nums) : IC := (.region (Jqk p) [])
@[simp] theorem Je9 {p : Nums} : EqI (Jq9 p) (.region (Jqk p) []) := eqi
@[simp] def Jql (p : Nums) : List IOp := [qo 63 (.mov (.t 9)), qo 4 (.asg (.c .nils)), qo 5 (.asg (.t 63)), qo 6 (.asg (ci 20))]
def Jqa (p : Nums) : IC := (.region (Jql p) [])
@[simp] theorem Jea {p : Nums} : EqI (Jqa p) (.region (Jql p) []) := eqi
@[simp] def Jqm (p : Nums) : List IOp := [qo 64 (.mov (.t 8)), qo 65 (.mov (.t 9)), qo 66 (.faddr 4 (.t 10)), qn (.store 1 (.t 66) (.t 64)), qo 67 (.faddr 5 (.t 10)), qn (.store 1 (.t 67) (.t 65))]
def Jqb (p : Nums) : IC := (.region (Jqm p) [])
@[simp] theorem Jeb {p : Nums} : EqI (Jqb p) (.region (Jqm p) []) := eqi
@[simp] def Jqd (p : Nums) : List IOp := [qo 68 (.mov (.t 7)), qo 69 (.load (some 6) (.t 10)), qo 70 (.bslice 6 1 [(.int .i64 0), (.int .i64 0), (.int .i64 0), (.int .i64 0), (.int .i64 0), (.int .i64 0)] [(0, (.t 69))]), qo 71 (.app 6 48 (.t 68) (.t 70)), qo 7 (.asg (.t 71))]
def Jq1 (p : Nums) : IC := (.region (Jqd p) [])
@[simp] theorem Je1 {p : Nums} : EqI (Jq1 p) (.region (Jqd p) []) := eqi
@[simp] def Jqe (p : Nums) : List IOp := [qo 72 (.mov (.t 8)), qo 73 (.bin .add (.t 72) (ci 1)), qo 74 (.mov (.t 9)), qo 75 (.bin .add (.t 74) (ci 1)), qo 8 (.asg (.t 73)), qo 9 (.asg (.t 75))]
def Jq2 (p : Nums) : IC := (.region (Jqe p) [])
@[simp] theorem Je2 {p : Nums} : EqI (Jq2 p) (.region (Jqe p) []) := eqi
def Jq3 (p : Nums) : IC := (.seq (Jq4 p) (.seq (Jq5 p) (.seq (.seq (Jq6 p) (.cond (.t 33) (.seq (Jq7 p) (.seq (Jq8 p) .ret)) .skip)) (.seq (.seq (Jq9 p) (.cond (.t 62) (.seq (Jqa p) .ret) .skip)) (.seq (Jqb p) (.seq (Jq1 p) (Jq2 p)))))))
@[simp] theorem Je3 {p : Nums} : EqI (Jq3 p) (.seq (Jq4 p) (.seq (Jq5 p) (.seq (.seq (Jq6 p) (.cond (.t 33) (.seq (Jq7 p) (.seq (Jq8 p) .ret)) .skip)) (.seq (.seq (Jq9 p) (.cond (.t 62) (.seq (Jqa p) .ret) .skip)) (.seq (Jqb p) (.seq (Jq1 p) (Jq2 p))))))) := eqi
def Jtab (p : Nums) : IC := (.seq (Jq0 p) (.seq (.region [⟨(some 7), (.asg (.c .nils)), none, false⟩] []) (.seq (.region [⟨(some 8), (.asg (.c (.d (.int .i64 0)))), none, false⟩, ⟨(some 9), (.asg (.c (.d (.int .i64 0)))), none, false⟩] []) (.block 0 (.loop (.block 1 (Jq3 p)))))))
@[simp] def Jqt (p : Nums) : List IOp := [qo 2 (.box (.t 0)), qo 3 (.box (.t 1)), qo 4 (.asg (.c (.d (.bool false))))]
def Jqr (p : Nums) : IC := (.region (Jqt p) [])
@[simp] theorem Jer {p : Nums} : EqI (Jqr p) (.region (Jqt p) []) := eqi
@[simp] def Jqu (p : Nums) : List IOp := [qo 5 (.faddr 0 (.t 2)), qo 6 (.load none (.t 5)), qo 7 (.faddr 0 (.t 3)), qo 8 (.load none (.t 7)), qo 9 (.bin .eql (.t 6) (.t 8)), qo 10 (.mov (.t 9)), ⟨(some 11), (.faddr 2 (.t 2)), (some (10, true)), false⟩, ⟨(some 12), (.load none (.t 11)), (some (10, true)), false⟩, ⟨(some 13), (.faddr 2 (.t 3)), (some (10, true)), false⟩, ⟨(some 14), (.load none (.t 13)), (some (10, true)), false⟩, ⟨(some 15), (.bin .eql (.t 12) (.t 14)), (some (10, true)), false⟩, qo 16 (.pick (.t 10) (.t 15) (.c (.d (.bool false)))), qo 17 (.mov (.t 16)), ⟨(some 18), (.faddr 3 (.t 2)), (some (17, true)), false⟩, ⟨(some 19), (.load none (.t 18)), (some (17, true)), false⟩, ⟨(some 20), (.faddr 3 (.t 3)), (some (17, true)), false⟩, ⟨(some 21), (.load none (.t 20)), (some (17, true)), false⟩, ⟨(some 22), (.bin .eql (.t 19) (.t 21)), (some (17, true)), false⟩, qo 23 (.pick (.t 17) (.t 22) (.c (.d (.bool false)))), qo 4 (.asg (.t 23))]
def Jqs (p : Nums) : IC := (.region (Jqu p) [])
@[simp] theorem Jes {p : Nums} : EqI (Jqs p) (.region (Jqu p) []) := eqi
def Jtad (p : Nums) : IC := (.seq (Jqr p) (.seq (Jqs p) .ret))
@[simp] def Jqdk (p : Nums) : List IOp := [qo 4 (.mov (.t 0)), qo 5 (.call p.slices_Clone_Pair [(.t 4)]), qo 3 (.asg (.t 5))]
def Jqdh (p : Nums) : IC := (.region (Jqdk p) [])
@[simp] theorem Jedh {p : Nums} : EqI (Jqdh p) (.region (Jqdk p) []) := eqi
@[simp] def Jqdl (p : Nums) : List IOp := [qo 6 (.mov (.t 3)), qo 7 (.call p.slices_SortFunc_Pair [(.t 6), (.c (.fn (.func p.pairset_compare) [] []))])]
def Jqdi (p : Nums) : IC := (.region (Jqdl p) [])
@[simp] theorem Jedi {p : Nums} : EqI (Jqdi p) (.region (Jqdl p) []) := eqi
@[simp] def Jqdm (p : Nums) : List IOp := [qo 8 (.mov (.t 3)), qo 9 (.call p.slices_Compact_Pair [(.t 8)]), qo 2 (.asg (.t 9))]
def Jqdj (p : Nums) : IC := (.region (Jqdm p) [])
@[simp] theorem Jedj {p : Nums} : EqI (Jqdj p) (.region (Jqdm p) []) := eqi
def Jtbt (p : Nums) : IC := (.seq (.region [⟨(some 2), (.asg (.c .nils)), none, false⟩] []) (.seq (Jqdh p) (.seq (Jqdi p) (.seq (Jqdj p) .ret))))
@[simp] def Jqdy (p : Nums) : List IOp := [qo 4 (.alloc [(zi 0), (zi 0)]), qo 5 (.asg (.c (.d (.bool false))))]
def Jqdn (p : Nums) : IC := (.region (Jqdy p) [])
@[simp] theorem Jedn {p : Nums} : EqI (Jqdn p) (.region (Jqdy p) []) := eqi
@[simp] def Jqe0 (p : Nums) : List IOp := [qo 9 (.mov (.t 0)), qo 10 (.len (.t 9)), qo 11 (.mov (ci 0))]
def Jqdq (p : Nums) : IC := (.region (Jqe0 p) [])
@[simp] theorem Jedq {p : Nums} : EqI (Jqdq p) (.region (Jqe0 p) []) := eqi
@[simp] def Jqe1 (p : Nums) : List IOp := [qo 13 (.iaddr 2 (.t 9) (.t 11)), qo 14 (.load (some 2) (.t 13)), qo 8 (.alloc [(zi 0), (zi 0)]), qn (.store 2 (.t 8) (.t 14))]
def Jqdr (p : Nums) : IC := (.region (Jqe1 p) [])
@[simp] theorem Jedr {p : Nums} : EqI (Jqdr p) (.region (Jqe1 p) []) := eqi
@[simp] def Jqe2 (p : Nums) : List IOp := [qp 15 (.mov (.t 6)), qp 16 (.mov (.t 1)), qp 17 (.len (.t 16)), qo 18 (.bin .lss (.t 15) (.t 17)), qo 19 (.mov (.t 18)), ⟨(some 20), (.mov (.t 1)), (some (19, true)), true⟩, ⟨(some 21), (.mov (.t 6)), (some (19, true)), true⟩, ⟨(some 22), (.iaddr 2 (.t 20) (.t 21)), (some (19, true)), true⟩, ⟨(some 23), (.load (some 2) (.t 22)), (some (19, true)), true⟩, ⟨(some 24), (.load (some 2) (.t 8)), (some (19, true)), true⟩, ⟨(some 25), (.call p.pairset_Less [(.t 23), (.t 24)]), (some (19, true)), false⟩, qo 26 (.pick (.t 19) (.t 25) (.c (.d (.bool false))))]
def Jqds (p : Nums) : IC := (.region (Jqe2 p) [])
@[simp] theorem Jeds {p : Nums} : EqI (Jqds p) (.region (Jqe2 p) []) := eqi
@[simp] def Jqe3 (p : Nums) : List IOp := [qo 27 (.mov (.t 6)), qo 28 (.bin .add (.t 27) (ci 1)), qo 6 (.asg (.t 28))]
def Jqdt (p : Nums) : IC := (.region (Jqe3 p) [])
@[simp] theorem Jedt {p : Nums} : EqI (Jqdt p) (.region (Jqe3 p) []) := eqi
def Jqdu (p : Nums) : IC := (.seq (.seq (Jqds p) (.cond (.t 26) .skip (.exit 2))) (.block 3 (Jqdt p)))
@[simp] theorem Jedu {p : Nums} : EqI (Jqdu p) (.seq (.seq (Jqds p) (.cond (.t 26) .skip (.exit 2))) (.block 3 (Jqdt p))) := eqi
@[simp] def Jqe4 (p : Nums) : List IOp := [qp 29 (.mov (.t 6)), qp 30 (.mov (.t 1)), qp 31 (.len (.t 30)), qo 32 (.bin .eql (.t 29) (.t 31)), qo 33 (.mov (.t 32)), ⟨(some 34), (.mov (.t 1)), (some (33, false)), true⟩, ⟨(some 35), (.mov (.t 6)), (some (33, false)), true⟩, ⟨(some 36), (.iaddr 2 (.t 34) (.t 35)), (some (33, false)), true⟩, ⟨(some 37), (.load (some 2) (.t 36)), (some (33, false)), true⟩, ⟨(some 38), (.load (some 2) (.t 8)), (some (33, false)), true⟩, ⟨(some 39), (.eqs true [.int, .int] (.t 37) (.t 38)), (some (33, false)), false⟩, qo 40 (.pick (.t 33) (.c (.d (.bool true))) (.t 39))]
def Jqdv (p : Nums) : IC := (.region (Jqe4 p) [])
@[simp] theorem Jedv {p : Nums} : EqI (Jqdv p) (.region (Jqe4 p) []) := eqi
@[simp] def Jqe5 (p : Nums) : List IOp := [qo 41 (.load (some 2) (.t 8)), qn (.store 2 (.t 4) (.t 41)), qo 5 (.asg (.c (.d (.bool true))))]
def Jqdw (p : Nums) : IC := (.region (Jqe5 p) [])
@[simp] theorem Jedw {p : Nums} : EqI (Jqdw p) (.region (Jqe5 p) []) := eqi
def Jqdx (p : Nums) : IC := (.seq (Jqdr p) (.seq (.block 2 (.loop (Jqdu p))) (.seq (Jqdv p) (.cond (.t 40) (.seq (Jqdw p) .ret) .skip))))
@[simp] theorem Jedx {p : Nums} : EqI (Jqdx p) (.seq (Jqdr p) (.seq (.block 2 (.loop (Jqdu p))) (.seq (Jqdv p) (.cond (.t 40) (.seq (Jqdw p) .ret) .skip)))) := eqi
def Jqdo (p : Nums) : IC := (.seq (.region [⟨(some 12), (.bin .lss (.t 11) (.t 10)), none, false⟩] []) (.seq (.cond (.t 12) .skip (.exit 0)) (.seq (.block 1 (Jqdx p)) (.region [⟨(some 42), (.bin .add (.t 11) (.c (.d (.int .i64 1)))), none, false⟩, ⟨(some 11), (.mov (.t 42)), none, false⟩] []))))
@[simp] theorem Jedo {p : Nums} : EqI (Jqdo p) (.seq (.region [⟨(some 12), (.bin .lss (.t 11) (.t 10)), none, false⟩] []) (.seq (.cond (.t 12) .skip (.exit 0)) (.seq (.block 1 (Jqdx p)) (.region [⟨(some 42), (.bin .add (.t 11) (.c (.d (.int .i64 1)))), none, false⟩, ⟨(some 11), (.mov (.t 42)), none, false⟩] [])))) := eqi
@[simp] def Jqdz (p : Nums) : List IOp := [qo 43 (.build [(zi 0), (zi 0)] []), qn (.store 2 (.t 4) (.t 43)), qo 5 (.asg (.c (.d (.bool false))))]
def Jqdp (p : Nums) : IC := (.region (Jqdz p) [])
@[simp] theorem Jedp {p : Nums} : EqI (Jqdp p) (.region (Jqdz p) []) := eqi
def Jtbu (p : Nums) : IC := (.seq (Jqdn p) (.seq (.region [⟨(some 6), (.asg (.c (.d (.int .i64 0)))), none, false⟩] []) (.seq (.seq (Jqdq p) (.block 0 (.loop (Jqdo p)))) (.seq (Jqdp p) .ret))))
@[simp] def Jql2 (p : Nums) : List IOp := [qo 5 (.mov (.t 4)), qo 6 (.mov (.t 0)), qo 7 (.len (.t 6)), qo 8 (.bin .lss (.t 5) (.t 7))]
def Jqkw (p : Nums) : IC := (.region (Jql2 p) [])
@[simp] theorem Jekw {p : Nums} : EqI (Jqkw p) (.region (Jql2 p) []) := eqi
@[simp] def Jql3 (p : Nums) : List IOp := [qo 11 (.mov (.t 0)), qo 12 (.mov (.t 4)), qo 13 (.iaddr 5 (.t 11) (.t 12)), qo 14 (.faddr 0 (.t 13)), qo 15 (.load none (.t 14)), qo 16 (.bin .neq (.t 15) (ci 2))]
def Jqkx (p : Nums) : IC := (.region (Jql3 p) [])
@[simp] theorem Jekx {p : Nums} : EqI (Jqkx p) (.region (Jql3 p) []) := eqi
@[simp] def Jql4 (p : Nums) : List IOp := [qo 17 (.mov (.t 3)), qo 18 (.mov (.t 4)), qo 19 (.bslice 1 1 [(.int .i64 0)] [(0, (.t 18))]), qo 20 (.app 1 8 (.t 17) (.t 19)), qo 3 (.asg (.t 20))]
def Jqky (p : Nums) : IC := (.region (Jql4 p) [])
@[simp] theorem Jeky {p : Nums} : EqI (Jqky p) (.region (Jql4 p) []) := eqi
def Jqkz (p : Nums) : IC := (.seq (Jqkx p) (.cond (.t 16) (Jqky p) .skip))
@[simp] theorem Jekz {p : Nums} : EqI (Jqkz p) (.seq (Jqkx p) (.cond (.t 16) (Jqky p) .skip)) := eqi
@[simp] def Jql5 (p : Nums) : List IOp := [qo 9 (.mov (.t 4)), qo 10 (.bin .add (.t 9) (ci 1)), qo 4 (.asg (.t 10))]
def Jql0 (p : Nums) : IC := (.region (Jql5 p) [])
@[simp] theorem Jel0 {p : Nums} : EqI (Jql0 p) (.region (Jql5 p) []) := eqi
def Jql1 (p : Nums) : IC := (.seq (.seq (Jqkw p) (.cond (.t 8) .skip (.exit 0))) (.seq (.block 1 (Jqkz p)) (Jql0 p)))
@[simp] theorem Jel1 {p : Nums} : EqI (Jql1 p) (.seq (.seq (Jqkw p) (.cond (.t 8) .skip (.exit 0))) (.seq (.block 1 (Jqkz p)) (Jql0 p))) := eqi
def Jtcg (p : Nums) : IC := (.seq (.region [⟨(some 2), (.asg (.c .nils)), none, false⟩] []) (.seq (.region [⟨(some 3), (.asg (.c .nils)), none, false⟩] []) (.seq (.seq (.region [⟨(some 4), (.asg (.c (.d (.int .i64 0)))), none, false⟩] []) (.block 0 (.loop (Jql1 p)))) (.seq (.region [⟨(some 21), (.mov (.t 3)), none, false⟩, ⟨(some 2), (.asg (.t 21)), none, false⟩] []) .ret))))
@[simp] def Jqlc (p : Nums) : List IOp := [qo 5 (.mov (.t 4)), qo 6 (.mov (.t 0)), qo 7 (.len (.t 6)), qo 8 (.bin .lss (.t 5) (.t 7))]
def Jql6 (p : Nums) : IC := (.region (Jqlc p) [])
@[simp] theorem Jel6 {p : Nums} : EqI (Jql6 p) (.region (Jqlc p) []) := eqi
@[simp] def Jqld (p : Nums) : List IOp := [qo 11 (.mov (.t 0)), qo 12 (.mov (.t 4)), qo 13 (.iaddr 7 (.t 11) (.t 12)), qo 14 (.faddr 0 (.t 13)), qo 15 (.load none (.t 14)), qo 16 (.bin .neq (.t 15) (ci 18))]
def Jql7 (p : Nums) : IC := (.region (Jqld p) [])
@[simp] theorem Jel7 {p : Nums} : EqI (Jql7 p) (.region (Jqld p) []) := eqi
@[simp] def Jqle (p : Nums) : List IOp := [qo 17 (.mov (.t 3)), qo 18 (.mov (.t 4)), qo 19 (.bslice 1 1 [(.int .i64 0)] [(0, (.t 18))]), qo 20 (.app 1 8 (.t 17) (.t 19)), qo 3 (.asg (.t 20))]
def Jql8 (p : Nums) : IC := (.region (Jqle p) [])
@[simp] theorem Jel8 {p : Nums} : EqI (Jql8 p) (.region (Jqle p) []) := eqi
def Jql9 (p : Nums) : IC := (.seq (Jql7 p) (.cond (.t 16) (Jql8 p) .skip))
@[simp] theorem Jel9 {p : Nums} : EqI (Jql9 p) (.seq (Jql7 p) (.cond (.t 16) (Jql8 p) .skip)) := eqi
@[simp] def Jqlf (p : Nums) : List IOp := [qo 9 (.mov (.t 4)), qo 10 (.bin .add (.t 9) (ci 1)), qo 4 (.asg (.t 10))]
def Jqla (p : Nums) : IC := (.region (Jqlf p) [])
@[simp] theorem Jela {p : Nums} : EqI (Jqla p) (.region (Jqlf p) []) := eqi
def Jqlb (p : Nums) : IC := (.seq (.seq (Jql6 p) (.cond (.t 8) .skip (.exit 0))) (.seq (.block 1 (Jql9 p)) (Jqla p)))
@[simp] theorem Jelb {p : Nums} : EqI (Jqlb p) (.seq (.seq (Jql6 p) (.cond (.t 8) .skip (.exit 0))) (.seq (.block 1 (Jql9 p)) (Jqla p))) := eqi
def Jtch (p : Nums) : IC := (.seq (.region [⟨(some 2), (.asg (.c .nils)), none, false⟩] []) (.seq (.region [⟨(some 3), (.asg (.c .nils)), none, false⟩] []) (.seq (.seq (.region [⟨(some 4), (.asg (.c (.d (.int .i64 0)))), none, false⟩] []) (.block 0 (.loop (Jqlb p)))) (.seq (.region [⟨(some 21), (.mov (.t 3)), none, false⟩, ⟨(some 2), (.asg (.t 21)), none, false⟩] []) .ret))))
@[simp] def Jqli (p : Nums) : List IOp := [qo 2 (.box (.t 0)), qo 3 (.box (.t 1)), qo 4 (.asg (.c (.d (.bool false))))]
def Jqlg (p : Nums) : IC := (.region (Jqli p) [])
@[simp] theorem Jelg {p : Nums} : EqI (Jqlg p) (.region (Jqli p) []) := eqi
@[simp] def Jqlj (p : Nums) : List IOp := [qo 5 (.faddr 0 (.t 2)), qo 6 (.load none (.t 5)), qo 7 (.bin .neq (.t 6) (ci 2)), qo 8 (.mov (.t 7)), ⟨(some 9), (.faddr 0 (.t 2)), (some (8, true)), false⟩, ⟨(some 10), (.load none (.t 9)), (some (8, true)), false⟩, ⟨(some 11), (.bin .neq (.t 10) (ci 18)), (some (8, true)), false⟩, qo 12 (.pick (.t 8) (.t 11) (.c (.d (.bool false)))), qo 13 (.mov (.t 12)), ⟨(some 14), (.faddr 0 (.t 2)), (some (13, true)), false⟩, ⟨(some 15), (.load none (.t 14)), (some (13, true)), false⟩, ⟨(some 16), (.faddr 0 (.t 3)), (some (13, true)), false⟩, ⟨(some 17), (.load none (.t 16)), (some (13, true)), false⟩, ⟨(some 18), (.bin .eql (.t 15) (.t 17)), (some (13, true)), false⟩, qo 19 (.pick (.t 13) (.t 18) (.c (.d (.bool false)))), qo 20 (.mov (.t 19)), ⟨(some 21), (.faddr 4 (.t 2)), (some (20, true)), false⟩, ⟨(some 22), (.load none (.t 21)), (some (20, true)), false⟩, ⟨(some 23), (.faddr 4 (.t 3)), (some (20, true)), false⟩, ⟨(some 24), (.load none (.t 23)), (some (20, true)), false⟩, ⟨(some 25), (.bin .eql (.t 22) (.t 24)), (some (20, true)), false⟩, qo 26 (.pick (.t 20) (.t 25) (.c (.d (.bool false)))), qo 4 (.asg (.t 26))]
def Jqlh (p : Nums) : IC := (.region (Jqlj p) [])
@[simp] theorem Jelh {p : Nums} : EqI (Jqlh p) (.region (Jqlj p) []) := eqi
def Jtci (p : Nums) : IC := (.seq (Jqlg p) (.seq (Jqlh p) .ret))
@[simp] def Jqhy (p : Nums) : List IOp := [qo 8 (.mov (.t 7)), qo 9 (.mov (.t 0)), qo 10 (.len (.t 9)), qo 11 (.bin .lss (.t 8) (.t 10))]
def Jqho (p : Nums) : IC := (.region (Jqhy p) [])
@[simp] theorem Jeho {p : Nums} : EqI (Jqho p) (.region (Jqhy p) []) := eqi
@[simp] def Jqi0 (p : Nums) : List IOp := [qo 14 (.mov (.t 6)), qo 15 (.un .not (.t 14)), qo 16 (.mov (.t 15)), ⟨(some 17), (.mov (.t 0)), (some (16, true)), true⟩, ⟨(some 18), (.mov (.t 7)), (some (16, true)), true⟩, ⟨(some 19), (.iaddr 2 (.t 17) (.t 18)), (some (16, true)), true⟩, ⟨(some 20), (.load (some 2) (.t 19)), (some (16, true)), true⟩, ⟨(some 21), (.load (some 2) (.t 3)), (some (16, true)), true⟩, ⟨(some 22), (.call p.ref11_Less [(.t 20), (.t 21)]), (some (16, true)), false⟩, ⟨(some 23), (.un .not (.t 22)), (some (16, true)), false⟩, qo 24 (.pick (.t 16) (.t 23) (.c (.d (.bool false))))]
def Jqhq (p : Nums) : IC := (.region (Jqi0 p) [])
@[simp] theorem Jehq {p : Nums} : EqI (Jqhq p) (.region (Jqi0 p) []) := eqi
@[simp] def Jqi1 (p : Nums) : List IOp := [qo 25 (.mov (.t 5)), qo 26 (.load (some 2) (.t 3)), qo 27 (.bslice 2 1 [(.int .i64 0), (.int .i64 0)] [(0, (.t 26))]), qo 28 (.app 2 16 (.t 25) (.t 27)), qo 5 (.asg (.t 28))]
def Jqhr (p : Nums) : IC := (.region (Jqi1 p) [])
@[simp] theorem Jehr {p : Nums} : EqI (Jqhr p) (.region (Jqi1 p) []) := eqi
def Jqhs (p : Nums) : IC := (.seq (Jqhr p) (.region [⟨(some 6), (.asg (.c (.d (.bool true)))), none, false⟩] []))
@[simp] theorem Jehs {p : Nums} : EqI (Jqhs p) (.seq (Jqhr p) (.region [⟨(some 6), (.asg (.c (.d (.bool true)))), none, false⟩] [])) := eqi
@[simp] def Jqi2 (p : Nums) : List IOp := [qp 29 (.mov (.t 0)), qp 30 (.mov (.t 7)), qp 31 (.iaddr 2 (.t 29) (.t 30)), qp 32 (.load (some 2) (.t 31)), qp 33 (.load (some 2) (.t 3)), qo 34 (.eqs true [.int, .int] (.t 32) (.t 33))]
def Jqht (p : Nums) : IC := (.region (Jqi2 p) [])
@[simp] theorem Jeht {p : Nums} : EqI (Jqht p) (.region (Jqi2 p) []) := eqi
@[simp] def Jqi3 (p : Nums) : List IOp := [qo 35 (.mov (.t 5)), qo 36 (.mov (.t 0)), qo 37 (.mov (.t 7)), qo 38 (.iaddr 2 (.t 36) (.t 37)), qo 39 (.load (some 2) (.t 38)), qo 40 (.bslice 2 1 [(.int .i64 0), (.int .i64 0)] [(0, (.t 39))]), qo 41 (.app 2 16 (.t 35) (.t 40)), qo 5 (.asg (.t 41))]
def Jqhu (p : Nums) : IC := (.region (Jqi3 p) [])
@[simp] theorem Jehu {p : Nums} : EqI (Jqhu p) (.region (Jqi3 p) []) := eqi
def Jqhv (p : Nums) : IC := (.seq (.seq (Jqhq p) (.cond (.t 24) (Jqhs p) .skip)) (.seq (Jqht p) (.cond (.t 34) (Jqhu p) .skip)))
@[simp] theorem Jehv {p : Nums} : EqI (Jqhv p) (.seq (.seq (Jqhq p) (.cond (.t 24) (Jqhs p) .skip)) (.seq (Jqht p) (.cond (.t 34) (Jqhu p) .skip))) := eqi
@[simp] def Jqi4 (p : Nums) : List IOp := [qo 12 (.mov (.t 7)), qo 13 (.bin .add (.t 12) (ci 1)), qo 7 (.asg (.t 13))]
def Jqhw (p : Nums) : IC := (.region (Jqi4 p) [])
@[simp] theorem Jehw {p : Nums} : EqI (Jqhw p) (.region (Jqi4 p) []) := eqi
def Jqhx (p : Nums) : IC := (.seq (.seq (Jqho p) (.cond (.t 11) .skip (.exit 0))) (.seq (.block 1 (Jqhv p)) (Jqhw p)))
@[simp] theorem Jehx {p : Nums} : EqI (Jqhx p) (.seq (.seq (Jqho p) (.cond (.t 11) .skip (.exit 0))) (.seq (.block 1 (Jqhv p)) (Jqhw p))) := eqi
@[simp] def Jqhz (p : Nums) : List IOp := [qo 44 (.mov (.t 5)), qo 45 (.load (some 2) (.t 3)), qo 46 (.bslice 2 1 [(.int .i64 0), (.int .i64 0)] [(0, (.t 45))]), qo 47 (.app 2 16 (.t 44) (.t 46)), qo 5 (.asg (.t 47))]
def Jqhp (p : Nums) : IC := (.region (Jqhz p) [])
@[simp] theorem Jehp {p : Nums} : EqI (Jqhp p) (.region (Jqhz p) []) := eqi
def Jtc8 (p : Nums) : IC := (.seq (.region [⟨(some 3), (.box (.t 1)), none, false⟩, ⟨(some 4), (.asg (.c .nils)), none, false⟩] []) (.seq (.region [⟨(some 5), (.asg (.c .nils)), none, false⟩] []) (.seq (.region [⟨(some 6), (.asg (.c (.d (.bool false)))), none, false⟩] []) (.seq (.seq (.region [⟨(some 7), (.asg (.c (.d (.int .i64 0)))), none, false⟩] []) (.block 0 (.loop (Jqhx p)))) (.seq (.seq (.region [⟨(some 42), (.mov (.t 6)), none, false⟩, ⟨(some 43), (.un .not (.t 42)), none, false⟩] []) (.cond (.t 43) (Jqhp p) .skip)) (.seq (.region [⟨(some 48), (.mov (.t 5)), none, false⟩, ⟨(some 4), (.asg (.t 48)), none, false⟩] []) .ret))))))
@[simp] def Jq9g (p : Nums) : List IOp := [qo 3 (.mov (.t 0)), qo 4 (.bin .mul (ci 2) (.t 3)), qo 5 (.bin .add (.t 4) (ci 1)), qo 2 (.asg (.t 5))]
def Jq9f (p : Nums) : IC := (.region (Jq9g p) [])
@[simp] theorem Je9f {p : Nums} : EqI (Jq9f p) (.region (Jq9g p) []) := eqi
def Jtb7 (p : Nums) : IC := (.seq (.region [⟨(some 2), (.asg (.c (.d (.int .i64 0)))), none, false⟩] []) (.seq (Jq9f p) .ret))
@[simp] def Jqr6 (p : Nums) : List IOp := [qo 9 (.faddr 0 (.t 2)), qo 10 (.load none (.t 9)), qo 11 (.call p.opcode_Of [(.t 10)]), qo 8 (.mov (.t 11)), qo 12 (.ext (.t 8) 0), qo 13 (.ext (.t 8) 1), qo 5 (.alloc [(.d (.bool false)), (.d (.bool false)), (.d (.bool false)), (.d (.bool false))]), qn (.store 4 (.t 5) (.t 12)), qo 6 (.asg (.t 13))]
def Jqqv (p : Nums) : IC := (.region (Jqr6 p) [])
@[simp] theorem Jeqv {p : Nums} : EqI (Jqqv p) (.region (Jqr6 p) []) := eqi
@[simp] def Jqr7 (p : Nums) : List IOp := [qo 14 (.faddr 1 (.t 2)), qo 15 (.load none (.t 14)), qo 16 (.faddr 0 (.t 5)), qo 17 (.load none (.t 16)), qo 18 (.mov (.t 1)), qo 19 (.build [(zi 0), (.d (.bool false)), (zi 0)] [(0, 1, (.t 15)), (1, 1, (.t 17)), (2, 1, (.t 18))]), qo 20 (.faddr 2 (.t 2)), qo 21 (.load none (.t 20)), qo 22 (.faddr 1 (.t 5)), qo 23 (.load none (.t 22)), qo 24 (.mov (.t 1)), qo 25 (.build [(zi 0), (.d (.bool false)), (zi 0)] [(0, 1, (.t 21)), (1, 1, (.t 23)), (2, 1, (.t 24))]), qo 26 (.faddr 3 (.t 2)), qo 27 (.load none (.t 26)), qo 28 (.faddr 2 (.t 5)), qo 29 (.load none (.t 28)), qo 30 (.mov (.t 1)), qo 31 (.build [(zi 0), (.d (.bool false)), (zi 0)] [(0, 1, (.t 27)), (1, 1, (.t 29)), (2, 1, (.t 30))]), qo 32 (.bslice 3 3 [(.int .i64 0), (.bool false), (.int .i64 0)] [(0, (.t 19)), (1, (.t 25)), (2, (.t 31))]), qo 7 (.asg (.t 32))]
def Jqqy (p : Nums) : IC := (.region (Jqr7 p) [])
@[simp] theorem Jeqy {p : Nums} : EqI (Jqqy p) (.region (Jqr7 p) []) := eqi
@[simp] def Jqr8 (p : Nums) : List IOp := [qo 34 (.faddr 0 (.t 2)), qo 35 (.load none (.t 34)), qo 36 (.call p.opcode_Source [(.t 35)]), qo 37 (.un .not (.t 36)), qo 33 (.asg (.t 37))]
def Jqqz (p : Nums) : IC := (.region (Jqr8 p) [])
@[simp] theorem Jeqz {p : Nums} : EqI (Jqqz p) (.region (Jqr8 p) []) := eqi
@[simp] def Jqr9 (p : Nums) : List IOp := [qo 39 (.mov (.t 7)), qo 40 (.call p.source_within [(.t 39)]), qo 41 (.un .not (.t 40)), qo 38 (.asg (.t 41))]
def Jqr0 (p : Nums) : IC := (.region (Jqr9 p) [])
@[simp] theorem Jer0 {p : Nums} : EqI (Jqr0 p) (.region (Jqr9 p) []) := eqi
@[simp] def Jqra (p : Nums) : List IOp := [qo 43 (.mov (.t 7)), qo 44 (.call p.source_blank [(.t 43)]), qo 45 (.un .not (.t 44)), qo 46 (.mov (.t 45)), ⟨(some 47), (.faddr 3 (.t 5)), (some (46, false)), false⟩, ⟨(some 48), (.load none (.t 47)), (some (46, false)), false⟩, ⟨(some 49), (.un .not (.t 48)), (some (46, false)), false⟩, ⟨(some 50), (.mov (.t 49)), (some (46, false)), false⟩, ⟨(some 51), (.faddr 4 (.t 2)), (some (50, true)), false⟩, ⟨(some 52), (.load none (.t 51)), (some (50, true)), false⟩, ⟨(some 53), (.bin .neq (.t 52) (ci 0)), (some (50, true)), false⟩, ⟨(some 54), (.pick (.t 50) (.t 53) (.c (.d (.bool false)))), (some (46, false)), false⟩, qo 55 (.pick (.t 46) (.c (.d (.bool true))) (.t 54)), qo 42 (.asg (.t 55))]
def Jqr1 (p : Nums) : IC := (.region (Jqra p) [])
@[simp] theorem Jer1 {p : Nums} : EqI (Jqr1 p) (.region (Jqra p) []) := eqi
def Jqr2 (p : Nums) : IC := (.seq (.region [⟨(some 4), (.asg (.c (.d (.int .i64 12)))), none, false⟩] []) .ret)
@[simp] theorem Jer2 {p : Nums} : EqI (Jqr2 p) (.seq (.region [⟨(some 4), (.asg (.c (.d (.int .i64 12)))), none, false⟩] []) .ret) := eqi
def Jqr3 (p : Nums) : IC := (.seq (.region [⟨(some 4), (.asg (.c (.d (.int .i64 9)))), none, false⟩] []) .ret)
@[simp] theorem Jer3 {p : Nums} : EqI (Jqr3 p) (.seq (.region [⟨(some 4), (.asg (.c (.d (.int .i64 9)))), none, false⟩] []) .ret) := eqi
def Jqr4 (p : Nums) : IC := (.seq (Jqr1 p) (.cond (.t 42) (Jqr2 p) .skip))
@[simp] theorem Jer4 {p : Nums} : EqI (Jqr4 p) (.seq (Jqr1 p) (.cond (.t 42) (Jqr2 p) .skip)) := eqi
def Jqr5 (p : Nums) : IC := (.seq (.region [⟨(some 4), (.asg (.c (.d (.int .i64 8)))), none, false⟩] []) .ret)
@[simp] theorem Jer5 {p : Nums} : EqI (Jqr5 p) (.seq (.region [⟨(some 4), (.asg (.c (.d (.int .i64 8)))), none, false⟩] []) .ret) := eqi
def Jqqw (p : Nums) : IC := (.seq (Jqr0 p) (.cond (.t 38) (Jqr3 p) (Jqr4 p)))
@[simp] theorem Jeqw {p : Nums} : EqI (Jqqw p) (.seq (Jqr0 p) (.cond (.t 38) (Jqr3 p) (Jqr4 p))) := eqi
def Jqqx (p : Nums) : IC := (.seq (Jqqz p) (.cond (.t 33) (Jqr5 p) (Jqqw p)))
@[simp] theorem Jeqx {p : Nums} : EqI (Jqqx p) (.seq (Jqqz p) (.cond (.t 33) (Jqr5 p) (Jqqw p))) := eqi
def Jtcv (p : Nums) : IC := (.seq (.region [⟨(some 2), (.box (.t 0)), none, false⟩, ⟨(some 4), (.asg (.c (.d (.int .i64 0)))), none, false⟩] []) (.seq (Jqqv p) (.seq (Jqqy p) (.seq (.block 0 (Jqqx p)) (.seq (.region [⟨(some 4), (.asg (.c (.d (.int .i64 0)))), none, false⟩] []) .ret)))))
@[simp] def Jqrw (p : Nums) : List IOp := [qo 10 (.faddr 1 (.t 3)), qo 11 (.load none (.t 10)), qo 12 (.faddr 0 (.t 3)), qo 13 (.load none (.t 12)), qo 14 (.bin .neq (.t 13) (ci 1)), qo 15 (.mov (.t 1)), qo 16 (.build [(zi 0), (.d (.bool false)), (zi 0)] [(0, 1, (.t 11)), (1, 1, (.t 14)), (2, 1, (.t 15))]), qo 7 (.alloc [(zi 0), (.d (.bool false)), (zi 0)]), qn (.store 3 (.t 7) (.t 16))]
def Jqrh (p : Nums) : IC := (.region (Jqrw p) [])
@[simp] theorem Jerh {p : Nums} : EqI (Jqrh p) (.region (Jqrw p) []) := eqi
@[simp] def Jqrx (p : Nums) : List IOp := [qo 17 (.faddr 2 (.t 3)), qo 18 (.load none (.t 17)), qo 19 (.faddr 0 (.t 3)), qo 20 (.load none (.t 19)), qo 21 (.bin .neq (.t 20) (ci 3)), qo 22 (.mov (.t 2)), qo 23 (.build [(zi 0), (.d (.bool false)), (zi 0)] [(0, 1, (.t 18)), (1, 1, (.t 21)), (2, 1, (.t 22))]), qo 8 (.alloc [(zi 0), (.d (.bool false)), (zi 0)]), qn (.store 3 (.t 8) (.t 23))]
def Jqro (p : Nums) : IC := (.region (Jqrx p) [])
@[simp] theorem Jero {p : Nums} : EqI (Jqro p) (.region (Jqrx p) []) := eqi
@[simp] def Jqry (p : Nums) : List IOp := [qo 24 (.faddr 3 (.t 3)), qo 25 (.load none (.t 24)), qo 26 (.faddr 0 (.t 3)), qo 27 (.load none (.t 26)), qo 28 (.bin .eql (.t 27) (ci 2)), qo 29 (.mov (.t 2)), qo 30 (.build [(zi 0), (.d (.bool false)), (zi 0)] [(0, 1, (.t 25)), (1, 1, (.t 28)), (2, 1, (.t 29))]), qo 9 (.alloc [(zi 0), (.d (.bool false)), (zi 0)]), qn (.store 3 (.t 9) (.t 30))]
def Jqrp (p : Nums) : IC := (.region (Jqry p) [])
@[simp] theorem Jerp {p : Nums} : EqI (Jqrp p) (.region (Jqry p) []) := eqi
@[simp] def Jqrz (p : Nums) : List IOp := [qo 32 (.faddr 0 (.t 3)), qo 33 (.load none (.t 32)), qo 34 (.bin .lss (.t 33) (ci 1)), qo 35 (.mov (.t 34)), ⟨(some 36), (.faddr 0 (.t 3)), (some (35, false)), false⟩, ⟨(some 37), (.load none (.t 36)), (some (35, false)), false⟩, ⟨(some 38), (.bin .gtr (.t 37) (ci 3)), (some (35, false)), false⟩, qo 39 (.pick (.t 35) (.c (.d (.bool true))) (.t 38)), qo 31 (.asg (.t 39))]
def Jqrq (p : Nums) : IC := (.region (Jqrz p) [])
@[simp] theorem Jerq {p : Nums} : EqI (Jqrq p) (.region (Jqrz p) []) := eqi
@[simp] def Jqs0 (p : Nums) : List IOp := [qo 41 (.load (some 3) (.t 7)), qo 42 (.bslice 3 1 [(.int .i64 0), (.bool false), (.int .i64 0)] [(0, (.t 41))]), qo 43 (.call p.source_within [(.t 42)]), qo 44 (.un .not (.t 43)), qo 40 (.asg (.t 44))]
def Jqrr (p : Nums) : IC := (.region (Jqs0 p) [])
@[simp] theorem Jerr {p : Nums} : EqI (Jqrr p) (.region (Jqs0 p) []) := eqi
@[simp] def Jqs1 (p : Nums) : List IOp := [qo 46 (.load (some 3) (.t 8)), qo 47 (.load (some 3) (.t 9)), qo 48 (.bslice 3 2 [(.int .i64 0), (.bool false), (.int .i64 0)] [(0, (.t 46)), (1, (.t 47))]), qo 49 (.call p.source_within [(.t 48)]), qo 50 (.un .not (.t 49)), qo 45 (.asg (.t 50))]
def Jqrs (p : Nums) : IC := (.region (Jqs1 p) [])
@[simp] theorem Jers {p : Nums} : EqI (Jqrs p) (.region (Jqs1 p) []) := eqi
@[simp] def Jqs2 (p : Nums) : List IOp := [qo 52 (.load (some 3) (.t 7)), qo 53 (.load (some 3) (.t 8)), qo 54 (.load (some 3) (.t 9)), qo 55 (.bslice 3 3 [(.int .i64 0), (.bool false), (.int .i64 0)] [(0, (.t 52)), (1, (.t 53)), (2, (.t 54))]), qo 56 (.call p.source_blank [(.t 55)]), qo 57 (.un .not (.t 56)), qo 51 (.asg (.t 57))]
def Jqrt (p : Nums) : IC := (.region (Jqs2 p) [])
@[simp] theorem Jert {p : Nums} : EqI (Jqrt p) (.region (Jqs2 p) []) := eqi
def Jqru (p : Nums) : IC := (.seq (.region [⟨(some 6), (.asg (.c (.d (.int .i64 12)))), none, false⟩] []) .ret)
@[simp] theorem Jeru {p : Nums} : EqI (Jqru p) (.seq (.region [⟨(some 6), (.asg (.c (.d (.int .i64 12)))), none, false⟩] []) .ret) := eqi
def Jqrv (p : Nums) : IC := (.seq (.region [⟨(some 6), (.asg (.c (.d (.int .i64 11)))), none, false⟩] []) .ret)
@[simp] theorem Jerv {p : Nums} : EqI (Jqrv p) (.seq (.region [⟨(some 6), (.asg (.c (.d (.int .i64 11)))), none, false⟩] []) .ret) := eqi
def Jqri (p : Nums) : IC := (.seq (Jqrt p) (.cond (.t 51) (Jqru p) .skip))
@[simp] theorem Jeri {p : Nums} : EqI (Jqri p) (.seq (Jqrt p) (.cond (.t 51) (Jqru p) .skip)) := eqi
def Jqrj (p : Nums) : IC := (.seq (.region [⟨(some 6), (.asg (.c (.d (.int .i64 9)))), none, false⟩] []) .ret)
@[simp] theorem Jerj {p : Nums} : EqI (Jqrj p) (.seq (.region [⟨(some 6), (.asg (.c (.d (.int .i64 9)))), none, false⟩] []) .ret) := eqi
def Jqrk (p : Nums) : IC := (.seq (Jqrs p) (.cond (.t 45) (Jqrv p) (Jqri p)))
@[simp] theorem Jerk {p : Nums} : EqI (Jqrk p) (.seq (Jqrs p) (.cond (.t 45) (Jqrv p) (Jqri p))) := eqi
def Jqrl (p : Nums) : IC := (.seq (.region [⟨(some 6), (.asg (.c (.d (.int .i64 16)))), none, false⟩] []) .ret)
@[simp] theorem Jerl {p : Nums} : EqI (Jqrl p) (.seq (.region [⟨(some 6), (.asg (.c (.d (.int .i64 16)))), none, false⟩] []) .ret) := eqi
def Jqrm (p : Nums) : IC := (.seq (Jqrr p) (.cond (.t 40) (Jqrj p) (Jqrk p)))
@[simp] theorem Jerm {p : Nums} : EqI (Jqrm p) (.seq (Jqrr p) (.cond (.t 40) (Jqrj p) (Jqrk p))) := eqi
def Jqrn (p : Nums) : IC := (.seq (Jqrq p) (.cond (.t 31) (Jqrl p) (Jqrm p)))
@[simp] theorem Jern {p : Nums} : EqI (Jqrn p) (.seq (Jqrq p) (.cond (.t 31) (Jqrl p) (Jqrm p))) := eqi
def Jtcx (p : Nums) : IC := (.seq (.region [⟨(some 3), (.box (.t 0)), none, false⟩, ⟨(some 6), (.asg (.c (.d (.int .i64 0)))), none, false⟩] []) (.seq (Jqrh p) (.seq (Jqro p) (.seq (Jqrp p) (.seq (.block 0 (Jqrn p)) (.seq (.region [⟨(some 6), (.asg (.c (.d (.int .i64 0)))), none, false⟩] []) .ret))))))
@[simp] def Jqaq (p : Nums) : List IOp := [qo 9 (.faddr 0 (.t 3)), qo 10 (.load none (.t 9)), qo 11 (.call p.opcode_Machine [(.t 10)]), qo 12 (.un .not (.t 11))]
def Jqah (p : Nums) : IC := (.region (Jqaq p) [])
@[simp] theorem Jeah {p : Nums} : EqI (Jqah p) (.region (Jqaq p) []) := eqi
def Jqai (p : Nums) : IC := (.seq (.region [⟨(some 6), (.asg (.c (.d (.int .i64 8)))), none, false⟩] []) .ret)
@[simp] theorem Jeai {p : Nums} : EqI (Jqai p) (.seq (.region [⟨(some 6), (.asg (.c (.d (.int .i64 8)))), none, false⟩] []) .ret) := eqi
@[simp] def Jqar (p : Nums) : List IOp := [qo 13 (.call p.machine_others []), qo 7 (.alloc [.nilfn, .nilfn]), qn (.store 2 (.t 7) (.t 13))]
def Jqaj (p : Nums) : IC := (.region (Jqar p) [])
@[simp] theorem Jeaj {p : Nums} : EqI (Jqaj p) (.region (Jqar p) []) := eqi
@[simp] def Jqas (p : Nums) : List IOp := [qo 14 (.faddr 0 (.t 3)), qo 15 (.load none (.t 14)), qo 16 (.bin .eql (.t 15) (ci 18))]
def Jqak (p : Nums) : IC := (.region (Jqas p) [])
@[simp] theorem Jeak {p : Nums} : EqI (Jqak p) (.region (Jqas p) []) := eqi
@[simp] def Jqat (p : Nums) : List IOp := [qo 17 (.call p.machine_moves []), qn (.store 2 (.t 7) (.t 17))]
def Jqal (p : Nums) : IC := (.region (Jqat p) [])
@[simp] theorem Jeal {p : Nums} : EqI (Jqal p) (.region (Jqat p) []) := eqi
@[simp] def Jqau (p : Nums) : List IOp := [qo 18 (.faddr 0 (.t 7)), qo 19 (.load none (.t 18)), qo 20 (.load (some 7) (.t 3)), qo 21 (.mov (.t 1)), qo 22 (.mov (.t 2)), qo 23 (.callv (.t 19) [(.t 20), (.t 21), (.t 22)]), qo 8 (.asg (.t 23))]
def Jqam (p : Nums) : IC := (.region (Jqau p) [])
@[simp] theorem Jeam {p : Nums} : EqI (Jqam p) (.region (Jqau p) []) := eqi
def Jqan (p : Nums) : IC := (.seq (.region [⟨(some 26), (.mov (.t 8)), none, false⟩, ⟨(some 6), (.asg (.t 26)), none, false⟩] []) .ret)
@[simp] theorem Jean {p : Nums} : EqI (Jqan p) (.seq (.region [⟨(some 26), (.mov (.t 8)), none, false⟩, ⟨(some 6), (.asg (.t 26)), none, false⟩] []) .ret) := eqi
@[simp] def Jqav (p : Nums) : List IOp := [qo 27 (.faddr 1 (.t 7)), qo 28 (.load none (.t 27)), qo 29 (.load (some 7) (.t 3)), qo 30 (.callv (.t 28) [(.t 29)]), qo 31 (.un .not (.t 30))]
def Jqao (p : Nums) : IC := (.region (Jqav p) [])
@[simp] theorem Jeao {p : Nums} : EqI (Jqao p) (.region (Jqav p) []) := eqi
def Jqap (p : Nums) : IC := (.seq (.region [⟨(some 6), (.asg (.c (.d (.int .i64 12)))), none, false⟩] []) .ret)
@[simp] theorem Jeap {p : Nums} : EqI (Jqap p) (.seq (.region [⟨(some 6), (.asg (.c (.d (.int .i64 12)))), none, false⟩] []) .ret) := eqi
def Jtba (p : Nums) : IC := (.seq (.region [⟨(some 3), (.box (.t 0)), none, false⟩, ⟨(some 6), (.asg (.c (.d (.int .i64 0)))), none, false⟩] []) (.seq (.seq (Jqah p) (.cond (.t 12) (Jqai p) .skip)) (.seq (Jqaj p) (.seq (.seq (Jqak p) (.cond (.t 16) (Jqal p) .skip)) (.seq (.seq (Jqam p) (.seq (.region [⟨(some 24), (.mov (.t 8)), none, false⟩, ⟨(some 25), (.bin .neq (.t 24) (.c (.d (.int .i64 0)))), none, false⟩] []) (.cond (.t 25) (Jqan p) .skip))) (.seq (.seq (Jqao p) (.cond (.t 31) (Jqap p) .skip)) (.seq (.region [⟨(some 6), (.asg (.c (.d (.int .i64 0)))), none, false⟩] []) .ret)))))))
@[simp] def Jq97 (p : Nums) : List IOp := [qo 9 (.mov (.t 0)), qo 10 (.bin .geq (.t 9) (ci 0)), qo 11 (.mov (.t 10)), ⟨(some 12), (.mov (.t 0)), (some (11, true)), false⟩, ⟨(some 13), (.call p.location_Index [(.t 12)]), (some (11, true)), false⟩, ⟨(some 14), (.mov (.t 2)), (some (11, true)), false⟩, ⟨(some 15), (.bin .lss (.t 13) (.t 14)), (some (11, true)), false⟩, qo 16 (.pick (.t 11) (.t 15) (.c (.d (.bool false)))), qo 6 (.asg (.t 16))]
def Jq95 (p : Nums) : IC := (.region (Jq97 p) [])
@[simp] theorem Je95 {p : Nums} : EqI (Jq95 p) (.region (Jq97 p) []) := eqi
@[simp] def Jq98 (p : Nums) : List IOp := [qo 17 (.mov (.t 0)), qo 18 (.bin .geq (.t 17) (ci 0)), qo 19 (.mov (.t 18)), ⟨(some 20), (.mov (.t 0)), (some (19, true)), false⟩, ⟨(some 21), (.call p.location_Index [(.t 20)]), (some (19, true)), false⟩, ⟨(some 22), (.mov (.t 1)), (some (19, true)), false⟩, ⟨(some 23), (.bin .lss (.t 21) (.t 22)), (some (19, true)), false⟩, qo 24 (.pick (.t 19) (.t 23) (.c (.d (.bool false)))), qo 6 (.asg (.t 24))]
def Jq96 (p : Nums) : IC := (.region (Jq98 p) [])
@[simp] theorem Je96 {p : Nums} : EqI (Jq96 p) (.region (Jq98 p) []) := eqi
def Jtb3 (p : Nums) : IC := (.seq (.region [⟨(some 6), (.asg (.c (.d (.bool false)))), none, false⟩] []) (.seq (.seq (.region [⟨(some 7), (.mov (.t 0)), none, false⟩, ⟨(some 8), (.call p.location_IsSlot [(.t 7)]), none, false⟩] []) (.cond (.t 8) (.seq (Jq95 p) .ret) .skip)) (.seq (Jq96 p) .ret)))
@[simp] def Jqdf (p : Nums) : List IOp := [qo 2 (.box (.t 0)), qo 3 (.box (.t 1)), qo 4 (.asg (.c (.d (.bool false))))]
def Jqdd (p : Nums) : IC := (.region (Jqdf p) [])
@[simp] theorem Jedd {p : Nums} : EqI (Jqdd p) (.region (Jqdf p) []) := eqi
@[simp] def Jqdg (p : Nums) : List IOp := [qo 5 (.faddr 0 (.t 2)), qo 6 (.load none (.t 5)), qo 7 (.faddr 0 (.t 3)), qo 8 (.load none (.t 7)), qo 9 (.bin .lss (.t 6) (.t 8)), qo 10 (.mov (.t 9)), ⟨(some 11), (.faddr 0 (.t 2)), (some (10, false)), false⟩, ⟨(some 12), (.load none (.t 11)), (some (10, false)), false⟩, ⟨(some 13), (.faddr 0 (.t 3)), (some (10, false)), false⟩, ⟨(some 14), (.load none (.t 13)), (some (10, false)), false⟩, ⟨(some 15), (.bin .eql (.t 12) (.t 14)), (some (10, false)), false⟩, ⟨(some 16), (.mov (.t 15)), (some (10, false)), false⟩, ⟨(some 17), (.faddr 1 (.t 2)), (some (16, true)), false⟩, ⟨(some 18), (.load none (.t 17)), (some (16, true)), false⟩, ⟨(some 19), (.faddr 1 (.t 3)), (some (16, true)), false⟩, ⟨(some 20), (.load none (.t 19)), (some (16, true)), false⟩, ⟨(some 21), (.bin .lss (.t 18) (.t 20)), (some (16, true)), false⟩, ⟨(some 22), (.pick (.t 16) (.t 21) (.c (.d (.bool false)))), (some (10, false)), false⟩, qo 23 (.pick (.t 10) (.c (.d (.bool true))) (.t 22)), qo 4 (.asg (.t 23))]
def Jqde (p : Nums) : IC := (.region (Jqdg p) [])
@[simp] theorem Jede {p : Nums} : EqI (Jqde p) (.region (Jqdg p) []) := eqi
def Jtbs (p : Nums) : IC := (.seq (Jqdd p) (.seq (Jqde p) .ret))
@[simp] def Jq6e (p : Nums) : List IOp := [qo 5 (.faddr 0 (.t 2)), qo 6 (.load none (.t 5)), qo 7 (.mov (.t 1)), qo 8 (.bin .lss (.t 6) (.t 7))]
def Jq6b (p : Nums) : IC := (.region (Jq6e p) [])
@[simp] theorem Je6b {p : Nums} : EqI (Jq6b p) (.region (Jq6e p) []) := eqi
@[simp] def Jq6f (p : Nums) : List IOp := [qp 9 (.faddr 1 (.t 2)), qp 10 (.load none (.t 9)), qp 11 (.faddr 0 (.t 2)), qp 12 (.load none (.t 11)), qp 13 (.call p.location_Slot [(.t 12)]), qo 14 (.bin .eql (.t 10) (.t 13)), qo 4 (.asg (.t 14))]
def Jq6c (p : Nums) : IC := (.region (Jq6f p) [])
@[simp] theorem Je6c {p : Nums} : EqI (Jq6c p) (.region (Jq6f p) []) := eqi
@[simp] def Jq6g (p : Nums) : List IOp := [qo 15 (.faddr 1 (.t 2)), qo 16 (.load none (.t 15)), qo 17 (.call p.location_IsSlot [(.t 16)]), qo 18 (.un .not (.t 17)), qo 19 (.mov (.t 18)), ⟨(some 20), (.faddr 1 (.t 2)), (some (19, false)), false⟩, ⟨(some 21), (.load none (.t 20)), (some (19, false)), false⟩, ⟨(some 22), (.call p.location_Index [(.t 21)]), (some (19, false)), false⟩, ⟨(some 23), (.mov (.t 1)), (some (19, false)), false⟩, ⟨(some 24), (.bin .geq (.t 22) (.t 23)), (some (19, false)), false⟩, qo 25 (.pick (.t 19) (.c (.d (.bool true))) (.t 24)), qo 4 (.asg (.t 25))]
def Jq6d (p : Nums) : IC := (.region (Jq6g p) [])
@[simp] theorem Je6d {p : Nums} : EqI (Jq6d p) (.region (Jq6g p) []) := eqi
def Jtax (p : Nums) : IC := (.seq (.region [⟨(some 2), (.box (.t 0)), none, false⟩, ⟨(some 4), (.asg (.c (.d (.bool false)))), none, false⟩] []) (.seq (.seq (Jq6b p) (.cond (.t 8) (.seq (Jq6c p) .ret) .skip)) (.seq (Jq6d p) .ret)))
@[simp] def Jq12 (p : Nums) : List IOp := [qo 7 (.mov (.t 1)), qo 8 (.mov (.t 0)), qo 9 (.len (.t 8)), qo 10 (.bin .lss (.t 7) (.t 9)), qo 11 (.mov (.t 10)), ⟨(some 12), (.mov (.t 2)), (some (11, true)), false⟩, ⟨(some 13), (.mov (.t 0)), (some (11, true)), false⟩, ⟨(some 14), (.mov (.t 1)), (some (11, true)), false⟩, ⟨(some 15), (.iaddr 5 (.t 13) (.t 14)), (some (11, true)), false⟩, ⟨(some 16), (.load (some 5) (.t 15)), (some (11, true)), false⟩, ⟨(some 17), (.callv (.t 12) [(.t 16)]), (some (11, true)), false⟩, qo 18 (.pick (.t 11) (.t 17) (.c (.d (.bool false))))]
def Jqz (p : Nums) : IC := (.region (Jq12 p) [])
@[simp] theorem Jez {p : Nums} : EqI (Jqz p) (.region (Jq12 p) []) := eqi
@[simp] def Jq13 (p : Nums) : List IOp := [qo 19 (.mov (.t 1)), qo 20 (.bin .add (.t 19) (ci 1)), qo 1 (.asg (.t 20))]
def Jq10 (p : Nums) : IC := (.region (Jq13 p) [])
@[simp] theorem Je10 {p : Nums} : EqI (Jq10 p) (.region (Jq13 p) []) := eqi
def Jq11 (p : Nums) : IC := (.seq (.seq (Jqz p) (.cond (.t 18) .skip (.exit 0))) (.block 1 (Jq10 p)))
@[simp] theorem Je11 {p : Nums} : EqI (Jq11 p) (.seq (.seq (Jqz p) (.cond (.t 18) .skip (.exit 0))) (.block 1 (Jq10 p))) := eqi
def Jtag (p : Nums) : IC := (.seq (.region [⟨(some 6), (.asg (.c (.d (.int .i64 0)))), none, false⟩] []) (.seq (.block 0 (.loop (Jq11 p))) (.seq (.region [⟨(some 21), (.mov (.t 1)), none, false⟩, ⟨(some 6), (.asg (.t 21)), none, false⟩] []) .ret)))
@[simp] def Jqw (p : Nums) : List IOp := [qo 3 (.faddr 0 (.t 1)), qo 4 (.load none (.t 3)), qo 5 (.bin .eql (.t 4) (ci 2)), qo 2 (.asg (.t 5))]
def Jqv (p : Nums) : IC := (.region (Jqw p) [])
@[simp] theorem Jev {p : Nums} : EqI (Jqv p) (.region (Jqw p) []) := eqi
def Jtae (p : Nums) : IC := (.seq (.region [⟨(some 1), (.box (.t 0)), none, false⟩, ⟨(some 2), (.asg (.c (.d (.bool false)))), none, false⟩] []) (.seq (Jqv p) .ret))
@[simp] def Jq17 (p : Nums) : List IOp := [qo 7 (.mov (.t 1)), qo 8 (.mov (.t 0)), qo 9 (.len (.t 8)), qo 10 (.bin .lss (.t 7) (.t 9)), qo 11 (.mov (.t 10)), ⟨(some 12), (.mov (.t 2)), (some (11, true)), false⟩, ⟨(some 13), (.mov (.t 0)), (some (11, true)), false⟩, ⟨(some 14), (.mov (.t 1)), (some (11, true)), false⟩, ⟨(some 15), (.iaddr 7 (.t 13) (.t 14)), (some (11, true)), false⟩, ⟨(some 16), (.load (some 7) (.t 15)), (some (11, true)), false⟩, ⟨(some 17), (.callv (.t 12) [(.t 16)]), (some (11, true)), false⟩, qo 18 (.pick (.t 11) (.t 17) (.c (.d (.bool false))))]
def Jq14 (p : Nums) : IC := (.region (Jq17 p) [])
@[simp] theorem Je14 {p : Nums} : EqI (Jq14 p) (.region (Jq17 p) []) := eqi
@[simp] def Jq18 (p : Nums) : List IOp := [qo 19 (.mov (.t 1)), qo 20 (.bin .add (.t 19) (ci 1)), qo 1 (.asg (.t 20))]
def Jq15 (p : Nums) : IC := (.region (Jq18 p) [])
@[simp] theorem Je15 {p : Nums} : EqI (Jq15 p) (.region (Jq18 p) []) := eqi
def Jq16 (p : Nums) : IC := (.seq (.seq (Jq14 p) (.cond (.t 18) .skip (.exit 0))) (.block 1 (Jq15 p)))
@[simp] theorem Je16 {p : Nums} : EqI (Jq16 p) (.seq (.seq (Jq14 p) (.cond (.t 18) .skip (.exit 0))) (.block 1 (Jq15 p))) := eqi
def Jtah (p : Nums) : IC := (.seq (.region [⟨(some 6), (.asg (.c (.d (.int .i64 0)))), none, false⟩] []) (.seq (.block 0 (.loop (Jq16 p))) (.seq (.region [⟨(some 21), (.mov (.t 1)), none, false⟩, ⟨(some 6), (.asg (.t 21)), none, false⟩] []) .ret)))
@[simp] def Jqy (p : Nums) : List IOp := [qo 3 (.faddr 0 (.t 1)), qo 4 (.load none (.t 3)), qo 5 (.bin .eql (.t 4) (ci 18)), qo 2 (.asg (.t 5))]
def Jqx (p : Nums) : IC := (.region (Jqy p) [])
@[simp] theorem Jex {p : Nums} : EqI (Jqx p) (.region (Jqy p) []) := eqi
def Jtaf (p : Nums) : IC := (.seq (.region [⟨(some 1), (.box (.t 0)), none, false⟩, ⟨(some 2), (.asg (.c (.d (.bool false)))), none, false⟩] []) (.seq (Jqx p) .ret))
@[simp] def Jqp (p : Nums) : List IOp := [qo 2 (.box (.t 0)), qo 3 (.box (.t 1)), qo 4 (.asg (.c (.d (.bool false))))]
def Jqn (p : Nums) : IC := (.region (Jqp p) [])
@[simp] theorem Jen {p : Nums} : EqI (Jqn p) (.region (Jqp p) []) := eqi
@[simp] def Jqq (p : Nums) : List IOp := [qo 5 (.faddr 0 (.t 2)), qo 6 (.load none (.t 5)), qo 7 (.faddr 0 (.t 3)), qo 8 (.load none (.t 7)), qo 9 (.bin .eql (.t 6) (.t 8)), qo 10 (.mov (.t 9)), ⟨(some 11), (.faddr 4 (.t 2)), (some (10, true)), false⟩, ⟨(some 12), (.load none (.t 11)), (some (10, true)), false⟩, ⟨(some 13), (.faddr 4 (.t 3)), (some (10, true)), false⟩, ⟨(some 14), (.load none (.t 13)), (some (10, true)), false⟩, ⟨(some 15), (.bin .eql (.t 12) (.t 14)), (some (10, true)), false⟩, qo 16 (.pick (.t 10) (.t 15) (.c (.d (.bool false)))), qo 17 (.mov (.t 16)), ⟨(some 18), (.faddr 0 (.t 2)), (some (17, true)), false⟩, ⟨(some 19), (.load none (.t 18)), (some (17, true)), false⟩, ⟨(some 20), (.bin .neq (.t 19) (ci 2)), (some (17, true)), false⟩, qo 21 (.pick (.t 17) (.t 20) (.c (.d (.bool false)))), qo 22 (.mov (.t 21)), ⟨(some 23), (.faddr 0 (.t 2)), (some (22, true)), false⟩, ⟨(some 24), (.load none (.t 23)), (some (22, true)), false⟩, ⟨(some 25), (.bin .neq (.t 24) (ci 18)), (some (22, true)), false⟩, qo 26 (.pick (.t 22) (.t 25) (.c (.d (.bool false)))), qo 4 (.asg (.t 26))]
def Jqo (p : Nums) : IC := (.region (Jqq p) [])
@[simp] theorem Jeo {p : Nums} : EqI (Jqo p) (.region (Jqq p) []) := eqi
def Jtac (p : Nums) : IC := (.seq (Jqn p) (.seq (Jqo p) .ret))
def Jqp2 (p : Nums) : IC := (.seq (.region [⟨(some 2), (.asg (.c .nils)), none, false⟩] []) .ret)
@[simp] theorem Jep2 {p : Nums} : EqI (Jqp2 p) (.seq (.region [⟨(some 2), (.asg (.c .nils)), none, false⟩] []) .ret) := eqi
@[simp] def Jqp4 (p : Nums) : List IOp := [qo 5 (.bslice 2 0 [(.int .i64 0), (.int .i64 0)] []), qo 6 (.mov (.t 0)), qo 7 (.app 2 16 (.t 5) (.t 6)), qo 2 (.asg (.t 7))]
def Jqp3 (p : Nums) : IC := (.region (Jqp4 p) [])
@[simp] theorem Jep3 {p : Nums} : EqI (Jqp3 p) (.region (Jqp4 p) []) := eqi
def Jtcr (p : Nums) : IC := (.seq (.region [⟨(some 2), (.asg (.c .nils)), none, false⟩] []) (.seq (.seq (.region [⟨(some 3), (.mov (.t 0)), none, false⟩, ⟨(some 4), (.isnil false (.t 3)), none, false⟩] []) (.cond (.t 4) (Jqp2 p) .skip)) (.seq (Jqp3 p) .ret)))
@[simp] def Jqpn (p : Nums) : List IOp := [qo 6 (.mov (.t 0)), qo 7 (.len (.t 6)), qo 8 (.bin .lss (.t 7) (ci 2))]
def Jqp5 (p : Nums) : IC := (.region (Jqpn p) [])
@[simp] theorem Jep5 {p : Nums} : EqI (Jqp5 p) (.region (Jqpn p) []) := eqi
def Jqpf (p : Nums) : IC := (.seq (.region [⟨(some 9), (.mov (.t 0)), none, false⟩, ⟨(some 2), (.asg (.t 9)), none, false⟩] []) .ret)
@[simp] theorem Jepf {p : Nums} : EqI (Jqpf p) (.seq (.region [⟨(some 9), (.mov (.t 0)), none, false⟩, ⟨(some 2), (.asg (.t 9)), none, false⟩] []) .ret) := eqi
@[simp] def Jqps (p : Nums) : List IOp := [qo 10 (.mov (.t 3)), qo 11 (.mov (.t 0)), qo 12 (.len (.t 11)), qo 13 (.bin .lss (.t 10) (.t 12))]
def Jqpg (p : Nums) : IC := (.region (Jqps p) [])
@[simp] theorem Jepg {p : Nums} : EqI (Jqpg p) (.region (Jqps p) []) := eqi
@[simp] def Jqpt (p : Nums) : List IOp := [qp 16 (.mov (.t 0)), qp 17 (.mov (.t 3)), qp 18 (.iaddr 2 (.t 16) (.t 17)), qp 19 (.load (some 2) (.t 18)), qp 20 (.mov (.t 0)), qp 21 (.mov (.t 3)), qp 22 (.bin .sub (.t 21) (ci 1)), qp 23 (.iaddr 2 (.t 20) (.t 22)), qp 24 (.load (some 2) (.t 23)), qo 25 (.eqs false [.int, .int] (.t 19) (.t 24))]
def Jqph (p : Nums) : IC := (.region (Jqpt p) [])
@[simp] theorem Jeph {p : Nums} : EqI (Jqph p) (.region (Jqpt p) []) := eqi
@[simp] def Jqpu (p : Nums) : List IOp := [qo 26 (.mov (.t 0)), qo 27 (.mov (.t 3)), qo 28 (.slc 2 (.t 26) (some (.t 27)) none), qo 4 (.asg (.t 28))]
def Jqpi (p : Nums) : IC := (.region (Jqpu p) [])
@[simp] theorem Jepi {p : Nums} : EqI (Jqpi p) (.region (Jqpu p) []) := eqi
@[simp] def Jqpv (p : Nums) : List IOp := [qo 29 (.mov (.t 5)), qo 30 (.mov (.t 4)), qo 31 (.len (.t 30)), qo 32 (.bin .lss (.t 29) (.t 31))]
def Jqpj (p : Nums) : IC := (.region (Jqpv p) [])
@[simp] theorem Jepj {p : Nums} : EqI (Jqpj p) (.region (Jqpv p) []) := eqi
@[simp] def Jqpw (p : Nums) : List IOp := [qp 35 (.mov (.t 4)), qp 36 (.mov (.t 5)), qp 37 (.iaddr 2 (.t 35) (.t 36)), qp 38 (.load (some 2) (.t 37)), qp 39 (.mov (.t 4)), qp 40 (.mov (.t 5)), qp 41 (.bin .sub (.t 40) (ci 1)), qp 42 (.iaddr 2 (.t 39) (.t 41)), qp 43 (.load (some 2) (.t 42)), qo 44 (.eqs true [.int, .int] (.t 38) (.t 43))]
def Jqpk (p : Nums) : IC := (.region (Jqpw p) [])
@[simp] theorem Jepk {p : Nums} : EqI (Jqpk p) (.region (Jqpw p) []) := eqi
@[simp] def Jqpx (p : Nums) : List IOp := [qo 45 (.mov (.t 0)), qo 46 (.mov (.t 3)), qo 47 (.mov (.t 4)), qo 48 (.mov (.t 5)), qo 49 (.iaddr 2 (.t 47) (.t 48)), qo 50 (.load (some 2) (.t 49)), qo 51 (.iaddr 2 (.t 45) (.t 46)), qn (.store 2 (.t 51) (.t 50))]
def Jqpl (p : Nums) : IC := (.region (Jqpx p) [])
@[simp] theorem Jepl {p : Nums} : EqI (Jqpl p) (.region (Jqpx p) []) := eqi
@[simp] def Jqpy (p : Nums) : List IOp := [qo 52 (.mov (.t 3)), qo 53 (.bin .add (.t 52) (ci 1)), qo 3 (.asg (.t 53))]
def Jqpm (p : Nums) : IC := (.region (Jqpy p) [])
@[simp] theorem Jepm {p : Nums} : EqI (Jqpm p) (.region (Jqpy p) []) := eqi
def Jqp6 (p : Nums) : IC := (.seq (Jqpk p) (.cond (.t 44) (.seq (Jqpl p) (Jqpm p)) .skip))
@[simp] theorem Jep6 {p : Nums} : EqI (Jqp6 p) (.seq (Jqpk p) (.cond (.t 44) (.seq (Jqpl p) (Jqpm p)) .skip)) := eqi
@[simp] def Jqpo (p : Nums) : List IOp := [qo 33 (.mov (.t 5)), qo 34 (.bin .add (.t 33) (ci 1)), qo 5 (.asg (.t 34))]
def Jqp7 (p : Nums) : IC := (.region (Jqpo p) [])
@[simp] theorem Jep7 {p : Nums} : EqI (Jqp7 p) (.region (Jqpo p) []) := eqi
def Jqp8 (p : Nums) : IC := (.seq (.seq (Jqpj p) (.cond (.t 32) .skip (.exit 2))) (.seq (.block 3 (Jqp6 p)) (Jqp7 p)))
@[simp] theorem Jep8 {p : Nums} : EqI (Jqp8 p) (.seq (.seq (Jqpj p) (.cond (.t 32) .skip (.exit 2))) (.seq (.block 3 (Jqp6 p)) (Jqp7 p))) := eqi
@[simp] def Jqpp (p : Nums) : List IOp := [qo 54 (.mov (.t 0)), qo 55 (.mov (.t 3)), qo 56 (.slc 2 (.t 54) (some (.t 55)) none), qn (.clr 2 [(.int .i64 0), (.int .i64 0)] (.t 56))]
def Jqp9 (p : Nums) : IC := (.region (Jqpp p) [])
@[simp] theorem Jep9 {p : Nums} : EqI (Jqp9 p) (.region (Jqpp p) []) := eqi
@[simp] def Jqpq (p : Nums) : List IOp := [qo 57 (.mov (.t 0)), qo 58 (.mov (.t 3)), qo 59 (.slc 2 (.t 57) none (some (.t 58))), qo 2 (.asg (.t 59))]
def Jqpa (p : Nums) : IC := (.region (Jqpq p) [])
@[simp] theorem Jepa {p : Nums} : EqI (Jqpa p) (.region (Jqpq p) []) := eqi
def Jqpb (p : Nums) : IC := (.seq (Jqpi p) (.seq (.seq (.region [⟨(some 5), (.asg (.c (.d (.int .i64 1)))), none, false⟩] []) (.block 2 (.loop (Jqp8 p)))) (.seq (Jqp9 p) (.seq (Jqpa p) .ret))))
@[simp] theorem Jepb {p : Nums} : EqI (Jqpb p) (.seq (Jqpi p) (.seq (.seq (.region [⟨(some 5), (.asg (.c (.d (.int .i64 1)))), none, false⟩] []) (.block 2 (.loop (Jqp8 p)))) (.seq (Jqp9 p) (.seq (Jqpa p) .ret)))) := eqi
def Jqpc (p : Nums) : IC := (.seq (Jqph p) (.cond (.t 25) (Jqpb p) .skip))
@[simp] theorem Jepc {p : Nums} : EqI (Jqpc p) (.seq (Jqph p) (.cond (.t 25) (Jqpb p) .skip)) := eqi
@[simp] def Jqpr (p : Nums) : List IOp := [qo 14 (.mov (.t 3)), qo 15 (.bin .add (.t 14) (ci 1)), qo 3 (.asg (.t 15))]
def Jqpd (p : Nums) : IC := (.region (Jqpr p) [])
@[simp] theorem Jepd {p : Nums} : EqI (Jqpd p) (.region (Jqpr p) []) := eqi
def Jqpe (p : Nums) : IC := (.seq (.seq (Jqpg p) (.cond (.t 13) .skip (.exit 0))) (.seq (.block 1 (Jqpc p)) (Jqpd p)))
@[simp] theorem Jepe {p : Nums} : EqI (Jqpe p) (.seq (.seq (Jqpg p) (.cond (.t 13) .skip (.exit 0))) (.seq (.block 1 (Jqpc p)) (Jqpd p))) := eqi
def Jtcs (p : Nums) : IC := (.seq (.region [⟨(some 2), (.asg (.c .nils)), none, false⟩] []) (.seq (.seq (Jqp5 p) (.cond (.t 8) (Jqpf p) .skip)) (.seq (.seq (.region [⟨(some 3), (.asg (.c (.d (.int .i64 1)))), none, false⟩] []) (.block 0 (.loop (Jqpe p)))) (.seq (.region [⟨(some 60), (.mov (.t 0)), none, false⟩, ⟨(some 2), (.asg (.t 60)), none, false⟩] []) .ret))))
@[simp] def Jq2p (p : Nums) : List IOp := [qo 11 (.faddr 0 (.t 5)), qo 12 (.load none (.t 11)), qo 13 (.faddr 0 (.t 7)), qo 14 (.load none (.t 13)), qo 15 (.faddr 1 (.t 7)), qo 16 (.load none (.t 15)), qo 17 (.slc 5 (.t 12) (some (.t 14)) (some (.t 16))), qo 18 (.len (.t 17)), qo 19 (.mov (ci 0))]
def Jq2c (p : Nums) : IC := (.region (Jq2p p) [])
@[simp] theorem Je2c {p : Nums} : EqI (Jq2c p) (.region (Jq2p p) []) := eqi
@[simp] def Jq2t (p : Nums) : List IOp := [qo 21 (.iaddr 5 (.t 17) (.t 19)), qo 22 (.load (some 5) (.t 21)), qo 9 (.alloc [(zi 0), (zi 0), (zi 0), (zi 0), (zi 0)]), qn (.store 5 (.t 9) (.t 22))]
def Jq2h (p : Nums) : IC := (.region (Jq2t p) [])
@[simp] theorem Je2h {p : Nums} : EqI (Jq2h p) (.region (Jq2t p) []) := eqi
@[simp] def Jq2u (p : Nums) : List IOp := [qp 25 (.mov (.t 0)), qp 26 (.mov (.t 0)), qp 27 (.nilck (.t 26)), qp 28 (.faddr 0 (.t 27)), qp 29 (.load none (.t 28)), qp 30 (.faddr 1 (.t 9)), qp 31 (.load none (.t 30)), qp 32 (.faddr 2 (.t 9)), qp 33 (.load none (.t 32)), qp 34 (.call p.transfer_Copy [(.t 29), (.t 31), (.t 33)]), qp 35 (.faddr 2 (.t 7)), qp 36 (.load none (.t 35)), qo 37 (.call p.blockcheck_checker_become [(.t 25), (.t 34), (.t 36)])]
def Jq2i (p : Nums) : IC := (.region (Jq2u p) [])
@[simp] theorem Je2i {p : Nums} : EqI (Jq2i p) (.region (Jq2u p) []) := eqi
def Jq2j (p : Nums) : IC := (.seq (Jq2h p) (.seq (.region [⟨(some 23), (.mov (.t 0)), none, false⟩, ⟨(some 24), (.call p.blockcheck_checker_cost [(.t 23)]), none, false⟩] []) (Jq2i p)))
@[simp] theorem Je2j {p : Nums} : EqI (Jq2j p) (.seq (Jq2h p) (.seq (.region [⟨(some 23), (.mov (.t 0)), none, false⟩, ⟨(some 24), (.call p.blockcheck_checker_cost [(.t 23)]), none, false⟩] []) (Jq2i p))) := eqi
def Jq2k (p : Nums) : IC := (.seq (.region [⟨(some 20), (.bin .lss (.t 19) (.t 18)), none, false⟩] []) (.seq (.cond (.t 20) .skip (.exit 0)) (.seq (.block 1 (Jq2j p)) (.region [⟨(some 38), (.bin .add (.t 19) (.c (.d (.int .i64 1)))), none, false⟩, ⟨(some 19), (.mov (.t 38)), none, false⟩] []))))
@[simp] theorem Je2k {p : Nums} : EqI (Jq2k p) (.seq (.region [⟨(some 20), (.bin .lss (.t 19) (.t 18)), none, false⟩] []) (.seq (.cond (.t 20) .skip (.exit 0)) (.seq (.block 1 (Jq2j p)) (.region [⟨(some 38), (.bin .add (.t 19) (.c (.d (.int .i64 1)))), none, false⟩, ⟨(some 19), (.mov (.t 38)), none, false⟩] [])))) := eqi
@[simp] def Jq2v (p : Nums) : List IOp := [qo 39 (.faddr 2 (.t 7)), qo 40 (.load none (.t 39)), qo 10 (.asg (.t 40))]
def Jq2l (p : Nums) : IC := (.region (Jq2v p) [])
@[simp] theorem Je2l {p : Nums} : EqI (Jq2l p) (.region (Jq2v p) []) := eqi
@[simp] def Jq2w (p : Nums) : List IOp := [qo 41 (.mov (.t 10)), qo 42 (.faddr 3 (.t 7)), qo 43 (.load none (.t 42)), qo 44 (.bin .lss (.t 41) (.t 43))]
def Jq2m (p : Nums) : IC := (.region (Jq2w p) [])
@[simp] theorem Je2m {p : Nums} : EqI (Jq2m p) (.region (Jq2w p) []) := eqi
@[simp] def Jq2x (p : Nums) : List IOp := [qp 49 (.mov (.t 0)), qp 50 (.mov (.t 0)), qp 51 (.nilck (.t 50)), qp 52 (.faddr 0 (.t 51)), qp 53 (.load none (.t 52)), qp 54 (.faddr 0 (.t 6)), qp 55 (.load none (.t 54)), qp 56 (.mov (.t 10)), qp 57 (.iaddr 7 (.t 55) (.t 56)), qp 58 (.faddr 5 (.t 57)), qp 59 (.load none (.t 58)), qp 60 (.faddr 0 (.t 6)), qp 61 (.load none (.t 60)), qp 62 (.mov (.t 10)), qp 63 (.iaddr 7 (.t 61) (.t 62)), qp 64 (.faddr 6 (.t 63)), qp 65 (.load none (.t 64)), qp 66 (.call p.transfer_Move [(.t 53), (.t 59), (.t 65)]), qp 67 (.mov (.t 10)), qo 68 (.call p.blockcheck_checker_become [(.t 49), (.t 66), (.t 67)])]
def Jq2n (p : Nums) : IC := (.region (Jq2x p) [])
@[simp] theorem Je2n {p : Nums} : EqI (Jq2n p) (.region (Jq2x p) []) := eqi
def Jq2o (p : Nums) : IC := (.seq (.region [⟨(some 47), (.mov (.t 0)), none, false⟩, ⟨(some 48), (.call p.blockcheck_checker_cost [(.t 47)]), none, false⟩] []) (Jq2n p))
@[simp] theorem Je2o {p : Nums} : EqI (Jq2o p) (.seq (.region [⟨(some 47), (.mov (.t 0)), none, false⟩, ⟨(some 48), (.call p.blockcheck_checker_cost [(.t 47)]), none, false⟩] []) (Jq2n p)) := eqi
@[simp] def Jq2q (p : Nums) : List IOp := [qo 45 (.mov (.t 10)), qo 46 (.bin .add (.t 45) (ci 1)), qo 10 (.asg (.t 46))]
def Jq2d (p : Nums) : IC := (.region (Jq2q p) [])
@[simp] theorem Je2d {p : Nums} : EqI (Jq2d p) (.region (Jq2q p) []) := eqi
def Jq2e (p : Nums) : IC := (.seq (.seq (Jq2m p) (.cond (.t 44) .skip (.exit 2))) (.seq (.block 3 (Jq2o p)) (Jq2d p)))
@[simp] theorem Je2e {p : Nums} : EqI (Jq2e p) (.seq (.seq (Jq2m p) (.cond (.t 44) .skip (.exit 2))) (.seq (.block 3 (Jq2o p)) (Jq2d p))) := eqi
@[simp] def Jq2r (p : Nums) : List IOp := [qo 69 (.faddr 4 (.t 7)), qo 70 (.load none (.t 69)), qo 71 (.bin .geq (.t 70) (ci 0))]
def Jq2f (p : Nums) : IC := (.region (Jq2r p) [])
@[simp] theorem Je2f {p : Nums} : EqI (Jq2f p) (.region (Jq2r p) []) := eqi
@[simp] def Jq2s (p : Nums) : List IOp := [qp 72 (.mov (.t 0)), qp 73 (.faddr 0 (.t 5)), qp 74 (.load none (.t 73)), qp 75 (.faddr 4 (.t 7)), qp 76 (.load none (.t 75)), qp 77 (.iaddr 5 (.t 74) (.t 76)), qp 78 (.load (some 5) (.t 77)), qp 79 (.faddr 0 (.t 6)), qp 80 (.load none (.t 79)), qp 81 (.faddr 5 (.t 7)), qp 82 (.load none (.t 81)), qp 83 (.iaddr 7 (.t 80) (.t 82)), qp 84 (.load (some 7) (.t 83)), qp 85 (.faddr 5 (.t 7)), qp 86 (.load none (.t 85)), qo 87 (.call p.blockcheck_checker_instr [(.t 72), (.t 78), (.t 84), (.t 86)])]
def Jq2g (p : Nums) : IC := (.region (Jq2s p) [])
@[simp] theorem Je2g {p : Nums} : EqI (Jq2g p) (.region (Jq2s p) []) := eqi
def Jtam (p : Nums) : IC := (.seq (.region [⟨(some 5), (.box (.t 1)), none, false⟩, ⟨(some 6), (.box (.t 2)), none, false⟩, ⟨(some 7), (.box (.t 3)), none, false⟩] []) (.seq (.seq (Jq2c p) (.block 0 (.loop (Jq2k p)))) (.seq (.seq (Jq2l p) (.block 2 (.loop (Jq2e p)))) (.seq (Jq2f p) (.cond (.t 71) (Jq2g p) .skip)))))
@[simp] def Jq3n (p : Nums) : List IOp := [qp 10 (.mov (.t 0)), qp 11 (.nilck (.t 10)), qp 12 (.faddr 0 (.t 11)), qp 13 (.load none (.t 12)), qp 14 (.mov (.t 1)), qp 15 (.mov (.t 2)), qp 16 (.call p.location_Reg [(.t 15)]), qp 17 (.build [(zi 0), (zi 0)] [(0, 1, (.t 14)), (1, 1, (.t 16))]), qo 18 (.call p.pairset_Has [(.t 13), (.t 17)]), qo 19 (.un .not (.t 18))]
def Jq3l (p : Nums) : IC := (.region (Jq3n p) [])
@[simp] theorem Je3l {p : Nums} : EqI (Jq3l p) (.region (Jq3n p) []) := eqi
@[simp] def Jq3o (p : Nums) : List IOp := [qo 20 (.mov (.t 3)), qo 21 (.build [(zi 0), (zi 0)] [(0, 1, (ci 21)), (1, 1, (.t 20))]), qo 22 (.mkif p.ty_bcfail (.t 21)), qn (.pan (.t 22))]
def Jq3m (p : Nums) : IC := (.region (Jq3o p) [])
@[simp] theorem Je3m {p : Nums} : EqI (Jq3m p) (.region (Jq3o p) []) := eqi
def Jtaq (p : Nums) : IC := (.seq (.region [⟨(some 8), (.mov (.t 0)), none, false⟩, ⟨(some 9), (.call p.blockcheck_checker_cost [(.t 8)]), none, false⟩] []) (.seq (Jq3l p) (.cond (.t 19) (Jq3m p) .skip)))
@[simp] def Jqcb (p : Nums) : List IOp := [qo 2 (.alloc [(.d (.bool false)), (.d (.bool false)), (.d (.bool false)), (.d (.bool false))]), qo 3 (.asg (.c (.d (.bool false))))]
def Jqbx (p : Nums) : IC := (.region (Jqcb p) [])
@[simp] theorem Jebx {p : Nums} : EqI (Jqbx p) (.region (Jqcb p) []) := eqi
@[simp] def Jqcd (p : Nums) : List IOp := [qo 5 (.mov (.t 0)), qo 6 (.call p.opcode_known [(.t 5)]), qo 7 (.un .not (.t 6)), qo 4 (.asg (.t 7))]
def Jqc3 (p : Nums) : IC := (.region (Jqcd p) [])
@[simp] theorem Jec3 {p : Nums} : EqI (Jqc3 p) (.region (Jqcd p) []) := eqi
@[simp] def Jqce (p : Nums) : List IOp := [qo 8 (.build [(.d (.bool false)), (.d (.bool false)), (.d (.bool false)), (.d (.bool false))] []), qn (.store 4 (.t 2) (.t 8)), qo 3 (.asg (.c (.d (.bool false))))]
def Jqc4 (p : Nums) : IC := (.region (Jqce p) [])
@[simp] theorem Jec4 {p : Nums} : EqI (Jqc4 p) (.region (Jqce p) []) := eqi
@[simp] def Jqcf (p : Nums) : List IOp := [qo 10 (.mov (.t 0)), qo 11 (.bin .eql (.t 10) (ci 1)), qo 9 (.asg (.t 11))]
def Jqc5 (p : Nums) : IC := (.region (Jqcf p) [])
@[simp] theorem Jec5 {p : Nums} : EqI (Jqc5 p) (.region (Jqcf p) []) := eqi
@[simp] def Jqcg (p : Nums) : List IOp := [qo 12 (.build [(.d (.bool false)), (.d (.bool false)), (.d (.bool false)), (.d (.bool false))] [(0, 1, (.c (.d (.bool true)))), (3, 1, (.c (.d (.bool true))))]), qn (.store 4 (.t 2) (.t 12)), qo 3 (.asg (.c (.d (.bool true))))]
def Jqc6 (p : Nums) : IC := (.region (Jqcg p) [])
@[simp] theorem Jec6 {p : Nums} : EqI (Jqc6 p) (.region (Jqcg p) []) := eqi
@[simp] def Jqch (p : Nums) : List IOp := [qo 14 (.mov (.t 0)), qo 15 (.bin .leq (.t 14) (ci 4)), qo 13 (.asg (.t 15))]
def Jqc7 (p : Nums) : IC := (.region (Jqch p) [])
@[simp] theorem Jec7 {p : Nums} : EqI (Jqc7 p) (.region (Jqch p) []) := eqi
@[simp] def Jqci (p : Nums) : List IOp := [qo 16 (.build [(.d (.bool false)), (.d (.bool false)), (.d (.bool false)), (.d (.bool false))] [(0, 1, (.c (.d (.bool true)))), (1, 1, (.c (.d (.bool true))))]), qn (.store 4 (.t 2) (.t 16)), qo 3 (.asg (.c (.d (.bool true))))]
def Jqc8 (p : Nums) : IC := (.region (Jqci p) [])
@[simp] theorem Jec8 {p : Nums} : EqI (Jqc8 p) (.region (Jqci p) []) := eqi
@[simp] def Jqcj (p : Nums) : List IOp := [qo 18 (.mov (.t 0)), qo 19 (.bin .leq (.t 18) (ci 16)), qo 17 (.asg (.t 19))]
def Jqc9 (p : Nums) : IC := (.region (Jqcj p) [])
@[simp] theorem Jec9 {p : Nums} : EqI (Jqc9 p) (.region (Jqcj p) []) := eqi
@[simp] def Jqck (p : Nums) : List IOp := [qo 20 (.build [(.d (.bool false)), (.d (.bool false)), (.d (.bool false)), (.d (.bool false))] [(0, 1, (.c (.d (.bool true)))), (1, 1, (.c (.d (.bool true)))), (2, 1, (.c (.d (.bool true))))]), qn (.store 4 (.t 2) (.t 20)), qo 3 (.asg (.c (.d (.bool true))))]
def Jqca (p : Nums) : IC := (.region (Jqck p) [])
@[simp] theorem Jeca {p : Nums} : EqI (Jqca p) (.region (Jqck p) []) := eqi
def Jqby (p : Nums) : IC := (.seq (Jqc9 p) (.cond (.t 17) (.seq (Jqca p) .ret) .skip))
@[simp] theorem Jeby {p : Nums} : EqI (Jqby p) (.seq (Jqc9 p) (.cond (.t 17) (.seq (Jqca p) .ret) .skip)) := eqi
def Jqbz (p : Nums) : IC := (.seq (Jqc7 p) (.cond (.t 13) (.seq (Jqc8 p) .ret) (Jqby p)))
@[simp] theorem Jebz {p : Nums} : EqI (Jqbz p) (.seq (Jqc7 p) (.cond (.t 13) (.seq (Jqc8 p) .ret) (Jqby p))) := eqi
def Jqc0 (p : Nums) : IC := (.seq (Jqc5 p) (.cond (.t 9) (.seq (Jqc6 p) .ret) (Jqbz p)))
@[simp] theorem Jec0 {p : Nums} : EqI (Jqc0 p) (.seq (Jqc5 p) (.cond (.t 9) (.seq (Jqc6 p) .ret) (Jqbz p))) := eqi
def Jqc1 (p : Nums) : IC := (.seq (Jqc3 p) (.cond (.t 4) (.seq (Jqc4 p) .ret) (Jqc0 p)))
@[simp] theorem Jec1 {p : Nums} : EqI (Jqc1 p) (.seq (Jqc3 p) (.cond (.t 4) (.seq (Jqc4 p) .ret) (Jqc0 p))) := eqi
@[simp] def Jqcc (p : Nums) : List IOp := [qo 21 (.mov (.t 0)), qo 22 (.bin .eql (.t 21) (ci 17)), qo 23 (.build [(.d (.bool false)), (.d (.bool false)), (.d (.bool false)), (.d (.bool false))] [(1, 1, (.t 22))]), qn (.store 4 (.t 2) (.t 23)), qo 3 (.asg (.c (.d (.bool true))))]
def Jqc2 (p : Nums) : IC := (.region (Jqcc p) [])
@[simp] theorem Jec2 {p : Nums} : EqI (Jqc2 p) (.region (Jqcc p) []) := eqi
def Jtbj (p : Nums) : IC := (.seq (Jqbx p) (.seq (.block 0 (Jqc1 p)) (.seq (Jqc2 p) .ret)))
@[simp] def Jq9e (p : Nums) : List IOp := [qo 3 (.mov (.t 0)), qo 4 (.bin .mul (ci 2) (.t 3)), qo 2 (.asg (.t 4))]
def Jq9d (p : Nums) : IC := (.region (Jq9e p) [])
@[simp] theorem Je9d {p : Nums} : EqI (Jq9d p) (.region (Jq9e p) []) := eqi
def Jtb6 (p : Nums) : IC := (.seq (.region [⟨(some 2), (.asg (.c (.d (.int .i64 0)))), none, false⟩] []) (.seq (Jq9d p) .ret))
@[simp] def Jqcm (p : Nums) : List IOp := [qo 3 (.mov (.t 0)), qo 4 (.call p.opcode_known [(.t 3)]), qo 5 (.mov (.t 4)), ⟨(some 6), (.mov (.t 0)), (some (5, true)), false⟩, ⟨(some 7), (.bin .neq (.t 6) (ci 18)), (some (5, true)), false⟩, qo 8 (.pick (.t 5) (.t 7) (.c (.d (.bool false)))), qo 2 (.asg (.t 8))]
def Jqcl (p : Nums) : IC := (.region (Jqcm p) [])
@[simp] theorem Jecl {p : Nums} : EqI (Jqcl p) (.region (Jqcm p) []) := eqi
def Jtbk (p : Nums) : IC := (.seq (.region [⟨(some 2), (.asg (.c (.d (.bool false)))), none, false⟩] []) (.seq (Jqcl p) .ret))
@[simp] def Jqst (p : Nums) : List IOp := [qo 5 (.mov (.t 0)), qo 6 (.len (.t 5)), qo 7 (.mov (ci 0))]
def Jqsn (p : Nums) : IC := (.region (Jqst p) [])
@[simp] theorem Jesn {p : Nums} : EqI (Jqsn p) (.region (Jqst p) []) := eqi
@[simp] def Jqsu (p : Nums) : List IOp := [qo 9 (.iaddr 3 (.t 5) (.t 7)), qo 10 (.load (some 3) (.t 9)), qo 4 (.alloc [(zi 0), (.d (.bool false)), (zi 0)]), qn (.store 3 (.t 4) (.t 10))]
def Jqso (p : Nums) : IC := (.region (Jqsu p) [])
@[simp] theorem Jeso {p : Nums} : EqI (Jqso p) (.region (Jqsu p) []) := eqi
@[simp] def Jqsv (p : Nums) : List IOp := [qo 11 (.faddr 1 (.t 4)), qo 12 (.load none (.t 11)), qo 13 (.mov (.t 12)), ⟨(some 14), (.faddr 0 (.t 4)), (some (13, true)), false⟩, ⟨(some 15), (.load none (.t 14)), (some (13, true)), false⟩, ⟨(some 16), (.bin .lss (.t 15) (ci 0)), (some (13, true)), false⟩, ⟨(some 17), (.mov (.t 16)), (some (13, true)), false⟩, ⟨(some 18), (.faddr 0 (.t 4)), (some (17, false)), false⟩, ⟨(some 19), (.load none (.t 18)), (some (17, false)), false⟩, ⟨(some 20), (.faddr 2 (.t 4)), (some (17, false)), false⟩, ⟨(some 21), (.load none (.t 20)), (some (17, false)), false⟩, ⟨(some 22), (.bin .geq (.t 19) (.t 21)), (some (17, false)), false⟩, ⟨(some 23), (.pick (.t 17) (.c (.d (.bool true))) (.t 22)), (some (13, true)), false⟩, qo 24 (.pick (.t 13) (.t 23) (.c (.d (.bool false))))]
def Jqsp (p : Nums) : IC := (.region (Jqsv p) [])
@[simp] theorem Jesp {p : Nums} : EqI (Jqsp p) (.region (Jqsv p) []) := eqi
def Jqsq (p : Nums) : IC := (.seq (.region [⟨(some 2), (.asg (.c (.d (.bool false)))), none, false⟩] []) .ret)
@[simp] theorem Jesq {p : Nums} : EqI (Jqsq p) (.seq (.region [⟨(some 2), (.asg (.c (.d (.bool false)))), none, false⟩] []) .ret) := eqi
def Jqsr (p : Nums) : IC := (.seq (Jqso p) (.seq (Jqsp p) (.cond (.t 24) (Jqsq p) .skip)))
@[simp] theorem Jesr {p : Nums} : EqI (Jqsr p) (.seq (Jqso p) (.seq (Jqsp p) (.cond (.t 24) (Jqsq p) .skip))) := eqi
def Jqss (p : Nums) : IC := (.seq (.region [⟨(some 8), (.bin .lss (.t 7) (.t 6)), none, false⟩] []) (.seq (.cond (.t 8) .skip (.exit 0)) (.seq (.block 1 (Jqsr p)) (.region [⟨(some 25), (.bin .add (.t 7) (.c (.d (.int .i64 1)))), none, false⟩, ⟨(some 7), (.mov (.t 25)), none, false⟩] []))))
@[simp] theorem Jess {p : Nums} : EqI (Jqss p) (.seq (.region [⟨(some 8), (.bin .lss (.t 7) (.t 6)), none, false⟩] []) (.seq (.cond (.t 8) .skip (.exit 0)) (.seq (.block 1 (Jqsr p)) (.region [⟨(some 25), (.bin .add (.t 7) (.c (.d (.int .i64 1)))), none, false⟩, ⟨(some 7), (.mov (.t 25)), none, false⟩] [])))) := eqi
def Jtd0 (p : Nums) : IC := (.seq (.region [⟨(some 2), (.asg (.c (.d (.bool false)))), none, false⟩] []) (.seq (.seq (Jqsn p) (.block 0 (.loop (Jqss p)))) (.seq (.region [⟨(some 2), (.asg (.c (.d (.bool true)))), none, false⟩] []) .ret)))
@[simp] def Jqs9 (p : Nums) : List IOp := [qo 5 (.mov (.t 0)), qo 6 (.len (.t 5)), qo 7 (.mov (ci 0))]
def Jqs3 (p : Nums) : IC := (.region (Jqs9 p) [])
@[simp] theorem Jes3 {p : Nums} : EqI (Jqs3 p) (.region (Jqs9 p) []) := eqi
@[simp] def Jqsa (p : Nums) : List IOp := [qo 9 (.iaddr 3 (.t 5) (.t 7)), qo 10 (.load (some 3) (.t 9)), qo 4 (.alloc [(zi 0), (.d (.bool false)), (zi 0)]), qn (.store 3 (.t 4) (.t 10))]
def Jqs4 (p : Nums) : IC := (.region (Jqsa p) [])
@[simp] theorem Jes4 {p : Nums} : EqI (Jqs4 p) (.region (Jqsa p) []) := eqi
@[simp] def Jqsb (p : Nums) : List IOp := [qo 11 (.faddr 1 (.t 4)), qo 12 (.load none (.t 11)), qo 13 (.un .not (.t 12)), qo 14 (.mov (.t 13)), ⟨(some 15), (.faddr 0 (.t 4)), (some (14, true)), false⟩, ⟨(some 16), (.load none (.t 15)), (some (14, true)), false⟩, ⟨(some 17), (.bin .neq (.t 16) (ci 0)), (some (14, true)), false⟩, qo 18 (.pick (.t 14) (.t 17) (.c (.d (.bool false))))]
def Jqs5 (p : Nums) : IC := (.region (Jqsb p) [])
@[simp] theorem Jes5 {p : Nums} : EqI (Jqs5 p) (.region (Jqsb p) []) := eqi
def Jqs6 (p : Nums) : IC := (.seq (.region [⟨(some 2), (.asg (.c (.d (.bool false)))), none, false⟩] []) .ret)
@[simp] theorem Jes6 {p : Nums} : EqI (Jqs6 p) (.seq (.region [⟨(some 2), (.asg (.c (.d (.bool false)))), none, false⟩] []) .ret) := eqi
def Jqs7 (p : Nums) : IC := (.seq (Jqs4 p) (.seq (Jqs5 p) (.cond (.t 18) (Jqs6 p) .skip)))
@[simp] theorem Jes7 {p : Nums} : EqI (Jqs7 p) (.seq (Jqs4 p) (.seq (Jqs5 p) (.cond (.t 18) (Jqs6 p) .skip))) := eqi
def Jqs8 (p : Nums) : IC := (.seq (.region [⟨(some 8), (.bin .lss (.t 7) (.t 6)), none, false⟩] []) (.seq (.cond (.t 8) .skip (.exit 0)) (.seq (.block 1 (Jqs7 p)) (.region [⟨(some 19), (.bin .add (.t 7) (.c (.d (.int .i64 1)))), none, false⟩, ⟨(some 7), (.mov (.t 19)), none, false⟩] []))))
@[simp] theorem Jes8 {p : Nums} : EqI (Jqs8 p) (.seq (.region [⟨(some 8), (.bin .lss (.t 7) (.t 6)), none, false⟩] []) (.seq (.cond (.t 8) .skip (.exit 0)) (.seq (.block 1 (Jqs7 p)) (.region [⟨(some 19), (.bin .add (.t 7) (.c (.d (.int .i64 1)))), none, false⟩, ⟨(some 7), (.mov (.t 19)), none, false⟩] [])))) := eqi
def Jtcy (p : Nums) : IC := (.seq (.region [⟨(some 2), (.asg (.c (.d (.bool false)))), none, false⟩] []) (.seq (.seq (Jqs3 p) (.block 0 (.loop (Jqs8 p)))) (.seq (.region [⟨(some 2), (.asg (.c (.d (.bool true)))), none, false⟩] []) .ret)))
@[simp] def Jqbw (p : Nums) : List IOp := [qo 3 (.mov (.t 0)), qo 4 (.call p.opcode_known [(.t 3)]), qo 5 (.mov (.t 4)), ⟨(some 6), (.mov (.t 0)), (some (5, true)), false⟩, ⟨(some 7), (.bin .neq (.t 6) (ci 2)), (some (5, true)), false⟩, qo 8 (.pick (.t 5) (.t 7) (.c (.d (.bool false)))), qo 2 (.asg (.t 8))]
def Jqbv (p : Nums) : IC := (.region (Jqbw p) [])
@[simp] theorem Jebv {p : Nums} : EqI (Jqbv p) (.region (Jqbw p) []) := eqi
def Jtbi (p : Nums) : IC := (.seq (.region [⟨(some 2), (.asg (.c (.d (.bool false)))), none, false⟩] []) (.seq (Jqbv p) .ret))
@[simp] def Jqbu (p : Nums) : List IOp := [qo 1 (.build [.nilfn, .nilfn] [(0, 1, (.c (.fn (.func p.machine_others_1) [] []))), (1, 1, (.c (.fn (.func p.machine_others_2) [] [])))]), qn (.store 2 (.t 0) (.t 1))]
def Jqbt (p : Nums) : IC := (.region (Jqbu p) [])
@[simp] theorem Jebt {p : Nums} : EqI (Jqbt p) (.region (Jqbu p) []) := eqi
def Jtbf (p : Nums) : IC := (.seq (.region [⟨(some 0), (.alloc [.nilfn, .nilfn]), none, false⟩] []) (.seq (Jqbt p) .ret))
@[simp] def Jqbo (p : Nums) : List IOp := [qo 1 (.build [.nilfn, .nilfn] [(0, 1, (.c (.fn (.func p.machine_moves_1) [] []))), (1, 1, (.c (.fn (.func p.machine_moves_2) [] [])))]), qn (.store 2 (.t 0) (.t 1))]
def Jqbn (p : Nums) : IC := (.region (Jqbo p) [])
@[simp] theorem Jebn {p : Nums} : EqI (Jqbn p) (.region (Jqbo p) []) := eqi
def Jtbc (p : Nums) : IC := (.seq (.region [⟨(some 0), (.alloc [.nilfn, .nilfn]), none, false⟩] []) (.seq (Jqbn p) .ret))
@[simp] def Jq9c (p : Nums) : List IOp := [qo 3 (.mov (.t 0)), qo 4 (.bin .rem (.t 3) (ci 2)), qo 5 (.bin .eql (.t 4) (ci 1)), qo 2 (.asg (.t 5))]
def Jq9b (p : Nums) : IC := (.region (Jq9c p) [])
@[simp] theorem Je9b {p : Nums} : EqI (Jq9b p) (.region (Jq9c p) []) := eqi
def Jtb5 (p : Nums) : IC := (.seq (.region [⟨(some 2), (.asg (.c (.d (.bool false)))), none, false⟩] []) (.seq (Jq9b p) .ret))
@[simp] def Jq9a (p : Nums) : List IOp := [qo 3 (.mov (.t 0)), qo 4 (.bin .quo (.t 3) (ci 2)), qo 2 (.asg (.t 4))]
def Jq99 (p : Nums) : IC := (.region (Jq9a p) [])
@[simp] theorem Je99 {p : Nums} : EqI (Jq99 p) (.region (Jq9a p) []) := eqi
def Jtb4 (p : Nums) : IC := (.seq (.region [⟨(some 2), (.asg (.c (.d (.int .i64 0)))), none, false⟩] []) (.seq (Jq99 p) .ret))
@[simp] def Jq22 (p : Nums) : List IOp := [qp 2 (.mov (.t 0)), qp 3 (.nilck (.t 2)), qp 4 (.faddr 2 (.t 3)), qp 5 (.load none (.t 4)), qp 6 (.mov (.t 0)), qp 7 (.nilck (.t 6)), qp 8 (.faddr 0 (.t 7)), qp 9 (.load none (.t 8)), qp 10 (.len (.t 9)), qp 11 (.bin .add (ci 1) (.t 10)), qo 12 (.bin .add (.t 5) (.t 11)), qo 13 (.nilck (.t 2)), qo 14 (.faddr 2 (.t 13)), qn (.store 1 (.t 14) (.t 12))]
def Jq21 (p : Nums) : IC := (.region (Jq22 p) [])
@[simp] theorem Je21 {p : Nums} : EqI (Jq21 p) (.region (Jq22 p) []) := eqi
def Jtak (p : Nums) : IC := (Jq21 p)
@[simp] def Jq1y (p : Nums) : List IOp := [qo 6 (.mov (.t 0)), qo 7 (.mov (.t 0)), qo 8 (.mov (.t 1)), qo 9 (.mov (.t 0)), qo 10 (.nilck (.t 9)), qo 11 (.faddr 3 (.t 10)), qo 12 (.load none (.t 11)), qo 13 (.mov (.t 1)), qo 14 (.len (.t 13)), qo 15 (.mx (.t 12) (.t 14)), qo 16 (.nilck (.t 6)), qo 17 (.faddr 0 (.t 16)), qn (.store 1 (.t 17) (.t 8)), qo 18 (.nilck (.t 7)), qo 19 (.faddr 3 (.t 18)), qn (.store 1 (.t 19) (.t 15))]
def Jq1v (p : Nums) : IC := (.region (Jq1y p) [])
@[simp] theorem Je1v {p : Nums} : EqI (Jq1v p) (.region (Jq1y p) []) := eqi
@[simp] def Jq1z (p : Nums) : List IOp := [qo 20 (.mov (.t 1)), qo 21 (.len (.t 20)), qo 22 (.mov (.t 0)), qo 23 (.nilck (.t 22)), qo 24 (.faddr 1 (.t 23)), qo 25 (.load none (.t 24)), qo 26 (.bin .gtr (.t 21) (.t 25))]
def Jq1w (p : Nums) : IC := (.region (Jq1z p) [])
@[simp] theorem Je1w {p : Nums} : EqI (Jq1w p) (.region (Jq1z p) []) := eqi
@[simp] def Jq20 (p : Nums) : List IOp := [qo 27 (.mov (.t 2)), qo 28 (.build [(zi 0), (zi 0)] [(0, 1, (ci 24)), (1, 1, (.t 27))]), qo 29 (.mkif p.ty_bcfail (.t 28)), qn (.pan (.t 29))]
def Jq1x (p : Nums) : IC := (.region (Jq20 p) [])
@[simp] theorem Je1x {p : Nums} : EqI (Jq1x p) (.region (Jq20 p) []) := eqi
def Jtaj (p : Nums) : IC := (.seq (Jq1v p) (.seq (Jq1w p) (.cond (.t 26) (Jq1x p) .skip)))
@[simp] def Jqsz (p : Nums) : List IOp := [qo 7 (.load none (.t 4)), qo 8 (.load none (.t 5)), qo 9 (.bin .eql (.t 7) (.t 8))]
def Jqsw (p : Nums) : IC := (.region (Jqsz p) [])
@[simp] theorem Jesw {p : Nums} : EqI (Jqsw p) (.region (Jqsz p) []) := eqi
@[simp] def Jqt0 (p : Nums) : List IOp := [qo 10 (.mov (.t 0)), qo 11 (.call p.pairset_Make [(.t 10)]), qo 6 (.asg (.t 11))]
def Jqsx (p : Nums) : IC := (.region (Jqt0 p) [])
@[simp] theorem Jesx {p : Nums} : EqI (Jqsx p) (.region (Jqt0 p) []) := eqi
@[simp] def Jqt1 (p : Nums) : List IOp := [qo 12 (.mov (.t 0)), qo 13 (.load none (.t 4)), qo 14 (.call p.pairset_DropV [(.t 12), (.t 13)]), qo 15 (.mov (.t 0)), qo 16 (.mkfn (.func p.transfer_Copy_1) [] [(.t 4), (.t 5)]), qo 17 (.call p.transfer_rename [(.t 14), (.t 15), (.t 16)]), qo 6 (.asg (.t 17))]
def Jqsy (p : Nums) : IC := (.region (Jqt1 p) [])
@[simp] theorem Jesy {p : Nums} : EqI (Jqsy p) (.region (Jqt1 p) []) := eqi
def Jtd1 (p : Nums) : IC := (.seq (.region [⟨(some 4), (.box (.t 1)), none, false⟩, ⟨(some 5), (.box (.t 2)), none, false⟩, ⟨(some 6), (.asg (.c .nils)), none, false⟩] []) (.seq (.seq (Jqsw p) (.cond (.t 9) (.seq (Jqsx p) .ret) .skip)) (.seq (Jqsy p) .ret)))
@[simp] def Jqt9 (p : Nums) : List IOp := [qo 7 (.load none (.t 4)), qo 8 (.load none (.t 5)), qo 9 (.bin .eql (.t 7) (.t 8))]
def Jqt6 (p : Nums) : IC := (.region (Jqt9 p) [])
@[simp] theorem Jet6 {p : Nums} : EqI (Jqt6 p) (.region (Jqt9 p) []) := eqi
@[simp] def Jqta (p : Nums) : List IOp := [qo 10 (.mov (.t 0)), qo 11 (.call p.pairset_Make [(.t 10)]), qo 6 (.asg (.t 11))]
def Jqt7 (p : Nums) : IC := (.region (Jqta p) [])
@[simp] theorem Jet7 {p : Nums} : EqI (Jqt7 p) (.region (Jqta p) []) := eqi
@[simp] def Jqtb (p : Nums) : List IOp := [qo 12 (.mov (.t 0)), qo 13 (.load none (.t 4)), qo 14 (.call p.pairset_DropL [(.t 12), (.t 13)]), qo 15 (.mov (.t 0)), qo 16 (.mkfn (.func p.transfer_Move_1) [] [(.t 4), (.t 5)]), qo 17 (.call p.transfer_rename [(.t 14), (.t 15), (.t 16)]), qo 6 (.asg (.t 17))]
def Jqt8 (p : Nums) : IC := (.region (Jqtb p) [])
@[simp] theorem Jet8 {p : Nums} : EqI (Jqt8 p) (.region (Jqtb p) []) := eqi
def Jtd3 (p : Nums) : IC := (.seq (.region [⟨(some 4), (.box (.t 1)), none, false⟩, ⟨(some 5), (.box (.t 2)), none, false⟩, ⟨(some 6), (.asg (.c .nils)), none, false⟩] []) (.seq (.seq (Jqt6 p) (.cond (.t 9) (.seq (Jqt7 p) .ret) .skip)) (.seq (Jqt8 p) .ret)))
@[simp] def Jq28 (p : Nums) : List IOp := [qo 11 (.faddr 0 (.t 5)), qo 12 (.load none (.t 11)), qo 13 (.call p.opcode_Of [(.t 12)]), qo 10 (.mov (.t 13)), qo 14 (.ext (.t 10) 0), qo 15 (.ext (.t 10) 1), qo 8 (.alloc [(.d (.bool false)), (.d (.bool false)), (.d (.bool false)), (.d (.bool false))]), qn (.store 4 (.t 8) (.t 14)), qo 9 (.asg (.t 15))]
def Jq23 (p : Nums) : IC := (.region (Jq28 p) [])
@[simp] theorem Je23 {p : Nums} : EqI (Jq23 p) (.region (Jq28 p) []) := eqi
@[simp] def Jq29 (p : Nums) : List IOp := [qo 18 (.mov (.t 0)), qo 19 (.faddr 2 (.t 5)), qo 20 (.load none (.t 19)), qo 21 (.faddr 2 (.t 6)), qo 22 (.load none (.t 21)), qo 23 (.mov (.t 3)), qo 24 (.call p.blockcheck_checker_use [(.t 18), (.t 20), (.t 22), (.t 23)])]
def Jq24 (p : Nums) : IC := (.region (Jq29 p) [])
@[simp] theorem Je24 {p : Nums} : EqI (Jq24 p) (.region (Jq29 p) []) := eqi
@[simp] def Jq2a (p : Nums) : List IOp := [qo 27 (.mov (.t 0)), qo 28 (.faddr 3 (.t 5)), qo 29 (.load none (.t 28)), qo 30 (.faddr 3 (.t 6)), qo 31 (.load none (.t 30)), qo 32 (.mov (.t 3)), qo 33 (.call p.blockcheck_checker_use [(.t 27), (.t 29), (.t 31), (.t 32)])]
def Jq25 (p : Nums) : IC := (.region (Jq2a p) [])
@[simp] theorem Je25 {p : Nums} : EqI (Jq25 p) (.region (Jq2a p) []) := eqi
@[simp] def Jq2b (p : Nums) : List IOp := [qp 38 (.mov (.t 0)), qp 39 (.mov (.t 0)), qp 40 (.nilck (.t 39)), qp 41 (.faddr 0 (.t 40)), qp 42 (.load none (.t 41)), qp 43 (.faddr 1 (.t 5)), qp 44 (.load none (.t 43)), qp 45 (.faddr 1 (.t 6)), qp 46 (.load none (.t 45)), qp 47 (.call p.location_Reg [(.t 46)]), qp 48 (.call p.transfer_Define [(.t 42), (.t 44), (.t 47)]), qp 49 (.mov (.t 3)), qo 50 (.call p.blockcheck_checker_become [(.t 38), (.t 48), (.t 49)])]
def Jq26 (p : Nums) : IC := (.region (Jq2b p) [])
@[simp] theorem Je26 {p : Nums} : EqI (Jq26 p) (.region (Jq2b p) []) := eqi
def Jq27 (p : Nums) : IC := (.seq (.region [⟨(some 36), (.mov (.t 0)), none, false⟩, ⟨(some 37), (.call p.blockcheck_checker_cost [(.t 36)]), none, false⟩] []) (Jq26 p))
@[simp] theorem Je27 {p : Nums} : EqI (Jq27 p) (.seq (.region [⟨(some 36), (.mov (.t 0)), none, false⟩, ⟨(some 37), (.call p.blockcheck_checker_cost [(.t 36)]), none, false⟩] []) (Jq26 p)) := eqi
def Jtal (p : Nums) : IC := (.seq (.region [⟨(some 5), (.box (.t 1)), none, false⟩, ⟨(some 6), (.box (.t 2)), none, false⟩] []) (.seq (Jq23 p) (.seq (.seq (.region [⟨(some 16), (.faddr 1 (.t 8)), none, false⟩, ⟨(some 17), (.load none (.t 16)), none, false⟩] []) (.cond (.t 17) (Jq24 p) .skip)) (.seq (.seq (.region [⟨(some 25), (.faddr 2 (.t 8)), none, false⟩, ⟨(some 26), (.load none (.t 25)), none, false⟩] []) (.cond (.t 26) (Jq25 p) .skip)) (.seq (.region [⟨(some 34), (.faddr 0 (.t 8)), none, false⟩, ⟨(some 35), (.load none (.t 34)), none, false⟩] []) (.cond (.t 35) (Jq27 p) .skip))))))
@[simp] def Jqdb (p : Nums) : List IOp := [qo 6 (.mov (.t 0)), qo 7 (.load (some 2) (.t 3)), qo 8 (.call p.pairset_find [(.t 6), (.t 7)]), qo 5 (.asg (.t 8))]
def Jqd9 (p : Nums) : IC := (.region (Jqdb p) [])
@[simp] theorem Jed9 {p : Nums} : EqI (Jqd9 p) (.region (Jqdb p) []) := eqi
@[simp] def Jqdc (p : Nums) : List IOp := [qp 9 (.mov (.t 5)), qp 10 (.mov (.t 0)), qp 11 (.len (.t 10)), qo 12 (.bin .lss (.t 9) (.t 11)), qo 13 (.mov (.t 12)), ⟨(some 14), (.mov (.t 0)), (some (13, true)), true⟩, ⟨(some 15), (.mov (.t 5)), (some (13, true)), true⟩, ⟨(some 16), (.iaddr 2 (.t 14) (.t 15)), (some (13, true)), true⟩, ⟨(some 17), (.load (some 2) (.t 16)), (some (13, true)), true⟩, ⟨(some 18), (.load (some 2) (.t 3)), (some (13, true)), true⟩, ⟨(some 19), (.eqs false [.int, .int] (.t 17) (.t 18)), (some (13, true)), false⟩, qo 20 (.pick (.t 13) (.t 19) (.c (.d (.bool false)))), qo 4 (.asg (.t 20))]
def Jqda (p : Nums) : IC := (.region (Jqdc p) [])
@[simp] theorem Jeda {p : Nums} : EqI (Jqda p) (.region (Jqdc p) []) := eqi
def Jtbr (p : Nums) : IC := (.seq (.region [⟨(some 3), (.box (.t 1)), none, false⟩, ⟨(some 4), (.asg (.c (.d (.bool false)))), none, false⟩] []) (.seq (Jqd9 p) (.seq (Jqda p) .ret)))
@[simp] def Jqco (p : Nums) : List IOp := [qo 3 (.mov (.t 0)), qo 4 (.bin .geq (.t 3) (ci 1)), qo 5 (.mov (.t 4)), ⟨(some 6), (.mov (.t 0)), (some (5, true)), false⟩, ⟨(some 7), (.bin .leq (.t 6) (ci 18)), (some (5, true)), false⟩, qo 8 (.pick (.t 5) (.t 7) (.c (.d (.bool false)))), qo 2 (.asg (.t 8))]
def Jqcn (p : Nums) : IC := (.region (Jqco p) [])
@[simp] theorem Jecn {p : Nums} : EqI (Jqcn p) (.region (Jqco p) []) := eqi
def Jtbl (p : Nums) : IC := (.seq (.region [⟨(some 2), (.asg (.c (.d (.bool false)))), none, false⟩] []) (.seq (Jqcn p) .ret))
@[simp] def Jqbq (p : Nums) : List IOp := [qo 7 (.faddr 0 (.t 3)), qo 8 (.load none (.t 7)), qo 9 (.faddr 1 (.t 3)), qo 10 (.load none (.t 9)), qo 11 (.faddr 2 (.t 3)), qo 12 (.load none (.t 11)), qo 13 (.faddr 3 (.t 3)), qo 14 (.load none (.t 13)), qo 15 (.faddr 4 (.t 3)), qo 16 (.load none (.t 15)), qo 17 (.build [(zi 0), (zi 0), (zi 0), (zi 0), (zi 0)] [(0, 1, (.t 8)), (1, 1, (.t 10)), (2, 1, (.t 12)), (3, 1, (.t 14)), (4, 1, (.t 16))]), qo 18 (.mov (.t 1)), qo 19 (.call p.source_Instr [(.t 17), (.t 18)]), qo 6 (.asg (.t 19))]
def Jqbp (p : Nums) : IC := (.region (Jqbq p) [])
@[simp] theorem Jebp {p : Nums} : EqI (Jqbp p) (.region (Jqbq p) []) := eqi
def Jtbg (p : Nums) : IC := (.seq (.region [⟨(some 3), (.box (.t 0)), none, false⟩, ⟨(some 6), (.asg (.c (.d (.int .i64 0)))), none, false⟩] []) (.seq (Jqbp p) .ret))
@[simp] def Jqbs (p : Nums) : List IOp := [qo 3 (.faddr 5 (.t 1)), qo 4 (.load none (.t 3)), qo 5 (.bin .eql (.t 4) (ci 0)), qo 6 (.mov (.t 5)), ⟨(some 7), (.faddr 6 (.t 1)), (some (6, true)), false⟩, ⟨(some 8), (.load none (.t 7)), (some (6, true)), false⟩, ⟨(some 9), (.bin .eql (.t 8) (ci 0)), (some (6, true)), false⟩, qo 10 (.pick (.t 6) (.t 9) (.c (.d (.bool false)))), qo 2 (.asg (.t 10))]
def Jqbr (p : Nums) : IC := (.region (Jqbs p) [])
@[simp] theorem Jebr {p : Nums} : EqI (Jqbr p) (.region (Jqbs p) []) := eqi
def Jtbh (p : Nums) : IC := (.seq (.region [⟨(some 1), (.box (.t 0)), none, false⟩, ⟨(some 2), (.asg (.c (.d (.bool false)))), none, false⟩] []) (.seq (Jqbr p) .ret))
@[simp] def Jqbj (p : Nums) : List IOp := [qo 8 (.faddr 5 (.t 3)), qo 9 (.load none (.t 8)), qo 10 (.call p.location_IsSlot [(.t 9)]), qo 11 (.mov (.t 10)), ⟨(some 12), (.faddr 6 (.t 3)), (some (11, true)), false⟩, ⟨(some 13), (.load none (.t 12)), (some (11, true)), false⟩, ⟨(some 14), (.call p.location_IsSlot [(.t 13)]), (some (11, true)), false⟩, qo 15 (.pick (.t 11) (.t 14) (.c (.d (.bool false)))), qo 7 (.asg (.t 15))]
def Jqbg (p : Nums) : IC := (.region (Jqbj p) [])
@[simp] theorem Jebg {p : Nums} : EqI (Jqbg p) (.region (Jqbj p) []) := eqi
@[simp] def Jqbk (p : Nums) : List IOp := [qo 16 (.mov (.t 7)), qo 17 (.mov (.t 16)), ⟨(some 18), (.faddr 5 (.t 3)), (some (17, false)), false⟩, ⟨(some 19), (.load none (.t 18)), (some (17, false)), false⟩, ⟨(some 20), (.mov (.t 1)), (some (17, false)), false⟩, ⟨(some 21), (.mov (.t 2)), (some (17, false)), false⟩, ⟨(some 22), (.call p.location_InRange [(.t 19), (.t 20), (.t 21)]), (some (17, false)), false⟩, ⟨(some 23), (.un .not (.t 22)), (some (17, false)), false⟩, qo 24 (.pick (.t 17) (.c (.d (.bool true))) (.t 23)), qo 25 (.mov (.t 24)), ⟨(some 26), (.faddr 6 (.t 3)), (some (25, false)), false⟩, ⟨(some 27), (.load none (.t 26)), (some (25, false)), false⟩, ⟨(some 28), (.mov (.t 1)), (some (25, false)), false⟩, ⟨(some 29), (.mov (.t 2)), (some (25, false)), false⟩, ⟨(some 30), (.call p.location_InRange [(.t 27), (.t 28), (.t 29)]), (some (25, false)), false⟩, ⟨(some 31), (.un .not (.t 30)), (some (25, false)), false⟩, qo 32 (.pick (.t 25) (.c (.d (.bool true))) (.t 31))]
def Jqbh (p : Nums) : IC := (.region (Jqbk p) [])
@[simp] theorem Jebh {p : Nums} : EqI (Jqbh p) (.region (Jqbk p) []) := eqi
def Jqbi (p : Nums) : IC := (.seq (.region [⟨(some 6), (.asg (.c (.d (.int .i64 10)))), none, false⟩] []) .ret)
@[simp] theorem Jebi {p : Nums} : EqI (Jqbi p) (.seq (.region [⟨(some 6), (.asg (.c (.d (.int .i64 10)))), none, false⟩] []) .ret) := eqi
def Jtbd (p : Nums) : IC := (.seq (.region [⟨(some 3), (.box (.t 0)), none, false⟩, ⟨(some 6), (.asg (.c (.d (.int .i64 0)))), none, false⟩] []) (.seq (Jqbg p) (.seq (.seq (Jqbh p) (.cond (.t 32) (Jqbi p) .skip)) (.seq (.region [⟨(some 6), (.asg (.c (.d (.int .i64 0)))), none, false⟩] []) .ret))))
@[simp] def Jqbm (p : Nums) : List IOp := [qo 3 (.faddr 1 (.t 1)), qo 4 (.load none (.t 3)), qo 5 (.bin .eql (.t 4) (ci 0)), qo 6 (.mov (.t 5)), ⟨(some 7), (.faddr 2 (.t 1)), (some (6, true)), false⟩, ⟨(some 8), (.load none (.t 7)), (some (6, true)), false⟩, ⟨(some 9), (.bin .eql (.t 8) (ci 0)), (some (6, true)), false⟩, qo 10 (.pick (.t 6) (.t 9) (.c (.d (.bool false)))), qo 11 (.mov (.t 10)), ⟨(some 12), (.faddr 3 (.t 1)), (some (11, true)), false⟩, ⟨(some 13), (.load none (.t 12)), (some (11, true)), false⟩, ⟨(some 14), (.bin .eql (.t 13) (ci 0)), (some (11, true)), false⟩, qo 15 (.pick (.t 11) (.t 14) (.c (.d (.bool false)))), qo 16 (.mov (.t 15)), ⟨(some 17), (.faddr 4 (.t 1)), (some (16, true)), false⟩, ⟨(some 18), (.load none (.t 17)), (some (16, true)), false⟩, ⟨(some 19), (.bin .eql (.t 18) (ci 0)), (some (16, true)), false⟩, qo 20 (.pick (.t 16) (.t 19) (.c (.d (.bool false)))), qo 2 (.asg (.t 20))]
def Jqbl (p : Nums) : IC := (.region (Jqbm p) [])
@[simp] theorem Jebl {p : Nums} : EqI (Jqbl p) (.region (Jqbm p) []) := eqi
def Jtbe (p : Nums) : IC := (.seq (.region [⟨(some 1), (.box (.t 0)), none, false⟩, ⟨(some 2), (.asg (.c (.d (.bool false)))), none, false⟩] []) (.seq (Jqbl p) .ret))
@[simp] def Jqtj (p : Nums) : List IOp := [qo 12 (.mov (.t 1)), qo 13 (.len (.t 12)), qo 14 (.mov (ci 0))]
def Jqtc (p : Nums) : IC := (.region (Jqtj p) [])
@[simp] theorem Jetc {p : Nums} : EqI (Jqtc p) (.region (Jqtj p) []) := eqi
@[simp] def Jqtk (p : Nums) : List IOp := [qo 16 (.iaddr 2 (.t 12) (.t 14)), qo 17 (.load (some 2) (.t 16)), qo 9 (.alloc [(zi 0), (zi 0)]), qn (.store 2 (.t 9) (.t 17))]
def Jqtd (p : Nums) : IC := (.region (Jqtk p) [])
@[simp] theorem Jetd {p : Nums} : EqI (Jqtd p) (.region (Jqtk p) []) := eqi
@[simp] def Jqtl (p : Nums) : List IOp := [qo 19 (.mov (.t 2)), qo 20 (.load (some 2) (.t 9)), qo 21 (.callv (.t 19) [(.t 20)]), qo 18 (.mov (.t 21)), qo 22 (.ext (.t 18) 0), qo 23 (.ext (.t 18) 1), qo 10 (.alloc [(zi 0), (zi 0)]), qn (.store 2 (.t 10) (.t 22)), qo 11 (.asg (.t 23))]
def Jqte (p : Nums) : IC := (.region (Jqtl p) [])
@[simp] theorem Jete {p : Nums} : EqI (Jqte p) (.region (Jqtl p) []) := eqi
@[simp] def Jqtm (p : Nums) : List IOp := [qo 25 (.mov (.t 7)), qo 26 (.load (some 2) (.t 10)), qo 27 (.bslice 2 1 [(.int .i64 0), (.int .i64 0)] [(0, (.t 26))]), qo 28 (.app 2 16 (.t 25) (.t 27)), qo 7 (.asg (.t 28))]
def Jqtf (p : Nums) : IC := (.region (Jqtm p) [])
@[simp] theorem Jetf {p : Nums} : EqI (Jqtf p) (.region (Jqtm p) []) := eqi
def Jqtg (p : Nums) : IC := (.seq (Jqtd p) (.seq (Jqte p) (.seq (.region [⟨(some 24), (.mov (.t 11)), none, false⟩] []) (.cond (.t 24) (Jqtf p) .skip))))
@[simp] theorem Jetg {p : Nums} : EqI (Jqtg p) (.seq (Jqtd p) (.seq (Jqte p) (.seq (.region [⟨(some 24), (.mov (.t 11)), none, false⟩] []) (.cond (.t 24) (Jqtf p) .skip)))) := eqi
def Jqth (p : Nums) : IC := (.seq (.region [⟨(some 15), (.bin .lss (.t 14) (.t 13)), none, false⟩] []) (.seq (.cond (.t 15) .skip (.exit 0)) (.seq (.block 1 (Jqtg p)) (.region [⟨(some 29), (.bin .add (.t 14) (.c (.d (.int .i64 1)))), none, false⟩, ⟨(some 14), (.mov (.t 29)), none, false⟩] []))))
@[simp] theorem Jeth {p : Nums} : EqI (Jqth p) (.seq (.region [⟨(some 15), (.bin .lss (.t 14) (.t 13)), none, false⟩] []) (.seq (.cond (.t 15) .skip (.exit 0)) (.seq (.block 1 (Jqtg p)) (.region [⟨(some 29), (.bin .add (.t 14) (.c (.d (.int .i64 1)))), none, false⟩, ⟨(some 14), (.mov (.t 29)), none, false⟩] [])))) := eqi
@[simp] def Jqtn (p : Nums) : List IOp := [qo 30 (.mov (.t 0)), qo 31 (.mov (.t 7)), qo 32 (.call p.pairset_Make [(.t 31)]), qo 33 (.call p.pairset_Union [(.t 30), (.t 32)]), qo 6 (.asg (.t 33))]
def Jqti (p : Nums) : IC := (.region (Jqtn p) [])
@[simp] theorem Jeti {p : Nums} : EqI (Jqti p) (.region (Jqtn p) []) := eqi
def Jtd4 (p : Nums) : IC := (.seq (.region [⟨(some 6), (.asg (.c .nils)), none, false⟩] []) (.seq (.region [⟨(some 7), (.asg (.c .nils)), none, false⟩] []) (.seq (.seq (Jqtc p) (.block 0 (.loop (Jqth p)))) (.seq (Jqti p) .ret))))
@[simp] def Jqd8 (p : Nums) : List IOp := [qo 5 (.mov (.t 0)), qo 6 (.mkfn (.func p.pairset_DropV_1) [] [(.t 3)]), qo 7 (.call p.pairset_filter [(.t 5), (.t 6)]), qo 4 (.asg (.t 7))]
def Jqd7 (p : Nums) : IC := (.region (Jqd8 p) [])
@[simp] theorem Jed7 {p : Nums} : EqI (Jqd7 p) (.region (Jqd8 p) []) := eqi
def Jtbp (p : Nums) : IC := (.seq (.region [⟨(some 3), (.box (.t 1)), none, false⟩, ⟨(some 4), (.asg (.c .nils)), none, false⟩] []) (.seq (Jqd7 p) .ret))
@[simp] def Jqd4 (p : Nums) : List IOp := [qo 5 (.mov (.t 0)), qo 6 (.mkfn (.func p.pairset_DropL_1) [] [(.t 3)]), qo 7 (.call p.pairset_filter [(.t 5), (.t 6)]), qo 4 (.asg (.t 7))]
def Jqd3 (p : Nums) : IC := (.region (Jqd4 p) [])
@[simp] theorem Jed3 {p : Nums} : EqI (Jqd3 p) (.region (Jqd4 p) []) := eqi
def Jtbn (p : Nums) : IC := (.seq (.region [⟨(some 3), (.box (.t 1)), none, false⟩, ⟨(some 4), (.asg (.c .nils)), none, false⟩] []) (.seq (Jqd3 p) .ret))
@[simp] def Jqt4 (p : Nums) : List IOp := [qo 8 (.mov (.t 0)), qo 9 (.mov (.t 1)), qo 10 (.call p.pairset_DropV [(.t 8), (.t 9)]), qo 11 (.mov (.t 2)), qo 12 (.call p.pairset_DropL [(.t 10), (.t 11)]), qo 7 (.asg (.t 12))]
def Jqt2 (p : Nums) : IC := (.region (Jqt4 p) [])
@[simp] theorem Jet2 {p : Nums} : EqI (Jqt2 p) (.region (Jqt4 p) []) := eqi
@[simp] def Jqt5 (p : Nums) : List IOp := [qo 13 (.mov (.t 7)), qo 14 (.mov (.t 1)), qo 15 (.mov (.t 2)), qo 16 (.build [(zi 0), (zi 0)] [(0, 1, (.t 14)), (1, 1, (.t 15))]), qo 17 (.call p.pairset_Add [(.t 13), (.t 16)]), qo 6 (.asg (.t 17))]
def Jqt3 (p : Nums) : IC := (.region (Jqt5 p) [])
@[simp] theorem Jet3 {p : Nums} : EqI (Jqt3 p) (.region (Jqt5 p) []) := eqi
def Jtd2 (p : Nums) : IC := (.seq (.region [⟨(some 6), (.asg (.c .nils)), none, false⟩] []) (.seq (Jqt2 p) (.seq (Jqt3 p) .ret)))
@[simp] def Jqfe (p : Nums) : List IOp := [qo 8 (.mov (.t 0)), qo 9 (.len (.t 8)), qo 5 (.asg (ci 0)), qo 6 (.asg (.t 9))]
def Jqf6 (p : Nums) : IC := (.region (Jqfe p) [])
@[simp] theorem Jef6 {p : Nums} : EqI (Jqf6 p) (.region (Jqfe p) []) := eqi
@[simp] def Jqff (p : Nums) : List IOp := [qo 10 (.mov (.t 5)), qo 11 (.mov (.t 6)), qo 12 (.bin .lss (.t 10) (.t 11))]
def Jqf7 (p : Nums) : IC := (.region (Jqff p) [])
@[simp] theorem Jef7 {p : Nums} : EqI (Jqf7 p) (.region (Jqff p) []) := eqi
@[simp] def Jqfg (p : Nums) : List IOp := [qo 13 (.mov (.t 5)), qo 14 (.mov (.t 6)), qo 15 (.mov (.t 5)), qo 16 (.bin .sub (.t 14) (.t 15)), qo 17 (.bin .quo (.t 16) (ci 2)), qo 18 (.bin .add (.t 13) (.t 17)), qo 7 (.asg (.t 18))]
def Jqf8 (p : Nums) : IC := (.region (Jqfg p) [])
@[simp] theorem Jef8 {p : Nums} : EqI (Jqf8 p) (.region (Jqfg p) []) := eqi
@[simp] def Jqfh (p : Nums) : List IOp := [qp 19 (.mov (.t 0)), qp 20 (.mov (.t 7)), qp 21 (.iaddr 2 (.t 19) (.t 20)), qp 22 (.load (some 2) (.t 21)), qp 23 (.load (some 2) (.t 3)), qo 24 (.call p.pairset_Less [(.t 22), (.t 23)])]
def Jqf9 (p : Nums) : IC := (.region (Jqfh p) [])
@[simp] theorem Jef9 {p : Nums} : EqI (Jqf9 p) (.region (Jqfh p) []) := eqi
@[simp] def Jqfi (p : Nums) : List IOp := [qo 25 (.mov (.t 7)), qo 26 (.bin .add (.t 25) (ci 1)), qo 5 (.asg (.t 26))]
def Jqfa (p : Nums) : IC := (.region (Jqfi p) [])
@[simp] theorem Jefa {p : Nums} : EqI (Jqfa p) (.region (Jqfi p) []) := eqi
@[simp] def Jqfj (p : Nums) : List IOp := [qo 27 (.mov (.t 7)), qo 6 (.asg (.t 27))]
def Jqfb (p : Nums) : IC := (.region (Jqfj p) [])
@[simp] theorem Jefb {p : Nums} : EqI (Jqfb p) (.region (Jqfj p) []) := eqi
def Jqfc (p : Nums) : IC := (.seq (Jqf8 p) (.seq (Jqf9 p) (.cond (.t 24) (Jqfa p) (Jqfb p))))
@[simp] theorem Jefc {p : Nums} : EqI (Jqfc p) (.seq (Jqf8 p) (.seq (Jqf9 p) (.cond (.t 24) (Jqfa p) (Jqfb p)))) := eqi
def Jqfd (p : Nums) : IC := (.seq (.seq (Jqf7 p) (.cond (.t 12) .skip (.exit 0))) (.block 1 (Jqfc p)))
@[simp] theorem Jefd {p : Nums} : EqI (Jqfd p) (.seq (.seq (Jqf7 p) (.cond (.t 12) .skip (.exit 0))) (.block 1 (Jqfc p))) := eqi
def Jtbx (p : Nums) : IC := (.seq (.region [⟨(some 3), (.box (.t 1)), none, false⟩, ⟨(some 4), (.asg (.c (.d (.int .i64 0)))), none, false⟩] []) (.seq (Jqf6 p) (.seq (.block 0 (.loop (Jqfd p))) (.seq (.region [⟨(some 28), (.mov (.t 5)), none, false⟩, ⟨(some 4), (.asg (.t 28)), none, false⟩] []) .ret))))
@[simp] def Jqej (p : Nums) : List IOp := [qo 7 (.mov (.t 0)), qo 8 (.len (.t 7)), qo 9 (.mov (.t 1)), qo 10 (.len (.t 9)), qo 11 (.bin .add (.t 8) (.t 10)), qo 12 (.mkslice 2 16 [(.int .i64 0), (.int .i64 0)] (ci 0) (.t 11)), qo 5 (.asg (.t 12))]
def Jqe6 (p : Nums) : IC := (.region (Jqej p) [])
@[simp] theorem Jee6 {p : Nums} : EqI (Jqe6 p) (.region (Jqej p) []) := eqi
@[simp] def Jqem (p : Nums) : List IOp := [qo 13 (.mov (.t 0)), qo 14 (.len (.t 13)), qo 15 (.bin .gtr (.t 14) (ci 0)), qo 16 (.mov (.t 15)), ⟨(some 17), (.mov (.t 1)), (some (16, true)), false⟩, ⟨(some 18), (.len (.t 17)), (some (16, true)), false⟩, ⟨(some 19), (.bin .gtr (.t 18) (ci 0)), (some (16, true)), false⟩, qo 20 (.pick (.t 16) (.t 19) (.c (.d (.bool false))))]
def Jqeb (p : Nums) : IC := (.region (Jqem p) [])
@[simp] theorem Jeeb {p : Nums} : EqI (Jqeb p) (.region (Jqem p) []) := eqi
@[simp] def Jqen (p : Nums) : List IOp := [qo 21 (.mov (.t 0)), qo 22 (.iaddr 2 (.t 21) (ci 0)), qo 23 (.load (some 2) (.t 22)), qo 6 (.alloc [(zi 0), (zi 0)]), qn (.store 2 (.t 6) (.t 23))]
def Jqec (p : Nums) : IC := (.region (Jqen p) [])
@[simp] theorem Jeec {p : Nums} : EqI (Jqec p) (.region (Jqen p) []) := eqi
@[simp] def Jqeo (p : Nums) : List IOp := [qp 24 (.mov (.t 1)), qp 25 (.iaddr 2 (.t 24) (ci 0)), qp 26 (.load (some 2) (.t 25)), qp 27 (.load (some 2) (.t 6)), qo 28 (.call p.pairset_Less [(.t 26), (.t 27)])]
def Jqed (p : Nums) : IC := (.region (Jqeo p) [])
@[simp] theorem Jeed {p : Nums} : EqI (Jqed p) (.region (Jqeo p) []) := eqi
@[simp] def Jqep (p : Nums) : List IOp := [qo 29 (.mov (.t 1)), qo 30 (.iaddr 2 (.t 29) (ci 0)), qo 31 (.load (some 2) (.t 30)), qn (.store 2 (.t 6) (.t 31))]
def Jqee (p : Nums) : IC := (.region (Jqep p) [])
@[simp] theorem Jeee {p : Nums} : EqI (Jqee p) (.region (Jqep p) []) := eqi
@[simp] def Jqeq (p : Nums) : List IOp := [qo 32 (.mov (.t 5)), qo 33 (.load (some 2) (.t 6)), qo 34 (.bslice 2 1 [(.int .i64 0), (.int .i64 0)] [(0, (.t 33))]), qo 35 (.app 2 16 (.t 32) (.t 34)), qo 5 (.asg (.t 35))]
def Jqef (p : Nums) : IC := (.region (Jqeq p) [])
@[simp] theorem Jeef {p : Nums} : EqI (Jqef p) (.region (Jqeq p) []) := eqi
@[simp] def Jqer (p : Nums) : List IOp := [qp 36 (.mov (.t 0)), qp 37 (.iaddr 2 (.t 36) (ci 0)), qp 38 (.load (some 2) (.t 37)), qp 39 (.load (some 2) (.t 6)), qo 40 (.eqs false [.int, .int] (.t 38) (.t 39))]
def Jqeg (p : Nums) : IC := (.region (Jqer p) [])
@[simp] theorem Jeeg {p : Nums} : EqI (Jqeg p) (.region (Jqer p) []) := eqi
@[simp] def Jqes (p : Nums) : List IOp := [qo 41 (.mov (.t 0)), qo 42 (.slc 2 (.t 41) (some (ci 1)) none), qo 0 (.asg (.t 42))]
def Jqeh (p : Nums) : IC := (.region (Jqes p) [])
@[simp] theorem Jeeh {p : Nums} : EqI (Jqeh p) (.region (Jqes p) []) := eqi
@[simp] def Jqet (p : Nums) : List IOp := [qp 43 (.mov (.t 1)), qp 44 (.iaddr 2 (.t 43) (ci 0)), qp 45 (.load (some 2) (.t 44)), qp 46 (.load (some 2) (.t 6)), qo 47 (.eqs false [.int, .int] (.t 45) (.t 46))]
def Jqei (p : Nums) : IC := (.region (Jqet p) [])
@[simp] theorem Jeei {p : Nums} : EqI (Jqei p) (.region (Jqet p) []) := eqi
@[simp] def Jqek (p : Nums) : List IOp := [qo 48 (.mov (.t 1)), qo 49 (.slc 2 (.t 48) (some (ci 1)) none), qo 1 (.asg (.t 49))]
def Jqe7 (p : Nums) : IC := (.region (Jqek p) [])
@[simp] theorem Jee7 {p : Nums} : EqI (Jqe7 p) (.region (Jqek p) []) := eqi
def Jqe8 (p : Nums) : IC := (.seq (Jqec p) (.seq (.seq (Jqed p) (.cond (.t 28) (Jqee p) .skip)) (.seq (Jqef p) (.seq (.seq (Jqeg p) (.cond (.t 40) (Jqeh p) .skip)) (.seq (Jqei p) (.cond (.t 47) (Jqe7 p) .skip))))))
@[simp] theorem Jee8 {p : Nums} : EqI (Jqe8 p) (.seq (Jqec p) (.seq (.seq (Jqed p) (.cond (.t 28) (Jqee p) .skip)) (.seq (Jqef p) (.seq (.seq (Jqeg p) (.cond (.t 40) (Jqeh p) .skip)) (.seq (Jqei p) (.cond (.t 47) (Jqe7 p) .skip)))))) := eqi
def Jqe9 (p : Nums) : IC := (.seq (.seq (Jqeb p) (.cond (.t 20) .skip (.exit 0))) (.block 1 (Jqe8 p)))
@[simp] theorem Jee9 {p : Nums} : EqI (Jqe9 p) (.seq (.seq (Jqeb p) (.cond (.t 20) .skip (.exit 0))) (.block 1 (Jqe8 p))) := eqi
@[simp] def Jqel (p : Nums) : List IOp := [qo 50 (.mov (.t 5)), qo 51 (.mov (.t 0)), qo 52 (.app 2 16 (.t 50) (.t 51)), qo 53 (.mov (.t 1)), qo 54 (.app 2 16 (.t 52) (.t 53)), qo 4 (.asg (.t 54))]
def Jqea (p : Nums) : IC := (.region (Jqel p) [])
@[simp] theorem Jeea {p : Nums} : EqI (Jqea p) (.region (Jqel p) []) := eqi
def Jtbv (p : Nums) : IC := (.seq (.region [⟨(some 4), (.asg (.c .nils)), none, false⟩] []) (.seq (Jqe6 p) (.seq (.block 0 (.loop (Jqe9 p))) (.seq (Jqea p) .ret))))
@[simp] def Jqf1 (p : Nums) : List IOp := [qo 8 (.mov (.t 0)), qo 9 (.len (.t 8)), qo 10 (.mkslice 2 16 [(.int .i64 0), (.int .i64 0)] (ci 0) (.t 9)), qo 5 (.take (.t 10))]
def Jqeu (p : Nums) : IC := (.region (Jqf1 p) [])
@[simp] theorem Jeeu {p : Nums} : EqI (Jqeu p) (.region (Jqf1 p) []) := eqi
@[simp] def Jqf2 (p : Nums) : List IOp := [qo 11 (.mov (.t 0)), qo 12 (.len (.t 11)), qo 13 (.mov (ci 0))]
def Jqev (p : Nums) : IC := (.region (Jqf2 p) [])
@[simp] theorem Jeev {p : Nums} : EqI (Jqev p) (.region (Jqf2 p) []) := eqi
@[simp] def Jqf3 (p : Nums) : List IOp := [qo 15 (.iaddr 2 (.t 11) (.t 13)), qo 16 (.load (some 2) (.t 15)), qo 7 (.alloc [(zi 0), (zi 0)]), qn (.store 2 (.t 7) (.t 16))]
def Jqew (p : Nums) : IC := (.region (Jqf3 p) [])
@[simp] theorem Jeew {p : Nums} : EqI (Jqew p) (.region (Jqf3 p) []) := eqi
@[simp] def Jqf4 (p : Nums) : List IOp := [qo 17 (.mov (.t 1)), qo 18 (.load (some 2) (.t 7)), qo 19 (.callv (.t 17) [(.t 18)])]
def Jqex (p : Nums) : IC := (.region (Jqf4 p) [])
@[simp] theorem Jeex {p : Nums} : EqI (Jqex p) (.region (Jqf4 p) []) := eqi
@[simp] def Jqf5 (p : Nums) : List IOp := [qo 20 (.mov (.t 5)), qo 21 (.load (some 2) (.t 7)), qo 22 (.bslice 2 1 [(.int .i64 0), (.int .i64 0)] [(0, (.t 21))]), qo 23 (.app 2 16 (.t 20) (.t 22)), qo 5 (.take (.t 23))]
def Jqey (p : Nums) : IC := (.region (Jqf5 p) [])
@[simp] theorem Jeey {p : Nums} : EqI (Jqey p) (.region (Jqf5 p) []) := eqi
def Jqez (p : Nums) : IC := (.seq (Jqew p) (.seq (Jqex p) (.cond (.t 19) (Jqey p) .skip)))
@[simp] theorem Jeez {p : Nums} : EqI (Jqez p) (.seq (Jqew p) (.seq (Jqex p) (.cond (.t 19) (Jqey p) .skip))) := eqi
def Jqf0 (p : Nums) : IC := (.seq (.region [⟨(some 14), (.bin .lss (.t 13) (.t 12)), none, false⟩] []) (.seq (.cond (.t 14) .skip (.exit 0)) (.seq (.block 1 (Jqez p)) (.region [⟨(some 24), (.bin .add (.t 13) (.c (.d (.int .i64 1)))), none, false⟩, ⟨(some 13), (.mov (.t 24)), none, false⟩] []))))
@[simp] theorem Jef0 {p : Nums} : EqI (Jqf0 p) (.seq (.region [⟨(some 14), (.bin .lss (.t 13) (.t 12)), none, false⟩] []) (.seq (.cond (.t 14) .skip (.exit 0)) (.seq (.block 1 (Jqez p)) (.region [⟨(some 24), (.bin .add (.t 13) (.c (.d (.int .i64 1)))), none, false⟩, ⟨(some 13), (.mov (.t 24)), none, false⟩] [])))) := eqi
def Jtbw (p : Nums) : IC := (.seq (.region [⟨(some 4), (.asg (.c .nils)), none, false⟩] []) (.seq (Jqeu p) (.seq (.seq (Jqev p) (.block 0 (.loop (Jqf0 p)))) (.seq (.region [⟨(some 25), (.mov (.t 5)), none, false⟩, ⟨(some 4), (.take (.t 25)), none, false⟩] []) .ret))))
@[simp] def Jqd6 (p : Nums) : List IOp := [qo 4 (.faddr 0 (.t 2)), qo 5 (.load none (.t 4)), qo 6 (.load none (.t 1)), qo 7 (.bin .neq (.t 5) (.t 6)), qo 3 (.asg (.t 7))]
def Jqd5 (p : Nums) : IC := (.region (Jqd6 p) [])
@[simp] theorem Jed5 {p : Nums} : EqI (Jqd5 p) (.region (Jqd6 p) []) := eqi
def Jtbq (p : Nums) : IC := (.seq (.region [⟨(some 2), (.box (.t 0)), none, false⟩, ⟨(some 3), (.asg (.c (.d (.bool false)))), none, false⟩] []) (.seq (Jqd5 p) .ret))
@[simp] def Jqd2 (p : Nums) : List IOp := [qo 4 (.faddr 1 (.t 2)), qo 5 (.load none (.t 4)), qo 6 (.load none (.t 1)), qo 7 (.bin .neq (.t 5) (.t 6)), qo 3 (.asg (.t 7))]
def Jqd1 (p : Nums) : IC := (.region (Jqd2 p) [])
@[simp] theorem Jed1 {p : Nums} : EqI (Jqd1 p) (.region (Jqd2 p) []) := eqi
def Jtbo (p : Nums) : IC := (.seq (.region [⟨(some 2), (.box (.t 0)), none, false⟩, ⟨(some 3), (.asg (.c (.d (.bool false)))), none, false⟩] []) (.seq (Jqd1 p) .ret))
@[simp] def Jqcv (p : Nums) : List IOp := [qo 7 (.mov (.t 0)), qo 8 (.load (some 2) (.t 3)), qo 9 (.call p.pairset_find [(.t 7), (.t 8)]), qo 5 (.asg (.t 9))]
def Jqcp (p : Nums) : IC := (.region (Jqcv p) [])
@[simp] theorem Jecp {p : Nums} : EqI (Jqcp p) (.region (Jqcv p) []) := eqi
@[simp] def Jqcw (p : Nums) : List IOp := [qo 10 (.mov (.t 0)), qo 11 (.len (.t 10)), qo 12 (.bin .add (.t 11) (ci 1)), qo 13 (.mkslice 2 16 [(.int .i64 0), (.int .i64 0)] (ci 0) (.t 12)), qo 6 (.asg (.t 13))]
def Jqcq (p : Nums) : IC := (.region (Jqcw p) [])
@[simp] theorem Jecq {p : Nums} : EqI (Jqcq p) (.region (Jqcw p) []) := eqi
@[simp] def Jqcx (p : Nums) : List IOp := [qp 14 (.mov (.t 6)), qp 15 (.mov (.t 0)), qp 16 (.mov (.t 5)), qp 17 (.slc 2 (.t 15) none (some (.t 16))), qp 18 (.appq 2 16 (.t 14) (.t 17) 6), qp 19 (.load (some 2) (.t 3)), qp 20 (.bslice 2 1 [(.int .i64 0), (.int .i64 0)] [(0, (.t 19))]), qo 21 (.app 2 16 (.t 18) (.t 20)), qo 6 (.asg (.t 21))]
def Jqcr (p : Nums) : IC := (.region (Jqcx p) [41])
@[simp] theorem Jecr {p : Nums} : EqI (Jqcr p) (.region (Jqcx p) [41]) := eqi
@[simp] def Jqcy (p : Nums) : List IOp := [qp 22 (.mov (.t 5)), qp 23 (.mov (.t 0)), qp 24 (.len (.t 23)), qo 25 (.bin .lss (.t 22) (.t 24)), qo 26 (.mov (.t 25)), ⟨(some 27), (.mov (.t 0)), (some (26, true)), true⟩, ⟨(some 28), (.mov (.t 5)), (some (26, true)), true⟩, ⟨(some 29), (.iaddr 2 (.t 27) (.t 28)), (some (26, true)), true⟩, ⟨(some 30), (.load (some 2) (.t 29)), (some (26, true)), true⟩, ⟨(some 31), (.load (some 2) (.t 3)), (some (26, true)), true⟩, ⟨(some 32), (.eqs false [.int, .int] (.t 30) (.t 31)), (some (26, true)), false⟩, qo 33 (.pick (.t 26) (.t 32) (.c (.d (.bool false))))]
def Jqcs (p : Nums) : IC := (.region (Jqcy p) [])
@[simp] theorem Jecs {p : Nums} : EqI (Jqcs p) (.region (Jqcy p) []) := eqi
@[simp] def Jqcz (p : Nums) : List IOp := [qo 34 (.mov (.t 5)), qo 35 (.bin .add (.t 34) (ci 1)), qo 5 (.asg (.t 35))]
def Jqct (p : Nums) : IC := (.region (Jqcz p) [])
@[simp] theorem Ject {p : Nums} : EqI (Jqct p) (.region (Jqcz p) []) := eqi
@[simp] def Jqd0 (p : Nums) : List IOp := [qo 36 (.mov (.t 6)), qo 37 (.mov (.t 0)), qo 38 (.mov (.t 5)), qo 39 (.slc 2 (.t 37) (some (.t 38)) none), qo 40 (.app 2 16 (.t 36) (.t 39)), qo 4 (.asg (.t 40))]
def Jqcu (p : Nums) : IC := (.region (Jqd0 p) [])
@[simp] theorem Jecu {p : Nums} : EqI (Jqcu p) (.region (Jqd0 p) []) := eqi
def Jtbm (p : Nums) : IC := (.seq (.region [⟨(some 3), (.box (.t 1)), none, false⟩, ⟨(some 4), (.asg (.c .nils)), none, false⟩] []) (.seq (Jqcp p) (.seq (Jqcq p) (.seq (Jqcr p) (.seq (.seq (Jqcs p) (.cond (.t 33) (Jqct p) .skip)) (.seq (Jqcu p) .ret))))))
@[simp] def Jq2z (p : Nums) : List IOp := [qo 5 (.box (.t 1)), qo 6 (.box (.t 2)), qo 8 (.alloc [(zi 0)]), qo 9 (.alloc [(zi 0)])]
def Jq2y (p : Nums) : IC := (.region (Jq2z p) [])
@[simp] theorem Je2y {p : Nums} : EqI (Jq2y p) (.region (Jq2z p) []) := eqi
def Jtan (p : Nums) : IC := (Jq2y p)
@[simp] def Jq3f (p : Nums) : List IOp := [qo 13 (.mov (.t 3)), qo 14 (.len (.t 13)), qo 15 (.mov (ci 0))]
def Jq37 (p : Nums) : IC := (.region (Jq3f p) [])
@[simp] theorem Je37 {p : Nums} : EqI (Jq37 p) (.region (Jq3f p) []) := eqi
@[simp] def Jq3g (p : Nums) : List IOp := [qo 17 (.iaddr 6 (.t 13) (.t 15)), qo 18 (.load (some 6) (.t 17)), qo 11 (.alloc [(zi 0), (zi 0), (zi 0), (zi 0), (zi 0), (zi 0)]), qn (.store 6 (.t 11) (.t 18))]
def Jq38 (p : Nums) : IC := (.region (Jq3g p) [])
@[simp] theorem Je38 {p : Nums} : EqI (Jq38 p) (.region (Jq3g p) []) := eqi
@[simp] def Jq3h (p : Nums) : List IOp := [qo 19 (.mov (.t 0)), qo 20 (.load (some 5) (.t 5)), qo 21 (.load (some 5) (.t 6)), qo 22 (.load (some 6) (.t 11)), qo 23 (.call p.blockcheck_checker_row [(.t 19), (.t 20), (.t 21), (.t 22)])]
def Jq39 (p : Nums) : IC := (.region (Jq3h p) [])
@[simp] theorem Je39 {p : Nums} : EqI (Jq39 p) (.region (Jq3h p) []) := eqi
def Jq3a (p : Nums) : IC := (.seq (Jq38 p) (Jq39 p))
@[simp] theorem Je3a {p : Nums} : EqI (Jq3a p) (.seq (Jq38 p) (Jq39 p)) := eqi
def Jq3b (p : Nums) : IC := (.seq (.region [⟨(some 16), (.bin .lss (.t 15) (.t 14)), none, false⟩] []) (.seq (.cond (.t 16) .skip (.exit 0)) (.seq (.block 1 (Jq3a p)) (.region [⟨(some 24), (.bin .add (.t 15) (.c (.d (.int .i64 1)))), none, false⟩, ⟨(some 15), (.mov (.t 24)), none, false⟩] []))))
@[simp] theorem Je3b {p : Nums} : EqI (Jq3b p) (.seq (.region [⟨(some 16), (.bin .lss (.t 15) (.t 14)), none, false⟩] []) (.seq (.cond (.t 16) .skip (.exit 0)) (.seq (.block 1 (Jq3a p)) (.region [⟨(some 24), (.bin .add (.t 15) (.c (.d (.int .i64 1)))), none, false⟩, ⟨(some 15), (.mov (.t 24)), none, false⟩] [])))) := eqi
@[simp] def Jq3i (p : Nums) : List IOp := [qo 25 (.faddr 1 (.t 5)), qo 26 (.faddr 0 (.t 25)), qo 27 (.load none (.t 26)), qo 28 (.bin .neq (.t 27) (ci 1))]
def Jq3c (p : Nums) : IC := (.region (Jq3i p) [])
@[simp] theorem Je3c {p : Nums} : EqI (Jq3c p) (.region (Jq3i p) []) := eqi
@[simp] def Jq3j (p : Nums) : List IOp := [qo 29 (.mov (.t 0)), qo 30 (.faddr 1 (.t 5)), qo 31 (.faddr 1 (.t 30)), qo 32 (.load none (.t 31)), qo 33 (.faddr 1 (.t 6)), qo 34 (.faddr 1 (.t 33)), qo 35 (.load none (.t 34)), qo 36 (.faddr 0 (.t 6)), qo 37 (.load none (.t 36)), qo 38 (.len (.t 37)), qo 39 (.call p.blockcheck_checker_use [(.t 29), (.t 32), (.t 35), (.t 38)])]
def Jq3d (p : Nums) : IC := (.region (Jq3j p) [])
@[simp] theorem Je3d {p : Nums} : EqI (Jq3d p) (.region (Jq3j p) []) := eqi
@[simp] def Jq3k (p : Nums) : List IOp := [qp 40 (.faddr 0 (.t 6)), qp 41 (.load none (.t 40)), qp 42 (.len (.t 41)), qm (.storeq 1 (.t 8) (ci 0) [(40, 1)]), qn (.store 1 (.t 9) (.t 42))]
def Jq3e (p : Nums) : IC := (.region (Jq3k p) [])
@[simp] theorem Je3e {p : Nums} : EqI (Jq3e p) (.region (Jq3k p) []) := eqi
def Jtap (p : Nums) : IC := (.seq (.seq (Jq37 p) (.block 0 (.loop (Jq3b p)))) (.seq (.seq (Jq3c p) (.cond (.t 28) (Jq3d p) .skip)) (.seq (Jq3e p) .ret)))
@[simp] def Jq34 (p : Nums) : List IOp := [qo 9 (.mov (.t 2)), qo 10 (.tas p.ty_bcfail (.t 9)), qo 8 (.mov (.t 10)), qo 11 (.ext (.t 8) 0), qo 12 (.ext (.t 8) 1), qo 3 (.alloc [(zi 0), (zi 0)]), qn (.store 2 (.t 3) (.t 11)), qo 4 (.asg (.t 12))]
def Jq30 (p : Nums) : IC := (.region (Jq34 p) [])
@[simp] theorem Je30 {p : Nums} : EqI (Jq30 p) (.region (Jq34 p) []) := eqi
@[simp] def Jq35 (p : Nums) : List IOp := [qo 15 (.mov (.t 2)), qn (.pan (.t 15))]
def Jq31 (p : Nums) : IC := (.region (Jq35 p) [])
@[simp] theorem Je31 {p : Nums} : EqI (Jq31 p) (.region (Jq35 p) []) := eqi
@[simp] def Jq36 (p : Nums) : List IOp := [qp 16 (.faddr 0 (.t 3)), qp 17 (.load none (.t 16)), qp 18 (.faddr 1 (.t 3)), qp 19 (.load none (.t 18)), qm (.storeq 1 (.t 0) (.t 17) [(18, 1)]), qn (.store 1 (.t 1) (.t 19))]
def Jq32 (p : Nums) : IC := (.region (Jq36 p) [])
@[simp] theorem Je32 {p : Nums} : EqI (Jq32 p) (.region (Jq36 p) []) := eqi
def Jq33 (p : Nums) : IC := (.seq (Jq30 p) (.seq (.seq (.region [⟨(some 13), (.mov (.t 4)), none, false⟩, ⟨(some 14), (.un .not (.t 13)), none, false⟩] []) (.cond (.t 14) (Jq31 p) .skip)) (Jq32 p)))
@[simp] theorem Je33 {p : Nums} : EqI (Jq33 p) (.seq (Jq30 p) (.seq (.seq (.region [⟨(some 13), (.mov (.t 4)), none, false⟩, ⟨(some 14), (.un .not (.t 13)), none, false⟩] []) (.cond (.t 14) (Jq31 p) .skip)) (Jq32 p))) := eqi
def Jtao (p : Nums) : IC := (.seq (.region [⟨(some 6), (.mov (.t 2)), none, false⟩, ⟨(some 7), (.isnif true (.t 6)), none, false⟩] []) (.cond (.t 7) (Jq33 p) .skip))
structure All (P : Program) (p : Nums) : Prop where
 law16_CheckerSubset : Has P p.law16_CheckerSubset 3 [(.tmp 6)] (Jtb1 p)
 law16_awake : Has P p.law16_awake 0 [(.tmp 0)] (Jtb2 p)
 ref16_Few : Has P p.ref16_Few 1 [(.tmp 2)] (Jtcq p)
 checker_Valid : Has P p.checker_Valid 1 [(.tmp 2)] (Jtat p)
 checker_Check : Has P p.checker_Check 1 [(.cell 2 (some 7))] (Jtas p)
 ref07_Successors : Has P p.ref07_Successors 1 [(.tmp 2)] (Jtc4 p)
 checker_Bound : Has P p.checker_Bound 2 [(.tmp 4)] (Jtar p)
 ref14_Check : Has P p.ref14_Check 4 [(.cell 8 (some 5))] (Jtck p)
 ref11_Missing : Has P p.ref11_Missing 2 [(.cell 4 (some 2)), (.tmp 5)] (Jtcb p)
 ref16_Copy : Has P p.ref16_Copy 1 [(.cell 2 (some 8))] (Jtcp p)
 ref07_Few : Has P p.ref07_Few 1 [(.tmp 2)] (Jtc3 p)
 ref08_Few : Has P p.ref08_Few 1 [(.tmp 2)] (Jtc7 p)
 ref15_Few : Has P p.ref15_Few 1 [(.tmp 2)] (Jtco p)
 source_Check : Has P p.source_Check 1 [(.tmp 2)] (Jtct p)
 machine_Check : Has P p.machine_Check 1 [(.tmp 2)] (Jtb8 p)
 edge_Valid : Has P p.edge_Valid 5 [(.tmp 10)] (Jtay p)
 checker_begin : Has P p.checker_begin 1 [(.cell 2 (some 7))] (Jtau p)
 blockcheck_Check : Has P p.blockcheck_Check 4 [(.cell 8 (some 5))] (Jtai p)
 source_Successors : Has P p.source_Successors 1 [(.tmp 2)] (Jtcw p)
 edge_Implies : Has P p.edge_Implies 2 [(.cell 4 (some 2)), (.tmp 5)] (Jtaw p)
 source_Code : Has P p.source_Code 1 [(.tmp 2)] (Jtcu p)
 machine_Code : Has P p.machine_Code 1 [(.tmp 2)] (Jtb9 p)
 ref14_fail : Has P p.ref14_fail 3 [(.cell 6 (some 5))] (Jtcl p)
 ref13_Code : Has P p.ref13_Code 2 [(.tmp 4), (.tmp 5), (.tmp 6)] (Jtcf p)
 ref13_Terms : Has P p.ref13_Terms 2 [(.tmp 4)] (Jtcj p)
 ref14_grow : Has P p.ref14_grow 4 [(.cell 8 (some 5))] (Jtcm p)
 ref12_Copy : Has P p.ref12_Copy 3 [(.tmp 6)] (Jtcc p)
 ref12_Move : Has P p.ref12_Move 3 [(.tmp 6)] (Jtce p)
 ref05_UsesA : Has P p.ref05_UsesA 1 [(.tmp 2)] (Jtby p)
 ref14_use : Has P p.ref14_use 4 [(.cell 8 (some 5))] (Jtcn p)
 ref05_UsesB : Has P p.ref05_UsesB 1 [(.tmp 2)] (Jtbz p)
 ref05_UsesD : Has P p.ref05_UsesD 1 [(.tmp 2)] (Jtc0 p)
 ref12_Define : Has P p.ref12_Define 3 [(.tmp 6)] (Jtcd p)
 ref11_Has : Has P p.ref11_Has 2 [(.tmp 4)] (Jtc9 p)
 ref07_Copy : Has P p.ref07_Copy 1 [(.cell 2 (some 3))] (Jtc2 p)
 ref08_Copy : Has P p.ref08_Copy 1 [(.cell 2 (some 4))] (Jtc6 p)
 ref07_Code : Has P p.ref07_Code 1 [(.tmp 2)] (Jtc1 p)
 ref08_Code : Has P p.ref08_Code 1 [(.tmp 2)] (Jtc5 p)
 source_block : Has P p.source_block 3 [(.tmp 6)] (Jtcz p)
 machine_block : Has P p.machine_block 2 [(.tmp 4)] (Jtbb p)
 edge_total : Has P p.edge_total 1 [(.tmp 2)] (Jtb0 p)
 edge_pairs : Has P p.edge_pairs 4 [(.tmp 8)] (Jtaz p)
 ref11_Less : Has P p.ref11_Less 2 [(.tmp 4)] (Jtca p)
 edge_Entry : Has P p.edge_Entry 2 [(.cell 4 (some 2)), (.tmp 5)] (Jtav p)
 align_Code : Has P p.align_Code 2 [(.tmp 4), (.tmp 5), (.tmp 6)] (Jtab p)
 align_Terms : Has P p.align_Terms 2 [(.tmp 4)] (Jtad p)
 pairset_Make : Has P p.pairset_Make 1 [(.tmp 2)] (Jtbt p)
 blockcheck_checker_run : HasD P p.blockcheck_checker_run 4 [(.cell 8 none), (.cell 9 none)] (Jtan p) (Jtap p) 12 p.blockcheck_checker_run_1 [8, 9] (Jtao p) 5 2
 pairset_Missing : Has P p.pairset_Missing 2 [(.cell 4 (some 2)), (.tmp 5)] (Jtbu p)
 ref13_Operations : Has P p.ref13_Operations 1 [(.tmp 2)] (Jtcg p)
 ref13_Others : Has P p.ref13_Others 1 [(.tmp 2)] (Jtch p)
 ref13_Same : Has P p.ref13_Same 2 [(.tmp 4)] (Jtci p)
 ref11_Add : Has P p.ref11_Add 2 [(.tmp 4)] (Jtc8 p)
 location_Slot : Has P p.location_Slot 1 [(.tmp 2)] (Jtb7 p)
 source_Instr : Has P p.source_Instr 2 [(.tmp 4)] (Jtcv p)
 source_Term : Has P p.source_Term 3 [(.tmp 6)] (Jtcx p)
 machine_Instr : Has P p.machine_Instr 3 [(.tmp 6)] (Jtba p)
 location_InRange : Has P p.location_InRange 3 [(.tmp 6)] (Jtb3 p)
 pairset_Less : Has P p.pairset_Less 2 [(.tmp 4)] (Jtbs p)
 edge_Initial : Has P p.edge_Initial 2 [(.tmp 4)] (Jtax p)
 align_skip_Instr : Has P p.align_skip_Instr 3 [(.tmp 6)] (Jtag p)
 align_copied : Has P p.align_copied 1 [(.tmp 2)] (Jtae p)
 align_skip_Mach : Has P p.align_skip_Mach 3 [(.tmp 6)] (Jtah p)
 align_moved : Has P p.align_moved 1 [(.tmp 2)] (Jtaf p)
 align_Same : Has P p.align_Same 2 [(.tmp 4)] (Jtac p)
 slices_Clone_Pair : Has P p.slices_Clone_Pair 1 [(.tmp 2)] (Jtcr p)
 slices_Compact_Pair : Has P p.slices_Compact_Pair 1 [(.tmp 2)] (Jtcs p)
 blockcheck_checker_row : Has P p.blockcheck_checker_row 4 [] (Jtam p)
 blockcheck_checker_use : Has P p.blockcheck_checker_use 4 [] (Jtaq p)
 opcode_Of : Has P p.opcode_Of 1 [(.cell 2 (some 4)), (.tmp 3)] (Jtbj p)
 location_Reg : Has P p.location_Reg 1 [(.tmp 2)] (Jtb6 p)
 opcode_Source : Has P p.opcode_Source 1 [(.tmp 2)] (Jtbk p)
 source_within : Has P p.source_within 1 [(.tmp 2)] (Jtd0 p)
 source_blank : Has P p.source_blank 1 [(.tmp 2)] (Jtcy p)
 opcode_Machine : Has P p.opcode_Machine 1 [(.tmp 2)] (Jtbi p)
 machine_others : Has P p.machine_others 0 [(.cell 0 (some 2))] (Jtbf p)
 machine_moves : Has P p.machine_moves 0 [(.cell 0 (some 2))] (Jtbc p)
 location_IsSlot : Has P p.location_IsSlot 1 [(.tmp 2)] (Jtb5 p)
 location_Index : Has P p.location_Index 1 [(.tmp 2)] (Jtb4 p)
 blockcheck_checker_cost : Has P p.blockcheck_checker_cost 1 [] (Jtak p)
 blockcheck_checker_become : Has P p.blockcheck_checker_become 3 [] (Jtaj p)
 transfer_Copy : Has P p.transfer_Copy 3 [(.tmp 6)] (Jtd1 p)
 transfer_Move : Has P p.transfer_Move 3 [(.tmp 6)] (Jtd3 p)
 blockcheck_checker_instr : Has P p.blockcheck_checker_instr 4 [] (Jtal p)
 pairset_Has : Has P p.pairset_Has 2 [(.tmp 4)] (Jtbr p)
 opcode_known : Has P p.opcode_known 1 [(.tmp 2)] (Jtbl p)
 machine_others_1 : Has P p.machine_others_1 3 [(.tmp 6)] (Jtbg p)
 machine_others_2 : Has P p.machine_others_2 1 [(.tmp 2)] (Jtbh p)
 machine_moves_1 : Has P p.machine_moves_1 3 [(.tmp 6)] (Jtbd p)
 machine_moves_2 : Has P p.machine_moves_2 1 [(.tmp 2)] (Jtbe p)
 transfer_rename : Has P p.transfer_rename 3 [(.tmp 6)] (Jtd4 p)
 pairset_DropV : Has P p.pairset_DropV 2 [(.tmp 4)] (Jtbp p)
 pairset_DropL : Has P p.pairset_DropL 2 [(.tmp 4)] (Jtbn p)
 transfer_Define : Has P p.transfer_Define 3 [(.tmp 6)] (Jtd2 p)
 pairset_find : Has P p.pairset_find 2 [(.tmp 4)] (Jtbx p)
 pairset_Union : Has P p.pairset_Union 2 [(.tmp 4)] (Jtbv p)
 pairset_filter : Has P p.pairset_filter 2 [(.tmp 4)] (Jtbw p)
 pairset_DropV_1 : Has P p.pairset_DropV_1 2 [(.tmp 3)] (Jtbq p)
 pairset_DropL_1 : Has P p.pairset_DropL_1 2 [(.tmp 3)] (Jtbo p)
 pairset_Add : Has P p.pairset_Add 2 [(.tmp 4)] (Jtbm p)
end Go.AE
namespace Go.AE
open Go Go.Sort
theorem Jt6d {P : Program} {f : Nat} {args : List AV} {H : List Blk} {x : AV} (hx : ∀ e rows, x ≠ .own e rows) (hxv : ∀ org e rows, x ≠ .view org e rows)
  (hH : ∀ (b : Nat) (cells : List AV) (j e : Nat) (rows : List (List D)), H[b]? = some (Blk.mem cells) → cells[j]? ≠ some (AV.own e rows))
  (h : ∀ (g : Gh) (vs : Array Value) (w : World), vs.size = args.length → Sim args.length ⟨enum 0 args, H⟩ g ⟨vs, []⟩ w → ∃ v, (∀ F φ w, Rel F φ w x.erase v) ∧ Calls P f vs w fun e w' => e = .returned v ∧ ∃ q os, w' = grow (w.drewN q) os) :
  Jt3o P f args H fun o H' => o = .ret x ∧ H' = H := by
 intro g vs w hvs hs
 obtain ⟨v, hv, hc⟩ := h g vs w hvs hs
 refine hc.mono ?_
 rintro e w' ⟨rfl, q, os, rfl⟩
 have hheap : (grow (w.drewN q) os).heap = w.heap ++ os := rfl
 have hsame : ∀ r, r < w.heap.size → (grow (w.drewN q) os).heap[r]? = w.heap[r]? := by
  intro r hr; rw [hheap, Array.getElem?_append, if_pos hr]
 have hst : Stab g.F w g.F (grow (w.drewN q) os) := by
  refine ⟨fun _ _ => Nat.le_refl _, fun r j u hj hu => ?_, Jt7f hsame⟩
  have hlt := World.block_lt_of_cell? w ⟨r, j, none⟩ hu
  simp only [World.cell?] at hu ⊢
  rw [hsame r hlt]; exact hu
 have hno : ∀ p e rows, AP ⟨[(0, x)], H⟩ p ≠ some (.own e rows) := by
  intro p e rows hp
  cases p with
  | tmp t =>
   simp only [AP, get] at hp
   split at hp
   ·injection hp with hp; exact hx e rows hp
   ·cases hp
  | cell b j =>
   simp only [AP] at hp
   split at hp
   ·rename_i cells hb; exact hH b cells j e rows hb hp
   ·cases hp
 refine ⟨.ret x, H, g, v, ⟨rfl, rfl⟩, rfl, ?_, ⟨rfl, rfl, rfl, ?_, fun r hr _ => ⟨hsame r hr, rfl⟩, hst⟩, fun _ _ _ h => h, Nat.le_refl _, ?_⟩
 ·refine { size := by simp, env := ?_, inj := hs.inj, lt := ?_, dom := hs.dom, mem := ?_, iter := ?_, glob := ?_, own := ?_, excl := ?_, apart := ?_, view := ?_ }
  ·intro t y hy
   simp only [AOut.val, get] at hy
   split at hy
   ·rename_i h0; subst h0; injection hy with hy; subst hy; exact hv _ _ _
   ·cases hy
  ·intro b r hb
   obtain ⟨h1, h2, h3⟩ := hs.lt b r hb
   refine ⟨?_, h2, h3⟩
   rw [hheap]; simp only [Array.size_append]; omega
  ·intro b cells r hb hr
   obtain ⟨c, e, h1, h2, h3⟩ := hs.mem b cells r hb hr
   refine ⟨c, e, by rw [hsame r (hs.lt b r hr).1]; exact h1, h2, fun j y hy => ?_⟩
   obtain ⟨k1, u, k2, k3⟩ := h3 j y hy
   exact ⟨k1, u, k2, k3.stab hst fun _ _ h => h⟩
  ·intro b s pos r hb hr
   rw [hsame r (hs.lt b r hr).1]; exact hs.iter b s pos r hb hr
  ·intro b s pos r hb hr
   rw [hsame r (hs.lt b r hr).1]; exact hs.glob b s pos r hb hr
  ·exact fun p e rows v hp _ => absurd hp (hno p e rows)
  ·rintro p p' r ⟨e, rows, _, hp, _⟩; exact absurd hp (hno p e rows)
  ·rintro p r b ⟨e, rows, _, hp, _⟩; exact absurd hp (hno p e rows)
  ·intro t org e rows hy
   simp only [AOut.val, get] at hy
   split at hy
   ·injection hy with hy; exact absurd hy (hxv org e rows)
   ·cases hy
 ·rw [hheap]; simp only [Array.size_append]; exact Nat.le_add_right _ _
 ·rintro r (⟨b, hb⟩ | ⟨p, e, rows, _, hp, _⟩)
  ·exact .inl (.inl ⟨b, hb⟩)
  ·exact absurd hp (hno p e rows)
abbrev I (n : Int) : D := .int .i64 n
abbrev AI (n : Int) : AV := .d (.int .i64 n)
abbrev AB (b : Bool) : AV := .d (.bool b)
structure Pair where (v l : Int)
 deriving DecidableEq, Inhabited
def Pair.row (q : Pair) : List D := [I q.v, I q.l]
def Pair.av (q : Pair) : AV := .agg [AI q.v, AI q.l]
def pairsD (l : List Pair) : D := .sl (l.map Pair.row)
theorem HasL.cons_inv {l : LT} {ls : List LT} {ds : List D} (h : HasL (l :: ls) ds) : ∃ d ds', ds = d :: ds' ∧ HasT l d ∧ HasL ls ds' := by
 obtain ⟨h1, h2⟩ := h
 cases ds with
 | nil => simp at h1
 | cons d ds => exact ⟨d, ds, rfl, h2 0 l d rfl rfl, by simpa using h1, fun j l' x a b => h2 (j + 1) l' x (by simpa using a) (by simpa using b)⟩
theorem HasL.nil_inv {ds : List D} (h : HasL [] ds) : ds = [] := by
 have := h.1; simpa using this
theorem HasT.int_inv {k : IntKind} {d : D} (h : HasT (.int k) d) : ∃ n, d = .int k n ∧ (Lit.int k n).wf = true := by
 cases h with
 | int _ n h => exact ⟨n, rfl, h⟩
theorem HasT.sl_inv {ls : List LT} {d : D} (h : HasT (.sl ls) d) : ∃ rows, d = .sl rows ∧ rows.length ≤ maxLen ∧ ∀ r ∈ rows, HasL ls r := by
 cases h with
 | sl _ rows hl h0 h => exact ⟨rows, rfl, hl, fun r hr => ⟨h0 r hr, h r hr⟩⟩
theorem Jtl3 {α : Type} {g : α → List D} {Q : List D → Prop} (h : ∀ r, Q r → ∃ x, r = g x) : ∀ {rows : List (List D)}, (∀ r ∈ rows, Q r) → ∃ l : List α, rows = l.map g := by
 intro rows
 induction rows with
 | nil => intro _; exact ⟨[], rfl⟩
 | cons r rows ih =>
  intro hq
  obtain ⟨x, rfl⟩ := h r (hq r (by simp))
  obtain ⟨l, rfl⟩ := ih fun r hr => hq r (by simp [hr])
  exact ⟨x :: l, rfl⟩
def ltI : LT := .int .i64
def ltPair : List LT := [ltI, ltI]
end Go.AE
