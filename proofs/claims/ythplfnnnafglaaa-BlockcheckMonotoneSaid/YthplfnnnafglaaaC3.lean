/- A part of the proof: the evaluator over abstract values, its codes, the contracts of the functions. -/
import Derived.Test.YthplfnnnafglaaaC2
import Derived.Sort.Grow
import Derived.Deep.Draws
set_option linter.unusedVariables false
set_option linter.unusedSimpArgs false
/- The codes of the functions, as the evaluator has them, in pieces (printed by gen2.py). -/
set_option maxRecDepth 100000
set_option linter.unusedVariables false
namespace Go.AE
@[simp] abbrev zi (n : Int) : AV := .d (.int .i64 n)
@[simp] abbrev ci (n : Int) : Opd := .c (.d (.int .i64 n))
@[simp] abbrev qo (d : Nat) (io : AO) : IOp := ⟨some d, io, none, false⟩
@[simp] abbrev qp (d : Nat) (io : AO) : IOp := ⟨some d, io, none, true⟩
@[simp] abbrev qn (io : AO) : IOp := ⟨none, io, none, false⟩
@[simp] abbrev qm (io : AO) : IOp := ⟨none, io, none, true⟩
structure Nums where
  law11_PairsetMatchesReference : Nat
  law11_PairsetMatchesSets : Nat
  law11_PairsetOrder : Nat
  law11_PairsetSubsets : Nat
  law23_LivenessMatchesReference : Nat
  law23_LivenessEquations : Nat
  law23_LivenessSound : Nat
  law23_LivenessNecessary : Nat
  law23_LivenessAppended : Nat
  law11_PairsetDrops : Nat
  law11_PairsetKeeps : Nat
  law11_awake : Nat
  ref11_Make : Nat
  pairset_Missing : Nat
  ref11_Missing : Nat
  pairset_Sorted : Nat
  ref11_Sorted : Nat
  ref11_Same : Nat
  pairset_Make : Nat
  pairset_Has : Nat
  ref11_Has : Nat
  pairset_Add : Nat
  ref11_Add : Nat
  pairset_Subset : Nat
  pairset_Union : Nat
  pairset_Less : Nat
  law23_awake : Nat
  ref07_Few : Nat
  ref07_Check : Nat
  ref23_Used : Nat
  ref23_Defines : Nat
  ref07_Numbers : Nat
  liveness_Uses : Nat
  liveness_Defs : Nat
  ref23_Same : Nat
  liveness_In : Nat
  ref23_In : Nat
  liveness_Out : Nat
  ref23_Out : Nat
  ref07_Successors : Nat
  ref23_Has : Nat
  ref09_Right : Nat
  ref09_Exec : Nat
  ref09_Step : Nat
  ref09_Copy : Nat
  ref09_Values : Nat
  ref07_Copy : Nat
  pairset_DropV : Nat
  pairset_DropL : Nat
  law11_spoil : Nat
  ref11_Less : Nat
  slices_Clone_Pair : Nat
  slices_SortFunc_Pair : Nat
  pairset_compare : Nat
  slices_Compact_Pair : Nat
  pairset_find : Nat
  ref07_Code : Nat
  ref07_Instr : Nat
  ref07_Term : Nat
  ref05_UsesA : Nat
  ref05_UsesB : Nat
  ref05_UsesD : Nat
  liveness_scan : Nat
  liveness_set_sorted : Nat
  liveness_solve : Nat
  ref23_live : Nat
  liveness_exit : Nat
  ref09_Start : Nat
  ref06_Eval : Nat
  pairset_filter : Nat
  pairset_DropV_1 : Nat
  pairset_DropL_1 : Nat
  slices_pdqsortCmpFunc_Pair : Nat
  math_bits_Len : Nat
  ref07_in : Nat
  liveness_scan_1 : Nat
  opcode_Of : Nat
  slices_Sort_int : Nat
  source_Successors : Nat
  ref06_bits : Nat
  ref06_half : Nat
  ref06_truth : Nat
  slices_insertionSortCmpFunc_Pair : Nat
  slices_heapSortCmpFunc_Pair : Nat
  slices_breakPatternsCmpFunc_Pair : Nat
  slices_choosePivotCmpFunc_Pair : Nat
  slices_reverseRangeCmpFunc_Pair : Nat
  slices_partialInsertionSortCmpFunc_Pair : Nat
  slices_partitionEqualCmpFunc_Pair : Nat
  slices_partitionCmpFunc_Pair : Nat
  math_bits_Len32 : Nat
  math_bits_Len64 : Nat
  opcode_known : Nat
  slices_pdqsortOrdered_int : Nat
  ref06_bit : Nat
  slices_siftDownCmpFunc_Pair : Nat
  slices_nextPowerOfTwo : Nat
  slices_xorshift_Next : Nat
  slices_medianAdjacentCmpFunc_Pair : Nat
  slices_medianCmpFunc_Pair : Nat
  slices_insertionSortOrdered_int : Nat
  slices_heapSortOrdered_int : Nat
  slices_breakPatternsOrdered_int : Nat
  slices_choosePivotOrdered_int : Nat
  slices_reverseRangeOrdered_int : Nat
  slices_partialInsertionSortOrdered_int : Nat
  cmp_Less_int : Nat
  slices_partitionEqualOrdered_int : Nat
  slices_partitionOrdered_int : Nat
  slices_order2CmpFunc_Pair : Nat
  slices_siftDownOrdered_int : Nat
  slices_medianAdjacentOrdered_int : Nat
  slices_medianOrdered_int : Nat
  cmp_isNaN_int : Nat
  slices_order2Ordered_int : Nat
  law12_TransferMatchesReference : Nat
  law12_TransferSound : Nat
  law12_TransferComplete : Nat
  law12_TransferMonotone : Nat
  law12_TransferKeeps : Nat
  law14_BlockcheckMatchesReference : Nat
  law14_BlockcheckSound : Nat
  law14_BlockcheckMonotone : Nat
  law14_BlockcheckSteps : Nat
  law14_BlockcheckKeeps : Nat
  law12_awake : Nat
  transfer_Copy : Nat
  ref12_Copy : Nat
  transfer_Move : Nat
  ref12_Move : Nat
  transfer_Define : Nat
  ref12_Define : Nat
  law12_known : Nat
  law12_holds : Nat
  law12_subset : Nat
  law14_awake : Nat
  law14_right : Nat
  ref14_Same : Nat
  law14_result : Nat
  blockcheck_Check : Nat
  ref14_Check : Nat
  ref10_Step : Nat
  ref10_Read : Nat
  transfer_rename : Nat
  transfer_Copy_1 : Nat
  transfer_Move_1 : Nat
  ref08_Check : Nat
  align_Code : Nat
  align_Terms : Nat
  blockcheck_checker_run : Nat
  ref14_fail : Nat
  ref13_Code : Nat
  ref13_Terms : Nat
  ref14_grow : Nat
  ref14_use : Nat
  ref08_Code : Nat
  ref08_Instr : Nat
  ref08_Moves : Nat
  align_skip_Instr : Nat
  align_copied : Nat
  align_skip_Mach : Nat
  align_moved : Nat
  align_Same : Nat
  blockcheck_checker_run_1 : Nat
  blockcheck_checker_row : Nat
  blockcheck_checker_use : Nat
  ref13_Operations : Nat
  ref13_Others : Nat
  ref13_Same : Nat
  ref04_InRange : Nat
  blockcheck_checker_cost : Nat
  blockcheck_checker_become : Nat
  blockcheck_checker_instr : Nat
  location_Reg : Nat
  law22_SpillallMatchesReference : Nat
  law22_SpillallKeeps : Nat
  law22_SpillallSlots : Nat
  law22_awake : Nat
  spillall_Cert : Nat
  ref22_Cert : Nat
  ref16_Same : Nat
  spillall_Moves : Nat
  ref22_Block : Nat
  ref07_Same : Nat
  interp_Exec : Nat
  execute_Exec : Nat
  spillall_Block : Nat
  source_Check : Nat
  slices_Clone_Instr : Nat
  spillall_invariant : Nat
  ref08_Same : Nat
  ref15_Same : Nat
  ref22_move : Nat
  interp_begin : Nat
  interp_state_step : Nat
  execute_begin : Nat
  execute_state_step : Nat
  spillall_builder_instr : Nat
  spillall_builder_add : Nat
  spillall_load : Nat
  source_Code : Nat
  source_block : Nat
  location_Slot : Nat
  interp_state_instr : Nat
  interp_state_term : Nat
  execute_state_instr : Nat
  execute_state_term : Nat
  spillall_store : Nat
  source_Instr : Nat
  source_Term : Nat
  alu_Eval : Nat
  execute_state_compute : Nat
  execute_state_move : Nat
  execute_state_emit : Nat
  opcode_Source : Nat
  source_within : Nat
  source_blank : Nat
  alu_operation : Nat
  execute_state_at : Nat
  alu_operation_1 : Nat
  alu_operation_2 : Nat
  alu_operation_3 : Nat
  alu_operation_4 : Nat
  alu_operation_5 : Nat
  alu_operation_6 : Nat
  alu_operation_7 : Nat
  alu_operation_8 : Nat
  alu_operation_9 : Nat
  alu_operation_10 : Nat
  alu_operation_11 : Nat
  alu_truth : Nat
  alu_operation_12 : Nat
  location_IsSlot : Nat
  location_Index : Nat
  law04_LocationBijection : Nat
  law04_LocationTexts : Nat
  law04_LocationMatchesReference : Nat
  law04_LocationRange : Nat
  law04_awake : Nat
  location_Parse : Nat
  location_Text : Nat
  ref04_Parse : Nat
  ref04_Text : Nat
  location_InRange : Nat
  strconv_Itoa : Nat
  ref04_Number : Nat
  ref04_Decimal : Nat
  ty_bcfail : Nat
@[simp] def ref11_Make_o1 (p : Nums) : List IOp := [qo 5 (.mov (.t 4)), qo 6 (.mov (.t 0)), qo 7 (.len (.t 6)), qo 8 (.bin .lss (.t 5) (.t 7))]
def ref11_Make_c1 (p : Nums) : IC := (.region (ref11_Make_o1 p) [])
@[simp] theorem ref11_Make_c1_eq {P m Q st} {p : Nums} : AW P m (ref11_Make_c1 p) Q st ↔ AW P m (.region (ref11_Make_o1 p) []) Q st := Iff.rfl
@[simp] def ref11_Make_o2 (p : Nums) : List IOp := [qo 11 (.mov (.t 3)), qo 12 (.mov (.t 0)), qo 13 (.mov (.t 4)), qo 14 (.iaddr 2 (.t 12) (.t 13)), qo 15 (.load (some 2) (.t 14)), qo 16 (.call p.ref11_Add [(.t 11), (.t 15)]), qo 3 (.asg (.t 16))]
def ref11_Make_c2 (p : Nums) : IC := (.region (ref11_Make_o2 p) [])
@[simp] theorem ref11_Make_c2_eq {P m Q st} {p : Nums} : AW P m (ref11_Make_c2 p) Q st ↔ AW P m (.region (ref11_Make_o2 p) []) Q st := Iff.rfl
@[simp] def ref11_Make_o3 (p : Nums) : List IOp := [qo 9 (.mov (.t 4)), qo 10 (.bin .add (.t 9) (ci 1)), qo 4 (.asg (.t 10))]
def ref11_Make_c3 (p : Nums) : IC := (.region (ref11_Make_o3 p) [])
@[simp] theorem ref11_Make_c3_eq {P m Q st} {p : Nums} : AW P m (ref11_Make_c3 p) Q st ↔ AW P m (.region (ref11_Make_o3 p) []) Q st := Iff.rfl
def ref11_Make_c4 (p : Nums) : IC := (.seq (.seq (ref11_Make_c1 p) (.cond (.t 8) .skip (.exit 0))) (.seq (.block 1 (ref11_Make_c2 p)) (ref11_Make_c3 p)))
@[simp] theorem ref11_Make_c4_eq {P m Q st} {p : Nums} : AW P m (ref11_Make_c4 p) Q st ↔ AW P m (.seq (.seq (ref11_Make_c1 p) (.cond (.t 8) .skip (.exit 0))) (.seq (.block 1 (ref11_Make_c2 p)) (ref11_Make_c3 p))) Q st := Iff.rfl
def ic_ref11_Make (p : Nums) : IC := (.seq (.region [⟨(some 2), (.asg (.c .nils)), none, false⟩] []) (.seq (.region [⟨(some 3), (.asg (.c .nils)), none, false⟩] []) (.seq (.seq (.region [⟨(some 4), (.asg (.c (.d (.int .i64 0)))), none, false⟩] []) (.block 0 (.loop (ref11_Make_c4 p)))) (.seq (.region [⟨(some 17), (.mov (.t 3)), none, false⟩, ⟨(some 2), (.asg (.t 17)), none, false⟩] []) .ret))))
@[simp] def ref11_Missing_o1 (p : Nums) : List IOp := [qo 4 (.alloc [(zi 0), (zi 0)]), qo 5 (.asg (.c (.d (.bool false))))]
def ref11_Missing_c1 (p : Nums) : IC := (.region (ref11_Missing_o1 p) [])
@[simp] theorem ref11_Missing_c1_eq {P m Q st} {p : Nums} : AW P m (ref11_Missing_c1 p) Q st ↔ AW P m (.region (ref11_Missing_o1 p) []) Q st := Iff.rfl
@[simp] def ref11_Missing_o2 (p : Nums) : List IOp := [qo 7 (.mov (.t 6)), qo 8 (.mov (.t 0)), qo 9 (.len (.t 8)), qo 10 (.bin .lss (.t 7) (.t 9))]
def ref11_Missing_c2 (p : Nums) : IC := (.region (ref11_Missing_o2 p) [])
@[simp] theorem ref11_Missing_c2_eq {P m Q st} {p : Nums} : AW P m (ref11_Missing_c2 p) Q st ↔ AW P m (.region (ref11_Missing_o2 p) []) Q st := Iff.rfl
@[simp] def ref11_Missing_o3 (p : Nums) : List IOp := [qo 13 (.mov (.t 1)), qo 14 (.mov (.t 0)), qo 15 (.mov (.t 6)), qo 16 (.iaddr 2 (.t 14) (.t 15)), qo 17 (.load (some 2) (.t 16)), qo 18 (.call p.ref11_Has [(.t 13), (.t 17)]), qo 19 (.un .not (.t 18))]
def ref11_Missing_c3 (p : Nums) : IC := (.region (ref11_Missing_o3 p) [])
@[simp] theorem ref11_Missing_c3_eq {P m Q st} {p : Nums} : AW P m (ref11_Missing_c3 p) Q st ↔ AW P m (.region (ref11_Missing_o3 p) []) Q st := Iff.rfl
@[simp] def ref11_Missing_o4 (p : Nums) : List IOp := [qo 20 (.mov (.t 0)), qo 21 (.mov (.t 6)), qo 22 (.iaddr 2 (.t 20) (.t 21)), qo 23 (.load (some 2) (.t 22)), qn (.store 2 (.t 4) (.t 23)), qo 5 (.asg (.c (.d (.bool true))))]
def ref11_Missing_c4 (p : Nums) : IC := (.region (ref11_Missing_o4 p) [])
@[simp] theorem ref11_Missing_c4_eq {P m Q st} {p : Nums} : AW P m (ref11_Missing_c4 p) Q st ↔ AW P m (.region (ref11_Missing_o4 p) []) Q st := Iff.rfl
def ref11_Missing_c5 (p : Nums) : IC := (.seq (ref11_Missing_c3 p) (.cond (.t 19) (.seq (ref11_Missing_c4 p) .ret) .skip))
@[simp] theorem ref11_Missing_c5_eq {P m Q st} {p : Nums} : AW P m (ref11_Missing_c5 p) Q st ↔ AW P m (.seq (ref11_Missing_c3 p) (.cond (.t 19) (.seq (ref11_Missing_c4 p) .ret) .skip)) Q st := Iff.rfl
@[simp] def ref11_Missing_o6 (p : Nums) : List IOp := [qo 11 (.mov (.t 6)), qo 12 (.bin .add (.t 11) (ci 1)), qo 6 (.asg (.t 12))]
def ref11_Missing_c6 (p : Nums) : IC := (.region (ref11_Missing_o6 p) [])
@[simp] theorem ref11_Missing_c6_eq {P m Q st} {p : Nums} : AW P m (ref11_Missing_c6 p) Q st ↔ AW P m (.region (ref11_Missing_o6 p) []) Q st := Iff.rfl
def ref11_Missing_c7 (p : Nums) : IC := (.seq (.seq (ref11_Missing_c2 p) (.cond (.t 10) .skip (.exit 0))) (.seq (.block 1 (ref11_Missing_c5 p)) (ref11_Missing_c6 p)))
@[simp] theorem ref11_Missing_c7_eq {P m Q st} {p : Nums} : AW P m (ref11_Missing_c7 p) Q st ↔ AW P m (.seq (.seq (ref11_Missing_c2 p) (.cond (.t 10) .skip (.exit 0))) (.seq (.block 1 (ref11_Missing_c5 p)) (ref11_Missing_c6 p))) Q st := Iff.rfl
@[simp] def ref11_Missing_o8 (p : Nums) : List IOp := [qo 24 (.build [(zi 0), (zi 0)] []), qn (.store 2 (.t 4) (.t 24)), qo 5 (.asg (.c (.d (.bool false))))]
def ref11_Missing_c8 (p : Nums) : IC := (.region (ref11_Missing_o8 p) [])
@[simp] theorem ref11_Missing_c8_eq {P m Q st} {p : Nums} : AW P m (ref11_Missing_c8 p) Q st ↔ AW P m (.region (ref11_Missing_o8 p) []) Q st := Iff.rfl
def ic_ref11_Missing (p : Nums) : IC := (.seq (ref11_Missing_c1 p) (.seq (.seq (.region [⟨(some 6), (.asg (.c (.d (.int .i64 0)))), none, false⟩] []) (.block 0 (.loop (ref11_Missing_c7 p)))) (.seq (ref11_Missing_c8 p) .ret)))
@[simp] def ref11_Same_o1 (p : Nums) : List IOp := [qo 6 (.mov (.t 0)), qo 7 (.len (.t 6)), qo 8 (.mov (.t 1)), qo 9 (.len (.t 8)), qo 10 (.bin .neq (.t 7) (.t 9))]
def ref11_Same_c1 (p : Nums) : IC := (.region (ref11_Same_o1 p) [])
@[simp] theorem ref11_Same_c1_eq {P m Q st} {p : Nums} : AW P m (ref11_Same_c1 p) Q st ↔ AW P m (.region (ref11_Same_o1 p) []) Q st := Iff.rfl
def ref11_Same_c2 (p : Nums) : IC := (.seq (.region [⟨(some 4), (.asg (.c (.d (.bool false)))), none, false⟩] []) .ret)
@[simp] theorem ref11_Same_c2_eq {P m Q st} {p : Nums} : AW P m (ref11_Same_c2 p) Q st ↔ AW P m (.seq (.region [⟨(some 4), (.asg (.c (.d (.bool false)))), none, false⟩] []) .ret) Q st := Iff.rfl
@[simp] def ref11_Same_o3 (p : Nums) : List IOp := [qo 11 (.mov (.t 5)), qo 12 (.mov (.t 0)), qo 13 (.len (.t 12)), qo 14 (.bin .lss (.t 11) (.t 13))]
def ref11_Same_c3 (p : Nums) : IC := (.region (ref11_Same_o3 p) [])
@[simp] theorem ref11_Same_c3_eq {P m Q st} {p : Nums} : AW P m (ref11_Same_c3 p) Q st ↔ AW P m (.region (ref11_Same_o3 p) []) Q st := Iff.rfl
@[simp] def ref11_Same_o4 (p : Nums) : List IOp := [qp 17 (.mov (.t 0)), qp 18 (.mov (.t 5)), qp 19 (.iaddr 2 (.t 17) (.t 18)), qp 20 (.load (some 2) (.t 19)), qp 21 (.mov (.t 1)), qp 22 (.mov (.t 5)), qp 23 (.iaddr 2 (.t 21) (.t 22)), qp 24 (.load (some 2) (.t 23)), qo 25 (.eqs true [.int, .int] (.t 20) (.t 24))]
def ref11_Same_c4 (p : Nums) : IC := (.region (ref11_Same_o4 p) [])
@[simp] theorem ref11_Same_c4_eq {P m Q st} {p : Nums} : AW P m (ref11_Same_c4 p) Q st ↔ AW P m (.region (ref11_Same_o4 p) []) Q st := Iff.rfl
def ref11_Same_c5 (p : Nums) : IC := (.seq (.region [⟨(some 4), (.asg (.c (.d (.bool false)))), none, false⟩] []) .ret)
@[simp] theorem ref11_Same_c5_eq {P m Q st} {p : Nums} : AW P m (ref11_Same_c5 p) Q st ↔ AW P m (.seq (.region [⟨(some 4), (.asg (.c (.d (.bool false)))), none, false⟩] []) .ret) Q st := Iff.rfl
def ref11_Same_c6 (p : Nums) : IC := (.seq (ref11_Same_c4 p) (.cond (.t 25) (ref11_Same_c5 p) .skip))
@[simp] theorem ref11_Same_c6_eq {P m Q st} {p : Nums} : AW P m (ref11_Same_c6 p) Q st ↔ AW P m (.seq (ref11_Same_c4 p) (.cond (.t 25) (ref11_Same_c5 p) .skip)) Q st := Iff.rfl
@[simp] def ref11_Same_o7 (p : Nums) : List IOp := [qo 15 (.mov (.t 5)), qo 16 (.bin .add (.t 15) (ci 1)), qo 5 (.asg (.t 16))]
def ref11_Same_c7 (p : Nums) : IC := (.region (ref11_Same_o7 p) [])
@[simp] theorem ref11_Same_c7_eq {P m Q st} {p : Nums} : AW P m (ref11_Same_c7 p) Q st ↔ AW P m (.region (ref11_Same_o7 p) []) Q st := Iff.rfl
def ref11_Same_c8 (p : Nums) : IC := (.seq (.seq (ref11_Same_c3 p) (.cond (.t 14) .skip (.exit 0))) (.seq (.block 1 (ref11_Same_c6 p)) (ref11_Same_c7 p)))
@[simp] theorem ref11_Same_c8_eq {P m Q st} {p : Nums} : AW P m (ref11_Same_c8 p) Q st ↔ AW P m (.seq (.seq (ref11_Same_c3 p) (.cond (.t 14) .skip (.exit 0))) (.seq (.block 1 (ref11_Same_c6 p)) (ref11_Same_c7 p))) Q st := Iff.rfl
def ic_ref11_Same (p : Nums) : IC := (.seq (.region [⟨(some 4), (.asg (.c (.d (.bool false)))), none, false⟩] []) (.seq (.seq (ref11_Same_c1 p) (.cond (.t 10) (ref11_Same_c2 p) .skip)) (.seq (.seq (.region [⟨(some 5), (.asg (.c (.d (.int .i64 0)))), none, false⟩] []) (.block 0 (.loop (ref11_Same_c8 p)))) (.seq (.region [⟨(some 4), (.asg (.c (.d (.bool true)))), none, false⟩] []) .ret))))
@[simp] def pairset_Make_o1 (p : Nums) : List IOp := [qo 4 (.mov (.t 0)), qo 5 (.call p.slices_Clone_Pair [(.t 4)]), qo 3 (.asg (.t 5))]
def pairset_Make_c1 (p : Nums) : IC := (.region (pairset_Make_o1 p) [])
@[simp] theorem pairset_Make_c1_eq {P m Q st} {p : Nums} : AW P m (pairset_Make_c1 p) Q st ↔ AW P m (.region (pairset_Make_o1 p) []) Q st := Iff.rfl
@[simp] def pairset_Make_o2 (p : Nums) : List IOp := [qo 6 (.mov (.t 3)), qo 7 (.call p.slices_SortFunc_Pair [(.t 6), (.c (.fn (.func p.pairset_compare) [] []))])]
def pairset_Make_c2 (p : Nums) : IC := (.region (pairset_Make_o2 p) [])
@[simp] theorem pairset_Make_c2_eq {P m Q st} {p : Nums} : AW P m (pairset_Make_c2 p) Q st ↔ AW P m (.region (pairset_Make_o2 p) []) Q st := Iff.rfl
@[simp] def pairset_Make_o3 (p : Nums) : List IOp := [qo 8 (.mov (.t 3)), qo 9 (.call p.slices_Compact_Pair [(.t 8)]), qo 2 (.asg (.t 9))]
def pairset_Make_c3 (p : Nums) : IC := (.region (pairset_Make_o3 p) [])
@[simp] theorem pairset_Make_c3_eq {P m Q st} {p : Nums} : AW P m (pairset_Make_c3 p) Q st ↔ AW P m (.region (pairset_Make_o3 p) []) Q st := Iff.rfl
def ic_pairset_Make (p : Nums) : IC := (.seq (.region [⟨(some 2), (.asg (.c .nils)), none, false⟩] []) (.seq (pairset_Make_c1 p) (.seq (pairset_Make_c2 p) (.seq (pairset_Make_c3 p) .ret))))
@[simp] def pairset_Has_o1 (p : Nums) : List IOp := [qo 6 (.mov (.t 0)), qo 7 (.load (some 2) (.t 3)), qo 8 (.call p.pairset_find [(.t 6), (.t 7)]), qo 5 (.asg (.t 8))]
def pairset_Has_c1 (p : Nums) : IC := (.region (pairset_Has_o1 p) [])
@[simp] theorem pairset_Has_c1_eq {P m Q st} {p : Nums} : AW P m (pairset_Has_c1 p) Q st ↔ AW P m (.region (pairset_Has_o1 p) []) Q st := Iff.rfl
@[simp] def pairset_Has_o2 (p : Nums) : List IOp := [qp 9 (.mov (.t 5)), qp 10 (.mov (.t 0)), qp 11 (.len (.t 10)), qo 12 (.bin .lss (.t 9) (.t 11)), qo 13 (.mov (.t 12)), ⟨(some 14), (.mov (.t 0)), (some (13, true)), true⟩, ⟨(some 15), (.mov (.t 5)), (some (13, true)), true⟩, ⟨(some 16), (.iaddr 2 (.t 14) (.t 15)), (some (13, true)), true⟩, ⟨(some 17), (.load (some 2) (.t 16)), (some (13, true)), true⟩, ⟨(some 18), (.load (some 2) (.t 3)), (some (13, true)), true⟩, ⟨(some 19), (.eqs false [.int, .int] (.t 17) (.t 18)), (some (13, true)), false⟩, qo 20 (.pick (.t 13) (.t 19) (.c (.d (.bool false)))), qo 4 (.asg (.t 20))]
def pairset_Has_c2 (p : Nums) : IC := (.region (pairset_Has_o2 p) [])
@[simp] theorem pairset_Has_c2_eq {P m Q st} {p : Nums} : AW P m (pairset_Has_c2 p) Q st ↔ AW P m (.region (pairset_Has_o2 p) []) Q st := Iff.rfl
def ic_pairset_Has (p : Nums) : IC := (.seq (.region [⟨(some 3), (.box (.t 1)), none, false⟩, ⟨(some 4), (.asg (.c (.d (.bool false)))), none, false⟩] []) (.seq (pairset_Has_c1 p) (.seq (pairset_Has_c2 p) .ret)))
@[simp] def ref11_Has_o1 (p : Nums) : List IOp := [qo 6 (.mov (.t 5)), qo 7 (.mov (.t 0)), qo 8 (.len (.t 7)), qo 9 (.bin .lss (.t 6) (.t 8))]
def ref11_Has_c1 (p : Nums) : IC := (.region (ref11_Has_o1 p) [])
@[simp] theorem ref11_Has_c1_eq {P m Q st} {p : Nums} : AW P m (ref11_Has_c1 p) Q st ↔ AW P m (.region (ref11_Has_o1 p) []) Q st := Iff.rfl
@[simp] def ref11_Has_o2 (p : Nums) : List IOp := [qp 12 (.mov (.t 0)), qp 13 (.mov (.t 5)), qp 14 (.iaddr 2 (.t 12) (.t 13)), qp 15 (.load (some 2) (.t 14)), qp 16 (.load (some 2) (.t 3)), qo 17 (.eqs false [.int, .int] (.t 15) (.t 16))]
def ref11_Has_c2 (p : Nums) : IC := (.region (ref11_Has_o2 p) [])
@[simp] theorem ref11_Has_c2_eq {P m Q st} {p : Nums} : AW P m (ref11_Has_c2 p) Q st ↔ AW P m (.region (ref11_Has_o2 p) []) Q st := Iff.rfl
def ref11_Has_c3 (p : Nums) : IC := (.seq (.region [⟨(some 4), (.asg (.c (.d (.bool true)))), none, false⟩] []) .ret)
@[simp] theorem ref11_Has_c3_eq {P m Q st} {p : Nums} : AW P m (ref11_Has_c3 p) Q st ↔ AW P m (.seq (.region [⟨(some 4), (.asg (.c (.d (.bool true)))), none, false⟩] []) .ret) Q st := Iff.rfl
def ref11_Has_c4 (p : Nums) : IC := (.seq (ref11_Has_c2 p) (.cond (.t 17) (ref11_Has_c3 p) .skip))
@[simp] theorem ref11_Has_c4_eq {P m Q st} {p : Nums} : AW P m (ref11_Has_c4 p) Q st ↔ AW P m (.seq (ref11_Has_c2 p) (.cond (.t 17) (ref11_Has_c3 p) .skip)) Q st := Iff.rfl
@[simp] def ref11_Has_o5 (p : Nums) : List IOp := [qo 10 (.mov (.t 5)), qo 11 (.bin .add (.t 10) (ci 1)), qo 5 (.asg (.t 11))]
def ref11_Has_c5 (p : Nums) : IC := (.region (ref11_Has_o5 p) [])
@[simp] theorem ref11_Has_c5_eq {P m Q st} {p : Nums} : AW P m (ref11_Has_c5 p) Q st ↔ AW P m (.region (ref11_Has_o5 p) []) Q st := Iff.rfl
def ref11_Has_c6 (p : Nums) : IC := (.seq (.seq (ref11_Has_c1 p) (.cond (.t 9) .skip (.exit 0))) (.seq (.block 1 (ref11_Has_c4 p)) (ref11_Has_c5 p)))
@[simp] theorem ref11_Has_c6_eq {P m Q st} {p : Nums} : AW P m (ref11_Has_c6 p) Q st ↔ AW P m (.seq (.seq (ref11_Has_c1 p) (.cond (.t 9) .skip (.exit 0))) (.seq (.block 1 (ref11_Has_c4 p)) (ref11_Has_c5 p))) Q st := Iff.rfl
def ic_ref11_Has (p : Nums) : IC := (.seq (.region [⟨(some 3), (.box (.t 1)), none, false⟩, ⟨(some 4), (.asg (.c (.d (.bool false)))), none, false⟩] []) (.seq (.seq (.region [⟨(some 5), (.asg (.c (.d (.int .i64 0)))), none, false⟩] []) (.block 0 (.loop (ref11_Has_c6 p)))) (.seq (.region [⟨(some 4), (.asg (.c (.d (.bool false)))), none, false⟩] []) .ret)))
@[simp] def pairset_Add_o1 (p : Nums) : List IOp := [qo 7 (.mov (.t 0)), qo 8 (.load (some 2) (.t 3)), qo 9 (.call p.pairset_find [(.t 7), (.t 8)]), qo 5 (.asg (.t 9))]
def pairset_Add_c1 (p : Nums) : IC := (.region (pairset_Add_o1 p) [])
@[simp] theorem pairset_Add_c1_eq {P m Q st} {p : Nums} : AW P m (pairset_Add_c1 p) Q st ↔ AW P m (.region (pairset_Add_o1 p) []) Q st := Iff.rfl
@[simp] def pairset_Add_o2 (p : Nums) : List IOp := [qo 10 (.mov (.t 0)), qo 11 (.len (.t 10)), qo 12 (.bin .add (.t 11) (ci 1)), qo 13 (.mkslice 2 16 [(.int .i64 0), (.int .i64 0)] (ci 0) (.t 12)), qo 6 (.asg (.t 13))]
def pairset_Add_c2 (p : Nums) : IC := (.region (pairset_Add_o2 p) [])
@[simp] theorem pairset_Add_c2_eq {P m Q st} {p : Nums} : AW P m (pairset_Add_c2 p) Q st ↔ AW P m (.region (pairset_Add_o2 p) []) Q st := Iff.rfl
@[simp] def pairset_Add_o3 (p : Nums) : List IOp := [qp 14 (.mov (.t 6)), qp 15 (.mov (.t 0)), qp 16 (.mov (.t 5)), qp 17 (.slc 2 (.t 15) none (some (.t 16))), qp 18 (.appq 2 16 (.t 14) (.t 17) 6), qp 19 (.load (some 2) (.t 3)), qp 20 (.bslice 2 1 [(.int .i64 0), (.int .i64 0)] [(0, (.t 19))]), qo 21 (.app 2 16 (.t 18) (.t 20)), qo 6 (.asg (.t 21))]
def pairset_Add_c3 (p : Nums) : IC := (.region (pairset_Add_o3 p) [41])
@[simp] theorem pairset_Add_c3_eq {P m Q st} {p : Nums} : AW P m (pairset_Add_c3 p) Q st ↔ AW P m (.region (pairset_Add_o3 p) [41]) Q st := Iff.rfl
@[simp] def pairset_Add_o4 (p : Nums) : List IOp := [qp 22 (.mov (.t 5)), qp 23 (.mov (.t 0)), qp 24 (.len (.t 23)), qo 25 (.bin .lss (.t 22) (.t 24)), qo 26 (.mov (.t 25)), ⟨(some 27), (.mov (.t 0)), (some (26, true)), true⟩, ⟨(some 28), (.mov (.t 5)), (some (26, true)), true⟩, ⟨(some 29), (.iaddr 2 (.t 27) (.t 28)), (some (26, true)), true⟩, ⟨(some 30), (.load (some 2) (.t 29)), (some (26, true)), true⟩, ⟨(some 31), (.load (some 2) (.t 3)), (some (26, true)), true⟩, ⟨(some 32), (.eqs false [.int, .int] (.t 30) (.t 31)), (some (26, true)), false⟩, qo 33 (.pick (.t 26) (.t 32) (.c (.d (.bool false))))]
def pairset_Add_c4 (p : Nums) : IC := (.region (pairset_Add_o4 p) [])
@[simp] theorem pairset_Add_c4_eq {P m Q st} {p : Nums} : AW P m (pairset_Add_c4 p) Q st ↔ AW P m (.region (pairset_Add_o4 p) []) Q st := Iff.rfl
@[simp] def pairset_Add_o5 (p : Nums) : List IOp := [qo 34 (.mov (.t 5)), qo 35 (.bin .add (.t 34) (ci 1)), qo 5 (.asg (.t 35))]
def pairset_Add_c5 (p : Nums) : IC := (.region (pairset_Add_o5 p) [])
@[simp] theorem pairset_Add_c5_eq {P m Q st} {p : Nums} : AW P m (pairset_Add_c5 p) Q st ↔ AW P m (.region (pairset_Add_o5 p) []) Q st := Iff.rfl
@[simp] def pairset_Add_o6 (p : Nums) : List IOp := [qo 36 (.mov (.t 6)), qo 37 (.mov (.t 0)), qo 38 (.mov (.t 5)), qo 39 (.slc 2 (.t 37) (some (.t 38)) none), qo 40 (.app 2 16 (.t 36) (.t 39)), qo 4 (.asg (.t 40))]
def pairset_Add_c6 (p : Nums) : IC := (.region (pairset_Add_o6 p) [])
@[simp] theorem pairset_Add_c6_eq {P m Q st} {p : Nums} : AW P m (pairset_Add_c6 p) Q st ↔ AW P m (.region (pairset_Add_o6 p) []) Q st := Iff.rfl
def ic_pairset_Add (p : Nums) : IC := (.seq (.region [⟨(some 3), (.box (.t 1)), none, false⟩, ⟨(some 4), (.asg (.c .nils)), none, false⟩] []) (.seq (pairset_Add_c1 p) (.seq (pairset_Add_c2 p) (.seq (pairset_Add_c3 p) (.seq (.seq (pairset_Add_c4 p) (.cond (.t 33) (pairset_Add_c5 p) .skip)) (.seq (pairset_Add_c6 p) .ret))))))
@[simp] def ref11_Add_o1 (p : Nums) : List IOp := [qo 8 (.mov (.t 7)), qo 9 (.mov (.t 0)), qo 10 (.len (.t 9)), qo 11 (.bin .lss (.t 8) (.t 10))]
def ref11_Add_c1 (p : Nums) : IC := (.region (ref11_Add_o1 p) [])
@[simp] theorem ref11_Add_c1_eq {P m Q st} {p : Nums} : AW P m (ref11_Add_c1 p) Q st ↔ AW P m (.region (ref11_Add_o1 p) []) Q st := Iff.rfl
@[simp] def ref11_Add_o2 (p : Nums) : List IOp := [qo 14 (.mov (.t 6)), qo 15 (.un .not (.t 14)), qo 16 (.mov (.t 15)), ⟨(some 17), (.mov (.t 0)), (some (16, true)), true⟩, ⟨(some 18), (.mov (.t 7)), (some (16, true)), true⟩, ⟨(some 19), (.iaddr 2 (.t 17) (.t 18)), (some (16, true)), true⟩, ⟨(some 20), (.load (some 2) (.t 19)), (some (16, true)), true⟩, ⟨(some 21), (.load (some 2) (.t 3)), (some (16, true)), true⟩, ⟨(some 22), (.call p.ref11_Less [(.t 20), (.t 21)]), (some (16, true)), false⟩, ⟨(some 23), (.un .not (.t 22)), (some (16, true)), false⟩, qo 24 (.pick (.t 16) (.t 23) (.c (.d (.bool false))))]
def ref11_Add_c2 (p : Nums) : IC := (.region (ref11_Add_o2 p) [])
@[simp] theorem ref11_Add_c2_eq {P m Q st} {p : Nums} : AW P m (ref11_Add_c2 p) Q st ↔ AW P m (.region (ref11_Add_o2 p) []) Q st := Iff.rfl
@[simp] def ref11_Add_o3 (p : Nums) : List IOp := [qo 25 (.mov (.t 5)), qo 26 (.load (some 2) (.t 3)), qo 27 (.bslice 2 1 [(.int .i64 0), (.int .i64 0)] [(0, (.t 26))]), qo 28 (.app 2 16 (.t 25) (.t 27)), qo 5 (.asg (.t 28))]
def ref11_Add_c3 (p : Nums) : IC := (.region (ref11_Add_o3 p) [])
@[simp] theorem ref11_Add_c3_eq {P m Q st} {p : Nums} : AW P m (ref11_Add_c3 p) Q st ↔ AW P m (.region (ref11_Add_o3 p) []) Q st := Iff.rfl
def ref11_Add_c4 (p : Nums) : IC := (.seq (ref11_Add_c3 p) (.region [⟨(some 6), (.asg (.c (.d (.bool true)))), none, false⟩] []))
@[simp] theorem ref11_Add_c4_eq {P m Q st} {p : Nums} : AW P m (ref11_Add_c4 p) Q st ↔ AW P m (.seq (ref11_Add_c3 p) (.region [⟨(some 6), (.asg (.c (.d (.bool true)))), none, false⟩] [])) Q st := Iff.rfl
@[simp] def ref11_Add_o5 (p : Nums) : List IOp := [qp 29 (.mov (.t 0)), qp 30 (.mov (.t 7)), qp 31 (.iaddr 2 (.t 29) (.t 30)), qp 32 (.load (some 2) (.t 31)), qp 33 (.load (some 2) (.t 3)), qo 34 (.eqs true [.int, .int] (.t 32) (.t 33))]
def ref11_Add_c5 (p : Nums) : IC := (.region (ref11_Add_o5 p) [])
@[simp] theorem ref11_Add_c5_eq {P m Q st} {p : Nums} : AW P m (ref11_Add_c5 p) Q st ↔ AW P m (.region (ref11_Add_o5 p) []) Q st := Iff.rfl
@[simp] def ref11_Add_o6 (p : Nums) : List IOp := [qo 35 (.mov (.t 5)), qo 36 (.mov (.t 0)), qo 37 (.mov (.t 7)), qo 38 (.iaddr 2 (.t 36) (.t 37)), qo 39 (.load (some 2) (.t 38)), qo 40 (.bslice 2 1 [(.int .i64 0), (.int .i64 0)] [(0, (.t 39))]), qo 41 (.app 2 16 (.t 35) (.t 40)), qo 5 (.asg (.t 41))]
def ref11_Add_c6 (p : Nums) : IC := (.region (ref11_Add_o6 p) [])
@[simp] theorem ref11_Add_c6_eq {P m Q st} {p : Nums} : AW P m (ref11_Add_c6 p) Q st ↔ AW P m (.region (ref11_Add_o6 p) []) Q st := Iff.rfl
def ref11_Add_c7 (p : Nums) : IC := (.seq (.seq (ref11_Add_c2 p) (.cond (.t 24) (ref11_Add_c4 p) .skip)) (.seq (ref11_Add_c5 p) (.cond (.t 34) (ref11_Add_c6 p) .skip)))
@[simp] theorem ref11_Add_c7_eq {P m Q st} {p : Nums} : AW P m (ref11_Add_c7 p) Q st ↔ AW P m (.seq (.seq (ref11_Add_c2 p) (.cond (.t 24) (ref11_Add_c4 p) .skip)) (.seq (ref11_Add_c5 p) (.cond (.t 34) (ref11_Add_c6 p) .skip))) Q st := Iff.rfl
@[simp] def ref11_Add_o8 (p : Nums) : List IOp := [qo 12 (.mov (.t 7)), qo 13 (.bin .add (.t 12) (ci 1)), qo 7 (.asg (.t 13))]
def ref11_Add_c8 (p : Nums) : IC := (.region (ref11_Add_o8 p) [])
@[simp] theorem ref11_Add_c8_eq {P m Q st} {p : Nums} : AW P m (ref11_Add_c8 p) Q st ↔ AW P m (.region (ref11_Add_o8 p) []) Q st := Iff.rfl
def ref11_Add_c9 (p : Nums) : IC := (.seq (.seq (ref11_Add_c1 p) (.cond (.t 11) .skip (.exit 0))) (.seq (.block 1 (ref11_Add_c7 p)) (ref11_Add_c8 p)))
@[simp] theorem ref11_Add_c9_eq {P m Q st} {p : Nums} : AW P m (ref11_Add_c9 p) Q st ↔ AW P m (.seq (.seq (ref11_Add_c1 p) (.cond (.t 11) .skip (.exit 0))) (.seq (.block 1 (ref11_Add_c7 p)) (ref11_Add_c8 p))) Q st := Iff.rfl
@[simp] def ref11_Add_o10 (p : Nums) : List IOp := [qo 44 (.mov (.t 5)), qo 45 (.load (some 2) (.t 3)), qo 46 (.bslice 2 1 [(.int .i64 0), (.int .i64 0)] [(0, (.t 45))]), qo 47 (.app 2 16 (.t 44) (.t 46)), qo 5 (.asg (.t 47))]
def ref11_Add_c10 (p : Nums) : IC := (.region (ref11_Add_o10 p) [])
@[simp] theorem ref11_Add_c10_eq {P m Q st} {p : Nums} : AW P m (ref11_Add_c10 p) Q st ↔ AW P m (.region (ref11_Add_o10 p) []) Q st := Iff.rfl
def ic_ref11_Add (p : Nums) : IC := (.seq (.region [⟨(some 3), (.box (.t 1)), none, false⟩, ⟨(some 4), (.asg (.c .nils)), none, false⟩] []) (.seq (.region [⟨(some 5), (.asg (.c .nils)), none, false⟩] []) (.seq (.region [⟨(some 6), (.asg (.c (.d (.bool false)))), none, false⟩] []) (.seq (.seq (.region [⟨(some 7), (.asg (.c (.d (.int .i64 0)))), none, false⟩] []) (.block 0 (.loop (ref11_Add_c9 p)))) (.seq (.seq (.region [⟨(some 42), (.mov (.t 6)), none, false⟩, ⟨(some 43), (.un .not (.t 42)), none, false⟩] []) (.cond (.t 43) (ref11_Add_c10 p) .skip)) (.seq (.region [⟨(some 48), (.mov (.t 5)), none, false⟩, ⟨(some 4), (.asg (.t 48)), none, false⟩] []) .ret))))))
@[simp] def pairset_Union_o1 (p : Nums) : List IOp := [qo 7 (.mov (.t 0)), qo 8 (.len (.t 7)), qo 9 (.mov (.t 1)), qo 10 (.len (.t 9)), qo 11 (.bin .add (.t 8) (.t 10)), qo 12 (.mkslice 2 16 [(.int .i64 0), (.int .i64 0)] (ci 0) (.t 11)), qo 5 (.asg (.t 12))]
def pairset_Union_c1 (p : Nums) : IC := (.region (pairset_Union_o1 p) [])
@[simp] theorem pairset_Union_c1_eq {P m Q st} {p : Nums} : AW P m (pairset_Union_c1 p) Q st ↔ AW P m (.region (pairset_Union_o1 p) []) Q st := Iff.rfl
@[simp] def pairset_Union_o2 (p : Nums) : List IOp := [qo 13 (.mov (.t 0)), qo 14 (.len (.t 13)), qo 15 (.bin .gtr (.t 14) (ci 0)), qo 16 (.mov (.t 15)), ⟨(some 17), (.mov (.t 1)), (some (16, true)), false⟩, ⟨(some 18), (.len (.t 17)), (some (16, true)), false⟩, ⟨(some 19), (.bin .gtr (.t 18) (ci 0)), (some (16, true)), false⟩, qo 20 (.pick (.t 16) (.t 19) (.c (.d (.bool false))))]
def pairset_Union_c2 (p : Nums) : IC := (.region (pairset_Union_o2 p) [])
@[simp] theorem pairset_Union_c2_eq {P m Q st} {p : Nums} : AW P m (pairset_Union_c2 p) Q st ↔ AW P m (.region (pairset_Union_o2 p) []) Q st := Iff.rfl
@[simp] def pairset_Union_o3 (p : Nums) : List IOp := [qo 21 (.mov (.t 0)), qo 22 (.iaddr 2 (.t 21) (ci 0)), qo 23 (.load (some 2) (.t 22)), qo 6 (.alloc [(zi 0), (zi 0)]), qn (.store 2 (.t 6) (.t 23))]
def pairset_Union_c3 (p : Nums) : IC := (.region (pairset_Union_o3 p) [])
@[simp] theorem pairset_Union_c3_eq {P m Q st} {p : Nums} : AW P m (pairset_Union_c3 p) Q st ↔ AW P m (.region (pairset_Union_o3 p) []) Q st := Iff.rfl
@[simp] def pairset_Union_o4 (p : Nums) : List IOp := [qp 24 (.mov (.t 1)), qp 25 (.iaddr 2 (.t 24) (ci 0)), qp 26 (.load (some 2) (.t 25)), qp 27 (.load (some 2) (.t 6)), qo 28 (.call p.pairset_Less [(.t 26), (.t 27)])]
def pairset_Union_c4 (p : Nums) : IC := (.region (pairset_Union_o4 p) [])
@[simp] theorem pairset_Union_c4_eq {P m Q st} {p : Nums} : AW P m (pairset_Union_c4 p) Q st ↔ AW P m (.region (pairset_Union_o4 p) []) Q st := Iff.rfl
@[simp] def pairset_Union_o5 (p : Nums) : List IOp := [qo 29 (.mov (.t 1)), qo 30 (.iaddr 2 (.t 29) (ci 0)), qo 31 (.load (some 2) (.t 30)), qn (.store 2 (.t 6) (.t 31))]
def pairset_Union_c5 (p : Nums) : IC := (.region (pairset_Union_o5 p) [])
@[simp] theorem pairset_Union_c5_eq {P m Q st} {p : Nums} : AW P m (pairset_Union_c5 p) Q st ↔ AW P m (.region (pairset_Union_o5 p) []) Q st := Iff.rfl
@[simp] def pairset_Union_o6 (p : Nums) : List IOp := [qo 32 (.mov (.t 5)), qo 33 (.load (some 2) (.t 6)), qo 34 (.bslice 2 1 [(.int .i64 0), (.int .i64 0)] [(0, (.t 33))]), qo 35 (.app 2 16 (.t 32) (.t 34)), qo 5 (.asg (.t 35))]
def pairset_Union_c6 (p : Nums) : IC := (.region (pairset_Union_o6 p) [])
@[simp] theorem pairset_Union_c6_eq {P m Q st} {p : Nums} : AW P m (pairset_Union_c6 p) Q st ↔ AW P m (.region (pairset_Union_o6 p) []) Q st := Iff.rfl
@[simp] def pairset_Union_o7 (p : Nums) : List IOp := [qp 36 (.mov (.t 0)), qp 37 (.iaddr 2 (.t 36) (ci 0)), qp 38 (.load (some 2) (.t 37)), qp 39 (.load (some 2) (.t 6)), qo 40 (.eqs false [.int, .int] (.t 38) (.t 39))]
def pairset_Union_c7 (p : Nums) : IC := (.region (pairset_Union_o7 p) [])
@[simp] theorem pairset_Union_c7_eq {P m Q st} {p : Nums} : AW P m (pairset_Union_c7 p) Q st ↔ AW P m (.region (pairset_Union_o7 p) []) Q st := Iff.rfl
@[simp] def pairset_Union_o8 (p : Nums) : List IOp := [qo 41 (.mov (.t 0)), qo 42 (.slc 2 (.t 41) (some (ci 1)) none), qo 0 (.asg (.t 42))]
def pairset_Union_c8 (p : Nums) : IC := (.region (pairset_Union_o8 p) [])
@[simp] theorem pairset_Union_c8_eq {P m Q st} {p : Nums} : AW P m (pairset_Union_c8 p) Q st ↔ AW P m (.region (pairset_Union_o8 p) []) Q st := Iff.rfl
@[simp] def pairset_Union_o9 (p : Nums) : List IOp := [qp 43 (.mov (.t 1)), qp 44 (.iaddr 2 (.t 43) (ci 0)), qp 45 (.load (some 2) (.t 44)), qp 46 (.load (some 2) (.t 6)), qo 47 (.eqs false [.int, .int] (.t 45) (.t 46))]
def pairset_Union_c9 (p : Nums) : IC := (.region (pairset_Union_o9 p) [])
@[simp] theorem pairset_Union_c9_eq {P m Q st} {p : Nums} : AW P m (pairset_Union_c9 p) Q st ↔ AW P m (.region (pairset_Union_o9 p) []) Q st := Iff.rfl
@[simp] def pairset_Union_o10 (p : Nums) : List IOp := [qo 48 (.mov (.t 1)), qo 49 (.slc 2 (.t 48) (some (ci 1)) none), qo 1 (.asg (.t 49))]
def pairset_Union_c10 (p : Nums) : IC := (.region (pairset_Union_o10 p) [])
@[simp] theorem pairset_Union_c10_eq {P m Q st} {p : Nums} : AW P m (pairset_Union_c10 p) Q st ↔ AW P m (.region (pairset_Union_o10 p) []) Q st := Iff.rfl
def pairset_Union_c11 (p : Nums) : IC := (.seq (pairset_Union_c3 p) (.seq (.seq (pairset_Union_c4 p) (.cond (.t 28) (pairset_Union_c5 p) .skip)) (.seq (pairset_Union_c6 p) (.seq (.seq (pairset_Union_c7 p) (.cond (.t 40) (pairset_Union_c8 p) .skip)) (.seq (pairset_Union_c9 p) (.cond (.t 47) (pairset_Union_c10 p) .skip))))))
@[simp] theorem pairset_Union_c11_eq {P m Q st} {p : Nums} : AW P m (pairset_Union_c11 p) Q st ↔ AW P m (.seq (pairset_Union_c3 p) (.seq (.seq (pairset_Union_c4 p) (.cond (.t 28) (pairset_Union_c5 p) .skip)) (.seq (pairset_Union_c6 p) (.seq (.seq (pairset_Union_c7 p) (.cond (.t 40) (pairset_Union_c8 p) .skip)) (.seq (pairset_Union_c9 p) (.cond (.t 47) (pairset_Union_c10 p) .skip)))))) Q st := Iff.rfl
def pairset_Union_c12 (p : Nums) : IC := (.seq (.seq (pairset_Union_c2 p) (.cond (.t 20) .skip (.exit 0))) (.block 1 (pairset_Union_c11 p)))
@[simp] theorem pairset_Union_c12_eq {P m Q st} {p : Nums} : AW P m (pairset_Union_c12 p) Q st ↔ AW P m (.seq (.seq (pairset_Union_c2 p) (.cond (.t 20) .skip (.exit 0))) (.block 1 (pairset_Union_c11 p))) Q st := Iff.rfl
@[simp] def pairset_Union_o13 (p : Nums) : List IOp := [qo 50 (.mov (.t 5)), qo 51 (.mov (.t 0)), qo 52 (.app 2 16 (.t 50) (.t 51)), qo 53 (.mov (.t 1)), qo 54 (.app 2 16 (.t 52) (.t 53)), qo 4 (.asg (.t 54))]
def pairset_Union_c13 (p : Nums) : IC := (.region (pairset_Union_o13 p) [])
@[simp] theorem pairset_Union_c13_eq {P m Q st} {p : Nums} : AW P m (pairset_Union_c13 p) Q st ↔ AW P m (.region (pairset_Union_o13 p) []) Q st := Iff.rfl
def ic_pairset_Union (p : Nums) : IC := (.seq (.region [⟨(some 4), (.asg (.c .nils)), none, false⟩] []) (.seq (pairset_Union_c1 p) (.seq (.block 0 (.loop (pairset_Union_c12 p))) (.seq (pairset_Union_c13 p) .ret))))
@[simp] def pairset_Less_o1 (p : Nums) : List IOp := [qo 2 (.box (.t 0)), qo 3 (.box (.t 1)), qo 4 (.asg (.c (.d (.bool false))))]
def pairset_Less_c1 (p : Nums) : IC := (.region (pairset_Less_o1 p) [])
@[simp] theorem pairset_Less_c1_eq {P m Q st} {p : Nums} : AW P m (pairset_Less_c1 p) Q st ↔ AW P m (.region (pairset_Less_o1 p) []) Q st := Iff.rfl
@[simp] def pairset_Less_o2 (p : Nums) : List IOp := [qo 5 (.faddr 0 (.t 2)), qo 6 (.load none (.t 5)), qo 7 (.faddr 0 (.t 3)), qo 8 (.load none (.t 7)), qo 9 (.bin .lss (.t 6) (.t 8)), qo 10 (.mov (.t 9)), ⟨(some 11), (.faddr 0 (.t 2)), (some (10, false)), false⟩, ⟨(some 12), (.load none (.t 11)), (some (10, false)), false⟩, ⟨(some 13), (.faddr 0 (.t 3)), (some (10, false)), false⟩, ⟨(some 14), (.load none (.t 13)), (some (10, false)), false⟩, ⟨(some 15), (.bin .eql (.t 12) (.t 14)), (some (10, false)), false⟩, ⟨(some 16), (.mov (.t 15)), (some (10, false)), false⟩, ⟨(some 17), (.faddr 1 (.t 2)), (some (16, true)), false⟩, ⟨(some 18), (.load none (.t 17)), (some (16, true)), false⟩, ⟨(some 19), (.faddr 1 (.t 3)), (some (16, true)), false⟩, ⟨(some 20), (.load none (.t 19)), (some (16, true)), false⟩, ⟨(some 21), (.bin .lss (.t 18) (.t 20)), (some (16, true)), false⟩, ⟨(some 22), (.pick (.t 16) (.t 21) (.c (.d (.bool false)))), (some (10, false)), false⟩, qo 23 (.pick (.t 10) (.c (.d (.bool true))) (.t 22)), qo 4 (.asg (.t 23))]
def pairset_Less_c2 (p : Nums) : IC := (.region (pairset_Less_o2 p) [])
@[simp] theorem pairset_Less_c2_eq {P m Q st} {p : Nums} : AW P m (pairset_Less_c2 p) Q st ↔ AW P m (.region (pairset_Less_o2 p) []) Q st := Iff.rfl
def ic_pairset_Less (p : Nums) : IC := (.seq (pairset_Less_c1 p) (.seq (pairset_Less_c2 p) .ret))
@[simp] def ref07_Check_o1 (p : Nums) : List IOp := [qo 8 (.faddr 0 (.t 1)), qo 9 (.load none (.t 8)), qo 10 (.bin .lss (.t 9) (ci 0)), qo 11 (.mov (.t 10)), ⟨(some 12), (.faddr 0 (.t 1)), (some (11, false)), false⟩, ⟨(some 13), (.load none (.t 12)), (some (11, false)), false⟩, ⟨(some 14), (.faddr 1 (.t 1)), (some (11, false)), false⟩, ⟨(some 15), (.load none (.t 14)), (some (11, false)), false⟩, ⟨(some 16), (.bin .gtr (.t 13) (.t 15)), (some (11, false)), false⟩, qo 17 (.pick (.t 11) (.c (.d (.bool true))) (.t 16))]
def ref07_Check_c1 (p : Nums) : IC := (.region (ref07_Check_o1 p) [])
@[simp] theorem ref07_Check_c1_eq {P m Q st} {p : Nums} : AW P m (ref07_Check_c1 p) Q st ↔ AW P m (.region (ref07_Check_o1 p) []) Q st := Iff.rfl
def ref07_Check_c2 (p : Nums) : IC := (.seq (.region [⟨(some 2), (.asg (.c (.d (.int .i64 9)))), none, false⟩] []) .ret)
@[simp] theorem ref07_Check_c2_eq {P m Q st} {p : Nums} : AW P m (ref07_Check_c2 p) Q st ↔ AW P m (.seq (.region [⟨(some 2), (.asg (.c (.d (.int .i64 9)))), none, false⟩] []) .ret) Q st := Iff.rfl
@[simp] def ref07_Check_o3 (p : Nums) : List IOp := [qo 18 (.faddr 1 (.t 1)), qo 19 (.load none (.t 18)), qo 20 (.bin .gtr (.t 19) (ci 1048576))]
def ref07_Check_c3 (p : Nums) : IC := (.region (ref07_Check_o3 p) [])
@[simp] theorem ref07_Check_c3_eq {P m Q st} {p : Nums} : AW P m (ref07_Check_c3 p) Q st ↔ AW P m (.region (ref07_Check_o3 p) []) Q st := Iff.rfl
def ref07_Check_c4 (p : Nums) : IC := (.seq (.region [⟨(some 2), (.asg (.c (.d (.int .i64 6)))), none, false⟩] []) .ret)
@[simp] theorem ref07_Check_c4_eq {P m Q st} {p : Nums} : AW P m (ref07_Check_c4 p) Q st ↔ AW P m (.seq (.region [⟨(some 2), (.asg (.c (.d (.int .i64 6)))), none, false⟩] []) .ret) Q st := Iff.rfl
@[simp] def ref07_Check_o5 (p : Nums) : List IOp := [qo 21 (.faddr 2 (.t 1)), qo 22 (.load none (.t 21)), qo 23 (.len (.t 22)), qo 24 (.bin .eql (.t 23) (ci 0))]
def ref07_Check_c5 (p : Nums) : IC := (.region (ref07_Check_o5 p) [])
@[simp] theorem ref07_Check_c5_eq {P m Q st} {p : Nums} : AW P m (ref07_Check_c5 p) Q st ↔ AW P m (.region (ref07_Check_o5 p) []) Q st := Iff.rfl
def ref07_Check_c6 (p : Nums) : IC := (.seq (.region [⟨(some 2), (.asg (.c (.d (.int .i64 14)))), none, false⟩] []) .ret)
@[simp] theorem ref07_Check_c6_eq {P m Q st} {p : Nums} : AW P m (ref07_Check_c6 p) Q st ↔ AW P m (.seq (.region [⟨(some 2), (.asg (.c (.d (.int .i64 14)))), none, false⟩] []) .ret) Q st := Iff.rfl
@[simp] def ref07_Check_o7 (p : Nums) : List IOp := [qo 25 (.faddr 2 (.t 1)), qo 26 (.load none (.t 25)), qo 27 (.len (.t 26)), qo 28 (.bin .gtr (.t 27) (ci 1048576)), qo 29 (.mov (.t 28)), ⟨(some 30), (.load (some 3) (.t 1)), (some (29, false)), false⟩, ⟨(some 31), (.call p.ref07_Code [(.t 30)]), (some (29, false)), false⟩, ⟨(some 32), (.bin .gtr (.t 31) (ci 1048576)), (some (29, false)), false⟩, qo 33 (.pick (.t 29) (.c (.d (.bool true))) (.t 32))]
def ref07_Check_c7 (p : Nums) : IC := (.region (ref07_Check_o7 p) [])
@[simp] theorem ref07_Check_c7_eq {P m Q st} {p : Nums} : AW P m (ref07_Check_c7 p) Q st ↔ AW P m (.region (ref07_Check_o7 p) []) Q st := Iff.rfl
def ref07_Check_c8 (p : Nums) : IC := (.seq (.region [⟨(some 2), (.asg (.c (.d (.int .i64 6)))), none, false⟩] []) .ret)
@[simp] theorem ref07_Check_c8_eq {P m Q st} {p : Nums} : AW P m (ref07_Check_c8 p) Q st ↔ AW P m (.seq (.region [⟨(some 2), (.asg (.c (.d (.int .i64 6)))), none, false⟩] []) .ret) Q st := Iff.rfl
@[simp] def ref07_Check_o9 (p : Nums) : List IOp := [qo 34 (.mov (.t 3)), qo 35 (.faddr 2 (.t 1)), qo 36 (.load none (.t 35)), qo 37 (.len (.t 36)), qo 38 (.bin .lss (.t 34) (.t 37))]
def ref07_Check_c9 (p : Nums) : IC := (.region (ref07_Check_o9 p) [])
@[simp] theorem ref07_Check_c9_eq {P m Q st} {p : Nums} : AW P m (ref07_Check_c9 p) Q st ↔ AW P m (.region (ref07_Check_o9 p) []) Q st := Iff.rfl
@[simp] def ref07_Check_o10 (p : Nums) : List IOp := [qo 41 (.faddr 2 (.t 1)), qo 42 (.load none (.t 41)), qo 43 (.mov (.t 3)), qo 44 (.iaddr 5 (.t 42) (.t 43)), qo 45 (.load (some 5) (.t 44)), qo 4 (.alloc [.nils, (zi 0), (zi 0), (zi 0), (zi 0)]), qn (.store 5 (.t 4) (.t 45))]
def ref07_Check_c10 (p : Nums) : IC := (.region (ref07_Check_o10 p) [])
@[simp] theorem ref07_Check_c10_eq {P m Q st} {p : Nums} : AW P m (ref07_Check_c10 p) Q st ↔ AW P m (.region (ref07_Check_o10 p) []) Q st := Iff.rfl
@[simp] def ref07_Check_o11 (p : Nums) : List IOp := [qo 46 (.mov (.t 5)), qo 47 (.faddr 0 (.t 4)), qo 48 (.load none (.t 47)), qo 49 (.len (.t 48)), qo 50 (.bin .lss (.t 46) (.t 49))]
def ref07_Check_c11 (p : Nums) : IC := (.region (ref07_Check_o11 p) [])
@[simp] theorem ref07_Check_c11_eq {P m Q st} {p : Nums} : AW P m (ref07_Check_c11 p) Q st ↔ AW P m (.region (ref07_Check_o11 p) []) Q st := Iff.rfl
@[simp] def ref07_Check_o12 (p : Nums) : List IOp := [qp 53 (.faddr 0 (.t 4)), qp 54 (.load none (.t 53)), qp 55 (.mov (.t 5)), qp 56 (.iaddr 5 (.t 54) (.t 55)), qp 57 (.load (some 5) (.t 56)), qp 58 (.faddr 1 (.t 1)), qp 59 (.load none (.t 58)), qo 60 (.call p.ref07_Instr [(.t 57), (.t 59)]), qo 6 (.asg (.t 60))]
def ref07_Check_c12 (p : Nums) : IC := (.region (ref07_Check_o12 p) [])
@[simp] theorem ref07_Check_c12_eq {P m Q st} {p : Nums} : AW P m (ref07_Check_c12 p) Q st ↔ AW P m (.region (ref07_Check_o12 p) []) Q st := Iff.rfl
def ref07_Check_c13 (p : Nums) : IC := (.seq (.region [⟨(some 63), (.mov (.t 6)), none, false⟩, ⟨(some 2), (.asg (.t 63)), none, false⟩] []) .ret)
@[simp] theorem ref07_Check_c13_eq {P m Q st} {p : Nums} : AW P m (ref07_Check_c13 p) Q st ↔ AW P m (.seq (.region [⟨(some 63), (.mov (.t 6)), none, false⟩, ⟨(some 2), (.asg (.t 63)), none, false⟩] []) .ret) Q st := Iff.rfl
def ref07_Check_c14 (p : Nums) : IC := (.seq (ref07_Check_c12 p) (.seq (.region [⟨(some 61), (.mov (.t 6)), none, false⟩, ⟨(some 62), (.bin .neq (.t 61) (.c (.d (.int .i64 0)))), none, false⟩] []) (.cond (.t 62) (ref07_Check_c13 p) .skip)))
@[simp] theorem ref07_Check_c14_eq {P m Q st} {p : Nums} : AW P m (ref07_Check_c14 p) Q st ↔ AW P m (.seq (ref07_Check_c12 p) (.seq (.region [⟨(some 61), (.mov (.t 6)), none, false⟩, ⟨(some 62), (.bin .neq (.t 61) (.c (.d (.int .i64 0)))), none, false⟩] []) (.cond (.t 62) (ref07_Check_c13 p) .skip))) Q st := Iff.rfl
@[simp] def ref07_Check_o15 (p : Nums) : List IOp := [qo 51 (.mov (.t 5)), qo 52 (.bin .add (.t 51) (ci 1)), qo 5 (.asg (.t 52))]
def ref07_Check_c15 (p : Nums) : IC := (.region (ref07_Check_o15 p) [])
@[simp] theorem ref07_Check_c15_eq {P m Q st} {p : Nums} : AW P m (ref07_Check_c15 p) Q st ↔ AW P m (.region (ref07_Check_o15 p) []) Q st := Iff.rfl
def ref07_Check_c16 (p : Nums) : IC := (.seq (.seq (ref07_Check_c11 p) (.cond (.t 50) .skip (.exit 2))) (.seq (.block 3 (ref07_Check_c14 p)) (ref07_Check_c15 p)))
@[simp] theorem ref07_Check_c16_eq {P m Q st} {p : Nums} : AW P m (ref07_Check_c16 p) Q st ↔ AW P m (.seq (.seq (ref07_Check_c11 p) (.cond (.t 50) .skip (.exit 2))) (.seq (.block 3 (ref07_Check_c14 p)) (ref07_Check_c15 p))) Q st := Iff.rfl
@[simp] def ref07_Check_o17 (p : Nums) : List IOp := [qo 64 (.faddr 1 (.t 4)), qo 65 (.load (some 4) (.t 64)), qo 66 (.faddr 1 (.t 1)), qo 67 (.load none (.t 66)), qo 68 (.faddr 2 (.t 1)), qo 69 (.load none (.t 68)), qo 70 (.len (.t 69)), qo 71 (.call p.ref07_Term [(.t 65), (.t 67), (.t 70)]), qo 7 (.asg (.t 71))]
def ref07_Check_c17 (p : Nums) : IC := (.region (ref07_Check_o17 p) [])
@[simp] theorem ref07_Check_c17_eq {P m Q st} {p : Nums} : AW P m (ref07_Check_c17 p) Q st ↔ AW P m (.region (ref07_Check_o17 p) []) Q st := Iff.rfl
def ref07_Check_c18 (p : Nums) : IC := (.seq (.region [⟨(some 74), (.mov (.t 7)), none, false⟩, ⟨(some 2), (.asg (.t 74)), none, false⟩] []) .ret)
@[simp] theorem ref07_Check_c18_eq {P m Q st} {p : Nums} : AW P m (ref07_Check_c18 p) Q st ↔ AW P m (.seq (.region [⟨(some 74), (.mov (.t 7)), none, false⟩, ⟨(some 2), (.asg (.t 74)), none, false⟩] []) .ret) Q st := Iff.rfl
def ref07_Check_c19 (p : Nums) : IC := (.seq (ref07_Check_c10 p) (.seq (.seq (.region [⟨(some 5), (.asg (.c (.d (.int .i64 0)))), none, false⟩] []) (.block 2 (.loop (ref07_Check_c16 p)))) (.seq (ref07_Check_c17 p) (.seq (.region [⟨(some 72), (.mov (.t 7)), none, false⟩, ⟨(some 73), (.bin .neq (.t 72) (.c (.d (.int .i64 0)))), none, false⟩] []) (.cond (.t 73) (ref07_Check_c18 p) .skip)))))
@[simp] theorem ref07_Check_c19_eq {P m Q st} {p : Nums} : AW P m (ref07_Check_c19 p) Q st ↔ AW P m (.seq (ref07_Check_c10 p) (.seq (.seq (.region [⟨(some 5), (.asg (.c (.d (.int .i64 0)))), none, false⟩] []) (.block 2 (.loop (ref07_Check_c16 p)))) (.seq (ref07_Check_c17 p) (.seq (.region [⟨(some 72), (.mov (.t 7)), none, false⟩, ⟨(some 73), (.bin .neq (.t 72) (.c (.d (.int .i64 0)))), none, false⟩] []) (.cond (.t 73) (ref07_Check_c18 p) .skip))))) Q st := Iff.rfl
@[simp] def ref07_Check_o20 (p : Nums) : List IOp := [qo 39 (.mov (.t 3)), qo 40 (.bin .add (.t 39) (ci 1)), qo 3 (.asg (.t 40))]
def ref07_Check_c20 (p : Nums) : IC := (.region (ref07_Check_o20 p) [])
@[simp] theorem ref07_Check_c20_eq {P m Q st} {p : Nums} : AW P m (ref07_Check_c20 p) Q st ↔ AW P m (.region (ref07_Check_o20 p) []) Q st := Iff.rfl
def ref07_Check_c21 (p : Nums) : IC := (.seq (.seq (ref07_Check_c9 p) (.cond (.t 38) .skip (.exit 0))) (.seq (.block 1 (ref07_Check_c19 p)) (ref07_Check_c20 p)))
@[simp] theorem ref07_Check_c21_eq {P m Q st} {p : Nums} : AW P m (ref07_Check_c21 p) Q st ↔ AW P m (.seq (.seq (ref07_Check_c9 p) (.cond (.t 38) .skip (.exit 0))) (.seq (.block 1 (ref07_Check_c19 p)) (ref07_Check_c20 p))) Q st := Iff.rfl
def ic_ref07_Check (p : Nums) : IC := (.seq (.region [⟨(some 1), (.box (.t 0)), none, false⟩, ⟨(some 2), (.asg (.c (.d (.int .i64 0)))), none, false⟩] []) (.seq (.seq (ref07_Check_c1 p) (.cond (.t 17) (ref07_Check_c2 p) .skip)) (.seq (.seq (ref07_Check_c3 p) (.cond (.t 20) (ref07_Check_c4 p) .skip)) (.seq (.seq (ref07_Check_c5 p) (.cond (.t 24) (ref07_Check_c6 p) .skip)) (.seq (.seq (ref07_Check_c7 p) (.cond (.t 33) (ref07_Check_c8 p) .skip)) (.seq (.seq (.region [⟨(some 3), (.asg (.c (.d (.int .i64 0)))), none, false⟩] []) (.block 0 (.loop (ref07_Check_c21 p)))) (.seq (.region [⟨(some 2), (.asg (.c (.d (.int .i64 0)))), none, false⟩] []) .ret)))))))
@[simp] def pairset_DropV_o1 (p : Nums) : List IOp := [qo 5 (.mov (.t 0)), qo 6 (.mkfn (.func p.pairset_DropV_1) [] [(.t 3)]), qo 7 (.call p.pairset_filter [(.t 5), (.t 6)]), qo 4 (.asg (.t 7))]
def pairset_DropV_c1 (p : Nums) : IC := (.region (pairset_DropV_o1 p) [])
@[simp] theorem pairset_DropV_c1_eq {P m Q st} {p : Nums} : AW P m (pairset_DropV_c1 p) Q st ↔ AW P m (.region (pairset_DropV_o1 p) []) Q st := Iff.rfl
def ic_pairset_DropV (p : Nums) : IC := (.seq (.region [⟨(some 3), (.box (.t 1)), none, false⟩, ⟨(some 4), (.asg (.c .nils)), none, false⟩] []) (.seq (pairset_DropV_c1 p) .ret))
@[simp] def pairset_DropL_o1 (p : Nums) : List IOp := [qo 5 (.mov (.t 0)), qo 6 (.mkfn (.func p.pairset_DropL_1) [] [(.t 3)]), qo 7 (.call p.pairset_filter [(.t 5), (.t 6)]), qo 4 (.asg (.t 7))]
def pairset_DropL_c1 (p : Nums) : IC := (.region (pairset_DropL_o1 p) [])
@[simp] theorem pairset_DropL_c1_eq {P m Q st} {p : Nums} : AW P m (pairset_DropL_c1 p) Q st ↔ AW P m (.region (pairset_DropL_o1 p) []) Q st := Iff.rfl
def ic_pairset_DropL (p : Nums) : IC := (.seq (.region [⟨(some 3), (.box (.t 1)), none, false⟩, ⟨(some 4), (.asg (.c .nils)), none, false⟩] []) (.seq (pairset_DropL_c1 p) .ret))
@[simp] def ref11_Less_o1 (p : Nums) : List IOp := [qo 2 (.box (.t 0)), qo 3 (.box (.t 1)), qo 4 (.asg (.c (.d (.bool false))))]
def ref11_Less_c1 (p : Nums) : IC := (.region (ref11_Less_o1 p) [])
@[simp] theorem ref11_Less_c1_eq {P m Q st} {p : Nums} : AW P m (ref11_Less_c1 p) Q st ↔ AW P m (.region (ref11_Less_o1 p) []) Q st := Iff.rfl
@[simp] def ref11_Less_o2 (p : Nums) : List IOp := [qo 5 (.faddr 0 (.t 2)), qo 6 (.load none (.t 5)), qo 7 (.faddr 0 (.t 3)), qo 8 (.load none (.t 7)), qo 9 (.bin .neq (.t 6) (.t 8))]
def ref11_Less_c2 (p : Nums) : IC := (.region (ref11_Less_o2 p) [])
@[simp] theorem ref11_Less_c2_eq {P m Q st} {p : Nums} : AW P m (ref11_Less_c2 p) Q st ↔ AW P m (.region (ref11_Less_o2 p) []) Q st := Iff.rfl
@[simp] def ref11_Less_o3 (p : Nums) : List IOp := [qo 10 (.faddr 0 (.t 2)), qo 11 (.load none (.t 10)), qo 12 (.faddr 0 (.t 3)), qo 13 (.load none (.t 12)), qo 14 (.bin .lss (.t 11) (.t 13)), qo 4 (.asg (.t 14))]
def ref11_Less_c3 (p : Nums) : IC := (.region (ref11_Less_o3 p) [])
@[simp] theorem ref11_Less_c3_eq {P m Q st} {p : Nums} : AW P m (ref11_Less_c3 p) Q st ↔ AW P m (.region (ref11_Less_o3 p) []) Q st := Iff.rfl
@[simp] def ref11_Less_o4 (p : Nums) : List IOp := [qo 15 (.faddr 1 (.t 2)), qo 16 (.load none (.t 15)), qo 17 (.faddr 1 (.t 3)), qo 18 (.load none (.t 17)), qo 19 (.bin .lss (.t 16) (.t 18)), qo 4 (.asg (.t 19))]
def ref11_Less_c4 (p : Nums) : IC := (.region (ref11_Less_o4 p) [])
@[simp] theorem ref11_Less_c4_eq {P m Q st} {p : Nums} : AW P m (ref11_Less_c4 p) Q st ↔ AW P m (.region (ref11_Less_o4 p) []) Q st := Iff.rfl
def ic_ref11_Less (p : Nums) : IC := (.seq (ref11_Less_c1 p) (.seq (.seq (ref11_Less_c2 p) (.cond (.t 9) (.seq (ref11_Less_c3 p) .ret) .skip)) (.seq (ref11_Less_c4 p) .ret)))
def slices_Clone_Pair_c1 (p : Nums) : IC := (.seq (.region [⟨(some 2), (.asg (.c .nils)), none, false⟩] []) .ret)
@[simp] theorem slices_Clone_Pair_c1_eq {P m Q st} {p : Nums} : AW P m (slices_Clone_Pair_c1 p) Q st ↔ AW P m (.seq (.region [⟨(some 2), (.asg (.c .nils)), none, false⟩] []) .ret) Q st := Iff.rfl
@[simp] def slices_Clone_Pair_o2 (p : Nums) : List IOp := [qo 5 (.bslice 2 0 [(.int .i64 0), (.int .i64 0)] []), qo 6 (.mov (.t 0)), qo 7 (.app 2 16 (.t 5) (.t 6)), qo 2 (.asg (.t 7))]
def slices_Clone_Pair_c2 (p : Nums) : IC := (.region (slices_Clone_Pair_o2 p) [])
@[simp] theorem slices_Clone_Pair_c2_eq {P m Q st} {p : Nums} : AW P m (slices_Clone_Pair_c2 p) Q st ↔ AW P m (.region (slices_Clone_Pair_o2 p) []) Q st := Iff.rfl
def ic_slices_Clone_Pair (p : Nums) : IC := (.seq (.region [⟨(some 2), (.asg (.c .nils)), none, false⟩] []) (.seq (.seq (.region [⟨(some 3), (.mov (.t 0)), none, false⟩, ⟨(some 4), (.isnil false (.t 3)), none, false⟩] []) (.cond (.t 4) (slices_Clone_Pair_c1 p) .skip)) (.seq (slices_Clone_Pair_c2 p) .ret)))
@[simp] def slices_Compact_Pair_o1 (p : Nums) : List IOp := [qo 6 (.mov (.t 0)), qo 7 (.len (.t 6)), qo 8 (.bin .lss (.t 7) (ci 2))]
def slices_Compact_Pair_c1 (p : Nums) : IC := (.region (slices_Compact_Pair_o1 p) [])
@[simp] theorem slices_Compact_Pair_c1_eq {P m Q st} {p : Nums} : AW P m (slices_Compact_Pair_c1 p) Q st ↔ AW P m (.region (slices_Compact_Pair_o1 p) []) Q st := Iff.rfl
def slices_Compact_Pair_c2 (p : Nums) : IC := (.seq (.region [⟨(some 9), (.mov (.t 0)), none, false⟩, ⟨(some 2), (.asg (.t 9)), none, false⟩] []) .ret)
@[simp] theorem slices_Compact_Pair_c2_eq {P m Q st} {p : Nums} : AW P m (slices_Compact_Pair_c2 p) Q st ↔ AW P m (.seq (.region [⟨(some 9), (.mov (.t 0)), none, false⟩, ⟨(some 2), (.asg (.t 9)), none, false⟩] []) .ret) Q st := Iff.rfl
@[simp] def slices_Compact_Pair_o3 (p : Nums) : List IOp := [qo 10 (.mov (.t 3)), qo 11 (.mov (.t 0)), qo 12 (.len (.t 11)), qo 13 (.bin .lss (.t 10) (.t 12))]
def slices_Compact_Pair_c3 (p : Nums) : IC := (.region (slices_Compact_Pair_o3 p) [])
@[simp] theorem slices_Compact_Pair_c3_eq {P m Q st} {p : Nums} : AW P m (slices_Compact_Pair_c3 p) Q st ↔ AW P m (.region (slices_Compact_Pair_o3 p) []) Q st := Iff.rfl
@[simp] def slices_Compact_Pair_o4 (p : Nums) : List IOp := [qp 16 (.mov (.t 0)), qp 17 (.mov (.t 3)), qp 18 (.iaddr 2 (.t 16) (.t 17)), qp 19 (.load (some 2) (.t 18)), qp 20 (.mov (.t 0)), qp 21 (.mov (.t 3)), qp 22 (.bin .sub (.t 21) (ci 1)), qp 23 (.iaddr 2 (.t 20) (.t 22)), qp 24 (.load (some 2) (.t 23)), qo 25 (.eqs false [.int, .int] (.t 19) (.t 24))]
def slices_Compact_Pair_c4 (p : Nums) : IC := (.region (slices_Compact_Pair_o4 p) [])
@[simp] theorem slices_Compact_Pair_c4_eq {P m Q st} {p : Nums} : AW P m (slices_Compact_Pair_c4 p) Q st ↔ AW P m (.region (slices_Compact_Pair_o4 p) []) Q st := Iff.rfl
@[simp] def slices_Compact_Pair_o5 (p : Nums) : List IOp := [qo 26 (.mov (.t 0)), qo 27 (.mov (.t 3)), qo 28 (.slc 2 (.t 26) (some (.t 27)) none), qo 4 (.asg (.t 28))]
def slices_Compact_Pair_c5 (p : Nums) : IC := (.region (slices_Compact_Pair_o5 p) [])
@[simp] theorem slices_Compact_Pair_c5_eq {P m Q st} {p : Nums} : AW P m (slices_Compact_Pair_c5 p) Q st ↔ AW P m (.region (slices_Compact_Pair_o5 p) []) Q st := Iff.rfl
@[simp] def slices_Compact_Pair_o6 (p : Nums) : List IOp := [qo 29 (.mov (.t 5)), qo 30 (.mov (.t 4)), qo 31 (.len (.t 30)), qo 32 (.bin .lss (.t 29) (.t 31))]
def slices_Compact_Pair_c6 (p : Nums) : IC := (.region (slices_Compact_Pair_o6 p) [])
@[simp] theorem slices_Compact_Pair_c6_eq {P m Q st} {p : Nums} : AW P m (slices_Compact_Pair_c6 p) Q st ↔ AW P m (.region (slices_Compact_Pair_o6 p) []) Q st := Iff.rfl
@[simp] def slices_Compact_Pair_o7 (p : Nums) : List IOp := [qp 35 (.mov (.t 4)), qp 36 (.mov (.t 5)), qp 37 (.iaddr 2 (.t 35) (.t 36)), qp 38 (.load (some 2) (.t 37)), qp 39 (.mov (.t 4)), qp 40 (.mov (.t 5)), qp 41 (.bin .sub (.t 40) (ci 1)), qp 42 (.iaddr 2 (.t 39) (.t 41)), qp 43 (.load (some 2) (.t 42)), qo 44 (.eqs true [.int, .int] (.t 38) (.t 43))]
def slices_Compact_Pair_c7 (p : Nums) : IC := (.region (slices_Compact_Pair_o7 p) [])
@[simp] theorem slices_Compact_Pair_c7_eq {P m Q st} {p : Nums} : AW P m (slices_Compact_Pair_c7 p) Q st ↔ AW P m (.region (slices_Compact_Pair_o7 p) []) Q st := Iff.rfl
@[simp] def slices_Compact_Pair_o8 (p : Nums) : List IOp := [qo 45 (.mov (.t 0)), qo 46 (.mov (.t 3)), qo 47 (.mov (.t 4)), qo 48 (.mov (.t 5)), qo 49 (.iaddr 2 (.t 47) (.t 48)), qo 50 (.load (some 2) (.t 49)), qo 51 (.iaddr 2 (.t 45) (.t 46)), qn (.store 2 (.t 51) (.t 50))]
def slices_Compact_Pair_c8 (p : Nums) : IC := (.region (slices_Compact_Pair_o8 p) [])
@[simp] theorem slices_Compact_Pair_c8_eq {P m Q st} {p : Nums} : AW P m (slices_Compact_Pair_c8 p) Q st ↔ AW P m (.region (slices_Compact_Pair_o8 p) []) Q st := Iff.rfl
@[simp] def slices_Compact_Pair_o9 (p : Nums) : List IOp := [qo 52 (.mov (.t 3)), qo 53 (.bin .add (.t 52) (ci 1)), qo 3 (.asg (.t 53))]
def slices_Compact_Pair_c9 (p : Nums) : IC := (.region (slices_Compact_Pair_o9 p) [])
@[simp] theorem slices_Compact_Pair_c9_eq {P m Q st} {p : Nums} : AW P m (slices_Compact_Pair_c9 p) Q st ↔ AW P m (.region (slices_Compact_Pair_o9 p) []) Q st := Iff.rfl
def slices_Compact_Pair_c10 (p : Nums) : IC := (.seq (slices_Compact_Pair_c7 p) (.cond (.t 44) (.seq (slices_Compact_Pair_c8 p) (slices_Compact_Pair_c9 p)) .skip))
@[simp] theorem slices_Compact_Pair_c10_eq {P m Q st} {p : Nums} : AW P m (slices_Compact_Pair_c10 p) Q st ↔ AW P m (.seq (slices_Compact_Pair_c7 p) (.cond (.t 44) (.seq (slices_Compact_Pair_c8 p) (slices_Compact_Pair_c9 p)) .skip)) Q st := Iff.rfl
@[simp] def slices_Compact_Pair_o11 (p : Nums) : List IOp := [qo 33 (.mov (.t 5)), qo 34 (.bin .add (.t 33) (ci 1)), qo 5 (.asg (.t 34))]
def slices_Compact_Pair_c11 (p : Nums) : IC := (.region (slices_Compact_Pair_o11 p) [])
@[simp] theorem slices_Compact_Pair_c11_eq {P m Q st} {p : Nums} : AW P m (slices_Compact_Pair_c11 p) Q st ↔ AW P m (.region (slices_Compact_Pair_o11 p) []) Q st := Iff.rfl
def slices_Compact_Pair_c12 (p : Nums) : IC := (.seq (.seq (slices_Compact_Pair_c6 p) (.cond (.t 32) .skip (.exit 2))) (.seq (.block 3 (slices_Compact_Pair_c10 p)) (slices_Compact_Pair_c11 p)))
@[simp] theorem slices_Compact_Pair_c12_eq {P m Q st} {p : Nums} : AW P m (slices_Compact_Pair_c12 p) Q st ↔ AW P m (.seq (.seq (slices_Compact_Pair_c6 p) (.cond (.t 32) .skip (.exit 2))) (.seq (.block 3 (slices_Compact_Pair_c10 p)) (slices_Compact_Pair_c11 p))) Q st := Iff.rfl
@[simp] def slices_Compact_Pair_o13 (p : Nums) : List IOp := [qo 54 (.mov (.t 0)), qo 55 (.mov (.t 3)), qo 56 (.slc 2 (.t 54) (some (.t 55)) none), qn (.clr 2 [(.int .i64 0), (.int .i64 0)] (.t 56))]
def slices_Compact_Pair_c13 (p : Nums) : IC := (.region (slices_Compact_Pair_o13 p) [])
@[simp] theorem slices_Compact_Pair_c13_eq {P m Q st} {p : Nums} : AW P m (slices_Compact_Pair_c13 p) Q st ↔ AW P m (.region (slices_Compact_Pair_o13 p) []) Q st := Iff.rfl
@[simp] def slices_Compact_Pair_o14 (p : Nums) : List IOp := [qo 57 (.mov (.t 0)), qo 58 (.mov (.t 3)), qo 59 (.slc 2 (.t 57) none (some (.t 58))), qo 2 (.asg (.t 59))]
def slices_Compact_Pair_c14 (p : Nums) : IC := (.region (slices_Compact_Pair_o14 p) [])
@[simp] theorem slices_Compact_Pair_c14_eq {P m Q st} {p : Nums} : AW P m (slices_Compact_Pair_c14 p) Q st ↔ AW P m (.region (slices_Compact_Pair_o14 p) []) Q st := Iff.rfl
def slices_Compact_Pair_c15 (p : Nums) : IC := (.seq (slices_Compact_Pair_c5 p) (.seq (.seq (.region [⟨(some 5), (.asg (.c (.d (.int .i64 1)))), none, false⟩] []) (.block 2 (.loop (slices_Compact_Pair_c12 p)))) (.seq (slices_Compact_Pair_c13 p) (.seq (slices_Compact_Pair_c14 p) .ret))))
@[simp] theorem slices_Compact_Pair_c15_eq {P m Q st} {p : Nums} : AW P m (slices_Compact_Pair_c15 p) Q st ↔ AW P m (.seq (slices_Compact_Pair_c5 p) (.seq (.seq (.region [⟨(some 5), (.asg (.c (.d (.int .i64 1)))), none, false⟩] []) (.block 2 (.loop (slices_Compact_Pair_c12 p)))) (.seq (slices_Compact_Pair_c13 p) (.seq (slices_Compact_Pair_c14 p) .ret)))) Q st := Iff.rfl
def slices_Compact_Pair_c16 (p : Nums) : IC := (.seq (slices_Compact_Pair_c4 p) (.cond (.t 25) (slices_Compact_Pair_c15 p) .skip))
@[simp] theorem slices_Compact_Pair_c16_eq {P m Q st} {p : Nums} : AW P m (slices_Compact_Pair_c16 p) Q st ↔ AW P m (.seq (slices_Compact_Pair_c4 p) (.cond (.t 25) (slices_Compact_Pair_c15 p) .skip)) Q st := Iff.rfl
@[simp] def slices_Compact_Pair_o17 (p : Nums) : List IOp := [qo 14 (.mov (.t 3)), qo 15 (.bin .add (.t 14) (ci 1)), qo 3 (.asg (.t 15))]
def slices_Compact_Pair_c17 (p : Nums) : IC := (.region (slices_Compact_Pair_o17 p) [])
@[simp] theorem slices_Compact_Pair_c17_eq {P m Q st} {p : Nums} : AW P m (slices_Compact_Pair_c17 p) Q st ↔ AW P m (.region (slices_Compact_Pair_o17 p) []) Q st := Iff.rfl
def slices_Compact_Pair_c18 (p : Nums) : IC := (.seq (.seq (slices_Compact_Pair_c3 p) (.cond (.t 13) .skip (.exit 0))) (.seq (.block 1 (slices_Compact_Pair_c16 p)) (slices_Compact_Pair_c17 p)))
@[simp] theorem slices_Compact_Pair_c18_eq {P m Q st} {p : Nums} : AW P m (slices_Compact_Pair_c18 p) Q st ↔ AW P m (.seq (.seq (slices_Compact_Pair_c3 p) (.cond (.t 13) .skip (.exit 0))) (.seq (.block 1 (slices_Compact_Pair_c16 p)) (slices_Compact_Pair_c17 p))) Q st := Iff.rfl
def ic_slices_Compact_Pair (p : Nums) : IC := (.seq (.region [⟨(some 2), (.asg (.c .nils)), none, false⟩] []) (.seq (.seq (slices_Compact_Pair_c1 p) (.cond (.t 8) (slices_Compact_Pair_c2 p) .skip)) (.seq (.seq (.region [⟨(some 3), (.asg (.c (.d (.int .i64 1)))), none, false⟩] []) (.block 0 (.loop (slices_Compact_Pair_c18 p)))) (.seq (.region [⟨(some 60), (.mov (.t 0)), none, false⟩, ⟨(some 2), (.asg (.t 60)), none, false⟩] []) .ret))))
@[simp] def pairset_find_o1 (p : Nums) : List IOp := [qo 8 (.mov (.t 0)), qo 9 (.len (.t 8)), qo 5 (.asg (ci 0)), qo 6 (.asg (.t 9))]
def pairset_find_c1 (p : Nums) : IC := (.region (pairset_find_o1 p) [])
@[simp] theorem pairset_find_c1_eq {P m Q st} {p : Nums} : AW P m (pairset_find_c1 p) Q st ↔ AW P m (.region (pairset_find_o1 p) []) Q st := Iff.rfl
@[simp] def pairset_find_o2 (p : Nums) : List IOp := [qo 10 (.mov (.t 5)), qo 11 (.mov (.t 6)), qo 12 (.bin .lss (.t 10) (.t 11))]
def pairset_find_c2 (p : Nums) : IC := (.region (pairset_find_o2 p) [])
@[simp] theorem pairset_find_c2_eq {P m Q st} {p : Nums} : AW P m (pairset_find_c2 p) Q st ↔ AW P m (.region (pairset_find_o2 p) []) Q st := Iff.rfl
@[simp] def pairset_find_o3 (p : Nums) : List IOp := [qo 13 (.mov (.t 5)), qo 14 (.mov (.t 6)), qo 15 (.mov (.t 5)), qo 16 (.bin .sub (.t 14) (.t 15)), qo 17 (.bin .quo (.t 16) (ci 2)), qo 18 (.bin .add (.t 13) (.t 17)), qo 7 (.asg (.t 18))]
def pairset_find_c3 (p : Nums) : IC := (.region (pairset_find_o3 p) [])
@[simp] theorem pairset_find_c3_eq {P m Q st} {p : Nums} : AW P m (pairset_find_c3 p) Q st ↔ AW P m (.region (pairset_find_o3 p) []) Q st := Iff.rfl
@[simp] def pairset_find_o4 (p : Nums) : List IOp := [qp 19 (.mov (.t 0)), qp 20 (.mov (.t 7)), qp 21 (.iaddr 2 (.t 19) (.t 20)), qp 22 (.load (some 2) (.t 21)), qp 23 (.load (some 2) (.t 3)), qo 24 (.call p.pairset_Less [(.t 22), (.t 23)])]
def pairset_find_c4 (p : Nums) : IC := (.region (pairset_find_o4 p) [])
@[simp] theorem pairset_find_c4_eq {P m Q st} {p : Nums} : AW P m (pairset_find_c4 p) Q st ↔ AW P m (.region (pairset_find_o4 p) []) Q st := Iff.rfl
@[simp] def pairset_find_o5 (p : Nums) : List IOp := [qo 25 (.mov (.t 7)), qo 26 (.bin .add (.t 25) (ci 1)), qo 5 (.asg (.t 26))]
def pairset_find_c5 (p : Nums) : IC := (.region (pairset_find_o5 p) [])
@[simp] theorem pairset_find_c5_eq {P m Q st} {p : Nums} : AW P m (pairset_find_c5 p) Q st ↔ AW P m (.region (pairset_find_o5 p) []) Q st := Iff.rfl
@[simp] def pairset_find_o6 (p : Nums) : List IOp := [qo 27 (.mov (.t 7)), qo 6 (.asg (.t 27))]
def pairset_find_c6 (p : Nums) : IC := (.region (pairset_find_o6 p) [])
@[simp] theorem pairset_find_c6_eq {P m Q st} {p : Nums} : AW P m (pairset_find_c6 p) Q st ↔ AW P m (.region (pairset_find_o6 p) []) Q st := Iff.rfl
def pairset_find_c7 (p : Nums) : IC := (.seq (pairset_find_c3 p) (.seq (pairset_find_c4 p) (.cond (.t 24) (pairset_find_c5 p) (pairset_find_c6 p))))
@[simp] theorem pairset_find_c7_eq {P m Q st} {p : Nums} : AW P m (pairset_find_c7 p) Q st ↔ AW P m (.seq (pairset_find_c3 p) (.seq (pairset_find_c4 p) (.cond (.t 24) (pairset_find_c5 p) (pairset_find_c6 p)))) Q st := Iff.rfl
def pairset_find_c8 (p : Nums) : IC := (.seq (.seq (pairset_find_c2 p) (.cond (.t 12) .skip (.exit 0))) (.block 1 (pairset_find_c7 p)))
@[simp] theorem pairset_find_c8_eq {P m Q st} {p : Nums} : AW P m (pairset_find_c8 p) Q st ↔ AW P m (.seq (.seq (pairset_find_c2 p) (.cond (.t 12) .skip (.exit 0))) (.block 1 (pairset_find_c7 p))) Q st := Iff.rfl
def ic_pairset_find (p : Nums) : IC := (.seq (.region [⟨(some 3), (.box (.t 1)), none, false⟩, ⟨(some 4), (.asg (.c (.d (.int .i64 0)))), none, false⟩] []) (.seq (pairset_find_c1 p) (.seq (.block 0 (.loop (pairset_find_c8 p))) (.seq (.region [⟨(some 28), (.mov (.t 5)), none, false⟩, ⟨(some 4), (.asg (.t 28)), none, false⟩] []) .ret))))
@[simp] def ref07_Code_o1 (p : Nums) : List IOp := [qo 5 (.mov (.t 4)), qo 6 (.faddr 2 (.t 1)), qo 7 (.load none (.t 6)), qo 8 (.len (.t 7)), qo 9 (.bin .lss (.t 5) (.t 8))]
def ref07_Code_c1 (p : Nums) : IC := (.region (ref07_Code_o1 p) [])
@[simp] theorem ref07_Code_c1_eq {P m Q st} {p : Nums} : AW P m (ref07_Code_c1 p) Q st ↔ AW P m (.region (ref07_Code_o1 p) []) Q st := Iff.rfl
@[simp] def ref07_Code_o2 (p : Nums) : List IOp := [qo 12 (.mov (.t 3)), qo 13 (.faddr 2 (.t 1)), qo 14 (.load none (.t 13)), qo 15 (.mov (.t 4)), qo 16 (.iaddr 5 (.t 14) (.t 15)), qo 17 (.faddr 0 (.t 16)), qo 18 (.load none (.t 17)), qo 19 (.len (.t 18)), qo 20 (.bin .add (.t 12) (.t 19)), qo 3 (.asg (.t 20))]
def ref07_Code_c2 (p : Nums) : IC := (.region (ref07_Code_o2 p) [])
@[simp] theorem ref07_Code_c2_eq {P m Q st} {p : Nums} : AW P m (ref07_Code_c2 p) Q st ↔ AW P m (.region (ref07_Code_o2 p) []) Q st := Iff.rfl
@[simp] def ref07_Code_o3 (p : Nums) : List IOp := [qo 10 (.mov (.t 4)), qo 11 (.bin .add (.t 10) (ci 1)), qo 4 (.asg (.t 11))]
def ref07_Code_c3 (p : Nums) : IC := (.region (ref07_Code_o3 p) [])
@[simp] theorem ref07_Code_c3_eq {P m Q st} {p : Nums} : AW P m (ref07_Code_c3 p) Q st ↔ AW P m (.region (ref07_Code_o3 p) []) Q st := Iff.rfl
def ref07_Code_c4 (p : Nums) : IC := (.seq (.seq (ref07_Code_c1 p) (.cond (.t 9) .skip (.exit 0))) (.seq (.block 1 (ref07_Code_c2 p)) (ref07_Code_c3 p)))
@[simp] theorem ref07_Code_c4_eq {P m Q st} {p : Nums} : AW P m (ref07_Code_c4 p) Q st ↔ AW P m (.seq (.seq (ref07_Code_c1 p) (.cond (.t 9) .skip (.exit 0))) (.seq (.block 1 (ref07_Code_c2 p)) (ref07_Code_c3 p))) Q st := Iff.rfl
def ic_ref07_Code (p : Nums) : IC := (.seq (.region [⟨(some 1), (.box (.t 0)), none, false⟩, ⟨(some 2), (.asg (.c (.d (.int .i64 0)))), none, false⟩] []) (.seq (.region [⟨(some 3), (.asg (.c (.d (.int .i64 0)))), none, false⟩] []) (.seq (.seq (.region [⟨(some 4), (.asg (.c (.d (.int .i64 0)))), none, false⟩] []) (.block 0 (.loop (ref07_Code_c4 p)))) (.seq (.region [⟨(some 21), (.mov (.t 3)), none, false⟩, ⟨(some 2), (.asg (.t 21)), none, false⟩] []) .ret))))
@[simp] def ref07_Instr_o1 (p : Nums) : List IOp := [qo 5 (.faddr 0 (.t 2)), qo 6 (.load none (.t 5)), qo 7 (.bin .lss (.t 6) (ci 1)), qo 8 (.mov (.t 7)), ⟨(some 9), (.faddr 0 (.t 2)), (some (8, false)), false⟩, ⟨(some 10), (.load none (.t 9)), (some (8, false)), false⟩, ⟨(some 11), (.bin .gtr (.t 10) (ci 17)), (some (8, false)), false⟩, qo 12 (.pick (.t 8) (.c (.d (.bool true))) (.t 11))]
def ref07_Instr_c1 (p : Nums) : IC := (.region (ref07_Instr_o1 p) [])
@[simp] theorem ref07_Instr_c1_eq {P m Q st} {p : Nums} : AW P m (ref07_Instr_c1 p) Q st ↔ AW P m (.region (ref07_Instr_o1 p) []) Q st := Iff.rfl
def ref07_Instr_c2 (p : Nums) : IC := (.seq (.region [⟨(some 4), (.asg (.c (.d (.int .i64 8)))), none, false⟩] []) .ret)
@[simp] theorem ref07_Instr_c2_eq {P m Q st} {p : Nums} : AW P m (ref07_Instr_c2 p) Q st ↔ AW P m (.seq (.region [⟨(some 4), (.asg (.c (.d (.int .i64 8)))), none, false⟩] []) .ret) Q st := Iff.rfl
def ref07_Instr_m3 (p : Nums) : IC := (.seq (.seq (ref07_Instr_c1 p) .cut) (.cond (.t 12) (ref07_Instr_c2 p) .skip))
theorem ref07_Instr_m3_eq {P m Q st} {p : Nums} : AW P m (ref07_Instr_m3 p) Q st ↔ AW P m (.seq (.seq (ref07_Instr_c1 p) .cut) (.cond (.t 12) (ref07_Instr_c2 p) .skip)) Q st := Iff.rfl
@[simp] def ref07_Instr_o4 (p : Nums) : List IOp := [qo 13 (.faddr 0 (.t 2)), qo 14 (.load none (.t 13)), qo 15 (.call p.ref05_UsesD [(.t 14)]), qo 16 (.mov (.t 15)), ⟨(some 17), (.faddr 1 (.t 2)), (some (16, true)), false⟩, ⟨(some 18), (.load none (.t 17)), (some (16, true)), false⟩, ⟨(some 19), (.mov (.t 1)), (some (16, true)), false⟩, ⟨(some 20), (.call p.ref07_in [(.t 18), (.t 19)]), (some (16, true)), false⟩, ⟨(some 21), (.un .not (.t 20)), (some (16, true)), false⟩, qo 22 (.pick (.t 16) (.t 21) (.c (.d (.bool false)))), qo 23 (.mov (.t 22)), ⟨(some 24), (.faddr 0 (.t 2)), (some (23, false)), false⟩, ⟨(some 25), (.load none (.t 24)), (some (23, false)), false⟩, ⟨(some 26), (.call p.ref05_UsesA [(.t 25)]), (some (23, false)), false⟩, ⟨(some 27), (.mov (.t 26)), (some (23, false)), false⟩, ⟨(some 28), (.faddr 2 (.t 2)), (some (27, true)), false⟩, ⟨(some 29), (.load none (.t 28)), (some (27, true)), false⟩, ⟨(some 30), (.mov (.t 1)), (some (27, true)), false⟩, ⟨(some 31), (.call p.ref07_in [(.t 29), (.t 30)]), (some (27, true)), false⟩, ⟨(some 32), (.un .not (.t 31)), (some (27, true)), false⟩, ⟨(some 33), (.pick (.t 27) (.t 32) (.c (.d (.bool false)))), (some (23, false)), false⟩, qo 34 (.pick (.t 23) (.c (.d (.bool true))) (.t 33)), qo 35 (.mov (.t 34)), ⟨(some 36), (.faddr 0 (.t 2)), (some (35, false)), false⟩, ⟨(some 37), (.load none (.t 36)), (some (35, false)), false⟩, ⟨(some 38), (.call p.ref05_UsesB [(.t 37)]), (some (35, false)), false⟩, ⟨(some 39), (.mov (.t 38)), (some (35, false)), false⟩, ⟨(some 40), (.faddr 3 (.t 2)), (some (39, true)), false⟩, ⟨(some 41), (.load none (.t 40)), (some (39, true)), false⟩, ⟨(some 42), (.mov (.t 1)), (some (39, true)), false⟩, ⟨(some 43), (.call p.ref07_in [(.t 41), (.t 42)]), (some (39, true)), false⟩, ⟨(some 44), (.un .not (.t 43)), (some (39, true)), false⟩, ⟨(some 45), (.pick (.t 39) (.t 44) (.c (.d (.bool false)))), (some (35, false)), false⟩, qo 46 (.pick (.t 35) (.c (.d (.bool true))) (.t 45))]
def ref07_Instr_c4 (p : Nums) : IC := (.region (ref07_Instr_o4 p) [])
@[simp] theorem ref07_Instr_c4_eq {P m Q st} {p : Nums} : AW P m (ref07_Instr_c4 p) Q st ↔ AW P m (.region (ref07_Instr_o4 p) []) Q st := Iff.rfl
def ref07_Instr_c5 (p : Nums) : IC := (.seq (.region [⟨(some 4), (.asg (.c (.d (.int .i64 9)))), none, false⟩] []) .ret)
@[simp] theorem ref07_Instr_c5_eq {P m Q st} {p : Nums} : AW P m (ref07_Instr_c5 p) Q st ↔ AW P m (.seq (.region [⟨(some 4), (.asg (.c (.d (.int .i64 9)))), none, false⟩] []) .ret) Q st := Iff.rfl
def ref07_Instr_m6 (p : Nums) : IC := (.seq (.seq (ref07_Instr_c4 p) .cut) (.cond (.t 46) (ref07_Instr_c5 p) .skip))
theorem ref07_Instr_m6_eq {P m Q st} {p : Nums} : AW P m (ref07_Instr_m6 p) Q st ↔ AW P m (.seq (.seq (ref07_Instr_c4 p) .cut) (.cond (.t 46) (ref07_Instr_c5 p) .skip)) Q st := Iff.rfl
@[simp] def ref07_Instr_o7 (p : Nums) : List IOp := [qo 47 (.faddr 0 (.t 2)), qo 48 (.load none (.t 47)), qo 49 (.call p.ref05_UsesD [(.t 48)]), qo 50 (.un .not (.t 49)), qo 51 (.mov (.t 50)), ⟨(some 52), (.faddr 1 (.t 2)), (some (51, true)), false⟩, ⟨(some 53), (.load none (.t 52)), (some (51, true)), false⟩, ⟨(some 54), (.bin .neq (.t 53) (ci 0)), (some (51, true)), false⟩, qo 55 (.pick (.t 51) (.t 54) (.c (.d (.bool false)))), qo 56 (.mov (.t 55)), ⟨(some 57), (.faddr 0 (.t 2)), (some (56, false)), false⟩, ⟨(some 58), (.load none (.t 57)), (some (56, false)), false⟩, ⟨(some 59), (.call p.ref05_UsesA [(.t 58)]), (some (56, false)), false⟩, ⟨(some 60), (.un .not (.t 59)), (some (56, false)), false⟩, ⟨(some 61), (.mov (.t 60)), (some (56, false)), false⟩, ⟨(some 62), (.faddr 2 (.t 2)), (some (61, true)), false⟩, ⟨(some 63), (.load none (.t 62)), (some (61, true)), false⟩, ⟨(some 64), (.bin .neq (.t 63) (ci 0)), (some (61, true)), false⟩, ⟨(some 65), (.pick (.t 61) (.t 64) (.c (.d (.bool false)))), (some (56, false)), false⟩, qo 66 (.pick (.t 56) (.c (.d (.bool true))) (.t 65)), qo 67 (.mov (.t 66)), ⟨(some 68), (.faddr 0 (.t 2)), (some (67, false)), false⟩, ⟨(some 69), (.load none (.t 68)), (some (67, false)), false⟩, ⟨(some 70), (.call p.ref05_UsesB [(.t 69)]), (some (67, false)), false⟩, ⟨(some 71), (.un .not (.t 70)), (some (67, false)), false⟩, ⟨(some 72), (.mov (.t 71)), (some (67, false)), false⟩, ⟨(some 73), (.faddr 3 (.t 2)), (some (72, true)), false⟩, ⟨(some 74), (.load none (.t 73)), (some (72, true)), false⟩, ⟨(some 75), (.bin .neq (.t 74) (ci 0)), (some (72, true)), false⟩, ⟨(some 76), (.pick (.t 72) (.t 75) (.c (.d (.bool false)))), (some (67, false)), false⟩, qo 77 (.pick (.t 67) (.c (.d (.bool true))) (.t 76)), qo 78 (.mov (.t 77)), ⟨(some 79), (.faddr 0 (.t 2)), (some (78, false)), false⟩, ⟨(some 80), (.load none (.t 79)), (some (78, false)), false⟩, ⟨(some 81), (.bin .neq (.t 80) (ci 1)), (some (78, false)), false⟩, ⟨(some 82), (.mov (.t 81)), (some (78, false)), false⟩, ⟨(some 83), (.faddr 4 (.t 2)), (some (82, true)), false⟩, ⟨(some 84), (.load none (.t 83)), (some (82, true)), false⟩, ⟨(some 85), (.bin .neq (.t 84) (ci 0)), (some (82, true)), false⟩, ⟨(some 86), (.pick (.t 82) (.t 85) (.c (.d (.bool false)))), (some (78, false)), false⟩, qo 87 (.pick (.t 78) (.c (.d (.bool true))) (.t 86))]
def ref07_Instr_c7 (p : Nums) : IC := (.region (ref07_Instr_o7 p) [])
@[simp] theorem ref07_Instr_c7_eq {P m Q st} {p : Nums} : AW P m (ref07_Instr_c7 p) Q st ↔ AW P m (.region (ref07_Instr_o7 p) []) Q st := Iff.rfl
def ref07_Instr_c8 (p : Nums) : IC := (.seq (.region [⟨(some 4), (.asg (.c (.d (.int .i64 12)))), none, false⟩] []) .ret)
@[simp] theorem ref07_Instr_c8_eq {P m Q st} {p : Nums} : AW P m (ref07_Instr_c8 p) Q st ↔ AW P m (.seq (.region [⟨(some 4), (.asg (.c (.d (.int .i64 12)))), none, false⟩] []) .ret) Q st := Iff.rfl
def ref07_Instr_m9 (p : Nums) : IC := (.seq (.seq (ref07_Instr_c7 p) .cut) (.cond (.t 87) (ref07_Instr_c8 p) .skip))
theorem ref07_Instr_m9_eq {P m Q st} {p : Nums} : AW P m (ref07_Instr_m9 p) Q st ↔ AW P m (.seq (.seq (ref07_Instr_c7 p) .cut) (.cond (.t 87) (ref07_Instr_c8 p) .skip)) Q st := Iff.rfl
def ic_ref07_Instr (p : Nums) : IC := (.seq (.region [⟨(some 2), (.box (.t 0)), none, false⟩, ⟨(some 4), (.asg (.c (.d (.int .i64 0)))), none, false⟩] []) (.seq (ref07_Instr_m3 p) (.seq (ref07_Instr_m6 p) (.seq (ref07_Instr_m9 p) (.seq (.region [⟨(some 4), (.asg (.c (.d (.int .i64 0)))), none, false⟩] []) .ret)))))
@[simp] def ref07_Term_o1 (p : Nums) : List IOp := [qo 11 (.faddr 2 (.t 3)), qo 12 (.load none (.t 11)), qo 13 (.mov (.t 2)), qo 14 (.call p.ref07_in [(.t 12), (.t 13)]), qo 15 (.un .not (.t 14))]
def ref07_Term_c1 (p : Nums) : IC := (.region (ref07_Term_o1 p) [])
@[simp] theorem ref07_Term_c1_eq {P m Q st} {p : Nums} : AW P m (ref07_Term_c1 p) Q st ↔ AW P m (.region (ref07_Term_o1 p) []) Q st := Iff.rfl
def ref07_Term_c2 (p : Nums) : IC := (.seq (.region [⟨(some 6), (.asg (.c (.d (.int .i64 11)))), none, false⟩] []) .ret)
@[simp] theorem ref07_Term_c2_eq {P m Q st} {p : Nums} : AW P m (ref07_Term_c2 p) Q st ↔ AW P m (.seq (.region [⟨(some 6), (.asg (.c (.d (.int .i64 11)))), none, false⟩] []) .ret) Q st := Iff.rfl
@[simp] def ref07_Term_o3 (p : Nums) : List IOp := [qo 16 (.faddr 1 (.t 3)), qo 17 (.load none (.t 16)), qo 18 (.bin .neq (.t 17) (ci 0)), qo 19 (.mov (.t 18)), ⟨(some 20), (.faddr 3 (.t 3)), (some (19, false)), false⟩, ⟨(some 21), (.load none (.t 20)), (some (19, false)), false⟩, ⟨(some 22), (.bin .neq (.t 21) (ci 0)), (some (19, false)), false⟩, qo 23 (.pick (.t 19) (.c (.d (.bool true))) (.t 22))]
def ref07_Term_c3 (p : Nums) : IC := (.region (ref07_Term_o3 p) [])
@[simp] theorem ref07_Term_c3_eq {P m Q st} {p : Nums} : AW P m (ref07_Term_c3 p) Q st ↔ AW P m (.region (ref07_Term_o3 p) []) Q st := Iff.rfl
def ref07_Term_c4 (p : Nums) : IC := (.seq (.region [⟨(some 6), (.asg (.c (.d (.int .i64 12)))), none, false⟩] []) .ret)
@[simp] theorem ref07_Term_c4_eq {P m Q st} {p : Nums} : AW P m (ref07_Term_c4 p) Q st ↔ AW P m (.seq (.region [⟨(some 6), (.asg (.c (.d (.int .i64 12)))), none, false⟩] []) .ret) Q st := Iff.rfl
@[simp] def ref07_Term_o5 (p : Nums) : List IOp := [qo 26 (.faddr 1 (.t 3)), qo 27 (.load none (.t 26)), qo 28 (.mov (.t 1)), qo 29 (.call p.ref07_in [(.t 27), (.t 28)]), qo 30 (.un .not (.t 29))]
def ref07_Term_c5 (p : Nums) : IC := (.region (ref07_Term_o5 p) [])
@[simp] theorem ref07_Term_c5_eq {P m Q st} {p : Nums} : AW P m (ref07_Term_c5 p) Q st ↔ AW P m (.region (ref07_Term_o5 p) []) Q st := Iff.rfl
def ref07_Term_c6 (p : Nums) : IC := (.seq (.region [⟨(some 6), (.asg (.c (.d (.int .i64 9)))), none, false⟩] []) .ret)
@[simp] theorem ref07_Term_c6_eq {P m Q st} {p : Nums} : AW P m (ref07_Term_c6 p) Q st ↔ AW P m (.seq (.region [⟨(some 6), (.asg (.c (.d (.int .i64 9)))), none, false⟩] []) .ret) Q st := Iff.rfl
@[simp] def ref07_Term_o7 (p : Nums) : List IOp := [qo 31 (.faddr 2 (.t 3)), qo 32 (.load none (.t 31)), qo 33 (.mov (.t 2)), qo 34 (.call p.ref07_in [(.t 32), (.t 33)]), qo 35 (.un .not (.t 34)), qo 36 (.mov (.t 35)), ⟨(some 37), (.faddr 3 (.t 3)), (some (36, false)), false⟩, ⟨(some 38), (.load none (.t 37)), (some (36, false)), false⟩, ⟨(some 39), (.mov (.t 2)), (some (36, false)), false⟩, ⟨(some 40), (.call p.ref07_in [(.t 38), (.t 39)]), (some (36, false)), false⟩, ⟨(some 41), (.un .not (.t 40)), (some (36, false)), false⟩, qo 42 (.pick (.t 36) (.c (.d (.bool true))) (.t 41))]
def ref07_Term_c7 (p : Nums) : IC := (.region (ref07_Term_o7 p) [])
@[simp] theorem ref07_Term_c7_eq {P m Q st} {p : Nums} : AW P m (ref07_Term_c7 p) Q st ↔ AW P m (.region (ref07_Term_o7 p) []) Q st := Iff.rfl
def ref07_Term_c8 (p : Nums) : IC := (.seq (.region [⟨(some 6), (.asg (.c (.d (.int .i64 11)))), none, false⟩] []) .ret)
@[simp] theorem ref07_Term_c8_eq {P m Q st} {p : Nums} : AW P m (ref07_Term_c8 p) Q st ↔ AW P m (.seq (.region [⟨(some 6), (.asg (.c (.d (.int .i64 11)))), none, false⟩] []) .ret) Q st := Iff.rfl
@[simp] def ref07_Term_o9 (p : Nums) : List IOp := [qo 45 (.faddr 1 (.t 3)), qo 46 (.load none (.t 45)), qo 47 (.mov (.t 1)), qo 48 (.call p.ref07_in [(.t 46), (.t 47)]), qo 49 (.un .not (.t 48))]
def ref07_Term_c9 (p : Nums) : IC := (.region (ref07_Term_o9 p) [])
@[simp] theorem ref07_Term_c9_eq {P m Q st} {p : Nums} : AW P m (ref07_Term_c9 p) Q st ↔ AW P m (.region (ref07_Term_o9 p) []) Q st := Iff.rfl
def ref07_Term_c10 (p : Nums) : IC := (.seq (.region [⟨(some 6), (.asg (.c (.d (.int .i64 9)))), none, false⟩] []) .ret)
@[simp] theorem ref07_Term_c10_eq {P m Q st} {p : Nums} : AW P m (ref07_Term_c10 p) Q st ↔ AW P m (.seq (.region [⟨(some 6), (.asg (.c (.d (.int .i64 9)))), none, false⟩] []) .ret) Q st := Iff.rfl
@[simp] def ref07_Term_o11 (p : Nums) : List IOp := [qo 50 (.faddr 2 (.t 3)), qo 51 (.load none (.t 50)), qo 52 (.bin .neq (.t 51) (ci 0)), qo 53 (.mov (.t 52)), ⟨(some 54), (.faddr 3 (.t 3)), (some (53, false)), false⟩, ⟨(some 55), (.load none (.t 54)), (some (53, false)), false⟩, ⟨(some 56), (.bin .neq (.t 55) (ci 0)), (some (53, false)), false⟩, qo 57 (.pick (.t 53) (.c (.d (.bool true))) (.t 56))]
def ref07_Term_c11 (p : Nums) : IC := (.region (ref07_Term_o11 p) [])
@[simp] theorem ref07_Term_c11_eq {P m Q st} {p : Nums} : AW P m (ref07_Term_c11 p) Q st ↔ AW P m (.region (ref07_Term_o11 p) []) Q st := Iff.rfl
def ref07_Term_c12 (p : Nums) : IC := (.seq (.region [⟨(some 6), (.asg (.c (.d (.int .i64 12)))), none, false⟩] []) .ret)
@[simp] theorem ref07_Term_c12_eq {P m Q st} {p : Nums} : AW P m (ref07_Term_c12 p) Q st ↔ AW P m (.seq (.region [⟨(some 6), (.asg (.c (.d (.int .i64 12)))), none, false⟩] []) .ret) Q st := Iff.rfl
def ref07_Term_c13 (p : Nums) : IC := (.seq (.seq (ref07_Term_c9 p) (.cond (.t 49) (ref07_Term_c10 p) .skip)) (.seq (.seq (ref07_Term_c11 p) (.cond (.t 57) (ref07_Term_c12 p) .skip)) (.seq (.region [⟨(some 6), (.asg (.c (.d (.int .i64 0)))), none, false⟩] []) .ret)))
@[simp] theorem ref07_Term_c13_eq {P m Q st} {p : Nums} : AW P m (ref07_Term_c13 p) Q st ↔ AW P m (.seq (.seq (ref07_Term_c9 p) (.cond (.t 49) (ref07_Term_c10 p) .skip)) (.seq (.seq (ref07_Term_c11 p) (.cond (.t 57) (ref07_Term_c12 p) .skip)) (.seq (.region [⟨(some 6), (.asg (.c (.d (.int .i64 0)))), none, false⟩] []) .ret))) Q st := Iff.rfl
def ref07_Term_c14 (p : Nums) : IC := (.seq (.seq (ref07_Term_c5 p) (.cond (.t 30) (ref07_Term_c6 p) .skip)) (.seq (.seq (ref07_Term_c7 p) (.cond (.t 42) (ref07_Term_c8 p) .skip)) (.seq (.region [⟨(some 6), (.asg (.c (.d (.int .i64 0)))), none, false⟩] []) .ret)))
@[simp] theorem ref07_Term_c14_eq {P m Q st} {p : Nums} : AW P m (ref07_Term_c14 p) Q st ↔ AW P m (.seq (.seq (ref07_Term_c5 p) (.cond (.t 30) (ref07_Term_c6 p) .skip)) (.seq (.seq (ref07_Term_c7 p) (.cond (.t 42) (ref07_Term_c8 p) .skip)) (.seq (.region [⟨(some 6), (.asg (.c (.d (.int .i64 0)))), none, false⟩] []) .ret))) Q st := Iff.rfl
def ref07_Term_c15 (p : Nums) : IC := (.seq (.region [⟨(some 44), (.bin .eql (.t 8) (.c (.d (.int .i64 3)))), none, false⟩, ⟨(some 43), (.asg (.t 44)), none, false⟩] []) (.cond (.t 43) (ref07_Term_c13 p) .skip))
@[simp] theorem ref07_Term_c15_eq {P m Q st} {p : Nums} : AW P m (ref07_Term_c15 p) Q st ↔ AW P m (.seq (.region [⟨(some 44), (.bin .eql (.t 8) (.c (.d (.int .i64 3)))), none, false⟩, ⟨(some 43), (.asg (.t 44)), none, false⟩] []) (.cond (.t 43) (ref07_Term_c13 p) .skip)) Q st := Iff.rfl
def ref07_Term_c16 (p : Nums) : IC := (.seq (.seq (ref07_Term_c1 p) (.cond (.t 15) (ref07_Term_c2 p) .skip)) (.seq (.seq (ref07_Term_c3 p) (.cond (.t 23) (ref07_Term_c4 p) .skip)) (.seq (.region [⟨(some 6), (.asg (.c (.d (.int .i64 0)))), none, false⟩] []) .ret)))
@[simp] theorem ref07_Term_c16_eq {P m Q st} {p : Nums} : AW P m (ref07_Term_c16 p) Q st ↔ AW P m (.seq (.seq (ref07_Term_c1 p) (.cond (.t 15) (ref07_Term_c2 p) .skip)) (.seq (.seq (ref07_Term_c3 p) (.cond (.t 23) (ref07_Term_c4 p) .skip)) (.seq (.region [⟨(some 6), (.asg (.c (.d (.int .i64 0)))), none, false⟩] []) .ret))) Q st := Iff.rfl
def ref07_Term_c17 (p : Nums) : IC := (.seq (.region [⟨(some 25), (.bin .eql (.t 8) (.c (.d (.int .i64 2)))), none, false⟩, ⟨(some 24), (.asg (.t 25)), none, false⟩] []) (.cond (.t 24) (ref07_Term_c14 p) (ref07_Term_c15 p)))
@[simp] theorem ref07_Term_c17_eq {P m Q st} {p : Nums} : AW P m (ref07_Term_c17 p) Q st ↔ AW P m (.seq (.region [⟨(some 25), (.bin .eql (.t 8) (.c (.d (.int .i64 2)))), none, false⟩, ⟨(some 24), (.asg (.t 25)), none, false⟩] []) (.cond (.t 24) (ref07_Term_c14 p) (ref07_Term_c15 p))) Q st := Iff.rfl
def ref07_Term_c18 (p : Nums) : IC := (.seq (.region [⟨(some 10), (.bin .eql (.t 8) (.c (.d (.int .i64 1)))), none, false⟩, ⟨(some 9), (.asg (.t 10)), none, false⟩] []) (.cond (.t 9) (ref07_Term_c16 p) (ref07_Term_c17 p)))
@[simp] theorem ref07_Term_c18_eq {P m Q st} {p : Nums} : AW P m (ref07_Term_c18 p) Q st ↔ AW P m (.seq (.region [⟨(some 10), (.bin .eql (.t 8) (.c (.d (.int .i64 1)))), none, false⟩, ⟨(some 9), (.asg (.t 10)), none, false⟩] []) (.cond (.t 9) (ref07_Term_c16 p) (ref07_Term_c17 p))) Q st := Iff.rfl
def ic_ref07_Term (p : Nums) : IC := (.seq (.region [⟨(some 3), (.box (.t 0)), none, false⟩, ⟨(some 6), (.asg (.c (.d (.int .i64 0)))), none, false⟩] []) (.seq (.seq (.region [⟨(some 7), (.faddr 0 (.t 3)), none, false⟩, ⟨(some 8), (.load none (.t 7)), none, false⟩] []) (.block 0 (ref07_Term_c18 p))) (.seq (.region [⟨(some 6), (.asg (.c (.d (.int .i64 16)))), none, false⟩] []) .ret)))
@[simp] def ref05_UsesA_o1 (p : Nums) : List IOp := [qo 3 (.mov (.t 0)), qo 4 (.bin .geq (.t 3) (ci 2)), qo 5 (.mov (.t 4)), ⟨(some 6), (.mov (.t 0)), (some (5, true)), false⟩, ⟨(some 7), (.bin .leq (.t 6) (ci 17)), (some (5, true)), false⟩, qo 8 (.pick (.t 5) (.t 7) (.c (.d (.bool false)))), qo 2 (.asg (.t 8))]
def ref05_UsesA_c1 (p : Nums) : IC := (.region (ref05_UsesA_o1 p) [])
@[simp] theorem ref05_UsesA_c1_eq {P m Q st} {p : Nums} : AW P m (ref05_UsesA_c1 p) Q st ↔ AW P m (.region (ref05_UsesA_o1 p) []) Q st := Iff.rfl
def ic_ref05_UsesA (p : Nums) : IC := (.seq (.region [⟨(some 2), (.asg (.c (.d (.bool false)))), none, false⟩] []) (.seq (ref05_UsesA_c1 p) .ret))
@[simp] def ref05_UsesB_o1 (p : Nums) : List IOp := [qo 3 (.mov (.t 0)), qo 4 (.bin .geq (.t 3) (ci 5)), qo 5 (.mov (.t 4)), ⟨(some 6), (.mov (.t 0)), (some (5, true)), false⟩, ⟨(some 7), (.bin .leq (.t 6) (ci 16)), (some (5, true)), false⟩, qo 8 (.pick (.t 5) (.t 7) (.c (.d (.bool false)))), qo 2 (.asg (.t 8))]
def ref05_UsesB_c1 (p : Nums) : IC := (.region (ref05_UsesB_o1 p) [])
@[simp] theorem ref05_UsesB_c1_eq {P m Q st} {p : Nums} : AW P m (ref05_UsesB_c1 p) Q st ↔ AW P m (.region (ref05_UsesB_o1 p) []) Q st := Iff.rfl
def ic_ref05_UsesB (p : Nums) : IC := (.seq (.region [⟨(some 2), (.asg (.c (.d (.bool false)))), none, false⟩] []) (.seq (ref05_UsesB_c1 p) .ret))
@[simp] def ref05_UsesD_o1 (p : Nums) : List IOp := [qo 3 (.mov (.t 0)), qo 4 (.bin .geq (.t 3) (ci 1)), qo 5 (.mov (.t 4)), ⟨(some 6), (.mov (.t 0)), (some (5, true)), false⟩, ⟨(some 7), (.bin .leq (.t 6) (ci 16)), (some (5, true)), false⟩, qo 8 (.pick (.t 5) (.t 7) (.c (.d (.bool false)))), qo 2 (.asg (.t 8))]
def ref05_UsesD_c1 (p : Nums) : IC := (.region (ref05_UsesD_o1 p) [])
@[simp] theorem ref05_UsesD_c1_eq {P m Q st} {p : Nums} : AW P m (ref05_UsesD_c1 p) Q st ↔ AW P m (.region (ref05_UsesD_o1 p) []) Q st := Iff.rfl
def ic_ref05_UsesD (p : Nums) : IC := (.seq (.region [⟨(some 2), (.asg (.c (.d (.bool false)))), none, false⟩] []) (.seq (ref05_UsesD_c1 p) .ret))
@[simp] def pairset_filter_o1 (p : Nums) : List IOp := [qo 8 (.mov (.t 0)), qo 9 (.len (.t 8)), qo 10 (.mkslice 2 16 [(.int .i64 0), (.int .i64 0)] (ci 0) (.t 9)), qo 5 (.take (.t 10))]
def pairset_filter_c1 (p : Nums) : IC := (.region (pairset_filter_o1 p) [])
@[simp] theorem pairset_filter_c1_eq {P m Q st} {p : Nums} : AW P m (pairset_filter_c1 p) Q st ↔ AW P m (.region (pairset_filter_o1 p) []) Q st := Iff.rfl
@[simp] def pairset_filter_o2 (p : Nums) : List IOp := [qo 11 (.mov (.t 0)), qo 12 (.len (.t 11)), qo 13 (.mov (ci 0))]
def pairset_filter_c2 (p : Nums) : IC := (.region (pairset_filter_o2 p) [])
@[simp] theorem pairset_filter_c2_eq {P m Q st} {p : Nums} : AW P m (pairset_filter_c2 p) Q st ↔ AW P m (.region (pairset_filter_o2 p) []) Q st := Iff.rfl
@[simp] def pairset_filter_o3 (p : Nums) : List IOp := [qo 15 (.iaddr 2 (.t 11) (.t 13)), qo 16 (.load (some 2) (.t 15)), qo 7 (.alloc [(zi 0), (zi 0)]), qn (.store 2 (.t 7) (.t 16))]
def pairset_filter_c3 (p : Nums) : IC := (.region (pairset_filter_o3 p) [])
@[simp] theorem pairset_filter_c3_eq {P m Q st} {p : Nums} : AW P m (pairset_filter_c3 p) Q st ↔ AW P m (.region (pairset_filter_o3 p) []) Q st := Iff.rfl
@[simp] def pairset_filter_o4 (p : Nums) : List IOp := [qo 17 (.mov (.t 1)), qo 18 (.load (some 2) (.t 7)), qo 19 (.callv (.t 17) [(.t 18)])]
def pairset_filter_c4 (p : Nums) : IC := (.region (pairset_filter_o4 p) [])
@[simp] theorem pairset_filter_c4_eq {P m Q st} {p : Nums} : AW P m (pairset_filter_c4 p) Q st ↔ AW P m (.region (pairset_filter_o4 p) []) Q st := Iff.rfl
@[simp] def pairset_filter_o5 (p : Nums) : List IOp := [qo 20 (.mov (.t 5)), qo 21 (.load (some 2) (.t 7)), qo 22 (.bslice 2 1 [(.int .i64 0), (.int .i64 0)] [(0, (.t 21))]), qo 23 (.app 2 16 (.t 20) (.t 22)), qo 5 (.take (.t 23))]
def pairset_filter_c5 (p : Nums) : IC := (.region (pairset_filter_o5 p) [])
@[simp] theorem pairset_filter_c5_eq {P m Q st} {p : Nums} : AW P m (pairset_filter_c5 p) Q st ↔ AW P m (.region (pairset_filter_o5 p) []) Q st := Iff.rfl
def pairset_filter_c6 (p : Nums) : IC := (.seq (pairset_filter_c3 p) (.seq (pairset_filter_c4 p) (.cond (.t 19) (pairset_filter_c5 p) .skip)))
@[simp] theorem pairset_filter_c6_eq {P m Q st} {p : Nums} : AW P m (pairset_filter_c6 p) Q st ↔ AW P m (.seq (pairset_filter_c3 p) (.seq (pairset_filter_c4 p) (.cond (.t 19) (pairset_filter_c5 p) .skip))) Q st := Iff.rfl
def pairset_filter_c7 (p : Nums) : IC := (.seq (.region [⟨(some 14), (.bin .lss (.t 13) (.t 12)), none, false⟩] []) (.seq (.cond (.t 14) .skip (.exit 0)) (.seq (.block 1 (pairset_filter_c6 p)) (.region [⟨(some 24), (.bin .add (.t 13) (.c (.d (.int .i64 1)))), none, false⟩, ⟨(some 13), (.mov (.t 24)), none, false⟩] []))))
@[simp] theorem pairset_filter_c7_eq {P m Q st} {p : Nums} : AW P m (pairset_filter_c7 p) Q st ↔ AW P m (.seq (.region [⟨(some 14), (.bin .lss (.t 13) (.t 12)), none, false⟩] []) (.seq (.cond (.t 14) .skip (.exit 0)) (.seq (.block 1 (pairset_filter_c6 p)) (.region [⟨(some 24), (.bin .add (.t 13) (.c (.d (.int .i64 1)))), none, false⟩, ⟨(some 13), (.mov (.t 24)), none, false⟩] [])))) Q st := Iff.rfl
def ic_pairset_filter (p : Nums) : IC := (.seq (.region [⟨(some 4), (.asg (.c .nils)), none, false⟩] []) (.seq (pairset_filter_c1 p) (.seq (.seq (pairset_filter_c2 p) (.block 0 (.loop (pairset_filter_c7 p)))) (.seq (.region [⟨(some 25), (.mov (.t 5)), none, false⟩, ⟨(some 4), (.take (.t 25)), none, false⟩] []) .ret))))
@[simp] def pairset_DropV_1_o1 (p : Nums) : List IOp := [qo 4 (.faddr 0 (.t 2)), qo 5 (.load none (.t 4)), qo 6 (.load none (.t 1)), qo 7 (.bin .neq (.t 5) (.t 6)), qo 3 (.asg (.t 7))]
def pairset_DropV_1_c1 (p : Nums) : IC := (.region (pairset_DropV_1_o1 p) [])
@[simp] theorem pairset_DropV_1_c1_eq {P m Q st} {p : Nums} : AW P m (pairset_DropV_1_c1 p) Q st ↔ AW P m (.region (pairset_DropV_1_o1 p) []) Q st := Iff.rfl
def ic_pairset_DropV_1 (p : Nums) : IC := (.seq (.region [⟨(some 2), (.box (.t 0)), none, false⟩, ⟨(some 3), (.asg (.c (.d (.bool false)))), none, false⟩] []) (.seq (pairset_DropV_1_c1 p) .ret))
@[simp] def pairset_DropL_1_o1 (p : Nums) : List IOp := [qo 4 (.faddr 1 (.t 2)), qo 5 (.load none (.t 4)), qo 6 (.load none (.t 1)), qo 7 (.bin .neq (.t 5) (.t 6)), qo 3 (.asg (.t 7))]
def pairset_DropL_1_c1 (p : Nums) : IC := (.region (pairset_DropL_1_o1 p) [])
@[simp] theorem pairset_DropL_1_c1_eq {P m Q st} {p : Nums} : AW P m (pairset_DropL_1_c1 p) Q st ↔ AW P m (.region (pairset_DropL_1_o1 p) []) Q st := Iff.rfl
def ic_pairset_DropL_1 (p : Nums) : IC := (.seq (.region [⟨(some 2), (.box (.t 0)), none, false⟩, ⟨(some 3), (.asg (.c (.d (.bool false)))), none, false⟩] []) (.seq (pairset_DropL_1_c1 p) .ret))
@[simp] def ref07_in_o1 (p : Nums) : List IOp := [qo 5 (.mov (.t 0)), qo 6 (.bin .geq (.t 5) (ci 0)), qo 7 (.mov (.t 6)), ⟨(some 8), (.mov (.t 0)), (some (7, true)), false⟩, ⟨(some 9), (.mov (.t 1)), (some (7, true)), false⟩, ⟨(some 10), (.bin .lss (.t 8) (.t 9)), (some (7, true)), false⟩, qo 11 (.pick (.t 7) (.t 10) (.c (.d (.bool false)))), qo 4 (.asg (.t 11))]
def ref07_in_c1 (p : Nums) : IC := (.region (ref07_in_o1 p) [])
@[simp] theorem ref07_in_c1_eq {P m Q st} {p : Nums} : AW P m (ref07_in_c1 p) Q st ↔ AW P m (.region (ref07_in_o1 p) []) Q st := Iff.rfl
def ic_ref07_in (p : Nums) : IC := (.seq (.region [⟨(some 4), (.asg (.c (.d (.bool false)))), none, false⟩] []) (.seq (ref07_in_c1 p) .ret))
@[simp] def opcode_Of_o1 (p : Nums) : List IOp := [qo 2 (.alloc [(.d (.bool false)), (.d (.bool false)), (.d (.bool false)), (.d (.bool false))]), qo 3 (.asg (.c (.d (.bool false))))]
def opcode_Of_c1 (p : Nums) : IC := (.region (opcode_Of_o1 p) [])
@[simp] theorem opcode_Of_c1_eq {P m Q st} {p : Nums} : AW P m (opcode_Of_c1 p) Q st ↔ AW P m (.region (opcode_Of_o1 p) []) Q st := Iff.rfl
@[simp] def opcode_Of_o2 (p : Nums) : List IOp := [qo 5 (.mov (.t 0)), qo 6 (.call p.opcode_known [(.t 5)]), qo 7 (.un .not (.t 6)), qo 4 (.asg (.t 7))]
def opcode_Of_c2 (p : Nums) : IC := (.region (opcode_Of_o2 p) [])
@[simp] theorem opcode_Of_c2_eq {P m Q st} {p : Nums} : AW P m (opcode_Of_c2 p) Q st ↔ AW P m (.region (opcode_Of_o2 p) []) Q st := Iff.rfl
@[simp] def opcode_Of_o3 (p : Nums) : List IOp := [qo 8 (.build [(.d (.bool false)), (.d (.bool false)), (.d (.bool false)), (.d (.bool false))] []), qn (.store 4 (.t 2) (.t 8)), qo 3 (.asg (.c (.d (.bool false))))]
def opcode_Of_c3 (p : Nums) : IC := (.region (opcode_Of_o3 p) [])
@[simp] theorem opcode_Of_c3_eq {P m Q st} {p : Nums} : AW P m (opcode_Of_c3 p) Q st ↔ AW P m (.region (opcode_Of_o3 p) []) Q st := Iff.rfl
@[simp] def opcode_Of_o4 (p : Nums) : List IOp := [qo 10 (.mov (.t 0)), qo 11 (.bin .eql (.t 10) (ci 1)), qo 9 (.asg (.t 11))]
def opcode_Of_c4 (p : Nums) : IC := (.region (opcode_Of_o4 p) [])
@[simp] theorem opcode_Of_c4_eq {P m Q st} {p : Nums} : AW P m (opcode_Of_c4 p) Q st ↔ AW P m (.region (opcode_Of_o4 p) []) Q st := Iff.rfl
@[simp] def opcode_Of_o5 (p : Nums) : List IOp := [qo 12 (.build [(.d (.bool false)), (.d (.bool false)), (.d (.bool false)), (.d (.bool false))] [(0, 1, (.c (.d (.bool true)))), (3, 1, (.c (.d (.bool true))))]), qn (.store 4 (.t 2) (.t 12)), qo 3 (.asg (.c (.d (.bool true))))]
def opcode_Of_c5 (p : Nums) : IC := (.region (opcode_Of_o5 p) [])
@[simp] theorem opcode_Of_c5_eq {P m Q st} {p : Nums} : AW P m (opcode_Of_c5 p) Q st ↔ AW P m (.region (opcode_Of_o5 p) []) Q st := Iff.rfl
@[simp] def opcode_Of_o6 (p : Nums) : List IOp := [qo 14 (.mov (.t 0)), qo 15 (.bin .leq (.t 14) (ci 4)), qo 13 (.asg (.t 15))]
def opcode_Of_c6 (p : Nums) : IC := (.region (opcode_Of_o6 p) [])
@[simp] theorem opcode_Of_c6_eq {P m Q st} {p : Nums} : AW P m (opcode_Of_c6 p) Q st ↔ AW P m (.region (opcode_Of_o6 p) []) Q st := Iff.rfl
@[simp] def opcode_Of_o7 (p : Nums) : List IOp := [qo 16 (.build [(.d (.bool false)), (.d (.bool false)), (.d (.bool false)), (.d (.bool false))] [(0, 1, (.c (.d (.bool true)))), (1, 1, (.c (.d (.bool true))))]), qn (.store 4 (.t 2) (.t 16)), qo 3 (.asg (.c (.d (.bool true))))]
def opcode_Of_c7 (p : Nums) : IC := (.region (opcode_Of_o7 p) [])
@[simp] theorem opcode_Of_c7_eq {P m Q st} {p : Nums} : AW P m (opcode_Of_c7 p) Q st ↔ AW P m (.region (opcode_Of_o7 p) []) Q st := Iff.rfl
@[simp] def opcode_Of_o8 (p : Nums) : List IOp := [qo 18 (.mov (.t 0)), qo 19 (.bin .leq (.t 18) (ci 16)), qo 17 (.asg (.t 19))]
def opcode_Of_c8 (p : Nums) : IC := (.region (opcode_Of_o8 p) [])
@[simp] theorem opcode_Of_c8_eq {P m Q st} {p : Nums} : AW P m (opcode_Of_c8 p) Q st ↔ AW P m (.region (opcode_Of_o8 p) []) Q st := Iff.rfl
@[simp] def opcode_Of_o9 (p : Nums) : List IOp := [qo 20 (.build [(.d (.bool false)), (.d (.bool false)), (.d (.bool false)), (.d (.bool false))] [(0, 1, (.c (.d (.bool true)))), (1, 1, (.c (.d (.bool true)))), (2, 1, (.c (.d (.bool true))))]), qn (.store 4 (.t 2) (.t 20)), qo 3 (.asg (.c (.d (.bool true))))]
def opcode_Of_c9 (p : Nums) : IC := (.region (opcode_Of_o9 p) [])
@[simp] theorem opcode_Of_c9_eq {P m Q st} {p : Nums} : AW P m (opcode_Of_c9 p) Q st ↔ AW P m (.region (opcode_Of_o9 p) []) Q st := Iff.rfl
def opcode_Of_c10 (p : Nums) : IC := (.seq (opcode_Of_c8 p) (.cond (.t 17) (.seq (opcode_Of_c9 p) .ret) .skip))
@[simp] theorem opcode_Of_c10_eq {P m Q st} {p : Nums} : AW P m (opcode_Of_c10 p) Q st ↔ AW P m (.seq (opcode_Of_c8 p) (.cond (.t 17) (.seq (opcode_Of_c9 p) .ret) .skip)) Q st := Iff.rfl
def opcode_Of_c11 (p : Nums) : IC := (.seq (opcode_Of_c6 p) (.cond (.t 13) (.seq (opcode_Of_c7 p) .ret) (opcode_Of_c10 p)))
@[simp] theorem opcode_Of_c11_eq {P m Q st} {p : Nums} : AW P m (opcode_Of_c11 p) Q st ↔ AW P m (.seq (opcode_Of_c6 p) (.cond (.t 13) (.seq (opcode_Of_c7 p) .ret) (opcode_Of_c10 p))) Q st := Iff.rfl
def opcode_Of_c12 (p : Nums) : IC := (.seq (opcode_Of_c4 p) (.cond (.t 9) (.seq (opcode_Of_c5 p) .ret) (opcode_Of_c11 p)))
@[simp] theorem opcode_Of_c12_eq {P m Q st} {p : Nums} : AW P m (opcode_Of_c12 p) Q st ↔ AW P m (.seq (opcode_Of_c4 p) (.cond (.t 9) (.seq (opcode_Of_c5 p) .ret) (opcode_Of_c11 p))) Q st := Iff.rfl
def opcode_Of_c13 (p : Nums) : IC := (.seq (opcode_Of_c2 p) (.cond (.t 4) (.seq (opcode_Of_c3 p) .ret) (opcode_Of_c12 p)))
@[simp] theorem opcode_Of_c13_eq {P m Q st} {p : Nums} : AW P m (opcode_Of_c13 p) Q st ↔ AW P m (.seq (opcode_Of_c2 p) (.cond (.t 4) (.seq (opcode_Of_c3 p) .ret) (opcode_Of_c12 p))) Q st := Iff.rfl
@[simp] def opcode_Of_o14 (p : Nums) : List IOp := [qo 21 (.mov (.t 0)), qo 22 (.bin .eql (.t 21) (ci 17)), qo 23 (.build [(.d (.bool false)), (.d (.bool false)), (.d (.bool false)), (.d (.bool false))] [(1, 1, (.t 22))]), qn (.store 4 (.t 2) (.t 23)), qo 3 (.asg (.c (.d (.bool true))))]
def opcode_Of_c14 (p : Nums) : IC := (.region (opcode_Of_o14 p) [])
@[simp] theorem opcode_Of_c14_eq {P m Q st} {p : Nums} : AW P m (opcode_Of_c14 p) Q st ↔ AW P m (.region (opcode_Of_o14 p) []) Q st := Iff.rfl
def ic_opcode_Of (p : Nums) : IC := (.seq (opcode_Of_c1 p) (.seq (.block 0 (opcode_Of_c13 p)) (.seq (opcode_Of_c14 p) .ret)))
@[simp] def opcode_known_o1 (p : Nums) : List IOp := [qo 3 (.mov (.t 0)), qo 4 (.bin .geq (.t 3) (ci 1)), qo 5 (.mov (.t 4)), ⟨(some 6), (.mov (.t 0)), (some (5, true)), false⟩, ⟨(some 7), (.bin .leq (.t 6) (ci 18)), (some (5, true)), false⟩, qo 8 (.pick (.t 5) (.t 7) (.c (.d (.bool false)))), qo 2 (.asg (.t 8))]
def opcode_known_c1 (p : Nums) : IC := (.region (opcode_known_o1 p) [])
@[simp] theorem opcode_known_c1_eq {P m Q st} {p : Nums} : AW P m (opcode_known_c1 p) Q st ↔ AW P m (.region (opcode_known_o1 p) []) Q st := Iff.rfl
def ic_opcode_known (p : Nums) : IC := (.seq (.region [⟨(some 2), (.asg (.c (.d (.bool false)))), none, false⟩] []) (.seq (opcode_known_c1 p) .ret))
@[simp] def law14_BlockcheckMatchesReference_o1 (p : Nums) : List IOp := [qo 6 (.box (.t 0)), qo 7 (.box (.t 1)), qo 12 (.asg (.c (.d (.bool false))))]
def law14_BlockcheckMatchesReference_c1 (p : Nums) : IC := (.region (law14_BlockcheckMatchesReference_o1 p) [])
@[simp] theorem law14_BlockcheckMatchesReference_c1_eq {P m Q st} {p : Nums} : AW P m (law14_BlockcheckMatchesReference_c1 p) Q st ↔ AW P m (.region (law14_BlockcheckMatchesReference_o1 p) []) Q st := Iff.rfl
@[simp] def law14_BlockcheckMatchesReference_o2 (p : Nums) : List IOp := [qo 14 (.call p.law14_awake []), qo 15 (.un .not (.t 14)), qo 16 (.mov (.t 15)), ⟨(some 17), (.mov (.t 2)), (some (16, false)), false⟩, ⟨(some 18), (.len (.t 17)), (some (16, false)), false⟩, ⟨(some 19), (.bin .gtr (.t 18) (ci 60)), (some (16, false)), false⟩, qo 20 (.pick (.t 16) (.c (.d (.bool true))) (.t 19)), qo 21 (.mov (.t 20)), ⟨(some 22), (.load (some 5) (.t 6)), (some (21, false)), false⟩, ⟨(some 23), (.load (some 5) (.t 7)), (some (21, false)), false⟩, ⟨(some 24), (.mov (.t 4)), (some (21, false)), false⟩, ⟨(some 25), (.mov (.t 5)), (some (21, false)), false⟩, ⟨(some 26), (.call p.law14_right [(.t 22), (.t 23), (.t 24), (.t 25)]), (some (21, false)), false⟩, ⟨(some 27), (.un .not (.t 26)), (some (21, false)), false⟩, qo 28 (.pick (.t 21) (.c (.d (.bool true))) (.t 27))]
def law14_BlockcheckMatchesReference_c2 (p : Nums) : IC := (.region (law14_BlockcheckMatchesReference_o2 p) [])
@[simp] theorem law14_BlockcheckMatchesReference_c2_eq {P m Q st} {p : Nums} : AW P m (law14_BlockcheckMatchesReference_c2 p) Q st ↔ AW P m (.region (law14_BlockcheckMatchesReference_o2 p) []) Q st := Iff.rfl
def law14_BlockcheckMatchesReference_c3 (p : Nums) : IC := (.seq (.region [⟨(some 29), (.call p.law14_awake []), none, false⟩, ⟨(some 12), (.asg (.t 29)), none, false⟩] []) .ret)
@[simp] theorem law14_BlockcheckMatchesReference_c3_eq {P m Q st} {p : Nums} : AW P m (law14_BlockcheckMatchesReference_c3 p) Q st ↔ AW P m (.seq (.region [⟨(some 29), (.call p.law14_awake []), none, false⟩, ⟨(some 12), (.asg (.t 29)), none, false⟩] []) .ret) Q st := Iff.rfl
@[simp] def law14_BlockcheckMatchesReference_o4 (p : Nums) : List IOp := [qo 30 (.mov (.t 2)), qo 31 (.call p.ref11_Make [(.t 30)]), qo 13 (.asg (.t 31))]
def law14_BlockcheckMatchesReference_c4 (p : Nums) : IC := (.region (law14_BlockcheckMatchesReference_o4 p) [])
@[simp] theorem law14_BlockcheckMatchesReference_c4_eq {P m Q st} {p : Nums} : AW P m (law14_BlockcheckMatchesReference_c4 p) Q st ↔ AW P m (.region (law14_BlockcheckMatchesReference_o4 p) []) Q st := Iff.rfl
@[simp] def law14_BlockcheckMatchesReference_o5 (p : Nums) : List IOp := [qp 32 (.load (some 5) (.t 6)), qp 33 (.load (some 5) (.t 7)), qp 34 (.mov (.t 13)), qp 35 (.mov (.t 3)), qp 36 (.call p.blockcheck_Check [(.t 32), (.t 33), (.t 34), (.t 35)]), qp 37 (.call p.law14_result [(.t 36)]), qp 38 (.load (some 5) (.t 6)), qp 39 (.load (some 5) (.t 7)), qp 40 (.mov (.t 13)), qp 41 (.mov (.t 3)), qo 42 (.call p.ref14_Check [(.t 38), (.t 39), (.t 40), (.t 41)]), qo 43 (.call p.ref14_Same [(.t 37), (.t 42)]), qo 12 (.asg (.t 43))]
def law14_BlockcheckMatchesReference_c5 (p : Nums) : IC := (.region (law14_BlockcheckMatchesReference_o5 p) [])
@[simp] theorem law14_BlockcheckMatchesReference_c5_eq {P m Q st} {p : Nums} : AW P m (law14_BlockcheckMatchesReference_c5 p) Q st ↔ AW P m (.region (law14_BlockcheckMatchesReference_o5 p) []) Q st := Iff.rfl
def ic_law14_BlockcheckMatchesReference (p : Nums) : IC := (.seq (law14_BlockcheckMatchesReference_c1 p) (.seq (.seq (law14_BlockcheckMatchesReference_c2 p) (.cond (.t 28) (law14_BlockcheckMatchesReference_c3 p) .skip)) (.seq (law14_BlockcheckMatchesReference_c4 p) (.seq (law14_BlockcheckMatchesReference_c5 p) .ret))))
@[simp] def law14_BlockcheckMonotone_o1 (p : Nums) : List IOp := [qo 6 (.box (.t 0)), qo 7 (.box (.t 1)), qo 12 (.asg (.c (.d (.bool false))))]
def law14_BlockcheckMonotone_c1 (p : Nums) : IC := (.region (law14_BlockcheckMonotone_o1 p) [])
@[simp] theorem law14_BlockcheckMonotone_c1_eq {P m Q st} {p : Nums} : AW P m (law14_BlockcheckMonotone_c1 p) Q st ↔ AW P m (.region (law14_BlockcheckMonotone_o1 p) []) Q st := Iff.rfl
@[simp] def law14_BlockcheckMonotone_o2 (p : Nums) : List IOp := [qo 19 (.call p.law14_awake []), qo 20 (.un .not (.t 19)), qo 21 (.mov (.t 20)), ⟨(some 22), (.mov (.t 2)), (some (21, false)), false⟩, ⟨(some 23), (.len (.t 22)), (some (21, false)), false⟩, ⟨(some 24), (.bin .gtr (.t 23) (ci 40)), (some (21, false)), false⟩, qo 25 (.pick (.t 21) (.c (.d (.bool true))) (.t 24)), qo 26 (.mov (.t 25)), ⟨(some 27), (.mov (.t 3)), (some (26, false)), false⟩, ⟨(some 28), (.len (.t 27)), (some (26, false)), false⟩, ⟨(some 29), (.bin .gtr (.t 28) (ci 40)), (some (26, false)), false⟩, qo 30 (.pick (.t 26) (.c (.d (.bool true))) (.t 29)), qo 31 (.mov (.t 30)), ⟨(some 32), (.load (some 5) (.t 6)), (some (31, false)), false⟩, ⟨(some 33), (.load (some 5) (.t 7)), (some (31, false)), false⟩, ⟨(some 34), (.mov (.t 4)), (some (31, false)), false⟩, ⟨(some 35), (.mov (.t 5)), (some (31, false)), false⟩, ⟨(some 36), (.call p.law14_right [(.t 32), (.t 33), (.t 34), (.t 35)]), (some (31, false)), false⟩, ⟨(some 37), (.un .not (.t 36)), (some (31, false)), false⟩, qo 38 (.pick (.t 31) (.c (.d (.bool true))) (.t 37))]
def law14_BlockcheckMonotone_c2 (p : Nums) : IC := (.region (law14_BlockcheckMonotone_o2 p) [])
@[simp] theorem law14_BlockcheckMonotone_c2_eq {P m Q st} {p : Nums} : AW P m (law14_BlockcheckMonotone_c2 p) Q st ↔ AW P m (.region (law14_BlockcheckMonotone_o2 p) []) Q st := Iff.rfl
def law14_BlockcheckMonotone_c3 (p : Nums) : IC := (.seq (.region [⟨(some 39), (.call p.law14_awake []), none, false⟩, ⟨(some 12), (.asg (.t 39)), none, false⟩] []) .ret)
@[simp] theorem law14_BlockcheckMonotone_c3_eq {P m Q st} {p : Nums} : AW P m (law14_BlockcheckMonotone_c3 p) Q st ↔ AW P m (.seq (.region [⟨(some 39), (.call p.law14_awake []), none, false⟩, ⟨(some 12), (.asg (.t 39)), none, false⟩] []) .ret) Q st := Iff.rfl
@[simp] def law14_BlockcheckMonotone_o4 (p : Nums) : List IOp := [qo 40 (.mov (.t 2)), qo 41 (.call p.ref11_Make [(.t 40)]), qo 13 (.asg (.t 41))]
def law14_BlockcheckMonotone_c4 (p : Nums) : IC := (.region (law14_BlockcheckMonotone_o4 p) [])
@[simp] theorem law14_BlockcheckMonotone_c4_eq {P m Q st} {p : Nums} : AW P m (law14_BlockcheckMonotone_c4 p) Q st ↔ AW P m (.region (law14_BlockcheckMonotone_o4 p) []) Q st := Iff.rfl
@[simp] def law14_BlockcheckMonotone_o5 (p : Nums) : List IOp := [qo 42 (.bslice 2 0 [(.int .i64 0), (.int .i64 0)] []), qo 43 (.mov (.t 2)), qo 44 (.app 2 16 (.t 42) (.t 43)), qo 45 (.mov (.t 3)), qo 46 (.app 2 16 (.t 44) (.t 45)), qo 47 (.call p.ref11_Make [(.t 46)]), qo 14 (.asg (.t 47))]
def law14_BlockcheckMonotone_c5 (p : Nums) : IC := (.region (law14_BlockcheckMonotone_o5 p) [])
@[simp] theorem law14_BlockcheckMonotone_c5_eq {P m Q st} {p : Nums} : AW P m (law14_BlockcheckMonotone_c5 p) Q st ↔ AW P m (.region (law14_BlockcheckMonotone_o5 p) []) Q st := Iff.rfl
@[simp] def law14_BlockcheckMonotone_o6 (p : Nums) : List IOp := [qo 48 (.load (some 5) (.t 6)), qo 49 (.load (some 5) (.t 7)), qo 50 (.mov (.t 13)), qo 51 (.call p.blockcheck_Check [(.t 48), (.t 49), (.t 50), (ci 1000000)]), qo 15 (.alloc [.nils, (zi 0), (zi 0), (zi 0), (zi 0)]), qn (.store 5 (.t 15) (.t 51))]
def law14_BlockcheckMonotone_c6 (p : Nums) : IC := (.region (law14_BlockcheckMonotone_o6 p) [])
@[simp] theorem law14_BlockcheckMonotone_c6_eq {P m Q st} {p : Nums} : AW P m (law14_BlockcheckMonotone_c6 p) Q st ↔ AW P m (.region (law14_BlockcheckMonotone_o6 p) []) Q st := Iff.rfl
@[simp] def law14_BlockcheckMonotone_o7 (p : Nums) : List IOp := [qo 52 (.load (some 5) (.t 6)), qo 53 (.load (some 5) (.t 7)), qo 54 (.mov (.t 14)), qo 55 (.call p.blockcheck_Check [(.t 52), (.t 53), (.t 54), (ci 1000000)]), qo 16 (.alloc [.nils, (zi 0), (zi 0), (zi 0), (zi 0)]), qn (.store 5 (.t 16) (.t 55))]
def law14_BlockcheckMonotone_c7 (p : Nums) : IC := (.region (law14_BlockcheckMonotone_o7 p) [])
@[simp] theorem law14_BlockcheckMonotone_c7_eq {P m Q st} {p : Nums} : AW P m (law14_BlockcheckMonotone_c7 p) Q st ↔ AW P m (.region (law14_BlockcheckMonotone_o7 p) []) Q st := Iff.rfl
@[simp] def law14_BlockcheckMonotone_o8 (p : Nums) : List IOp := [qo 56 (.faddr 1 (.t 15)), qo 57 (.load none (.t 56)), qo 58 (.bin .neq (.t 57) (ci 0))]
def law14_BlockcheckMonotone_c8 (p : Nums) : IC := (.region (law14_BlockcheckMonotone_o8 p) [])
@[simp] theorem law14_BlockcheckMonotone_c8_eq {P m Q st} {p : Nums} : AW P m (law14_BlockcheckMonotone_c8 p) Q st ↔ AW P m (.region (law14_BlockcheckMonotone_o8 p) []) Q st := Iff.rfl
@[simp] def law14_BlockcheckMonotone_o9 (p : Nums) : List IOp := [qo 59 (.faddr 1 (.t 15)), qo 60 (.load none (.t 59)), qo 61 (.faddr 1 (.t 16)), qo 62 (.load none (.t 61)), qo 63 (.bin .eql (.t 60) (.t 62)), qo 64 (.mov (.t 63)), ⟨(some 65), (.faddr 1 (.t 15)), (some (64, false)), false⟩, ⟨(some 66), (.load none (.t 65)), (some (64, false)), false⟩, ⟨(some 67), (.bin .eql (.t 66) (ci 21)), (some (64, false)), false⟩, qo 68 (.pick (.t 64) (.c (.d (.bool true))) (.t 67)), qo 12 (.asg (.t 68))]
def law14_BlockcheckMonotone_c9 (p : Nums) : IC := (.region (law14_BlockcheckMonotone_o9 p) [])
@[simp] theorem law14_BlockcheckMonotone_c9_eq {P m Q st} {p : Nums} : AW P m (law14_BlockcheckMonotone_c9 p) Q st ↔ AW P m (.region (law14_BlockcheckMonotone_o9 p) []) Q st := Iff.rfl
@[simp] def law14_BlockcheckMonotone_o10 (p : Nums) : List IOp := [qo 70 (.faddr 0 (.t 15)), qo 71 (.load none (.t 70)), qo 72 (.faddr 0 (.t 16)), qo 73 (.load none (.t 72)), qo 74 (.call p.ref11_Missing [(.t 71), (.t 73)]), qo 69 (.mov (.t 74)), qo 75 (.ext (.t 69) 0), qo 76 (.ext (.t 69) 1), qo 17 (.alloc [(zi 0), (zi 0)]), qn (.store 2 (.t 17) (.t 75)), qo 18 (.asg (.t 76))]
def law14_BlockcheckMonotone_c10 (p : Nums) : IC := (.region (law14_BlockcheckMonotone_o10 p) [])
@[simp] theorem law14_BlockcheckMonotone_c10_eq {P m Q st} {p : Nums} : AW P m (law14_BlockcheckMonotone_c10 p) Q st ↔ AW P m (.region (law14_BlockcheckMonotone_o10 p) []) Q st := Iff.rfl
@[simp] def law14_BlockcheckMonotone_o11 (p : Nums) : List IOp := [qo 77 (.faddr 1 (.t 16)), qo 78 (.load none (.t 77)), qo 79 (.bin .eql (.t 78) (ci 0)), qo 80 (.mov (.t 79)), ⟨(some 81), (.mov (.t 18)), (some (80, true)), false⟩, ⟨(some 82), (.un .not (.t 81)), (some (80, true)), false⟩, qo 83 (.pick (.t 80) (.t 82) (.c (.d (.bool false)))), qo 84 (.mov (.t 83)), ⟨(some 85), (.faddr 4 (.t 15)), (some (84, true)), false⟩, ⟨(some 86), (.load none (.t 85)), (some (84, true)), false⟩, ⟨(some 87), (.faddr 4 (.t 16)), (some (84, true)), false⟩, ⟨(some 88), (.load none (.t 87)), (some (84, true)), false⟩, ⟨(some 89), (.bin .leq (.t 86) (.t 88)), (some (84, true)), false⟩, qo 90 (.pick (.t 84) (.t 89) (.c (.d (.bool false)))), qo 91 (.mov (.t 90)), ⟨(some 92), (.faddr 3 (.t 15)), (some (91, true)), false⟩, ⟨(some 93), (.load none (.t 92)), (some (91, true)), false⟩, ⟨(some 94), (.faddr 3 (.t 16)), (some (91, true)), false⟩, ⟨(some 95), (.load none (.t 94)), (some (91, true)), false⟩, ⟨(some 96), (.bin .leq (.t 93) (.t 95)), (some (91, true)), false⟩, qo 97 (.pick (.t 91) (.t 96) (.c (.d (.bool false)))), qo 12 (.asg (.t 97))]
def law14_BlockcheckMonotone_c11 (p : Nums) : IC := (.region (law14_BlockcheckMonotone_o11 p) [])
@[simp] theorem law14_BlockcheckMonotone_c11_eq {P m Q st} {p : Nums} : AW P m (law14_BlockcheckMonotone_c11 p) Q st ↔ AW P m (.region (law14_BlockcheckMonotone_o11 p) []) Q st := Iff.rfl
def ic_law14_BlockcheckMonotone (p : Nums) : IC := (.seq (law14_BlockcheckMonotone_c1 p) (.seq (.seq (law14_BlockcheckMonotone_c2 p) (.cond (.t 38) (law14_BlockcheckMonotone_c3 p) .skip)) (.seq (law14_BlockcheckMonotone_c4 p) (.seq (law14_BlockcheckMonotone_c5 p) (.seq (law14_BlockcheckMonotone_c6 p) (.seq (law14_BlockcheckMonotone_c7 p) (.seq (.seq (law14_BlockcheckMonotone_c8 p) (.cond (.t 58) (.seq (law14_BlockcheckMonotone_c9 p) .ret) .skip)) (.seq (law14_BlockcheckMonotone_c10 p) (.seq (law14_BlockcheckMonotone_c11 p) .ret)))))))))
@[simp] def transfer_Copy_o1 (p : Nums) : List IOp := [qo 7 (.load none (.t 4)), qo 8 (.load none (.t 5)), qo 9 (.bin .eql (.t 7) (.t 8))]
def transfer_Copy_c1 (p : Nums) : IC := (.region (transfer_Copy_o1 p) [])
@[simp] theorem transfer_Copy_c1_eq {P m Q st} {p : Nums} : AW P m (transfer_Copy_c1 p) Q st ↔ AW P m (.region (transfer_Copy_o1 p) []) Q st := Iff.rfl
@[simp] def transfer_Copy_o2 (p : Nums) : List IOp := [qo 10 (.mov (.t 0)), qo 11 (.call p.pairset_Make [(.t 10)]), qo 6 (.asg (.t 11))]
def transfer_Copy_c2 (p : Nums) : IC := (.region (transfer_Copy_o2 p) [])
@[simp] theorem transfer_Copy_c2_eq {P m Q st} {p : Nums} : AW P m (transfer_Copy_c2 p) Q st ↔ AW P m (.region (transfer_Copy_o2 p) []) Q st := Iff.rfl
@[simp] def transfer_Copy_o3 (p : Nums) : List IOp := [qo 12 (.mov (.t 0)), qo 13 (.load none (.t 4)), qo 14 (.call p.pairset_DropV [(.t 12), (.t 13)]), qo 15 (.mov (.t 0)), qo 16 (.mkfn (.func p.transfer_Copy_1) [] [(.t 4), (.t 5)]), qo 17 (.call p.transfer_rename [(.t 14), (.t 15), (.t 16)]), qo 6 (.asg (.t 17))]
def transfer_Copy_c3 (p : Nums) : IC := (.region (transfer_Copy_o3 p) [])
@[simp] theorem transfer_Copy_c3_eq {P m Q st} {p : Nums} : AW P m (transfer_Copy_c3 p) Q st ↔ AW P m (.region (transfer_Copy_o3 p) []) Q st := Iff.rfl
def ic_transfer_Copy (p : Nums) : IC := (.seq (.region [⟨(some 4), (.box (.t 1)), none, false⟩, ⟨(some 5), (.box (.t 2)), none, false⟩, ⟨(some 6), (.asg (.c .nils)), none, false⟩] []) (.seq (.seq (transfer_Copy_c1 p) (.cond (.t 9) (.seq (transfer_Copy_c2 p) .ret) .skip)) (.seq (transfer_Copy_c3 p) .ret)))
@[simp] def ref12_Copy_o1 (p : Nums) : List IOp := [qo 9 (.mov (.t 8)), qo 10 (.mov (.t 0)), qo 11 (.len (.t 10)), qo 12 (.bin .lss (.t 9) (.t 11))]
def ref12_Copy_c1 (p : Nums) : IC := (.region (ref12_Copy_o1 p) [])
@[simp] theorem ref12_Copy_c1_eq {P m Q st} {p : Nums} : AW P m (ref12_Copy_c1 p) Q st ↔ AW P m (.region (ref12_Copy_o1 p) []) Q st := Iff.rfl
@[simp] def ref12_Copy_o2 (p : Nums) : List IOp := [qo 15 (.mov (.t 1)), qo 16 (.mov (.t 2)), qo 17 (.bin .eql (.t 15) (.t 16)), qo 18 (.mov (.t 17)), ⟨(some 19), (.mov (.t 0)), (some (18, false)), false⟩, ⟨(some 20), (.mov (.t 8)), (some (18, false)), false⟩, ⟨(some 21), (.iaddr 2 (.t 19) (.t 20)), (some (18, false)), false⟩, ⟨(some 22), (.faddr 0 (.t 21)), (some (18, false)), false⟩, ⟨(some 23), (.load none (.t 22)), (some (18, false)), false⟩, ⟨(some 24), (.mov (.t 1)), (some (18, false)), false⟩, ⟨(some 25), (.bin .neq (.t 23) (.t 24)), (some (18, false)), false⟩, qo 26 (.pick (.t 18) (.c (.d (.bool true))) (.t 25))]
def ref12_Copy_c2 (p : Nums) : IC := (.region (ref12_Copy_o2 p) [])
@[simp] theorem ref12_Copy_c2_eq {P m Q st} {p : Nums} : AW P m (ref12_Copy_c2 p) Q st ↔ AW P m (.region (ref12_Copy_o2 p) []) Q st := Iff.rfl
@[simp] def ref12_Copy_o3 (p : Nums) : List IOp := [qo 27 (.mov (.t 7)), qo 28 (.mov (.t 0)), qo 29 (.mov (.t 8)), qo 30 (.iaddr 2 (.t 28) (.t 29)), qo 31 (.load (some 2) (.t 30)), qo 32 (.call p.ref11_Add [(.t 27), (.t 31)]), qo 7 (.asg (.t 32))]
def ref12_Copy_c3 (p : Nums) : IC := (.region (ref12_Copy_o3 p) [])
@[simp] theorem ref12_Copy_c3_eq {P m Q st} {p : Nums} : AW P m (ref12_Copy_c3 p) Q st ↔ AW P m (.region (ref12_Copy_o3 p) []) Q st := Iff.rfl
@[simp] def ref12_Copy_o4 (p : Nums) : List IOp := [qo 33 (.mov (.t 0)), qo 34 (.mov (.t 8)), qo 35 (.iaddr 2 (.t 33) (.t 34)), qo 36 (.faddr 0 (.t 35)), qo 37 (.load none (.t 36)), qo 38 (.mov (.t 2)), qo 39 (.bin .eql (.t 37) (.t 38))]
def ref12_Copy_c4 (p : Nums) : IC := (.region (ref12_Copy_o4 p) [])
@[simp] theorem ref12_Copy_c4_eq {P m Q st} {p : Nums} : AW P m (ref12_Copy_c4 p) Q st ↔ AW P m (.region (ref12_Copy_o4 p) []) Q st := Iff.rfl
@[simp] def ref12_Copy_o5 (p : Nums) : List IOp := [qo 40 (.mov (.t 7)), qo 41 (.mov (.t 1)), qo 42 (.mov (.t 0)), qo 43 (.mov (.t 8)), qo 44 (.iaddr 2 (.t 42) (.t 43)), qo 45 (.faddr 1 (.t 44)), qo 46 (.load none (.t 45)), qo 47 (.build [(zi 0), (zi 0)] [(0, 1, (.t 41)), (1, 1, (.t 46))]), qo 48 (.call p.ref11_Add [(.t 40), (.t 47)]), qo 7 (.asg (.t 48))]
def ref12_Copy_c5 (p : Nums) : IC := (.region (ref12_Copy_o5 p) [])
@[simp] theorem ref12_Copy_c5_eq {P m Q st} {p : Nums} : AW P m (ref12_Copy_c5 p) Q st ↔ AW P m (.region (ref12_Copy_o5 p) []) Q st := Iff.rfl
def ref12_Copy_c6 (p : Nums) : IC := (.seq (.seq (ref12_Copy_c2 p) (.cond (.t 26) (ref12_Copy_c3 p) .skip)) (.seq (ref12_Copy_c4 p) (.cond (.t 39) (ref12_Copy_c5 p) .skip)))
@[simp] theorem ref12_Copy_c6_eq {P m Q st} {p : Nums} : AW P m (ref12_Copy_c6 p) Q st ↔ AW P m (.seq (.seq (ref12_Copy_c2 p) (.cond (.t 26) (ref12_Copy_c3 p) .skip)) (.seq (ref12_Copy_c4 p) (.cond (.t 39) (ref12_Copy_c5 p) .skip))) Q st := Iff.rfl
@[simp] def ref12_Copy_o7 (p : Nums) : List IOp := [qo 13 (.mov (.t 8)), qo 14 (.bin .add (.t 13) (ci 1)), qo 8 (.asg (.t 14))]
def ref12_Copy_c7 (p : Nums) : IC := (.region (ref12_Copy_o7 p) [])
@[simp] theorem ref12_Copy_c7_eq {P m Q st} {p : Nums} : AW P m (ref12_Copy_c7 p) Q st ↔ AW P m (.region (ref12_Copy_o7 p) []) Q st := Iff.rfl
def ref12_Copy_c8 (p : Nums) : IC := (.seq (.seq (ref12_Copy_c1 p) (.cond (.t 12) .skip (.exit 0))) (.seq (.block 1 (ref12_Copy_c6 p)) (ref12_Copy_c7 p)))
@[simp] theorem ref12_Copy_c8_eq {P m Q st} {p : Nums} : AW P m (ref12_Copy_c8 p) Q st ↔ AW P m (.seq (.seq (ref12_Copy_c1 p) (.cond (.t 12) .skip (.exit 0))) (.seq (.block 1 (ref12_Copy_c6 p)) (ref12_Copy_c7 p))) Q st := Iff.rfl
def ic_ref12_Copy (p : Nums) : IC := (.seq (.region [⟨(some 6), (.asg (.c .nils)), none, false⟩] []) (.seq (.region [⟨(some 7), (.asg (.c .nils)), none, false⟩] []) (.seq (.seq (.region [⟨(some 8), (.asg (.c (.d (.int .i64 0)))), none, false⟩] []) (.block 0 (.loop (ref12_Copy_c8 p)))) (.seq (.region [⟨(some 49), (.mov (.t 7)), none, false⟩, ⟨(some 6), (.asg (.t 49)), none, false⟩] []) .ret))))
@[simp] def transfer_Move_o1 (p : Nums) : List IOp := [qo 7 (.load none (.t 4)), qo 8 (.load none (.t 5)), qo 9 (.bin .eql (.t 7) (.t 8))]
def transfer_Move_c1 (p : Nums) : IC := (.region (transfer_Move_o1 p) [])
@[simp] theorem transfer_Move_c1_eq {P m Q st} {p : Nums} : AW P m (transfer_Move_c1 p) Q st ↔ AW P m (.region (transfer_Move_o1 p) []) Q st := Iff.rfl
@[simp] def transfer_Move_o2 (p : Nums) : List IOp := [qo 10 (.mov (.t 0)), qo 11 (.call p.pairset_Make [(.t 10)]), qo 6 (.asg (.t 11))]
def transfer_Move_c2 (p : Nums) : IC := (.region (transfer_Move_o2 p) [])
@[simp] theorem transfer_Move_c2_eq {P m Q st} {p : Nums} : AW P m (transfer_Move_c2 p) Q st ↔ AW P m (.region (transfer_Move_o2 p) []) Q st := Iff.rfl
@[simp] def transfer_Move_o3 (p : Nums) : List IOp := [qo 12 (.mov (.t 0)), qo 13 (.load none (.t 4)), qo 14 (.call p.pairset_DropL [(.t 12), (.t 13)]), qo 15 (.mov (.t 0)), qo 16 (.mkfn (.func p.transfer_Move_1) [] [(.t 4), (.t 5)]), qo 17 (.call p.transfer_rename [(.t 14), (.t 15), (.t 16)]), qo 6 (.asg (.t 17))]
def transfer_Move_c3 (p : Nums) : IC := (.region (transfer_Move_o3 p) [])
@[simp] theorem transfer_Move_c3_eq {P m Q st} {p : Nums} : AW P m (transfer_Move_c3 p) Q st ↔ AW P m (.region (transfer_Move_o3 p) []) Q st := Iff.rfl
def ic_transfer_Move (p : Nums) : IC := (.seq (.region [⟨(some 4), (.box (.t 1)), none, false⟩, ⟨(some 5), (.box (.t 2)), none, false⟩, ⟨(some 6), (.asg (.c .nils)), none, false⟩] []) (.seq (.seq (transfer_Move_c1 p) (.cond (.t 9) (.seq (transfer_Move_c2 p) .ret) .skip)) (.seq (transfer_Move_c3 p) .ret)))
@[simp] def ref12_Move_o1 (p : Nums) : List IOp := [qo 9 (.mov (.t 8)), qo 10 (.mov (.t 0)), qo 11 (.len (.t 10)), qo 12 (.bin .lss (.t 9) (.t 11))]
def ref12_Move_c1 (p : Nums) : IC := (.region (ref12_Move_o1 p) [])
@[simp] theorem ref12_Move_c1_eq {P m Q st} {p : Nums} : AW P m (ref12_Move_c1 p) Q st ↔ AW P m (.region (ref12_Move_o1 p) []) Q st := Iff.rfl
@[simp] def ref12_Move_o2 (p : Nums) : List IOp := [qo 15 (.mov (.t 1)), qo 16 (.mov (.t 2)), qo 17 (.bin .eql (.t 15) (.t 16)), qo 18 (.mov (.t 17)), ⟨(some 19), (.mov (.t 0)), (some (18, false)), false⟩, ⟨(some 20), (.mov (.t 8)), (some (18, false)), false⟩, ⟨(some 21), (.iaddr 2 (.t 19) (.t 20)), (some (18, false)), false⟩, ⟨(some 22), (.faddr 1 (.t 21)), (some (18, false)), false⟩, ⟨(some 23), (.load none (.t 22)), (some (18, false)), false⟩, ⟨(some 24), (.mov (.t 1)), (some (18, false)), false⟩, ⟨(some 25), (.bin .neq (.t 23) (.t 24)), (some (18, false)), false⟩, qo 26 (.pick (.t 18) (.c (.d (.bool true))) (.t 25))]
def ref12_Move_c2 (p : Nums) : IC := (.region (ref12_Move_o2 p) [])
@[simp] theorem ref12_Move_c2_eq {P m Q st} {p : Nums} : AW P m (ref12_Move_c2 p) Q st ↔ AW P m (.region (ref12_Move_o2 p) []) Q st := Iff.rfl
@[simp] def ref12_Move_o3 (p : Nums) : List IOp := [qo 27 (.mov (.t 7)), qo 28 (.mov (.t 0)), qo 29 (.mov (.t 8)), qo 30 (.iaddr 2 (.t 28) (.t 29)), qo 31 (.load (some 2) (.t 30)), qo 32 (.call p.ref11_Add [(.t 27), (.t 31)]), qo 7 (.asg (.t 32))]
def ref12_Move_c3 (p : Nums) : IC := (.region (ref12_Move_o3 p) [])
@[simp] theorem ref12_Move_c3_eq {P m Q st} {p : Nums} : AW P m (ref12_Move_c3 p) Q st ↔ AW P m (.region (ref12_Move_o3 p) []) Q st := Iff.rfl
@[simp] def ref12_Move_o4 (p : Nums) : List IOp := [qo 33 (.mov (.t 0)), qo 34 (.mov (.t 8)), qo 35 (.iaddr 2 (.t 33) (.t 34)), qo 36 (.faddr 1 (.t 35)), qo 37 (.load none (.t 36)), qo 38 (.mov (.t 2)), qo 39 (.bin .eql (.t 37) (.t 38))]
def ref12_Move_c4 (p : Nums) : IC := (.region (ref12_Move_o4 p) [])
@[simp] theorem ref12_Move_c4_eq {P m Q st} {p : Nums} : AW P m (ref12_Move_c4 p) Q st ↔ AW P m (.region (ref12_Move_o4 p) []) Q st := Iff.rfl
@[simp] def ref12_Move_o5 (p : Nums) : List IOp := [qo 40 (.mov (.t 7)), qo 41 (.mov (.t 0)), qo 42 (.mov (.t 8)), qo 43 (.iaddr 2 (.t 41) (.t 42)), qo 44 (.faddr 0 (.t 43)), qo 45 (.load none (.t 44)), qo 46 (.mov (.t 1)), qo 47 (.build [(zi 0), (zi 0)] [(0, 1, (.t 45)), (1, 1, (.t 46))]), qo 48 (.call p.ref11_Add [(.t 40), (.t 47)]), qo 7 (.asg (.t 48))]
def ref12_Move_c5 (p : Nums) : IC := (.region (ref12_Move_o5 p) [])
@[simp] theorem ref12_Move_c5_eq {P m Q st} {p : Nums} : AW P m (ref12_Move_c5 p) Q st ↔ AW P m (.region (ref12_Move_o5 p) []) Q st := Iff.rfl
def ref12_Move_c6 (p : Nums) : IC := (.seq (.seq (ref12_Move_c2 p) (.cond (.t 26) (ref12_Move_c3 p) .skip)) (.seq (ref12_Move_c4 p) (.cond (.t 39) (ref12_Move_c5 p) .skip)))
@[simp] theorem ref12_Move_c6_eq {P m Q st} {p : Nums} : AW P m (ref12_Move_c6 p) Q st ↔ AW P m (.seq (.seq (ref12_Move_c2 p) (.cond (.t 26) (ref12_Move_c3 p) .skip)) (.seq (ref12_Move_c4 p) (.cond (.t 39) (ref12_Move_c5 p) .skip))) Q st := Iff.rfl
@[simp] def ref12_Move_o7 (p : Nums) : List IOp := [qo 13 (.mov (.t 8)), qo 14 (.bin .add (.t 13) (ci 1)), qo 8 (.asg (.t 14))]
def ref12_Move_c7 (p : Nums) : IC := (.region (ref12_Move_o7 p) [])
@[simp] theorem ref12_Move_c7_eq {P m Q st} {p : Nums} : AW P m (ref12_Move_c7 p) Q st ↔ AW P m (.region (ref12_Move_o7 p) []) Q st := Iff.rfl
def ref12_Move_c8 (p : Nums) : IC := (.seq (.seq (ref12_Move_c1 p) (.cond (.t 12) .skip (.exit 0))) (.seq (.block 1 (ref12_Move_c6 p)) (ref12_Move_c7 p)))
@[simp] theorem ref12_Move_c8_eq {P m Q st} {p : Nums} : AW P m (ref12_Move_c8 p) Q st ↔ AW P m (.seq (.seq (ref12_Move_c1 p) (.cond (.t 12) .skip (.exit 0))) (.seq (.block 1 (ref12_Move_c6 p)) (ref12_Move_c7 p))) Q st := Iff.rfl
def ic_ref12_Move (p : Nums) : IC := (.seq (.region [⟨(some 6), (.asg (.c .nils)), none, false⟩] []) (.seq (.region [⟨(some 7), (.asg (.c .nils)), none, false⟩] []) (.seq (.seq (.region [⟨(some 8), (.asg (.c (.d (.int .i64 0)))), none, false⟩] []) (.block 0 (.loop (ref12_Move_c8 p)))) (.seq (.region [⟨(some 49), (.mov (.t 7)), none, false⟩, ⟨(some 6), (.asg (.t 49)), none, false⟩] []) .ret))))
@[simp] def transfer_Define_o1 (p : Nums) : List IOp := [qo 8 (.mov (.t 0)), qo 9 (.mov (.t 1)), qo 10 (.call p.pairset_DropV [(.t 8), (.t 9)]), qo 11 (.mov (.t 2)), qo 12 (.call p.pairset_DropL [(.t 10), (.t 11)]), qo 7 (.asg (.t 12))]
def transfer_Define_c1 (p : Nums) : IC := (.region (transfer_Define_o1 p) [])
@[simp] theorem transfer_Define_c1_eq {P m Q st} {p : Nums} : AW P m (transfer_Define_c1 p) Q st ↔ AW P m (.region (transfer_Define_o1 p) []) Q st := Iff.rfl
@[simp] def transfer_Define_o2 (p : Nums) : List IOp := [qo 13 (.mov (.t 7)), qo 14 (.mov (.t 1)), qo 15 (.mov (.t 2)), qo 16 (.build [(zi 0), (zi 0)] [(0, 1, (.t 14)), (1, 1, (.t 15))]), qo 17 (.call p.pairset_Add [(.t 13), (.t 16)]), qo 6 (.asg (.t 17))]
def transfer_Define_c2 (p : Nums) : IC := (.region (transfer_Define_o2 p) [])
@[simp] theorem transfer_Define_c2_eq {P m Q st} {p : Nums} : AW P m (transfer_Define_c2 p) Q st ↔ AW P m (.region (transfer_Define_o2 p) []) Q st := Iff.rfl
def ic_transfer_Define (p : Nums) : IC := (.seq (.region [⟨(some 6), (.asg (.c .nils)), none, false⟩] []) (.seq (transfer_Define_c1 p) (.seq (transfer_Define_c2 p) .ret)))
@[simp] def ref12_Define_o1 (p : Nums) : List IOp := [qo 9 (.mov (.t 1)), qo 10 (.mov (.t 2)), qo 11 (.build [(zi 0), (zi 0)] [(0, 1, (.t 9)), (1, 1, (.t 10))]), qo 12 (.bslice 2 1 [(.int .i64 0), (.int .i64 0)] [(0, (.t 11))]), qo 7 (.asg (.t 12))]
def ref12_Define_c1 (p : Nums) : IC := (.region (ref12_Define_o1 p) [])
@[simp] theorem ref12_Define_c1_eq {P m Q st} {p : Nums} : AW P m (ref12_Define_c1 p) Q st ↔ AW P m (.region (ref12_Define_o1 p) []) Q st := Iff.rfl
@[simp] def ref12_Define_o2 (p : Nums) : List IOp := [qo 13 (.mov (.t 8)), qo 14 (.mov (.t 0)), qo 15 (.len (.t 14)), qo 16 (.bin .lss (.t 13) (.t 15))]
def ref12_Define_c2 (p : Nums) : IC := (.region (ref12_Define_o2 p) [])
@[simp] theorem ref12_Define_c2_eq {P m Q st} {p : Nums} : AW P m (ref12_Define_c2 p) Q st ↔ AW P m (.region (ref12_Define_o2 p) []) Q st := Iff.rfl
@[simp] def ref12_Define_o3 (p : Nums) : List IOp := [qo 19 (.mov (.t 0)), qo 20 (.mov (.t 8)), qo 21 (.iaddr 2 (.t 19) (.t 20)), qo 22 (.faddr 0 (.t 21)), qo 23 (.load none (.t 22)), qo 24 (.mov (.t 1)), qo 25 (.bin .neq (.t 23) (.t 24)), qo 26 (.mov (.t 25)), ⟨(some 27), (.mov (.t 0)), (some (26, true)), false⟩, ⟨(some 28), (.mov (.t 8)), (some (26, true)), false⟩, ⟨(some 29), (.iaddr 2 (.t 27) (.t 28)), (some (26, true)), false⟩, ⟨(some 30), (.faddr 1 (.t 29)), (some (26, true)), false⟩, ⟨(some 31), (.load none (.t 30)), (some (26, true)), false⟩, ⟨(some 32), (.mov (.t 2)), (some (26, true)), false⟩, ⟨(some 33), (.bin .neq (.t 31) (.t 32)), (some (26, true)), false⟩, qo 34 (.pick (.t 26) (.t 33) (.c (.d (.bool false))))]
def ref12_Define_c3 (p : Nums) : IC := (.region (ref12_Define_o3 p) [])
@[simp] theorem ref12_Define_c3_eq {P m Q st} {p : Nums} : AW P m (ref12_Define_c3 p) Q st ↔ AW P m (.region (ref12_Define_o3 p) []) Q st := Iff.rfl
@[simp] def ref12_Define_o4 (p : Nums) : List IOp := [qo 35 (.mov (.t 7)), qo 36 (.mov (.t 0)), qo 37 (.mov (.t 8)), qo 38 (.iaddr 2 (.t 36) (.t 37)), qo 39 (.load (some 2) (.t 38)), qo 40 (.call p.ref11_Add [(.t 35), (.t 39)]), qo 7 (.asg (.t 40))]
def ref12_Define_c4 (p : Nums) : IC := (.region (ref12_Define_o4 p) [])
@[simp] theorem ref12_Define_c4_eq {P m Q st} {p : Nums} : AW P m (ref12_Define_c4 p) Q st ↔ AW P m (.region (ref12_Define_o4 p) []) Q st := Iff.rfl
def ref12_Define_c5 (p : Nums) : IC := (.seq (ref12_Define_c3 p) (.cond (.t 34) (ref12_Define_c4 p) .skip))
@[simp] theorem ref12_Define_c5_eq {P m Q st} {p : Nums} : AW P m (ref12_Define_c5 p) Q st ↔ AW P m (.seq (ref12_Define_c3 p) (.cond (.t 34) (ref12_Define_c4 p) .skip)) Q st := Iff.rfl
@[simp] def ref12_Define_o6 (p : Nums) : List IOp := [qo 17 (.mov (.t 8)), qo 18 (.bin .add (.t 17) (ci 1)), qo 8 (.asg (.t 18))]
def ref12_Define_c6 (p : Nums) : IC := (.region (ref12_Define_o6 p) [])
@[simp] theorem ref12_Define_c6_eq {P m Q st} {p : Nums} : AW P m (ref12_Define_c6 p) Q st ↔ AW P m (.region (ref12_Define_o6 p) []) Q st := Iff.rfl
def ref12_Define_c7 (p : Nums) : IC := (.seq (.seq (ref12_Define_c2 p) (.cond (.t 16) .skip (.exit 0))) (.seq (.block 1 (ref12_Define_c5 p)) (ref12_Define_c6 p)))
@[simp] theorem ref12_Define_c7_eq {P m Q st} {p : Nums} : AW P m (ref12_Define_c7 p) Q st ↔ AW P m (.seq (.seq (ref12_Define_c2 p) (.cond (.t 16) .skip (.exit 0))) (.seq (.block 1 (ref12_Define_c5 p)) (ref12_Define_c6 p))) Q st := Iff.rfl
def ic_ref12_Define (p : Nums) : IC := (.seq (.region [⟨(some 6), (.asg (.c .nils)), none, false⟩] []) (.seq (ref12_Define_c1 p) (.seq (.seq (.region [⟨(some 8), (.asg (.c (.d (.int .i64 0)))), none, false⟩] []) (.block 0 (.loop (ref12_Define_c7 p)))) (.seq (.region [⟨(some 41), (.mov (.t 7)), none, false⟩, ⟨(some 6), (.asg (.t 41)), none, false⟩] []) .ret))))
@[simp] def law14_awake_o1 (p : Nums) : List IOp := [qo 7 (.build [(zi 0), (zi 0), (zi 0), (zi 0), (zi 0)] [(0, 1, (ci 17))]), qo 8 (.bslice 5 1 [(.int .i64 0), (.int .i64 0), (.int .i64 0), (.int .i64 0), (.int .i64 0)] [(0, (.t 7))]), qo 9 (.build [(zi 0), (zi 0), (zi 0), (zi 0)] [(0, 1, (ci 1))]), qo 10 (.build [.nils, (zi 0), (zi 0), (zi 0), (zi 0)] [(0, 1, (.t 8)), (1, 4, (.t 9))]), qo 1 (.alloc [.nils, (zi 0), (zi 0), (zi 0), (zi 0)]), qn (.store 5 (.t 1) (.t 10))]
def law14_awake_c1 (p : Nums) : IC := (.region (law14_awake_o1 p) [])
@[simp] theorem law14_awake_c1_eq {P m Q st} {p : Nums} : AW P m (law14_awake_c1 p) Q st ↔ AW P m (.region (law14_awake_o1 p) []) Q st := Iff.rfl
@[simp] def law14_awake_o2 (p : Nums) : List IOp := [qo 11 (.build [(zi 0), (zi 0), (zi 0), (zi 0), (zi 0), (zi 0), (zi 0)] [(0, 1, (ci 18)), (5, 1, (ci 2)), (6, 1, (ci 1))]), qo 12 (.build [(zi 0), (zi 0), (zi 0), (zi 0), (zi 0), (zi 0), (zi 0)] [(0, 1, (ci 17)), (2, 1, (ci 1))]), qo 13 (.bslice 7 2 [(.int .i64 0), (.int .i64 0), (.int .i64 0), (.int .i64 0), (.int .i64 0), (.int .i64 0), (.int .i64 0)] [(0, (.t 11)), (1, (.t 12))]), qo 14 (.build [(zi 0), (zi 0), (zi 0), (zi 0)] [(0, 1, (ci 1))]), qo 15 (.build [.nils, (zi 0), (zi 0), (zi 0), (zi 0)] [(0, 1, (.t 13)), (1, 4, (.t 14))]), qo 2 (.alloc [.nils, (zi 0), (zi 0), (zi 0), (zi 0)]), qn (.store 5 (.t 2) (.t 15))]
def law14_awake_c2 (p : Nums) : IC := (.region (law14_awake_o2 p) [])
@[simp] theorem law14_awake_c2_eq {P m Q st} {p : Nums} : AW P m (law14_awake_c2 p) Q st ↔ AW P m (.region (law14_awake_o2 p) []) Q st := Iff.rfl
@[simp] def law14_awake_o3 (p : Nums) : List IOp := [qo 16 (.build [(zi 0), (zi 0), (zi 0), (zi 0), (zi 0), (zi 0), (zi 0)] [(0, 1, (ci 17)), (2, 1, (ci 1))]), qo 17 (.bslice 7 1 [(.int .i64 0), (.int .i64 0), (.int .i64 0), (.int .i64 0), (.int .i64 0), (.int .i64 0), (.int .i64 0)] [(0, (.t 16))]), qo 18 (.build [(zi 0), (zi 0), (zi 0), (zi 0)] [(0, 1, (ci 1))]), qo 19 (.build [.nils, (zi 0), (zi 0), (zi 0), (zi 0)] [(0, 1, (.t 17)), (1, 4, (.t 18))]), qo 3 (.alloc [.nils, (zi 0), (zi 0), (zi 0), (zi 0)]), qn (.store 5 (.t 3) (.t 19))]
def law14_awake_c3 (p : Nums) : IC := (.region (law14_awake_o3 p) [])
@[simp] theorem law14_awake_c3_eq {P m Q st} {p : Nums} : AW P m (law14_awake_c3 p) Q st ↔ AW P m (.region (law14_awake_o3 p) []) Q st := Iff.rfl
@[simp] def law14_awake_o4 (p : Nums) : List IOp := [qo 20 (.load (some 5) (.t 1)), qo 21 (.load (some 5) (.t 2)), qo 22 (.build [(zi 0), (zi 0)] [(0, 1, (ci 0)), (1, 1, (ci 1))]), qo 23 (.bslice 2 1 [(.int .i64 0), (.int .i64 0)] [(0, (.t 22))]), qo 24 (.call p.blockcheck_Check [(.t 20), (.t 21), (.t 23), (ci 9)]), qo 4 (.alloc [.nils, (zi 0), (zi 0), (zi 0), (zi 0)]), qn (.store 5 (.t 4) (.t 24))]
def law14_awake_c4 (p : Nums) : IC := (.region (law14_awake_o4 p) [])
@[simp] theorem law14_awake_c4_eq {P m Q st} {p : Nums} : AW P m (law14_awake_c4 p) Q st ↔ AW P m (.region (law14_awake_o4 p) []) Q st := Iff.rfl
@[simp] def law14_awake_o5 (p : Nums) : List IOp := [qo 25 (.load (some 5) (.t 1)), qo 26 (.load (some 5) (.t 3)), qo 27 (.build [(zi 0), (zi 0)] [(0, 1, (ci 0)), (1, 1, (ci 1))]), qo 28 (.bslice 2 1 [(.int .i64 0), (.int .i64 0)] [(0, (.t 27))]), qo 29 (.call p.blockcheck_Check [(.t 25), (.t 26), (.t 28), (ci 9)]), qo 5 (.alloc [.nils, (zi 0), (zi 0), (zi 0), (zi 0)]), qn (.store 5 (.t 5) (.t 29))]
def law14_awake_c5 (p : Nums) : IC := (.region (law14_awake_o5 p) [])
@[simp] theorem law14_awake_c5_eq {P m Q st} {p : Nums} : AW P m (law14_awake_c5 p) Q st ↔ AW P m (.region (law14_awake_o5 p) []) Q st := Iff.rfl
@[simp] def law14_awake_o6 (p : Nums) : List IOp := [qo 30 (.load (some 5) (.t 1)), qo 31 (.load (some 5) (.t 2)), qo 32 (.build [(zi 0), (zi 0)] [(0, 1, (ci 0)), (1, 1, (ci 1))]), qo 33 (.bslice 2 1 [(.int .i64 0), (.int .i64 0)] [(0, (.t 32))]), qo 34 (.call p.blockcheck_Check [(.t 30), (.t 31), (.t 33), (ci 1)]), qo 6 (.alloc [.nils, (zi 0), (zi 0), (zi 0), (zi 0)]), qn (.store 5 (.t 6) (.t 34))]
def law14_awake_c6 (p : Nums) : IC := (.region (law14_awake_o6 p) [])
@[simp] theorem law14_awake_c6_eq {P m Q st} {p : Nums} : AW P m (law14_awake_c6 p) Q st ↔ AW P m (.region (law14_awake_o6 p) []) Q st := Iff.rfl
@[simp] def law14_awake_o7 (p : Nums) : List IOp := [qo 35 (.faddr 1 (.t 4)), qo 36 (.load none (.t 35)), qo 37 (.bin .eql (.t 36) (ci 0)), qo 38 (.mov (.t 37)), ⟨(some 39), (.faddr 0 (.t 4)), (some (38, true)), false⟩, ⟨(some 40), (.load none (.t 39)), (some (38, true)), false⟩, ⟨(some 41), (.build [(zi 0), (zi 0)] [(0, 1, (ci 0)), (1, 1, (ci 1))]), (some (38, true)), false⟩, ⟨(some 42), (.build [(zi 0), (zi 0)] [(0, 1, (ci 0)), (1, 1, (ci 2))]), (some (38, true)), false⟩, ⟨(some 43), (.bslice 2 2 [(.int .i64 0), (.int .i64 0)] [(0, (.t 41)), (1, (.t 42))]), (some (38, true)), false⟩, ⟨(some 44), (.call p.ref11_Same [(.t 40), (.t 43)]), (some (38, true)), false⟩, qo 45 (.pick (.t 38) (.t 44) (.c (.d (.bool false)))), qo 46 (.mov (.t 45)), ⟨(some 47), (.faddr 2 (.t 4)), (some (46, true)), false⟩, ⟨(some 48), (.load none (.t 47)), (some (46, true)), false⟩, ⟨(some 49), (.bin .eql (.t 48) (ci 2)), (some (46, true)), false⟩, qo 50 (.pick (.t 46) (.t 49) (.c (.d (.bool false)))), qo 51 (.mov (.t 50)), ⟨(some 52), (.faddr 3 (.t 4)), (some (51, true)), false⟩, ⟨(some 53), (.load none (.t 52)), (some (51, true)), false⟩, ⟨(some 54), (.bin .eql (.t 53) (ci 5)), (some (51, true)), false⟩, qo 55 (.pick (.t 51) (.t 54) (.c (.d (.bool false)))), qo 56 (.mov (.t 55)), ⟨(some 57), (.faddr 4 (.t 4)), (some (56, true)), false⟩, ⟨(some 58), (.load none (.t 57)), (some (56, true)), false⟩, ⟨(some 59), (.bin .eql (.t 58) (ci 2)), (some (56, true)), false⟩, qo 60 (.pick (.t 56) (.t 59) (.c (.d (.bool false)))), qo 61 (.mov (.t 60)), ⟨(some 62), (.faddr 1 (.t 5)), (some (61, true)), false⟩, ⟨(some 63), (.load none (.t 62)), (some (61, true)), false⟩, ⟨(some 64), (.bin .eql (.t 63) (ci 21)), (some (61, true)), false⟩, qo 65 (.pick (.t 61) (.t 64) (.c (.d (.bool false)))), qo 66 (.mov (.t 65)), ⟨(some 67), (.faddr 2 (.t 5)), (some (66, true)), false⟩, ⟨(some 68), (.load none (.t 67)), (some (66, true)), false⟩, ⟨(some 69), (.bin .eql (.t 68) (ci 0)), (some (66, true)), false⟩, qo 70 (.pick (.t 66) (.t 69) (.c (.d (.bool false)))), qo 71 (.mov (.t 70)), ⟨(some 72), (.faddr 0 (.t 5)), (some (71, true)), false⟩, ⟨(some 73), (.load none (.t 72)), (some (71, true)), false⟩, ⟨(some 74), (.len (.t 73)), (some (71, true)), false⟩, ⟨(some 75), (.bin .eql (.t 74) (ci 0)), (some (71, true)), false⟩, qo 76 (.pick (.t 71) (.t 75) (.c (.d (.bool false)))), qo 77 (.mov (.t 76)), ⟨(some 78), (.faddr 1 (.t 6)), (some (77, true)), false⟩, ⟨(some 79), (.load none (.t 78)), (some (77, true)), false⟩, ⟨(some 80), (.bin .eql (.t 79) (ci 24)), (some (77, true)), false⟩, qo 81 (.pick (.t 77) (.t 80) (.c (.d (.bool false)))), qo 82 (.mov (.t 81)), ⟨(some 83), (.faddr 4 (.t 6)), (some (82, true)), false⟩, ⟨(some 84), (.load none (.t 83)), (some (82, true)), false⟩, ⟨(some 85), (.bin .eql (.t 84) (ci 2)), (some (82, true)), false⟩, qo 86 (.pick (.t 82) (.t 85) (.c (.d (.bool false)))), qo 0 (.asg (.t 86))]
def law14_awake_c7 (p : Nums) : IC := (.region (law14_awake_o7 p) [])
@[simp] theorem law14_awake_c7_eq {P m Q st} {p : Nums} : AW P m (law14_awake_c7 p) Q st ↔ AW P m (.region (law14_awake_o7 p) []) Q st := Iff.rfl
def ic_law14_awake (p : Nums) : IC := (.seq (.region [⟨(some 0), (.asg (.c (.d (.bool false)))), none, false⟩] []) (.seq (law14_awake_c1 p) (.seq (law14_awake_c2 p) (.seq (law14_awake_c3 p) (.seq (law14_awake_c4 p) (.seq (law14_awake_c5 p) (.seq (law14_awake_c6 p) (.seq (law14_awake_c7 p) .ret))))))))
@[simp] def law14_right_o1 (p : Nums) : List IOp := [qo 4 (.box (.t 0)), qo 5 (.box (.t 1)), qo 8 (.asg (.c (.d (.bool false))))]
def law14_right_c1 (p : Nums) : IC := (.region (law14_right_o1 p) [])
@[simp] theorem law14_right_c1_eq {P m Q st} {p : Nums} : AW P m (law14_right_c1 p) Q st ↔ AW P m (.region (law14_right_o1 p) []) Q st := Iff.rfl
@[simp] def law14_right_o2 (p : Nums) : List IOp := [qo 13 (.faddr 0 (.t 4)), qo 14 (.load none (.t 13)), qo 15 (.len (.t 14)), qo 16 (.bin .gtr (.t 15) (ci 60)), qo 17 (.mov (.t 16)), ⟨(some 18), (.faddr 0 (.t 5)), (some (17, false)), false⟩, ⟨(some 19), (.load none (.t 18)), (some (17, false)), false⟩, ⟨(some 20), (.len (.t 19)), (some (17, false)), false⟩, ⟨(some 21), (.bin .gtr (.t 20) (ci 200)), (some (17, false)), false⟩, qo 22 (.pick (.t 17) (.c (.d (.bool true))) (.t 21)), qo 23 (.mov (.t 22)), ⟨(some 24), (.mov (.t 2)), (some (23, false)), false⟩, ⟨(some 25), (.bin .gtr (.t 24) (ci 20)), (some (23, false)), false⟩, qo 26 (.pick (.t 23) (.c (.d (.bool true))) (.t 25)), qo 27 (.mov (.t 26)), ⟨(some 28), (.mov (.t 3)), (some (27, false)), false⟩, ⟨(some 29), (.bin .gtr (.t 28) (ci 20)), (some (27, false)), false⟩, qo 30 (.pick (.t 27) (.c (.d (.bool true))) (.t 29)), qo 31 (.mov (.t 30)), ⟨(some 32), (.faddr 1 (.t 4)), (some (31, false)), false⟩, ⟨(some 33), (.faddr 2 (.t 32)), (some (31, false)), false⟩, ⟨(some 34), (.load none (.t 33)), (some (31, false)), false⟩, ⟨(some 35), (.bin .gtr (.t 34) (ci 30)), (some (31, false)), false⟩, qo 36 (.pick (.t 31) (.c (.d (.bool true))) (.t 35)), qo 37 (.mov (.t 36)), ⟨(some 38), (.faddr 1 (.t 4)), (some (37, false)), false⟩, ⟨(some 39), (.faddr 3 (.t 38)), (some (37, false)), false⟩, ⟨(some 40), (.load none (.t 39)), (some (37, false)), false⟩, ⟨(some 41), (.bin .gtr (.t 40) (ci 30)), (some (37, false)), false⟩, qo 42 (.pick (.t 37) (.c (.d (.bool true))) (.t 41)), qo 43 (.mov (.t 42)), ⟨(some 44), (.faddr 1 (.t 5)), (some (43, false)), false⟩, ⟨(some 45), (.faddr 2 (.t 44)), (some (43, false)), false⟩, ⟨(some 46), (.load none (.t 45)), (some (43, false)), false⟩, ⟨(some 47), (.bin .gtr (.t 46) (ci 30)), (some (43, false)), false⟩, qo 48 (.pick (.t 43) (.c (.d (.bool true))) (.t 47)), qo 49 (.mov (.t 48)), ⟨(some 50), (.faddr 1 (.t 5)), (some (49, false)), false⟩, ⟨(some 51), (.faddr 3 (.t 50)), (some (49, false)), false⟩, ⟨(some 52), (.load none (.t 51)), (some (49, false)), false⟩, ⟨(some 53), (.bin .gtr (.t 52) (ci 30)), (some (49, false)), false⟩, qo 54 (.pick (.t 49) (.c (.d (.bool true))) (.t 53)), qo 55 (.mov (.t 54)), ⟨(some 56), (.faddr 1 (.t 4)), (some (55, false)), false⟩, ⟨(some 57), (.faddr 2 (.t 56)), (some (55, false)), false⟩, ⟨(some 58), (.load none (.t 57)), (some (55, false)), false⟩, ⟨(some 59), (.bin .lss (.t 58) (ci 0)), (some (55, false)), false⟩, qo 60 (.pick (.t 55) (.c (.d (.bool true))) (.t 59)), qo 61 (.mov (.t 60)), ⟨(some 62), (.faddr 1 (.t 4)), (some (61, false)), false⟩, ⟨(some 63), (.faddr 3 (.t 62)), (some (61, false)), false⟩, ⟨(some 64), (.load none (.t 63)), (some (61, false)), false⟩, ⟨(some 65), (.bin .lss (.t 64) (ci 0)), (some (61, false)), false⟩, qo 66 (.pick (.t 61) (.c (.d (.bool true))) (.t 65))]
def law14_right_c2 (p : Nums) : IC := (.region (law14_right_o2 p) [])
@[simp] theorem law14_right_c2_eq {P m Q st} {p : Nums} : AW P m (law14_right_c2 p) Q st ↔ AW P m (.region (law14_right_o2 p) []) Q st := Iff.rfl
def law14_right_c3 (p : Nums) : IC := (.seq (.region [⟨(some 8), (.asg (.c (.d (.bool false)))), none, false⟩] []) .ret)
@[simp] theorem law14_right_c3_eq {P m Q st} {p : Nums} : AW P m (law14_right_c3 p) Q st ↔ AW P m (.seq (.region [⟨(some 8), (.asg (.c (.d (.bool false)))), none, false⟩] []) .ret) Q st := Iff.rfl
@[simp] def law14_right_o4 (p : Nums) : List IOp := [qo 67 (.mkslice 5 56 [(.sl []), (.int .i64 0), (.int .i64 0), (.int .i64 0), (.int .i64 0)] (ci 31) (ci 31)), qo 9 (.asg (.t 67))]
def law14_right_c4 (p : Nums) : IC := (.region (law14_right_o4 p) [])
@[simp] theorem law14_right_c4_eq {P m Q st} {p : Nums} : AW P m (law14_right_c4 p) Q st ↔ AW P m (.region (law14_right_o4 p) []) Q st := Iff.rfl
@[simp] def law14_right_o5 (p : Nums) : List IOp := [qo 72 (.mov (.t 9)), qo 73 (.mov (.t 10)), qo 74 (.build [(zi 0), (zi 0), (zi 0), (zi 0)] [(0, 1, (ci 3))]), qo 75 (.build [.nils, (zi 0), (zi 0), (zi 0), (zi 0)] [(1, 4, (.t 74))]), qo 76 (.iaddr 5 (.t 72) (.t 73)), qn (.store 5 (.t 76) (.t 75))]
def law14_right_c5 (p : Nums) : IC := (.region (law14_right_o5 p) [])
@[simp] theorem law14_right_c5_eq {P m Q st} {p : Nums} : AW P m (law14_right_c5 p) Q st ↔ AW P m (.region (law14_right_o5 p) []) Q st := Iff.rfl
@[simp] def law14_right_o6 (p : Nums) : List IOp := [qo 70 (.mov (.t 10)), qo 71 (.bin .add (.t 70) (ci 1)), qo 10 (.asg (.t 71))]
def law14_right_c6 (p : Nums) : IC := (.region (law14_right_o6 p) [])
@[simp] theorem law14_right_c6_eq {P m Q st} {p : Nums} : AW P m (law14_right_c6 p) Q st ↔ AW P m (.region (law14_right_o6 p) []) Q st := Iff.rfl
def law14_right_c7 (p : Nums) : IC := (.seq (.seq (.region [⟨(some 68), (.mov (.t 10)), none, false⟩, ⟨(some 69), (.bin .lss (.t 68) (.c (.d (.int .i64 31)))), none, false⟩] []) (.cond (.t 69) .skip (.exit 0))) (.seq (.block 1 (law14_right_c5 p)) (law14_right_c6 p)))
@[simp] theorem law14_right_c7_eq {P m Q st} {p : Nums} : AW P m (law14_right_c7 p) Q st ↔ AW P m (.seq (.seq (.region [⟨(some 68), (.mov (.t 10)), none, false⟩, ⟨(some 69), (.bin .lss (.t 68) (.c (.d (.int .i64 31)))), none, false⟩] []) (.cond (.t 69) .skip (.exit 0))) (.seq (.block 1 (law14_right_c5 p)) (law14_right_c6 p))) Q st := Iff.rfl
@[simp] def law14_right_o8 (p : Nums) : List IOp := [qo 77 (.mov (.t 9)), qo 78 (.load (some 5) (.t 4)), qo 79 (.iaddr 5 (.t 77) (ci 0)), qn (.store 5 (.t 79) (.t 78))]
def law14_right_c8 (p : Nums) : IC := (.region (law14_right_o8 p) [])
@[simp] theorem law14_right_c8_eq {P m Q st} {p : Nums} : AW P m (law14_right_c8 p) Q st ↔ AW P m (.region (law14_right_o8 p) []) Q st := Iff.rfl
@[simp] def law14_right_o9 (p : Nums) : List IOp := [qo 80 (.mov (.t 9)), qo 81 (.build [(zi 0), (zi 0), .nils] [(1, 1, (ci 20)), (2, 1, (.t 80))]), qo 82 (.call p.ref07_Check [(.t 81)]), qo 83 (.bin .neq (.t 82) (ci 0))]
def law14_right_c9 (p : Nums) : IC := (.region (law14_right_o9 p) [])
@[simp] theorem law14_right_c9_eq {P m Q st} {p : Nums} : AW P m (law14_right_c9 p) Q st ↔ AW P m (.region (law14_right_o9 p) []) Q st := Iff.rfl
def law14_right_c10 (p : Nums) : IC := (.seq (.region [⟨(some 8), (.asg (.c (.d (.bool false)))), none, false⟩] []) .ret)
@[simp] theorem law14_right_c10_eq {P m Q st} {p : Nums} : AW P m (law14_right_c10 p) Q st ↔ AW P m (.seq (.region [⟨(some 8), (.asg (.c (.d (.bool false)))), none, false⟩] []) .ret) Q st := Iff.rfl
@[simp] def law14_right_o11 (p : Nums) : List IOp := [qo 84 (.mkslice 5 56 [(.sl []), (.int .i64 0), (.int .i64 0), (.int .i64 0), (.int .i64 0)] (ci 31) (ci 31)), qo 11 (.asg (.t 84))]
def law14_right_c11 (p : Nums) : IC := (.region (law14_right_o11 p) [])
@[simp] theorem law14_right_c11_eq {P m Q st} {p : Nums} : AW P m (law14_right_c11 p) Q st ↔ AW P m (.region (law14_right_o11 p) []) Q st := Iff.rfl
@[simp] def law14_right_o12 (p : Nums) : List IOp := [qo 89 (.mov (.t 11)), qo 90 (.mov (.t 12)), qo 91 (.build [(zi 0), (zi 0), (zi 0), (zi 0)] [(0, 1, (ci 3))]), qo 92 (.build [.nils, (zi 0), (zi 0), (zi 0), (zi 0)] [(1, 4, (.t 91))]), qo 93 (.iaddr 5 (.t 89) (.t 90)), qn (.store 5 (.t 93) (.t 92))]
def law14_right_c12 (p : Nums) : IC := (.region (law14_right_o12 p) [])
@[simp] theorem law14_right_c12_eq {P m Q st} {p : Nums} : AW P m (law14_right_c12 p) Q st ↔ AW P m (.region (law14_right_o12 p) []) Q st := Iff.rfl
@[simp] def law14_right_o13 (p : Nums) : List IOp := [qo 87 (.mov (.t 12)), qo 88 (.bin .add (.t 87) (ci 1)), qo 12 (.asg (.t 88))]
def law14_right_c13 (p : Nums) : IC := (.region (law14_right_o13 p) [])
@[simp] theorem law14_right_c13_eq {P m Q st} {p : Nums} : AW P m (law14_right_c13 p) Q st ↔ AW P m (.region (law14_right_o13 p) []) Q st := Iff.rfl
def law14_right_c14 (p : Nums) : IC := (.seq (.seq (.region [⟨(some 85), (.mov (.t 12)), none, false⟩, ⟨(some 86), (.bin .lss (.t 85) (.c (.d (.int .i64 31)))), none, false⟩] []) (.cond (.t 86) .skip (.exit 2))) (.seq (.block 3 (law14_right_c12 p)) (law14_right_c13 p)))
@[simp] theorem law14_right_c14_eq {P m Q st} {p : Nums} : AW P m (law14_right_c14 p) Q st ↔ AW P m (.seq (.seq (.region [⟨(some 85), (.mov (.t 12)), none, false⟩, ⟨(some 86), (.bin .lss (.t 85) (.c (.d (.int .i64 31)))), none, false⟩] []) (.cond (.t 86) .skip (.exit 2))) (.seq (.block 3 (law14_right_c12 p)) (law14_right_c13 p))) Q st := Iff.rfl
@[simp] def law14_right_o15 (p : Nums) : List IOp := [qo 94 (.mov (.t 11)), qo 95 (.load (some 5) (.t 5)), qo 96 (.iaddr 5 (.t 94) (ci 0)), qn (.store 5 (.t 96) (.t 95))]
def law14_right_c15 (p : Nums) : IC := (.region (law14_right_o15 p) [])
@[simp] theorem law14_right_c15_eq {P m Q st} {p : Nums} : AW P m (law14_right_c15 p) Q st ↔ AW P m (.region (law14_right_o15 p) []) Q st := Iff.rfl
@[simp] def law14_right_o16 (p : Nums) : List IOp := [qo 97 (.mov (.t 2)), qo 98 (.mov (.t 3)), qo 99 (.mov (.t 11)), qo 100 (.build [(zi 0), (zi 0), (zi 0), .nils] [(1, 1, (.t 97)), (2, 1, (.t 98)), (3, 1, (.t 99))]), qo 101 (.call p.ref08_Check [(.t 100)]), qo 102 (.bin .eql (.t 101) (ci 0)), qo 8 (.asg (.t 102))]
def law14_right_c16 (p : Nums) : IC := (.region (law14_right_o16 p) [])
@[simp] theorem law14_right_c16_eq {P m Q st} {p : Nums} : AW P m (law14_right_c16 p) Q st ↔ AW P m (.region (law14_right_o16 p) []) Q st := Iff.rfl
def law14_right_m17 (p : Nums) : IC := (.seq (.seq (law14_right_c15 p) .cut) (.seq (law14_right_c16 p) .ret))
theorem law14_right_m17_eq {P m Q st} {p : Nums} : AW P m (law14_right_m17 p) Q st ↔ AW P m (.seq (.seq (law14_right_c15 p) .cut) (.seq (law14_right_c16 p) .ret)) Q st := Iff.rfl
def law14_right_m18 (p : Nums) : IC := (.seq (.seq (law14_right_c8 p) .cut) (.seq (.seq (law14_right_c9 p) (.cond (.t 83) (law14_right_c10 p) .skip)) (.seq (law14_right_c11 p) (.seq (.seq (.region [⟨(some 12), (.asg (.c (.d (.int .i64 0)))), none, false⟩] []) (.block 2 (.loop (law14_right_c14 p)))) (law14_right_m17 p)))))
theorem law14_right_m18_eq {P m Q st} {p : Nums} : AW P m (law14_right_m18 p) Q st ↔ AW P m (.seq (.seq (law14_right_c8 p) .cut) (.seq (.seq (law14_right_c9 p) (.cond (.t 83) (law14_right_c10 p) .skip)) (.seq (law14_right_c11 p) (.seq (.seq (.region [⟨(some 12), (.asg (.c (.d (.int .i64 0)))), none, false⟩] []) (.block 2 (.loop (law14_right_c14 p)))) (law14_right_m17 p))))) Q st := Iff.rfl
def ic_law14_right (p : Nums) : IC := (.seq (law14_right_c1 p) (.seq (.seq (law14_right_c2 p) (.cond (.t 66) (law14_right_c3 p) .skip)) (.seq (law14_right_c4 p) (.seq (.seq (.region [⟨(some 10), (.asg (.c (.d (.int .i64 0)))), none, false⟩] []) (.block 0 (.loop (law14_right_c7 p)))) (law14_right_m18 p)))))
@[simp] def ref14_Same_o1 (p : Nums) : List IOp := [qo 2 (.box (.t 0)), qo 3 (.box (.t 1)), qo 4 (.asg (.c (.d (.bool false))))]
def ref14_Same_c1 (p : Nums) : IC := (.region (ref14_Same_o1 p) [])
@[simp] theorem ref14_Same_c1_eq {P m Q st} {p : Nums} : AW P m (ref14_Same_c1 p) Q st ↔ AW P m (.region (ref14_Same_o1 p) []) Q st := Iff.rfl
@[simp] def ref14_Same_o2 (p : Nums) : List IOp := [qo 5 (.faddr 0 (.t 2)), qo 6 (.load none (.t 5)), qo 7 (.faddr 0 (.t 3)), qo 8 (.load none (.t 7)), qo 9 (.call p.ref11_Same [(.t 6), (.t 8)]), qo 10 (.mov (.t 9)), ⟨(some 11), (.faddr 1 (.t 2)), (some (10, true)), false⟩, ⟨(some 12), (.load none (.t 11)), (some (10, true)), false⟩, ⟨(some 13), (.faddr 1 (.t 3)), (some (10, true)), false⟩, ⟨(some 14), (.load none (.t 13)), (some (10, true)), false⟩, ⟨(some 15), (.bin .eql (.t 12) (.t 14)), (some (10, true)), false⟩, qo 16 (.pick (.t 10) (.t 15) (.c (.d (.bool false)))), qo 17 (.mov (.t 16)), ⟨(some 18), (.faddr 2 (.t 2)), (some (17, true)), false⟩, ⟨(some 19), (.load none (.t 18)), (some (17, true)), false⟩, ⟨(some 20), (.faddr 2 (.t 3)), (some (17, true)), false⟩, ⟨(some 21), (.load none (.t 20)), (some (17, true)), false⟩, ⟨(some 22), (.bin .eql (.t 19) (.t 21)), (some (17, true)), false⟩, qo 23 (.pick (.t 17) (.t 22) (.c (.d (.bool false)))), qo 24 (.mov (.t 23)), ⟨(some 25), (.faddr 3 (.t 2)), (some (24, true)), false⟩, ⟨(some 26), (.load none (.t 25)), (some (24, true)), false⟩, ⟨(some 27), (.faddr 3 (.t 3)), (some (24, true)), false⟩, ⟨(some 28), (.load none (.t 27)), (some (24, true)), false⟩, ⟨(some 29), (.bin .eql (.t 26) (.t 28)), (some (24, true)), false⟩, qo 30 (.pick (.t 24) (.t 29) (.c (.d (.bool false)))), qo 31 (.mov (.t 30)), ⟨(some 32), (.faddr 4 (.t 2)), (some (31, true)), false⟩, ⟨(some 33), (.load none (.t 32)), (some (31, true)), false⟩, ⟨(some 34), (.faddr 4 (.t 3)), (some (31, true)), false⟩, ⟨(some 35), (.load none (.t 34)), (some (31, true)), false⟩, ⟨(some 36), (.bin .eql (.t 33) (.t 35)), (some (31, true)), false⟩, qo 37 (.pick (.t 31) (.t 36) (.c (.d (.bool false)))), qo 4 (.asg (.t 37))]
def ref14_Same_c2 (p : Nums) : IC := (.region (ref14_Same_o2 p) [])
@[simp] theorem ref14_Same_c2_eq {P m Q st} {p : Nums} : AW P m (ref14_Same_c2 p) Q st ↔ AW P m (.region (ref14_Same_o2 p) []) Q st := Iff.rfl
def ic_ref14_Same (p : Nums) : IC := (.seq (ref14_Same_c1 p) (.seq (ref14_Same_c2 p) .ret))
@[simp] def law14_result_o1 (p : Nums) : List IOp := [qo 1 (.box (.t 0)), qo 2 (.alloc [.nils, (zi 0), (zi 0), (zi 0), (zi 0)])]
def law14_result_c1 (p : Nums) : IC := (.region (law14_result_o1 p) [])
@[simp] theorem law14_result_c1_eq {P m Q st} {p : Nums} : AW P m (law14_result_c1 p) Q st ↔ AW P m (.region (law14_result_o1 p) []) Q st := Iff.rfl
@[simp] def law14_result_o2 (p : Nums) : List IOp := [qo 3 (.faddr 0 (.t 1)), qo 4 (.load none (.t 3)), qo 5 (.faddr 1 (.t 1)), qo 6 (.load none (.t 5)), qo 7 (.faddr 2 (.t 1)), qo 8 (.load none (.t 7)), qo 9 (.faddr 3 (.t 1)), qo 10 (.load none (.t 9)), qo 11 (.faddr 4 (.t 1)), qo 12 (.load none (.t 11)), qo 13 (.build [.nils, (zi 0), (zi 0), (zi 0), (zi 0)] [(0, 1, (.t 4)), (1, 1, (.t 6)), (2, 1, (.t 8)), (3, 1, (.t 10)), (4, 1, (.t 12))]), qn (.store 5 (.t 2) (.t 13))]
def law14_result_c2 (p : Nums) : IC := (.region (law14_result_o2 p) [])
@[simp] theorem law14_result_c2_eq {P m Q st} {p : Nums} : AW P m (law14_result_c2 p) Q st ↔ AW P m (.region (law14_result_o2 p) []) Q st := Iff.rfl
def ic_law14_result (p : Nums) : IC := (.seq (law14_result_c1 p) (.seq (law14_result_c2 p) .ret))
@[simp] def blockcheck_Check_o1 (p : Nums) : List IOp := [qo 4 (.box (.t 0)), qo 5 (.box (.t 1)), qo 8 (.alloc [.nils, (zi 0), (zi 0), (zi 0), (zi 0)])]
def blockcheck_Check_c1 (p : Nums) : IC := (.region (blockcheck_Check_o1 p) [])
@[simp] theorem blockcheck_Check_c1_eq {P m Q st} {p : Nums} : AW P m (blockcheck_Check_c1 p) Q st ↔ AW P m (.region (blockcheck_Check_o1 p) []) Q st := Iff.rfl
@[simp] def blockcheck_Check_o2 (p : Nums) : List IOp := [qo 14 (.mov (.t 2)), qo 15 (.len (.t 14)), qo 16 (.mov (.t 3)), qo 17 (.bin .gtr (.t 15) (.t 16))]
def blockcheck_Check_c2 (p : Nums) : IC := (.region (blockcheck_Check_o2 p) [])
@[simp] theorem blockcheck_Check_c2_eq {P m Q st} {p : Nums} : AW P m (blockcheck_Check_c2 p) Q st ↔ AW P m (.region (blockcheck_Check_o2 p) []) Q st := Iff.rfl
@[simp] def blockcheck_Check_o3 (p : Nums) : List IOp := [qo 18 (.mov (.t 2)), qo 19 (.len (.t 18)), qo 20 (.build [.nils, (zi 0), (zi 0), (zi 0), (zi 0)] [(1, 1, (ci 24)), (4, 1, (.t 19))]), qn (.store 5 (.t 8) (.t 20))]
def blockcheck_Check_c3 (p : Nums) : IC := (.region (blockcheck_Check_o3 p) [])
@[simp] theorem blockcheck_Check_c3_eq {P m Q st} {p : Nums} : AW P m (blockcheck_Check_c3 p) Q st ↔ AW P m (.region (blockcheck_Check_o3 p) []) Q st := Iff.rfl
@[simp] def blockcheck_Check_o4 (p : Nums) : List IOp := [qo 22 (.faddr 0 (.t 4)), qo 23 (.load none (.t 22)), qo 24 (.faddr 0 (.t 5)), qo 25 (.load none (.t 24)), qo 26 (.call p.align_Code [(.t 23), (.t 25)]), qo 21 (.mov (.t 26)), qo 27 (.ext (.t 21) 0), qo 28 (.ext (.t 21) 1), qo 29 (.ext (.t 21) 2), qo 9 (.asg (.t 27)), qo 10 (.asg (.t 28)), qo 11 (.asg (.t 29))]
def blockcheck_Check_c4 (p : Nums) : IC := (.region (blockcheck_Check_o4 p) [])
@[simp] theorem blockcheck_Check_c4_eq {P m Q st} {p : Nums} : AW P m (blockcheck_Check_c4 p) Q st ↔ AW P m (.region (blockcheck_Check_o4 p) []) Q st := Iff.rfl
@[simp] def blockcheck_Check_o5 (p : Nums) : List IOp := [qo 30 (.mov (.t 11)), qo 31 (.bin .eql (.t 30) (ci 0)), qo 32 (.mov (.t 31)), ⟨(some 33), (.faddr 1 (.t 4)), (some (32, true)), false⟩, ⟨(some 34), (.load (some 4) (.t 33)), (some (32, true)), false⟩, ⟨(some 35), (.faddr 1 (.t 5)), (some (32, true)), false⟩, ⟨(some 36), (.load (some 4) (.t 35)), (some (32, true)), false⟩, ⟨(some 37), (.call p.align_Terms [(.t 34), (.t 36)]), (some (32, true)), false⟩, ⟨(some 38), (.un .not (.t 37)), (some (32, true)), false⟩, qo 39 (.pick (.t 32) (.t 38) (.c (.d (.bool false))))]
def blockcheck_Check_c5 (p : Nums) : IC := (.region (blockcheck_Check_o5 p) [])
@[simp] theorem blockcheck_Check_c5_eq {P m Q st} {p : Nums} : AW P m (blockcheck_Check_c5 p) Q st ↔ AW P m (.region (blockcheck_Check_o5 p) []) Q st := Iff.rfl
@[simp] def blockcheck_Check_o6 (p : Nums) : List IOp := [qo 11 (.asg (ci 20))]
def blockcheck_Check_c6 (p : Nums) : IC := (.region (blockcheck_Check_o6 p) [])
@[simp] theorem blockcheck_Check_c6_eq {P m Q st} {p : Nums} : AW P m (blockcheck_Check_c6 p) Q st ↔ AW P m (.region (blockcheck_Check_o6 p) []) Q st := Iff.rfl
@[simp] def blockcheck_Check_o7 (p : Nums) : List IOp := [qo 42 (.mov (.t 11)), qo 43 (.mov (.t 10)), qo 44 (.mov (.t 2)), qo 45 (.len (.t 44)), qo 46 (.build [.nils, (zi 0), (zi 0), (zi 0), (zi 0)] [(1, 1, (.t 42)), (2, 1, (.t 43)), (4, 1, (.t 45))]), qn (.store 5 (.t 8) (.t 46))]
def blockcheck_Check_c7 (p : Nums) : IC := (.region (blockcheck_Check_o7 p) [])
@[simp] theorem blockcheck_Check_c7_eq {P m Q st} {p : Nums} : AW P m (blockcheck_Check_c7 p) Q st ↔ AW P m (.region (blockcheck_Check_o7 p) []) Q st := Iff.rfl
@[simp] def blockcheck_Check_o8 (p : Nums) : List IOp := [qo 47 (.mov (.t 2)), qo 48 (.call p.pairset_Make [(.t 47)]), qo 49 (.mov (.t 3)), qo 50 (.mov (.t 2)), qo 51 (.len (.t 50)), qo 52 (.build [.nils, (zi 0), (zi 0), (zi 0)] [(0, 1, (.t 48)), (1, 1, (.t 49)), (3, 1, (.t 51))]), qo 53 (.box (.t 52)), qo 12 (.asg (.t 53))]
def blockcheck_Check_c8 (p : Nums) : IC := (.region (blockcheck_Check_o8 p) [])
@[simp] theorem blockcheck_Check_c8_eq {P m Q st} {p : Nums} : AW P m (blockcheck_Check_c8 p) Q st ↔ AW P m (.region (blockcheck_Check_o8 p) []) Q st := Iff.rfl
@[simp] def blockcheck_Check_o9 (p : Nums) : List IOp := [qo 55 (.mov (.t 12)), qo 56 (.load (some 5) (.t 4)), qo 57 (.load (some 5) (.t 5)), qo 58 (.mov (.t 9)), qo 59 (.call p.blockcheck_checker_run [(.t 55), (.t 56), (.t 57), (.t 58)]), qo 54 (.mov (.t 59)), qo 60 (.ext (.t 54) 0), qo 61 (.ext (.t 54) 1), qo 11 (.asg (.t 60)), qo 10 (.asg (.t 61))]
def blockcheck_Check_c9 (p : Nums) : IC := (.region (blockcheck_Check_o9 p) [])
@[simp] theorem blockcheck_Check_c9_eq {P m Q st} {p : Nums} : AW P m (blockcheck_Check_c9 p) Q st ↔ AW P m (.region (blockcheck_Check_o9 p) []) Q st := Iff.rfl
@[simp] def blockcheck_Check_o10 (p : Nums) : List IOp := [qp 62 (.mov (.t 11)), qp 63 (.mov (.t 10)), qp 64 (.mov (.t 12)), qp 65 (.nilck (.t 64)), qp 66 (.faddr 2 (.t 65)), qp 67 (.load none (.t 66)), qp 68 (.mov (.t 12)), qp 69 (.nilck (.t 68)), qp 70 (.faddr 3 (.t 69)), qp 71 (.load none (.t 70)), qp 72 (.build [.nils, (zi 0), (zi 0), (zi 0), (zi 0)] [(1, 1, (.t 62)), (2, 1, (.t 63)), (3, 1, (.t 67)), (4, 1, (.t 71))]), qp 13 (.alloc [.nils, (zi 0), (zi 0), (zi 0), (zi 0)]), qn (.store 5 (.t 13) (.t 72))]
def blockcheck_Check_c10 (p : Nums) : IC := (.region (blockcheck_Check_o10 p) [])
@[simp] theorem blockcheck_Check_c10_eq {P m Q st} {p : Nums} : AW P m (blockcheck_Check_c10 p) Q st ↔ AW P m (.region (blockcheck_Check_o10 p) []) Q st := Iff.rfl
@[simp] def blockcheck_Check_o11 (p : Nums) : List IOp := [qo 75 (.mov (.t 12)), qo 76 (.nilck (.t 75)), qo 77 (.faddr 0 (.t 76)), qo 78 (.load none (.t 77)), qo 79 (.faddr 0 (.t 13)), qn (.store 1 (.t 79) (.t 78))]
def blockcheck_Check_c11 (p : Nums) : IC := (.region (blockcheck_Check_o11 p) [])
@[simp] theorem blockcheck_Check_c11_eq {P m Q st} {p : Nums} : AW P m (blockcheck_Check_c11 p) Q st ↔ AW P m (.region (blockcheck_Check_o11 p) []) Q st := Iff.rfl
def ic_blockcheck_Check (p : Nums) : IC := (.seq (blockcheck_Check_c1 p) (.seq (.seq (blockcheck_Check_c2 p) (.cond (.t 17) (.seq (blockcheck_Check_c3 p) .ret) .skip)) (.seq (blockcheck_Check_c4 p) (.seq (.seq (blockcheck_Check_c5 p) (.cond (.t 39) (blockcheck_Check_c6 p) .skip)) (.seq (.seq (.region [⟨(some 40), (.mov (.t 11)), none, false⟩, ⟨(some 41), (.bin .neq (.t 40) (.c (.d (.int .i64 0)))), none, false⟩] []) (.cond (.t 41) (.seq (blockcheck_Check_c7 p) .ret) .skip)) (.seq (blockcheck_Check_c8 p) (.seq (blockcheck_Check_c9 p) (.seq (blockcheck_Check_c10 p) (.seq (.seq (.region [⟨(some 73), (.mov (.t 11)), none, false⟩, ⟨(some 74), (.bin .eql (.t 73) (.c (.d (.int .i64 0)))), none, false⟩] []) (.cond (.t 74) (blockcheck_Check_c11 p) .skip)) (.seq (.region [⟨(some 80), (.load (some 5) (.t 13)), none, false⟩, ⟨none, (.store 5 (.t 8) (.t 80)), none, false⟩] []) .ret))))))))))
@[simp] def ref14_Check_o1 (p : Nums) : List IOp := [qo 4 (.box (.t 0)), qo 5 (.box (.t 1)), qo 8 (.alloc [.nils, (zi 0), (zi 0), (zi 0), (zi 0)])]
def ref14_Check_c1 (p : Nums) : IC := (.region (ref14_Check_o1 p) [])
@[simp] theorem ref14_Check_c1_eq {P m Q st} {p : Nums} : AW P m (ref14_Check_c1 p) Q st ↔ AW P m (.region (ref14_Check_o1 p) []) Q st := Iff.rfl
@[simp] def ref14_Check_o2 (p : Nums) : List IOp := [qo 20 (.bslice 2 0 [(.int .i64 0), (.int .i64 0)] []), qo 21 (.mov (.t 2)), qo 22 (.app 2 16 (.t 20) (.t 21)), qo 23 (.mov (.t 2)), qo 24 (.len (.t 23)), qo 25 (.build [.nils, (zi 0), (zi 0), (zi 0), (zi 0)] [(0, 1, (.t 22)), (4, 1, (.t 24))]), qo 9 (.alloc [.nils, (zi 0), (zi 0), (zi 0), (zi 0)]), qn (.store 5 (.t 9) (.t 25))]
def ref14_Check_c2 (p : Nums) : IC := (.region (ref14_Check_o2 p) [])
@[simp] theorem ref14_Check_c2_eq {P m Q st} {p : Nums} : AW P m (ref14_Check_c2 p) Q st ↔ AW P m (.region (ref14_Check_o2 p) []) Q st := Iff.rfl
@[simp] def ref14_Check_o3 (p : Nums) : List IOp := [qo 26 (.mov (.t 2)), qo 27 (.len (.t 26)), qo 28 (.mov (.t 3)), qo 29 (.bin .gtr (.t 27) (.t 28))]
def ref14_Check_c3 (p : Nums) : IC := (.region (ref14_Check_o3 p) [])
@[simp] theorem ref14_Check_c3_eq {P m Q st} {p : Nums} : AW P m (ref14_Check_c3 p) Q st ↔ AW P m (.region (ref14_Check_o3 p) []) Q st := Iff.rfl
@[simp] def ref14_Check_o4 (p : Nums) : List IOp := [qo 30 (.load (some 5) (.t 9)), qo 31 (.call p.ref14_fail [(.t 30), (ci 24), (ci 0)]), qn (.store 5 (.t 8) (.t 31))]
def ref14_Check_c4 (p : Nums) : IC := (.region (ref14_Check_o4 p) [])
@[simp] theorem ref14_Check_c4_eq {P m Q st} {p : Nums} : AW P m (ref14_Check_c4 p) Q st ↔ AW P m (.region (ref14_Check_o4 p) []) Q st := Iff.rfl
@[simp] def ref14_Check_o5 (p : Nums) : List IOp := [qo 33 (.faddr 0 (.t 4)), qo 34 (.load none (.t 33)), qo 35 (.faddr 0 (.t 5)), qo 36 (.load none (.t 35)), qo 37 (.call p.ref13_Code [(.t 34), (.t 36)]), qo 32 (.mov (.t 37)), qo 38 (.ext (.t 32) 0), qo 39 (.ext (.t 32) 1), qo 40 (.ext (.t 32) 2), qo 10 (.asg (.t 38)), qo 11 (.asg (.t 39)), qo 12 (.asg (.t 40))]
def ref14_Check_c5 (p : Nums) : IC := (.region (ref14_Check_o5 p) [])
@[simp] theorem ref14_Check_c5_eq {P m Q st} {p : Nums} : AW P m (ref14_Check_c5 p) Q st ↔ AW P m (.region (ref14_Check_o5 p) []) Q st := Iff.rfl
@[simp] def ref14_Check_o6 (p : Nums) : List IOp := [qo 43 (.load (some 5) (.t 9)), qo 44 (.mov (.t 11)), qo 45 (.call p.ref14_fail [(.t 43), (ci 20), (.t 44)]), qn (.store 5 (.t 8) (.t 45))]
def ref14_Check_c6 (p : Nums) : IC := (.region (ref14_Check_o6 p) [])
@[simp] theorem ref14_Check_c6_eq {P m Q st} {p : Nums} : AW P m (ref14_Check_c6 p) Q st ↔ AW P m (.region (ref14_Check_o6 p) []) Q st := Iff.rfl
@[simp] def ref14_Check_o7 (p : Nums) : List IOp := [qo 46 (.faddr 0 (.t 5)), qo 47 (.load none (.t 46)), qo 48 (.len (.t 47)), qo 13 (.asg (.t 48))]
def ref14_Check_c7 (p : Nums) : IC := (.region (ref14_Check_o7 p) [])
@[simp] theorem ref14_Check_c7_eq {P m Q st} {p : Nums} : AW P m (ref14_Check_c7 p) Q st ↔ AW P m (.region (ref14_Check_o7 p) []) Q st := Iff.rfl
@[simp] def ref14_Check_o8 (p : Nums) : List IOp := [qo 49 (.faddr 1 (.t 4)), qo 50 (.load (some 4) (.t 49)), qo 51 (.faddr 1 (.t 5)), qo 52 (.load (some 4) (.t 51)), qo 53 (.call p.ref13_Terms [(.t 50), (.t 52)]), qo 54 (.un .not (.t 53))]
def ref14_Check_c8 (p : Nums) : IC := (.region (ref14_Check_o8 p) [])
@[simp] theorem ref14_Check_c8_eq {P m Q st} {p : Nums} : AW P m (ref14_Check_c8 p) Q st ↔ AW P m (.region (ref14_Check_o8 p) []) Q st := Iff.rfl
@[simp] def ref14_Check_o9 (p : Nums) : List IOp := [qo 55 (.load (some 5) (.t 9)), qo 56 (.mov (.t 13)), qo 57 (.call p.ref14_fail [(.t 55), (ci 20), (.t 56)]), qn (.store 5 (.t 8) (.t 57))]
def ref14_Check_c9 (p : Nums) : IC := (.region (ref14_Check_o9 p) [])
@[simp] theorem ref14_Check_c9_eq {P m Q st} {p : Nums} : AW P m (ref14_Check_c9 p) Q st ↔ AW P m (.region (ref14_Check_o9 p) []) Q st := Iff.rfl
@[simp] def ref14_Check_o10 (p : Nums) : List IOp := [qo 58 (.mov (.t 14)), qo 59 (.mov (.t 10)), qo 60 (.len (.t 59)), qo 61 (.bin .lss (.t 58) (.t 60))]
def ref14_Check_c10 (p : Nums) : IC := (.region (ref14_Check_o10 p) [])
@[simp] theorem ref14_Check_c10_eq {P m Q st} {p : Nums} : AW P m (ref14_Check_c10 p) Q st ↔ AW P m (.region (ref14_Check_o10 p) []) Q st := Iff.rfl
@[simp] def ref14_Check_o11 (p : Nums) : List IOp := [qo 64 (.mov (.t 10)), qo 65 (.mov (.t 14)), qo 66 (.iaddr 6 (.t 64) (.t 65)), qo 67 (.load (some 6) (.t 66)), qo 15 (.alloc [(zi 0), (zi 0), (zi 0), (zi 0), (zi 0), (zi 0)]), qn (.store 6 (.t 15) (.t 67))]
def ref14_Check_c11 (p : Nums) : IC := (.region (ref14_Check_o11 p) [])
@[simp] theorem ref14_Check_c11_eq {P m Q st} {p : Nums} : AW P m (ref14_Check_c11 p) Q st ↔ AW P m (.region (ref14_Check_o11 p) []) Q st := Iff.rfl
@[simp] def ref14_Check_o12 (p : Nums) : List IOp := [qo 68 (.faddr 0 (.t 15)), qo 69 (.load none (.t 68)), qo 16 (.asg (.t 69))]
def ref14_Check_c12 (p : Nums) : IC := (.region (ref14_Check_o12 p) [])
@[simp] theorem ref14_Check_c12_eq {P m Q st} {p : Nums} : AW P m (ref14_Check_c12 p) Q st ↔ AW P m (.region (ref14_Check_o12 p) []) Q st := Iff.rfl
@[simp] def ref14_Check_o13 (p : Nums) : List IOp := [qo 70 (.mov (.t 16)), qo 71 (.faddr 1 (.t 15)), qo 72 (.load none (.t 71)), qo 73 (.bin .lss (.t 70) (.t 72)), qo 74 (.mov (.t 73)), ⟨(some 75), (.faddr 1 (.t 9)), (some (74, true)), false⟩, ⟨(some 76), (.load none (.t 75)), (some (74, true)), false⟩, ⟨(some 77), (.bin .eql (.t 76) (ci 0)), (some (74, true)), false⟩, qo 78 (.pick (.t 74) (.t 77) (.c (.d (.bool false))))]
def ref14_Check_c13 (p : Nums) : IC := (.region (ref14_Check_o13 p) [])
@[simp] theorem ref14_Check_c13_eq {P m Q st} {p : Nums} : AW P m (ref14_Check_c13 p) Q st ↔ AW P m (.region (ref14_Check_o13 p) []) Q st := Iff.rfl
@[simp] def ref14_Check_o14 (p : Nums) : List IOp := [qp 81 (.load (some 5) (.t 9)), qp 82 (.faddr 0 (.t 9)), qp 83 (.load none (.t 82)), qp 84 (.faddr 0 (.t 4)), qp 85 (.load none (.t 84)), qp 86 (.mov (.t 16)), qp 87 (.iaddr 5 (.t 85) (.t 86)), qp 88 (.faddr 1 (.t 87)), qp 89 (.load none (.t 88)), qp 90 (.faddr 0 (.t 4)), qp 91 (.load none (.t 90)), qp 92 (.mov (.t 16)), qp 93 (.iaddr 5 (.t 91) (.t 92)), qp 94 (.faddr 2 (.t 93)), qp 95 (.load none (.t 94)), qp 96 (.call p.ref12_Copy [(.t 83), (.t 89), (.t 95)]), qp 97 (.mov (.t 3)), qp 98 (.faddr 2 (.t 15)), qp 99 (.load none (.t 98)), qo 100 (.call p.ref14_grow [(.t 81), (.t 96), (.t 97), (.t 99)]), qn (.store 5 (.t 9) (.t 100))]
def ref14_Check_c14 (p : Nums) : IC := (.region (ref14_Check_o14 p) [])
@[simp] theorem ref14_Check_c14_eq {P m Q st} {p : Nums} : AW P m (ref14_Check_c14 p) Q st ↔ AW P m (.region (ref14_Check_o14 p) []) Q st := Iff.rfl
@[simp] def ref14_Check_o15 (p : Nums) : List IOp := [qo 79 (.mov (.t 16)), qo 80 (.bin .add (.t 79) (ci 1)), qo 16 (.asg (.t 80))]
def ref14_Check_c15 (p : Nums) : IC := (.region (ref14_Check_o15 p) [])
@[simp] theorem ref14_Check_c15_eq {P m Q st} {p : Nums} : AW P m (ref14_Check_c15 p) Q st ↔ AW P m (.region (ref14_Check_o15 p) []) Q st := Iff.rfl
def ref14_Check_c16 (p : Nums) : IC := (.seq (.seq (ref14_Check_c13 p) (.cond (.t 78) .skip (.exit 2))) (.seq (.block 3 (ref14_Check_c14 p)) (ref14_Check_c15 p)))
@[simp] theorem ref14_Check_c16_eq {P m Q st} {p : Nums} : AW P m (ref14_Check_c16 p) Q st ↔ AW P m (.seq (.seq (ref14_Check_c13 p) (.cond (.t 78) .skip (.exit 2))) (.seq (.block 3 (ref14_Check_c14 p)) (ref14_Check_c15 p))) Q st := Iff.rfl
@[simp] def ref14_Check_o17 (p : Nums) : List IOp := [qo 101 (.faddr 2 (.t 15)), qo 102 (.load none (.t 101)), qo 17 (.asg (.t 102))]
def ref14_Check_c17 (p : Nums) : IC := (.region (ref14_Check_o17 p) [])
@[simp] theorem ref14_Check_c17_eq {P m Q st} {p : Nums} : AW P m (ref14_Check_c17 p) Q st ↔ AW P m (.region (ref14_Check_o17 p) []) Q st := Iff.rfl
@[simp] def ref14_Check_o18 (p : Nums) : List IOp := [qo 103 (.mov (.t 17)), qo 104 (.faddr 3 (.t 15)), qo 105 (.load none (.t 104)), qo 106 (.bin .lss (.t 103) (.t 105)), qo 107 (.mov (.t 106)), ⟨(some 108), (.faddr 1 (.t 9)), (some (107, true)), false⟩, ⟨(some 109), (.load none (.t 108)), (some (107, true)), false⟩, ⟨(some 110), (.bin .eql (.t 109) (ci 0)), (some (107, true)), false⟩, qo 111 (.pick (.t 107) (.t 110) (.c (.d (.bool false))))]
def ref14_Check_c18 (p : Nums) : IC := (.region (ref14_Check_o18 p) [])
@[simp] theorem ref14_Check_c18_eq {P m Q st} {p : Nums} : AW P m (ref14_Check_c18 p) Q st ↔ AW P m (.region (ref14_Check_o18 p) []) Q st := Iff.rfl
@[simp] def ref14_Check_o19 (p : Nums) : List IOp := [qp 114 (.load (some 5) (.t 9)), qp 115 (.faddr 0 (.t 9)), qp 116 (.load none (.t 115)), qp 117 (.faddr 0 (.t 5)), qp 118 (.load none (.t 117)), qp 119 (.mov (.t 17)), qp 120 (.iaddr 7 (.t 118) (.t 119)), qp 121 (.faddr 5 (.t 120)), qp 122 (.load none (.t 121)), qp 123 (.faddr 0 (.t 5)), qp 124 (.load none (.t 123)), qp 125 (.mov (.t 17)), qp 126 (.iaddr 7 (.t 124) (.t 125)), qp 127 (.faddr 6 (.t 126)), qp 128 (.load none (.t 127)), qp 129 (.call p.ref12_Move [(.t 116), (.t 122), (.t 128)]), qp 130 (.mov (.t 3)), qp 131 (.mov (.t 17)), qo 132 (.call p.ref14_grow [(.t 114), (.t 129), (.t 130), (.t 131)]), qn (.store 5 (.t 9) (.t 132))]
def ref14_Check_c19 (p : Nums) : IC := (.region (ref14_Check_o19 p) [])
@[simp] theorem ref14_Check_c19_eq {P m Q st} {p : Nums} : AW P m (ref14_Check_c19 p) Q st ↔ AW P m (.region (ref14_Check_o19 p) []) Q st := Iff.rfl
@[simp] def ref14_Check_o20 (p : Nums) : List IOp := [qo 112 (.mov (.t 17)), qo 113 (.bin .add (.t 112) (ci 1)), qo 17 (.asg (.t 113))]
def ref14_Check_c20 (p : Nums) : IC := (.region (ref14_Check_o20 p) [])
@[simp] theorem ref14_Check_c20_eq {P m Q st} {p : Nums} : AW P m (ref14_Check_c20 p) Q st ↔ AW P m (.region (ref14_Check_o20 p) []) Q st := Iff.rfl
def ref14_Check_c21 (p : Nums) : IC := (.seq (.seq (ref14_Check_c18 p) (.cond (.t 111) .skip (.exit 4))) (.seq (.block 5 (ref14_Check_c19 p)) (ref14_Check_c20 p)))
@[simp] theorem ref14_Check_c21_eq {P m Q st} {p : Nums} : AW P m (ref14_Check_c21 p) Q st ↔ AW P m (.seq (.seq (ref14_Check_c18 p) (.cond (.t 111) .skip (.exit 4))) (.seq (.block 5 (ref14_Check_c19 p)) (ref14_Check_c20 p))) Q st := Iff.rfl
@[simp] def ref14_Check_o22 (p : Nums) : List IOp := [qo 133 (.faddr 4 (.t 15)), qo 134 (.load none (.t 133)), qo 135 (.bin .lss (.t 134) (ci 0)), qo 136 (.mov (.t 135)), ⟨(some 137), (.faddr 1 (.t 9)), (some (136, false)), false⟩, ⟨(some 138), (.load none (.t 137)), (some (136, false)), false⟩, ⟨(some 139), (.bin .neq (.t 138) (ci 0)), (some (136, false)), false⟩, qo 140 (.pick (.t 136) (.c (.d (.bool true))) (.t 139))]
def ref14_Check_c22 (p : Nums) : IC := (.region (ref14_Check_o22 p) [])
@[simp] theorem ref14_Check_c22_eq {P m Q st} {p : Nums} : AW P m (ref14_Check_c22 p) Q st ↔ AW P m (.region (ref14_Check_o22 p) []) Q st := Iff.rfl
@[simp] def ref14_Check_o23 (p : Nums) : List IOp := [qo 141 (.faddr 0 (.t 4)), qo 142 (.load none (.t 141)), qo 143 (.faddr 4 (.t 15)), qo 144 (.load none (.t 143)), qo 145 (.iaddr 5 (.t 142) (.t 144)), qo 146 (.load (some 5) (.t 145)), qo 18 (.alloc [(zi 0), (zi 0), (zi 0), (zi 0), (zi 0)]), qn (.store 5 (.t 18) (.t 146))]
def ref14_Check_c23 (p : Nums) : IC := (.region (ref14_Check_o23 p) [])
@[simp] theorem ref14_Check_c23_eq {P m Q st} {p : Nums} : AW P m (ref14_Check_c23 p) Q st ↔ AW P m (.region (ref14_Check_o23 p) []) Q st := Iff.rfl
@[simp] def ref14_Check_o24 (p : Nums) : List IOp := [qo 147 (.faddr 0 (.t 5)), qo 148 (.load none (.t 147)), qo 149 (.faddr 5 (.t 15)), qo 150 (.load none (.t 149)), qo 151 (.iaddr 7 (.t 148) (.t 150)), qo 152 (.load (some 7) (.t 151)), qo 19 (.alloc [(zi 0), (zi 0), (zi 0), (zi 0), (zi 0), (zi 0), (zi 0)]), qn (.store 7 (.t 19) (.t 152))]
def ref14_Check_c24 (p : Nums) : IC := (.region (ref14_Check_o24 p) [])
@[simp] theorem ref14_Check_c24_eq {P m Q st} {p : Nums} : AW P m (ref14_Check_c24 p) Q st ↔ AW P m (.region (ref14_Check_o24 p) []) Q st := Iff.rfl
@[simp] def ref14_Check_o25 (p : Nums) : List IOp := [qo 153 (.faddr 0 (.t 18)), qo 154 (.load none (.t 153)), qo 155 (.call p.ref05_UsesA [(.t 154)])]
def ref14_Check_c25 (p : Nums) : IC := (.region (ref14_Check_o25 p) [])
@[simp] theorem ref14_Check_c25_eq {P m Q st} {p : Nums} : AW P m (ref14_Check_c25 p) Q st ↔ AW P m (.region (ref14_Check_o25 p) []) Q st := Iff.rfl
@[simp] def ref14_Check_o26 (p : Nums) : List IOp := [qo 156 (.load (some 5) (.t 9)), qo 157 (.faddr 2 (.t 18)), qo 158 (.load none (.t 157)), qo 159 (.faddr 2 (.t 19)), qo 160 (.load none (.t 159)), qo 161 (.faddr 5 (.t 15)), qo 162 (.load none (.t 161)), qo 163 (.call p.ref14_use [(.t 156), (.t 158), (.t 160), (.t 162)]), qn (.store 5 (.t 9) (.t 163))]
def ref14_Check_c26 (p : Nums) : IC := (.region (ref14_Check_o26 p) [])
@[simp] theorem ref14_Check_c26_eq {P m Q st} {p : Nums} : AW P m (ref14_Check_c26 p) Q st ↔ AW P m (.region (ref14_Check_o26 p) []) Q st := Iff.rfl
@[simp] def ref14_Check_o27 (p : Nums) : List IOp := [qo 164 (.faddr 0 (.t 18)), qo 165 (.load none (.t 164)), qo 166 (.call p.ref05_UsesB [(.t 165)]), qo 167 (.mov (.t 166)), ⟨(some 168), (.faddr 1 (.t 9)), (some (167, true)), false⟩, ⟨(some 169), (.load none (.t 168)), (some (167, true)), false⟩, ⟨(some 170), (.bin .eql (.t 169) (ci 0)), (some (167, true)), false⟩, qo 171 (.pick (.t 167) (.t 170) (.c (.d (.bool false))))]
def ref14_Check_c27 (p : Nums) : IC := (.region (ref14_Check_o27 p) [])
@[simp] theorem ref14_Check_c27_eq {P m Q st} {p : Nums} : AW P m (ref14_Check_c27 p) Q st ↔ AW P m (.region (ref14_Check_o27 p) []) Q st := Iff.rfl
@[simp] def ref14_Check_o28 (p : Nums) : List IOp := [qo 172 (.load (some 5) (.t 9)), qo 173 (.faddr 3 (.t 18)), qo 174 (.load none (.t 173)), qo 175 (.faddr 3 (.t 19)), qo 176 (.load none (.t 175)), qo 177 (.faddr 5 (.t 15)), qo 178 (.load none (.t 177)), qo 179 (.call p.ref14_use [(.t 172), (.t 174), (.t 176), (.t 178)]), qn (.store 5 (.t 9) (.t 179))]
def ref14_Check_c28 (p : Nums) : IC := (.region (ref14_Check_o28 p) [])
@[simp] theorem ref14_Check_c28_eq {P m Q st} {p : Nums} : AW P m (ref14_Check_c28 p) Q st ↔ AW P m (.region (ref14_Check_o28 p) []) Q st := Iff.rfl
@[simp] def ref14_Check_o29 (p : Nums) : List IOp := [qo 180 (.faddr 0 (.t 18)), qo 181 (.load none (.t 180)), qo 182 (.call p.ref05_UsesD [(.t 181)]), qo 183 (.mov (.t 182)), ⟨(some 184), (.faddr 1 (.t 9)), (some (183, true)), false⟩, ⟨(some 185), (.load none (.t 184)), (some (183, true)), false⟩, ⟨(some 186), (.bin .eql (.t 185) (ci 0)), (some (183, true)), false⟩, qo 187 (.pick (.t 183) (.t 186) (.c (.d (.bool false))))]
def ref14_Check_c29 (p : Nums) : IC := (.region (ref14_Check_o29 p) [])
@[simp] theorem ref14_Check_c29_eq {P m Q st} {p : Nums} : AW P m (ref14_Check_c29 p) Q st ↔ AW P m (.region (ref14_Check_o29 p) []) Q st := Iff.rfl
@[simp] def ref14_Check_o30 (p : Nums) : List IOp := [qp 188 (.load (some 5) (.t 9)), qp 189 (.faddr 0 (.t 9)), qp 190 (.load none (.t 189)), qp 191 (.faddr 1 (.t 18)), qp 192 (.load none (.t 191)), qp 193 (.faddr 1 (.t 19)), qp 194 (.load none (.t 193)), qp 195 (.bin .mul (ci 2) (.t 194)), qp 196 (.call p.ref12_Define [(.t 190), (.t 192), (.t 195)]), qp 197 (.mov (.t 3)), qp 198 (.faddr 5 (.t 15)), qp 199 (.load none (.t 198)), qo 200 (.call p.ref14_grow [(.t 188), (.t 196), (.t 197), (.t 199)]), qn (.store 5 (.t 9) (.t 200))]
def ref14_Check_c30 (p : Nums) : IC := (.region (ref14_Check_o30 p) [])
@[simp] theorem ref14_Check_c30_eq {P m Q st} {p : Nums} : AW P m (ref14_Check_c30 p) Q st ↔ AW P m (.region (ref14_Check_o30 p) []) Q st := Iff.rfl
def ref14_Check_c31 (p : Nums) : IC := (.seq (ref14_Check_c11 p) (.seq (.seq (ref14_Check_c12 p) (.block 2 (.loop (ref14_Check_c16 p)))) (.seq (.seq (ref14_Check_c17 p) (.block 4 (.loop (ref14_Check_c21 p)))) (.seq (.seq (ref14_Check_c22 p) (.cond (.t 140) (.exit 1) .skip)) (.seq (ref14_Check_c23 p) (.seq (ref14_Check_c24 p) (.seq (.seq (ref14_Check_c25 p) (.cond (.t 155) (ref14_Check_c26 p) .skip)) (.seq (.seq (ref14_Check_c27 p) (.cond (.t 171) (ref14_Check_c28 p) .skip)) (.seq (ref14_Check_c29 p) (.cond (.t 187) (ref14_Check_c30 p) .skip))))))))))
@[simp] theorem ref14_Check_c31_eq {P m Q st} {p : Nums} : AW P m (ref14_Check_c31 p) Q st ↔ AW P m (.seq (ref14_Check_c11 p) (.seq (.seq (ref14_Check_c12 p) (.block 2 (.loop (ref14_Check_c16 p)))) (.seq (.seq (ref14_Check_c17 p) (.block 4 (.loop (ref14_Check_c21 p)))) (.seq (.seq (ref14_Check_c22 p) (.cond (.t 140) (.exit 1) .skip)) (.seq (ref14_Check_c23 p) (.seq (ref14_Check_c24 p) (.seq (.seq (ref14_Check_c25 p) (.cond (.t 155) (ref14_Check_c26 p) .skip)) (.seq (.seq (ref14_Check_c27 p) (.cond (.t 171) (ref14_Check_c28 p) .skip)) (.seq (ref14_Check_c29 p) (.cond (.t 187) (ref14_Check_c30 p) .skip)))))))))) Q st := Iff.rfl
@[simp] def ref14_Check_o32 (p : Nums) : List IOp := [qo 62 (.mov (.t 14)), qo 63 (.bin .add (.t 62) (ci 1)), qo 14 (.asg (.t 63))]
def ref14_Check_c32 (p : Nums) : IC := (.region (ref14_Check_o32 p) [])
@[simp] theorem ref14_Check_c32_eq {P m Q st} {p : Nums} : AW P m (ref14_Check_c32 p) Q st ↔ AW P m (.region (ref14_Check_o32 p) []) Q st := Iff.rfl
def ref14_Check_c33 (p : Nums) : IC := (.seq (.seq (ref14_Check_c10 p) (.cond (.t 61) .skip (.exit 0))) (.seq (.block 1 (ref14_Check_c31 p)) (ref14_Check_c32 p)))
@[simp] theorem ref14_Check_c33_eq {P m Q st} {p : Nums} : AW P m (ref14_Check_c33 p) Q st ↔ AW P m (.seq (.seq (ref14_Check_c10 p) (.cond (.t 61) .skip (.exit 0))) (.seq (.block 1 (ref14_Check_c31 p)) (ref14_Check_c32 p))) Q st := Iff.rfl
@[simp] def ref14_Check_o34 (p : Nums) : List IOp := [qo 201 (.faddr 1 (.t 4)), qo 202 (.faddr 0 (.t 201)), qo 203 (.load none (.t 202)), qo 204 (.bin .neq (.t 203) (ci 1)), qo 205 (.mov (.t 204)), ⟨(some 206), (.faddr 1 (.t 9)), (some (205, true)), false⟩, ⟨(some 207), (.load none (.t 206)), (some (205, true)), false⟩, ⟨(some 208), (.bin .eql (.t 207) (ci 0)), (some (205, true)), false⟩, qo 209 (.pick (.t 205) (.t 208) (.c (.d (.bool false))))]
def ref14_Check_c34 (p : Nums) : IC := (.region (ref14_Check_o34 p) [])
@[simp] theorem ref14_Check_c34_eq {P m Q st} {p : Nums} : AW P m (ref14_Check_c34 p) Q st ↔ AW P m (.region (ref14_Check_o34 p) []) Q st := Iff.rfl
@[simp] def ref14_Check_o35 (p : Nums) : List IOp := [qo 210 (.load (some 5) (.t 9)), qo 211 (.faddr 1 (.t 4)), qo 212 (.faddr 1 (.t 211)), qo 213 (.load none (.t 212)), qo 214 (.faddr 1 (.t 5)), qo 215 (.faddr 1 (.t 214)), qo 216 (.load none (.t 215)), qo 217 (.mov (.t 13)), qo 218 (.call p.ref14_use [(.t 210), (.t 213), (.t 216), (.t 217)]), qn (.store 5 (.t 9) (.t 218))]
def ref14_Check_c35 (p : Nums) : IC := (.region (ref14_Check_o35 p) [])
@[simp] theorem ref14_Check_c35_eq {P m Q st} {p : Nums} : AW P m (ref14_Check_c35 p) Q st ↔ AW P m (.region (ref14_Check_o35 p) []) Q st := Iff.rfl
@[simp] def ref14_Check_o36 (p : Nums) : List IOp := [qo 219 (.faddr 1 (.t 9)), qo 220 (.load none (.t 219)), qo 221 (.bin .eql (.t 220) (ci 0))]
def ref14_Check_c36 (p : Nums) : IC := (.region (ref14_Check_o36 p) [])
@[simp] theorem ref14_Check_c36_eq {P m Q st} {p : Nums} : AW P m (ref14_Check_c36 p) Q st ↔ AW P m (.region (ref14_Check_o36 p) []) Q st := Iff.rfl
@[simp] def ref14_Check_o37 (p : Nums) : List IOp := [qo 222 (.mov (.t 13)), qo 223 (.faddr 2 (.t 9)), qn (.store 1 (.t 223) (.t 222))]
def ref14_Check_c37 (p : Nums) : IC := (.region (ref14_Check_o37 p) [])
@[simp] theorem ref14_Check_c37_eq {P m Q st} {p : Nums} : AW P m (ref14_Check_c37 p) Q st ↔ AW P m (.region (ref14_Check_o37 p) []) Q st := Iff.rfl
def ic_ref14_Check (p : Nums) : IC := (.seq (ref14_Check_c1 p) (.seq (ref14_Check_c2 p) (.seq (.seq (ref14_Check_c3 p) (.cond (.t 29) (.seq (ref14_Check_c4 p) .ret) .skip)) (.seq (ref14_Check_c5 p) (.seq (.seq (.region [⟨(some 41), (.mov (.t 12)), none, false⟩, ⟨(some 42), (.bin .neq (.t 41) (.c (.d (.int .i64 0)))), none, false⟩] []) (.cond (.t 42) (.seq (ref14_Check_c6 p) .ret) .skip)) (.seq (ref14_Check_c7 p) (.seq (.seq (ref14_Check_c8 p) (.cond (.t 54) (.seq (ref14_Check_c9 p) .ret) .skip)) (.seq (.seq (.region [⟨(some 14), (.asg (.c (.d (.int .i64 0)))), none, false⟩] []) (.block 0 (.loop (ref14_Check_c33 p)))) (.seq (.seq (ref14_Check_c34 p) (.cond (.t 209) (ref14_Check_c35 p) .skip)) (.seq (.seq (ref14_Check_c36 p) (.cond (.t 221) (ref14_Check_c37 p) .skip)) (.seq (.region [⟨(some 224), (.load (some 5) (.t 9)), none, false⟩, ⟨none, (.store 5 (.t 8) (.t 224)), none, false⟩] []) .ret)))))))))))
@[simp] def transfer_rename_o1 (p : Nums) : List IOp := [qo 12 (.mov (.t 1)), qo 13 (.len (.t 12)), qo 14 (.mov (ci 0))]
def transfer_rename_c1 (p : Nums) : IC := (.region (transfer_rename_o1 p) [])
@[simp] theorem transfer_rename_c1_eq {P m Q st} {p : Nums} : AW P m (transfer_rename_c1 p) Q st ↔ AW P m (.region (transfer_rename_o1 p) []) Q st := Iff.rfl
@[simp] def transfer_rename_o2 (p : Nums) : List IOp := [qo 16 (.iaddr 2 (.t 12) (.t 14)), qo 17 (.load (some 2) (.t 16)), qo 9 (.alloc [(zi 0), (zi 0)]), qn (.store 2 (.t 9) (.t 17))]
def transfer_rename_c2 (p : Nums) : IC := (.region (transfer_rename_o2 p) [])
@[simp] theorem transfer_rename_c2_eq {P m Q st} {p : Nums} : AW P m (transfer_rename_c2 p) Q st ↔ AW P m (.region (transfer_rename_o2 p) []) Q st := Iff.rfl
@[simp] def transfer_rename_o3 (p : Nums) : List IOp := [qo 19 (.mov (.t 2)), qo 20 (.load (some 2) (.t 9)), qo 21 (.callv (.t 19) [(.t 20)]), qo 18 (.mov (.t 21)), qo 22 (.ext (.t 18) 0), qo 23 (.ext (.t 18) 1), qo 10 (.alloc [(zi 0), (zi 0)]), qn (.store 2 (.t 10) (.t 22)), qo 11 (.asg (.t 23))]
def transfer_rename_c3 (p : Nums) : IC := (.region (transfer_rename_o3 p) [])
@[simp] theorem transfer_rename_c3_eq {P m Q st} {p : Nums} : AW P m (transfer_rename_c3 p) Q st ↔ AW P m (.region (transfer_rename_o3 p) []) Q st := Iff.rfl
@[simp] def transfer_rename_o4 (p : Nums) : List IOp := [qo 25 (.mov (.t 7)), qo 26 (.load (some 2) (.t 10)), qo 27 (.bslice 2 1 [(.int .i64 0), (.int .i64 0)] [(0, (.t 26))]), qo 28 (.app 2 16 (.t 25) (.t 27)), qo 7 (.asg (.t 28))]
def transfer_rename_c4 (p : Nums) : IC := (.region (transfer_rename_o4 p) [])
@[simp] theorem transfer_rename_c4_eq {P m Q st} {p : Nums} : AW P m (transfer_rename_c4 p) Q st ↔ AW P m (.region (transfer_rename_o4 p) []) Q st := Iff.rfl
def transfer_rename_c5 (p : Nums) : IC := (.seq (transfer_rename_c2 p) (.seq (transfer_rename_c3 p) (.seq (.region [⟨(some 24), (.mov (.t 11)), none, false⟩] []) (.cond (.t 24) (transfer_rename_c4 p) .skip))))
@[simp] theorem transfer_rename_c5_eq {P m Q st} {p : Nums} : AW P m (transfer_rename_c5 p) Q st ↔ AW P m (.seq (transfer_rename_c2 p) (.seq (transfer_rename_c3 p) (.seq (.region [⟨(some 24), (.mov (.t 11)), none, false⟩] []) (.cond (.t 24) (transfer_rename_c4 p) .skip)))) Q st := Iff.rfl
def transfer_rename_c6 (p : Nums) : IC := (.seq (.region [⟨(some 15), (.bin .lss (.t 14) (.t 13)), none, false⟩] []) (.seq (.cond (.t 15) .skip (.exit 0)) (.seq (.block 1 (transfer_rename_c5 p)) (.region [⟨(some 29), (.bin .add (.t 14) (.c (.d (.int .i64 1)))), none, false⟩, ⟨(some 14), (.mov (.t 29)), none, false⟩] []))))
@[simp] theorem transfer_rename_c6_eq {P m Q st} {p : Nums} : AW P m (transfer_rename_c6 p) Q st ↔ AW P m (.seq (.region [⟨(some 15), (.bin .lss (.t 14) (.t 13)), none, false⟩] []) (.seq (.cond (.t 15) .skip (.exit 0)) (.seq (.block 1 (transfer_rename_c5 p)) (.region [⟨(some 29), (.bin .add (.t 14) (.c (.d (.int .i64 1)))), none, false⟩, ⟨(some 14), (.mov (.t 29)), none, false⟩] [])))) Q st := Iff.rfl
@[simp] def transfer_rename_o7 (p : Nums) : List IOp := [qo 30 (.mov (.t 0)), qo 31 (.mov (.t 7)), qo 32 (.call p.pairset_Make [(.t 31)]), qo 33 (.call p.pairset_Union [(.t 30), (.t 32)]), qo 6 (.asg (.t 33))]
def transfer_rename_c7 (p : Nums) : IC := (.region (transfer_rename_o7 p) [])
@[simp] theorem transfer_rename_c7_eq {P m Q st} {p : Nums} : AW P m (transfer_rename_c7 p) Q st ↔ AW P m (.region (transfer_rename_o7 p) []) Q st := Iff.rfl
def ic_transfer_rename (p : Nums) : IC := (.seq (.region [⟨(some 6), (.asg (.c .nils)), none, false⟩] []) (.seq (.region [⟨(some 7), (.asg (.c .nils)), none, false⟩] []) (.seq (.seq (transfer_rename_c1 p) (.block 0 (.loop (transfer_rename_c6 p)))) (.seq (transfer_rename_c7 p) .ret))))
@[simp] def ref08_Check_o1 (p : Nums) : List IOp := [qo 8 (.faddr 0 (.t 1)), qo 9 (.load none (.t 8)), qo 10 (.bin .lss (.t 9) (ci 0)), qo 11 (.mov (.t 10)), ⟨(some 12), (.faddr 0 (.t 1)), (some (11, false)), false⟩, ⟨(some 13), (.load none (.t 12)), (some (11, false)), false⟩, ⟨(some 14), (.faddr 2 (.t 1)), (some (11, false)), false⟩, ⟨(some 15), (.load none (.t 14)), (some (11, false)), false⟩, ⟨(some 16), (.bin .gtr (.t 13) (.t 15)), (some (11, false)), false⟩, qo 17 (.pick (.t 11) (.c (.d (.bool true))) (.t 16))]
def ref08_Check_c1 (p : Nums) : IC := (.region (ref08_Check_o1 p) [])
@[simp] theorem ref08_Check_c1_eq {P m Q st} {p : Nums} : AW P m (ref08_Check_c1 p) Q st ↔ AW P m (.region (ref08_Check_o1 p) []) Q st := Iff.rfl
def ref08_Check_c2 (p : Nums) : IC := (.seq (.region [⟨(some 2), (.asg (.c (.d (.int .i64 10)))), none, false⟩] []) .ret)
@[simp] theorem ref08_Check_c2_eq {P m Q st} {p : Nums} : AW P m (ref08_Check_c2 p) Q st ↔ AW P m (.seq (.region [⟨(some 2), (.asg (.c (.d (.int .i64 10)))), none, false⟩] []) .ret) Q st := Iff.rfl
@[simp] def ref08_Check_o3 (p : Nums) : List IOp := [qo 18 (.faddr 1 (.t 1)), qo 19 (.load none (.t 18)), qo 20 (.bin .lss (.t 19) (ci 0))]
def ref08_Check_c3 (p : Nums) : IC := (.region (ref08_Check_o3 p) [])
@[simp] theorem ref08_Check_c3_eq {P m Q st} {p : Nums} : AW P m (ref08_Check_c3 p) Q st ↔ AW P m (.region (ref08_Check_o3 p) []) Q st := Iff.rfl
def ref08_Check_c4 (p : Nums) : IC := (.seq (.region [⟨(some 2), (.asg (.c (.d (.int .i64 9)))), none, false⟩] []) .ret)
@[simp] theorem ref08_Check_c4_eq {P m Q st} {p : Nums} : AW P m (ref08_Check_c4 p) Q st ↔ AW P m (.seq (.region [⟨(some 2), (.asg (.c (.d (.int .i64 9)))), none, false⟩] []) .ret) Q st := Iff.rfl
@[simp] def ref08_Check_o5 (p : Nums) : List IOp := [qo 21 (.faddr 2 (.t 1)), qo 22 (.load none (.t 21)), qo 23 (.bin .gtr (.t 22) (ci 1048576)), qo 24 (.mov (.t 23)), ⟨(some 25), (.faddr 1 (.t 1)), (some (24, false)), false⟩, ⟨(some 26), (.load none (.t 25)), (some (24, false)), false⟩, ⟨(some 27), (.bin .gtr (.t 26) (ci 1048576)), (some (24, false)), false⟩, qo 28 (.pick (.t 24) (.c (.d (.bool true))) (.t 27))]
def ref08_Check_c5 (p : Nums) : IC := (.region (ref08_Check_o5 p) [])
@[simp] theorem ref08_Check_c5_eq {P m Q st} {p : Nums} : AW P m (ref08_Check_c5 p) Q st ↔ AW P m (.region (ref08_Check_o5 p) []) Q st := Iff.rfl
def ref08_Check_c6 (p : Nums) : IC := (.seq (.region [⟨(some 2), (.asg (.c (.d (.int .i64 6)))), none, false⟩] []) .ret)
@[simp] theorem ref08_Check_c6_eq {P m Q st} {p : Nums} : AW P m (ref08_Check_c6 p) Q st ↔ AW P m (.seq (.region [⟨(some 2), (.asg (.c (.d (.int .i64 6)))), none, false⟩] []) .ret) Q st := Iff.rfl
@[simp] def ref08_Check_o7 (p : Nums) : List IOp := [qo 29 (.faddr 3 (.t 1)), qo 30 (.load none (.t 29)), qo 31 (.len (.t 30)), qo 32 (.bin .eql (.t 31) (ci 0))]
def ref08_Check_c7 (p : Nums) : IC := (.region (ref08_Check_o7 p) [])
@[simp] theorem ref08_Check_c7_eq {P m Q st} {p : Nums} : AW P m (ref08_Check_c7 p) Q st ↔ AW P m (.region (ref08_Check_o7 p) []) Q st := Iff.rfl
def ref08_Check_c8 (p : Nums) : IC := (.seq (.region [⟨(some 2), (.asg (.c (.d (.int .i64 14)))), none, false⟩] []) .ret)
@[simp] theorem ref08_Check_c8_eq {P m Q st} {p : Nums} : AW P m (ref08_Check_c8 p) Q st ↔ AW P m (.seq (.region [⟨(some 2), (.asg (.c (.d (.int .i64 14)))), none, false⟩] []) .ret) Q st := Iff.rfl
@[simp] def ref08_Check_o9 (p : Nums) : List IOp := [qo 33 (.faddr 3 (.t 1)), qo 34 (.load none (.t 33)), qo 35 (.len (.t 34)), qo 36 (.bin .gtr (.t 35) (ci 1048576)), qo 37 (.mov (.t 36)), ⟨(some 38), (.load (some 4) (.t 1)), (some (37, false)), false⟩, ⟨(some 39), (.call p.ref08_Code [(.t 38)]), (some (37, false)), false⟩, ⟨(some 40), (.bin .gtr (.t 39) (ci 1048576)), (some (37, false)), false⟩, qo 41 (.pick (.t 37) (.c (.d (.bool true))) (.t 40))]
def ref08_Check_c9 (p : Nums) : IC := (.region (ref08_Check_o9 p) [])
@[simp] theorem ref08_Check_c9_eq {P m Q st} {p : Nums} : AW P m (ref08_Check_c9 p) Q st ↔ AW P m (.region (ref08_Check_o9 p) []) Q st := Iff.rfl
def ref08_Check_c10 (p : Nums) : IC := (.seq (.region [⟨(some 2), (.asg (.c (.d (.int .i64 6)))), none, false⟩] []) .ret)
@[simp] theorem ref08_Check_c10_eq {P m Q st} {p : Nums} : AW P m (ref08_Check_c10 p) Q st ↔ AW P m (.seq (.region [⟨(some 2), (.asg (.c (.d (.int .i64 6)))), none, false⟩] []) .ret) Q st := Iff.rfl
@[simp] def ref08_Check_o11 (p : Nums) : List IOp := [qo 42 (.mov (.t 3)), qo 43 (.faddr 3 (.t 1)), qo 44 (.load none (.t 43)), qo 45 (.len (.t 44)), qo 46 (.bin .lss (.t 42) (.t 45))]
def ref08_Check_c11 (p : Nums) : IC := (.region (ref08_Check_o11 p) [])
@[simp] theorem ref08_Check_c11_eq {P m Q st} {p : Nums} : AW P m (ref08_Check_c11 p) Q st ↔ AW P m (.region (ref08_Check_o11 p) []) Q st := Iff.rfl
@[simp] def ref08_Check_o12 (p : Nums) : List IOp := [qo 49 (.faddr 3 (.t 1)), qo 50 (.load none (.t 49)), qo 51 (.mov (.t 3)), qo 52 (.iaddr 5 (.t 50) (.t 51)), qo 53 (.load (some 5) (.t 52)), qo 4 (.alloc [.nils, (zi 0), (zi 0), (zi 0), (zi 0)]), qn (.store 5 (.t 4) (.t 53))]
def ref08_Check_c12 (p : Nums) : IC := (.region (ref08_Check_o12 p) [])
@[simp] theorem ref08_Check_c12_eq {P m Q st} {p : Nums} : AW P m (ref08_Check_c12 p) Q st ↔ AW P m (.region (ref08_Check_o12 p) []) Q st := Iff.rfl
@[simp] def ref08_Check_o13 (p : Nums) : List IOp := [qo 54 (.mov (.t 5)), qo 55 (.faddr 0 (.t 4)), qo 56 (.load none (.t 55)), qo 57 (.len (.t 56)), qo 58 (.bin .lss (.t 54) (.t 57))]
def ref08_Check_c13 (p : Nums) : IC := (.region (ref08_Check_o13 p) [])
@[simp] theorem ref08_Check_c13_eq {P m Q st} {p : Nums} : AW P m (ref08_Check_c13 p) Q st ↔ AW P m (.region (ref08_Check_o13 p) []) Q st := Iff.rfl
@[simp] def ref08_Check_o14 (p : Nums) : List IOp := [qp 61 (.faddr 0 (.t 4)), qp 62 (.load none (.t 61)), qp 63 (.mov (.t 5)), qp 64 (.iaddr 7 (.t 62) (.t 63)), qp 65 (.load (some 7) (.t 64)), qp 66 (.faddr 1 (.t 1)), qp 67 (.load none (.t 66)), qp 68 (.faddr 2 (.t 1)), qp 69 (.load none (.t 68)), qo 70 (.call p.ref08_Instr [(.t 65), (.t 67), (.t 69)]), qo 6 (.asg (.t 70))]
def ref08_Check_c14 (p : Nums) : IC := (.region (ref08_Check_o14 p) [])
@[simp] theorem ref08_Check_c14_eq {P m Q st} {p : Nums} : AW P m (ref08_Check_c14 p) Q st ↔ AW P m (.region (ref08_Check_o14 p) []) Q st := Iff.rfl
def ref08_Check_c15 (p : Nums) : IC := (.seq (.region [⟨(some 73), (.mov (.t 6)), none, false⟩, ⟨(some 2), (.asg (.t 73)), none, false⟩] []) .ret)
@[simp] theorem ref08_Check_c15_eq {P m Q st} {p : Nums} : AW P m (ref08_Check_c15 p) Q st ↔ AW P m (.seq (.region [⟨(some 73), (.mov (.t 6)), none, false⟩, ⟨(some 2), (.asg (.t 73)), none, false⟩] []) .ret) Q st := Iff.rfl
@[simp] def ref08_Check_o16 (p : Nums) : List IOp := [qo 74 (.mov (.t 5)), qo 75 (.bin .geq (.t 74) (ci 64)), qo 76 (.mov (.t 75)), ⟨(some 77), (.faddr 0 (.t 4)), (some (76, true)), false⟩, ⟨(some 78), (.load none (.t 77)), (some (76, true)), false⟩, ⟨(some 79), (.mov (.t 5)), (some (76, true)), false⟩, ⟨(some 80), (.bin .sub (.t 79) (ci 64)), (some (76, true)), false⟩, ⟨(some 81), (.mov (.t 5)), (some (76, true)), false⟩, ⟨(some 82), (.bin .add (.t 81) (ci 1)), (some (76, true)), false⟩, ⟨(some 83), (.slc 7 (.t 78) (some (.t 80)) (some (.t 82))), (some (76, true)), false⟩, ⟨(some 84), (.call p.ref08_Moves [(.t 83)]), (some (76, true)), false⟩, ⟨(some 85), (.bin .gtr (.t 84) (ci 64)), (some (76, true)), false⟩, qo 86 (.pick (.t 76) (.t 85) (.c (.d (.bool false))))]
def ref08_Check_c16 (p : Nums) : IC := (.region (ref08_Check_o16 p) [])
@[simp] theorem ref08_Check_c16_eq {P m Q st} {p : Nums} : AW P m (ref08_Check_c16 p) Q st ↔ AW P m (.region (ref08_Check_o16 p) []) Q st := Iff.rfl
def ref08_Check_c17 (p : Nums) : IC := (.seq (.region [⟨(some 2), (.asg (.c (.d (.int .i64 15)))), none, false⟩] []) .ret)
@[simp] theorem ref08_Check_c17_eq {P m Q st} {p : Nums} : AW P m (ref08_Check_c17 p) Q st ↔ AW P m (.seq (.region [⟨(some 2), (.asg (.c (.d (.int .i64 15)))), none, false⟩] []) .ret) Q st := Iff.rfl
def ref08_Check_c18 (p : Nums) : IC := (.seq (ref08_Check_c14 p) (.seq (.seq (.region [⟨(some 71), (.mov (.t 6)), none, false⟩, ⟨(some 72), (.bin .neq (.t 71) (.c (.d (.int .i64 0)))), none, false⟩] []) (.cond (.t 72) (ref08_Check_c15 p) .skip)) (.seq (ref08_Check_c16 p) (.cond (.t 86) (ref08_Check_c17 p) .skip))))
@[simp] theorem ref08_Check_c18_eq {P m Q st} {p : Nums} : AW P m (ref08_Check_c18 p) Q st ↔ AW P m (.seq (ref08_Check_c14 p) (.seq (.seq (.region [⟨(some 71), (.mov (.t 6)), none, false⟩, ⟨(some 72), (.bin .neq (.t 71) (.c (.d (.int .i64 0)))), none, false⟩] []) (.cond (.t 72) (ref08_Check_c15 p) .skip)) (.seq (ref08_Check_c16 p) (.cond (.t 86) (ref08_Check_c17 p) .skip)))) Q st := Iff.rfl
@[simp] def ref08_Check_o19 (p : Nums) : List IOp := [qo 59 (.mov (.t 5)), qo 60 (.bin .add (.t 59) (ci 1)), qo 5 (.asg (.t 60))]
def ref08_Check_c19 (p : Nums) : IC := (.region (ref08_Check_o19 p) [])
@[simp] theorem ref08_Check_c19_eq {P m Q st} {p : Nums} : AW P m (ref08_Check_c19 p) Q st ↔ AW P m (.region (ref08_Check_o19 p) []) Q st := Iff.rfl
def ref08_Check_c20 (p : Nums) : IC := (.seq (.seq (ref08_Check_c13 p) (.cond (.t 58) .skip (.exit 2))) (.seq (.block 3 (ref08_Check_c18 p)) (ref08_Check_c19 p)))
@[simp] theorem ref08_Check_c20_eq {P m Q st} {p : Nums} : AW P m (ref08_Check_c20 p) Q st ↔ AW P m (.seq (.seq (ref08_Check_c13 p) (.cond (.t 58) .skip (.exit 2))) (.seq (.block 3 (ref08_Check_c18 p)) (ref08_Check_c19 p))) Q st := Iff.rfl
@[simp] def ref08_Check_o21 (p : Nums) : List IOp := [qo 87 (.faddr 1 (.t 4)), qo 88 (.load (some 4) (.t 87)), qo 89 (.faddr 1 (.t 1)), qo 90 (.load none (.t 89)), qo 91 (.faddr 3 (.t 1)), qo 92 (.load none (.t 91)), qo 93 (.len (.t 92)), qo 94 (.call p.ref07_Term [(.t 88), (.t 90), (.t 93)]), qo 7 (.asg (.t 94))]
def ref08_Check_c21 (p : Nums) : IC := (.region (ref08_Check_o21 p) [])
@[simp] theorem ref08_Check_c21_eq {P m Q st} {p : Nums} : AW P m (ref08_Check_c21 p) Q st ↔ AW P m (.region (ref08_Check_o21 p) []) Q st := Iff.rfl
def ref08_Check_c22 (p : Nums) : IC := (.seq (.region [⟨(some 97), (.mov (.t 7)), none, false⟩, ⟨(some 2), (.asg (.t 97)), none, false⟩] []) .ret)
@[simp] theorem ref08_Check_c22_eq {P m Q st} {p : Nums} : AW P m (ref08_Check_c22 p) Q st ↔ AW P m (.seq (.region [⟨(some 97), (.mov (.t 7)), none, false⟩, ⟨(some 2), (.asg (.t 97)), none, false⟩] []) .ret) Q st := Iff.rfl
def ref08_Check_c23 (p : Nums) : IC := (.seq (ref08_Check_c12 p) (.seq (.seq (.region [⟨(some 5), (.asg (.c (.d (.int .i64 0)))), none, false⟩] []) (.block 2 (.loop (ref08_Check_c20 p)))) (.seq (ref08_Check_c21 p) (.seq (.region [⟨(some 95), (.mov (.t 7)), none, false⟩, ⟨(some 96), (.bin .neq (.t 95) (.c (.d (.int .i64 0)))), none, false⟩] []) (.cond (.t 96) (ref08_Check_c22 p) .skip)))))
@[simp] theorem ref08_Check_c23_eq {P m Q st} {p : Nums} : AW P m (ref08_Check_c23 p) Q st ↔ AW P m (.seq (ref08_Check_c12 p) (.seq (.seq (.region [⟨(some 5), (.asg (.c (.d (.int .i64 0)))), none, false⟩] []) (.block 2 (.loop (ref08_Check_c20 p)))) (.seq (ref08_Check_c21 p) (.seq (.region [⟨(some 95), (.mov (.t 7)), none, false⟩, ⟨(some 96), (.bin .neq (.t 95) (.c (.d (.int .i64 0)))), none, false⟩] []) (.cond (.t 96) (ref08_Check_c22 p) .skip))))) Q st := Iff.rfl
@[simp] def ref08_Check_o24 (p : Nums) : List IOp := [qo 47 (.mov (.t 3)), qo 48 (.bin .add (.t 47) (ci 1)), qo 3 (.asg (.t 48))]
def ref08_Check_c24 (p : Nums) : IC := (.region (ref08_Check_o24 p) [])
@[simp] theorem ref08_Check_c24_eq {P m Q st} {p : Nums} : AW P m (ref08_Check_c24 p) Q st ↔ AW P m (.region (ref08_Check_o24 p) []) Q st := Iff.rfl
def ref08_Check_c25 (p : Nums) : IC := (.seq (.seq (ref08_Check_c11 p) (.cond (.t 46) .skip (.exit 0))) (.seq (.block 1 (ref08_Check_c23 p)) (ref08_Check_c24 p)))
@[simp] theorem ref08_Check_c25_eq {P m Q st} {p : Nums} : AW P m (ref08_Check_c25 p) Q st ↔ AW P m (.seq (.seq (ref08_Check_c11 p) (.cond (.t 46) .skip (.exit 0))) (.seq (.block 1 (ref08_Check_c23 p)) (ref08_Check_c24 p))) Q st := Iff.rfl
def ic_ref08_Check (p : Nums) : IC := (.seq (.region [⟨(some 1), (.box (.t 0)), none, false⟩, ⟨(some 2), (.asg (.c (.d (.int .i64 0)))), none, false⟩] []) (.seq (.seq (ref08_Check_c1 p) (.cond (.t 17) (ref08_Check_c2 p) .skip)) (.seq (.seq (ref08_Check_c3 p) (.cond (.t 20) (ref08_Check_c4 p) .skip)) (.seq (.seq (ref08_Check_c5 p) (.cond (.t 28) (ref08_Check_c6 p) .skip)) (.seq (.seq (ref08_Check_c7 p) (.cond (.t 32) (ref08_Check_c8 p) .skip)) (.seq (.seq (ref08_Check_c9 p) (.cond (.t 41) (ref08_Check_c10 p) .skip)) (.seq (.seq (.region [⟨(some 3), (.asg (.c (.d (.int .i64 0)))), none, false⟩] []) (.block 0 (.loop (ref08_Check_c25 p)))) (.seq (.region [⟨(some 2), (.asg (.c (.d (.int .i64 0)))), none, false⟩] []) .ret))))))))
@[simp] def align_Code_o1 (p : Nums) : List IOp := [qo 4 (.asg (.c .nils)), qo 5 (.asg (ci 0)), qo 6 (.asg (ci 0))]
def align_Code_c1 (p : Nums) : IC := (.region (align_Code_o1 p) [])
@[simp] theorem align_Code_c1_eq {P m Q st} {p : Nums} : AW P m (align_Code_c1 p) Q st ↔ AW P m (.region (align_Code_o1 p) []) Q st := Iff.rfl
@[simp] def align_Code_o2 (p : Nums) : List IOp := [qo 11 (.mov (.t 8)), qo 12 (.mov (.t 0)), qo 13 (.mov (.t 8)), qo 14 (.call p.align_skip_Instr [(.t 12), (.t 13), (.c (.fn (.func p.align_copied) [] []))]), qo 15 (.mov (.t 9)), qo 16 (.mov (.t 1)), qo 17 (.mov (.t 9)), qo 18 (.call p.align_skip_Mach [(.t 16), (.t 17), (.c (.fn (.func p.align_moved) [] []))]), qo 19 (.build [(zi 0), (zi 0), (zi 0), (zi 0), (zi 0), (zi 0)] [(0, 1, (.t 11)), (1, 1, (.t 14)), (2, 1, (.t 15)), (3, 1, (.t 18))]), qo 10 (.alloc [(zi 0), (zi 0), (zi 0), (zi 0), (zi 0), (zi 0)]), qn (.store 6 (.t 10) (.t 19))]
def align_Code_c2 (p : Nums) : IC := (.region (align_Code_o2 p) [])
@[simp] theorem align_Code_c2_eq {P m Q st} {p : Nums} : AW P m (align_Code_c2 p) Q st ↔ AW P m (.region (align_Code_o2 p) []) Q st := Iff.rfl
@[simp] def align_Code_o3 (p : Nums) : List IOp := [qp 20 (.faddr 1 (.t 10)), qp 21 (.load none (.t 20)), qp 22 (.faddr 3 (.t 10)), qp 23 (.load none (.t 22)), qp 8 (.asg (.t 21)), qo 9 (.asg (.t 23))]
def align_Code_c3 (p : Nums) : IC := (.region (align_Code_o3 p) [])
@[simp] theorem align_Code_c3_eq {P m Q st} {p : Nums} : AW P m (align_Code_c3 p) Q st ↔ AW P m (.region (align_Code_o3 p) []) Q st := Iff.rfl
@[simp] def align_Code_o4 (p : Nums) : List IOp := [qo 24 (.mov (.t 8)), qo 25 (.mov (.t 0)), qo 26 (.len (.t 25)), qo 27 (.bin .eql (.t 24) (.t 26)), qo 28 (.mov (.t 27)), ⟨(some 29), (.mov (.t 9)), (some (28, true)), false⟩, ⟨(some 30), (.mov (.t 1)), (some (28, true)), false⟩, ⟨(some 31), (.len (.t 30)), (some (28, true)), false⟩, ⟨(some 32), (.bin .eql (.t 29) (.t 31)), (some (28, true)), false⟩, qo 33 (.pick (.t 28) (.t 32) (.c (.d (.bool false))))]
def align_Code_c4 (p : Nums) : IC := (.region (align_Code_o4 p) [])
@[simp] theorem align_Code_c4_eq {P m Q st} {p : Nums} : AW P m (align_Code_c4 p) Q st ↔ AW P m (.region (align_Code_o4 p) []) Q st := Iff.rfl
@[simp] def align_Code_o5 (p : Nums) : List IOp := [qo 34 (.faddr 4 (.t 10)), qn (.store 1 (.t 34) (ci (-1))), qo 35 (.faddr 5 (.t 10)), qn (.store 1 (.t 35) (ci (-1)))]
def align_Code_c5 (p : Nums) : IC := (.region (align_Code_o5 p) [])
@[simp] theorem align_Code_c5_eq {P m Q st} {p : Nums} : AW P m (align_Code_c5 p) Q st ↔ AW P m (.region (align_Code_o5 p) []) Q st := Iff.rfl
@[simp] def align_Code_o6 (p : Nums) : List IOp := [qo 36 (.mov (.t 7)), qo 37 (.load (some 6) (.t 10)), qo 38 (.bslice 6 1 [(.int .i64 0), (.int .i64 0), (.int .i64 0), (.int .i64 0), (.int .i64 0), (.int .i64 0)] [(0, (.t 37))]), qo 39 (.app 6 48 (.t 36) (.t 38)), qo 40 (.mov (.t 9)), qo 4 (.asg (.t 39)), qo 5 (.asg (.t 40)), qo 6 (.asg (ci 0))]
def align_Code_c6 (p : Nums) : IC := (.region (align_Code_o6 p) [])
@[simp] theorem align_Code_c6_eq {P m Q st} {p : Nums} : AW P m (align_Code_c6 p) Q st ↔ AW P m (.region (align_Code_o6 p) []) Q st := Iff.rfl
@[simp] def align_Code_o7 (p : Nums) : List IOp := [qp 41 (.mov (.t 8)), qp 42 (.mov (.t 0)), qp 43 (.len (.t 42)), qo 44 (.bin .eql (.t 41) (.t 43)), qo 45 (.mov (.t 44)), ⟨(some 46), (.mov (.t 9)), (some (45, false)), true⟩, ⟨(some 47), (.mov (.t 1)), (some (45, false)), true⟩, ⟨(some 48), (.len (.t 47)), (some (45, false)), true⟩, ⟨(some 49), (.bin .eql (.t 46) (.t 48)), (some (45, false)), false⟩, qo 50 (.pick (.t 45) (.c (.d (.bool true))) (.t 49)), qo 51 (.mov (.t 50)), ⟨(some 52), (.mov (.t 0)), (some (51, false)), true⟩, ⟨(some 53), (.mov (.t 8)), (some (51, false)), true⟩, ⟨(some 54), (.iaddr 5 (.t 52) (.t 53)), (some (51, false)), true⟩, ⟨(some 55), (.load (some 5) (.t 54)), (some (51, false)), true⟩, ⟨(some 56), (.mov (.t 1)), (some (51, false)), true⟩, ⟨(some 57), (.mov (.t 9)), (some (51, false)), true⟩, ⟨(some 58), (.iaddr 7 (.t 56) (.t 57)), (some (51, false)), true⟩, ⟨(some 59), (.load (some 7) (.t 58)), (some (51, false)), true⟩, ⟨(some 60), (.call p.align_Same [(.t 55), (.t 59)]), (some (51, false)), false⟩, ⟨(some 61), (.un .not (.t 60)), (some (51, false)), false⟩, qo 62 (.pick (.t 51) (.c (.d (.bool true))) (.t 61))]
def align_Code_c7 (p : Nums) : IC := (.region (align_Code_o7 p) [])
@[simp] theorem align_Code_c7_eq {P m Q st} {p : Nums} : AW P m (align_Code_c7 p) Q st ↔ AW P m (.region (align_Code_o7 p) []) Q st := Iff.rfl
@[simp] def align_Code_o8 (p : Nums) : List IOp := [qo 63 (.mov (.t 9)), qo 4 (.asg (.c .nils)), qo 5 (.asg (.t 63)), qo 6 (.asg (ci 20))]
def align_Code_c8 (p : Nums) : IC := (.region (align_Code_o8 p) [])
@[simp] theorem align_Code_c8_eq {P m Q st} {p : Nums} : AW P m (align_Code_c8 p) Q st ↔ AW P m (.region (align_Code_o8 p) []) Q st := Iff.rfl
@[simp] def align_Code_o9 (p : Nums) : List IOp := [qo 64 (.mov (.t 8)), qo 65 (.mov (.t 9)), qo 66 (.faddr 4 (.t 10)), qn (.store 1 (.t 66) (.t 64)), qo 67 (.faddr 5 (.t 10)), qn (.store 1 (.t 67) (.t 65))]
def align_Code_c9 (p : Nums) : IC := (.region (align_Code_o9 p) [])
@[simp] theorem align_Code_c9_eq {P m Q st} {p : Nums} : AW P m (align_Code_c9 p) Q st ↔ AW P m (.region (align_Code_o9 p) []) Q st := Iff.rfl
@[simp] def align_Code_o10 (p : Nums) : List IOp := [qo 68 (.mov (.t 7)), qo 69 (.load (some 6) (.t 10)), qo 70 (.bslice 6 1 [(.int .i64 0), (.int .i64 0), (.int .i64 0), (.int .i64 0), (.int .i64 0), (.int .i64 0)] [(0, (.t 69))]), qo 71 (.app 6 48 (.t 68) (.t 70)), qo 7 (.asg (.t 71))]
def align_Code_c10 (p : Nums) : IC := (.region (align_Code_o10 p) [])
@[simp] theorem align_Code_c10_eq {P m Q st} {p : Nums} : AW P m (align_Code_c10 p) Q st ↔ AW P m (.region (align_Code_o10 p) []) Q st := Iff.rfl
@[simp] def align_Code_o11 (p : Nums) : List IOp := [qo 72 (.mov (.t 8)), qo 73 (.bin .add (.t 72) (ci 1)), qo 74 (.mov (.t 9)), qo 75 (.bin .add (.t 74) (ci 1)), qo 8 (.asg (.t 73)), qo 9 (.asg (.t 75))]
def align_Code_c11 (p : Nums) : IC := (.region (align_Code_o11 p) [])
@[simp] theorem align_Code_c11_eq {P m Q st} {p : Nums} : AW P m (align_Code_c11 p) Q st ↔ AW P m (.region (align_Code_o11 p) []) Q st := Iff.rfl
def align_Code_c12 (p : Nums) : IC := (.seq (align_Code_c2 p) (.seq (align_Code_c3 p) (.seq (.seq (align_Code_c4 p) (.cond (.t 33) (.seq (align_Code_c5 p) (.seq (align_Code_c6 p) .ret)) .skip)) (.seq (.seq (align_Code_c7 p) (.cond (.t 62) (.seq (align_Code_c8 p) .ret) .skip)) (.seq (align_Code_c9 p) (.seq (align_Code_c10 p) (align_Code_c11 p)))))))
@[simp] theorem align_Code_c12_eq {P m Q st} {p : Nums} : AW P m (align_Code_c12 p) Q st ↔ AW P m (.seq (align_Code_c2 p) (.seq (align_Code_c3 p) (.seq (.seq (align_Code_c4 p) (.cond (.t 33) (.seq (align_Code_c5 p) (.seq (align_Code_c6 p) .ret)) .skip)) (.seq (.seq (align_Code_c7 p) (.cond (.t 62) (.seq (align_Code_c8 p) .ret) .skip)) (.seq (align_Code_c9 p) (.seq (align_Code_c10 p) (align_Code_c11 p))))))) Q st := Iff.rfl
def ic_align_Code (p : Nums) : IC := (.seq (align_Code_c1 p) (.seq (.region [⟨(some 7), (.asg (.c .nils)), none, false⟩] []) (.seq (.region [⟨(some 8), (.asg (.c (.d (.int .i64 0)))), none, false⟩, ⟨(some 9), (.asg (.c (.d (.int .i64 0)))), none, false⟩] []) (.block 0 (.loop (.block 1 (align_Code_c12 p)))))))
@[simp] def align_Terms_o1 (p : Nums) : List IOp := [qo 2 (.box (.t 0)), qo 3 (.box (.t 1)), qo 4 (.asg (.c (.d (.bool false))))]
def align_Terms_c1 (p : Nums) : IC := (.region (align_Terms_o1 p) [])
@[simp] theorem align_Terms_c1_eq {P m Q st} {p : Nums} : AW P m (align_Terms_c1 p) Q st ↔ AW P m (.region (align_Terms_o1 p) []) Q st := Iff.rfl
@[simp] def align_Terms_o2 (p : Nums) : List IOp := [qo 5 (.faddr 0 (.t 2)), qo 6 (.load none (.t 5)), qo 7 (.faddr 0 (.t 3)), qo 8 (.load none (.t 7)), qo 9 (.bin .eql (.t 6) (.t 8)), qo 10 (.mov (.t 9)), ⟨(some 11), (.faddr 2 (.t 2)), (some (10, true)), false⟩, ⟨(some 12), (.load none (.t 11)), (some (10, true)), false⟩, ⟨(some 13), (.faddr 2 (.t 3)), (some (10, true)), false⟩, ⟨(some 14), (.load none (.t 13)), (some (10, true)), false⟩, ⟨(some 15), (.bin .eql (.t 12) (.t 14)), (some (10, true)), false⟩, qo 16 (.pick (.t 10) (.t 15) (.c (.d (.bool false)))), qo 17 (.mov (.t 16)), ⟨(some 18), (.faddr 3 (.t 2)), (some (17, true)), false⟩, ⟨(some 19), (.load none (.t 18)), (some (17, true)), false⟩, ⟨(some 20), (.faddr 3 (.t 3)), (some (17, true)), false⟩, ⟨(some 21), (.load none (.t 20)), (some (17, true)), false⟩, ⟨(some 22), (.bin .eql (.t 19) (.t 21)), (some (17, true)), false⟩, qo 23 (.pick (.t 17) (.t 22) (.c (.d (.bool false)))), qo 4 (.asg (.t 23))]
def align_Terms_c2 (p : Nums) : IC := (.region (align_Terms_o2 p) [])
@[simp] theorem align_Terms_c2_eq {P m Q st} {p : Nums} : AW P m (align_Terms_c2 p) Q st ↔ AW P m (.region (align_Terms_o2 p) []) Q st := Iff.rfl
def ic_align_Terms (p : Nums) : IC := (.seq (align_Terms_c1 p) (.seq (align_Terms_c2 p) .ret))
@[simp] def ref14_fail_o1 (p : Nums) : List IOp := [qo 3 (.box (.t 0)), qo 6 (.alloc [.nils, (zi 0), (zi 0), (zi 0), (zi 0)])]
def ref14_fail_c1 (p : Nums) : IC := (.region (ref14_fail_o1 p) [])
@[simp] theorem ref14_fail_c1_eq {P m Q st} {p : Nums} : AW P m (ref14_fail_c1 p) Q st ↔ AW P m (.region (ref14_fail_o1 p) []) Q st := Iff.rfl
@[simp] def ref14_fail_o2 (p : Nums) : List IOp := [qo 8 (.mov (.t 1)), qo 9 (.faddr 1 (.t 3)), qn (.store 1 (.t 9) (.t 8))]
def ref14_fail_c2 (p : Nums) : IC := (.region (ref14_fail_o2 p) [])
@[simp] theorem ref14_fail_c2_eq {P m Q st} {p : Nums} : AW P m (ref14_fail_c2 p) Q st ↔ AW P m (.region (ref14_fail_o2 p) []) Q st := Iff.rfl
@[simp] def ref14_fail_o3 (p : Nums) : List IOp := [qo 10 (.mov (.t 2)), qo 11 (.faddr 2 (.t 3)), qn (.store 1 (.t 11) (.t 10))]
def ref14_fail_c3 (p : Nums) : IC := (.region (ref14_fail_o3 p) [])
@[simp] theorem ref14_fail_c3_eq {P m Q st} {p : Nums} : AW P m (ref14_fail_c3 p) Q st ↔ AW P m (.region (ref14_fail_o3 p) []) Q st := Iff.rfl
def ic_ref14_fail (p : Nums) : IC := (.seq (ref14_fail_c1 p) (.seq (.region [⟨(some 7), (.faddr 0 (.t 3)), none, false⟩, ⟨none, (.store 1 (.t 7) (.c .nils)), none, false⟩] []) (.seq (ref14_fail_c2 p) (.seq (ref14_fail_c3 p) (.seq (.region [⟨(some 12), (.load (some 5) (.t 3)), none, false⟩, ⟨none, (.store 5 (.t 6) (.t 12)), none, false⟩] []) .ret)))))
@[simp] def ref13_Code_o1 (p : Nums) : List IOp := [qo 4 (.asg (.c .nils)), qo 5 (.asg (ci 0)), qo 6 (.asg (ci 0))]
def ref13_Code_c1 (p : Nums) : IC := (.region (ref13_Code_o1 p) [])
@[simp] theorem ref13_Code_c1_eq {P m Q st} {p : Nums} : AW P m (ref13_Code_c1 p) Q st ↔ AW P m (.region (ref13_Code_o1 p) []) Q st := Iff.rfl
@[simp] def ref13_Code_o2 (p : Nums) : List IOp := [qo 13 (.mov (.t 0)), qo 14 (.call p.ref13_Operations [(.t 13)]), qo 7 (.asg (.t 14))]
def ref13_Code_c2 (p : Nums) : IC := (.region (ref13_Code_o2 p) [])
@[simp] theorem ref13_Code_c2_eq {P m Q st} {p : Nums} : AW P m (ref13_Code_c2 p) Q st ↔ AW P m (.region (ref13_Code_o2 p) []) Q st := Iff.rfl
@[simp] def ref13_Code_o3 (p : Nums) : List IOp := [qo 15 (.mov (.t 1)), qo 16 (.call p.ref13_Others [(.t 15)]), qo 8 (.asg (.t 16))]
def ref13_Code_c3 (p : Nums) : IC := (.region (ref13_Code_o3 p) [])
@[simp] theorem ref13_Code_c3_eq {P m Q st} {p : Nums} : AW P m (ref13_Code_c3 p) Q st ↔ AW P m (.region (ref13_Code_o3 p) []) Q st := Iff.rfl
@[simp] def ref13_Code_o4 (p : Nums) : List IOp := [qo 17 (.mov (.t 12)), qo 18 (.mov (.t 8)), qo 19 (.len (.t 18)), qo 20 (.bin .lss (.t 17) (.t 19))]
def ref13_Code_c4 (p : Nums) : IC := (.region (ref13_Code_o4 p) [])
@[simp] theorem ref13_Code_c4_eq {P m Q st} {p : Nums} : AW P m (ref13_Code_c4 p) Q st ↔ AW P m (.region (ref13_Code_o4 p) []) Q st := Iff.rfl
@[simp] def ref13_Code_o5 (p : Nums) : List IOp := [qp 23 (.mov (.t 12)), qp 24 (.mov (.t 7)), qp 25 (.len (.t 24)), qo 26 (.bin .geq (.t 23) (.t 25)), qo 27 (.mov (.t 26)), ⟨(some 28), (.mov (.t 0)), (some (27, false)), true⟩, ⟨(some 29), (.mov (.t 7)), (some (27, false)), true⟩, ⟨(some 30), (.mov (.t 12)), (some (27, false)), true⟩, ⟨(some 31), (.iaddr 1 (.t 29) (.t 30)), (some (27, false)), true⟩, ⟨(some 32), (.load none (.t 31)), (some (27, false)), true⟩, ⟨(some 33), (.iaddr 5 (.t 28) (.t 32)), (some (27, false)), true⟩, ⟨(some 34), (.load (some 5) (.t 33)), (some (27, false)), true⟩, ⟨(some 35), (.mov (.t 1)), (some (27, false)), true⟩, ⟨(some 36), (.mov (.t 8)), (some (27, false)), true⟩, ⟨(some 37), (.mov (.t 12)), (some (27, false)), true⟩, ⟨(some 38), (.iaddr 1 (.t 36) (.t 37)), (some (27, false)), true⟩, ⟨(some 39), (.load none (.t 38)), (some (27, false)), true⟩, ⟨(some 40), (.iaddr 7 (.t 35) (.t 39)), (some (27, false)), true⟩, ⟨(some 41), (.load (some 7) (.t 40)), (some (27, false)), true⟩, ⟨(some 42), (.call p.ref13_Same [(.t 34), (.t 41)]), (some (27, false)), false⟩, ⟨(some 43), (.un .not (.t 42)), (some (27, false)), false⟩, qo 44 (.pick (.t 27) (.c (.d (.bool true))) (.t 43))]
def ref13_Code_c5 (p : Nums) : IC := (.region (ref13_Code_o5 p) [])
@[simp] theorem ref13_Code_c5_eq {P m Q st} {p : Nums} : AW P m (ref13_Code_c5 p) Q st ↔ AW P m (.region (ref13_Code_o5 p) []) Q st := Iff.rfl
@[simp] def ref13_Code_o6 (p : Nums) : List IOp := [qp 45 (.mov (.t 8)), qp 46 (.mov (.t 12)), qp 47 (.iaddr 1 (.t 45) (.t 46)), qp 48 (.load none (.t 47)), qp 4 (.asg (.c .nils)), qo 5 (.asg (.t 48)), qo 6 (.asg (ci 20))]
def ref13_Code_c6 (p : Nums) : IC := (.region (ref13_Code_o6 p) [])
@[simp] theorem ref13_Code_c6_eq {P m Q st} {p : Nums} : AW P m (ref13_Code_c6 p) Q st ↔ AW P m (.region (ref13_Code_o6 p) []) Q st := Iff.rfl
@[simp] def ref13_Code_o7 (p : Nums) : List IOp := [qp 49 (.mov (.t 9)), qp 50 (.mov (.t 10)), qp 51 (.mov (.t 7)), qp 52 (.mov (.t 12)), qp 53 (.iaddr 1 (.t 51) (.t 52)), qp 54 (.load none (.t 53)), qp 55 (.mov (.t 11)), qp 56 (.mov (.t 8)), qp 57 (.mov (.t 12)), qp 58 (.iaddr 1 (.t 56) (.t 57)), qp 59 (.load none (.t 58)), qp 60 (.mov (.t 7)), qp 61 (.mov (.t 12)), qp 62 (.iaddr 1 (.t 60) (.t 61)), qp 63 (.load none (.t 62)), qp 64 (.mov (.t 8)), qp 65 (.mov (.t 12)), qp 66 (.iaddr 1 (.t 64) (.t 65)), qp 67 (.load none (.t 66)), qp 68 (.build [(zi 0), (zi 0), (zi 0), (zi 0), (zi 0), (zi 0)] [(0, 1, (.t 50)), (1, 1, (.t 54)), (2, 1, (.t 55)), (3, 1, (.t 59)), (4, 1, (.t 63)), (5, 1, (.t 67))]), qp 69 (.bslice 6 1 [(.int .i64 0), (.int .i64 0), (.int .i64 0), (.int .i64 0), (.int .i64 0), (.int .i64 0)] [(0, (.t 68))]), qo 70 (.app 6 48 (.t 49) (.t 69)), qo 9 (.asg (.t 70))]
def ref13_Code_c7 (p : Nums) : IC := (.region (ref13_Code_o7 p) [])
@[simp] theorem ref13_Code_c7_eq {P m Q st} {p : Nums} : AW P m (ref13_Code_c7 p) Q st ↔ AW P m (.region (ref13_Code_o7 p) []) Q st := Iff.rfl
@[simp] def ref13_Code_o8 (p : Nums) : List IOp := [qo 71 (.mov (.t 7)), qo 72 (.mov (.t 12)), qo 73 (.iaddr 1 (.t 71) (.t 72)), qo 74 (.load none (.t 73)), qo 75 (.bin .add (.t 74) (ci 1)), qo 10 (.asg (.t 75))]
def ref13_Code_c8 (p : Nums) : IC := (.region (ref13_Code_o8 p) [])
@[simp] theorem ref13_Code_c8_eq {P m Q st} {p : Nums} : AW P m (ref13_Code_c8 p) Q st ↔ AW P m (.region (ref13_Code_o8 p) []) Q st := Iff.rfl
@[simp] def ref13_Code_o9 (p : Nums) : List IOp := [qo 76 (.mov (.t 8)), qo 77 (.mov (.t 12)), qo 78 (.iaddr 1 (.t 76) (.t 77)), qo 79 (.load none (.t 78)), qo 80 (.bin .add (.t 79) (ci 1)), qo 11 (.asg (.t 80))]
def ref13_Code_c9 (p : Nums) : IC := (.region (ref13_Code_o9 p) [])
@[simp] theorem ref13_Code_c9_eq {P m Q st} {p : Nums} : AW P m (ref13_Code_c9 p) Q st ↔ AW P m (.region (ref13_Code_o9 p) []) Q st := Iff.rfl
def ref13_Code_c10 (p : Nums) : IC := (.seq (.seq (ref13_Code_c5 p) (.cond (.t 44) (.seq (ref13_Code_c6 p) .ret) .skip)) (.seq (ref13_Code_c7 p) (.seq (ref13_Code_c8 p) (ref13_Code_c9 p))))
@[simp] theorem ref13_Code_c10_eq {P m Q st} {p : Nums} : AW P m (ref13_Code_c10 p) Q st ↔ AW P m (.seq (.seq (ref13_Code_c5 p) (.cond (.t 44) (.seq (ref13_Code_c6 p) .ret) .skip)) (.seq (ref13_Code_c7 p) (.seq (ref13_Code_c8 p) (ref13_Code_c9 p)))) Q st := Iff.rfl
@[simp] def ref13_Code_o11 (p : Nums) : List IOp := [qo 21 (.mov (.t 12)), qo 22 (.bin .add (.t 21) (ci 1)), qo 12 (.asg (.t 22))]
def ref13_Code_c11 (p : Nums) : IC := (.region (ref13_Code_o11 p) [])
@[simp] theorem ref13_Code_c11_eq {P m Q st} {p : Nums} : AW P m (ref13_Code_c11 p) Q st ↔ AW P m (.region (ref13_Code_o11 p) []) Q st := Iff.rfl
def ref13_Code_c12 (p : Nums) : IC := (.seq (.seq (ref13_Code_c4 p) (.cond (.t 20) .skip (.exit 0))) (.seq (.block 1 (ref13_Code_c10 p)) (ref13_Code_c11 p)))
@[simp] theorem ref13_Code_c12_eq {P m Q st} {p : Nums} : AW P m (ref13_Code_c12 p) Q st ↔ AW P m (.seq (.seq (ref13_Code_c4 p) (.cond (.t 20) .skip (.exit 0))) (.seq (.block 1 (ref13_Code_c10 p)) (ref13_Code_c11 p))) Q st := Iff.rfl
@[simp] def ref13_Code_o13 (p : Nums) : List IOp := [qo 81 (.mov (.t 7)), qo 82 (.len (.t 81)), qo 83 (.mov (.t 8)), qo 84 (.len (.t 83)), qo 85 (.bin .gtr (.t 82) (.t 84))]
def ref13_Code_c13 (p : Nums) : IC := (.region (ref13_Code_o13 p) [])
@[simp] theorem ref13_Code_c13_eq {P m Q st} {p : Nums} : AW P m (ref13_Code_c13 p) Q st ↔ AW P m (.region (ref13_Code_o13 p) []) Q st := Iff.rfl
@[simp] def ref13_Code_o14 (p : Nums) : List IOp := [qo 86 (.mov (.t 1)), qo 87 (.len (.t 86)), qo 4 (.asg (.c .nils)), qo 5 (.asg (.t 87)), qo 6 (.asg (ci 20))]
def ref13_Code_c14 (p : Nums) : IC := (.region (ref13_Code_o14 p) [])
@[simp] theorem ref13_Code_c14_eq {P m Q st} {p : Nums} : AW P m (ref13_Code_c14 p) Q st ↔ AW P m (.region (ref13_Code_o14 p) []) Q st := Iff.rfl
@[simp] def ref13_Code_o15 (p : Nums) : List IOp := [qo 88 (.mov (.t 9)), qo 89 (.mov (.t 10)), qo 90 (.mov (.t 0)), qo 91 (.len (.t 90)), qo 92 (.mov (.t 11)), qo 93 (.mov (.t 1)), qo 94 (.len (.t 93)), qo 95 (.build [(zi 0), (zi 0), (zi 0), (zi 0), (zi 0), (zi 0)] [(0, 1, (.t 89)), (1, 1, (.t 91)), (2, 1, (.t 92)), (3, 1, (.t 94)), (4, 1, (ci (-1))), (5, 1, (ci (-1)))]), qo 96 (.bslice 6 1 [(.int .i64 0), (.int .i64 0), (.int .i64 0), (.int .i64 0), (.int .i64 0), (.int .i64 0)] [(0, (.t 95))]), qo 97 (.app 6 48 (.t 88) (.t 96)), qo 98 (.mov (.t 1)), qo 99 (.len (.t 98)), qo 4 (.asg (.t 97)), qo 5 (.asg (.t 99)), qo 6 (.asg (ci 0))]
def ref13_Code_c15 (p : Nums) : IC := (.region (ref13_Code_o15 p) [])
@[simp] theorem ref13_Code_c15_eq {P m Q st} {p : Nums} : AW P m (ref13_Code_c15 p) Q st ↔ AW P m (.region (ref13_Code_o15 p) []) Q st := Iff.rfl
def ic_ref13_Code (p : Nums) : IC := (.seq (ref13_Code_c1 p) (.seq (ref13_Code_c2 p) (.seq (ref13_Code_c3 p) (.seq (.region [⟨(some 9), (.asg (.c .nils)), none, false⟩] []) (.seq (.region [⟨(some 10), (.asg (.c (.d (.int .i64 0)))), none, false⟩] []) (.seq (.region [⟨(some 11), (.asg (.c (.d (.int .i64 0)))), none, false⟩] []) (.seq (.seq (.region [⟨(some 12), (.asg (.c (.d (.int .i64 0)))), none, false⟩] []) (.block 0 (.loop (ref13_Code_c12 p)))) (.seq (.seq (ref13_Code_c13 p) (.cond (.t 85) (.seq (ref13_Code_c14 p) .ret) .skip)) (.seq (ref13_Code_c15 p) .ret)))))))))
@[simp] def ref13_Terms_o1 (p : Nums) : List IOp := [qo 2 (.box (.t 0)), qo 3 (.box (.t 1)), qo 4 (.asg (.c (.d (.bool false))))]
def ref13_Terms_c1 (p : Nums) : IC := (.region (ref13_Terms_o1 p) [])
@[simp] theorem ref13_Terms_c1_eq {P m Q st} {p : Nums} : AW P m (ref13_Terms_c1 p) Q st ↔ AW P m (.region (ref13_Terms_o1 p) []) Q st := Iff.rfl
@[simp] def ref13_Terms_o2 (p : Nums) : List IOp := [qo 7 (.load (some 4) (.t 2)), qo 8 (.load (some 4) (.t 3)), qo 9 (.eqs false [.int, .int, .int, .int] (.t 7) (.t 8)), qo 4 (.asg (.t 9))]
def ref13_Terms_c2 (p : Nums) : IC := (.region (ref13_Terms_o2 p) [])
@[simp] theorem ref13_Terms_c2_eq {P m Q st} {p : Nums} : AW P m (ref13_Terms_c2 p) Q st ↔ AW P m (.region (ref13_Terms_o2 p) []) Q st := Iff.rfl
def ic_ref13_Terms (p : Nums) : IC := (.seq (ref13_Terms_c1 p) (.seq (.region [⟨(some 5), (.faddr 1 (.t 2)), none, false⟩, ⟨none, (.store 1 (.t 5) (.c (.d (.int .i64 0)))), none, false⟩] []) (.seq (.region [⟨(some 6), (.faddr 1 (.t 3)), none, false⟩, ⟨none, (.store 1 (.t 6) (.c (.d (.int .i64 0)))), none, false⟩] []) (.seq (ref13_Terms_c2 p) .ret))))
@[simp] def ref14_grow_o1 (p : Nums) : List IOp := [qo 4 (.box (.t 0)), qo 8 (.alloc [.nils, (zi 0), (zi 0), (zi 0), (zi 0)])]
def ref14_grow_c1 (p : Nums) : IC := (.region (ref14_grow_o1 p) [])
@[simp] theorem ref14_grow_c1_eq {P m Q st} {p : Nums} : AW P m (ref14_grow_c1 p) Q st ↔ AW P m (.region (ref14_grow_o1 p) []) Q st := Iff.rfl
@[simp] def ref14_grow_o2 (p : Nums) : List IOp := [qo 9 (.faddr 3 (.t 4)), qo 10 (.load none (.t 9)), qo 11 (.bin .add (.t 10) (ci 1)), qo 12 (.faddr 0 (.t 4)), qo 13 (.load none (.t 12)), qo 14 (.len (.t 13)), qo 15 (.bin .add (.t 11) (.t 14)), qo 16 (.faddr 3 (.t 4)), qn (.store 1 (.t 16) (.t 15))]
def ref14_grow_c2 (p : Nums) : IC := (.region (ref14_grow_o2 p) [])
@[simp] theorem ref14_grow_c2_eq {P m Q st} {p : Nums} : AW P m (ref14_grow_c2 p) Q st ↔ AW P m (.region (ref14_grow_o2 p) []) Q st := Iff.rfl
@[simp] def ref14_grow_o3 (p : Nums) : List IOp := [qo 17 (.mov (.t 1)), qo 18 (.faddr 0 (.t 4)), qn (.store 1 (.t 18) (.t 17))]
def ref14_grow_c3 (p : Nums) : IC := (.region (ref14_grow_o3 p) [])
@[simp] theorem ref14_grow_c3_eq {P m Q st} {p : Nums} : AW P m (ref14_grow_c3 p) Q st ↔ AW P m (.region (ref14_grow_o3 p) []) Q st := Iff.rfl
@[simp] def ref14_grow_o4 (p : Nums) : List IOp := [qo 19 (.mov (.t 1)), qo 20 (.len (.t 19)), qo 21 (.faddr 4 (.t 4)), qo 22 (.load none (.t 21)), qo 23 (.bin .gtr (.t 20) (.t 22))]
def ref14_grow_c4 (p : Nums) : IC := (.region (ref14_grow_o4 p) [])
@[simp] theorem ref14_grow_c4_eq {P m Q st} {p : Nums} : AW P m (ref14_grow_c4 p) Q st ↔ AW P m (.region (ref14_grow_o4 p) []) Q st := Iff.rfl
@[simp] def ref14_grow_o5 (p : Nums) : List IOp := [qo 24 (.mov (.t 1)), qo 25 (.len (.t 24)), qo 26 (.faddr 4 (.t 4)), qn (.store 1 (.t 26) (.t 25))]
def ref14_grow_c5 (p : Nums) : IC := (.region (ref14_grow_o5 p) [])
@[simp] theorem ref14_grow_c5_eq {P m Q st} {p : Nums} : AW P m (ref14_grow_c5 p) Q st ↔ AW P m (.region (ref14_grow_o5 p) []) Q st := Iff.rfl
@[simp] def ref14_grow_o6 (p : Nums) : List IOp := [qo 27 (.mov (.t 1)), qo 28 (.len (.t 27)), qo 29 (.mov (.t 2)), qo 30 (.bin .gtr (.t 28) (.t 29))]
def ref14_grow_c6 (p : Nums) : IC := (.region (ref14_grow_o6 p) [])
@[simp] theorem ref14_grow_c6_eq {P m Q st} {p : Nums} : AW P m (ref14_grow_c6 p) Q st ↔ AW P m (.region (ref14_grow_o6 p) []) Q st := Iff.rfl
@[simp] def ref14_grow_o7 (p : Nums) : List IOp := [qo 31 (.load (some 5) (.t 4)), qo 32 (.mov (.t 3)), qo 33 (.call p.ref14_fail [(.t 31), (ci 24), (.t 32)]), qn (.store 5 (.t 8) (.t 33))]
def ref14_grow_c7 (p : Nums) : IC := (.region (ref14_grow_o7 p) [])
@[simp] theorem ref14_grow_c7_eq {P m Q st} {p : Nums} : AW P m (ref14_grow_c7 p) Q st ↔ AW P m (.region (ref14_grow_o7 p) []) Q st := Iff.rfl
def ic_ref14_grow (p : Nums) : IC := (.seq (ref14_grow_c1 p) (.seq (ref14_grow_c2 p) (.seq (ref14_grow_c3 p) (.seq (.seq (ref14_grow_c4 p) (.cond (.t 23) (ref14_grow_c5 p) .skip)) (.seq (.seq (ref14_grow_c6 p) (.cond (.t 30) (.seq (ref14_grow_c7 p) .ret) .skip)) (.seq (.region [⟨(some 34), (.load (some 5) (.t 4)), none, false⟩, ⟨none, (.store 5 (.t 8) (.t 34)), none, false⟩] []) .ret))))))
@[simp] def ref14_use_o1 (p : Nums) : List IOp := [qo 4 (.box (.t 0)), qo 8 (.alloc [.nils, (zi 0), (zi 0), (zi 0), (zi 0)])]
def ref14_use_c1 (p : Nums) : IC := (.region (ref14_use_o1 p) [])
@[simp] theorem ref14_use_c1_eq {P m Q st} {p : Nums} : AW P m (ref14_use_c1 p) Q st ↔ AW P m (.region (ref14_use_o1 p) []) Q st := Iff.rfl
@[simp] def ref14_use_o2 (p : Nums) : List IOp := [qo 9 (.faddr 3 (.t 4)), qo 10 (.load none (.t 9)), qo 11 (.bin .add (.t 10) (ci 1)), qo 12 (.faddr 0 (.t 4)), qo 13 (.load none (.t 12)), qo 14 (.len (.t 13)), qo 15 (.bin .add (.t 11) (.t 14)), qo 16 (.faddr 3 (.t 4)), qn (.store 1 (.t 16) (.t 15))]
def ref14_use_c2 (p : Nums) : IC := (.region (ref14_use_o2 p) [])
@[simp] theorem ref14_use_c2_eq {P m Q st} {p : Nums} : AW P m (ref14_use_c2 p) Q st ↔ AW P m (.region (ref14_use_o2 p) []) Q st := Iff.rfl
@[simp] def ref14_use_o3 (p : Nums) : List IOp := [qo 17 (.faddr 0 (.t 4)), qo 18 (.load none (.t 17)), qo 19 (.mov (.t 1)), qo 20 (.mov (.t 2)), qo 21 (.bin .mul (ci 2) (.t 20)), qo 22 (.build [(zi 0), (zi 0)] [(0, 1, (.t 19)), (1, 1, (.t 21))]), qo 23 (.call p.ref11_Has [(.t 18), (.t 22)]), qo 24 (.un .not (.t 23))]
def ref14_use_c3 (p : Nums) : IC := (.region (ref14_use_o3 p) [])
@[simp] theorem ref14_use_c3_eq {P m Q st} {p : Nums} : AW P m (ref14_use_c3 p) Q st ↔ AW P m (.region (ref14_use_o3 p) []) Q st := Iff.rfl
@[simp] def ref14_use_o4 (p : Nums) : List IOp := [qo 25 (.load (some 5) (.t 4)), qo 26 (.mov (.t 3)), qo 27 (.call p.ref14_fail [(.t 25), (ci 21), (.t 26)]), qn (.store 5 (.t 8) (.t 27))]
def ref14_use_c4 (p : Nums) : IC := (.region (ref14_use_o4 p) [])
@[simp] theorem ref14_use_c4_eq {P m Q st} {p : Nums} : AW P m (ref14_use_c4 p) Q st ↔ AW P m (.region (ref14_use_o4 p) []) Q st := Iff.rfl
def ic_ref14_use (p : Nums) : IC := (.seq (ref14_use_c1 p) (.seq (ref14_use_c2 p) (.seq (.seq (ref14_use_c3 p) (.cond (.t 24) (.seq (ref14_use_c4 p) .ret) .skip)) (.seq (.region [⟨(some 28), (.load (some 5) (.t 4)), none, false⟩, ⟨none, (.store 5 (.t 8) (.t 28)), none, false⟩] []) .ret))))
@[simp] def ref08_Code_o1 (p : Nums) : List IOp := [qo 5 (.mov (.t 4)), qo 6 (.faddr 3 (.t 1)), qo 7 (.load none (.t 6)), qo 8 (.len (.t 7)), qo 9 (.bin .lss (.t 5) (.t 8))]
def ref08_Code_c1 (p : Nums) : IC := (.region (ref08_Code_o1 p) [])
@[simp] theorem ref08_Code_c1_eq {P m Q st} {p : Nums} : AW P m (ref08_Code_c1 p) Q st ↔ AW P m (.region (ref08_Code_o1 p) []) Q st := Iff.rfl
@[simp] def ref08_Code_o2 (p : Nums) : List IOp := [qo 12 (.mov (.t 3)), qo 13 (.faddr 3 (.t 1)), qo 14 (.load none (.t 13)), qo 15 (.mov (.t 4)), qo 16 (.iaddr 5 (.t 14) (.t 15)), qo 17 (.faddr 0 (.t 16)), qo 18 (.load none (.t 17)), qo 19 (.len (.t 18)), qo 20 (.bin .add (.t 12) (.t 19)), qo 3 (.asg (.t 20))]
def ref08_Code_c2 (p : Nums) : IC := (.region (ref08_Code_o2 p) [])
@[simp] theorem ref08_Code_c2_eq {P m Q st} {p : Nums} : AW P m (ref08_Code_c2 p) Q st ↔ AW P m (.region (ref08_Code_o2 p) []) Q st := Iff.rfl
@[simp] def ref08_Code_o3 (p : Nums) : List IOp := [qo 10 (.mov (.t 4)), qo 11 (.bin .add (.t 10) (ci 1)), qo 4 (.asg (.t 11))]
def ref08_Code_c3 (p : Nums) : IC := (.region (ref08_Code_o3 p) [])
@[simp] theorem ref08_Code_c3_eq {P m Q st} {p : Nums} : AW P m (ref08_Code_c3 p) Q st ↔ AW P m (.region (ref08_Code_o3 p) []) Q st := Iff.rfl
def ref08_Code_c4 (p : Nums) : IC := (.seq (.seq (ref08_Code_c1 p) (.cond (.t 9) .skip (.exit 0))) (.seq (.block 1 (ref08_Code_c2 p)) (ref08_Code_c3 p)))
@[simp] theorem ref08_Code_c4_eq {P m Q st} {p : Nums} : AW P m (ref08_Code_c4 p) Q st ↔ AW P m (.seq (.seq (ref08_Code_c1 p) (.cond (.t 9) .skip (.exit 0))) (.seq (.block 1 (ref08_Code_c2 p)) (ref08_Code_c3 p))) Q st := Iff.rfl
def ic_ref08_Code (p : Nums) : IC := (.seq (.region [⟨(some 1), (.box (.t 0)), none, false⟩, ⟨(some 2), (.asg (.c (.d (.int .i64 0)))), none, false⟩] []) (.seq (.region [⟨(some 3), (.asg (.c (.d (.int .i64 0)))), none, false⟩] []) (.seq (.seq (.region [⟨(some 4), (.asg (.c (.d (.int .i64 0)))), none, false⟩] []) (.block 0 (.loop (ref08_Code_c4 p)))) (.seq (.region [⟨(some 21), (.mov (.t 3)), none, false⟩, ⟨(some 2), (.asg (.t 21)), none, false⟩] []) .ret))))
@[simp] def ref08_Instr_o1 (p : Nums) : List IOp := [qo 8 (.faddr 0 (.t 3)), qo 9 (.load none (.t 8)), qo 10 (.bin .lss (.t 9) (ci 1)), qo 11 (.mov (.t 10)), ⟨(some 12), (.faddr 0 (.t 3)), (some (11, false)), false⟩, ⟨(some 13), (.load none (.t 12)), (some (11, false)), false⟩, ⟨(some 14), (.bin .gtr (.t 13) (ci 18)), (some (11, false)), false⟩, qo 15 (.pick (.t 11) (.c (.d (.bool true))) (.t 14)), qo 16 (.mov (.t 15)), ⟨(some 17), (.faddr 0 (.t 3)), (some (16, false)), false⟩, ⟨(some 18), (.load none (.t 17)), (some (16, false)), false⟩, ⟨(some 19), (.bin .eql (.t 18) (ci 2)), (some (16, false)), false⟩, qo 20 (.pick (.t 16) (.c (.d (.bool true))) (.t 19))]
def ref08_Instr_c1 (p : Nums) : IC := (.region (ref08_Instr_o1 p) [])
@[simp] theorem ref08_Instr_c1_eq {P m Q st} {p : Nums} : AW P m (ref08_Instr_c1 p) Q st ↔ AW P m (.region (ref08_Instr_o1 p) []) Q st := Iff.rfl
def ref08_Instr_c2 (p : Nums) : IC := (.seq (.region [⟨(some 6), (.asg (.c (.d (.int .i64 8)))), none, false⟩] []) .ret)
@[simp] theorem ref08_Instr_c2_eq {P m Q st} {p : Nums} : AW P m (ref08_Instr_c2 p) Q st ↔ AW P m (.seq (.region [⟨(some 6), (.asg (.c (.d (.int .i64 8)))), none, false⟩] []) .ret) Q st := Iff.rfl
@[simp] def ref08_Instr_o3 (p : Nums) : List IOp := [qo 21 (.faddr 0 (.t 3)), qo 22 (.load none (.t 21)), qo 23 (.bin .eql (.t 22) (ci 18))]
def ref08_Instr_c3 (p : Nums) : IC := (.region (ref08_Instr_o3 p) [])
@[simp] theorem ref08_Instr_c3_eq {P m Q st} {p : Nums} : AW P m (ref08_Instr_c3 p) Q st ↔ AW P m (.region (ref08_Instr_o3 p) []) Q st := Iff.rfl
@[simp] def ref08_Instr_o4 (p : Nums) : List IOp := [qo 24 (.faddr 5 (.t 3)), qo 25 (.load none (.t 24)), qo 26 (.mov (.t 1)), qo 27 (.mov (.t 2)), qo 28 (.call p.ref04_InRange [(.t 25), (.t 26), (.t 27)]), qo 29 (.un .not (.t 28)), qo 30 (.mov (.t 29)), ⟨(some 31), (.faddr 6 (.t 3)), (some (30, false)), false⟩, ⟨(some 32), (.load none (.t 31)), (some (30, false)), false⟩, ⟨(some 33), (.mov (.t 1)), (some (30, false)), false⟩, ⟨(some 34), (.mov (.t 2)), (some (30, false)), false⟩, ⟨(some 35), (.call p.ref04_InRange [(.t 32), (.t 33), (.t 34)]), (some (30, false)), false⟩, ⟨(some 36), (.un .not (.t 35)), (some (30, false)), false⟩, qo 37 (.pick (.t 30) (.c (.d (.bool true))) (.t 36)), qo 38 (.mov (.t 37)), ⟨(some 39), (.faddr 5 (.t 3)), (some (38, false)), false⟩, ⟨(some 40), (.load none (.t 39)), (some (38, false)), false⟩, ⟨(some 41), (.bin .rem (.t 40) (ci 2)), (some (38, false)), false⟩, ⟨(some 42), (.bin .eql (.t 41) (ci 1)), (some (38, false)), false⟩, ⟨(some 43), (.mov (.t 42)), (some (38, false)), false⟩, ⟨(some 44), (.faddr 6 (.t 3)), (some (43, true)), false⟩, ⟨(some 45), (.load none (.t 44)), (some (43, true)), false⟩, ⟨(some 46), (.bin .rem (.t 45) (ci 2)), (some (43, true)), false⟩, ⟨(some 47), (.bin .eql (.t 46) (ci 1)), (some (43, true)), false⟩, ⟨(some 48), (.pick (.t 43) (.t 47) (.c (.d (.bool false)))), (some (38, false)), false⟩, qo 49 (.pick (.t 38) (.c (.d (.bool true))) (.t 48))]
def ref08_Instr_c4 (p : Nums) : IC := (.region (ref08_Instr_o4 p) [])
@[simp] theorem ref08_Instr_c4_eq {P m Q st} {p : Nums} : AW P m (ref08_Instr_c4 p) Q st ↔ AW P m (.region (ref08_Instr_o4 p) []) Q st := Iff.rfl
def ref08_Instr_c5 (p : Nums) : IC := (.seq (.region [⟨(some 6), (.asg (.c (.d (.int .i64 10)))), none, false⟩] []) .ret)
@[simp] theorem ref08_Instr_c5_eq {P m Q st} {p : Nums} : AW P m (ref08_Instr_c5 p) Q st ↔ AW P m (.seq (.region [⟨(some 6), (.asg (.c (.d (.int .i64 10)))), none, false⟩] []) .ret) Q st := Iff.rfl
@[simp] def ref08_Instr_o6 (p : Nums) : List IOp := [qo 50 (.faddr 1 (.t 3)), qo 51 (.load none (.t 50)), qo 52 (.bin .neq (.t 51) (ci 0)), qo 53 (.mov (.t 52)), ⟨(some 54), (.faddr 2 (.t 3)), (some (53, false)), false⟩, ⟨(some 55), (.load none (.t 54)), (some (53, false)), false⟩, ⟨(some 56), (.bin .neq (.t 55) (ci 0)), (some (53, false)), false⟩, qo 57 (.pick (.t 53) (.c (.d (.bool true))) (.t 56)), qo 58 (.mov (.t 57)), ⟨(some 59), (.faddr 3 (.t 3)), (some (58, false)), false⟩, ⟨(some 60), (.load none (.t 59)), (some (58, false)), false⟩, ⟨(some 61), (.bin .neq (.t 60) (ci 0)), (some (58, false)), false⟩, qo 62 (.pick (.t 58) (.c (.d (.bool true))) (.t 61)), qo 63 (.mov (.t 62)), ⟨(some 64), (.faddr 4 (.t 3)), (some (63, false)), false⟩, ⟨(some 65), (.load none (.t 64)), (some (63, false)), false⟩, ⟨(some 66), (.bin .neq (.t 65) (ci 0)), (some (63, false)), false⟩, qo 67 (.pick (.t 63) (.c (.d (.bool true))) (.t 66))]
def ref08_Instr_c6 (p : Nums) : IC := (.region (ref08_Instr_o6 p) [])
@[simp] theorem ref08_Instr_c6_eq {P m Q st} {p : Nums} : AW P m (ref08_Instr_c6 p) Q st ↔ AW P m (.region (ref08_Instr_o6 p) []) Q st := Iff.rfl
def ref08_Instr_c7 (p : Nums) : IC := (.seq (.region [⟨(some 6), (.asg (.c (.d (.int .i64 12)))), none, false⟩] []) .ret)
@[simp] theorem ref08_Instr_c7_eq {P m Q st} {p : Nums} : AW P m (ref08_Instr_c7 p) Q st ↔ AW P m (.seq (.region [⟨(some 6), (.asg (.c (.d (.int .i64 12)))), none, false⟩] []) .ret) Q st := Iff.rfl
def ref08_Instr_c8 (p : Nums) : IC := (.seq (.seq (ref08_Instr_c4 p) (.cond (.t 49) (ref08_Instr_c5 p) .skip)) (.seq (.seq (ref08_Instr_c6 p) (.cond (.t 67) (ref08_Instr_c7 p) .skip)) (.seq (.region [⟨(some 6), (.asg (.c (.d (.int .i64 0)))), none, false⟩] []) .ret)))
@[simp] theorem ref08_Instr_c8_eq {P m Q st} {p : Nums} : AW P m (ref08_Instr_c8 p) Q st ↔ AW P m (.seq (.seq (ref08_Instr_c4 p) (.cond (.t 49) (ref08_Instr_c5 p) .skip)) (.seq (.seq (ref08_Instr_c6 p) (.cond (.t 67) (ref08_Instr_c7 p) .skip)) (.seq (.region [⟨(some 6), (.asg (.c (.d (.int .i64 0)))), none, false⟩] []) .ret))) Q st := Iff.rfl
@[simp] def ref08_Instr_o9 (p : Nums) : List IOp := [qo 68 (.faddr 0 (.t 3)), qo 69 (.load none (.t 68)), qo 70 (.faddr 1 (.t 3)), qo 71 (.load none (.t 70)), qo 72 (.faddr 2 (.t 3)), qo 73 (.load none (.t 72)), qo 74 (.faddr 3 (.t 3)), qo 75 (.load none (.t 74)), qo 76 (.faddr 4 (.t 3)), qo 77 (.load none (.t 76)), qo 78 (.build [(zi 0), (zi 0), (zi 0), (zi 0), (zi 0)] [(0, 1, (.t 69)), (1, 1, (.t 71)), (2, 1, (.t 73)), (3, 1, (.t 75)), (4, 1, (.t 77))]), qo 79 (.mov (.t 1)), qo 80 (.call p.ref07_Instr [(.t 78), (.t 79)]), qo 7 (.asg (.t 80))]
def ref08_Instr_c9 (p : Nums) : IC := (.region (ref08_Instr_o9 p) [])
@[simp] theorem ref08_Instr_c9_eq {P m Q st} {p : Nums} : AW P m (ref08_Instr_c9 p) Q st ↔ AW P m (.region (ref08_Instr_o9 p) []) Q st := Iff.rfl
@[simp] def ref08_Instr_o10 (p : Nums) : List IOp := [qo 81 (.mov (.t 7)), qo 82 (.bin .eql (.t 81) (ci 0)), qo 83 (.mov (.t 82)), ⟨(some 84), (.faddr 5 (.t 3)), (some (83, true)), false⟩, ⟨(some 85), (.load none (.t 84)), (some (83, true)), false⟩, ⟨(some 86), (.bin .neq (.t 85) (ci 0)), (some (83, true)), false⟩, ⟨(some 87), (.mov (.t 86)), (some (83, true)), false⟩, ⟨(some 88), (.faddr 6 (.t 3)), (some (87, false)), false⟩, ⟨(some 89), (.load none (.t 88)), (some (87, false)), false⟩, ⟨(some 90), (.bin .neq (.t 89) (ci 0)), (some (87, false)), false⟩, ⟨(some 91), (.pick (.t 87) (.c (.d (.bool true))) (.t 90)), (some (83, true)), false⟩, qo 92 (.pick (.t 83) (.t 91) (.c (.d (.bool false))))]
def ref08_Instr_c10 (p : Nums) : IC := (.region (ref08_Instr_o10 p) [])
@[simp] theorem ref08_Instr_c10_eq {P m Q st} {p : Nums} : AW P m (ref08_Instr_c10 p) Q st ↔ AW P m (.region (ref08_Instr_o10 p) []) Q st := Iff.rfl
def ref08_Instr_c11 (p : Nums) : IC := (.seq (.region [⟨(some 6), (.asg (.c (.d (.int .i64 12)))), none, false⟩] []) .ret)
@[simp] theorem ref08_Instr_c11_eq {P m Q st} {p : Nums} : AW P m (ref08_Instr_c11 p) Q st ↔ AW P m (.seq (.region [⟨(some 6), (.asg (.c (.d (.int .i64 12)))), none, false⟩] []) .ret) Q st := Iff.rfl
def ic_ref08_Instr (p : Nums) : IC := (.seq (.region [⟨(some 3), (.box (.t 0)), none, false⟩, ⟨(some 6), (.asg (.c (.d (.int .i64 0)))), none, false⟩] []) (.seq (.seq (ref08_Instr_c1 p) (.cond (.t 20) (ref08_Instr_c2 p) .skip)) (.seq (.seq (ref08_Instr_c3 p) (.cond (.t 23) (ref08_Instr_c8 p) .skip)) (.seq (ref08_Instr_c9 p) (.seq (.seq (ref08_Instr_c10 p) (.cond (.t 92) (ref08_Instr_c11 p) .skip)) (.seq (.region [⟨(some 93), (.mov (.t 7)), none, false⟩, ⟨(some 6), (.asg (.t 93)), none, false⟩] []) .ret))))))
@[simp] def ref08_Moves_o1 (p : Nums) : List IOp := [qo 6 (.mov (.t 4)), qo 7 (.mov (.t 0)), qo 8 (.len (.t 7)), qo 9 (.bin .lss (.t 6) (.t 8))]
def ref08_Moves_c1 (p : Nums) : IC := (.region (ref08_Moves_o1 p) [])
@[simp] theorem ref08_Moves_c1_eq {P m Q st} {p : Nums} : AW P m (ref08_Moves_c1 p) Q st ↔ AW P m (.region (ref08_Moves_o1 p) []) Q st := Iff.rfl
@[simp] def ref08_Moves_o2 (p : Nums) : List IOp := [qo 12 (.mov (.t 4)), qo 13 (.mov (.t 5)), qo 14 (.bin .add (.t 12) (.t 13)), qo 15 (.mov (.t 0)), qo 16 (.len (.t 15)), qo 17 (.bin .lss (.t 14) (.t 16)), qo 18 (.mov (.t 17)), ⟨(some 19), (.mov (.t 0)), (some (18, true)), false⟩, ⟨(some 20), (.mov (.t 4)), (some (18, true)), false⟩, ⟨(some 21), (.mov (.t 5)), (some (18, true)), false⟩, ⟨(some 22), (.bin .add (.t 20) (.t 21)), (some (18, true)), false⟩, ⟨(some 23), (.iaddr 7 (.t 19) (.t 22)), (some (18, true)), false⟩, ⟨(some 24), (.faddr 0 (.t 23)), (some (18, true)), false⟩, ⟨(some 25), (.load none (.t 24)), (some (18, true)), false⟩, ⟨(some 26), (.bin .eql (.t 25) (ci 18)), (some (18, true)), false⟩, qo 27 (.pick (.t 18) (.t 26) (.c (.d (.bool false))))]
def ref08_Moves_c2 (p : Nums) : IC := (.region (ref08_Moves_o2 p) [])
@[simp] theorem ref08_Moves_c2_eq {P m Q st} {p : Nums} : AW P m (ref08_Moves_c2 p) Q st ↔ AW P m (.region (ref08_Moves_o2 p) []) Q st := Iff.rfl
@[simp] def ref08_Moves_o3 (p : Nums) : List IOp := [qo 28 (.mov (.t 5)), qo 29 (.bin .add (.t 28) (ci 1)), qo 5 (.asg (.t 29))]
def ref08_Moves_c3 (p : Nums) : IC := (.region (ref08_Moves_o3 p) [])
@[simp] theorem ref08_Moves_c3_eq {P m Q st} {p : Nums} : AW P m (ref08_Moves_c3 p) Q st ↔ AW P m (.region (ref08_Moves_o3 p) []) Q st := Iff.rfl
def ref08_Moves_c4 (p : Nums) : IC := (.seq (.seq (ref08_Moves_c2 p) (.cond (.t 27) .skip (.exit 2))) (.block 3 (ref08_Moves_c3 p)))
@[simp] theorem ref08_Moves_c4_eq {P m Q st} {p : Nums} : AW P m (ref08_Moves_c4 p) Q st ↔ AW P m (.seq (.seq (ref08_Moves_c2 p) (.cond (.t 27) .skip (.exit 2))) (.block 3 (ref08_Moves_c3 p))) Q st := Iff.rfl
@[simp] def ref08_Moves_o5 (p : Nums) : List IOp := [qo 30 (.mov (.t 5)), qo 31 (.mov (.t 3)), qo 32 (.bin .gtr (.t 30) (.t 31))]
def ref08_Moves_c5 (p : Nums) : IC := (.region (ref08_Moves_o5 p) [])
@[simp] theorem ref08_Moves_c5_eq {P m Q st} {p : Nums} : AW P m (ref08_Moves_c5 p) Q st ↔ AW P m (.region (ref08_Moves_o5 p) []) Q st := Iff.rfl
@[simp] def ref08_Moves_o6 (p : Nums) : List IOp := [qo 33 (.mov (.t 5)), qo 3 (.asg (.t 33))]
def ref08_Moves_c6 (p : Nums) : IC := (.region (ref08_Moves_o6 p) [])
@[simp] theorem ref08_Moves_c6_eq {P m Q st} {p : Nums} : AW P m (ref08_Moves_c6 p) Q st ↔ AW P m (.region (ref08_Moves_o6 p) []) Q st := Iff.rfl
def ref08_Moves_c7 (p : Nums) : IC := (.seq (.region [⟨(some 5), (.asg (.c (.d (.int .i64 0)))), none, false⟩] []) (.seq (.block 2 (.loop (ref08_Moves_c4 p))) (.seq (ref08_Moves_c5 p) (.cond (.t 32) (ref08_Moves_c6 p) .skip))))
@[simp] theorem ref08_Moves_c7_eq {P m Q st} {p : Nums} : AW P m (ref08_Moves_c7 p) Q st ↔ AW P m (.seq (.region [⟨(some 5), (.asg (.c (.d (.int .i64 0)))), none, false⟩] []) (.seq (.block 2 (.loop (ref08_Moves_c4 p))) (.seq (ref08_Moves_c5 p) (.cond (.t 32) (ref08_Moves_c6 p) .skip)))) Q st := Iff.rfl
@[simp] def ref08_Moves_o8 (p : Nums) : List IOp := [qo 10 (.mov (.t 4)), qo 11 (.bin .add (.t 10) (ci 1)), qo 4 (.asg (.t 11))]
def ref08_Moves_c8 (p : Nums) : IC := (.region (ref08_Moves_o8 p) [])
@[simp] theorem ref08_Moves_c8_eq {P m Q st} {p : Nums} : AW P m (ref08_Moves_c8 p) Q st ↔ AW P m (.region (ref08_Moves_o8 p) []) Q st := Iff.rfl
def ref08_Moves_c9 (p : Nums) : IC := (.seq (.seq (ref08_Moves_c1 p) (.cond (.t 9) .skip (.exit 0))) (.seq (.block 1 (ref08_Moves_c7 p)) (ref08_Moves_c8 p)))
@[simp] theorem ref08_Moves_c9_eq {P m Q st} {p : Nums} : AW P m (ref08_Moves_c9 p) Q st ↔ AW P m (.seq (.seq (ref08_Moves_c1 p) (.cond (.t 9) .skip (.exit 0))) (.seq (.block 1 (ref08_Moves_c7 p)) (ref08_Moves_c8 p))) Q st := Iff.rfl
def ic_ref08_Moves (p : Nums) : IC := (.seq (.region [⟨(some 2), (.asg (.c (.d (.int .i64 0)))), none, false⟩] []) (.seq (.region [⟨(some 3), (.asg (.c (.d (.int .i64 0)))), none, false⟩] []) (.seq (.seq (.region [⟨(some 4), (.asg (.c (.d (.int .i64 0)))), none, false⟩] []) (.block 0 (.loop (ref08_Moves_c9 p)))) (.seq (.region [⟨(some 34), (.mov (.t 3)), none, false⟩, ⟨(some 2), (.asg (.t 34)), none, false⟩] []) .ret))))
@[simp] def align_skip_Instr_o1 (p : Nums) : List IOp := [qo 7 (.mov (.t 1)), qo 8 (.mov (.t 0)), qo 9 (.len (.t 8)), qo 10 (.bin .lss (.t 7) (.t 9)), qo 11 (.mov (.t 10)), ⟨(some 12), (.mov (.t 2)), (some (11, true)), false⟩, ⟨(some 13), (.mov (.t 0)), (some (11, true)), false⟩, ⟨(some 14), (.mov (.t 1)), (some (11, true)), false⟩, ⟨(some 15), (.iaddr 5 (.t 13) (.t 14)), (some (11, true)), false⟩, ⟨(some 16), (.load (some 5) (.t 15)), (some (11, true)), false⟩, ⟨(some 17), (.callv (.t 12) [(.t 16)]), (some (11, true)), false⟩, qo 18 (.pick (.t 11) (.t 17) (.c (.d (.bool false))))]
def align_skip_Instr_c1 (p : Nums) : IC := (.region (align_skip_Instr_o1 p) [])
@[simp] theorem align_skip_Instr_c1_eq {P m Q st} {p : Nums} : AW P m (align_skip_Instr_c1 p) Q st ↔ AW P m (.region (align_skip_Instr_o1 p) []) Q st := Iff.rfl
@[simp] def align_skip_Instr_o2 (p : Nums) : List IOp := [qo 19 (.mov (.t 1)), qo 20 (.bin .add (.t 19) (ci 1)), qo 1 (.asg (.t 20))]
def align_skip_Instr_c2 (p : Nums) : IC := (.region (align_skip_Instr_o2 p) [])
@[simp] theorem align_skip_Instr_c2_eq {P m Q st} {p : Nums} : AW P m (align_skip_Instr_c2 p) Q st ↔ AW P m (.region (align_skip_Instr_o2 p) []) Q st := Iff.rfl
def align_skip_Instr_c3 (p : Nums) : IC := (.seq (.seq (align_skip_Instr_c1 p) (.cond (.t 18) .skip (.exit 0))) (.block 1 (align_skip_Instr_c2 p)))
@[simp] theorem align_skip_Instr_c3_eq {P m Q st} {p : Nums} : AW P m (align_skip_Instr_c3 p) Q st ↔ AW P m (.seq (.seq (align_skip_Instr_c1 p) (.cond (.t 18) .skip (.exit 0))) (.block 1 (align_skip_Instr_c2 p))) Q st := Iff.rfl
def ic_align_skip_Instr (p : Nums) : IC := (.seq (.region [⟨(some 6), (.asg (.c (.d (.int .i64 0)))), none, false⟩] []) (.seq (.block 0 (.loop (align_skip_Instr_c3 p))) (.seq (.region [⟨(some 21), (.mov (.t 1)), none, false⟩, ⟨(some 6), (.asg (.t 21)), none, false⟩] []) .ret)))
@[simp] def align_copied_o1 (p : Nums) : List IOp := [qo 3 (.faddr 0 (.t 1)), qo 4 (.load none (.t 3)), qo 5 (.bin .eql (.t 4) (ci 2)), qo 2 (.asg (.t 5))]
def align_copied_c1 (p : Nums) : IC := (.region (align_copied_o1 p) [])
@[simp] theorem align_copied_c1_eq {P m Q st} {p : Nums} : AW P m (align_copied_c1 p) Q st ↔ AW P m (.region (align_copied_o1 p) []) Q st := Iff.rfl
def ic_align_copied (p : Nums) : IC := (.seq (.region [⟨(some 1), (.box (.t 0)), none, false⟩, ⟨(some 2), (.asg (.c (.d (.bool false)))), none, false⟩] []) (.seq (align_copied_c1 p) .ret))
@[simp] def align_skip_Mach_o1 (p : Nums) : List IOp := [qo 7 (.mov (.t 1)), qo 8 (.mov (.t 0)), qo 9 (.len (.t 8)), qo 10 (.bin .lss (.t 7) (.t 9)), qo 11 (.mov (.t 10)), ⟨(some 12), (.mov (.t 2)), (some (11, true)), false⟩, ⟨(some 13), (.mov (.t 0)), (some (11, true)), false⟩, ⟨(some 14), (.mov (.t 1)), (some (11, true)), false⟩, ⟨(some 15), (.iaddr 7 (.t 13) (.t 14)), (some (11, true)), false⟩, ⟨(some 16), (.load (some 7) (.t 15)), (some (11, true)), false⟩, ⟨(some 17), (.callv (.t 12) [(.t 16)]), (some (11, true)), false⟩, qo 18 (.pick (.t 11) (.t 17) (.c (.d (.bool false))))]
def align_skip_Mach_c1 (p : Nums) : IC := (.region (align_skip_Mach_o1 p) [])
@[simp] theorem align_skip_Mach_c1_eq {P m Q st} {p : Nums} : AW P m (align_skip_Mach_c1 p) Q st ↔ AW P m (.region (align_skip_Mach_o1 p) []) Q st := Iff.rfl
@[simp] def align_skip_Mach_o2 (p : Nums) : List IOp := [qo 19 (.mov (.t 1)), qo 20 (.bin .add (.t 19) (ci 1)), qo 1 (.asg (.t 20))]
def align_skip_Mach_c2 (p : Nums) : IC := (.region (align_skip_Mach_o2 p) [])
@[simp] theorem align_skip_Mach_c2_eq {P m Q st} {p : Nums} : AW P m (align_skip_Mach_c2 p) Q st ↔ AW P m (.region (align_skip_Mach_o2 p) []) Q st := Iff.rfl
def align_skip_Mach_c3 (p : Nums) : IC := (.seq (.seq (align_skip_Mach_c1 p) (.cond (.t 18) .skip (.exit 0))) (.block 1 (align_skip_Mach_c2 p)))
@[simp] theorem align_skip_Mach_c3_eq {P m Q st} {p : Nums} : AW P m (align_skip_Mach_c3 p) Q st ↔ AW P m (.seq (.seq (align_skip_Mach_c1 p) (.cond (.t 18) .skip (.exit 0))) (.block 1 (align_skip_Mach_c2 p))) Q st := Iff.rfl
def ic_align_skip_Mach (p : Nums) : IC := (.seq (.region [⟨(some 6), (.asg (.c (.d (.int .i64 0)))), none, false⟩] []) (.seq (.block 0 (.loop (align_skip_Mach_c3 p))) (.seq (.region [⟨(some 21), (.mov (.t 1)), none, false⟩, ⟨(some 6), (.asg (.t 21)), none, false⟩] []) .ret)))
@[simp] def align_moved_o1 (p : Nums) : List IOp := [qo 3 (.faddr 0 (.t 1)), qo 4 (.load none (.t 3)), qo 5 (.bin .eql (.t 4) (ci 18)), qo 2 (.asg (.t 5))]
def align_moved_c1 (p : Nums) : IC := (.region (align_moved_o1 p) [])
@[simp] theorem align_moved_c1_eq {P m Q st} {p : Nums} : AW P m (align_moved_c1 p) Q st ↔ AW P m (.region (align_moved_o1 p) []) Q st := Iff.rfl
def ic_align_moved (p : Nums) : IC := (.seq (.region [⟨(some 1), (.box (.t 0)), none, false⟩, ⟨(some 2), (.asg (.c (.d (.bool false)))), none, false⟩] []) (.seq (align_moved_c1 p) .ret))
@[simp] def align_Same_o1 (p : Nums) : List IOp := [qo 2 (.box (.t 0)), qo 3 (.box (.t 1)), qo 4 (.asg (.c (.d (.bool false))))]
def align_Same_c1 (p : Nums) : IC := (.region (align_Same_o1 p) [])
@[simp] theorem align_Same_c1_eq {P m Q st} {p : Nums} : AW P m (align_Same_c1 p) Q st ↔ AW P m (.region (align_Same_o1 p) []) Q st := Iff.rfl
@[simp] def align_Same_o2 (p : Nums) : List IOp := [qo 5 (.faddr 0 (.t 2)), qo 6 (.load none (.t 5)), qo 7 (.faddr 0 (.t 3)), qo 8 (.load none (.t 7)), qo 9 (.bin .eql (.t 6) (.t 8)), qo 10 (.mov (.t 9)), ⟨(some 11), (.faddr 4 (.t 2)), (some (10, true)), false⟩, ⟨(some 12), (.load none (.t 11)), (some (10, true)), false⟩, ⟨(some 13), (.faddr 4 (.t 3)), (some (10, true)), false⟩, ⟨(some 14), (.load none (.t 13)), (some (10, true)), false⟩, ⟨(some 15), (.bin .eql (.t 12) (.t 14)), (some (10, true)), false⟩, qo 16 (.pick (.t 10) (.t 15) (.c (.d (.bool false)))), qo 17 (.mov (.t 16)), ⟨(some 18), (.faddr 0 (.t 2)), (some (17, true)), false⟩, ⟨(some 19), (.load none (.t 18)), (some (17, true)), false⟩, ⟨(some 20), (.bin .neq (.t 19) (ci 2)), (some (17, true)), false⟩, qo 21 (.pick (.t 17) (.t 20) (.c (.d (.bool false)))), qo 22 (.mov (.t 21)), ⟨(some 23), (.faddr 0 (.t 2)), (some (22, true)), false⟩, ⟨(some 24), (.load none (.t 23)), (some (22, true)), false⟩, ⟨(some 25), (.bin .neq (.t 24) (ci 18)), (some (22, true)), false⟩, qo 26 (.pick (.t 22) (.t 25) (.c (.d (.bool false)))), qo 4 (.asg (.t 26))]
def align_Same_c2 (p : Nums) : IC := (.region (align_Same_o2 p) [])
@[simp] theorem align_Same_c2_eq {P m Q st} {p : Nums} : AW P m (align_Same_c2 p) Q st ↔ AW P m (.region (align_Same_o2 p) []) Q st := Iff.rfl
def ic_align_Same (p : Nums) : IC := (.seq (align_Same_c1 p) (.seq (align_Same_c2 p) .ret))
@[simp] def blockcheck_checker_row_o1 (p : Nums) : List IOp := [qo 11 (.faddr 0 (.t 5)), qo 12 (.load none (.t 11)), qo 13 (.faddr 0 (.t 7)), qo 14 (.load none (.t 13)), qo 15 (.faddr 1 (.t 7)), qo 16 (.load none (.t 15)), qo 17 (.slc 5 (.t 12) (some (.t 14)) (some (.t 16))), qo 18 (.len (.t 17)), qo 19 (.mov (ci 0))]
def blockcheck_checker_row_c1 (p : Nums) : IC := (.region (blockcheck_checker_row_o1 p) [])
@[simp] theorem blockcheck_checker_row_c1_eq {P m Q st} {p : Nums} : AW P m (blockcheck_checker_row_c1 p) Q st ↔ AW P m (.region (blockcheck_checker_row_o1 p) []) Q st := Iff.rfl
@[simp] def blockcheck_checker_row_o2 (p : Nums) : List IOp := [qo 21 (.iaddr 5 (.t 17) (.t 19)), qo 22 (.load (some 5) (.t 21)), qo 9 (.alloc [(zi 0), (zi 0), (zi 0), (zi 0), (zi 0)]), qn (.store 5 (.t 9) (.t 22))]
def blockcheck_checker_row_c2 (p : Nums) : IC := (.region (blockcheck_checker_row_o2 p) [])
@[simp] theorem blockcheck_checker_row_c2_eq {P m Q st} {p : Nums} : AW P m (blockcheck_checker_row_c2 p) Q st ↔ AW P m (.region (blockcheck_checker_row_o2 p) []) Q st := Iff.rfl
@[simp] def blockcheck_checker_row_o3 (p : Nums) : List IOp := [qp 25 (.mov (.t 0)), qp 26 (.mov (.t 0)), qp 27 (.nilck (.t 26)), qp 28 (.faddr 0 (.t 27)), qp 29 (.load none (.t 28)), qp 30 (.faddr 1 (.t 9)), qp 31 (.load none (.t 30)), qp 32 (.faddr 2 (.t 9)), qp 33 (.load none (.t 32)), qp 34 (.call p.transfer_Copy [(.t 29), (.t 31), (.t 33)]), qp 35 (.faddr 2 (.t 7)), qp 36 (.load none (.t 35)), qo 37 (.call p.blockcheck_checker_become [(.t 25), (.t 34), (.t 36)])]
def blockcheck_checker_row_c3 (p : Nums) : IC := (.region (blockcheck_checker_row_o3 p) [])
@[simp] theorem blockcheck_checker_row_c3_eq {P m Q st} {p : Nums} : AW P m (blockcheck_checker_row_c3 p) Q st ↔ AW P m (.region (blockcheck_checker_row_o3 p) []) Q st := Iff.rfl
def blockcheck_checker_row_c4 (p : Nums) : IC := (.seq (blockcheck_checker_row_c2 p) (.seq (.region [⟨(some 23), (.mov (.t 0)), none, false⟩, ⟨(some 24), (.call p.blockcheck_checker_cost [(.t 23)]), none, false⟩] []) (blockcheck_checker_row_c3 p)))
@[simp] theorem blockcheck_checker_row_c4_eq {P m Q st} {p : Nums} : AW P m (blockcheck_checker_row_c4 p) Q st ↔ AW P m (.seq (blockcheck_checker_row_c2 p) (.seq (.region [⟨(some 23), (.mov (.t 0)), none, false⟩, ⟨(some 24), (.call p.blockcheck_checker_cost [(.t 23)]), none, false⟩] []) (blockcheck_checker_row_c3 p))) Q st := Iff.rfl
def blockcheck_checker_row_c5 (p : Nums) : IC := (.seq (.region [⟨(some 20), (.bin .lss (.t 19) (.t 18)), none, false⟩] []) (.seq (.cond (.t 20) .skip (.exit 0)) (.seq (.block 1 (blockcheck_checker_row_c4 p)) (.region [⟨(some 38), (.bin .add (.t 19) (.c (.d (.int .i64 1)))), none, false⟩, ⟨(some 19), (.mov (.t 38)), none, false⟩] []))))
@[simp] theorem blockcheck_checker_row_c5_eq {P m Q st} {p : Nums} : AW P m (blockcheck_checker_row_c5 p) Q st ↔ AW P m (.seq (.region [⟨(some 20), (.bin .lss (.t 19) (.t 18)), none, false⟩] []) (.seq (.cond (.t 20) .skip (.exit 0)) (.seq (.block 1 (blockcheck_checker_row_c4 p)) (.region [⟨(some 38), (.bin .add (.t 19) (.c (.d (.int .i64 1)))), none, false⟩, ⟨(some 19), (.mov (.t 38)), none, false⟩] [])))) Q st := Iff.rfl
@[simp] def blockcheck_checker_row_o6 (p : Nums) : List IOp := [qo 39 (.faddr 2 (.t 7)), qo 40 (.load none (.t 39)), qo 10 (.asg (.t 40))]
def blockcheck_checker_row_c6 (p : Nums) : IC := (.region (blockcheck_checker_row_o6 p) [])
@[simp] theorem blockcheck_checker_row_c6_eq {P m Q st} {p : Nums} : AW P m (blockcheck_checker_row_c6 p) Q st ↔ AW P m (.region (blockcheck_checker_row_o6 p) []) Q st := Iff.rfl
@[simp] def blockcheck_checker_row_o7 (p : Nums) : List IOp := [qo 41 (.mov (.t 10)), qo 42 (.faddr 3 (.t 7)), qo 43 (.load none (.t 42)), qo 44 (.bin .lss (.t 41) (.t 43))]
def blockcheck_checker_row_c7 (p : Nums) : IC := (.region (blockcheck_checker_row_o7 p) [])
@[simp] theorem blockcheck_checker_row_c7_eq {P m Q st} {p : Nums} : AW P m (blockcheck_checker_row_c7 p) Q st ↔ AW P m (.region (blockcheck_checker_row_o7 p) []) Q st := Iff.rfl
@[simp] def blockcheck_checker_row_o8 (p : Nums) : List IOp := [qp 49 (.mov (.t 0)), qp 50 (.mov (.t 0)), qp 51 (.nilck (.t 50)), qp 52 (.faddr 0 (.t 51)), qp 53 (.load none (.t 52)), qp 54 (.faddr 0 (.t 6)), qp 55 (.load none (.t 54)), qp 56 (.mov (.t 10)), qp 57 (.iaddr 7 (.t 55) (.t 56)), qp 58 (.faddr 5 (.t 57)), qp 59 (.load none (.t 58)), qp 60 (.faddr 0 (.t 6)), qp 61 (.load none (.t 60)), qp 62 (.mov (.t 10)), qp 63 (.iaddr 7 (.t 61) (.t 62)), qp 64 (.faddr 6 (.t 63)), qp 65 (.load none (.t 64)), qp 66 (.call p.transfer_Move [(.t 53), (.t 59), (.t 65)]), qp 67 (.mov (.t 10)), qo 68 (.call p.blockcheck_checker_become [(.t 49), (.t 66), (.t 67)])]
def blockcheck_checker_row_c8 (p : Nums) : IC := (.region (blockcheck_checker_row_o8 p) [])
@[simp] theorem blockcheck_checker_row_c8_eq {P m Q st} {p : Nums} : AW P m (blockcheck_checker_row_c8 p) Q st ↔ AW P m (.region (blockcheck_checker_row_o8 p) []) Q st := Iff.rfl
def blockcheck_checker_row_c9 (p : Nums) : IC := (.seq (.region [⟨(some 47), (.mov (.t 0)), none, false⟩, ⟨(some 48), (.call p.blockcheck_checker_cost [(.t 47)]), none, false⟩] []) (blockcheck_checker_row_c8 p))
@[simp] theorem blockcheck_checker_row_c9_eq {P m Q st} {p : Nums} : AW P m (blockcheck_checker_row_c9 p) Q st ↔ AW P m (.seq (.region [⟨(some 47), (.mov (.t 0)), none, false⟩, ⟨(some 48), (.call p.blockcheck_checker_cost [(.t 47)]), none, false⟩] []) (blockcheck_checker_row_c8 p)) Q st := Iff.rfl
@[simp] def blockcheck_checker_row_o10 (p : Nums) : List IOp := [qo 45 (.mov (.t 10)), qo 46 (.bin .add (.t 45) (ci 1)), qo 10 (.asg (.t 46))]
def blockcheck_checker_row_c10 (p : Nums) : IC := (.region (blockcheck_checker_row_o10 p) [])
@[simp] theorem blockcheck_checker_row_c10_eq {P m Q st} {p : Nums} : AW P m (blockcheck_checker_row_c10 p) Q st ↔ AW P m (.region (blockcheck_checker_row_o10 p) []) Q st := Iff.rfl
def blockcheck_checker_row_c11 (p : Nums) : IC := (.seq (.seq (blockcheck_checker_row_c7 p) (.cond (.t 44) .skip (.exit 2))) (.seq (.block 3 (blockcheck_checker_row_c9 p)) (blockcheck_checker_row_c10 p)))
@[simp] theorem blockcheck_checker_row_c11_eq {P m Q st} {p : Nums} : AW P m (blockcheck_checker_row_c11 p) Q st ↔ AW P m (.seq (.seq (blockcheck_checker_row_c7 p) (.cond (.t 44) .skip (.exit 2))) (.seq (.block 3 (blockcheck_checker_row_c9 p)) (blockcheck_checker_row_c10 p))) Q st := Iff.rfl
@[simp] def blockcheck_checker_row_o12 (p : Nums) : List IOp := [qo 69 (.faddr 4 (.t 7)), qo 70 (.load none (.t 69)), qo 71 (.bin .geq (.t 70) (ci 0))]
def blockcheck_checker_row_c12 (p : Nums) : IC := (.region (blockcheck_checker_row_o12 p) [])
@[simp] theorem blockcheck_checker_row_c12_eq {P m Q st} {p : Nums} : AW P m (blockcheck_checker_row_c12 p) Q st ↔ AW P m (.region (blockcheck_checker_row_o12 p) []) Q st := Iff.rfl
@[simp] def blockcheck_checker_row_o13 (p : Nums) : List IOp := [qp 72 (.mov (.t 0)), qp 73 (.faddr 0 (.t 5)), qp 74 (.load none (.t 73)), qp 75 (.faddr 4 (.t 7)), qp 76 (.load none (.t 75)), qp 77 (.iaddr 5 (.t 74) (.t 76)), qp 78 (.load (some 5) (.t 77)), qp 79 (.faddr 0 (.t 6)), qp 80 (.load none (.t 79)), qp 81 (.faddr 5 (.t 7)), qp 82 (.load none (.t 81)), qp 83 (.iaddr 7 (.t 80) (.t 82)), qp 84 (.load (some 7) (.t 83)), qp 85 (.faddr 5 (.t 7)), qp 86 (.load none (.t 85)), qo 87 (.call p.blockcheck_checker_instr [(.t 72), (.t 78), (.t 84), (.t 86)])]
def blockcheck_checker_row_c13 (p : Nums) : IC := (.region (blockcheck_checker_row_o13 p) [])
@[simp] theorem blockcheck_checker_row_c13_eq {P m Q st} {p : Nums} : AW P m (blockcheck_checker_row_c13 p) Q st ↔ AW P m (.region (blockcheck_checker_row_o13 p) []) Q st := Iff.rfl
def ic_blockcheck_checker_row (p : Nums) : IC := (.seq (.region [⟨(some 5), (.box (.t 1)), none, false⟩, ⟨(some 6), (.box (.t 2)), none, false⟩, ⟨(some 7), (.box (.t 3)), none, false⟩] []) (.seq (.seq (blockcheck_checker_row_c1 p) (.block 0 (.loop (blockcheck_checker_row_c5 p)))) (.seq (.seq (blockcheck_checker_row_c6 p) (.block 2 (.loop (blockcheck_checker_row_c11 p)))) (.seq (blockcheck_checker_row_c12 p) (.cond (.t 71) (blockcheck_checker_row_c13 p) .skip)))))
@[simp] def blockcheck_checker_use_o1 (p : Nums) : List IOp := [qp 10 (.mov (.t 0)), qp 11 (.nilck (.t 10)), qp 12 (.faddr 0 (.t 11)), qp 13 (.load none (.t 12)), qp 14 (.mov (.t 1)), qp 15 (.mov (.t 2)), qp 16 (.call p.location_Reg [(.t 15)]), qp 17 (.build [(zi 0), (zi 0)] [(0, 1, (.t 14)), (1, 1, (.t 16))]), qo 18 (.call p.pairset_Has [(.t 13), (.t 17)]), qo 19 (.un .not (.t 18))]
def blockcheck_checker_use_c1 (p : Nums) : IC := (.region (blockcheck_checker_use_o1 p) [])
@[simp] theorem blockcheck_checker_use_c1_eq {P m Q st} {p : Nums} : AW P m (blockcheck_checker_use_c1 p) Q st ↔ AW P m (.region (blockcheck_checker_use_o1 p) []) Q st := Iff.rfl
@[simp] def blockcheck_checker_use_o2 (p : Nums) : List IOp := [qo 20 (.mov (.t 3)), qo 21 (.build [(zi 0), (zi 0)] [(0, 1, (ci 21)), (1, 1, (.t 20))]), qo 22 (.mkif p.ty_bcfail (.t 21)), qn (.pan (.t 22))]
def blockcheck_checker_use_c2 (p : Nums) : IC := (.region (blockcheck_checker_use_o2 p) [])
@[simp] theorem blockcheck_checker_use_c2_eq {P m Q st} {p : Nums} : AW P m (blockcheck_checker_use_c2 p) Q st ↔ AW P m (.region (blockcheck_checker_use_o2 p) []) Q st := Iff.rfl
def ic_blockcheck_checker_use (p : Nums) : IC := (.seq (.region [⟨(some 8), (.mov (.t 0)), none, false⟩, ⟨(some 9), (.call p.blockcheck_checker_cost [(.t 8)]), none, false⟩] []) (.seq (blockcheck_checker_use_c1 p) (.cond (.t 19) (blockcheck_checker_use_c2 p) .skip)))
@[simp] def ref13_Operations_o1 (p : Nums) : List IOp := [qo 5 (.mov (.t 4)), qo 6 (.mov (.t 0)), qo 7 (.len (.t 6)), qo 8 (.bin .lss (.t 5) (.t 7))]
def ref13_Operations_c1 (p : Nums) : IC := (.region (ref13_Operations_o1 p) [])
@[simp] theorem ref13_Operations_c1_eq {P m Q st} {p : Nums} : AW P m (ref13_Operations_c1 p) Q st ↔ AW P m (.region (ref13_Operations_o1 p) []) Q st := Iff.rfl
@[simp] def ref13_Operations_o2 (p : Nums) : List IOp := [qo 11 (.mov (.t 0)), qo 12 (.mov (.t 4)), qo 13 (.iaddr 5 (.t 11) (.t 12)), qo 14 (.faddr 0 (.t 13)), qo 15 (.load none (.t 14)), qo 16 (.bin .neq (.t 15) (ci 2))]
def ref13_Operations_c2 (p : Nums) : IC := (.region (ref13_Operations_o2 p) [])
@[simp] theorem ref13_Operations_c2_eq {P m Q st} {p : Nums} : AW P m (ref13_Operations_c2 p) Q st ↔ AW P m (.region (ref13_Operations_o2 p) []) Q st := Iff.rfl
@[simp] def ref13_Operations_o3 (p : Nums) : List IOp := [qo 17 (.mov (.t 3)), qo 18 (.mov (.t 4)), qo 19 (.bslice 1 1 [(.int .i64 0)] [(0, (.t 18))]), qo 20 (.app 1 8 (.t 17) (.t 19)), qo 3 (.asg (.t 20))]
def ref13_Operations_c3 (p : Nums) : IC := (.region (ref13_Operations_o3 p) [])
@[simp] theorem ref13_Operations_c3_eq {P m Q st} {p : Nums} : AW P m (ref13_Operations_c3 p) Q st ↔ AW P m (.region (ref13_Operations_o3 p) []) Q st := Iff.rfl
def ref13_Operations_c4 (p : Nums) : IC := (.seq (ref13_Operations_c2 p) (.cond (.t 16) (ref13_Operations_c3 p) .skip))
@[simp] theorem ref13_Operations_c4_eq {P m Q st} {p : Nums} : AW P m (ref13_Operations_c4 p) Q st ↔ AW P m (.seq (ref13_Operations_c2 p) (.cond (.t 16) (ref13_Operations_c3 p) .skip)) Q st := Iff.rfl
@[simp] def ref13_Operations_o5 (p : Nums) : List IOp := [qo 9 (.mov (.t 4)), qo 10 (.bin .add (.t 9) (ci 1)), qo 4 (.asg (.t 10))]
def ref13_Operations_c5 (p : Nums) : IC := (.region (ref13_Operations_o5 p) [])
@[simp] theorem ref13_Operations_c5_eq {P m Q st} {p : Nums} : AW P m (ref13_Operations_c5 p) Q st ↔ AW P m (.region (ref13_Operations_o5 p) []) Q st := Iff.rfl
def ref13_Operations_c6 (p : Nums) : IC := (.seq (.seq (ref13_Operations_c1 p) (.cond (.t 8) .skip (.exit 0))) (.seq (.block 1 (ref13_Operations_c4 p)) (ref13_Operations_c5 p)))
@[simp] theorem ref13_Operations_c6_eq {P m Q st} {p : Nums} : AW P m (ref13_Operations_c6 p) Q st ↔ AW P m (.seq (.seq (ref13_Operations_c1 p) (.cond (.t 8) .skip (.exit 0))) (.seq (.block 1 (ref13_Operations_c4 p)) (ref13_Operations_c5 p))) Q st := Iff.rfl
def ic_ref13_Operations (p : Nums) : IC := (.seq (.region [⟨(some 2), (.asg (.c .nils)), none, false⟩] []) (.seq (.region [⟨(some 3), (.asg (.c .nils)), none, false⟩] []) (.seq (.seq (.region [⟨(some 4), (.asg (.c (.d (.int .i64 0)))), none, false⟩] []) (.block 0 (.loop (ref13_Operations_c6 p)))) (.seq (.region [⟨(some 21), (.mov (.t 3)), none, false⟩, ⟨(some 2), (.asg (.t 21)), none, false⟩] []) .ret))))
@[simp] def ref13_Others_o1 (p : Nums) : List IOp := [qo 5 (.mov (.t 4)), qo 6 (.mov (.t 0)), qo 7 (.len (.t 6)), qo 8 (.bin .lss (.t 5) (.t 7))]
def ref13_Others_c1 (p : Nums) : IC := (.region (ref13_Others_o1 p) [])
@[simp] theorem ref13_Others_c1_eq {P m Q st} {p : Nums} : AW P m (ref13_Others_c1 p) Q st ↔ AW P m (.region (ref13_Others_o1 p) []) Q st := Iff.rfl
@[simp] def ref13_Others_o2 (p : Nums) : List IOp := [qo 11 (.mov (.t 0)), qo 12 (.mov (.t 4)), qo 13 (.iaddr 7 (.t 11) (.t 12)), qo 14 (.faddr 0 (.t 13)), qo 15 (.load none (.t 14)), qo 16 (.bin .neq (.t 15) (ci 18))]
def ref13_Others_c2 (p : Nums) : IC := (.region (ref13_Others_o2 p) [])
@[simp] theorem ref13_Others_c2_eq {P m Q st} {p : Nums} : AW P m (ref13_Others_c2 p) Q st ↔ AW P m (.region (ref13_Others_o2 p) []) Q st := Iff.rfl
@[simp] def ref13_Others_o3 (p : Nums) : List IOp := [qo 17 (.mov (.t 3)), qo 18 (.mov (.t 4)), qo 19 (.bslice 1 1 [(.int .i64 0)] [(0, (.t 18))]), qo 20 (.app 1 8 (.t 17) (.t 19)), qo 3 (.asg (.t 20))]
def ref13_Others_c3 (p : Nums) : IC := (.region (ref13_Others_o3 p) [])
@[simp] theorem ref13_Others_c3_eq {P m Q st} {p : Nums} : AW P m (ref13_Others_c3 p) Q st ↔ AW P m (.region (ref13_Others_o3 p) []) Q st := Iff.rfl
def ref13_Others_c4 (p : Nums) : IC := (.seq (ref13_Others_c2 p) (.cond (.t 16) (ref13_Others_c3 p) .skip))
@[simp] theorem ref13_Others_c4_eq {P m Q st} {p : Nums} : AW P m (ref13_Others_c4 p) Q st ↔ AW P m (.seq (ref13_Others_c2 p) (.cond (.t 16) (ref13_Others_c3 p) .skip)) Q st := Iff.rfl
@[simp] def ref13_Others_o5 (p : Nums) : List IOp := [qo 9 (.mov (.t 4)), qo 10 (.bin .add (.t 9) (ci 1)), qo 4 (.asg (.t 10))]
def ref13_Others_c5 (p : Nums) : IC := (.region (ref13_Others_o5 p) [])
@[simp] theorem ref13_Others_c5_eq {P m Q st} {p : Nums} : AW P m (ref13_Others_c5 p) Q st ↔ AW P m (.region (ref13_Others_o5 p) []) Q st := Iff.rfl
def ref13_Others_c6 (p : Nums) : IC := (.seq (.seq (ref13_Others_c1 p) (.cond (.t 8) .skip (.exit 0))) (.seq (.block 1 (ref13_Others_c4 p)) (ref13_Others_c5 p)))
@[simp] theorem ref13_Others_c6_eq {P m Q st} {p : Nums} : AW P m (ref13_Others_c6 p) Q st ↔ AW P m (.seq (.seq (ref13_Others_c1 p) (.cond (.t 8) .skip (.exit 0))) (.seq (.block 1 (ref13_Others_c4 p)) (ref13_Others_c5 p))) Q st := Iff.rfl
def ic_ref13_Others (p : Nums) : IC := (.seq (.region [⟨(some 2), (.asg (.c .nils)), none, false⟩] []) (.seq (.region [⟨(some 3), (.asg (.c .nils)), none, false⟩] []) (.seq (.seq (.region [⟨(some 4), (.asg (.c (.d (.int .i64 0)))), none, false⟩] []) (.block 0 (.loop (ref13_Others_c6 p)))) (.seq (.region [⟨(some 21), (.mov (.t 3)), none, false⟩, ⟨(some 2), (.asg (.t 21)), none, false⟩] []) .ret))))
@[simp] def ref13_Same_o1 (p : Nums) : List IOp := [qo 2 (.box (.t 0)), qo 3 (.box (.t 1)), qo 4 (.asg (.c (.d (.bool false))))]
def ref13_Same_c1 (p : Nums) : IC := (.region (ref13_Same_o1 p) [])
@[simp] theorem ref13_Same_c1_eq {P m Q st} {p : Nums} : AW P m (ref13_Same_c1 p) Q st ↔ AW P m (.region (ref13_Same_o1 p) []) Q st := Iff.rfl
@[simp] def ref13_Same_o2 (p : Nums) : List IOp := [qo 5 (.faddr 0 (.t 2)), qo 6 (.load none (.t 5)), qo 7 (.bin .neq (.t 6) (ci 2)), qo 8 (.mov (.t 7)), ⟨(some 9), (.faddr 0 (.t 2)), (some (8, true)), false⟩, ⟨(some 10), (.load none (.t 9)), (some (8, true)), false⟩, ⟨(some 11), (.bin .neq (.t 10) (ci 18)), (some (8, true)), false⟩, qo 12 (.pick (.t 8) (.t 11) (.c (.d (.bool false)))), qo 13 (.mov (.t 12)), ⟨(some 14), (.faddr 0 (.t 2)), (some (13, true)), false⟩, ⟨(some 15), (.load none (.t 14)), (some (13, true)), false⟩, ⟨(some 16), (.faddr 0 (.t 3)), (some (13, true)), false⟩, ⟨(some 17), (.load none (.t 16)), (some (13, true)), false⟩, ⟨(some 18), (.bin .eql (.t 15) (.t 17)), (some (13, true)), false⟩, qo 19 (.pick (.t 13) (.t 18) (.c (.d (.bool false)))), qo 20 (.mov (.t 19)), ⟨(some 21), (.faddr 4 (.t 2)), (some (20, true)), false⟩, ⟨(some 22), (.load none (.t 21)), (some (20, true)), false⟩, ⟨(some 23), (.faddr 4 (.t 3)), (some (20, true)), false⟩, ⟨(some 24), (.load none (.t 23)), (some (20, true)), false⟩, ⟨(some 25), (.bin .eql (.t 22) (.t 24)), (some (20, true)), false⟩, qo 26 (.pick (.t 20) (.t 25) (.c (.d (.bool false)))), qo 4 (.asg (.t 26))]
def ref13_Same_c2 (p : Nums) : IC := (.region (ref13_Same_o2 p) [])
@[simp] theorem ref13_Same_c2_eq {P m Q st} {p : Nums} : AW P m (ref13_Same_c2 p) Q st ↔ AW P m (.region (ref13_Same_o2 p) []) Q st := Iff.rfl
def ic_ref13_Same (p : Nums) : IC := (.seq (ref13_Same_c1 p) (.seq (ref13_Same_c2 p) .ret))
def ref04_InRange_c1 (p : Nums) : IC := (.seq (.region [⟨(some 6), (.asg (.c (.d (.bool false)))), none, false⟩] []) .ret)
@[simp] theorem ref04_InRange_c1_eq {P m Q st} {p : Nums} : AW P m (ref04_InRange_c1 p) Q st ↔ AW P m (.seq (.region [⟨(some 6), (.asg (.c (.d (.bool false)))), none, false⟩] []) .ret) Q st := Iff.rfl
@[simp] def ref04_InRange_o2 (p : Nums) : List IOp := [qo 9 (.mov (.t 0)), qo 10 (.bin .rem (.t 9) (ci 2)), qo 11 (.bin .eql (.t 10) (ci 1))]
def ref04_InRange_c2 (p : Nums) : IC := (.region (ref04_InRange_o2 p) [])
@[simp] theorem ref04_InRange_c2_eq {P m Q st} {p : Nums} : AW P m (ref04_InRange_c2 p) Q st ↔ AW P m (.region (ref04_InRange_o2 p) []) Q st := Iff.rfl
@[simp] def ref04_InRange_o3 (p : Nums) : List IOp := [qo 12 (.mov (.t 0)), qo 13 (.bin .quo (.t 12) (ci 2)), qo 14 (.mov (.t 2)), qo 15 (.bin .lss (.t 13) (.t 14)), qo 6 (.asg (.t 15))]
def ref04_InRange_c3 (p : Nums) : IC := (.region (ref04_InRange_o3 p) [])
@[simp] theorem ref04_InRange_c3_eq {P m Q st} {p : Nums} : AW P m (ref04_InRange_c3 p) Q st ↔ AW P m (.region (ref04_InRange_o3 p) []) Q st := Iff.rfl
@[simp] def ref04_InRange_o4 (p : Nums) : List IOp := [qo 16 (.mov (.t 0)), qo 17 (.bin .quo (.t 16) (ci 2)), qo 18 (.mov (.t 1)), qo 19 (.bin .lss (.t 17) (.t 18)), qo 6 (.asg (.t 19))]
def ref04_InRange_c4 (p : Nums) : IC := (.region (ref04_InRange_o4 p) [])
@[simp] theorem ref04_InRange_c4_eq {P m Q st} {p : Nums} : AW P m (ref04_InRange_c4 p) Q st ↔ AW P m (.region (ref04_InRange_o4 p) []) Q st := Iff.rfl
def ic_ref04_InRange (p : Nums) : IC := (.seq (.region [⟨(some 6), (.asg (.c (.d (.bool false)))), none, false⟩] []) (.seq (.seq (.region [⟨(some 7), (.mov (.t 0)), none, false⟩, ⟨(some 8), (.bin .lss (.t 7) (.c (.d (.int .i64 0)))), none, false⟩] []) (.cond (.t 8) (ref04_InRange_c1 p) .skip)) (.seq (.seq (ref04_InRange_c2 p) (.cond (.t 11) (.seq (ref04_InRange_c3 p) .ret) .skip)) (.seq (ref04_InRange_c4 p) .ret))))
@[simp] def blockcheck_checker_cost_o1 (p : Nums) : List IOp := [qp 2 (.mov (.t 0)), qp 3 (.nilck (.t 2)), qp 4 (.faddr 2 (.t 3)), qp 5 (.load none (.t 4)), qp 6 (.mov (.t 0)), qp 7 (.nilck (.t 6)), qp 8 (.faddr 0 (.t 7)), qp 9 (.load none (.t 8)), qp 10 (.len (.t 9)), qp 11 (.bin .add (ci 1) (.t 10)), qo 12 (.bin .add (.t 5) (.t 11)), qo 13 (.nilck (.t 2)), qo 14 (.faddr 2 (.t 13)), qn (.store 1 (.t 14) (.t 12))]
def blockcheck_checker_cost_c1 (p : Nums) : IC := (.region (blockcheck_checker_cost_o1 p) [])
@[simp] theorem blockcheck_checker_cost_c1_eq {P m Q st} {p : Nums} : AW P m (blockcheck_checker_cost_c1 p) Q st ↔ AW P m (.region (blockcheck_checker_cost_o1 p) []) Q st := Iff.rfl
def ic_blockcheck_checker_cost (p : Nums) : IC := (blockcheck_checker_cost_c1 p)
@[simp] def blockcheck_checker_become_o1 (p : Nums) : List IOp := [qo 6 (.mov (.t 0)), qo 7 (.mov (.t 0)), qo 8 (.mov (.t 1)), qo 9 (.mov (.t 0)), qo 10 (.nilck (.t 9)), qo 11 (.faddr 3 (.t 10)), qo 12 (.load none (.t 11)), qo 13 (.mov (.t 1)), qo 14 (.len (.t 13)), qo 15 (.mx (.t 12) (.t 14)), qo 16 (.nilck (.t 6)), qo 17 (.faddr 0 (.t 16)), qn (.store 1 (.t 17) (.t 8)), qo 18 (.nilck (.t 7)), qo 19 (.faddr 3 (.t 18)), qn (.store 1 (.t 19) (.t 15))]
def blockcheck_checker_become_c1 (p : Nums) : IC := (.region (blockcheck_checker_become_o1 p) [])
@[simp] theorem blockcheck_checker_become_c1_eq {P m Q st} {p : Nums} : AW P m (blockcheck_checker_become_c1 p) Q st ↔ AW P m (.region (blockcheck_checker_become_o1 p) []) Q st := Iff.rfl
@[simp] def blockcheck_checker_become_o2 (p : Nums) : List IOp := [qo 20 (.mov (.t 1)), qo 21 (.len (.t 20)), qo 22 (.mov (.t 0)), qo 23 (.nilck (.t 22)), qo 24 (.faddr 1 (.t 23)), qo 25 (.load none (.t 24)), qo 26 (.bin .gtr (.t 21) (.t 25))]
def blockcheck_checker_become_c2 (p : Nums) : IC := (.region (blockcheck_checker_become_o2 p) [])
@[simp] theorem blockcheck_checker_become_c2_eq {P m Q st} {p : Nums} : AW P m (blockcheck_checker_become_c2 p) Q st ↔ AW P m (.region (blockcheck_checker_become_o2 p) []) Q st := Iff.rfl
@[simp] def blockcheck_checker_become_o3 (p : Nums) : List IOp := [qo 27 (.mov (.t 2)), qo 28 (.build [(zi 0), (zi 0)] [(0, 1, (ci 24)), (1, 1, (.t 27))]), qo 29 (.mkif p.ty_bcfail (.t 28)), qn (.pan (.t 29))]
def blockcheck_checker_become_c3 (p : Nums) : IC := (.region (blockcheck_checker_become_o3 p) [])
@[simp] theorem blockcheck_checker_become_c3_eq {P m Q st} {p : Nums} : AW P m (blockcheck_checker_become_c3 p) Q st ↔ AW P m (.region (blockcheck_checker_become_o3 p) []) Q st := Iff.rfl
def ic_blockcheck_checker_become (p : Nums) : IC := (.seq (blockcheck_checker_become_c1 p) (.seq (blockcheck_checker_become_c2 p) (.cond (.t 26) (blockcheck_checker_become_c3 p) .skip)))
@[simp] def blockcheck_checker_instr_o1 (p : Nums) : List IOp := [qo 11 (.faddr 0 (.t 5)), qo 12 (.load none (.t 11)), qo 13 (.call p.opcode_Of [(.t 12)]), qo 10 (.mov (.t 13)), qo 14 (.ext (.t 10) 0), qo 15 (.ext (.t 10) 1), qo 8 (.alloc [(.d (.bool false)), (.d (.bool false)), (.d (.bool false)), (.d (.bool false))]), qn (.store 4 (.t 8) (.t 14)), qo 9 (.asg (.t 15))]
def blockcheck_checker_instr_c1 (p : Nums) : IC := (.region (blockcheck_checker_instr_o1 p) [])
@[simp] theorem blockcheck_checker_instr_c1_eq {P m Q st} {p : Nums} : AW P m (blockcheck_checker_instr_c1 p) Q st ↔ AW P m (.region (blockcheck_checker_instr_o1 p) []) Q st := Iff.rfl
@[simp] def blockcheck_checker_instr_o2 (p : Nums) : List IOp := [qo 18 (.mov (.t 0)), qo 19 (.faddr 2 (.t 5)), qo 20 (.load none (.t 19)), qo 21 (.faddr 2 (.t 6)), qo 22 (.load none (.t 21)), qo 23 (.mov (.t 3)), qo 24 (.call p.blockcheck_checker_use [(.t 18), (.t 20), (.t 22), (.t 23)])]
def blockcheck_checker_instr_c2 (p : Nums) : IC := (.region (blockcheck_checker_instr_o2 p) [])
@[simp] theorem blockcheck_checker_instr_c2_eq {P m Q st} {p : Nums} : AW P m (blockcheck_checker_instr_c2 p) Q st ↔ AW P m (.region (blockcheck_checker_instr_o2 p) []) Q st := Iff.rfl
@[simp] def blockcheck_checker_instr_o3 (p : Nums) : List IOp := [qo 27 (.mov (.t 0)), qo 28 (.faddr 3 (.t 5)), qo 29 (.load none (.t 28)), qo 30 (.faddr 3 (.t 6)), qo 31 (.load none (.t 30)), qo 32 (.mov (.t 3)), qo 33 (.call p.blockcheck_checker_use [(.t 27), (.t 29), (.t 31), (.t 32)])]
def blockcheck_checker_instr_c3 (p : Nums) : IC := (.region (blockcheck_checker_instr_o3 p) [])
@[simp] theorem blockcheck_checker_instr_c3_eq {P m Q st} {p : Nums} : AW P m (blockcheck_checker_instr_c3 p) Q st ↔ AW P m (.region (blockcheck_checker_instr_o3 p) []) Q st := Iff.rfl
@[simp] def blockcheck_checker_instr_o4 (p : Nums) : List IOp := [qp 38 (.mov (.t 0)), qp 39 (.mov (.t 0)), qp 40 (.nilck (.t 39)), qp 41 (.faddr 0 (.t 40)), qp 42 (.load none (.t 41)), qp 43 (.faddr 1 (.t 5)), qp 44 (.load none (.t 43)), qp 45 (.faddr 1 (.t 6)), qp 46 (.load none (.t 45)), qp 47 (.call p.location_Reg [(.t 46)]), qp 48 (.call p.transfer_Define [(.t 42), (.t 44), (.t 47)]), qp 49 (.mov (.t 3)), qo 50 (.call p.blockcheck_checker_become [(.t 38), (.t 48), (.t 49)])]
def blockcheck_checker_instr_c4 (p : Nums) : IC := (.region (blockcheck_checker_instr_o4 p) [])
@[simp] theorem blockcheck_checker_instr_c4_eq {P m Q st} {p : Nums} : AW P m (blockcheck_checker_instr_c4 p) Q st ↔ AW P m (.region (blockcheck_checker_instr_o4 p) []) Q st := Iff.rfl
def blockcheck_checker_instr_c5 (p : Nums) : IC := (.seq (.region [⟨(some 36), (.mov (.t 0)), none, false⟩, ⟨(some 37), (.call p.blockcheck_checker_cost [(.t 36)]), none, false⟩] []) (blockcheck_checker_instr_c4 p))
@[simp] theorem blockcheck_checker_instr_c5_eq {P m Q st} {p : Nums} : AW P m (blockcheck_checker_instr_c5 p) Q st ↔ AW P m (.seq (.region [⟨(some 36), (.mov (.t 0)), none, false⟩, ⟨(some 37), (.call p.blockcheck_checker_cost [(.t 36)]), none, false⟩] []) (blockcheck_checker_instr_c4 p)) Q st := Iff.rfl
def ic_blockcheck_checker_instr (p : Nums) : IC := (.seq (.region [⟨(some 5), (.box (.t 1)), none, false⟩, ⟨(some 6), (.box (.t 2)), none, false⟩] []) (.seq (blockcheck_checker_instr_c1 p) (.seq (.seq (.region [⟨(some 16), (.faddr 1 (.t 8)), none, false⟩, ⟨(some 17), (.load none (.t 16)), none, false⟩] []) (.cond (.t 17) (blockcheck_checker_instr_c2 p) .skip)) (.seq (.seq (.region [⟨(some 25), (.faddr 2 (.t 8)), none, false⟩, ⟨(some 26), (.load none (.t 25)), none, false⟩] []) (.cond (.t 26) (blockcheck_checker_instr_c3 p) .skip)) (.seq (.region [⟨(some 34), (.faddr 0 (.t 8)), none, false⟩, ⟨(some 35), (.load none (.t 34)), none, false⟩] []) (.cond (.t 35) (blockcheck_checker_instr_c5 p) .skip))))))
@[simp] def location_Reg_o1 (p : Nums) : List IOp := [qo 3 (.mov (.t 0)), qo 4 (.bin .mul (ci 2) (.t 3)), qo 2 (.asg (.t 4))]
def location_Reg_c1 (p : Nums) : IC := (.region (location_Reg_o1 p) [])
@[simp] theorem location_Reg_c1_eq {P m Q st} {p : Nums} : AW P m (location_Reg_c1 p) Q st ↔ AW P m (.region (location_Reg_o1 p) []) Q st := Iff.rfl
def ic_location_Reg (p : Nums) : IC := (.seq (.region [⟨(some 2), (.asg (.c (.d (.int .i64 0)))), none, false⟩] []) (.seq (location_Reg_c1 p) .ret))
@[simp] def blockcheck_checker_run_0_o1 (p : Nums) : List IOp := [qo 5 (.box (.t 1)), qo 6 (.box (.t 2)), qo 8 (.alloc [(zi 0)]), qo 9 (.alloc [(zi 0)])]
def blockcheck_checker_run_0_c1 (p : Nums) : IC := (.region (blockcheck_checker_run_0_o1 p) [])
@[simp] theorem blockcheck_checker_run_0_c1_eq {P m Q st} {p : Nums} : AW P m (blockcheck_checker_run_0_c1 p) Q st ↔ AW P m (.region (blockcheck_checker_run_0_o1 p) []) Q st := Iff.rfl
def ic_blockcheck_checker_run_0 (p : Nums) : IC := (blockcheck_checker_run_0_c1 p)
@[simp] def blockcheck_checker_run_r_o1 (p : Nums) : List IOp := [qo 13 (.mov (.t 3)), qo 14 (.len (.t 13)), qo 15 (.mov (ci 0))]
def blockcheck_checker_run_r_c1 (p : Nums) : IC := (.region (blockcheck_checker_run_r_o1 p) [])
@[simp] theorem blockcheck_checker_run_r_c1_eq {P m Q st} {p : Nums} : AW P m (blockcheck_checker_run_r_c1 p) Q st ↔ AW P m (.region (blockcheck_checker_run_r_o1 p) []) Q st := Iff.rfl
@[simp] def blockcheck_checker_run_r_o2 (p : Nums) : List IOp := [qo 17 (.iaddr 6 (.t 13) (.t 15)), qo 18 (.load (some 6) (.t 17)), qo 11 (.alloc [(zi 0), (zi 0), (zi 0), (zi 0), (zi 0), (zi 0)]), qn (.store 6 (.t 11) (.t 18))]
def blockcheck_checker_run_r_c2 (p : Nums) : IC := (.region (blockcheck_checker_run_r_o2 p) [])
@[simp] theorem blockcheck_checker_run_r_c2_eq {P m Q st} {p : Nums} : AW P m (blockcheck_checker_run_r_c2 p) Q st ↔ AW P m (.region (blockcheck_checker_run_r_o2 p) []) Q st := Iff.rfl
@[simp] def blockcheck_checker_run_r_o3 (p : Nums) : List IOp := [qo 19 (.mov (.t 0)), qo 20 (.load (some 5) (.t 5)), qo 21 (.load (some 5) (.t 6)), qo 22 (.load (some 6) (.t 11)), qo 23 (.call p.blockcheck_checker_row [(.t 19), (.t 20), (.t 21), (.t 22)])]
def blockcheck_checker_run_r_c3 (p : Nums) : IC := (.region (blockcheck_checker_run_r_o3 p) [])
@[simp] theorem blockcheck_checker_run_r_c3_eq {P m Q st} {p : Nums} : AW P m (blockcheck_checker_run_r_c3 p) Q st ↔ AW P m (.region (blockcheck_checker_run_r_o3 p) []) Q st := Iff.rfl
def blockcheck_checker_run_r_c4 (p : Nums) : IC := (.seq (blockcheck_checker_run_r_c2 p) (blockcheck_checker_run_r_c3 p))
@[simp] theorem blockcheck_checker_run_r_c4_eq {P m Q st} {p : Nums} : AW P m (blockcheck_checker_run_r_c4 p) Q st ↔ AW P m (.seq (blockcheck_checker_run_r_c2 p) (blockcheck_checker_run_r_c3 p)) Q st := Iff.rfl
def blockcheck_checker_run_r_c5 (p : Nums) : IC := (.seq (.region [⟨(some 16), (.bin .lss (.t 15) (.t 14)), none, false⟩] []) (.seq (.cond (.t 16) .skip (.exit 0)) (.seq (.block 1 (blockcheck_checker_run_r_c4 p)) (.region [⟨(some 24), (.bin .add (.t 15) (.c (.d (.int .i64 1)))), none, false⟩, ⟨(some 15), (.mov (.t 24)), none, false⟩] []))))
@[simp] theorem blockcheck_checker_run_r_c5_eq {P m Q st} {p : Nums} : AW P m (blockcheck_checker_run_r_c5 p) Q st ↔ AW P m (.seq (.region [⟨(some 16), (.bin .lss (.t 15) (.t 14)), none, false⟩] []) (.seq (.cond (.t 16) .skip (.exit 0)) (.seq (.block 1 (blockcheck_checker_run_r_c4 p)) (.region [⟨(some 24), (.bin .add (.t 15) (.c (.d (.int .i64 1)))), none, false⟩, ⟨(some 15), (.mov (.t 24)), none, false⟩] [])))) Q st := Iff.rfl
@[simp] def blockcheck_checker_run_r_o6 (p : Nums) : List IOp := [qo 25 (.faddr 1 (.t 5)), qo 26 (.faddr 0 (.t 25)), qo 27 (.load none (.t 26)), qo 28 (.bin .neq (.t 27) (ci 1))]
def blockcheck_checker_run_r_c6 (p : Nums) : IC := (.region (blockcheck_checker_run_r_o6 p) [])
@[simp] theorem blockcheck_checker_run_r_c6_eq {P m Q st} {p : Nums} : AW P m (blockcheck_checker_run_r_c6 p) Q st ↔ AW P m (.region (blockcheck_checker_run_r_o6 p) []) Q st := Iff.rfl
@[simp] def blockcheck_checker_run_r_o7 (p : Nums) : List IOp := [qo 29 (.mov (.t 0)), qo 30 (.faddr 1 (.t 5)), qo 31 (.faddr 1 (.t 30)), qo 32 (.load none (.t 31)), qo 33 (.faddr 1 (.t 6)), qo 34 (.faddr 1 (.t 33)), qo 35 (.load none (.t 34)), qo 36 (.faddr 0 (.t 6)), qo 37 (.load none (.t 36)), qo 38 (.len (.t 37)), qo 39 (.call p.blockcheck_checker_use [(.t 29), (.t 32), (.t 35), (.t 38)])]
def blockcheck_checker_run_r_c7 (p : Nums) : IC := (.region (blockcheck_checker_run_r_o7 p) [])
@[simp] theorem blockcheck_checker_run_r_c7_eq {P m Q st} {p : Nums} : AW P m (blockcheck_checker_run_r_c7 p) Q st ↔ AW P m (.region (blockcheck_checker_run_r_o7 p) []) Q st := Iff.rfl
@[simp] def blockcheck_checker_run_r_o8 (p : Nums) : List IOp := [qp 40 (.faddr 0 (.t 6)), qp 41 (.load none (.t 40)), qp 42 (.len (.t 41)), qm (.storeq 1 (.t 8) (ci 0) [(40, 1)]), qn (.store 1 (.t 9) (.t 42))]
def blockcheck_checker_run_r_c8 (p : Nums) : IC := (.region (blockcheck_checker_run_r_o8 p) [])
@[simp] theorem blockcheck_checker_run_r_c8_eq {P m Q st} {p : Nums} : AW P m (blockcheck_checker_run_r_c8 p) Q st ↔ AW P m (.region (blockcheck_checker_run_r_o8 p) []) Q st := Iff.rfl
def ic_blockcheck_checker_run_r (p : Nums) : IC := (.seq (.seq (blockcheck_checker_run_r_c1 p) (.block 0 (.loop (blockcheck_checker_run_r_c5 p)))) (.seq (.seq (blockcheck_checker_run_r_c6 p) (.cond (.t 28) (blockcheck_checker_run_r_c7 p) .skip)) (.seq (blockcheck_checker_run_r_c8 p) .ret)))
@[simp] def blockcheck_checker_run_1_c_o1 (p : Nums) : List IOp := [qo 9 (.mov (.t 2)), qo 10 (.tas p.ty_bcfail (.t 9)), qo 8 (.mov (.t 10)), qo 11 (.ext (.t 8) 0), qo 12 (.ext (.t 8) 1), qo 3 (.alloc [(zi 0), (zi 0)]), qn (.store 2 (.t 3) (.t 11)), qo 4 (.asg (.t 12))]
def blockcheck_checker_run_1_c_c1 (p : Nums) : IC := (.region (blockcheck_checker_run_1_c_o1 p) [])
@[simp] theorem blockcheck_checker_run_1_c_c1_eq {P m Q st} {p : Nums} : AW P m (blockcheck_checker_run_1_c_c1 p) Q st ↔ AW P m (.region (blockcheck_checker_run_1_c_o1 p) []) Q st := Iff.rfl
@[simp] def blockcheck_checker_run_1_c_o2 (p : Nums) : List IOp := [qo 15 (.mov (.t 2)), qn (.pan (.t 15))]
def blockcheck_checker_run_1_c_c2 (p : Nums) : IC := (.region (blockcheck_checker_run_1_c_o2 p) [])
@[simp] theorem blockcheck_checker_run_1_c_c2_eq {P m Q st} {p : Nums} : AW P m (blockcheck_checker_run_1_c_c2 p) Q st ↔ AW P m (.region (blockcheck_checker_run_1_c_o2 p) []) Q st := Iff.rfl
@[simp] def blockcheck_checker_run_1_c_o3 (p : Nums) : List IOp := [qp 16 (.faddr 0 (.t 3)), qp 17 (.load none (.t 16)), qp 18 (.faddr 1 (.t 3)), qp 19 (.load none (.t 18)), qm (.storeq 1 (.t 0) (.t 17) [(18, 1)]), qn (.store 1 (.t 1) (.t 19))]
def blockcheck_checker_run_1_c_c3 (p : Nums) : IC := (.region (blockcheck_checker_run_1_c_o3 p) [])
@[simp] theorem blockcheck_checker_run_1_c_c3_eq {P m Q st} {p : Nums} : AW P m (blockcheck_checker_run_1_c_c3 p) Q st ↔ AW P m (.region (blockcheck_checker_run_1_c_o3 p) []) Q st := Iff.rfl
def blockcheck_checker_run_1_c_c4 (p : Nums) : IC := (.seq (blockcheck_checker_run_1_c_c1 p) (.seq (.seq (.region [⟨(some 13), (.mov (.t 4)), none, false⟩, ⟨(some 14), (.un .not (.t 13)), none, false⟩] []) (.cond (.t 14) (blockcheck_checker_run_1_c_c2 p) .skip)) (blockcheck_checker_run_1_c_c3 p)))
@[simp] theorem blockcheck_checker_run_1_c_c4_eq {P m Q st} {p : Nums} : AW P m (blockcheck_checker_run_1_c_c4 p) Q st ↔ AW P m (.seq (blockcheck_checker_run_1_c_c1 p) (.seq (.seq (.region [⟨(some 13), (.mov (.t 4)), none, false⟩, ⟨(some 14), (.un .not (.t 13)), none, false⟩] []) (.cond (.t 14) (blockcheck_checker_run_1_c_c2 p) .skip)) (blockcheck_checker_run_1_c_c3 p))) Q st := Iff.rfl
def ic_blockcheck_checker_run_1_c (p : Nums) : IC := (.seq (.region [⟨(some 6), (.mov (.t 2)), none, false⟩, ⟨(some 7), (.isnif true (.t 6)), none, false⟩] []) (.cond (.t 7) (blockcheck_checker_run_1_c_c4 p) .skip))
structure All (P : Program) (p : Nums) : Prop where
  ref11_Make : Has P p.ref11_Make 1 [(.tmp 2)] (ic_ref11_Make p)
  ref11_Missing : Has P p.ref11_Missing 2 [(.cell 4 (some 2)), (.tmp 5)] (ic_ref11_Missing p)
  ref11_Same : Has P p.ref11_Same 2 [(.tmp 4)] (ic_ref11_Same p)
  pairset_Make : Has P p.pairset_Make 1 [(.tmp 2)] (ic_pairset_Make p)
  pairset_Has : Has P p.pairset_Has 2 [(.tmp 4)] (ic_pairset_Has p)
  ref11_Has : Has P p.ref11_Has 2 [(.tmp 4)] (ic_ref11_Has p)
  pairset_Add : Has P p.pairset_Add 2 [(.tmp 4)] (ic_pairset_Add p)
  ref11_Add : Has P p.ref11_Add 2 [(.tmp 4)] (ic_ref11_Add p)
  pairset_Union : Has P p.pairset_Union 2 [(.tmp 4)] (ic_pairset_Union p)
  pairset_Less : Has P p.pairset_Less 2 [(.tmp 4)] (ic_pairset_Less p)
  ref07_Check : Has P p.ref07_Check 1 [(.tmp 2)] (ic_ref07_Check p)
  pairset_DropV : Has P p.pairset_DropV 2 [(.tmp 4)] (ic_pairset_DropV p)
  pairset_DropL : Has P p.pairset_DropL 2 [(.tmp 4)] (ic_pairset_DropL p)
  ref11_Less : Has P p.ref11_Less 2 [(.tmp 4)] (ic_ref11_Less p)
  slices_Clone_Pair : Has P p.slices_Clone_Pair 1 [(.tmp 2)] (ic_slices_Clone_Pair p)
  slices_Compact_Pair : Has P p.slices_Compact_Pair 1 [(.tmp 2)] (ic_slices_Compact_Pair p)
  pairset_find : Has P p.pairset_find 2 [(.tmp 4)] (ic_pairset_find p)
  ref07_Code : Has P p.ref07_Code 1 [(.tmp 2)] (ic_ref07_Code p)
  ref07_Instr : Has P p.ref07_Instr 2 [(.tmp 4)] (ic_ref07_Instr p)
  ref07_Term : Has P p.ref07_Term 3 [(.tmp 6)] (ic_ref07_Term p)
  ref05_UsesA : Has P p.ref05_UsesA 1 [(.tmp 2)] (ic_ref05_UsesA p)
  ref05_UsesB : Has P p.ref05_UsesB 1 [(.tmp 2)] (ic_ref05_UsesB p)
  ref05_UsesD : Has P p.ref05_UsesD 1 [(.tmp 2)] (ic_ref05_UsesD p)
  pairset_filter : Has P p.pairset_filter 2 [(.tmp 4)] (ic_pairset_filter p)
  pairset_DropV_1 : Has P p.pairset_DropV_1 2 [(.tmp 3)] (ic_pairset_DropV_1 p)
  pairset_DropL_1 : Has P p.pairset_DropL_1 2 [(.tmp 3)] (ic_pairset_DropL_1 p)
  ref07_in : Has P p.ref07_in 2 [(.tmp 4)] (ic_ref07_in p)
  opcode_Of : Has P p.opcode_Of 1 [(.cell 2 (some 4)), (.tmp 3)] (ic_opcode_Of p)
  opcode_known : Has P p.opcode_known 1 [(.tmp 2)] (ic_opcode_known p)
  law14_BlockcheckMatchesReference : Has P p.law14_BlockcheckMatchesReference 6 [(.tmp 12)] (ic_law14_BlockcheckMatchesReference p)
  law14_BlockcheckMonotone : Has P p.law14_BlockcheckMonotone 6 [(.tmp 12)] (ic_law14_BlockcheckMonotone p)
  transfer_Copy : Has P p.transfer_Copy 3 [(.tmp 6)] (ic_transfer_Copy p)
  ref12_Copy : Has P p.ref12_Copy 3 [(.tmp 6)] (ic_ref12_Copy p)
  transfer_Move : Has P p.transfer_Move 3 [(.tmp 6)] (ic_transfer_Move p)
  ref12_Move : Has P p.ref12_Move 3 [(.tmp 6)] (ic_ref12_Move p)
  transfer_Define : Has P p.transfer_Define 3 [(.tmp 6)] (ic_transfer_Define p)
  ref12_Define : Has P p.ref12_Define 3 [(.tmp 6)] (ic_ref12_Define p)
  law14_awake : Has P p.law14_awake 0 [(.tmp 0)] (ic_law14_awake p)
  law14_right : Has P p.law14_right 4 [(.tmp 8)] (ic_law14_right p)
  ref14_Same : Has P p.ref14_Same 2 [(.tmp 4)] (ic_ref14_Same p)
  law14_result : Has P p.law14_result 1 [(.cell 2 (some 5))] (ic_law14_result p)
  blockcheck_Check : Has P p.blockcheck_Check 4 [(.cell 8 (some 5))] (ic_blockcheck_Check p)
  ref14_Check : Has P p.ref14_Check 4 [(.cell 8 (some 5))] (ic_ref14_Check p)
  transfer_rename : Has P p.transfer_rename 3 [(.tmp 6)] (ic_transfer_rename p)
  ref08_Check : Has P p.ref08_Check 1 [(.tmp 2)] (ic_ref08_Check p)
  align_Code : Has P p.align_Code 2 [(.tmp 4), (.tmp 5), (.tmp 6)] (ic_align_Code p)
  align_Terms : Has P p.align_Terms 2 [(.tmp 4)] (ic_align_Terms p)
  blockcheck_checker_run : HasD P p.blockcheck_checker_run 4 [(.cell 8 none), (.cell 9 none)] (ic_blockcheck_checker_run_0 p) (ic_blockcheck_checker_run_r p) 12 p.blockcheck_checker_run_1 [8, 9] (ic_blockcheck_checker_run_1_c p) 5 2
  ref14_fail : Has P p.ref14_fail 3 [(.cell 6 (some 5))] (ic_ref14_fail p)
  ref13_Code : Has P p.ref13_Code 2 [(.tmp 4), (.tmp 5), (.tmp 6)] (ic_ref13_Code p)
  ref13_Terms : Has P p.ref13_Terms 2 [(.tmp 4)] (ic_ref13_Terms p)
  ref14_grow : Has P p.ref14_grow 4 [(.cell 8 (some 5))] (ic_ref14_grow p)
  ref14_use : Has P p.ref14_use 4 [(.cell 8 (some 5))] (ic_ref14_use p)
  ref08_Code : Has P p.ref08_Code 1 [(.tmp 2)] (ic_ref08_Code p)
  ref08_Instr : Has P p.ref08_Instr 3 [(.tmp 6)] (ic_ref08_Instr p)
  ref08_Moves : Has P p.ref08_Moves 1 [(.tmp 2)] (ic_ref08_Moves p)
  align_skip_Instr : Has P p.align_skip_Instr 3 [(.tmp 6)] (ic_align_skip_Instr p)
  align_copied : Has P p.align_copied 1 [(.tmp 2)] (ic_align_copied p)
  align_skip_Mach : Has P p.align_skip_Mach 3 [(.tmp 6)] (ic_align_skip_Mach p)
  align_moved : Has P p.align_moved 1 [(.tmp 2)] (ic_align_moved p)
  align_Same : Has P p.align_Same 2 [(.tmp 4)] (ic_align_Same p)
  blockcheck_checker_row : Has P p.blockcheck_checker_row 4 [] (ic_blockcheck_checker_row p)
  blockcheck_checker_use : Has P p.blockcheck_checker_use 4 [] (ic_blockcheck_checker_use p)
  ref13_Operations : Has P p.ref13_Operations 1 [(.tmp 2)] (ic_ref13_Operations p)
  ref13_Others : Has P p.ref13_Others 1 [(.tmp 2)] (ic_ref13_Others p)
  ref13_Same : Has P p.ref13_Same 2 [(.tmp 4)] (ic_ref13_Same p)
  ref04_InRange : Has P p.ref04_InRange 3 [(.tmp 6)] (ic_ref04_InRange p)
  blockcheck_checker_cost : Has P p.blockcheck_checker_cost 1 [] (ic_blockcheck_checker_cost p)
  blockcheck_checker_become : Has P p.blockcheck_checker_become 3 [] (ic_blockcheck_checker_become p)
  blockcheck_checker_instr : Has P p.blockcheck_checker_instr 4 [] (ic_blockcheck_checker_instr p)
  location_Reg : Has P p.location_Reg 1 [(.tmp 2)] (ic_location_Reg p)
end Go.AE

/- A block of a result, put into the first place. -/
set_option linter.unusedVariables false
namespace Go.AE
open Go
end Go.AE

/- From a walk of the kit's to a contract: a call that turns no block, and whose result names none. -/
set_option linter.unusedVariables false
namespace Go.AE
open Go Go.Sort
theorem callsTo_of_walk {P : Program} {f : Nat} {args : List AV} {H : List Blk} {x : AV} (hx : ∀ e rows, x ≠ .own e rows) (hxv : ∀ org e rows, x ≠ .view org e rows)
    (hH : ∀ (b : Nat) (cells : List AV) (j e : Nat) (rows : List (List D)), H[b]? = some (Blk.mem cells) → cells[j]? ≠ some (AV.own e rows))
    (h : ∀ (g : Gh) (vs : Array Value) (w : World), vs.size = args.length → Sim args.length ⟨enum 0 args, H⟩ g ⟨vs, []⟩ w → ∃ v, (∀ F φ w, Rel F φ w x.erase v) ∧ Calls P f vs w fun e w' => e = .returned v ∧ ∃ q os, w' = grow (w.drewN q) os) :
    CallsTo P f args H fun o H' => o = .ret x ∧ H' = H := by
  intro g vs w hvs hs
  obtain ⟨v, hv, hc⟩ := h g vs w hvs hs
  refine hc.mono ?_
  rintro e w' ⟨rfl, q, os, rfl⟩
  have hheap : (grow (w.drewN q) os).heap = w.heap ++ os := rfl
  have hsame : ∀ r, r < w.heap.size → (grow (w.drewN q) os).heap[r]? = w.heap[r]? := by
    intro r hr; rw [hheap, Array.getElem?_append, if_pos hr]
  have hst : Stab g.F w g.F (grow (w.drewN q) os) := by
    refine ⟨fun _ _ => Nat.le_refl _, fun r j u hj hu => ?_, csize_lt hsame⟩
    have hlt := World.block_lt_of_cell? w ⟨r, j, none⟩ hu
    simp only [World.cell?] at hu ⊢
    rw [hsame r hlt]; exact hu
  have hno : ∀ p e rows, AP ⟨[(0, x)], H⟩ p ≠ some (.own e rows) := by
    intro p e rows hp
    cases p with
    | tmp t =>
      simp only [AP, get] at hp
      split at hp
      · injection hp with hp; exact hx e rows hp
      · cases hp
    | cell b j =>
      simp only [AP] at hp
      split at hp
      · rename_i cells hb; exact hH b cells j e rows hb hp
      · cases hp
  refine ⟨.ret x, H, g, v, ⟨rfl, rfl⟩, rfl, ?_, ⟨rfl, rfl, rfl, ?_, fun r hr _ => ⟨hsame r hr, rfl⟩, hst⟩, fun _ _ _ h => h, Nat.le_refl _, ?_⟩
  · refine { size := by simp, env := ?_, inj := hs.inj, lt := ?_, dom := hs.dom, mem := ?_, iter := ?_, glob := ?_, own := ?_, excl := ?_, apart := ?_, view := ?_ }
    · intro t y hy
      simp only [AOut.val, get] at hy
      split at hy
      · rename_i h0; subst h0; injection hy with hy; subst hy; exact hv _ _ _
      · cases hy
    · intro b r hb
      obtain ⟨h1, h2, h3⟩ := hs.lt b r hb
      refine ⟨?_, h2, h3⟩
      rw [hheap]; simp only [Array.size_append]; omega
    · intro b cells r hb hr
      obtain ⟨c, e, h1, h2, h3⟩ := hs.mem b cells r hb hr
      refine ⟨c, e, by rw [hsame r (hs.lt b r hr).1]; exact h1, h2, fun j y hy => ?_⟩
      obtain ⟨k1, u, k2, k3⟩ := h3 j y hy
      exact ⟨k1, u, k2, k3.stab hst fun _ _ h => h⟩
    · intro b s pos r hb hr
      rw [hsame r (hs.lt b r hr).1]; exact hs.iter b s pos r hb hr
    · intro b s pos r hb hr
      rw [hsame r (hs.lt b r hr).1]; exact hs.glob b s pos r hb hr
    · exact fun p e rows v hp _ => absurd hp (hno p e rows)
    · rintro p p' r ⟨e, rows, _, hp, _⟩; exact absurd hp (hno p e rows)
    · rintro p r b ⟨e, rows, _, hp, _⟩; exact absurd hp (hno p e rows)
    · intro t org e rows hy
      simp only [AOut.val, get] at hy
      split at hy
      · injection hy with hy; exact absurd hy (hxv org e rows)
      · cases hy
  · rw [hheap]; simp only [Array.size_append]; exact Nat.le_add_right _ _
  · rintro r (⟨b, hb⟩ | ⟨p, e, rows, _, hp, _⟩)
    · exact .inl (.inl ⟨b, hb⟩)
    · exact absurd hp (hno p e rows)
end Go.AE

/- Integers, booleans, pairs. -/
set_option linter.unusedVariables false
namespace Go.AE
open Go
abbrev I (n : Int) : D := .int .i64 n
abbrev AI (n : Int) : AV := .d (.int .i64 n)
abbrev AB (b : Bool) : AV := .d (.bool b)
structure Pair where (v l : Int)
  deriving DecidableEq, Inhabited
def Pair.row (q : Pair) : List D := [I q.v, I q.l]
def Pair.av (q : Pair) : AV := .agg [AI q.v, AI q.l]
def pairsD (l : List Pair) : D := .sl (l.map Pair.row)
end Go.AE
