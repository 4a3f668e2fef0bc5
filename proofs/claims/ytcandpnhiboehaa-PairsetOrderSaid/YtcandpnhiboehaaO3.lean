/- For all pairs, the order of pairs is total and transitive: PairsetOrder returns true, does not panic, and its arguments read as before. No condition. -/
import Derived.Test.YtcandpnhiboehaaO2
import Derived.Test.YtcandpnhiboehaaRows
set_option linter.unusedVariables false
set_option linter.unusedSimpArgs false
namespace Go.Proofs.Ytcandpnhiboehaa
open Go Go.AE Go.Proofs
set_option maxRecDepth 100000
def nums : Nums := { law11_PairsetMatchesReference := 3, law11_PairsetMatchesSets := 4, law11_PairsetOrder := 5, law11_PairsetSubsets := 6, law23_LivenessMatchesReference := 7, law23_LivenessEquations := 8, law23_LivenessSound := 9, law23_LivenessNecessary := 10, law23_LivenessAppended := 11, law11_PairsetDrops := 12, law11_PairsetKeeps := 13, law11_awake := 14, ref11_Make := 15, pairset_Missing := 16, ref11_Missing := 17, pairset_Sorted := 18, ref11_Sorted := 19, ref11_Same := 20, pairset_Make := 21, pairset_Has := 22, ref11_Has := 23, pairset_Add := 24, ref11_Add := 25, pairset_Subset := 26, pairset_Union := 27, pairset_Less := 28, law23_awake := 29, ref07_Few := 30, ref07_Check := 31, ref23_Used := 32, ref23_Defines := 33, ref07_Numbers := 34, liveness_Uses := 35, liveness_Defs := 36, ref23_Same := 37, liveness_In := 38, ref23_In := 39, liveness_Out := 40, ref23_Out := 41, ref07_Successors := 42, ref23_Has := 43, ref09_Right := 44, ref09_Exec := 45, ref09_Step := 46, ref09_Copy := 47, ref09_Values := 48, ref07_Copy := 49, pairset_DropV := 50, pairset_DropL := 51, law11_spoil := 52, ref11_Less := 53, slices_Clone_Pair := 54, slices_SortFunc_Pair := 55, pairset_compare := 56, slices_Compact_Pair := 57, pairset_find := 58, ref07_Code := 59, ref07_Instr := 60, ref07_Term := 61, ref05_UsesA := 62, ref05_UsesB := 63, ref05_UsesD := 64, liveness_scan := 65, liveness_set_sorted := 66, liveness_solve := 67, ref23_live := 68, liveness_exit := 69, ref09_Start := 70, ref06_Eval := 71, pairset_filter := 72, pairset_DropV_1 := 73, pairset_DropL_1 := 74, slices_pdqsortCmpFunc_Pair := 75, math_bits_Len := 76, ref07_in := 77, liveness_scan_1 := 78, opcode_Of := 79, slices_Sort_int := 80, source_Successors := 81, ref06_bits := 82, ref06_half := 83, ref06_truth := 84, slices_insertionSortCmpFunc_Pair := 85, slices_heapSortCmpFunc_Pair := 86, slices_breakPatternsCmpFunc_Pair := 87, slices_choosePivotCmpFunc_Pair := 88, slices_reverseRangeCmpFunc_Pair := 89, slices_partialInsertionSortCmpFunc_Pair := 90, slices_partitionEqualCmpFunc_Pair := 91, slices_partitionCmpFunc_Pair := 92, math_bits_Len32 := 93, math_bits_Len64 := 94, opcode_known := 95, slices_pdqsortOrdered_int := 96, ref06_bit := 97, slices_siftDownCmpFunc_Pair := 98, slices_nextPowerOfTwo := 99, slices_xorshift_Next := 100, slices_medianAdjacentCmpFunc_Pair := 101, slices_medianCmpFunc_Pair := 102, slices_insertionSortOrdered_int := 103, slices_heapSortOrdered_int := 104, slices_breakPatternsOrdered_int := 105, slices_choosePivotOrdered_int := 106, slices_reverseRangeOrdered_int := 107, slices_partialInsertionSortOrdered_int := 108, cmp_Less_int := 109, slices_partitionEqualOrdered_int := 110, slices_partitionOrdered_int := 111, slices_order2CmpFunc_Pair := 112, slices_siftDownOrdered_int := 113, slices_medianAdjacentOrdered_int := 114, slices_medianOrdered_int := 115, cmp_isNaN_int := 116, slices_order2Ordered_int := 117, law22_SpillallMatchesReference := 0, law22_SpillallKeeps := 0, law22_SpillallSlots := 0, law22_awake := 0, spillall_Cert := 0, ref22_Cert := 0, ref16_Same := 0, spillall_Moves := 0, ref08_Moves := 0, ref22_Block := 0, ref07_Same := 0, interp_Exec := 0, execute_Exec := 0, spillall_Block := 0, source_Check := 0, slices_Clone_Instr := 0, spillall_invariant := 0, ref08_Code := 0, ref08_Same := 0, ref15_Same := 0, ref22_move := 0, interp_begin := 0, interp_state_step := 0, execute_begin := 0, execute_state_step := 0, spillall_builder_instr := 0, spillall_builder_add := 0, spillall_load := 0, source_Code := 0, source_block := 0, location_Slot := 0, interp_state_instr := 0, interp_state_term := 0, execute_state_instr := 0, execute_state_term := 0, spillall_store := 0, location_Reg := 0, source_Instr := 0, source_Term := 0, alu_Eval := 0, execute_state_compute := 0, execute_state_move := 0, execute_state_emit := 0, opcode_Source := 0, source_within := 0, source_blank := 0, alu_operation := 0, execute_state_at := 0, alu_operation_1 := 0, alu_operation_2 := 0, alu_operation_3 := 0, alu_operation_4 := 0, alu_operation_5 := 0, alu_operation_6 := 0, alu_operation_7 := 0, alu_operation_8 := 0, alu_operation_9 := 0, alu_operation_10 := 0, alu_operation_11 := 0, alu_truth := 0, alu_operation_12 := 0, location_IsSlot := 0, location_Index := 0 }
theorem follows : Try.prog.follows .mixedOrders = true := by kernel_rfl
theorem all : All Try.prog nums where
  law11_PairsetOrder := .of [] follows (by kernel_rfl) (by kernel_rfl) (by kernel_rfl) (by kernel_rfl)
  law11_awake := .of [] follows (by kernel_rfl) (by kernel_rfl) (by kernel_rfl) (by kernel_rfl)
  ref11_Make := .of [] follows (by kernel_rfl) (by kernel_rfl) (by kernel_rfl) (by kernel_rfl)
  pairset_Missing := .of [] follows (by kernel_rfl) (by kernel_rfl) (by kernel_rfl) (by kernel_rfl)
  ref11_Missing := .of [] follows (by kernel_rfl) (by kernel_rfl) (by kernel_rfl) (by kernel_rfl)
  pairset_Sorted := .of [] follows (by kernel_rfl) (by kernel_rfl) (by kernel_rfl) (by kernel_rfl)
  ref11_Sorted := .of [] follows (by kernel_rfl) (by kernel_rfl) (by kernel_rfl) (by kernel_rfl)
  ref11_Same := .of [] follows (by kernel_rfl) (by kernel_rfl) (by kernel_rfl) (by kernel_rfl)
  pairset_Make := .of [] follows (by kernel_rfl) (by kernel_rfl) (by kernel_rfl) (by kernel_rfl)
  pairset_Has := .of [] follows (by kernel_rfl) (by kernel_rfl) (by kernel_rfl) (by kernel_rfl)
  ref11_Has := .of [] follows (by kernel_rfl) (by kernel_rfl) (by kernel_rfl) (by kernel_rfl)
  pairset_Add := .of [] follows (by kernel_rfl) (by kernel_rfl) (by kernel_rfl) (by kernel_rfl)
  ref11_Add := .of [] follows (by kernel_rfl) (by kernel_rfl) (by kernel_rfl) (by kernel_rfl)
  pairset_Subset := .of [] follows (by kernel_rfl) (by kernel_rfl) (by kernel_rfl) (by kernel_rfl)
  pairset_Union := .of [] follows (by kernel_rfl) (by kernel_rfl) (by kernel_rfl) (by kernel_rfl)
  pairset_Less := .of [] follows (by kernel_rfl) (by kernel_rfl) (by kernel_rfl) (by kernel_rfl)
  ref11_Less := .of [] follows (by kernel_rfl) (by kernel_rfl) (by kernel_rfl) (by kernel_rfl)
  slices_Clone_Pair := .of [] follows (by kernel_rfl) (by kernel_rfl) (by kernel_rfl) (by kernel_rfl)
  pairset_compare := .of [] follows (by kernel_rfl) (by kernel_rfl) (by kernel_rfl) (by kernel_rfl)
  slices_Compact_Pair := .of [] follows (by kernel_rfl) (by kernel_rfl) (by kernel_rfl) (by kernel_rfl)
  pairset_find := .of [] follows (by kernel_rfl) (by kernel_rfl) (by kernel_rfl) (by kernel_rfl)
end Go.Proofs.Ytcandpnhiboehaa

namespace Go.Proofs.Ytcandpnhiboehaa
open Go Go.AE Go.ChangeShapes Go.WideShapes Go.ChangeAt Go.RowKit
set_option linter.unusedVariables false
theorem own : ownKnob Try.prog.godebug = none := by kernel_rfl
theorem laidOut : laidOutB Try.prog = true := by kernel_rfl
theorem flat25 : flatT Try.prog 8 25 = some ltPair := by kernel_rfl
theorem sok : SortOk Try.prog nums := sortOk nums rfl rfl
set_option maxRecDepth 100000 in
theorem lifted (os : Os) (started : os.Started) (H : Type) (enc : TypeId × Value → H) :
    ReturnsInHanded {} Try.checked os 5 .any (Rows.pairsetOrderSpec.pre6 enc Try.prog Try.f5 Rows.pairsetOrderRow.domain false) (Rows.pairsetOrderSpec.post enc Try.prog Try.f5 false true false false) := by
  refine returnsInHanded_of_change (C := Try.checked) own started (by kernel_rfl) Try.func5
    (ChangeSpec.witness6 (enc := enc) (C := Try.checked) false ⟨#[], #[.agg #[.int .i64 0, .int .i64 0], .agg #[.int .i64 0, .int .i64 0], .agg #[.int .i64 0, .int .i64 0]], []⟩ 8 (by kernel_rfl) (by kernel_rfl) (by kernel_rfl) (by kernel_rfl)) ?_
  intro W base args ds gs before hval0 hW hcnd _
  have hval : ∀ (j : Nat) t v, Try.f5.params[j]? = some t → args[j]? = some v → Value.okWide Try.prog W .any base t v := hval0
  have hW' := hW
  obtain ⟨p, q, hA0, hV, rfl, hfz, hnd⟩ := hW
  have hA : DataW.TrodAll enc Try.prog W 0 (fun _ => true) true Try.f5.params.toList args.toList ds p := hA0
  rw [Try.params5] at hA hval
  obtain ⟨v0, vs0, d0, ds0, p0, q0, e0a, e0b, rfl, h0, r0⟩ := trodAll_cons hA
  obtain ⟨v1, vs1, d1, ds1, p1, q1, e1a, e1b, rfl, h1, r1⟩ := trodAll_cons r0
  obtain ⟨v2, vs2, d2, ds2, p2, q2, e2a, e2b, rfl, h2, r2⟩ := trodAll_cons r1
  obtain ⟨e3a, e3b, rfl⟩ := trodAll_nil r2
  subst e3a e3b
  subst e2a e2b
  subst e1a e1b
  obtain rfl : args = #[v0, v1, v2] := by cases args; simp_all
  subst e0b
  obtain ⟨rfl, rfl⟩ := trodVars_none hV
  have hv0 := hval 0 25 v0 rfl rfl
  have k0 := h0
  obtain ⟨n0, hn0⟩ := h0
  obtain ⟨cs0, rfl⟩ := struct_val Try.underlying25 hv0
  obtain ⟨es0, hes0, hrel0⟩ := rel_agg (cs := cs0) (reads (w := W) n0 8 25 _ _ _ hn0 flat25)
  obtain ⟨x0, hx0⟩ := pair_of hes0
  rw [hx0] at hrel0
  have hv1 := hval 1 25 v1 rfl rfl
  have k1 := h1
  obtain ⟨n1, hn1⟩ := h1
  obtain ⟨cs1, rfl⟩ := struct_val Try.underlying25 hv1
  obtain ⟨es1, hes1, hrel1⟩ := rel_agg (cs := cs1) (reads (w := W) n1 8 25 _ _ _ hn1 flat25)
  obtain ⟨x1, hx1⟩ := pair_of hes1
  rw [hx1] at hrel1
  have hv2 := hval 2 25 v2 rfl rfl
  have k2 := h2
  obtain ⟨n2, hn2⟩ := h2
  obtain ⟨cs2, rfl⟩ := struct_val Try.underlying25 hv2
  obtain ⟨es2, hes2, hrel2⟩ := rel_agg (cs := cs2) (reads (w := W) n2 8 25 _ _ _ hn2 flat25)
  obtain ⟨x2, hx2⟩ := pair_of hes2
  rw [hx2] at hrel2
  have lt0 : ∀ x ∈ p0, x.block < W.heap.size := fun x hx => DataW.trod_lt n0 _ _ _ hn0 x hx
  have lt1 : ∀ x ∈ p1, x.block < W.heap.size := fun x hx => DataW.trod_lt n1 _ _ _ hn1 x hx
  have lt2 : ∀ x ∈ p2, x.block < W.heap.size := fun x hx => DataW.trod_lt n2 _ _ _ hn2 x hx
  refine ((law11_PairsetOrder_calls all sok x0 x1 x2).law (w := W) (vs := #[.agg cs0, .agg cs1, .agg cs2]) rfl (by simp [AV.plain, Pair.av]) ?_).mono fun e W' ⟨he, bel⟩ => ?_
  · intro j x v hx hv
    cases j with
    | zero => simp at hx hv; subst hx; subst hv; exact hrel0
    | succ j =>
      cases j with
      | zero => simp at hx hv; subst hx; subst hv; exact hrel1
      | succ j =>
        cases j with
        | zero => simp at hx hv; subst hx; subst hv; exact hrel2
        | succ j =>
          simp at hx
  subst he
  exact ⟨_, rfl, _, _, _, [], _, [], hW', trodAll_mk1 (shut_bool Try.underlying4 _), (trodAll_consP (Below.trod laidOut (by kernel_rfl) (of_decide_eq_true (by kernel_rfl)) k0 bel lt0) (trodAll_consP (Below.trod laidOut (by kernel_rfl) (of_decide_eq_true (by kernel_rfl)) k1 bel lt1) (trodAll_consP (Below.trod laidOut (by kernel_rfl) (of_decide_eq_true (by kernel_rfl)) k2 bel lt2) trodAll_mk0))), rfl, bel.frame _, fun h => by cases h⟩
theorem pairsetOrder_holds : Rows.PairsetOrderSaid :=
  OpenClaim.holds_of_wide 5 Try.f5 rfl rfl rfl rfl rfl rfl rfl ⟨rfl, rfl, rfl, rfl, rfl⟩ rfl rfl rfl rfl rfl (by kernel_rfl) Try.func5 (by kernel_rfl)
    (of_decide_eq_true (by kernel_rfl)) (by unfold Func.isWrapper; first | (rw [if_pos (by decide +kernel)]; kernel_rfl) | (rw [if_neg (by decide +kernel)]; exact ⟨rfl, rfl⟩))
    (fun os started H enc _ => lifted os started H enc)
#print axioms pairsetOrder_holds
end Go.Proofs.Ytcandpnhiboehaa
