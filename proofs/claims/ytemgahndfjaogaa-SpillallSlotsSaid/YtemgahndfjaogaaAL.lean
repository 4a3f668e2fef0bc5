/- For every function, argument list and number of steps: if the source function has run so far, the function in which every register lies in its slot has run alike, and its slots have the registers' values; under no condition but the given statement's own. -/
import Derived.Test.YtemgahndfjaogaaA4
import Derived.Test.YtemgahndfjaogaaProg
import Derived.Test.YtemgahndfjaogaaRows
set_option linter.unusedVariables false
set_option linter.unusedSimpArgs false
namespace Go.Proofs.Ytemgahndfjaogaa
open Go Go.AE Go.Proofs
set_option maxRecDepth 100000
noncomputable def nums : Nums := { law16_CheckerMatchesReference := 0, law16_CheckerOnce := 0, law16_CheckerLocal := 0, law16_CheckerSubset := 0, law16_CheckerKeeps := 0, law16_CheckerSound := 0, law22_SpillallAccepted := 0, law16_awake := 0, ref16_Few := 0, checker_Valid := 0, ref16_Valid := 0, checker_Check := 0, ref16_Check := 0, ref07_Successors := 0, checker_Bound := 0, ref14_Check := 0, ref11_Missing := 0, ref16_Copy := 0, ref16_Same := 11, law16_simulates := 0, law22_awake := 5, ref07_Few := 6, ref07_Check := 22, spillall_Cert := 8, ref07_Same := 10, ref08_Few := 0, ref15_Few := 0, source_Check := 19, machine_Check := 0, edge_Valid := 0, ref08_Check := 0, ref15_Valid := 0, checker_begin := 0, blockcheck_Check := 0, source_Successors := 0, edge_Implies := 0, ref15_Initial := 0, source_Code := 35, machine_Code := 0, ref14_fail := 0, ref13_Code := 0, ref13_Terms := 0, ref14_grow := 0, ref12_Copy := 0, ref12_Move := 0, ref05_UsesA := 41, ref14_use := 0, ref05_UsesB := 42, ref05_UsesD := 43, ref12_Define := 0, ref11_Has := 0, ref07_Copy := 7, ref08_Copy := 0, ref08_Same := 26, ref15_Same := 27, interp_Exec := 13, execute_Exec := 14, ref09_Values := 15, ref09_Prefix := 0, spillall_Block := 16, spillall_Moves := 17, ref07_Code := 18, ref07_Instr := 38, ref07_Term := 39, slices_Clone_Instr := 20, spillall_invariant := 21, ref08_Code := 25, source_block := 36, machine_block := 0, edge_total := 0, edge_pairs := 0, ref08_Instr := 0, ref08_Moves := 24, ref04_InRange := 0, ref11_Less := 0, edge_Entry := 0, align_Code := 0, align_Terms := 0, pairset_Make := 0, blockcheck_checker_run := 0, pairset_Missing := 0, ref13_Operations := 0, ref13_Others := 0, ref13_Same := 0, ref11_Add := 0, ref11_Same := 44, interp_begin := 28, interp_state_step := 29, execute_begin := 30, execute_state_step := 31, spillall_builder_instr := 32, spillall_builder_add := 33, spillall_load := 34, ref07_in := 54, location_Slot := 37, source_Instr := 52, source_Term := 53, machine_Instr := 0, location_InRange := 0, pairset_Less := 0, edge_Initial := 0, align_skip_Instr := 0, align_copied := 0, align_skip_Mach := 0, align_moved := 0, align_Same := 0, slices_Clone_Pair := 0, slices_SortFunc_Pair := 0, pairset_compare := 0, slices_Compact_Pair := 0, blockcheck_checker_run_1 := 0, blockcheck_checker_row := 0, blockcheck_checker_use := 0, interp_state_instr := 45, interp_state_term := 46, execute_state_instr := 47, execute_state_term := 48, opcode_Of := 49, spillall_store := 50, location_Reg := 51, opcode_Source := 60, source_within := 61, source_blank := 62, opcode_Machine := 0, machine_others := 0, machine_moves := 0, location_IsSlot := 78, location_Index := 79, slices_pdqsortCmpFunc_Pair := 0, math_bits_Len := 0, blockcheck_checker_cost := 0, blockcheck_checker_become := 0, transfer_Copy := 0, transfer_Move := 0, blockcheck_checker_instr := 0, pairset_Has := 0, alu_Eval := 55, execute_state_compute := 56, execute_state_move := 57, execute_state_emit := 58, opcode_known := 59, machine_others_1 := 0, machine_others_2 := 0, machine_moves_1 := 0, machine_moves_2 := 0, slices_insertionSortCmpFunc_Pair := 0, slices_heapSortCmpFunc_Pair := 0, slices_breakPatternsCmpFunc_Pair := 0, slices_choosePivotCmpFunc_Pair := 0, slices_reverseRangeCmpFunc_Pair := 0, slices_partialInsertionSortCmpFunc_Pair := 0, slices_partitionEqualCmpFunc_Pair := 0, slices_partitionCmpFunc_Pair := 0, math_bits_Len32 := 0, math_bits_Len64 := 0, transfer_rename := 0, pairset_DropV := 0, transfer_Copy_1 := 0, pairset_DropL := 0, transfer_Move_1 := 0, transfer_Define := 0, pairset_find := 0, alu_operation := 63, execute_state_at := 64, slices_siftDownCmpFunc_Pair := 0, slices_nextPowerOfTwo := 0, slices_xorshift_Next := 0, slices_medianAdjacentCmpFunc_Pair := 0, slices_medianCmpFunc_Pair := 0, pairset_Union := 0, pairset_filter := 0, pairset_DropV_1 := 0, pairset_DropL_1 := 0, pairset_Add := 0, alu_operation_1 := 65, alu_operation_2 := 66, alu_operation_3 := 67, alu_operation_4 := 68, alu_operation_5 := 69, alu_operation_6 := 70, alu_operation_7 := 71, alu_operation_8 := 72, alu_operation_9 := 73, alu_operation_10 := 74, alu_operation_11 := 75, alu_truth := 76, alu_operation_12 := 77, slices_order2CmpFunc_Pair := 0, law11_PairsetMatchesReference := 0, law11_PairsetMatchesSets := 0, law11_PairsetOrder := 0, law11_PairsetSubsets := 0, law23_LivenessMatchesReference := 0, law23_LivenessEquations := 0, law23_LivenessSound := 0, law23_LivenessNecessary := 0, law23_LivenessAppended := 0, law11_PairsetDrops := 0, law11_PairsetKeeps := 0, law11_awake := 0, ref11_Make := 0, pairset_Sorted := 0, ref11_Sorted := 0, pairset_Subset := 0, law23_awake := 0, ref23_Used := 0, ref23_Defines := 0, ref07_Numbers := 0, liveness_Uses := 0, liveness_Defs := 0, ref23_Same := 0, liveness_In := 0, ref23_In := 0, liveness_Out := 0, ref23_Out := 0, ref23_Has := 0, ref09_Right := 12, ref09_Exec := 0, ref09_Step := 0, ref09_Copy := 0, law11_spoil := 0, liveness_scan := 0, liveness_set_sorted := 0, liveness_solve := 0, ref23_live := 0, liveness_exit := 0, ref09_Start := 0, ref06_Eval := 0, liveness_scan_1 := 0, slices_Sort_int := 0, ref06_bits := 0, ref06_half := 0, ref06_truth := 0, slices_pdqsortOrdered_int := 0, ref06_bit := 0, slices_insertionSortOrdered_int := 0, slices_heapSortOrdered_int := 0, slices_breakPatternsOrdered_int := 0, slices_choosePivotOrdered_int := 0, slices_reverseRangeOrdered_int := 0, slices_partialInsertionSortOrdered_int := 0, cmp_Less_int := 0, slices_partitionEqualOrdered_int := 0, slices_partitionOrdered_int := 0, slices_siftDownOrdered_int := 0, slices_medianAdjacentOrdered_int := 0, slices_medianOrdered_int := 0, cmp_isNaN_int := 0, slices_order2Ordered_int := 0, law12_TransferMatchesReference := 0, law12_TransferSound := 0, law12_TransferComplete := 0, law12_TransferMonotone := 0, law12_TransferKeeps := 0, law14_BlockcheckMatchesReference := 0, law14_BlockcheckSound := 0, law14_BlockcheckMonotone := 0, law14_BlockcheckSteps := 0, law14_BlockcheckKeeps := 0, law12_awake := 0, law12_known := 0, law12_holds := 0, law12_subset := 0, law14_awake := 0, law14_right := 0, ref14_Same := 0, law14_result := 0, ref10_Step := 0, ref10_Read := 0, law22_SpillallMatchesReference := 0, law22_SpillallKeeps := 3, law22_SpillallSlots := 4, ref22_Cert := 9, ref22_Block := 23, ref22_move := 40, law04_LocationBijection := 0, law04_LocationTexts := 0, law04_LocationMatchesReference := 0, law04_LocationRange := 0, law04_awake := 0, location_Parse := 0, location_Text := 0, ref04_Parse := 0, ref04_Text := 0, strconv_Itoa := 0, ref04_Number := 0, ref04_Decimal := 0, ty_bcfail := 0 }
theorem follows : Try.prog.follows .mixedOrders = true := by kernel_rfl
theorem all : All Try.prog nums where
 law22_awake := .of [] follows (by kernel_rfl) (by kernel_rfl) (by kernel_rfl) (by kernel_rfl)
 ref07_Few := .of [] follows (by kernel_rfl) (by kernel_rfl) (by kernel_rfl) (by kernel_rfl)
 ref07_Check := .of [] follows (by kernel_rfl) (by kernel_rfl) (by kernel_rfl) (by kernel_rfl)
 spillall_Cert := .of [] follows (by kernel_rfl) (by kernel_rfl) (by kernel_rfl) (by kernel_rfl)
 source_Check := .of [] follows (by kernel_rfl) (by kernel_rfl) (by kernel_rfl) (by kernel_rfl)
 source_Code := .of [] follows (by kernel_rfl) (by kernel_rfl) (by kernel_rfl) (by kernel_rfl)
 ref05_UsesA := .of [] follows (by kernel_rfl) (by kernel_rfl) (by kernel_rfl) (by kernel_rfl)
 ref05_UsesB := .of [] follows (by kernel_rfl) (by kernel_rfl) (by kernel_rfl) (by kernel_rfl)
 ref05_UsesD := .of [] follows (by kernel_rfl) (by kernel_rfl) (by kernel_rfl) (by kernel_rfl)
 interp_Exec := .of [] follows (by kernel_rfl) (by kernel_rfl) (by kernel_rfl) (by kernel_rfl)
 execute_Exec := .of [] follows (by kernel_rfl) (by kernel_rfl) (by kernel_rfl) (by kernel_rfl)
 ref09_Values := .of [] follows (by kernel_rfl) (by kernel_rfl) (by kernel_rfl) (by kernel_rfl)
 spillall_Block := .of [] follows (by kernel_rfl) (by kernel_rfl) (by kernel_rfl) (by kernel_rfl)
 spillall_Moves := .of [] follows (by kernel_rfl) (by kernel_rfl) (by kernel_rfl) (by kernel_rfl)
 ref07_Code := .of [] follows (by kernel_rfl) (by kernel_rfl) (by kernel_rfl) (by kernel_rfl)
 ref07_Instr := .of [[], [0], [], [0], [], [0]] follows (by kernel_rfl) (by kernel_rfl) (by kernel_rfl) (by kernel_rfl)
 ref07_Term := .of [] follows (by kernel_rfl) (by kernel_rfl) (by kernel_rfl) (by kernel_rfl)
 slices_Clone_Instr := .of [] follows (by kernel_rfl) (by kernel_rfl) (by kernel_rfl) (by kernel_rfl)
 spillall_invariant := .of [] follows (by kernel_rfl) (by kernel_rfl) (by kernel_rfl) (by kernel_rfl)
 source_block := .of [] follows (by kernel_rfl) (by kernel_rfl) (by kernel_rfl) (by kernel_rfl)
 interp_begin := .of [] follows (by kernel_rfl) (by kernel_rfl) (by kernel_rfl) (by kernel_rfl)
 interp_state_step := .of [] follows (by kernel_rfl) (by kernel_rfl) (by kernel_rfl) (by kernel_rfl)
 execute_begin := .of [[3], [3], [3], [3], [3]] follows (by kernel_rfl) (by kernel_rfl) (by kernel_rfl) (by kernel_rfl)
 execute_state_step := .of [] follows (by kernel_rfl) (by kernel_rfl) (by kernel_rfl) (by kernel_rfl)
 spillall_builder_instr := .of [] follows (by kernel_rfl) (by kernel_rfl) (by kernel_rfl) (by kernel_rfl)
 spillall_builder_add := .of [] follows (by kernel_rfl) (by kernel_rfl) (by kernel_rfl) (by kernel_rfl)
 spillall_load := .of [] follows (by kernel_rfl) (by kernel_rfl) (by kernel_rfl) (by kernel_rfl)
 ref07_in := .of [] follows (by kernel_rfl) (by kernel_rfl) (by kernel_rfl) (by kernel_rfl)
 location_Slot := .of [] follows (by kernel_rfl) (by kernel_rfl) (by kernel_rfl) (by kernel_rfl)
 source_Instr := .of [] follows (by kernel_rfl) (by kernel_rfl) (by kernel_rfl) (by kernel_rfl)
 source_Term := .of [] follows (by kernel_rfl) (by kernel_rfl) (by kernel_rfl) (by kernel_rfl)
 interp_state_instr := .of [[2], [2], [2], [2], [2], [2], [2], [2], [2]] follows (by kernel_rfl) (by kernel_rfl) (by kernel_rfl) (by kernel_rfl)
 interp_state_term := .of [] follows (by kernel_rfl) (by kernel_rfl) (by kernel_rfl) (by kernel_rfl)
 execute_state_instr := .of [] follows (by kernel_rfl) (by kernel_rfl) (by kernel_rfl) (by kernel_rfl)
 execute_state_term := .of [] follows (by kernel_rfl) (by kernel_rfl) (by kernel_rfl) (by kernel_rfl)
 opcode_Of := .of [] follows (by kernel_rfl) (by kernel_rfl) (by kernel_rfl) (by kernel_rfl)
 spillall_store := .of [] follows (by kernel_rfl) (by kernel_rfl) (by kernel_rfl) (by kernel_rfl)
 location_Reg := .of [] follows (by kernel_rfl) (by kernel_rfl) (by kernel_rfl) (by kernel_rfl)
 opcode_Source := .of [] follows (by kernel_rfl) (by kernel_rfl) (by kernel_rfl) (by kernel_rfl)
 source_within := .of [] follows (by kernel_rfl) (by kernel_rfl) (by kernel_rfl) (by kernel_rfl)
 source_blank := .of [] follows (by kernel_rfl) (by kernel_rfl) (by kernel_rfl) (by kernel_rfl)
 location_IsSlot := .of [] follows (by kernel_rfl) (by kernel_rfl) (by kernel_rfl) (by kernel_rfl)
 location_Index := .of [] follows (by kernel_rfl) (by kernel_rfl) (by kernel_rfl) (by kernel_rfl)
 alu_Eval := .of [] follows (by kernel_rfl) (by kernel_rfl) (by kernel_rfl) (by kernel_rfl)
 execute_state_compute := .of [] follows (by kernel_rfl) (by kernel_rfl) (by kernel_rfl) (by kernel_rfl)
 execute_state_move := .of [[3], [3], [3]] follows (by kernel_rfl) (by kernel_rfl) (by kernel_rfl) (by kernel_rfl)
 execute_state_emit := .of [[2], [2], [2]] follows (by kernel_rfl) (by kernel_rfl) (by kernel_rfl) (by kernel_rfl)
 opcode_known := .of [] follows (by kernel_rfl) (by kernel_rfl) (by kernel_rfl) (by kernel_rfl)
 alu_operation := .of [] follows (by kernel_rfl) (by kernel_rfl) (by kernel_rfl) (by kernel_rfl)
 execute_state_at := .of [] follows (by kernel_rfl) (by kernel_rfl) (by kernel_rfl) (by kernel_rfl)
 alu_operation_1 := .of [] follows (by kernel_rfl) (by kernel_rfl) (by kernel_rfl) (by kernel_rfl)
 alu_operation_2 := .of [] follows (by kernel_rfl) (by kernel_rfl) (by kernel_rfl) (by kernel_rfl)
 alu_operation_3 := .of [] follows (by kernel_rfl) (by kernel_rfl) (by kernel_rfl) (by kernel_rfl)
 alu_operation_4 := .of [] follows (by kernel_rfl) (by kernel_rfl) (by kernel_rfl) (by kernel_rfl)
 alu_operation_5 := .of [] follows (by kernel_rfl) (by kernel_rfl) (by kernel_rfl) (by kernel_rfl)
 alu_operation_6 := .of [] follows (by kernel_rfl) (by kernel_rfl) (by kernel_rfl) (by kernel_rfl)
 alu_operation_7 := .of [] follows (by kernel_rfl) (by kernel_rfl) (by kernel_rfl) (by kernel_rfl)
 alu_operation_8 := .of [] follows (by kernel_rfl) (by kernel_rfl) (by kernel_rfl) (by kernel_rfl)
 alu_operation_9 := .of [] follows (by kernel_rfl) (by kernel_rfl) (by kernel_rfl) (by kernel_rfl)
 alu_operation_10 := .of [] follows (by kernel_rfl) (by kernel_rfl) (by kernel_rfl) (by kernel_rfl)
 alu_operation_11 := .of [] follows (by kernel_rfl) (by kernel_rfl) (by kernel_rfl) (by kernel_rfl)
 alu_truth := .of [] follows (by kernel_rfl) (by kernel_rfl) (by kernel_rfl) (by kernel_rfl)
 alu_operation_12 := .of [] follows (by kernel_rfl) (by kernel_rfl) (by kernel_rfl) (by kernel_rfl)
 ref09_Right := .of [] follows (by kernel_rfl) (by kernel_rfl) (by kernel_rfl) (by kernel_rfl)
 law22_SpillallSlots := .of [] follows (by kernel_rfl) (by kernel_rfl) (by kernel_rfl) (by kernel_rfl)
end Go.Proofs.Ytemgahndfjaogaa
namespace Go.Proofs.Ytemgahndfjaogaa
open Go Go.AE Go.ChangeShapes Go.WideShapes Go.ChangeAt Go.RowKit
theorem own : ownKnob Try.prog.godebug = none := by kernel_rfl
theorem Jtct : laidOutB Try.prog = true := by kernel_rfl
theorem flat24 : flatT Try.prog 8 24 = some ltFunc := by kernel_rfl
theorem flat52 : flatT Try.prog 8 52 = some [.sl [ltI]] := by kernel_rfl
theorem flat5 : flatT Try.prog 8 5 = some [.int .u8] := by kernel_rfl
set_option maxRecDepth 100000 in
theorem lifted (os : Os) (started : os.Started) (H : Type) (enc : TypeId × Value → H) :
  ReturnsInHanded {} Try.checked os 4 .any (Rows.spillallSlotsSpec.pre6 enc Try.prog Try.f4 Rows.spillallSlotsRow.domain false) (Rows.spillallSlotsSpec.post enc Try.prog Try.f4 false true false false) := by
 refine returnsInHanded_of_change (C := Try.checked) own started (by kernel_rfl) Try.func4
  (ChangeSpec.witness6 (enc := enc) (C := Try.checked) false ⟨#[], #[.agg #[.int .i64 0, .int .i64 0, .slice none 0 0], .slice none 0 0, .int .u8 0], []⟩ 8 (by kernel_rfl) (by kernel_rfl) (by kernel_rfl) (by kernel_rfl)) ?_
 intro W base args ds gs before hval0 hW hcnd _
 have hval : ∀ (j : Nat) t v, Try.f4.params[j]? = some t → args[j]? = some v → Value.okWide Try.prog W .any base t v := hval0
 have hW' := hW
 obtain ⟨p, q, hA0, hV, rfl, hfz, hnd⟩ := hW
 have hA : DataW.TrodAll enc Try.prog W 0 (fun _ => true) true Try.f4.params.toList args.toList ds p := hA0
 rw [Try.params4] at hA hval
 obtain ⟨v0, vs0, d0, ds0, p0, q0, e0a, e0b, rfl, h0, r0⟩ := trodAll_cons hA
 obtain ⟨v1, vs1, d1, ds1, p1, q1, e1a, e1b, rfl, h1, r1⟩ := trodAll_cons r0
 obtain ⟨v2, vs2, d2, ds2, p2, q2, e2a, e2b, rfl, h2, r2⟩ := trodAll_cons r1
 obtain ⟨e3a, e3b, rfl⟩ := trodAll_nil r2
 subst e3a e3b
 subst e2a e2b
 subst e1a e1b
 obtain rfl : args = #[v0, v1, v2] := by cases args; simp_all
 subst e0b
 obtain ⟨rfl, rfl⟩ := trodVars_none hV
 have hv0 := hval 0 24 v0 rfl rfl
 have k0 := h0
 obtain ⟨n0, hn0⟩ := h0
 obtain ⟨cs0, rfl⟩ := Jtkm Try.underlying24 hv0
 obtain ⟨es0, hes0, hrel0⟩ := Jtgi (cs := cs0) (reads (w := W) n0 8 24 _ _ _ hn0 flat24)
 obtain ⟨x0, hx0⟩ := Jt8v hes0
 rw [hx0] at hrel0
 have hv1 := hval 1 52 v1 rfl rfl
 have k1 := h1
 obtain ⟨n1, hn1⟩ := h1
 obtain ⟨a1, l1, c1, rfl⟩ := okWide_slice Try.underlying52 hv1
 obtain ⟨es1, hes1, hrel1⟩ := Jtgj (reads (w := W) n1 8 52 _ _ _ hn1 flat52)
 obtain ⟨x1, hx1, hl1⟩ := Jtcg hes1
 rw [hx1] at hrel1
 have hv2 := hval 2 5 v2 rfl rfl
 have k2 := h2
 obtain ⟨n2, hn2⟩ := h2
 obtain ⟨a2, rfl⟩ := okWide_int Try.underlying5 hv2
 obtain ⟨es2, hes2, hrel2⟩ := Jtgj (reads (w := W) n2 8 5 _ _ _ hn2 flat5)
 obtain ⟨x2, hx2, hb2⟩ := u8_of hes2
 rw [hx2] at hrel2
 have lt0 : ∀ x ∈ p0, x.block < W.heap.size := fun x hx => DataW.trod_lt n0 _ _ _ hn0 x hx
 have lt1 : ∀ x ∈ p1, x.block < W.heap.size := fun x hx => DataW.trod_lt n1 _ _ _ hn1 x hx
 have lt2 : ∀ x ∈ p2, x.block < W.heap.size := fun x hx => DataW.trod_lt n2 _ _ _ hn2 x hx
 refine ((Jtcv all x0 x1 x2 hb2).law (w := W) (vs := #[.agg cs0, .slice a1 l1 c1, .int .u8 a2]) rfl (by simp [AV.plain, Pair.av, Func.av, AU, intsD]) ?_).mono fun e W' ⟨he, bel⟩ => ?_
 ·intro j x v hx hv
  cases j with
  | zero => simp at hx hv; subst hx; subst hv; exact hrel0
  | succ j =>
   cases j with
   | zero => simp at hx hv; subst hx; subst hv; exact hrel1
   | succ j =>
    cases j with
    | zero => simp at hx hv; subst hx; subst hv; exact hrel2
    | succ j =>
     simp at hx
 subst he
 exact ⟨_, rfl, _, _, _, [], _, [], hW', trodAll_mk1 (shut_bool Try.underlying4 _), (Jtl5 (Below.trod Jtct (by kernel_rfl) (of_decide_eq_true (by kernel_rfl)) k0 bel lt0) (Jtl5 (Below.trod Jtct (by kernel_rfl) (of_decide_eq_true (by kernel_rfl)) k1 bel lt1) (Jtl5 (Below.trod Jtct (by kernel_rfl) (of_decide_eq_true (by kernel_rfl)) k2 bel lt2) trodAll_mk0))), rfl, bel.frame _, fun h => by cases h⟩
theorem spillallSlots_holds : Rows.SpillallSlotsSaid :=
 OpenClaim.holds_of_wide 4 Try.f4 rfl rfl rfl rfl rfl rfl rfl ⟨rfl, rfl, rfl, rfl, rfl⟩ rfl rfl rfl rfl rfl (by kernel_rfl) Try.func4 (by kernel_rfl)
  (of_decide_eq_true (by kernel_rfl)) (by unfold Func.isWrapper; first | (rw [if_pos (by decide +kernel)]; kernel_rfl) | (rw [if_neg (by decide +kernel)]; exact ⟨rfl, rfl⟩))
  (fun os started H enc _ => lifted os started H enc)
#print axioms spillallSlots_holds
end Go.Proofs.Ytemgahndfjaogaa
