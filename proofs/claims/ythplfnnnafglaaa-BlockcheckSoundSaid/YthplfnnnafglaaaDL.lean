/- If a block is accepted and all pairs of the invariant hold for some values, both blocks, executed from them, emit the same values and end in the same way, and all pairs of the result hold; under no condition but the given statement's own. -/
import Derived.Test.YthplfnnnafglaaaD5
import Derived.Test.YthplfnnnafglaaaProg
import Derived.Test.YthplfnnnafglaaaRows
set_option linter.unusedVariables false
set_option linter.unusedSimpArgs false
namespace Go.Proofs.Ythplfnnnafglaaa
open Go Go.AE Go.Proofs
set_option maxRecDepth 100000
noncomputable def nums : Nums := { law11_PairsetMatchesReference := 0, law11_PairsetMatchesSets := 0, law11_PairsetOrder := 0, law11_PairsetSubsets := 0, law23_LivenessMatchesReference := 0, law23_LivenessEquations := 0, law23_LivenessSound := 0, law23_LivenessNecessary := 0, law23_LivenessAppended := 0, law11_PairsetDrops := 0, law11_PairsetKeeps := 0, law11_awake := 0, ref11_Make := 14, pairset_Missing := 0, ref11_Missing := 35, pairset_Sorted := 0, ref11_Sorted := 0, ref11_Same := 15, pairset_Make := 37, pairset_Has := 98, ref11_Has := 59, pairset_Add := 43, ref11_Add := 36, pairset_Subset := 0, pairset_Union := 65, pairset_Less := 92, law23_awake := 0, ref07_Few := 0, ref07_Check := 44, ref23_Used := 0, ref23_Defines := 0, ref07_Numbers := 0, liveness_Uses := 0, liveness_Defs := 0, ref23_Same := 0, liveness_In := 0, ref23_In := 0, liveness_Out := 0, ref23_Out := 0, ref07_Successors := 0, ref23_Has := 0, ref09_Right := 0, ref09_Exec := 0, ref09_Step := 31, ref09_Copy := 57, ref09_Values := 33, ref07_Copy := 0, pairset_DropV := 39, pairset_DropL := 41, law11_spoil := 0, ref11_Less := 60, slices_Clone_Pair := 61, slices_SortFunc_Pair := 62, pairset_compare := 63, slices_Compact_Pair := 64, pairset_find := 69, ref07_Code := 70, ref07_Instr := 71, ref07_Term := 72, ref05_UsesA := 53, ref05_UsesB := 55, ref05_UsesD := 56, liveness_scan := 0, liveness_set_sorted := 0, liveness_solve := 0, ref23_live := 0, liveness_exit := 0, ref09_Start := 0, ref06_Eval := 58, pairset_filter := 66, pairset_DropV_1 := 67, pairset_DropL_1 := 68, slices_pdqsortCmpFunc_Pair := 90, math_bits_Len := 91, ref07_in := 93, liveness_scan_1 := 0, opcode_Of := 111, slices_Sort_int := 0, source_Successors := 0, ref06_bits := 87, ref06_half := 88, ref06_truth := 89, slices_insertionSortCmpFunc_Pair := 101, slices_heapSortCmpFunc_Pair := 102, slices_breakPatternsCmpFunc_Pair := 103, slices_choosePivotCmpFunc_Pair := 104, slices_reverseRangeCmpFunc_Pair := 105, slices_partialInsertionSortCmpFunc_Pair := 106, slices_partitionEqualCmpFunc_Pair := 107, slices_partitionCmpFunc_Pair := 108, math_bits_Len32 := 109, math_bits_Len64 := 110, opcode_known := 117, slices_pdqsortOrdered_int := 0, ref06_bit := 100, slices_siftDownCmpFunc_Pair := 112, slices_nextPowerOfTwo := 113, slices_xorshift_Next := 114, slices_medianAdjacentCmpFunc_Pair := 115, slices_medianCmpFunc_Pair := 116, slices_insertionSortOrdered_int := 0, slices_heapSortOrdered_int := 0, slices_breakPatternsOrdered_int := 0, slices_choosePivotOrdered_int := 0, slices_reverseRangeOrdered_int := 0, slices_partialInsertionSortOrdered_int := 0, cmp_Less_int := 0, slices_partitionEqualOrdered_int := 0, slices_partitionOrdered_int := 0, slices_order2CmpFunc_Pair := 118, slices_siftDownOrdered_int := 0, slices_medianAdjacentOrdered_int := 0, slices_medianOrdered_int := 0, cmp_isNaN_int := 0, slices_order2Ordered_int := 0, law22_SpillallKeeps := 0, law22_SpillallSlots := 0, law22_awake := 0, spillall_Cert := 0, ref22_Cert := 0, ref07_Same := 0, ref16_Same := 0, interp_Exec := 0, execute_Exec := 0, spillall_Block := 0, spillall_Moves := 0, source_Check := 0, slices_Clone_Instr := 0, spillall_invariant := 0, ref22_Block := 0, ref08_Moves := 75, ref08_Code := 73, ref08_Same := 0, ref15_Same := 0, interp_begin := 0, interp_state_step := 0, execute_begin := 0, execute_state_step := 0, spillall_builder_instr := 0, spillall_builder_add := 0, spillall_load := 0, source_Code := 0, source_block := 0, location_Slot := 0, ref22_move := 0, interp_state_instr := 0, interp_state_term := 0, execute_state_instr := 0, execute_state_term := 0, spillall_store := 0, location_Reg := 99, source_Instr := 0, source_Term := 0, alu_Eval := 0, execute_state_compute := 0, execute_state_move := 0, execute_state_emit := 0, opcode_Source := 0, source_within := 0, source_blank := 0, alu_operation := 0, execute_state_at := 0, alu_operation_1 := 0, alu_operation_2 := 0, alu_operation_3 := 0, alu_operation_4 := 0, alu_operation_5 := 0, alu_operation_6 := 0, alu_operation_7 := 0, alu_operation_8 := 0, alu_operation_9 := 0, alu_operation_10 := 0, alu_operation_11 := 0, alu_truth := 0, alu_operation_12 := 0, location_IsSlot := 0, location_Index := 0, law16_CheckerMatchesReference := 0, law16_CheckerOnce := 0, law16_CheckerLocal := 0, law16_CheckerSubset := 0, law16_CheckerKeeps := 0, law22_SpillallAccepted := 0, law16_CheckerSound := 0, law16_awake := 0, ref16_Few := 0, checker_Valid := 0, ref16_Valid := 0, checker_Check := 0, ref16_Check := 0, checker_Bound := 0, ref14_Check := 30, ref16_Copy := 0, law16_simulates := 0, ref08_Few := 0, ref15_Few := 0, machine_Check := 0, edge_Valid := 0, ref08_Check := 45, ref15_Valid := 0, checker_begin := 0, blockcheck_Check := 29, edge_Implies := 0, ref15_Initial := 0, machine_Code := 0, ref14_fail := 49, ref13_Code := 50, ref13_Terms := 51, ref14_grow := 52, ref12_Copy := 17, ref12_Move := 19, ref14_use := 54, ref12_Define := 21, ref08_Copy := 0, ref09_Prefix := 0, machine_block := 0, edge_total := 0, edge_pairs := 0, ref08_Instr := 74, ref04_InRange := 94, edge_Entry := 0, align_Code := 46, align_Terms := 47, blockcheck_checker_run := 48, ref13_Operations := 84, ref13_Others := 85, ref13_Same := 86, machine_Instr := 0, location_InRange := 0, edge_Initial := 0, align_skip_Instr := 76, align_copied := 77, align_skip_Mach := 78, align_moved := 79, align_Same := 80, blockcheck_checker_run_1 := 81, blockcheck_checker_row := 82, blockcheck_checker_use := 83, opcode_Machine := 0, machine_others := 0, machine_moves := 0, blockcheck_checker_cost := 95, blockcheck_checker_become := 96, transfer_Copy := 16, transfer_Move := 18, blockcheck_checker_instr := 97, machine_others_1 := 0, machine_others_2 := 0, machine_moves_1 := 0, machine_moves_2 := 0, transfer_rename := 38, transfer_Copy_1 := 40, transfer_Move_1 := 42, transfer_Define := 20, law12_TransferMatchesReference := 3, law12_TransferSound := 4, law12_TransferComplete := 5, law12_TransferMonotone := 6, law12_TransferKeeps := 7, law14_BlockcheckMatchesReference := 8, law14_BlockcheckSound := 9, law14_BlockcheckMonotone := 10, law14_BlockcheckSteps := 11, law14_BlockcheckKeeps := 12, law12_awake := 13, law12_known := 22, law12_holds := 23, law12_subset := 24, law14_awake := 25, law14_right := 26, ref14_Same := 27, law14_result := 28, ref10_Step := 32, ref10_Read := 34, law22_SpillallMatchesReference := 0, law04_LocationBijection := 0, law04_LocationTexts := 0, law04_LocationMatchesReference := 0, law04_LocationRange := 0, law04_awake := 0, location_Parse := 0, location_Text := 0, ref04_Parse := 0, ref04_Text := 0, strconv_Itoa := 0, ref04_Number := 0, ref04_Decimal := 0, ty_bcfail := 129 }
theorem follows : Try.prog.follows .mixedOrders = true := by kernel_rfl
theorem all : All Try.prog nums where
 ref11_Same := .of [] follows (by kernel_rfl) (by kernel_rfl) (by kernel_rfl) (by kernel_rfl)
 pairset_Make := .of [] follows (by kernel_rfl) (by kernel_rfl) (by kernel_rfl) (by kernel_rfl)
 pairset_Has := .of [] follows (by kernel_rfl) (by kernel_rfl) (by kernel_rfl) (by kernel_rfl)
 pairset_Add := .of [] follows (by kernel_rfl) (by kernel_rfl) (by kernel_rfl) (by kernel_rfl)
 pairset_Union := .of [] follows (by kernel_rfl) (by kernel_rfl) (by kernel_rfl) (by kernel_rfl)
 pairset_Less := .of [] follows (by kernel_rfl) (by kernel_rfl) (by kernel_rfl) (by kernel_rfl)
 ref07_Check := .of [] follows (by kernel_rfl) (by kernel_rfl) (by kernel_rfl) (by kernel_rfl)
 ref09_Step := .of [] follows (by kernel_rfl) (by kernel_rfl) (by kernel_rfl) (by kernel_rfl)
 ref09_Copy := .of [] follows (by kernel_rfl) (by kernel_rfl) (by kernel_rfl) (by kernel_rfl)
 ref09_Values := .of [] follows (by kernel_rfl) (by kernel_rfl) (by kernel_rfl) (by kernel_rfl)
 pairset_DropV := .of [] follows (by kernel_rfl) (by kernel_rfl) (by kernel_rfl) (by kernel_rfl)
 pairset_DropL := .of [] follows (by kernel_rfl) (by kernel_rfl) (by kernel_rfl) (by kernel_rfl)
 slices_Clone_Pair := .of [] follows (by kernel_rfl) (by kernel_rfl) (by kernel_rfl) (by kernel_rfl)
 slices_Compact_Pair := .of [] follows (by kernel_rfl) (by kernel_rfl) (by kernel_rfl) (by kernel_rfl)
 pairset_find := .of [] follows (by kernel_rfl) (by kernel_rfl) (by kernel_rfl) (by kernel_rfl)
 ref07_Code := .of [] follows (by kernel_rfl) (by kernel_rfl) (by kernel_rfl) (by kernel_rfl)
 ref07_Instr := .of [[], [0], [], [0], [], [0]] follows (by kernel_rfl) (by kernel_rfl) (by kernel_rfl) (by kernel_rfl)
 ref07_Term := .of [] follows (by kernel_rfl) (by kernel_rfl) (by kernel_rfl) (by kernel_rfl)
 ref05_UsesA := .of [] follows (by kernel_rfl) (by kernel_rfl) (by kernel_rfl) (by kernel_rfl)
 ref05_UsesB := .of [] follows (by kernel_rfl) (by kernel_rfl) (by kernel_rfl) (by kernel_rfl)
 ref05_UsesD := .of [] follows (by kernel_rfl) (by kernel_rfl) (by kernel_rfl) (by kernel_rfl)
 ref06_Eval := .of [] follows (by kernel_rfl) (by kernel_rfl) (by kernel_rfl) (by kernel_rfl)
 pairset_filter := .of [[1], [1], [1], [1], [1], [1], [1], [1], [1]] follows (by kernel_rfl) (by kernel_rfl) (by kernel_rfl) (by kernel_rfl)
 pairset_DropV_1 := .of [] follows (by kernel_rfl) (by kernel_rfl) (by kernel_rfl) (by kernel_rfl)
 pairset_DropL_1 := .of [] follows (by kernel_rfl) (by kernel_rfl) (by kernel_rfl) (by kernel_rfl)
 ref07_in := .of [] follows (by kernel_rfl) (by kernel_rfl) (by kernel_rfl) (by kernel_rfl)
 opcode_Of := .of [] follows (by kernel_rfl) (by kernel_rfl) (by kernel_rfl) (by kernel_rfl)
 ref06_bits := .of [] follows (by kernel_rfl) (by kernel_rfl) (by kernel_rfl) (by kernel_rfl)
 ref06_half := .of [] follows (by kernel_rfl) (by kernel_rfl) (by kernel_rfl) (by kernel_rfl)
 ref06_truth := .of [] follows (by kernel_rfl) (by kernel_rfl) (by kernel_rfl) (by kernel_rfl)
 opcode_known := .of [] follows (by kernel_rfl) (by kernel_rfl) (by kernel_rfl) (by kernel_rfl)
 ref06_bit := .of [] follows (by kernel_rfl) (by kernel_rfl) (by kernel_rfl) (by kernel_rfl)
 ref08_Moves := .of [] follows (by kernel_rfl) (by kernel_rfl) (by kernel_rfl) (by kernel_rfl)
 ref08_Code := .of [] follows (by kernel_rfl) (by kernel_rfl) (by kernel_rfl) (by kernel_rfl)
 location_Reg := .of [] follows (by kernel_rfl) (by kernel_rfl) (by kernel_rfl) (by kernel_rfl)
 ref08_Check := .of [] follows (by kernel_rfl) (by kernel_rfl) (by kernel_rfl) (by kernel_rfl)
 blockcheck_Check := .of [] follows (by kernel_rfl) (by kernel_rfl) (by kernel_rfl) (by kernel_rfl)
 ref08_Instr := .of [] follows (by kernel_rfl) (by kernel_rfl) (by kernel_rfl) (by kernel_rfl)
 ref04_InRange := .of [] follows (by kernel_rfl) (by kernel_rfl) (by kernel_rfl) (by kernel_rfl)
 align_Code := .of [] follows (by kernel_rfl) (by kernel_rfl) (by kernel_rfl) (by kernel_rfl)
 align_Terms := .of [] follows (by kernel_rfl) (by kernel_rfl) (by kernel_rfl) (by kernel_rfl)
 blockcheck_checker_run := .of [] [] follows (by kernel_rfl) (by kernel_rfl) (by kernel_rfl) (by kernel_rfl) (by kernel_rfl) (by kernel_rfl) (by kernel_rfl)
 align_skip_Instr := .of [] follows (by kernel_rfl) (by kernel_rfl) (by kernel_rfl) (by kernel_rfl)
 align_copied := .of [] follows (by kernel_rfl) (by kernel_rfl) (by kernel_rfl) (by kernel_rfl)
 align_skip_Mach := .of [] follows (by kernel_rfl) (by kernel_rfl) (by kernel_rfl) (by kernel_rfl)
 align_moved := .of [] follows (by kernel_rfl) (by kernel_rfl) (by kernel_rfl) (by kernel_rfl)
 align_Same := .of [] follows (by kernel_rfl) (by kernel_rfl) (by kernel_rfl) (by kernel_rfl)
 blockcheck_checker_row := .of [] follows (by kernel_rfl) (by kernel_rfl) (by kernel_rfl) (by kernel_rfl)
 blockcheck_checker_use := .of [] follows (by kernel_rfl) (by kernel_rfl) (by kernel_rfl) (by kernel_rfl)
 blockcheck_checker_cost := .of [] follows (by kernel_rfl) (by kernel_rfl) (by kernel_rfl) (by kernel_rfl)
 blockcheck_checker_become := .of [] follows (by kernel_rfl) (by kernel_rfl) (by kernel_rfl) (by kernel_rfl)
 transfer_Copy := .of [] follows (by kernel_rfl) (by kernel_rfl) (by kernel_rfl) (by kernel_rfl)
 transfer_Move := .of [] follows (by kernel_rfl) (by kernel_rfl) (by kernel_rfl) (by kernel_rfl)
 blockcheck_checker_instr := .of [] follows (by kernel_rfl) (by kernel_rfl) (by kernel_rfl) (by kernel_rfl)
 transfer_rename := .of [] follows (by kernel_rfl) (by kernel_rfl) (by kernel_rfl) (by kernel_rfl)
 transfer_Define := .of [] follows (by kernel_rfl) (by kernel_rfl) (by kernel_rfl) (by kernel_rfl)
 law14_BlockcheckSound := .of [[], [], [], [], [], [], [], [], [], [], [], [0], [0], [], [], [], [], [], [], [], [], [], [], [], [], [], [], [0]] follows (by kernel_rfl) (by kernel_rfl) (by kernel_rfl) (by kernel_rfl)
 law14_awake := .of [] follows (by kernel_rfl) (by kernel_rfl) (by kernel_rfl) (by kernel_rfl)
 law14_right := .of [[], [], [], [], [], [], [], [], [0], [], [], [], [], [], [], [], [0]] follows (by kernel_rfl) (by kernel_rfl) (by kernel_rfl) (by kernel_rfl)
 ref10_Step := .of [] follows (by kernel_rfl) (by kernel_rfl) (by kernel_rfl) (by kernel_rfl)
 ref10_Read := .of [] follows (by kernel_rfl) (by kernel_rfl) (by kernel_rfl) (by kernel_rfl)
end Go.Proofs.Ythplfnnnafglaaa
namespace Go.AE
open Go Go.Proofs Go.Shelf Go.Sort Go.RowKit Go.Lib
def objP (x : Pair) : Obj := .cells #[.int .i64 x.v, .int .i64 x.l] 35
set_option maxHeartbeats 1000000 in
theorem Jtdn (x y : Pair) (W : World) : Calls Try.prog 92 #[.agg #[.int .i64 x.v, .int .i64 x.l], .agg #[.int .i64 y.v, .int .i64 y.l]] W fun e w' => e = .returned (.bool (lessP x y)) ∧ w' = (W.alloc (.cells #[.int .i64 x.v, .int .i64 x.l] 35)).alloc (.cells #[.int .i64 y.v, .int .i64 y.l] 35) := by
 go_enter Try.func92, Try.ntmps92
 go_wp2 <;> go_ret <;> refine ⟨?_, ?_⟩
 all_goals first | (unfold lessP; congr 2; (repeat' split) <;> (first | (simp; omega) | (simp; done) | omega); done) | (first | rfl | (simp_all; done))
set_option maxHeartbeats 1000000 in
theorem Jt74 (x y : Pair) (W : World) : Calls Try.prog 63 #[.agg #[.int .i64 x.v, .int .i64 x.l], .agg #[.int .i64 y.v, .int .i64 y.l]] W fun e w' => e = .returned (.int .i64 (cfP x y)) ∧ ∃ q os', w' = grow (W.drewN q) os' := by
 unfold cfP
 have hl : ∀ x1 x2 y1 y2 W, Calls Try.prog 92 #[.agg #[.int .i64 x1, .int .i64 x2], .agg #[.int .i64 y1, .int .i64 y2]] W fun e w' => e = .returned (.bool (lessP ⟨x1, x2⟩ ⟨y1, y2⟩)) ∧ w' = (W.alloc (.cells #[.int .i64 x1, .int .i64 x2] 35)).alloc (.cells #[.int .i64 y1, .int .i64 y2] 35) := fun x1 x2 y1 y2 W => Jtdn ⟨x1, x2⟩ ⟨y1, y2⟩ W
 obtain ⟨x1, x2⟩ := x
 obtain ⟨y1, y2⟩ := y
 obtain ⟨f, hf⟩ : ∃ f : Int → Int → Int → Int → Bool, f = fun x1 x2 y1 y2 => lessP ⟨x1, x2⟩ ⟨y1, y2⟩ := ⟨_, rfl⟩
 have hf' : ∀ x1 x2 y1 y2, lessP ⟨x1, x2⟩ ⟨y1, y2⟩ = f x1 x2 y1 y2 := fun _ _ _ _ => by rw [hf]
 simp only [hf'] at hl ⊢
 clear hf hf'
 go_enter Try.func63, Try.ntmps63
 go_wp2_with (go_at_call 92; refine (hl _ _ _ _ _).mono ?_; rintro e w' ⟨rfl, rfl⟩)
 all_goals go_ret
 all_goals refine ⟨by simp, 0, _, by simp only [alloc_eq_grow, grow_grow]; rfl⟩
theorem Jt6z (blk off size : Nat) (w : World) : CmpLays Try.prog 63 #[] encP 2 cfP blk off size w :=
 fun _ _ _ _ x y => Jt74 x y _
def Jtkb : Go.Shelf.Ren := ⟨fun | 6 => 62 | 15 => 91 | 14 => 90 | 28 => 109 | 29 => 110 | 20 => 101 | 21 => 102 | 22 => 103 | 23 => 104 | 24 => 105 | 25 => 106 | 26 => 107 | 27 => 108 | 46 => 112 | 47 => 113 | 48 => 114 | 49 => 115 | 50 => 116 | 57 => 118 | n => n, fun | 22 => 22 | 24 => 35 | 25 => 113 | 3 => 3 | 39 => 142 | 0 => 0 | 53 => 158 | 55 => 137 | 4 => 4 | 46 => 151 | 45 => 150 | 50 => 155 | 5 => 5 | 9 => 9 | 66 => 164 | 70 => 168 | 76 => 170 | 77 => 171 | n => n, fun | n => n⟩
theorem Jtka : Go.Proofs.SlLaysF0.n6 Try.prog Jtkb := {
 mixed := by kernel_rfl,
 f6 := ⟨Try.f62.name, by decide, Try.func62.trans (congrArg some (by kernel_rfl))⟩,
 f14 := ⟨Try.f90.name, by decide, Try.func90.trans (congrArg some (by kernel_rfl))⟩,
 f15 := Try.func91.trans (congrArg some (by kernel_rfl)),
 f20 := ⟨Try.f101.name, by decide, Try.func101.trans (congrArg some (by kernel_rfl))⟩,
 f21 := ⟨Try.f102.name, by decide, Try.func102.trans (congrArg some (by kernel_rfl))⟩,
 f22 := ⟨Try.f103.name, by decide, Try.func103.trans (congrArg some (by kernel_rfl))⟩,
 f23 := ⟨Try.f104.name, by decide, Try.func104.trans (congrArg some (by kernel_rfl))⟩,
 f24 := ⟨Try.f105.name, by decide, Try.func105.trans (congrArg some (by kernel_rfl))⟩,
 f25 := ⟨Try.f106.name, by decide, Try.func106.trans (congrArg some (by kernel_rfl))⟩,
 f26 := ⟨Try.f107.name, by decide, Try.func107.trans (congrArg some (by kernel_rfl))⟩,
 f27 := ⟨Try.f108.name, by decide, Try.func108.trans (congrArg some (by kernel_rfl))⟩,
 f28 := Try.func109.trans (congrArg some (by kernel_rfl)),
 f29 := Try.func110.trans (congrArg some (by kernel_rfl)),
 f46 := ⟨Try.f112.name, by decide, Try.func112.trans (congrArg some (by kernel_rfl))⟩,
 f47 := Try.func113.trans (congrArg some (by kernel_rfl)),
 f48 := Try.func114.trans (congrArg some (by kernel_rfl)),
 f49 := ⟨Try.f115.name, by decide, Try.func115.trans (congrArg some (by kernel_rfl))⟩,
 f50 := ⟨Try.f116.name, by decide, Try.func116.trans (congrArg some (by kernel_rfl))⟩,
 f57 := ⟨Try.f118.name, by decide, Try.func118.trans (congrArg some (by kernel_rfl))⟩,
 t0 := Try.underlying0,
 a0 := Try.isAgg0,
 z0 := Try.sizeOf0,
 v0 := Try.zeroValue0,
 t3 := Try.underlying3,
 a3 := Try.isAgg3,
 z3 := Try.sizeOf3,
 v3 := Try.zeroValue3,
 t4 := Try.underlying4,
 a4 := Try.isAgg4,
 z4 := Try.sizeOf4,
 v4 := Try.zeroValue4,
 t5 := Try.underlying5,
 a5 := Try.isAgg5,
 z5 := Try.sizeOf5,
 v5 := Try.zeroValue5,
 t9 := Try.underlying9,
 a9 := Try.isAgg9,
 z9 := Try.sizeOf9,
 v9 := Try.zeroValue9,
 t22 := Try.underlying22,
 a22 := Try.isAgg22,
 z22 := Try.sizeOf22,
 v22 := Try.zeroValue22,
 t25 := Try.underlying113,
 a25 := Try.isAgg113,
 z25 := Try.sizeOf113,
 v25 := Try.zeroValue113,
 t39 := Try.underlying142,
 a39 := Try.isAgg142,
 z39 := Try.sizeOf142,
 v39 := Try.zeroValue142,
 t45 := Try.underlying150,
 a45 := Try.isAgg150,
 z45 := Try.sizeOf150,
 v45 := Try.zeroValue150,
 t46 := Try.underlying151,
 a46 := Try.isAgg151,
 z46 := Try.sizeOf151,
 v46 := Try.zeroValue151,
 t50 := Try.underlying155,
 a50 := Try.isAgg155,
 z50 := Try.sizeOf155,
 v50 := Try.zeroValue155,
 t53 := Try.underlying158,
 a53 := Try.isAgg158,
 z53 := Try.sizeOf158,
 v53 := Try.zeroValue158,
 t55 := Try.underlying137,
 a55 := Try.isAgg137,
 z55 := Try.sizeOf137,
 v55 := Try.zeroValue137,
 t66 := Try.underlying164,
 a66 := Try.isAgg164,
 z66 := Try.sizeOf164,
 v66 := Try.zeroValue164,
 t70 := Try.underlying168,
 a70 := Try.isAgg168,
 z70 := Try.sizeOf168,
 v70 := Try.zeroValue168,
 t76 := Try.underlying170,
 a76 := Try.isAgg170,
 z76 := Try.sizeOf170,
 v76 := Try.zeroValue170,
 t77 := Try.underlying171,
 a77 := Try.isAgg171,
 z77 := Try.sizeOf171,
 v77 := Try.zeroValue171 }
theorem Jt7w : ∀ args w, (callFunc 63 args).run Try.prog w = .ok (.enter 63 args) w := enters_of Try.func63 (by kernel_rfl) rfl
theorem sortOk (p : Nums) (h1 : p.slices_SortFunc_Pair = 62) (h2 : p.pairset_compare = 63) : SortOk Try.prog p := by
 refine ⟨?_, ?_⟩
 ·rw [h1, h2]
  exact Jtkc Jtka 63 _ (.inl rfl)
 ·intro l hl h0
  rw [h1, h2]
  exact Jtkd Jtka Try.isAgg35 Try.sizeOf35 63 Jt7w Jt6z l hl (by omega)
end Go.AE
namespace Go.AE
open Go Go.Proofs Go.Shelf Go.Sort Go.RowKit Go.Lib
theorem push2 {α : Type} (l : Array α) (x y : α) : ((l.push x).push y)[l.size + 1]? = some y := by
 rw [show l.size + 1 = (l.push x).size by simp, Array.getElem?_push_size]
theorem Jti4 {F φ w} {x : Pair} {v : Value} (h : Rel F φ w (AV.erase x.av) v) : v = .agg #[.int .i64 x.v, .int .i64 x.l] := by
 cases h with
 | agg xs vs hlen hr =>
  match vs, hlen with
  | [u0, u1], _ =>
   have k0 := hr 0 _ u0 rfl rfl
   have k1 := hr 1 _ u1 rfl rfl
   cases k0 with
   | d _ _ h0 => cases h0; cases k1 with
    | d _ _ h1 => cases h1; rfl
theorem Jti6 {F φ w} {b : Nat} {v : Value} (h : Rel F φ w (AV.erase (.ptr b 0)) v) : ∃ r, φ b = some r ∧ v = .pointer (some ⟨r, 0, none⟩) := by
 cases h with
 | ptr _ _ r h => exact ⟨r, h, rfl⟩
theorem Jti5 {F φ w} (a b : Int) (c : Bool) : Rel F φ w (AV.erase (.tup [(⟨a, b⟩ : Pair).av, AB c])) (.tuple #[.agg #[.int .i64 a, .int .i64 b], .bool c]) := by
 refine .tup _ _ rfl fun j x u hx hu => ?_
 match j with
 | 0 =>
  simp at hx hu; subst hx; subst hu
  refine .agg _ _ rfl fun j x u hx hu => ?_
  match j with
  | 0 => simp at hx hu; subst hx; subst hu; exact .d _ _ (.int _ _)
  | 1 => simp at hx hu; subst hx; subst hu; exact .d _ _ (.int _ _)
  | j + 2 => simp at hx
 | 1 => simp at hx hu; subst hx; subst hu; exact .d _ _ (.bool _)
 | j + 2 => simp at hx
theorem Jt6o {N st g a w} (hs : Sim N st g a w) {b r : Nat} {n : Int} (hb : st.H[b]? = some (.mem [AI n])) (hr : g.φ b = some r) : w.cell? ⟨r, 0, none⟩ = some (.int .i64 n) := by
 obtain ⟨c, e, h1, h2, h3, h4⟩ := hs.block hb hr
 obtain ⟨_, u, hu, hrel⟩ := h3 0 _ rfl
 rw [h4, hu]
 cases hrel with
 | d _ _ h => cases h; rfl
set_option maxHeartbeats 1000000 in
theorem Jt7a (x1 x2 d a : Int) (r0 r1 : Nat) (W : World) (h0 : W.cell? ⟨r0, 0, none⟩ = some (.int .i64 d)) (h1 : W.cell? ⟨r1, 0, none⟩ = some (.int .i64 a)) : Calls Try.prog 40 #[.agg #[.int .i64 x1, .int .i64 x2], .pointer (some ⟨r0, 0, none⟩), .pointer (some ⟨r1, 0, none⟩)] W fun e w' => e = .returned (.tuple #[.agg #[.int .i64 d, .int .i64 x2], .bool (x1 == a)]) ∧ ∃ q os', w' = grow (W.drewN q) os' := by
 have l0 := World.block_lt_of_cell? W ⟨r0, 0, none⟩ h0
 have l1 := World.block_lt_of_cell? W ⟨r1, 0, none⟩ h1
 go_enter Try.func40, Try.ntmps40
 go_wp2
 go_region
 go_wp2
 (try simp only [Exit.inBlock, Exit.then])
 refine bodyPost_ret (v := .tuple #[.agg #[.int .i64 d, .int .i64 x2], .bool (x1 == a)]) ?_ rfl ?_
 ·have e : (results Try.f40) = fun tmps => (do let vs ← (#[ResultVar.cell 4 35, ResultVar.tmp 5] : Array ResultVar).mapM (rd tmps); pure (if h : vs.size = 1 then vs[0] else .tuple vs)) := rfl
  rw [e]
  have l := run_loadVar_row (P := Try.prog) ((W.alloc (Obj.cells #[Value.int IntKind.i64 x1, Value.int IntKind.i64 x2] 35)).alloc (Obj.cells #[Value.int IntKind.i64 d, Value.int IntKind.i64 x2] 35)).drew (W.heap.size + 1) 35 35 #[Value.int IntKind.i64 d, Value.int IntKind.i64 x2] (0, 0) _ (push2 _ _ _) Try.underlying35 rfl (by kernel_rfl)
  simp [rd, asAddr, l]
 refine ⟨rfl, 1, #[.cells #[Value.int IntKind.i64 x1, Value.int IntKind.i64 x2] 35, .cells #[Value.int IntKind.i64 d, Value.int IntKind.i64 x2] 35], ?_⟩
 simp only [alloc_eq_grow, grow_grow]; rfl
theorem Jt79 (x : Pair) (d a : Int) : Jt3w Try.prog 40 [x.av, .ptr 0 0, .ptr 1 0] [.mem [AI d], .mem [AI a]] fun o H' => o = .ret (.tup [(⟨d, x.l⟩ : Pair).av, AB (x.v == a)]) ∧ H' = [.mem [AI d], .mem [AI a]] := by
 refine Jt6l (fun _ _ h => by cases h) (fun _ _ _ h => by cases h) (fun b cells j e rows hb hc => ?_) fun g vs w hsz hs => ?_
 ·match b with
  | 0 => simp at hb; subst hb; match j with
   | 0 => simp at hc
   | j + 1 => simp at hc
  | 1 => simp at hb; subst hb; match j with
   | 0 => simp at hc
   | j + 1 => simp at hc
  | b + 2 => simp at hb
 ·obtain ⟨v0, v1, v2, rfl⟩ : ∃ a b c, vs = #[a, b, c] := by
   obtain ⟨vs⟩ := vs
   match vs, hsz with
   | [a, b, c], _ => exact ⟨a, b, c, rfl⟩
  have e0 := hs.env 0 _ rfl
  have e1 := hs.env 1 _ rfl
  have e2 := hs.env 2 _ rfl
  obtain rfl := Jti4 e0
  obtain ⟨r0, hr0, rfl⟩ := Jti6 e1
  obtain ⟨r1, hr1, rfl⟩ := Jti6 e2
  refine ⟨.tuple #[.agg #[.int .i64 d, .int .i64 x.l], .bool (x.v == a)], fun F φ w => Jti5 _ _ _, Jt7a x.v x.l d a r0 r1 w (Jt6o hs rfl hr0) (Jt6o hs rfl hr1)⟩
set_option maxHeartbeats 1000000 in
theorem Jtf6 (x1 x2 d a : Int) (r0 r1 : Nat) (W : World) (h0 : W.cell? ⟨r0, 0, none⟩ = some (.int .i64 d)) (h1 : W.cell? ⟨r1, 0, none⟩ = some (.int .i64 a)) : Calls Try.prog 42 #[.agg #[.int .i64 x1, .int .i64 x2], .pointer (some ⟨r0, 0, none⟩), .pointer (some ⟨r1, 0, none⟩)] W fun e w' => e = .returned (.tuple #[.agg #[.int .i64 x1, .int .i64 d], .bool (x2 == a)]) ∧ ∃ q os', w' = grow (W.drewN q) os' := by
 have l0 := World.block_lt_of_cell? W ⟨r0, 0, none⟩ h0
 have l1 := World.block_lt_of_cell? W ⟨r1, 0, none⟩ h1
 go_enter Try.func42, Try.ntmps42
 go_wp2
 go_region
 go_wp2
 (try simp only [Exit.inBlock, Exit.then])
 refine bodyPost_ret (v := .tuple #[.agg #[.int .i64 x1, .int .i64 d], .bool (x2 == a)]) ?_ rfl ?_
 ·have e : (results Try.f42) = fun tmps => (do let vs ← (#[ResultVar.cell 4 35, ResultVar.tmp 5] : Array ResultVar).mapM (rd tmps); pure (if h : vs.size = 1 then vs[0] else .tuple vs)) := rfl
  rw [e]
  have l := run_loadVar_row (P := Try.prog) ((W.alloc (Obj.cells #[Value.int IntKind.i64 x1, Value.int IntKind.i64 x2] 35)).alloc (Obj.cells #[Value.int IntKind.i64 x1, Value.int IntKind.i64 d] 35)).drew (W.heap.size + 1) 35 35 #[Value.int IntKind.i64 x1, Value.int IntKind.i64 d] (0, 0) _ (push2 _ _ _) Try.underlying35 rfl (by kernel_rfl)
  simp [rd, asAddr, l]
 refine ⟨rfl, 1, #[.cells #[Value.int IntKind.i64 x1, Value.int IntKind.i64 x2] 35, .cells #[Value.int IntKind.i64 x1, Value.int IntKind.i64 d] 35], ?_⟩
 simp only [alloc_eq_grow, grow_grow]; rfl
theorem Jtf5 (x : Pair) (d a : Int) : Jt3w Try.prog 42 [x.av, .ptr 0 0, .ptr 1 0] [.mem [AI d], .mem [AI a]] fun o H' => o = .ret (.tup [(⟨x.v, d⟩ : Pair).av, AB (x.l == a)]) ∧ H' = [.mem [AI d], .mem [AI a]] := by
 refine Jt6l (fun _ _ h => by cases h) (fun _ _ _ h => by cases h) (fun b cells j e rows hb hc => ?_) fun g vs w hsz hs => ?_
 ·match b with
  | 0 => simp at hb; subst hb; match j with
   | 0 => simp at hc
   | j + 1 => simp at hc
  | 1 => simp at hb; subst hb; match j with
   | 0 => simp at hc
   | j + 1 => simp at hc
  | b + 2 => simp at hb
 ·obtain ⟨v0, v1, v2, rfl⟩ : ∃ a b c, vs = #[a, b, c] := by
   obtain ⟨vs⟩ := vs
   match vs, hsz with
   | [a, b, c], _ => exact ⟨a, b, c, rfl⟩
  have e0 := hs.env 0 _ rfl
  have e1 := hs.env 1 _ rfl
  have e2 := hs.env 2 _ rfl
  obtain rfl := Jti4 e0
  obtain ⟨r0, hr0, rfl⟩ := Jti6 e1
  obtain ⟨r1, hr1, rfl⟩ := Jti6 e2
  refine ⟨.tuple #[.agg #[.int .i64 x.v, .int .i64 d], .bool (x.l == a)], fun F φ w => Jti5 _ _ _, Jtf6 x.v x.l d a r0 r1 w (Jt6o hs rfl hr0) (Jt6o hs rfl hr1)⟩
theorem clos (p : Nums) (h1 : p.transfer_Copy_1 = 40) (h2 : p.transfer_Move_1 = 42) : ClosOk Try.prog p := by
 refine ⟨?_, ?_, ?_, ?_⟩
 ·rw [h1]; kernel_rfl
 ·rw [h2]; kernel_rfl
 ·rw [h1]; exact Jt79
 ·rw [h2]; exact Jtf5
end Go.AE
namespace Go.Proofs.Ythplfnnnafglaaa
open Go Go.AE Go.ChangeShapes Go.WideShapes Go.ChangeAt Go.RowKit
theorem own : ownKnob Try.prog.godebug = none := by kernel_rfl
theorem Jtd5 : laidOutB Try.prog = true := by kernel_rfl
theorem flat45 : flatT Try.prog 8 45 = some Jte5 := by kernel_rfl
theorem flat48 : flatT Try.prog 8 48 = some Jte7 := by kernel_rfl
theorem flat31 : flatT Try.prog 8 31 = some [.sl [ltI]] := by kernel_rfl
theorem flat32 : flatT Try.prog 8 32 = some [.sl [.bool]] := by kernel_rfl
theorem sok : SortOk Try.prog nums := sortOk nums rfl rfl
theorem cok : ClosOk Try.prog nums := clos nums rfl rfl
set_option maxRecDepth 100000 in
theorem lifted (os : Os) (started : os.Started) (H : Type) (enc : TypeId × Value → H) :
  ReturnsInHanded {} Try.checked os 9 .any (Rows.blockcheckSoundSpec.pre6 enc Try.prog Try.f9 Rows.blockcheckSoundRow.domain false) (Rows.blockcheckSoundSpec.post enc Try.prog Try.f9 false true false false) := by
 refine returnsInHanded_of_change (C := Try.checked) own started (by kernel_rfl) Try.func9
  (ChangeSpec.witness6 (enc := enc) (C := Try.checked) false ⟨#[], #[.agg #[.slice none 0 0, .int .i64 0, .int .i64 0, .int .i64 0, .int .i64 0], .agg #[.slice none 0 0, .int .i64 0, .int .i64 0, .int .i64 0, .int .i64 0], .slice none 0 0, .slice none 0 0, .slice none 0 0, .slice none 0 0], []⟩ 8 (by kernel_rfl) (by kernel_rfl) (by kernel_rfl) (by kernel_rfl)) ?_
 intro W base args ds gs before hval0 hW hcnd _
 have hval : ∀ (j : Nat) t v, Try.f9.params[j]? = some t → args[j]? = some v → Value.okWide Try.prog W .any base t v := hval0
 have hW' := hW
 obtain ⟨p, q, hA0, hV, rfl, hfz, hnd⟩ := hW
 have hA : DataW.TrodAll enc Try.prog W 0 (fun _ => true) true Try.f9.params.toList args.toList ds p := hA0
 rw [Try.params9] at hA hval
 obtain ⟨v0, vs0, d0, ds0, p0, q0, e0a, e0b, rfl, h0, r0⟩ := trodAll_cons hA
 obtain ⟨v1, vs1, d1, ds1, p1, q1, e1a, e1b, rfl, h1, r1⟩ := trodAll_cons r0
 obtain ⟨v2, vs2, d2, ds2, p2, q2, e2a, e2b, rfl, h2, r2⟩ := trodAll_cons r1
 obtain ⟨v3, vs3, d3, ds3, p3, q3, e3a, e3b, rfl, h3, r3⟩ := trodAll_cons r2
 obtain ⟨v4, vs4, d4, ds4, p4, q4, e4a, e4b, rfl, h4, r4⟩ := trodAll_cons r3
 obtain ⟨v5, vs5, d5, ds5, p5, q5, e5a, e5b, rfl, h5, r5⟩ := trodAll_cons r4
 obtain ⟨e6a, e6b, rfl⟩ := trodAll_nil r5
 subst e6a e6b
 subst e5a e5b
 subst e4a e4b
 subst e3a e3b
 subst e2a e2b
 subst e1a e1b
 obtain rfl : args = #[v0, v1, v2, v3, v4, v5] := by cases args; simp_all
 subst e0b
 obtain ⟨rfl, rfl⟩ := trodVars_none hV
 have hv0 := hval 0 45 v0 rfl rfl
 have k0 := h0
 obtain ⟨n0, hn0⟩ := h0
 obtain ⟨cs0, rfl⟩ := Jtlf Try.underlying45 hv0
 obtain ⟨es0, hes0, hrel0⟩ := Jti2 (cs := cs0) (reads (w := W) n0 8 45 _ _ _ hn0 flat45)
 obtain ⟨x0, hx0⟩ := Jt5r hes0
 rw [hx0] at hrel0
 have hv1 := hval 1 48 v1 rfl rfl
 have k1 := h1
 obtain ⟨n1, hn1⟩ := h1
 obtain ⟨cs1, rfl⟩ := Jtlf Try.underlying48 hv1
 obtain ⟨es1, hes1, hrel1⟩ := Jti2 (cs := cs1) (reads (w := W) n1 8 48 _ _ _ hn1 flat48)
 obtain ⟨x1, hx1, hk1⟩ := Jtei hes1
 rw [hx1] at hrel1
 have hv2 := hval 2 31 v2 rfl rfl
 have k2 := h2
 obtain ⟨n2, hn2⟩ := h2
 obtain ⟨a2, l2, c2, rfl⟩ := okWide_slice Try.underlying31 hv2
 obtain ⟨es2, hes2, hrel2⟩ := Jti3 (reads (w := W) n2 8 31 _ _ _ hn2 flat31)
 obtain ⟨x2, hx2, hl2⟩ := Jtcp hes2
 rw [hx2] at hrel2
 have hv3 := hval 3 31 v3 rfl rfl
 have k3 := h3
 obtain ⟨n3, hn3⟩ := h3
 obtain ⟨a3, l3, c3, rfl⟩ := okWide_slice Try.underlying31 hv3
 obtain ⟨es3, hes3, hrel3⟩ := Jti3 (reads (w := W) n3 8 31 _ _ _ hn3 flat31)
 obtain ⟨x3, hx3, hl3⟩ := Jtcp hes3
 rw [hx3] at hrel3
 have hv4 := hval 4 31 v4 rfl rfl
 have k4 := h4
 obtain ⟨n4, hn4⟩ := h4
 obtain ⟨a4, l4, c4, rfl⟩ := okWide_slice Try.underlying31 hv4
 obtain ⟨es4, hes4, hrel4⟩ := Jti3 (reads (w := W) n4 8 31 _ _ _ hn4 flat31)
 obtain ⟨x4, hx4, hl4⟩ := Jtcp hes4
 rw [hx4] at hrel4
 have hv5 := hval 5 32 v5 rfl rfl
 have k5 := h5
 obtain ⟨n5, hn5⟩ := h5
 obtain ⟨a5, l5, c5, rfl⟩ := okWide_slice Try.underlying32 hv5
 obtain ⟨es5, hes5, hrel5⟩ := Jti3 (reads (w := W) n5 8 32 _ _ _ hn5 flat32)
 obtain ⟨x5, hx5, hl5⟩ := Jt64 hes5
 rw [hx5] at hrel5
 have lt0 : ∀ x ∈ p0, x.block < W.heap.size := fun x hx => DataW.trod_lt n0 _ _ _ hn0 x hx
 have lt1 : ∀ x ∈ p1, x.block < W.heap.size := fun x hx => DataW.trod_lt n1 _ _ _ hn1 x hx
 have lt2 : ∀ x ∈ p2, x.block < W.heap.size := fun x hx => DataW.trod_lt n2 _ _ _ hn2 x hx
 have lt3 : ∀ x ∈ p3, x.block < W.heap.size := fun x hx => DataW.trod_lt n3 _ _ _ hn3 x hx
 have lt4 : ∀ x ∈ p4, x.block < W.heap.size := fun x hx => DataW.trod_lt n4 _ _ _ hn4 x hx
 have lt5 : ∀ x ∈ p5, x.block < W.heap.size := fun x hx => DataW.trod_lt n5 _ _ _ hn5 x hx
 refine ((Jtd7 all sok cok x0 x1 x2 x3 x4 x5 hk1).law (w := W) (vs := #[.agg cs0, .agg cs1, .slice a2 l2 c2, .slice a3 l3 c3, .slice a4 l4 c4, .slice a5 l5 c5]) rfl (by simp [AV.plain, Pair.av, Block.av, MBlock.av, intsD, boolsD]) ?_).mono fun e W' ⟨he, bel⟩ => ?_
 ·intro j x v hx hv
  cases j with
  | zero => simp at hx hv; subst hx; subst hv; exact hrel0
  | succ j =>
   cases j with
   | zero => simp at hx hv; subst hx; subst hv; exact hrel1
   | succ j =>
    cases j with
    | zero => simp at hx hv; subst hx; subst hv; exact hrel2
    | succ j =>
     cases j with
     | zero => simp at hx hv; subst hx; subst hv; exact hrel3
     | succ j =>
      cases j with
      | zero => simp at hx hv; subst hx; subst hv; exact hrel4
      | succ j =>
       cases j with
       | zero => simp at hx hv; subst hx; subst hv; exact hrel5
       | succ j =>
        simp at hx
 subst he
 exact ⟨_, rfl, _, _, _, [], _, [], hW', trodAll_mk1 (shut_bool Try.underlying4 _), (Jtm8 (Below.trod Jtd5 (by kernel_rfl) (of_decide_eq_true (by kernel_rfl)) k0 bel lt0) (Jtm8 (Below.trod Jtd5 (by kernel_rfl) (of_decide_eq_true (by kernel_rfl)) k1 bel lt1) (Jtm8 (Below.trod Jtd5 (by kernel_rfl) (of_decide_eq_true (by kernel_rfl)) k2 bel lt2) (Jtm8 (Below.trod Jtd5 (by kernel_rfl) (of_decide_eq_true (by kernel_rfl)) k3 bel lt3) (Jtm8 (Below.trod Jtd5 (by kernel_rfl) (of_decide_eq_true (by kernel_rfl)) k4 bel lt4) (Jtm8 (Below.trod Jtd5 (by kernel_rfl) (of_decide_eq_true (by kernel_rfl)) k5 bel lt5) trodAll_mk0)))))), rfl, bel.frame _, fun h => by cases h⟩
theorem blockcheckSound_holds : Rows.BlockcheckSoundSaid :=
 OpenClaim.holds_of_wide 9 Try.f9 rfl rfl rfl rfl rfl rfl rfl ⟨rfl, rfl, rfl, rfl, rfl⟩ rfl rfl rfl rfl rfl (by kernel_rfl) Try.func9 (by kernel_rfl)
  (of_decide_eq_true (by kernel_rfl)) (by unfold Func.isWrapper; first | (rw [if_pos (by decide +kernel)]; kernel_rfl) | (rw [if_neg (by decide +kernel)]; exact ⟨rfl, rfl⟩))
  (fun os started H enc _ => lifted os started H enc)
#print axioms blockcheckSound_holds
end Go.Proofs.Ythplfnnnafglaaa
