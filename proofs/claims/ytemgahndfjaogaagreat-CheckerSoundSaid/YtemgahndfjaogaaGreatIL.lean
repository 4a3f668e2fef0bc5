/- For every certificate, argument list and number of steps: if the checker accepts the certificate, the allocated function answers as the source function does, with the same trace, within the bound of steps, or has emitted at least what the source function has emitted so far; under no condition but the given statement's own. -/
import Derived.Test.YtemgahndfjaogaaGreatI5
import Derived.Test.YtemgahndfjaogaaGreatProg
import Derived.Test.YtemgahndfjaogaaGreatRows
set_option linter.unusedVariables false
set_option linter.unusedSimpArgs false
namespace Go.Proofs.YtemgahndfjaogaaGreat
open Go Go.AE Go.Proofs
set_option maxRecDepth 100000
noncomputable def nums : Nums := { law16_CheckerMatchesReference := 3, law16_CheckerOnce := 4, law16_CheckerLocal := 5, law16_CheckerSubset := 6, law16_CheckerKeeps := 7, law16_CheckerSound := 9, law22_SpillallAccepted := 8, law16_awake := 10, ref16_Few := 11, checker_Valid := 12, ref16_Valid := 13, checker_Check := 14, ref16_Check := 15, ref07_Successors := 16, checker_Bound := 17, ref14_Check := 18, ref11_Missing := 19, ref16_Copy := 20, ref16_Same := 21, law16_simulates := 27, law22_awake := 22, ref07_Few := 23, ref07_Check := 24, spillall_Cert := 25, ref07_Same := 26, ref08_Few := 28, ref15_Few := 29, source_Check := 30, machine_Check := 31, edge_Valid := 32, ref08_Check := 33, ref15_Valid := 34, checker_begin := 35, blockcheck_Check := 36, source_Successors := 37, edge_Implies := 38, ref15_Initial := 39, source_Code := 40, machine_Code := 41, ref14_fail := 42, ref13_Code := 43, ref13_Terms := 44, ref14_grow := 45, ref12_Copy := 46, ref12_Move := 47, ref05_UsesA := 48, ref14_use := 49, ref05_UsesB := 50, ref05_UsesD := 51, ref12_Define := 52, ref11_Has := 53, ref07_Copy := 54, ref08_Copy := 55, ref08_Same := 56, ref15_Same := 57, interp_Exec := 65, execute_Exec := 66, ref09_Values := 67, ref09_Prefix := 68, spillall_Block := 58, spillall_Moves := 59, ref07_Code := 60, ref07_Instr := 61, ref07_Term := 62, slices_Clone_Instr := 63, spillall_invariant := 64, ref08_Code := 69, source_block := 70, machine_block := 71, edge_total := 72, edge_pairs := 73, ref08_Instr := 74, ref08_Moves := 75, ref04_InRange := 76, ref11_Less := 77, edge_Entry := 78, align_Code := 79, align_Terms := 80, pairset_Make := 81, blockcheck_checker_run := 82, pairset_Missing := 83, ref13_Operations := 84, ref13_Others := 85, ref13_Same := 86, ref11_Add := 87, ref11_Same := 88, interp_begin := 94, interp_state_step := 95, execute_begin := 96, execute_state_step := 97, spillall_builder_instr := 89, spillall_builder_add := 90, spillall_load := 91, ref07_in := 92, location_Slot := 93, source_Instr := 98, source_Term := 99, machine_Instr := 100, location_InRange := 101, pairset_Less := 102, edge_Initial := 103, align_skip_Instr := 104, align_copied := 105, align_skip_Mach := 106, align_moved := 107, align_Same := 108, slices_Clone_Pair := 109, slices_SortFunc_Pair := 110, pairset_compare := 111, slices_Compact_Pair := 112, blockcheck_checker_run_1 := 113, blockcheck_checker_row := 114, blockcheck_checker_use := 115, interp_state_instr := 119, interp_state_term := 120, execute_state_instr := 121, execute_state_term := 122, opcode_Of := 116, spillall_store := 117, location_Reg := 118, opcode_Source := 123, source_within := 124, source_blank := 125, opcode_Machine := 126, machine_others := 127, machine_moves := 128, location_IsSlot := 129, location_Index := 130, slices_pdqsortCmpFunc_Pair := 131, math_bits_Len := 132, blockcheck_checker_cost := 133, blockcheck_checker_become := 134, transfer_Copy := 135, transfer_Move := 136, blockcheck_checker_instr := 137, pairset_Has := 138, alu_Eval := 140, execute_state_compute := 141, execute_state_move := 142, execute_state_emit := 143, opcode_known := 139, machine_others_1 := 144, machine_others_2 := 145, machine_moves_1 := 146, machine_moves_2 := 147, slices_insertionSortCmpFunc_Pair := 148, slices_heapSortCmpFunc_Pair := 149, slices_breakPatternsCmpFunc_Pair := 150, slices_choosePivotCmpFunc_Pair := 151, slices_reverseRangeCmpFunc_Pair := 152, slices_partialInsertionSortCmpFunc_Pair := 153, slices_partitionEqualCmpFunc_Pair := 154, slices_partitionCmpFunc_Pair := 155, math_bits_Len32 := 156, math_bits_Len64 := 157, transfer_rename := 158, pairset_DropV := 159, transfer_Copy_1 := 160, pairset_DropL := 161, transfer_Move_1 := 162, transfer_Define := 163, pairset_find := 164, alu_operation := 165, execute_state_at := 166, slices_siftDownCmpFunc_Pair := 167, slices_nextPowerOfTwo := 168, slices_xorshift_Next := 169, slices_medianAdjacentCmpFunc_Pair := 170, slices_medianCmpFunc_Pair := 171, pairset_Union := 172, pairset_filter := 173, pairset_DropV_1 := 174, pairset_DropL_1 := 175, pairset_Add := 176, alu_operation_1 := 177, alu_operation_2 := 178, alu_operation_3 := 179, alu_operation_4 := 180, alu_operation_5 := 181, alu_operation_6 := 182, alu_operation_7 := 183, alu_operation_8 := 184, alu_operation_9 := 185, alu_operation_10 := 186, alu_operation_11 := 187, alu_truth := 188, alu_operation_12 := 189, slices_order2CmpFunc_Pair := 190, law11_PairsetMatchesReference := 0, law11_PairsetMatchesSets := 0, law11_PairsetOrder := 0, law11_PairsetSubsets := 0, law23_LivenessMatchesReference := 0, law23_LivenessEquations := 0, law23_LivenessSound := 0, law23_LivenessNecessary := 0, law23_LivenessAppended := 0, law11_PairsetDrops := 0, law11_PairsetKeeps := 0, law11_awake := 0, ref11_Make := 0, pairset_Sorted := 0, ref11_Sorted := 0, pairset_Subset := 0, law23_awake := 0, ref23_Used := 0, ref23_Defines := 0, ref07_Numbers := 0, liveness_Uses := 0, liveness_Defs := 0, ref23_Same := 0, liveness_In := 0, ref23_In := 0, liveness_Out := 0, ref23_Out := 0, ref23_Has := 0, ref09_Right := 0, ref09_Exec := 0, ref09_Step := 0, ref09_Copy := 0, law11_spoil := 0, liveness_scan := 0, liveness_set_sorted := 0, liveness_solve := 0, ref23_live := 0, liveness_exit := 0, ref09_Start := 0, ref06_Eval := 0, liveness_scan_1 := 0, slices_Sort_int := 0, ref06_bits := 0, ref06_half := 0, ref06_truth := 0, slices_pdqsortOrdered_int := 0, ref06_bit := 0, slices_insertionSortOrdered_int := 0, slices_heapSortOrdered_int := 0, slices_breakPatternsOrdered_int := 0, slices_choosePivotOrdered_int := 0, slices_reverseRangeOrdered_int := 0, slices_partialInsertionSortOrdered_int := 0, cmp_Less_int := 0, slices_partitionEqualOrdered_int := 0, slices_partitionOrdered_int := 0, slices_siftDownOrdered_int := 0, slices_medianAdjacentOrdered_int := 0, slices_medianOrdered_int := 0, cmp_isNaN_int := 0, slices_order2Ordered_int := 0, law12_TransferMatchesReference := 0, law12_TransferSound := 0, law12_TransferComplete := 0, law12_TransferMonotone := 0, law12_TransferKeeps := 0, law14_BlockcheckMatchesReference := 0, law14_BlockcheckSound := 0, law14_BlockcheckMonotone := 0, law14_BlockcheckSteps := 0, law14_BlockcheckKeeps := 0, law12_awake := 0, law12_known := 0, law12_holds := 0, law12_subset := 0, law14_awake := 0, law14_right := 0, ref14_Same := 0, law14_result := 0, ref10_Step := 0, ref10_Read := 0, law22_SpillallMatchesReference := 0, law22_SpillallKeeps := 0, law22_SpillallSlots := 0, ref22_Cert := 0, ref22_Block := 0, ref22_move := 0, law04_LocationBijection := 0, law04_LocationTexts := 0, law04_LocationMatchesReference := 0, law04_LocationRange := 0, law04_awake := 0, location_Parse := 0, location_Text := 0, ref04_Parse := 0, ref04_Text := 0, strconv_Itoa := 0, ref04_Number := 0, ref04_Decimal := 0, ty_bcfail := 168 }
theorem follows : Tryz.prog.follows .mixedOrders = true := by kernel_rfl
theorem all : All Tryz.prog nums where
 law16_CheckerSound := .of [] follows (by kernel_rfl) (by kernel_rfl) (by kernel_rfl) (by kernel_rfl)
 law16_awake := .of [] follows (by kernel_rfl) (by kernel_rfl) (by kernel_rfl) (by kernel_rfl)
 ref16_Few := .of [] follows (by kernel_rfl) (by kernel_rfl) (by kernel_rfl) (by kernel_rfl)
 checker_Valid := .of [] follows (by kernel_rfl) (by kernel_rfl) (by kernel_rfl) (by kernel_rfl)
 checker_Check := .of [] follows (by kernel_rfl) (by kernel_rfl) (by kernel_rfl) (by kernel_rfl)
 checker_Bound := .of [] follows (by kernel_rfl) (by kernel_rfl) (by kernel_rfl) (by kernel_rfl)
 law16_simulates := .of [] follows (by kernel_rfl) (by kernel_rfl) (by kernel_rfl) (by kernel_rfl)
 ref07_Few := .of [] follows (by kernel_rfl) (by kernel_rfl) (by kernel_rfl) (by kernel_rfl)
 ref08_Few := .of [] follows (by kernel_rfl) (by kernel_rfl) (by kernel_rfl) (by kernel_rfl)
 ref15_Few := .of [] follows (by kernel_rfl) (by kernel_rfl) (by kernel_rfl) (by kernel_rfl)
 source_Check := .of [] follows (by kernel_rfl) (by kernel_rfl) (by kernel_rfl) (by kernel_rfl)
 machine_Check := .of [] follows (by kernel_rfl) (by kernel_rfl) (by kernel_rfl) (by kernel_rfl)
 edge_Valid := .of [] follows (by kernel_rfl) (by kernel_rfl) (by kernel_rfl) (by kernel_rfl)
 checker_begin := .of [] follows (by kernel_rfl) (by kernel_rfl) (by kernel_rfl) (by kernel_rfl)
 blockcheck_Check := .of [] follows (by kernel_rfl) (by kernel_rfl) (by kernel_rfl) (by kernel_rfl)
 source_Successors := .of [] follows (by kernel_rfl) (by kernel_rfl) (by kernel_rfl) (by kernel_rfl)
 edge_Implies := .of [] follows (by kernel_rfl) (by kernel_rfl) (by kernel_rfl) (by kernel_rfl)
 source_Code := .of [] follows (by kernel_rfl) (by kernel_rfl) (by kernel_rfl) (by kernel_rfl)
 machine_Code := .of [] follows (by kernel_rfl) (by kernel_rfl) (by kernel_rfl) (by kernel_rfl)
 interp_Exec := .of [] follows (by kernel_rfl) (by kernel_rfl) (by kernel_rfl) (by kernel_rfl)
 execute_Exec := .of [] follows (by kernel_rfl) (by kernel_rfl) (by kernel_rfl) (by kernel_rfl)
 ref09_Values := .of [] follows (by kernel_rfl) (by kernel_rfl) (by kernel_rfl) (by kernel_rfl)
 ref09_Prefix := .of [] follows (by kernel_rfl) (by kernel_rfl) (by kernel_rfl) (by kernel_rfl)
 ref07_Code := .of [] follows (by kernel_rfl) (by kernel_rfl) (by kernel_rfl) (by kernel_rfl)
 ref08_Code := .of [] follows (by kernel_rfl) (by kernel_rfl) (by kernel_rfl) (by kernel_rfl)
 source_block := .of [] follows (by kernel_rfl) (by kernel_rfl) (by kernel_rfl) (by kernel_rfl)
 machine_block := .of [] follows (by kernel_rfl) (by kernel_rfl) (by kernel_rfl) (by kernel_rfl)
 edge_total := .of [] follows (by kernel_rfl) (by kernel_rfl) (by kernel_rfl) (by kernel_rfl)
 edge_pairs := .of [] follows (by kernel_rfl) (by kernel_rfl) (by kernel_rfl) (by kernel_rfl)
 edge_Entry := .of [] follows (by kernel_rfl) (by kernel_rfl) (by kernel_rfl) (by kernel_rfl)
 align_Code := .of [] follows (by kernel_rfl) (by kernel_rfl) (by kernel_rfl) (by kernel_rfl)
 align_Terms := .of [] follows (by kernel_rfl) (by kernel_rfl) (by kernel_rfl) (by kernel_rfl)
 pairset_Make := .of [] follows (by kernel_rfl) (by kernel_rfl) (by kernel_rfl) (by kernel_rfl)
 blockcheck_checker_run := .of [] [] follows (by kernel_rfl) (by kernel_rfl) (by kernel_rfl) (by kernel_rfl) (by kernel_rfl) (by kernel_rfl) (by kernel_rfl)
 pairset_Missing := .of [] follows (by kernel_rfl) (by kernel_rfl) (by kernel_rfl) (by kernel_rfl)
 interp_begin := .of [] follows (by kernel_rfl) (by kernel_rfl) (by kernel_rfl) (by kernel_rfl)
 interp_state_step := .of [] follows (by kernel_rfl) (by kernel_rfl) (by kernel_rfl) (by kernel_rfl)
 execute_begin := .of [[3], [3], [3], [3], [3]] follows (by kernel_rfl) (by kernel_rfl) (by kernel_rfl) (by kernel_rfl)
 execute_state_step := .of [] follows (by kernel_rfl) (by kernel_rfl) (by kernel_rfl) (by kernel_rfl)
 location_Slot := .of [] follows (by kernel_rfl) (by kernel_rfl) (by kernel_rfl) (by kernel_rfl)
 source_Instr := .of [] follows (by kernel_rfl) (by kernel_rfl) (by kernel_rfl) (by kernel_rfl)
 source_Term := .of [] follows (by kernel_rfl) (by kernel_rfl) (by kernel_rfl) (by kernel_rfl)
 machine_Instr := .of [] follows (by kernel_rfl) (by kernel_rfl) (by kernel_rfl) (by kernel_rfl)
 location_InRange := .of [] follows (by kernel_rfl) (by kernel_rfl) (by kernel_rfl) (by kernel_rfl)
 pairset_Less := .of [] follows (by kernel_rfl) (by kernel_rfl) (by kernel_rfl) (by kernel_rfl)
 edge_Initial := .of [] follows (by kernel_rfl) (by kernel_rfl) (by kernel_rfl) (by kernel_rfl)
 align_skip_Instr := .of [] follows (by kernel_rfl) (by kernel_rfl) (by kernel_rfl) (by kernel_rfl)
 align_copied := .of [] follows (by kernel_rfl) (by kernel_rfl) (by kernel_rfl) (by kernel_rfl)
 align_skip_Mach := .of [] follows (by kernel_rfl) (by kernel_rfl) (by kernel_rfl) (by kernel_rfl)
 align_moved := .of [] follows (by kernel_rfl) (by kernel_rfl) (by kernel_rfl) (by kernel_rfl)
 align_Same := .of [] follows (by kernel_rfl) (by kernel_rfl) (by kernel_rfl) (by kernel_rfl)
 slices_Clone_Pair := .of [] follows (by kernel_rfl) (by kernel_rfl) (by kernel_rfl) (by kernel_rfl)
 slices_Compact_Pair := .of [] follows (by kernel_rfl) (by kernel_rfl) (by kernel_rfl) (by kernel_rfl)
 blockcheck_checker_row := .of [] follows (by kernel_rfl) (by kernel_rfl) (by kernel_rfl) (by kernel_rfl)
 blockcheck_checker_use := .of [] follows (by kernel_rfl) (by kernel_rfl) (by kernel_rfl) (by kernel_rfl)
 interp_state_instr := .of [[2], [2], [2], [2], [2], [2], [2], [2], [2]] follows (by kernel_rfl) (by kernel_rfl) (by kernel_rfl) (by kernel_rfl)
 interp_state_term := .of [] follows (by kernel_rfl) (by kernel_rfl) (by kernel_rfl) (by kernel_rfl)
 execute_state_instr := .of [] follows (by kernel_rfl) (by kernel_rfl) (by kernel_rfl) (by kernel_rfl)
 execute_state_term := .of [] follows (by kernel_rfl) (by kernel_rfl) (by kernel_rfl) (by kernel_rfl)
 opcode_Of := .of [] follows (by kernel_rfl) (by kernel_rfl) (by kernel_rfl) (by kernel_rfl)
 location_Reg := .of [] follows (by kernel_rfl) (by kernel_rfl) (by kernel_rfl) (by kernel_rfl)
 opcode_Source := .of [] follows (by kernel_rfl) (by kernel_rfl) (by kernel_rfl) (by kernel_rfl)
 source_within := .of [] follows (by kernel_rfl) (by kernel_rfl) (by kernel_rfl) (by kernel_rfl)
 source_blank := .of [] follows (by kernel_rfl) (by kernel_rfl) (by kernel_rfl) (by kernel_rfl)
 opcode_Machine := .of [] follows (by kernel_rfl) (by kernel_rfl) (by kernel_rfl) (by kernel_rfl)
 machine_others := .of [] follows (by kernel_rfl) (by kernel_rfl) (by kernel_rfl) (by kernel_rfl)
 machine_moves := .of [] follows (by kernel_rfl) (by kernel_rfl) (by kernel_rfl) (by kernel_rfl)
 location_IsSlot := .of [] follows (by kernel_rfl) (by kernel_rfl) (by kernel_rfl) (by kernel_rfl)
 location_Index := .of [] follows (by kernel_rfl) (by kernel_rfl) (by kernel_rfl) (by kernel_rfl)
 blockcheck_checker_cost := .of [] follows (by kernel_rfl) (by kernel_rfl) (by kernel_rfl) (by kernel_rfl)
 blockcheck_checker_become := .of [] follows (by kernel_rfl) (by kernel_rfl) (by kernel_rfl) (by kernel_rfl)
 transfer_Copy := .of [] follows (by kernel_rfl) (by kernel_rfl) (by kernel_rfl) (by kernel_rfl)
 transfer_Move := .of [] follows (by kernel_rfl) (by kernel_rfl) (by kernel_rfl) (by kernel_rfl)
 blockcheck_checker_instr := .of [] follows (by kernel_rfl) (by kernel_rfl) (by kernel_rfl) (by kernel_rfl)
 pairset_Has := .of [] follows (by kernel_rfl) (by kernel_rfl) (by kernel_rfl) (by kernel_rfl)
 alu_Eval := .of [] follows (by kernel_rfl) (by kernel_rfl) (by kernel_rfl) (by kernel_rfl)
 execute_state_compute := .of [] follows (by kernel_rfl) (by kernel_rfl) (by kernel_rfl) (by kernel_rfl)
 execute_state_move := .of [[3], [3], [3]] follows (by kernel_rfl) (by kernel_rfl) (by kernel_rfl) (by kernel_rfl)
 execute_state_emit := .of [[2], [2], [2]] follows (by kernel_rfl) (by kernel_rfl) (by kernel_rfl) (by kernel_rfl)
 opcode_known := .of [] follows (by kernel_rfl) (by kernel_rfl) (by kernel_rfl) (by kernel_rfl)
 machine_others_1 := .of [] follows (by kernel_rfl) (by kernel_rfl) (by kernel_rfl) (by kernel_rfl)
 machine_others_2 := .of [] follows (by kernel_rfl) (by kernel_rfl) (by kernel_rfl) (by kernel_rfl)
 machine_moves_1 := .of [] follows (by kernel_rfl) (by kernel_rfl) (by kernel_rfl) (by kernel_rfl)
 machine_moves_2 := .of [] follows (by kernel_rfl) (by kernel_rfl) (by kernel_rfl) (by kernel_rfl)
 transfer_rename := .of [] follows (by kernel_rfl) (by kernel_rfl) (by kernel_rfl) (by kernel_rfl)
 pairset_DropV := .of [] follows (by kernel_rfl) (by kernel_rfl) (by kernel_rfl) (by kernel_rfl)
 pairset_DropL := .of [] follows (by kernel_rfl) (by kernel_rfl) (by kernel_rfl) (by kernel_rfl)
 transfer_Define := .of [] follows (by kernel_rfl) (by kernel_rfl) (by kernel_rfl) (by kernel_rfl)
 pairset_find := .of [] follows (by kernel_rfl) (by kernel_rfl) (by kernel_rfl) (by kernel_rfl)
 alu_operation := .of [] follows (by kernel_rfl) (by kernel_rfl) (by kernel_rfl) (by kernel_rfl)
 execute_state_at := .of [] follows (by kernel_rfl) (by kernel_rfl) (by kernel_rfl) (by kernel_rfl)
 pairset_Union := .of [] follows (by kernel_rfl) (by kernel_rfl) (by kernel_rfl) (by kernel_rfl)
 pairset_filter := .of [[1], [1], [1], [1], [1], [1], [1], [1], [1]] follows (by kernel_rfl) (by kernel_rfl) (by kernel_rfl) (by kernel_rfl)
 pairset_DropV_1 := .of [] follows (by kernel_rfl) (by kernel_rfl) (by kernel_rfl) (by kernel_rfl)
 pairset_DropL_1 := .of [] follows (by kernel_rfl) (by kernel_rfl) (by kernel_rfl) (by kernel_rfl)
 pairset_Add := .of [] follows (by kernel_rfl) (by kernel_rfl) (by kernel_rfl) (by kernel_rfl)
 alu_operation_1 := .of [] follows (by kernel_rfl) (by kernel_rfl) (by kernel_rfl) (by kernel_rfl)
 alu_operation_2 := .of [] follows (by kernel_rfl) (by kernel_rfl) (by kernel_rfl) (by kernel_rfl)
 alu_operation_3 := .of [] follows (by kernel_rfl) (by kernel_rfl) (by kernel_rfl) (by kernel_rfl)
 alu_operation_4 := .of [] follows (by kernel_rfl) (by kernel_rfl) (by kernel_rfl) (by kernel_rfl)
 alu_operation_5 := .of [] follows (by kernel_rfl) (by kernel_rfl) (by kernel_rfl) (by kernel_rfl)
 alu_operation_6 := .of [] follows (by kernel_rfl) (by kernel_rfl) (by kernel_rfl) (by kernel_rfl)
 alu_operation_7 := .of [] follows (by kernel_rfl) (by kernel_rfl) (by kernel_rfl) (by kernel_rfl)
 alu_operation_8 := .of [] follows (by kernel_rfl) (by kernel_rfl) (by kernel_rfl) (by kernel_rfl)
 alu_operation_9 := .of [] follows (by kernel_rfl) (by kernel_rfl) (by kernel_rfl) (by kernel_rfl)
 alu_operation_10 := .of [] follows (by kernel_rfl) (by kernel_rfl) (by kernel_rfl) (by kernel_rfl)
 alu_operation_11 := .of [] follows (by kernel_rfl) (by kernel_rfl) (by kernel_rfl) (by kernel_rfl)
 alu_truth := .of [] follows (by kernel_rfl) (by kernel_rfl) (by kernel_rfl) (by kernel_rfl)
 alu_operation_12 := .of [] follows (by kernel_rfl) (by kernel_rfl) (by kernel_rfl) (by kernel_rfl)
end Go.Proofs.YtemgahndfjaogaaGreat
namespace Go.AE
open Go Go.Proofs Go.Shelf Go.Sort Go.RowKit Go.Lib
def objP (x : Pair) : Obj := .cells #[.int .i64 x.v, .int .i64 x.l] 56
set_option maxHeartbeats 1000000 in
theorem Jtfz (x y : Pair) (W : World) : Calls Tryz.prog 102 #[.agg #[.int .i64 x.v, .int .i64 x.l], .agg #[.int .i64 y.v, .int .i64 y.l]] W fun e w' => e = .returned (.bool (lessP x y)) ∧ w' = (W.alloc (.cells #[.int .i64 x.v, .int .i64 x.l] 56)).alloc (.cells #[.int .i64 y.v, .int .i64 y.l] 56) := by
 go_enter Tryz.func102, Tryz.ntmps102
 go_wp2 <;> go_ret <;> refine ⟨?_, ?_⟩
 all_goals first | (unfold lessP; congr 2; (repeat' split) <;> (first | (simp; omega) | (simp; done) | omega); done) | (first | rfl | (simp_all; done))
set_option maxHeartbeats 1000000 in
theorem Jt7y (x y : Pair) (W : World) : Calls Tryz.prog 111 #[.agg #[.int .i64 x.v, .int .i64 x.l], .agg #[.int .i64 y.v, .int .i64 y.l]] W fun e w' => e = .returned (.int .i64 (cfP x y)) ∧ ∃ q os', w' = grow (W.drewN q) os' := by
 unfold cfP
 have hl : ∀ x1 x2 y1 y2 W, Calls Tryz.prog 102 #[.agg #[.int .i64 x1, .int .i64 x2], .agg #[.int .i64 y1, .int .i64 y2]] W fun e w' => e = .returned (.bool (lessP ⟨x1, x2⟩ ⟨y1, y2⟩)) ∧ w' = (W.alloc (.cells #[.int .i64 x1, .int .i64 x2] 56)).alloc (.cells #[.int .i64 y1, .int .i64 y2] 56) := fun x1 x2 y1 y2 W => Jtfz ⟨x1, x2⟩ ⟨y1, y2⟩ W
 obtain ⟨x1, x2⟩ := x
 obtain ⟨y1, y2⟩ := y
 obtain ⟨f, hf⟩ : ∃ f : Int → Int → Int → Int → Bool, f = fun x1 x2 y1 y2 => lessP ⟨x1, x2⟩ ⟨y1, y2⟩ := ⟨_, rfl⟩
 have hf' : ∀ x1 x2 y1 y2, lessP ⟨x1, x2⟩ ⟨y1, y2⟩ = f x1 x2 y1 y2 := fun _ _ _ _ => by rw [hf]
 simp only [hf'] at hl ⊢
 clear hf hf'
 go_enter Tryz.func111, Tryz.ntmps111
 go_wp2_with (go_at_call 102; refine (hl _ _ _ _ _).mono ?_; rintro e w' ⟨rfl, rfl⟩)
 all_goals go_ret
 all_goals refine ⟨by simp, 0, _, by simp only [alloc_eq_grow, grow_grow]; rfl⟩
theorem Jt7t (blk off size : Nat) (w : World) : CmpLays Tryz.prog 111 #[] encP 2 cfP blk off size w :=
 fun _ _ _ _ x y => Jt7y x y _
def Jtnq : Go.Shelf.Ren := ⟨fun | 6 => 110 | 15 => 132 | 14 => 131 | 28 => 156 | 29 => 157 | 20 => 148 | 21 => 149 | 22 => 150 | 23 => 151 | 24 => 152 | 25 => 153 | 26 => 154 | 27 => 155 | 46 => 167 | 47 => 168 | 48 => 169 | 49 => 170 | 50 => 171 | 57 => 190 | n => n, fun | 22 => 47 | 24 => 56 | 25 => 166 | 3 => 3 | 39 => 191 | 0 => 0 | 53 => 205 | 55 => 207 | 4 => 4 | 46 => 198 | 45 => 197 | 50 => 202 | 5 => 5 | 9 => 9 | 66 => 220 | 70 => 224 | 76 => 231 | 77 => 232 | n => n, fun | n => n⟩
theorem Jtnp : Go.Proofs.SlLaysF0.n6 Tryz.prog Jtnq := {
 mixed := by kernel_rfl,
 f6 := ⟨Tryz.f110.name, by decide, Tryz.func110.trans (congrArg some (by kernel_rfl))⟩,
 f14 := ⟨Tryz.f131.name, by decide, Tryz.func131.trans (congrArg some (by kernel_rfl))⟩,
 f15 := Tryz.func132.trans (congrArg some (by kernel_rfl)),
 f20 := ⟨Tryz.f148.name, by decide, Tryz.func148.trans (congrArg some (by kernel_rfl))⟩,
 f21 := ⟨Tryz.f149.name, by decide, Tryz.func149.trans (congrArg some (by kernel_rfl))⟩,
 f22 := ⟨Tryz.f150.name, by decide, Tryz.func150.trans (congrArg some (by kernel_rfl))⟩,
 f23 := ⟨Tryz.f151.name, by decide, Tryz.func151.trans (congrArg some (by kernel_rfl))⟩,
 f24 := ⟨Tryz.f152.name, by decide, Tryz.func152.trans (congrArg some (by kernel_rfl))⟩,
 f25 := ⟨Tryz.f153.name, by decide, Tryz.func153.trans (congrArg some (by kernel_rfl))⟩,
 f26 := ⟨Tryz.f154.name, by decide, Tryz.func154.trans (congrArg some (by kernel_rfl))⟩,
 f27 := ⟨Tryz.f155.name, by decide, Tryz.func155.trans (congrArg some (by kernel_rfl))⟩,
 f28 := Tryz.func156.trans (congrArg some (by kernel_rfl)),
 f29 := Tryz.func157.trans (congrArg some (by kernel_rfl)),
 f46 := ⟨Tryz.f167.name, by decide, Tryz.func167.trans (congrArg some (by kernel_rfl))⟩,
 f47 := Tryz.func168.trans (congrArg some (by kernel_rfl)),
 f48 := Tryz.func169.trans (congrArg some (by kernel_rfl)),
 f49 := ⟨Tryz.f170.name, by decide, Tryz.func170.trans (congrArg some (by kernel_rfl))⟩,
 f50 := ⟨Tryz.f171.name, by decide, Tryz.func171.trans (congrArg some (by kernel_rfl))⟩,
 f57 := ⟨Tryz.f190.name, by decide, Tryz.func190.trans (congrArg some (by kernel_rfl))⟩,
 t0 := Tryz.underlying0,
 a0 := Tryz.isAgg0,
 z0 := Tryz.sizeOf0,
 v0 := Tryz.zeroValue0,
 t3 := Tryz.underlying3,
 a3 := Tryz.isAgg3,
 z3 := Tryz.sizeOf3,
 v3 := Tryz.zeroValue3,
 t4 := Tryz.underlying4,
 a4 := Tryz.isAgg4,
 z4 := Tryz.sizeOf4,
 v4 := Tryz.zeroValue4,
 t5 := Tryz.underlying5,
 a5 := Tryz.isAgg5,
 z5 := Tryz.sizeOf5,
 v5 := Tryz.zeroValue5,
 t9 := Tryz.underlying9,
 a9 := Tryz.isAgg9,
 z9 := Tryz.sizeOf9,
 v9 := Tryz.zeroValue9,
 t22 := Tryz.underlying47,
 a22 := Tryz.isAgg47,
 z22 := Tryz.sizeOf47,
 v22 := Tryz.zeroValue47,
 t25 := Tryz.underlying166,
 a25 := Tryz.isAgg166,
 z25 := Tryz.sizeOf166,
 v25 := Tryz.zeroValue166,
 t39 := Tryz.underlying191,
 a39 := Tryz.isAgg191,
 z39 := Tryz.sizeOf191,
 v39 := Tryz.zeroValue191,
 t45 := Tryz.underlying197,
 a45 := Tryz.isAgg197,
 z45 := Tryz.sizeOf197,
 v45 := Tryz.zeroValue197,
 t46 := Tryz.underlying198,
 a46 := Tryz.isAgg198,
 z46 := Tryz.sizeOf198,
 v46 := Tryz.zeroValue198,
 t50 := Tryz.underlying202,
 a50 := Tryz.isAgg202,
 z50 := Tryz.sizeOf202,
 v50 := Tryz.zeroValue202,
 t53 := Tryz.underlying205,
 a53 := Tryz.isAgg205,
 z53 := Tryz.sizeOf205,
 v53 := Tryz.zeroValue205,
 t55 := Tryz.underlying207,
 a55 := Tryz.isAgg207,
 z55 := Tryz.sizeOf207,
 v55 := Tryz.zeroValue207,
 t66 := Tryz.underlying220,
 a66 := Tryz.isAgg220,
 z66 := Tryz.sizeOf220,
 v66 := Tryz.zeroValue220,
 t70 := Tryz.underlying224,
 a70 := Tryz.isAgg224,
 z70 := Tryz.sizeOf224,
 v70 := Tryz.zeroValue224,
 t76 := Tryz.underlying231,
 a76 := Tryz.isAgg231,
 z76 := Tryz.sizeOf231,
 v76 := Tryz.zeroValue231,
 t77 := Tryz.underlying232,
 a77 := Tryz.isAgg232,
 z77 := Tryz.sizeOf232,
 v77 := Tryz.zeroValue232 }
theorem Jt90 : ∀ args w, (callFunc 111 args).run Tryz.prog w = .ok (.enter 111 args) w := enters_of Tryz.func111 (by kernel_rfl) rfl
theorem sortOk (p : Nums) (h1 : p.slices_SortFunc_Pair = 110) (h2 : p.pairset_compare = 111) : SortOk Tryz.prog p := by
 refine ⟨?_, ?_⟩
 ·rw [h1, h2]
  exact Jtnr Jtnp 111 _ (.inl rfl)
 ·intro l hl h0
  rw [h1, h2]
  exact Jtns Jtnp Tryz.isAgg56 Tryz.sizeOf56 111 Jt90 Jt7t l hl (by omega)
end Go.AE
namespace Go.AE
open Go Go.Proofs Go.Shelf Go.Sort Go.RowKit Go.Lib
theorem push2 {α : Type} (l : Array α) (x y : α) : ((l.push x).push y)[l.size + 1]? = some y := by
 rw [show l.size + 1 = (l.push x).size by simp, Array.getElem?_push_size]
theorem Jtkx {F φ w} {x : Pair} {v : Value} (h : Rel F φ w (AV.erase x.av) v) : v = .agg #[.int .i64 x.v, .int .i64 x.l] := by
 cases h with
 | agg xs vs hlen hr =>
  match vs, hlen with
  | [u0, u1], _ =>
   have k0 := hr 0 _ u0 rfl rfl
   have k1 := hr 1 _ u1 rfl rfl
   cases k0 with
   | d _ _ h0 => cases h0; cases k1 with
    | d _ _ h1 => cases h1; rfl
theorem Jtkz {F φ w} {b : Nat} {v : Value} (h : Rel F φ w (AV.erase (.ptr b 0)) v) : ∃ r, φ b = some r ∧ v = .pointer (some ⟨r, 0, none⟩) := by
 cases h with
 | ptr _ _ r h => exact ⟨r, h, rfl⟩
theorem Jtky {F φ w} (a b : Int) (c : Bool) : Rel F φ w (AV.erase (.tup [(⟨a, b⟩ : Pair).av, AB c])) (.tuple #[.agg #[.int .i64 a, .int .i64 b], .bool c]) := by
 refine .tup _ _ rfl fun j x u hx hu => ?_
 match j with
 | 0 =>
  simp at hx hu; subst hx; subst hu
  refine .agg _ _ rfl fun j x u hx hu => ?_
  match j with
  | 0 => simp at hx hu; subst hx; subst hu; exact .d _ _ (.int _ _)
  | 1 => simp at hx hu; subst hx; subst hu; exact .d _ _ (.int _ _)
  | j + 2 => simp at hx
 | 1 => simp at hx hu; subst hx; subst hu; exact .d _ _ (.bool _)
 | j + 2 => simp at hx
theorem Jt7a {N st g a w} (hs : Sim N st g a w) {b r : Nat} {n : Int} (hb : st.H[b]? = some (.mem [AI n])) (hr : g.φ b = some r) : w.cell? ⟨r, 0, none⟩ = some (.int .i64 n) := by
 obtain ⟨c, e, h1, h2, h3, h4⟩ := hs.block hb hr
 obtain ⟨_, u, hu, hrel⟩ := h3 0 _ rfl
 rw [h4, hu]
 cases hrel with
 | d _ _ h => cases h; rfl
set_option maxHeartbeats 1000000 in
theorem Jt84 (x1 x2 d a : Int) (r0 r1 : Nat) (W : World) (h0 : W.cell? ⟨r0, 0, none⟩ = some (.int .i64 d)) (h1 : W.cell? ⟨r1, 0, none⟩ = some (.int .i64 a)) : Calls Tryz.prog 160 #[.agg #[.int .i64 x1, .int .i64 x2], .pointer (some ⟨r0, 0, none⟩), .pointer (some ⟨r1, 0, none⟩)] W fun e w' => e = .returned (.tuple #[.agg #[.int .i64 d, .int .i64 x2], .bool (x1 == a)]) ∧ ∃ q os', w' = grow (W.drewN q) os' := by
 have l0 := World.block_lt_of_cell? W ⟨r0, 0, none⟩ h0
 have l1 := World.block_lt_of_cell? W ⟨r1, 0, none⟩ h1
 go_enter Tryz.func160, Tryz.ntmps160
 go_wp2
 go_region
 go_wp2
 (try simp only [Exit.inBlock, Exit.then])
 refine bodyPost_ret (v := .tuple #[.agg #[.int .i64 d, .int .i64 x2], .bool (x1 == a)]) ?_ rfl ?_
 ·have e : (results Tryz.f160) = fun tmps => (do let vs ← (#[ResultVar.cell 4 56, ResultVar.tmp 5] : Array ResultVar).mapM (rd tmps); pure (if h : vs.size = 1 then vs[0] else .tuple vs)) := rfl
  rw [e]
  have l := run_loadVar_row (P := Tryz.prog) ((W.alloc (Obj.cells #[Value.int IntKind.i64 x1, Value.int IntKind.i64 x2] 56)).alloc (Obj.cells #[Value.int IntKind.i64 d, Value.int IntKind.i64 x2] 56)).drew (W.heap.size + 1) 56 56 #[Value.int IntKind.i64 d, Value.int IntKind.i64 x2] (0, 0) _ (push2 _ _ _) Tryz.underlying56 rfl (by kernel_rfl)
  simp [rd, asAddr, l]
 refine ⟨rfl, 1, #[.cells #[Value.int IntKind.i64 x1, Value.int IntKind.i64 x2] 56, .cells #[Value.int IntKind.i64 d, Value.int IntKind.i64 x2] 56], ?_⟩
 simp only [alloc_eq_grow, grow_grow]; rfl
theorem Jt83 (x : Pair) (d a : Int) : Jt3x Tryz.prog 160 [x.av, .ptr 0 0, .ptr 1 0] [.mem [AI d], .mem [AI a]] fun o H' => o = .ret (.tup [(⟨d, x.l⟩ : Pair).av, AB (x.v == a)]) ∧ H' = [.mem [AI d], .mem [AI a]] := by
 refine Jt77 (fun _ _ h => by cases h) (fun _ _ _ h => by cases h) (fun b cells j e rows hb hc => ?_) fun g vs w hsz hs => ?_
 ·match b with
  | 0 => simp at hb; subst hb; match j with
   | 0 => simp at hc
   | j + 1 => simp at hc
  | 1 => simp at hb; subst hb; match j with
   | 0 => simp at hc
   | j + 1 => simp at hc
  | b + 2 => simp at hb
 ·obtain ⟨v0, v1, v2, rfl⟩ : ∃ a b c, vs = #[a, b, c] := by
   obtain ⟨vs⟩ := vs
   match vs, hsz with
   | [a, b, c], _ => exact ⟨a, b, c, rfl⟩
  have e0 := hs.env 0 _ rfl
  have e1 := hs.env 1 _ rfl
  have e2 := hs.env 2 _ rfl
  obtain rfl := Jtkx e0
  obtain ⟨r0, hr0, rfl⟩ := Jtkz e1
  obtain ⟨r1, hr1, rfl⟩ := Jtkz e2
  refine ⟨.tuple #[.agg #[.int .i64 d, .int .i64 x.l], .bool (x.v == a)], fun F φ w => Jtky _ _ _, Jt84 x.v x.l d a r0 r1 w (Jt7a hs rfl hr0) (Jt7a hs rfl hr1)⟩
set_option maxHeartbeats 1000000 in
theorem Jti8 (x1 x2 d a : Int) (r0 r1 : Nat) (W : World) (h0 : W.cell? ⟨r0, 0, none⟩ = some (.int .i64 d)) (h1 : W.cell? ⟨r1, 0, none⟩ = some (.int .i64 a)) : Calls Tryz.prog 162 #[.agg #[.int .i64 x1, .int .i64 x2], .pointer (some ⟨r0, 0, none⟩), .pointer (some ⟨r1, 0, none⟩)] W fun e w' => e = .returned (.tuple #[.agg #[.int .i64 x1, .int .i64 d], .bool (x2 == a)]) ∧ ∃ q os', w' = grow (W.drewN q) os' := by
 have l0 := World.block_lt_of_cell? W ⟨r0, 0, none⟩ h0
 have l1 := World.block_lt_of_cell? W ⟨r1, 0, none⟩ h1
 go_enter Tryz.func162, Tryz.ntmps162
 go_wp2
 go_region
 go_wp2
 (try simp only [Exit.inBlock, Exit.then])
 refine bodyPost_ret (v := .tuple #[.agg #[.int .i64 x1, .int .i64 d], .bool (x2 == a)]) ?_ rfl ?_
 ·have e : (results Tryz.f162) = fun tmps => (do let vs ← (#[ResultVar.cell 4 56, ResultVar.tmp 5] : Array ResultVar).mapM (rd tmps); pure (if h : vs.size = 1 then vs[0] else .tuple vs)) := rfl
  rw [e]
  have l := run_loadVar_row (P := Tryz.prog) ((W.alloc (Obj.cells #[Value.int IntKind.i64 x1, Value.int IntKind.i64 x2] 56)).alloc (Obj.cells #[Value.int IntKind.i64 x1, Value.int IntKind.i64 d] 56)).drew (W.heap.size + 1) 56 56 #[Value.int IntKind.i64 x1, Value.int IntKind.i64 d] (0, 0) _ (push2 _ _ _) Tryz.underlying56 rfl (by kernel_rfl)
  simp [rd, asAddr, l]
 refine ⟨rfl, 1, #[.cells #[Value.int IntKind.i64 x1, Value.int IntKind.i64 x2] 56, .cells #[Value.int IntKind.i64 x1, Value.int IntKind.i64 d] 56], ?_⟩
 simp only [alloc_eq_grow, grow_grow]; rfl
theorem Jti7 (x : Pair) (d a : Int) : Jt3x Tryz.prog 162 [x.av, .ptr 0 0, .ptr 1 0] [.mem [AI d], .mem [AI a]] fun o H' => o = .ret (.tup [(⟨x.v, d⟩ : Pair).av, AB (x.l == a)]) ∧ H' = [.mem [AI d], .mem [AI a]] := by
 refine Jt77 (fun _ _ h => by cases h) (fun _ _ _ h => by cases h) (fun b cells j e rows hb hc => ?_) fun g vs w hsz hs => ?_
 ·match b with
  | 0 => simp at hb; subst hb; match j with
   | 0 => simp at hc
   | j + 1 => simp at hc
  | 1 => simp at hb; subst hb; match j with
   | 0 => simp at hc
   | j + 1 => simp at hc
  | b + 2 => simp at hb
 ·obtain ⟨v0, v1, v2, rfl⟩ : ∃ a b c, vs = #[a, b, c] := by
   obtain ⟨vs⟩ := vs
   match vs, hsz with
   | [a, b, c], _ => exact ⟨a, b, c, rfl⟩
  have e0 := hs.env 0 _ rfl
  have e1 := hs.env 1 _ rfl
  have e2 := hs.env 2 _ rfl
  obtain rfl := Jtkx e0
  obtain ⟨r0, hr0, rfl⟩ := Jtkz e1
  obtain ⟨r1, hr1, rfl⟩ := Jtkz e2
  refine ⟨.tuple #[.agg #[.int .i64 x.v, .int .i64 d], .bool (x.l == a)], fun F φ w => Jtky _ _ _, Jti8 x.v x.l d a r0 r1 w (Jt7a hs rfl hr0) (Jt7a hs rfl hr1)⟩
theorem clos (p : Nums) (h1 : p.transfer_Copy_1 = 160) (h2 : p.transfer_Move_1 = 162) : ClosOk Tryz.prog p := by
 refine ⟨?_, ?_, ?_, ?_⟩
 ·rw [h1]; kernel_rfl
 ·rw [h2]; kernel_rfl
 ·rw [h1]; exact Jt83
 ·rw [h2]; exact Jti7
end Go.AE
namespace Go.Proofs.YtemgahndfjaogaaGreat
open Go Go.AE Go.ChangeShapes Go.WideShapes Go.ChangeAt Go.RowKit
theorem own : ownKnob Tryz.prog.godebug = none := by kernel_rfl
theorem Jtfi : laidOutB Tryz.prog = true := by kernel_rfl
theorem flat30 : flatT Tryz.prog 8 30 = some ltCert := by kernel_rfl
theorem flat68 : flatT Tryz.prog 8 68 = some [.sl [ltI]] := by kernel_rfl
theorem flat5 : flatT Tryz.prog 8 5 = some [.int .u8] := by kernel_rfl
theorem sok : SortOk Tryz.prog nums := sortOk nums rfl rfl
theorem cok : ClosOk Tryz.prog nums := clos nums rfl rfl
set_option maxRecDepth 100000 in
theorem lifted (os : Os) (started : os.Started) (H : Type) (enc : TypeId × Value → H) :
  ReturnsInHanded {} Tryz.checked os 9 .any (Rows.checkerSoundSpec.pre6 enc Tryz.prog Tryz.f9 Rows.checkerSoundRow.domain false) (Rows.checkerSoundSpec.post enc Tryz.prog Tryz.f9 false true false false) := by
 refine returnsInHanded_of_change (C := Tryz.checked) own started (by kernel_rfl) Tryz.func9
  (ChangeSpec.witness6 (enc := enc) (C := Tryz.checked) false ⟨#[], #[.agg #[.int .i64 0, .int .i64 0, .slice none 0 0, .int .i64 0, .int .i64 0, .int .i64 0, .slice none 0 0, .slice none 0 0], .slice none 0 0, .int .u8 0], []⟩ 8 (by kernel_rfl) (by kernel_rfl) (by kernel_rfl) (by kernel_rfl)) ?_
 intro W base args ds gs before hval0 hW hcnd _
 have hval : ∀ (j : Nat) t v, Tryz.f9.params[j]? = some t → args[j]? = some v → Value.okWide Tryz.prog W .any base t v := hval0
 have hW' := hW
 obtain ⟨p, q, hA0, hV, rfl, hfz, hnd⟩ := hW
 have hA : DataW.TrodAll enc Tryz.prog W 0 (fun _ => true) true Tryz.f9.params.toList args.toList ds p := hA0
 rw [Tryz.params9] at hA hval
 obtain ⟨v0, vs0, d0, ds0, p0, q0, e0a, e0b, rfl, h0, r0⟩ := trodAll_cons hA
 obtain ⟨v1, vs1, d1, ds1, p1, q1, e1a, e1b, rfl, h1, r1⟩ := trodAll_cons r0
 obtain ⟨v2, vs2, d2, ds2, p2, q2, e2a, e2b, rfl, h2, r2⟩ := trodAll_cons r1
 obtain ⟨e3a, e3b, rfl⟩ := trodAll_nil r2
 subst e3a e3b
 subst e2a e2b
 subst e1a e1b
 obtain rfl : args = #[v0, v1, v2] := by cases args; simp_all
 subst e0b
 obtain ⟨rfl, rfl⟩ := trodVars_none hV
 have hv0 := hval 0 30 v0 rfl rfl
 have k0 := h0
 obtain ⟨n0, hn0⟩ := h0
 obtain ⟨cs0, rfl⟩ := Jtpe Tryz.underlying30 hv0
 obtain ⟨es0, hes0, hrel0⟩ := Jtku (cs := cs0) (reads (w := W) n0 8 30 _ _ _ hn0 flat30)
 obtain ⟨x0, hx0, hk0⟩ := Jt7d hes0
 rw [hx0] at hrel0
 have hv1 := hval 1 68 v1 rfl rfl
 have k1 := h1
 obtain ⟨n1, hn1⟩ := h1
 obtain ⟨a1, l1, c1, rfl⟩ := okWide_slice Tryz.underlying68 hv1
 obtain ⟨es1, hes1, hrel1⟩ := Jtkw (reads (w := W) n1 8 68 _ _ _ hn1 flat68)
 obtain ⟨x1, hx1, hl1⟩ := Jtf8 hes1
 rw [hx1] at hrel1
 have hv2 := hval 2 5 v2 rfl rfl
 have k2 := h2
 obtain ⟨n2, hn2⟩ := h2
 obtain ⟨a2, rfl⟩ := okWide_int Tryz.underlying5 hv2
 obtain ⟨es2, hes2, hrel2⟩ := Jtkw (reads (w := W) n2 8 5 _ _ _ hn2 flat5)
 obtain ⟨x2, hx2, hb2⟩ := u8_of hes2
 rw [hx2] at hrel2
 have lt0 : ∀ x ∈ p0, x.block < W.heap.size := fun x hx => DataW.trod_lt n0 _ _ _ hn0 x hx
 have lt1 : ∀ x ∈ p1, x.block < W.heap.size := fun x hx => DataW.trod_lt n1 _ _ _ hn1 x hx
 have lt2 : ∀ x ∈ p2, x.block < W.heap.size := fun x hx => DataW.trod_lt n2 _ _ _ hn2 x hx
 refine ((Jtfk all sok cok x0 x1 x2 hk0.1 hk0.2 hb2).law (w := W) (vs := #[.agg cs0, .slice a1 l1 c1, .int .u8 a2]) rfl (by simp [AV.plain, Pair.av, Cert.av, AU, intsD]) ?_).mono fun e W' ⟨he, bel⟩ => ?_
 ·intro j x v hx hv
  cases j with
  | zero => simp at hx hv; subst hx; subst hv; exact hrel0
  | succ j =>
   cases j with
   | zero => simp at hx hv; subst hx; subst hv; exact hrel1
   | succ j =>
    cases j with
    | zero => simp at hx hv; subst hx; subst hv; exact hrel2
    | succ j =>
     simp at hx
 subst he
 exact ⟨_, rfl, _, _, _, [], _, [], hW', trodAll_mk1 (shut_bool Tryz.underlying4 _), (Jtqc (Below.trod Jtfi (by kernel_rfl) (of_decide_eq_true (by kernel_rfl)) k0 bel lt0) (Jtqc (Below.trod Jtfi (by kernel_rfl) (of_decide_eq_true (by kernel_rfl)) k1 bel lt1) (Jtqc (Below.trod Jtfi (by kernel_rfl) (of_decide_eq_true (by kernel_rfl)) k2 bel lt2) trodAll_mk0))), rfl, bel.frame _, fun h => by cases h⟩
theorem checkerSound_holds : Rows.CheckerSoundSaid :=
 OpenClaim.holds_of_wide 9 Tryz.f9 rfl rfl rfl rfl rfl rfl rfl ⟨rfl, rfl, rfl, rfl, rfl⟩ rfl rfl rfl rfl rfl (by kernel_rfl) Tryz.func9 (by kernel_rfl)
  (of_decide_eq_true (by kernel_rfl)) (by unfold Func.isWrapper; first | (rw [if_pos (by decide +kernel)]; kernel_rfl) | (rw [if_neg (by decide +kernel)]; exact ⟨rfl, rfl⟩))
  (fun os started H enc _ => lifted os started H enc)
#print axioms checkerSound_holds
end Go.Proofs.YtemgahndfjaogaaGreat
