/- LivenessSound: a register that is not live may be changed. -/
import Derived.Test.YtcandpnhiboehaaZ4
import Derived.Test.YtcandpnhiboehaaProg
import Derived.Test.YtcandpnhiboehaaRows
set_option linter.unusedVariables false
set_option linter.unusedSimpArgs false
namespace Go.Proofs.Ytcandpnhiboehaa
open Go Go.AE Go.Proofs
set_option maxRecDepth 100000
noncomputable def nums : Nums := { law11_PairsetMatchesReference := 3, law11_PairsetMatchesSets := 4, law11_PairsetOrder := 5, law11_PairsetSubsets := 6, law23_LivenessMatchesReference := 7, law23_LivenessEquations := 8, law23_LivenessSound := 9, law23_LivenessNecessary := 10, law23_LivenessAppended := 11, law11_PairsetDrops := 12, law11_PairsetKeeps := 13, law11_awake := 14, ref11_Make := 15, pairset_Missing := 16, ref11_Missing := 17, pairset_Sorted := 18, ref11_Sorted := 19, ref11_Same := 20, pairset_Make := 21, pairset_Has := 22, ref11_Has := 23, pairset_Add := 24, ref11_Add := 25, pairset_Subset := 26, pairset_Union := 27, pairset_Less := 28, law23_awake := 29, ref07_Few := 30, ref07_Check := 31, ref23_Used := 32, ref23_Defines := 33, ref07_Numbers := 34, liveness_Uses := 35, liveness_Defs := 36, ref23_Same := 37, liveness_In := 38, ref23_In := 39, liveness_Out := 40, ref23_Out := 41, ref07_Successors := 42, ref23_Has := 43, ref09_Right := 44, ref09_Exec := 45, ref09_Step := 46, ref09_Copy := 47, ref09_Values := 48, ref07_Copy := 49, pairset_DropV := 50, pairset_DropL := 51, law11_spoil := 52, ref11_Less := 53, slices_Clone_Pair := 54, slices_SortFunc_Pair := 55, pairset_compare := 56, slices_Compact_Pair := 57, pairset_find := 58, ref07_Code := 59, ref07_Instr := 60, ref07_Term := 61, ref05_UsesA := 62, ref05_UsesB := 63, ref05_UsesD := 64, liveness_scan := 65, liveness_set_sorted := 66, liveness_solve := 67, ref23_live := 68, liveness_exit := 69, ref09_Start := 70, ref06_Eval := 71, pairset_filter := 72, pairset_DropV_1 := 73, pairset_DropL_1 := 74, slices_pdqsortCmpFunc_Pair := 75, math_bits_Len := 76, ref07_in := 77, liveness_scan_1 := 78, opcode_Of := 79, slices_Sort_int := 80, source_Successors := 81, ref06_bits := 82, ref06_half := 83, ref06_truth := 84, slices_insertionSortCmpFunc_Pair := 85, slices_heapSortCmpFunc_Pair := 86, slices_breakPatternsCmpFunc_Pair := 87, slices_choosePivotCmpFunc_Pair := 88, slices_reverseRangeCmpFunc_Pair := 89, slices_partialInsertionSortCmpFunc_Pair := 90, slices_partitionEqualCmpFunc_Pair := 91, slices_partitionCmpFunc_Pair := 92, math_bits_Len32 := 93, math_bits_Len64 := 94, opcode_known := 95, slices_pdqsortOrdered_int := 96, ref06_bit := 97, slices_siftDownCmpFunc_Pair := 98, slices_nextPowerOfTwo := 99, slices_xorshift_Next := 100, slices_medianAdjacentCmpFunc_Pair := 101, slices_medianCmpFunc_Pair := 102, slices_insertionSortOrdered_int := 103, slices_heapSortOrdered_int := 104, slices_breakPatternsOrdered_int := 105, slices_choosePivotOrdered_int := 106, slices_reverseRangeOrdered_int := 107, slices_partialInsertionSortOrdered_int := 108, cmp_Less_int := 109, slices_partitionEqualOrdered_int := 110, slices_partitionOrdered_int := 111, slices_order2CmpFunc_Pair := 112, slices_siftDownOrdered_int := 113, slices_medianAdjacentOrdered_int := 114, slices_medianOrdered_int := 115, cmp_isNaN_int := 116, slices_order2Ordered_int := 117, law22_SpillallKeeps := 0, law22_SpillallSlots := 0, law22_awake := 0, spillall_Cert := 0, ref22_Cert := 0, ref07_Same := 0, ref16_Same := 0, interp_Exec := 0, execute_Exec := 0, spillall_Block := 0, spillall_Moves := 0, source_Check := 0, slices_Clone_Instr := 0, spillall_invariant := 0, ref22_Block := 0, ref08_Moves := 0, ref08_Code := 0, ref08_Same := 0, ref15_Same := 0, interp_begin := 0, interp_state_step := 0, execute_begin := 0, execute_state_step := 0, spillall_builder_instr := 0, spillall_builder_add := 0, spillall_load := 0, source_Code := 0, source_block := 0, location_Slot := 0, ref22_move := 0, interp_state_instr := 0, interp_state_term := 0, execute_state_instr := 0, execute_state_term := 0, spillall_store := 0, location_Reg := 0, source_Instr := 0, source_Term := 0, alu_Eval := 0, execute_state_compute := 0, execute_state_move := 0, execute_state_emit := 0, opcode_Source := 0, source_within := 0, source_blank := 0, alu_operation := 0, execute_state_at := 0, alu_operation_1 := 0, alu_operation_2 := 0, alu_operation_3 := 0, alu_operation_4 := 0, alu_operation_5 := 0, alu_operation_6 := 0, alu_operation_7 := 0, alu_operation_8 := 0, alu_operation_9 := 0, alu_operation_10 := 0, alu_operation_11 := 0, alu_truth := 0, alu_operation_12 := 0, location_IsSlot := 0, location_Index := 0, law16_CheckerMatchesReference := 0, law16_CheckerOnce := 0, law16_CheckerLocal := 0, law16_CheckerSubset := 0, law16_CheckerKeeps := 0, law22_SpillallAccepted := 0, law16_CheckerSound := 0, law16_awake := 0, ref16_Few := 0, checker_Valid := 0, ref16_Valid := 0, checker_Check := 0, ref16_Check := 0, checker_Bound := 0, ref14_Check := 0, ref16_Copy := 0, law16_simulates := 0, ref08_Few := 0, ref15_Few := 0, machine_Check := 0, edge_Valid := 0, ref08_Check := 0, ref15_Valid := 0, checker_begin := 0, blockcheck_Check := 0, edge_Implies := 0, ref15_Initial := 0, machine_Code := 0, ref14_fail := 0, ref13_Code := 0, ref13_Terms := 0, ref14_grow := 0, ref12_Copy := 0, ref12_Move := 0, ref14_use := 0, ref12_Define := 0, ref08_Copy := 0, ref09_Prefix := 0, machine_block := 0, edge_total := 0, edge_pairs := 0, ref08_Instr := 0, ref04_InRange := 0, edge_Entry := 0, align_Code := 0, align_Terms := 0, blockcheck_checker_run := 0, ref13_Operations := 0, ref13_Others := 0, ref13_Same := 0, machine_Instr := 0, location_InRange := 0, edge_Initial := 0, align_skip_Instr := 0, align_copied := 0, align_skip_Mach := 0, align_moved := 0, align_Same := 0, blockcheck_checker_run_1 := 0, blockcheck_checker_row := 0, blockcheck_checker_use := 0, opcode_Machine := 0, machine_others := 0, machine_moves := 0, blockcheck_checker_cost := 0, blockcheck_checker_become := 0, transfer_Copy := 0, transfer_Move := 0, blockcheck_checker_instr := 0, machine_others_1 := 0, machine_others_2 := 0, machine_moves_1 := 0, machine_moves_2 := 0, transfer_rename := 0, transfer_Copy_1 := 0, transfer_Move_1 := 0, transfer_Define := 0, law12_TransferMatchesReference := 0, law12_TransferSound := 0, law12_TransferComplete := 0, law12_TransferMonotone := 0, law12_TransferKeeps := 0, law14_BlockcheckMatchesReference := 0, law14_BlockcheckSound := 0, law14_BlockcheckMonotone := 0, law14_BlockcheckSteps := 0, law14_BlockcheckKeeps := 0, law12_awake := 0, law12_known := 0, law12_holds := 0, law12_subset := 0, law14_awake := 0, law14_right := 0, ref14_Same := 0, law14_result := 0, ref10_Step := 0, ref10_Read := 0, law22_SpillallMatchesReference := 0, law04_LocationBijection := 0, law04_LocationTexts := 0, law04_LocationMatchesReference := 0, law04_LocationRange := 0, law04_awake := 0, location_Parse := 0, location_Text := 0, ref04_Parse := 0, ref04_Text := 0, strconv_Itoa := 0, ref04_Number := 0, ref04_Decimal := 0, ty_bcfail := 0 }
theorem follows : Try.prog.follows .mixedOrders = true := by kernel_rfl
theorem all : All Try.prog nums where
 law23_LivenessSound := .of [[], [], [], [], [], [], [], [], [], [], [], [], [], [], [], [0]] follows (by kernel_rfl) (by kernel_rfl) (by kernel_rfl) (by kernel_rfl)
 law23_awake := .of [] follows (by kernel_rfl) (by kernel_rfl) (by kernel_rfl) (by kernel_rfl)
 ref07_Few := .of [] follows (by kernel_rfl) (by kernel_rfl) (by kernel_rfl) (by kernel_rfl)
 ref07_Check := .of [] follows (by kernel_rfl) (by kernel_rfl) (by kernel_rfl) (by kernel_rfl)
 ref07_Numbers := .of [] follows (by kernel_rfl) (by kernel_rfl) (by kernel_rfl) (by kernel_rfl)
 liveness_Uses := .of [] follows (by kernel_rfl) (by kernel_rfl) (by kernel_rfl) (by kernel_rfl)
 liveness_Defs := .of [] follows (by kernel_rfl) (by kernel_rfl) (by kernel_rfl) (by kernel_rfl)
 ref23_Same := .of [] follows (by kernel_rfl) (by kernel_rfl) (by kernel_rfl) (by kernel_rfl)
 liveness_In := .of [] follows (by kernel_rfl) (by kernel_rfl) (by kernel_rfl) (by kernel_rfl)
 liveness_Out := .of [] follows (by kernel_rfl) (by kernel_rfl) (by kernel_rfl) (by kernel_rfl)
 ref23_Has := .of [] follows (by kernel_rfl) (by kernel_rfl) (by kernel_rfl) (by kernel_rfl)
 ref09_Right := .of [] follows (by kernel_rfl) (by kernel_rfl) (by kernel_rfl) (by kernel_rfl)
 ref09_Exec := .of [] follows (by kernel_rfl) (by kernel_rfl) (by kernel_rfl) (by kernel_rfl)
 ref09_Step := .of [] follows (by kernel_rfl) (by kernel_rfl) (by kernel_rfl) (by kernel_rfl)
 ref09_Copy := .of [] follows (by kernel_rfl) (by kernel_rfl) (by kernel_rfl) (by kernel_rfl)
 ref09_Values := .of [] follows (by kernel_rfl) (by kernel_rfl) (by kernel_rfl) (by kernel_rfl)
 ref07_Code := .of [] follows (by kernel_rfl) (by kernel_rfl) (by kernel_rfl) (by kernel_rfl)
 ref07_Instr := .of [[], [0], [], [0], [], [0]] follows (by kernel_rfl) (by kernel_rfl) (by kernel_rfl) (by kernel_rfl)
 ref07_Term := .of [] follows (by kernel_rfl) (by kernel_rfl) (by kernel_rfl) (by kernel_rfl)
 ref05_UsesA := .of [] follows (by kernel_rfl) (by kernel_rfl) (by kernel_rfl) (by kernel_rfl)
 ref05_UsesB := .of [] follows (by kernel_rfl) (by kernel_rfl) (by kernel_rfl) (by kernel_rfl)
 ref05_UsesD := .of [] follows (by kernel_rfl) (by kernel_rfl) (by kernel_rfl) (by kernel_rfl)
 liveness_scan := .of [] follows (by kernel_rfl) (by kernel_rfl) (by kernel_rfl) (by kernel_rfl)
 liveness_set_sorted := .of [] follows (by kernel_rfl) (by kernel_rfl) (by kernel_rfl) (by kernel_rfl)
 liveness_solve := .of [] follows (by kernel_rfl) (by kernel_rfl) (by kernel_rfl) (by kernel_rfl)
 liveness_exit := .of [] follows (by kernel_rfl) (by kernel_rfl) (by kernel_rfl) (by kernel_rfl)
 ref09_Start := .of [] follows (by kernel_rfl) (by kernel_rfl) (by kernel_rfl) (by kernel_rfl)
 ref06_Eval := .of [] follows (by kernel_rfl) (by kernel_rfl) (by kernel_rfl) (by kernel_rfl)
 ref07_in := .of [] follows (by kernel_rfl) (by kernel_rfl) (by kernel_rfl) (by kernel_rfl)
 liveness_scan_1 := .of [] follows (by kernel_rfl) (by kernel_rfl) (by kernel_rfl) (by kernel_rfl)
 opcode_Of := .of [] follows (by kernel_rfl) (by kernel_rfl) (by kernel_rfl) (by kernel_rfl)
 source_Successors := .of [] follows (by kernel_rfl) (by kernel_rfl) (by kernel_rfl) (by kernel_rfl)
 ref06_bits := .of [] follows (by kernel_rfl) (by kernel_rfl) (by kernel_rfl) (by kernel_rfl)
 ref06_half := .of [] follows (by kernel_rfl) (by kernel_rfl) (by kernel_rfl) (by kernel_rfl)
 ref06_truth := .of [] follows (by kernel_rfl) (by kernel_rfl) (by kernel_rfl) (by kernel_rfl)
 opcode_known := .of [] follows (by kernel_rfl) (by kernel_rfl) (by kernel_rfl) (by kernel_rfl)
 ref06_bit := .of [] follows (by kernel_rfl) (by kernel_rfl) (by kernel_rfl) (by kernel_rfl)
end Go.Proofs.Ytcandpnhiboehaa
namespace Go.AE
open Go Go.Proofs Go.Shelf Go.Sort Go.RowKit Go.Lib
def Jti8 : Go.Shelf.Ren := ⟨fun | 189 => 80 | 125 => 76 | 257 => 96 | 128 => 93 | 129 => 94 | 294 => 103 | 295 => 104 | 296 => 105 | 297 => 106 | 298 => 107 | 299 => 108 | 216 => 109 | 300 => 110 | 301 => 111 | 328 => 113 | 329 => 99 | 330 => 100 | 331 => 114 | 332 => 115 | 215 => 116 | 343 => 117 | n => n, fun | 28 => 45 | 3 => 3 | 46 => 101 | 0 => 0 | 51 => 122 | 53 => 110 | 4 => 4 | 183 => 115 | 182 => 114 | 131 => 119 | 5 => 5 | 9 => 9 | 218 => 126 | 222 => 130 | 228 => 137 | 229 => 138 | n => n, fun | n => n⟩
theorem Jti7 : Go.Proofs.Lays.n189 Try.prog Jti8 := {
 mixed := by kernel_rfl,
 f125 := Try.func76.trans (congrArg some (by kernel_rfl)),
 f128 := Try.func93.trans (congrArg some (by kernel_rfl)),
 f129 := Try.func94.trans (congrArg some (by kernel_rfl)),
 f189 := Try.func80.trans (congrArg some (by kernel_rfl)),
 f215 := Try.func116.trans (congrArg some (by kernel_rfl)),
 f216 := Try.func109.trans (congrArg some (by kernel_rfl)),
 f257 := Try.func96.trans (congrArg some (by kernel_rfl)),
 f294 := Try.func103.trans (congrArg some (by kernel_rfl)),
 f295 := Try.func104.trans (congrArg some (by kernel_rfl)),
 f296 := Try.func105.trans (congrArg some (by kernel_rfl)),
 f297 := Try.func106.trans (congrArg some (by kernel_rfl)),
 f298 := Try.func107.trans (congrArg some (by kernel_rfl)),
 f299 := Try.func108.trans (congrArg some (by kernel_rfl)),
 f300 := Try.func110.trans (congrArg some (by kernel_rfl)),
 f301 := Try.func111.trans (congrArg some (by kernel_rfl)),
 f328 := Try.func113.trans (congrArg some (by kernel_rfl)),
 f329 := Try.func99.trans (congrArg some (by kernel_rfl)),
 f330 := Try.func100.trans (congrArg some (by kernel_rfl)),
 f331 := Try.func114.trans (congrArg some (by kernel_rfl)),
 f332 := Try.func115.trans (congrArg some (by kernel_rfl)),
 f343 := Try.func117.trans (congrArg some (by kernel_rfl)),
 t0 := Try.underlying0,
 a0 := Try.isAgg0,
 z0 := Try.sizeOf0,
 v0 := Try.zeroValue0,
 t3 := Try.underlying3,
 a3 := Try.isAgg3,
 z3 := Try.sizeOf3,
 v3 := Try.zeroValue3,
 t4 := Try.underlying4,
 a4 := Try.isAgg4,
 z4 := Try.sizeOf4,
 v4 := Try.zeroValue4,
 t5 := Try.underlying5,
 a5 := Try.isAgg5,
 z5 := Try.sizeOf5,
 v5 := Try.zeroValue5,
 t9 := Try.underlying9,
 a9 := Try.isAgg9,
 z9 := Try.sizeOf9,
 v9 := Try.zeroValue9,
 t28 := Try.underlying45,
 a28 := Try.isAgg45,
 z28 := Try.sizeOf45,
 v28 := Try.zeroValue45,
 t46 := Try.underlying101,
 a46 := Try.isAgg101,
 z46 := Try.sizeOf101,
 v46 := Try.zeroValue101,
 t51 := Try.underlying122,
 a51 := Try.isAgg122,
 z51 := Try.sizeOf122,
 v51 := Try.zeroValue122,
 t53 := Try.underlying110,
 a53 := Try.isAgg110,
 z53 := Try.sizeOf110,
 v53 := Try.zeroValue110,
 t131 := Try.underlying119,
 a131 := Try.isAgg119,
 z131 := Try.sizeOf119,
 v131 := Try.zeroValue119,
 t182 := Try.underlying114,
 a182 := Try.isAgg114,
 z182 := Try.sizeOf114,
 v182 := Try.zeroValue114,
 t183 := Try.underlying115,
 a183 := Try.isAgg115,
 z183 := Try.sizeOf115,
 v183 := Try.zeroValue115,
 t218 := Try.underlying126,
 a218 := Try.isAgg126,
 z218 := Try.sizeOf126,
 v218 := Try.zeroValue126,
 t222 := Try.underlying130,
 a222 := Try.isAgg130,
 z222 := Try.sizeOf130,
 v222 := Try.zeroValue130,
 t228 := Try.underlying137,
 a228 := Try.isAgg137,
 z228 := Try.sizeOf137,
 v228 := Try.zeroValue137,
 t229 := Try.underlying138,
 a229 := Try.isAgg138,
 z229 := Try.sizeOf138,
 v229 := Try.zeroValue138 }
theorem siok (p : Nums) (h : p.slices_Sort_int = 80) : SortIOk Try.prog p := SortIOk.of Jti7 p h
end Go.AE
namespace Go.Proofs.Ytcandpnhiboehaa
open Go Go.AE Go.ChangeShapes Go.WideShapes Go.ChangeAt Go.RowKit
theorem own : ownKnob Try.prog.godebug = none := by kernel_rfl
theorem Jtbu : laidOutB Try.prog = true := by kernel_rfl
theorem flat42 : flatT Try.prog 8 42 = some ltFunc := by kernel_rfl
theorem flat60 : flatT Try.prog 8 60 = some [.sl [ltI]] := by kernel_rfl
theorem flat5 : flatT Try.prog 8 5 = some [.int .u8] := by kernel_rfl
theorem flat2 : flatT Try.prog 8 2 = some [ltI] := by kernel_rfl
theorem sio : SortIOk Try.prog nums := siok nums rfl
set_option maxRecDepth 100000 in
theorem lifted (os : Os) (started : os.Started) (H : Type) (enc : TypeId × Value → H) :
  ReturnsInHanded {} Try.checked os 9 .any (Rows.livenessSoundSpec.pre6 enc Try.prog Try.f9 Rows.livenessSoundRow.domain false) (Rows.livenessSoundSpec.post enc Try.prog Try.f9 false true false false) := by
 refine returnsInHanded_of_change (C := Try.checked) own started (by kernel_rfl) Try.func9
  (ChangeSpec.witness6 (enc := enc) (C := Try.checked) false ⟨#[], #[.agg #[.int .i64 0, .int .i64 0, .slice none 0 0], .slice none 0 0, .int .u8 0, .int .u8 0, .int .i64 0], []⟩ 8 (by kernel_rfl) (by kernel_rfl) (by kernel_rfl) (by kernel_rfl)) ?_
 intro W base args ds gs before hval0 hW hcnd _
 have hval : ∀ (j : Nat) t v, Try.f9.params[j]? = some t → args[j]? = some v → Value.okWide Try.prog W .any base t v := hval0
 have hW' := hW
 obtain ⟨p, q, hA0, hV, rfl, hfz, hnd⟩ := hW
 have hA : DataW.TrodAll enc Try.prog W 0 (fun _ => true) true Try.f9.params.toList args.toList ds p := hA0
 rw [Try.params9] at hA hval
 obtain ⟨v0, vs0, d0, ds0, p0, q0, e0a, e0b, rfl, h0, r0⟩ := trodAll_cons hA
 obtain ⟨v1, vs1, d1, ds1, p1, q1, e1a, e1b, rfl, h1, r1⟩ := trodAll_cons r0
 obtain ⟨v2, vs2, d2, ds2, p2, q2, e2a, e2b, rfl, h2, r2⟩ := trodAll_cons r1
 obtain ⟨v3, vs3, d3, ds3, p3, q3, e3a, e3b, rfl, h3, r3⟩ := trodAll_cons r2
 obtain ⟨v4, vs4, d4, ds4, p4, q4, e4a, e4b, rfl, h4, r4⟩ := trodAll_cons r3
 obtain ⟨e5a, e5b, rfl⟩ := trodAll_nil r4
 subst e5a e5b
 subst e4a e4b
 subst e3a e3b
 subst e2a e2b
 subst e1a e1b
 obtain rfl : args = #[v0, v1, v2, v3, v4] := by cases args; simp_all
 subst e0b
 obtain ⟨rfl, rfl⟩ := trodVars_none hV
 have hv0 := hval 0 42 v0 rfl rfl
 have k0 := h0
 obtain ⟨n0, hn0⟩ := h0
 obtain ⟨cs0, rfl⟩ := Jtj3 Try.underlying42 hv0
 obtain ⟨es0, hes0, hrel0⟩ := Jtgf (cs := cs0) (reads (w := W) n0 8 42 _ _ _ hn0 flat42)
 obtain ⟨x0, hx0⟩ := Jt90 hes0
 rw [hx0] at hrel0
 have hv1 := hval 1 60 v1 rfl rfl
 have k1 := h1
 obtain ⟨n1, hn1⟩ := h1
 obtain ⟨a1, l1, c1, rfl⟩ := okWide_slice Try.underlying60 hv1
 obtain ⟨es1, hes1, hrel1⟩ := Jtgg (reads (w := W) n1 8 60 _ _ _ hn1 flat60)
 obtain ⟨x1, hx1, hl1⟩ := Jtbk hes1
 rw [hx1] at hrel1
 have hv2 := hval 2 5 v2 rfl rfl
 have k2 := h2
 obtain ⟨n2, hn2⟩ := h2
 obtain ⟨a2, rfl⟩ := okWide_int Try.underlying5 hv2
 obtain ⟨es2, hes2, hrel2⟩ := Jtgg (reads (w := W) n2 8 5 _ _ _ hn2 flat5)
 obtain ⟨x2, hx2, hb2⟩ := u8_of hes2
 rw [hx2] at hrel2
 have hv3 := hval 3 5 v3 rfl rfl
 have k3 := h3
 obtain ⟨n3, hn3⟩ := h3
 obtain ⟨a3, rfl⟩ := okWide_int Try.underlying5 hv3
 obtain ⟨es3, hes3, hrel3⟩ := Jtgg (reads (w := W) n3 8 5 _ _ _ hn3 flat5)
 obtain ⟨x3, hx3, hb3⟩ := u8_of hes3
 rw [hx3] at hrel3
 have hv4 := hval 4 2 v4 rfl rfl
 have k4 := h4
 obtain ⟨n4, hn4⟩ := h4
 obtain ⟨a4, rfl⟩ := okWide_int Try.underlying2 hv4
 obtain ⟨es4, hes4, hrel4⟩ := Jtgg (reads (w := W) n4 8 2 _ _ _ hn4 flat2)
 obtain ⟨x4, hx4, hl4, hu4⟩ := int_of hes4
 rw [hx4] at hrel4
 have lt0 : ∀ x ∈ p0, x.block < W.heap.size := fun x hx => DataW.trod_lt n0 _ _ _ hn0 x hx
 have lt1 : ∀ x ∈ p1, x.block < W.heap.size := fun x hx => DataW.trod_lt n1 _ _ _ hn1 x hx
 have lt2 : ∀ x ∈ p2, x.block < W.heap.size := fun x hx => DataW.trod_lt n2 _ _ _ hn2 x hx
 have lt3 : ∀ x ∈ p3, x.block < W.heap.size := fun x hx => DataW.trod_lt n3 _ _ _ hn3 x hx
 have lt4 : ∀ x ∈ p4, x.block < W.heap.size := fun x hx => DataW.trod_lt n4 _ _ _ hn4 x hx
 refine ((Jtbw all sio x0 x1 x2 x3 x4 hb2 hb3).law (w := W) (vs := #[.agg cs0, .slice a1 l1 c1, .int .u8 a2, .int .u8 a3, .int .i64 a4]) rfl (by simp [AV.plain, Pair.av, Func.av, AU, intsD]) ?_).mono fun e W' ⟨he, bel⟩ => ?_
 ·intro j x v hx hv
  cases j with
  | zero => simp at hx hv; subst hx; subst hv; exact hrel0
  | succ j =>
   cases j with
   | zero => simp at hx hv; subst hx; subst hv; exact hrel1
   | succ j =>
    cases j with
    | zero => simp at hx hv; subst hx; subst hv; exact hrel2
    | succ j =>
     cases j with
     | zero => simp at hx hv; subst hx; subst hv; exact hrel3
     | succ j =>
      cases j with
      | zero => simp at hx hv; subst hx; subst hv; exact hrel4
      | succ j =>
       simp at hx
 subst he
 exact ⟨_, rfl, _, _, _, [], _, [], hW', trodAll_mk1 (shut_bool Try.underlying4 _), (Jtjo (Below.trod Jtbu (by kernel_rfl) (of_decide_eq_true (by kernel_rfl)) k0 bel lt0) (Jtjo (Below.trod Jtbu (by kernel_rfl) (of_decide_eq_true (by kernel_rfl)) k1 bel lt1) (Jtjo (Below.trod Jtbu (by kernel_rfl) (of_decide_eq_true (by kernel_rfl)) k2 bel lt2) (Jtjo (Below.trod Jtbu (by kernel_rfl) (of_decide_eq_true (by kernel_rfl)) k3 bel lt3) (Jtjo (Below.trod Jtbu (by kernel_rfl) (of_decide_eq_true (by kernel_rfl)) k4 bel lt4) trodAll_mk0))))), rfl, bel.frame _, fun h => by cases h⟩
theorem livenessSound_holds : Rows.LivenessSoundSaid :=
 OpenClaim.holds_of_wide 9 Try.f9 rfl rfl rfl rfl rfl rfl rfl ⟨rfl, rfl, rfl, rfl, rfl⟩ rfl rfl rfl rfl rfl (by kernel_rfl) Try.func9 (by kernel_rfl)
  (of_decide_eq_true (by kernel_rfl)) (by unfold Func.isWrapper; first | (rw [if_pos (by decide +kernel)]; kernel_rfl) | (rw [if_neg (by decide +kernel)]; exact ⟨rfl, rfl⟩))
  (fun os started H enc _ => lifted os started H enc)
#print axioms livenessSound_holds
end Go.Proofs.Ytcandpnhiboehaa
