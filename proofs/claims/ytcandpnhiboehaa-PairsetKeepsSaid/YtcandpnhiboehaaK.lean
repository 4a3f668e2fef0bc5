/- For all lists of pairs and every pair, PairsetKeeps returns true, does not panic, and its arguments read as before. No condition. -/
import Derived.Test.YtcandpnhiboehaaQ3
import Derived.Test.YtcandpnhiboehaaProg
import Derived.Test.YtcandpnhiboehaaRows
set_option linter.unusedVariables false
set_option linter.unusedSimpArgs false
namespace Go.Proofs.Ytcandpnhiboehaa
open Go Go.AE Go.Proofs
set_option maxRecDepth 100000
def nums : Nums := { law11_PairsetMatchesReference := 3, law11_PairsetMatchesSets := 4, law11_PairsetOrder := 5, law11_PairsetSubsets := 6, law23_LivenessMatchesReference := 7, law23_LivenessEquations := 8, law23_LivenessSound := 9, law23_LivenessNecessary := 10, law23_LivenessAppended := 11, law11_PairsetDrops := 12, law11_PairsetKeeps := 13, law11_awake := 14, ref11_Make := 15, pairset_Missing := 16, ref11_Missing := 17, pairset_Sorted := 18, ref11_Sorted := 19, ref11_Same := 20, pairset_Make := 21, pairset_Has := 22, ref11_Has := 23, pairset_Add := 24, ref11_Add := 25, pairset_Subset := 26, pairset_Union := 27, pairset_Less := 28, law23_awake := 29, ref07_Few := 30, ref07_Check := 31, ref23_Used := 32, ref23_Defines := 33, ref07_Numbers := 34, liveness_Uses := 35, liveness_Defs := 36, ref23_Same := 37, liveness_In := 38, ref23_In := 39, liveness_Out := 40, ref23_Out := 41, ref07_Successors := 42, ref23_Has := 43, ref09_Right := 44, ref09_Exec := 45, ref09_Step := 46, ref09_Copy := 47, ref09_Values := 48, ref07_Copy := 49, pairset_DropV := 50, pairset_DropL := 51, law11_spoil := 52, ref11_Less := 53, slices_Clone_Pair := 54, slices_SortFunc_Pair := 55, pairset_compare := 56, slices_Compact_Pair := 57, pairset_find := 58, ref07_Code := 59, ref07_Instr := 60, ref07_Term := 61, ref05_UsesA := 62, ref05_UsesB := 63, ref05_UsesD := 64, liveness_scan := 65, liveness_set_sorted := 66, liveness_solve := 67, ref23_live := 68, liveness_exit := 69, ref09_Start := 70, ref06_Eval := 71, pairset_filter := 72, pairset_DropV_1 := 73, pairset_DropL_1 := 74, slices_pdqsortCmpFunc_Pair := 75, math_bits_Len := 76, ref07_in := 77, liveness_scan_1 := 78, opcode_Of := 79, slices_Sort_int := 80, source_Successors := 81, ref06_bits := 82, ref06_half := 83, ref06_truth := 84, slices_insertionSortCmpFunc_Pair := 85, slices_heapSortCmpFunc_Pair := 86, slices_breakPatternsCmpFunc_Pair := 87, slices_choosePivotCmpFunc_Pair := 88, slices_reverseRangeCmpFunc_Pair := 89, slices_partialInsertionSortCmpFunc_Pair := 90, slices_partitionEqualCmpFunc_Pair := 91, slices_partitionCmpFunc_Pair := 92, math_bits_Len32 := 93, math_bits_Len64 := 94, opcode_known := 95, slices_pdqsortOrdered_int := 96, ref06_bit := 97, slices_siftDownCmpFunc_Pair := 98, slices_nextPowerOfTwo := 99, slices_xorshift_Next := 100, slices_medianAdjacentCmpFunc_Pair := 101, slices_medianCmpFunc_Pair := 102, slices_insertionSortOrdered_int := 103, slices_heapSortOrdered_int := 104, slices_breakPatternsOrdered_int := 105, slices_choosePivotOrdered_int := 106, slices_reverseRangeOrdered_int := 107, slices_partialInsertionSortOrdered_int := 108, cmp_Less_int := 109, slices_partitionEqualOrdered_int := 110, slices_partitionOrdered_int := 111, slices_order2CmpFunc_Pair := 112, slices_siftDownOrdered_int := 113, slices_medianAdjacentOrdered_int := 114, slices_medianOrdered_int := 115, cmp_isNaN_int := 116, slices_order2Ordered_int := 117, law12_TransferMatchesReference := 0, law12_TransferSound := 0, law12_TransferComplete := 0, law12_TransferMonotone := 0, law12_TransferKeeps := 0, law14_BlockcheckMatchesReference := 0, law14_BlockcheckSound := 0, law14_BlockcheckMonotone := 0, law14_BlockcheckSteps := 0, law14_BlockcheckKeeps := 0, law12_awake := 0, transfer_Copy := 0, ref12_Copy := 0, transfer_Move := 0, ref12_Move := 0, transfer_Define := 0, ref12_Define := 0, law12_known := 0, law12_holds := 0, law12_subset := 0, law14_awake := 0, law14_right := 0, ref14_Same := 0, law14_result := 0, blockcheck_Check := 0, ref14_Check := 0, ref10_Step := 0, ref10_Read := 0, transfer_rename := 0, transfer_Copy_1 := 0, transfer_Move_1 := 0, ref08_Check := 0, align_Code := 0, align_Terms := 0, blockcheck_checker_run := 0, ref14_fail := 0, ref13_Code := 0, ref13_Terms := 0, ref14_grow := 0, ref14_use := 0, ref08_Code := 0, ref08_Instr := 0, ref08_Moves := 0, align_skip_Instr := 0, align_copied := 0, align_skip_Mach := 0, align_moved := 0, align_Same := 0, blockcheck_checker_run_1 := 0, blockcheck_checker_row := 0, blockcheck_checker_use := 0, ref13_Operations := 0, ref13_Others := 0, ref13_Same := 0, ref04_InRange := 0, blockcheck_checker_cost := 0, blockcheck_checker_become := 0, blockcheck_checker_instr := 0, location_Reg := 0 }
theorem follows : Try.prog.follows .mixedOrders = true := by kernel_rfl
theorem all : All Try.prog nums where
  law11_PairsetMatchesReference := .of [] follows (by kernel_rfl) (by kernel_rfl) (by kernel_rfl) (by kernel_rfl)
  law11_PairsetMatchesSets := .of [] follows (by kernel_rfl) (by kernel_rfl) (by kernel_rfl) (by kernel_rfl)
  law11_PairsetOrder := .of [] follows (by kernel_rfl) (by kernel_rfl) (by kernel_rfl) (by kernel_rfl)
  law11_PairsetSubsets := .of [] follows (by kernel_rfl) (by kernel_rfl) (by kernel_rfl) (by kernel_rfl)
  law11_PairsetDrops := .of [] follows (by kernel_rfl) (by kernel_rfl) (by kernel_rfl) (by kernel_rfl)
  law11_PairsetKeeps := .of [[], [], [], [0], [], [], [0], [0], [0], [0], [0], [0], [0]] follows (by kernel_rfl) (by kernel_rfl) (by kernel_rfl) (by kernel_rfl)
  law11_awake := .of [] follows (by kernel_rfl) (by kernel_rfl) (by kernel_rfl) (by kernel_rfl)
  ref11_Make := .of [] follows (by kernel_rfl) (by kernel_rfl) (by kernel_rfl) (by kernel_rfl)
  pairset_Missing := .of [] follows (by kernel_rfl) (by kernel_rfl) (by kernel_rfl) (by kernel_rfl)
  ref11_Missing := .of [] follows (by kernel_rfl) (by kernel_rfl) (by kernel_rfl) (by kernel_rfl)
  pairset_Sorted := .of [] follows (by kernel_rfl) (by kernel_rfl) (by kernel_rfl) (by kernel_rfl)
  ref11_Sorted := .of [] follows (by kernel_rfl) (by kernel_rfl) (by kernel_rfl) (by kernel_rfl)
  ref11_Same := .of [] follows (by kernel_rfl) (by kernel_rfl) (by kernel_rfl) (by kernel_rfl)
  pairset_Make := .of [] follows (by kernel_rfl) (by kernel_rfl) (by kernel_rfl) (by kernel_rfl)
  pairset_Has := .of [] follows (by kernel_rfl) (by kernel_rfl) (by kernel_rfl) (by kernel_rfl)
  ref11_Has := .of [] follows (by kernel_rfl) (by kernel_rfl) (by kernel_rfl) (by kernel_rfl)
  pairset_Add := .of [] follows (by kernel_rfl) (by kernel_rfl) (by kernel_rfl) (by kernel_rfl)
  ref11_Add := .of [] follows (by kernel_rfl) (by kernel_rfl) (by kernel_rfl) (by kernel_rfl)
  pairset_Subset := .of [] follows (by kernel_rfl) (by kernel_rfl) (by kernel_rfl) (by kernel_rfl)
  pairset_Union := .of [] follows (by kernel_rfl) (by kernel_rfl) (by kernel_rfl) (by kernel_rfl)
  pairset_Less := .of [] follows (by kernel_rfl) (by kernel_rfl) (by kernel_rfl) (by kernel_rfl)
  pairset_DropV := .of [] follows (by kernel_rfl) (by kernel_rfl) (by kernel_rfl) (by kernel_rfl)
  pairset_DropL := .of [] follows (by kernel_rfl) (by kernel_rfl) (by kernel_rfl) (by kernel_rfl)
  law11_spoil := .of [] follows (by kernel_rfl) (by kernel_rfl) (by kernel_rfl) (by kernel_rfl)
  ref11_Less := .of [] follows (by kernel_rfl) (by kernel_rfl) (by kernel_rfl) (by kernel_rfl)
  slices_Clone_Pair := .of [] follows (by kernel_rfl) (by kernel_rfl) (by kernel_rfl) (by kernel_rfl)
  pairset_compare := .of [] follows (by kernel_rfl) (by kernel_rfl) (by kernel_rfl) (by kernel_rfl)
  slices_Compact_Pair := .of [] follows (by kernel_rfl) (by kernel_rfl) (by kernel_rfl) (by kernel_rfl)
  pairset_find := .of [] follows (by kernel_rfl) (by kernel_rfl) (by kernel_rfl) (by kernel_rfl)
  pairset_filter := .of [[1], [1], [1], [1], [1], [1], [1], [1], [1]] follows (by kernel_rfl) (by kernel_rfl) (by kernel_rfl) (by kernel_rfl)
  pairset_DropV_1 := .of [] follows (by kernel_rfl) (by kernel_rfl) (by kernel_rfl) (by kernel_rfl)
  pairset_DropL_1 := .of [] follows (by kernel_rfl) (by kernel_rfl) (by kernel_rfl) (by kernel_rfl)
end Go.Proofs.Ytcandpnhiboehaa

/- The seat's comparison of pairs and its sort. -/
set_option linter.unusedVariables false
namespace Go.AE
open Go Go.Proofs Go.Shelf Go.Sort Go.RowKit Go.Lib
def objP (x : Pair) : Obj := .cells #[.int .i64 x.v, .int .i64 x.l] 25
set_option maxHeartbeats 1000000 in
theorem less_walk (x y : Pair) (W : World) : Calls Try.prog 28 #[.agg #[.int .i64 x.v, .int .i64 x.l], .agg #[.int .i64 y.v, .int .i64 y.l]] W fun e w' => e = .returned (.bool (lessP x y)) ∧ w' = (W.alloc (.cells #[.int .i64 x.v, .int .i64 x.l] 25)).alloc (.cells #[.int .i64 y.v, .int .i64 y.l] 25) := by
  go_enter Try.func28, Try.ntmps28
  go_wp2 <;> go_ret <;> refine ⟨?_, ?_⟩
  all_goals first | (unfold lessP; congr 2; (repeat' split) <;> (first | (simp; omega) | (simp; done) | omega); done) | (first | rfl | (simp_all; done))
set_option maxHeartbeats 1000000 in
theorem compare_walk (x y : Pair) (W : World) : Calls Try.prog 56 #[.agg #[.int .i64 x.v, .int .i64 x.l], .agg #[.int .i64 y.v, .int .i64 y.l]] W fun e w' => e = .returned (.int .i64 (cfP x y)) ∧ ∃ q os', w' = grow (W.drewN q) os' := by
  unfold cfP
  have hl : ∀ x1 x2 y1 y2 W, Calls Try.prog 28 #[.agg #[.int .i64 x1, .int .i64 x2], .agg #[.int .i64 y1, .int .i64 y2]] W fun e w' => e = .returned (.bool (lessP ⟨x1, x2⟩ ⟨y1, y2⟩)) ∧ w' = (W.alloc (.cells #[.int .i64 x1, .int .i64 x2] 25)).alloc (.cells #[.int .i64 y1, .int .i64 y2] 25) := fun x1 x2 y1 y2 W => less_walk ⟨x1, x2⟩ ⟨y1, y2⟩ W
  obtain ⟨x1, x2⟩ := x
  obtain ⟨y1, y2⟩ := y
  obtain ⟨f, hf⟩ : ∃ f : Int → Int → Int → Int → Bool, f = fun x1 x2 y1 y2 => lessP ⟨x1, x2⟩ ⟨y1, y2⟩ := ⟨_, rfl⟩
  have hf' : ∀ x1 x2 y1 y2, lessP ⟨x1, x2⟩ ⟨y1, y2⟩ = f x1 x2 y1 y2 := fun _ _ _ _ => by rw [hf]
  simp only [hf'] at hl ⊢
  clear hf hf'
  go_enter Try.func56, Try.ntmps56
  go_wp2_with (go_at_call 28; refine (hl _ _ _ _ _).mono ?_; rintro e w' ⟨rfl, rfl⟩)
  all_goals go_ret
  all_goals refine ⟨by simp, 0, _, by simp only [alloc_eq_grow, grow_grow]; rfl⟩
theorem cmpLays (blk off size : Nat) (w : World) : CmpLays Try.prog 56 #[] encP 2 cfP blk off size w :=
  fun _ _ _ _ x y => compare_walk x y _
def sortPair_ren : Go.Shelf.Ren := ⟨fun | 6 => 55 | 15 => 76 | 14 => 75 | 28 => 93 | 29 => 94 | 20 => 85 | 21 => 86 | 22 => 87 | 23 => 88 | 24 => 89 | 25 => 90 | 26 => 91 | 27 => 92 | 46 => 98 | 47 => 99 | 48 => 100 | 49 => 101 | 50 => 102 | 57 => 112 | n => n, fun | 22 => 22 | 24 => 25 | 25 => 77 | 3 => 3 | 39 => 101 | 0 => 0 | 53 => 122 | 55 => 110 | 4 => 4 | 46 => 115 | 45 => 114 | 50 => 119 | 5 => 5 | 9 => 9 | 66 => 126 | 70 => 130 | 76 => 137 | 77 => 138 | n => n, fun | n => n⟩
theorem sortPair : Go.Proofs.SlLaysF0.n6 Try.prog sortPair_ren := {
  mixed := by kernel_rfl,
  f6 := ⟨Try.f55.name, by decide, Try.func55.trans (congrArg some (by kernel_rfl))⟩,
  f14 := ⟨Try.f75.name, by decide, Try.func75.trans (congrArg some (by kernel_rfl))⟩,
  f15 := Try.func76.trans (congrArg some (by kernel_rfl)),
  f20 := ⟨Try.f85.name, by decide, Try.func85.trans (congrArg some (by kernel_rfl))⟩,
  f21 := ⟨Try.f86.name, by decide, Try.func86.trans (congrArg some (by kernel_rfl))⟩,
  f22 := ⟨Try.f87.name, by decide, Try.func87.trans (congrArg some (by kernel_rfl))⟩,
  f23 := ⟨Try.f88.name, by decide, Try.func88.trans (congrArg some (by kernel_rfl))⟩,
  f24 := ⟨Try.f89.name, by decide, Try.func89.trans (congrArg some (by kernel_rfl))⟩,
  f25 := ⟨Try.f90.name, by decide, Try.func90.trans (congrArg some (by kernel_rfl))⟩,
  f26 := ⟨Try.f91.name, by decide, Try.func91.trans (congrArg some (by kernel_rfl))⟩,
  f27 := ⟨Try.f92.name, by decide, Try.func92.trans (congrArg some (by kernel_rfl))⟩,
  f28 := Try.func93.trans (congrArg some (by kernel_rfl)),
  f29 := Try.func94.trans (congrArg some (by kernel_rfl)),
  f46 := ⟨Try.f98.name, by decide, Try.func98.trans (congrArg some (by kernel_rfl))⟩,
  f47 := Try.func99.trans (congrArg some (by kernel_rfl)),
  f48 := Try.func100.trans (congrArg some (by kernel_rfl)),
  f49 := ⟨Try.f101.name, by decide, Try.func101.trans (congrArg some (by kernel_rfl))⟩,
  f50 := ⟨Try.f102.name, by decide, Try.func102.trans (congrArg some (by kernel_rfl))⟩,
  f57 := ⟨Try.f112.name, by decide, Try.func112.trans (congrArg some (by kernel_rfl))⟩,
  t0 := Try.underlying0,
  a0 := Try.isAgg0,
  z0 := Try.sizeOf0,
  v0 := Try.zeroValue0,
  t3 := Try.underlying3,
  a3 := Try.isAgg3,
  z3 := Try.sizeOf3,
  v3 := Try.zeroValue3,
  t4 := Try.underlying4,
  a4 := Try.isAgg4,
  z4 := Try.sizeOf4,
  v4 := Try.zeroValue4,
  t5 := Try.underlying5,
  a5 := Try.isAgg5,
  z5 := Try.sizeOf5,
  v5 := Try.zeroValue5,
  t9 := Try.underlying9,
  a9 := Try.isAgg9,
  z9 := Try.sizeOf9,
  v9 := Try.zeroValue9,
  t22 := Try.underlying22,
  a22 := Try.isAgg22,
  z22 := Try.sizeOf22,
  v22 := Try.zeroValue22,
  t25 := Try.underlying77,
  a25 := Try.isAgg77,
  z25 := Try.sizeOf77,
  v25 := Try.zeroValue77,
  t39 := Try.underlying101,
  a39 := Try.isAgg101,
  z39 := Try.sizeOf101,
  v39 := Try.zeroValue101,
  t45 := Try.underlying114,
  a45 := Try.isAgg114,
  z45 := Try.sizeOf114,
  v45 := Try.zeroValue114,
  t46 := Try.underlying115,
  a46 := Try.isAgg115,
  z46 := Try.sizeOf115,
  v46 := Try.zeroValue115,
  t50 := Try.underlying119,
  a50 := Try.isAgg119,
  z50 := Try.sizeOf119,
  v50 := Try.zeroValue119,
  t53 := Try.underlying122,
  a53 := Try.isAgg122,
  z53 := Try.sizeOf122,
  v53 := Try.zeroValue122,
  t55 := Try.underlying110,
  a55 := Try.isAgg110,
  z55 := Try.sizeOf110,
  v55 := Try.zeroValue110,
  t66 := Try.underlying126,
  a66 := Try.isAgg126,
  z66 := Try.sizeOf126,
  v66 := Try.zeroValue126,
  t70 := Try.underlying130,
  a70 := Try.isAgg130,
  z70 := Try.sizeOf130,
  v70 := Try.zeroValue130,
  t76 := Try.underlying137,
  a76 := Try.isAgg137,
  z76 := Try.sizeOf137,
  v76 := Try.zeroValue137,
  t77 := Try.underlying138,
  a77 := Try.isAgg138,
  z77 := Try.sizeOf138,
  v77 := Try.zeroValue138 }
theorem enters56 : ∀ args w, (callFunc 56 args).run Try.prog w = .ok (.enter 56 args) w := enters_of Try.func56 (by kernel_rfl) rfl
theorem sortOk (p : Nums) (h1 : p.slices_SortFunc_Pair = 55) (h2 : p.pairset_compare = 56) : SortOk Try.prog p := by
  refine ⟨?_, ?_⟩
  · rw [h1, h2]
    exact sort_none sortPair 56 _ (.inl rfl)
  · intro l hl h0
    rw [h1, h2]
    exact sort_some sortPair Try.isAgg25 Try.sizeOf25 56 enters56 cmpLays l hl (by omega)
end Go.AE

namespace Go.Proofs.Ytcandpnhiboehaa
open Go Go.AE Go.ChangeShapes Go.WideShapes Go.ChangeAt Go.RowKit
set_option linter.unusedVariables false
theorem own : ownKnob Try.prog.godebug = none := by kernel_rfl
theorem laidOut : laidOutB Try.prog = true := by kernel_rfl
theorem flat22 : flatT Try.prog 8 22 = some [.sl ltPair] := by kernel_rfl
theorem flat25 : flatT Try.prog 8 25 = some ltPair := by kernel_rfl
theorem sok : SortOk Try.prog nums := sortOk nums rfl rfl
set_option maxRecDepth 100000 in
theorem lifted (os : Os) (started : os.Started) (H : Type) (enc : TypeId × Value → H) :
    ReturnsInHanded {} Try.checked os 13 .any (Rows.pairsetKeepsSpec.pre6 enc Try.prog Try.f13 Rows.pairsetKeepsRow.domain false) (Rows.pairsetKeepsSpec.post enc Try.prog Try.f13 false true false false) := by
  refine returnsInHanded_of_change (C := Try.checked) own started (by kernel_rfl) Try.func13
    (ChangeSpec.witness6 (enc := enc) (C := Try.checked) false ⟨#[], #[.slice none 0 0, .slice none 0 0, .agg #[.int .i64 0, .int .i64 0]], []⟩ 8 (by kernel_rfl) (by kernel_rfl) (by kernel_rfl) (by kernel_rfl)) ?_
  intro W base args ds gs before hval0 hW hcnd _
  have hval : ∀ (j : Nat) t v, Try.f13.params[j]? = some t → args[j]? = some v → Value.okWide Try.prog W .any base t v := hval0
  have hW' := hW
  obtain ⟨p, q, hA0, hV, rfl, hfz, hnd⟩ := hW
  have hA : DataW.TrodAll enc Try.prog W 0 (fun _ => true) true Try.f13.params.toList args.toList ds p := hA0
  rw [Try.params13] at hA hval
  obtain ⟨v0, vs0, d0, ds0, p0, q0, e0a, e0b, rfl, h0, r0⟩ := trodAll_cons hA
  obtain ⟨v1, vs1, d1, ds1, p1, q1, e1a, e1b, rfl, h1, r1⟩ := trodAll_cons r0
  obtain ⟨v2, vs2, d2, ds2, p2, q2, e2a, e2b, rfl, h2, r2⟩ := trodAll_cons r1
  obtain ⟨e3a, e3b, rfl⟩ := trodAll_nil r2
  subst e3a e3b
  subst e2a e2b
  subst e1a e1b
  obtain rfl : args = #[v0, v1, v2] := by cases args; simp_all
  subst e0b
  obtain ⟨rfl, rfl⟩ := trodVars_none hV
  have hv0 := hval 0 22 v0 rfl rfl
  have k0 := h0
  obtain ⟨n0, hn0⟩ := h0
  obtain ⟨a0, l0, c0, rfl⟩ := okWide_slice Try.underlying22 hv0
  obtain ⟨es0, hes0, hrel0⟩ := rel_one (reads (w := W) n0 8 22 _ _ _ hn0 flat22)
  obtain ⟨x0, hx0, hl0⟩ := pairs_of hes0
  rw [hx0] at hrel0
  have hv1 := hval 1 22 v1 rfl rfl
  have k1 := h1
  obtain ⟨n1, hn1⟩ := h1
  obtain ⟨a1, l1, c1, rfl⟩ := okWide_slice Try.underlying22 hv1
  obtain ⟨es1, hes1, hrel1⟩ := rel_one (reads (w := W) n1 8 22 _ _ _ hn1 flat22)
  obtain ⟨x1, hx1, hl1⟩ := pairs_of hes1
  rw [hx1] at hrel1
  have hv2 := hval 2 25 v2 rfl rfl
  have k2 := h2
  obtain ⟨n2, hn2⟩ := h2
  obtain ⟨cs2, rfl⟩ := struct_val Try.underlying25 hv2
  obtain ⟨es2, hes2, hrel2⟩ := rel_agg (cs := cs2) (reads (w := W) n2 8 25 _ _ _ hn2 flat25)
  obtain ⟨x2, hx2⟩ := pair_of hes2
  rw [hx2] at hrel2
  have lt0 : ∀ x ∈ p0, x.block < W.heap.size := fun x hx => DataW.trod_lt n0 _ _ _ hn0 x hx
  have lt1 : ∀ x ∈ p1, x.block < W.heap.size := fun x hx => DataW.trod_lt n1 _ _ _ hn1 x hx
  have lt2 : ∀ x ∈ p2, x.block < W.heap.size := fun x hx => DataW.trod_lt n2 _ _ _ hn2 x hx
  refine ((law11_PairsetKeeps_calls all sok x0 x1 x2).law (w := W) (vs := #[.slice a0 l0 c0, .slice a1 l1 c1, .agg cs2]) rfl (by simp [AV.plain, Pair.av]) ?_).mono fun e W' ⟨he, bel⟩ => ?_
  · intro j x v hx hv
    cases j with
    | zero => simp at hx hv; subst hx; subst hv; exact hrel0
    | succ j =>
      cases j with
      | zero => simp at hx hv; subst hx; subst hv; exact hrel1
      | succ j =>
        cases j with
        | zero => simp at hx hv; subst hx; subst hv; exact hrel2
        | succ j =>
          simp at hx
  subst he
  exact ⟨_, rfl, _, _, _, [], _, [], hW', trodAll_mk1 (shut_bool Try.underlying4 _), (trodAll_consP (Below.trod laidOut (by kernel_rfl) (of_decide_eq_true (by kernel_rfl)) k0 bel lt0) (trodAll_consP (Below.trod laidOut (by kernel_rfl) (of_decide_eq_true (by kernel_rfl)) k1 bel lt1) (trodAll_consP (Below.trod laidOut (by kernel_rfl) (of_decide_eq_true (by kernel_rfl)) k2 bel lt2) trodAll_mk0))), rfl, bel.frame _, fun h => by cases h⟩
theorem pairsetKeeps_holds : Rows.PairsetKeepsSaid :=
  OpenClaim.holds_of_wide 13 Try.f13 rfl rfl rfl rfl rfl rfl rfl ⟨rfl, rfl, rfl, rfl, rfl⟩ rfl rfl rfl rfl rfl (by kernel_rfl) Try.func13 (by kernel_rfl)
    (of_decide_eq_true (by kernel_rfl)) (by unfold Func.isWrapper; first | (rw [if_pos (by decide +kernel)]; kernel_rfl) | (rw [if_neg (by decide +kernel)]; exact ⟨rfl, rfl⟩))
    (fun os started H enc _ => lifted os started H enc)
#print axioms pairsetKeeps_holds
end Go.Proofs.Ytcandpnhiboehaa
