/- For all numbers and strings, LocationMatchesReference returns true, does not panic, and its arguments read as before, where the listed package variables hold what the program lays (the card ties them to its text). No other condition. -/
import Derived.Test.YtpnildiammmjcaaDoorL2
import Derived.Test.YtpnildiammmjcaaDoorProg
import Derived.Shelf.Strconv.Itoa3
import Derived.Test.YtpnildiammmjcaaDoorRows
import Derived.Test.YtpnildiammmjcaaDoorCards
import Derived.Test.YtpnildiammmjcaaDoorTie
import Derived.LaidMore
import Derived.OpenShut
import Derived.Stop.Joined
import Derived.SevenTiedAt
set_option linter.unusedVariables false
set_option linter.unusedSimpArgs false
namespace Go.Proofs.YtpnildiammmjcaaDoor
open Go Go.AE Go.Proofs
set_option maxRecDepth 100000
def nums : Nums := { law11_PairsetMatchesReference := 0, law11_PairsetMatchesSets := 0, law11_PairsetOrder := 0, law11_PairsetSubsets := 0, law23_LivenessMatchesReference := 0, law23_LivenessEquations := 0, law23_LivenessSound := 0, law23_LivenessNecessary := 0, law23_LivenessAppended := 0, law11_PairsetDrops := 0, law11_PairsetKeeps := 0, law11_awake := 0, ref11_Make := 0, pairset_Missing := 0, ref11_Missing := 0, pairset_Sorted := 0, ref11_Sorted := 0, ref11_Same := 0, pairset_Make := 0, pairset_Has := 0, ref11_Has := 0, pairset_Add := 0, ref11_Add := 0, pairset_Subset := 0, pairset_Union := 0, pairset_Less := 0, law23_awake := 0, ref07_Few := 0, ref07_Check := 0, ref23_Used := 0, ref23_Defines := 0, ref07_Numbers := 0, liveness_Uses := 0, liveness_Defs := 0, ref23_Same := 0, liveness_In := 0, ref23_In := 0, liveness_Out := 0, ref23_Out := 0, ref07_Successors := 0, ref23_Has := 0, ref09_Right := 0, ref09_Exec := 0, ref09_Step := 0, ref09_Copy := 0, ref09_Values := 0, ref07_Copy := 0, pairset_DropV := 0, pairset_DropL := 0, law11_spoil := 0, ref11_Less := 0, slices_Clone_Pair := 0, slices_SortFunc_Pair := 0, pairset_compare := 0, slices_Compact_Pair := 0, pairset_find := 0, ref07_Code := 0, ref07_Instr := 0, ref07_Term := 0, ref05_UsesA := 0, ref05_UsesB := 0, ref05_UsesD := 0, liveness_scan := 0, liveness_set_sorted := 0, liveness_solve := 0, ref23_live := 0, liveness_exit := 0, ref09_Start := 0, ref06_Eval := 0, pairset_filter := 0, pairset_DropV_1 := 0, pairset_DropL_1 := 0, slices_pdqsortCmpFunc_Pair := 0, math_bits_Len := 0, ref07_in := 0, liveness_scan_1 := 0, opcode_Of := 0, slices_Sort_int := 0, source_Successors := 0, ref06_bits := 0, ref06_half := 0, ref06_truth := 0, slices_insertionSortCmpFunc_Pair := 0, slices_heapSortCmpFunc_Pair := 0, slices_breakPatternsCmpFunc_Pair := 0, slices_choosePivotCmpFunc_Pair := 0, slices_reverseRangeCmpFunc_Pair := 0, slices_partialInsertionSortCmpFunc_Pair := 0, slices_partitionEqualCmpFunc_Pair := 0, slices_partitionCmpFunc_Pair := 0, math_bits_Len32 := 0, math_bits_Len64 := 0, opcode_known := 0, slices_pdqsortOrdered_int := 0, ref06_bit := 0, slices_siftDownCmpFunc_Pair := 0, slices_nextPowerOfTwo := 0, slices_xorshift_Next := 0, slices_medianAdjacentCmpFunc_Pair := 0, slices_medianCmpFunc_Pair := 0, slices_insertionSortOrdered_int := 0, slices_heapSortOrdered_int := 0, slices_breakPatternsOrdered_int := 0, slices_choosePivotOrdered_int := 0, slices_reverseRangeOrdered_int := 0, slices_partialInsertionSortOrdered_int := 0, cmp_Less_int := 0, slices_partitionEqualOrdered_int := 0, slices_partitionOrdered_int := 0, slices_order2CmpFunc_Pair := 0, slices_siftDownOrdered_int := 0, slices_medianAdjacentOrdered_int := 0, slices_medianOrdered_int := 0, cmp_isNaN_int := 0, slices_order2Ordered_int := 0, law12_TransferMatchesReference := 0, law12_TransferSound := 0, law12_TransferComplete := 0, law12_TransferMonotone := 0, law12_TransferKeeps := 0, law14_BlockcheckMatchesReference := 0, law14_BlockcheckSound := 0, law14_BlockcheckMonotone := 0, law14_BlockcheckSteps := 0, law14_BlockcheckKeeps := 0, law12_awake := 0, transfer_Copy := 0, ref12_Copy := 0, transfer_Move := 0, ref12_Move := 0, transfer_Define := 0, ref12_Define := 0, law12_known := 0, law12_holds := 0, law12_subset := 0, law14_awake := 0, law14_right := 0, ref14_Same := 0, law14_result := 0, blockcheck_Check := 0, ref14_Check := 0, ref10_Step := 0, ref10_Read := 0, transfer_rename := 0, transfer_Copy_1 := 0, transfer_Move_1 := 0, ref08_Check := 0, align_Code := 0, align_Terms := 0, blockcheck_checker_run := 0, ref14_fail := 0, ref13_Code := 0, ref13_Terms := 0, ref14_grow := 0, ref14_use := 0, ref08_Code := 0, ref08_Instr := 0, ref08_Moves := 0, align_skip_Instr := 0, align_copied := 0, align_skip_Mach := 0, align_moved := 0, align_Same := 0, blockcheck_checker_run_1 := 0, blockcheck_checker_row := 0, blockcheck_checker_use := 0, ref13_Operations := 0, ref13_Others := 0, ref13_Same := 0, ref04_InRange := 17, blockcheck_checker_cost := 0, blockcheck_checker_become := 0, blockcheck_checker_instr := 0, location_Reg := 8, law04_LocationBijection := 3, law04_LocationTexts := 4, law04_LocationMatchesReference := 5, law04_LocationRange := 6, law04_awake := 7, location_Slot := 9, location_Parse := 10, location_Text := 11, location_Index := 12, location_IsSlot := 13, ref04_Parse := 14, ref04_Text := 15, location_InRange := 16, strconv_Itoa := 18, ref04_Number := 19, ref04_Decimal := 20 }
theorem follows : Tryd.prog.follows .mixedOrders = true := by kernel_rfl
theorem all : All Tryd.prog nums where
  ref04_InRange := .of [] follows (by kernel_rfl) (by kernel_rfl) (by kernel_rfl) (by kernel_rfl)
  location_Reg := .of [] follows (by kernel_rfl) (by kernel_rfl) (by kernel_rfl) (by kernel_rfl)
  law04_LocationBijection := .of [] follows (by kernel_rfl) (by kernel_rfl) (by kernel_rfl) (by kernel_rfl)
  law04_LocationTexts := .of [] follows (by kernel_rfl) (by kernel_rfl) (by kernel_rfl) (by kernel_rfl)
  law04_LocationMatchesReference := .of [] follows (by kernel_rfl) (by kernel_rfl) (by kernel_rfl) (by kernel_rfl)
  law04_LocationRange := .of [] follows (by kernel_rfl) (by kernel_rfl) (by kernel_rfl) (by kernel_rfl)
  law04_awake := .of [] follows (by kernel_rfl) (by kernel_rfl) (by kernel_rfl) (by kernel_rfl)
  location_Slot := .of [] follows (by kernel_rfl) (by kernel_rfl) (by kernel_rfl) (by kernel_rfl)
  location_Parse := .of [] follows (by kernel_rfl) (by kernel_rfl) (by kernel_rfl) (by kernel_rfl)
  location_Text := .of [] follows (by kernel_rfl) (by kernel_rfl) (by kernel_rfl) (by kernel_rfl)
  location_Index := .of [] follows (by kernel_rfl) (by kernel_rfl) (by kernel_rfl) (by kernel_rfl)
  location_IsSlot := .of [] follows (by kernel_rfl) (by kernel_rfl) (by kernel_rfl) (by kernel_rfl)
  ref04_Parse := .of [] follows (by kernel_rfl) (by kernel_rfl) (by kernel_rfl) (by kernel_rfl)
  ref04_Text := .of [] follows (by kernel_rfl) (by kernel_rfl) (by kernel_rfl) (by kernel_rfl)
  location_InRange := .of [] follows (by kernel_rfl) (by kernel_rfl) (by kernel_rfl) (by kernel_rfl)
  ref04_Number := .of [] follows (by kernel_rfl) (by kernel_rfl) (by kernel_rfl) (by kernel_rfl)
  ref04_Decimal := .of [] follows (by kernel_rfl) (by kernel_rfl) (by kernel_rfl) (by kernel_rfl)
end Go.Proofs.YtpnildiammmjcaaDoor

/- strconv.Itoa at this program: its contract, where the table of powers lies in block 0. -/
set_option linter.unusedVariables false
namespace Go.Proofs
open Go.Shelf
def Tryd.laysItoa_ren : Go.Shelf.Ren := ⟨fun | 171 => 18 | 243 => 21 | 246 => 22 | 283 => 23 | 284 => 24 | 285 => 25 | 286 => 26 | 129 => 28 | 317 => 27 | 318 => 29 | 319 => 30 | 320 => 31 | 337 => 32 | 338 => 33 | n => n, fun | 3 => 3 | 9 => 9 | 2 => 2 | 4 => 4 | 171 => 42 | 0 => 0 | 53 => 22 | 37 => 45 | 5 => 5 | 173 => 46 | 212 => 50 | 51 => 35 | 20 => 20 | 213 => 51 | 46 => 53 | 232 => 56 | 233 => 57 | n => n, fun | 17 => 0 | 18 => 1 | 19 => 2 | n => n⟩
theorem Tryd.laysItoa : Go.Proofs.LaysM.n171 Tryd.prog Tryd.laysItoa_ren := {
  mixed := by kernel_rfl
  f129 := Tryd.func28.trans (congrArg some (by kernel_rfl))
  f171 := Tryd.func18.trans (congrArg some (by kernel_rfl))
  f243 := Tryd.func21.trans (congrArg some (by kernel_rfl))
  f246 := Tryd.func22.trans (congrArg some (by kernel_rfl))
  f283 := Tryd.func23.trans (congrArg some (by kernel_rfl))
  f284 := Tryd.func24.trans (congrArg some (by kernel_rfl))
  f285 := Tryd.func25.trans (congrArg some (by kernel_rfl))
  f286 := Tryd.func26.trans (congrArg some (by kernel_rfl))
  f317 := Tryd.func27.trans (congrArg some (by kernel_rfl))
  f318 := Tryd.func29.trans (congrArg some (by kernel_rfl))
  f319 := Tryd.func30.trans (congrArg some (by kernel_rfl))
  f320 := Tryd.func31.trans (congrArg some (by kernel_rfl))
  f337 := Tryd.func32.trans (congrArg some (by kernel_rfl))
  f338 := Tryd.func33.trans (congrArg some (by kernel_rfl))
  t0 := Tryd.underlying0
  a0 := Tryd.isAgg0
  z0 := Tryd.sizeOf0
  v0 := Tryd.zeroValue0
  t2 := Tryd.underlying2
  a2 := Tryd.isAgg2
  z2 := Tryd.sizeOf2
  v2 := Tryd.zeroValue2
  t3 := Tryd.underlying3
  a3 := Tryd.isAgg3
  z3 := Tryd.sizeOf3
  v3 := Tryd.zeroValue3
  t4 := Tryd.underlying4
  a4 := Tryd.isAgg4
  z4 := Tryd.sizeOf4
  v4 := Tryd.zeroValue4
  t5 := Tryd.underlying5
  a5 := Tryd.isAgg5
  z5 := Tryd.sizeOf5
  v5 := Tryd.zeroValue5
  t9 := Tryd.underlying9
  a9 := Tryd.isAgg9
  z9 := Tryd.sizeOf9
  v9 := Tryd.zeroValue9
  t20 := Tryd.underlying20
  a20 := Tryd.isAgg20
  z20 := Tryd.sizeOf20
  v20 := Tryd.zeroValue20
  t37 := Tryd.underlying45
  a37 := Tryd.isAgg45
  z37 := Tryd.sizeOf45
  v37 := Tryd.zeroValue45
  t46 := Tryd.underlying53
  a46 := Tryd.isAgg53
  z46 := Tryd.sizeOf53
  v46 := Tryd.zeroValue53
  t51 := Tryd.underlying35
  a51 := Tryd.isAgg35
  z51 := Tryd.sizeOf35
  v51 := Tryd.zeroValue35
  t53 := Tryd.underlying22
  a53 := Tryd.isAgg22
  z53 := Tryd.sizeOf22
  v53 := Tryd.zeroValue22
  t171 := Tryd.underlying42
  a171 := Tryd.isAgg42
  z171 := Tryd.sizeOf42
  v171 := Tryd.zeroValue42
  t173 := Tryd.underlying46
  a173 := Tryd.isAgg46
  z173 := Tryd.sizeOf46
  v173 := Tryd.zeroValue46
  t212 := Tryd.underlying50
  a212 := Tryd.isAgg50
  z212 := Tryd.sizeOf50
  v212 := Tryd.zeroValue50
  t213 := Tryd.underlying51
  a213 := Tryd.isAgg51
  z213 := Tryd.sizeOf51
  t232 := Tryd.underlying56
  a232 := Tryd.isAgg56
  z232 := Tryd.sizeOf56
  v232 := Tryd.zeroValue56
  t233 := Tryd.underlying57
  a233 := Tryd.isAgg57
  z233 := Tryd.sizeOf57
  v233 := Tryd.zeroValue57
  g17 := by kernel_rfl
  g18 := by kernel_rfl
  g19 := by kernel_rfl
  i0 := by kernel_rfl
  i2 := by kernel_rfl
  i3 := by kernel_rfl
  i4 := by kernel_rfl
  i5 := by kernel_rfl
  i9 := by kernel_rfl
  i20 := by kernel_rfl
  i37 := by kernel_rfl
  i46 := by kernel_rfl
  i51 := by kernel_rfl
  i53 := by kernel_rfl
  i171 := by kernel_rfl
  i173 := by kernel_rfl
  i212 := by kernel_rfl
  i232 := by kernel_rfl
  i233 := by kernel_rfl
  m17 := by kernel_rfl
  m18 := by kernel_rfl
  m19 := by kernel_rfl }
end Go.Proofs
namespace Go.AE
open Go Go.Proofs Go.Sort
def tabV : Array Value := (Lib.pow10Tab.map fun z => Value.int .u64 z).toArray
theorem gPow : Tryd.prog.globalNamed "internal/strconv.uint64pow10" = some 0 := by kernel_rfl
theorem tab_of {w : World} {t : TypeId} {fr : Nat × Nat} (h : w.heap[0]? = some (.cells tabV t fr)) : Lib.TabIs Tryd.prog w "internal/strconv.uint64pow10" .u64 Lib.pow10Tab := by
  unfold Lib.TabIs World.var?
  rw [gPow]
  simp only [Option.bind_some, h]; rfl
theorem itoaOk (p : Nums) (hp : p.strconv_Itoa = 18) (t : TypeId) (fr : Nat × Nat) : ItoaOk Tryd.prog p (.cells tabV t fr) := by
  refine ⟨fun n h0 h1 => ?_⟩
  rw [hp]
  refine callsTo_of_walk (fun _ _ h => by cases h) (fun _ _ _ h => by cases h) (fun b cells j e rows hb hc => ?_) fun g vs w hsz hs => ?_
  · match b with
    | 0 => simp at hb
    | b + 1 => simp at hb
  · obtain ⟨v0, rfl⟩ : ∃ a, vs = #[a] := by
      obtain ⟨vs⟩ := vs
      match vs, hsz with
      | [a], _ => exact ⟨a, rfl⟩
    have e0 := hs.env 0 _ rfl
    obtain ⟨r, hr⟩ := hs.dom 0 (.glob 0 (.cells tabV t fr)) rfl (by simp)
    obtain ⟨rfl, hg⟩ := hs.glob 0 0 _ r rfl hr
    have hv : v0 = .int .i64 n := by
      have e0' : Rel g.F g.φ w (.d (.int .i64 n)) v0 := e0
      cases e0' with
      | d _ _ h => cases h; rfl
    subst hv
    exact ⟨.string ⟨(Lib.itoa n).toArray⟩, fun F φ w => .d _ _ (.str _), Any.strconv_Itoa Tryd.laysItoa n h0 h1 w (tab_of hg)⟩
end Go.AE

namespace Go.Proofs.YtpnildiammmjcaaDoor
open Go Go.AE Go.ChangeShapes Go.WideShapes Go.ChangeAt Go.RowKit
set_option linter.unusedVariables false
theorem own : ownKnob Tryd.prog.godebug = none := by kernel_rfl
theorem laidOut : laidOutB Tryd.prog = true := by kernel_rfl
theorem flat22 : flatT Tryd.prog 8 22 = some [.int .u64] := by kernel_rfl
theorem flat3 : flatT Tryd.prog 8 3 = some [ltI] := by kernel_rfl
theorem flat9 : flatT Tryd.prog 8 9 = some [.str] := by kernel_rfl
theorem g32 : Tryd.prog.globalNamed "math/bits.deBruijn32tab" = some 1 := by kernel_rfl
theorem g64 : Tryd.prog.globalNamed "math/bits.deBruijn64tab" = some 2 := by kernel_rfl
theorem tPow : (Tryd.prog.globals[0]?).map (·.type) = some 50 := by kernel_rfl
/-- The heap that the program's own start leaves meets the row's condition. -/
theorem door_met (os : Os) (args : Array Value) : laidMetH Tryd.prog Rows.locationMatchesReferenceRow.laid ((World.doorLaid Tryd.prog 400 os).forCall (fun _ _ => 0) ⟨#[], args, []⟩).memory :=
  laidMetH_of_parts3 (fuel := 8) (laidMet_of_run' 8 (by kernel_rfl) (by kernel_rfl)) (by kernel_rfl) (by kernel_rfl)
theorem tab_data : (Rows.laid_internal_strconv_uint64pow10 : DataW Unit) = Lib.tabData .u64 Lib.pow10Tab := by kernel_rfl
/-- What the condition gives: the table of powers lies in block 0. -/
theorem of_laid {W : World} (h : laidMetH Tryd.prog Rows.locationMatchesReferenceRow.laid W) : ∃ t fr, W.heap[0]? = some (.cells tabV t fr) := by
  rw [MakeChecks.laidMetH_plain _ _ _ (by kernel_rfl)] at h
  obtain ⟨ps, ⟨g0, t0, cs0, f0, p0, q0, hg0, ht0, hv0, hd0, ⟨g1, t1, cs1, f1, p1, q1, hg1, ht1, hv1, hd1, ⟨g2, t2, cs2, f2, p2, q2, hg2, ht2, hv2, hd2, _, _⟩, _⟩, _⟩, _, _⟩ := h
  obtain rfl := Option.some.inj (gPow.symm.trans hg2)
  obtain rfl := Option.some.inj (tPow.symm.trans ht2)
  rw [tab_data] at hd2
  have hc := Lib.cells_of_tab Tryd.underlying50 Tryd.underlying22 (by kernel_rfl) (by kernel_rfl) hd2
  unfold World.var? at hv2
  rw [gPow] at hv2
  simp only [Option.bind_some] at hv2
  split at hv2
  · rename_i cs t fr hh
    injection hv2 with hv2
    refine ⟨t, fr, ?_⟩
    rw [hh]
    have : cs = tabV := by
      apply Array.ext'
      rw [hv2, hc]; simp [tabV]
    rw [this]
  · cases hv2
set_option maxRecDepth 100000 in
theorem lifted (os : Os) (started : os.Started) (H : Type) (enc : TypeId × Value → H) :
    ReturnsInHanded {} Tryd.checked os 5 .any (fun w args => (Rows.locationMatchesReferenceSpec.pre enc Tryd.prog Tryd.f5 [] false w args ∧ laidMetH Tryd.prog Rows.locationMatchesReferenceRow.laid w) ∧ sizedMet enc Tryd.prog Tryd.f5 (OpenSpec.ofChange Rows.locationMatchesReferenceSpec) false w args) (Rows.locationMatchesReferenceSpec.post enc Tryd.prog Tryd.f5 false true false false) := by
  refine returnsInHanded_of_change_and (C := Tryd.checked) (X := fun w _ => laidMetH Tryd.prog Rows.locationMatchesReferenceRow.laid w) (fun _ _ _ hh h => h.of_heap hh) own started (by kernel_rfl) Tryd.func5
    (ChangeSpec.witness_shaped (enc := enc) (C := Tryd.checked) (os := os) (X := fun w _ => laidMetH Tryd.prog Rows.locationMatchesReferenceRow.laid w) false (World.doorLaid Tryd.prog 400 os) #[.int .u64 0, .int .i64 0, .string ⟨#[]⟩, .int .i64 0, .int .i64 0] 8 rfl (World.shaped_of_RefB (by kernel_rfl) (by kernel_rfl)) (by kernel_rfl) (by kernel_rfl) (by kernel_rfl) (door_met os _)) ?_
  intro W base args ds gs before hval0 hW _ _ hL _
  have hval : ∀ (j : Nat) t v, Tryd.f5.params[j]? = some t → args[j]? = some v → Value.okWide Tryd.prog W .any base t v := hval0
  have hW' := hW
  obtain ⟨p, q, hA0, hV, rfl, hfz, hnd⟩ := hW
  have hA : DataW.TrodAll enc Tryd.prog W 0 (fun _ => true) true Tryd.f5.params.toList args.toList ds p := hA0
  rw [Tryd.params5] at hA hval
  obtain ⟨v0, vs0, d0, ds0, p0, q0, e0a, e0b, rfl, h0, r0⟩ := trodAll_cons hA
  obtain ⟨v1, vs1, d1, ds1, p1, q1, e1a, e1b, rfl, h1, r1⟩ := trodAll_cons r0
  obtain ⟨v2, vs2, d2, ds2, p2, q2, e2a, e2b, rfl, h2, r2⟩ := trodAll_cons r1
  obtain ⟨v3, vs3, d3, ds3, p3, q3, e3a, e3b, rfl, h3, r3⟩ := trodAll_cons r2
  obtain ⟨v4, vs4, d4, ds4, p4, q4, e4a, e4b, rfl, h4, r4⟩ := trodAll_cons r3
  obtain ⟨e5a, e5b, rfl⟩ := trodAll_nil r4
  subst e5a e5b
  subst e4a e4b
  subst e3a e3b
  subst e2a e2b
  subst e1a e1b
  obtain rfl : args = #[v0, v1, v2, v3, v4] := by cases args; simp_all
  subst e0b
  obtain ⟨rfl, rfl⟩ := trodVars_none hV
  have hv0 := hval 0 22 v0 rfl rfl
  have k0 := h0
  obtain ⟨n0, hn0⟩ := h0
  obtain ⟨a0, rfl⟩ := okWide_int Tryd.underlying22 hv0
  obtain ⟨es0, hes0, hrel0⟩ := rel_one (reads (w := W) n0 8 22 _ _ _ hn0 flat22)
  obtain ⟨x0, hx0, hb0⟩ := u64_of hes0
  rw [hx0] at hrel0
  have hv1 := hval 1 3 v1 rfl rfl
  have k1 := h1
  obtain ⟨n1, hn1⟩ := h1
  obtain ⟨a1, rfl⟩ := okWide_int Tryd.underlying3 hv1
  obtain ⟨es1, hes1, hrel1⟩ := rel_one (reads (w := W) n1 8 3 _ _ _ hn1 flat3)
  obtain ⟨x1, hx1, hl1, hu1⟩ := int_of hes1
  rw [hx1] at hrel1
  have hv2 := hval 2 9 v2 rfl rfl
  have k2 := h2
  obtain ⟨n2, hn2⟩ := h2
  obtain ⟨a2, rfl⟩ := okWide_string Tryd.underlying9 hv2
  obtain ⟨es2, hes2, hrel2⟩ := rel_one (reads (w := W) n2 8 9 _ _ _ hn2 flat9)
  obtain ⟨x2, hx2, hb2⟩ := str_of hes2
  rw [hx2] at hrel2
  have hv3 := hval 3 3 v3 rfl rfl
  have k3 := h3
  obtain ⟨n3, hn3⟩ := h3
  obtain ⟨a3, rfl⟩ := okWide_int Tryd.underlying3 hv3
  obtain ⟨es3, hes3, hrel3⟩ := rel_one (reads (w := W) n3 8 3 _ _ _ hn3 flat3)
  obtain ⟨x3, hx3, hl3, hu3⟩ := int_of hes3
  rw [hx3] at hrel3
  have hv4 := hval 4 3 v4 rfl rfl
  have k4 := h4
  obtain ⟨n4, hn4⟩ := h4
  obtain ⟨a4, rfl⟩ := okWide_int Tryd.underlying3 hv4
  obtain ⟨es4, hes4, hrel4⟩ := rel_one (reads (w := W) n4 8 3 _ _ _ hn4 flat3)
  obtain ⟨x4, hx4, hl4, hu4⟩ := int_of hes4
  rw [hx4] at hrel4
  have lt0 : ∀ x ∈ p0, x.block < W.heap.size := fun x hx => DataW.trod_lt n0 _ _ _ hn0 x hx
  have lt1 : ∀ x ∈ p1, x.block < W.heap.size := fun x hx => DataW.trod_lt n1 _ _ _ hn1 x hx
  have lt2 : ∀ x ∈ p2, x.block < W.heap.size := fun x hx => DataW.trod_lt n2 _ _ _ hn2 x hx
  have lt3 : ∀ x ∈ p3, x.block < W.heap.size := fun x hx => DataW.trod_lt n3 _ _ _ hn3 x hx
  have lt4 : ∀ x ∈ p4, x.block < W.heap.size := fun x hx => DataW.trod_lt n4 _ _ _ hn4 x hx
  obtain ⟨t, fr, hlaid⟩ := of_laid hL
  refine ((law04_LocationMatchesReference_calls all _ (itoaOk nums rfl t fr) x0 x1 x2 x3 x4 hl1 hu1 hb2).lawG (w := W) hlaid (vs := #[.int .u64 a0, .int .i64 a1, .string a2, .int .i64 a3, .int .i64 a4]) rfl (by simp [AV.plain, AU64, AU32, AU16]) ?_).mono fun e W' ⟨he, bel⟩ => ?_
  · intro j x v hx hv
    cases j with
    | zero => simp at hx hv; subst hx; subst hv; exact fun F φ => Rel.flat hrel0 rfl F φ _
    | succ j =>
      cases j with
      | zero => simp at hx hv; subst hx; subst hv; exact fun F φ => Rel.flat hrel1 rfl F φ _
      | succ j =>
        cases j with
        | zero => simp at hx hv; subst hx; subst hv; exact fun F φ => Rel.flat hrel2 rfl F φ _
        | succ j =>
          cases j with
          | zero => simp at hx hv; subst hx; subst hv; exact fun F φ => Rel.flat hrel3 rfl F φ _
          | succ j =>
            cases j with
            | zero => simp at hx hv; subst hx; subst hv; exact fun F φ => Rel.flat hrel4 rfl F φ _
            | succ j =>
              simp at hx
  subst he
  exact ⟨_, rfl, _, _, _, [], _, [], hW', trodAll_mk1 (shut_bool Tryd.underlying4 _), (trodAll_consP (Below.trod laidOut (by kernel_rfl) (of_decide_eq_true (by kernel_rfl)) k0 bel lt0) (trodAll_consP (Below.trod laidOut (by kernel_rfl) (of_decide_eq_true (by kernel_rfl)) k1 bel lt1) (trodAll_consP (Below.trod laidOut (by kernel_rfl) (of_decide_eq_true (by kernel_rfl)) k2 bel lt2) (trodAll_consP (Below.trod laidOut (by kernel_rfl) (of_decide_eq_true (by kernel_rfl)) k3 bel lt3) (trodAll_consP (Below.trod laidOut (by kernel_rfl) (of_decide_eq_true (by kernel_rfl)) k4 bel lt4) trodAll_mk0))))), rfl, bel.frame _, fun h => by cases h⟩
theorem locationMatchesReference_row_holds : Rows.LocationMatchesReferenceSaid :=
  OpenClaim.holds_of_wide 5 Tryd.f5 rfl rfl rfl rfl rfl rfl rfl ⟨rfl, rfl, rfl, rfl, rfl⟩ rfl rfl rfl rfl rfl (by kernel_rfl) Tryd.func5 (by kernel_rfl)
    (of_decide_eq_true (by kernel_rfl)) (by unfold Func.isWrapper; first | (rw [if_pos (by decide +kernel)]; kernel_rfl) | (rw [if_neg (by decide +kernel)]; exact ⟨rfl, rfl⟩))
    (fun os started H enc _ => lifted os started H enc)
theorem locationMatchesReference_holds : Rows.LocationMatchesReferenceCardSaid :=
  Claim7.holds_tied_plain_at .later [] [.data, .data, .data] true Rows.locationMatchesReferenceCard.stood.harness false
    locationMatchesReference_row_holds (fun _ h => by cases h) (by kernel_rfl) (fun _ h => by cases h) locationMatchesReference_row_tie rfl ⟨rfl, rfl⟩ (by kernel_rfl) rfl
    (fun f fn hf hfn => by
      obtain rfl : f = 5 := Option.some.inj ((show Tryd.prog.funcNamed Rows.locationMatchesReferenceRow.func = some 5 by kernel_rfl).symm.trans hf) |>.symm
      obtain rfl : fn = Tryd.f5 := (Option.some.inj (Tryd.func5.symm.trans hfn)).symm
      exact ⟨by kernel_rfl, fun j t ht => by
        rw [Tryd.params5] at ht
        have hm : t ∈ [3, 9, 22] := by
          have := Array.mem_of_getElem? ht
          simp at this ⊢
          first | omega | (rcases this with h | h | h | h <;> simp [h])
        have hall : ([3, 9, 22].all fun u => !Tryd.prog.wantsStandIn u) = true := by kernel_rfl
        exact (show Tryd.prog.wantsStandIn t = false by simpa using List.all_eq_true.1 hall t hm)⟩)
    (by kernel_rfl)
#print axioms locationMatchesReference_holds
end Go.Proofs.YtpnildiammmjcaaDoor
