/- A part of the proof: the evaluator over abstract values, its codes, the contracts of the functions. -/
import Derived.Test.YtcandpnhiboehaaQ2
import Derived.Shelf.SlSortCmp.NoneTotal
set_option linter.unusedVariables false
set_option linter.unusedSimpArgs false
/- Sets of pairs: the reference's Add, Make, Missing. -/
set_option linter.unusedVariables false
namespace Go.AE
open Go
section
theorem ref11_Add_calls {P : Program} {p : Nums} (A : All P p) (l : List Pair) (q : Pair) (h0 : l.length < 1000000) : CallsTo P p.ref11_Add [.d (pairsD l), q.av] [] fun o _ => o = .ret (.d (pairsD (addP l q))) := by
  refine A.ref11_Add.run rfl fun R hR => ?_
  (simp (config := { maxSteps := 1000000 }) [ic_ref11_Add, pairsD, Pair.av])
  refine AW_loop (fun k : Nat => ⟨[(7, AI k), (6, AB (foldA q (l.take k)).2), (5, .own 2 ((foldA q (l.take k)).1.map Pair.row)), (4, .nils), (3, .ptr 0 0), (0, .d (.sl (l.map Pair.row)))], [.mem [AI q.v, AI q.l]]⟩) (fun k => k ≤ l.length) (fun k => l.length - k) 0 (by simp) (by simp only [foldA, List.take_zero, List.foldl_nil, List.map_nil]; (refine Wk.of ?_ ?_ (by simp) <;> repeat' (first | exact True.intro | exact ⟨_, rfl, wkt_same rfl⟩ | exact ⟨_, rfl, wkt_erase rfl⟩ | exact ⟨_, rfl, .inl .nild⟩ | exact ⟨_, rfl, .inl .nile⟩ | exact ⟨_, rfl, wkt_nils⟩ | exact wkt_same rfl | exact wkt_erase rfl | exact .inl .nild | exact .inl .nile | exact wkt_nils | exact WkB.same rfl | exact WkB_rows | exact WkB_nil | exact .dead _ | refine WkB_cons ?_ ?_ | refine And.intro ?_ ?_))) ?_
  intro k hk N hN
  have hlen := foldA_len q (l.take k) ([], false)
  obtain ⟨out, dn, hs⟩ : ∃ out dn, foldA q (l.take k) = (out, dn) := ⟨_, _, rfl⟩
  have hlen : out.length ≤ 2 * k := by
    have : (foldA q (l.take k)).1.length ≤ 0 + 2 * (l.take k).length := hlen
    rw [hs] at this; simp at this; omega
  simp only [hs]
  (simp (config := { maxSteps := 1000000 }) [])
  ((first | refine AW_cond_split _ (by rfl) (fun h2 => ?_) (fun h2 => ?_) | refine AWop_split _ (by rfl) (fun h2 => ?_) (fun h2 => ?_)) <;> (try simp only [decide_eq_true_eq, decide_eq_false_iff_not, Bool.not_eq_true', Bool.not_eq_false', Bool.and_eq_true, Bool.or_eq_true, beq_iff_eq, bne_iff_ne, ne_eq, beq_eq_false_iff_ne, bne_eq_false_iff_eq] at h2))
  · have hkl : k < l.length := by simpa using h2
    have hb : l[k]? = some l[k] := by simp
    have hw := wrap_succ (k := k) (by omega)
    have hsn := foldA_succ (p := q) hkl
    rw [hs] at hsn
    have next : ∀ st', Wk 0 st' ⟨[(7, AI ((k + 1 : Nat) : Int)), (6, AB (stepA q (out, dn) l[k]).2), (5, .own 2 ((stepA q (out, dn) l[k]).1.map Pair.row)), (4, .nils), (3, .ptr 0 0), (0, .d (.sl (l.map Pair.row)))], [.mem [AI q.v, AI q.l]]⟩ → N st' := by
      intro st' h; rw [← hsn] at h; exact hN st' (k + 1) hkl h (by omega)
    obtain ⟨x, hx⟩ : ∃ x, x = l[k] := ⟨_, rfl⟩
    rw [← hx] at hb next
    have hrow : ∀ l : List Pair, ∀ r ∈ l.map Pair.row, r.length = 2 := fun l => rows_len fun x => rfl
    (simp (config := { maxSteps := 1000000 }) [h2, hb, Pair.row])
    cases dn with
    | true =>
      (simp (config := { maxSteps := 1000000 }) [hb, Pair.row])
      ((first | refine AW_cond_split _ (by rfl) (fun h3 => ?_) (fun h3 => ?_) | refine AWop_split _ (by rfl) (fun h3 => ?_) (fun h3 => ?_)) <;> (try simp only [decide_eq_true_eq, decide_eq_false_iff_not, Bool.not_eq_true', Bool.not_eq_false', Bool.and_eq_true, Bool.or_eq_true, beq_iff_eq, bne_iff_ne, ne_eq, beq_eq_false_iff_ne, bne_eq_false_iff_eq] at h3))
      · have e : x ≠ q := by rintro rfl; simp at h3
        (simp (config := { maxSteps := 1000000 }) [h3, hb, hw, Pair.row])
        (refine AWio_app_own (by rfl) (by rfl) (by rfl) ?_ (by decide) ?_ ?_ ?_)
        · simp
        · simp; omega
        · simp; omega
        (simp (config := { maxSteps := 1000000 }) [hw])
        exact next _ (by simp only [stepA, e]; simp [Pair.row]; (refine Wk.of ?_ ?_ (by simp) <;> repeat' (first | exact True.intro | exact ⟨_, rfl, wkt_same rfl⟩ | exact ⟨_, rfl, wkt_erase rfl⟩ | exact ⟨_, rfl, .inl .nild⟩ | exact ⟨_, rfl, .inl .nile⟩ | exact ⟨_, rfl, wkt_nils⟩ | exact wkt_same rfl | exact wkt_erase rfl | exact .inl .nild | exact .inl .nile | exact wkt_nils | exact WkB.same rfl | exact WkB_rows | exact WkB_nil | exact .dead _ | refine WkB_cons ?_ ?_ | refine And.intro ?_ ?_)))
      · have e : x = q := by cases x; cases q; simp_all
        (simp (config := { maxSteps := 1000000 }) [h3, hw])
        exact next _ (by simp only [stepA, e]; simp; (refine Wk.of ?_ ?_ (by simp) <;> repeat' (first | exact True.intro | exact ⟨_, rfl, wkt_same rfl⟩ | exact ⟨_, rfl, wkt_erase rfl⟩ | exact ⟨_, rfl, .inl .nild⟩ | exact ⟨_, rfl, .inl .nile⟩ | exact ⟨_, rfl, wkt_nils⟩ | exact wkt_same rfl | exact wkt_erase rfl | exact .inl .nild | exact .inl .nile | exact wkt_nils | exact WkB.same rfl | exact WkB_rows | exact WkB_nil | exact .dead _ | refine WkB_cons ?_ ?_ | refine And.intro ?_ ?_)))
    | false =>
      (simp (config := { maxSteps := 1000000 }) [hb, Pair.row])
      (refine AWcall_det (ref11_Less_calls A x q) (by rfl) (by rfl) ?_)
      (simp (config := { maxSteps := 1000000 }) [])
      by_cases hl : lessP x q = true
      · (simp (config := { maxSteps := 1000000 }) [hl, hb, hw, Pair.row])
        ((first | refine AW_cond_split _ (by rfl) (fun h3 => ?_) (fun h3 => ?_) | refine AWop_split _ (by rfl) (fun h3 => ?_) (fun h3 => ?_)) <;> (try simp only [decide_eq_true_eq, decide_eq_false_iff_not, Bool.not_eq_true', Bool.not_eq_false', Bool.and_eq_true, Bool.or_eq_true, beq_iff_eq, bne_iff_ne, ne_eq, beq_eq_false_iff_ne, bne_eq_false_iff_eq] at h3))
        · have e : x ≠ q := by rintro rfl; simp at h3
          (simp (config := { maxSteps := 1000000 }) [h3, hb, hw, Pair.row])
          (refine AWio_app_own (by rfl) (by rfl) (by rfl) ?_ (by decide) ?_ ?_ ?_)
          · simp
          · simp; omega
          · simp; omega
          (simp (config := { maxSteps := 1000000 }) [hw])
          exact next _ (by simp only [stepA, hl, e]; simp [Pair.row]; (refine Wk.of ?_ ?_ (by simp) <;> repeat' (first | exact True.intro | exact ⟨_, rfl, wkt_same rfl⟩ | exact ⟨_, rfl, wkt_erase rfl⟩ | exact ⟨_, rfl, .inl .nild⟩ | exact ⟨_, rfl, .inl .nile⟩ | exact ⟨_, rfl, wkt_nils⟩ | exact wkt_same rfl | exact wkt_erase rfl | exact .inl .nild | exact .inl .nile | exact wkt_nils | exact WkB.same rfl | exact WkB_rows | exact WkB_nil | exact .dead _ | refine WkB_cons ?_ ?_ | refine And.intro ?_ ?_)))
        · have e : x = q := by cases x; cases q; simp_all
          (simp (config := { maxSteps := 1000000 }) [h3, hw])
          subst e
          exact next _ (by simp only [stepA, hl]; simp; (refine Wk.of ?_ ?_ (by simp) <;> repeat' (first | exact True.intro | exact ⟨_, rfl, wkt_same rfl⟩ | exact ⟨_, rfl, wkt_erase rfl⟩ | exact ⟨_, rfl, .inl .nild⟩ | exact ⟨_, rfl, .inl .nile⟩ | exact ⟨_, rfl, wkt_nils⟩ | exact wkt_same rfl | exact wkt_erase rfl | exact .inl .nild | exact .inl .nile | exact wkt_nils | exact WkB.same rfl | exact WkB_rows | exact WkB_nil | exact .dead _ | refine WkB_cons ?_ ?_ | refine And.intro ?_ ?_)))
      · have hl : lessP x q = false := by simpa using hl
        (simp (config := { maxSteps := 1000000 }) [hl, hb, hw, Pair.row])
        (refine AWio_app_own (by rfl) (by rfl) (by rfl) ?_ (by decide) ?_ ?_ ?_)
        · simp
        · simp; omega
        · simp; omega
        (simp (config := { maxSteps := 1000000 }) [hb, hw, Pair.row])
        ((first | refine AW_cond_split _ (by rfl) (fun h3 => ?_) (fun h3 => ?_) | refine AWop_split _ (by rfl) (fun h3 => ?_) (fun h3 => ?_)) <;> (try simp only [decide_eq_true_eq, decide_eq_false_iff_not, Bool.not_eq_true', Bool.not_eq_false', Bool.and_eq_true, Bool.or_eq_true, beq_iff_eq, bne_iff_ne, ne_eq, beq_eq_false_iff_ne, bne_eq_false_iff_eq] at h3))
        · have e : x ≠ q := by rintro rfl; simp at h3
          (simp (config := { maxSteps := 1000000 }) [h3, hb, hw, Pair.row])
          (refine AWio_app_own (by rfl) (by rfl) (by rfl) ?_ (by decide) ?_ ?_ ?_)
          · simp
          · simp; omega
          · simp; omega
          (simp (config := { maxSteps := 1000000 }) [hw])
          exact next _ (by simp only [stepA, hl, e]; simp [Pair.row]; (refine Wk.of ?_ ?_ (by simp) <;> repeat' (first | exact True.intro | exact ⟨_, rfl, wkt_same rfl⟩ | exact ⟨_, rfl, wkt_erase rfl⟩ | exact ⟨_, rfl, .inl .nild⟩ | exact ⟨_, rfl, .inl .nile⟩ | exact ⟨_, rfl, wkt_nils⟩ | exact wkt_same rfl | exact wkt_erase rfl | exact .inl .nild | exact .inl .nile | exact wkt_nils | exact WkB.same rfl | exact WkB_rows | exact WkB_nil | exact .dead _ | refine WkB_cons ?_ ?_ | refine And.intro ?_ ?_)))
        · have e : x = q := by cases x; cases q; simp_all
          (simp (config := { maxSteps := 1000000 }) [h3, hw])
          subst e
          exact next _ (by simp only [stepA, hl]; simp [Pair.row]; (refine Wk.of ?_ ?_ (by simp) <;> repeat' (first | exact True.intro | exact ⟨_, rfl, wkt_same rfl⟩ | exact ⟨_, rfl, wkt_erase rfl⟩ | exact ⟨_, rfl, .inl .nild⟩ | exact ⟨_, rfl, .inl .nile⟩ | exact ⟨_, rfl, wkt_nils⟩ | exact wkt_same rfl | exact wkt_erase rfl | exact .inl .nild | exact .inl .nile | exact wkt_nils | exact WkB.same rfl | exact WkB_rows | exact WkB_nil | exact .dead _ | refine WkB_cons ?_ ?_ | refine And.intro ?_ ?_)))
  · have hk' : k = l.length := by simp at h2; omega
    subst hk'
    rw [List.take_length] at hs
    cases dn with
    | true =>
      (simp (config := { maxSteps := 1000000 }) [])
      (first | exact hR _ _ (Fin_ret _ rfl rfl rfl) | exact hR _ _ (Fin_normal _ rfl rfl rfl) | exact hR _ _ (Fin_ret _ rfl rfl (by simp [AV.erase, AV.unview, addP, hs, pairsD]; done)) | exact hR _ _ (Fin_normal _ rfl rfl (by simp [AV.erase, AV.unview, addP, hs, pairsD]; done)) | fail "no end")
    | false =>
      (simp (config := { maxSteps := 1000000 }) [])
      (refine AWio_app_own (by rfl) (by rfl) (by rfl) ?_ (by decide) ?_ ?_ ?_)
      · simp
      · simp; omega
      · simp; omega
      (simp (config := { maxSteps := 1000000 }) [])
      (first | exact hR _ _ (Fin_ret _ rfl rfl rfl) | exact hR _ _ (Fin_normal _ rfl rfl rfl) | exact hR _ _ (Fin_ret _ rfl rfl (by simp [AV.erase, AV.unview, addP, hs, pairsD, Pair.row]; done)) | exact hR _ _ (Fin_normal _ rfl rfl (by simp [AV.erase, AV.unview, addP, hs, pairsD, Pair.row]; done)) | fail "no end")
end
end Go.AE

/- Sets of pairs: the reference's Make, Missing; Less, Sorted, find, Has. -/
set_option linter.unusedVariables false
namespace Go.AE
open Go
def missA (a b : List Pair) : AV := .tup [((missP a b).getD ⟨0, 0⟩).av, AB (missP a b).isSome]
theorem missP_at {a b : List Pair} {k : Nat} (h : k < a.length) (h1 : ∀ q ∈ a.take k, q ∈ b) (h2 : a[k] ∉ b) : missP a b = some a[k] := by
  unfold missP
  have e : a = a.take k ++ a[k] :: a.drop (k + 1) := by rw [List.getElem_cons_drop, List.take_append_drop]
  have e1 : (a.take k).find? (fun q => !decide (q ∈ b)) = none := by
    rw [List.find?_eq_none]; intro q hq; simp [h1 q hq]
  have e2 : (a[k] :: a.drop (k + 1)).find? (fun q => !decide (q ∈ b)) = some a[k] := by
    rw [List.find?_cons_of_pos (by simp [h2])]
  have e3 := congrArg (List.find? fun q => !decide (q ∈ b)) e
  rw [List.find?_append, e1, e2] at e3
  exact e3
theorem missP_none {a b : List Pair} (h1 : ∀ q ∈ a, q ∈ b) : missP a b = none := by
  unfold missP; rw [List.find?_eq_none]; intro q hq; simp [h1 q hq]
theorem missP_sub {a b : List Pair} : (missP a b).isSome = false ↔ ∀ q ∈ a, q ∈ b := by
  unfold missP
  rw [← Bool.not_eq_true, List.find?_isSome]
  simp
section
theorem ref11_Make_calls {P : Program} {p : Nums} (A : All P p) (l : List Pair) (h0 : l.length < 1000000) : CallsTo P p.ref11_Make [.d (pairsD l)] [] fun o _ => o = .ret (.d (pairsD (makeP l))) := by
  refine A.ref11_Make.run rfl fun R hR => ?_
  (simp (config := { maxSteps := 1000000 }) [ic_ref11_Make, pairsD])
  refine AW_loop (fun k : Nat => ⟨[(4, AI k), (3, .d (.sl ((makeP (l.take k)).map Pair.row))), (2, .nils), (0, .d (.sl (l.map Pair.row)))], []⟩) (fun k => k ≤ l.length) (fun k => l.length - k) 0 (by simp) (by simp only [List.take_zero, makeP_nil, List.map_nil]; (refine Wk.of ?_ ?_ (by simp) <;> repeat' (first | exact True.intro | exact ⟨_, rfl, wkt_same rfl⟩ | exact ⟨_, rfl, wkt_erase rfl⟩ | exact ⟨_, rfl, .inl .nild⟩ | exact ⟨_, rfl, .inl .nile⟩ | exact ⟨_, rfl, wkt_nils⟩ | exact wkt_same rfl | exact wkt_erase rfl | exact .inl .nild | exact .inl .nile | exact wkt_nils | exact WkB.same rfl | exact WkB_rows | exact WkB_nil | exact .dead _ | refine WkB_cons ?_ ?_ | refine And.intro ?_ ?_))) ?_
  intro k hk N hN
  (simp (config := { maxSteps := 1000000 }) [])
  ((first | refine AW_cond_split _ (by rfl) (fun h2 => ?_) (fun h2 => ?_) | refine AWop_split _ (by rfl) (fun h2 => ?_) (fun h2 => ?_)) <;> (try simp only [decide_eq_true_eq, decide_eq_false_iff_not, Bool.not_eq_true', Bool.not_eq_false', Bool.and_eq_true, Bool.or_eq_true, beq_iff_eq, bne_iff_ne, ne_eq, beq_eq_false_iff_ne, bne_eq_false_iff_eq] at h2))
  · have hkl : k < l.length := by simpa using h2
    have hb : l[k]? = some l[k] := by simp
    have hw := wrap_succ (k := k) (by omega)
    have hml := makeP_len (l.take k)
    (simp (config := { maxSteps := 1000000 }) [h2, hb, Pair.row])
    (refine AWcall_det (ref11_Add_calls A (makeP (l.take k)) l[k] (by simp at hml; omega)) (by rfl) (by rfl) ?_)
    rw [← makeP_succ hkl]
    (simp (config := { maxSteps := 1000000 }) [hw, pairsD])
    exact hN _ (k + 1) hkl (by (refine Wk.of ?_ ?_ (by simp) <;> repeat' (first | exact True.intro | exact ⟨_, rfl, wkt_same rfl⟩ | exact ⟨_, rfl, wkt_erase rfl⟩ | exact ⟨_, rfl, .inl .nild⟩ | exact ⟨_, rfl, .inl .nile⟩ | exact ⟨_, rfl, wkt_nils⟩ | exact wkt_same rfl | exact wkt_erase rfl | exact .inl .nild | exact .inl .nile | exact wkt_nils | exact WkB.same rfl | exact WkB_rows | exact WkB_nil | exact .dead _ | refine WkB_cons ?_ ?_ | refine And.intro ?_ ?_))) (by omega)
  · have hk' : k = l.length := by simp at h2; omega
    subst hk'
    (simp (config := { maxSteps := 1000000 }) [])
    (first | exact hR _ _ (Fin_ret _ rfl rfl rfl) | exact hR _ _ (Fin_normal _ rfl rfl rfl) | exact hR _ _ (Fin_ret _ rfl rfl (by simp [AV.erase, AV.unview, List.take_length, pairsD]; done)) | exact hR _ _ (Fin_normal _ rfl rfl (by simp [AV.erase, AV.unview, List.take_length, pairsD]; done)) | fail "no end")
theorem ref11_Missing_calls {P : Program} {p : Nums} (A : All P p) (a b : List Pair) (h0 : a.length < 1000000) (h1 : b.length < 1000000) : CallsTo P p.ref11_Missing [.d (pairsD a), .d (pairsD b)] [] fun o _ => o = .ret (missA a b) := by
  refine A.ref11_Missing.run rfl fun R hR => ?_
  (simp (config := { maxSteps := 1000000 }) [ic_ref11_Missing, pairsD])
  refine AW_loop (fun k : Nat => ⟨[(6, AI k), (5, AB false), (4, .ptr 0 0), (1, .d (.sl (b.map Pair.row))), (0, .d (.sl (a.map Pair.row)))], [.mem [AI 0, AI 0]]⟩) (fun k => k ≤ a.length ∧ ∀ q ∈ a.take k, q ∈ b) (fun k => a.length - k) 0 (by simp) (by (refine Wk.of ?_ ?_ (by simp) <;> repeat' (first | exact True.intro | exact ⟨_, rfl, wkt_same rfl⟩ | exact ⟨_, rfl, wkt_erase rfl⟩ | exact ⟨_, rfl, .inl .nild⟩ | exact ⟨_, rfl, .inl .nile⟩ | exact ⟨_, rfl, wkt_nils⟩ | exact wkt_same rfl | exact wkt_erase rfl | exact .inl .nild | exact .inl .nile | exact wkt_nils | exact WkB.same rfl | exact WkB_rows | exact WkB_nil | exact .dead _ | refine WkB_cons ?_ ?_ | refine And.intro ?_ ?_))) ?_
  rintro k ⟨hk, hz⟩ N hN
  (simp (config := { maxSteps := 1000000 }) [])
  ((first | refine AW_cond_split _ (by rfl) (fun h2 => ?_) (fun h2 => ?_) | refine AWop_split _ (by rfl) (fun h2 => ?_) (fun h2 => ?_)) <;> (try simp only [decide_eq_true_eq, decide_eq_false_iff_not, Bool.not_eq_true', Bool.not_eq_false', Bool.and_eq_true, Bool.or_eq_true, beq_iff_eq, bne_iff_ne, ne_eq, beq_eq_false_iff_ne, bne_eq_false_iff_eq] at h2))
  · have hkl : k < a.length := by simpa using h2
    have hb : a[k]? = some a[k] := by simp
    have hw := wrap_succ (k := k) (by omega)
    (simp (config := { maxSteps := 1000000 }) [h2, hb, Pair.row])
    (refine AWcall_det (ref11_Has_calls A b a[k] (by omega)) (by rfl) (by rfl) ?_)
    (simp (config := { maxSteps := 1000000 }) [])
    ((first | refine AW_cond_split _ (by rfl) (fun h3 => ?_) (fun h3 => ?_) | refine AWop_split _ (by rfl) (fun h3 => ?_) (fun h3 => ?_)) <;> (try simp only [decide_eq_true_eq, decide_eq_false_iff_not, Bool.not_eq_true', Bool.not_eq_false', Bool.and_eq_true, Bool.or_eq_true, beq_iff_eq, bne_iff_ne, ne_eq, beq_eq_false_iff_ne, bne_eq_false_iff_eq] at h3))
    · (simp (config := { maxSteps := 1000000 }) [h3, hb, Pair.row])
      have := missP_at hkl hz (by simpa using h3)
      (first | exact hR _ _ (Fin_ret _ rfl rfl rfl) | exact hR _ _ (Fin_normal _ rfl rfl rfl) | exact hR _ _ (Fin_ret _ rfl rfl (by simp [AV.erase, AV.unview, missA, this, Pair.av]; done)) | exact hR _ _ (Fin_normal _ rfl rfl (by simp [AV.erase, AV.unview, missA, this, Pair.av]; done)) | fail "no end")
    · (simp (config := { maxSteps := 1000000 }) [h3, hw])
      refine hN _ (k + 1) ⟨hkl, ?_⟩ (by (refine Wk.of ?_ ?_ (by simp) <;> repeat' (first | exact True.intro | exact ⟨_, rfl, wkt_same rfl⟩ | exact ⟨_, rfl, wkt_erase rfl⟩ | exact ⟨_, rfl, .inl .nild⟩ | exact ⟨_, rfl, .inl .nile⟩ | exact ⟨_, rfl, wkt_nils⟩ | exact wkt_same rfl | exact wkt_erase rfl | exact .inl .nild | exact .inl .nile | exact wkt_nils | exact WkB.same rfl | exact WkB_rows | exact WkB_nil | exact .dead _ | refine WkB_cons ?_ ?_ | refine And.intro ?_ ?_))) (by omega)
      intro q hq
      rw [List.take_add_one, hb] at hq
      rcases List.mem_append.1 hq with hq | hq
      · exact hz q hq
      · simp at hq; subst hq; simpa using h3
  · have hk' : k = a.length := by simp at h2; omega
    subst hk'
    have := missP_none (a := a) (b := b) (by simpa using hz)
    (simp (config := { maxSteps := 1000000 }) [])
    (first | exact hR _ _ (Fin_ret _ rfl rfl rfl) | exact hR _ _ (Fin_normal _ rfl rfl rfl) | exact hR _ _ (Fin_ret _ rfl rfl (by simp [AV.erase, AV.unview, missA, this, Pair.av]; done)) | exact hR _ _ (Fin_normal _ rfl rfl (by simp [AV.erase, AV.unview, missA, this, Pair.av]; done)) | fail "no end")
theorem pairset_Less_calls {P : Program} {p : Nums} (A : All P p) (a b : Pair) : CallsTo P p.pairset_Less [a.av, b.av] [] fun o _ => o = .ret (AB (lessP a b)) := by
  refine A.pairset_Less.run rfl fun R hR => ?_
  (simp (config := { maxSteps := 1000000 }) [ic_pairset_Less, Pair.av])
  ((first | refine AW_cond_split _ (by rfl) (fun h => ?_) (fun h => ?_) | refine AWop_split _ (by rfl) (fun h => ?_) (fun h => ?_)) <;> (try simp only [decide_eq_true_eq, decide_eq_false_iff_not, Bool.not_eq_true', Bool.not_eq_false', Bool.and_eq_true, Bool.or_eq_true, beq_iff_eq, bne_iff_ne, ne_eq, beq_eq_false_iff_ne, bne_eq_false_iff_eq] at h))
  · (simp (config := { maxSteps := 1000000 }) [h])
    have e : lessP a b = true := by rw [lessP_iff]; omega
    (first | exact hR _ _ (Fin_ret _ rfl rfl rfl) | exact hR _ _ (Fin_normal _ rfl rfl rfl) | exact hR _ _ (Fin_ret _ rfl rfl (by simp [AV.erase, AV.unview, e]; done)) | exact hR _ _ (Fin_normal _ rfl rfl (by simp [AV.erase, AV.unview, e]; done)) | fail "no end")
  (simp (config := { maxSteps := 1000000 }) [h])
  ((first | refine AW_cond_split _ (by rfl) (fun h1 => ?_) (fun h1 => ?_) | refine AWop_split _ (by rfl) (fun h1 => ?_) (fun h1 => ?_)) <;> (try simp only [decide_eq_true_eq, decide_eq_false_iff_not, Bool.not_eq_true', Bool.not_eq_false', Bool.and_eq_true, Bool.or_eq_true, beq_iff_eq, bne_iff_ne, ne_eq, beq_eq_false_iff_ne, bne_eq_false_iff_eq] at h1))
  · (simp (config := { maxSteps := 1000000 }) [h1])
    (first | exact hR _ _ (Fin_ret _ rfl rfl rfl) | exact hR _ _ (Fin_normal _ rfl rfl rfl) | exact hR _ _ (Fin_ret _ rfl rfl (by simp [AV.erase, AV.unview, lessP, h1]; done)) | exact hR _ _ (Fin_normal _ rfl rfl (by simp [AV.erase, AV.unview, lessP, h1]; done)) | fail "no end")
  · (simp (config := { maxSteps := 1000000 }) [h1])
    have e : lessP a b = false := by
      cases e : lessP a b with
      | false => rfl
      | true => rw [lessP_iff] at e; omega
    (first | exact hR _ _ (Fin_ret _ rfl rfl rfl) | exact hR _ _ (Fin_normal _ rfl rfl rfl) | exact hR _ _ (Fin_ret _ rfl rfl (by simp [AV.erase, AV.unview, e]; done)) | exact hR _ _ (Fin_normal _ rfl rfl (by simp [AV.erase, AV.unview, e]; done)) | fail "no end")
theorem pairset_Sorted_calls {P : Program} {p : Nums} (A : All P p) (l : List Pair) (h0 : l.length < 1000000000) : CallsTo P p.pairset_Sorted [.d (pairsD l)] [] fun o _ => o = .ret (AB (sortedP l)) := by
  refine A.pairset_Sorted.run rfl fun R hR => ?_
  (simp (config := { maxSteps := 1000000 }) [ic_pairset_Sorted, pairsD])
  refine AW_loop (fun k : Nat => ⟨[(3, AI ((k + 1 : Nat) : Int)), (2, AB false), (0, .d (.sl (l.map Pair.row)))], []⟩) (fun k => k ≤ l.length ∧ ∀ j, j < k → (h : j + 1 < l.length) → lessP (l[j]) (l[j+1]) = true) (fun k => l.length - k) 0 (by simp) (by (refine Wk.of ?_ ?_ (by simp) <;> repeat' (first | exact True.intro | exact ⟨_, rfl, wkt_same rfl⟩ | exact ⟨_, rfl, wkt_erase rfl⟩ | exact ⟨_, rfl, .inl .nild⟩ | exact ⟨_, rfl, .inl .nile⟩ | exact ⟨_, rfl, wkt_nils⟩ | exact wkt_same rfl | exact wkt_erase rfl | exact .inl .nild | exact .inl .nile | exact wkt_nils | exact WkB.same rfl | exact WkB_rows | exact WkB_nil | exact .dead _ | refine WkB_cons ?_ ?_ | refine And.intro ?_ ?_))) ?_
  rintro k ⟨hk, hz⟩ N hN
  have hw := wrap_succ (k := k + 1) (by omega)
  have hw2 : IntKind.i64.wrap (((k + 1 : Nat) : Int) - 1) = (k : Int) := by rw [wrap_i64 (by omega) (by omega)]; omega
  have hw3 : IntKind.i64.wrap ((k : Int) + 1 + 1) = (k : Int) + 1 + 1 := by rw [wrap_i64 (by omega) (by omega)]
  obtain ⟨k1, hk1⟩ : ∃ k1, k1 = k + 1 := ⟨_, rfl⟩
  simp only [← hk1] at hw hw2 hN ⊢
  (simp (config := { maxSteps := 1000000 }) [])
  ((first | refine AW_cond_split _ (by rfl) (fun h2 => ?_) (fun h2 => ?_) | refine AWop_split _ (by rfl) (fun h2 => ?_) (fun h2 => ?_)) <;> (try simp only [decide_eq_true_eq, decide_eq_false_iff_not, Bool.not_eq_true', Bool.not_eq_false', Bool.and_eq_true, Bool.or_eq_true, beq_iff_eq, bne_iff_ne, ne_eq, beq_eq_false_iff_ne, bne_eq_false_iff_eq] at h2))
  · have hkl : k + 1 < l.length := by omega
    have hb : l[k]? = some l[k] := by simp
    have hb2 : l[k1]? = some l[k1] := by simp
    (simp (config := { maxSteps := 1000000 }) [h2, hb, hb2, Pair.row, hw2])
    (refine AWcall_det (pairset_Less_calls A l[k] l[k1]) (by rfl) (by rfl) ?_)
    (simp (config := { maxSteps := 1000000 }) [])
    subst hk1
    ((first | refine AW_cond_split _ (by rfl) (fun h3 => ?_) (fun h3 => ?_) | refine AWop_split _ (by rfl) (fun h3 => ?_) (fun h3 => ?_)) <;> (try simp only [decide_eq_true_eq, decide_eq_false_iff_not, Bool.not_eq_true', Bool.not_eq_false', Bool.and_eq_true, Bool.or_eq_true, beq_iff_eq, bne_iff_ne, ne_eq, beq_eq_false_iff_ne, bne_eq_false_iff_eq] at h3))
    · (simp (config := { maxSteps := 1000000 }) [h3])
      have : sortedP l = false := by
        cases hs : sortedP l with
        | false => rfl
        | true => rw [sortedP_iff.1 hs k hkl] at h3; cases h3
      (first | exact hR _ _ (Fin_ret _ rfl rfl rfl) | exact hR _ _ (Fin_normal _ rfl rfl rfl) | exact hR _ _ (Fin_ret _ rfl rfl (by simp [AV.erase, AV.unview, this]; done)) | exact hR _ _ (Fin_normal _ rfl rfl (by simp [AV.erase, AV.unview, this]; done)) | fail "no end")
    · (simp (config := { maxSteps := 1000000 }) [h3, hw3])
      refine hN _ (k + 1) ⟨by omega, ?_⟩ (by (refine Wk.of ?_ ?_ (by simp) <;> repeat' (first | exact True.intro | exact ⟨_, rfl, wkt_same rfl⟩ | exact ⟨_, rfl, wkt_erase rfl⟩ | exact ⟨_, rfl, .inl .nild⟩ | exact ⟨_, rfl, .inl .nile⟩ | exact ⟨_, rfl, wkt_nils⟩ | exact wkt_same rfl | exact wkt_erase rfl | exact .inl .nild | exact .inl .nile | exact wkt_nils | exact WkB.same rfl | exact WkB_rows | exact WkB_nil | exact .dead _ | refine WkB_cons ?_ ?_ | refine And.intro ?_ ?_))) (by omega)
      intro j hj h
      by_cases hjk : j = k
      · subst hjk; simpa using h3
      · exact hz j (by omega) h
  · (simp (config := { maxSteps := 1000000 }) [h2])
    have : sortedP l = true := by
      rw [sortedP_iff]
      intro j h; exact hz j (by omega) h
    (first | exact hR _ _ (Fin_ret _ rfl rfl rfl) | exact hR _ _ (Fin_normal _ rfl rfl rfl) | exact hR _ _ (Fin_ret _ rfl rfl (by simp [AV.erase, AV.unview, this]; done)) | exact hR _ _ (Fin_normal _ rfl rfl (by simp [AV.erase, AV.unview, this]; done)) | fail "no end")
end
end Go.AE

/- Sets of pairs: find, Has, Add, compare. -/
set_option linter.unusedVariables false
namespace Go.AE
open Go
theorem takeWhile_take {α : Type} (f : α → Bool) (l : List α) : l.takeWhile f = l.take (l.takeWhile f).length := by
  have e := List.takeWhile_append_dropWhile (p := f) (l := l)
  have := congrArg (List.take (l.takeWhile f).length) e
  rw [List.take_left'] at this
  · exact this
  · rfl
theorem dropWhile_drop {α : Type} (f : α → Bool) (l : List α) : l.dropWhile f = l.drop (l.takeWhile f).length := by
  have e := List.takeWhile_append_dropWhile (p := f) (l := l)
  have := congrArg (List.drop (l.takeWhile f).length) e
  rw [List.drop_left'] at this
  · exact this
  · rfl
theorem takeWhile_len {α : Type} (f : α → Bool) (l : List α) (i : Nat) (hi : i ≤ l.length) (h1 : ∀ j, j < i → (h : j < l.length) → f l[j] = true) (h2 : (h : i < l.length) → f l[i] = false) : (l.takeWhile f).length = i := by
  induction l generalizing i with
  | nil => simp at hi; simp [hi]
  | cons x l ih =>
    cases i with
    | zero => have := h2 (by simp); simp at this; simp [List.takeWhile_cons, this]
    | succ i =>
      have h0 := h1 0 (by omega) (by simp)
      simp at h0
      rw [List.takeWhile_cons, h0, if_pos rfl, List.length_cons]
      have := ih i (by simpa using hi) (fun j hj h => by have := h1 (j + 1) (by omega) (by simpa using h); simpa using this) (fun h => by have := h2 (by simpa using h); simpa using this)
      rw [this]
theorem posP_le (l : List Pair) (p : Pair) : posP l p ≤ l.length := (List.takeWhile_sublist _).length_le
theorem posP_lt {l : List Pair} {p : Pair} {j : Nat} (h : j < posP l p) (hl : j < l.length) : lessP l[j] p = true := by
  have h1 : (l.takeWhile fun q => lessP q p)[j]? = some l[j] := by
    rw [takeWhile_take, List.getElem?_take]; simp only [posP] at h; simp [h]
  exact take_lt _ (List.mem_of_getElem? h1)
theorem posP_ge {l : List Pair} {p : Pair} (hs : Srt l) {j : Nat} (h : posP l p ≤ j) (hl : j < l.length) : lessP l[j] p = false := by
  refine drop_ge hs _ ?_
  rw [dropWhile_drop]
  have : (l.drop (posP l p))[j - posP l p]? = some l[j] := by rw [List.getElem?_drop]; simp [Nat.add_sub_cancel' h]
  exact List.mem_of_getElem? this
theorem mem_pos {l : List Pair} {p : Pair} (hs : Srt l) : p ∈ l ↔ l[posP l p]? = some p := by
  constructor
  · intro h
    obtain ⟨j, hj, e⟩ := List.getElem_of_mem h
    have h1 : posP l p ≤ j := by
      rcases Nat.lt_or_ge j (posP l p) with h2 | h2
      · have := posP_lt h2 hj; rw [e, lessP_irrefl] at this; cases this
      · exact h2
    have h2 : j ≤ posP l p := by
      rcases Nat.lt_or_ge (posP l p) j with h2 | h2
      · have h3 := srt_get hs h2 hj
        rw [e, posP_ge hs (Nat.le_refl _) (by omega)] at h3; cases h3
      · exact h2
    have : posP l p = j := by omega
    rw [this, List.getElem?_eq_getElem hj, e]
  · exact List.mem_of_getElem?
theorem filter_ne {l : List Pair} {p : Pair} (h : p ∉ l) : l.filter (fun q => decide (q ≠ p)) = l := by
  rw [List.filter_eq_self]; intro a ha; simp; rintro rfl; exact h ha
theorem addP_take {l : List Pair} {p : Pair} (hs : Srt l) : addP l p = l.take (posP l p) ++ p :: l.drop (if p ∈ l then posP l p + 1 else posP l p) := by
  rw [addP_ins, insP, takeWhile_take, dropWhile_drop]
  show l.take (posP l p) ++ p :: (l.drop (posP l p)).filter _ = _
  congr 2
  split
  · rename_i h
    have hp := (mem_pos hs).1 h
    have hlt := (List.getElem?_eq_some_iff.1 hp).1
    have he := (List.getElem?_eq_some_iff.1 hp).2
    have hs' : Srt (l.drop (posP l p)) := srt_sub (List.drop_sublist _ _) hs
    rw [List.drop_eq_getElem_cons hlt, he] at hs' ⊢
    rw [List.filter_cons_of_neg (by simp)]
    refine filter_ne fun hm => ?_
    have := (srt_cons.1 hs').1 p hm
    rw [lessP_irrefl] at this; cases this
  · rename_i h
    exact filter_ne fun hm => h (List.drop_subset _ _ hm)
section
theorem pairset_find_calls {P : Program} {p : Nums} (A : All P p) (l : List Pair) (q : Pair) (h0 : l.length < 1000000000) (hs : Srt l) : CallsTo P p.pairset_find [.d (pairsD l), q.av] [] fun o _ => o = .ret (AI (posP l q)) := by
  refine A.pairset_find.run rfl fun R hR => ?_
  (simp (config := { maxSteps := 1000000 }) [ic_pairset_find, pairsD, Pair.av])
  refine AW_loop (fun k : Nat × Nat => ⟨[(5, AI k.1), (6, AI k.2), (4, AI 0), (3, .ptr 0 0), (0, .d (.sl (l.map Pair.row)))], [.mem [AI q.v, AI q.l]]⟩)
    (fun k => k.1 ≤ k.2 ∧ k.2 ≤ l.length ∧ (∀ j, j < k.1 → (h : j < l.length) → lessP l[j] q = true) ∧ ∀ j, k.2 ≤ j → (h : j < l.length) → lessP l[j] q = false) (fun k => k.2 - k.1) (0, l.length) (by simp; intro j h1 h2; omega) (by (refine Wk.of ?_ ?_ (by simp) <;> repeat' (first | exact True.intro | exact ⟨_, rfl, wkt_same rfl⟩ | exact ⟨_, rfl, wkt_erase rfl⟩ | exact ⟨_, rfl, .inl .nild⟩ | exact ⟨_, rfl, .inl .nile⟩ | exact ⟨_, rfl, wkt_nils⟩ | exact wkt_same rfl | exact wkt_erase rfl | exact .inl .nild | exact .inl .nile | exact wkt_nils | exact WkB.same rfl | exact WkB_rows | exact WkB_nil | exact .dead _ | refine WkB_cons ?_ ?_ | refine And.intro ?_ ?_))) ?_
  rintro ⟨a, b⟩ ⟨hab, hb, hlo, hhi⟩ N hN
  simp only at hab hb hlo hhi hN ⊢
  (simp (config := { maxSteps := 1000000 }) [])
  ((first | refine AW_cond_split _ (by rfl) (fun h2 => ?_) (fun h2 => ?_) | refine AWop_split _ (by rfl) (fun h2 => ?_) (fun h2 => ?_)) <;> (try simp only [decide_eq_true_eq, decide_eq_false_iff_not, Bool.not_eq_true', Bool.not_eq_false', Bool.and_eq_true, Bool.or_eq_true, beq_iff_eq, bne_iff_ne, ne_eq, beq_eq_false_iff_ne, bne_eq_false_iff_eq] at h2))
  · have hm : a + (b - a) / 2 < l.length := by omega
    have hma : a ≤ a + (b - a) / 2 := by omega
    have hmb : a + (b - a) / 2 < b := by omega
    have hw1 : IntKind.i64.wrap ((b : Int) - (a : Int)) = ((b - a : Nat) : Int) := by rw [wrap_i64 (by omega) (by omega)]; omega
    have hw2 : IntKind.i64.wrap (((b - a : Nat) : Int) / 2) = (((b - a) / 2 : Nat) : Int) := by rw [wrap_i64 (by omega) (by omega)]; omega
    have hw3 : IntKind.i64.wrap ((a : Int) + (((b - a) / 2 : Nat) : Int)) = ((a + (b - a) / 2 : Nat) : Int) := by rw [wrap_i64 (by omega) (by omega)]; omega
    obtain ⟨d, hd⟩ : ∃ d, d = b - a := ⟨_, rfl⟩
    obtain ⟨d2, hd2⟩ : ∃ d2, d2 = d / 2 := ⟨_, rfl⟩
    obtain ⟨m, hmm⟩ : ∃ m, m = a + d2 := ⟨_, rfl⟩
    have hw := wrap_succ (k := m) (by omega)
    simp only [← hd, ← hd2, ← hmm] at hm hma hmb hw1 hw2 hw3
    have hbm : l[m]? = some l[m] := by simp
    (simp (config := { maxSteps := 1000000 }) [h2, hw1])
    (simp (config := { maxSteps := 1000000 }) [hw2])
    (simp (config := { maxSteps := 1000000 }) [hw3, hbm, Pair.row])
    (refine AWcall_det (pairset_Less_calls A l[m] q) (by rfl) (by rfl) ?_)
    (simp (config := { maxSteps := 1000000 }) [])
    ((first | refine AW_cond_split _ (by rfl) (fun h3 => ?_) (fun h3 => ?_) | refine AWop_split _ (by rfl) (fun h3 => ?_) (fun h3 => ?_)) <;> (try simp only [decide_eq_true_eq, decide_eq_false_iff_not, Bool.not_eq_true', Bool.not_eq_false', Bool.and_eq_true, Bool.or_eq_true, beq_iff_eq, bne_iff_ne, ne_eq, beq_eq_false_iff_ne, bne_eq_false_iff_eq] at h3))
    · (simp (config := { maxSteps := 1000000 }) [h3, hw])
      refine hN _ (m + 1, b) ⟨by simp only; omega, hb, ?_, hhi⟩ (by (refine Wk.of ?_ ?_ (by simp) <;> repeat' (first | exact True.intro | exact ⟨_, rfl, wkt_same rfl⟩ | exact ⟨_, rfl, wkt_erase rfl⟩ | exact ⟨_, rfl, .inl .nild⟩ | exact ⟨_, rfl, .inl .nile⟩ | exact ⟨_, rfl, wkt_nils⟩ | exact wkt_same rfl | exact wkt_erase rfl | exact .inl .nild | exact .inl .nile | exact wkt_nils | exact WkB.same rfl | exact WkB_rows | exact WkB_nil | exact .dead _ | refine WkB_cons ?_ ?_ | refine And.intro ?_ ?_))) (by simp only; omega)
      intro j hj h
      simp only at hj
      by_cases e : j = m
      · subst e; exact h3
      · exact lessP_trans (srt_get hs (by omega : j < m) hm) h3
    · (simp (config := { maxSteps := 1000000 }) [h3])
      refine hN _ (a, m) ⟨by simp only; omega, by simp only; omega, hlo, ?_⟩ (by (refine Wk.of ?_ ?_ (by simp) <;> repeat' (first | exact True.intro | exact ⟨_, rfl, wkt_same rfl⟩ | exact ⟨_, rfl, wkt_erase rfl⟩ | exact ⟨_, rfl, .inl .nild⟩ | exact ⟨_, rfl, .inl .nile⟩ | exact ⟨_, rfl, wkt_nils⟩ | exact wkt_same rfl | exact wkt_erase rfl | exact .inl .nild | exact .inl .nile | exact wkt_nils | exact WkB.same rfl | exact WkB_rows | exact WkB_nil | exact .dead _ | refine WkB_cons ?_ ?_ | refine And.intro ?_ ?_))) (by simp only; omega)
      intro j hj h
      simp only at hj
      cases e : lessP l[j] q with
      | false => rfl
      | true =>
        by_cases e2 : j = m
        · subst e2; rw [e] at h3; simp at h3
        · rw [lessP_trans (srt_get hs (by omega : m < j) h) e] at h3; simp at h3
  · have e : a = b := by omega
    subst e
    have : posP l q = a := takeWhile_len _ l a hb hlo fun h => hhi a (by omega) h
    (simp (config := { maxSteps := 1000000 }) [])
    (first | exact hR _ _ (Fin_ret _ rfl rfl rfl) | exact hR _ _ (Fin_normal _ rfl rfl rfl) | exact hR _ _ (Fin_ret _ rfl rfl (by simp [AV.erase, AV.unview, this]; done)) | exact hR _ _ (Fin_normal _ rfl rfl (by simp [AV.erase, AV.unview, this]; done)) | fail "no end")
theorem pairset_Has_calls {P : Program} {p : Nums} (A : All P p) (l : List Pair) (q : Pair) (h0 : l.length < 1000000000) (hs : Srt l) : CallsTo P p.pairset_Has [.d (pairsD l), q.av] [] fun o _ => o = .ret (AB (decide (q ∈ l))) := by
  refine A.pairset_Has.run rfl fun R hR => ?_
  (simp (config := { maxSteps := 1000000 }) [ic_pairset_Has, pairsD, Pair.av])
  (refine AWcall_det (pairset_find_calls A l q h0 hs) (by rfl) (by rfl) ?_)
  (simp (config := { maxSteps := 1000000 }) [])
  have hp := mem_pos (p := q) hs
  have hle := posP_le l q
  obtain ⟨i, hi⟩ : ∃ i, i = posP l q := ⟨_, rfl⟩
  rw [← hi] at hp hle ⊢
  ((first | refine AW_cond_split _ (by rfl) (fun h1 => ?_) (fun h1 => ?_) | refine AWop_split _ (by rfl) (fun h1 => ?_) (fun h1 => ?_)) <;> (try simp only [decide_eq_true_eq, decide_eq_false_iff_not, Bool.not_eq_true', Bool.not_eq_false', Bool.and_eq_true, Bool.or_eq_true, beq_iff_eq, bne_iff_ne, ne_eq, beq_eq_false_iff_ne, bne_eq_false_iff_eq] at h1))
  · have hil : i < l.length := by omega
    have hb : l[i]? = some l[i] := by simp
    rw [hb] at hp
    (simp (config := { maxSteps := 1000000 }) [h1, hb, Pair.row])
    have e : (l[i].v == q.v && l[i].l == q.l) = decide (q ∈ l) := by
      rw [pair_beq]; simp only [Option.some.injEq] at hp; simp [hp]
    (first | exact hR _ _ (Fin_ret _ rfl rfl rfl) | exact hR _ _ (Fin_normal _ rfl rfl rfl) | exact hR _ _ (Fin_ret _ rfl rfl (by simp [AV.erase, AV.unview, e, Pair.row]; done)) | exact hR _ _ (Fin_normal _ rfl rfl (by simp [AV.erase, AV.unview, e, Pair.row]; done)) | fail "no end")
  · (simp (config := { maxSteps := 1000000 }) [h1])
    have hb : l[i]? = none := by simp; omega
    rw [hb] at hp
    have e : q ∉ l := by simpa using hp
    (first | exact hR _ _ (Fin_ret _ rfl rfl rfl) | exact hR _ _ (Fin_normal _ rfl rfl rfl) | exact hR _ _ (Fin_ret _ rfl rfl (by simp [AV.erase, AV.unview, e]; done)) | exact hR _ _ (Fin_normal _ rfl rfl (by simp [AV.erase, AV.unview, e]; done)) | fail "no end")
theorem pairset_compare_calls {P : Program} {p : Nums} (A : All P p) (a b : Pair) : CallsTo P p.pairset_compare [a.av, b.av] [] fun o _ => o = .ret (AI (if lessP a b = true then -1 else if lessP b a = true then 1 else 0)) := by
  refine A.pairset_compare.run rfl fun R hR => ?_
  (simp (config := { maxSteps := 1000000 }) [ic_pairset_compare, Pair.av])
  (refine AWcall_det (pairset_Less_calls A a b) (by rfl) (by rfl) ?_)
  (simp (config := { maxSteps := 1000000 }) [])
  ((first | refine AW_cond_split _ (by rfl) (fun h => ?_) (fun h => ?_) | refine AWop_split _ (by rfl) (fun h => ?_) (fun h => ?_)) <;> (try simp only [decide_eq_true_eq, decide_eq_false_iff_not, Bool.not_eq_true', Bool.not_eq_false', Bool.and_eq_true, Bool.or_eq_true, beq_iff_eq, bne_iff_ne, ne_eq, beq_eq_false_iff_ne, bne_eq_false_iff_eq] at h))
  · (simp (config := { maxSteps := 1000000 }) [h])
    (first | exact hR _ _ (Fin_ret _ rfl rfl rfl) | exact hR _ _ (Fin_normal _ rfl rfl rfl) | exact hR _ _ (Fin_ret _ rfl rfl (by simp [AV.erase, AV.unview, h]; done)) | exact hR _ _ (Fin_normal _ rfl rfl (by simp [AV.erase, AV.unview, h]; done)) | fail "no end")
  (simp (config := { maxSteps := 1000000 }) [h])
  (refine AWcall_det (pairset_Less_calls A b a) (by rfl) (by rfl) ?_)
  (simp (config := { maxSteps := 1000000 }) [])
  ((first | refine AW_cond_split _ (by rfl) (fun h2 => ?_) (fun h2 => ?_) | refine AWop_split _ (by rfl) (fun h2 => ?_) (fun h2 => ?_)) <;> (try simp only [decide_eq_true_eq, decide_eq_false_iff_not, Bool.not_eq_true', Bool.not_eq_false', Bool.and_eq_true, Bool.or_eq_true, beq_iff_eq, bne_iff_ne, ne_eq, beq_eq_false_iff_ne, bne_eq_false_iff_eq] at h2))
  · (simp (config := { maxSteps := 1000000 }) [h2])
    (first | exact hR _ _ (Fin_ret _ rfl rfl rfl) | exact hR _ _ (Fin_normal _ rfl rfl rfl) | exact hR _ _ (Fin_ret _ rfl rfl (by simp [AV.erase, AV.unview, h, h2]; done)) | exact hR _ _ (Fin_normal _ rfl rfl (by simp [AV.erase, AV.unview, h, h2]; done)) | fail "no end")
  · (simp (config := { maxSteps := 1000000 }) [h2])
    (first | exact hR _ _ (Fin_ret _ rfl rfl rfl) | exact hR _ _ (Fin_normal _ rfl rfl rfl) | exact hR _ _ (Fin_ret _ rfl rfl (by simp [AV.erase, AV.unview, h, h2]; done)) | exact hR _ _ (Fin_normal _ rfl rfl (by simp [AV.erase, AV.unview, h, h2]; done)) | fail "no end")
end
end Go.AE

/- Sets of pairs: Add. -/
set_option linter.unusedVariables false
namespace Go.AE
open Go
section
theorem pairset_Add_own {P : Program} {p : Nums} (A : All P p) (l : List Pair) (q : Pair) (h0 : l.length < 1000000) (hs : Srt l) : CallsTo P p.pairset_Add [.d (pairsD l), q.av] [] fun o H' => o = .ret (.own 2 ((addP l q).map Pair.row)) ∧ H' = [] := by
  refine A.pairset_Add.run rfl fun R hR => ?_
  (simp (config := { maxSteps := 1000000 }) [ic_pairset_Add, pairsD, Pair.av])
  (refine AWcall_det (pairset_find_calls A l q (by omega) hs) (by rfl) (by rfl) ?_)
  have hw := wrap_succ (k := l.length) (by omega)
  have hp := mem_pos (p := q) hs
  have hle := posP_le l q
  have hadd := addP_take (p := q) hs
  obtain ⟨i, hi⟩ : ∃ i, i = posP l q := ⟨_, rfl⟩
  rw [← hi] at hp hle hadd ⊢
  (simp (config := { maxSteps := 1000000 }) [hw])
  refine AWio_mks0 (n := l.length + 1) (by rfl) (by rfl) (by omega) (by omega) (by decide) (by rfl) ?_
  (simp (config := { maxSteps := 1000000 }) [hle, Pair.row])
  have hrow : ∀ m : List (List D), (∀ r ∈ m, r ∈ l.map Pair.row) → ∀ r ∈ m, r.length = 2 := fun m hm r hr => rows_len (f := Pair.row) (fun _ => rfl) r (hm r hr)
  refine ⟨hrow _ fun r hr => List.take_subset _ _ hr, by omega, by omega, ?_⟩
  (refine AWio_app_own (by rfl) (by rfl) (by rfl) ?_ (by decide) ?_ ?_ ?_)
  · simp
  · simp; omega
  · simp; omega
  (simp (config := { maxSteps := 1000000 }) [])
  have hln : (l.map Pair.row).length = l.length := by simp
  have fin : ∀ j, addP l q = l.take i ++ q :: l.drop j → (List.take i (l.map Pair.row) ++ [[D.int IntKind.i64 q.v, D.int IntKind.i64 q.l]]) ++ List.drop j (List.take l.length (l.map Pair.row)) = (addP l q).map Pair.row := by
    intro j hj
    rw [hj, List.take_of_length_le (i := l.length) (l := l.map Pair.row) (by simp)]
    simp [Pair.row]
  ((first | refine AW_cond_split _ (by rfl) (fun h1 => ?_) (fun h1 => ?_) | refine AWop_split _ (by rfl) (fun h1 => ?_) (fun h1 => ?_)) <;> (try simp only [decide_eq_true_eq, decide_eq_false_iff_not, Bool.not_eq_true', Bool.not_eq_false', Bool.and_eq_true, Bool.or_eq_true, beq_iff_eq, bne_iff_ne, ne_eq, beq_eq_false_iff_ne, bne_eq_false_iff_eq] at h1))
  · have hil : i < l.length := by omega
    have hb : l[i]? = some l[i] := by simp
    rw [hb, Option.some.injEq] at hp
    (simp (config := { maxSteps := 1000000 }) [h1, hb, Pair.row])
    ((first | refine AW_cond_split _ (by rfl) (fun h2 => ?_) (fun h2 => ?_) | refine AWop_split _ (by rfl) (fun h2 => ?_) (fun h2 => ?_)) <;> (try simp only [decide_eq_true_eq, decide_eq_false_iff_not, Bool.not_eq_true', Bool.not_eq_false', Bool.and_eq_true, Bool.or_eq_true, beq_iff_eq, bne_iff_ne, ne_eq, beq_eq_false_iff_ne, bne_eq_false_iff_eq] at h2))
    · have e : l[i] = q := eq_pair h2.1 h2.2
      have hm := hp.2 e
      rw [if_pos hm] at hadd
      have hw2 := wrap_succ (k := i) (by omega)
      obtain ⟨i1, hi1⟩ : ∃ i1, i1 = i + 1 := ⟨_, rfl⟩
      rw [← hi1] at hw2 hadd
      have hle1 : i1 ≤ l.length := by omega
      (simp (config := { maxSteps := 1000000 }) [hw2, h2])
      (simp (config := { maxSteps := 1000000 }) [hle1, Pair.row])
      (refine AWio_app_own (by rfl) (by rfl) (by rfl) ?_ (by decide) ?_ ?_ ?_)
      · exact hrow _ fun r hr => List.take_subset _ _ (List.drop_subset _ _ hr)
      · simp; omega
      · simp; omega
      rw [fin i1 hadd]
      (simp (config := { maxSteps := 1000000 }) [])
      exact hR _ _ (Fin_own _ _ rfl ⟨rfl, rfl⟩)
    · have hm : q ∉ l := by
        intro hm; have := hp.1 hm
        rw [this] at h2; simp at h2
      rw [if_neg hm] at hadd
      (simp (config := { maxSteps := 1000000 }) [h2, hle, Pair.row])
      (refine AWio_app_own (by rfl) (by rfl) (by rfl) ?_ (by decide) ?_ ?_ ?_)
      · exact hrow _ fun r hr => List.take_subset _ _ (List.drop_subset _ _ hr)
      · simp; omega
      · simp; omega
      rw [fin i hadd]
      (simp (config := { maxSteps := 1000000 }) [])
      exact hR _ _ (Fin_own _ _ rfl ⟨rfl, rfl⟩)
  · have hm : q ∉ l := by
      intro hm; have := hp.1 hm
      rw [List.getElem?_eq_none (by omega)] at this; cases this
    rw [if_neg hm] at hadd
    (simp (config := { maxSteps := 1000000 }) [h1, hle, Pair.row])
    (refine AWio_app_own (by rfl) (by rfl) (by rfl) ?_ (by decide) ?_ ?_ ?_)
    · exact hrow _ fun r hr => List.take_subset _ _ (List.drop_subset _ _ hr)
    · simp; omega
    · simp; omega
    rw [fin i hadd]
    (simp (config := { maxSteps := 1000000 }) [])
    exact hR _ _ (Fin_own _ _ rfl ⟨rfl, rfl⟩)
theorem pairset_Add_calls {P : Program} {p : Nums} (A : All P p) (l : List Pair) (q : Pair) (h0 : l.length < 1000000) (hs : Srt l) : CallsTo P p.pairset_Add [.d (pairsD l), q.av] [] fun o _ => o = .ret (.d (pairsD (addP l q))) :=
  (pairset_Add_own A l q h0 hs).unown.mono fun _ _ h => h.1
end
end Go.AE

/- Sets of pairs: Missing, Subset. -/
set_option linter.unusedVariables false
namespace Go.AE
open Go
def subP (a b : List Pair) : Bool := decide (∀ q ∈ a, q ∈ b)
theorem missP_subP (a b : List Pair) : (missP a b).isNone = subP a b := by
  have := missP_sub (a := a) (b := b)
  unfold subP
  cases h : missP a b with
  | none => rw [h] at this; rw [decide_eq_true (this.1 rfl)]; rfl
  | some x =>
    have h3 : ¬ ∀ q ∈ a, q ∈ b := fun h2 => by have := this.2 h2; rw [h] at this; cases this
    rw [decide_eq_false h3]; rfl
section
theorem pairset_Missing_calls {P : Program} {p : Nums} (A : All P p) (a b : List Pair) (h0 : a.length < 1000000) (h1 : b.length < 1000000) (ha : Srt a) (hb : Srt b) : CallsTo P p.pairset_Missing [.d (pairsD a), .d (pairsD b)] [] fun o _ => o = .ret (missA a b) := by
  refine A.pairset_Missing.run rfl fun R hR => ?_
  (simp (config := { maxSteps := 1000000 }) [ic_pairset_Missing, pairsD])
  refine AW_loop (fun k : Nat × Nat => ⟨[(11, AI k.1), (10, AI a.length), (9, .d (.sl (a.map Pair.row))), (6, AI k.2), (5, AB false), (4, .ptr 0 0), (1, .d (.sl (b.map Pair.row)))], [.mem [AI 0, AI 0]]⟩)
    (fun k => k.1 ≤ a.length ∧ k.2 ≤ b.length ∧ (∀ q ∈ a.take k.1, q ∈ b) ∧ ∀ j k', j < k.2 → k.1 ≤ k' → (h : j < b.length) → (h' : k' < a.length) → lessP b[j] a[k'] = true) (fun k => a.length - k.1) (0, 0) (by simp) (by (refine Wk.of ?_ ?_ (by simp) <;> repeat' (first | exact True.intro | exact ⟨_, rfl, wkt_same rfl⟩ | exact ⟨_, rfl, wkt_erase rfl⟩ | exact ⟨_, rfl, .inl .nild⟩ | exact ⟨_, rfl, .inl .nile⟩ | exact ⟨_, rfl, wkt_nils⟩ | exact wkt_same rfl | exact wkt_erase rfl | exact .inl .nild | exact .inl .nile | exact wkt_nils | exact WkB.same rfl | exact WkB_rows | exact WkB_nil | exact .dead _ | refine WkB_cons ?_ ?_ | refine And.intro ?_ ?_))) ?_
  rintro ⟨k, i⟩ ⟨hk, hi, hz, hj⟩ N hN
  simp only at hk hi hz hj hN ⊢
  (simp (config := { maxSteps := 1000000 }) [])
  ((first | refine AW_cond_split _ (by rfl) (fun h2 => ?_) (fun h2 => ?_) | refine AWop_split _ (by rfl) (fun h2 => ?_) (fun h2 => ?_)) <;> (try simp only [decide_eq_true_eq, decide_eq_false_iff_not, Bool.not_eq_true', Bool.not_eq_false', Bool.and_eq_true, Bool.or_eq_true, beq_iff_eq, bne_iff_ne, ne_eq, beq_eq_false_iff_ne, bne_eq_false_iff_eq] at h2))
  · have hkl : k < a.length := by omega
    have hbk : a[k]? = some a[k] := by simp
    have hw := wrap_succ (k := k) (by omega)
    (simp (config := { maxSteps := 1000000 }) [h2, hbk, Pair.row])
    refine AW_loop (fun i : Nat => ⟨[(8, .ptr 1 0), (11, AI k), (10, AI a.length), (9, .d (.sl (a.map Pair.row))), (6, AI i), (5, AB false), (4, .ptr 0 0), (1, .d (.sl (b.map Pair.row)))], [.mem [AI 0, AI 0], .mem [AI a[k].v, AI a[k].l]]⟩)
      (fun i => i ≤ b.length ∧ ∀ j k', j < i → k ≤ k' → (h : j < b.length) → (h' : k' < a.length) → lessP b[j] a[k'] = true) (fun i => b.length - i) i ⟨hi, hj⟩ (by (refine Wk.of ?_ ?_ (by simp) <;> repeat' (first | exact True.intro | exact ⟨_, rfl, wkt_same rfl⟩ | exact ⟨_, rfl, wkt_erase rfl⟩ | exact ⟨_, rfl, .inl .nild⟩ | exact ⟨_, rfl, .inl .nile⟩ | exact ⟨_, rfl, wkt_nils⟩ | exact wkt_same rfl | exact wkt_erase rfl | exact .inl .nild | exact .inl .nile | exact wkt_nils | exact WkB.same rfl | exact WkB_rows | exact WkB_nil | exact .dead _ | refine WkB_cons ?_ ?_ | refine And.intro ?_ ?_))) ?_
    rintro i ⟨hi, hj⟩ N2 hN2
    have stop : (i = b.length ∨ ∃ h : i < b.length, lessP b[i] a[k] = false ∧ b[i] ≠ a[k]) → a[k] ∉ b := by
      intro hc hm
      obtain ⟨j, hjl, e⟩ := List.getElem_of_mem hm
      have h3 : i ≤ j := by
        rcases Nat.lt_or_ge j i with h | h
        · have := hj j k h (Nat.le_refl _) hjl hkl
          rw [e, lessP_irrefl] at this; cases this
        · exact h
      rcases hc with hc | ⟨h, h4, h5⟩
      · omega
      · rcases Nat.lt_or_eq_of_le h3 with h3 | h3
        · have := srt_get hb h3 hjl
          rw [e, h4] at this; cases this
        · subst h3; exact h5 e
    have go : ∀ (h : i < b.length), b[i] = a[k] → (∀ q ∈ a.take (k + 1), q ∈ b) ∧ ∀ j k', j < i → k + 1 ≤ k' → (h : j < b.length) → (h' : k' < a.length) → lessP b[j] a[k'] = true := by
      intro h e
      refine ⟨?_, fun j k' h1 h2 h3 h4 => hj j k' h1 (by omega) h3 h4⟩
      intro q hq
      rw [List.take_add_one, hbk] at hq
      rcases List.mem_append.1 hq with hq | hq
      · exact hz q hq
      · simp at hq; subst hq; rw [← e]; exact List.getElem_mem _
    (simp (config := { maxSteps := 1000000 }) [])
    ((first | refine AW_cond_split _ (by rfl) (fun h3 => ?_) (fun h3 => ?_) | refine AWop_split _ (by rfl) (fun h3 => ?_) (fun h3 => ?_)) <;> (try simp only [decide_eq_true_eq, decide_eq_false_iff_not, Bool.not_eq_true', Bool.not_eq_false', Bool.and_eq_true, Bool.or_eq_true, beq_iff_eq, bne_iff_ne, ne_eq, beq_eq_false_iff_ne, bne_eq_false_iff_eq] at h3))
    · have hil : i < b.length := by omega
      have hbi : b[i]? = some b[i] := by simp
      (simp (config := { maxSteps := 1000000 }) [h3, hbi, Pair.row])
      (refine AWcall_det (pairset_Less_calls A b[i] a[k]) (by rfl) (by rfl) ?_)
      (simp (config := { maxSteps := 1000000 }) [])
      ((first | refine AW_cond_split _ (by rfl) (fun h4 => ?_) (fun h4 => ?_) | refine AWop_split _ (by rfl) (fun h4 => ?_) (fun h4 => ?_)) <;> (try simp only [decide_eq_true_eq, decide_eq_false_iff_not, Bool.not_eq_true', Bool.not_eq_false', Bool.and_eq_true, Bool.or_eq_true, beq_iff_eq, bne_iff_ne, ne_eq, beq_eq_false_iff_ne, bne_eq_false_iff_eq] at h4))
      · have hwi := wrap_succ (k := i) (by omega)
        (simp (config := { maxSteps := 1000000 }) [h4, hwi])
        refine hN2 _ (i + 1) ⟨hil, ?_⟩ (by (refine Wk.of ?_ ?_ (by simp) <;> repeat' (first | exact True.intro | exact ⟨_, rfl, wkt_same rfl⟩ | exact ⟨_, rfl, wkt_erase rfl⟩ | exact ⟨_, rfl, .inl .nild⟩ | exact ⟨_, rfl, .inl .nile⟩ | exact ⟨_, rfl, wkt_nils⟩ | exact wkt_same rfl | exact wkt_erase rfl | exact .inl .nild | exact .inl .nile | exact wkt_nils | exact WkB.same rfl | exact WkB_rows | exact WkB_nil | exact .dead _ | refine WkB_cons ?_ ?_ | refine And.intro ?_ ?_))) (by omega)
        intro j k' h5 h6 h7 h8
        by_cases e : j = i
        · subst e
          rcases Nat.lt_or_eq_of_le h6 with h6 | h6
          · refine lessP_trans (b := a[k]) h4 (srt_get ha h6 h8)
          · subst h6; exact h4
        · exact hj j k' (by omega) h6 h7 h8
      · have hne : ¬ ((i : Int) = (b.length : Int)) := by omega
        have h4' : lessP b[i] a[k] = false := by simpa using h4
        (simp (config := { maxSteps := 1000000 }) [h4', hne, hbi, Pair.row])
        ((first | refine AW_cond_split _ (by rfl) (fun h5 => ?_) (fun h5 => ?_) | refine AWop_split _ (by rfl) (fun h5 => ?_) (fun h5 => ?_)) <;> (try simp only [decide_eq_true_eq, decide_eq_false_iff_not, Bool.not_eq_true', Bool.not_eq_false', Bool.and_eq_true, Bool.or_eq_true, beq_iff_eq, bne_iff_ne, ne_eq, beq_eq_false_iff_ne, bne_eq_false_iff_eq] at h5))
        · have hx2 : a[k] ∉ b := stop (.inr ⟨hil, h4', fun e => by rw [e] at h5; simp at h5⟩)
          have := missP_at hkl hz hx2
          (simp (config := { maxSteps := 1000000 }) [h5])
          (first | exact hR _ _ (Fin_ret _ rfl rfl rfl) | exact hR _ _ (Fin_normal _ rfl rfl rfl) | exact hR _ _ (Fin_ret _ rfl rfl (by simp [AV.erase, AV.unview, missA, this, Pair.av]; done)) | exact hR _ _ (Fin_normal _ rfl rfl (by simp [AV.erase, AV.unview, missA, this, Pair.av]; done)) | fail "no end")
        · have e : b[i] = a[k] := eq_pair (by simp at h5; exact h5.1) (by simp at h5; exact h5.2)
          have := go hil e
          (simp (config := { maxSteps := 1000000 }) [h5, hw])
          exact hN _ (k + 1, i) ⟨hkl, hi, this.1, this.2⟩ (by simp only; (refine Wk.of ?_ ?_ (by simp) <;> repeat' (first | exact True.intro | exact ⟨_, rfl, wkt_same rfl⟩ | exact ⟨_, rfl, wkt_erase rfl⟩ | exact ⟨_, rfl, .inl .nild⟩ | exact ⟨_, rfl, .inl .nile⟩ | exact ⟨_, rfl, wkt_nils⟩ | exact wkt_same rfl | exact wkt_erase rfl | exact .inl .nild | exact .inl .nile | exact wkt_nils | exact WkB.same rfl | exact WkB_rows | exact WkB_nil | exact .dead _ | refine WkB_cons ?_ ?_ | refine And.intro ?_ ?_))) (by simp only; omega)
    · have e : i = b.length := by omega
      have hx2 : a[k] ∉ b := stop (.inl e)
      have := missP_at hkl hz hx2
      (simp (config := { maxSteps := 1000000 }) [h3, e])
      (first | exact hR _ _ (Fin_ret _ rfl rfl rfl) | exact hR _ _ (Fin_normal _ rfl rfl rfl) | exact hR _ _ (Fin_ret _ rfl rfl (by simp [AV.erase, AV.unview, missA, this, Pair.av]; done)) | exact hR _ _ (Fin_normal _ rfl rfl (by simp [AV.erase, AV.unview, missA, this, Pair.av]; done)) | fail "no end")
  · have hk' : k = a.length := by omega
    subst hk'
    have := missP_none (a := a) (b := b) (by simpa using hz)
    (simp (config := { maxSteps := 1000000 }) [])
    (first | exact hR _ _ (Fin_ret _ rfl rfl rfl) | exact hR _ _ (Fin_normal _ rfl rfl rfl) | exact hR _ _ (Fin_ret _ rfl rfl (by simp [AV.erase, AV.unview, missA, this, Pair.av]; done)) | exact hR _ _ (Fin_normal _ rfl rfl (by simp [AV.erase, AV.unview, missA, this, Pair.av]; done)) | fail "no end")
theorem pairset_Subset_calls {P : Program} {p : Nums} (A : All P p) (a b : List Pair) (h0 : a.length < 1000000) (h1 : b.length < 1000000) (ha : Srt a) (hb : Srt b) : CallsTo P p.pairset_Subset [.d (pairsD a), .d (pairsD b)] [] fun o _ => o = .ret (AB (subP a b)) := by
  refine A.pairset_Subset.run rfl fun R hR => ?_
  (simp (config := { maxSteps := 1000000 }) [ic_pairset_Subset, pairsD])
  (refine AWcall_det (pairset_Missing_calls A a b h0 h1 ha hb) (by rfl) (by rfl) ?_)
  (simp (config := { maxSteps := 1000000 }) [missA, Pair.av])
  have := missP_subP a b
  (first | exact hR _ _ (Fin_ret _ rfl rfl rfl) | exact hR _ _ (Fin_normal _ rfl rfl rfl) | exact hR _ _ (Fin_ret _ rfl rfl (by simp [AV.erase, AV.unview, this]; done)) | exact hR _ _ (Fin_normal _ rfl rfl (by simp [AV.erase, AV.unview, this]; done)) | fail "no end")
end
end Go.AE

/- Sets of pairs: Union. -/
set_option linter.unusedVariables false
namespace Go.AE
open Go
def mergeP : List Pair → List Pair → List Pair
  | [], b => b
  | x :: a, [] => x :: a
  | x :: a, y :: b => if lessP y x = true then y :: mergeP (x :: a) b else if y = x then x :: mergeP a b else x :: mergeP a (y :: b)
termination_by a b => a.length + b.length
theorem mergeP_nil (a : List Pair) : mergeP a [] = a := by cases a <;> simp [mergeP]
theorem mem_mergeP {a b : List Pair} {q : Pair} : q ∈ mergeP a b ↔ q ∈ a ∨ q ∈ b := by
  induction a, b using mergeP.induct with
  | case1 b => simp [mergeP]
  | case2 x a => simp [mergeP]
  | case3 x a y b h ih => rw [mergeP, if_pos h, List.mem_cons, ih]; simp only [List.mem_cons]; constructor <;> (intro h; rcases h with h | h | h <;> simp_all)
  | case4 a b x h ih => rw [mergeP, if_neg h, if_pos rfl, List.mem_cons, ih]; simp only [List.mem_cons]; constructor <;> grind
  | case5 x a y b h h2 ih => rw [mergeP, if_neg h, if_neg h2, List.mem_cons, ih]; simp only [List.mem_cons]; constructor <;> grind
theorem srt_mergeP {a b : List Pair} (ha : Srt a) (hb : Srt b) : Srt (mergeP a b) := by
  induction a, b using mergeP.induct with
  | case1 b => simpa [mergeP] using hb
  | case2 x a => simpa [mergeP] using ha
  | case3 x a y b h ih =>
    rw [mergeP, if_pos h]
    refine srt_cons.2 ⟨fun q hq => ?_, ih ha (srt_cons.1 hb).2⟩
    rw [mem_mergeP, List.mem_cons] at hq
    rcases hq with (rfl | hq) | hq
    · exact h
    · exact lessP_trans h ((srt_cons.1 ha).1 q hq)
    · exact (srt_cons.1 hb).1 q hq
  | case4 a b x h ih =>
    rw [mergeP, if_neg h, if_pos rfl]
    refine srt_cons.2 ⟨fun q hq => ?_, ih (srt_cons.1 ha).2 (srt_cons.1 hb).2⟩
    rw [mem_mergeP] at hq
    rcases hq with hq | hq
    · exact (srt_cons.1 ha).1 q hq
    · exact (srt_cons.1 hb).1 q hq
  | case5 x a y b h h2 ih =>
    rw [mergeP, if_neg h, if_neg h2]
    have hxy : lessP x y = true := by
      cases e : lessP x y with
      | true => rfl
      | false => exact absurd (lessP_total (by simpa using h) e) h2
    refine srt_cons.2 ⟨fun q hq => ?_, ih (srt_cons.1 ha).2 hb⟩
    rw [mem_mergeP, List.mem_cons] at hq
    rcases hq with hq | rfl | hq
    · exact (srt_cons.1 ha).1 q hq
    · exact hxy
    · exact lessP_trans hxy ((srt_cons.1 hb).1 q hq)
theorem mergeP_make {a b : List Pair} (ha : Srt a) (hb : Srt b) : mergeP a b = makeP (a ++ b) :=
  srt_ext (srt_mergeP ha hb) (srt_makeP _) fun q => by rw [mem_mergeP, mem_makeP, List.mem_append]
section
theorem pairset_Union_own {P : Program} {p : Nums} (A : All P p) (a b : List Pair) (h0 : a.length < 1000000) (h1 : b.length < 1000000) : CallsTo P p.pairset_Union [.d (pairsD a), .d (pairsD b)] [] fun o H' => o = .ret (.own 2 ((mergeP a b).map Pair.row)) ∧ H' = [] := by
  refine A.pairset_Union.run rfl fun R hR => ?_
  have hw : IntKind.i64.wrap ((a.length : Int) + (b.length : Int)) = ((a.length + b.length : Nat) : Int) := wrap_add (by omega)
  obtain ⟨n, hn⟩ : ∃ n, n = a.length + b.length := ⟨_, rfl⟩
  rw [← hn] at hw
  (simp (config := { maxSteps := 1000000 }) [ic_pairset_Union, pairsD, hw])
  refine AWio_mks0 (n := n) (by rfl) (by rfl) (by omega) (by omega) (by decide) (by rfl) ?_
  (simp (config := { maxSteps := 1000000 }) [])
  have hrow : ∀ l : List Pair, ∀ r ∈ l.map Pair.row, r.length = 2 := fun l => rows_len fun x => rfl
  refine AW_loop (fun s : List Pair × List Pair × List Pair => ⟨[(5, .own 2 (s.2.2.map Pair.row)), (4, .nils), (1, .d (.sl (s.2.1.map Pair.row))), (0, .d (.sl (s.1.map Pair.row)))], []⟩)
    (fun s => s.2.2 ++ mergeP s.1 s.2.1 = mergeP a b ∧ s.1.length + s.2.1.length + s.2.2.length ≤ n) (fun s => s.1.length + s.2.1.length) (a, b, []) ⟨by simp, by simp; omega⟩ (by simp only [List.map_nil]; (refine Wk.of ?_ ?_ (by simp) <;> repeat' (first | exact True.intro | exact ⟨_, rfl, wkt_same rfl⟩ | exact ⟨_, rfl, wkt_erase rfl⟩ | exact ⟨_, rfl, .inl .nild⟩ | exact ⟨_, rfl, .inl .nile⟩ | exact ⟨_, rfl, wkt_nils⟩ | exact wkt_same rfl | exact wkt_erase rfl | exact .inl .nild | exact .inl .nile | exact wkt_nils | exact WkB.same rfl | exact WkB_rows | exact WkB_nil | exact .dead _ | refine WkB_cons ?_ ?_ | refine And.intro ?_ ?_))) ?_
  rintro ⟨xs, ys, out⟩ ⟨hm, hlen⟩ N hN
  simp only at hm hlen hN ⊢
  have fin : xs = [] ∨ ys = [] → (out.map Pair.row ++ xs.map Pair.row) ++ ys.map Pair.row = (mergeP a b).map Pair.row := by
    intro h
    rw [← hm]
    rcases h with rfl | rfl
    · simp [mergeP]
    · simp [mergeP_nil]
  cases xs with
  | nil =>
    (simp (config := { maxSteps := 1000000 }) [])
    (refine AWio_app_own (by rfl) (by rfl) (by rfl) ?_ (by decide) ?_ ?_ ?_)
    · simp
    · simp; omega
    · simp; omega
    (simp (config := { maxSteps := 1000000 }) [])
    (refine AWio_app_own (by rfl) (by rfl) (by rfl) ?_ (by decide) ?_ ?_ ?_)
    · exact hrow _
    · simp at hlen ⊢; omega
    · simp at hlen ⊢; omega
    (simp (config := { maxSteps := 1000000 }) [])
    exact hR _ _ (Fin_own _ _ rfl ⟨by simp [← fin (.inl rfl)], rfl⟩)
  | cons x xs =>
    have hx0 : ¬ ((xs.length : Int) + 1 ≤ 0) := by omega
    have hx1 : (0 : Int) < (xs.length : Int) + 1 := by omega
    cases ys with
    | nil =>
      (simp (config := { maxSteps := 1000000 }) [hx1])
      (refine AWio_app_own (by rfl) (by rfl) (by rfl) ?_ (by decide) ?_ ?_ ?_)
      · simpa using hrow (x :: xs)
      · simp at hlen ⊢; omega
      · simp at hlen ⊢; omega
      (simp (config := { maxSteps := 1000000 }) [])
      (refine AWio_app_own (by rfl) (by rfl) (by rfl) ?_ (by decide) ?_ ?_ ?_)
      · simp
      · simp at hlen ⊢; omega
      · simp at hlen ⊢; omega
      (simp (config := { maxSteps := 1000000 }) [])
      have := fin (.inr rfl)
      simp only [List.map_cons, List.map_nil, List.append_nil] at this
      exact hR _ _ (Fin_own _ _ rfl ⟨by simp [← this], rfl⟩)
    | cons y ys =>
      have hy1 : (0 : Int) < (ys.length : Int) + 1 := by omega
      have hx2 : (1 : Int) ≤ (xs.length : Int) + 1 := by omega
      have hy2 : (1 : Int) ≤ (ys.length : Int) + 1 := by omega
      have htx : (xs.map Pair.row).take xs.length = xs.map Pair.row := List.take_of_length_le (by simp)
      have hty : (ys.map Pair.row).take ys.length = ys.map Pair.row := List.take_of_length_le (by simp)
      simp only [List.length_cons] at hlen
      rw [mergeP] at hm
      (simp (config := { maxSteps := 1000000 }) [hx1, hy1, Pair.row])
      (refine AWcall_det (pairset_Less_calls A y x) (by rfl) (by rfl) ?_)
      (simp (config := { maxSteps := 1000000 }) [])
      ((first | refine AW_cond_split _ (by rfl) (fun h2 => ?_) (fun h2 => ?_) | refine AWop_split _ (by rfl) (fun h2 => ?_) (fun h2 => ?_)) <;> (try simp only [decide_eq_true_eq, decide_eq_false_iff_not, Bool.not_eq_true', Bool.not_eq_false', Bool.and_eq_true, Bool.or_eq_true, beq_iff_eq, bne_iff_ne, ne_eq, beq_eq_false_iff_ne, bne_eq_false_iff_eq] at h2))
      · rw [if_pos h2] at hm
        have hne : ¬ x = y := fun h => lessP_ne h2 h.symm
        have hs1 : IntKind.i64.wrap 1 = 1 := by rw [wrap_i64 (by omega) (by omega)]
        (simp (config := { maxSteps := 1000000 }) [h2, Pair.row])
        (refine AWio_app_own (by rfl) (by rfl) (by rfl) ?_ (by decide) ?_ ?_ ?_)
        · simp
        · simp at hlen ⊢; omega
        · simp at hlen ⊢; omega
        (simp (config := { maxSteps := 1000000 }) [Pair.row, pair_beq, hne, hy2, hty])
        refine hN _ (x :: xs, ys, out ++ [y]) ⟨by simp only; rw [← hm]; simp, by simp; omega⟩ ?_ (by simp only [List.length_cons]; omega)
        simp only [List.map_cons, List.map_append, List.map_nil, Pair.row]
        (refine Wk.of ?_ ?_ (by simp) <;> repeat' (first | exact True.intro | exact ⟨_, rfl, wkt_same rfl⟩ | exact ⟨_, rfl, wkt_erase rfl⟩ | exact ⟨_, rfl, .inl .nild⟩ | exact ⟨_, rfl, .inl .nile⟩ | exact ⟨_, rfl, wkt_nils⟩ | exact wkt_same rfl | exact wkt_erase rfl | exact .inl .nild | exact .inl .nile | exact wkt_nils | exact WkB.same rfl | exact WkB_rows | exact WkB_nil | exact .dead _ | refine WkB_cons ?_ ?_ | refine And.intro ?_ ?_))
      · have h2' : lessP y x = false := by simpa using h2
        rw [if_neg (by rw [h2']; simp)] at hm
        (simp (config := { maxSteps := 1000000 }) [h2', Pair.row])
        (refine AWio_app_own (by rfl) (by rfl) (by rfl) ?_ (by decide) ?_ ?_ ?_)
        · simp
        · simp at hlen ⊢; omega
        · simp at hlen ⊢; omega
        by_cases e : y = x
        · rw [if_pos e] at hm
          subst e
          (simp (config := { maxSteps := 1000000 }) [Pair.row, pair_beq, hx2, hy2, htx, hty])
          refine hN _ (xs, ys, out ++ [y]) ⟨by simp only; rw [← hm]; simp, by simp; omega⟩ ?_ (by simp only [List.length_cons]; omega)
          simp only [List.map_cons, List.map_append, List.map_nil, Pair.row]
          (refine Wk.of ?_ ?_ (by simp) <;> repeat' (first | exact True.intro | exact ⟨_, rfl, wkt_same rfl⟩ | exact ⟨_, rfl, wkt_erase rfl⟩ | exact ⟨_, rfl, .inl .nild⟩ | exact ⟨_, rfl, .inl .nile⟩ | exact ⟨_, rfl, wkt_nils⟩ | exact wkt_same rfl | exact wkt_erase rfl | exact .inl .nild | exact .inl .nile | exact wkt_nils | exact WkB.same rfl | exact WkB_rows | exact WkB_nil | exact .dead _ | refine WkB_cons ?_ ?_ | refine And.intro ?_ ?_))
        · rw [if_neg e] at hm
          (simp (config := { maxSteps := 1000000 }) [Pair.row, pair_beq, e, hx2, htx])
          refine hN _ (xs, y :: ys, out ++ [x]) ⟨by simp only; rw [← hm]; simp, by simp; omega⟩ ?_ (by simp only [List.length_cons]; omega)
          simp only [List.map_cons, List.map_append, List.map_nil, Pair.row]
          (refine Wk.of ?_ ?_ (by simp) <;> repeat' (first | exact True.intro | exact ⟨_, rfl, wkt_same rfl⟩ | exact ⟨_, rfl, wkt_erase rfl⟩ | exact ⟨_, rfl, .inl .nild⟩ | exact ⟨_, rfl, .inl .nile⟩ | exact ⟨_, rfl, wkt_nils⟩ | exact wkt_same rfl | exact wkt_erase rfl | exact .inl .nild | exact .inl .nile | exact wkt_nils | exact WkB.same rfl | exact WkB_rows | exact WkB_nil | exact .dead _ | refine WkB_cons ?_ ?_ | refine And.intro ?_ ?_))
theorem pairset_Union_calls {P : Program} {p : Nums} (A : All P p) (a b : List Pair) (h0 : a.length < 1000000) (h1 : b.length < 1000000) : CallsTo P p.pairset_Union [.d (pairsD a), .d (pairsD b)] [] fun o _ => o = .ret (.d (pairsD (mergeP a b))) :=
  (pairset_Union_own A a b h0 h1).unown.mono fun _ _ h => h.1
end
end Go.AE

/- Sets of pairs: slices.Clone, slices.Compact. -/
set_option linter.unusedVariables false
namespace Go.AE
open Go
theorem rowCells_at {rows : List (List D)} {e k : Nat} (he : ∀ r ∈ rows, r.length = e) (hk : k < rows.length) : ((rowCells rows).drop (k * e)).take e = rows[k].map AV.d := by
  unfold rowCells
  induction rows generalizing k with
  | nil => simp at hk
  | cons r rows ih =>
    have h1 := he r (by simp)
    cases k with
    | zero => simp only [Nat.zero_mul, List.drop_zero, List.flatten_cons, List.map_append, List.getElem_cons_zero]; rw [List.take_left' (by simp [h1])]
    | succ k =>
      have h2 := ih (fun r hr => he r (by simp [hr])) (k := k) (by simpa using hk)
      simp only [List.flatten_cons, List.map_append, List.getElem_cons_succ]
      have e1 : (k + 1) * e = (r.map AV.d).length + k * e := by rw [Nat.add_mul]; simp [h1]; omega
      rw [e1, List.drop_length_add_append]; exact h2
theorem pair_at {l : List Pair} {k : Nat} (hk : k < l.length) : ((rowCells (l.map Pair.row)).drop (k * 2)).take 2 = [AI l[k].v, AI l[k].l] := by
  rw [rowCells_at (e := 2) (rows := l.map Pair.row) (rows_len (f := Pair.row) fun _ => rfl) (by simpa using hk)]; simp [Pair.row]
theorem rowCells2_len' (l : List Pair) : (rowCells (l.map Pair.row)).length = l.length * 2 := by
  rw [rowCells_len (e := 2) (rows_len fun _ => rfl)]; simp
theorem rowCells_er (rows : List (List D)) : (rowCells rows).map AV.erase = rowCells rows := by
  simp [rowCells, AV.erase, Function.comp_def]
/-- Without repetitions. -/
def ddStep (out : List Pair) (q : Pair) : List Pair := if out.getLast? = some q then out else out ++ [q]
def dd (l : List Pair) : List Pair := l.foldl ddStep []
theorem dd_snoc (l : List Pair) (q : Pair) : dd (l ++ [q]) = ddStep (dd l) q := by simp [dd]
theorem dd_last (l : List Pair) : (dd l).getLast? = l.getLast? := by
  induction l using makeP_rec with
  | h0 => rfl
  | h1 l q ih =>
    rw [dd_snoc, ddStep]
    split
    · rename_i h; rw [h]; simp
    · simp
theorem mem_dd {l : List Pair} {q : Pair} : q ∈ dd l ↔ q ∈ l := by
  induction l using makeP_rec with
  | h0 => simp [dd]
  | h1 l x ih =>
    rw [dd_snoc, ddStep]
    split
    · rename_i h
      rw [ih, List.mem_append]
      have : x ∈ l := by rw [dd_last] at h; exact List.mem_of_getLast? h
      constructor
      · exact .inl
      · rintro (h | h)
        · exact h
        · simp at h; subst h; exact this
    · rw [List.mem_append, List.mem_append, ih]
theorem dd_succ {l : List Pair} {k : Nat} (h0 : 0 < k) (h : k < l.length) : dd (l.take (k + 1)) = if l[k - 1]'(by omega) = l[k] then dd (l.take k) else dd (l.take k) ++ [l[k]] := by
  have e : l.take (k + 1) = l.take k ++ [l[k]] := by rw [List.take_add_one, List.getElem?_eq_getElem h]; rfl
  rw [e, dd_snoc, ddStep, dd_last]
  have : (l.take k).getLast? = some (l[k - 1]'(by omega)) := by
    rw [List.getLast?_eq_getElem?, List.getElem?_take]; simp only [List.length_take, Option.ite_none_right_eq_some]; rw [show min k l.length - 1 = k - 1 by omega, List.getElem?_eq_getElem (by omega)]; exact ⟨by omega, rfl⟩
  rw [this]; simp
theorem dd_len (l : List Pair) : (dd l).length ≤ l.length := by
  induction l using makeP_rec with
  | h0 => simp [dd]
  | h1 l x ih => rw [dd_snoc, ddStep]; split <;> simp <;> omega
/-- What slices.Compact leaves in the block. -/
def cptP (l : List Pair) : List Pair := dd l ++ List.replicate (l.length - (dd l).length) (⟨0, 0⟩ : Pair)
theorem cptP_id {l : List Pair} (h : dd l = l) : cptP l = l := by unfold cptP; rw [h]; simp
theorem srt_dd {l : List Pair} (h : l.Pairwise fun a b => lessP b a = false) : Srt (dd l) := by
  induction l using makeP_rec with
  | h0 => exact List.Pairwise.nil
  | h1 l x ih =>
    have h2 := List.pairwise_append.1 h
    have ih := ih h2.1
    rw [dd_snoc, ddStep]
    split
    · exact ih
    · rename_i hl
      refine List.pairwise_append.2 ⟨ih, List.pairwise_singleton _ _, ?_⟩
      intro a ha b hb
      simp at hb; subst hb
      have hab := h2.2.2 a (mem_dd.1 ha) b (by simp)
      cases e : lessP a b with
      | true => rfl
      | false =>
        have eab := lessP_total e hab
        subst eab
        obtain ⟨j, hj, ej⟩ := List.getElem_of_mem ha
        have hne : dd l ≠ [] := List.ne_nil_of_mem ha
        have hjl : j < (dd l).length - 1 := by
          rcases Nat.lt_or_ge j ((dd l).length - 1) with h | h
          · exact h
          · refine absurd ?_ hl
            rw [List.getLast?_eq_getElem?, show (dd l).length - 1 = j by omega, List.getElem?_eq_getElem hj, ej]
        have h3 := srt_get ih hjl (by omega)
        rw [ej] at h3
        have hm : (dd l)[(dd l).length - 1]'(by omega) ∈ l := mem_dd.1 (List.getElem_mem _)
        rw [h2.2.2 _ hm a (by simp)] at h3; cases h3
section
theorem slices_Clone_Pair_nil {P : Program} {p : Nums} (A : All P p) : CallsTo P p.slices_Clone_Pair [.d (.sl [])] [] fun o H' => o = .ret (.d (.sl [])) ∧ H' = [] := by
  refine A.slices_Clone_Pair.run rfl fun R hR => ?_
  (simp (config := { maxSteps := 1000000 }) [ic_slices_Clone_Pair])
  refine AWio_isnil_d (by rfl) (fun _ => ?_) ?_
  · (simp (config := { maxSteps := 1000000 }) [])
    exact hR _ _ (Fin_wkv _ _ rfl (by (repeat' (first | exact True.intro | exact WkV.refl _ rfl | exact WkV.erase _ rfl | exact WkV.nild | exact WkV.nile | refine And.intro ?_ ?_ | refine WkV_agg ?_ | refine WkV_tup ?_))) ⟨rfl, rfl⟩)
  · (simp (config := { maxSteps := 1000000 }) [])
    refine AWio_app_nile (by rfl) (by rfl) (by simp) (by decide) (by simp) (by simp) (fun hn => ?_) fun hn => absurd rfl hn
    (simp (config := { maxSteps := 1000000 }) [])
    exact hR _ _ (Fin_wkv _ _ rfl (by (repeat' (first | exact True.intro | exact WkV.refl _ rfl | exact WkV.erase _ rfl | exact WkV.nild | exact WkV.nile | refine And.intro ?_ ?_ | refine WkV_agg ?_ | refine WkV_tup ?_))) ⟨rfl, rfl⟩)
theorem slices_Clone_Pair_calls {P : Program} {p : Nums} (A : All P p) (l : List Pair) (hl : l ≠ []) (h0 : l.length < 1000000) : CallsTo P p.slices_Clone_Pair [.d (pairsD l)] [] fun o H' => o = .ret (.hsl 0 0 2 l.length) ∧ H' = [.mem (rowCells (l.map Pair.row))] := by
  refine A.slices_Clone_Pair.run rfl fun R hR => ?_
  (simp (config := { maxSteps := 1000000 }) [ic_slices_Clone_Pair, pairsD])
  refine AWio_isnil_d (by rfl) (fun h => absurd (by simpa using h) hl) ?_
  (simp (config := { maxSteps := 1000000 }) [])
  refine AWio_app_h (.inl (by rfl)) (by rfl) (rows_len fun _ => rfl) (by decide) (by simp; omega) (by simp; omega) (by simpa using hl) ?_
  (simp (config := { maxSteps := 1000000 }) [])
  exact hR _ _ (Fin_wk' _ _ _ rfl (by (refine Wk.of ?_ ?_ (by simp) <;> repeat' (first | exact True.intro | exact ⟨_, rfl, wkt_same rfl⟩ | exact ⟨_, rfl, wkt_erase rfl⟩ | exact ⟨_, rfl, .inl .nild⟩ | exact ⟨_, rfl, .inl .nile⟩ | exact ⟨_, rfl, wkt_nils⟩ | exact wkt_same rfl | exact wkt_erase rfl | exact .inl .nild | exact .inl .nile | exact wkt_nils | exact WkB.same rfl | exact WkB_rows | exact WkB_nil | exact .dead _ | refine WkB_cons ?_ ?_ | refine And.intro ?_ ?_))) ⟨by simp, rfl⟩)
theorem slices_Compact_Pair_nil {P : Program} {p : Nums} (A : All P p) : CallsTo P p.slices_Compact_Pair [.d (.sl [])] [] fun o H' => o = .ret (.d (.sl [])) ∧ H' = [] := by
  refine A.slices_Compact_Pair.run rfl fun R hR => ?_
  (simp (config := { maxSteps := 1000000 }) [ic_slices_Compact_Pair])
  exact hR _ _ (Fin_wkv _ _ rfl (by (repeat' (first | exact True.intro | exact WkV.refl _ rfl | exact WkV.erase _ rfl | exact WkV.nild | exact WkV.nile | refine And.intro ?_ ?_ | refine WkV_agg ?_ | refine WkV_tup ?_))) ⟨rfl, rfl⟩)
theorem slices_Compact_Pair_calls {P : Program} {p : Nums} (A : All P p) (l : List Pair) (hl : l ≠ []) (h0 : l.length < 1000000) : CallsTo P p.slices_Compact_Pair [.hsl 0 0 2 l.length] [.mem (rowCells (l.map Pair.row))] fun o H' => o = .ret (.hsl 0 0 2 (dd l).length) ∧ H' = [.mem (rowCells ((cptP l).map Pair.row))] := by
  refine A.slices_Compact_Pair.run rfl fun R hR => ?_
  (simp (config := { maxSteps := 1000000 }) [ic_slices_Compact_Pair])
  have hpos : 0 < l.length := List.length_pos_iff.2 hl
  have dd1 : dd (l.take 1) = l.take 1 := by
    cases l with
    | nil => exact absurd rfl hl
    | cons x l => simp [dd, ddStep]
  have done : dd l = l → R .ret ⟨[(2, .hsl 0 0 2 l.length)], [.mem (rowCells (l.map Pair.row))]⟩ := by
    intro e
    refine hR _ _ (Fin_wk' _ (.hsl 0 0 2 l.length) [.mem (rowCells (l.map Pair.row))] rfl (by (refine Wk.of ?_ ?_ (by simp) <;> repeat' (first | exact True.intro | exact ⟨_, rfl, wkt_same rfl⟩ | exact ⟨_, rfl, wkt_erase rfl⟩ | exact ⟨_, rfl, .inl .nild⟩ | exact ⟨_, rfl, .inl .nile⟩ | exact ⟨_, rfl, wkt_nils⟩ | exact wkt_same rfl | exact wkt_erase rfl | exact .inl .nild | exact .inl .nile | exact wkt_nils | exact WkB.same rfl | exact WkB_rows | exact WkB_nil | exact .dead _ | refine WkB_cons ?_ ?_ | refine And.intro ?_ ?_))) ⟨by rw [e], by rw [cptP_id e]⟩)
  ((first | refine AW_cond_split _ (by rfl) (fun h1 => ?_) (fun h1 => ?_) | refine AWop_split _ (by rfl) (fun h1 => ?_) (fun h1 => ?_)) <;> (try simp only [decide_eq_true_eq, decide_eq_false_iff_not, Bool.not_eq_true', Bool.not_eq_false', Bool.and_eq_true, Bool.or_eq_true, beq_iff_eq, bne_iff_ne, ne_eq, beq_eq_false_iff_ne, bne_eq_false_iff_eq] at h1))
  · have e1 : l.length = 1 := by omega
    have : dd l = l := by rw [show l.take 1 = l from List.take_of_length_le (by omega)] at dd1; exact dd1
    (simp (config := { maxSteps := 1000000 }) [h1])
    refine hR _ _ (Fin_wk' _ (.hsl 0 0 2 l.length) [.mem (rowCells (l.map Pair.row))] rfl (by (refine Wk.of ?_ ?_ (by simp) <;> repeat' (first | exact True.intro | exact ⟨_, rfl, wkt_same rfl⟩ | exact ⟨_, rfl, wkt_erase rfl⟩ | exact ⟨_, rfl, .inl .nild⟩ | exact ⟨_, rfl, .inl .nile⟩ | exact ⟨_, rfl, wkt_nils⟩ | exact wkt_same rfl | exact wkt_erase rfl | exact .inl .nild | exact .inl .nile | exact wkt_nils | exact WkB.same rfl | exact WkB_rows | exact WkB_nil | exact .dead _ | refine WkB_cons ?_ ?_ | refine And.intro ?_ ?_))) ⟨by rw [this], by rw [cptP_id this]⟩)
  (simp (config := { maxSteps := 1000000 }) [h1])
  refine AW_loop (fun k : Nat => ⟨[(3, AI k), (2, .nils), (0, .hsl 0 0 2 l.length)], [.mem (rowCells (l.map Pair.row))]⟩) (fun k => 1 ≤ k ∧ k ≤ l.length ∧ dd (l.take k) = l.take k) (fun k => l.length - k) 1 ⟨by omega, by omega, dd1⟩ (by (refine Wk.of ?_ ?_ (by simp) <;> repeat' (first | exact True.intro | exact ⟨_, rfl, wkt_same rfl⟩ | exact ⟨_, rfl, wkt_erase rfl⟩ | exact ⟨_, rfl, .inl .nild⟩ | exact ⟨_, rfl, .inl .nile⟩ | exact ⟨_, rfl, wkt_nils⟩ | exact wkt_same rfl | exact wkt_erase rfl | exact .inl .nild | exact .inl .nile | exact wkt_nils | exact WkB.same rfl | exact WkB_rows | exact WkB_nil | exact .dead _ | refine WkB_cons ?_ ?_ | refine And.intro ?_ ?_))) ?_
  rintro k ⟨hk1, hk, hd⟩ N hN
  have hlc := rowCells2_len' l
  (simp (config := { maxSteps := 1000000 }) [])
  ((first | refine AW_cond_split _ (by rfl) (fun h2 => ?_) (fun h2 => ?_) | refine AWop_split _ (by rfl) (fun h2 => ?_) (fun h2 => ?_)) <;> (try simp only [decide_eq_true_eq, decide_eq_false_iff_not, Bool.not_eq_true', Bool.not_eq_false', Bool.and_eq_true, Bool.or_eq_true, beq_iff_eq, bne_iff_ne, ne_eq, beq_eq_false_iff_ne, bne_eq_false_iff_eq] at h2))
  · have hkl : k < l.length := by omega
    have hw := wrap_succ (k := k) (by omega)
    obtain ⟨km, hkm⟩ : ∃ km, km = k - 1 := ⟨_, rfl⟩
    have hw2 : IntKind.i64.wrap ((k : Int) - 1) = (km : Int) := by rw [wrap_i64 (by omega) (by omega)]; omega
    have hp1 := pair_at (l := l) (k := km) (by omega)
    have hp2 := pair_at (l := l) (k := k) hkl
    have hce := rowCells_er (l.map Pair.row)
    obtain ⟨C, hC⟩ : ∃ C, C = rowCells (l.map Pair.row) := ⟨_, rfl⟩
    have hkml : km < l.length := by omega
    obtain ⟨x, hx⟩ : ∃ x, x = l[k] := ⟨_, rfl⟩
    obtain ⟨y, hy⟩ : ∃ y, y = l[km] := ⟨_, rfl⟩
    rw [← hC] at hlc hp1 hp2 hce ⊢
    rw [← hx] at hp2
    rw [← hy] at hp1
    have hl1 : km * 2 + 2 ≤ C.length := by omega
    have hl2 : k * 2 + 2 ≤ C.length := by omega
    have hk2 : (km : Int) < (l.length : Int) := by omega
    (simp (config := { maxSteps := 1000000 }) [h2, hw2, hk2, hl1, hl2, hp1, hp2, hce, pair_beq])
    ((first | refine AW_cond_split _ (by rfl) (fun h3 => ?_) (fun h3 => ?_) | refine AWop_split _ (by rfl) (fun h3 => ?_) (fun h3 => ?_)) <;> (try simp only [decide_eq_true_eq, decide_eq_false_iff_not, Bool.not_eq_true', Bool.not_eq_false', Bool.and_eq_true, Bool.or_eq_true, beq_iff_eq, bne_iff_ne, ne_eq, beq_eq_false_iff_ne, bne_eq_false_iff_eq] at h3))
    · have hsl : IntKind.i64.wrap 1 = 1 := by rw [wrap_i64 (by omega) (by omega)]
      have hkle : k ≤ l.length := by omega
      (simp (config := { maxSteps := 1000000 }) [h3, hkle])
      have hdk : dd (l.take (k + 1)) = l.take k := by
        rw [dd_succ hk1 hkl, if_pos, hd]
        rw [← hx, h3, hy]; simp only [hkm]
      refine AW_loop (fun s : Nat × Nat × List Pair => ⟨[(5, AI s.1), (4, .hsl 0 (k * 2) 2 (l.length - k)), (3, AI s.2.1), (2, .nils), (0, .hsl 0 0 2 l.length)], [.mem (rowCells (s.2.2.map Pair.row))]⟩)
        (fun s => 1 ≤ s.1 ∧ k + s.1 ≤ l.length ∧ s.2.1 + 1 ≤ k + s.1 ∧ s.2.2.length = l.length ∧ s.2.2.take s.2.1 = dd (l.take (k + s.1)) ∧ s.2.2.drop (k + s.1 - 1) = l.drop (k + s.1 - 1)) (fun s => l.length - s.1) (1, k, l)
        ⟨by simp, by simp; omega, by simp, rfl, hdk.symm, rfl⟩ (by rw [hC]; (refine Wk.of ?_ ?_ (by simp) <;> repeat' (first | exact True.intro | exact ⟨_, rfl, wkt_same rfl⟩ | exact ⟨_, rfl, wkt_erase rfl⟩ | exact ⟨_, rfl, .inl .nild⟩ | exact ⟨_, rfl, .inl .nile⟩ | exact ⟨_, rfl, wkt_nils⟩ | exact wkt_same rfl | exact wkt_erase rfl | exact .inl .nild | exact .inl .nile | exact wkt_nils | exact WkB.same rfl | exact WkB_rows | exact WkB_nil | exact .dead _ | refine WkB_cons ?_ ?_ | refine And.intro ?_ ?_))) ?_
      rintro ⟨j, i, cur⟩ ⟨hj1, hjn, hij, hcl, hct, hcd⟩ N2 hN2
      simp only at hj1 hjn hij hcl hct hcd hN2 ⊢
      have hlc2 := rowCells2_len' cur
      have hce2 := rowCells_er (cur.map Pair.row)
      (simp (config := { maxSteps := 1000000 }) [])
      ((first | refine AW_cond_split _ (by rfl) (fun h4 => ?_) (fun h4 => ?_) | refine AWop_split _ (by rfl) (fun h4 => ?_) (fun h4 => ?_)) <;> (try simp only [decide_eq_true_eq, decide_eq_false_iff_not, Bool.not_eq_true', Bool.not_eq_false', Bool.and_eq_true, Bool.or_eq_true, beq_iff_eq, bne_iff_ne, ne_eq, beq_eq_false_iff_ne, bne_eq_false_iff_eq] at h4))
      · have h4' : k + j < l.length := by omega
        have hcur : ∀ m, k + j - 1 ≤ m → (h : m < l.length) → cur[m]'(by omega) = l[m] := by
          intro m h5 h6
          have e1 : (cur.drop (k + j - 1))[m - (k + j - 1)]? = cur[m]? := by rw [List.getElem?_drop, Nat.add_sub_cancel' h5]
          have e2 : (l.drop (k + j - 1))[m - (k + j - 1)]? = l[m]? := by rw [List.getElem?_drop, Nat.add_sub_cancel' h5]
          rw [hcd, e2, List.getElem?_eq_getElem h6, List.getElem?_eq_getElem (by omega)] at e1
          injection e1 with e1; exact e1.symm
        obtain ⟨jm, hjm⟩ : ∃ jm, jm = j - 1 := ⟨_, rfl⟩
        have hwj := wrap_succ (k := j) (by omega)
        have hwi := wrap_succ (k := i) (by omega)
        have hwjm : IntKind.i64.wrap ((j : Int) - 1) = (jm : Int) := by rw [wrap_i64 (by omega) (by omega)]; omega
        have hq1 := pair_at (l := cur) (k := k + j) (by omega)
        have hq2 := pair_at (l := cur) (k := k + jm) (by omega)
        rw [hcur _ (by omega) (by omega), Nat.add_mul] at hq1 hq2
        have hdj := dd_succ (l := l) (k := k + j) (by omega) h4'
        have ejm : k + j - 1 = k + jm := by omega
        simp only [ejm] at hdj hcur hcd
        obtain ⟨u, hu⟩ : ∃ u, u = l[k + j] := ⟨_, rfl⟩
        obtain ⟨v, hv⟩ : ∃ v, v = l[k + jm]'(by omega) := ⟨_, rfl⟩
        rw [← hu] at hq1 hdj
        rw [← hv] at hq2 hdj
        have hset := spl_row (rows := cur.map Pair.row) (e := 2) (k := i) (row := u.row) (rows_len fun _ => rfl) rfl (by simp; omega)
        obtain ⟨E, hE⟩ : ∃ E, E = rowCells (cur.map Pair.row) := ⟨_, rfl⟩
        rw [← hE] at hlc2 hce2 hq1 hq2 hset ⊢
        have hm1 : k * 2 + j * 2 + 2 ≤ E.length := by omega
        have hm2 : k * 2 + jm * 2 + 2 ≤ E.length := by omega
        have hm3 : i * 2 + 2 ≤ E.length := by omega
        have hn1 : (j : Int) < ((l.length - k : Nat) : Int) := by omega
        have hn2 : (jm : Int) < ((l.length - k : Nat) : Int) := by omega
        have hn3 : (i : Int) < (l.length : Int) := by omega
        have hcd' : ∀ c : List Pair, c.drop (k + jm) = l.drop (k + jm) → c.drop (k + j) = l.drop (k + j) := by
          intro c hc
          have := congrArg (List.drop 1) hc
          rw [List.drop_drop, List.drop_drop] at this
          rwa [show k + jm + 1 = k + j by omega] at this
        (simp (config := { maxSteps := 1000000 }) [h4, hwjm, hn1, hn2, hm1, hm2, hq1, hq2, hce2, pair_beq])
        ((first | refine AW_cond_split _ (by rfl) (fun h5 => ?_) (fun h5 => ?_) | refine AWop_split _ (by rfl) (fun h5 => ?_) (fun h5 => ?_)) <;> (try simp only [decide_eq_true_eq, decide_eq_false_iff_not, Bool.not_eq_true', Bool.not_eq_false', Bool.and_eq_true, Bool.or_eq_true, beq_iff_eq, bne_iff_ne, ne_eq, beq_eq_false_iff_ne, bne_eq_false_iff_eq] at h5))
        · (simp (config := { maxSteps := 1000000 }) [h5, hn1, hn2, hn3, hm1, hm2, hm3, hq1, hq2, hce2, hwi, hwj])
          rw [if_neg (by intro e; exact h5 e.symm)] at hdj
          have hset' : List.take (i * 2) E ++ AI u.v :: AI u.l :: List.drop (i * 2 + 2) E = rowCells ((cur.set i u).map Pair.row) := by
            rw [List.map_set, ← hset]; simp [spl, Pair.row]
          rw [hset']
          refine hN2 _ (j + 1, i + 1, cur.set i u) ⟨by simp only; omega, by simp only; omega, by simp only; omega, by simpa using hcl, ?_, ?_⟩ (by simp only; (refine Wk.of ?_ ?_ (by simp) <;> repeat' (first | exact True.intro | exact ⟨_, rfl, wkt_same rfl⟩ | exact ⟨_, rfl, wkt_erase rfl⟩ | exact ⟨_, rfl, .inl .nild⟩ | exact ⟨_, rfl, .inl .nile⟩ | exact ⟨_, rfl, wkt_nils⟩ | exact wkt_same rfl | exact wkt_erase rfl | exact .inl .nild | exact .inl .nile | exact wkt_nils | exact WkB.same rfl | exact WkB_rows | exact WkB_nil | exact .dead _ | refine WkB_cons ?_ ?_ | refine And.intro ?_ ?_))) (by simp only; omega)
          · simp only
            rw [← Nat.add_assoc, hdj, ← hct, List.take_add_one, List.getElem?_set_self (by omega), List.take_set_of_le (by omega)]; rfl
          · simp only
            rw [show k + (j + 1) - 1 = k + j by omega, List.drop_set_of_lt (by omega)]; exact hcd' _ hcd
        · (simp (config := { maxSteps := 1000000 }) [h5, hwj])
          rw [if_pos (by simpa using Eq.symm (by simpa using h5))] at hdj
          refine hN2 _ (j + 1, i, cur) ⟨by simp only; omega, by simp only; omega, by simp only; omega, hcl, ?_, ?_⟩ (by simp only; rw [hE]; (refine Wk.of ?_ ?_ (by simp) <;> repeat' (first | exact True.intro | exact ⟨_, rfl, wkt_same rfl⟩ | exact ⟨_, rfl, wkt_erase rfl⟩ | exact ⟨_, rfl, .inl .nild⟩ | exact ⟨_, rfl, .inl .nile⟩ | exact ⟨_, rfl, wkt_nils⟩ | exact wkt_same rfl | exact wkt_erase rfl | exact .inl .nild | exact .inl .nile | exact wkt_nils | exact WkB.same rfl | exact WkB_rows | exact WkB_nil | exact .dead _ | refine WkB_cons ?_ ?_ | refine And.intro ?_ ?_))) (by simp only; omega)
          · simp only; rw [hct, ← Nat.add_assoc, hdj]
          · simp only; rw [show k + (j + 1) - 1 = k + j by omega]; exact hcd' _ hcd
      · have hj2 : k + j = l.length := by omega
        rw [hj2, List.take_length] at hct
        have hil : i < l.length := by omega
        have hil' : i ≤ l.length := by omega
        have hdl : (dd l).length = i := by rw [← hct]; simp; omega
        have hzero : ¬ (l.length - i = 0) := by omega
        (simp (config := { maxSteps := 1000000 }) [hil'])
        refine AWio_clr (by rfl) (by rfl) (by decide) (by omega) (by rfl) (by omega) ?_
        obtain ⟨T, hT⟩ : ∃ T : List Pair, T = List.replicate (l.length - i) (⟨0, 0⟩ : Pair) := ⟨_, rfl⟩
        obtain ⟨U, hU⟩ : ∃ U : List Pair, U = dd l ++ T := ⟨_, rfl⟩
        have hfin : spl (rowCells (cur.map Pair.row)) (i * 2) (rowCells (List.replicate (l.length - i) [I 0, I 0])) = rowCells (U.map Pair.row) := by
          have h7 : (rowCells (List.replicate (l.length - i) [I 0, I 0])).length = (l.length - i) * 2 := by
            rw [rowCells_len (e := 2) (fun r hr => by rw [List.eq_of_mem_replicate hr]; rfl)]; simp
          rw [spl, rowCells_take (e := 2) (rows := cur.map Pair.row) (rows_len (f := Pair.row) fun _ => rfl), h7, List.drop_of_length_le (by omega), List.append_nil, ← List.map_take, hct, hU, hT]
          simp [rowCells, Pair.row]
        rw [hfin]
        (simp (config := { maxSteps := 1000000 }) [hil'])
        refine hR _ _ (Fin_wk' _ (.hsl 0 0 2 i) [.mem (rowCells (U.map Pair.row))] rfl (by (refine Wk.of ?_ ?_ (by simp) <;> repeat' (first | exact True.intro | exact ⟨_, rfl, wkt_same rfl⟩ | exact ⟨_, rfl, wkt_erase rfl⟩ | exact ⟨_, rfl, .inl .nild⟩ | exact ⟨_, rfl, .inl .nile⟩ | exact ⟨_, rfl, wkt_nils⟩ | exact wkt_same rfl | exact wkt_erase rfl | exact .inl .nild | exact .inl .nile | exact wkt_nils | exact WkB.same rfl | exact WkB_rows | exact WkB_nil | exact .dead _ | refine WkB_cons ?_ ?_ | refine And.intro ?_ ?_))) ⟨by rw [hdl], by rw [hU, hT, cptP, hdl]⟩)
    · (simp (config := { maxSteps := 1000000 }) [h3, hw])
      refine hN _ (k + 1) ⟨by omega, hkl, ?_⟩ (by rw [hC]; (refine Wk.of ?_ ?_ (by simp) <;> repeat' (first | exact True.intro | exact ⟨_, rfl, wkt_same rfl⟩ | exact ⟨_, rfl, wkt_erase rfl⟩ | exact ⟨_, rfl, .inl .nild⟩ | exact ⟨_, rfl, .inl .nile⟩ | exact ⟨_, rfl, wkt_nils⟩ | exact wkt_same rfl | exact wkt_erase rfl | exact .inl .nild | exact .inl .nile | exact wkt_nils | exact WkB.same rfl | exact WkB_rows | exact WkB_nil | exact .dead _ | refine WkB_cons ?_ ?_ | refine And.intro ?_ ?_))) (by omega)
      have e : ¬ l[k - 1]'(by omega) = l[k] := by
        rw [← hx]; intro e; apply h3; rw [← e, hy]; simp only [hkm]
      rw [dd_succ hk1 hkl, if_neg e, hd, List.take_add_one, List.getElem?_eq_getElem hkl]; rfl
  · have hk' : k = l.length := by omega
    subst hk'
    rw [List.take_length] at hd
    (simp (config := { maxSteps := 1000000 }) [])
    refine hR _ _ (Fin_wk' _ (.hsl 0 0 2 l.length) [.mem (rowCells (l.map Pair.row))] rfl (by (refine Wk.of ?_ ?_ (by simp) <;> repeat' (first | exact True.intro | exact ⟨_, rfl, wkt_same rfl⟩ | exact ⟨_, rfl, wkt_erase rfl⟩ | exact ⟨_, rfl, .inl .nild⟩ | exact ⟨_, rfl, .inl .nile⟩ | exact ⟨_, rfl, wkt_nils⟩ | exact wkt_same rfl | exact wkt_erase rfl | exact .inl .nild | exact .inl .nile | exact wkt_nils | exact WkB.same rfl | exact WkB_rows | exact WkB_nil | exact .dead _ | refine WkB_cons ?_ ?_ | refine And.intro ?_ ?_))) ⟨by rw [hd], by rw [cptP_id hd]⟩)
end
end Go.AE

/- slices.SortFunc over pairs, as the library has it, told over abstract values. -/
set_option linter.unusedVariables false
namespace Go.AE
open Go Go.Proofs Go.Shelf Go.Sort
def encP (x : Pair) : List Value := [.int .i64 x.v, .int .i64 x.l]
def cfP (a b : Pair) : Int := if lessP a b = true then -1 else if lessP b a = true then 1 else 0
theorem ltOf_cfP (a b : Pair) : ltOf cfP a b = lessP a b := by
  unfold ltOf cfP
  cases h1 : lessP a b <;> cases h2 : lessP b a <;> simp
theorem swoP : SWO (ltOf cfP) where
  irrefl x := by rw [ltOf_cfP]; exact lessP_irrefl x
  trans x y z h1 h2 := by rw [ltOf_cfP] at *; exact lessP_trans h1 h2
  ntrans x y z h1 h2 := by
    rw [ltOf_cfP] at *
    have h1 : ¬ lessP x y = true := by simp [h1]
    have h2 : ¬ lessP y z = true := by simp [h2]
    cases h : lessP x z with
    | false => rfl
    | true => rw [lessP_iff] at *; omega
def sortP (l : List Pair) : List Pair := l.mergeSort fun x y => !lessP y x
theorem sortP_len (l : List Pair) : (sortP l).length = l.length := by simp [sortP]
theorem flat_get : ∀ (l : List Pair) (j : Nat) (h : j < 2 * l.length), (l.map Pair.row).flatten[j]? = some (if j % 2 = 0 then I (l[j / 2]'(by omega)).v else I (l[j / 2]'(by omega)).l) := by
  intro l
  induction l with
  | nil => intro j h; simp at h
  | cons x l ih =>
    intro j h
    match j, h with
    | 0, h => simp [Pair.row]
    | 1, h => simp [Pair.row]
    | j + 2, h =>
      have h' : j < 2 * l.length := by simp at h; omega
      have e := ih j h'
      have e1 : (j + 2) / 2 = j / 2 + 1 := by omega
      have e2 : (j + 2) % 2 = j % 2 := by omega
      simp only [List.map_cons, List.flatten_cons, Pair.row, List.cons_append, List.nil_append, List.getElem?_cons_succ, e2]
      rw [e]
      simp only [e1, List.getElem_cons_succ]
theorem flat_both (l : List Pair) (j : Nat) (h : j < 2 * l.length) : ∃ n : Int, (rowCells (l.map Pair.row))[j]? = some (AI n) ∧ (flatK encP 2 l.toArray)[j]! = .int .i64 n := by
  have h1 := flat_get l j h
  have h2 := get_flatK encP 2 l.toArray j (by simp; omega)
  have h3 : l.toArray[j / 2]! = l[j / 2]'(by omega) := by
    rw [getElem!_pos _ _ (by simp; omega)]; simp
  rw [h3] at h2
  rcases Nat.mod_two_eq_zero_or_one j with hm | hm
  · refine ⟨(l[j / 2]'(by omega)).v, ?_, ?_⟩
    · rw [rowCells, List.getElem?_map, h1, hm]; rfl
    · rw [h2, hm]; rfl
  · refine ⟨(l[j / 2]'(by omega)).l, ?_, ?_⟩
    · rw [rowCells, List.getElem?_map, h1, hm]; rfl
    · rw [h2, hm]; rfl
theorem rowCells2_len (l : List Pair) : (rowCells (l.map Pair.row)).length = 2 * l.length := by
  rw [rowCells_len (e := 2) (rows_len fun _ => rfl)]; simp; omega
theorem rowCells_d {rows : List (List D)} {j : Nat} {x : AV} (h : (rowCells rows)[j]? = some x) : ∃ d, x = .d d := by
  rw [rowCells, List.getElem?_map] at h
  cases hx : rows.flatten[j]? with
  | none => rw [hx] at h; cases h
  | some d => rw [hx] at h; injection h with h; exact ⟨d, h.symm⟩
section
variable {P : Program} {ρ : Ren}
theorem sort_some (L : SlLaysF0.n6 P ρ) (aE : ∀ w, (isAgg (ρ.t 24)).run P w = .ok true w) (zE : ∀ w, (Go.sizeOf (ρ.t 24)).run P w = .ok 2 w) (c : Nat) (eg : ∀ args w, (callFunc c args).run P w = .ok (.enter c args) w)
    (hcmp : ∀ blk off size w, CmpLays P c #[] encP 2 cfP blk off size w) (l : List Pair) (hne : l ≠ []) (hlen : l.length < 4611686018427387904) :
    CallsTo P (ρ.f 6) [.hsl 0 0 2 l.length, .fn (.func c) [] []] [.mem (rowCells (l.map Pair.row))] fun o H' => o = .ret (.tup []) ∧ H' = [.mem (rowCells ((sortP l).map Pair.row))] := by
  intro g vs w hsz hs
  have hn : l.length ≠ 0 := by simpa using hne
  obtain ⟨vs⟩ := vs
  obtain ⟨v0, v1, rfl⟩ : ∃ a b, vs = [a, b] := by
    match vs, hsz with
    | [a, b], _ => exact ⟨a, b, rfl⟩
  have e0 : Rel g.F g.φ w (.hsl 0 0 2 l.length) v0 := hs.env 0 _ rfl
  have e1 : Rel g.F g.φ w (.fn (.func c) [] []) v1 := hs.env 1 _ rfl
  cases e0 with
  | hsl _ _ _ _ r cap a hφ hcap ha =>
  have ha := ha hn; subst ha
  cases e1 with
  | fn _ _ _ us us' hl _ hl' _ =>
  have : us = [] := by simpa using hl
  subst this
  have : us' = [] := by simpa using hl'
  subst this
  obtain ⟨cl, te, hc, hcs, hcell⟩ := hs.mem 0 _ r rfl hφ
  have hF := (hs.lt 0 r hφ).2.1
  have hrl := (hs.lt 0 r hφ).1
  rw [rowCells2_len] at hcs
  have hH : HoldsK encP 2 w r 0 l.toArray := by
    intro j hj
    rw [size_flatK] at hj
    have hj' : j < 2 * l.length := by simp at hj; omega
    obtain ⟨n, h1, h2⟩ := flat_both l j hj'
    obtain ⟨_, u, hu, hrel⟩ := hcell j _ h1
    cases hrel with
    | d _ _ hp =>
    cases hp with
    | int k m =>
    constructor
    · rw [h2]; simp [World.cell?, hc, hu]
    · simp [World.frozen?, hc]
  have := AnyQ.slices_SortFunc_total L 2 aE zE encP (fun _ => rfl) (fun x v hv => by simp [encP] at hv; rcases hv with rfl | rfl <;> rfl) cfP swoP c #[] r 0 cap l.toArray w eg (hcmp r 0 _ w) hH hrl (by simpa using hlen) (fun x y h1 h2 => by rw [ltOf_cfP] at h1 h2; exact lessP_total h1 h2)
  refine Calls.mono (show Calls P (ρ.f 6) #[.slice (some ⟨r, 0, none⟩) l.length cap, .func (.func c) #[] #[]] w _ from this) ?_
  rintro e w' ⟨rfl, n, os, hw⟩
  have hw : w' = sortWorldK encP 2 w r 0 n (sortP l).toArray os := by
    rw [hw]; simp only [ltOf_cfP]; rfl
  obtain ⟨d, hd⟩ : ∃ d, d = sortP l := ⟨_, rfl⟩
  have hdl : d.length = l.length := by rw [hd, sortP_len]
  rw [← hd] at hw
  have hheap : w'.heap = (w.heap.modify r (onCells (putCells id 0 (flatK encP 2 d.toArray)))) ++ os := by rw [hw]; rfl
  have hother : ∀ r', r' < w.heap.size → r' ≠ r → w'.heap[r']? = w.heap[r']? := by
    intro r' h1 h2
    rw [hheap, Array.getElem?_append]
    simp only [Array.size_modify, h1, if_true, Array.getElem?_modify]
    rw [if_neg (Ne.symm h2)]
  have hsize : w.heap.size ≤ w'.heap.size := by rw [hheap]; simp
  have hr' : w'.heap[r]? = some (.cells (putCells id 0 (flatK encP 2 d.toArray) cl) te (0, 0)) := by
    rw [hheap, Array.getElem?_append]
    simp only [Array.size_modify, hrl, if_true, Array.getElem?_modify, if_true]
    rw [hc]; rfl
  have hno : ∀ (env : List (Nat × AV)) (cells : List D) b j e rows, AP ⟨env, [.mem (cells.map AV.d)]⟩ (.cell b j) ≠ some (.own e rows) := by
    intro env cells b j e rows h
    simp only [AP] at h
    cases b with
    | zero =>
      simp only [List.getElem?_cons_zero] at h
      rw [List.getElem?_map] at h
      cases hx : cells[j]? with
      | none => rw [hx] at h; cases h
      | some d => rw [hx] at h; cases h
    | succ b => simp at h
  have hno' : ∀ p e rows, AP ⟨[(0, .tup [])], [.mem (rowCells (d.map Pair.row))]⟩ p ≠ some (.own e rows) := by
    intro p e rows h
    cases p with
    | tmp t => simp only [AP, get] at h; split at h <;> cases h
    | cell b j => exact hno _ _ _ _ _ _ h
  have hb0 : ∀ b r', g.φ b = some r' → b = 0 := fun b r' h => by have := (hs.lt b r' h).2.2; simp at this; exact this
  refine ⟨.ret (.tup []), [.mem (rowCells (d.map Pair.row))], g, .tuple #[], ⟨rfl, by rw [hd]⟩, rfl, ?_, ?_, fun _ _ _ h => h, by simp, ?_⟩
  · refine { size := by simp, env := ?_, defers := rfl, inj := hs.inj, lt := ?_, dom := ?_, mem := ?_, iter := ?_, own := ?_, excl := ?_, apart := ?_, view := ?_ }
    · intro t x hx
      simp only [get] at hx
      split at hx
      · rename_i h; subst h; injection hx with hx; subst hx
        exact .tup [] [] rfl fun j x u h => by simp at h
      · cases hx
    · intro b r' h
      obtain ⟨h1, h2, h3⟩ := hs.lt b r' h
      exact ⟨by omega, h2, by simpa using h3⟩
    · intro b k h hk
      cases b with
      | zero => exact ⟨r, hφ⟩
      | succ b => simp at h
    · intro b cells r' h hr2
      have hb := hb0 b r' hr2
      subst hb
      rw [hφ] at hr2; injection hr2 with hr2; subst hr2
      simp at h; subst h
      refine ⟨_, te, hr', ?_, ?_⟩
      · rw [rowCells2_len, hdl]; simp [putCells]; exact hcs
      · intro j x hx
        have hj : j < 2 * d.length := by
          have := (List.getElem?_eq_some_iff.1 hx).1
          rwa [rowCells2_len] at this
        obtain ⟨n, h1, h2⟩ := flat_both d j hj
        rw [hx] at h1; injection h1 with h1; subst h1
        refine ⟨rfl, .int .i64 n, ?_, .d _ _ (.int _ _)⟩
        have hjc : j < cl.size := by omega
        have hf : j < (flatK encP 2 d.toArray).size := by rw [size_flatK]; simp; omega
        simp only [putCells, Array.getElem?_mapIdx, hjc, Array.getElem?_eq_getElem, Option.map_some, Nat.zero_le, true_and, Nat.zero_add, hf, if_true, Nat.sub_zero, h2, id]
    · intro b s pos r' h _
      cases b with
      | zero => simp at h
      | succ b => simp at h
    · intro p e rows v h; exact absurd h (hno' p e rows)
    · rintro p p' r' ⟨e, rows, _, h, _⟩; exact absurd h (hno' p e rows)
    · rintro p r' b ⟨e, rows, _, h, _⟩; exact absurd h (hno' p e rows)
    · intro t org e rows h
      simp only [get] at h
      split at h <;> cases h
  · refine ⟨by rw [hw]; rfl, by rw [hw]; rfl, by rw [hw]; rfl, hsize, ?_, ?_⟩
    · intro r' h1 h2
      refine ⟨hother r' h1 ?_, rfl⟩
      rintro rfl; exact h2 (.inl ⟨0, hφ⟩)
    · refine ⟨fun _ _ => Nat.le_refl _, ?_⟩
      intro r' j u hj hu
      have hne : r' ≠ r := by rintro rfl; omega
      have hlt := World.block_lt_of_cell? w ⟨r', j, none⟩ hu
      have := hother r' hlt hne
      simp only [World.cell?] at hu ⊢
      rw [this]; exact hu
  · rintro r' (⟨b, hb⟩ | ⟨p, e, rows, _, h, _⟩)
    · exact .inl (.inl ⟨b, hb⟩)
    · exact absurd h (hno' p e rows)
theorem sort_none (L : SlLaysF0.n6 P ρ) (c : Nat) (x : AV) (hx : x = .d (.sl []) ∨ x = .nils ∨ x = .nile) :
    CallsTo P (ρ.f 6) [x, .fn (.func c) [] []] [] fun o H' => o = .ret (.tup []) ∧ H' = [] := by
  intro g vs w hsz hs
  obtain ⟨vs⟩ := vs
  obtain ⟨v0, v1, rfl⟩ : ∃ a b, vs = [a, b] := by
    match vs, hsz with
    | [a, b], _ => exact ⟨a, b, rfl⟩
  have e0 : Rel g.F g.φ w x.erase v0 := hs.env 0 _ rfl
  obtain ⟨a, cap, rfl⟩ : ∃ a cap, v0 = .slice a 0 cap := by
    rcases hx with rfl | rfl | rfl
    · cases e0 with
      | d _ _ h => cases h with
        | nil a cap => exact ⟨a, cap, rfl⟩
        | sl rows ad cap esz vs h1 h2 h3 h4 h5 h6 => exact ⟨_, _, rfl⟩
    · cases e0; exact ⟨_, _, rfl⟩
    · cases e0; exact ⟨_, _, rfl⟩
  refine Calls.mono (AnyF.slices_SortFunc_none L a cap v1 w) ?_
  rintro e w' ⟨rfl, rfl⟩
  have hno : ∀ (st : ASt) p e rows, st.H = [] → (∀ t e rows, get st.env t ≠ some (.own e rows)) → AP st p ≠ some (.own e rows) := by
    intro st p e rows h1 h2 h
    cases p with
    | tmp t => exact h2 t e rows h
    | cell b j => simp only [AP, h1] at h; simp at h
  have hno' : ∀ p e rows, AP ⟨[(0, .tup [])], []⟩ p ≠ some (.own e rows) := by
    intro p e rows
    refine hno _ p e rows rfl ?_
    intro t e rows h; simp only [get] at h; split at h <;> cases h
  have hb0 : ∀ b r, g.φ b ≠ some r := fun b r h => by have := (hs.lt b r h).2.2; simp at this
  refine ⟨.ret (.tup []), [], g, .tuple #[], ⟨rfl, rfl⟩, rfl, ?_, Tr.refl _ _ _, fun _ _ _ h => h, by simp, ?_⟩
  · refine { size := by simp, env := ?_, defers := rfl, inj := hs.inj, lt := fun b r h => absurd h (hb0 b r), dom := ?_, mem := ?_, iter := ?_, own := ?_, excl := ?_, apart := ?_, view := ?_ }
    · intro t x hx
      simp only [get] at hx
      split at hx
      · rename_i h; subst h; injection hx with hx; subst hx
        exact .tup [] [] rfl fun j x u h => by simp at h
      · cases hx
    · intro b k h; simp at h
    · intro b cells r h; simp at h
    · intro b s pos r h; simp at h
    · intro p e rows v h; exact absurd h (hno' p e rows)
    · rintro p p' r' ⟨e, rows, _, h, _⟩; exact absurd h (hno' p e rows)
    · rintro p r' b ⟨e, rows, _, h, _⟩; exact absurd h (hno' p e rows)
    · intro t org e rows h; simp only [get] at h; split at h <;> cases h
  · rintro r' (⟨b, hb⟩ | ⟨p, e, rows, _, h, _⟩)
    · exact absurd hb (hb0 b r')
    · exact absurd h (hno' p e rows)
end
end Go.AE

/- Sets of pairs: Make. -/
set_option linter.unusedVariables false
namespace Go.AE
open Go
/-- What is asked of slices.SortFunc. -/
structure SortOk (P : Program) (p : Nums) : Prop where
  none : CallsTo P p.slices_SortFunc_Pair [.d (.sl []), .fn (.func p.pairset_compare) [] []] [] fun o H' => o = .ret (.tup []) ∧ H' = []
  some : ∀ l : List Pair, l ≠ [] → l.length < 1000000 → CallsTo P p.slices_SortFunc_Pair [.hsl 0 0 2 l.length, .fn (.func p.pairset_compare) [] []] [.mem (rowCells (l.map Pair.row))] fun o H' => o = .ret (.tup []) ∧ H' = [.mem (rowCells ((sortP l).map Pair.row))]
theorem sortP_pw (l : List Pair) : (sortP l).Pairwise fun a b => lessP b a = false := by
  have := List.pairwise_mergeSort (le := fun x y => !lessP y x) (fun a b c h1 h2 => ?_) (fun a b => ?_) l
  · refine List.Pairwise.imp ?_ this
    intro a b h; simpa using h
  · simp only [Bool.not_eq_true'] at h1 h2 ⊢
    cases h : lessP c a with
    | false => rfl
    | true =>
      cases h3 : lessP b c with
      | true => rw [lessP_trans h3 h] at h1; cases h1
      | false => have := lessP_total h3 h2; subst this; rw [h] at h1; cases h1
  · cases h1 : lessP b a with
    | false => simp
    | true => simp [lessP_asymm h1]
theorem mem_sortP {l : List Pair} {q : Pair} : q ∈ sortP l ↔ q ∈ l := by unfold sortP; simp
theorem dd_sortP (l : List Pair) : dd (sortP l) = makeP l :=
  srt_ext (srt_dd (sortP_pw l)) (srt_makeP l) fun q => by rw [mem_dd, mem_sortP, mem_makeP]
theorem sortP_ne {l : List Pair} (h : l ≠ []) : sortP l ≠ [] := by
  intro e; have := sortP_len l; rw [e] at this; exact h (List.length_eq_zero_iff.1 this.symm)
section
theorem pairset_Make_nil {P : Program} {p : Nums} (A : All P p) (S : SortOk P p) : CallsTo P p.pairset_Make [.d (.sl [])] [] fun o H' => o = .ret (.d (.sl [])) ∧ H' = [] := by
  refine A.pairset_Make.run rfl fun R hR => ?_
  (simp (config := { maxSteps := 1000000 }) [ic_pairset_Make])
  refine AWcall_locn [] 0 (slices_Clone_Pair_nil A) (by decide) (by rfl) (by rfl) (by rfl) (by rfl) (by rfl) (by rfl) ?_
  (simp (config := { maxSteps := 1000000 }) [])
  refine AWcall_locn [] 0 S.none (by decide) (by rfl) (by rfl) (by rfl) (by rfl) (by rfl) (by rfl) ?_
  (simp (config := { maxSteps := 1000000 }) [])
  refine AWcall_locn [] 0 (slices_Compact_Pair_nil A) (by decide) (by rfl) (by rfl) (by rfl) (by rfl) (by rfl) (by rfl) ?_
  (simp (config := { maxSteps := 1000000 }) [])
  exact hR _ _ (Fin_wkv _ _ rfl (by (repeat' (first | exact True.intro | exact WkV.refl _ rfl | exact WkV.erase _ rfl | exact WkV.nild | exact WkV.nile | refine And.intro ?_ ?_ | refine WkV_agg ?_ | refine WkV_tup ?_))) ⟨rfl, rfl⟩)
theorem pairset_Make_h {P : Program} {p : Nums} (A : All P p) (S : SortOk P p) (l : List Pair) (hl : l ≠ []) (h0 : l.length < 1000000) : CallsTo P p.pairset_Make [.d (pairsD l)] [] fun o H' => o = .ret (.hsl 0 0 2 (makeP l).length) ∧ H' = [.mem (rowCells ((cptP (sortP l)).map Pair.row))] := by
  refine A.pairset_Make.run rfl fun R hR => ?_
  (simp (config := { maxSteps := 1000000 }) [ic_pairset_Make, pairsD])
  refine AWcall_locn [] 1 (slices_Clone_Pair_calls A l hl h0) (by decide) (by rfl) (by rfl) (by rfl) renB_rows (by rfl) (by rfl) ?_
  (simp (config := { maxSteps := 1000000 }) [])
  refine AWcall_locn [0] 0 (S.some l hl h0) (by decide) (by rfl) (by rfl) renB_rows renB_rows (by rfl) (by rfl) ?_
  (simp (config := { maxSteps := 1000000 }) [])
  have hs := slices_Compact_Pair_calls A (sortP l) (sortP_ne hl) (by rw [sortP_len]; exact h0)
  rw [sortP_len, dd_sortP] at hs
  refine AWcall_locn [0] 0 hs (by decide) (by rfl) (by rfl) renB_rows renB_rows (by rfl) (by rfl) ?_
  obtain ⟨n, hn⟩ : ∃ n, n = (makeP l).length := ⟨_, rfl⟩
  obtain ⟨U, hU⟩ : ∃ U, U = cptP (sortP l) := ⟨_, rfl⟩
  rw [← hn, ← hU]
  (simp (config := { maxSteps := 1000000 }) [])
  exact hR _ _ (Fin_wk' _ (.hsl 0 0 2 n) [.mem (rowCells (U.map Pair.row))] rfl (by (refine Wk.of ?_ ?_ (by simp) <;> repeat' (first | exact True.intro | exact ⟨_, rfl, wkt_same rfl⟩ | exact ⟨_, rfl, wkt_erase rfl⟩ | exact ⟨_, rfl, .inl .nild⟩ | exact ⟨_, rfl, .inl .nile⟩ | exact ⟨_, rfl, wkt_nils⟩ | exact wkt_same rfl | exact wkt_erase rfl | exact .inl .nild | exact .inl .nile | exact wkt_nils | exact WkB.same rfl | exact WkB_rows | exact WkB_nil | exact .dead _ | refine WkB_cons ?_ ?_ | refine And.intro ?_ ?_))) ⟨by rw [hn], by rw [hU]⟩)
theorem pairset_Make_calls {P : Program} {p : Nums} (A : All P p) (S : SortOk P p) (l : List Pair) (h0 : l.length < 1000000) : CallsTo P p.pairset_Make [.d (pairsD l)] [] fun o _ => o = .ret (.d (pairsD (makeP l))) := by
  by_cases hl : l = []
  · subst hl
    exact (pairset_Make_nil A S).mono fun o H' h => h.1
  · refine A.pairset_Make.run rfl fun R hR => ?_
    (simp (config := { maxSteps := 1000000 }) [ic_pairset_Make, pairsD])
    refine AWcall_locn [] 1 (slices_Clone_Pair_calls A l hl h0) (by decide) (by rfl) (by rfl) (by rfl) renB_rows (by rfl) (by rfl) ?_
    (simp (config := { maxSteps := 1000000 }) [])
    refine AWcall_locn [0] 0 (S.some l hl h0) (by decide) (by rfl) (by rfl) renB_rows renB_rows (by rfl) (by rfl) ?_
    (simp (config := { maxSteps := 1000000 }) [])
    have hs := slices_Compact_Pair_calls A (sortP l) (sortP_ne hl) (by rw [sortP_len]; exact h0)
    rw [sortP_len, dd_sortP] at hs
    refine AWcall_locn [0] 0 hs (by decide) (by rfl) (by rfl) renB_rows renB_rows (by rfl) (by rfl) ?_
    obtain ⟨n, hn⟩ : ∃ n, n = (makeP l).length := ⟨_, rfl⟩
    obtain ⟨U, hU⟩ : ∃ U, U = cptP (sortP l) := ⟨_, rfl⟩
    rw [← hn, ← hU]
    (simp (config := { maxSteps := 1000000 }) [])
    refine hR _ _ (Fin_wkv _ _ rfl (WkV.hsl 0 0 2 n _ ((makeP l).map Pair.row) rfl (by omega) ?_ (by rw [hn]; simp) (rows_len fun _ => rfl)) rfl)
    show ((rowCells (U.map Pair.row)).drop 0).take (n * 2) = rowCells ((makeP l).map Pair.row)
    rw [List.drop_zero, rowCells_take (e := 2) (rows := U.map Pair.row) (rows_len (f := Pair.row) fun _ => rfl), ← List.map_take, hU, cptP, dd_sortP, hn, List.take_left']
    rfl
end
end Go.AE

/- Sets of pairs: the fixed examples; the order. -/
set_option linter.unusedVariables false
namespace Go.AE
open Go
def pP : Pair := ⟨1, 4⟩
def pQ : Pair := ⟨0, 6⟩
theorem mk_pqp : makeP [pP, pQ, pP] = [pQ, pP] := by decide
theorem mis_qp : missA [pQ, pP] [pQ] = .tup [pP.av, AB true] := by
  have : missP [pQ, pP] [pQ] = some pP := by decide
  unfold missA; rw [this]; rfl
theorem srt_q : Srt [pQ] := List.pairwise_singleton _ _
theorem srt_p : Srt [pP] := List.pairwise_singleton _ _
theorem srt_qp : Srt [pQ, pP] := by rw [← mk_pqp]; exact srt_makeP _
section
theorem law11_awake_calls {P : Program} {p : Nums} (A : All P p) (S : SortOk P p) : CallsTo P p.law11_awake [] [] fun o _ => o = .ret (AB true) := by
  refine A.law11_awake.run rfl fun R hR => ?_
  (simp (config := { maxSteps := 1000000 }) [ic_law11_awake])
  have h1 := pairset_Make_calls A S [pP, pQ, pP] (by decide)
  rw [mk_pqp] at h1
  (refine AWcall_det h1 (by rfl) (by rfl) ?_)
  (simp (config := { maxSteps := 1000000 }) [pairsD])
  have h2 := pairset_Missing_calls A [pQ, pP] [pQ] (by decide) (by decide) srt_qp srt_q
  rw [mis_qp] at h2
  (refine AWcall_det h2 (by rfl) (by rfl) ?_)
  (simp (config := { maxSteps := 1000000 }) [Pair.av, pP])
  have h3 := ref11_Same_calls A [pQ, pP] [pQ, pP] (by decide) (by decide)
  rw [decide_eq_true rfl] at h3
  (refine AWcall_det h3 (by rfl) (by rfl) ?_)
  (simp (config := { maxSteps := 1000000 }) [])
  have h4 := pairset_Less_calls A pQ pP
  rw [show lessP pQ pP = true by decide] at h4
  (refine AWcall_det h4 (by rfl) (by rfl) ?_)
  (simp (config := { maxSteps := 1000000 }) [])
  have h5 := pairset_Less_calls A pP pP
  rw [show lessP pP pP = false by decide] at h5
  (refine AWcall_det h5 (by rfl) (by rfl) ?_)
  (simp (config := { maxSteps := 1000000 }) [])
  have h6 := pairset_Has_calls A [pQ, pP] pQ (by decide) srt_qp
  rw [show decide (pQ ∈ [pQ, pP]) = true by decide] at h6
  (refine AWcall_det h6 (by rfl) (by rfl) ?_)
  (simp (config := { maxSteps := 1000000 }) [])
  have h7 := pairset_Add_calls A [pP] pQ (by decide) srt_p
  rw [show addP [pP] pQ = [pQ, pP] by decide] at h7
  (refine AWcall_det h7 (by rfl) (by rfl) ?_)
  (simp (config := { maxSteps := 1000000 }) [])
  (refine AWcall_det h3 (by rfl) (by rfl) ?_)
  (simp (config := { maxSteps := 1000000 }) [])
  have h8 := pairset_Sorted_calls A [pP, pP] (by decide)
  rw [show sortedP [pP, pP] = false by decide] at h8
  (refine AWcall_det h8 (by rfl) (by rfl) ?_)
  (simp (config := { maxSteps := 1000000 }) [])
  have h9 := pairset_Subset_calls A [pP] [pQ, pP] (by decide) (by decide) srt_p srt_qp
  rw [show subP [pP] [pQ, pP] = true by decide] at h9
  (refine AWcall_det h9 (by rfl) (by rfl) ?_)
  (simp (config := { maxSteps := 1000000 }) [])
  have h10 := pairset_Union_calls A [pP] [pQ, pP] (by decide) (by decide)
  rw [mergeP_make srt_p srt_qp, show makeP ([pP] ++ [pQ, pP]) = [pQ, pP] by decide] at h10
  (refine AWcall_det h10 (by rfl) (by rfl) ?_)
  (simp (config := { maxSteps := 1000000 }) [])
  (refine AWcall_det h3 (by rfl) (by rfl) ?_)
  (simp (config := { maxSteps := 1000000 }) [])
  (first | exact hR _ _ (Fin_ret _ rfl rfl rfl) | exact hR _ _ (Fin_normal _ rfl rfl rfl) | exact hR _ _ (Fin_ret _ rfl rfl (by simp [AV.erase, AV.unview]; done)) | exact hR _ _ (Fin_normal _ rfl rfl (by simp [AV.erase, AV.unview]; done)) | fail "no end")
theorem law11_PairsetOrder_calls {P : Program} {p : Nums} (A : All P p) (S : SortOk P p) (a b c : Pair) : CallsTo P p.law11_PairsetOrder [a.av, b.av, c.av] [] fun o _ => o = .ret (AB true) := by
  refine A.law11_PairsetOrder.run rfl fun R hR => ?_
  (simp (config := { maxSteps := 1000000 }) [ic_law11_PairsetOrder, Pair.av])
  (refine AWcall_det (law11_awake_calls A S) (by rfl) (by rfl) ?_)
  (simp (config := { maxSteps := 1000000 }) [])
  (refine AWcall_det (pairset_Less_calls A a b) (by rfl) (by rfl) ?_)
  (simp (config := { maxSteps := 1000000 }) [])
  cases hab : lessP a b with
  | true =>
    have hba := lessP_asymm hab
    have hne := lessP_ne hab
    (simp (config := { maxSteps := 1000000 }) [hab])
    have hw : IntKind.i64.wrap 1 = 1 := by decide
    (refine AWcall_det (pairset_Less_calls A b a) (by rfl) (by rfl) ?_)
    rw [hba]
    (simp (config := { maxSteps := 1000000 }) [hw, pair_beq, hne])
    (refine AWcall_det (pairset_Less_calls A a b) (by rfl) (by rfl) ?_)
    rw [hab]
    (simp (config := { maxSteps := 1000000 }) [])
    (refine AWcall_det (pairset_Less_calls A b c) (by rfl) (by rfl) ?_)
    (simp (config := { maxSteps := 1000000 }) [])
    cases hbc : lessP b c with
    | true =>
      have hac := lessP_trans hab hbc
      (simp (config := { maxSteps := 1000000 }) [hbc])
      (refine AWcall_det (pairset_Less_calls A a c) (by rfl) (by rfl) ?_)
      rw [hac]
      (simp (config := { maxSteps := 1000000 }) [])
      (first | exact hR _ _ (Fin_ret _ rfl rfl rfl) | exact hR _ _ (Fin_normal _ rfl rfl rfl) | exact hR _ _ (Fin_ret _ rfl rfl (by simp [AV.erase, AV.unview]; done)) | exact hR _ _ (Fin_normal _ rfl rfl (by simp [AV.erase, AV.unview]; done)) | fail "no end")
    | false =>
      (simp (config := { maxSteps := 1000000 }) [hbc])
      (first | exact hR _ _ (Fin_ret _ rfl rfl rfl) | exact hR _ _ (Fin_normal _ rfl rfl rfl) | exact hR _ _ (Fin_ret _ rfl rfl (by simp [AV.erase, AV.unview]; done)) | exact hR _ _ (Fin_normal _ rfl rfl (by simp [AV.erase, AV.unview]; done)) | fail "no end")
  | false =>
    (simp (config := { maxSteps := 1000000 }) [hab])
    have hw : IntKind.i64.wrap 1 = 1 := by decide
    (refine AWcall_det (pairset_Less_calls A b a) (by rfl) (by rfl) ?_)
    (simp (config := { maxSteps := 1000000 }) [])
    cases hba : lessP b a with
    | true =>
      have hne : ¬ a = b := fun h => lessP_ne hba h.symm
      (simp (config := { maxSteps := 1000000 }) [hba, hw, pair_beq, hne])
      (refine AWcall_det (pairset_Less_calls A a b) (by rfl) (by rfl) ?_)
      rw [hab]
      (simp (config := { maxSteps := 1000000 }) [])
      (first | exact hR _ _ (Fin_ret _ rfl rfl rfl) | exact hR _ _ (Fin_normal _ rfl rfl rfl) | exact hR _ _ (Fin_ret _ rfl rfl (by simp [AV.erase, AV.unview]; done)) | exact hR _ _ (Fin_normal _ rfl rfl (by simp [AV.erase, AV.unview]; done)) | fail "no end")
    | false =>
      have he := lessP_total hab hba
      subst he
      (simp (config := { maxSteps := 1000000 }) [hba, hw, pair_beq])
      (refine AWcall_det (pairset_Less_calls A a a) (by rfl) (by rfl) ?_)
      rw [hab]
      (simp (config := { maxSteps := 1000000 }) [])
      (first | exact hR _ _ (Fin_ret _ rfl rfl rfl) | exact hR _ _ (Fin_normal _ rfl rfl rfl) | exact hR _ _ (Fin_ret _ rfl rfl (by simp [AV.erase, AV.unview]; done)) | exact hR _ _ (Fin_normal _ rfl rfl (by simp [AV.erase, AV.unview]; done)) | fail "no end")
end
end Go.AE

/- Sets of pairs: what the reference says; subsets. -/
set_option linter.unusedVariables false
namespace Go.AE
open Go
theorem same_true {a b : List Pair} (h : a = b) : decide (a = b) = true := decide_eq_true h
theorem missA_pair (a b : List Pair) : missA a b = .tup [.agg [AI ((missP a b).getD ⟨0, 0⟩).v, AI ((missP a b).getD ⟨0, 0⟩).l], AB (missP a b).isSome] := rfl
theorem subP_isSome (a b : List Pair) : subP a b = !(missP a b).isSome := by
  have := missP_subP a b
  rw [← this]; cases missP a b <;> rfl
theorem addP_ext {a : List Pair} {q : Pair} : addP a q = addP a q := rfl
section
set_option maxHeartbeats 1000000 in
theorem law11_PairsetMatchesReference_calls {P : Program} {p : Nums} (A : All P p) (S : SortOk P p) (a b : List Pair) (q : Pair) : CallsTo P p.law11_PairsetMatchesReference [.d (pairsD a), .d (pairsD b), q.av] [] fun o _ => o = .ret (AB true) := by
  refine A.law11_PairsetMatchesReference.run rfl fun R hR => ?_
  (simp (config := { maxSteps := 1000000 }) [ic_law11_PairsetMatchesReference, Pair.av, pairsD])
  (refine AWcall_det (law11_awake_calls A S) (by rfl) (by rfl) ?_)
  (simp (config := { maxSteps := 1000000 }) [])
  ((first | refine AW_cond_split _ (by rfl) (fun h1 => ?_) (fun h1 => ?_) | refine AWop_split _ (by rfl) (fun h1 => ?_) (fun h1 => ?_)) <;> (try simp only [decide_eq_true_eq, decide_eq_false_iff_not, Bool.not_eq_true', Bool.not_eq_false', Bool.and_eq_true, Bool.or_eq_true, beq_iff_eq, bne_iff_ne, ne_eq, beq_eq_false_iff_ne, bne_eq_false_iff_eq] at h1))
  · (simp (config := { maxSteps := 1000000 }) [h1])
    (refine AWcall_det (law11_awake_calls A S) (by rfl) (by rfl) ?_)
    (simp (config := { maxSteps := 1000000 }) [])
    (first | exact hR _ _ (Fin_ret _ rfl rfl rfl) | exact hR _ _ (Fin_normal _ rfl rfl rfl) | exact hR _ _ (Fin_ret _ rfl rfl (by simp [AV.erase, AV.unview]; done)) | exact hR _ _ (Fin_normal _ rfl rfl (by simp [AV.erase, AV.unview]; done)) | fail "no end")
  (simp (config := { maxSteps := 1000000 }) [h1])
  ((first | refine AW_cond_split _ (by rfl) (fun h2 => ?_) (fun h2 => ?_) | refine AWop_split _ (by rfl) (fun h2 => ?_) (fun h2 => ?_)) <;> (try simp only [decide_eq_true_eq, decide_eq_false_iff_not, Bool.not_eq_true', Bool.not_eq_false', Bool.and_eq_true, Bool.or_eq_true, beq_iff_eq, bne_iff_ne, ne_eq, beq_eq_false_iff_ne, bne_eq_false_iff_eq] at h2))
  · (simp (config := { maxSteps := 1000000 }) [h2])
    (refine AWcall_det (law11_awake_calls A S) (by rfl) (by rfl) ?_)
    (simp (config := { maxSteps := 1000000 }) [])
    (first | exact hR _ _ (Fin_ret _ rfl rfl rfl) | exact hR _ _ (Fin_normal _ rfl rfl rfl) | exact hR _ _ (Fin_ret _ rfl rfl (by simp [AV.erase, AV.unview]; done)) | exact hR _ _ (Fin_normal _ rfl rfl (by simp [AV.erase, AV.unview]; done)) | fail "no end")
  (simp (config := { maxSteps := 1000000 }) [h2])
  have hla : a.length ≤ 60 := by omega
  have hlb : b.length ≤ 60 := by omega
  (refine AWcall_det (ref11_Make_calls A a (by omega)) (by rfl) (by rfl) ?_)
  (simp (config := { maxSteps := 1000000 }) [])
  (refine AWcall_det (ref11_Make_calls A b (by omega)) (by rfl) (by rfl) ?_)
  (simp (config := { maxSteps := 1000000 }) [])
  have sx := srt_makeP a
  have sy := srt_makeP b
  have lx := makeP_len a
  have ly := makeP_len b
  obtain ⟨x, hx⟩ : ∃ x, x = makeP a := ⟨_, rfl⟩
  obtain ⟨y, hy⟩ : ∃ y, y = makeP b := ⟨_, rfl⟩
  rw [← hx] at sx lx ⊢
  rw [← hy] at sy ly ⊢
  have hm1 := pairset_Missing_calls A x y (by omega) (by omega) sx sy
  have hm2 := ref11_Missing_calls A x y (by omega) (by omega)
  rw [missA_pair] at hm1 hm2
  have hsub := subP_isSome x y
  obtain ⟨m, hm⟩ : ∃ m, m = (missP x y).getD ⟨0, 0⟩ := ⟨_, rfl⟩
  obtain ⟨z, hz⟩ : ∃ z, z = (missP x y).isSome := ⟨_, rfl⟩
  rw [← hm, ← hz] at hm1 hm2
  rw [← hz] at hsub
  (refine AWcall_det hm1 (by rfl) (by rfl) ?_)
  (simp (config := { maxSteps := 1000000 }) [])
  (refine AWcall_det hm2 (by rfl) (by rfl) ?_)
  (simp (config := { maxSteps := 1000000 }) [])
  have hrow : ∀ l : List Pair, ∀ r ∈ l.map Pair.row, r.length = 2 := fun l => rows_len fun x => rfl
  obtain ⟨u, hu⟩ : ∃ u, u = makeP (a ++ b) := ⟨_, rfl⟩
  have hmA : CallsTo P p.ref11_Make [.d (.sl (a.map Pair.row ++ b.map Pair.row))] [] fun o _ => o = .ret (.d (.sl (u.map Pair.row))) := by
    have := ref11_Make_calls A (a ++ b) (by simp; omega)
    rw [← hu] at this
    simpa [pairsD] using this
  have hmB : a.map Pair.row = [] → CallsTo P p.ref11_Make [.d (.sl (b.map Pair.row))] [] fun o _ => o = .ret (.d (.sl (u.map Pair.row))) := by
    intro e; rw [e, List.nil_append] at hmA; exact hmA
  have hmC : a.map Pair.row = [] → b.map Pair.row = [] → CallsTo P p.ref11_Make [.nile] [] fun o _ => o = .ret (.d (.sl (u.map Pair.row))) := by
    intro e e2; have := hmB e; rw [e2] at this
    exact this.wk ⟨.nile, trivial⟩
  have hmk := pairset_Make_calls A S a (by omega)
  rw [← hx] at hmk
  have hun := pairset_Union_calls A x y (by omega) (by omega)
  rw [mergeP_make sx sy] at hun
  have huu : makeP (x ++ y) = u := by
    rw [hu]
    refine srt_ext (srt_makeP _) (srt_makeP _) fun q => ?_
    rw [mem_makeP, mem_makeP, List.mem_append, List.mem_append, hx, hy, mem_makeP, mem_makeP]
  rw [huu] at hun
  have lu : u.length < 1000000 := by rw [hu]; have := makeP_len (a ++ b); simp at this; omega
  have lad := addP_len1 x q
  refine AWio_app_nile (by rfl) (by rfl) (hrow a) (by decide) (by simp; omega) (by simp; omega) (fun hn => ?_) fun hn => ?_
  all_goals (simp (config := { maxSteps := 1000000 }) [])
  refine AWio_app_nile (by rfl) (by rfl) (hrow b) (by decide) (by simp; omega) (by simp; omega) (fun hn2 => ?_) fun hn2 => ?_
  rotate_left 2
  refine AWio_app_own (by rfl) (by rfl) (by rfl) (hrow b) (by decide) (by simp; omega) (by simp; omega) ?_
  all_goals (simp (config := { maxSteps := 1000000 }) [])
  (refine AWcall_det hmA (by rfl) (by rfl) ?_)
  rotate_left 1
  (refine AWcall_det (hmC hn hn2) (by rfl) (by rfl) ?_)
  rotate_left 1
  (refine AWcall_det (hmB hn) (by rfl) (by rfl) ?_)
  all_goals
    (simp (config := { maxSteps := 1000000 }) [])
    (refine AWcall_det (pairset_Sorted_calls A a (by omega)) (by rfl) (by rfl) ?_)
    (simp (config := { maxSteps := 1000000 }) [])
    (refine AWcall_det (ref11_Sorted_calls A a (by omega)) (by rfl) (by rfl) ?_)
    (simp (config := { maxSteps := 1000000 }) [])
    (refine AWcall_det hmk (by rfl) (by rfl) ?_)
    (simp (config := { maxSteps := 1000000 }) [pairsD])
    (refine AWcall_det (ref11_Same_calls A x x (by omega) (by omega)) (by rfl) (by rfl) ?_)
    rw [same_true rfl]
    (simp (config := { maxSteps := 1000000 }) [])
    (refine AWcall_det (pairset_Has_calls A x q (by omega) sx) (by rfl) (by rfl) ?_)
    (simp (config := { maxSteps := 1000000 }) [])
    (refine AWcall_det (ref11_Has_calls A x q (by omega)) (by rfl) (by rfl) ?_)
    (simp (config := { maxSteps := 1000000 }) [])
    (refine AWcall_det (pairset_Add_calls A x q (by omega) sx) (by rfl) (by rfl) ?_)
    (simp (config := { maxSteps := 1000000 }) [pairsD])
    (refine AWcall_det (ref11_Add_calls A x q (by omega)) (by rfl) (by rfl) ?_)
    (simp (config := { maxSteps := 1000000 }) [pairsD])
    (refine AWcall_det (ref11_Same_calls A (addP x q) (addP x q) (by omega) (by omega)) (by rfl) (by rfl) ?_)
    rw [same_true rfl]
    (simp (config := { maxSteps := 1000000 }) [])
    (refine AWcall_det (pairset_Subset_calls A x y (by omega) (by omega) sx sy) (by rfl) (by rfl) ?_)
    rw [hsub]
    (simp (config := { maxSteps := 1000000 }) [])
    (refine AWcall_det hun (by rfl) (by rfl) ?_)
    (simp (config := { maxSteps := 1000000 }) [pairsD])
    (refine AWcall_det (ref11_Same_calls A u u (by omega) (by omega)) (by rfl) (by rfl) ?_)
    rw [same_true rfl]
    (simp (config := { maxSteps := 1000000 }) [])
    (first | exact hR _ _ (Fin_ret _ rfl rfl rfl) | exact hR _ _ (Fin_normal _ rfl rfl rfl) | exact hR _ _ (Fin_ret _ rfl rfl (by simp [AV.erase, AV.unview]; done)) | exact hR _ _ (Fin_normal _ rfl rfl (by simp [AV.erase, AV.unview]; done)) | fail "no end")
end
end Go.AE

/- Sets of pairs: subsets. -/
set_option linter.unusedVariables false
namespace Go.AE
open Go
theorem subP_iff {a b : List Pair} : subP a b = true ↔ ∀ q ∈ a, q ∈ b := by unfold subP; simp
section
set_option maxHeartbeats 1000000 in
theorem law11_PairsetSubsets_calls {P : Program} {p : Nums} (A : All P p) (S : SortOk P p) (a b c : List Pair) : CallsTo P p.law11_PairsetSubsets [.d (pairsD a), .d (pairsD b), .d (pairsD c)] [] fun o _ => o = .ret (AB true) := by
  refine A.law11_PairsetSubsets.run rfl fun R hR => ?_
  (simp (config := { maxSteps := 1000000 }) [ic_law11_PairsetSubsets, pairsD])
  (refine AWcall_det (law11_awake_calls A S) (by rfl) (by rfl) ?_)
  (simp (config := { maxSteps := 1000000 }) [])
  ((first | refine AW_cond_split _ (by rfl) (fun h1 => ?_) (fun h1 => ?_) | refine AWop_split _ (by rfl) (fun h1 => ?_) (fun h1 => ?_)) <;> (try simp only [decide_eq_true_eq, decide_eq_false_iff_not, Bool.not_eq_true', Bool.not_eq_false', Bool.and_eq_true, Bool.or_eq_true, beq_iff_eq, bne_iff_ne, ne_eq, beq_eq_false_iff_ne, bne_eq_false_iff_eq] at h1))
  · (simp (config := { maxSteps := 1000000 }) [h1])
    (refine AWcall_det (law11_awake_calls A S) (by rfl) (by rfl) ?_)
    (simp (config := { maxSteps := 1000000 }) [])
    (first | exact hR _ _ (Fin_ret _ rfl rfl rfl) | exact hR _ _ (Fin_normal _ rfl rfl rfl) | exact hR _ _ (Fin_ret _ rfl rfl (by simp [AV.erase, AV.unview]; done)) | exact hR _ _ (Fin_normal _ rfl rfl (by simp [AV.erase, AV.unview]; done)) | fail "no end")
  (simp (config := { maxSteps := 1000000 }) [h1])
  ((first | refine AW_cond_split _ (by rfl) (fun h2 => ?_) (fun h2 => ?_) | refine AWop_split _ (by rfl) (fun h2 => ?_) (fun h2 => ?_)) <;> (try simp only [decide_eq_true_eq, decide_eq_false_iff_not, Bool.not_eq_true', Bool.not_eq_false', Bool.and_eq_true, Bool.or_eq_true, beq_iff_eq, bne_iff_ne, ne_eq, beq_eq_false_iff_ne, bne_eq_false_iff_eq] at h2))
  · (simp (config := { maxSteps := 1000000 }) [h2])
    (refine AWcall_det (law11_awake_calls A S) (by rfl) (by rfl) ?_)
    (simp (config := { maxSteps := 1000000 }) [])
    (first | exact hR _ _ (Fin_ret _ rfl rfl rfl) | exact hR _ _ (Fin_normal _ rfl rfl rfl) | exact hR _ _ (Fin_ret _ rfl rfl (by simp [AV.erase, AV.unview]; done)) | exact hR _ _ (Fin_normal _ rfl rfl (by simp [AV.erase, AV.unview]; done)) | fail "no end")
  (simp (config := { maxSteps := 1000000 }) [h2])
  ((first | refine AW_cond_split _ (by rfl) (fun h3 => ?_) (fun h3 => ?_) | refine AWop_split _ (by rfl) (fun h3 => ?_) (fun h3 => ?_)) <;> (try simp only [decide_eq_true_eq, decide_eq_false_iff_not, Bool.not_eq_true', Bool.not_eq_false', Bool.and_eq_true, Bool.or_eq_true, beq_iff_eq, bne_iff_ne, ne_eq, beq_eq_false_iff_ne, bne_eq_false_iff_eq] at h3))
  · (simp (config := { maxSteps := 1000000 }) [h3])
    (refine AWcall_det (law11_awake_calls A S) (by rfl) (by rfl) ?_)
    (simp (config := { maxSteps := 1000000 }) [])
    (first | exact hR _ _ (Fin_ret _ rfl rfl rfl) | exact hR _ _ (Fin_normal _ rfl rfl rfl) | exact hR _ _ (Fin_ret _ rfl rfl (by simp [AV.erase, AV.unview]; done)) | exact hR _ _ (Fin_normal _ rfl rfl (by simp [AV.erase, AV.unview]; done)) | fail "no end")
  (simp (config := { maxSteps := 1000000 }) [h3])
  have sx := srt_makeP a
  have sy := srt_makeP b
  have sz := srt_makeP c
  have lx := makeP_len a
  have ly := makeP_len b
  have lz := makeP_len c
  have hmx := pairset_Make_calls A S a (by omega)
  have hmy := pairset_Make_calls A S b (by omega)
  have hmz := pairset_Make_calls A S c (by omega)
  obtain ⟨x, hx⟩ : ∃ x, x = makeP a := ⟨_, rfl⟩
  obtain ⟨y, hy⟩ : ∃ y, y = makeP b := ⟨_, rfl⟩
  obtain ⟨z, hz⟩ : ∃ z, z = makeP c := ⟨_, rfl⟩
  rw [← hx] at sx lx hmx
  rw [← hy] at sy ly hmy
  rw [← hz] at sz lz hmz
  have hun := pairset_Union_calls A x y (by omega) (by omega)
  rw [mergeP_make sx sy] at hun
  have su := srt_makeP (x ++ y)
  have lu := makeP_len (x ++ y)
  have mu : ∀ q, q ∈ makeP (x ++ y) ↔ q ∈ x ∨ q ∈ y := fun q => by rw [mem_makeP, List.mem_append]
  obtain ⟨u, hu⟩ : ∃ u, u = makeP (x ++ y) := ⟨_, rfl⟩
  rw [← hu] at hun su lu mu
  rw [List.length_append] at lu
  have hvn := pairset_Union_calls A z u (by omega) (by omega)
  rw [mergeP_make sz su] at hvn
  have sv := srt_makeP (z ++ u)
  have lv := makeP_len (z ++ u)
  have mv : ∀ q, q ∈ makeP (z ++ u) ↔ q ∈ z ∨ q ∈ u := fun q => by rw [mem_makeP, List.mem_append]
  obtain ⟨v, hv⟩ : ∃ v, v = makeP (z ++ u) := ⟨_, rfl⟩
  rw [← hv] at hvn sv lv mv
  rw [List.length_append] at lv
  have e1 : subP x u = true := subP_iff.2 fun q hq => (mu q).2 (.inl hq)
  have e2 : subP y u = true := subP_iff.2 fun q hq => (mu q).2 (.inr hq)
  have e3 : subP v u = subP z u := by
    have : (subP v u = true) ↔ (subP z u = true) := by
      rw [subP_iff, subP_iff]
      exact ⟨fun h q hq => h q ((mv q).2 (.inl hq)), fun h q hq => ((mv q).1 hq).elim (h q) id⟩
    cases h : subP v u <;> cases h' : subP z u <;> simp_all
  have e4 : subP x y = true → subP y z = true → subP x z = true := fun h h' => subP_iff.2 fun q hq => subP_iff.1 h' q (subP_iff.1 h q hq)
  have e5 : (subP x y && subP y x) = decide (x = y) := by
    by_cases h : x = y
    · subst h
      have : subP x x = true := subP_iff.2 fun q hq => hq
      simp [this]
    · rw [decide_eq_false h]
      cases h1 : subP x y <;> cases h2 : subP y x <;> simp
      exact h (srt_ext sx sy fun q => ⟨subP_iff.1 h1 q, subP_iff.1 h2 q⟩)
  (refine AWcall_det hmx (by rfl) (by rfl) ?_)
  (simp (config := { maxSteps := 1000000 }) [pairsD])
  (refine AWcall_det hmy (by rfl) (by rfl) ?_)
  (simp (config := { maxSteps := 1000000 }) [pairsD])
  (refine AWcall_det hmz (by rfl) (by rfl) ?_)
  (simp (config := { maxSteps := 1000000 }) [pairsD])
  (refine AWcall_det hun (by rfl) (by rfl) ?_)
  (simp (config := { maxSteps := 1000000 }) [pairsD])
  (refine AWcall_det (pairset_Subset_calls A x u (by omega) (by omega) sx su) (by rfl) (by rfl) ?_)
  rw [e1]
  (simp (config := { maxSteps := 1000000 }) [])
  (refine AWcall_det (pairset_Subset_calls A y u (by omega) (by omega) sy su) (by rfl) (by rfl) ?_)
  rw [e2]
  (simp (config := { maxSteps := 1000000 }) [])
  (refine AWcall_det (pairset_Subset_calls A z u (by omega) (by omega) sz su) (by rfl) (by rfl) ?_)
  (simp (config := { maxSteps := 1000000 }) [])
  (refine AWcall_det hvn (by rfl) (by rfl) ?_)
  (simp (config := { maxSteps := 1000000 }) [pairsD])
  (refine AWcall_det (pairset_Subset_calls A v u (by omega) (by omega) sv su) (by rfl) (by rfl) ?_)
  rw [e3]
  (simp (config := { maxSteps := 1000000 }) [])
  (refine AWcall_det (pairset_Subset_calls A x y (by omega) (by omega) sx sy) (by rfl) (by rfl) ?_)
  (simp (config := { maxSteps := 1000000 }) [])
  have hs := ref11_Same_calls A x y (by omega) (by omega)
  rw [← e5] at hs
  cases hxy : subP x y with
  | false =>
    rw [hxy] at hs
    (simp (config := { maxSteps := 1000000 }) [hxy])
    (refine AWcall_det hs (by rfl) (by rfl) ?_)
    (simp (config := { maxSteps := 1000000 }) [])
    (refine AWcall_det (pairset_Subset_calls A x y (by omega) (by omega) sx sy) (by rfl) (by rfl) ?_)
    rw [hxy]
    (simp (config := { maxSteps := 1000000 }) [])
    (first | exact hR _ _ (Fin_ret _ rfl rfl rfl) | exact hR _ _ (Fin_normal _ rfl rfl rfl) | exact hR _ _ (Fin_ret _ rfl rfl (by simp [AV.erase, AV.unview]; done)) | exact hR _ _ (Fin_normal _ rfl rfl (by simp [AV.erase, AV.unview]; done)) | fail "no end")
  | true =>
    rw [hxy] at hs
    (simp (config := { maxSteps := 1000000 }) [hxy])
    (refine AWcall_det (pairset_Subset_calls A y z (by omega) (by omega) sy sz) (by rfl) (by rfl) ?_)
    (simp (config := { maxSteps := 1000000 }) [])
    cases hyz : subP y z with
    | false =>
      (simp (config := { maxSteps := 1000000 }) [hyz])
      (refine AWcall_det hs (by rfl) (by rfl) ?_)
      (simp (config := { maxSteps := 1000000 }) [])
      (refine AWcall_det (pairset_Subset_calls A x y (by omega) (by omega) sx sy) (by rfl) (by rfl) ?_)
      rw [hxy]
      (simp (config := { maxSteps := 1000000 }) [])
      (refine AWcall_det (pairset_Subset_calls A y x (by omega) (by omega) sy sx) (by rfl) (by rfl) ?_)
      (simp (config := { maxSteps := 1000000 }) [])
      (first | exact hR _ _ (Fin_ret _ rfl rfl rfl) | exact hR _ _ (Fin_normal _ rfl rfl rfl) | exact hR _ _ (Fin_ret _ rfl rfl (by simp [AV.erase, AV.unview]; done)) | exact hR _ _ (Fin_normal _ rfl rfl (by simp [AV.erase, AV.unview]; done)) | fail "no end")
    | true =>
      (simp (config := { maxSteps := 1000000 }) [hyz])
      (refine AWcall_det (pairset_Subset_calls A x z (by omega) (by omega) sx sz) (by rfl) (by rfl) ?_)
      rw [e4 hxy hyz]
      (simp (config := { maxSteps := 1000000 }) [])
      (refine AWcall_det hs (by rfl) (by rfl) ?_)
      (simp (config := { maxSteps := 1000000 }) [])
      (refine AWcall_det (pairset_Subset_calls A x y (by omega) (by omega) sx sy) (by rfl) (by rfl) ?_)
      rw [hxy]
      (simp (config := { maxSteps := 1000000 }) [])
      (refine AWcall_det (pairset_Subset_calls A y x (by omega) (by omega) sy sx) (by rfl) (by rfl) ?_)
      (simp (config := { maxSteps := 1000000 }) [])
      (first | exact hR _ _ (Fin_ret _ rfl rfl rfl) | exact hR _ _ (Fin_normal _ rfl rfl rfl) | exact hR _ _ (Fin_ret _ rfl rfl (by simp [AV.erase, AV.unview]; done)) | exact hR _ _ (Fin_normal _ rfl rfl (by simp [AV.erase, AV.unview]; done)) | fail "no end")
end
end Go.AE

/- Sets of pairs: the set of some pairs. -/
set_option linter.unusedVariables false
namespace Go.AE
open Go
def backP (l : List Pair) : List Pair := l.flatMap fun q => [q, q]
theorem backP_cons (q : Pair) (l : List Pair) : backP (q :: l) = [q, q] ++ backP l := rfl
section
set_option maxHeartbeats 1000000 in
theorem law11_PairsetMatchesSets_calls {P : Program} {p : Nums} (A : All P p) (S : SortOk P p) (a : List Pair) (q : Pair) : CallsTo P p.law11_PairsetMatchesSets [.d (pairsD a), q.av] [] fun o _ => o = .ret (AB true) := by
  refine A.law11_PairsetMatchesSets.run rfl fun R hR => ?_
  (simp (config := { maxSteps := 1000000 }) [ic_law11_PairsetMatchesSets, Pair.av, pairsD])
  (refine AWcall_det (law11_awake_calls A S) (by rfl) (by rfl) ?_)
  (simp (config := { maxSteps := 1000000 }) [])
  ((first | refine AW_cond_split _ (by rfl) (fun h1 => ?_) (fun h1 => ?_) | refine AWop_split _ (by rfl) (fun h1 => ?_) (fun h1 => ?_)) <;> (try simp only [decide_eq_true_eq, decide_eq_false_iff_not, Bool.not_eq_true', Bool.not_eq_false', Bool.and_eq_true, Bool.or_eq_true, beq_iff_eq, bne_iff_ne, ne_eq, beq_eq_false_iff_ne, bne_eq_false_iff_eq] at h1))
  · (simp (config := { maxSteps := 1000000 }) [h1])
    (refine AWcall_det (law11_awake_calls A S) (by rfl) (by rfl) ?_)
    (simp (config := { maxSteps := 1000000 }) [])
    (first | exact hR _ _ (Fin_ret _ rfl rfl rfl) | exact hR _ _ (Fin_normal _ rfl rfl rfl) | exact hR _ _ (Fin_ret _ rfl rfl (by simp [AV.erase, AV.unview]; done)) | exact hR _ _ (Fin_normal _ rfl rfl (by simp [AV.erase, AV.unview]; done)) | fail "no end")
  (simp (config := { maxSteps := 1000000 }) [h1])
  have sx := srt_makeP a
  have lx := makeP_len a
  have mx : ∀ q, q ∈ makeP a ↔ q ∈ a := fun q => mem_makeP
  have hmx := pairset_Make_calls A S a (by omega)
  have hts : ∀ k (h : k < a.length), makeP (a.take (k + 1)) = addP (makeP (a.take k)) a[k] := fun k h => makeP_succ h
  obtain ⟨x, hx⟩ : ∃ x, x = makeP a := ⟨_, rfl⟩
  rw [← hx] at sx lx hmx mx
  (refine AWcall_det hmx (by rfl) (by rfl) ?_)
  (simp (config := { maxSteps := 1000000 }) [pairsD])
  (refine AWcall_det (pairset_Sorted_calls A x (by omega)) (by rfl) (by rfl) ?_)
  rw [sortedP_srt.2 sx]
  (simp (config := { maxSteps := 1000000 }) [])
  (refine AWcall_det (pairset_Has_calls A x q (by omega) sx) (by rfl) (by rfl) ?_)
  (simp (config := { maxSteps := 1000000 }) [])
  (refine AWcall_det (ref11_Has_calls A a q (by omega)) (by rfl) (by rfl) ?_)
  have e1 : decide (q ∈ x) = decide (q ∈ a) := by simp [mx]
  rw [e1]
  (simp (config := { maxSteps := 1000000 }) [])
  refine AW_loop (fun k : Nat => ⟨[(6, AI k), (5, .d (.sl (x.map Pair.row))), (4, AB false), (3, .ptr 0 0), (0, .d (.sl (a.map Pair.row)))], [.mem [AI q.v, AI q.l]]⟩) (fun k => k ≤ a.length) (fun k => a.length - k) 0 (by simp) (by (refine Wk.of ?_ ?_ (by simp) <;> repeat' (first | exact True.intro | exact ⟨_, rfl, wkt_same rfl⟩ | exact ⟨_, rfl, wkt_erase rfl⟩ | exact ⟨_, rfl, .inl .nild⟩ | exact ⟨_, rfl, .inl .nile⟩ | exact ⟨_, rfl, wkt_nils⟩ | exact wkt_same rfl | exact wkt_erase rfl | exact .inl .nild | exact .inl .nile | exact wkt_nils | exact WkB.same rfl | exact WkB_rows | exact WkB_nil | exact .dead _ | refine WkB_cons ?_ ?_ | refine And.intro ?_ ?_))) ?_
  intro k hk N hN
  (simp (config := { maxSteps := 1000000 }) [])
  ((first | refine AW_cond_split _ (by rfl) (fun h2 => ?_) (fun h2 => ?_) | refine AWop_split _ (by rfl) (fun h2 => ?_) (fun h2 => ?_)) <;> (try simp only [decide_eq_true_eq, decide_eq_false_iff_not, Bool.not_eq_true', Bool.not_eq_false', Bool.and_eq_true, Bool.or_eq_true, beq_iff_eq, bne_iff_ne, ne_eq, beq_eq_false_iff_ne, bne_eq_false_iff_eq] at h2))
  · have hkl : k < a.length := by omega
    have hb : a[k]? = some a[k] := by simp
    have hw := wrap_succ (k := k) (by omega)
    (simp (config := { maxSteps := 1000000 }) [h2, hb, Pair.row])
    (refine AWcall_det (pairset_Has_calls A x a[k] (by omega) sx) (by rfl) (by rfl) ?_)
    rw [decide_eq_true ((mx _).2 (List.getElem_mem hkl))]
    (simp (config := { maxSteps := 1000000 }) [hw])
    exact hN _ (k + 1) hkl (by (refine Wk.of ?_ ?_ (by simp) <;> repeat' (first | exact True.intro | exact ⟨_, rfl, wkt_same rfl⟩ | exact ⟨_, rfl, wkt_erase rfl⟩ | exact ⟨_, rfl, .inl .nild⟩ | exact ⟨_, rfl, .inl .nile⟩ | exact ⟨_, rfl, wkt_nils⟩ | exact wkt_same rfl | exact wkt_erase rfl | exact .inl .nild | exact .inl .nile | exact wkt_nils | exact WkB.same rfl | exact WkB_rows | exact WkB_nil | exact .dead _ | refine WkB_cons ?_ ?_ | refine And.intro ?_ ?_))) (by omega)
  (simp (config := { maxSteps := 1000000 }) [])
  refine AW_loop (fun k : Nat => ⟨[(7, AI k), (5, .d (.sl (x.map Pair.row))), (4, AB false), (0, .d (.sl (a.map Pair.row)))], []⟩) (fun k => k ≤ x.length) (fun k => x.length - k) 0 (by simp) (by (refine Wk.of ?_ ?_ (by simp) <;> repeat' (first | exact True.intro | exact ⟨_, rfl, wkt_same rfl⟩ | exact ⟨_, rfl, wkt_erase rfl⟩ | exact ⟨_, rfl, .inl .nild⟩ | exact ⟨_, rfl, .inl .nile⟩ | exact ⟨_, rfl, wkt_nils⟩ | exact wkt_same rfl | exact wkt_erase rfl | exact .inl .nild | exact .inl .nile | exact wkt_nils | exact WkB.same rfl | exact WkB_rows | exact WkB_nil | exact .dead _ | refine WkB_cons ?_ ?_ | refine And.intro ?_ ?_))) ?_
  intro k hk N hN
  (simp (config := { maxSteps := 1000000 }) [])
  ((first | refine AW_cond_split _ (by rfl) (fun h2 => ?_) (fun h2 => ?_) | refine AWop_split _ (by rfl) (fun h2 => ?_) (fun h2 => ?_)) <;> (try simp only [decide_eq_true_eq, decide_eq_false_iff_not, Bool.not_eq_true', Bool.not_eq_false', Bool.and_eq_true, Bool.or_eq_true, beq_iff_eq, bne_iff_ne, ne_eq, beq_eq_false_iff_ne, bne_eq_false_iff_eq] at h2))
  · have hkl : k < x.length := by omega
    have hb : x[k]? = some x[k] := by simp
    have hw := wrap_succ (k := k) (by omega)
    (simp (config := { maxSteps := 1000000 }) [h2, hb, Pair.row])
    (refine AWcall_det (ref11_Has_calls A a x[k] (by omega)) (by rfl) (by rfl) ?_)
    rw [decide_eq_true ((mx _).1 (List.getElem_mem hkl))]
    (simp (config := { maxSteps := 1000000 }) [hw])
    exact hN _ (k + 1) hkl (by (refine Wk.of ?_ ?_ (by simp) <;> repeat' (first | exact True.intro | exact ⟨_, rfl, wkt_same rfl⟩ | exact ⟨_, rfl, wkt_erase rfl⟩ | exact ⟨_, rfl, .inl .nild⟩ | exact ⟨_, rfl, .inl .nile⟩ | exact ⟨_, rfl, wkt_nils⟩ | exact wkt_same rfl | exact wkt_erase rfl | exact .inl .nild | exact .inl .nile | exact wkt_nils | exact WkB.same rfl | exact WkB_rows | exact WkB_nil | exact .dead _ | refine WkB_cons ?_ ?_ | refine And.intro ?_ ?_))) (by omega)
  have hw0 : IntKind.i64.wrap ((a.length : Int) - 1) = (a.length : Int) - 1 := by rw [wrap_i64 (by omega) (by omega)]
  (simp (config := { maxSteps := 1000000 }) [hw0])
  obtain ⟨n, hn⟩ : ∃ n, n = a.length := ⟨_, rfl⟩
  have bk0 : (a.drop (n - 0)).reverse = [] := by rw [hn]; simp
  have bkS : ∀ k (h : k < n), (a.drop (n - (k + 1))).reverse = (a.drop (n - k)).reverse ++ [a[n - (k + 1)]'(by omega)] := by
    intro k h
    have e : n - k = n - (k + 1) + 1 := by omega
    rw [List.drop_eq_getElem_cons (show n - (k + 1) < a.length by omega), e, List.reverse_cons]
  obtain ⟨B, hB⟩ : ∃ B : Nat → List Pair, B = fun k => (a.drop (n - k)).reverse.flatMap fun q => [q, q] := ⟨_, rfl⟩
  have hB0 : B 0 = [] := by rw [hB]; simp only [bk0, List.flatMap_nil]
  have hBS : ∀ k (h : k < n), B (k + 1) = B k ++ [a[n - (k + 1)]'(by omega), a[n - (k + 1)]'(by omega)] := by
    intro k h; rw [hB]; simp only; rw [bkS k h, List.flatMap_append]; rfl
  have hBn : ∀ q, q ∈ B n ↔ q ∈ a := by intro q; rw [hB]; simp
  have hBl : ∀ k, k ≤ n → (B k).length = 2 * k := by
    intro k
    induction k with
    | zero => intro _; rw [hB0]; rfl
    | succ k ih => intro h; rw [hBS k h, List.length_append, ih (by omega)]; simp; omega
  have hrow : ∀ l : List Pair, ∀ r ∈ l.map Pair.row, r.length = 2 := fun l => rows_len fun x => rfl
  refine AW_loop (fun k : Nat => ⟨[(9, AI ((a.length : Int) - 1 - k)), (8, if k = 0 then .nile else .own 2 ((B k).map Pair.row)), (5, .d (.sl (x.map Pair.row))), (4, AB false), (0, .d (.sl (a.map Pair.row)))], []⟩) (fun k => k ≤ n) (fun k => n - k) 0 (by simp) (by rw [show (a.length : Int) - 1 - ((0 : Nat) : Int) = (a.length : Int) - 1 by omega]; simp only [if_pos]; (refine Wk.of ?_ ?_ (by simp) <;> repeat' (first | exact True.intro | exact ⟨_, rfl, wkt_same rfl⟩ | exact ⟨_, rfl, wkt_erase rfl⟩ | exact ⟨_, rfl, .inl .nild⟩ | exact ⟨_, rfl, .inl .nile⟩ | exact ⟨_, rfl, wkt_nils⟩ | exact wkt_same rfl | exact wkt_erase rfl | exact .inl .nild | exact .inl .nile | exact wkt_nils | exact WkB.same rfl | exact WkB_rows | exact WkB_nil | exact .dead _ | refine WkB_cons ?_ ?_ | refine And.intro ?_ ?_))) ?_
  intro k hk N hN
  (simp (config := { maxSteps := 1000000 }) [])
  ((first | refine AW_cond_split _ (by rfl) (fun h3 => ?_) (fun h3 => ?_) | refine AWop_split _ (by rfl) (fun h3 => ?_) (fun h3 => ?_)) <;> (try simp only [decide_eq_true_eq, decide_eq_false_iff_not, Bool.not_eq_true', Bool.not_eq_false', Bool.and_eq_true, Bool.or_eq_true, beq_iff_eq, bne_iff_ne, ne_eq, beq_eq_false_iff_ne, bne_eq_false_iff_eq] at h3))
  · have hkl : k < n := by omega
    have hix : ((a.length : Int) - 1 - k).toNat = n - (k + 1) := by omega
    have h0 : (0 : Int) ≤ (a.length : Int) - 1 - k := by omega
    have hb : a[n - (k + 1)]? = some (a[n - (k + 1)]'(by omega)) := by simp
    have hw : IntKind.i64.wrap ((a.length : Int) - 1 - k - 1) = (a.length : Int) - 1 - ((k + 1 : Nat) : Int) := by rw [wrap_i64 (by omega) (by omega)]; omega
    have hs := hBS k hkl
    have hbl := hBl k hk
    obtain ⟨ix, hixx⟩ : ∃ ix, ix = (a.length : Int) - 1 - k := ⟨_, rfl⟩
    obtain ⟨y, hy⟩ : ∃ y, y = a[n - (k + 1)]'(by omega) := ⟨_, rfl⟩
    rw [← hixx] at hix h0 hw
    rw [← hy] at hb hs
    rw [← hixx]
    have next : ∀ st', Wk 0 st' ⟨[(9, AI ((a.length : Int) - 1 - ((k + 1 : Nat) : Int))), (8, .own 2 ((B (k + 1)).map Pair.row)), (5, .d (.sl (x.map Pair.row))), (4, AB false), (0, .d (.sl (a.map Pair.row)))], []⟩ → N st' := by
      intro st' h
      refine hN st' (k + 1) hkl ?_ (by omega)
      rw [if_neg (by omega)]; exact h
    rw [hs] at next
    cases k with
    | zero =>
      rw [hB0] at next
      (simp (config := { maxSteps := 1000000 }) [h3, h0, hix, hb, Pair.row])
      refine AWio_app_nile (by rfl) (by rfl) (by simp) (by decide) (by simp) (by simp) (fun hn => by cases hn) fun _ => ?_
      (simp (config := { maxSteps := 1000000 }) [hw])
      exact next _ (by simp [Pair.row]; (refine Wk.of ?_ ?_ (by simp) <;> repeat' (first | exact True.intro | exact ⟨_, rfl, wkt_same rfl⟩ | exact ⟨_, rfl, wkt_erase rfl⟩ | exact ⟨_, rfl, .inl .nild⟩ | exact ⟨_, rfl, .inl .nile⟩ | exact ⟨_, rfl, wkt_nils⟩ | exact wkt_same rfl | exact wkt_erase rfl | exact .inl .nild | exact .inl .nile | exact wkt_nils | exact WkB.same rfl | exact WkB_rows | exact WkB_nil | exact .dead _ | refine WkB_cons ?_ ?_ | refine And.intro ?_ ?_)))
    | succ k =>
      (simp (config := { maxSteps := 1000000 }) [h3, h0, hix, hb, Pair.row])
      (refine AWio_app_own (by rfl) (by rfl) (by rfl) ?_ (by decide) ?_ ?_ ?_)
      · simp
      · simp; omega
      · simp; omega
      (simp (config := { maxSteps := 1000000 }) [hw])
      exact next _ (by simp [Pair.row]; (refine Wk.of ?_ ?_ (by simp) <;> repeat' (first | exact True.intro | exact ⟨_, rfl, wkt_same rfl⟩ | exact ⟨_, rfl, wkt_erase rfl⟩ | exact ⟨_, rfl, .inl .nild⟩ | exact ⟨_, rfl, .inl .nile⟩ | exact ⟨_, rfl, wkt_nils⟩ | exact wkt_same rfl | exact wkt_erase rfl | exact .inl .nild | exact .inl .nile | exact wkt_nils | exact WkB.same rfl | exact WkB_rows | exact WkB_nil | exact .dead _ | refine WkB_cons ?_ ?_ | refine And.intro ?_ ?_)))
  have hkn : k = n := by omega
  subst hkn
  have hmn : CallsTo P p.pairset_Make [.nils] [] fun o _ => o = .ret (.d (.sl [])) := (pairset_Make_calls A S [] (by decide)).wk ⟨.nild, trivial⟩
  have hmB : CallsTo P p.pairset_Make [.d (.sl ((B k).map Pair.row))] [] fun o _ => o = .ret (.d (.sl (x.map Pair.row))) := by
    have h4 := pairset_Make_calls A S (B k) (by rw [hBl k (Nat.le_refl _)]; omega)
    have : makeP (B k) = x := by
      refine srt_ext (srt_makeP _) sx fun q => ?_
      rw [mem_makeP, hBn, mx]
    rw [this] at h4; exact h4
  have hs := ref11_Same_calls A x x (by omega) (by omega)
  rw [decide_eq_true rfl] at hs
  have hta : makeP (a.take a.length) = x := by rw [List.take_length, hx]
  have hz0 : k = 0 → (B k).map Pair.row = [] := by intro h0; subst h0; rw [hB0]; rfl
  obtain ⟨rows, hrows⟩ : ∃ rows, rows = (B k).map Pair.row := ⟨_, rfl⟩
  rw [← hrows] at hmB hz0 ⊢
  by_cases h0 : k = 0
  · have hr0 := hz0 h0
    clear hz0
    clear hrows
    subst hr0
    rw [if_pos h0]
    (simp (config := { maxSteps := 1000000 }) [])
    (refine AWcall_det hmn (by rfl) (by rfl) ?_)
    (simp (config := { maxSteps := 1000000 }) [])
    refine AW_loop (fun k : Nat => ⟨[(11, AI k), (10, .d (.sl ((makeP (a.take k)).map Pair.row))), (8, .d (.sl [])), (5, .d (.sl (x.map Pair.row))), (4, AB false), (0, .d (.sl (a.map Pair.row)))], []⟩) (fun k => k ≤ a.length) (fun k => a.length - k) 0 (by simp) (by simp only [List.take_zero, makeP_nil, List.map_nil]; (refine Wk.of ?_ ?_ (by simp) <;> repeat' (first | exact True.intro | exact ⟨_, rfl, wkt_same rfl⟩ | exact ⟨_, rfl, wkt_erase rfl⟩ | exact ⟨_, rfl, .inl .nild⟩ | exact ⟨_, rfl, .inl .nile⟩ | exact ⟨_, rfl, wkt_nils⟩ | exact wkt_same rfl | exact wkt_erase rfl | exact .inl .nild | exact .inl .nile | exact wkt_nils | exact WkB.same rfl | exact WkB_rows | exact WkB_nil | exact .dead _ | refine WkB_cons ?_ ?_ | refine And.intro ?_ ?_))) ?_
    intro j hj N2 hN2
    (simp (config := { maxSteps := 1000000 }) [])
    ((first | refine AW_cond_split _ (by rfl) (fun h4 => ?_) (fun h4 => ?_) | refine AWop_split _ (by rfl) (fun h4 => ?_) (fun h4 => ?_)) <;> (try simp only [decide_eq_true_eq, decide_eq_false_iff_not, Bool.not_eq_true', Bool.not_eq_false', Bool.and_eq_true, Bool.or_eq_true, beq_iff_eq, bne_iff_ne, ne_eq, beq_eq_false_iff_ne, bne_eq_false_iff_eq] at h4))
    · have hjl : j < a.length := by omega
      have hb : a[j]? = some a[j] := by simp
      have hw := wrap_succ (k := j) (by omega)
      have hml := makeP_len (a.take j)
      rw [List.length_take] at hml
      (simp (config := { maxSteps := 1000000 }) [h4, hb, Pair.row])
      (refine AWcall_det (pairset_Add_calls A (makeP (a.take j)) a[j] (by omega) (srt_makeP _)) (by rfl) (by rfl) ?_)
      rw [← hts j hjl]
      (simp (config := { maxSteps := 1000000 }) [hw, pairsD])
      exact hN2 _ (j + 1) hjl (by (refine Wk.of ?_ ?_ (by simp) <;> repeat' (first | exact True.intro | exact ⟨_, rfl, wkt_same rfl⟩ | exact ⟨_, rfl, wkt_erase rfl⟩ | exact ⟨_, rfl, .inl .nild⟩ | exact ⟨_, rfl, .inl .nile⟩ | exact ⟨_, rfl, wkt_nils⟩ | exact wkt_same rfl | exact wkt_erase rfl | exact .inl .nild | exact .inl .nile | exact wkt_nils | exact WkB.same rfl | exact WkB_rows | exact WkB_nil | exact .dead _ | refine WkB_cons ?_ ?_ | refine And.intro ?_ ?_))) (by omega)
    · have hj' : j = a.length := by omega
      subst hj'
      rw [hta]
      (simp (config := { maxSteps := 1000000 }) [])
      (refine AWcall_det hmB (by rfl) (by rfl) ?_)
      (simp (config := { maxSteps := 1000000 }) [])
      (refine AWcall_det hs (by rfl) (by rfl) ?_)
      (simp (config := { maxSteps := 1000000 }) [])
      (refine AWcall_det hs (by rfl) (by rfl) ?_)
      (simp (config := { maxSteps := 1000000 }) [])
      (first | exact hR _ _ (Fin_ret _ rfl rfl rfl) | exact hR _ _ (Fin_normal _ rfl rfl rfl) | exact hR _ _ (Fin_ret _ rfl rfl (by simp [AV.erase, AV.unview]; done)) | exact hR _ _ (Fin_normal _ rfl rfl (by simp [AV.erase, AV.unview]; done)) | fail "no end")
  · rw [if_neg h0]
    (simp (config := { maxSteps := 1000000 }) [])
    (refine AWcall_det hmn (by rfl) (by rfl) ?_)
    (simp (config := { maxSteps := 1000000 }) [])
    refine AW_loop (fun k : Nat => ⟨[(11, AI k), (10, .d (.sl ((makeP (a.take k)).map Pair.row))), (8, .d (.sl rows)), (5, .d (.sl (x.map Pair.row))), (4, AB false), (0, .d (.sl (a.map Pair.row)))], []⟩) (fun k => k ≤ a.length) (fun k => a.length - k) 0 (by simp) (by simp only [List.take_zero, makeP_nil, List.map_nil]; (refine Wk.of ?_ ?_ (by simp) <;> repeat' (first | exact True.intro | exact ⟨_, rfl, wkt_same rfl⟩ | exact ⟨_, rfl, wkt_erase rfl⟩ | exact ⟨_, rfl, .inl .nild⟩ | exact ⟨_, rfl, .inl .nile⟩ | exact ⟨_, rfl, wkt_nils⟩ | exact wkt_same rfl | exact wkt_erase rfl | exact .inl .nild | exact .inl .nile | exact wkt_nils | exact WkB.same rfl | exact WkB_rows | exact WkB_nil | exact .dead _ | refine WkB_cons ?_ ?_ | refine And.intro ?_ ?_))) ?_
    intro j hj N2 hN2
    (simp (config := { maxSteps := 1000000 }) [])
    ((first | refine AW_cond_split _ (by rfl) (fun h4 => ?_) (fun h4 => ?_) | refine AWop_split _ (by rfl) (fun h4 => ?_) (fun h4 => ?_)) <;> (try simp only [decide_eq_true_eq, decide_eq_false_iff_not, Bool.not_eq_true', Bool.not_eq_false', Bool.and_eq_true, Bool.or_eq_true, beq_iff_eq, bne_iff_ne, ne_eq, beq_eq_false_iff_ne, bne_eq_false_iff_eq] at h4))
    · have hjl : j < a.length := by omega
      have hb : a[j]? = some a[j] := by simp
      have hw := wrap_succ (k := j) (by omega)
      have hml := makeP_len (a.take j)
      rw [List.length_take] at hml
      (simp (config := { maxSteps := 1000000 }) [h4, hb, Pair.row])
      (refine AWcall_det (pairset_Add_calls A (makeP (a.take j)) a[j] (by omega) (srt_makeP _)) (by rfl) (by rfl) ?_)
      rw [← hts j hjl]
      (simp (config := { maxSteps := 1000000 }) [hw, pairsD])
      exact hN2 _ (j + 1) hjl (by (refine Wk.of ?_ ?_ (by simp) <;> repeat' (first | exact True.intro | exact ⟨_, rfl, wkt_same rfl⟩ | exact ⟨_, rfl, wkt_erase rfl⟩ | exact ⟨_, rfl, .inl .nild⟩ | exact ⟨_, rfl, .inl .nile⟩ | exact ⟨_, rfl, wkt_nils⟩ | exact wkt_same rfl | exact wkt_erase rfl | exact .inl .nild | exact .inl .nile | exact wkt_nils | exact WkB.same rfl | exact WkB_rows | exact WkB_nil | exact .dead _ | refine WkB_cons ?_ ?_ | refine And.intro ?_ ?_))) (by omega)
    · have hj' : j = a.length := by omega
      subst hj'
      rw [hta]
      (simp (config := { maxSteps := 1000000 }) [])
      (refine AWcall_det hmB (by rfl) (by rfl) ?_)
      (simp (config := { maxSteps := 1000000 }) [])
      (refine AWcall_det hs (by rfl) (by rfl) ?_)
      (simp (config := { maxSteps := 1000000 }) [])
      (refine AWcall_det hs (by rfl) (by rfl) ?_)
      (simp (config := { maxSteps := 1000000 }) [])
      (first | exact hR _ _ (Fin_ret _ rfl rfl rfl) | exact hR _ _ (Fin_normal _ rfl rfl rfl) | exact hR _ _ (Fin_ret _ rfl rfl (by simp [AV.erase, AV.unview]; done)) | exact hR _ _ (Fin_normal _ rfl rfl (by simp [AV.erase, AV.unview]; done)) | fail "no end")
end
end Go.AE

/- Sets of pairs: what is dropped. -/
set_option linter.unusedVariables false
namespace Go.AE
open Go
theorem filter_succ {l : List Pair} {f : Pair → Bool} {k : Nat} (h : k < l.length) : (l.take (k + 1)).filter f = if f l[k] = true then (l.take k).filter f ++ [l[k]] else (l.take k).filter f := by
  rw [List.take_add_one, List.getElem?_eq_getElem h, List.filter_append]
  cases hf : f l[k] <;> simp [hf]
section
theorem pairset_DropV_1_calls {P : Program} {p : Nums} (A : All P p) (x : Pair) (v : Int) : CallsTo P p.pairset_DropV_1 [x.av, .ptr 0 0] [.mem [AI v]] fun o H' => o = .ret (AB (x.v != v)) ∧ H' = [.mem [AI v]] := by
  refine A.pairset_DropV_1.run rfl fun R hR => ?_
  (simp (config := { maxSteps := 1000000 }) [ic_pairset_DropV_1, Pair.av])
  exact hR _ _ (Fin_wk' _ (AB (x.v != v)) [.mem [AI v]] rfl (by (refine Wk.of ?_ ?_ (by simp) <;> repeat' (first | exact True.intro | exact ⟨_, rfl, wkt_same rfl⟩ | exact ⟨_, rfl, wkt_erase rfl⟩ | exact ⟨_, rfl, .inl .nild⟩ | exact ⟨_, rfl, .inl .nile⟩ | exact ⟨_, rfl, wkt_nils⟩ | exact wkt_same rfl | exact wkt_erase rfl | exact .inl .nild | exact .inl .nile | exact wkt_nils | exact WkB.same rfl | exact WkB_rows | exact WkB_nil | exact .dead _ | refine WkB_cons ?_ ?_ | refine And.intro ?_ ?_))) ⟨rfl, rfl⟩)
theorem pairset_DropL_1_calls {P : Program} {p : Nums} (A : All P p) (x : Pair) (v : Int) : CallsTo P p.pairset_DropL_1 [x.av, .ptr 0 0] [.mem [AI v]] fun o H' => o = .ret (AB (x.l != v)) ∧ H' = [.mem [AI v]] := by
  refine A.pairset_DropL_1.run rfl fun R hR => ?_
  (simp (config := { maxSteps := 1000000 }) [ic_pairset_DropL_1, Pair.av])
  exact hR _ _ (Fin_wk' _ (AB (x.l != v)) [.mem [AI v]] rfl (by (refine Wk.of ?_ ?_ (by simp) <;> repeat' (first | exact True.intro | exact ⟨_, rfl, wkt_same rfl⟩ | exact ⟨_, rfl, wkt_erase rfl⟩ | exact ⟨_, rfl, .inl .nild⟩ | exact ⟨_, rfl, .inl .nile⟩ | exact ⟨_, rfl, wkt_nils⟩ | exact wkt_same rfl | exact wkt_erase rfl | exact .inl .nild | exact .inl .nile | exact wkt_nils | exact WkB.same rfl | exact WkB_rows | exact WkB_nil | exact .dead _ | refine WkB_cons ?_ ?_ | refine And.intro ?_ ?_))) ⟨rfl, rfl⟩)
theorem pairset_filter_calls {P : Program} {p : Nums} (A : All P p) (l : List Pair) (f : Nat) (v : Int) (keep : Pair → Bool) (h0 : l.length < 1000000) (hok : okFn P f = true)
    (hf : ∀ x : Pair, CallsTo P f [x.av, .ptr 0 0] [.mem [AI v]] fun o H' => o = .ret (AB (keep x)) ∧ H' = [.mem [AI v]]) :
    CallsTo P p.pairset_filter [.d (pairsD l), .fn (.func f) [] [.ptr 0 0]] [.mem [AI v]] fun o H' => o = .ret (.own 2 ((l.filter keep).map Pair.row)) ∧ H' = [.mem [AI v]] := by
  refine A.pairset_filter.run rfl fun R hR => ?_
  (simp (config := { maxSteps := 1000000 }) [ic_pairset_filter, pairsD])
  refine AWio_mks0 (n := l.length) (by rfl) (by rfl) (by omega) (by omega) (by decide) (by rfl) ?_
  (simp (config := { maxSteps := 1000000 }) [])
  refine AW_loop (fun k : Nat => ⟨[(13, AI k), (12, AI l.length), (11, .d (.sl (l.map Pair.row))), (5, .own 2 (((l.take k).filter keep).map Pair.row)), (4, .nils), (1, .fn (.func f) [] [.ptr 0 0])], [.mem [AI v]]⟩) (fun k => k ≤ l.length) (fun k => l.length - k) 0 (by simp) (by simp only [List.take_zero, List.filter_nil, List.map_nil]; (refine Wk.of ?_ ?_ (by simp) <;> repeat' (first | exact True.intro | exact ⟨_, rfl, wkt_same rfl⟩ | exact ⟨_, rfl, wkt_erase rfl⟩ | exact ⟨_, rfl, .inl .nild⟩ | exact ⟨_, rfl, .inl .nile⟩ | exact ⟨_, rfl, wkt_nils⟩ | exact wkt_same rfl | exact wkt_erase rfl | exact .inl .nild | exact .inl .nile | exact wkt_nils | exact WkB.same rfl | exact WkB_rows | exact WkB_nil | exact .dead _ | refine WkB_cons ?_ ?_ | refine And.intro ?_ ?_))) ?_
  intro k hk N hN
  (simp (config := { maxSteps := 1000000 }) [])
  ((first | refine AW_cond_split _ (by rfl) (fun h2 => ?_) (fun h2 => ?_) | refine AWop_split _ (by rfl) (fun h2 => ?_) (fun h2 => ?_)) <;> (try simp only [decide_eq_true_eq, decide_eq_false_iff_not, Bool.not_eq_true', Bool.not_eq_false', Bool.and_eq_true, Bool.or_eq_true, beq_iff_eq, bne_iff_ne, ne_eq, beq_eq_false_iff_ne, bne_eq_false_iff_eq] at h2))
  · have hkl : k < l.length := by omega
    have hb : l[k]? = some l[k] := by simp
    have hw := wrap_succ (k := k) (by omega)
    have hs := filter_succ (f := keep) hkl
    have hl := List.length_filter_le keep (l.take k)
    rw [List.length_take] at hl
    obtain ⟨x, hx⟩ : ∃ x, x = l[k] := ⟨_, rfl⟩
    obtain ⟨F, hF⟩ : ∃ F, F = (l.take k).filter keep := ⟨_, rfl⟩
    have hN' := fun st' h => hN st' (k + 1) hkl h (by omega)
    rw [hs] at hN'
    rw [← hx, ← hF] at hN'
    rw [← hF] at hl ⊢
    rw [← hx] at hb
    (simp (config := { maxSteps := 1000000 }) [h2, hb, Pair.row])
    refine ⟨f, [], [.ptr 0 0], [.agg [AI l[k].v, AI l[k].l]], rfl, hok, rfl, ?_⟩
    refine AWcall_loc [0] (hf l[k]) (by decide) (by rfl) (by rfl) (by rfl) (by rfl) (by rfl) (by rfl) ?_
    rw [← hx]
    (simp (config := { maxSteps := 1000000 }) [])
    cases hkx : keep x with
    | true =>
      rw [hkx, if_pos rfl] at hN'
      (simp (config := { maxSteps := 1000000 }) [hkx])
      (refine AWio_app_own (by rfl) (by rfl) (by rfl) ?_ (by decide) ?_ ?_ ?_)
      · simp
      · simp; omega
      · simp; omega
      (simp (config := { maxSteps := 1000000 }) [hw])
      exact hN' _ (by simp [Pair.row]; (refine Wk.of ?_ ?_ (by simp) <;> repeat' (first | exact True.intro | exact ⟨_, rfl, wkt_same rfl⟩ | exact ⟨_, rfl, wkt_erase rfl⟩ | exact ⟨_, rfl, .inl .nild⟩ | exact ⟨_, rfl, .inl .nile⟩ | exact ⟨_, rfl, wkt_nils⟩ | exact wkt_same rfl | exact wkt_erase rfl | exact .inl .nild | exact .inl .nile | exact wkt_nils | exact WkB.same rfl | exact WkB_rows | exact WkB_nil | exact .dead _ | refine WkB_cons ?_ ?_ | refine And.intro ?_ ?_)))
    | false =>
      rw [hkx, if_neg (by simp)] at hN'
      (simp (config := { maxSteps := 1000000 }) [hkx, hw])
      exact hN' _ (by (refine Wk.of ?_ ?_ (by simp) <;> repeat' (first | exact True.intro | exact ⟨_, rfl, wkt_same rfl⟩ | exact ⟨_, rfl, wkt_erase rfl⟩ | exact ⟨_, rfl, .inl .nild⟩ | exact ⟨_, rfl, .inl .nile⟩ | exact ⟨_, rfl, wkt_nils⟩ | exact wkt_same rfl | exact wkt_erase rfl | exact .inl .nild | exact .inl .nile | exact wkt_nils | exact WkB.same rfl | exact WkB_rows | exact WkB_nil | exact .dead _ | refine WkB_cons ?_ ?_ | refine And.intro ?_ ?_)))
  · have hk' : k = l.length := by omega
    subst hk'
    (simp (config := { maxSteps := 1000000 }) [])
    exact hR _ _ (Fin_wk' _ (.own 2 ((l.filter keep).map Pair.row)) [.mem [AI v]] rfl (by (refine Wk.of ?_ ?_ (by simp) <;> repeat' (first | exact True.intro | exact ⟨_, rfl, wkt_same rfl⟩ | exact ⟨_, rfl, wkt_erase rfl⟩ | exact ⟨_, rfl, .inl .nild⟩ | exact ⟨_, rfl, .inl .nile⟩ | exact ⟨_, rfl, wkt_nils⟩ | exact wkt_same rfl | exact wkt_erase rfl | exact .inl .nild | exact .inl .nile | exact wkt_nils | exact WkB.same rfl | exact WkB_rows | exact WkB_nil | exact .dead _ | refine WkB_cons ?_ ?_ | refine And.intro ?_ ?_))) ⟨rfl, rfl⟩)
theorem pairset_DropV_own {P : Program} {p : Nums} (A : All P p) (l : List Pair) (v : Int) (h0 : l.length < 1000000) : CallsTo P p.pairset_DropV [.d (pairsD l), AI v] [] fun o H' => o = .ret (.own 2 ((l.filter fun x => x.v != v).map Pair.row)) ∧ H' = [] := by
  refine A.pairset_DropV.run rfl fun R hR => ?_
  (simp (config := { maxSteps := 1000000 }) [ic_pairset_DropV, pairsD])
  refine AWcall_loc [0] (pairset_filter_calls A l p.pairset_DropV_1 v (fun x => x.v != v) h0 A.pairset_DropV_1.ok fun x => pairset_DropV_1_calls A x v) (by decide) (by rfl) (by rfl) (by rfl) (by rfl) (by rfl) (by rfl) ?_
  (simp (config := { maxSteps := 1000000 }) [])
  exact hR _ _ (Fin_own _ _ rfl ⟨rfl, rfl⟩)
theorem pairset_DropL_own {P : Program} {p : Nums} (A : All P p) (l : List Pair) (v : Int) (h0 : l.length < 1000000) : CallsTo P p.pairset_DropL [.d (pairsD l), AI v] [] fun o H' => o = .ret (.own 2 ((l.filter fun x => x.l != v).map Pair.row)) ∧ H' = [] := by
  refine A.pairset_DropL.run rfl fun R hR => ?_
  (simp (config := { maxSteps := 1000000 }) [ic_pairset_DropL, pairsD])
  refine AWcall_loc [0] (pairset_filter_calls A l p.pairset_DropL_1 v (fun x => x.l != v) h0 A.pairset_DropL_1.ok fun x => pairset_DropL_1_calls A x v) (by decide) (by rfl) (by rfl) (by rfl) (by rfl) (by rfl) (by rfl) ?_
  (simp (config := { maxSteps := 1000000 }) [])
  exact hR _ _ (Fin_own _ _ rfl ⟨rfl, rfl⟩)
theorem pairset_DropV_calls {P : Program} {p : Nums} (A : All P p) (l : List Pair) (v : Int) (h0 : l.length < 1000000) : CallsTo P p.pairset_DropV [.d (pairsD l), AI v] [] fun o _ => o = .ret (.d (pairsD (l.filter fun x => x.v != v))) :=
  (pairset_DropV_own A l v h0).unown.mono fun _ _ h => h.1
theorem pairset_DropL_calls {P : Program} {p : Nums} (A : All P p) (l : List Pair) (v : Int) (h0 : l.length < 1000000) : CallsTo P p.pairset_DropL [.d (pairsD l), AI v] [] fun o _ => o = .ret (.d (pairsD (l.filter fun x => x.l != v))) :=
  (pairset_DropL_own A l v h0).unown.mono fun _ _ h => h.1
end
end Go.AE

/- Sets of pairs: the law of what is dropped. -/
set_option linter.unusedVariables false
namespace Go.AE
open Go
theorem bne_dec (a b : Int) : (a != b) = !decide (a = b) := by
  by_cases h : a = b <;> simp [h]
section
set_option maxHeartbeats 4000000 in
theorem law11_PairsetDrops_calls {P : Program} {p : Nums} (A : All P p) (S : SortOk P p) (a : List Pair) (v l : Int) (h0 : -9223372036854775808 ≤ l) (h1 : l ≤ 9223372036854775807) : CallsTo P p.law11_PairsetDrops [.d (pairsD a), AI v, AI l] [] fun o _ => o = .ret (AB true) := by
  refine A.law11_PairsetDrops.run rfl fun R hR => ?_
  (simp (config := { maxSteps := 1000000 }) [ic_law11_PairsetDrops, pairsD])
  (refine AWcall_det (law11_awake_calls A S) (by rfl) (by rfl) ?_)
  (simp (config := { maxSteps := 1000000 }) [])
  ((first | refine AW_cond_split _ (by rfl) (fun h2 => ?_) (fun h2 => ?_) | refine AWop_split _ (by rfl) (fun h2 => ?_) (fun h2 => ?_)) <;> (try simp only [decide_eq_true_eq, decide_eq_false_iff_not, Bool.not_eq_true', Bool.not_eq_false', Bool.and_eq_true, Bool.or_eq_true, beq_iff_eq, bne_iff_ne, ne_eq, beq_eq_false_iff_ne, bne_eq_false_iff_eq] at h2))
  · (simp (config := { maxSteps := 1000000 }) [h2])
    (refine AWcall_det (law11_awake_calls A S) (by rfl) (by rfl) ?_)
    (simp (config := { maxSteps := 1000000 }) [])
    (first | exact hR _ _ (Fin_ret _ rfl rfl rfl) | exact hR _ _ (Fin_normal _ rfl rfl rfl) | exact hR _ _ (Fin_ret _ rfl rfl (by simp [AV.erase, AV.unview]; done)) | exact hR _ _ (Fin_normal _ rfl rfl (by simp [AV.erase, AV.unview]; done)) | fail "no end")
  (simp (config := { maxSteps := 1000000 }) [h2])
  obtain ⟨fx, hfx⟩ : ∃ f : Pair → Bool, f = fun q => q.v != v := ⟨_, rfl⟩
  obtain ⟨fy, hfy⟩ : ∃ f : Pair → Bool, f = fun q => q.l != l := ⟨_, rfl⟩
  obtain ⟨fz, hfz⟩ : ∃ f : Pair → Bool, f = fun q => fx q && fy q := ⟨_, rfl⟩
  refine AW_loop (fun k : Nat => ⟨[(10, AI k), (9, .own 2 (((a.take k).filter fz).map Pair.row)), (8, .own 2 (((a.take k).filter fy).map Pair.row)), (7, .own 2 (((a.take k).filter fx).map Pair.row)), (6, AB false), (2, AI l), (1, AI v), (0, .d (.sl (a.map Pair.row)))], []⟩) (fun k => k ≤ a.length) (fun k => a.length - k) 0 (by simp) (by simp only [List.take_zero, List.filter_nil, List.map_nil]; (refine Wk.of ?_ ?_ (by simp) <;> repeat' (first | exact True.intro | exact ⟨_, rfl, wkt_same rfl⟩ | exact ⟨_, rfl, wkt_erase rfl⟩ | exact ⟨_, rfl, .inl .nild⟩ | exact ⟨_, rfl, .inl .nile⟩ | exact ⟨_, rfl, wkt_nils⟩ | exact wkt_same rfl | exact wkt_erase rfl | exact .inl .nild | exact .inl .nile | exact wkt_nils | exact WkB.same rfl | exact WkB_rows | exact WkB_nil | exact .dead _ | refine WkB_cons ?_ ?_ | refine And.intro ?_ ?_))) ?_
  intro k hk N hN
  (simp (config := { maxSteps := 1000000 }) [])
  ((first | refine AW_cond_split _ (by rfl) (fun h3 => ?_) (fun h3 => ?_) | refine AWop_split _ (by rfl) (fun h3 => ?_) (fun h3 => ?_)) <;> (try simp only [decide_eq_true_eq, decide_eq_false_iff_not, Bool.not_eq_true', Bool.not_eq_false', Bool.and_eq_true, Bool.or_eq_true, beq_iff_eq, bne_iff_ne, ne_eq, beq_eq_false_iff_ne, bne_eq_false_iff_eq] at h3))
  · have hkl : k < a.length := by omega
    have hb : a[k]? = some a[k] := by simp
    have hw := wrap_succ (k := k) (by omega)
    have hsx := filter_succ (f := fx) hkl
    have hsy := filter_succ (f := fy) hkl
    have hsz := filter_succ (f := fz) hkl
    have hlx := List.length_filter_le fx (a.take k)
    have hly := List.length_filter_le fy (a.take k)
    have hlz := List.length_filter_le fz (a.take k)
    rw [List.length_take] at hlx hly hlz
    have hN' := fun st' h => hN st' (k + 1) hkl h (by omega)
    rw [hsx, hsy, hsz] at hN'
    obtain ⟨x, hx⟩ : ∃ x, x = a[k] := ⟨_, rfl⟩
    have ex : fx x = !decide (x.v = v) := by rw [hfx]; exact bne_dec _ _
    have ey : fy x = !decide (x.l = l) := by rw [hfy]; exact bne_dec _ _
    have ez : fz x = (fx x && fy x) := by rw [hfz]
    rw [← hx] at hb hN'
    obtain ⟨X, hX⟩ : ∃ X, X = (a.take k).filter fx := ⟨_, rfl⟩
    obtain ⟨Y, hY⟩ : ∃ X, X = (a.take k).filter fy := ⟨_, rfl⟩
    obtain ⟨Z, hZ⟩ : ∃ X, X = (a.take k).filter fz := ⟨_, rfl⟩
    rw [← hX, ← hY, ← hZ] at hN'
    rw [← hX] at hlx ⊢
    rw [← hY] at hly ⊢
    rw [← hZ] at hlz ⊢
    by_cases ev : x.v = v <;> by_cases el : x.l = l
    · rw [decide_eq_true ev] at ex
      rw [decide_eq_true el] at ey
      rw [ez, ex, ey] at hN'
      have ev2 := ev
      have el2 := el
      rw [hx] at ev el
      (simp (config := { maxSteps := 1000000 }) [h3, hb, Pair.row, ev, el, ev2, el2, hw])
      exact hN' _ (by simp; (refine Wk.of ?_ ?_ (by simp) <;> repeat' (first | exact True.intro | exact ⟨_, rfl, wkt_same rfl⟩ | exact ⟨_, rfl, wkt_erase rfl⟩ | exact ⟨_, rfl, .inl .nild⟩ | exact ⟨_, rfl, .inl .nile⟩ | exact ⟨_, rfl, wkt_nils⟩ | exact wkt_same rfl | exact wkt_erase rfl | exact .inl .nild | exact .inl .nile | exact wkt_nils | exact WkB.same rfl | exact WkB_rows | exact WkB_nil | exact .dead _ | refine WkB_cons ?_ ?_ | refine And.intro ?_ ?_)))
    · rw [decide_eq_true ev] at ex
      rw [decide_eq_false el] at ey
      rw [ez, ex, ey] at hN'
      have ev2 := ev
      have el2 := el
      rw [hx] at ev el
      (simp (config := { maxSteps := 1000000 }) [h3, hb, Pair.row, ev, el, ev2, el2, hw])
      (refine AWio_app_own (by rfl) (by rfl) (by rfl) ?_ (by decide) ?_ ?_ ?_)
      · simp
      · simp; omega
      · simp; omega
      (simp (config := { maxSteps := 1000000 }) [hb, Pair.row, ev, el, ev2, el2, hw])
      exact hN' _ (by simp [Pair.row, hx, ev, el]; (refine Wk.of ?_ ?_ (by simp) <;> repeat' (first | exact True.intro | exact ⟨_, rfl, wkt_same rfl⟩ | exact ⟨_, rfl, wkt_erase rfl⟩ | exact ⟨_, rfl, .inl .nild⟩ | exact ⟨_, rfl, .inl .nile⟩ | exact ⟨_, rfl, wkt_nils⟩ | exact wkt_same rfl | exact wkt_erase rfl | exact .inl .nild | exact .inl .nile | exact wkt_nils | exact WkB.same rfl | exact WkB_rows | exact WkB_nil | exact .dead _ | refine WkB_cons ?_ ?_ | refine And.intro ?_ ?_)))
    · rw [decide_eq_false ev] at ex
      rw [decide_eq_true el] at ey
      rw [ez, ex, ey] at hN'
      have ev2 := ev
      have el2 := el
      rw [hx] at ev el
      (simp (config := { maxSteps := 1000000 }) [h3, hb, Pair.row, ev, el, ev2, el2, hw])
      (refine AWio_app_own (by rfl) (by rfl) (by rfl) ?_ (by decide) ?_ ?_ ?_)
      · simp
      · simp; omega
      · simp; omega
      (simp (config := { maxSteps := 1000000 }) [hb, Pair.row, ev, el, ev2, el2, hw])
      exact hN' _ (by simp [Pair.row, hx, ev, el]; (refine Wk.of ?_ ?_ (by simp) <;> repeat' (first | exact True.intro | exact ⟨_, rfl, wkt_same rfl⟩ | exact ⟨_, rfl, wkt_erase rfl⟩ | exact ⟨_, rfl, .inl .nild⟩ | exact ⟨_, rfl, .inl .nile⟩ | exact ⟨_, rfl, wkt_nils⟩ | exact wkt_same rfl | exact wkt_erase rfl | exact .inl .nild | exact .inl .nile | exact wkt_nils | exact WkB.same rfl | exact WkB_rows | exact WkB_nil | exact .dead _ | refine WkB_cons ?_ ?_ | refine And.intro ?_ ?_)))
    · rw [decide_eq_false ev] at ex
      rw [decide_eq_false el] at ey
      rw [ez, ex, ey] at hN'
      have ev2 := ev
      have el2 := el
      rw [hx] at ev el
      (simp (config := { maxSteps := 1000000 }) [h3, hb, Pair.row, ev, el, ev2, el2, hw])
      (refine AWio_app_own (by rfl) (by rfl) (by rfl) ?_ (by decide) ?_ ?_ ?_)
      · simp
      · simp; omega
      · simp; omega
      (simp (config := { maxSteps := 1000000 }) [hb, Pair.row, ev, el, ev2, el2, hw])
      (refine AWio_app_own (by rfl) (by rfl) (by rfl) ?_ (by decide) ?_ ?_ ?_)
      · simp
      · simp; omega
      · simp; omega
      (simp (config := { maxSteps := 1000000 }) [hb, Pair.row, ev, el, ev2, el2, hw])
      (refine AWio_app_own (by rfl) (by rfl) (by rfl) ?_ (by decide) ?_ ?_ ?_)
      · simp
      · simp; omega
      · simp; omega
      (simp (config := { maxSteps := 1000000 }) [hb, Pair.row, ev, el, ev2, el2, hw])
      exact hN' _ (by simp [Pair.row, hx, ev, el]; (refine Wk.of ?_ ?_ (by simp) <;> repeat' (first | exact True.intro | exact ⟨_, rfl, wkt_same rfl⟩ | exact ⟨_, rfl, wkt_erase rfl⟩ | exact ⟨_, rfl, .inl .nild⟩ | exact ⟨_, rfl, .inl .nile⟩ | exact ⟨_, rfl, wkt_nils⟩ | exact wkt_same rfl | exact wkt_erase rfl | exact .inl .nild | exact .inl .nile | exact wkt_nils | exact WkB.same rfl | exact WkB_rows | exact WkB_nil | exact .dead _ | refine WkB_cons ?_ ?_ | refine And.intro ?_ ?_)))
  · have hk' : k = a.length := by omega
    subst hk'
    simp only [List.take_length]
    have e1 : ∀ f : Pair → Bool, (a.filter f).length ≤ 60 := fun f => by have := List.length_filter_le f a; omega
    have hvx := pairset_DropV_calls A a v (by omega)
    have hly := pairset_DropL_calls A a l (by omega)
    rw [← hfx] at hvx
    rw [← hfy] at hly
    have hvl := pairset_DropL_calls A (a.filter fx) l (by have := e1 fx; omega)
    have hlv := pairset_DropV_calls A (a.filter fy) v (by have := e1 fy; omega)
    rw [← hfy, List.filter_filter, show (fun q => fy q && fx q) = fz by rw [hfz]; funext q; exact Bool.and_comm _ _] at hvl
    rw [← hfx, List.filter_filter, show (fun q => fx q && fy q) = fz by rw [hfz]] at hlv
    have lx := e1 fx
    have ly := e1 fy
    have lz := e1 fz
    obtain ⟨X, hX⟩ : ∃ X, X = a.filter fx := ⟨_, rfl⟩
    obtain ⟨Y, hY⟩ : ∃ X, X = a.filter fy := ⟨_, rfl⟩
    obtain ⟨Z, hZ⟩ : ∃ X, X = a.filter fz := ⟨_, rfl⟩
    rw [← hX] at hvx hvl lx ⊢
    rw [← hY] at hly hlv ly ⊢
    rw [← hZ] at hvl hlv lz ⊢
    have sx := ref11_Same_calls A X X (by omega) (by omega)
    have sy := ref11_Same_calls A Y Y (by omega) (by omega)
    have sz := ref11_Same_calls A Z Z (by omega) (by omega)
    rw [decide_eq_true rfl] at sx sy sz
    (simp (config := { maxSteps := 1000000 }) [])
    (refine AWcall_det hvx (by rfl) (by rfl) ?_)
    (simp (config := { maxSteps := 1000000 }) [pairsD])
    (refine AWcall_det sx (by rfl) (by rfl) ?_)
    (simp (config := { maxSteps := 1000000 }) [])
    (refine AWcall_det hly (by rfl) (by rfl) ?_)
    (simp (config := { maxSteps := 1000000 }) [pairsD])
    (refine AWcall_det sy (by rfl) (by rfl) ?_)
    (simp (config := { maxSteps := 1000000 }) [])
    (refine AWcall_det hvx (by rfl) (by rfl) ?_)
    (simp (config := { maxSteps := 1000000 }) [pairsD])
    (refine AWcall_det hvl (by rfl) (by rfl) ?_)
    (simp (config := { maxSteps := 1000000 }) [pairsD])
    (refine AWcall_det sz (by rfl) (by rfl) ?_)
    (simp (config := { maxSteps := 1000000 }) [])
    (refine AWcall_det hly (by rfl) (by rfl) ?_)
    (simp (config := { maxSteps := 1000000 }) [pairsD])
    (refine AWcall_det hlv (by rfl) (by rfl) ?_)
    (simp (config := { maxSteps := 1000000 }) [pairsD])
    (refine AWcall_det sz (by rfl) (by rfl) ?_)
    (simp (config := { maxSteps := 1000000 }) [])
    (first | exact hR _ _ (Fin_ret _ rfl rfl rfl) | exact hR _ _ (Fin_normal _ rfl rfl rfl) | exact hR _ _ (Fin_ret _ rfl rfl (by simp [AV.erase, AV.unview]; done)) | exact hR _ _ (Fin_normal _ rfl rfl (by simp [AV.erase, AV.unview]; done)) | fail "no end")
end
end Go.AE

/- A block of a result, put into the first place. -/
set_option linter.unusedVariables false
namespace Go.AE
open Go
theorem rowCells_notOwn (rows : List (List D)) (j e1 : Nat) (rows1 : List (List D)) : (rowCells rows)[j]? ≠ some (.own e1 rows1) := by
  intro hp
  unfold rowCells at hp
  rw [List.getElem?_map, Option.map_eq_some_iff] at hp
  obtain ⟨y, _, hy⟩ := hp
  cases hy
theorem CallsTo.shift {P : Program} {f : Nat} {args : List AV} {e n k : Nat} {rows : List (List D)} (h : CallsTo P f args [] fun o H' => o = .ret (.hsl k 0 e n) ∧ H' = List.replicate k .dead ++ [.mem (rowCells rows)]) :
    CallsTo P f args [] fun o H' => o = .ret (.hsl 0 0 e n) ∧ H' = [.mem (rowCells rows)] := by
  intro g vs w hvs hs
  refine (h g vs w hvs hs).mono ?_
  rintro e' w' ⟨o, H', g', v, ⟨rfl, rfl⟩, he, hsim, htr, hφ, hlen, hmine⟩
  have hk : (List.replicate k Blk.dead ++ [Blk.mem (rowCells rows)])[k]? = some (.mem (rowCells rows)) := by
    rw [List.getElem?_append_right (by simp)]; simp
  obtain ⟨r, hr⟩ := hsim.dom k _ hk (by simp)
  obtain ⟨hlt, hF, _⟩ := hsim.lt k r hr
  obtain ⟨c, te, m1, m2, m3⟩ := hsim.mem k _ r hk hr
  have hrel := hsim.env 0 (.hsl k 0 e n) (by simp [get, AOut.val])
  simp only [AV.erase] at hrel
  have hv0 : (⟨#[v], []⟩ : Act).tmps.getD 0 undef = v := by simp
  rw [hv0] at hrel
  have hno : ∀ (p : Place) (e1 : Nat) (rows1 : List (List D)), AP ⟨[(0, (AOut.ret (.hsl 0 0 e n)).val)], [.mem (rowCells rows)]⟩ p ≠ some (.own e1 rows1) := by
    intro p e1 rows1 hp
    cases p with
    | tmp t =>
      simp only [AP, AOut.val, get] at hp
      split at hp <;> cases hp
    | cell b j =>
      simp only [AP] at hp
      split at hp
      · rename_i cells hb
        have : b = 0 := by have := (List.getElem?_eq_some_iff.1 hb).1; simpa using this
        subst this
        simp only [List.getElem?_cons_zero, Option.some.injEq, Blk.mem.injEq] at hb
        subst hb
        exact rowCells_notOwn _ _ _ _ hp
      · cases hp
  refine ⟨.ret (.hsl 0 0 e n), [.mem (rowCells rows)], ⟨fun b => if b = 0 then some r else none, g'.F⟩, v, ⟨rfl, rfl⟩, he, ?_, ⟨htr.os, htr.tape, htr.output, htr.size, htr.other, htr.stab⟩, fun b r hb => absurd hb (by simp), by simp, ?_⟩
  · refine { size := by simp, env := ?_, defers := rfl, inj := ?_, lt := ?_, dom := ?_, mem := ?_, iter := ?_, own := ?_, excl := ?_, apart := ?_, view := ?_ }
    · intro t x hx
      simp only [AOut.val, get] at hx
      split at hx
      · rename_i ht; subst ht
        injection hx with hx; subst hx
        rw [hv0]
        cases hrel with
        | hsl _ _ _ _ r' cap a hφ' hcap ha =>
          rw [hr] at hφ'; injection hφ' with hφ'; subst hφ'
          exact .hsl 0 0 e n r cap a (by simp) hcap ha
      · cases hx
    · intro b b' q hb hb'
      simp only at hb hb'
      split at hb <;> split at hb' <;> simp_all
    · intro b q hb
      simp only at hb ⊢
      split at hb
      · rename_i h0; subst h0; injection hb with hb; subst hb; exact ⟨hlt, hF, by simp⟩
      · cases hb
    · intro b k' hk' _
      have : b = 0 := by have := (List.getElem?_eq_some_iff.1 hk').1; simpa using this
      subst this
      exact ⟨r, by simp⟩
    · intro b cells q hb hq
      have : b = 0 := by have := (List.getElem?_eq_some_iff.1 hb).1; simpa using this
      subst this
      simp only [List.getElem?_cons_zero, Option.some.injEq, Blk.mem.injEq] at hb
      subst hb
      simp only [if_true, Option.some.injEq] at hq
      subst hq
      refine ⟨c, te, m1, m2, fun j x hx => ?_⟩
      obtain ⟨k1, u, k2, k3⟩ := m3 j x hx
      refine ⟨k1, u, k2, ?_⟩
      unfold rowCells at hx
      rw [List.getElem?_map, Option.map_eq_some_iff] at hx
      obtain ⟨y, _, rfl⟩ := hx
      cases k3 with
      | d _ _ h => exact .d _ _ h
    · intro b s pos q hb
      have : b = 0 := by have := (List.getElem?_eq_some_iff.1 hb).1; simpa using this
      subst this
      simp at hb
    · exact fun p e1 rows1 v1 hp _ => absurd hp (hno p e1 rows1)
    · rintro p p' q ⟨e1, rows1, v1, hp, _⟩
      exact absurd hp (hno p e1 rows1)
    · rintro p q b ⟨e1, rows1, v1, hp, _⟩
      exact absurd hp (hno p e1 rows1)
    · intro t org e1 rows1 hx
      simp only [AOut.val, get] at hx
      split at hx <;> cases hx
  · rintro q (⟨b, hb⟩ | ⟨p, e1, rows1, v1, hp, _⟩)
    · simp only at hb
      split at hb
      · injection hb with hb; subst hb; exact hmine _ (.inl ⟨k, hr⟩)
      · cases hb
    · exact absurd hp (hno p e1 rows1)
end Go.AE

/- Sets of pairs: arguments are kept, and results are new. -/
set_option linter.unusedVariables false
namespace Go.AE
open Go
theorem WkB_ds' {H : List Blk} {n : Nat} {ds : List D} : WkB H n (.mem (ds.map AV.d)) (.mem (ds.map AV.d)) := .same (renL_d _)
theorem renB_ds' {ρ : Nat → Option Nat} {ds : List D} : renB ρ [.mem (ds.map AV.d)] = some [.mem (ds.map AV.d)] := by
  have : renL ρ (ds.map AV.d) = some (ds.map AV.d) := renL_d _
  simp only [renB, Blk.ren, this]
theorem pair_flat' (l : List Pair) : ∀ r ∈ l.map Pair.row, ∀ x ∈ r, x.flat = true := by
  intro r hr x hx
  obtain ⟨y, _, rfl⟩ := List.mem_map.1 hr
  simp [Pair.row] at hx
  rcases hx with rfl | rfl <;> rfl
/-- A call whose result is a new block. -/
def NewC (P : Program) (f : Nat) (args : List AV) (n : Nat) : Prop := ∃ ds : List D, n * 2 ≤ ds.length ∧ CallsTo P f args [] fun o H' => o = .ret (.hsl 0 0 2 n) ∧ H' = [.mem (ds.map AV.d)]
theorem newC_of {P : Program} {f : Nat} {args : List AV} {R : List Pair} (h : CallsTo P f args [] fun o H' => o = .ret (.own 2 (R.map Pair.row)) ∧ H' = []) (hne : R ≠ []) (hargs : ∀ (t e : Nat) (r : List (List D)), args[t]? ≠ some (.own e r)) : NewC P f args R.length := by
  have h2 := h.opened (by simpa using hne) (pair_flat' _) hargs
  rw [List.length_map] at h2
  exact ⟨(R.map Pair.row).flatten, by rw [flatten_len (rows_len (f := Pair.row) (n := 2) fun _ => rfl)]; simp, h2⟩
theorem noOwn1 {x : D} (t e : Nat) (r : List (List D)) : [AV.d x][t]? ≠ some (.own e r) := by
  intro h
  match t with
  | 0 => simp at h
  | t + 1 => simp at h
theorem noOwn2 {x y : D} (t e : Nat) (r : List (List D)) : [AV.d x, .d y][t]? ≠ some (.own e r) := by
  intro h
  match t with
  | 0 => simp at h
  | 1 => simp at h
  | t + 2 => simp at h
theorem noOwnP {x : D} {q : Pair} (t e : Nat) (r : List (List D)) : [AV.d x, q.av][t]? ≠ some (.own e r) := by
  intro h
  match t with
  | 0 => simp at h
  | 1 => simp [Pair.av] at h
  | t + 2 => simp at h
section
theorem law11_spoil_nil {P : Program} {p : Nums} (A : All P p) : CallsTo P p.law11_spoil [.d (.sl [])] [] fun o _ => o = .ret (.tup []) := by
  refine A.law11_spoil.run rfl fun R hR => ?_
  (simp (config := { maxSteps := 1000000 }) [ic_law11_spoil])
  refine AW_loop (fun _ : Unit => ⟨[(2, AI 0), (0, .d (.sl []))], []⟩) (fun _ => True) (fun _ => 0) () trivial (by (refine Wk.of ?_ ?_ (by simp) <;> repeat' (first | exact True.intro | exact ⟨_, rfl, wkt_same rfl⟩ | exact ⟨_, rfl, wkt_erase rfl⟩ | exact ⟨_, rfl, .inl .nild⟩ | exact ⟨_, rfl, .inl .nile⟩ | exact ⟨_, rfl, wkt_nils⟩ | exact wkt_same rfl | exact wkt_erase rfl | exact .inl .nild | exact .inl .nile | exact wkt_nils | exact WkB.same rfl | exact WkB_rows | exact WkB_nil | exact .dead _ | refine WkB_cons ?_ ?_ | refine And.intro ?_ ?_))) ?_
  intro s hs N hN
  (simp (config := { maxSteps := 1000000 }) [])
  (first | exact hR _ _ (Fin_ret _ rfl rfl rfl) | exact hR _ _ (Fin_normal _ rfl rfl rfl) | exact hR _ _ (Fin_ret _ rfl rfl (by simp [AV.erase, AV.unview]; done)) | exact hR _ _ (Fin_normal _ rfl rfl (by simp [AV.erase, AV.unview]; done)) | fail "no end")
theorem law11_spoil_calls {P : Program} {p : Nums} (A : All P p) (n : Nat) (ds : List D) (h : n * 2 ≤ ds.length) (h0 : n < 1000000) : CallsTo P p.law11_spoil [.hsl 0 0 2 n] [.mem (ds.map AV.d)] fun o H' => o = .ret (.tup []) ∧ H' = [.dead] := by
  refine A.law11_spoil.run rfl fun R hR => ?_
  (simp (config := { maxSteps := 1000000 }) [ic_law11_spoil])
  refine AW_loop (fun s : Nat × List D => ⟨[(2, AI s.1), (0, .hsl 0 0 2 n)], [.mem (s.2.map AV.d)]⟩) (fun s => s.1 ≤ n ∧ n * 2 ≤ s.2.length) (fun s => n - s.1) (0, ds) ⟨Nat.zero_le _, h⟩ (by (refine Wk.of ?_ ?_ (by simp) <;> repeat' (first | exact WkB_ds' | (first | exact True.intro | exact ⟨_, rfl, wkt_same rfl⟩ | exact ⟨_, rfl, wkt_erase rfl⟩ | exact ⟨_, rfl, .inl .nild⟩ | exact ⟨_, rfl, .inl .nile⟩ | exact ⟨_, rfl, wkt_nils⟩ | exact wkt_same rfl | exact wkt_erase rfl | exact .inl .nild | exact .inl .nile | exact wkt_nils | exact WkB.same rfl | exact WkB_rows | exact WkB_nil | exact .dead _ | refine WkB_cons ?_ ?_ | refine And.intro ?_ ?_)))) ?_
  rintro ⟨k, ds⟩ ⟨hk, hds⟩ N hN
  simp only at hk hds hN ⊢
  (simp (config := { maxSteps := 1000000 }) [])
  ((first | refine AW_cond_split _ (by rfl) (fun h7 => ?_) (fun h7 => ?_) | refine AWop_split _ (by rfl) (fun h7 => ?_) (fun h7 => ?_)) <;> (try simp only [decide_eq_true_eq, decide_eq_false_iff_not, Bool.not_eq_true', Bool.not_eq_false', Bool.and_eq_true, Bool.or_eq_true, beq_iff_eq, bne_iff_ne, ne_eq, beq_eq_false_iff_ne, bne_eq_false_iff_eq] at h7))
  · have hkl : k < n := by omega
    have hw := wrap_succ (k := k) (by omega)
    have hle : k * 2 + 2 ≤ ds.length := by omega
    (simp (config := { maxSteps := 1000000 }) [h7, hkl, hle, hw])
    have e : List.take (k * 2) (ds.map AV.d) ++ AV.d (.int .i64 (-7)) :: AV.d (.int .i64 (-9)) :: List.drop (k * 2 + 2) (ds.map AV.d) = (ds.take (k * 2) ++ .int .i64 (-7) :: .int .i64 (-9) :: ds.drop (k * 2 + 2)).map AV.d := by simp
    rw [e]
    exact hN _ (k + 1, ds.take (k * 2) ++ .int .i64 (-7) :: .int .i64 (-9) :: ds.drop (k * 2 + 2)) ⟨hkl, by simp; omega⟩ (by (refine Wk.of ?_ ?_ (by simp) <;> repeat' (first | exact WkB_ds' | (first | exact True.intro | exact ⟨_, rfl, wkt_same rfl⟩ | exact ⟨_, rfl, wkt_erase rfl⟩ | exact ⟨_, rfl, .inl .nild⟩ | exact ⟨_, rfl, .inl .nile⟩ | exact ⟨_, rfl, wkt_nils⟩ | exact wkt_same rfl | exact wkt_erase rfl | exact .inl .nild | exact .inl .nile | exact wkt_nils | exact WkB.same rfl | exact WkB_rows | exact WkB_nil | exact .dead _ | refine WkB_cons ?_ ?_ | refine And.intro ?_ ?_)))) (by simp only; omega)
  · clear hN
    (simp (config := { maxSteps := 1000000 }) [])
    exact hR _ _ (Fin_wk _ (.tup []) [.dead] rfl (by (refine Wk.of ?_ ?_ (by simp) <;> repeat' (first | exact True.intro | exact ⟨_, rfl, wkt_same rfl⟩ | exact ⟨_, rfl, wkt_erase rfl⟩ | exact ⟨_, rfl, .inl .nild⟩ | exact ⟨_, rfl, .inl .nile⟩ | exact ⟨_, rfl, wkt_nils⟩ | exact wkt_same rfl | exact wkt_erase rfl | exact .inl .nild | exact .inl .nile | exact wkt_nils | exact WkB.same rfl | exact WkB_rows | exact WkB_nil | exact .dead _ | refine WkB_cons ?_ ?_ | refine And.intro ?_ ?_))) ⟨rfl, rfl⟩)
end
section
theorem pairset_Make_new {P : Program} {p : Nums} (A : All P p) (S : SortOk P p) (l : List Pair) (hl : l ≠ []) (h0 : l.length < 1000000) : NewC P p.pairset_Make [.d (pairsD l)] (makeP l).length := by
  refine ⟨((cptP (sortP l)).map Pair.row).flatten, ?_, pairset_Make_h A S l hl h0⟩
  rw [flatten_len (rows_len (f := Pair.row) (n := 2) fun _ => rfl), List.length_map, ← dd_sortP]; unfold cptP; rw [List.length_append]; omega
set_option maxHeartbeats 4000000 in
theorem law11_PairsetKeeps_calls {P : Program} {p : Nums} (A : All P p) (S : SortOk P p) (a b : List Pair) (q : Pair) : CallsTo P p.law11_PairsetKeeps [.d (pairsD a), .d (pairsD b), q.av] [] fun o _ => o = .ret (AB true) := by
  refine A.law11_PairsetKeeps.run rfl fun R hR => ?_
  (simp (config := { maxSteps := 1000000 }) [ic_law11_PairsetKeeps, pairsD, Pair.av])
  (refine AWcall_det (law11_awake_calls A S) (by rfl) (by rfl) ?_)
  (simp (config := { maxSteps := 1000000 }) [])
  ((first | refine AW_cond_split _ (by rfl) (fun h2 => ?_) (fun h2 => ?_) | refine AWop_split _ (by rfl) (fun h2 => ?_) (fun h2 => ?_)) <;> (try simp only [decide_eq_true_eq, decide_eq_false_iff_not, Bool.not_eq_true', Bool.not_eq_false', Bool.and_eq_true, Bool.or_eq_true, beq_iff_eq, bne_iff_ne, ne_eq, beq_eq_false_iff_ne, bne_eq_false_iff_eq] at h2))
  · (simp (config := { maxSteps := 1000000 }) [h2])
    (refine AWcall_det (law11_awake_calls A S) (by rfl) (by rfl) ?_)
    (simp (config := { maxSteps := 1000000 }) [])
    (first | exact hR _ _ (Fin_ret _ rfl rfl rfl) | exact hR _ _ (Fin_normal _ rfl rfl rfl) | exact hR _ _ (Fin_ret _ rfl rfl (by simp [AV.erase, AV.unview]; done)) | exact hR _ _ (Fin_normal _ rfl rfl (by simp [AV.erase, AV.unview]; done)) | fail "no end")
  (simp (config := { maxSteps := 1000000 }) [h2])
  ((first | refine AW_cond_split _ (by rfl) (fun h3 => ?_) (fun h3 => ?_) | refine AWop_split _ (by rfl) (fun h3 => ?_) (fun h3 => ?_)) <;> (try simp only [decide_eq_true_eq, decide_eq_false_iff_not, Bool.not_eq_true', Bool.not_eq_false', Bool.and_eq_true, Bool.or_eq_true, beq_iff_eq, bne_iff_ne, ne_eq, beq_eq_false_iff_ne, bne_eq_false_iff_eq] at h3))
  · (simp (config := { maxSteps := 1000000 }) [h3])
    (refine AWcall_det (law11_awake_calls A S) (by rfl) (by rfl) ?_)
    (simp (config := { maxSteps := 1000000 }) [])
    (first | exact hR _ _ (Fin_ret _ rfl rfl rfl) | exact hR _ _ (Fin_normal _ rfl rfl rfl) | exact hR _ _ (Fin_ret _ rfl rfl (by simp [AV.erase, AV.unview]; done)) | exact hR _ _ (Fin_normal _ rfl rfl (by simp [AV.erase, AV.unview]; done)) | fail "no end")
  (simp (config := { maxSteps := 1000000 }) [h3])
  have hrow : ∀ l : List Pair, ∀ r ∈ l.map Pair.row, r.length = 2 := fun l => rows_len fun x => rfl
  have la : a.length ≤ 60 := by omega
  have lb : b.length ≤ 60 := by omega
  clear h2 h3
  rw [law11_PairsetKeeps_m21_eq]
  refine AW_merge ⟨[(7, .d (.sl (a.map Pair.row))), (6, AB false), (5, .ptr 0 0), (1, .d (.sl (b.map Pair.row))), (0, .d (.sl (a.map Pair.row)))], [.mem [AI q.v, AI q.l]]⟩ (fun N hN => ?_) ?_
  · clear hR
    (simp (config := { maxSteps := 1000000 }) [])
    refine AWio_app_nile (by rfl) (by rfl) (hrow a) (by decide) (by simp; omega) (by simp; omega) (fun hl => ?_) (fun hl => ?_)
    · rw [hl] at hN ⊢
      (simp (config := { maxSteps := 1000000 }) [])
      exact hN _ (by (refine Wk.of ?_ ?_ (by simp) <;> repeat' (first | exact True.intro | exact ⟨_, rfl, wkt_same rfl⟩ | exact ⟨_, rfl, wkt_erase rfl⟩ | exact ⟨_, rfl, .inl .nild⟩ | exact ⟨_, rfl, .inl .nile⟩ | exact ⟨_, rfl, wkt_nils⟩ | exact wkt_same rfl | exact wkt_erase rfl | exact .inl .nild | exact .inl .nile | exact wkt_nils | exact WkB.same rfl | exact WkB_rows | exact WkB_nil | exact .dead _ | refine WkB_cons ?_ ?_ | refine And.intro ?_ ?_)))
    · (simp (config := { maxSteps := 1000000 }) [])
      exact hN _ (by (refine Wk.of ?_ ?_ (by simp) <;> repeat' (first | exact True.intro | exact ⟨_, rfl, wkt_same rfl⟩ | exact ⟨_, rfl, wkt_erase rfl⟩ | exact ⟨_, rfl, .inl .nild⟩ | exact ⟨_, rfl, .inl .nile⟩ | exact ⟨_, rfl, wkt_nils⟩ | exact wkt_same rfl | exact wkt_erase rfl | exact .inl .nild | exact .inl .nile | exact wkt_nils | exact WkB.same rfl | exact WkB_rows | exact WkB_nil | exact .dead _ | refine WkB_cons ?_ ?_ | refine And.intro ?_ ?_)))
  (simp (config := { maxSteps := 1000000 }) [])
  (refine AWcall_det (ref11_Make_calls A a (by omega)) (by rfl) (by rfl) ?_)
  have hsx := srt_makeP a
  have hmx := makeP_len a
  obtain ⟨x, hx⟩ : ∃ x, x = makeP a := ⟨_, rfl⟩
  rw [← hx] at hsx hmx ⊢
  (simp (config := { maxSteps := 1000000 }) [pairsD])
  (refine AWcall_det (ref11_Make_calls A b (by omega)) (by rfl) (by rfl) ?_)
  have hsy := srt_makeP b
  have hmy := makeP_len b
  obtain ⟨y, hy⟩ : ∃ x, x = makeP b := ⟨_, rfl⟩
  rw [← hy] at hsy hmy ⊢
  (simp (config := { maxSteps := 1000000 }) [pairsD])
  rw [law11_PairsetKeeps_m20_eq]
  refine AW_merge ⟨[(10, .d (.sl (x.map Pair.row))), (9, .d (.sl (y.map Pair.row))), (8, .d (.sl (x.map Pair.row))), (7, .d (.sl (a.map Pair.row))), (6, AB false), (5, .ptr 0 0), (1, .d (.sl (b.map Pair.row))), (0, .d (.sl (a.map Pair.row)))], [.mem [AI q.v, AI q.l]]⟩ (fun N hN => ?_) ?_
  · clear hR
    (simp (config := { maxSteps := 1000000 }) [])
    refine AWio_app_nile (by rfl) (by rfl) (hrow x) (by decide) (by simp; omega) (by simp; omega) (fun hl => ?_) (fun hl => ?_)
    · rw [hl] at hN ⊢
      (simp (config := { maxSteps := 1000000 }) [])
      exact hN _ (by (refine Wk.of ?_ ?_ (by simp) <;> repeat' (first | exact True.intro | exact ⟨_, rfl, wkt_same rfl⟩ | exact ⟨_, rfl, wkt_erase rfl⟩ | exact ⟨_, rfl, .inl .nild⟩ | exact ⟨_, rfl, .inl .nile⟩ | exact ⟨_, rfl, wkt_nils⟩ | exact wkt_same rfl | exact wkt_erase rfl | exact .inl .nild | exact .inl .nile | exact wkt_nils | exact WkB.same rfl | exact WkB_rows | exact WkB_nil | exact .dead _ | refine WkB_cons ?_ ?_ | refine And.intro ?_ ?_)))
    · (simp (config := { maxSteps := 1000000 }) [])
      exact hN _ (by (refine Wk.of ?_ ?_ (by simp) <;> repeat' (first | exact True.intro | exact ⟨_, rfl, wkt_same rfl⟩ | exact ⟨_, rfl, wkt_erase rfl⟩ | exact ⟨_, rfl, .inl .nild⟩ | exact ⟨_, rfl, .inl .nile⟩ | exact ⟨_, rfl, wkt_nils⟩ | exact wkt_same rfl | exact wkt_erase rfl | exact .inl .nild | exact .inl .nile | exact wkt_nils | exact WkB.same rfl | exact WkB_rows | exact WkB_nil | exact .dead _ | refine WkB_cons ?_ ?_ | refine And.intro ?_ ?_)))
  rw [law11_PairsetKeeps_m19_eq]
  refine AW_merge ⟨[(11, .d (.sl (y.map Pair.row))), (10, .d (.sl (x.map Pair.row))), (9, .d (.sl (y.map Pair.row))), (8, .d (.sl (x.map Pair.row))), (7, .d (.sl (a.map Pair.row))), (6, AB false), (5, .ptr 0 0), (1, .d (.sl (b.map Pair.row))), (0, .d (.sl (a.map Pair.row)))], [.mem [AI q.v, AI q.l]]⟩ (fun N hN => ?_) ?_
  · clear hR
    (simp (config := { maxSteps := 1000000 }) [])
    refine AWio_app_nile (by rfl) (by rfl) (hrow y) (by decide) (by simp; omega) (by simp; omega) (fun hl => ?_) (fun hl => ?_)
    · rw [hl] at hN ⊢
      (simp (config := { maxSteps := 1000000 }) [])
      exact hN _ (by (refine Wk.of ?_ ?_ (by simp) <;> repeat' (first | exact True.intro | exact ⟨_, rfl, wkt_same rfl⟩ | exact ⟨_, rfl, wkt_erase rfl⟩ | exact ⟨_, rfl, .inl .nild⟩ | exact ⟨_, rfl, .inl .nile⟩ | exact ⟨_, rfl, wkt_nils⟩ | exact wkt_same rfl | exact wkt_erase rfl | exact .inl .nild | exact .inl .nile | exact wkt_nils | exact WkB.same rfl | exact WkB_rows | exact WkB_nil | exact .dead _ | refine WkB_cons ?_ ?_ | refine And.intro ?_ ?_)))
    · (simp (config := { maxSteps := 1000000 }) [])
      exact hN _ (by (refine Wk.of ?_ ?_ (by simp) <;> repeat' (first | exact True.intro | exact ⟨_, rfl, wkt_same rfl⟩ | exact ⟨_, rfl, wkt_erase rfl⟩ | exact ⟨_, rfl, .inl .nild⟩ | exact ⟨_, rfl, .inl .nile⟩ | exact ⟨_, rfl, wkt_nils⟩ | exact wkt_same rfl | exact wkt_erase rfl | exact .inl .nild | exact .inl .nile | exact wkt_nils | exact WkB.same rfl | exact WkB_rows | exact WkB_nil | exact .dead _ | refine WkB_cons ?_ ?_ | refine And.intro ?_ ?_)))
  rw [law11_PairsetKeeps_m18_eq]
  refine AW_merge ⟨[(11, .d (.sl (y.map Pair.row))), (10, .d (.sl (x.map Pair.row))), (9, .d (.sl (y.map Pair.row))), (8, .d (.sl (x.map Pair.row))), (7, .d (.sl (a.map Pair.row))), (6, AB false), (5, .ptr 0 0), (1, .d (.sl (b.map Pair.row))), (0, .d (.sl (a.map Pair.row)))], [.mem [AI q.v, AI q.l]]⟩ (fun N hN => ?_) ?_
  · clear hR
    have hml := makeP_len a
    by_cases hz : makeP a = []
    · have hc := pairset_Make_calls A S a (by omega)
      rw [hz] at hc
      (simp (config := { maxSteps := 1000000 }) [])
      (refine AWcall_det hc (by rfl) (by rfl) ?_)
      (simp (config := { maxSteps := 1000000 }) [pairsD])
      (refine AWcall_det (law11_spoil_nil A) (by rfl) (by rfl) ?_)
      (simp (config := { maxSteps := 1000000 }) [])
      exact hN _ (by (refine Wk.of ?_ ?_ (by simp) <;> repeat' (first | exact True.intro | exact ⟨_, rfl, wkt_same rfl⟩ | exact ⟨_, rfl, wkt_erase rfl⟩ | exact ⟨_, rfl, .inl .nild⟩ | exact ⟨_, rfl, .inl .nile⟩ | exact ⟨_, rfl, wkt_nils⟩ | exact wkt_same rfl | exact wkt_erase rfl | exact .inl .nild | exact .inl .nile | exact wkt_nils | exact WkB.same rfl | exact WkB_rows | exact WkB_nil | exact .dead _ | refine WkB_cons ?_ ?_ | refine And.intro ?_ ?_)))
    · skip
      obtain ⟨ds, hds, hc⟩ := pairset_Make_new A S a (fun h => hz (by rw [h]; rfl)) (by omega)
      have hn : (makeP a).length < 1000000 := by omega
      obtain ⟨n, hne⟩ : ∃ n, n = (makeP a).length := ⟨_, rfl⟩
      rw [← hne] at hds hc hn
      (simp (config := { maxSteps := 1000000 }) [])
      refine AWcall_locn [] 1 hc (by decide) (by rfl) (by rfl) (by rfl) renB_ds' (by rfl) (by rfl) ?_
      (simp (config := { maxSteps := 1000000 }) [])
      refine AWcall_loc [1] (law11_spoil_calls A n ds hds hn) (by decide) (by rfl) (by rfl) renB_ds' (by rfl) (by rfl) (by rfl) ?_
      (simp (config := { maxSteps := 1000000 }) [])
      exact hN _ (by (refine Wk.of ?_ ?_ (by simp) <;> repeat' (first | exact True.intro | exact ⟨_, rfl, wkt_same rfl⟩ | exact ⟨_, rfl, wkt_erase rfl⟩ | exact ⟨_, rfl, .inl .nild⟩ | exact ⟨_, rfl, .inl .nile⟩ | exact ⟨_, rfl, wkt_nils⟩ | exact wkt_same rfl | exact wkt_erase rfl | exact .inl .nild | exact .inl .nile | exact wkt_nils | exact WkB.same rfl | exact WkB_rows | exact WkB_nil | exact .dead _ | refine WkB_cons ?_ ?_ | refine And.intro ?_ ?_)))
  rw [law11_PairsetKeeps_m17_eq]
  refine AW_merge ⟨[(11, .d (.sl (y.map Pair.row))), (10, .d (.sl (x.map Pair.row))), (9, .d (.sl (y.map Pair.row))), (8, .d (.sl (x.map Pair.row))), (7, .d (.sl (a.map Pair.row))), (6, AB false), (5, .ptr 0 0), (1, .d (.sl (b.map Pair.row))), (0, .d (.sl (a.map Pair.row)))], [.mem [AI q.v, AI q.l]]⟩ (fun N hN => ?_) ?_
  · clear hR
    have hml := addP_len1 x q
    obtain ⟨ds, hds, hc⟩ := newC_of (pairset_Add_own A x q (by omega) hsx) (fun h => by have : q ∈ addP x q := mem_addP.2 (.inl rfl); rw [h] at this; cases this) noOwnP
    have hn : (addP x q).length < 1000000 := by omega
    obtain ⟨n, hne⟩ : ∃ n, n = (addP x q).length := ⟨_, rfl⟩
    rw [← hne] at hds hc hn
    (simp (config := { maxSteps := 1000000 }) [])
    refine AWcall_locn [] 1 hc (by decide) (by rfl) (by rfl) (by rfl) renB_ds' (by rfl) (by rfl) ?_
    (simp (config := { maxSteps := 1000000 }) [])
    refine AWcall_loc [1] (law11_spoil_calls A n ds hds hn) (by decide) (by rfl) (by rfl) renB_ds' (by rfl) (by rfl) (by rfl) ?_
    (simp (config := { maxSteps := 1000000 }) [])
    exact hN _ (by (refine Wk.of ?_ ?_ (by simp) <;> repeat' (first | exact True.intro | exact ⟨_, rfl, wkt_same rfl⟩ | exact ⟨_, rfl, wkt_erase rfl⟩ | exact ⟨_, rfl, .inl .nild⟩ | exact ⟨_, rfl, .inl .nile⟩ | exact ⟨_, rfl, wkt_nils⟩ | exact wkt_same rfl | exact wkt_erase rfl | exact .inl .nild | exact .inl .nile | exact wkt_nils | exact WkB.same rfl | exact WkB_rows | exact WkB_nil | exact .dead _ | refine WkB_cons ?_ ?_ | refine And.intro ?_ ?_)))
  rw [law11_PairsetKeeps_m16_eq]
  refine AW_merge ⟨[(11, .d (.sl (y.map Pair.row))), (10, .d (.sl (x.map Pair.row))), (9, .d (.sl (y.map Pair.row))), (8, .d (.sl (x.map Pair.row))), (7, .d (.sl (a.map Pair.row))), (6, AB false), (5, .ptr 0 0), (1, .d (.sl (b.map Pair.row))), (0, .d (.sl (a.map Pair.row)))], [.mem [AI q.v, AI q.l]]⟩ (fun N hN => ?_) ?_
  · clear hR
    have hml := List.length_filter_le (fun z : Pair => z.v != q.v) x
    by_cases hz : x.filter fun z => z.v != q.v = []
    · have hc := pairset_DropV_calls A x q.v (by omega)
      rw [hz] at hc
      (simp (config := { maxSteps := 1000000 }) [])
      (refine AWcall_det hc (by rfl) (by rfl) ?_)
      (simp (config := { maxSteps := 1000000 }) [pairsD])
      (refine AWcall_det (law11_spoil_nil A) (by rfl) (by rfl) ?_)
      (simp (config := { maxSteps := 1000000 }) [])
      exact hN _ (by (refine Wk.of ?_ ?_ (by simp) <;> repeat' (first | exact True.intro | exact ⟨_, rfl, wkt_same rfl⟩ | exact ⟨_, rfl, wkt_erase rfl⟩ | exact ⟨_, rfl, .inl .nild⟩ | exact ⟨_, rfl, .inl .nile⟩ | exact ⟨_, rfl, wkt_nils⟩ | exact wkt_same rfl | exact wkt_erase rfl | exact .inl .nild | exact .inl .nile | exact wkt_nils | exact WkB.same rfl | exact WkB_rows | exact WkB_nil | exact .dead _ | refine WkB_cons ?_ ?_ | refine And.intro ?_ ?_)))
    · skip
      obtain ⟨ds, hds, hc⟩ := newC_of (pairset_DropV_own A x q.v (by omega)) hz noOwn2
      have hn : (x.filter fun z => z.v != q.v).length < 1000000 := by omega
      obtain ⟨n, hne⟩ : ∃ n, n = (x.filter fun z => z.v != q.v).length := ⟨_, rfl⟩
      rw [← hne] at hds hc hn
      (simp (config := { maxSteps := 1000000 }) [])
      refine AWcall_locn [] 1 hc (by decide) (by rfl) (by rfl) (by rfl) renB_ds' (by rfl) (by rfl) ?_
      (simp (config := { maxSteps := 1000000 }) [])
      refine AWcall_loc [1] (law11_spoil_calls A n ds hds hn) (by decide) (by rfl) (by rfl) renB_ds' (by rfl) (by rfl) (by rfl) ?_
      (simp (config := { maxSteps := 1000000 }) [])
      exact hN _ (by (refine Wk.of ?_ ?_ (by simp) <;> repeat' (first | exact True.intro | exact ⟨_, rfl, wkt_same rfl⟩ | exact ⟨_, rfl, wkt_erase rfl⟩ | exact ⟨_, rfl, .inl .nild⟩ | exact ⟨_, rfl, .inl .nile⟩ | exact ⟨_, rfl, wkt_nils⟩ | exact wkt_same rfl | exact wkt_erase rfl | exact .inl .nild | exact .inl .nile | exact wkt_nils | exact WkB.same rfl | exact WkB_rows | exact WkB_nil | exact .dead _ | refine WkB_cons ?_ ?_ | refine And.intro ?_ ?_)))
  rw [law11_PairsetKeeps_m15_eq]
  refine AW_merge ⟨[(11, .d (.sl (y.map Pair.row))), (10, .d (.sl (x.map Pair.row))), (9, .d (.sl (y.map Pair.row))), (8, .d (.sl (x.map Pair.row))), (7, .d (.sl (a.map Pair.row))), (6, AB false), (5, .ptr 0 0), (1, .d (.sl (b.map Pair.row))), (0, .d (.sl (a.map Pair.row)))], [.mem [AI q.v, AI q.l]]⟩ (fun N hN => ?_) ?_
  · clear hR
    have hml := List.length_filter_le (fun z : Pair => z.l != q.l) x
    by_cases hz : x.filter fun z => z.l != q.l = []
    · have hc := pairset_DropL_calls A x q.l (by omega)
      rw [hz] at hc
      (simp (config := { maxSteps := 1000000 }) [])
      (refine AWcall_det hc (by rfl) (by rfl) ?_)
      (simp (config := { maxSteps := 1000000 }) [pairsD])
      (refine AWcall_det (law11_spoil_nil A) (by rfl) (by rfl) ?_)
      (simp (config := { maxSteps := 1000000 }) [])
      exact hN _ (by (refine Wk.of ?_ ?_ (by simp) <;> repeat' (first | exact True.intro | exact ⟨_, rfl, wkt_same rfl⟩ | exact ⟨_, rfl, wkt_erase rfl⟩ | exact ⟨_, rfl, .inl .nild⟩ | exact ⟨_, rfl, .inl .nile⟩ | exact ⟨_, rfl, wkt_nils⟩ | exact wkt_same rfl | exact wkt_erase rfl | exact .inl .nild | exact .inl .nile | exact wkt_nils | exact WkB.same rfl | exact WkB_rows | exact WkB_nil | exact .dead _ | refine WkB_cons ?_ ?_ | refine And.intro ?_ ?_)))
    · skip
      obtain ⟨ds, hds, hc⟩ := newC_of (pairset_DropL_own A x q.l (by omega)) hz noOwn2
      have hn : (x.filter fun z => z.l != q.l).length < 1000000 := by omega
      obtain ⟨n, hne⟩ : ∃ n, n = (x.filter fun z => z.l != q.l).length := ⟨_, rfl⟩
      rw [← hne] at hds hc hn
      (simp (config := { maxSteps := 1000000 }) [])
      refine AWcall_locn [] 1 hc (by decide) (by rfl) (by rfl) (by rfl) renB_ds' (by rfl) (by rfl) ?_
      (simp (config := { maxSteps := 1000000 }) [])
      refine AWcall_loc [1] (law11_spoil_calls A n ds hds hn) (by decide) (by rfl) (by rfl) renB_ds' (by rfl) (by rfl) (by rfl) ?_
      (simp (config := { maxSteps := 1000000 }) [])
      exact hN _ (by (refine Wk.of ?_ ?_ (by simp) <;> repeat' (first | exact True.intro | exact ⟨_, rfl, wkt_same rfl⟩ | exact ⟨_, rfl, wkt_erase rfl⟩ | exact ⟨_, rfl, .inl .nild⟩ | exact ⟨_, rfl, .inl .nile⟩ | exact ⟨_, rfl, wkt_nils⟩ | exact wkt_same rfl | exact wkt_erase rfl | exact .inl .nild | exact .inl .nile | exact wkt_nils | exact WkB.same rfl | exact WkB_rows | exact WkB_nil | exact .dead _ | refine WkB_cons ?_ ?_ | refine And.intro ?_ ?_)))
  rw [law11_PairsetKeeps_m14_eq]
  refine AW_merge ⟨[(11, .d (.sl (y.map Pair.row))), (10, .d (.sl (x.map Pair.row))), (9, .d (.sl (y.map Pair.row))), (8, .d (.sl (x.map Pair.row))), (7, .d (.sl (a.map Pair.row))), (6, AB false), (5, .ptr 0 0), (1, .d (.sl (b.map Pair.row))), (0, .d (.sl (a.map Pair.row)))], [.mem [AI q.v, AI q.l]]⟩ (fun N hN => ?_) ?_
  · clear hR
    have hml : (mergeP x y).length ≤ x.length + y.length := by rw [mergeP_make hsx hsy]; have := makeP_len (x ++ y); rw [List.length_append] at this; exact this
    by_cases hz : mergeP x y = []
    · have hc := pairset_Union_calls A x y (by omega) (by omega)
      rw [hz] at hc
      (simp (config := { maxSteps := 1000000 }) [])
      (refine AWcall_det hc (by rfl) (by rfl) ?_)
      (simp (config := { maxSteps := 1000000 }) [pairsD])
      (refine AWcall_det (law11_spoil_nil A) (by rfl) (by rfl) ?_)
      (simp (config := { maxSteps := 1000000 }) [])
      exact hN _ (by (refine Wk.of ?_ ?_ (by simp) <;> repeat' (first | exact True.intro | exact ⟨_, rfl, wkt_same rfl⟩ | exact ⟨_, rfl, wkt_erase rfl⟩ | exact ⟨_, rfl, .inl .nild⟩ | exact ⟨_, rfl, .inl .nile⟩ | exact ⟨_, rfl, wkt_nils⟩ | exact wkt_same rfl | exact wkt_erase rfl | exact .inl .nild | exact .inl .nile | exact wkt_nils | exact WkB.same rfl | exact WkB_rows | exact WkB_nil | exact .dead _ | refine WkB_cons ?_ ?_ | refine And.intro ?_ ?_)))
    · skip
      obtain ⟨ds, hds, hc⟩ := newC_of (pairset_Union_own A x y (by omega) (by omega)) hz noOwn2
      have hn : (mergeP x y).length < 1000000 := by omega
      obtain ⟨n, hne⟩ : ∃ n, n = (mergeP x y).length := ⟨_, rfl⟩
      rw [← hne] at hds hc hn
      (simp (config := { maxSteps := 1000000 }) [])
      refine AWcall_locn [] 1 hc (by decide) (by rfl) (by rfl) (by rfl) renB_ds' (by rfl) (by rfl) ?_
      (simp (config := { maxSteps := 1000000 }) [])
      refine AWcall_loc [1] (law11_spoil_calls A n ds hds hn) (by decide) (by rfl) (by rfl) renB_ds' (by rfl) (by rfl) (by rfl) ?_
      (simp (config := { maxSteps := 1000000 }) [])
      exact hN _ (by (refine Wk.of ?_ ?_ (by simp) <;> repeat' (first | exact True.intro | exact ⟨_, rfl, wkt_same rfl⟩ | exact ⟨_, rfl, wkt_erase rfl⟩ | exact ⟨_, rfl, .inl .nild⟩ | exact ⟨_, rfl, .inl .nile⟩ | exact ⟨_, rfl, wkt_nils⟩ | exact wkt_same rfl | exact wkt_erase rfl | exact .inl .nild | exact .inl .nile | exact wkt_nils | exact WkB.same rfl | exact WkB_rows | exact WkB_nil | exact .dead _ | refine WkB_cons ?_ ?_ | refine And.intro ?_ ?_)))
  (simp (config := { maxSteps := 1000000 }) [])
  have s1 := ref11_Same_calls A a a (by omega) (by omega)
  have s2 := ref11_Same_calls A x x (by omega) (by omega)
  have s3 := ref11_Same_calls A y y (by omega) (by omega)
  rw [decide_eq_true rfl] at s1 s2 s3
  (refine AWcall_det s1 (by rfl) (by rfl) ?_)
  (simp (config := { maxSteps := 1000000 }) [])
  (refine AWcall_det s2 (by rfl) (by rfl) ?_)
  (simp (config := { maxSteps := 1000000 }) [])
  (refine AWcall_det s3 (by rfl) (by rfl) ?_)
  (simp (config := { maxSteps := 1000000 }) [])
  (first | exact hR _ _ (Fin_ret _ rfl rfl rfl) | exact hR _ _ (Fin_normal _ rfl rfl rfl) | exact hR _ _ (Fin_ret _ rfl rfl (by simp [AV.erase, AV.unview]; done)) | exact hR _ _ (Fin_normal _ rfl rfl (by simp [AV.erase, AV.unview]; done)) | fail "no end")
end
end Go.AE
