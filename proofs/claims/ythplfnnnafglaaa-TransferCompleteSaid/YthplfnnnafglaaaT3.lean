/- A part of the proof: the evaluator over abstract values, its codes, the contracts of the functions. -/
import Derived.Test.YthplfnnnafglaaaT2
import Derived.Shelf.SlSortCmp.NoneTotal
set_option linter.unusedVariables false
set_option linter.unusedSimpArgs false
/- Sets of pairs: the reference. -/
set_option linter.unusedVariables false
namespace Go.AE
open Go
section
theorem ref11_Less_calls {P : Program} {p : Nums} (A : All P p) (a b : Pair) : CallsTo P p.ref11_Less [a.av, b.av] [] fun o _ => o = .ret (AB (lessP a b)) := by
  refine A.ref11_Less.run rfl fun R hR => ?_
  (simp (config := { maxSteps := 1000000 }) [ic_ref11_Less, Pair.av])
  ((first | refine AW_cond_split _ (by rfl) (fun h => ?_) (fun h => ?_) | refine AWop_split _ (by rfl) (fun h => ?_) (fun h => ?_)) <;> (try simp only [decide_eq_true_eq, decide_eq_false_iff_not, Bool.not_eq_true', Bool.not_eq_false', Bool.and_eq_true, Bool.or_eq_true, beq_iff_eq, bne_iff_ne, ne_eq, beq_eq_false_iff_ne, bne_eq_false_iff_eq] at h))
  · (simp (config := { maxSteps := 1000000 }) [h])
    (first | exact hR _ _ (Fin_ret _ rfl rfl rfl) | exact hR _ _ (Fin_normal _ rfl rfl rfl) | exact hR _ _ (Fin_ret _ rfl rfl (by simp [AV.erase, AV.unview, lessP, h]; done)) | exact hR _ _ (Fin_normal _ rfl rfl (by simp [AV.erase, AV.unview, lessP, h]; done)) | fail "no end")
  · (simp (config := { maxSteps := 1000000 }) [h])
    (first | exact hR _ _ (Fin_ret _ rfl rfl rfl) | exact hR _ _ (Fin_normal _ rfl rfl rfl) | exact hR _ _ (Fin_ret _ rfl rfl (by simp [AV.erase, AV.unview, lessP, h]; done)) | exact hR _ _ (Fin_normal _ rfl rfl (by simp [AV.erase, AV.unview, lessP, h]; done)) | fail "no end")
theorem ref11_Has_calls {P : Program} {p : Nums} (A : All P p) (l : List Pair) (q : Pair) (h0 : l.length < 1000000000) : CallsTo P p.ref11_Has [.d (pairsD l), q.av] [] fun o _ => o = .ret (AB (decide (q ∈ l))) := by
  refine A.ref11_Has.run rfl fun R hR => ?_
  (simp (config := { maxSteps := 1000000 }) [ic_ref11_Has, pairsD, Pair.av])
  refine AW_loop (fun k : Nat => ⟨[(5, AI k), (4, AB false), (3, .ptr 0 0), (0, .d (.sl (l.map Pair.row)))], [.mem [AI q.v, AI q.l]]⟩) (fun k => k ≤ l.length ∧ q ∉ l.take k) (fun k => l.length - k) 0 (by simp) (by (refine Wk.of ?_ ?_ (by simp) <;> repeat' (first | exact True.intro | exact ⟨_, rfl, wkt_same rfl⟩ | exact ⟨_, rfl, wkt_erase rfl⟩ | exact ⟨_, rfl, .inl .nild⟩ | exact ⟨_, rfl, .inl .nile⟩ | exact ⟨_, rfl, wkt_nils⟩ | exact wkt_same rfl | exact wkt_erase rfl | exact .inl .nild | exact .inl .nile | exact wkt_nils | exact WkB.same rfl | exact WkB_rows | exact WkB_nil | exact .dead _ | refine WkB_cons ?_ ?_ | refine And.intro ?_ ?_))) ?_
  rintro k ⟨hk, hz⟩ N hN
  (simp (config := { maxSteps := 1000000 }) [])
  ((first | refine AW_cond_split _ (by rfl) (fun h2 => ?_) (fun h2 => ?_) | refine AWop_split _ (by rfl) (fun h2 => ?_) (fun h2 => ?_)) <;> (try simp only [decide_eq_true_eq, decide_eq_false_iff_not, Bool.not_eq_true', Bool.not_eq_false', Bool.and_eq_true, Bool.or_eq_true, beq_iff_eq, bne_iff_ne, ne_eq, beq_eq_false_iff_ne, bne_eq_false_iff_eq] at h2))
  · have hkl : k < l.length := by simpa using h2
    have hb : l[k]? = some l[k] := by simp
    have hw := wrap_succ (k := k) (by omega)
    (simp (config := { maxSteps := 1000000 }) [h2, hb, Pair.row])
    ((first | refine AW_cond_split _ (by rfl) (fun h3 => ?_) (fun h3 => ?_) | refine AWop_split _ (by rfl) (fun h3 => ?_) (fun h3 => ?_)) <;> (try simp only [decide_eq_true_eq, decide_eq_false_iff_not, Bool.not_eq_true', Bool.not_eq_false', Bool.and_eq_true, Bool.or_eq_true, beq_iff_eq, bne_iff_ne, ne_eq, beq_eq_false_iff_ne, bne_eq_false_iff_eq] at h3))
    · (simp (config := { maxSteps := 1000000 }) [h3])
      have e : q = l[k] := by cases q; cases hq : l[k]; simp_all
      have : q ∈ l := by rw [e]; exact List.getElem_mem hkl
      (first | exact hR _ _ (Fin_ret _ rfl rfl rfl) | exact hR _ _ (Fin_normal _ rfl rfl rfl) | exact hR _ _ (Fin_ret _ rfl rfl (by simp [AV.erase, AV.unview, this]; done)) | exact hR _ _ (Fin_normal _ rfl rfl (by simp [AV.erase, AV.unview, this]; done)) | fail "no end")
    · (simp (config := { maxSteps := 1000000 }) [h3, hw])
      refine hN _ (k + 1) ⟨hkl, ?_⟩ (by (refine Wk.of ?_ ?_ (by simp) <;> repeat' (first | exact True.intro | exact ⟨_, rfl, wkt_same rfl⟩ | exact ⟨_, rfl, wkt_erase rfl⟩ | exact ⟨_, rfl, .inl .nild⟩ | exact ⟨_, rfl, .inl .nile⟩ | exact ⟨_, rfl, wkt_nils⟩ | exact wkt_same rfl | exact wkt_erase rfl | exact .inl .nild | exact .inl .nile | exact wkt_nils | exact WkB.same rfl | exact WkB_rows | exact WkB_nil | exact .dead _ | refine WkB_cons ?_ ?_ | refine And.intro ?_ ?_))) (by omega)
      rw [List.take_add_one, hb]
      simp only [List.mem_append, not_or, hz, not_false_eq_true, true_and, Option.toList, List.mem_singleton]
      intro e; subst e; simp at h3
  · have hk' : k = l.length := by simp at h2; omega
    subst hk'
    have : q ∉ l := by simpa using hz
    (simp (config := { maxSteps := 1000000 }) [])
    (first | exact hR _ _ (Fin_ret _ rfl rfl rfl) | exact hR _ _ (Fin_normal _ rfl rfl rfl) | exact hR _ _ (Fin_ret _ rfl rfl (by simp [AV.erase, AV.unview, this]; done)) | exact hR _ _ (Fin_normal _ rfl rfl (by simp [AV.erase, AV.unview, this]; done)) | fail "no end")
theorem ref11_Same_calls {P : Program} {p : Nums} (A : All P p) (a b : List Pair) (h0 : a.length < 1000000000) (h1 : b.length < 1000000000) : CallsTo P p.ref11_Same [.d (pairsD a), .d (pairsD b)] [] fun o _ => o = .ret (AB (decide (a = b))) := by
  refine A.ref11_Same.run rfl fun R hR => ?_
  (simp (config := { maxSteps := 1000000 }) [ic_ref11_Same, pairsD])
  ((first | refine AW_cond_split _ (by rfl) (fun hl => ?_) (fun hl => ?_) | refine AWop_split _ (by rfl) (fun hl => ?_) (fun hl => ?_)) <;> (try simp only [decide_eq_true_eq, decide_eq_false_iff_not, Bool.not_eq_true', Bool.not_eq_false', Bool.and_eq_true, Bool.or_eq_true, beq_iff_eq, bne_iff_ne, ne_eq, beq_eq_false_iff_ne, bne_eq_false_iff_eq] at hl))
  · (simp (config := { maxSteps := 1000000 }) [hl])
    have : a ≠ b := by rintro rfl; exact hl rfl
    (first | exact hR _ _ (Fin_ret _ rfl rfl rfl) | exact hR _ _ (Fin_normal _ rfl rfl rfl) | exact hR _ _ (Fin_ret _ rfl rfl (by simp [AV.erase, AV.unview, this]; done)) | exact hR _ _ (Fin_normal _ rfl rfl (by simp [AV.erase, AV.unview, this]; done)) | fail "no end")
  have hl' : a.length = b.length := by omega
  (simp (config := { maxSteps := 1000000 }) [hl'])
  refine AW_loop (fun k : Nat => ⟨[(5, AI k), (4, AB false), (1, .d (.sl (b.map Pair.row))), (0, .d (.sl (a.map Pair.row)))], []⟩) (fun k => k ≤ a.length ∧ a.take k = b.take k) (fun k => a.length - k) 0 (by simp) (by (refine Wk.of ?_ ?_ (by simp) <;> repeat' (first | exact True.intro | exact ⟨_, rfl, wkt_same rfl⟩ | exact ⟨_, rfl, wkt_erase rfl⟩ | exact ⟨_, rfl, .inl .nild⟩ | exact ⟨_, rfl, .inl .nile⟩ | exact ⟨_, rfl, wkt_nils⟩ | exact wkt_same rfl | exact wkt_erase rfl | exact .inl .nild | exact .inl .nile | exact wkt_nils | exact WkB.same rfl | exact WkB_rows | exact WkB_nil | exact .dead _ | refine WkB_cons ?_ ?_ | refine And.intro ?_ ?_))) ?_
  rintro k ⟨hk, hz⟩ N hN
  (simp (config := { maxSteps := 1000000 }) [])
  ((first | refine AW_cond_split _ (by rfl) (fun h2 => ?_) (fun h2 => ?_) | refine AWop_split _ (by rfl) (fun h2 => ?_) (fun h2 => ?_)) <;> (try simp only [decide_eq_true_eq, decide_eq_false_iff_not, Bool.not_eq_true', Bool.not_eq_false', Bool.and_eq_true, Bool.or_eq_true, beq_iff_eq, bne_iff_ne, ne_eq, beq_eq_false_iff_ne, bne_eq_false_iff_eq] at h2))
  · have hkl : k < a.length := by simpa using h2
    have hkl2 : k < b.length := by omega
    have hb : a[k]? = some a[k] := by simp
    have hb2 : b[k]? = some b[k] := by simp
    have hw := wrap_succ (k := k) (by omega)
    (simp (config := { maxSteps := 1000000 }) [h2, hb, hb2, hkl2, Pair.row])
    ((first | refine AW_cond_split _ (by rfl) (fun h3 => ?_) (fun h3 => ?_) | refine AWop_split _ (by rfl) (fun h3 => ?_) (fun h3 => ?_)) <;> (try simp only [decide_eq_true_eq, decide_eq_false_iff_not, Bool.not_eq_true', Bool.not_eq_false', Bool.and_eq_true, Bool.or_eq_true, beq_iff_eq, bne_iff_ne, ne_eq, beq_eq_false_iff_ne, bne_eq_false_iff_eq] at h3))
    · (simp (config := { maxSteps := 1000000 }) [h3])
      have : a ≠ b := by rintro rfl; simp at h3
      (first | exact hR _ _ (Fin_ret _ rfl rfl rfl) | exact hR _ _ (Fin_normal _ rfl rfl rfl) | exact hR _ _ (Fin_ret _ rfl rfl (by simp [AV.erase, AV.unview, this]; done)) | exact hR _ _ (Fin_normal _ rfl rfl (by simp [AV.erase, AV.unview, this]; done)) | fail "no end")
    · (simp (config := { maxSteps := 1000000 }) [h3, hw])
      refine hN _ (k + 1) ⟨hkl, ?_⟩ (by (refine Wk.of ?_ ?_ (by simp) <;> repeat' (first | exact True.intro | exact ⟨_, rfl, wkt_same rfl⟩ | exact ⟨_, rfl, wkt_erase rfl⟩ | exact ⟨_, rfl, .inl .nild⟩ | exact ⟨_, rfl, .inl .nile⟩ | exact ⟨_, rfl, wkt_nils⟩ | exact wkt_same rfl | exact wkt_erase rfl | exact .inl .nild | exact .inl .nile | exact wkt_nils | exact WkB.same rfl | exact WkB_rows | exact WkB_nil | exact .dead _ | refine WkB_cons ?_ ?_ | refine And.intro ?_ ?_))) (by omega)
      have e : a[k] = b[k] := by cases hq : a[k]; cases hq' : b[k]; simp_all
      rw [List.take_add_one, List.take_add_one, hb, hb2, hz, e]
  · have hk' : k = a.length := by simp at h2; omega
    subst hk'
    have : a = b := by rw [List.take_length, hl', List.take_length] at hz; exact hz
    (simp (config := { maxSteps := 1000000 }) [])
    (first | exact hR _ _ (Fin_ret _ rfl rfl rfl) | exact hR _ _ (Fin_normal _ rfl rfl rfl) | exact hR _ _ (Fin_ret _ rfl rfl (by simp [AV.erase, AV.unview, this]; done)) | exact hR _ _ (Fin_normal _ rfl rfl (by simp [AV.erase, AV.unview, this]; done)) | fail "no end")
end
end Go.AE

/- Sets of pairs: the reference's Add, Make, Missing. -/
set_option linter.unusedVariables false
namespace Go.AE
open Go
section
theorem ref11_Add_calls {P : Program} {p : Nums} (A : All P p) (l : List Pair) (q : Pair) (h0 : l.length < 1000000) : CallsTo P p.ref11_Add [.d (pairsD l), q.av] [] fun o _ => o = .ret (.d (pairsD (addP l q))) := by
  refine A.ref11_Add.run rfl fun R hR => ?_
  (simp (config := { maxSteps := 1000000 }) [ic_ref11_Add, pairsD, Pair.av])
  refine AW_loop (fun k : Nat => ⟨[(7, AI k), (6, AB (foldA q (l.take k)).2), (5, .own 2 ((foldA q (l.take k)).1.map Pair.row)), (4, .nils), (3, .ptr 0 0), (0, .d (.sl (l.map Pair.row)))], [.mem [AI q.v, AI q.l]]⟩) (fun k => k ≤ l.length) (fun k => l.length - k) 0 (by simp) (by simp only [foldA, List.take_zero, List.foldl_nil, List.map_nil]; (refine Wk.of ?_ ?_ (by simp) <;> repeat' (first | exact True.intro | exact ⟨_, rfl, wkt_same rfl⟩ | exact ⟨_, rfl, wkt_erase rfl⟩ | exact ⟨_, rfl, .inl .nild⟩ | exact ⟨_, rfl, .inl .nile⟩ | exact ⟨_, rfl, wkt_nils⟩ | exact wkt_same rfl | exact wkt_erase rfl | exact .inl .nild | exact .inl .nile | exact wkt_nils | exact WkB.same rfl | exact WkB_rows | exact WkB_nil | exact .dead _ | refine WkB_cons ?_ ?_ | refine And.intro ?_ ?_))) ?_
  intro k hk N hN
  have hlen := foldA_len q (l.take k) ([], false)
  obtain ⟨out, dn, hs⟩ : ∃ out dn, foldA q (l.take k) = (out, dn) := ⟨_, _, rfl⟩
  have hlen : out.length ≤ 2 * k := by
    have : (foldA q (l.take k)).1.length ≤ 0 + 2 * (l.take k).length := hlen
    rw [hs] at this; simp at this; omega
  simp only [hs]
  (simp (config := { maxSteps := 1000000 }) [])
  ((first | refine AW_cond_split _ (by rfl) (fun h2 => ?_) (fun h2 => ?_) | refine AWop_split _ (by rfl) (fun h2 => ?_) (fun h2 => ?_)) <;> (try simp only [decide_eq_true_eq, decide_eq_false_iff_not, Bool.not_eq_true', Bool.not_eq_false', Bool.and_eq_true, Bool.or_eq_true, beq_iff_eq, bne_iff_ne, ne_eq, beq_eq_false_iff_ne, bne_eq_false_iff_eq] at h2))
  · have hkl : k < l.length := by simpa using h2
    have hb : l[k]? = some l[k] := by simp
    have hw := wrap_succ (k := k) (by omega)
    have hsn := foldA_succ (p := q) hkl
    rw [hs] at hsn
    have next : ∀ st', Wk 0 st' ⟨[(7, AI ((k + 1 : Nat) : Int)), (6, AB (stepA q (out, dn) l[k]).2), (5, .own 2 ((stepA q (out, dn) l[k]).1.map Pair.row)), (4, .nils), (3, .ptr 0 0), (0, .d (.sl (l.map Pair.row)))], [.mem [AI q.v, AI q.l]]⟩ → N st' := by
      intro st' h; rw [← hsn] at h; exact hN st' (k + 1) hkl h (by omega)
    obtain ⟨x, hx⟩ : ∃ x, x = l[k] := ⟨_, rfl⟩
    rw [← hx] at hb next
    have hrow : ∀ l : List Pair, ∀ r ∈ l.map Pair.row, r.length = 2 := fun l => rows_len fun x => rfl
    (simp (config := { maxSteps := 1000000 }) [h2, hb, Pair.row])
    cases dn with
    | true =>
      (simp (config := { maxSteps := 1000000 }) [hb, Pair.row])
      ((first | refine AW_cond_split _ (by rfl) (fun h3 => ?_) (fun h3 => ?_) | refine AWop_split _ (by rfl) (fun h3 => ?_) (fun h3 => ?_)) <;> (try simp only [decide_eq_true_eq, decide_eq_false_iff_not, Bool.not_eq_true', Bool.not_eq_false', Bool.and_eq_true, Bool.or_eq_true, beq_iff_eq, bne_iff_ne, ne_eq, beq_eq_false_iff_ne, bne_eq_false_iff_eq] at h3))
      · have e : x ≠ q := by rintro rfl; simp at h3
        (simp (config := { maxSteps := 1000000 }) [h3, hb, hw, Pair.row])
        (refine AWio_app_own (by rfl) (by rfl) (by rfl) ?_ (by decide) ?_ ?_ ?_)
        · simp
        · simp; omega
        · simp; omega
        (simp (config := { maxSteps := 1000000 }) [hw])
        exact next _ (by simp only [stepA, e]; simp [Pair.row]; (refine Wk.of ?_ ?_ (by simp) <;> repeat' (first | exact True.intro | exact ⟨_, rfl, wkt_same rfl⟩ | exact ⟨_, rfl, wkt_erase rfl⟩ | exact ⟨_, rfl, .inl .nild⟩ | exact ⟨_, rfl, .inl .nile⟩ | exact ⟨_, rfl, wkt_nils⟩ | exact wkt_same rfl | exact wkt_erase rfl | exact .inl .nild | exact .inl .nile | exact wkt_nils | exact WkB.same rfl | exact WkB_rows | exact WkB_nil | exact .dead _ | refine WkB_cons ?_ ?_ | refine And.intro ?_ ?_)))
      · have e : x = q := by cases x; cases q; simp_all
        (simp (config := { maxSteps := 1000000 }) [h3, hw])
        exact next _ (by simp only [stepA, e]; simp; (refine Wk.of ?_ ?_ (by simp) <;> repeat' (first | exact True.intro | exact ⟨_, rfl, wkt_same rfl⟩ | exact ⟨_, rfl, wkt_erase rfl⟩ | exact ⟨_, rfl, .inl .nild⟩ | exact ⟨_, rfl, .inl .nile⟩ | exact ⟨_, rfl, wkt_nils⟩ | exact wkt_same rfl | exact wkt_erase rfl | exact .inl .nild | exact .inl .nile | exact wkt_nils | exact WkB.same rfl | exact WkB_rows | exact WkB_nil | exact .dead _ | refine WkB_cons ?_ ?_ | refine And.intro ?_ ?_)))
    | false =>
      (simp (config := { maxSteps := 1000000 }) [hb, Pair.row])
      (refine AWcall_det (ref11_Less_calls A x q) (by rfl) (by rfl) ?_)
      (simp (config := { maxSteps := 1000000 }) [])
      by_cases hl : lessP x q = true
      · (simp (config := { maxSteps := 1000000 }) [hl, hb, hw, Pair.row])
        ((first | refine AW_cond_split _ (by rfl) (fun h3 => ?_) (fun h3 => ?_) | refine AWop_split _ (by rfl) (fun h3 => ?_) (fun h3 => ?_)) <;> (try simp only [decide_eq_true_eq, decide_eq_false_iff_not, Bool.not_eq_true', Bool.not_eq_false', Bool.and_eq_true, Bool.or_eq_true, beq_iff_eq, bne_iff_ne, ne_eq, beq_eq_false_iff_ne, bne_eq_false_iff_eq] at h3))
        · have e : x ≠ q := by rintro rfl; simp at h3
          (simp (config := { maxSteps := 1000000 }) [h3, hb, hw, Pair.row])
          (refine AWio_app_own (by rfl) (by rfl) (by rfl) ?_ (by decide) ?_ ?_ ?_)
          · simp
          · simp; omega
          · simp; omega
          (simp (config := { maxSteps := 1000000 }) [hw])
          exact next _ (by simp only [stepA, hl, e]; simp [Pair.row]; (refine Wk.of ?_ ?_ (by simp) <;> repeat' (first | exact True.intro | exact ⟨_, rfl, wkt_same rfl⟩ | exact ⟨_, rfl, wkt_erase rfl⟩ | exact ⟨_, rfl, .inl .nild⟩ | exact ⟨_, rfl, .inl .nile⟩ | exact ⟨_, rfl, wkt_nils⟩ | exact wkt_same rfl | exact wkt_erase rfl | exact .inl .nild | exact .inl .nile | exact wkt_nils | exact WkB.same rfl | exact WkB_rows | exact WkB_nil | exact .dead _ | refine WkB_cons ?_ ?_ | refine And.intro ?_ ?_)))
        · have e : x = q := by cases x; cases q; simp_all
          (simp (config := { maxSteps := 1000000 }) [h3, hw])
          subst e
          exact next _ (by simp only [stepA, hl]; simp; (refine Wk.of ?_ ?_ (by simp) <;> repeat' (first | exact True.intro | exact ⟨_, rfl, wkt_same rfl⟩ | exact ⟨_, rfl, wkt_erase rfl⟩ | exact ⟨_, rfl, .inl .nild⟩ | exact ⟨_, rfl, .inl .nile⟩ | exact ⟨_, rfl, wkt_nils⟩ | exact wkt_same rfl | exact wkt_erase rfl | exact .inl .nild | exact .inl .nile | exact wkt_nils | exact WkB.same rfl | exact WkB_rows | exact WkB_nil | exact .dead _ | refine WkB_cons ?_ ?_ | refine And.intro ?_ ?_)))
      · have hl : lessP x q = false := by simpa using hl
        (simp (config := { maxSteps := 1000000 }) [hl, hb, hw, Pair.row])
        (refine AWio_app_own (by rfl) (by rfl) (by rfl) ?_ (by decide) ?_ ?_ ?_)
        · simp
        · simp; omega
        · simp; omega
        (simp (config := { maxSteps := 1000000 }) [hb, hw, Pair.row])
        ((first | refine AW_cond_split _ (by rfl) (fun h3 => ?_) (fun h3 => ?_) | refine AWop_split _ (by rfl) (fun h3 => ?_) (fun h3 => ?_)) <;> (try simp only [decide_eq_true_eq, decide_eq_false_iff_not, Bool.not_eq_true', Bool.not_eq_false', Bool.and_eq_true, Bool.or_eq_true, beq_iff_eq, bne_iff_ne, ne_eq, beq_eq_false_iff_ne, bne_eq_false_iff_eq] at h3))
        · have e : x ≠ q := by rintro rfl; simp at h3
          (simp (config := { maxSteps := 1000000 }) [h3, hb, hw, Pair.row])
          (refine AWio_app_own (by rfl) (by rfl) (by rfl) ?_ (by decide) ?_ ?_ ?_)
          · simp
          · simp; omega
          · simp; omega
          (simp (config := { maxSteps := 1000000 }) [hw])
          exact next _ (by simp only [stepA, hl, e]; simp [Pair.row]; (refine Wk.of ?_ ?_ (by simp) <;> repeat' (first | exact True.intro | exact ⟨_, rfl, wkt_same rfl⟩ | exact ⟨_, rfl, wkt_erase rfl⟩ | exact ⟨_, rfl, .inl .nild⟩ | exact ⟨_, rfl, .inl .nile⟩ | exact ⟨_, rfl, wkt_nils⟩ | exact wkt_same rfl | exact wkt_erase rfl | exact .inl .nild | exact .inl .nile | exact wkt_nils | exact WkB.same rfl | exact WkB_rows | exact WkB_nil | exact .dead _ | refine WkB_cons ?_ ?_ | refine And.intro ?_ ?_)))
        · have e : x = q := by cases x; cases q; simp_all
          (simp (config := { maxSteps := 1000000 }) [h3, hw])
          subst e
          exact next _ (by simp only [stepA, hl]; simp [Pair.row]; (refine Wk.of ?_ ?_ (by simp) <;> repeat' (first | exact True.intro | exact ⟨_, rfl, wkt_same rfl⟩ | exact ⟨_, rfl, wkt_erase rfl⟩ | exact ⟨_, rfl, .inl .nild⟩ | exact ⟨_, rfl, .inl .nile⟩ | exact ⟨_, rfl, wkt_nils⟩ | exact wkt_same rfl | exact wkt_erase rfl | exact .inl .nild | exact .inl .nile | exact wkt_nils | exact WkB.same rfl | exact WkB_rows | exact WkB_nil | exact .dead _ | refine WkB_cons ?_ ?_ | refine And.intro ?_ ?_)))
  · have hk' : k = l.length := by simp at h2; omega
    subst hk'
    rw [List.take_length] at hs
    cases dn with
    | true =>
      (simp (config := { maxSteps := 1000000 }) [])
      (first | exact hR _ _ (Fin_ret _ rfl rfl rfl) | exact hR _ _ (Fin_normal _ rfl rfl rfl) | exact hR _ _ (Fin_ret _ rfl rfl (by simp [AV.erase, AV.unview, addP, hs, pairsD]; done)) | exact hR _ _ (Fin_normal _ rfl rfl (by simp [AV.erase, AV.unview, addP, hs, pairsD]; done)) | fail "no end")
    | false =>
      (simp (config := { maxSteps := 1000000 }) [])
      (refine AWio_app_own (by rfl) (by rfl) (by rfl) ?_ (by decide) ?_ ?_ ?_)
      · simp
      · simp; omega
      · simp; omega
      (simp (config := { maxSteps := 1000000 }) [])
      (first | exact hR _ _ (Fin_ret _ rfl rfl rfl) | exact hR _ _ (Fin_normal _ rfl rfl rfl) | exact hR _ _ (Fin_ret _ rfl rfl (by simp [AV.erase, AV.unview, addP, hs, pairsD, Pair.row]; done)) | exact hR _ _ (Fin_normal _ rfl rfl (by simp [AV.erase, AV.unview, addP, hs, pairsD, Pair.row]; done)) | fail "no end")
end
end Go.AE

/- Sets of pairs: the reference's Make, Missing; Less, Sorted, find, Has. -/
set_option linter.unusedVariables false
namespace Go.AE
open Go
def missA (a b : List Pair) : AV := .tup [((missP a b).getD ⟨0, 0⟩).av, AB (missP a b).isSome]
theorem missP_at {a b : List Pair} {k : Nat} (h : k < a.length) (h1 : ∀ q ∈ a.take k, q ∈ b) (h2 : a[k] ∉ b) : missP a b = some a[k] := by
  unfold missP
  have e : a = a.take k ++ a[k] :: a.drop (k + 1) := by rw [List.getElem_cons_drop, List.take_append_drop]
  have e1 : (a.take k).find? (fun q => !decide (q ∈ b)) = none := by
    rw [List.find?_eq_none]; intro q hq; simp [h1 q hq]
  have e2 : (a[k] :: a.drop (k + 1)).find? (fun q => !decide (q ∈ b)) = some a[k] := by
    rw [List.find?_cons_of_pos (by simp [h2])]
  have e3 := congrArg (List.find? fun q => !decide (q ∈ b)) e
  rw [List.find?_append, e1, e2] at e3
  exact e3
theorem missP_none {a b : List Pair} (h1 : ∀ q ∈ a, q ∈ b) : missP a b = none := by
  unfold missP; rw [List.find?_eq_none]; intro q hq; simp [h1 q hq]
theorem missP_sub {a b : List Pair} : (missP a b).isSome = false ↔ ∀ q ∈ a, q ∈ b := by
  unfold missP
  rw [← Bool.not_eq_true, List.find?_isSome]
  simp
section
theorem ref11_Make_calls {P : Program} {p : Nums} (A : All P p) (l : List Pair) (h0 : l.length < 1000000) : CallsTo P p.ref11_Make [.d (pairsD l)] [] fun o _ => o = .ret (.d (pairsD (makeP l))) := by
  refine A.ref11_Make.run rfl fun R hR => ?_
  (simp (config := { maxSteps := 1000000 }) [ic_ref11_Make, pairsD])
  refine AW_loop (fun k : Nat => ⟨[(4, AI k), (3, .d (.sl ((makeP (l.take k)).map Pair.row))), (2, .nils), (0, .d (.sl (l.map Pair.row)))], []⟩) (fun k => k ≤ l.length) (fun k => l.length - k) 0 (by simp) (by simp only [List.take_zero, makeP_nil, List.map_nil]; (refine Wk.of ?_ ?_ (by simp) <;> repeat' (first | exact True.intro | exact ⟨_, rfl, wkt_same rfl⟩ | exact ⟨_, rfl, wkt_erase rfl⟩ | exact ⟨_, rfl, .inl .nild⟩ | exact ⟨_, rfl, .inl .nile⟩ | exact ⟨_, rfl, wkt_nils⟩ | exact wkt_same rfl | exact wkt_erase rfl | exact .inl .nild | exact .inl .nile | exact wkt_nils | exact WkB.same rfl | exact WkB_rows | exact WkB_nil | exact .dead _ | refine WkB_cons ?_ ?_ | refine And.intro ?_ ?_))) ?_
  intro k hk N hN
  (simp (config := { maxSteps := 1000000 }) [])
  ((first | refine AW_cond_split _ (by rfl) (fun h2 => ?_) (fun h2 => ?_) | refine AWop_split _ (by rfl) (fun h2 => ?_) (fun h2 => ?_)) <;> (try simp only [decide_eq_true_eq, decide_eq_false_iff_not, Bool.not_eq_true', Bool.not_eq_false', Bool.and_eq_true, Bool.or_eq_true, beq_iff_eq, bne_iff_ne, ne_eq, beq_eq_false_iff_ne, bne_eq_false_iff_eq] at h2))
  · have hkl : k < l.length := by simpa using h2
    have hb : l[k]? = some l[k] := by simp
    have hw := wrap_succ (k := k) (by omega)
    have hml := makeP_len (l.take k)
    (simp (config := { maxSteps := 1000000 }) [h2, hb, Pair.row])
    (refine AWcall_det (ref11_Add_calls A (makeP (l.take k)) l[k] (by simp at hml; omega)) (by rfl) (by rfl) ?_)
    rw [← makeP_succ hkl]
    (simp (config := { maxSteps := 1000000 }) [hw, pairsD])
    exact hN _ (k + 1) hkl (by (refine Wk.of ?_ ?_ (by simp) <;> repeat' (first | exact True.intro | exact ⟨_, rfl, wkt_same rfl⟩ | exact ⟨_, rfl, wkt_erase rfl⟩ | exact ⟨_, rfl, .inl .nild⟩ | exact ⟨_, rfl, .inl .nile⟩ | exact ⟨_, rfl, wkt_nils⟩ | exact wkt_same rfl | exact wkt_erase rfl | exact .inl .nild | exact .inl .nile | exact wkt_nils | exact WkB.same rfl | exact WkB_rows | exact WkB_nil | exact .dead _ | refine WkB_cons ?_ ?_ | refine And.intro ?_ ?_))) (by omega)
  · have hk' : k = l.length := by simp at h2; omega
    subst hk'
    (simp (config := { maxSteps := 1000000 }) [])
    (first | exact hR _ _ (Fin_ret _ rfl rfl rfl) | exact hR _ _ (Fin_normal _ rfl rfl rfl) | exact hR _ _ (Fin_ret _ rfl rfl (by simp [AV.erase, AV.unview, List.take_length, pairsD]; done)) | exact hR _ _ (Fin_normal _ rfl rfl (by simp [AV.erase, AV.unview, List.take_length, pairsD]; done)) | fail "no end")
theorem ref11_Missing_calls {P : Program} {p : Nums} (A : All P p) (a b : List Pair) (h0 : a.length < 1000000) (h1 : b.length < 1000000) : CallsTo P p.ref11_Missing [.d (pairsD a), .d (pairsD b)] [] fun o _ => o = .ret (missA a b) := by
  refine A.ref11_Missing.run rfl fun R hR => ?_
  (simp (config := { maxSteps := 1000000 }) [ic_ref11_Missing, pairsD])
  refine AW_loop (fun k : Nat => ⟨[(6, AI k), (5, AB false), (4, .ptr 0 0), (1, .d (.sl (b.map Pair.row))), (0, .d (.sl (a.map Pair.row)))], [.mem [AI 0, AI 0]]⟩) (fun k => k ≤ a.length ∧ ∀ q ∈ a.take k, q ∈ b) (fun k => a.length - k) 0 (by simp) (by (refine Wk.of ?_ ?_ (by simp) <;> repeat' (first | exact True.intro | exact ⟨_, rfl, wkt_same rfl⟩ | exact ⟨_, rfl, wkt_erase rfl⟩ | exact ⟨_, rfl, .inl .nild⟩ | exact ⟨_, rfl, .inl .nile⟩ | exact ⟨_, rfl, wkt_nils⟩ | exact wkt_same rfl | exact wkt_erase rfl | exact .inl .nild | exact .inl .nile | exact wkt_nils | exact WkB.same rfl | exact WkB_rows | exact WkB_nil | exact .dead _ | refine WkB_cons ?_ ?_ | refine And.intro ?_ ?_))) ?_
  rintro k ⟨hk, hz⟩ N hN
  (simp (config := { maxSteps := 1000000 }) [])
  ((first | refine AW_cond_split _ (by rfl) (fun h2 => ?_) (fun h2 => ?_) | refine AWop_split _ (by rfl) (fun h2 => ?_) (fun h2 => ?_)) <;> (try simp only [decide_eq_true_eq, decide_eq_false_iff_not, Bool.not_eq_true', Bool.not_eq_false', Bool.and_eq_true, Bool.or_eq_true, beq_iff_eq, bne_iff_ne, ne_eq, beq_eq_false_iff_ne, bne_eq_false_iff_eq] at h2))
  · have hkl : k < a.length := by simpa using h2
    have hb : a[k]? = some a[k] := by simp
    have hw := wrap_succ (k := k) (by omega)
    (simp (config := { maxSteps := 1000000 }) [h2, hb, Pair.row])
    (refine AWcall_det (ref11_Has_calls A b a[k] (by omega)) (by rfl) (by rfl) ?_)
    (simp (config := { maxSteps := 1000000 }) [])
    ((first | refine AW_cond_split _ (by rfl) (fun h3 => ?_) (fun h3 => ?_) | refine AWop_split _ (by rfl) (fun h3 => ?_) (fun h3 => ?_)) <;> (try simp only [decide_eq_true_eq, decide_eq_false_iff_not, Bool.not_eq_true', Bool.not_eq_false', Bool.and_eq_true, Bool.or_eq_true, beq_iff_eq, bne_iff_ne, ne_eq, beq_eq_false_iff_ne, bne_eq_false_iff_eq] at h3))
    · (simp (config := { maxSteps := 1000000 }) [h3, hb, Pair.row])
      have := missP_at hkl hz (by simpa using h3)
      (first | exact hR _ _ (Fin_ret _ rfl rfl rfl) | exact hR _ _ (Fin_normal _ rfl rfl rfl) | exact hR _ _ (Fin_ret _ rfl rfl (by simp [AV.erase, AV.unview, missA, this, Pair.av]; done)) | exact hR _ _ (Fin_normal _ rfl rfl (by simp [AV.erase, AV.unview, missA, this, Pair.av]; done)) | fail "no end")
    · (simp (config := { maxSteps := 1000000 }) [h3, hw])
      refine hN _ (k + 1) ⟨hkl, ?_⟩ (by (refine Wk.of ?_ ?_ (by simp) <;> repeat' (first | exact True.intro | exact ⟨_, rfl, wkt_same rfl⟩ | exact ⟨_, rfl, wkt_erase rfl⟩ | exact ⟨_, rfl, .inl .nild⟩ | exact ⟨_, rfl, .inl .nile⟩ | exact ⟨_, rfl, wkt_nils⟩ | exact wkt_same rfl | exact wkt_erase rfl | exact .inl .nild | exact .inl .nile | exact wkt_nils | exact WkB.same rfl | exact WkB_rows | exact WkB_nil | exact .dead _ | refine WkB_cons ?_ ?_ | refine And.intro ?_ ?_))) (by omega)
      intro q hq
      rw [List.take_add_one, hb] at hq
      rcases List.mem_append.1 hq with hq | hq
      · exact hz q hq
      · simp at hq; subst hq; simpa using h3
  · have hk' : k = a.length := by simp at h2; omega
    subst hk'
    have := missP_none (a := a) (b := b) (by simpa using hz)
    (simp (config := { maxSteps := 1000000 }) [])
    (first | exact hR _ _ (Fin_ret _ rfl rfl rfl) | exact hR _ _ (Fin_normal _ rfl rfl rfl) | exact hR _ _ (Fin_ret _ rfl rfl (by simp [AV.erase, AV.unview, missA, this, Pair.av]; done)) | exact hR _ _ (Fin_normal _ rfl rfl (by simp [AV.erase, AV.unview, missA, this, Pair.av]; done)) | fail "no end")
theorem pairset_Less_calls {P : Program} {p : Nums} (A : All P p) (a b : Pair) : CallsTo P p.pairset_Less [a.av, b.av] [] fun o _ => o = .ret (AB (lessP a b)) := by
  refine A.pairset_Less.run rfl fun R hR => ?_
  (simp (config := { maxSteps := 1000000 }) [ic_pairset_Less, Pair.av])
  ((first | refine AW_cond_split _ (by rfl) (fun h => ?_) (fun h => ?_) | refine AWop_split _ (by rfl) (fun h => ?_) (fun h => ?_)) <;> (try simp only [decide_eq_true_eq, decide_eq_false_iff_not, Bool.not_eq_true', Bool.not_eq_false', Bool.and_eq_true, Bool.or_eq_true, beq_iff_eq, bne_iff_ne, ne_eq, beq_eq_false_iff_ne, bne_eq_false_iff_eq] at h))
  · (simp (config := { maxSteps := 1000000 }) [h])
    have e : lessP a b = true := by rw [lessP_iff]; omega
    (first | exact hR _ _ (Fin_ret _ rfl rfl rfl) | exact hR _ _ (Fin_normal _ rfl rfl rfl) | exact hR _ _ (Fin_ret _ rfl rfl (by simp [AV.erase, AV.unview, e]; done)) | exact hR _ _ (Fin_normal _ rfl rfl (by simp [AV.erase, AV.unview, e]; done)) | fail "no end")
  (simp (config := { maxSteps := 1000000 }) [h])
  ((first | refine AW_cond_split _ (by rfl) (fun h1 => ?_) (fun h1 => ?_) | refine AWop_split _ (by rfl) (fun h1 => ?_) (fun h1 => ?_)) <;> (try simp only [decide_eq_true_eq, decide_eq_false_iff_not, Bool.not_eq_true', Bool.not_eq_false', Bool.and_eq_true, Bool.or_eq_true, beq_iff_eq, bne_iff_ne, ne_eq, beq_eq_false_iff_ne, bne_eq_false_iff_eq] at h1))
  · (simp (config := { maxSteps := 1000000 }) [h1])
    (first | exact hR _ _ (Fin_ret _ rfl rfl rfl) | exact hR _ _ (Fin_normal _ rfl rfl rfl) | exact hR _ _ (Fin_ret _ rfl rfl (by simp [AV.erase, AV.unview, lessP, h1]; done)) | exact hR _ _ (Fin_normal _ rfl rfl (by simp [AV.erase, AV.unview, lessP, h1]; done)) | fail "no end")
  · (simp (config := { maxSteps := 1000000 }) [h1])
    have e : lessP a b = false := by
      cases e : lessP a b with
      | false => rfl
      | true => rw [lessP_iff] at e; omega
    (first | exact hR _ _ (Fin_ret _ rfl rfl rfl) | exact hR _ _ (Fin_normal _ rfl rfl rfl) | exact hR _ _ (Fin_ret _ rfl rfl (by simp [AV.erase, AV.unview, e]; done)) | exact hR _ _ (Fin_normal _ rfl rfl (by simp [AV.erase, AV.unview, e]; done)) | fail "no end")
end
end Go.AE

/- Sets of pairs: find, Has, Add, compare. -/
set_option linter.unusedVariables false
namespace Go.AE
open Go
theorem takeWhile_take {α : Type} (f : α → Bool) (l : List α) : l.takeWhile f = l.take (l.takeWhile f).length := by
  have e := List.takeWhile_append_dropWhile (p := f) (l := l)
  have := congrArg (List.take (l.takeWhile f).length) e
  rw [List.take_left'] at this
  · exact this
  · rfl
theorem dropWhile_drop {α : Type} (f : α → Bool) (l : List α) : l.dropWhile f = l.drop (l.takeWhile f).length := by
  have e := List.takeWhile_append_dropWhile (p := f) (l := l)
  have := congrArg (List.drop (l.takeWhile f).length) e
  rw [List.drop_left'] at this
  · exact this
  · rfl
theorem takeWhile_len {α : Type} (f : α → Bool) (l : List α) (i : Nat) (hi : i ≤ l.length) (h1 : ∀ j, j < i → (h : j < l.length) → f l[j] = true) (h2 : (h : i < l.length) → f l[i] = false) : (l.takeWhile f).length = i := by
  induction l generalizing i with
  | nil => simp at hi; simp [hi]
  | cons x l ih =>
    cases i with
    | zero => have := h2 (by simp); simp at this; simp [List.takeWhile_cons, this]
    | succ i =>
      have h0 := h1 0 (by omega) (by simp)
      simp at h0
      rw [List.takeWhile_cons, h0, if_pos rfl, List.length_cons]
      have := ih i (by simpa using hi) (fun j hj h => by have := h1 (j + 1) (by omega) (by simpa using h); simpa using this) (fun h => by have := h2 (by simpa using h); simpa using this)
      rw [this]
theorem posP_le (l : List Pair) (p : Pair) : posP l p ≤ l.length := (List.takeWhile_sublist _).length_le
theorem posP_lt {l : List Pair} {p : Pair} {j : Nat} (h : j < posP l p) (hl : j < l.length) : lessP l[j] p = true := by
  have h1 : (l.takeWhile fun q => lessP q p)[j]? = some l[j] := by
    rw [takeWhile_take, List.getElem?_take]; simp only [posP] at h; simp [h]
  exact take_lt _ (List.mem_of_getElem? h1)
theorem posP_ge {l : List Pair} {p : Pair} (hs : Srt l) {j : Nat} (h : posP l p ≤ j) (hl : j < l.length) : lessP l[j] p = false := by
  refine drop_ge hs _ ?_
  rw [dropWhile_drop]
  have : (l.drop (posP l p))[j - posP l p]? = some l[j] := by rw [List.getElem?_drop]; simp [Nat.add_sub_cancel' h]
  exact List.mem_of_getElem? this
theorem mem_pos {l : List Pair} {p : Pair} (hs : Srt l) : p ∈ l ↔ l[posP l p]? = some p := by
  constructor
  · intro h
    obtain ⟨j, hj, e⟩ := List.getElem_of_mem h
    have h1 : posP l p ≤ j := by
      rcases Nat.lt_or_ge j (posP l p) with h2 | h2
      · have := posP_lt h2 hj; rw [e, lessP_irrefl] at this; cases this
      · exact h2
    have h2 : j ≤ posP l p := by
      rcases Nat.lt_or_ge (posP l p) j with h2 | h2
      · have h3 := srt_get hs h2 hj
        rw [e, posP_ge hs (Nat.le_refl _) (by omega)] at h3; cases h3
      · exact h2
    have : posP l p = j := by omega
    rw [this, List.getElem?_eq_getElem hj, e]
  · exact List.mem_of_getElem?
theorem filter_ne {l : List Pair} {p : Pair} (h : p ∉ l) : l.filter (fun q => decide (q ≠ p)) = l := by
  rw [List.filter_eq_self]; intro a ha; simp; rintro rfl; exact h ha
theorem addP_take {l : List Pair} {p : Pair} (hs : Srt l) : addP l p = l.take (posP l p) ++ p :: l.drop (if p ∈ l then posP l p + 1 else posP l p) := by
  rw [addP_ins, insP, takeWhile_take, dropWhile_drop]
  show l.take (posP l p) ++ p :: (l.drop (posP l p)).filter _ = _
  congr 2
  split
  · rename_i h
    have hp := (mem_pos hs).1 h
    have hlt := (List.getElem?_eq_some_iff.1 hp).1
    have he := (List.getElem?_eq_some_iff.1 hp).2
    have hs' : Srt (l.drop (posP l p)) := srt_sub (List.drop_sublist _ _) hs
    rw [List.drop_eq_getElem_cons hlt, he] at hs' ⊢
    rw [List.filter_cons_of_neg (by simp)]
    refine filter_ne fun hm => ?_
    have := (srt_cons.1 hs').1 p hm
    rw [lessP_irrefl] at this; cases this
  · rename_i h
    exact filter_ne fun hm => h (List.drop_subset _ _ hm)
section
theorem pairset_find_calls {P : Program} {p : Nums} (A : All P p) (l : List Pair) (q : Pair) (h0 : l.length < 1000000000) (hs : Srt l) : CallsTo P p.pairset_find [.d (pairsD l), q.av] [] fun o _ => o = .ret (AI (posP l q)) := by
  refine A.pairset_find.run rfl fun R hR => ?_
  (simp (config := { maxSteps := 1000000 }) [ic_pairset_find, pairsD, Pair.av])
  refine AW_loop (fun k : Nat × Nat => ⟨[(5, AI k.1), (6, AI k.2), (4, AI 0), (3, .ptr 0 0), (0, .d (.sl (l.map Pair.row)))], [.mem [AI q.v, AI q.l]]⟩)
    (fun k => k.1 ≤ k.2 ∧ k.2 ≤ l.length ∧ (∀ j, j < k.1 → (h : j < l.length) → lessP l[j] q = true) ∧ ∀ j, k.2 ≤ j → (h : j < l.length) → lessP l[j] q = false) (fun k => k.2 - k.1) (0, l.length) (by simp; intro j h1 h2; omega) (by (refine Wk.of ?_ ?_ (by simp) <;> repeat' (first | exact True.intro | exact ⟨_, rfl, wkt_same rfl⟩ | exact ⟨_, rfl, wkt_erase rfl⟩ | exact ⟨_, rfl, .inl .nild⟩ | exact ⟨_, rfl, .inl .nile⟩ | exact ⟨_, rfl, wkt_nils⟩ | exact wkt_same rfl | exact wkt_erase rfl | exact .inl .nild | exact .inl .nile | exact wkt_nils | exact WkB.same rfl | exact WkB_rows | exact WkB_nil | exact .dead _ | refine WkB_cons ?_ ?_ | refine And.intro ?_ ?_))) ?_
  rintro ⟨a, b⟩ ⟨hab, hb, hlo, hhi⟩ N hN
  simp only at hab hb hlo hhi hN ⊢
  (simp (config := { maxSteps := 1000000 }) [])
  ((first | refine AW_cond_split _ (by rfl) (fun h2 => ?_) (fun h2 => ?_) | refine AWop_split _ (by rfl) (fun h2 => ?_) (fun h2 => ?_)) <;> (try simp only [decide_eq_true_eq, decide_eq_false_iff_not, Bool.not_eq_true', Bool.not_eq_false', Bool.and_eq_true, Bool.or_eq_true, beq_iff_eq, bne_iff_ne, ne_eq, beq_eq_false_iff_ne, bne_eq_false_iff_eq] at h2))
  · have hm : a + (b - a) / 2 < l.length := by omega
    have hma : a ≤ a + (b - a) / 2 := by omega
    have hmb : a + (b - a) / 2 < b := by omega
    have hw1 : IntKind.i64.wrap ((b : Int) - (a : Int)) = ((b - a : Nat) : Int) := by rw [wrap_i64 (by omega) (by omega)]; omega
    have hw2 : IntKind.i64.wrap (((b - a : Nat) : Int) / 2) = (((b - a) / 2 : Nat) : Int) := by rw [wrap_i64 (by omega) (by omega)]; omega
    have hw3 : IntKind.i64.wrap ((a : Int) + (((b - a) / 2 : Nat) : Int)) = ((a + (b - a) / 2 : Nat) : Int) := by rw [wrap_i64 (by omega) (by omega)]; omega
    obtain ⟨d, hd⟩ : ∃ d, d = b - a := ⟨_, rfl⟩
    obtain ⟨d2, hd2⟩ : ∃ d2, d2 = d / 2 := ⟨_, rfl⟩
    obtain ⟨m, hmm⟩ : ∃ m, m = a + d2 := ⟨_, rfl⟩
    have hw := wrap_succ (k := m) (by omega)
    simp only [← hd, ← hd2, ← hmm] at hm hma hmb hw1 hw2 hw3
    have hbm : l[m]? = some l[m] := by simp
    (simp (config := { maxSteps := 1000000 }) [h2, hw1])
    (simp (config := { maxSteps := 1000000 }) [hw2])
    (simp (config := { maxSteps := 1000000 }) [hw3, hbm, Pair.row])
    (refine AWcall_det (pairset_Less_calls A l[m] q) (by rfl) (by rfl) ?_)
    (simp (config := { maxSteps := 1000000 }) [])
    ((first | refine AW_cond_split _ (by rfl) (fun h3 => ?_) (fun h3 => ?_) | refine AWop_split _ (by rfl) (fun h3 => ?_) (fun h3 => ?_)) <;> (try simp only [decide_eq_true_eq, decide_eq_false_iff_not, Bool.not_eq_true', Bool.not_eq_false', Bool.and_eq_true, Bool.or_eq_true, beq_iff_eq, bne_iff_ne, ne_eq, beq_eq_false_iff_ne, bne_eq_false_iff_eq] at h3))
    · (simp (config := { maxSteps := 1000000 }) [h3, hw])
      refine hN _ (m + 1, b) ⟨by simp only; omega, hb, ?_, hhi⟩ (by (refine Wk.of ?_ ?_ (by simp) <;> repeat' (first | exact True.intro | exact ⟨_, rfl, wkt_same rfl⟩ | exact ⟨_, rfl, wkt_erase rfl⟩ | exact ⟨_, rfl, .inl .nild⟩ | exact ⟨_, rfl, .inl .nile⟩ | exact ⟨_, rfl, wkt_nils⟩ | exact wkt_same rfl | exact wkt_erase rfl | exact .inl .nild | exact .inl .nile | exact wkt_nils | exact WkB.same rfl | exact WkB_rows | exact WkB_nil | exact .dead _ | refine WkB_cons ?_ ?_ | refine And.intro ?_ ?_))) (by simp only; omega)
      intro j hj h
      simp only at hj
      by_cases e : j = m
      · subst e; exact h3
      · exact lessP_trans (srt_get hs (by omega : j < m) hm) h3
    · (simp (config := { maxSteps := 1000000 }) [h3])
      refine hN _ (a, m) ⟨by simp only; omega, by simp only; omega, hlo, ?_⟩ (by (refine Wk.of ?_ ?_ (by simp) <;> repeat' (first | exact True.intro | exact ⟨_, rfl, wkt_same rfl⟩ | exact ⟨_, rfl, wkt_erase rfl⟩ | exact ⟨_, rfl, .inl .nild⟩ | exact ⟨_, rfl, .inl .nile⟩ | exact ⟨_, rfl, wkt_nils⟩ | exact wkt_same rfl | exact wkt_erase rfl | exact .inl .nild | exact .inl .nile | exact wkt_nils | exact WkB.same rfl | exact WkB_rows | exact WkB_nil | exact .dead _ | refine WkB_cons ?_ ?_ | refine And.intro ?_ ?_))) (by simp only; omega)
      intro j hj h
      simp only at hj
      cases e : lessP l[j] q with
      | false => rfl
      | true =>
        by_cases e2 : j = m
        · subst e2; rw [e] at h3; simp at h3
        · rw [lessP_trans (srt_get hs (by omega : m < j) h) e] at h3; simp at h3
  · have e : a = b := by omega
    subst e
    have : posP l q = a := takeWhile_len _ l a hb hlo fun h => hhi a (by omega) h
    (simp (config := { maxSteps := 1000000 }) [])
    (first | exact hR _ _ (Fin_ret _ rfl rfl rfl) | exact hR _ _ (Fin_normal _ rfl rfl rfl) | exact hR _ _ (Fin_ret _ rfl rfl (by simp [AV.erase, AV.unview, this]; done)) | exact hR _ _ (Fin_normal _ rfl rfl (by simp [AV.erase, AV.unview, this]; done)) | fail "no end")
theorem pairset_Has_calls {P : Program} {p : Nums} (A : All P p) (l : List Pair) (q : Pair) (h0 : l.length < 1000000000) (hs : Srt l) : CallsTo P p.pairset_Has [.d (pairsD l), q.av] [] fun o _ => o = .ret (AB (decide (q ∈ l))) := by
  refine A.pairset_Has.run rfl fun R hR => ?_
  (simp (config := { maxSteps := 1000000 }) [ic_pairset_Has, pairsD, Pair.av])
  (refine AWcall_det (pairset_find_calls A l q h0 hs) (by rfl) (by rfl) ?_)
  (simp (config := { maxSteps := 1000000 }) [])
  have hp := mem_pos (p := q) hs
  have hle := posP_le l q
  obtain ⟨i, hi⟩ : ∃ i, i = posP l q := ⟨_, rfl⟩
  rw [← hi] at hp hle ⊢
  ((first | refine AW_cond_split _ (by rfl) (fun h1 => ?_) (fun h1 => ?_) | refine AWop_split _ (by rfl) (fun h1 => ?_) (fun h1 => ?_)) <;> (try simp only [decide_eq_true_eq, decide_eq_false_iff_not, Bool.not_eq_true', Bool.not_eq_false', Bool.and_eq_true, Bool.or_eq_true, beq_iff_eq, bne_iff_ne, ne_eq, beq_eq_false_iff_ne, bne_eq_false_iff_eq] at h1))
  · have hil : i < l.length := by omega
    have hb : l[i]? = some l[i] := by simp
    rw [hb] at hp
    (simp (config := { maxSteps := 1000000 }) [h1, hb, Pair.row])
    have e : (l[i].v == q.v && l[i].l == q.l) = decide (q ∈ l) := by
      rw [pair_beq]; simp only [Option.some.injEq] at hp; simp [hp]
    (first | exact hR _ _ (Fin_ret _ rfl rfl rfl) | exact hR _ _ (Fin_normal _ rfl rfl rfl) | exact hR _ _ (Fin_ret _ rfl rfl (by simp [AV.erase, AV.unview, e, Pair.row]; done)) | exact hR _ _ (Fin_normal _ rfl rfl (by simp [AV.erase, AV.unview, e, Pair.row]; done)) | fail "no end")
  · (simp (config := { maxSteps := 1000000 }) [h1])
    have hb : l[i]? = none := by simp; omega
    rw [hb] at hp
    have e : q ∉ l := by simpa using hp
    (first | exact hR _ _ (Fin_ret _ rfl rfl rfl) | exact hR _ _ (Fin_normal _ rfl rfl rfl) | exact hR _ _ (Fin_ret _ rfl rfl (by simp [AV.erase, AV.unview, e]; done)) | exact hR _ _ (Fin_normal _ rfl rfl (by simp [AV.erase, AV.unview, e]; done)) | fail "no end")
theorem pairset_compare_calls {P : Program} {p : Nums} (A : All P p) (a b : Pair) : CallsTo P p.pairset_compare [a.av, b.av] [] fun o _ => o = .ret (AI (if lessP a b = true then -1 else if lessP b a = true then 1 else 0)) := by
  refine A.pairset_compare.run rfl fun R hR => ?_
  (simp (config := { maxSteps := 1000000 }) [ic_pairset_compare, Pair.av])
  (refine AWcall_det (pairset_Less_calls A a b) (by rfl) (by rfl) ?_)
  (simp (config := { maxSteps := 1000000 }) [])
  ((first | refine AW_cond_split _ (by rfl) (fun h => ?_) (fun h => ?_) | refine AWop_split _ (by rfl) (fun h => ?_) (fun h => ?_)) <;> (try simp only [decide_eq_true_eq, decide_eq_false_iff_not, Bool.not_eq_true', Bool.not_eq_false', Bool.and_eq_true, Bool.or_eq_true, beq_iff_eq, bne_iff_ne, ne_eq, beq_eq_false_iff_ne, bne_eq_false_iff_eq] at h))
  · (simp (config := { maxSteps := 1000000 }) [h])
    (first | exact hR _ _ (Fin_ret _ rfl rfl rfl) | exact hR _ _ (Fin_normal _ rfl rfl rfl) | exact hR _ _ (Fin_ret _ rfl rfl (by simp [AV.erase, AV.unview, h]; done)) | exact hR _ _ (Fin_normal _ rfl rfl (by simp [AV.erase, AV.unview, h]; done)) | fail "no end")
  (simp (config := { maxSteps := 1000000 }) [h])
  (refine AWcall_det (pairset_Less_calls A b a) (by rfl) (by rfl) ?_)
  (simp (config := { maxSteps := 1000000 }) [])
  ((first | refine AW_cond_split _ (by rfl) (fun h2 => ?_) (fun h2 => ?_) | refine AWop_split _ (by rfl) (fun h2 => ?_) (fun h2 => ?_)) <;> (try simp only [decide_eq_true_eq, decide_eq_false_iff_not, Bool.not_eq_true', Bool.not_eq_false', Bool.and_eq_true, Bool.or_eq_true, beq_iff_eq, bne_iff_ne, ne_eq, beq_eq_false_iff_ne, bne_eq_false_iff_eq] at h2))
  · (simp (config := { maxSteps := 1000000 }) [h2])
    (first | exact hR _ _ (Fin_ret _ rfl rfl rfl) | exact hR _ _ (Fin_normal _ rfl rfl rfl) | exact hR _ _ (Fin_ret _ rfl rfl (by simp [AV.erase, AV.unview, h, h2]; done)) | exact hR _ _ (Fin_normal _ rfl rfl (by simp [AV.erase, AV.unview, h, h2]; done)) | fail "no end")
  · (simp (config := { maxSteps := 1000000 }) [h2])
    (first | exact hR _ _ (Fin_ret _ rfl rfl rfl) | exact hR _ _ (Fin_normal _ rfl rfl rfl) | exact hR _ _ (Fin_ret _ rfl rfl (by simp [AV.erase, AV.unview, h, h2]; done)) | exact hR _ _ (Fin_normal _ rfl rfl (by simp [AV.erase, AV.unview, h, h2]; done)) | fail "no end")
end
end Go.AE

/- Sets of pairs: Add. -/
set_option linter.unusedVariables false
namespace Go.AE
open Go
section
theorem pairset_Add_own {P : Program} {p : Nums} (A : All P p) (l : List Pair) (q : Pair) (h0 : l.length < 1000000) (hs : Srt l) : CallsTo P p.pairset_Add [.d (pairsD l), q.av] [] fun o H' => o = .ret (.own 2 ((addP l q).map Pair.row)) ∧ H' = [] := by
  refine A.pairset_Add.run rfl fun R hR => ?_
  (simp (config := { maxSteps := 1000000 }) [ic_pairset_Add, pairsD, Pair.av])
  (refine AWcall_det (pairset_find_calls A l q (by omega) hs) (by rfl) (by rfl) ?_)
  have hw := wrap_succ (k := l.length) (by omega)
  have hp := mem_pos (p := q) hs
  have hle := posP_le l q
  have hadd := addP_take (p := q) hs
  obtain ⟨i, hi⟩ : ∃ i, i = posP l q := ⟨_, rfl⟩
  rw [← hi] at hp hle hadd ⊢
  (simp (config := { maxSteps := 1000000 }) [hw])
  refine AWio_mks0 (n := l.length + 1) (by rfl) (by rfl) (by omega) (by omega) (by decide) (by rfl) ?_
  (simp (config := { maxSteps := 1000000 }) [hle, Pair.row])
  have hrow : ∀ m : List (List D), (∀ r ∈ m, r ∈ l.map Pair.row) → ∀ r ∈ m, r.length = 2 := fun m hm r hr => rows_len (f := Pair.row) (fun _ => rfl) r (hm r hr)
  refine ⟨hrow _ fun r hr => List.take_subset _ _ hr, by omega, by omega, ?_⟩
  (refine AWio_app_own (by rfl) (by rfl) (by rfl) ?_ (by decide) ?_ ?_ ?_)
  · simp
  · simp; omega
  · simp; omega
  (simp (config := { maxSteps := 1000000 }) [])
  have hln : (l.map Pair.row).length = l.length := by simp
  have fin : ∀ j, addP l q = l.take i ++ q :: l.drop j → (List.take i (l.map Pair.row) ++ [[D.int IntKind.i64 q.v, D.int IntKind.i64 q.l]]) ++ List.drop j (List.take l.length (l.map Pair.row)) = (addP l q).map Pair.row := by
    intro j hj
    rw [hj, List.take_of_length_le (i := l.length) (l := l.map Pair.row) (by simp)]
    simp [Pair.row]
  ((first | refine AW_cond_split _ (by rfl) (fun h1 => ?_) (fun h1 => ?_) | refine AWop_split _ (by rfl) (fun h1 => ?_) (fun h1 => ?_)) <;> (try simp only [decide_eq_true_eq, decide_eq_false_iff_not, Bool.not_eq_true', Bool.not_eq_false', Bool.and_eq_true, Bool.or_eq_true, beq_iff_eq, bne_iff_ne, ne_eq, beq_eq_false_iff_ne, bne_eq_false_iff_eq] at h1))
  · have hil : i < l.length := by omega
    have hb : l[i]? = some l[i] := by simp
    rw [hb, Option.some.injEq] at hp
    (simp (config := { maxSteps := 1000000 }) [h1, hb, Pair.row])
    ((first | refine AW_cond_split _ (by rfl) (fun h2 => ?_) (fun h2 => ?_) | refine AWop_split _ (by rfl) (fun h2 => ?_) (fun h2 => ?_)) <;> (try simp only [decide_eq_true_eq, decide_eq_false_iff_not, Bool.not_eq_true', Bool.not_eq_false', Bool.and_eq_true, Bool.or_eq_true, beq_iff_eq, bne_iff_ne, ne_eq, beq_eq_false_iff_ne, bne_eq_false_iff_eq] at h2))
    · have e : l[i] = q := eq_pair h2.1 h2.2
      have hm := hp.2 e
      rw [if_pos hm] at hadd
      have hw2 := wrap_succ (k := i) (by omega)
      obtain ⟨i1, hi1⟩ : ∃ i1, i1 = i + 1 := ⟨_, rfl⟩
      rw [← hi1] at hw2 hadd
      have hle1 : i1 ≤ l.length := by omega
      (simp (config := { maxSteps := 1000000 }) [hw2, h2])
      (simp (config := { maxSteps := 1000000 }) [hle1, Pair.row])
      (refine AWio_app_own (by rfl) (by rfl) (by rfl) ?_ (by decide) ?_ ?_ ?_)
      · exact hrow _ fun r hr => List.take_subset _ _ (List.drop_subset _ _ hr)
      · simp; omega
      · simp; omega
      rw [fin i1 hadd]
      (simp (config := { maxSteps := 1000000 }) [])
      exact hR _ _ (Fin_own _ _ rfl ⟨rfl, rfl⟩)
    · have hm : q ∉ l := by
        intro hm; have := hp.1 hm
        rw [this] at h2; simp at h2
      rw [if_neg hm] at hadd
      (simp (config := { maxSteps := 1000000 }) [h2, hle, Pair.row])
      (refine AWio_app_own (by rfl) (by rfl) (by rfl) ?_ (by decide) ?_ ?_ ?_)
      · exact hrow _ fun r hr => List.take_subset _ _ (List.drop_subset _ _ hr)
      · simp; omega
      · simp; omega
      rw [fin i hadd]
      (simp (config := { maxSteps := 1000000 }) [])
      exact hR _ _ (Fin_own _ _ rfl ⟨rfl, rfl⟩)
  · have hm : q ∉ l := by
      intro hm; have := hp.1 hm
      rw [List.getElem?_eq_none (by omega)] at this; cases this
    rw [if_neg hm] at hadd
    (simp (config := { maxSteps := 1000000 }) [h1, hle, Pair.row])
    (refine AWio_app_own (by rfl) (by rfl) (by rfl) ?_ (by decide) ?_ ?_ ?_)
    · exact hrow _ fun r hr => List.take_subset _ _ (List.drop_subset _ _ hr)
    · simp; omega
    · simp; omega
    rw [fin i hadd]
    (simp (config := { maxSteps := 1000000 }) [])
    exact hR _ _ (Fin_own _ _ rfl ⟨rfl, rfl⟩)
theorem pairset_Add_calls {P : Program} {p : Nums} (A : All P p) (l : List Pair) (q : Pair) (h0 : l.length < 1000000) (hs : Srt l) : CallsTo P p.pairset_Add [.d (pairsD l), q.av] [] fun o _ => o = .ret (.d (pairsD (addP l q))) :=
  (pairset_Add_own A l q h0 hs).unown.mono fun _ _ h => h.1
end
end Go.AE

/- Sets of pairs: Union. -/
set_option linter.unusedVariables false
namespace Go.AE
open Go
def mergeP : List Pair → List Pair → List Pair
  | [], b => b
  | x :: a, [] => x :: a
  | x :: a, y :: b => if lessP y x = true then y :: mergeP (x :: a) b else if y = x then x :: mergeP a b else x :: mergeP a (y :: b)
termination_by a b => a.length + b.length
theorem mergeP_nil (a : List Pair) : mergeP a [] = a := by cases a <;> simp [mergeP]
theorem mem_mergeP {a b : List Pair} {q : Pair} : q ∈ mergeP a b ↔ q ∈ a ∨ q ∈ b := by
  induction a, b using mergeP.induct with
  | case1 b => simp [mergeP]
  | case2 x a => simp [mergeP]
  | case3 x a y b h ih => rw [mergeP, if_pos h, List.mem_cons, ih]; simp only [List.mem_cons]; constructor <;> (intro h; rcases h with h | h | h <;> simp_all)
  | case4 a b x h ih => rw [mergeP, if_neg h, if_pos rfl, List.mem_cons, ih]; simp only [List.mem_cons]; constructor <;> grind
  | case5 x a y b h h2 ih => rw [mergeP, if_neg h, if_neg h2, List.mem_cons, ih]; simp only [List.mem_cons]; constructor <;> grind
theorem srt_mergeP {a b : List Pair} (ha : Srt a) (hb : Srt b) : Srt (mergeP a b) := by
  induction a, b using mergeP.induct with
  | case1 b => simpa [mergeP] using hb
  | case2 x a => simpa [mergeP] using ha
  | case3 x a y b h ih =>
    rw [mergeP, if_pos h]
    refine srt_cons.2 ⟨fun q hq => ?_, ih ha (srt_cons.1 hb).2⟩
    rw [mem_mergeP, List.mem_cons] at hq
    rcases hq with (rfl | hq) | hq
    · exact h
    · exact lessP_trans h ((srt_cons.1 ha).1 q hq)
    · exact (srt_cons.1 hb).1 q hq
  | case4 a b x h ih =>
    rw [mergeP, if_neg h, if_pos rfl]
    refine srt_cons.2 ⟨fun q hq => ?_, ih (srt_cons.1 ha).2 (srt_cons.1 hb).2⟩
    rw [mem_mergeP] at hq
    rcases hq with hq | hq
    · exact (srt_cons.1 ha).1 q hq
    · exact (srt_cons.1 hb).1 q hq
  | case5 x a y b h h2 ih =>
    rw [mergeP, if_neg h, if_neg h2]
    have hxy : lessP x y = true := by
      cases e : lessP x y with
      | true => rfl
      | false => exact absurd (lessP_total (by simpa using h) e) h2
    refine srt_cons.2 ⟨fun q hq => ?_, ih (srt_cons.1 ha).2 hb⟩
    rw [mem_mergeP, List.mem_cons] at hq
    rcases hq with hq | rfl | hq
    · exact (srt_cons.1 ha).1 q hq
    · exact hxy
    · exact lessP_trans hxy ((srt_cons.1 hb).1 q hq)
theorem mergeP_make {a b : List Pair} (ha : Srt a) (hb : Srt b) : mergeP a b = makeP (a ++ b) :=
  srt_ext (srt_mergeP ha hb) (srt_makeP _) fun q => by rw [mem_mergeP, mem_makeP, List.mem_append]
section
theorem pairset_Union_own {P : Program} {p : Nums} (A : All P p) (a b : List Pair) (h0 : a.length < 1000000) (h1 : b.length < 1000000) : CallsTo P p.pairset_Union [.d (pairsD a), .d (pairsD b)] [] fun o H' => o = .ret (.own 2 ((mergeP a b).map Pair.row)) ∧ H' = [] := by
  refine A.pairset_Union.run rfl fun R hR => ?_
  have hw : IntKind.i64.wrap ((a.length : Int) + (b.length : Int)) = ((a.length + b.length : Nat) : Int) := wrap_add (by omega)
  obtain ⟨n, hn⟩ : ∃ n, n = a.length + b.length := ⟨_, rfl⟩
  rw [← hn] at hw
  (simp (config := { maxSteps := 1000000 }) [ic_pairset_Union, pairsD, hw])
  refine AWio_mks0 (n := n) (by rfl) (by rfl) (by omega) (by omega) (by decide) (by rfl) ?_
  (simp (config := { maxSteps := 1000000 }) [])
  have hrow : ∀ l : List Pair, ∀ r ∈ l.map Pair.row, r.length = 2 := fun l => rows_len fun x => rfl
  refine AW_loop (fun s : List Pair × List Pair × List Pair => ⟨[(5, .own 2 (s.2.2.map Pair.row)), (4, .nils), (1, .d (.sl (s.2.1.map Pair.row))), (0, .d (.sl (s.1.map Pair.row)))], []⟩)
    (fun s => s.2.2 ++ mergeP s.1 s.2.1 = mergeP a b ∧ s.1.length + s.2.1.length + s.2.2.length ≤ n) (fun s => s.1.length + s.2.1.length) (a, b, []) ⟨by simp, by simp; omega⟩ (by simp only [List.map_nil]; (refine Wk.of ?_ ?_ (by simp) <;> repeat' (first | exact True.intro | exact ⟨_, rfl, wkt_same rfl⟩ | exact ⟨_, rfl, wkt_erase rfl⟩ | exact ⟨_, rfl, .inl .nild⟩ | exact ⟨_, rfl, .inl .nile⟩ | exact ⟨_, rfl, wkt_nils⟩ | exact wkt_same rfl | exact wkt_erase rfl | exact .inl .nild | exact .inl .nile | exact wkt_nils | exact WkB.same rfl | exact WkB_rows | exact WkB_nil | exact .dead _ | refine WkB_cons ?_ ?_ | refine And.intro ?_ ?_))) ?_
  rintro ⟨xs, ys, out⟩ ⟨hm, hlen⟩ N hN
  simp only at hm hlen hN ⊢
  have fin : xs = [] ∨ ys = [] → (out.map Pair.row ++ xs.map Pair.row) ++ ys.map Pair.row = (mergeP a b).map Pair.row := by
    intro h
    rw [← hm]
    rcases h with rfl | rfl
    · simp [mergeP]
    · simp [mergeP_nil]
  cases xs with
  | nil =>
    (simp (config := { maxSteps := 1000000 }) [])
    (refine AWio_app_own (by rfl) (by rfl) (by rfl) ?_ (by decide) ?_ ?_ ?_)
    · simp
    · simp; omega
    · simp; omega
    (simp (config := { maxSteps := 1000000 }) [])
    (refine AWio_app_own (by rfl) (by rfl) (by rfl) ?_ (by decide) ?_ ?_ ?_)
    · exact hrow _
    · simp at hlen ⊢; omega
    · simp at hlen ⊢; omega
    (simp (config := { maxSteps := 1000000 }) [])
    exact hR _ _ (Fin_own _ _ rfl ⟨by simp [← fin (.inl rfl)], rfl⟩)
  | cons x xs =>
    have hx0 : ¬ ((xs.length : Int) + 1 ≤ 0) := by omega
    have hx1 : (0 : Int) < (xs.length : Int) + 1 := by omega
    cases ys with
    | nil =>
      (simp (config := { maxSteps := 1000000 }) [hx1])
      (refine AWio_app_own (by rfl) (by rfl) (by rfl) ?_ (by decide) ?_ ?_ ?_)
      · simpa using hrow (x :: xs)
      · simp at hlen ⊢; omega
      · simp at hlen ⊢; omega
      (simp (config := { maxSteps := 1000000 }) [])
      (refine AWio_app_own (by rfl) (by rfl) (by rfl) ?_ (by decide) ?_ ?_ ?_)
      · simp
      · simp at hlen ⊢; omega
      · simp at hlen ⊢; omega
      (simp (config := { maxSteps := 1000000 }) [])
      have := fin (.inr rfl)
      simp only [List.map_cons, List.map_nil, List.append_nil] at this
      exact hR _ _ (Fin_own _ _ rfl ⟨by simp [← this], rfl⟩)
    | cons y ys =>
      have hy1 : (0 : Int) < (ys.length : Int) + 1 := by omega
      have hx2 : (1 : Int) ≤ (xs.length : Int) + 1 := by omega
      have hy2 : (1 : Int) ≤ (ys.length : Int) + 1 := by omega
      have htx : (xs.map Pair.row).take xs.length = xs.map Pair.row := List.take_of_length_le (by simp)
      have hty : (ys.map Pair.row).take ys.length = ys.map Pair.row := List.take_of_length_le (by simp)
      simp only [List.length_cons] at hlen
      rw [mergeP] at hm
      (simp (config := { maxSteps := 1000000 }) [hx1, hy1, Pair.row])
      (refine AWcall_det (pairset_Less_calls A y x) (by rfl) (by rfl) ?_)
      (simp (config := { maxSteps := 1000000 }) [])
      ((first | refine AW_cond_split _ (by rfl) (fun h2 => ?_) (fun h2 => ?_) | refine AWop_split _ (by rfl) (fun h2 => ?_) (fun h2 => ?_)) <;> (try simp only [decide_eq_true_eq, decide_eq_false_iff_not, Bool.not_eq_true', Bool.not_eq_false', Bool.and_eq_true, Bool.or_eq_true, beq_iff_eq, bne_iff_ne, ne_eq, beq_eq_false_iff_ne, bne_eq_false_iff_eq] at h2))
      · rw [if_pos h2] at hm
        have hne : ¬ x = y := fun h => lessP_ne h2 h.symm
        have hs1 : IntKind.i64.wrap 1 = 1 := by rw [wrap_i64 (by omega) (by omega)]
        (simp (config := { maxSteps := 1000000 }) [h2, Pair.row])
        (refine AWio_app_own (by rfl) (by rfl) (by rfl) ?_ (by decide) ?_ ?_ ?_)
        · simp
        · simp at hlen ⊢; omega
        · simp at hlen ⊢; omega
        (simp (config := { maxSteps := 1000000 }) [Pair.row, pair_beq, hne, hy2, hty])
        refine hN _ (x :: xs, ys, out ++ [y]) ⟨by simp only; rw [← hm]; simp, by simp; omega⟩ ?_ (by simp only [List.length_cons]; omega)
        simp only [List.map_cons, List.map_append, List.map_nil, Pair.row]
        (refine Wk.of ?_ ?_ (by simp) <;> repeat' (first | exact True.intro | exact ⟨_, rfl, wkt_same rfl⟩ | exact ⟨_, rfl, wkt_erase rfl⟩ | exact ⟨_, rfl, .inl .nild⟩ | exact ⟨_, rfl, .inl .nile⟩ | exact ⟨_, rfl, wkt_nils⟩ | exact wkt_same rfl | exact wkt_erase rfl | exact .inl .nild | exact .inl .nile | exact wkt_nils | exact WkB.same rfl | exact WkB_rows | exact WkB_nil | exact .dead _ | refine WkB_cons ?_ ?_ | refine And.intro ?_ ?_))
      · have h2' : lessP y x = false := by simpa using h2
        rw [if_neg (by rw [h2']; simp)] at hm
        (simp (config := { maxSteps := 1000000 }) [h2', Pair.row])
        (refine AWio_app_own (by rfl) (by rfl) (by rfl) ?_ (by decide) ?_ ?_ ?_)
        · simp
        · simp at hlen ⊢; omega
        · simp at hlen ⊢; omega
        by_cases e : y = x
        · rw [if_pos e] at hm
          subst e
          (simp (config := { maxSteps := 1000000 }) [Pair.row, pair_beq, hx2, hy2, htx, hty])
          refine hN _ (xs, ys, out ++ [y]) ⟨by simp only; rw [← hm]; simp, by simp; omega⟩ ?_ (by simp only [List.length_cons]; omega)
          simp only [List.map_cons, List.map_append, List.map_nil, Pair.row]
          (refine Wk.of ?_ ?_ (by simp) <;> repeat' (first | exact True.intro | exact ⟨_, rfl, wkt_same rfl⟩ | exact ⟨_, rfl, wkt_erase rfl⟩ | exact ⟨_, rfl, .inl .nild⟩ | exact ⟨_, rfl, .inl .nile⟩ | exact ⟨_, rfl, wkt_nils⟩ | exact wkt_same rfl | exact wkt_erase rfl | exact .inl .nild | exact .inl .nile | exact wkt_nils | exact WkB.same rfl | exact WkB_rows | exact WkB_nil | exact .dead _ | refine WkB_cons ?_ ?_ | refine And.intro ?_ ?_))
        · rw [if_neg e] at hm
          (simp (config := { maxSteps := 1000000 }) [Pair.row, pair_beq, e, hx2, htx])
          refine hN _ (xs, y :: ys, out ++ [x]) ⟨by simp only; rw [← hm]; simp, by simp; omega⟩ ?_ (by simp only [List.length_cons]; omega)
          simp only [List.map_cons, List.map_append, List.map_nil, Pair.row]
          (refine Wk.of ?_ ?_ (by simp) <;> repeat' (first | exact True.intro | exact ⟨_, rfl, wkt_same rfl⟩ | exact ⟨_, rfl, wkt_erase rfl⟩ | exact ⟨_, rfl, .inl .nild⟩ | exact ⟨_, rfl, .inl .nile⟩ | exact ⟨_, rfl, wkt_nils⟩ | exact wkt_same rfl | exact wkt_erase rfl | exact .inl .nild | exact .inl .nile | exact wkt_nils | exact WkB.same rfl | exact WkB_rows | exact WkB_nil | exact .dead _ | refine WkB_cons ?_ ?_ | refine And.intro ?_ ?_))
theorem pairset_Union_calls {P : Program} {p : Nums} (A : All P p) (a b : List Pair) (h0 : a.length < 1000000) (h1 : b.length < 1000000) : CallsTo P p.pairset_Union [.d (pairsD a), .d (pairsD b)] [] fun o _ => o = .ret (.d (pairsD (mergeP a b))) :=
  (pairset_Union_own A a b h0 h1).unown.mono fun _ _ h => h.1
end
end Go.AE

/- Sets of pairs: slices.Clone, slices.Compact. -/
set_option linter.unusedVariables false
namespace Go.AE
open Go
theorem rowCells_at {rows : List (List D)} {e k : Nat} (he : ∀ r ∈ rows, r.length = e) (hk : k < rows.length) : ((rowCells rows).drop (k * e)).take e = rows[k].map AV.d := by
  unfold rowCells
  induction rows generalizing k with
  | nil => simp at hk
  | cons r rows ih =>
    have h1 := he r (by simp)
    cases k with
    | zero => simp only [Nat.zero_mul, List.drop_zero, List.flatten_cons, List.map_append, List.getElem_cons_zero]; rw [List.take_left' (by simp [h1])]
    | succ k =>
      have h2 := ih (fun r hr => he r (by simp [hr])) (k := k) (by simpa using hk)
      simp only [List.flatten_cons, List.map_append, List.getElem_cons_succ]
      have e1 : (k + 1) * e = (r.map AV.d).length + k * e := by rw [Nat.add_mul]; simp [h1]; omega
      rw [e1, List.drop_length_add_append]; exact h2
theorem pair_at {l : List Pair} {k : Nat} (hk : k < l.length) : ((rowCells (l.map Pair.row)).drop (k * 2)).take 2 = [AI l[k].v, AI l[k].l] := by
  rw [rowCells_at (e := 2) (rows := l.map Pair.row) (rows_len (f := Pair.row) fun _ => rfl) (by simpa using hk)]; simp [Pair.row]
theorem rowCells2_len' (l : List Pair) : (rowCells (l.map Pair.row)).length = l.length * 2 := by
  rw [rowCells_len (e := 2) (rows_len fun _ => rfl)]; simp
theorem rowCells_er (rows : List (List D)) : (rowCells rows).map AV.erase = rowCells rows := by
  simp [rowCells, AV.erase, Function.comp_def]
/-- Without repetitions. -/
def ddStep (out : List Pair) (q : Pair) : List Pair := if out.getLast? = some q then out else out ++ [q]
def dd (l : List Pair) : List Pair := l.foldl ddStep []
theorem dd_snoc (l : List Pair) (q : Pair) : dd (l ++ [q]) = ddStep (dd l) q := by simp [dd]
theorem dd_last (l : List Pair) : (dd l).getLast? = l.getLast? := by
  induction l using makeP_rec with
  | h0 => rfl
  | h1 l q ih =>
    rw [dd_snoc, ddStep]
    split
    · rename_i h; rw [h]; simp
    · simp
theorem mem_dd {l : List Pair} {q : Pair} : q ∈ dd l ↔ q ∈ l := by
  induction l using makeP_rec with
  | h0 => simp [dd]
  | h1 l x ih =>
    rw [dd_snoc, ddStep]
    split
    · rename_i h
      rw [ih, List.mem_append]
      have : x ∈ l := by rw [dd_last] at h; exact List.mem_of_getLast? h
      constructor
      · exact .inl
      · rintro (h | h)
        · exact h
        · simp at h; subst h; exact this
    · rw [List.mem_append, List.mem_append, ih]
theorem dd_succ {l : List Pair} {k : Nat} (h0 : 0 < k) (h : k < l.length) : dd (l.take (k + 1)) = if l[k - 1]'(by omega) = l[k] then dd (l.take k) else dd (l.take k) ++ [l[k]] := by
  have e : l.take (k + 1) = l.take k ++ [l[k]] := by rw [List.take_add_one, List.getElem?_eq_getElem h]; rfl
  rw [e, dd_snoc, ddStep, dd_last]
  have : (l.take k).getLast? = some (l[k - 1]'(by omega)) := by
    rw [List.getLast?_eq_getElem?, List.getElem?_take]; simp only [List.length_take, Option.ite_none_right_eq_some]; rw [show min k l.length - 1 = k - 1 by omega, List.getElem?_eq_getElem (by omega)]; exact ⟨by omega, rfl⟩
  rw [this]; simp
theorem dd_len (l : List Pair) : (dd l).length ≤ l.length := by
  induction l using makeP_rec with
  | h0 => simp [dd]
  | h1 l x ih => rw [dd_snoc, ddStep]; split <;> simp <;> omega
/-- What slices.Compact leaves in the block. -/
def cptP (l : List Pair) : List Pair := dd l ++ List.replicate (l.length - (dd l).length) (⟨0, 0⟩ : Pair)
theorem cptP_id {l : List Pair} (h : dd l = l) : cptP l = l := by unfold cptP; rw [h]; simp
theorem srt_dd {l : List Pair} (h : l.Pairwise fun a b => lessP b a = false) : Srt (dd l) := by
  induction l using makeP_rec with
  | h0 => exact List.Pairwise.nil
  | h1 l x ih =>
    have h2 := List.pairwise_append.1 h
    have ih := ih h2.1
    rw [dd_snoc, ddStep]
    split
    · exact ih
    · rename_i hl
      refine List.pairwise_append.2 ⟨ih, List.pairwise_singleton _ _, ?_⟩
      intro a ha b hb
      simp at hb; subst hb
      have hab := h2.2.2 a (mem_dd.1 ha) b (by simp)
      cases e : lessP a b with
      | true => rfl
      | false =>
        have eab := lessP_total e hab
        subst eab
        obtain ⟨j, hj, ej⟩ := List.getElem_of_mem ha
        have hne : dd l ≠ [] := List.ne_nil_of_mem ha
        have hjl : j < (dd l).length - 1 := by
          rcases Nat.lt_or_ge j ((dd l).length - 1) with h | h
          · exact h
          · refine absurd ?_ hl
            rw [List.getLast?_eq_getElem?, show (dd l).length - 1 = j by omega, List.getElem?_eq_getElem hj, ej]
        have h3 := srt_get ih hjl (by omega)
        rw [ej] at h3
        have hm : (dd l)[(dd l).length - 1]'(by omega) ∈ l := mem_dd.1 (List.getElem_mem _)
        rw [h2.2.2 _ hm a (by simp)] at h3; cases h3
section
theorem slices_Clone_Pair_nil {P : Program} {p : Nums} (A : All P p) : CallsTo P p.slices_Clone_Pair [.d (.sl [])] [] fun o H' => o = .ret (.d (.sl [])) ∧ H' = [] := by
  refine A.slices_Clone_Pair.run rfl fun R hR => ?_
  (simp (config := { maxSteps := 1000000 }) [ic_slices_Clone_Pair])
  refine AWio_isnil_d (by rfl) (fun _ => ?_) ?_
  · (simp (config := { maxSteps := 1000000 }) [])
    exact hR _ _ (Fin_wkv _ _ rfl (by (repeat' (first | exact True.intro | exact WkV.refl _ rfl | exact WkV.erase _ rfl | exact WkV.nild | exact WkV.nile | refine And.intro ?_ ?_ | refine WkV_agg ?_ | refine WkV_tup ?_))) ⟨rfl, rfl⟩)
  · (simp (config := { maxSteps := 1000000 }) [])
    refine AWio_app_nile (by rfl) (by rfl) (by simp) (by decide) (by simp) (by simp) (fun hn => ?_) fun hn => absurd rfl hn
    (simp (config := { maxSteps := 1000000 }) [])
    exact hR _ _ (Fin_wkv _ _ rfl (by (repeat' (first | exact True.intro | exact WkV.refl _ rfl | exact WkV.erase _ rfl | exact WkV.nild | exact WkV.nile | refine And.intro ?_ ?_ | refine WkV_agg ?_ | refine WkV_tup ?_))) ⟨rfl, rfl⟩)
theorem slices_Clone_Pair_calls {P : Program} {p : Nums} (A : All P p) (l : List Pair) (hl : l ≠ []) (h0 : l.length < 1000000) : CallsTo P p.slices_Clone_Pair [.d (pairsD l)] [] fun o H' => o = .ret (.hsl 0 0 2 l.length) ∧ H' = [.mem (rowCells (l.map Pair.row))] := by
  refine A.slices_Clone_Pair.run rfl fun R hR => ?_
  (simp (config := { maxSteps := 1000000 }) [ic_slices_Clone_Pair, pairsD])
  refine AWio_isnil_d (by rfl) (fun h => absurd (by simpa using h) hl) ?_
  (simp (config := { maxSteps := 1000000 }) [])
  refine AWio_app_h (.inl (by rfl)) (by rfl) (rows_len fun _ => rfl) (by decide) (by simp; omega) (by simp; omega) (by simpa using hl) ?_
  (simp (config := { maxSteps := 1000000 }) [])
  exact hR _ _ (Fin_wk' _ _ _ rfl (by (refine Wk.of ?_ ?_ (by simp) <;> repeat' (first | exact True.intro | exact ⟨_, rfl, wkt_same rfl⟩ | exact ⟨_, rfl, wkt_erase rfl⟩ | exact ⟨_, rfl, .inl .nild⟩ | exact ⟨_, rfl, .inl .nile⟩ | exact ⟨_, rfl, wkt_nils⟩ | exact wkt_same rfl | exact wkt_erase rfl | exact .inl .nild | exact .inl .nile | exact wkt_nils | exact WkB.same rfl | exact WkB_rows | exact WkB_nil | exact .dead _ | refine WkB_cons ?_ ?_ | refine And.intro ?_ ?_))) ⟨by simp, rfl⟩)
theorem slices_Compact_Pair_nil {P : Program} {p : Nums} (A : All P p) : CallsTo P p.slices_Compact_Pair [.d (.sl [])] [] fun o H' => o = .ret (.d (.sl [])) ∧ H' = [] := by
  refine A.slices_Compact_Pair.run rfl fun R hR => ?_
  (simp (config := { maxSteps := 1000000 }) [ic_slices_Compact_Pair])
  exact hR _ _ (Fin_wkv _ _ rfl (by (repeat' (first | exact True.intro | exact WkV.refl _ rfl | exact WkV.erase _ rfl | exact WkV.nild | exact WkV.nile | refine And.intro ?_ ?_ | refine WkV_agg ?_ | refine WkV_tup ?_))) ⟨rfl, rfl⟩)
theorem slices_Compact_Pair_calls {P : Program} {p : Nums} (A : All P p) (l : List Pair) (hl : l ≠ []) (h0 : l.length < 1000000) : CallsTo P p.slices_Compact_Pair [.hsl 0 0 2 l.length] [.mem (rowCells (l.map Pair.row))] fun o H' => o = .ret (.hsl 0 0 2 (dd l).length) ∧ H' = [.mem (rowCells ((cptP l).map Pair.row))] := by
  refine A.slices_Compact_Pair.run rfl fun R hR => ?_
  (simp (config := { maxSteps := 1000000 }) [ic_slices_Compact_Pair])
  have hpos : 0 < l.length := List.length_pos_iff.2 hl
  have dd1 : dd (l.take 1) = l.take 1 := by
    cases l with
    | nil => exact absurd rfl hl
    | cons x l => simp [dd, ddStep]
  have done : dd l = l → R .ret ⟨[(2, .hsl 0 0 2 l.length)], [.mem (rowCells (l.map Pair.row))]⟩ := by
    intro e
    refine hR _ _ (Fin_wk' _ (.hsl 0 0 2 l.length) [.mem (rowCells (l.map Pair.row))] rfl (by (refine Wk.of ?_ ?_ (by simp) <;> repeat' (first | exact True.intro | exact ⟨_, rfl, wkt_same rfl⟩ | exact ⟨_, rfl, wkt_erase rfl⟩ | exact ⟨_, rfl, .inl .nild⟩ | exact ⟨_, rfl, .inl .nile⟩ | exact ⟨_, rfl, wkt_nils⟩ | exact wkt_same rfl | exact wkt_erase rfl | exact .inl .nild | exact .inl .nile | exact wkt_nils | exact WkB.same rfl | exact WkB_rows | exact WkB_nil | exact .dead _ | refine WkB_cons ?_ ?_ | refine And.intro ?_ ?_))) ⟨by rw [e], by rw [cptP_id e]⟩)
  ((first | refine AW_cond_split _ (by rfl) (fun h1 => ?_) (fun h1 => ?_) | refine AWop_split _ (by rfl) (fun h1 => ?_) (fun h1 => ?_)) <;> (try simp only [decide_eq_true_eq, decide_eq_false_iff_not, Bool.not_eq_true', Bool.not_eq_false', Bool.and_eq_true, Bool.or_eq_true, beq_iff_eq, bne_iff_ne, ne_eq, beq_eq_false_iff_ne, bne_eq_false_iff_eq] at h1))
  · have e1 : l.length = 1 := by omega
    have : dd l = l := by rw [show l.take 1 = l from List.take_of_length_le (by omega)] at dd1; exact dd1
    (simp (config := { maxSteps := 1000000 }) [h1])
    refine hR _ _ (Fin_wk' _ (.hsl 0 0 2 l.length) [.mem (rowCells (l.map Pair.row))] rfl (by (refine Wk.of ?_ ?_ (by simp) <;> repeat' (first | exact True.intro | exact ⟨_, rfl, wkt_same rfl⟩ | exact ⟨_, rfl, wkt_erase rfl⟩ | exact ⟨_, rfl, .inl .nild⟩ | exact ⟨_, rfl, .inl .nile⟩ | exact ⟨_, rfl, wkt_nils⟩ | exact wkt_same rfl | exact wkt_erase rfl | exact .inl .nild | exact .inl .nile | exact wkt_nils | exact WkB.same rfl | exact WkB_rows | exact WkB_nil | exact .dead _ | refine WkB_cons ?_ ?_ | refine And.intro ?_ ?_))) ⟨by rw [this], by rw [cptP_id this]⟩)
  (simp (config := { maxSteps := 1000000 }) [h1])
  refine AW_loop (fun k : Nat => ⟨[(3, AI k), (2, .nils), (0, .hsl 0 0 2 l.length)], [.mem (rowCells (l.map Pair.row))]⟩) (fun k => 1 ≤ k ∧ k ≤ l.length ∧ dd (l.take k) = l.take k) (fun k => l.length - k) 1 ⟨by omega, by omega, dd1⟩ (by (refine Wk.of ?_ ?_ (by simp) <;> repeat' (first | exact True.intro | exact ⟨_, rfl, wkt_same rfl⟩ | exact ⟨_, rfl, wkt_erase rfl⟩ | exact ⟨_, rfl, .inl .nild⟩ | exact ⟨_, rfl, .inl .nile⟩ | exact ⟨_, rfl, wkt_nils⟩ | exact wkt_same rfl | exact wkt_erase rfl | exact .inl .nild | exact .inl .nile | exact wkt_nils | exact WkB.same rfl | exact WkB_rows | exact WkB_nil | exact .dead _ | refine WkB_cons ?_ ?_ | refine And.intro ?_ ?_))) ?_
  rintro k ⟨hk1, hk, hd⟩ N hN
  have hlc := rowCells2_len' l
  (simp (config := { maxSteps := 1000000 }) [])
  ((first | refine AW_cond_split _ (by rfl) (fun h2 => ?_) (fun h2 => ?_) | refine AWop_split _ (by rfl) (fun h2 => ?_) (fun h2 => ?_)) <;> (try simp only [decide_eq_true_eq, decide_eq_false_iff_not, Bool.not_eq_true', Bool.not_eq_false', Bool.and_eq_true, Bool.or_eq_true, beq_iff_eq, bne_iff_ne, ne_eq, beq_eq_false_iff_ne, bne_eq_false_iff_eq] at h2))
  · have hkl : k < l.length := by omega
    have hw := wrap_succ (k := k) (by omega)
    obtain ⟨km, hkm⟩ : ∃ km, km = k - 1 := ⟨_, rfl⟩
    have hw2 : IntKind.i64.wrap ((k : Int) - 1) = (km : Int) := by rw [wrap_i64 (by omega) (by omega)]; omega
    have hp1 := pair_at (l := l) (k := km) (by omega)
    have hp2 := pair_at (l := l) (k := k) hkl
    have hce := rowCells_er (l.map Pair.row)
    obtain ⟨C, hC⟩ : ∃ C, C = rowCells (l.map Pair.row) := ⟨_, rfl⟩
    have hkml : km < l.length := by omega
    obtain ⟨x, hx⟩ : ∃ x, x = l[k] := ⟨_, rfl⟩
    obtain ⟨y, hy⟩ : ∃ y, y = l[km] := ⟨_, rfl⟩
    rw [← hC] at hlc hp1 hp2 hce ⊢
    rw [← hx] at hp2
    rw [← hy] at hp1
    have hl1 : km * 2 + 2 ≤ C.length := by omega
    have hl2 : k * 2 + 2 ≤ C.length := by omega
    have hk2 : (km : Int) < (l.length : Int) := by omega
    (simp (config := { maxSteps := 1000000 }) [h2, hw2, hk2, hl1, hl2, hp1, hp2, hce, pair_beq])
    ((first | refine AW_cond_split _ (by rfl) (fun h3 => ?_) (fun h3 => ?_) | refine AWop_split _ (by rfl) (fun h3 => ?_) (fun h3 => ?_)) <;> (try simp only [decide_eq_true_eq, decide_eq_false_iff_not, Bool.not_eq_true', Bool.not_eq_false', Bool.and_eq_true, Bool.or_eq_true, beq_iff_eq, bne_iff_ne, ne_eq, beq_eq_false_iff_ne, bne_eq_false_iff_eq] at h3))
    · have hsl : IntKind.i64.wrap 1 = 1 := by rw [wrap_i64 (by omega) (by omega)]
      have hkle : k ≤ l.length := by omega
      (simp (config := { maxSteps := 1000000 }) [h3, hkle])
      have hdk : dd (l.take (k + 1)) = l.take k := by
        rw [dd_succ hk1 hkl, if_pos, hd]
        rw [← hx, h3, hy]; simp only [hkm]
      refine AW_loop (fun s : Nat × Nat × List Pair => ⟨[(5, AI s.1), (4, .hsl 0 (k * 2) 2 (l.length - k)), (3, AI s.2.1), (2, .nils), (0, .hsl 0 0 2 l.length)], [.mem (rowCells (s.2.2.map Pair.row))]⟩)
        (fun s => 1 ≤ s.1 ∧ k + s.1 ≤ l.length ∧ s.2.1 + 1 ≤ k + s.1 ∧ s.2.2.length = l.length ∧ s.2.2.take s.2.1 = dd (l.take (k + s.1)) ∧ s.2.2.drop (k + s.1 - 1) = l.drop (k + s.1 - 1)) (fun s => l.length - s.1) (1, k, l)
        ⟨by simp, by simp; omega, by simp, rfl, hdk.symm, rfl⟩ (by rw [hC]; (refine Wk.of ?_ ?_ (by simp) <;> repeat' (first | exact True.intro | exact ⟨_, rfl, wkt_same rfl⟩ | exact ⟨_, rfl, wkt_erase rfl⟩ | exact ⟨_, rfl, .inl .nild⟩ | exact ⟨_, rfl, .inl .nile⟩ | exact ⟨_, rfl, wkt_nils⟩ | exact wkt_same rfl | exact wkt_erase rfl | exact .inl .nild | exact .inl .nile | exact wkt_nils | exact WkB.same rfl | exact WkB_rows | exact WkB_nil | exact .dead _ | refine WkB_cons ?_ ?_ | refine And.intro ?_ ?_))) ?_
      rintro ⟨j, i, cur⟩ ⟨hj1, hjn, hij, hcl, hct, hcd⟩ N2 hN2
      simp only at hj1 hjn hij hcl hct hcd hN2 ⊢
      have hlc2 := rowCells2_len' cur
      have hce2 := rowCells_er (cur.map Pair.row)
      (simp (config := { maxSteps := 1000000 }) [])
      ((first | refine AW_cond_split _ (by rfl) (fun h4 => ?_) (fun h4 => ?_) | refine AWop_split _ (by rfl) (fun h4 => ?_) (fun h4 => ?_)) <;> (try simp only [decide_eq_true_eq, decide_eq_false_iff_not, Bool.not_eq_true', Bool.not_eq_false', Bool.and_eq_true, Bool.or_eq_true, beq_iff_eq, bne_iff_ne, ne_eq, beq_eq_false_iff_ne, bne_eq_false_iff_eq] at h4))
      · have h4' : k + j < l.length := by omega
        have hcur : ∀ m, k + j - 1 ≤ m → (h : m < l.length) → cur[m]'(by omega) = l[m] := by
          intro m h5 h6
          have e1 : (cur.drop (k + j - 1))[m - (k + j - 1)]? = cur[m]? := by rw [List.getElem?_drop, Nat.add_sub_cancel' h5]
          have e2 : (l.drop (k + j - 1))[m - (k + j - 1)]? = l[m]? := by rw [List.getElem?_drop, Nat.add_sub_cancel' h5]
          rw [hcd, e2, List.getElem?_eq_getElem h6, List.getElem?_eq_getElem (by omega)] at e1
          injection e1 with e1; exact e1.symm
        obtain ⟨jm, hjm⟩ : ∃ jm, jm = j - 1 := ⟨_, rfl⟩
        have hwj := wrap_succ (k := j) (by omega)
        have hwi := wrap_succ (k := i) (by omega)
        have hwjm : IntKind.i64.wrap ((j : Int) - 1) = (jm : Int) := by rw [wrap_i64 (by omega) (by omega)]; omega
        have hq1 := pair_at (l := cur) (k := k + j) (by omega)
        have hq2 := pair_at (l := cur) (k := k + jm) (by omega)
        rw [hcur _ (by omega) (by omega), Nat.add_mul] at hq1 hq2
        have hdj := dd_succ (l := l) (k := k + j) (by omega) h4'
        have ejm : k + j - 1 = k + jm := by omega
        simp only [ejm] at hdj hcur hcd
        obtain ⟨u, hu⟩ : ∃ u, u = l[k + j] := ⟨_, rfl⟩
        obtain ⟨v, hv⟩ : ∃ v, v = l[k + jm]'(by omega) := ⟨_, rfl⟩
        rw [← hu] at hq1 hdj
        rw [← hv] at hq2 hdj
        have hset := spl_row (rows := cur.map Pair.row) (e := 2) (k := i) (row := u.row) (rows_len fun _ => rfl) rfl (by simp; omega)
        obtain ⟨E, hE⟩ : ∃ E, E = rowCells (cur.map Pair.row) := ⟨_, rfl⟩
        rw [← hE] at hlc2 hce2 hq1 hq2 hset ⊢
        have hm1 : k * 2 + j * 2 + 2 ≤ E.length := by omega
        have hm2 : k * 2 + jm * 2 + 2 ≤ E.length := by omega
        have hm3 : i * 2 + 2 ≤ E.length := by omega
        have hn1 : (j : Int) < ((l.length - k : Nat) : Int) := by omega
        have hn2 : (jm : Int) < ((l.length - k : Nat) : Int) := by omega
        have hn3 : (i : Int) < (l.length : Int) := by omega
        have hcd' : ∀ c : List Pair, c.drop (k + jm) = l.drop (k + jm) → c.drop (k + j) = l.drop (k + j) := by
          intro c hc
          have := congrArg (List.drop 1) hc
          rw [List.drop_drop, List.drop_drop] at this
          rwa [show k + jm + 1 = k + j by omega] at this
        (simp (config := { maxSteps := 1000000 }) [h4, hwjm, hn1, hn2, hm1, hm2, hq1, hq2, hce2, pair_beq])
        ((first | refine AW_cond_split _ (by rfl) (fun h5 => ?_) (fun h5 => ?_) | refine AWop_split _ (by rfl) (fun h5 => ?_) (fun h5 => ?_)) <;> (try simp only [decide_eq_true_eq, decide_eq_false_iff_not, Bool.not_eq_true', Bool.not_eq_false', Bool.and_eq_true, Bool.or_eq_true, beq_iff_eq, bne_iff_ne, ne_eq, beq_eq_false_iff_ne, bne_eq_false_iff_eq] at h5))
        · (simp (config := { maxSteps := 1000000 }) [h5, hn1, hn2, hn3, hm1, hm2, hm3, hq1, hq2, hce2, hwi, hwj])
          rw [if_neg (by intro e; exact h5 e.symm)] at hdj
          have hset' : List.take (i * 2) E ++ AI u.v :: AI u.l :: List.drop (i * 2 + 2) E = rowCells ((cur.set i u).map Pair.row) := by
            rw [List.map_set, ← hset]; simp [spl, Pair.row]
          rw [hset']
          refine hN2 _ (j + 1, i + 1, cur.set i u) ⟨by simp only; omega, by simp only; omega, by simp only; omega, by simpa using hcl, ?_, ?_⟩ (by simp only; (refine Wk.of ?_ ?_ (by simp) <;> repeat' (first | exact True.intro | exact ⟨_, rfl, wkt_same rfl⟩ | exact ⟨_, rfl, wkt_erase rfl⟩ | exact ⟨_, rfl, .inl .nild⟩ | exact ⟨_, rfl, .inl .nile⟩ | exact ⟨_, rfl, wkt_nils⟩ | exact wkt_same rfl | exact wkt_erase rfl | exact .inl .nild | exact .inl .nile | exact wkt_nils | exact WkB.same rfl | exact WkB_rows | exact WkB_nil | exact .dead _ | refine WkB_cons ?_ ?_ | refine And.intro ?_ ?_))) (by simp only; omega)
          · simp only
            rw [← Nat.add_assoc, hdj, ← hct, List.take_add_one, List.getElem?_set_self (by omega), List.take_set_of_le (by omega)]; rfl
          · simp only
            rw [show k + (j + 1) - 1 = k + j by omega, List.drop_set_of_lt (by omega)]; exact hcd' _ hcd
        · (simp (config := { maxSteps := 1000000 }) [h5, hwj])
          rw [if_pos (by simpa using Eq.symm (by simpa using h5))] at hdj
          refine hN2 _ (j + 1, i, cur) ⟨by simp only; omega, by simp only; omega, by simp only; omega, hcl, ?_, ?_⟩ (by simp only; rw [hE]; (refine Wk.of ?_ ?_ (by simp) <;> repeat' (first | exact True.intro | exact ⟨_, rfl, wkt_same rfl⟩ | exact ⟨_, rfl, wkt_erase rfl⟩ | exact ⟨_, rfl, .inl .nild⟩ | exact ⟨_, rfl, .inl .nile⟩ | exact ⟨_, rfl, wkt_nils⟩ | exact wkt_same rfl | exact wkt_erase rfl | exact .inl .nild | exact .inl .nile | exact wkt_nils | exact WkB.same rfl | exact WkB_rows | exact WkB_nil | exact .dead _ | refine WkB_cons ?_ ?_ | refine And.intro ?_ ?_))) (by simp only; omega)
          · simp only; rw [hct, ← Nat.add_assoc, hdj]
          · simp only; rw [show k + (j + 1) - 1 = k + j by omega]; exact hcd' _ hcd
      · have hj2 : k + j = l.length := by omega
        rw [hj2, List.take_length] at hct
        have hil : i < l.length := by omega
        have hil' : i ≤ l.length := by omega
        have hdl : (dd l).length = i := by rw [← hct]; simp; omega
        have hzero : ¬ (l.length - i = 0) := by omega
        (simp (config := { maxSteps := 1000000 }) [hil'])
        refine AWio_clr (by rfl) (by rfl) (by decide) (by omega) (by rfl) (by omega) ?_
        obtain ⟨T, hT⟩ : ∃ T : List Pair, T = List.replicate (l.length - i) (⟨0, 0⟩ : Pair) := ⟨_, rfl⟩
        obtain ⟨U, hU⟩ : ∃ U : List Pair, U = dd l ++ T := ⟨_, rfl⟩
        have hfin : spl (rowCells (cur.map Pair.row)) (i * 2) (rowCells (List.replicate (l.length - i) [I 0, I 0])) = rowCells (U.map Pair.row) := by
          have h7 : (rowCells (List.replicate (l.length - i) [I 0, I 0])).length = (l.length - i) * 2 := by
            rw [rowCells_len (e := 2) (fun r hr => by rw [List.eq_of_mem_replicate hr]; rfl)]; simp
          rw [spl, rowCells_take (e := 2) (rows := cur.map Pair.row) (rows_len (f := Pair.row) fun _ => rfl), h7, List.drop_of_length_le (by omega), List.append_nil, ← List.map_take, hct, hU, hT]
          simp [rowCells, Pair.row]
        rw [hfin]
        (simp (config := { maxSteps := 1000000 }) [hil'])
        refine hR _ _ (Fin_wk' _ (.hsl 0 0 2 i) [.mem (rowCells (U.map Pair.row))] rfl (by (refine Wk.of ?_ ?_ (by simp) <;> repeat' (first | exact True.intro | exact ⟨_, rfl, wkt_same rfl⟩ | exact ⟨_, rfl, wkt_erase rfl⟩ | exact ⟨_, rfl, .inl .nild⟩ | exact ⟨_, rfl, .inl .nile⟩ | exact ⟨_, rfl, wkt_nils⟩ | exact wkt_same rfl | exact wkt_erase rfl | exact .inl .nild | exact .inl .nile | exact wkt_nils | exact WkB.same rfl | exact WkB_rows | exact WkB_nil | exact .dead _ | refine WkB_cons ?_ ?_ | refine And.intro ?_ ?_))) ⟨by rw [hdl], by rw [hU, hT, cptP, hdl]⟩)
    · (simp (config := { maxSteps := 1000000 }) [h3, hw])
      refine hN _ (k + 1) ⟨by omega, hkl, ?_⟩ (by rw [hC]; (refine Wk.of ?_ ?_ (by simp) <;> repeat' (first | exact True.intro | exact ⟨_, rfl, wkt_same rfl⟩ | exact ⟨_, rfl, wkt_erase rfl⟩ | exact ⟨_, rfl, .inl .nild⟩ | exact ⟨_, rfl, .inl .nile⟩ | exact ⟨_, rfl, wkt_nils⟩ | exact wkt_same rfl | exact wkt_erase rfl | exact .inl .nild | exact .inl .nile | exact wkt_nils | exact WkB.same rfl | exact WkB_rows | exact WkB_nil | exact .dead _ | refine WkB_cons ?_ ?_ | refine And.intro ?_ ?_))) (by omega)
      have e : ¬ l[k - 1]'(by omega) = l[k] := by
        rw [← hx]; intro e; apply h3; rw [← e, hy]; simp only [hkm]
      rw [dd_succ hk1 hkl, if_neg e, hd, List.take_add_one, List.getElem?_eq_getElem hkl]; rfl
  · have hk' : k = l.length := by omega
    subst hk'
    rw [List.take_length] at hd
    (simp (config := { maxSteps := 1000000 }) [])
    refine hR _ _ (Fin_wk' _ (.hsl 0 0 2 l.length) [.mem (rowCells (l.map Pair.row))] rfl (by (refine Wk.of ?_ ?_ (by simp) <;> repeat' (first | exact True.intro | exact ⟨_, rfl, wkt_same rfl⟩ | exact ⟨_, rfl, wkt_erase rfl⟩ | exact ⟨_, rfl, .inl .nild⟩ | exact ⟨_, rfl, .inl .nile⟩ | exact ⟨_, rfl, wkt_nils⟩ | exact wkt_same rfl | exact wkt_erase rfl | exact .inl .nild | exact .inl .nile | exact wkt_nils | exact WkB.same rfl | exact WkB_rows | exact WkB_nil | exact .dead _ | refine WkB_cons ?_ ?_ | refine And.intro ?_ ?_))) ⟨by rw [hd], by rw [cptP_id hd]⟩)
end
end Go.AE

/- slices.SortFunc over pairs, as the library has it, told over abstract values. -/
set_option linter.unusedVariables false
namespace Go.AE
open Go Go.Proofs Go.Shelf Go.Sort
def encP (x : Pair) : List Value := [.int .i64 x.v, .int .i64 x.l]
def cfP (a b : Pair) : Int := if lessP a b = true then -1 else if lessP b a = true then 1 else 0
theorem ltOf_cfP (a b : Pair) : ltOf cfP a b = lessP a b := by
  unfold ltOf cfP
  cases h1 : lessP a b <;> cases h2 : lessP b a <;> simp
theorem swoP : SWO (ltOf cfP) where
  irrefl x := by rw [ltOf_cfP]; exact lessP_irrefl x
  trans x y z h1 h2 := by rw [ltOf_cfP] at *; exact lessP_trans h1 h2
  ntrans x y z h1 h2 := by
    rw [ltOf_cfP] at *
    have h1 : ¬ lessP x y = true := by simp [h1]
    have h2 : ¬ lessP y z = true := by simp [h2]
    cases h : lessP x z with
    | false => rfl
    | true => rw [lessP_iff] at *; omega
def sortP (l : List Pair) : List Pair := l.mergeSort fun x y => !lessP y x
theorem sortP_len (l : List Pair) : (sortP l).length = l.length := by simp [sortP]
theorem flat_get : ∀ (l : List Pair) (j : Nat) (h : j < 2 * l.length), (l.map Pair.row).flatten[j]? = some (if j % 2 = 0 then I (l[j / 2]'(by omega)).v else I (l[j / 2]'(by omega)).l) := by
  intro l
  induction l with
  | nil => intro j h; simp at h
  | cons x l ih =>
    intro j h
    match j, h with
    | 0, h => simp [Pair.row]
    | 1, h => simp [Pair.row]
    | j + 2, h =>
      have h' : j < 2 * l.length := by simp at h; omega
      have e := ih j h'
      have e1 : (j + 2) / 2 = j / 2 + 1 := by omega
      have e2 : (j + 2) % 2 = j % 2 := by omega
      simp only [List.map_cons, List.flatten_cons, Pair.row, List.cons_append, List.nil_append, List.getElem?_cons_succ, e2]
      rw [e]
      simp only [e1, List.getElem_cons_succ]
theorem flat_both (l : List Pair) (j : Nat) (h : j < 2 * l.length) : ∃ n : Int, (rowCells (l.map Pair.row))[j]? = some (AI n) ∧ (flatK encP 2 l.toArray)[j]! = .int .i64 n := by
  have h1 := flat_get l j h
  have h2 := get_flatK encP 2 l.toArray j (by simp; omega)
  have h3 : l.toArray[j / 2]! = l[j / 2]'(by omega) := by
    rw [getElem!_pos _ _ (by simp; omega)]; simp
  rw [h3] at h2
  rcases Nat.mod_two_eq_zero_or_one j with hm | hm
  · refine ⟨(l[j / 2]'(by omega)).v, ?_, ?_⟩
    · rw [rowCells, List.getElem?_map, h1, hm]; rfl
    · rw [h2, hm]; rfl
  · refine ⟨(l[j / 2]'(by omega)).l, ?_, ?_⟩
    · rw [rowCells, List.getElem?_map, h1, hm]; rfl
    · rw [h2, hm]; rfl
theorem rowCells2_len (l : List Pair) : (rowCells (l.map Pair.row)).length = 2 * l.length := by
  rw [rowCells_len (e := 2) (rows_len fun _ => rfl)]; simp; omega
theorem rowCells_d {rows : List (List D)} {j : Nat} {x : AV} (h : (rowCells rows)[j]? = some x) : ∃ d, x = .d d := by
  rw [rowCells, List.getElem?_map] at h
  cases hx : rows.flatten[j]? with
  | none => rw [hx] at h; cases h
  | some d => rw [hx] at h; injection h with h; exact ⟨d, h.symm⟩
section
variable {P : Program} {ρ : Ren}
theorem sort_some (L : SlLaysF0.n6 P ρ) (aE : ∀ w, (isAgg (ρ.t 24)).run P w = .ok true w) (zE : ∀ w, (Go.sizeOf (ρ.t 24)).run P w = .ok 2 w) (c : Nat) (eg : ∀ args w, (callFunc c args).run P w = .ok (.enter c args) w)
    (hcmp : ∀ blk off size w, CmpLays P c #[] encP 2 cfP blk off size w) (l : List Pair) (hne : l ≠ []) (hlen : l.length < 4611686018427387904) :
    CallsTo P (ρ.f 6) [.hsl 0 0 2 l.length, .fn (.func c) [] []] [.mem (rowCells (l.map Pair.row))] fun o H' => o = .ret (.tup []) ∧ H' = [.mem (rowCells ((sortP l).map Pair.row))] := by
  intro g vs w hsz hs
  have hn : l.length ≠ 0 := by simpa using hne
  obtain ⟨vs⟩ := vs
  obtain ⟨v0, v1, rfl⟩ : ∃ a b, vs = [a, b] := by
    match vs, hsz with
    | [a, b], _ => exact ⟨a, b, rfl⟩
  have e0 : Rel g.F g.φ w (.hsl 0 0 2 l.length) v0 := hs.env 0 _ rfl
  have e1 : Rel g.F g.φ w (.fn (.func c) [] []) v1 := hs.env 1 _ rfl
  cases e0 with
  | hsl _ _ _ _ r cap a hφ hcap ha =>
  have ha := ha hn; subst ha
  cases e1 with
  | fn _ _ _ us us' hl _ hl' _ =>
  have : us = [] := by simpa using hl
  subst this
  have : us' = [] := by simpa using hl'
  subst this
  obtain ⟨cl, te, hc, hcs, hcell⟩ := hs.mem 0 _ r rfl hφ
  have hF := (hs.lt 0 r hφ).2.1
  have hrl := (hs.lt 0 r hφ).1
  rw [rowCells2_len] at hcs
  have hH : HoldsK encP 2 w r 0 l.toArray := by
    intro j hj
    rw [size_flatK] at hj
    have hj' : j < 2 * l.length := by simp at hj; omega
    obtain ⟨n, h1, h2⟩ := flat_both l j hj'
    obtain ⟨_, u, hu, hrel⟩ := hcell j _ h1
    cases hrel with
    | d _ _ hp =>
    cases hp with
    | int k m =>
    constructor
    · rw [h2]; simp [World.cell?, hc, hu]
    · simp [World.frozen?, hc]
  have := AnyQ.slices_SortFunc_total L 2 aE zE encP (fun _ => rfl) (fun x v hv => by simp [encP] at hv; rcases hv with rfl | rfl <;> rfl) cfP swoP c #[] r 0 cap l.toArray w eg (hcmp r 0 _ w) hH hrl (by simpa using hlen) (fun x y h1 h2 => by rw [ltOf_cfP] at h1 h2; exact lessP_total h1 h2)
  refine Calls.mono (show Calls P (ρ.f 6) #[.slice (some ⟨r, 0, none⟩) l.length cap, .func (.func c) #[] #[]] w _ from this) ?_
  rintro e w' ⟨rfl, n, os, hw⟩
  have hw : w' = sortWorldK encP 2 w r 0 n (sortP l).toArray os := by
    rw [hw]; simp only [ltOf_cfP]; rfl
  obtain ⟨d, hd⟩ : ∃ d, d = sortP l := ⟨_, rfl⟩
  have hdl : d.length = l.length := by rw [hd, sortP_len]
  rw [← hd] at hw
  have hheap : w'.heap = (w.heap.modify r (onCells (putCells id 0 (flatK encP 2 d.toArray)))) ++ os := by rw [hw]; rfl
  have hother : ∀ r', r' < w.heap.size → r' ≠ r → w'.heap[r']? = w.heap[r']? := by
    intro r' h1 h2
    rw [hheap, Array.getElem?_append]
    simp only [Array.size_modify, h1, if_true, Array.getElem?_modify]
    rw [if_neg (Ne.symm h2)]
  have hsize : w.heap.size ≤ w'.heap.size := by rw [hheap]; simp
  have hr' : w'.heap[r]? = some (.cells (putCells id 0 (flatK encP 2 d.toArray) cl) te (0, 0)) := by
    rw [hheap, Array.getElem?_append]
    simp only [Array.size_modify, hrl, if_true, Array.getElem?_modify, if_true]
    rw [hc]; rfl
  have hno : ∀ (env : List (Nat × AV)) (cells : List D) b j e rows, AP ⟨env, [.mem (cells.map AV.d)]⟩ (.cell b j) ≠ some (.own e rows) := by
    intro env cells b j e rows h
    simp only [AP] at h
    cases b with
    | zero =>
      simp only [List.getElem?_cons_zero] at h
      rw [List.getElem?_map] at h
      cases hx : cells[j]? with
      | none => rw [hx] at h; cases h
      | some d => rw [hx] at h; cases h
    | succ b => simp at h
  have hno' : ∀ p e rows, AP ⟨[(0, .tup [])], [.mem (rowCells (d.map Pair.row))]⟩ p ≠ some (.own e rows) := by
    intro p e rows h
    cases p with
    | tmp t => simp only [AP, get] at h; split at h <;> cases h
    | cell b j => exact hno _ _ _ _ _ _ h
  have hb0 : ∀ b r', g.φ b = some r' → b = 0 := fun b r' h => by have := (hs.lt b r' h).2.2; simp at this; exact this
  refine ⟨.ret (.tup []), [.mem (rowCells (d.map Pair.row))], g, .tuple #[], ⟨rfl, by rw [hd]⟩, rfl, ?_, ?_, fun _ _ _ h => h, by simp, ?_⟩
  · refine { size := by simp, env := ?_, defers := rfl, inj := hs.inj, lt := ?_, dom := ?_, mem := ?_, iter := ?_, own := ?_, excl := ?_, apart := ?_, view := ?_ }
    · intro t x hx
      simp only [get] at hx
      split at hx
      · rename_i h; subst h; injection hx with hx; subst hx
        exact .tup [] [] rfl fun j x u h => by simp at h
      · cases hx
    · intro b r' h
      obtain ⟨h1, h2, h3⟩ := hs.lt b r' h
      exact ⟨by omega, h2, by simpa using h3⟩
    · intro b k h hk
      cases b with
      | zero => exact ⟨r, hφ⟩
      | succ b => simp at h
    · intro b cells r' h hr2
      have hb := hb0 b r' hr2
      subst hb
      rw [hφ] at hr2; injection hr2 with hr2; subst hr2
      simp at h; subst h
      refine ⟨_, te, hr', ?_, ?_⟩
      · rw [rowCells2_len, hdl]; simp [putCells]; exact hcs
      · intro j x hx
        have hj : j < 2 * d.length := by
          have := (List.getElem?_eq_some_iff.1 hx).1
          rwa [rowCells2_len] at this
        obtain ⟨n, h1, h2⟩ := flat_both d j hj
        rw [hx] at h1; injection h1 with h1; subst h1
        refine ⟨rfl, .int .i64 n, ?_, .d _ _ (.int _ _)⟩
        have hjc : j < cl.size := by omega
        have hf : j < (flatK encP 2 d.toArray).size := by rw [size_flatK]; simp; omega
        simp only [putCells, Array.getElem?_mapIdx, hjc, Array.getElem?_eq_getElem, Option.map_some, Nat.zero_le, true_and, Nat.zero_add, hf, if_true, Nat.sub_zero, h2, id]
    · intro b s pos r' h _
      cases b with
      | zero => simp at h
      | succ b => simp at h
    · intro p e rows v h; exact absurd h (hno' p e rows)
    · rintro p p' r' ⟨e, rows, _, h, _⟩; exact absurd h (hno' p e rows)
    · rintro p r' b ⟨e, rows, _, h, _⟩; exact absurd h (hno' p e rows)
    · intro t org e rows h
      simp only [get] at h
      split at h <;> cases h
  · refine ⟨by rw [hw]; rfl, by rw [hw]; rfl, by rw [hw]; rfl, hsize, ?_, ?_⟩
    · intro r' h1 h2
      refine ⟨hother r' h1 ?_, rfl⟩
      rintro rfl; exact h2 (.inl ⟨0, hφ⟩)
    · refine ⟨fun _ _ => Nat.le_refl _, ?_⟩
      intro r' j u hj hu
      have hne : r' ≠ r := by rintro rfl; omega
      have hlt := World.block_lt_of_cell? w ⟨r', j, none⟩ hu
      have := hother r' hlt hne
      simp only [World.cell?] at hu ⊢
      rw [this]; exact hu
  · rintro r' (⟨b, hb⟩ | ⟨p, e, rows, _, h, _⟩)
    · exact .inl (.inl ⟨b, hb⟩)
    · exact absurd h (hno' p e rows)
theorem sort_none (L : SlLaysF0.n6 P ρ) (c : Nat) (x : AV) (hx : x = .d (.sl []) ∨ x = .nils ∨ x = .nile) :
    CallsTo P (ρ.f 6) [x, .fn (.func c) [] []] [] fun o H' => o = .ret (.tup []) ∧ H' = [] := by
  intro g vs w hsz hs
  obtain ⟨vs⟩ := vs
  obtain ⟨v0, v1, rfl⟩ : ∃ a b, vs = [a, b] := by
    match vs, hsz with
    | [a, b], _ => exact ⟨a, b, rfl⟩
  have e0 : Rel g.F g.φ w x.erase v0 := hs.env 0 _ rfl
  obtain ⟨a, cap, rfl⟩ : ∃ a cap, v0 = .slice a 0 cap := by
    rcases hx with rfl | rfl | rfl
    · cases e0 with
      | d _ _ h => cases h with
        | nil a cap => exact ⟨a, cap, rfl⟩
        | sl rows ad cap esz vs h1 h2 h3 h4 h5 h6 => exact ⟨_, _, rfl⟩
    · cases e0; exact ⟨_, _, rfl⟩
    · cases e0; exact ⟨_, _, rfl⟩
  refine Calls.mono (AnyF.slices_SortFunc_none L a cap v1 w) ?_
  rintro e w' ⟨rfl, rfl⟩
  have hno : ∀ (st : ASt) p e rows, st.H = [] → (∀ t e rows, get st.env t ≠ some (.own e rows)) → AP st p ≠ some (.own e rows) := by
    intro st p e rows h1 h2 h
    cases p with
    | tmp t => exact h2 t e rows h
    | cell b j => simp only [AP, h1] at h; simp at h
  have hno' : ∀ p e rows, AP ⟨[(0, .tup [])], []⟩ p ≠ some (.own e rows) := by
    intro p e rows
    refine hno _ p e rows rfl ?_
    intro t e rows h; simp only [get] at h; split at h <;> cases h
  have hb0 : ∀ b r, g.φ b ≠ some r := fun b r h => by have := (hs.lt b r h).2.2; simp at this
  refine ⟨.ret (.tup []), [], g, .tuple #[], ⟨rfl, rfl⟩, rfl, ?_, Tr.refl _ _ _, fun _ _ _ h => h, by simp, ?_⟩
  · refine { size := by simp, env := ?_, defers := rfl, inj := hs.inj, lt := fun b r h => absurd h (hb0 b r), dom := ?_, mem := ?_, iter := ?_, own := ?_, excl := ?_, apart := ?_, view := ?_ }
    · intro t x hx
      simp only [get] at hx
      split at hx
      · rename_i h; subst h; injection hx with hx; subst hx
        exact .tup [] [] rfl fun j x u h => by simp at h
      · cases hx
    · intro b k h; simp at h
    · intro b cells r h; simp at h
    · intro b s pos r h; simp at h
    · intro p e rows v h; exact absurd h (hno' p e rows)
    · rintro p p' r' ⟨e, rows, _, h, _⟩; exact absurd h (hno' p e rows)
    · rintro p r' b ⟨e, rows, _, h, _⟩; exact absurd h (hno' p e rows)
    · intro t org e rows h; simp only [get] at h; split at h <;> cases h
  · rintro r' (⟨b, hb⟩ | ⟨p, e, rows, _, h, _⟩)
    · exact absurd hb (hb0 b r')
    · exact absurd h (hno' p e rows)
end
end Go.AE

/- Sets of pairs: Make. -/
set_option linter.unusedVariables false
namespace Go.AE
open Go
/-- What is asked of slices.SortFunc. -/
structure SortOk (P : Program) (p : Nums) : Prop where
  none : CallsTo P p.slices_SortFunc_Pair [.d (.sl []), .fn (.func p.pairset_compare) [] []] [] fun o H' => o = .ret (.tup []) ∧ H' = []
  some : ∀ l : List Pair, l ≠ [] → l.length < 1000000 → CallsTo P p.slices_SortFunc_Pair [.hsl 0 0 2 l.length, .fn (.func p.pairset_compare) [] []] [.mem (rowCells (l.map Pair.row))] fun o H' => o = .ret (.tup []) ∧ H' = [.mem (rowCells ((sortP l).map Pair.row))]
theorem sortP_pw (l : List Pair) : (sortP l).Pairwise fun a b => lessP b a = false := by
  have := List.pairwise_mergeSort (le := fun x y => !lessP y x) (fun a b c h1 h2 => ?_) (fun a b => ?_) l
  · refine List.Pairwise.imp ?_ this
    intro a b h; simpa using h
  · simp only [Bool.not_eq_true'] at h1 h2 ⊢
    cases h : lessP c a with
    | false => rfl
    | true =>
      cases h3 : lessP b c with
      | true => rw [lessP_trans h3 h] at h1; cases h1
      | false => have := lessP_total h3 h2; subst this; rw [h] at h1; cases h1
  · cases h1 : lessP b a with
    | false => simp
    | true => simp [lessP_asymm h1]
theorem mem_sortP {l : List Pair} {q : Pair} : q ∈ sortP l ↔ q ∈ l := by unfold sortP; simp
theorem dd_sortP (l : List Pair) : dd (sortP l) = makeP l :=
  srt_ext (srt_dd (sortP_pw l)) (srt_makeP l) fun q => by rw [mem_dd, mem_sortP, mem_makeP]
theorem sortP_ne {l : List Pair} (h : l ≠ []) : sortP l ≠ [] := by
  intro e; have := sortP_len l; rw [e] at this; exact h (List.length_eq_zero_iff.1 this.symm)
section
theorem pairset_Make_nil {P : Program} {p : Nums} (A : All P p) (S : SortOk P p) : CallsTo P p.pairset_Make [.d (.sl [])] [] fun o H' => o = .ret (.d (.sl [])) ∧ H' = [] := by
  refine A.pairset_Make.run rfl fun R hR => ?_
  (simp (config := { maxSteps := 1000000 }) [ic_pairset_Make])
  refine AWcall_locn [] 0 (slices_Clone_Pair_nil A) (by decide) (by rfl) (by rfl) (by rfl) (by rfl) (by rfl) (by rfl) ?_
  (simp (config := { maxSteps := 1000000 }) [])
  refine AWcall_locn [] 0 S.none (by decide) (by rfl) (by rfl) (by rfl) (by rfl) (by rfl) (by rfl) ?_
  (simp (config := { maxSteps := 1000000 }) [])
  refine AWcall_locn [] 0 (slices_Compact_Pair_nil A) (by decide) (by rfl) (by rfl) (by rfl) (by rfl) (by rfl) (by rfl) ?_
  (simp (config := { maxSteps := 1000000 }) [])
  exact hR _ _ (Fin_wkv _ _ rfl (by (repeat' (first | exact True.intro | exact WkV.refl _ rfl | exact WkV.erase _ rfl | exact WkV.nild | exact WkV.nile | refine And.intro ?_ ?_ | refine WkV_agg ?_ | refine WkV_tup ?_))) ⟨rfl, rfl⟩)
theorem pairset_Make_h {P : Program} {p : Nums} (A : All P p) (S : SortOk P p) (l : List Pair) (hl : l ≠ []) (h0 : l.length < 1000000) : CallsTo P p.pairset_Make [.d (pairsD l)] [] fun o H' => o = .ret (.hsl 0 0 2 (makeP l).length) ∧ H' = [.mem (rowCells ((cptP (sortP l)).map Pair.row))] := by
  refine A.pairset_Make.run rfl fun R hR => ?_
  (simp (config := { maxSteps := 1000000 }) [ic_pairset_Make, pairsD])
  refine AWcall_locn [] 1 (slices_Clone_Pair_calls A l hl h0) (by decide) (by rfl) (by rfl) (by rfl) renB_rows (by rfl) (by rfl) ?_
  (simp (config := { maxSteps := 1000000 }) [])
  refine AWcall_locn [0] 0 (S.some l hl h0) (by decide) (by rfl) (by rfl) renB_rows renB_rows (by rfl) (by rfl) ?_
  (simp (config := { maxSteps := 1000000 }) [])
  have hs := slices_Compact_Pair_calls A (sortP l) (sortP_ne hl) (by rw [sortP_len]; exact h0)
  rw [sortP_len, dd_sortP] at hs
  refine AWcall_locn [0] 0 hs (by decide) (by rfl) (by rfl) renB_rows renB_rows (by rfl) (by rfl) ?_
  obtain ⟨n, hn⟩ : ∃ n, n = (makeP l).length := ⟨_, rfl⟩
  obtain ⟨U, hU⟩ : ∃ U, U = cptP (sortP l) := ⟨_, rfl⟩
  rw [← hn, ← hU]
  (simp (config := { maxSteps := 1000000 }) [])
  exact hR _ _ (Fin_wk' _ (.hsl 0 0 2 n) [.mem (rowCells (U.map Pair.row))] rfl (by (refine Wk.of ?_ ?_ (by simp) <;> repeat' (first | exact True.intro | exact ⟨_, rfl, wkt_same rfl⟩ | exact ⟨_, rfl, wkt_erase rfl⟩ | exact ⟨_, rfl, .inl .nild⟩ | exact ⟨_, rfl, .inl .nile⟩ | exact ⟨_, rfl, wkt_nils⟩ | exact wkt_same rfl | exact wkt_erase rfl | exact .inl .nild | exact .inl .nile | exact wkt_nils | exact WkB.same rfl | exact WkB_rows | exact WkB_nil | exact .dead _ | refine WkB_cons ?_ ?_ | refine And.intro ?_ ?_))) ⟨by rw [hn], by rw [hU]⟩)
theorem pairset_Make_calls {P : Program} {p : Nums} (A : All P p) (S : SortOk P p) (l : List Pair) (h0 : l.length < 1000000) : CallsTo P p.pairset_Make [.d (pairsD l)] [] fun o _ => o = .ret (.d (pairsD (makeP l))) := by
  by_cases hl : l = []
  · subst hl
    exact (pairset_Make_nil A S).mono fun o H' h => h.1
  · refine A.pairset_Make.run rfl fun R hR => ?_
    (simp (config := { maxSteps := 1000000 }) [ic_pairset_Make, pairsD])
    refine AWcall_locn [] 1 (slices_Clone_Pair_calls A l hl h0) (by decide) (by rfl) (by rfl) (by rfl) renB_rows (by rfl) (by rfl) ?_
    (simp (config := { maxSteps := 1000000 }) [])
    refine AWcall_locn [0] 0 (S.some l hl h0) (by decide) (by rfl) (by rfl) renB_rows renB_rows (by rfl) (by rfl) ?_
    (simp (config := { maxSteps := 1000000 }) [])
    have hs := slices_Compact_Pair_calls A (sortP l) (sortP_ne hl) (by rw [sortP_len]; exact h0)
    rw [sortP_len, dd_sortP] at hs
    refine AWcall_locn [0] 0 hs (by decide) (by rfl) (by rfl) renB_rows renB_rows (by rfl) (by rfl) ?_
    obtain ⟨n, hn⟩ : ∃ n, n = (makeP l).length := ⟨_, rfl⟩
    obtain ⟨U, hU⟩ : ∃ U, U = cptP (sortP l) := ⟨_, rfl⟩
    rw [← hn, ← hU]
    (simp (config := { maxSteps := 1000000 }) [])
    refine hR _ _ (Fin_wkv _ _ rfl (WkV.hsl 0 0 2 n _ ((makeP l).map Pair.row) rfl (by omega) ?_ (by rw [hn]; simp) (rows_len fun _ => rfl)) rfl)
    show ((rowCells (U.map Pair.row)).drop 0).take (n * 2) = rowCells ((makeP l).map Pair.row)
    rw [List.drop_zero, rowCells_take (e := 2) (rows := U.map Pair.row) (rows_len (f := Pair.row) fun _ => rfl), ← List.map_take, hU, cptP, dd_sortP, hn, List.take_left']
    rfl
end
end Go.AE

/- Sets of pairs: what is dropped. -/
set_option linter.unusedVariables false
namespace Go.AE
open Go
theorem filter_succ {l : List Pair} {f : Pair → Bool} {k : Nat} (h : k < l.length) : (l.take (k + 1)).filter f = if f l[k] = true then (l.take k).filter f ++ [l[k]] else (l.take k).filter f := by
  rw [List.take_add_one, List.getElem?_eq_getElem h, List.filter_append]
  cases hf : f l[k] <;> simp [hf]
section
theorem pairset_DropV_1_calls {P : Program} {p : Nums} (A : All P p) (x : Pair) (v : Int) : CallsTo P p.pairset_DropV_1 [x.av, .ptr 0 0] [.mem [AI v]] fun o H' => o = .ret (AB (x.v != v)) ∧ H' = [.mem [AI v]] := by
  refine A.pairset_DropV_1.run rfl fun R hR => ?_
  (simp (config := { maxSteps := 1000000 }) [ic_pairset_DropV_1, Pair.av])
  exact hR _ _ (Fin_wk' _ (AB (x.v != v)) [.mem [AI v]] rfl (by (refine Wk.of ?_ ?_ (by simp) <;> repeat' (first | exact True.intro | exact ⟨_, rfl, wkt_same rfl⟩ | exact ⟨_, rfl, wkt_erase rfl⟩ | exact ⟨_, rfl, .inl .nild⟩ | exact ⟨_, rfl, .inl .nile⟩ | exact ⟨_, rfl, wkt_nils⟩ | exact wkt_same rfl | exact wkt_erase rfl | exact .inl .nild | exact .inl .nile | exact wkt_nils | exact WkB.same rfl | exact WkB_rows | exact WkB_nil | exact .dead _ | refine WkB_cons ?_ ?_ | refine And.intro ?_ ?_))) ⟨rfl, rfl⟩)
theorem pairset_DropL_1_calls {P : Program} {p : Nums} (A : All P p) (x : Pair) (v : Int) : CallsTo P p.pairset_DropL_1 [x.av, .ptr 0 0] [.mem [AI v]] fun o H' => o = .ret (AB (x.l != v)) ∧ H' = [.mem [AI v]] := by
  refine A.pairset_DropL_1.run rfl fun R hR => ?_
  (simp (config := { maxSteps := 1000000 }) [ic_pairset_DropL_1, Pair.av])
  exact hR _ _ (Fin_wk' _ (AB (x.l != v)) [.mem [AI v]] rfl (by (refine Wk.of ?_ ?_ (by simp) <;> repeat' (first | exact True.intro | exact ⟨_, rfl, wkt_same rfl⟩ | exact ⟨_, rfl, wkt_erase rfl⟩ | exact ⟨_, rfl, .inl .nild⟩ | exact ⟨_, rfl, .inl .nile⟩ | exact ⟨_, rfl, wkt_nils⟩ | exact wkt_same rfl | exact wkt_erase rfl | exact .inl .nild | exact .inl .nile | exact wkt_nils | exact WkB.same rfl | exact WkB_rows | exact WkB_nil | exact .dead _ | refine WkB_cons ?_ ?_ | refine And.intro ?_ ?_))) ⟨rfl, rfl⟩)
theorem pairset_filter_calls {P : Program} {p : Nums} (A : All P p) (l : List Pair) (f : Nat) (v : Int) (keep : Pair → Bool) (h0 : l.length < 1000000) (hok : okFn P f = true)
    (hf : ∀ x : Pair, CallsTo P f [x.av, .ptr 0 0] [.mem [AI v]] fun o H' => o = .ret (AB (keep x)) ∧ H' = [.mem [AI v]]) :
    CallsTo P p.pairset_filter [.d (pairsD l), .fn (.func f) [] [.ptr 0 0]] [.mem [AI v]] fun o H' => o = .ret (.own 2 ((l.filter keep).map Pair.row)) ∧ H' = [.mem [AI v]] := by
  refine A.pairset_filter.run rfl fun R hR => ?_
  (simp (config := { maxSteps := 1000000 }) [ic_pairset_filter, pairsD])
  refine AWio_mks0 (n := l.length) (by rfl) (by rfl) (by omega) (by omega) (by decide) (by rfl) ?_
  (simp (config := { maxSteps := 1000000 }) [])
  refine AW_loop (fun k : Nat => ⟨[(13, AI k), (12, AI l.length), (11, .d (.sl (l.map Pair.row))), (5, .own 2 (((l.take k).filter keep).map Pair.row)), (4, .nils), (1, .fn (.func f) [] [.ptr 0 0])], [.mem [AI v]]⟩) (fun k => k ≤ l.length) (fun k => l.length - k) 0 (by simp) (by simp only [List.take_zero, List.filter_nil, List.map_nil]; (refine Wk.of ?_ ?_ (by simp) <;> repeat' (first | exact True.intro | exact ⟨_, rfl, wkt_same rfl⟩ | exact ⟨_, rfl, wkt_erase rfl⟩ | exact ⟨_, rfl, .inl .nild⟩ | exact ⟨_, rfl, .inl .nile⟩ | exact ⟨_, rfl, wkt_nils⟩ | exact wkt_same rfl | exact wkt_erase rfl | exact .inl .nild | exact .inl .nile | exact wkt_nils | exact WkB.same rfl | exact WkB_rows | exact WkB_nil | exact .dead _ | refine WkB_cons ?_ ?_ | refine And.intro ?_ ?_))) ?_
  intro k hk N hN
  (simp (config := { maxSteps := 1000000 }) [])
  ((first | refine AW_cond_split _ (by rfl) (fun h2 => ?_) (fun h2 => ?_) | refine AWop_split _ (by rfl) (fun h2 => ?_) (fun h2 => ?_)) <;> (try simp only [decide_eq_true_eq, decide_eq_false_iff_not, Bool.not_eq_true', Bool.not_eq_false', Bool.and_eq_true, Bool.or_eq_true, beq_iff_eq, bne_iff_ne, ne_eq, beq_eq_false_iff_ne, bne_eq_false_iff_eq] at h2))
  · have hkl : k < l.length := by omega
    have hb : l[k]? = some l[k] := by simp
    have hw := wrap_succ (k := k) (by omega)
    have hs := filter_succ (f := keep) hkl
    have hl := List.length_filter_le keep (l.take k)
    rw [List.length_take] at hl
    obtain ⟨x, hx⟩ : ∃ x, x = l[k] := ⟨_, rfl⟩
    obtain ⟨F, hF⟩ : ∃ F, F = (l.take k).filter keep := ⟨_, rfl⟩
    have hN' := fun st' h => hN st' (k + 1) hkl h (by omega)
    rw [hs] at hN'
    rw [← hx, ← hF] at hN'
    rw [← hF] at hl ⊢
    rw [← hx] at hb
    (simp (config := { maxSteps := 1000000 }) [h2, hb, Pair.row])
    refine ⟨f, [], [.ptr 0 0], [.agg [AI l[k].v, AI l[k].l]], rfl, hok, rfl, ?_⟩
    refine AWcall_loc [0] (hf l[k]) (by decide) (by rfl) (by rfl) (by rfl) (by rfl) (by rfl) (by rfl) ?_
    rw [← hx]
    (simp (config := { maxSteps := 1000000 }) [])
    cases hkx : keep x with
    | true =>
      rw [hkx, if_pos rfl] at hN'
      (simp (config := { maxSteps := 1000000 }) [hkx])
      (refine AWio_app_own (by rfl) (by rfl) (by rfl) ?_ (by decide) ?_ ?_ ?_)
      · simp
      · simp; omega
      · simp; omega
      (simp (config := { maxSteps := 1000000 }) [hw])
      exact hN' _ (by simp [Pair.row]; (refine Wk.of ?_ ?_ (by simp) <;> repeat' (first | exact True.intro | exact ⟨_, rfl, wkt_same rfl⟩ | exact ⟨_, rfl, wkt_erase rfl⟩ | exact ⟨_, rfl, .inl .nild⟩ | exact ⟨_, rfl, .inl .nile⟩ | exact ⟨_, rfl, wkt_nils⟩ | exact wkt_same rfl | exact wkt_erase rfl | exact .inl .nild | exact .inl .nile | exact wkt_nils | exact WkB.same rfl | exact WkB_rows | exact WkB_nil | exact .dead _ | refine WkB_cons ?_ ?_ | refine And.intro ?_ ?_)))
    | false =>
      rw [hkx, if_neg (by simp)] at hN'
      (simp (config := { maxSteps := 1000000 }) [hkx, hw])
      exact hN' _ (by (refine Wk.of ?_ ?_ (by simp) <;> repeat' (first | exact True.intro | exact ⟨_, rfl, wkt_same rfl⟩ | exact ⟨_, rfl, wkt_erase rfl⟩ | exact ⟨_, rfl, .inl .nild⟩ | exact ⟨_, rfl, .inl .nile⟩ | exact ⟨_, rfl, wkt_nils⟩ | exact wkt_same rfl | exact wkt_erase rfl | exact .inl .nild | exact .inl .nile | exact wkt_nils | exact WkB.same rfl | exact WkB_rows | exact WkB_nil | exact .dead _ | refine WkB_cons ?_ ?_ | refine And.intro ?_ ?_)))
  · have hk' : k = l.length := by omega
    subst hk'
    (simp (config := { maxSteps := 1000000 }) [])
    exact hR _ _ (Fin_wk' _ (.own 2 ((l.filter keep).map Pair.row)) [.mem [AI v]] rfl (by (refine Wk.of ?_ ?_ (by simp) <;> repeat' (first | exact True.intro | exact ⟨_, rfl, wkt_same rfl⟩ | exact ⟨_, rfl, wkt_erase rfl⟩ | exact ⟨_, rfl, .inl .nild⟩ | exact ⟨_, rfl, .inl .nile⟩ | exact ⟨_, rfl, wkt_nils⟩ | exact wkt_same rfl | exact wkt_erase rfl | exact .inl .nild | exact .inl .nile | exact wkt_nils | exact WkB.same rfl | exact WkB_rows | exact WkB_nil | exact .dead _ | refine WkB_cons ?_ ?_ | refine And.intro ?_ ?_))) ⟨rfl, rfl⟩)
theorem pairset_DropV_own {P : Program} {p : Nums} (A : All P p) (l : List Pair) (v : Int) (h0 : l.length < 1000000) : CallsTo P p.pairset_DropV [.d (pairsD l), AI v] [] fun o H' => o = .ret (.own 2 ((l.filter fun x => x.v != v).map Pair.row)) ∧ H' = [] := by
  refine A.pairset_DropV.run rfl fun R hR => ?_
  (simp (config := { maxSteps := 1000000 }) [ic_pairset_DropV, pairsD])
  refine AWcall_loc [0] (pairset_filter_calls A l p.pairset_DropV_1 v (fun x => x.v != v) h0 A.pairset_DropV_1.ok fun x => pairset_DropV_1_calls A x v) (by decide) (by rfl) (by rfl) (by rfl) (by rfl) (by rfl) (by rfl) ?_
  (simp (config := { maxSteps := 1000000 }) [])
  exact hR _ _ (Fin_own _ _ rfl ⟨rfl, rfl⟩)
theorem pairset_DropL_own {P : Program} {p : Nums} (A : All P p) (l : List Pair) (v : Int) (h0 : l.length < 1000000) : CallsTo P p.pairset_DropL [.d (pairsD l), AI v] [] fun o H' => o = .ret (.own 2 ((l.filter fun x => x.l != v).map Pair.row)) ∧ H' = [] := by
  refine A.pairset_DropL.run rfl fun R hR => ?_
  (simp (config := { maxSteps := 1000000 }) [ic_pairset_DropL, pairsD])
  refine AWcall_loc [0] (pairset_filter_calls A l p.pairset_DropL_1 v (fun x => x.l != v) h0 A.pairset_DropL_1.ok fun x => pairset_DropL_1_calls A x v) (by decide) (by rfl) (by rfl) (by rfl) (by rfl) (by rfl) (by rfl) ?_
  (simp (config := { maxSteps := 1000000 }) [])
  exact hR _ _ (Fin_own _ _ rfl ⟨rfl, rfl⟩)
theorem pairset_DropV_calls {P : Program} {p : Nums} (A : All P p) (l : List Pair) (v : Int) (h0 : l.length < 1000000) : CallsTo P p.pairset_DropV [.d (pairsD l), AI v] [] fun o _ => o = .ret (.d (pairsD (l.filter fun x => x.v != v))) :=
  (pairset_DropV_own A l v h0).unown.mono fun _ _ h => h.1
theorem pairset_DropL_calls {P : Program} {p : Nums} (A : All P p) (l : List Pair) (v : Int) (h0 : l.length < 1000000) : CallsTo P p.pairset_DropL [.d (pairsD l), AI v] [] fun o _ => o = .ret (.d (pairsD (l.filter fun x => x.l != v))) :=
  (pairset_DropL_own A l v h0).unown.mono fun _ _ h => h.1
end
end Go.AE

/- What the effects of instructions on sets of pairs are, as lists. -/
set_option linter.unusedVariables false
namespace Go.AE
open Go
/-- The renamed versions of some pairs. -/
def renP (c : Pair → Bool) (f : Pair → Pair) (l : List Pair) : List Pair := (l.filter c).map f
theorem renP_succ {c : Pair → Bool} {f : Pair → Pair} {l : List Pair} {k : Nat} (h : k < l.length) : renP c f (l.take (k + 1)) = if c l[k] = true then renP c f (l.take k) ++ [f l[k]] else renP c f (l.take k) := by
  unfold renP
  rw [List.take_add_one, List.getElem?_eq_getElem h, List.filter_append, List.map_append]
  cases hf : c l[k] <;> simp [hf]
theorem renP_len (c : Pair → Bool) (f : Pair → Pair) (l : List Pair) : (renP c f l).length ≤ l.length := by
  unfold renP; rw [List.length_map]; exact List.length_filter_le _ _
theorem mem_renP {c : Pair → Bool} {f : Pair → Pair} {l : List Pair} {q : Pair} : q ∈ renP c f l ↔ ∃ p ∈ l, c p = true ∧ f p = q := by
  unfold renP; simp only [List.mem_map, List.mem_filter, and_assoc]
def copyP (l : List Pair) (d a : Int) : List Pair := if d = a then makeP l else mergeP (l.filter fun x => x.v != d) (makeP (renP (fun x => x.v == a) (fun x => ⟨d, x.l⟩) l))
def moveP (l : List Pair) (d a : Int) : List Pair := if d = a then makeP l else mergeP (l.filter fun x => x.l != d) (makeP (renP (fun x => x.l == a) (fun x => ⟨x.v, d⟩) l))
def defP (l : List Pair) (d t : Int) : List Pair := addP ((l.filter fun x => x.v != d).filter fun x => x.l != t) ⟨d, t⟩
theorem srt_filter {l : List Pair} {f : Pair → Bool} (h : Srt l) : Srt (l.filter f) := List.Pairwise.filter f h
theorem mergeP_len (a b : List Pair) : (mergeP a b).length ≤ a.length + b.length := by
  fun_induction mergeP a b <;> simp_all <;> omega
theorem srt_copyP {l : List Pair} {d a : Int} (h : Srt l) : Srt (copyP l d a) := by
  unfold copyP; split
  · exact srt_makeP _
  · exact srt_mergeP (srt_filter h) (srt_makeP _)
theorem srt_moveP {l : List Pair} {d a : Int} (h : Srt l) : Srt (moveP l d a) := by
  unfold moveP; split
  · exact srt_makeP _
  · exact srt_mergeP (srt_filter h) (srt_makeP _)
theorem srt_defP {l : List Pair} {d t : Int} (h : Srt l) : Srt (defP l d t) := srt_addP (srt_filter (srt_filter h))
theorem copyP_len (l : List Pair) (d a : Int) : (copyP l d a).length ≤ 2 * l.length := by
  unfold copyP; split
  · have := makeP_len l; omega
  · have h1 := mergeP_len (l.filter fun x => x.v != d) (makeP (renP (fun x => x.v == a) (fun x => ⟨d, x.l⟩) l))
    have h2 := List.length_filter_le (fun x : Pair => x.v != d) l
    have h3 := makeP_len (renP (fun x => x.v == a) (fun x => ⟨d, x.l⟩) l)
    have h4 := renP_len (fun x => x.v == a) (fun x => ⟨d, x.l⟩) l
    omega
theorem moveP_len (l : List Pair) (d a : Int) : (moveP l d a).length ≤ 2 * l.length := by
  unfold moveP; split
  · have := makeP_len l; omega
  · have h1 := mergeP_len (l.filter fun x => x.l != d) (makeP (renP (fun x => x.l == a) (fun x => ⟨x.v, d⟩) l))
    have h2 := List.length_filter_le (fun x : Pair => x.l != d) l
    have h3 := makeP_len (renP (fun x => x.l == a) (fun x => ⟨x.v, d⟩) l)
    have h4 := renP_len (fun x => x.l == a) (fun x => ⟨x.v, d⟩) l
    omega
theorem defP_len (l : List Pair) (d t : Int) : (defP l d t).length ≤ l.length + 1 := by
  unfold defP
  have h1 := addP_len1 ((l.filter fun x => x.v != d).filter fun x => x.l != t) ⟨d, t⟩
  have h2 := List.length_filter_le (fun x : Pair => x.l != t) (l.filter fun x => x.v != d)
  have h3 := List.length_filter_le (fun x : Pair => x.v != d) l
  omega
theorem mem_copyP {l : List Pair} {d a : Int} {q : Pair} : q ∈ copyP l d a ↔ (q ∈ l ∧ (d = a ∨ q.v ≠ d)) ∨ (q.v = d ∧ (⟨a, q.l⟩ : Pair) ∈ l) := by
  unfold copyP
  by_cases h : d = a
  · subst h
    rw [if_pos rfl, mem_makeP]
    constructor
    · intro hq; exact .inl ⟨hq, .inl rfl⟩
    · rintro (⟨hq, _⟩ | ⟨e, hq⟩)
      · exact hq
      · have : (⟨d, q.l⟩ : Pair) = q := eq_pair e.symm rfl
        rw [this] at hq; exact hq
  · rw [if_neg h, mem_mergeP, mem_makeP, mem_renP, List.mem_filter]
    constructor
    · rintro (⟨h1, h2⟩ | ⟨p, h1, h2, rfl⟩)
      · exact .inl ⟨h1, .inr (by simpa using h2)⟩
      · refine .inr ⟨rfl, ?_⟩
        have e : p.v = a := by simpa using h2
        have : (⟨a, p.l⟩ : Pair) = p := eq_pair e.symm rfl
        simpa [this] using h1
    · rintro (⟨h1, h2⟩ | ⟨h1, h2⟩)
      · exact .inl ⟨h1, by simpa using h2.resolve_left h⟩
      · exact .inr ⟨_, h2, by simp, eq_pair h1.symm rfl⟩
theorem mem_moveP {l : List Pair} {d a : Int} {q : Pair} : q ∈ moveP l d a ↔ (q ∈ l ∧ (d = a ∨ q.l ≠ d)) ∨ (q.l = d ∧ (⟨q.v, a⟩ : Pair) ∈ l) := by
  unfold moveP
  by_cases h : d = a
  · subst h
    rw [if_pos rfl, mem_makeP]
    constructor
    · intro hq; exact .inl ⟨hq, .inl rfl⟩
    · rintro (⟨hq, _⟩ | ⟨e, hq⟩)
      · exact hq
      · have : (⟨q.v, d⟩ : Pair) = q := eq_pair rfl e.symm
        rw [this] at hq; exact hq
  · rw [if_neg h, mem_mergeP, mem_makeP, mem_renP, List.mem_filter]
    constructor
    · rintro (⟨h1, h2⟩ | ⟨p, h1, h2, rfl⟩)
      · exact .inl ⟨h1, .inr (by simpa using h2)⟩
      · refine .inr ⟨rfl, ?_⟩
        have e : p.l = a := by simpa using h2
        have : (⟨p.v, a⟩ : Pair) = p := eq_pair rfl e.symm
        simpa [this] using h1
    · rintro (⟨h1, h2⟩ | ⟨h1, h2⟩)
      · exact .inl ⟨h1, by simpa using h2.resolve_left h⟩
      · exact .inr ⟨_, h2, by simp, eq_pair rfl h1.symm⟩
theorem mem_defP {l : List Pair} {d t : Int} {q : Pair} : q ∈ defP l d t ↔ q = ⟨d, t⟩ ∨ (q ∈ l ∧ q.v ≠ d ∧ q.l ≠ t) := by
  unfold defP
  rw [mem_addP, List.mem_filter, List.mem_filter]
  simp [and_assoc]
/-! The reference's. -/
def rcStep (d a : Int) (out : List Pair) (x : Pair) : List Pair :=
  if x.v = a then addP (if d = a ∨ x.v ≠ d then addP out x else out) ⟨d, x.l⟩ else (if d = a ∨ x.v ≠ d then addP out x else out)
theorem rcStep_tt {d a : Int} {out : List Pair} {x : Pair} (h3 : x.v = a) (h2 : d = a ∨ x.v ≠ d) : rcStep d a out x = addP (addP out x) ⟨d, x.l⟩ := by unfold rcStep; rw [if_pos h3, if_pos h2]
theorem rcStep_tf {d a : Int} {out : List Pair} {x : Pair} (h3 : x.v = a) (h2 : ¬ (d = a ∨ x.v ≠ d)) : rcStep d a out x = addP out ⟨d, x.l⟩ := by unfold rcStep; rw [if_pos h3, if_neg h2]
theorem rcStep_ft {d a : Int} {out : List Pair} {x : Pair} (h3 : ¬ x.v = a) (h2 : d = a ∨ x.v ≠ d) : rcStep d a out x = addP out x := by unfold rcStep; rw [if_neg h3, if_pos h2]
theorem rcStep_ff {d a : Int} {out : List Pair} {x : Pair} (h3 : ¬ x.v = a) (h2 : ¬ (d = a ∨ x.v ≠ d)) : rcStep d a out x = out := by unfold rcStep; rw [if_neg h3, if_neg h2]
def rcopyP (l : List Pair) (d a : Int) : List Pair := l.foldl (rcStep d a) []
def rmStep (d a : Int) (out : List Pair) (x : Pair) : List Pair :=
  if x.l = a then addP (if d = a ∨ x.l ≠ d then addP out x else out) ⟨x.v, d⟩ else (if d = a ∨ x.l ≠ d then addP out x else out)
theorem rmStep_tt {d a : Int} {out : List Pair} {x : Pair} (h3 : x.l = a) (h2 : d = a ∨ x.l ≠ d) : rmStep d a out x = addP (addP out x) ⟨x.v, d⟩ := by unfold rmStep; rw [if_pos h3, if_pos h2]
theorem rmStep_tf {d a : Int} {out : List Pair} {x : Pair} (h3 : x.l = a) (h2 : ¬ (d = a ∨ x.l ≠ d)) : rmStep d a out x = addP out ⟨x.v, d⟩ := by unfold rmStep; rw [if_pos h3, if_neg h2]
theorem rmStep_ft {d a : Int} {out : List Pair} {x : Pair} (h3 : ¬ x.l = a) (h2 : d = a ∨ x.l ≠ d) : rmStep d a out x = addP out x := by unfold rmStep; rw [if_neg h3, if_pos h2]
theorem rmStep_ff {d a : Int} {out : List Pair} {x : Pair} (h3 : ¬ x.l = a) (h2 : ¬ (d = a ∨ x.l ≠ d)) : rmStep d a out x = out := by unfold rmStep; rw [if_neg h3, if_neg h2]
def rmoveP (l : List Pair) (d a : Int) : List Pair := l.foldl (rmStep d a) []
def rdStep (d t : Int) (out : List Pair) (x : Pair) : List Pair := if x.v ≠ d ∧ x.l ≠ t then addP out x else out
def rdefP (l : List Pair) (d t : Int) : List Pair := l.foldl (rdStep d t) [⟨d, t⟩]
theorem foldl_succ {α β : Type} {f : β → α → β} {l : List α} {z : β} {k : Nat} (h : k < l.length) : (l.take (k + 1)).foldl f z = f ((l.take k).foldl f z) l[k] := by
  rw [List.take_add_one, List.getElem?_eq_getElem h, List.foldl_append]; rfl
theorem rcStep_len (d a : Int) (out : List Pair) (x : Pair) : (rcStep d a out x).length ≤ out.length + 2 := by
  have h1 := addP_len1 out x
  have h5 := addP_len1 (addP out x) ⟨d, x.l⟩
  have h6 := addP_len1 out ⟨d, x.l⟩
  by_cases h2 : d = a ∨ x.v ≠ d <;> by_cases h3 : x.v = a
  · rw [rcStep_tt h3 h2]; omega
  · rw [rcStep_ft h3 h2]; omega
  · rw [rcStep_tf h3 h2]; omega
  · rw [rcStep_ff h3 h2]; omega
theorem rmStep_len (d a : Int) (out : List Pair) (x : Pair) : (rmStep d a out x).length ≤ out.length + 2 := by
  have h1 := addP_len1 out x
  have h5 := addP_len1 (addP out x) ⟨x.v, d⟩
  have h6 := addP_len1 out ⟨x.v, d⟩
  by_cases h2 : d = a ∨ x.l ≠ d <;> by_cases h3 : x.l = a
  · rw [rmStep_tt h3 h2]; omega
  · rw [rmStep_ft h3 h2]; omega
  · rw [rmStep_tf h3 h2]; omega
  · rw [rmStep_ff h3 h2]; omega
theorem fold_len2 {f : List Pair → Pair → List Pair} (hf : ∀ o x, (f o x).length ≤ o.length + 2) (l z : List Pair) : (l.foldl f z).length ≤ z.length + 2 * l.length := by
  induction l generalizing z with
  | nil => simp
  | cons x l ih => have h1 := ih (f z x); have h2 := hf z x; simp only [List.foldl_cons, List.length_cons]; omega
theorem srt_fold {f : List Pair → Pair → List Pair} (hf : ∀ o x, Srt o → Srt (f o x)) (l z : List Pair) (hz : Srt z) : Srt (l.foldl f z) := by
  induction l generalizing z with
  | nil => exact hz
  | cons x l ih => exact ih _ (hf z x hz)
theorem mem_fold {f : List Pair → Pair → List Pair} {R : Pair → Pair → Prop} (hf : ∀ o x q, q ∈ f o x ↔ q ∈ o ∨ R x q) (l z : List Pair) (q : Pair) : q ∈ l.foldl f z ↔ q ∈ z ∨ ∃ x ∈ l, R x q := by
  induction l generalizing z with
  | nil => simp
  | cons x l ih => rw [List.foldl_cons, ih, hf]; simp [or_assoc]
theorem rcopyP_eq {l : List Pair} {d a : Int} (h : Srt l) : rcopyP l d a = copyP l d a := by
  refine srt_ext (srt_fold (fun o x ho => ?_) l [] List.Pairwise.nil) (srt_copyP h) fun q => ?_
  · have h1 := srt_addP (p := x) ho
    by_cases h2 : d = a ∨ x.v ≠ d <;> by_cases h3 : x.v = a
    · rw [rcStep_tt h3 h2]; exact srt_addP h1
    · rw [rcStep_ft h3 h2]; exact h1
    · rw [rcStep_tf h3 h2]; exact srt_addP ho
    · rw [rcStep_ff h3 h2]; exact ho
  · unfold rcopyP
    rw [mem_fold (R := fun x q => ((d = a ∨ x.v ≠ d) ∧ q = x) ∨ (x.v = a ∧ q = ⟨d, x.l⟩)) (fun o x q => ?_), mem_copyP]
    · simp only [List.not_mem_nil, false_or]
      constructor
      · rintro ⟨x, hx, ⟨h1, rfl⟩ | ⟨h1, rfl⟩⟩
        · exact .inl ⟨hx, h1⟩
        · exact .inr ⟨rfl, by rw [show (⟨a, x.l⟩ : Pair) = x from eq_pair h1.symm rfl]; exact hx⟩
      · rintro (⟨h1, h2⟩ | ⟨h1, h2⟩)
        · exact ⟨q, h1, .inl ⟨h2, rfl⟩⟩
        · exact ⟨_, h2, .inr ⟨rfl, eq_pair h1 rfl⟩⟩
    · by_cases h2 : d = a ∨ x.v ≠ d <;> by_cases h3 : x.v = a
      · rw [rcStep_tt h3 h2, mem_addP, mem_addP, eq_true h2, eq_true h3, true_and, true_and]
        constructor <;> rintro (h | h | h) <;> simp [h]
      · rw [rcStep_ft h3 h2, mem_addP, eq_true h2, eq_false h3, true_and, false_and, or_false, or_comm]
      · rw [rcStep_tf h3 h2, mem_addP, eq_false h2, eq_true h3, true_and, false_and, false_or, or_comm]
      · rw [rcStep_ff h3 h2, eq_false h2, eq_false h3, false_and, false_and, false_or, or_false]
theorem rmoveP_eq {l : List Pair} {d a : Int} (h : Srt l) : rmoveP l d a = moveP l d a := by
  refine srt_ext (srt_fold (fun o x ho => ?_) l [] List.Pairwise.nil) (srt_moveP h) fun q => ?_
  · have h1 := srt_addP (p := x) ho
    by_cases h2 : d = a ∨ x.l ≠ d <;> by_cases h3 : x.l = a
    · rw [rmStep_tt h3 h2]; exact srt_addP h1
    · rw [rmStep_ft h3 h2]; exact h1
    · rw [rmStep_tf h3 h2]; exact srt_addP ho
    · rw [rmStep_ff h3 h2]; exact ho
  · unfold rmoveP
    rw [mem_fold (R := fun x q => ((d = a ∨ x.l ≠ d) ∧ q = x) ∨ (x.l = a ∧ q = ⟨x.v, d⟩)) (fun o x q => ?_), mem_moveP]
    · simp only [List.not_mem_nil, false_or]
      constructor
      · rintro ⟨x, hx, ⟨h1, rfl⟩ | ⟨h1, rfl⟩⟩
        · exact .inl ⟨hx, h1⟩
        · exact .inr ⟨rfl, by rw [show (⟨x.v, a⟩ : Pair) = x from eq_pair rfl h1.symm]; exact hx⟩
      · rintro (⟨h1, h2⟩ | ⟨h1, h2⟩)
        · exact ⟨q, h1, .inl ⟨h2, rfl⟩⟩
        · exact ⟨_, h2, .inr ⟨rfl, eq_pair rfl h1⟩⟩
    · by_cases h2 : d = a ∨ x.l ≠ d <;> by_cases h3 : x.l = a
      · rw [rmStep_tt h3 h2, mem_addP, mem_addP, eq_true h2, eq_true h3, true_and, true_and]
        constructor <;> rintro (h | h | h) <;> simp [h]
      · rw [rmStep_ft h3 h2, mem_addP, eq_true h2, eq_false h3, true_and, false_and, or_false, or_comm]
      · rw [rmStep_tf h3 h2, mem_addP, eq_false h2, eq_true h3, true_and, false_and, false_or, or_comm]
      · rw [rmStep_ff h3 h2, eq_false h2, eq_false h3, false_and, false_and, false_or, or_false]
theorem rdefP_eq {l : List Pair} {d t : Int} (h : Srt l) : rdefP l d t = defP l d t := by
  refine srt_ext (srt_fold (fun o x ho => ?_) l _ (List.pairwise_singleton _ _)) (srt_defP h) fun q => ?_
  · unfold rdStep; split
    · exact srt_addP ho
    · exact ho
  · unfold rdefP
    rw [mem_fold (R := fun x q => (x.v ≠ d ∧ x.l ≠ t) ∧ q = x) (fun o x q => ?_), mem_defP, List.mem_singleton]
    · constructor
      · rintro (h1 | ⟨x, hx, h1, rfl⟩)
        · exact .inl h1
        · exact .inr ⟨hx, h1⟩
      · rintro (h1 | ⟨h1, h2⟩)
        · exact .inl h1
        · exact .inr ⟨q, h1, h2, rfl⟩
    · unfold rdStep
      by_cases h2 : x.v ≠ d ∧ x.l ≠ t <;> simp only [h2, if_true, if_false, mem_addP, true_and, false_and, or_false, and_self, not_false_eq_true, ne_eq]
      constructor <;> (intro hh; rcases hh with hh | hh <;> simp_all)
end Go.AE

/- The effects of instructions on sets of pairs: the renaming, copies, moves, definitions. -/
set_option linter.unusedVariables false
namespace Go.AE
open Go
/-- What is asked of the two closures. -/
structure ClosOk (P : Program) (p : Nums) : Prop where
  ok1 : okFn P p.transfer_Copy_1 = true
  ok2 : okFn P p.transfer_Move_1 = true
  copy : ∀ (x : Pair) (d a : Int), CallsTo P p.transfer_Copy_1 [x.av, .ptr 0 0, .ptr 1 0] [.mem [AI d], .mem [AI a]] fun o H' => o = .ret (.tup [(⟨d, x.l⟩ : Pair).av, AB (x.v == a)]) ∧ H' = [.mem [AI d], .mem [AI a]]
  move : ∀ (x : Pair) (d a : Int), CallsTo P p.transfer_Move_1 [x.av, .ptr 0 0, .ptr 1 0] [.mem [AI d], .mem [AI a]] fun o H' => o = .ret (.tup [(⟨x.v, d⟩ : Pair).av, AB (x.l == a)]) ∧ H' = [.mem [AI d], .mem [AI a]]
section
theorem transfer_rename_own {P : Program} {p : Nums} (A : All P p) (S : SortOk P p) (kept l : List Pair) (f : Nat) (d a : Int) (c : Pair → Bool) (g : Pair → Pair) (h0 : kept.length < 100000) (h1 : l.length < 100000) (hok : okFn P f = true)
    (hf : ∀ x : Pair, CallsTo P f [x.av, .ptr 0 0, .ptr 1 0] [.mem [AI d], .mem [AI a]] fun o H' => o = .ret (.tup [(g x).av, AB (c x)]) ∧ H' = [.mem [AI d], .mem [AI a]]) :
    CallsTo P p.transfer_rename [.d (pairsD kept), .d (pairsD l), .fn (.func f) [] [.ptr 0 0, .ptr 1 0]] [.mem [AI d], .mem [AI a]] fun o H' => o = .ret (.own 2 ((mergeP kept (makeP (renP c g l))).map Pair.row)) ∧ H' = [.mem [AI d], .mem [AI a]] := by
  refine A.transfer_rename.run rfl fun R hR => ?_
  (simp (config := { maxSteps := 1000000 }) [ic_transfer_rename, pairsD])
  refine AW_loop (fun k : Nat => ⟨[(14, AI k), (13, AI l.length), (12, .d (.sl (l.map Pair.row))), (7, .own 2 ((renP c g (l.take k)).map Pair.row)), (6, .nils), (2, .fn (.func f) [] [.ptr 0 0, .ptr 1 0]), (0, .d (.sl (kept.map Pair.row)))], [.mem [AI d], .mem [AI a]]⟩) (fun k => k ≤ l.length) (fun k => l.length - k) 0 (by simp) (by simp only [List.take_zero, renP, List.filter_nil, List.map_nil]; (refine Wk.of ?_ ?_ (by simp) <;> repeat' (first | exact True.intro | exact ⟨_, rfl, wkt_same rfl⟩ | exact ⟨_, rfl, wkt_erase rfl⟩ | exact ⟨_, rfl, .inl .nild⟩ | exact ⟨_, rfl, .inl .nile⟩ | exact ⟨_, rfl, wkt_nils⟩ | exact wkt_same rfl | exact wkt_erase rfl | exact .inl .nild | exact .inl .nile | exact wkt_nils | exact WkB.same rfl | exact WkB_rows | exact WkB_nil | exact .dead _ | refine WkB_cons ?_ ?_ | refine And.intro ?_ ?_))) ?_
  intro k hk N hN
  (simp (config := { maxSteps := 1000000 }) [])
  ((first | refine AW_cond_split _ (by rfl) (fun h2 => ?_) (fun h2 => ?_) | refine AWop_split _ (by rfl) (fun h2 => ?_) (fun h2 => ?_)) <;> (try simp only [decide_eq_true_eq, decide_eq_false_iff_not, Bool.not_eq_true', Bool.not_eq_false', Bool.and_eq_true, Bool.or_eq_true, beq_iff_eq, bne_iff_ne, ne_eq, beq_eq_false_iff_ne, bne_eq_false_iff_eq] at h2))
  · have hkl : k < l.length := by omega
    have hb : l[k]? = some l[k] := by simp
    have hw := wrap_succ (k := k) (by omega)
    have hs := renP_succ (c := c) (f := g) hkl
    have hl := renP_len c g (l.take k)
    rw [List.length_take] at hl
    obtain ⟨x, hx⟩ : ∃ x, x = l[k] := ⟨_, rfl⟩
    obtain ⟨F, hF⟩ : ∃ F, F = renP c g (l.take k) := ⟨_, rfl⟩
    have hN' := fun st' h => hN st' (k + 1) hkl h (by omega)
    rw [hs] at hN'
    rw [← hx, ← hF] at hN'
    rw [← hF] at hl ⊢
    rw [← hx] at hb
    (simp (config := { maxSteps := 1000000 }) [h2, hb, Pair.row])
    refine ⟨f, [], [.ptr 0 0, .ptr 1 0], [.agg [AI l[k].v, AI l[k].l]], rfl, hok, rfl, ?_⟩
    refine AWcall_loc [0, 1] (hf l[k]) (by decide) (by rfl) (by rfl) (by rfl) (by rfl) (by rfl) (by rfl) ?_
    rw [← hx]
    obtain ⟨y, hy⟩ : ∃ y, y = g x := ⟨_, rfl⟩
    rw [← hy] at hN' ⊢
    (simp (config := { maxSteps := 1000000 }) [Pair.av])
    cases hkx : c x with
    | true =>
      rw [hkx, if_pos rfl] at hN'
      (simp (config := { maxSteps := 1000000 }) [hkx, Pair.av])
      (refine AWio_app_own (by rfl) (by rfl) (by rfl) ?_ (by decide) ?_ ?_ ?_)
      · simp
      · simp; omega
      · simp; omega
      (simp (config := { maxSteps := 1000000 }) [hw])
      exact hN' _ (by simp [Pair.row]; (refine Wk.of ?_ ?_ (by simp) <;> repeat' (first | exact True.intro | exact ⟨_, rfl, wkt_same rfl⟩ | exact ⟨_, rfl, wkt_erase rfl⟩ | exact ⟨_, rfl, .inl .nild⟩ | exact ⟨_, rfl, .inl .nile⟩ | exact ⟨_, rfl, wkt_nils⟩ | exact wkt_same rfl | exact wkt_erase rfl | exact .inl .nild | exact .inl .nile | exact wkt_nils | exact WkB.same rfl | exact WkB_rows | exact WkB_nil | exact .dead _ | refine WkB_cons ?_ ?_ | refine And.intro ?_ ?_)))
    | false =>
      rw [hkx, if_neg (by simp)] at hN'
      (simp (config := { maxSteps := 1000000 }) [hkx, hw])
      exact hN' _ (by (refine Wk.of ?_ ?_ (by simp) <;> repeat' (first | exact True.intro | exact ⟨_, rfl, wkt_same rfl⟩ | exact ⟨_, rfl, wkt_erase rfl⟩ | exact ⟨_, rfl, .inl .nild⟩ | exact ⟨_, rfl, .inl .nile⟩ | exact ⟨_, rfl, wkt_nils⟩ | exact wkt_same rfl | exact wkt_erase rfl | exact .inl .nild | exact .inl .nile | exact wkt_nils | exact WkB.same rfl | exact WkB_rows | exact WkB_nil | exact .dead _ | refine WkB_cons ?_ ?_ | refine And.intro ?_ ?_)))
  · have hk' : k = l.length := by omega
    subst hk'
    have hl := renP_len c g l
    have hm := makeP_len (renP c g l)
    have hmk := pairset_Make_calls A S (renP c g l) (by omega)
    have hun := (pairset_Union_own A kept (makeP (renP c g l)) (by omega) (by omega)).mono fun _ _ h => h.1
    obtain ⟨G, hG⟩ : ∃ G, G = renP c g l := ⟨_, rfl⟩
    obtain ⟨M, hM⟩ : ∃ M, M = makeP (renP c g l) := ⟨_, rfl⟩
    rw [← hM, ← hG] at hmk
    rw [← hM] at hun
    simp only [List.take_length]
    rw [← hG]
    (simp (config := { maxSteps := 1000000 }) [])
    (refine AWcall_det hmk (by rfl) (by rfl) ?_)
    (simp (config := { maxSteps := 1000000 }) [pairsD])
    (refine AWcall_det hun (by rfl) (by rfl) ?_)
    (simp (config := { maxSteps := 1000000 }) [])
    exact hR _ _ (Fin_wk' _ (.own 2 ((mergeP kept M).map Pair.row)) [.mem [AI d], .mem [AI a]] rfl (by (refine Wk.of ?_ ?_ (by simp) <;> repeat' (first | exact True.intro | exact ⟨_, rfl, wkt_same rfl⟩ | exact ⟨_, rfl, wkt_erase rfl⟩ | exact ⟨_, rfl, .inl .nild⟩ | exact ⟨_, rfl, .inl .nile⟩ | exact ⟨_, rfl, wkt_nils⟩ | exact wkt_same rfl | exact wkt_erase rfl | exact .inl .nild | exact .inl .nile | exact wkt_nils | exact WkB.same rfl | exact WkB_rows | exact WkB_nil | exact .dead _ | refine WkB_cons ?_ ?_ | refine And.intro ?_ ?_))) ⟨by rw [hM], rfl⟩)
theorem transfer_Copy_own {P : Program} {p : Nums} (A : All P p) (S : SortOk P p) (C : ClosOk P p) (l : List Pair) (d a : Int) (h0 : l.length < 100000) (hne : d ≠ a) : CallsTo P p.transfer_Copy [.d (pairsD l), AI d, AI a] [] fun o H' => o = .ret (.own 2 ((copyP l d a).map Pair.row)) ∧ H' = [] := by
  refine A.transfer_Copy.run rfl fun R hR => ?_
  (simp (config := { maxSteps := 1000000 }) [ic_transfer_Copy, pairsD, hne])
  (refine AWcall_det (pairset_DropV_calls A l d (by omega)) (by rfl) (by rfl) ?_)
  have hl := List.length_filter_le (fun x : Pair => x.v != d) l
  have hrn := transfer_rename_own A S (l.filter fun x => x.v != d) l p.transfer_Copy_1 d a (fun x => x.v == a) (fun x => ⟨d, x.l⟩) (by omega) h0 C.ok1 fun x => C.copy x d a
  have hc : copyP l d a = mergeP (l.filter fun x => x.v != d) (makeP (renP (fun x => x.v == a) (fun x => ⟨d, x.l⟩) l)) := by unfold copyP; rw [if_neg hne]
  rw [← hc] at hrn
  obtain ⟨K, hK⟩ : ∃ K, K = l.filter fun x => x.v != d := ⟨_, rfl⟩
  rw [← hK] at hrn ⊢
  (simp (config := { maxSteps := 1000000 }) [pairsD])
  refine AWcall_loc [0, 1] hrn (by decide) (by rfl) (by rfl) (by rfl) (by rfl) (by rfl) (by rfl) ?_
  (simp (config := { maxSteps := 1000000 }) [])
  exact hR _ _ (Fin_own _ _ rfl ⟨rfl, rfl⟩)
theorem transfer_Copy_calls {P : Program} {p : Nums} (A : All P p) (S : SortOk P p) (C : ClosOk P p) (l : List Pair) (d a : Int) (h0 : l.length < 100000) : CallsTo P p.transfer_Copy [.d (pairsD l), AI d, AI a] [] fun o _ => o = .ret (.d (pairsD (copyP l d a))) := by
  by_cases hne : d = a
  · refine A.transfer_Copy.run rfl fun R hR => ?_
    subst hne
    (simp (config := { maxSteps := 1000000 }) [ic_transfer_Copy, pairsD])
    have hc : copyP l d d = makeP l := by unfold copyP; rw [if_pos rfl]
    have hmk := pairset_Make_calls A S l (by omega)
    rw [← hc] at hmk
    (refine AWcall_det hmk (by rfl) (by rfl) ?_)
    (simp (config := { maxSteps := 1000000 }) [pairsD])
    (first | exact hR _ _ (Fin_ret _ rfl rfl rfl) | exact hR _ _ (Fin_normal _ rfl rfl rfl) | exact hR _ _ (Fin_ret _ rfl rfl (by simp [AV.erase, AV.unview, pairsD]; done)) | exact hR _ _ (Fin_normal _ rfl rfl (by simp [AV.erase, AV.unview, pairsD]; done)) | fail "no end")
  · exact (transfer_Copy_own A S C l d a h0 hne).unown.mono fun _ _ h => h.1
theorem transfer_Move_own {P : Program} {p : Nums} (A : All P p) (S : SortOk P p) (C : ClosOk P p) (l : List Pair) (d a : Int) (h0 : l.length < 100000) (hne : d ≠ a) : CallsTo P p.transfer_Move [.d (pairsD l), AI d, AI a] [] fun o H' => o = .ret (.own 2 ((moveP l d a).map Pair.row)) ∧ H' = [] := by
  refine A.transfer_Move.run rfl fun R hR => ?_
  (simp (config := { maxSteps := 1000000 }) [ic_transfer_Move, pairsD, hne])
  (refine AWcall_det (pairset_DropL_calls A l d (by omega)) (by rfl) (by rfl) ?_)
  have hl := List.length_filter_le (fun x : Pair => x.l != d) l
  have hrn := transfer_rename_own A S (l.filter fun x => x.l != d) l p.transfer_Move_1 d a (fun x => x.l == a) (fun x => ⟨x.v, d⟩) (by omega) h0 C.ok2 fun x => C.move x d a
  have hc : moveP l d a = mergeP (l.filter fun x => x.l != d) (makeP (renP (fun x => x.l == a) (fun x => ⟨x.v, d⟩) l)) := by unfold moveP; rw [if_neg hne]
  rw [← hc] at hrn
  obtain ⟨K, hK⟩ : ∃ K, K = l.filter fun x => x.l != d := ⟨_, rfl⟩
  rw [← hK] at hrn ⊢
  (simp (config := { maxSteps := 1000000 }) [pairsD])
  refine AWcall_loc [0, 1] hrn (by decide) (by rfl) (by rfl) (by rfl) (by rfl) (by rfl) (by rfl) ?_
  (simp (config := { maxSteps := 1000000 }) [])
  exact hR _ _ (Fin_own _ _ rfl ⟨rfl, rfl⟩)
theorem transfer_Move_calls {P : Program} {p : Nums} (A : All P p) (S : SortOk P p) (C : ClosOk P p) (l : List Pair) (d a : Int) (h0 : l.length < 100000) : CallsTo P p.transfer_Move [.d (pairsD l), AI d, AI a] [] fun o _ => o = .ret (.d (pairsD (moveP l d a))) := by
  by_cases hne : d = a
  · refine A.transfer_Move.run rfl fun R hR => ?_
    subst hne
    (simp (config := { maxSteps := 1000000 }) [ic_transfer_Move, pairsD])
    have hc : moveP l d d = makeP l := by unfold moveP; rw [if_pos rfl]
    have hmk := pairset_Make_calls A S l (by omega)
    rw [← hc] at hmk
    (refine AWcall_det hmk (by rfl) (by rfl) ?_)
    (simp (config := { maxSteps := 1000000 }) [pairsD])
    (first | exact hR _ _ (Fin_ret _ rfl rfl rfl) | exact hR _ _ (Fin_normal _ rfl rfl rfl) | exact hR _ _ (Fin_ret _ rfl rfl (by simp [AV.erase, AV.unview, pairsD]; done)) | exact hR _ _ (Fin_normal _ rfl rfl (by simp [AV.erase, AV.unview, pairsD]; done)) | fail "no end")
  · exact (transfer_Move_own A S C l d a h0 hne).unown.mono fun _ _ h => h.1
theorem transfer_Define_own {P : Program} {p : Nums} (A : All P p) (S : SortOk P p) (l : List Pair) (d t : Int) (h0 : l.length < 100000) (hs : Srt l) : CallsTo P p.transfer_Define [.d (pairsD l), AI d, AI t] [] fun o H' => o = .ret (.own 2 ((defP l d t).map Pair.row)) ∧ H' = [] := by
  refine A.transfer_Define.run rfl fun R hR => ?_
  (simp (config := { maxSteps := 1000000 }) [ic_transfer_Define, pairsD])
  (refine AWcall_det (pairset_DropV_calls A l d (by omega)) (by rfl) (by rfl) ?_)
  have hl := List.length_filter_le (fun x : Pair => x.v != d) l
  have hl2 := List.length_filter_le (fun x : Pair => x.l != t) (l.filter fun x : Pair => x.v != d)
  have h2 := pairset_DropL_calls A (l.filter fun x : Pair => x.v != d) t (by omega)
  have h3 := (pairset_Add_own A ((l.filter fun x => x.v != d).filter fun x => x.l != t) ⟨d, t⟩ (by omega) (srt_filter (srt_filter hs))).mono fun _ _ h => h.1
  have hc : addP ((l.filter fun x => x.v != d).filter fun x => x.l != t) ⟨d, t⟩ = defP l d t := rfl
  rw [hc] at h3
  obtain ⟨K, hK⟩ : ∃ K, K = l.filter fun x : Pair => x.v != d := ⟨_, rfl⟩
  rw [← hK] at h2 h3 ⊢
  obtain ⟨K2, hK2⟩ : ∃ K2, K2 = K.filter fun x : Pair => x.l != t := ⟨_, rfl⟩
  rw [← hK2] at h2 h3
  (simp (config := { maxSteps := 1000000 }) [pairsD])
  (refine AWcall_det h2 (by rfl) (by rfl) ?_)
  (simp (config := { maxSteps := 1000000 }) [pairsD])
  (refine AWcall_det h3 (by rfl) (by rfl) ?_)
  (simp (config := { maxSteps := 1000000 }) [])
  exact hR _ _ (Fin_own _ _ rfl ⟨rfl, rfl⟩)
theorem transfer_Define_calls {P : Program} {p : Nums} (A : All P p) (S : SortOk P p) (l : List Pair) (d t : Int) (h0 : l.length < 100000) (hs : Srt l) : CallsTo P p.transfer_Define [.d (pairsD l), AI d, AI t] [] fun o _ => o = .ret (.d (pairsD (defP l d t))) :=
  (transfer_Define_own A S l d t h0 hs).unown.mono fun _ _ h => h.1
end
end Go.AE

/- The reference's effects of instructions on sets of pairs. -/
set_option linter.unusedVariables false
namespace Go.AE
open Go
theorem rdStep_len (d t : Int) (out : List Pair) (x : Pair) : (rdStep d t out x).length ≤ out.length + 2 := by
  have := addP_len1 out x
  unfold rdStep; split <;> omega
section
theorem ref12_Copy_calls {P : Program} {p : Nums} (A : All P p) (l : List Pair) (d a : Int) (h0 : l.length < 100000) : CallsTo P p.ref12_Copy [.d (pairsD l), AI d, AI a] [] fun o _ => o = .ret (.d (pairsD (rcopyP l d a))) := by
  refine A.ref12_Copy.run rfl fun R hR => ?_
  (simp (config := { maxSteps := 1000000 }) [ic_ref12_Copy, pairsD])
  refine AW_loop (fun k : Nat => ⟨[(8, AI k), (7, .d (.sl ((rcopyP (l.take k) d a).map Pair.row))), (6, .nils), (2, AI a), (1, AI d), (0, .d (.sl (l.map Pair.row)))], []⟩) (fun k => k ≤ l.length) (fun k => l.length - k) 0 (by simp) (by simp only [List.take_zero, rcopyP, List.foldl_nil, List.map_nil]; (refine Wk.of ?_ ?_ (by simp) <;> repeat' (first | exact True.intro | exact ⟨_, rfl, wkt_same rfl⟩ | exact ⟨_, rfl, wkt_erase rfl⟩ | exact ⟨_, rfl, .inl .nild⟩ | exact ⟨_, rfl, .inl .nile⟩ | exact ⟨_, rfl, wkt_nils⟩ | exact wkt_same rfl | exact wkt_erase rfl | exact .inl .nild | exact .inl .nile | exact wkt_nils | exact WkB.same rfl | exact WkB_rows | exact WkB_nil | exact .dead _ | refine WkB_cons ?_ ?_ | refine And.intro ?_ ?_))) ?_
  intro k hk N hN
  (simp (config := { maxSteps := 1000000 }) [])
  ((first | refine AW_cond_split _ (by rfl) (fun h2 => ?_) (fun h2 => ?_) | refine AWop_split _ (by rfl) (fun h2 => ?_) (fun h2 => ?_)) <;> (try simp only [decide_eq_true_eq, decide_eq_false_iff_not, Bool.not_eq_true', Bool.not_eq_false', Bool.and_eq_true, Bool.or_eq_true, beq_iff_eq, bne_iff_ne, ne_eq, beq_eq_false_iff_ne, bne_eq_false_iff_eq] at h2))
  · have hkl : k < l.length := by simpa using h2
    have hb : l[k]? = some l[k] := by simp
    have hw := wrap_succ (k := k) (by omega)
    have hs : rcopyP (l.take (k + 1)) d a = rcStep d a (rcopyP (l.take k) d a) l[k] := foldl_succ hkl
    have hl : (rcopyP (l.take k) d a).length ≤ 2 * l.length := by
      have := fold_len2 (rcStep_len d a) (l.take k) []; simp only [List.length_take, List.length_nil] at this; unfold rcopyP; omega
    have hN' := fun st' h => hN st' (k + 1) hkl h (by omega)
    rw [hs] at hN'
    obtain ⟨F, hF⟩ : ∃ F, F = rcopyP (l.take k) d a := ⟨_, rfl⟩
    rw [← hF] at hN' hl ⊢
    have hF1 := addP_len1 F l[k]
    by_cases e1 : d = a
    · subst e1
      (simp (config := { maxSteps := 1000000 }) [h2, hb, Pair.row])
      (refine AWcall_det (ref11_Add_calls A F l[k] (by omega)) (by rfl) (by rfl) ?_)
      (simp (config := { maxSteps := 1000000 }) [pairsD, hb, Pair.row])
      by_cases h3 : l[k].v = d
      · rw [rcStep_tt h3 (.inl rfl)] at hN'
        (simp (config := { maxSteps := 1000000 }) [h3, hb, Pair.row])
        (refine AWcall_det (ref11_Add_calls A (addP F l[k]) ⟨d, l[k].l⟩ (by omega)) (by rfl) (by rfl) ?_)
        (simp (config := { maxSteps := 1000000 }) [pairsD, hw])
        exact hN' _ (by (refine Wk.of ?_ ?_ (by simp) <;> repeat' (first | exact True.intro | exact ⟨_, rfl, wkt_same rfl⟩ | exact ⟨_, rfl, wkt_erase rfl⟩ | exact ⟨_, rfl, .inl .nild⟩ | exact ⟨_, rfl, .inl .nile⟩ | exact ⟨_, rfl, wkt_nils⟩ | exact wkt_same rfl | exact wkt_erase rfl | exact .inl .nild | exact .inl .nile | exact wkt_nils | exact WkB.same rfl | exact WkB_rows | exact WkB_nil | exact .dead _ | refine WkB_cons ?_ ?_ | refine And.intro ?_ ?_)))
      · rw [rcStep_ft h3 (.inl rfl)] at hN'
        (simp (config := { maxSteps := 1000000 }) [h3, hw])
        exact hN' _ (by (refine Wk.of ?_ ?_ (by simp) <;> repeat' (first | exact True.intro | exact ⟨_, rfl, wkt_same rfl⟩ | exact ⟨_, rfl, wkt_erase rfl⟩ | exact ⟨_, rfl, .inl .nild⟩ | exact ⟨_, rfl, .inl .nile⟩ | exact ⟨_, rfl, wkt_nils⟩ | exact wkt_same rfl | exact wkt_erase rfl | exact .inl .nild | exact .inl .nile | exact wkt_nils | exact WkB.same rfl | exact WkB_rows | exact WkB_nil | exact .dead _ | refine WkB_cons ?_ ?_ | refine And.intro ?_ ?_)))
    · by_cases h4 : l[k].v = d
      · have h3 : ¬ l[k].v = a := fun h => e1 (h4.symm.trans h)
        have h5 : ¬ (d = a ∨ l[k].v ≠ d) := by rintro (h | h); exact e1 h; exact h h4
        rw [rcStep_ff h3 h5] at hN'
        (simp (config := { maxSteps := 1000000 }) [h2, e1, h4, h3, hb, Pair.row, hw])
        exact hN' _ (by (refine Wk.of ?_ ?_ (by simp) <;> repeat' (first | exact True.intro | exact ⟨_, rfl, wkt_same rfl⟩ | exact ⟨_, rfl, wkt_erase rfl⟩ | exact ⟨_, rfl, .inl .nild⟩ | exact ⟨_, rfl, .inl .nile⟩ | exact ⟨_, rfl, wkt_nils⟩ | exact wkt_same rfl | exact wkt_erase rfl | exact .inl .nild | exact .inl .nile | exact wkt_nils | exact WkB.same rfl | exact WkB_rows | exact WkB_nil | exact .dead _ | refine WkB_cons ?_ ?_ | refine And.intro ?_ ?_)))
      · have h5 : d = a ∨ l[k].v ≠ d := .inr h4
        (simp (config := { maxSteps := 1000000 }) [h2, e1, h4, hb, Pair.row])
        (refine AWcall_det (ref11_Add_calls A F l[k] (by omega)) (by rfl) (by rfl) ?_)
        (simp (config := { maxSteps := 1000000 }) [pairsD, hb, Pair.row])
        by_cases h3 : l[k].v = a
        · rw [rcStep_tt h3 h5] at hN'
          (simp (config := { maxSteps := 1000000 }) [h3, hb, Pair.row])
          (refine AWcall_det (ref11_Add_calls A (addP F l[k]) ⟨d, l[k].l⟩ (by omega)) (by rfl) (by rfl) ?_)
          (simp (config := { maxSteps := 1000000 }) [pairsD, hw])
          exact hN' _ (by (refine Wk.of ?_ ?_ (by simp) <;> repeat' (first | exact True.intro | exact ⟨_, rfl, wkt_same rfl⟩ | exact ⟨_, rfl, wkt_erase rfl⟩ | exact ⟨_, rfl, .inl .nild⟩ | exact ⟨_, rfl, .inl .nile⟩ | exact ⟨_, rfl, wkt_nils⟩ | exact wkt_same rfl | exact wkt_erase rfl | exact .inl .nild | exact .inl .nile | exact wkt_nils | exact WkB.same rfl | exact WkB_rows | exact WkB_nil | exact .dead _ | refine WkB_cons ?_ ?_ | refine And.intro ?_ ?_)))
        · rw [rcStep_ft h3 h5] at hN'
          (simp (config := { maxSteps := 1000000 }) [h3, hw])
          exact hN' _ (by (refine Wk.of ?_ ?_ (by simp) <;> repeat' (first | exact True.intro | exact ⟨_, rfl, wkt_same rfl⟩ | exact ⟨_, rfl, wkt_erase rfl⟩ | exact ⟨_, rfl, .inl .nild⟩ | exact ⟨_, rfl, .inl .nile⟩ | exact ⟨_, rfl, wkt_nils⟩ | exact wkt_same rfl | exact wkt_erase rfl | exact .inl .nild | exact .inl .nile | exact wkt_nils | exact WkB.same rfl | exact WkB_rows | exact WkB_nil | exact .dead _ | refine WkB_cons ?_ ?_ | refine And.intro ?_ ?_)))
  · have hk' : k = l.length := by simp at h2; omega
    subst hk'
    (simp (config := { maxSteps := 1000000 }) [])
    (first | exact hR _ _ (Fin_ret _ rfl rfl rfl) | exact hR _ _ (Fin_normal _ rfl rfl rfl) | exact hR _ _ (Fin_ret _ rfl rfl (by simp [AV.erase, AV.unview, List.take_length, pairsD]; done)) | exact hR _ _ (Fin_normal _ rfl rfl (by simp [AV.erase, AV.unview, List.take_length, pairsD]; done)) | fail "no end")

theorem ref12_Move_calls {P : Program} {p : Nums} (A : All P p) (l : List Pair) (d a : Int) (h0 : l.length < 100000) : CallsTo P p.ref12_Move [.d (pairsD l), AI d, AI a] [] fun o _ => o = .ret (.d (pairsD (rmoveP l d a))) := by
  refine A.ref12_Move.run rfl fun R hR => ?_
  (simp (config := { maxSteps := 1000000 }) [ic_ref12_Move, pairsD])
  refine AW_loop (fun k : Nat => ⟨[(8, AI k), (7, .d (.sl ((rmoveP (l.take k) d a).map Pair.row))), (6, .nils), (2, AI a), (1, AI d), (0, .d (.sl (l.map Pair.row)))], []⟩) (fun k => k ≤ l.length) (fun k => l.length - k) 0 (by simp) (by simp only [List.take_zero, rmoveP, List.foldl_nil, List.map_nil]; (refine Wk.of ?_ ?_ (by simp) <;> repeat' (first | exact True.intro | exact ⟨_, rfl, wkt_same rfl⟩ | exact ⟨_, rfl, wkt_erase rfl⟩ | exact ⟨_, rfl, .inl .nild⟩ | exact ⟨_, rfl, .inl .nile⟩ | exact ⟨_, rfl, wkt_nils⟩ | exact wkt_same rfl | exact wkt_erase rfl | exact .inl .nild | exact .inl .nile | exact wkt_nils | exact WkB.same rfl | exact WkB_rows | exact WkB_nil | exact .dead _ | refine WkB_cons ?_ ?_ | refine And.intro ?_ ?_))) ?_
  intro k hk N hN
  (simp (config := { maxSteps := 1000000 }) [])
  ((first | refine AW_cond_split _ (by rfl) (fun h2 => ?_) (fun h2 => ?_) | refine AWop_split _ (by rfl) (fun h2 => ?_) (fun h2 => ?_)) <;> (try simp only [decide_eq_true_eq, decide_eq_false_iff_not, Bool.not_eq_true', Bool.not_eq_false', Bool.and_eq_true, Bool.or_eq_true, beq_iff_eq, bne_iff_ne, ne_eq, beq_eq_false_iff_ne, bne_eq_false_iff_eq] at h2))
  · have hkl : k < l.length := by simpa using h2
    have hb : l[k]? = some l[k] := by simp
    have hw := wrap_succ (k := k) (by omega)
    have hs : rmoveP (l.take (k + 1)) d a = rmStep d a (rmoveP (l.take k) d a) l[k] := foldl_succ hkl
    have hl : (rmoveP (l.take k) d a).length ≤ 2 * l.length := by
      have := fold_len2 (rmStep_len d a) (l.take k) []; simp only [List.length_take, List.length_nil] at this; unfold rmoveP; omega
    have hN' := fun st' h => hN st' (k + 1) hkl h (by omega)
    rw [hs] at hN'
    obtain ⟨F, hF⟩ : ∃ F, F = rmoveP (l.take k) d a := ⟨_, rfl⟩
    rw [← hF] at hN' hl ⊢
    have hF1 := addP_len1 F l[k]
    by_cases e1 : d = a
    · subst e1
      (simp (config := { maxSteps := 1000000 }) [h2, hb, Pair.row])
      (refine AWcall_det (ref11_Add_calls A F l[k] (by omega)) (by rfl) (by rfl) ?_)
      (simp (config := { maxSteps := 1000000 }) [pairsD, hb, Pair.row])
      by_cases h3 : l[k].l = d
      · rw [rmStep_tt h3 (.inl rfl)] at hN'
        (simp (config := { maxSteps := 1000000 }) [h3, hb, Pair.row])
        (refine AWcall_det (ref11_Add_calls A (addP F l[k]) ⟨l[k].v, d⟩ (by omega)) (by rfl) (by rfl) ?_)
        (simp (config := { maxSteps := 1000000 }) [pairsD, hw])
        exact hN' _ (by (refine Wk.of ?_ ?_ (by simp) <;> repeat' (first | exact True.intro | exact ⟨_, rfl, wkt_same rfl⟩ | exact ⟨_, rfl, wkt_erase rfl⟩ | exact ⟨_, rfl, .inl .nild⟩ | exact ⟨_, rfl, .inl .nile⟩ | exact ⟨_, rfl, wkt_nils⟩ | exact wkt_same rfl | exact wkt_erase rfl | exact .inl .nild | exact .inl .nile | exact wkt_nils | exact WkB.same rfl | exact WkB_rows | exact WkB_nil | exact .dead _ | refine WkB_cons ?_ ?_ | refine And.intro ?_ ?_)))
      · rw [rmStep_ft h3 (.inl rfl)] at hN'
        (simp (config := { maxSteps := 1000000 }) [h3, hw])
        exact hN' _ (by (refine Wk.of ?_ ?_ (by simp) <;> repeat' (first | exact True.intro | exact ⟨_, rfl, wkt_same rfl⟩ | exact ⟨_, rfl, wkt_erase rfl⟩ | exact ⟨_, rfl, .inl .nild⟩ | exact ⟨_, rfl, .inl .nile⟩ | exact ⟨_, rfl, wkt_nils⟩ | exact wkt_same rfl | exact wkt_erase rfl | exact .inl .nild | exact .inl .nile | exact wkt_nils | exact WkB.same rfl | exact WkB_rows | exact WkB_nil | exact .dead _ | refine WkB_cons ?_ ?_ | refine And.intro ?_ ?_)))
    · by_cases h4 : l[k].l = d
      · have h3 : ¬ l[k].l = a := fun h => e1 (h4.symm.trans h)
        have h5 : ¬ (d = a ∨ l[k].l ≠ d) := by rintro (h | h); exact e1 h; exact h h4
        rw [rmStep_ff h3 h5] at hN'
        (simp (config := { maxSteps := 1000000 }) [h2, e1, h4, h3, hb, Pair.row, hw])
        exact hN' _ (by (refine Wk.of ?_ ?_ (by simp) <;> repeat' (first | exact True.intro | exact ⟨_, rfl, wkt_same rfl⟩ | exact ⟨_, rfl, wkt_erase rfl⟩ | exact ⟨_, rfl, .inl .nild⟩ | exact ⟨_, rfl, .inl .nile⟩ | exact ⟨_, rfl, wkt_nils⟩ | exact wkt_same rfl | exact wkt_erase rfl | exact .inl .nild | exact .inl .nile | exact wkt_nils | exact WkB.same rfl | exact WkB_rows | exact WkB_nil | exact .dead _ | refine WkB_cons ?_ ?_ | refine And.intro ?_ ?_)))
      · have h5 : d = a ∨ l[k].l ≠ d := .inr h4
        (simp (config := { maxSteps := 1000000 }) [h2, e1, h4, hb, Pair.row])
        (refine AWcall_det (ref11_Add_calls A F l[k] (by omega)) (by rfl) (by rfl) ?_)
        (simp (config := { maxSteps := 1000000 }) [pairsD, hb, Pair.row])
        by_cases h3 : l[k].l = a
        · rw [rmStep_tt h3 h5] at hN'
          (simp (config := { maxSteps := 1000000 }) [h3, hb, Pair.row])
          (refine AWcall_det (ref11_Add_calls A (addP F l[k]) ⟨l[k].v, d⟩ (by omega)) (by rfl) (by rfl) ?_)
          (simp (config := { maxSteps := 1000000 }) [pairsD, hw])
          exact hN' _ (by (refine Wk.of ?_ ?_ (by simp) <;> repeat' (first | exact True.intro | exact ⟨_, rfl, wkt_same rfl⟩ | exact ⟨_, rfl, wkt_erase rfl⟩ | exact ⟨_, rfl, .inl .nild⟩ | exact ⟨_, rfl, .inl .nile⟩ | exact ⟨_, rfl, wkt_nils⟩ | exact wkt_same rfl | exact wkt_erase rfl | exact .inl .nild | exact .inl .nile | exact wkt_nils | exact WkB.same rfl | exact WkB_rows | exact WkB_nil | exact .dead _ | refine WkB_cons ?_ ?_ | refine And.intro ?_ ?_)))
        · rw [rmStep_ft h3 h5] at hN'
          (simp (config := { maxSteps := 1000000 }) [h3, hw])
          exact hN' _ (by (refine Wk.of ?_ ?_ (by simp) <;> repeat' (first | exact True.intro | exact ⟨_, rfl, wkt_same rfl⟩ | exact ⟨_, rfl, wkt_erase rfl⟩ | exact ⟨_, rfl, .inl .nild⟩ | exact ⟨_, rfl, .inl .nile⟩ | exact ⟨_, rfl, wkt_nils⟩ | exact wkt_same rfl | exact wkt_erase rfl | exact .inl .nild | exact .inl .nile | exact wkt_nils | exact WkB.same rfl | exact WkB_rows | exact WkB_nil | exact .dead _ | refine WkB_cons ?_ ?_ | refine And.intro ?_ ?_)))
  · have hk' : k = l.length := by simp at h2; omega
    subst hk'
    (simp (config := { maxSteps := 1000000 }) [])
    (first | exact hR _ _ (Fin_ret _ rfl rfl rfl) | exact hR _ _ (Fin_normal _ rfl rfl rfl) | exact hR _ _ (Fin_ret _ rfl rfl (by simp [AV.erase, AV.unview, List.take_length, pairsD]; done)) | exact hR _ _ (Fin_normal _ rfl rfl (by simp [AV.erase, AV.unview, List.take_length, pairsD]; done)) | fail "no end")

theorem ref12_Define_calls {P : Program} {p : Nums} (A : All P p) (l : List Pair) (d t : Int) (h0 : l.length < 100000) : CallsTo P p.ref12_Define [.d (pairsD l), AI d, AI t] [] fun o _ => o = .ret (.d (pairsD (rdefP l d t))) := by
  refine A.ref12_Define.run rfl fun R hR => ?_
  (simp (config := { maxSteps := 1000000 }) [ic_ref12_Define, pairsD])
  refine AW_loop (fun k : Nat => ⟨[(8, AI k), (7, .d (.sl ((rdefP (l.take k) d t).map Pair.row))), (6, .nils), (2, AI t), (1, AI d), (0, .d (.sl (l.map Pair.row)))], []⟩) (fun k => k ≤ l.length) (fun k => l.length - k) 0 (by simp) (by simp only [List.take_zero, rdefP, List.foldl_nil, List.map_nil, List.map_cons, Pair.row]; (refine Wk.of ?_ ?_ (by simp) <;> repeat' (first | exact True.intro | exact ⟨_, rfl, wkt_same rfl⟩ | exact ⟨_, rfl, wkt_erase rfl⟩ | exact ⟨_, rfl, .inl .nild⟩ | exact ⟨_, rfl, .inl .nile⟩ | exact ⟨_, rfl, wkt_nils⟩ | exact wkt_same rfl | exact wkt_erase rfl | exact .inl .nild | exact .inl .nile | exact wkt_nils | exact WkB.same rfl | exact WkB_rows | exact WkB_nil | exact .dead _ | refine WkB_cons ?_ ?_ | refine And.intro ?_ ?_))) ?_
  intro k hk N hN
  (simp (config := { maxSteps := 1000000 }) [])
  ((first | refine AW_cond_split _ (by rfl) (fun h2 => ?_) (fun h2 => ?_) | refine AWop_split _ (by rfl) (fun h2 => ?_) (fun h2 => ?_)) <;> (try simp only [decide_eq_true_eq, decide_eq_false_iff_not, Bool.not_eq_true', Bool.not_eq_false', Bool.and_eq_true, Bool.or_eq_true, beq_iff_eq, bne_iff_ne, ne_eq, beq_eq_false_iff_ne, bne_eq_false_iff_eq] at h2))
  · have hkl : k < l.length := by simpa using h2
    have hb : l[k]? = some l[k] := by simp
    have hw := wrap_succ (k := k) (by omega)
    have hs : rdefP (l.take (k + 1)) d t = rdStep d t (rdefP (l.take k) d t) l[k] := foldl_succ hkl
    have hl : (rdefP (l.take k) d t).length ≤ 2 * l.length + 1 := by
      have := fold_len2 (rdStep_len d t) (l.take k) [⟨d, t⟩]; simp only [List.length_take, List.length_cons, List.length_nil] at this; unfold rdefP; omega
    have hN' := fun st' h => hN st' (k + 1) hkl h (by omega)
    rw [hs] at hN'
    obtain ⟨F, hF⟩ : ∃ F, F = rdefP (l.take k) d t := ⟨_, rfl⟩
    rw [← hF] at hN' hl ⊢
    by_cases h4 : l[k].v = d
    · have h5 : ¬ (l[k].v ≠ d ∧ l[k].l ≠ t) := fun h => h.1 h4
      rw [rdStep, if_neg h5] at hN'
      (simp (config := { maxSteps := 1000000 }) [h2, h4, hb, Pair.row, hw])
      exact hN' _ (by (refine Wk.of ?_ ?_ (by simp) <;> repeat' (first | exact True.intro | exact ⟨_, rfl, wkt_same rfl⟩ | exact ⟨_, rfl, wkt_erase rfl⟩ | exact ⟨_, rfl, .inl .nild⟩ | exact ⟨_, rfl, .inl .nile⟩ | exact ⟨_, rfl, wkt_nils⟩ | exact wkt_same rfl | exact wkt_erase rfl | exact .inl .nild | exact .inl .nile | exact wkt_nils | exact WkB.same rfl | exact WkB_rows | exact WkB_nil | exact .dead _ | refine WkB_cons ?_ ?_ | refine And.intro ?_ ?_)))
    · by_cases h3 : l[k].l = t
      · have h5 : ¬ (l[k].v ≠ d ∧ l[k].l ≠ t) := fun h => h.2 h3
        rw [rdStep, if_neg h5] at hN'
        (simp (config := { maxSteps := 1000000 }) [h2, h4, h3, hb, Pair.row, hw])
        exact hN' _ (by (refine Wk.of ?_ ?_ (by simp) <;> repeat' (first | exact True.intro | exact ⟨_, rfl, wkt_same rfl⟩ | exact ⟨_, rfl, wkt_erase rfl⟩ | exact ⟨_, rfl, .inl .nild⟩ | exact ⟨_, rfl, .inl .nile⟩ | exact ⟨_, rfl, wkt_nils⟩ | exact wkt_same rfl | exact wkt_erase rfl | exact .inl .nild | exact .inl .nile | exact wkt_nils | exact WkB.same rfl | exact WkB_rows | exact WkB_nil | exact .dead _ | refine WkB_cons ?_ ?_ | refine And.intro ?_ ?_)))
      · rw [rdStep, if_pos ⟨h4, h3⟩] at hN'
        (simp (config := { maxSteps := 1000000 }) [h2, h4, h3, hb, Pair.row])
        (refine AWcall_det (ref11_Add_calls A F l[k] (by omega)) (by rfl) (by rfl) ?_)
        (simp (config := { maxSteps := 1000000 }) [pairsD, hw])
        exact hN' _ (by (refine Wk.of ?_ ?_ (by simp) <;> repeat' (first | exact True.intro | exact ⟨_, rfl, wkt_same rfl⟩ | exact ⟨_, rfl, wkt_erase rfl⟩ | exact ⟨_, rfl, .inl .nild⟩ | exact ⟨_, rfl, .inl .nile⟩ | exact ⟨_, rfl, wkt_nils⟩ | exact wkt_same rfl | exact wkt_erase rfl | exact .inl .nild | exact .inl .nile | exact wkt_nils | exact WkB.same rfl | exact WkB_rows | exact WkB_nil | exact .dead _ | refine WkB_cons ?_ ?_ | refine And.intro ?_ ?_)))
  · have hk' : k = l.length := by simp at h2; omega
    subst hk'
    (simp (config := { maxSteps := 1000000 }) [])
    (first | exact hR _ _ (Fin_ret _ rfl rfl rfl) | exact hR _ _ (Fin_normal _ rfl rfl rfl) | exact hR _ _ (Fin_ret _ rfl rfl (by simp [AV.erase, AV.unview, List.take_length, pairsD]; done)) | exact hR _ _ (Fin_normal _ rfl rfl (by simp [AV.erase, AV.unview, List.take_length, pairsD]; done)) | fail "no end")
end
end Go.AE

/- Transfer: the documented examples, the law of the reference, the law of subsets. -/
set_option linter.unusedVariables false
namespace Go.AE
open Go
def pA : Pair := ⟨0, 2⟩
def pB : Pair := ⟨1, 4⟩
def pC : Pair := ⟨1, 2⟩
def pD : Pair := ⟨0, 4⟩
theorem srt_ab : Srt [pA, pB] := by unfold Srt; decide
theorem srt_ac : Srt [pA, pC] := by unfold Srt; decide
theorem srt_ad : Srt [pA, pD] := by unfold Srt; decide
theorem ex_copy : copyP [pA, pB] 1 0 = [pA, pC] := by
  rw [← rcopyP_eq srt_ab]; decide
theorem ex_move : moveP [pA, pB] 4 2 = [pA, pD] := by
  rw [← rmoveP_eq srt_ab]; decide
theorem ex_def : defP [pA, pB] 1 2 = [pC] := by decide
theorem ex_same : copyP [pA, pB] 1 1 = [pA, pB] := by
  rw [← rcopyP_eq srt_ab]; decide
theorem copyP_mono {x y : List Pair} {d a : Int} (h : ∀ q ∈ x, q ∈ y) : ∀ q ∈ copyP x d a, q ∈ copyP y d a := by
  intro q hq
  rw [mem_copyP] at hq ⊢
  exact hq.imp (fun k => ⟨h _ k.1, k.2⟩) (fun k => ⟨k.1, h _ k.2⟩)
theorem moveP_mono {x y : List Pair} {d a : Int} (h : ∀ q ∈ x, q ∈ y) : ∀ q ∈ moveP x d a, q ∈ moveP y d a := by
  intro q hq
  rw [mem_moveP] at hq ⊢
  exact hq.imp (fun k => ⟨h _ k.1, k.2⟩) (fun k => ⟨k.1, h _ k.2⟩)
theorem defP_mono {x y : List Pair} {d t : Int} (h : ∀ q ∈ x, q ∈ y) : ∀ q ∈ defP x d t, q ∈ defP y d t := by
  intro q hq
  rw [mem_defP] at hq ⊢
  exact hq.imp id (fun k => ⟨h _ k.1, k.2⟩)
section
theorem law12_subset_calls {P : Program} {p : Nums} (A : All P p) (a b : List Pair) (h0 : a.length < 1000000) (h1 : b.length < 1000000) (hs : ∀ q ∈ a, q ∈ b) : CallsTo P p.law12_subset [.d (pairsD a), .d (pairsD b)] [] fun o _ => o = .ret (AB true) := by
  refine A.law12_subset.run rfl fun R hR => ?_
  (simp (config := { maxSteps := 1000000 }) [ic_law12_subset, pairsD])
  have h := ref11_Missing_calls A a b h0 h1
  have hn := missP_none hs
  rw [missA, hn] at h
  (refine AWcall_det h (by rfl) (by rfl) ?_)
  (simp (config := { maxSteps := 1000000 }) [Pair.av])
  (first | exact hR _ _ (Fin_ret _ rfl rfl rfl) | exact hR _ _ (Fin_normal _ rfl rfl rfl) | exact hR _ _ (Fin_ret _ rfl rfl (by simp [AV.erase, AV.unview]; done)) | exact hR _ _ (Fin_normal _ rfl rfl (by simp [AV.erase, AV.unview]; done)) | fail "no end")
end
section
theorem law12_awake_calls {P : Program} {p : Nums} (A : All P p) (S : SortOk P p) (C : ClosOk P p) : CallsTo P p.law12_awake [] [] fun o _ => o = .ret (AB true) := by
  refine A.law12_awake.run rfl fun R hR => ?_
  (simp (config := { maxSteps := 1000000 }) [ic_law12_awake])
  have h1 := transfer_Copy_calls A S C [pA, pB] 1 0 (by decide)
  rw [ex_copy] at h1
  (refine AWcall_det h1 (by rfl) (by rfl) ?_)
  (simp (config := { maxSteps := 1000000 }) [pairsD])
  have h2 := ref11_Same_calls A [pA, pC] [pA, pC] (by decide) (by decide)
  rw [decide_eq_true rfl] at h2
  (refine AWcall_det h2 (by rfl) (by rfl) ?_)
  (simp (config := { maxSteps := 1000000 }) [])
  have h3 := transfer_Move_calls A S C [pA, pB] 4 2 (by decide)
  rw [ex_move] at h3
  (refine AWcall_det h3 (by rfl) (by rfl) ?_)
  (simp (config := { maxSteps := 1000000 }) [pairsD])
  have h4 := ref11_Same_calls A [pA, pD] [pA, pD] (by decide) (by decide)
  rw [decide_eq_true rfl] at h4
  (refine AWcall_det h4 (by rfl) (by rfl) ?_)
  (simp (config := { maxSteps := 1000000 }) [])
  have h5 := transfer_Define_calls A S [pA, pB] 1 2 (by decide) srt_ab
  rw [ex_def] at h5
  (refine AWcall_det h5 (by rfl) (by rfl) ?_)
  (simp (config := { maxSteps := 1000000 }) [pairsD])
  have h6 := ref11_Same_calls A [pC] [pC] (by decide) (by decide)
  rw [decide_eq_true rfl] at h6
  (refine AWcall_det h6 (by rfl) (by rfl) ?_)
  (simp (config := { maxSteps := 1000000 }) [])
  have h7 := transfer_Copy_calls A S C [pA, pB] 1 1 (by decide)
  rw [ex_same] at h7
  (refine AWcall_det h7 (by rfl) (by rfl) ?_)
  (simp (config := { maxSteps := 1000000 }) [pairsD])
  have h8 := ref11_Same_calls A [pA, pB] [pA, pB] (by decide) (by decide)
  rw [decide_eq_true rfl] at h8
  (refine AWcall_det h8 (by rfl) (by rfl) ?_)
  (simp (config := { maxSteps := 1000000 }) [])
  (first | exact hR _ _ (Fin_ret _ rfl rfl rfl) | exact hR _ _ (Fin_normal _ rfl rfl rfl) | exact hR _ _ (Fin_ret _ rfl rfl (by simp [AV.erase, AV.unview]; done)) | exact hR _ _ (Fin_normal _ rfl rfl (by simp [AV.erase, AV.unview]; done)) | fail "no end")
theorem law12_TransferMatchesReference_calls {P : Program} {p : Nums} (A : All P p) (S : SortOk P p) (C : ClosOk P p) (l : List Pair) (d a t s : Int) : CallsTo P p.law12_TransferMatchesReference [.d (pairsD l), AI d, AI a, AI t, AI s] [] fun o _ => o = .ret (AB true) := by
  refine A.law12_TransferMatchesReference.run rfl fun R hR => ?_
  (simp (config := { maxSteps := 1000000 }) [ic_law12_TransferMatchesReference, pairsD])
  (refine AWcall_det (law12_awake_calls A S C) (by rfl) (by rfl) ?_)
  (simp (config := { maxSteps := 1000000 }) [])
  ((first | refine AW_cond_split _ (by rfl) (fun h2 => ?_) (fun h2 => ?_) | refine AWop_split _ (by rfl) (fun h2 => ?_) (fun h2 => ?_)) <;> (try simp only [decide_eq_true_eq, decide_eq_false_iff_not, Bool.not_eq_true', Bool.not_eq_false', Bool.and_eq_true, Bool.or_eq_true, beq_iff_eq, bne_iff_ne, ne_eq, beq_eq_false_iff_ne, bne_eq_false_iff_eq] at h2))
  · (simp (config := { maxSteps := 1000000 }) [h2])
    (refine AWcall_det (law12_awake_calls A S C) (by rfl) (by rfl) ?_)
    (simp (config := { maxSteps := 1000000 }) [])
    (first | exact hR _ _ (Fin_ret _ rfl rfl rfl) | exact hR _ _ (Fin_normal _ rfl rfl rfl) | exact hR _ _ (Fin_ret _ rfl rfl (by simp [AV.erase, AV.unview]; done)) | exact hR _ _ (Fin_normal _ rfl rfl (by simp [AV.erase, AV.unview]; done)) | fail "no end")
  (simp (config := { maxSteps := 1000000 }) [h2])
  (refine AWcall_det (ref11_Make_calls A l (by omega)) (by rfl) (by rfl) ?_)
  have hs := srt_makeP l
  have hm := makeP_len l
  obtain ⟨x, hx⟩ : ∃ x, x = makeP l := ⟨_, rfl⟩
  rw [← hx] at hs hm ⊢
  (simp (config := { maxSteps := 1000000 }) [pairsD])
  have hl1 := copyP_len x d a
  have hl2 := moveP_len x t s
  have hl3 := defP_len x d t
  have h1 := transfer_Copy_calls A S C x d a (by omega)
  have h3 := ref12_Copy_calls A x d a (by omega)
  rw [rcopyP_eq hs] at h3
  have h4 := ref11_Same_calls A (copyP x d a) (copyP x d a) (by omega) (by omega)
  rw [decide_eq_true rfl] at h4
  obtain ⟨y, hy⟩ : ∃ y, y = copyP x d a := ⟨_, rfl⟩
  rw [← hy] at h1 h3 h4
  (refine AWcall_det h1 (by rfl) (by rfl) ?_)
  (simp (config := { maxSteps := 1000000 }) [pairsD])
  (refine AWcall_det h3 (by rfl) (by rfl) ?_)
  (simp (config := { maxSteps := 1000000 }) [pairsD])
  (refine AWcall_det h4 (by rfl) (by rfl) ?_)
  (simp (config := { maxSteps := 1000000 }) [])
  have h1 := transfer_Move_calls A S C x t s (by omega)
  have h3 := ref12_Move_calls A x t s (by omega)
  rw [rmoveP_eq hs] at h3
  have h4 := ref11_Same_calls A (moveP x t s) (moveP x t s) (by omega) (by omega)
  rw [decide_eq_true rfl] at h4
  obtain ⟨z, hz⟩ : ∃ y, y = moveP x t s := ⟨_, rfl⟩
  rw [← hz] at h1 h3 h4
  (refine AWcall_det h1 (by rfl) (by rfl) ?_)
  (simp (config := { maxSteps := 1000000 }) [pairsD])
  (refine AWcall_det h3 (by rfl) (by rfl) ?_)
  (simp (config := { maxSteps := 1000000 }) [pairsD])
  (refine AWcall_det h4 (by rfl) (by rfl) ?_)
  (simp (config := { maxSteps := 1000000 }) [])
  have h1 := transfer_Define_calls A S x d t (by omega) hs
  have h3 := ref12_Define_calls A x d t (by omega)
  rw [rdefP_eq hs] at h3
  have h4 := ref11_Same_calls A (defP x d t) (defP x d t) (by omega) (by omega)
  rw [decide_eq_true rfl] at h4
  obtain ⟨u, hu⟩ : ∃ y, y = defP x d t := ⟨_, rfl⟩
  rw [← hu] at h1 h3 h4
  (refine AWcall_det h1 (by rfl) (by rfl) ?_)
  (simp (config := { maxSteps := 1000000 }) [pairsD])
  (refine AWcall_det h3 (by rfl) (by rfl) ?_)
  (simp (config := { maxSteps := 1000000 }) [pairsD])
  (refine AWcall_det h4 (by rfl) (by rfl) ?_)
  (simp (config := { maxSteps := 1000000 }) [])
  (first | exact hR _ _ (Fin_ret _ rfl rfl rfl) | exact hR _ _ (Fin_normal _ rfl rfl rfl) | exact hR _ _ (Fin_ret _ rfl rfl (by simp [AV.erase, AV.unview]; done)) | exact hR _ _ (Fin_normal _ rfl rfl (by simp [AV.erase, AV.unview]; done)) | fail "no end")
theorem law12_TransferMonotone_calls {P : Program} {p : Nums} (A : All P p) (S : SortOk P p) (C : ClosOk P p) (l m : List Pair) (d a t s : Int) : CallsTo P p.law12_TransferMonotone [.d (pairsD l), .d (pairsD m), AI d, AI a, AI t, AI s] [] fun o _ => o = .ret (AB true) := by
  refine A.law12_TransferMonotone.run rfl fun R hR => ?_
  (simp (config := { maxSteps := 1000000 }) [ic_law12_TransferMonotone, pairsD])
  (refine AWcall_det (law12_awake_calls A S C) (by rfl) (by rfl) ?_)
  (simp (config := { maxSteps := 1000000 }) [])
  ((first | refine AW_cond_split _ (by rfl) (fun h2 => ?_) (fun h2 => ?_) | refine AWop_split _ (by rfl) (fun h2 => ?_) (fun h2 => ?_)) <;> (try simp only [decide_eq_true_eq, decide_eq_false_iff_not, Bool.not_eq_true', Bool.not_eq_false', Bool.and_eq_true, Bool.or_eq_true, beq_iff_eq, bne_iff_ne, ne_eq, beq_eq_false_iff_ne, bne_eq_false_iff_eq] at h2))
  · (simp (config := { maxSteps := 1000000 }) [h2])
    (refine AWcall_det (law12_awake_calls A S C) (by rfl) (by rfl) ?_)
    (simp (config := { maxSteps := 1000000 }) [])
    (first | exact hR _ _ (Fin_ret _ rfl rfl rfl) | exact hR _ _ (Fin_normal _ rfl rfl rfl) | exact hR _ _ (Fin_ret _ rfl rfl (by simp [AV.erase, AV.unview]; done)) | exact hR _ _ (Fin_normal _ rfl rfl (by simp [AV.erase, AV.unview]; done)) | fail "no end")
  (simp (config := { maxSteps := 1000000 }) [h2])
  ((first | refine AW_cond_split _ (by rfl) (fun h3 => ?_) (fun h3 => ?_) | refine AWop_split _ (by rfl) (fun h3 => ?_) (fun h3 => ?_)) <;> (try simp only [decide_eq_true_eq, decide_eq_false_iff_not, Bool.not_eq_true', Bool.not_eq_false', Bool.and_eq_true, Bool.or_eq_true, beq_iff_eq, bne_iff_ne, ne_eq, beq_eq_false_iff_ne, bne_eq_false_iff_eq] at h3))
  · (simp (config := { maxSteps := 1000000 }) [h3])
    (refine AWcall_det (law12_awake_calls A S C) (by rfl) (by rfl) ?_)
    (simp (config := { maxSteps := 1000000 }) [])
    (first | exact hR _ _ (Fin_ret _ rfl rfl rfl) | exact hR _ _ (Fin_normal _ rfl rfl rfl) | exact hR _ _ (Fin_ret _ rfl rfl (by simp [AV.erase, AV.unview]; done)) | exact hR _ _ (Fin_normal _ rfl rfl (by simp [AV.erase, AV.unview]; done)) | fail "no end")
  (simp (config := { maxSteps := 1000000 }) [h3])
  (refine AWcall_det (ref11_Make_calls A l (by omega)) (by rfl) (by rfl) ?_)
  have hs := srt_makeP l
  have hm := makeP_len l
  have hs2 := srt_makeP (l ++ m)
  have hm2 := makeP_len (l ++ m)
  rw [List.length_append] at hm2
  have hsub : ∀ q ∈ makeP l, q ∈ makeP (l ++ m) := fun q hq => by
    rw [mem_makeP] at hq ⊢; exact List.mem_append_left _ hq
  have hmk := ref11_Make_calls A (l ++ m) (by rw [List.length_append]; omega)
  obtain ⟨x, hx⟩ : ∃ x, x = makeP l := ⟨_, rfl⟩
  obtain ⟨y, hy⟩ : ∃ x, x = makeP (l ++ m) := ⟨_, rfl⟩
  rw [← hx] at hs hm hsub ⊢
  rw [← hy] at hs2 hm2 hsub hmk
  have hrow : ∀ l : List Pair, ∀ r ∈ l.map Pair.row, r.length = 2 := fun l => rows_len fun x => rfl
  (simp (config := { maxSteps := 1000000 }) [pairsD])
  have lx1 := copyP_len x d a
  have ly1 := copyP_len y d a
  have lx2 := moveP_len x t s
  have ly2 := moveP_len y t s
  have lx3 := defP_len x d t
  have ly3 := defP_len y d t
  have c1 := transfer_Copy_calls A S C x d a (by omega)
  have c2 := transfer_Copy_calls A S C y d a (by omega)
  have c3 := law12_subset_calls A (copyP x d a) (copyP y d a) (by omega) (by omega) (copyP_mono hsub)
  have m1 := transfer_Move_calls A S C x t s (by omega)
  have m2 := transfer_Move_calls A S C y t s (by omega)
  have m3 := law12_subset_calls A (moveP x t s) (moveP y t s) (by omega) (by omega) (moveP_mono hsub)
  have d1 := transfer_Define_calls A S x d t (by omega) hs
  have d2 := transfer_Define_calls A S y d t (by omega) hs2
  have d3 := law12_subset_calls A (defP x d t) (defP y d t) (by omega) (by omega) (defP_mono hsub)
  obtain ⟨cx, hcx⟩ : ∃ z, z = copyP x d a := ⟨_, rfl⟩
  obtain ⟨cy, hcy⟩ : ∃ z, z = copyP y d a := ⟨_, rfl⟩
  obtain ⟨mx, hmx⟩ : ∃ z, z = moveP x t s := ⟨_, rfl⟩
  obtain ⟨my, hmy⟩ : ∃ z, z = moveP y t s := ⟨_, rfl⟩
  obtain ⟨dx, hdx⟩ : ∃ z, z = defP x d t := ⟨_, rfl⟩
  obtain ⟨dy, hdy⟩ : ∃ z, z = defP y d t := ⟨_, rfl⟩
  rw [← hcx] at c1 c3
  rw [← hcy] at c2 c3
  rw [← hmx] at m1 m3
  rw [← hmy] at m2 m3
  rw [← hdx] at d1 d3
  rw [← hdy] at d2 d3
  refine AWio_app_nile (by rfl) (by rfl) (hrow l) (by decide) (by simp; omega) (by simp; omega) (fun hl => ?_) (fun hl => ?_)
  · have hl' : l = [] := by simpa using hl
    subst hl'
    (simp (config := { maxSteps := 1000000 }) [])
    refine AWio_app_nile (by rfl) (by rfl) (hrow m) (by decide) (by simp; omega) (by simp; omega) (fun hk => ?_) (fun hk => ?_)
    · have hk' : m = [] := by simpa using hk
      subst hk'
      (simp (config := { maxSteps := 1000000 }) [])
      (refine AWcall_detw hmk (by rfl) (by (repeat' (first | exact True.intro | exact WkV.refl _ rfl | exact WkV.erase _ rfl | exact WkV.nild | exact WkV.nile | refine And.intro ?_ ?_ | refine WkV_agg ?_ | refine WkV_tup ?_))) (by rfl) ?_)
      (simp (config := { maxSteps := 1000000 }) [pairsD])
      (refine AWcall_det c1 (by rfl) (by rfl) ?_)
      (simp (config := { maxSteps := 1000000 }) [pairsD])
      (refine AWcall_det c2 (by rfl) (by rfl) ?_)
      (simp (config := { maxSteps := 1000000 }) [pairsD])
      (refine AWcall_det c3 (by rfl) (by rfl) ?_)
      (simp (config := { maxSteps := 1000000 }) [])
      (refine AWcall_det m1 (by rfl) (by rfl) ?_)
      (simp (config := { maxSteps := 1000000 }) [pairsD])
      (refine AWcall_det m2 (by rfl) (by rfl) ?_)
      (simp (config := { maxSteps := 1000000 }) [pairsD])
      (refine AWcall_det m3 (by rfl) (by rfl) ?_)
      (simp (config := { maxSteps := 1000000 }) [])
      (refine AWcall_det d1 (by rfl) (by rfl) ?_)
      (simp (config := { maxSteps := 1000000 }) [pairsD])
      (refine AWcall_det d2 (by rfl) (by rfl) ?_)
      (simp (config := { maxSteps := 1000000 }) [pairsD])
      (refine AWcall_det d3 (by rfl) (by rfl) ?_)
      (simp (config := { maxSteps := 1000000 }) [])
      (first | exact hR _ _ (Fin_ret _ rfl rfl rfl) | exact hR _ _ (Fin_normal _ rfl rfl rfl) | exact hR _ _ (Fin_ret _ rfl rfl (by simp [AV.erase, AV.unview]; done)) | exact hR _ _ (Fin_normal _ rfl rfl (by simp [AV.erase, AV.unview]; done)) | fail "no end")
    · (simp (config := { maxSteps := 1000000 }) [])
      (refine AWcall_det hmk (by rfl) (by rfl) ?_)
      (simp (config := { maxSteps := 1000000 }) [pairsD])
      (refine AWcall_det c1 (by rfl) (by rfl) ?_)
      (simp (config := { maxSteps := 1000000 }) [pairsD])
      (refine AWcall_det c2 (by rfl) (by rfl) ?_)
      (simp (config := { maxSteps := 1000000 }) [pairsD])
      (refine AWcall_det c3 (by rfl) (by rfl) ?_)
      (simp (config := { maxSteps := 1000000 }) [])
      (refine AWcall_det m1 (by rfl) (by rfl) ?_)
      (simp (config := { maxSteps := 1000000 }) [pairsD])
      (refine AWcall_det m2 (by rfl) (by rfl) ?_)
      (simp (config := { maxSteps := 1000000 }) [pairsD])
      (refine AWcall_det m3 (by rfl) (by rfl) ?_)
      (simp (config := { maxSteps := 1000000 }) [])
      (refine AWcall_det d1 (by rfl) (by rfl) ?_)
      (simp (config := { maxSteps := 1000000 }) [pairsD])
      (refine AWcall_det d2 (by rfl) (by rfl) ?_)
      (simp (config := { maxSteps := 1000000 }) [pairsD])
      (refine AWcall_det d3 (by rfl) (by rfl) ?_)
      (simp (config := { maxSteps := 1000000 }) [])
      (first | exact hR _ _ (Fin_ret _ rfl rfl rfl) | exact hR _ _ (Fin_normal _ rfl rfl rfl) | exact hR _ _ (Fin_ret _ rfl rfl (by simp [AV.erase, AV.unview]; done)) | exact hR _ _ (Fin_normal _ rfl rfl (by simp [AV.erase, AV.unview]; done)) | fail "no end")
  · (simp (config := { maxSteps := 1000000 }) [])
    (refine AWio_app_own (by rfl) (by rfl) (by rfl) ?_ (by decide) ?_ ?_ ?_)
    · exact hrow m
    · simp; omega
    · simp; omega
    (simp (config := { maxSteps := 1000000 }) [])
    rw [← List.map_append]
    (refine AWcall_det hmk (by rfl) (by rfl) ?_)
    (simp (config := { maxSteps := 1000000 }) [pairsD])
    (refine AWcall_det c1 (by rfl) (by rfl) ?_)
    (simp (config := { maxSteps := 1000000 }) [pairsD])
    (refine AWcall_det c2 (by rfl) (by rfl) ?_)
    (simp (config := { maxSteps := 1000000 }) [pairsD])
    (refine AWcall_det c3 (by rfl) (by rfl) ?_)
    (simp (config := { maxSteps := 1000000 }) [])
    (refine AWcall_det m1 (by rfl) (by rfl) ?_)
    (simp (config := { maxSteps := 1000000 }) [pairsD])
    (refine AWcall_det m2 (by rfl) (by rfl) ?_)
    (simp (config := { maxSteps := 1000000 }) [pairsD])
    (refine AWcall_det m3 (by rfl) (by rfl) ?_)
    (simp (config := { maxSteps := 1000000 }) [])
    (refine AWcall_det d1 (by rfl) (by rfl) ?_)
    (simp (config := { maxSteps := 1000000 }) [pairsD])
    (refine AWcall_det d2 (by rfl) (by rfl) ?_)
    (simp (config := { maxSteps := 1000000 }) [pairsD])
    (refine AWcall_det d3 (by rfl) (by rfl) ?_)
    (simp (config := { maxSteps := 1000000 }) [])
    (first | exact hR _ _ (Fin_ret _ rfl rfl rfl) | exact hR _ _ (Fin_normal _ rfl rfl rfl) | exact hR _ _ (Fin_ret _ rfl rfl (by simp [AV.erase, AV.unview]; done)) | exact hR _ _ (Fin_normal _ rfl rfl (by simp [AV.erase, AV.unview]; done)) | fail "no end")
end
end Go.AE

/- A block of a result, put into the first place. -/
set_option linter.unusedVariables false
namespace Go.AE
open Go
theorem rowCells_notOwn (rows : List (List D)) (j e1 : Nat) (rows1 : List (List D)) : (rowCells rows)[j]? ≠ some (.own e1 rows1) := by
  intro hp
  unfold rowCells at hp
  rw [List.getElem?_map, Option.map_eq_some_iff] at hp
  obtain ⟨y, _, hy⟩ := hp
  cases hy
theorem CallsTo.shift {P : Program} {f : Nat} {args : List AV} {e n k : Nat} {rows : List (List D)} (h : CallsTo P f args [] fun o H' => o = .ret (.hsl k 0 e n) ∧ H' = List.replicate k .dead ++ [.mem (rowCells rows)]) :
    CallsTo P f args [] fun o H' => o = .ret (.hsl 0 0 e n) ∧ H' = [.mem (rowCells rows)] := by
  intro g vs w hvs hs
  refine (h g vs w hvs hs).mono ?_
  rintro e' w' ⟨o, H', g', v, ⟨rfl, rfl⟩, he, hsim, htr, hφ, hlen, hmine⟩
  have hk : (List.replicate k Blk.dead ++ [Blk.mem (rowCells rows)])[k]? = some (.mem (rowCells rows)) := by
    rw [List.getElem?_append_right (by simp)]; simp
  obtain ⟨r, hr⟩ := hsim.dom k _ hk (by simp)
  obtain ⟨hlt, hF, _⟩ := hsim.lt k r hr
  obtain ⟨c, te, m1, m2, m3⟩ := hsim.mem k _ r hk hr
  have hrel := hsim.env 0 (.hsl k 0 e n) (by simp [get, AOut.val])
  simp only [AV.erase] at hrel
  have hv0 : (⟨#[v], []⟩ : Act).tmps.getD 0 undef = v := by simp
  rw [hv0] at hrel
  have hno : ∀ (p : Place) (e1 : Nat) (rows1 : List (List D)), AP ⟨[(0, (AOut.ret (.hsl 0 0 e n)).val)], [.mem (rowCells rows)]⟩ p ≠ some (.own e1 rows1) := by
    intro p e1 rows1 hp
    cases p with
    | tmp t =>
      simp only [AP, AOut.val, get] at hp
      split at hp <;> cases hp
    | cell b j =>
      simp only [AP] at hp
      split at hp
      · rename_i cells hb
        have : b = 0 := by have := (List.getElem?_eq_some_iff.1 hb).1; simpa using this
        subst this
        simp only [List.getElem?_cons_zero, Option.some.injEq, Blk.mem.injEq] at hb
        subst hb
        exact rowCells_notOwn _ _ _ _ hp
      · cases hp
  refine ⟨.ret (.hsl 0 0 e n), [.mem (rowCells rows)], ⟨fun b => if b = 0 then some r else none, g'.F⟩, v, ⟨rfl, rfl⟩, he, ?_, ⟨htr.os, htr.tape, htr.output, htr.size, htr.other, htr.stab⟩, fun b r hb => absurd hb (by simp), by simp, ?_⟩
  · refine { size := by simp, env := ?_, defers := rfl, inj := ?_, lt := ?_, dom := ?_, mem := ?_, iter := ?_, own := ?_, excl := ?_, apart := ?_, view := ?_ }
    · intro t x hx
      simp only [AOut.val, get] at hx
      split at hx
      · rename_i ht; subst ht
        injection hx with hx; subst hx
        rw [hv0]
        cases hrel with
        | hsl _ _ _ _ r' cap a hφ' hcap ha =>
          rw [hr] at hφ'; injection hφ' with hφ'; subst hφ'
          exact .hsl 0 0 e n r cap a (by simp) hcap ha
      · cases hx
    · intro b b' q hb hb'
      simp only at hb hb'
      split at hb <;> split at hb' <;> simp_all
    · intro b q hb
      simp only at hb ⊢
      split at hb
      · rename_i h0; subst h0; injection hb with hb; subst hb; exact ⟨hlt, hF, by simp⟩
      · cases hb
    · intro b k' hk' _
      have : b = 0 := by have := (List.getElem?_eq_some_iff.1 hk').1; simpa using this
      subst this
      exact ⟨r, by simp⟩
    · intro b cells q hb hq
      have : b = 0 := by have := (List.getElem?_eq_some_iff.1 hb).1; simpa using this
      subst this
      simp only [List.getElem?_cons_zero, Option.some.injEq, Blk.mem.injEq] at hb
      subst hb
      simp only [if_true, Option.some.injEq] at hq
      subst hq
      refine ⟨c, te, m1, m2, fun j x hx => ?_⟩
      obtain ⟨k1, u, k2, k3⟩ := m3 j x hx
      refine ⟨k1, u, k2, ?_⟩
      unfold rowCells at hx
      rw [List.getElem?_map, Option.map_eq_some_iff] at hx
      obtain ⟨y, _, rfl⟩ := hx
      cases k3 with
      | d _ _ h => exact .d _ _ h
    · intro b s pos q hb
      have : b = 0 := by have := (List.getElem?_eq_some_iff.1 hb).1; simpa using this
      subst this
      simp at hb
    · exact fun p e1 rows1 v1 hp _ => absurd hp (hno p e1 rows1)
    · rintro p p' q ⟨e1, rows1, v1, hp, _⟩
      exact absurd hp (hno p e1 rows1)
    · rintro p q b ⟨e1, rows1, v1, hp, _⟩
      exact absurd hp (hno p e1 rows1)
    · intro t org e1 rows1 hx
      simp only [AOut.val, get] at hx
      split at hx <;> cases hx
  · rintro q (⟨b, hb⟩ | ⟨p, e1, rows1, v1, hp, _⟩)
    · simp only at hb
      split at hb
      · injection hb with hb; subst hb; exact hmine _ (.inl ⟨k, hr⟩)
      · cases hb
    · exact absurd hp (hno p e1 rows1)
end Go.AE

/- Transfer: the set is kept, and the result is new. -/
set_option linter.unusedVariables false
namespace Go.AE
open Go
theorem WkB_ds {H : List Blk} {n : Nat} {ds : List D} : WkB H n (.mem (ds.map AV.d)) (.mem (ds.map AV.d)) := .same (renL_d _)
theorem renB_ds {ρ : Nat → Option Nat} {ds : List D} : renB ρ [.mem (ds.map AV.d)] = some [.mem (ds.map AV.d)] := by
  have : renL ρ (ds.map AV.d) = some (ds.map AV.d) := renL_d _
  simp only [renB, Blk.ren, this]
theorem pair_flat (l : List Pair) : ∀ r ∈ l.map Pair.row, ∀ x ∈ r, x.flat = true := by
  intro r hr x hx
  obtain ⟨y, _, rfl⟩ := List.mem_map.1 hr
  simp [Pair.row] at hx
  rcases hx with rfl | rfl <;> rfl
section
theorem transfer_Copy_mk {P : Program} {p : Nums} (A : All P p) (S : SortOk P p) (C : ClosOk P p) (l : List Pair) (d : Int) (hl : l ≠ []) (h0 : l.length < 100000) : CallsTo P p.transfer_Copy [.d (pairsD l), AI d, AI d] [] fun o H' => o = .ret (.hsl 2 0 2 (makeP l).length) ∧ H' = List.replicate 2 .dead ++ [.mem (rowCells ((cptP (sortP l)).map Pair.row))] := by
  refine A.transfer_Copy.run rfl fun R hR => ?_
  have hm := pairset_Make_h A S l hl (by omega)
  obtain ⟨n, hn⟩ : ∃ n, n = (makeP l).length := ⟨_, rfl⟩
  obtain ⟨U, hU⟩ : ∃ U, U = (cptP (sortP l)).map Pair.row := ⟨_, rfl⟩
  rw [← hn, ← hU] at hm
  (simp (config := { maxSteps := 1000000 }) [ic_transfer_Copy, pairsD])
  refine AWcall_locn [] 1 hm (by decide) (by rfl) (by rfl) (by rfl) renB_rows (by rfl) (by rfl) ?_
  (simp (config := { maxSteps := 1000000 }) [])
  exact hR _ _ (Fin_wk' _ (.hsl 2 0 2 n) [.dead, .dead, .mem (rowCells U)] rfl (by (refine Wk.of ?_ ?_ (by simp) <;> repeat' (first | exact True.intro | exact ⟨_, rfl, wkt_same rfl⟩ | exact ⟨_, rfl, wkt_erase rfl⟩ | exact ⟨_, rfl, .inl .nild⟩ | exact ⟨_, rfl, .inl .nile⟩ | exact ⟨_, rfl, wkt_nils⟩ | exact wkt_same rfl | exact wkt_erase rfl | exact .inl .nild | exact .inl .nile | exact wkt_nils | exact WkB.same rfl | exact WkB_rows | exact WkB_nil | exact .dead _ | refine WkB_cons ?_ ?_ | refine And.intro ?_ ?_))) ⟨by rw [hn], by rw [hU]; rfl⟩)
theorem transfer_Copy_new {P : Program} {p : Nums} (A : All P p) (S : SortOk P p) (C : ClosOk P p) (l : List Pair) (d a : Int) (h0 : l.length < 100000) (hne : copyP l d a ≠ []) : ∃ rows : List (List D), (∀ r ∈ rows, r.length = 2) ∧ (copyP l d a).length ≤ rows.length ∧
    CallsTo P p.transfer_Copy [.d (pairsD l), AI d, AI a] [] fun o H' => o = .ret (.hsl 0 0 2 (copyP l d a).length) ∧ H' = [.mem (rowCells rows)] := by
  by_cases hda : d = a
  · subst hda
    have hc : copyP l d d = makeP l := by unfold copyP; rw [if_pos rfl]
    rw [hc] at hne ⊢
    have hl : l ≠ [] := by rintro rfl; exact hne rfl
    refine ⟨(cptP (sortP l)).map Pair.row, rows_len fun x => rfl, ?_, (transfer_Copy_mk A S C l d hl h0).shift⟩
    rw [← dd_sortP, List.length_map]; unfold cptP; rw [List.length_append]; omega
  · have h := (transfer_Copy_own A S C l d a h0 hda).opened (by simpa using hne) (pair_flat _) (fun t e r ht => by
      match t with
      | 0 => simp at ht
      | 1 => simp at ht
      | 2 => simp at ht
      | t + 3 => simp at ht)
    rw [List.length_map] at h
    exact ⟨(copyP l d a).map Pair.row, rows_len fun x => rfl, by simp, h⟩

theorem transfer_Move_mk {P : Program} {p : Nums} (A : All P p) (S : SortOk P p) (C : ClosOk P p) (l : List Pair) (d : Int) (hl : l ≠ []) (h0 : l.length < 100000) : CallsTo P p.transfer_Move [.d (pairsD l), AI d, AI d] [] fun o H' => o = .ret (.hsl 2 0 2 (makeP l).length) ∧ H' = List.replicate 2 .dead ++ [.mem (rowCells ((cptP (sortP l)).map Pair.row))] := by
  refine A.transfer_Move.run rfl fun R hR => ?_
  have hm := pairset_Make_h A S l hl (by omega)
  obtain ⟨n, hn⟩ : ∃ n, n = (makeP l).length := ⟨_, rfl⟩
  obtain ⟨U, hU⟩ : ∃ U, U = (cptP (sortP l)).map Pair.row := ⟨_, rfl⟩
  rw [← hn, ← hU] at hm
  (simp (config := { maxSteps := 1000000 }) [ic_transfer_Move, pairsD])
  refine AWcall_locn [] 1 hm (by decide) (by rfl) (by rfl) (by rfl) renB_rows (by rfl) (by rfl) ?_
  (simp (config := { maxSteps := 1000000 }) [])
  exact hR _ _ (Fin_wk' _ (.hsl 2 0 2 n) [.dead, .dead, .mem (rowCells U)] rfl (by (refine Wk.of ?_ ?_ (by simp) <;> repeat' (first | exact True.intro | exact ⟨_, rfl, wkt_same rfl⟩ | exact ⟨_, rfl, wkt_erase rfl⟩ | exact ⟨_, rfl, .inl .nild⟩ | exact ⟨_, rfl, .inl .nile⟩ | exact ⟨_, rfl, wkt_nils⟩ | exact wkt_same rfl | exact wkt_erase rfl | exact .inl .nild | exact .inl .nile | exact wkt_nils | exact WkB.same rfl | exact WkB_rows | exact WkB_nil | exact .dead _ | refine WkB_cons ?_ ?_ | refine And.intro ?_ ?_))) ⟨by rw [hn], by rw [hU]; rfl⟩)
theorem transfer_Move_new {P : Program} {p : Nums} (A : All P p) (S : SortOk P p) (C : ClosOk P p) (l : List Pair) (d a : Int) (h0 : l.length < 100000) (hne : moveP l d a ≠ []) : ∃ rows : List (List D), (∀ r ∈ rows, r.length = 2) ∧ (moveP l d a).length ≤ rows.length ∧
    CallsTo P p.transfer_Move [.d (pairsD l), AI d, AI a] [] fun o H' => o = .ret (.hsl 0 0 2 (moveP l d a).length) ∧ H' = [.mem (rowCells rows)] := by
  by_cases hda : d = a
  · subst hda
    have hc : moveP l d d = makeP l := by unfold moveP; rw [if_pos rfl]
    rw [hc] at hne ⊢
    have hl : l ≠ [] := by rintro rfl; exact hne rfl
    refine ⟨(cptP (sortP l)).map Pair.row, rows_len fun x => rfl, ?_, (transfer_Move_mk A S C l d hl h0).shift⟩
    rw [← dd_sortP, List.length_map]; unfold cptP; rw [List.length_append]; omega
  · have h := (transfer_Move_own A S C l d a h0 hda).opened (by simpa using hne) (pair_flat _) (fun t e r ht => by
      match t with
      | 0 => simp at ht
      | 1 => simp at ht
      | 2 => simp at ht
      | t + 3 => simp at ht)
    rw [List.length_map] at h
    exact ⟨(moveP l d a).map Pair.row, rows_len fun x => rfl, by simp, h⟩

theorem transfer_Define_new {P : Program} {p : Nums} (A : All P p) (S : SortOk P p) (C : ClosOk P p) (l : List Pair) (d t : Int) (h0 : l.length < 100000) (hs : Srt l) : ∃ rows : List (List D), (∀ r ∈ rows, r.length = 2) ∧ (defP l d t).length ≤ rows.length ∧
    CallsTo P p.transfer_Define [.d (pairsD l), AI d, AI t] [] fun o H' => o = .ret (.hsl 0 0 2 (defP l d t).length) ∧ H' = [.mem (rowCells rows)] := by
  have hne : defP l d t ≠ [] := by
    intro h
    have : (⟨d, t⟩ : Pair) ∈ defP l d t := mem_defP.2 (.inl rfl)
    rw [h] at this; cases this
  have h := (transfer_Define_own A S l d t h0 hs).opened (by simpa using hne) (pair_flat _) (fun t e r ht => by
      match t with
      | 0 => simp at ht
      | 1 => simp at ht
      | 2 => simp at ht
      | t + 3 => simp at ht)
  rw [List.length_map] at h
  exact ⟨(defP l d t).map Pair.row, rows_len fun x => rfl, by simp, h⟩
set_option maxHeartbeats 4000000 in
theorem law12_TransferKeeps_calls {P : Program} {p : Nums} (A : All P p) (S : SortOk P p) (C : ClosOk P p) (l : List Pair) (d a t s : Int) : CallsTo P p.law12_TransferKeeps [.d (pairsD l), AI d, AI a, AI t, AI s] [] fun o _ => o = .ret (AB true) := by
  refine A.law12_TransferKeeps.run rfl fun R hR => ?_
  (simp (config := { maxSteps := 1000000 }) [ic_law12_TransferKeeps, pairsD])
  (refine AWcall_det (law12_awake_calls A S C) (by rfl) (by rfl) ?_)
  (simp (config := { maxSteps := 1000000 }) [])
  ((first | refine AW_cond_split _ (by rfl) (fun h2 => ?_) (fun h2 => ?_) | refine AWop_split _ (by rfl) (fun h2 => ?_) (fun h2 => ?_)) <;> (try simp only [decide_eq_true_eq, decide_eq_false_iff_not, Bool.not_eq_true', Bool.not_eq_false', Bool.and_eq_true, Bool.or_eq_true, beq_iff_eq, bne_iff_ne, ne_eq, beq_eq_false_iff_ne, bne_eq_false_iff_eq] at h2))
  · (simp (config := { maxSteps := 1000000 }) [h2])
    (refine AWcall_det (law12_awake_calls A S C) (by rfl) (by rfl) ?_)
    (simp (config := { maxSteps := 1000000 }) [])
    (first | exact hR _ _ (Fin_ret _ rfl rfl rfl) | exact hR _ _ (Fin_normal _ rfl rfl rfl) | exact hR _ _ (Fin_ret _ rfl rfl (by simp [AV.erase, AV.unview]; done)) | exact hR _ _ (Fin_normal _ rfl rfl (by simp [AV.erase, AV.unview]; done)) | fail "no end")
  (simp (config := { maxSteps := 1000000 }) [h2])
  (refine AWcall_det (ref11_Make_calls A l (by omega)) (by rfl) (by rfl) ?_)
  have hs := srt_makeP l
  have hm := makeP_len l
  obtain ⟨x, hx⟩ : ∃ x, x = makeP l := ⟨_, rfl⟩
  rw [← hx] at hs hm ⊢
  clear hx
  have hrow : ∀ l : List Pair, ∀ r ∈ l.map Pair.row, r.length = 2 := fun l => rows_len fun x => rfl
  have lp := copyP_len x d a
  have lq := moveP_len x t s
  have lr := defP_len x d t
  have hp0 := transfer_Copy_calls A S C x d a (by omega)
  have hq0 := transfer_Move_calls A S C x t s (by omega)
  have hp1 := transfer_Copy_new A S C x d a (by omega)
  have hq1 := transfer_Move_new A S C x t s (by omega)
  obtain ⟨rr, hr2, hr3, hr⟩ := transfer_Define_new A S C x d t (by omega) hs
  have hsame := ref11_Same_calls A x x (by omega) (by omega)
  rw [decide_eq_true rfl] at hsame
  have ep : x = [] → copyP x d a = [] := by
    rintro rfl
    rw [List.eq_nil_iff_forall_not_mem]; intro q hq; rw [mem_copyP] at hq; simp at hq
  have eq : x = [] → moveP x t s = [] := by
    rintro rfl
    rw [List.eq_nil_iff_forall_not_mem]; intro q hq; rw [mem_moveP] at hq; simp at hq
  obtain ⟨cp, hcp⟩ : ∃ z, z = copyP x d a := ⟨_, rfl⟩
  obtain ⟨cq, hcq⟩ : ∃ z, z = moveP x t s := ⟨_, rfl⟩
  obtain ⟨nr, hnr⟩ : ∃ z, z = (defP x d t).length := ⟨_, rfl⟩
  rw [← hcp] at lp hp0 hp1 ep
  rw [← hcq] at lq hq0 hq1 eq
  rw [← hnr] at lr hr3 hr
  clear hcp hcq hnr
  obtain ⟨dr, hdre⟩ : ∃ z, z = rr.flatten := ⟨_, rfl⟩
  have hdr : nr * 2 ≤ dr.length := by rw [hdre, flatten_len hr2]; omega
  simp only [rowCells] at hr
  rw [← hdre] at hr
  have lx : x.length ≤ 60 := by omega
  (simp (config := { maxSteps := 1000000 }) [pairsD])
  refine AWio_app_nile (by rfl) (by rfl) (hrow x) (by decide) (by simp; omega) (by simp; omega) (fun hl => ?_) (fun hl => ?_)
  · have hx0 : x = [] := by simpa using hl
    have hp := hp0
    have hq := hq0
    rw [ep hx0] at hp
    rw [eq hx0] at hq
    subst hx0
    (simp (config := { maxSteps := 1000000 }) [])
    (refine AWcall_det hp (by rfl) (by rfl) ?_)
    (simp (config := { maxSteps := 1000000 }) [pairsD])
    (refine AWcall_det hq (by rfl) (by rfl) ?_)
    (simp (config := { maxSteps := 1000000 }) [pairsD])
    refine AWcall_locn [] 1 hr (by decide) (by rfl) (by rfl) (by rfl) renB_ds (by rfl) (by rfl) ?_
    (simp (config := { maxSteps := 1000000 }) [pairsD])
    refine AW_loop (fun s : Unit => ⟨[(16, AI 0), (15, .hsl 0 0 2 nr), (14, .d (.sl [])), (13, .d (.sl [])), (12, .d (.sl [])), (11, .d (.sl [])), (10, AB false)], [.mem (dr.map AV.d)]⟩) (fun _ => True) (fun _ => 0) () trivial (by (refine Wk.of ?_ ?_ (by simp) <;> repeat' (first | exact WkB_ds | (first | exact True.intro | exact ⟨_, rfl, wkt_same rfl⟩ | exact ⟨_, rfl, wkt_erase rfl⟩ | exact ⟨_, rfl, .inl .nild⟩ | exact ⟨_, rfl, .inl .nile⟩ | exact ⟨_, rfl, wkt_nils⟩ | exact wkt_same rfl | exact wkt_erase rfl | exact .inl .nild | exact .inl .nile | exact wkt_nils | exact WkB.same rfl | exact WkB_rows | exact WkB_nil | exact .dead _ | refine WkB_cons ?_ ?_ | refine And.intro ?_ ?_)))) ?_
    rintro s hs0 N hN
    clear hN
    (simp (config := { maxSteps := 1000000 }) [])
    refine AW_loop (fun s : Unit => ⟨[(17, AI 0), (15, .hsl 0 0 2 nr), (14, .d (.sl [])), (13, .d (.sl [])), (12, .d (.sl [])), (11, .d (.sl [])), (10, AB false)], [.mem (dr.map AV.d)]⟩) (fun _ => True) (fun _ => 0) () trivial (by (refine Wk.of ?_ ?_ (by simp) <;> repeat' (first | exact WkB_ds | (first | exact True.intro | exact ⟨_, rfl, wkt_same rfl⟩ | exact ⟨_, rfl, wkt_erase rfl⟩ | exact ⟨_, rfl, .inl .nild⟩ | exact ⟨_, rfl, .inl .nile⟩ | exact ⟨_, rfl, wkt_nils⟩ | exact wkt_same rfl | exact wkt_erase rfl | exact .inl .nild | exact .inl .nile | exact wkt_nils | exact WkB.same rfl | exact WkB_rows | exact WkB_nil | exact .dead _ | refine WkB_cons ?_ ?_ | refine And.intro ?_ ?_)))) ?_
    rintro s hs0 N hN
    clear hN
    (simp (config := { maxSteps := 1000000 }) [])
    refine AW_loop (fun s : Nat × List D => ⟨[(18, AI s.1), (15, .hsl 0 0 2 nr), (14, .d (.sl [])), (13, .d (.sl [])), (12, .d (.sl [])), (11, .d (.sl [])), (10, AB false)], [.mem (s.2.map AV.d)]⟩) (fun s => s.1 ≤ nr ∧ nr * 2 ≤ s.2.length) (fun s => nr - s.1) (0, dr) ⟨Nat.zero_le _, hdr⟩ (by (refine Wk.of ?_ ?_ (by simp) <;> repeat' (first | exact WkB_ds | (first | exact True.intro | exact ⟨_, rfl, wkt_same rfl⟩ | exact ⟨_, rfl, wkt_erase rfl⟩ | exact ⟨_, rfl, .inl .nild⟩ | exact ⟨_, rfl, .inl .nile⟩ | exact ⟨_, rfl, wkt_nils⟩ | exact wkt_same rfl | exact wkt_erase rfl | exact .inl .nild | exact .inl .nile | exact wkt_nils | exact WkB.same rfl | exact WkB_rows | exact WkB_nil | exact .dead _ | refine WkB_cons ?_ ?_ | refine And.intro ?_ ?_)))) ?_
    rintro ⟨k, ds⟩ ⟨hk, hds⟩ N hN
    simp only at hk hds hN ⊢
    (simp (config := { maxSteps := 1000000 }) [])
    ((first | refine AW_cond_split _ (by rfl) (fun h7 => ?_) (fun h7 => ?_) | refine AWop_split _ (by rfl) (fun h7 => ?_) (fun h7 => ?_)) <;> (try simp only [decide_eq_true_eq, decide_eq_false_iff_not, Bool.not_eq_true', Bool.not_eq_false', Bool.and_eq_true, Bool.or_eq_true, beq_iff_eq, bne_iff_ne, ne_eq, beq_eq_false_iff_ne, bne_eq_false_iff_eq] at h7))
    · have hkl : k < nr := by omega
      have hw := wrap_succ (k := k) (by omega)
      have hle : k * 2 + 1 ≤ ds.length := by omega
      (simp (config := { maxSteps := 1000000 }) [h7, hkl, hle, hw])
      have e : List.take (k * 2) (ds.map AV.d) ++ AV.d (.int .i64 (-5)) :: List.drop (k * 2 + 1) (ds.map AV.d) = (ds.take (k * 2) ++ .int .i64 (-5) :: ds.drop (k * 2 + 1)).map AV.d := by simp
      rw [e]
      exact hN _ (k + 1, ds.take (k * 2) ++ .int .i64 (-5) :: ds.drop (k * 2 + 1)) ⟨hkl, by simp; omega⟩ (by (refine Wk.of ?_ ?_ (by simp) <;> repeat' (first | exact WkB_ds | (first | exact True.intro | exact ⟨_, rfl, wkt_same rfl⟩ | exact ⟨_, rfl, wkt_erase rfl⟩ | exact ⟨_, rfl, .inl .nild⟩ | exact ⟨_, rfl, .inl .nile⟩ | exact ⟨_, rfl, wkt_nils⟩ | exact wkt_same rfl | exact wkt_erase rfl | exact .inl .nild | exact .inl .nile | exact wkt_nils | exact WkB.same rfl | exact WkB_rows | exact WkB_nil | exact .dead _ | refine WkB_cons ?_ ?_ | refine And.intro ?_ ?_)))) (by simp only; omega)
    · clear hN
      obtain ⟨dr2, hdr2⟩ : ∃ z, z = ds := ⟨_, rfl⟩
      rw [← hdr2]
      (simp (config := { maxSteps := 1000000 }) [])
      (refine AWcall_det hsame (by rfl) (by rfl) ?_)
      (simp (config := { maxSteps := 1000000 }) [])
      (first | exact hR _ _ (Fin_ret _ rfl rfl rfl) | exact hR _ _ (Fin_normal _ rfl rfl rfl) | exact hR _ _ (Fin_ret _ rfl rfl (by simp [AV.erase, AV.unview]; done)) | exact hR _ _ (Fin_normal _ rfl rfl (by simp [AV.erase, AV.unview]; done)) | fail "no end")
  · (simp (config := { maxSteps := 1000000 }) [])
    by_cases hp : cp = []
    · rw [hp] at hp0
      have hp := hp0
      by_cases hq : cq = []
      · rw [hq] at hq0
        have hq := hq0
        (refine AWcall_det hp (by rfl) (by rfl) ?_)
        (simp (config := { maxSteps := 1000000 }) [pairsD])
        (refine AWcall_det hq (by rfl) (by rfl) ?_)
        (simp (config := { maxSteps := 1000000 }) [pairsD])
        refine AWcall_locn [] 1 hr (by decide) (by rfl) (by rfl) (by rfl) renB_ds (by rfl) (by rfl) ?_
        (simp (config := { maxSteps := 1000000 }) [pairsD])
        refine AW_loop (fun s : Unit => ⟨[(16, AI 0), (15, .hsl 0 0 2 nr), (14, .d (.sl [])), (13, .d (.sl [])), (12, .d (.sl (x.map Pair.row))), (11, .d (.sl (x.map Pair.row))), (10, AB false)], [.mem (dr.map AV.d)]⟩) (fun _ => True) (fun _ => 0) () trivial (by (refine Wk.of ?_ ?_ (by simp) <;> repeat' (first | exact WkB_ds | (first | exact True.intro | exact ⟨_, rfl, wkt_same rfl⟩ | exact ⟨_, rfl, wkt_erase rfl⟩ | exact ⟨_, rfl, .inl .nild⟩ | exact ⟨_, rfl, .inl .nile⟩ | exact ⟨_, rfl, wkt_nils⟩ | exact wkt_same rfl | exact wkt_erase rfl | exact .inl .nild | exact .inl .nile | exact wkt_nils | exact WkB.same rfl | exact WkB_rows | exact WkB_nil | exact .dead _ | refine WkB_cons ?_ ?_ | refine And.intro ?_ ?_)))) ?_
        rintro s hs0 N hN
        clear hN
        (simp (config := { maxSteps := 1000000 }) [])
        refine AW_loop (fun s : Unit => ⟨[(17, AI 0), (15, .hsl 0 0 2 nr), (14, .d (.sl [])), (13, .d (.sl [])), (12, .d (.sl (x.map Pair.row))), (11, .d (.sl (x.map Pair.row))), (10, AB false)], [.mem (dr.map AV.d)]⟩) (fun _ => True) (fun _ => 0) () trivial (by (refine Wk.of ?_ ?_ (by simp) <;> repeat' (first | exact WkB_ds | (first | exact True.intro | exact ⟨_, rfl, wkt_same rfl⟩ | exact ⟨_, rfl, wkt_erase rfl⟩ | exact ⟨_, rfl, .inl .nild⟩ | exact ⟨_, rfl, .inl .nile⟩ | exact ⟨_, rfl, wkt_nils⟩ | exact wkt_same rfl | exact wkt_erase rfl | exact .inl .nild | exact .inl .nile | exact wkt_nils | exact WkB.same rfl | exact WkB_rows | exact WkB_nil | exact .dead _ | refine WkB_cons ?_ ?_ | refine And.intro ?_ ?_)))) ?_
        rintro s hs0 N hN
        clear hN
        (simp (config := { maxSteps := 1000000 }) [])
        refine AW_loop (fun s : Nat × List D => ⟨[(18, AI s.1), (15, .hsl 0 0 2 nr), (14, .d (.sl [])), (13, .d (.sl [])), (12, .d (.sl (x.map Pair.row))), (11, .d (.sl (x.map Pair.row))), (10, AB false)], [.mem (s.2.map AV.d)]⟩) (fun s => s.1 ≤ nr ∧ nr * 2 ≤ s.2.length) (fun s => nr - s.1) (0, dr) ⟨Nat.zero_le _, hdr⟩ (by (refine Wk.of ?_ ?_ (by simp) <;> repeat' (first | exact WkB_ds | (first | exact True.intro | exact ⟨_, rfl, wkt_same rfl⟩ | exact ⟨_, rfl, wkt_erase rfl⟩ | exact ⟨_, rfl, .inl .nild⟩ | exact ⟨_, rfl, .inl .nile⟩ | exact ⟨_, rfl, wkt_nils⟩ | exact wkt_same rfl | exact wkt_erase rfl | exact .inl .nild | exact .inl .nile | exact wkt_nils | exact WkB.same rfl | exact WkB_rows | exact WkB_nil | exact .dead _ | refine WkB_cons ?_ ?_ | refine And.intro ?_ ?_)))) ?_
        rintro ⟨k, ds⟩ ⟨hk, hds⟩ N hN
        simp only at hk hds hN ⊢
        (simp (config := { maxSteps := 1000000 }) [])
        ((first | refine AW_cond_split _ (by rfl) (fun h7 => ?_) (fun h7 => ?_) | refine AWop_split _ (by rfl) (fun h7 => ?_) (fun h7 => ?_)) <;> (try simp only [decide_eq_true_eq, decide_eq_false_iff_not, Bool.not_eq_true', Bool.not_eq_false', Bool.and_eq_true, Bool.or_eq_true, beq_iff_eq, bne_iff_ne, ne_eq, beq_eq_false_iff_ne, bne_eq_false_iff_eq] at h7))
        · have hkl : k < nr := by omega
          have hw := wrap_succ (k := k) (by omega)
          have hle : k * 2 + 1 ≤ ds.length := by omega
          (simp (config := { maxSteps := 1000000 }) [h7, hkl, hle, hw])
          have e : List.take (k * 2) (ds.map AV.d) ++ AV.d (.int .i64 (-5)) :: List.drop (k * 2 + 1) (ds.map AV.d) = (ds.take (k * 2) ++ .int .i64 (-5) :: ds.drop (k * 2 + 1)).map AV.d := by simp
          rw [e]
          exact hN _ (k + 1, ds.take (k * 2) ++ .int .i64 (-5) :: ds.drop (k * 2 + 1)) ⟨hkl, by simp; omega⟩ (by (refine Wk.of ?_ ?_ (by simp) <;> repeat' (first | exact WkB_ds | (first | exact True.intro | exact ⟨_, rfl, wkt_same rfl⟩ | exact ⟨_, rfl, wkt_erase rfl⟩ | exact ⟨_, rfl, .inl .nild⟩ | exact ⟨_, rfl, .inl .nile⟩ | exact ⟨_, rfl, wkt_nils⟩ | exact wkt_same rfl | exact wkt_erase rfl | exact .inl .nild | exact .inl .nile | exact wkt_nils | exact WkB.same rfl | exact WkB_rows | exact WkB_nil | exact .dead _ | refine WkB_cons ?_ ?_ | refine And.intro ?_ ?_)))) (by simp only; omega)
        · clear hN
          obtain ⟨dr2, hdr2⟩ : ∃ z, z = ds := ⟨_, rfl⟩
          rw [← hdr2]
          (simp (config := { maxSteps := 1000000 }) [])
          (refine AWcall_det hsame (by rfl) (by rfl) ?_)
          (simp (config := { maxSteps := 1000000 }) [])
          (first | exact hR _ _ (Fin_ret _ rfl rfl rfl) | exact hR _ _ (Fin_normal _ rfl rfl rfl) | exact hR _ _ (Fin_ret _ rfl rfl (by simp [AV.erase, AV.unview]; done)) | exact hR _ _ (Fin_normal _ rfl rfl (by simp [AV.erase, AV.unview]; done)) | fail "no end")
      · obtain ⟨rq, hq2, hq3, hq⟩ := hq1 hq
        obtain ⟨nq, hnq⟩ : ∃ z, z = cq.length := ⟨_, rfl⟩
        rw [← hnq] at hq3 hq lq
        obtain ⟨dq, hdqe⟩ : ∃ z, z = rq.flatten := ⟨_, rfl⟩
        have hdq : nq * 2 ≤ dq.length := by rw [hdqe, flatten_len hq2]; omega
        simp only [rowCells] at hq
        rw [← hdqe] at hq
        (refine AWcall_det hp (by rfl) (by rfl) ?_)
        (simp (config := { maxSteps := 1000000 }) [pairsD])
        refine AWcall_locn [] 1 hq (by decide) (by rfl) (by rfl) (by rfl) renB_ds (by rfl) (by rfl) ?_
        (simp (config := { maxSteps := 1000000 }) [pairsD])
        refine AWcall_locn [] 1 hr (by decide) (by rfl) (by rfl) (by rfl) renB_ds (by rfl) (by rfl) ?_
        (simp (config := { maxSteps := 1000000 }) [pairsD])
        refine AW_loop (fun s : Unit => ⟨[(16, AI 0), (15, .hsl 1 0 2 nr), (14, .hsl 0 0 2 nq), (13, .d (.sl [])), (12, .d (.sl (x.map Pair.row))), (11, .d (.sl (x.map Pair.row))), (10, AB false)], [.mem (dq.map AV.d), .mem (dr.map AV.d)]⟩) (fun _ => True) (fun _ => 0) () trivial (by (refine Wk.of ?_ ?_ (by simp) <;> repeat' (first | exact WkB_ds | (first | exact True.intro | exact ⟨_, rfl, wkt_same rfl⟩ | exact ⟨_, rfl, wkt_erase rfl⟩ | exact ⟨_, rfl, .inl .nild⟩ | exact ⟨_, rfl, .inl .nile⟩ | exact ⟨_, rfl, wkt_nils⟩ | exact wkt_same rfl | exact wkt_erase rfl | exact .inl .nild | exact .inl .nile | exact wkt_nils | exact WkB.same rfl | exact WkB_rows | exact WkB_nil | exact .dead _ | refine WkB_cons ?_ ?_ | refine And.intro ?_ ?_)))) ?_
        rintro s hs0 N hN
        clear hN
        (simp (config := { maxSteps := 1000000 }) [])
        refine AW_loop (fun s : Nat × List D => ⟨[(17, AI s.1), (15, .hsl 1 0 2 nr), (14, .hsl 0 0 2 nq), (13, .d (.sl [])), (12, .d (.sl (x.map Pair.row))), (11, .d (.sl (x.map Pair.row))), (10, AB false)], [.mem (s.2.map AV.d), .mem (dr.map AV.d)]⟩) (fun s => s.1 ≤ nq ∧ nq * 2 ≤ s.2.length) (fun s => nq - s.1) (0, dq) ⟨Nat.zero_le _, hdq⟩ (by (refine Wk.of ?_ ?_ (by simp) <;> repeat' (first | exact WkB_ds | (first | exact True.intro | exact ⟨_, rfl, wkt_same rfl⟩ | exact ⟨_, rfl, wkt_erase rfl⟩ | exact ⟨_, rfl, .inl .nild⟩ | exact ⟨_, rfl, .inl .nile⟩ | exact ⟨_, rfl, wkt_nils⟩ | exact wkt_same rfl | exact wkt_erase rfl | exact .inl .nild | exact .inl .nile | exact wkt_nils | exact WkB.same rfl | exact WkB_rows | exact WkB_nil | exact .dead _ | refine WkB_cons ?_ ?_ | refine And.intro ?_ ?_)))) ?_
        rintro ⟨k, ds⟩ ⟨hk, hds⟩ N hN
        simp only at hk hds hN ⊢
        (simp (config := { maxSteps := 1000000 }) [])
        ((first | refine AW_cond_split _ (by rfl) (fun h7 => ?_) (fun h7 => ?_) | refine AWop_split _ (by rfl) (fun h7 => ?_) (fun h7 => ?_)) <;> (try simp only [decide_eq_true_eq, decide_eq_false_iff_not, Bool.not_eq_true', Bool.not_eq_false', Bool.and_eq_true, Bool.or_eq_true, beq_iff_eq, bne_iff_ne, ne_eq, beq_eq_false_iff_ne, bne_eq_false_iff_eq] at h7))
        · have hkl : k < nq := by omega
          have hw := wrap_succ (k := k) (by omega)
          have hle : k * 2 + 1 ≤ ds.length := by omega
          (simp (config := { maxSteps := 1000000 }) [h7, hkl, hle, hw])
          have e : List.take (k * 2) (ds.map AV.d) ++ AV.d (.int .i64 (-5)) :: List.drop (k * 2 + 1) (ds.map AV.d) = (ds.take (k * 2) ++ .int .i64 (-5) :: ds.drop (k * 2 + 1)).map AV.d := by simp
          rw [e]
          exact hN _ (k + 1, ds.take (k * 2) ++ .int .i64 (-5) :: ds.drop (k * 2 + 1)) ⟨hkl, by simp; omega⟩ (by (refine Wk.of ?_ ?_ (by simp) <;> repeat' (first | exact WkB_ds | (first | exact True.intro | exact ⟨_, rfl, wkt_same rfl⟩ | exact ⟨_, rfl, wkt_erase rfl⟩ | exact ⟨_, rfl, .inl .nild⟩ | exact ⟨_, rfl, .inl .nile⟩ | exact ⟨_, rfl, wkt_nils⟩ | exact wkt_same rfl | exact wkt_erase rfl | exact .inl .nild | exact .inl .nile | exact wkt_nils | exact WkB.same rfl | exact WkB_rows | exact WkB_nil | exact .dead _ | refine WkB_cons ?_ ?_ | refine And.intro ?_ ?_)))) (by simp only; omega)
        · clear hN
          obtain ⟨dq2, hdq2⟩ : ∃ z, z = ds := ⟨_, rfl⟩
          rw [← hdq2]
          (simp (config := { maxSteps := 1000000 }) [])
          refine AW_loop (fun s : Nat × List D => ⟨[(18, AI s.1), (15, .hsl 1 0 2 nr), (14, .hsl 0 0 2 nq), (13, .d (.sl [])), (12, .d (.sl (x.map Pair.row))), (11, .d (.sl (x.map Pair.row))), (10, AB false)], [.mem (dq2.map AV.d), .mem (s.2.map AV.d)]⟩) (fun s => s.1 ≤ nr ∧ nr * 2 ≤ s.2.length) (fun s => nr - s.1) (0, dr) ⟨Nat.zero_le _, hdr⟩ (by (refine Wk.of ?_ ?_ (by simp) <;> repeat' (first | exact WkB_ds | (first | exact True.intro | exact ⟨_, rfl, wkt_same rfl⟩ | exact ⟨_, rfl, wkt_erase rfl⟩ | exact ⟨_, rfl, .inl .nild⟩ | exact ⟨_, rfl, .inl .nile⟩ | exact ⟨_, rfl, wkt_nils⟩ | exact wkt_same rfl | exact wkt_erase rfl | exact .inl .nild | exact .inl .nile | exact wkt_nils | exact WkB.same rfl | exact WkB_rows | exact WkB_nil | exact .dead _ | refine WkB_cons ?_ ?_ | refine And.intro ?_ ?_)))) ?_
          rintro ⟨k, ds⟩ ⟨hk, hds⟩ N hN
          simp only at hk hds hN ⊢
          (simp (config := { maxSteps := 1000000 }) [])
          ((first | refine AW_cond_split _ (by rfl) (fun h7 => ?_) (fun h7 => ?_) | refine AWop_split _ (by rfl) (fun h7 => ?_) (fun h7 => ?_)) <;> (try simp only [decide_eq_true_eq, decide_eq_false_iff_not, Bool.not_eq_true', Bool.not_eq_false', Bool.and_eq_true, Bool.or_eq_true, beq_iff_eq, bne_iff_ne, ne_eq, beq_eq_false_iff_ne, bne_eq_false_iff_eq] at h7))
          · have hkl : k < nr := by omega
            have hw := wrap_succ (k := k) (by omega)
            have hle : k * 2 + 1 ≤ ds.length := by omega
            (simp (config := { maxSteps := 1000000 }) [h7, hkl, hle, hw])
            have e : List.take (k * 2) (ds.map AV.d) ++ AV.d (.int .i64 (-5)) :: List.drop (k * 2 + 1) (ds.map AV.d) = (ds.take (k * 2) ++ .int .i64 (-5) :: ds.drop (k * 2 + 1)).map AV.d := by simp
            rw [e]
            exact hN _ (k + 1, ds.take (k * 2) ++ .int .i64 (-5) :: ds.drop (k * 2 + 1)) ⟨hkl, by simp; omega⟩ (by (refine Wk.of ?_ ?_ (by simp) <;> repeat' (first | exact WkB_ds | (first | exact True.intro | exact ⟨_, rfl, wkt_same rfl⟩ | exact ⟨_, rfl, wkt_erase rfl⟩ | exact ⟨_, rfl, .inl .nild⟩ | exact ⟨_, rfl, .inl .nile⟩ | exact ⟨_, rfl, wkt_nils⟩ | exact wkt_same rfl | exact wkt_erase rfl | exact .inl .nild | exact .inl .nile | exact wkt_nils | exact WkB.same rfl | exact WkB_rows | exact WkB_nil | exact .dead _ | refine WkB_cons ?_ ?_ | refine And.intro ?_ ?_)))) (by simp only; omega)
          · clear hN
            obtain ⟨dr2, hdr2⟩ : ∃ z, z = ds := ⟨_, rfl⟩
            rw [← hdr2]
            (simp (config := { maxSteps := 1000000 }) [])
            (refine AWcall_det hsame (by rfl) (by rfl) ?_)
            (simp (config := { maxSteps := 1000000 }) [])
            (first | exact hR _ _ (Fin_ret _ rfl rfl rfl) | exact hR _ _ (Fin_normal _ rfl rfl rfl) | exact hR _ _ (Fin_ret _ rfl rfl (by simp [AV.erase, AV.unview]; done)) | exact hR _ _ (Fin_normal _ rfl rfl (by simp [AV.erase, AV.unview]; done)) | fail "no end")
    · obtain ⟨rp, hp2, hp3, hp⟩ := hp1 hp
      obtain ⟨np, hnp⟩ : ∃ z, z = cp.length := ⟨_, rfl⟩
      rw [← hnp] at hp3 hp lp
      obtain ⟨dp, hdpe⟩ : ∃ z, z = rp.flatten := ⟨_, rfl⟩
      have hdp : np * 2 ≤ dp.length := by rw [hdpe, flatten_len hp2]; omega
      simp only [rowCells] at hp
      rw [← hdpe] at hp
      by_cases hq : cq = []
      · rw [hq] at hq0
        have hq := hq0
        refine AWcall_locn [] 1 hp (by decide) (by rfl) (by rfl) (by rfl) renB_ds (by rfl) (by rfl) ?_
        (simp (config := { maxSteps := 1000000 }) [pairsD])
        (refine AWcall_det hq (by rfl) (by rfl) ?_)
        (simp (config := { maxSteps := 1000000 }) [pairsD])
        refine AWcall_locn [] 1 hr (by decide) (by rfl) (by rfl) (by rfl) renB_ds (by rfl) (by rfl) ?_
        (simp (config := { maxSteps := 1000000 }) [pairsD])
        refine AW_loop (fun s : Nat × List D => ⟨[(16, AI s.1), (15, .hsl 1 0 2 nr), (14, .d (.sl [])), (13, .hsl 0 0 2 np), (12, .d (.sl (x.map Pair.row))), (11, .d (.sl (x.map Pair.row))), (10, AB false)], [.mem (s.2.map AV.d), .mem (dr.map AV.d)]⟩) (fun s => s.1 ≤ np ∧ np * 2 ≤ s.2.length) (fun s => np - s.1) (0, dp) ⟨Nat.zero_le _, hdp⟩ (by (refine Wk.of ?_ ?_ (by simp) <;> repeat' (first | exact WkB_ds | (first | exact True.intro | exact ⟨_, rfl, wkt_same rfl⟩ | exact ⟨_, rfl, wkt_erase rfl⟩ | exact ⟨_, rfl, .inl .nild⟩ | exact ⟨_, rfl, .inl .nile⟩ | exact ⟨_, rfl, wkt_nils⟩ | exact wkt_same rfl | exact wkt_erase rfl | exact .inl .nild | exact .inl .nile | exact wkt_nils | exact WkB.same rfl | exact WkB_rows | exact WkB_nil | exact .dead _ | refine WkB_cons ?_ ?_ | refine And.intro ?_ ?_)))) ?_
        rintro ⟨k, ds⟩ ⟨hk, hds⟩ N hN
        simp only at hk hds hN ⊢
        (simp (config := { maxSteps := 1000000 }) [])
        ((first | refine AW_cond_split _ (by rfl) (fun h7 => ?_) (fun h7 => ?_) | refine AWop_split _ (by rfl) (fun h7 => ?_) (fun h7 => ?_)) <;> (try simp only [decide_eq_true_eq, decide_eq_false_iff_not, Bool.not_eq_true', Bool.not_eq_false', Bool.and_eq_true, Bool.or_eq_true, beq_iff_eq, bne_iff_ne, ne_eq, beq_eq_false_iff_ne, bne_eq_false_iff_eq] at h7))
        · have hkl : k < np := by omega
          have hw := wrap_succ (k := k) (by omega)
          have hle : k * 2 + 1 ≤ ds.length := by omega
          (simp (config := { maxSteps := 1000000 }) [h7, hkl, hle, hw])
          have e : List.take (k * 2) (ds.map AV.d) ++ AV.d (.int .i64 (-5)) :: List.drop (k * 2 + 1) (ds.map AV.d) = (ds.take (k * 2) ++ .int .i64 (-5) :: ds.drop (k * 2 + 1)).map AV.d := by simp
          rw [e]
          exact hN _ (k + 1, ds.take (k * 2) ++ .int .i64 (-5) :: ds.drop (k * 2 + 1)) ⟨hkl, by simp; omega⟩ (by (refine Wk.of ?_ ?_ (by simp) <;> repeat' (first | exact WkB_ds | (first | exact True.intro | exact ⟨_, rfl, wkt_same rfl⟩ | exact ⟨_, rfl, wkt_erase rfl⟩ | exact ⟨_, rfl, .inl .nild⟩ | exact ⟨_, rfl, .inl .nile⟩ | exact ⟨_, rfl, wkt_nils⟩ | exact wkt_same rfl | exact wkt_erase rfl | exact .inl .nild | exact .inl .nile | exact wkt_nils | exact WkB.same rfl | exact WkB_rows | exact WkB_nil | exact .dead _ | refine WkB_cons ?_ ?_ | refine And.intro ?_ ?_)))) (by simp only; omega)
        · clear hN
          obtain ⟨dp2, hdp2⟩ : ∃ z, z = ds := ⟨_, rfl⟩
          rw [← hdp2]
          (simp (config := { maxSteps := 1000000 }) [])
          refine AW_loop (fun s : Unit => ⟨[(17, AI 0), (15, .hsl 1 0 2 nr), (14, .d (.sl [])), (13, .hsl 0 0 2 np), (12, .d (.sl (x.map Pair.row))), (11, .d (.sl (x.map Pair.row))), (10, AB false)], [.mem (dp2.map AV.d), .mem (dr.map AV.d)]⟩) (fun _ => True) (fun _ => 0) () trivial (by (refine Wk.of ?_ ?_ (by simp) <;> repeat' (first | exact WkB_ds | (first | exact True.intro | exact ⟨_, rfl, wkt_same rfl⟩ | exact ⟨_, rfl, wkt_erase rfl⟩ | exact ⟨_, rfl, .inl .nild⟩ | exact ⟨_, rfl, .inl .nile⟩ | exact ⟨_, rfl, wkt_nils⟩ | exact wkt_same rfl | exact wkt_erase rfl | exact .inl .nild | exact .inl .nile | exact wkt_nils | exact WkB.same rfl | exact WkB_rows | exact WkB_nil | exact .dead _ | refine WkB_cons ?_ ?_ | refine And.intro ?_ ?_)))) ?_
          rintro s hs0 N hN
          clear hN
          (simp (config := { maxSteps := 1000000 }) [])
          refine AW_loop (fun s : Nat × List D => ⟨[(18, AI s.1), (15, .hsl 1 0 2 nr), (14, .d (.sl [])), (13, .hsl 0 0 2 np), (12, .d (.sl (x.map Pair.row))), (11, .d (.sl (x.map Pair.row))), (10, AB false)], [.mem (dp2.map AV.d), .mem (s.2.map AV.d)]⟩) (fun s => s.1 ≤ nr ∧ nr * 2 ≤ s.2.length) (fun s => nr - s.1) (0, dr) ⟨Nat.zero_le _, hdr⟩ (by (refine Wk.of ?_ ?_ (by simp) <;> repeat' (first | exact WkB_ds | (first | exact True.intro | exact ⟨_, rfl, wkt_same rfl⟩ | exact ⟨_, rfl, wkt_erase rfl⟩ | exact ⟨_, rfl, .inl .nild⟩ | exact ⟨_, rfl, .inl .nile⟩ | exact ⟨_, rfl, wkt_nils⟩ | exact wkt_same rfl | exact wkt_erase rfl | exact .inl .nild | exact .inl .nile | exact wkt_nils | exact WkB.same rfl | exact WkB_rows | exact WkB_nil | exact .dead _ | refine WkB_cons ?_ ?_ | refine And.intro ?_ ?_)))) ?_
          rintro ⟨k, ds⟩ ⟨hk, hds⟩ N hN
          simp only at hk hds hN ⊢
          (simp (config := { maxSteps := 1000000 }) [])
          ((first | refine AW_cond_split _ (by rfl) (fun h7 => ?_) (fun h7 => ?_) | refine AWop_split _ (by rfl) (fun h7 => ?_) (fun h7 => ?_)) <;> (try simp only [decide_eq_true_eq, decide_eq_false_iff_not, Bool.not_eq_true', Bool.not_eq_false', Bool.and_eq_true, Bool.or_eq_true, beq_iff_eq, bne_iff_ne, ne_eq, beq_eq_false_iff_ne, bne_eq_false_iff_eq] at h7))
          · have hkl : k < nr := by omega
            have hw := wrap_succ (k := k) (by omega)
            have hle : k * 2 + 1 ≤ ds.length := by omega
            (simp (config := { maxSteps := 1000000 }) [h7, hkl, hle, hw])
            have e : List.take (k * 2) (ds.map AV.d) ++ AV.d (.int .i64 (-5)) :: List.drop (k * 2 + 1) (ds.map AV.d) = (ds.take (k * 2) ++ .int .i64 (-5) :: ds.drop (k * 2 + 1)).map AV.d := by simp
            rw [e]
            exact hN _ (k + 1, ds.take (k * 2) ++ .int .i64 (-5) :: ds.drop (k * 2 + 1)) ⟨hkl, by simp; omega⟩ (by (refine Wk.of ?_ ?_ (by simp) <;> repeat' (first | exact WkB_ds | (first | exact True.intro | exact ⟨_, rfl, wkt_same rfl⟩ | exact ⟨_, rfl, wkt_erase rfl⟩ | exact ⟨_, rfl, .inl .nild⟩ | exact ⟨_, rfl, .inl .nile⟩ | exact ⟨_, rfl, wkt_nils⟩ | exact wkt_same rfl | exact wkt_erase rfl | exact .inl .nild | exact .inl .nile | exact wkt_nils | exact WkB.same rfl | exact WkB_rows | exact WkB_nil | exact .dead _ | refine WkB_cons ?_ ?_ | refine And.intro ?_ ?_)))) (by simp only; omega)
          · clear hN
            obtain ⟨dr2, hdr2⟩ : ∃ z, z = ds := ⟨_, rfl⟩
            rw [← hdr2]
            (simp (config := { maxSteps := 1000000 }) [])
            (refine AWcall_det hsame (by rfl) (by rfl) ?_)
            (simp (config := { maxSteps := 1000000 }) [])
            (first | exact hR _ _ (Fin_ret _ rfl rfl rfl) | exact hR _ _ (Fin_normal _ rfl rfl rfl) | exact hR _ _ (Fin_ret _ rfl rfl (by simp [AV.erase, AV.unview]; done)) | exact hR _ _ (Fin_normal _ rfl rfl (by simp [AV.erase, AV.unview]; done)) | fail "no end")
      · obtain ⟨rq, hq2, hq3, hq⟩ := hq1 hq
        obtain ⟨nq, hnq⟩ : ∃ z, z = cq.length := ⟨_, rfl⟩
        rw [← hnq] at hq3 hq lq
        obtain ⟨dq, hdqe⟩ : ∃ z, z = rq.flatten := ⟨_, rfl⟩
        have hdq : nq * 2 ≤ dq.length := by rw [hdqe, flatten_len hq2]; omega
        simp only [rowCells] at hq
        rw [← hdqe] at hq
        refine AWcall_locn [] 1 hp (by decide) (by rfl) (by rfl) (by rfl) renB_ds (by rfl) (by rfl) ?_
        (simp (config := { maxSteps := 1000000 }) [pairsD])
        refine AWcall_locn [] 1 hq (by decide) (by rfl) (by rfl) (by rfl) renB_ds (by rfl) (by rfl) ?_
        (simp (config := { maxSteps := 1000000 }) [pairsD])
        refine AWcall_locn [] 1 hr (by decide) (by rfl) (by rfl) (by rfl) renB_ds (by rfl) (by rfl) ?_
        (simp (config := { maxSteps := 1000000 }) [pairsD])
        refine AW_loop (fun s : Nat × List D => ⟨[(16, AI s.1), (15, .hsl 2 0 2 nr), (14, .hsl 1 0 2 nq), (13, .hsl 0 0 2 np), (12, .d (.sl (x.map Pair.row))), (11, .d (.sl (x.map Pair.row))), (10, AB false)], [.mem (s.2.map AV.d), .mem (dq.map AV.d), .mem (dr.map AV.d)]⟩) (fun s => s.1 ≤ np ∧ np * 2 ≤ s.2.length) (fun s => np - s.1) (0, dp) ⟨Nat.zero_le _, hdp⟩ (by (refine Wk.of ?_ ?_ (by simp) <;> repeat' (first | exact WkB_ds | (first | exact True.intro | exact ⟨_, rfl, wkt_same rfl⟩ | exact ⟨_, rfl, wkt_erase rfl⟩ | exact ⟨_, rfl, .inl .nild⟩ | exact ⟨_, rfl, .inl .nile⟩ | exact ⟨_, rfl, wkt_nils⟩ | exact wkt_same rfl | exact wkt_erase rfl | exact .inl .nild | exact .inl .nile | exact wkt_nils | exact WkB.same rfl | exact WkB_rows | exact WkB_nil | exact .dead _ | refine WkB_cons ?_ ?_ | refine And.intro ?_ ?_)))) ?_
        rintro ⟨k, ds⟩ ⟨hk, hds⟩ N hN
        simp only at hk hds hN ⊢
        (simp (config := { maxSteps := 1000000 }) [])
        ((first | refine AW_cond_split _ (by rfl) (fun h7 => ?_) (fun h7 => ?_) | refine AWop_split _ (by rfl) (fun h7 => ?_) (fun h7 => ?_)) <;> (try simp only [decide_eq_true_eq, decide_eq_false_iff_not, Bool.not_eq_true', Bool.not_eq_false', Bool.and_eq_true, Bool.or_eq_true, beq_iff_eq, bne_iff_ne, ne_eq, beq_eq_false_iff_ne, bne_eq_false_iff_eq] at h7))
        · have hkl : k < np := by omega
          have hw := wrap_succ (k := k) (by omega)
          have hle : k * 2 + 1 ≤ ds.length := by omega
          (simp (config := { maxSteps := 1000000 }) [h7, hkl, hle, hw])
          have e : List.take (k * 2) (ds.map AV.d) ++ AV.d (.int .i64 (-5)) :: List.drop (k * 2 + 1) (ds.map AV.d) = (ds.take (k * 2) ++ .int .i64 (-5) :: ds.drop (k * 2 + 1)).map AV.d := by simp
          rw [e]
          exact hN _ (k + 1, ds.take (k * 2) ++ .int .i64 (-5) :: ds.drop (k * 2 + 1)) ⟨hkl, by simp; omega⟩ (by (refine Wk.of ?_ ?_ (by simp) <;> repeat' (first | exact WkB_ds | (first | exact True.intro | exact ⟨_, rfl, wkt_same rfl⟩ | exact ⟨_, rfl, wkt_erase rfl⟩ | exact ⟨_, rfl, .inl .nild⟩ | exact ⟨_, rfl, .inl .nile⟩ | exact ⟨_, rfl, wkt_nils⟩ | exact wkt_same rfl | exact wkt_erase rfl | exact .inl .nild | exact .inl .nile | exact wkt_nils | exact WkB.same rfl | exact WkB_rows | exact WkB_nil | exact .dead _ | refine WkB_cons ?_ ?_ | refine And.intro ?_ ?_)))) (by simp only; omega)
        · clear hN
          obtain ⟨dp2, hdp2⟩ : ∃ z, z = ds := ⟨_, rfl⟩
          rw [← hdp2]
          (simp (config := { maxSteps := 1000000 }) [])
          refine AW_loop (fun s : Nat × List D => ⟨[(17, AI s.1), (15, .hsl 2 0 2 nr), (14, .hsl 1 0 2 nq), (13, .hsl 0 0 2 np), (12, .d (.sl (x.map Pair.row))), (11, .d (.sl (x.map Pair.row))), (10, AB false)], [.mem (dp2.map AV.d), .mem (s.2.map AV.d), .mem (dr.map AV.d)]⟩) (fun s => s.1 ≤ nq ∧ nq * 2 ≤ s.2.length) (fun s => nq - s.1) (0, dq) ⟨Nat.zero_le _, hdq⟩ (by (refine Wk.of ?_ ?_ (by simp) <;> repeat' (first | exact WkB_ds | (first | exact True.intro | exact ⟨_, rfl, wkt_same rfl⟩ | exact ⟨_, rfl, wkt_erase rfl⟩ | exact ⟨_, rfl, .inl .nild⟩ | exact ⟨_, rfl, .inl .nile⟩ | exact ⟨_, rfl, wkt_nils⟩ | exact wkt_same rfl | exact wkt_erase rfl | exact .inl .nild | exact .inl .nile | exact wkt_nils | exact WkB.same rfl | exact WkB_rows | exact WkB_nil | exact .dead _ | refine WkB_cons ?_ ?_ | refine And.intro ?_ ?_)))) ?_
          rintro ⟨k, ds⟩ ⟨hk, hds⟩ N hN
          simp only at hk hds hN ⊢
          (simp (config := { maxSteps := 1000000 }) [])
          ((first | refine AW_cond_split _ (by rfl) (fun h7 => ?_) (fun h7 => ?_) | refine AWop_split _ (by rfl) (fun h7 => ?_) (fun h7 => ?_)) <;> (try simp only [decide_eq_true_eq, decide_eq_false_iff_not, Bool.not_eq_true', Bool.not_eq_false', Bool.and_eq_true, Bool.or_eq_true, beq_iff_eq, bne_iff_ne, ne_eq, beq_eq_false_iff_ne, bne_eq_false_iff_eq] at h7))
          · have hkl : k < nq := by omega
            have hw := wrap_succ (k := k) (by omega)
            have hle : k * 2 + 1 ≤ ds.length := by omega
            (simp (config := { maxSteps := 1000000 }) [h7, hkl, hle, hw])
            have e : List.take (k * 2) (ds.map AV.d) ++ AV.d (.int .i64 (-5)) :: List.drop (k * 2 + 1) (ds.map AV.d) = (ds.take (k * 2) ++ .int .i64 (-5) :: ds.drop (k * 2 + 1)).map AV.d := by simp
            rw [e]
            exact hN _ (k + 1, ds.take (k * 2) ++ .int .i64 (-5) :: ds.drop (k * 2 + 1)) ⟨hkl, by simp; omega⟩ (by (refine Wk.of ?_ ?_ (by simp) <;> repeat' (first | exact WkB_ds | (first | exact True.intro | exact ⟨_, rfl, wkt_same rfl⟩ | exact ⟨_, rfl, wkt_erase rfl⟩ | exact ⟨_, rfl, .inl .nild⟩ | exact ⟨_, rfl, .inl .nile⟩ | exact ⟨_, rfl, wkt_nils⟩ | exact wkt_same rfl | exact wkt_erase rfl | exact .inl .nild | exact .inl .nile | exact wkt_nils | exact WkB.same rfl | exact WkB_rows | exact WkB_nil | exact .dead _ | refine WkB_cons ?_ ?_ | refine And.intro ?_ ?_)))) (by simp only; omega)
          · clear hN
            obtain ⟨dq2, hdq2⟩ : ∃ z, z = ds := ⟨_, rfl⟩
            rw [← hdq2]
            (simp (config := { maxSteps := 1000000 }) [])
            refine AW_loop (fun s : Nat × List D => ⟨[(18, AI s.1), (15, .hsl 2 0 2 nr), (14, .hsl 1 0 2 nq), (13, .hsl 0 0 2 np), (12, .d (.sl (x.map Pair.row))), (11, .d (.sl (x.map Pair.row))), (10, AB false)], [.mem (dp2.map AV.d), .mem (dq2.map AV.d), .mem (s.2.map AV.d)]⟩) (fun s => s.1 ≤ nr ∧ nr * 2 ≤ s.2.length) (fun s => nr - s.1) (0, dr) ⟨Nat.zero_le _, hdr⟩ (by (refine Wk.of ?_ ?_ (by simp) <;> repeat' (first | exact WkB_ds | (first | exact True.intro | exact ⟨_, rfl, wkt_same rfl⟩ | exact ⟨_, rfl, wkt_erase rfl⟩ | exact ⟨_, rfl, .inl .nild⟩ | exact ⟨_, rfl, .inl .nile⟩ | exact ⟨_, rfl, wkt_nils⟩ | exact wkt_same rfl | exact wkt_erase rfl | exact .inl .nild | exact .inl .nile | exact wkt_nils | exact WkB.same rfl | exact WkB_rows | exact WkB_nil | exact .dead _ | refine WkB_cons ?_ ?_ | refine And.intro ?_ ?_)))) ?_
            rintro ⟨k, ds⟩ ⟨hk, hds⟩ N hN
            simp only at hk hds hN ⊢
            (simp (config := { maxSteps := 1000000 }) [])
            ((first | refine AW_cond_split _ (by rfl) (fun h7 => ?_) (fun h7 => ?_) | refine AWop_split _ (by rfl) (fun h7 => ?_) (fun h7 => ?_)) <;> (try simp only [decide_eq_true_eq, decide_eq_false_iff_not, Bool.not_eq_true', Bool.not_eq_false', Bool.and_eq_true, Bool.or_eq_true, beq_iff_eq, bne_iff_ne, ne_eq, beq_eq_false_iff_ne, bne_eq_false_iff_eq] at h7))
            · have hkl : k < nr := by omega
              have hw := wrap_succ (k := k) (by omega)
              have hle : k * 2 + 1 ≤ ds.length := by omega
              (simp (config := { maxSteps := 1000000 }) [h7, hkl, hle, hw])
              have e : List.take (k * 2) (ds.map AV.d) ++ AV.d (.int .i64 (-5)) :: List.drop (k * 2 + 1) (ds.map AV.d) = (ds.take (k * 2) ++ .int .i64 (-5) :: ds.drop (k * 2 + 1)).map AV.d := by simp
              rw [e]
              exact hN _ (k + 1, ds.take (k * 2) ++ .int .i64 (-5) :: ds.drop (k * 2 + 1)) ⟨hkl, by simp; omega⟩ (by (refine Wk.of ?_ ?_ (by simp) <;> repeat' (first | exact WkB_ds | (first | exact True.intro | exact ⟨_, rfl, wkt_same rfl⟩ | exact ⟨_, rfl, wkt_erase rfl⟩ | exact ⟨_, rfl, .inl .nild⟩ | exact ⟨_, rfl, .inl .nile⟩ | exact ⟨_, rfl, wkt_nils⟩ | exact wkt_same rfl | exact wkt_erase rfl | exact .inl .nild | exact .inl .nile | exact wkt_nils | exact WkB.same rfl | exact WkB_rows | exact WkB_nil | exact .dead _ | refine WkB_cons ?_ ?_ | refine And.intro ?_ ?_)))) (by simp only; omega)
            · clear hN
              obtain ⟨dr2, hdr2⟩ : ∃ z, z = ds := ⟨_, rfl⟩
              rw [← hdr2]
              (simp (config := { maxSteps := 1000000 }) [])
              (refine AWcall_det hsame (by rfl) (by rfl) ?_)
              (simp (config := { maxSteps := 1000000 }) [])
              (first | exact hR _ _ (Fin_ret _ rfl rfl rfl) | exact hR _ _ (Fin_normal _ rfl rfl rfl) | exact hR _ _ (Fin_ret _ rfl rfl (by simp [AV.erase, AV.unview]; done)) | exact hR _ _ (Fin_normal _ rfl rfl (by simp [AV.erase, AV.unview]; done)) | fail "no end")
end
end Go.AE

/- The pairs that hold for some values of registers and locations. -/
set_option linter.unusedVariables false
namespace Go.AE
open Go
def intRow (n : Int) : List D := [.int .i64 n]
def intsD (l : List Int) : D := .sl (l.map intRow)
def rowP (r s : List Int) (v m : Nat) : List Pair := ((List.range m).filter fun l => decide (r[v]? = s[l]?)).map fun (l : Nat) => (⟨(v : Int), (l : Int)⟩ : Pair)
def knowP (r s : List Int) (n : Nat) : List Pair := (List.range n).flatMap fun v => rowP r s v s.length
def knownP (r s : List Int) : List Pair := knowP r s r.length
theorem rowP_zero (r s : List Int) (v : Nat) : rowP r s v 0 = [] := rfl
theorem rowP_succ (r s : List Int) (v m : Nat) : rowP r s v (m + 1) = if r[v]? = s[m]? then rowP r s v m ++ [⟨(v : Int), (m : Int)⟩] else rowP r s v m := by
  unfold rowP
  rw [List.range_succ, List.filter_append, List.map_append]
  by_cases h : r[v]? = s[m]? <;> simp [h]
theorem knowP_zero (r s : List Int) : knowP r s 0 = [] := rfl
theorem knowP_succ (r s : List Int) (n : Nat) : knowP r s (n + 1) = knowP r s n ++ rowP r s n s.length := by
  unfold knowP
  rw [List.range_succ, List.flatMap_append]; simp
theorem rowP_len (r s : List Int) (v m : Nat) : (rowP r s v m).length ≤ m := by
  unfold rowP; rw [List.length_map]
  have := List.length_filter_le (fun l => decide (r[v]? = s[l]?)) (List.range m)
  rw [List.length_range] at this; exact this
theorem knowP_len (r s : List Int) (n : Nat) : (knowP r s n).length ≤ n * s.length := by
  induction n with
  | zero => simp [knowP_zero]
  | succ n ih => rw [knowP_succ, List.length_append, Nat.add_mul]; have := rowP_len r s n s.length; omega
theorem mem_rowP {r s : List Int} {v m : Nat} {q : Pair} : q ∈ rowP r s v m ↔ ∃ l : Nat, l < m ∧ r[v]? = s[l]? ∧ q = ⟨(v : Int), (l : Int)⟩ := by
  unfold rowP
  simp only [List.mem_map, List.mem_filter, List.mem_range, decide_eq_true_eq]
  constructor
  · rintro ⟨l, ⟨h1, h2⟩, h3⟩; exact ⟨l, h1, h2, h3.symm⟩
  · rintro ⟨l, h1, h2, h3⟩; exact ⟨l, ⟨h1, h2⟩, h3.symm⟩
theorem mem_knowP {r s : List Int} {n : Nat} {q : Pair} : q ∈ knowP r s n ↔ ∃ v l : Nat, v < n ∧ l < s.length ∧ r[v]? = s[l]? ∧ q = ⟨(v : Int), (l : Int)⟩ := by
  unfold knowP
  simp only [List.mem_flatMap, List.mem_range, mem_rowP]
  constructor
  · rintro ⟨v, h1, l, h2, h3, h4⟩; exact ⟨v, l, h1, h2, h3, h4⟩
  · rintro ⟨v, l, h1, h2, h3, h4⟩; exact ⟨v, h1, l, h2, h3, h4⟩
theorem mem_knownP {r s : List Int} {q : Pair} : q ∈ knownP r s ↔ ∃ v l : Nat, v < r.length ∧ l < s.length ∧ r[v]? = s[l]? ∧ q = ⟨(v : Int), (l : Int)⟩ := mem_knowP
theorem nat_mem {r s : List Int} {v l : Nat} : (⟨(v : Int), (l : Int)⟩ : Pair) ∈ knownP r s ↔ v < r.length ∧ l < s.length ∧ r[v]? = s[l]? := by
  rw [mem_knownP]
  constructor
  · rintro ⟨v', l', h1, h2, h3, h4⟩
    injection h4 with h4 h5
    have e1 : v = v' := by omega
    have e2 : l = l' := by omega
    subst e1; subst e2
    exact ⟨h1, h2, h3⟩
  · rintro ⟨h1, h2, h3⟩; exact ⟨v, l, h1, h2, h3, rfl⟩
theorem srt_rowP (r s : List Int) (v m : Nat) : Srt (rowP r s v m) := by
  induction m with
  | zero => exact List.Pairwise.nil
  | succ m ih =>
    rw [rowP_succ]; split
    · refine List.pairwise_append.2 ⟨ih, List.pairwise_singleton _ _, fun x hx y hy => ?_⟩
      rw [mem_rowP] at hx
      obtain ⟨l, h1, _, rfl⟩ := hx
      rw [List.mem_singleton] at hy; subst hy
      rw [lessP_iff]; right; exact ⟨rfl, by simp only; omega⟩
    · exact ih
theorem srt_knowP (r s : List Int) (n : Nat) : Srt (knowP r s n) := by
  induction n with
  | zero => exact List.Pairwise.nil
  | succ n ih =>
    rw [knowP_succ]
    refine List.pairwise_append.2 ⟨ih, srt_rowP _ _ _ _, fun x hx y hy => ?_⟩
    rw [mem_knowP] at hx
    rw [mem_rowP] at hy
    obtain ⟨v, l, h1, _, _, rfl⟩ := hx
    obtain ⟨l2, _, _, rfl⟩ := hy
    rw [lessP_iff]; left; simp only; omega
theorem srt_knownP (r s : List Int) : Srt (knownP r s) := srt_knowP _ _ _
theorem set_at {l : List Int} {x v : Nat} {n : Int} (hx : x < l.length) : (l.set x n)[v]? = if v = x then some n else l[v]? := by
  rw [List.getElem?_set]
  by_cases h : v = x
  · subst h; simp [hx]
  · rw [if_neg (Ne.symm h), if_neg h]
theorem copy_known {r s : List Int} {x y : Nat} (hx : x < r.length) (hy : y < r.length) (q : Pair) : q ∈ copyP (knownP r s) x y ↔ q ∈ knownP (r.set x r[y]) s := by
  have ey : r[y]? = some r[y] := List.getElem?_eq_getElem hy
  rw [mem_copyP]
  constructor
  · rintro (⟨h1, h2⟩ | ⟨h1, h2⟩)
    · obtain ⟨v, k, h3, h4, h5, rfl⟩ := mem_knownP.1 h1
      rw [nat_mem, List.length_set, set_at hx]
      refine ⟨h3, h4, ?_⟩
      split
      · rename_i hv; subst hv
        rcases h2 with h2 | h2
        · have : v = y := by omega
          subst this; rw [← ey]; exact h5
        · exact absurd rfl h2
      · exact h5
    · obtain ⟨v, k, h3, h4, h5, h6⟩ := mem_knownP.1 h2
      injection h6 with h6 h7
      have : y = v := by omega
      subst this
      have e : q = ⟨(x : Int), (k : Int)⟩ := eq_pair h1 h7
      rw [e, nat_mem, List.length_set, set_at hx, if_pos rfl]
      exact ⟨hx, h4, by rw [← ey]; exact h5⟩
  · intro h
    obtain ⟨v, k, h3, h4, h5, rfl⟩ := mem_knownP.1 h
    rw [List.length_set] at h3
    rw [set_at hx] at h5
    split at h5
    · rename_i hv; subst hv
      right; exact ⟨rfl, nat_mem.2 ⟨hy, h4, by rw [ey]; exact h5⟩⟩
    · rename_i hv
      left; exact ⟨nat_mem.2 ⟨h3, h4, h5⟩, .inr (by simp only; omega)⟩
theorem move_known {r s : List Int} {x y : Nat} (hx : x < s.length) (hy : y < s.length) (q : Pair) : q ∈ moveP (knownP r s) x y ↔ q ∈ knownP r (s.set x s[y]) := by
  have ey : s[y]? = some s[y] := List.getElem?_eq_getElem hy
  rw [mem_moveP]
  constructor
  · rintro (⟨h1, h2⟩ | ⟨h1, h2⟩)
    · obtain ⟨v, k, h3, h4, h5, rfl⟩ := mem_knownP.1 h1
      rw [nat_mem, List.length_set, set_at hx]
      refine ⟨h3, h4, ?_⟩
      split
      · rename_i hv; subst hv
        rcases h2 with h2 | h2
        · have : k = y := by omega
          subst this; rw [← ey]; exact h5
        · exact absurd rfl h2
      · exact h5
    · obtain ⟨v, k, h3, h4, h5, h6⟩ := mem_knownP.1 h2
      injection h6 with h6 h7
      have : y = k := by omega
      subst this
      have e : q = ⟨(v : Int), (x : Int)⟩ := eq_pair h6 h1
      rw [e, nat_mem, List.length_set, set_at hx, if_pos rfl]
      exact ⟨h3, hx, by rw [← ey]; exact h5⟩
  · intro h
    obtain ⟨v, k, h3, h4, h5, rfl⟩ := mem_knownP.1 h
    rw [List.length_set] at h4
    rw [set_at hx] at h5
    split at h5
    · rename_i hv; subst hv
      right; exact ⟨rfl, nat_mem.2 ⟨h3, hy, by rw [ey]; exact h5⟩⟩
    · rename_i hv
      left; exact ⟨nat_mem.2 ⟨h3, h4, h5⟩, .inr (by simp only; omega)⟩
theorem def_sound {r s : List Int} {x y : Nat} {n : Int} (hx : x < r.length) (hy : y < s.length) (q : Pair) (h : q ∈ defP (knownP r s) x y) : q ∈ knownP (r.set x n) (s.set y n) := by
  rw [mem_defP] at h
  rcases h with rfl | ⟨h1, h2, h3⟩
  · rw [nat_mem, List.length_set, List.length_set, set_at hx, set_at hy, if_pos rfl, if_pos rfl]
    exact ⟨hx, hy, rfl⟩
  · obtain ⟨v, k, h4, h5, h6, rfl⟩ := mem_knownP.1 h1
    rw [nat_mem, List.length_set, List.length_set, set_at hx, set_at hy, if_neg (by simp only at h2; omega), if_neg (by simp only at h3; omega)]
    exact ⟨h4, h5, h6⟩
theorem def_known {r s : List Int} {x y : Nat} {n : Int} (hx : x < r.length) (hy : y < s.length) (hr : n ∉ r) (hs : n ∉ s) (q : Pair) : q ∈ defP (knownP r s) x y ↔ q ∈ knownP (r.set x n) (s.set y n) := by
  refine ⟨def_sound hx hy q, fun h => ?_⟩
  obtain ⟨v, k, h3, h4, h5, rfl⟩ := mem_knownP.1 h
  rw [List.length_set] at h3 h4
  rw [set_at hx, set_at hy] at h5
  rw [mem_defP]
  by_cases hv : v = x <;> by_cases hk : k = y
  · subst hv; subst hk; exact .inl rfl
  · rw [if_pos hv, if_neg hk] at h5
    exact absurd (List.mem_of_getElem? h5.symm) hs
  · rw [if_neg hv, if_pos hk] at h5
    exact absurd (List.mem_of_getElem? h5) hr
  · rw [if_neg hv, if_neg hk] at h5
    right; exact ⟨nat_mem.2 ⟨h3, h4, h5⟩, by simp only; omega, by simp only; omega⟩
theorem copy_eq {r s : List Int} {x y : Nat} (hx : x < r.length) (hy : y < r.length) : copyP (knownP r s) x y = knownP (r.set x r[y]) s :=
  srt_ext (srt_copyP (srt_knownP _ _)) (srt_knownP _ _) (copy_known hx hy)
theorem move_eq {r s : List Int} {x y : Nat} (hx : x < s.length) (hy : y < s.length) : moveP (knownP r s) x y = knownP r (s.set x s[y]) :=
  srt_ext (srt_moveP (srt_knownP _ _)) (srt_knownP _ _) (move_known hx hy)
theorem def_eq {r s : List Int} {x y : Nat} {n : Int} (hx : x < r.length) (hy : y < s.length) (hr : n ∉ r) (hs : n ∉ s) : defP (knownP r s) x y = knownP (r.set x n) (s.set y n) :=
  srt_ext (srt_defP (srt_knownP _ _)) (srt_knownP _ _) (def_known hx hy hr hs)
section
theorem law12_known_calls {P : Program} {p : Nums} (A : All P p) (r s : List Int) (h0 : r.length ≤ 20) (h1 : s.length ≤ 20) : CallsTo P p.law12_known [.d (intsD r), .d (intsD s)] [] fun o _ => o = .ret (.d (pairsD (knownP r s))) := by
  refine A.law12_known.run rfl fun R hR => ?_
  (simp (config := { maxSteps := 1000000 }) [ic_law12_known, intsD])
  refine AW_loop (fun v : Nat => ⟨[(6, AI v), (5, .own 2 ((knowP r s v).map Pair.row)), (4, .nils), (1, .d (.sl (s.map intRow))), (0, .d (.sl (r.map intRow)))], []⟩) (fun v => v ≤ r.length) (fun v => r.length - v) 0 (by simp) (by simp only [knowP_zero, List.map_nil]; (refine Wk.of ?_ ?_ (by simp) <;> repeat' (first | exact True.intro | exact ⟨_, rfl, wkt_same rfl⟩ | exact ⟨_, rfl, wkt_erase rfl⟩ | exact ⟨_, rfl, .inl .nild⟩ | exact ⟨_, rfl, .inl .nile⟩ | exact ⟨_, rfl, wkt_nils⟩ | exact wkt_same rfl | exact wkt_erase rfl | exact .inl .nild | exact .inl .nile | exact wkt_nils | exact WkB.same rfl | exact WkB_rows | exact WkB_nil | exact .dead _ | refine WkB_cons ?_ ?_ | refine And.intro ?_ ?_))) ?_
  intro v hv N hN
  (simp (config := { maxSteps := 1000000 }) [])
  ((first | refine AW_cond_split _ (by rfl) (fun h2 => ?_) (fun h2 => ?_) | refine AWop_split _ (by rfl) (fun h2 => ?_) (fun h2 => ?_)) <;> (try simp only [decide_eq_true_eq, decide_eq_false_iff_not, Bool.not_eq_true', Bool.not_eq_false', Bool.and_eq_true, Bool.or_eq_true, beq_iff_eq, bne_iff_ne, ne_eq, beq_eq_false_iff_ne, bne_eq_false_iff_eq] at h2))
  · have hvl : v < r.length := by simpa using h2
    have hbv : r[v]? = some r[v] := by simp
    have hw := wrap_succ (k := v) (by omega)
    have hkl := knowP_len r s v
    have hkl2 : v * s.length ≤ 20 * 20 := Nat.mul_le_mul (by omega) h1
    have hN' := fun st' h => hN st' (v + 1) hvl h (by omega)
    rw [knowP_succ] at hN'
    obtain ⟨K, hK⟩ : ∃ K, K = knowP r s v := ⟨_, rfl⟩
    rw [← hK] at hkl hN' ⊢
    (simp (config := { maxSteps := 1000000 }) [h2])
    refine AW_loop (fun l : Nat => ⟨[(7, AI l), (6, AI v), (5, .own 2 ((K ++ rowP r s v l).map Pair.row)), (4, .nils), (1, .d (.sl (s.map intRow))), (0, .d (.sl (r.map intRow)))], []⟩) (fun l => l ≤ s.length) (fun l => s.length - l) 0 (by simp) (by simp only [rowP_zero, List.append_nil]; (refine Wk.of ?_ ?_ (by simp) <;> repeat' (first | exact True.intro | exact ⟨_, rfl, wkt_same rfl⟩ | exact ⟨_, rfl, wkt_erase rfl⟩ | exact ⟨_, rfl, .inl .nild⟩ | exact ⟨_, rfl, .inl .nile⟩ | exact ⟨_, rfl, wkt_nils⟩ | exact wkt_same rfl | exact wkt_erase rfl | exact .inl .nild | exact .inl .nile | exact wkt_nils | exact WkB.same rfl | exact WkB_rows | exact WkB_nil | exact .dead _ | refine WkB_cons ?_ ?_ | refine And.intro ?_ ?_))) ?_
    intro l hl M hM
    (simp (config := { maxSteps := 1000000 }) [])
    ((first | refine AW_cond_split _ (by rfl) (fun h3 => ?_) (fun h3 => ?_) | refine AWop_split _ (by rfl) (fun h3 => ?_) (fun h3 => ?_)) <;> (try simp only [decide_eq_true_eq, decide_eq_false_iff_not, Bool.not_eq_true', Bool.not_eq_false', Bool.and_eq_true, Bool.or_eq_true, beq_iff_eq, bne_iff_ne, ne_eq, beq_eq_false_iff_ne, bne_eq_false_iff_eq] at h3))
    · have hll : l < s.length := by simpa using h3
      have hbl : s[l]? = some s[l] := by simp
      have hw2 := wrap_succ (k := l) (by omega)
      have hM' := fun st' h => hM st' (l + 1) hll h (by omega)
      rw [rowP_succ, hbv, hbl] at hM'
      have hrl := rowP_len r s v l
      obtain ⟨W, hW⟩ : ∃ W, W = rowP r s v l := ⟨_, rfl⟩
      rw [← hW] at hrl hM' ⊢
      (simp (config := { maxSteps := 1000000 }) [h3, hbv, hbl, intRow])
      by_cases h4 : r[v] = s[l]
      · rw [if_pos (by rw [h4])] at hM'
        (simp (config := { maxSteps := 1000000 }) [h4])
        (refine AWio_app_own (by rfl) (by rfl) (by rfl) ?_ (by decide) ?_ ?_ ?_)
        · simp
        · simp; omega
        · simp; omega
        (simp (config := { maxSteps := 1000000 }) [hw2])
        exact hM' _ (by simp [Pair.row]; (refine Wk.of ?_ ?_ (by simp) <;> repeat' (first | exact True.intro | exact ⟨_, rfl, wkt_same rfl⟩ | exact ⟨_, rfl, wkt_erase rfl⟩ | exact ⟨_, rfl, .inl .nild⟩ | exact ⟨_, rfl, .inl .nile⟩ | exact ⟨_, rfl, wkt_nils⟩ | exact wkt_same rfl | exact wkt_erase rfl | exact .inl .nild | exact .inl .nile | exact wkt_nils | exact WkB.same rfl | exact WkB_rows | exact WkB_nil | exact .dead _ | refine WkB_cons ?_ ?_ | refine And.intro ?_ ?_)))
      · rw [if_neg (fun h => h4 (Option.some.inj h))] at hM'
        (simp (config := { maxSteps := 1000000 }) [h4, hw2])
        exact hM' _ (by simp; (refine Wk.of ?_ ?_ (by simp) <;> repeat' (first | exact True.intro | exact ⟨_, rfl, wkt_same rfl⟩ | exact ⟨_, rfl, wkt_erase rfl⟩ | exact ⟨_, rfl, .inl .nild⟩ | exact ⟨_, rfl, .inl .nile⟩ | exact ⟨_, rfl, wkt_nils⟩ | exact wkt_same rfl | exact wkt_erase rfl | exact .inl .nild | exact .inl .nile | exact wkt_nils | exact WkB.same rfl | exact WkB_rows | exact WkB_nil | exact .dead _ | refine WkB_cons ?_ ?_ | refine And.intro ?_ ?_)))
    · have hl' : l = s.length := by simp at h3; omega
      subst hl'
      clear hM
      (simp (config := { maxSteps := 1000000 }) [hw])
      exact hN' _ (by simp; (refine Wk.of ?_ ?_ (by simp) <;> repeat' (first | exact True.intro | exact ⟨_, rfl, wkt_same rfl⟩ | exact ⟨_, rfl, wkt_erase rfl⟩ | exact ⟨_, rfl, .inl .nild⟩ | exact ⟨_, rfl, .inl .nile⟩ | exact ⟨_, rfl, wkt_nils⟩ | exact wkt_same rfl | exact wkt_erase rfl | exact .inl .nild | exact .inl .nile | exact wkt_nils | exact WkB.same rfl | exact WkB_rows | exact WkB_nil | exact .dead _ | refine WkB_cons ?_ ?_ | refine And.intro ?_ ?_)))
  · have hv' : v = r.length := by simp at h2; omega
    subst hv'
    (simp (config := { maxSteps := 1000000 }) [])
    have e : knowP r s r.length = knownP r s := rfl
    rw [e]
    (first | exact hR _ _ (Fin_ret _ rfl rfl rfl) | exact hR _ _ (Fin_normal _ rfl rfl rfl) | exact hR _ _ (Fin_ret _ rfl rfl (by simp [AV.erase, AV.unview, pairsD]; done)) | exact hR _ _ (Fin_normal _ rfl rfl (by simp [AV.erase, AV.unview, pairsD]; done)) | fail "no end")
end
end Go.AE

/- Transfer: whether all pairs hold. -/
set_option linter.unusedVariables false
namespace Go.AE
open Go
section
set_option maxRecDepth 20000 in
set_option maxHeartbeats 2000000 in
theorem law12_holds_calls {P : Program} {p : Nums} (A : All P p) (l : List Pair) (r s : List Int) (h0 : l.length < 1000000) (hr0 : r.length ≤ 20) (hs0 : s.length ≤ 20) (hk : ∀ q ∈ l, q ∈ knownP r s) : CallsTo P p.law12_holds [.d (pairsD l), .d (intsD r), .d (intsD s)] [] fun o _ => o = .ret (AB true) := by
  refine A.law12_holds.run rfl fun R hR => ?_
  (simp (config := { maxSteps := 1000000 }) [ic_law12_holds, pairsD, intsD])
  refine AW_loop (fun k : Nat => ⟨[(7, AI k), (6, AB false), (2, .d (.sl (s.map intRow))), (1, .d (.sl (r.map intRow))), (0, .d (.sl (l.map Pair.row)))], []⟩) (fun k => k ≤ l.length) (fun k => l.length - k) 0 (by simp) (by (refine Wk.of ?_ ?_ (by simp) <;> repeat' (first | exact True.intro | exact ⟨_, rfl, wkt_same rfl⟩ | exact ⟨_, rfl, wkt_erase rfl⟩ | exact ⟨_, rfl, .inl .nild⟩ | exact ⟨_, rfl, .inl .nile⟩ | exact ⟨_, rfl, wkt_nils⟩ | exact wkt_same rfl | exact wkt_erase rfl | exact .inl .nild | exact .inl .nile | exact wkt_nils | exact WkB.same rfl | exact WkB_rows | exact WkB_nil | exact .dead _ | refine WkB_cons ?_ ?_ | refine And.intro ?_ ?_))) ?_
  intro k hkk N hN
  (simp (config := { maxSteps := 1000000 }) [])
  ((first | refine AW_cond_split _ (by rfl) (fun h2 => ?_) (fun h2 => ?_) | refine AWop_split _ (by rfl) (fun h2 => ?_) (fun h2 => ?_)) <;> (try simp only [decide_eq_true_eq, decide_eq_false_iff_not, Bool.not_eq_true', Bool.not_eq_false', Bool.and_eq_true, Bool.or_eq_true, beq_iff_eq, bne_iff_ne, ne_eq, beq_eq_false_iff_ne, bne_eq_false_iff_eq] at h2))
  · have hkl : k < l.length := by simpa using h2
    have hb : l[k]? = some l[k] := by simp
    have hw := wrap_succ (k := k) (by omega)
    have hN' := fun st' h => hN st' (k + 1) hkl h (by omega)
    obtain ⟨v, j, hv, hj, he, hq⟩ := mem_knownP.1 (hk _ (List.getElem_mem hkl))
    have e1 : l[k].v = (v : Int) := by rw [hq]
    have e2 : l[k].l = (j : Int) := by rw [hq]
    have er : r[v]? = some r[v] := List.getElem?_eq_getElem hv
    have es : s[j]? = some s[j] := List.getElem?_eq_getElem hj
    have e3 : r[v] = s[j] := by rw [er, es] at he; exact Option.some.inj he
    have n1 : ¬ ((v : Int) < 0) := by omega
    have n2 : ¬ ((j : Int) < 0) := by omega
    have n3 : ¬ (r.length ≤ v) := by omega
    have n4 : ¬ (s.length ≤ j) := by omega
    (simp (config := { maxSteps := 1000000 }) [h2, hb, Pair.row, e1, e2, er, es, e3, n1, n2, n3, n4, intRow, hw])
    exact hN' _ (by (refine Wk.of ?_ ?_ (by simp) <;> repeat' (first | exact True.intro | exact ⟨_, rfl, wkt_same rfl⟩ | exact ⟨_, rfl, wkt_erase rfl⟩ | exact ⟨_, rfl, .inl .nild⟩ | exact ⟨_, rfl, .inl .nile⟩ | exact ⟨_, rfl, wkt_nils⟩ | exact wkt_same rfl | exact wkt_erase rfl | exact .inl .nild | exact .inl .nile | exact wkt_nils | exact WkB.same rfl | exact WkB_rows | exact WkB_nil | exact .dead _ | refine WkB_cons ?_ ?_ | refine And.intro ?_ ?_)))
  · have hk' : k = l.length := by simp at h2; omega
    subst hk'
    (simp (config := { maxSteps := 1000000 }) [])
    (first | exact hR _ _ (Fin_ret _ rfl rfl rfl) | exact hR _ _ (Fin_normal _ rfl rfl rfl) | exact hR _ _ (Fin_ret _ rfl rfl (by simp [AV.erase, AV.unview]; done)) | exact hR _ _ (Fin_normal _ rfl rfl (by simp [AV.erase, AV.unview]; done)) | fail "no end")
end
end Go.AE

/- Transfer: what holds before holds after. -/
set_option linter.unusedVariables false
namespace Go.AE
open Go
def boolRow (b : Bool) : List D := [.bool b]
def boolsD (l : List Bool) : D := .sl (l.map boolRow)
def AU (n : Int) : AV := .d (.int .u8 n)
theorem rowCells_int (l : List Int) : rowCells (l.map intRow) = l.map AI := by
  unfold rowCells
  induction l with
  | nil => rfl
  | cons x l ih => simp only [List.map_cons, List.flatten_cons, intRow, List.map_append, ih]; rfl
/-- A slice of numbers, told by what it holds. -/
theorem WkT_ints {H : List Blk} {b m n : Nat} {l : List Int} (hb : H[b]? = some (.mem (l.map AI))) (hm : m ≤ b) (hl : n = l.length) : WkT H m (.hsl b 0 1 n) (.d (.sl (l.map intRow))) := by
  subst hl
  refine .inl (.hsl b 0 1 l.length (l.map AI) (l.map intRow) hb hm ?_ (by simp) (by intro r hr; obtain ⟨x, _, rfl⟩ := List.mem_map.1 hr; rfl))
  have := rowCells_int l
  unfold rowCells at this
  rw [this, List.drop_zero, List.take_of_length_le (by simp)]
theorem set_ints {l : List Int} {x : Nat} {n : Int} (hx : x < l.length) : List.take x (l.map AI) ++ AV.d (.int .i64 n) :: List.drop (x + 1) (l.map AI) = (l.set x n).map AI := by
  rw [List.set_eq_take_append_cons_drop, if_pos hx]; simp
theorem mod_nat {d : Int} {n : Nat} (hd : 0 ≤ d) (hn : n ≠ 0) : ∃ x : Nat, x < n ∧ d.tmod n = (x : Int) := by
  refine ⟨d.toNat % n, Nat.mod_lt _ (by omega), ?_⟩
  obtain ⟨k, rfl⟩ := Int.eq_ofNat_of_zero_le hd
  rfl
section
set_option maxHeartbeats 4000000 in
theorem law12_TransferSound_calls {P : Program} {p : Nums} (A : All P p) (S : SortOk P p) (C : ClosOk P p) (r s : List Int) (dr : List Bool) (d a t u n : Int) (hd : 0 ≤ d ∧ d < 256) (ha : 0 ≤ a ∧ a < 256) (ht : 0 ≤ t ∧ t < 256) (hu : 0 ≤ u ∧ u < 256) :
    CallsTo P p.law12_TransferSound [.d (intsD r), .d (intsD s), .d (boolsD dr), AU d, AU a, AU t, AU u, AI n] [] fun o _ => o = .ret (AB true) := by
  refine A.law12_TransferSound.run rfl fun R hR => ?_
  (simp (config := { maxSteps := 1000000 }) [ic_law12_TransferSound, intsD, boolsD, AU])
  (refine AWcall_det (law12_awake_calls A S C) (by rfl) (by rfl) ?_)
  (simp (config := { maxSteps := 1000000 }) [])
  by_cases g1 : r.length = 0
  · have g1' : r = [] := List.length_eq_zero_iff.1 g1
    (simp (config := { maxSteps := 1000000 }) [g1'])
    (refine AWcall_det (law12_awake_calls A S C) (by rfl) (by rfl) ?_)
    (simp (config := { maxSteps := 1000000 }) [])
    (first | exact hR _ _ (Fin_ret _ rfl rfl rfl) | exact hR _ _ (Fin_normal _ rfl rfl rfl) | exact hR _ _ (Fin_ret _ rfl rfl (by simp [AV.erase, AV.unview]; done)) | exact hR _ _ (Fin_normal _ rfl rfl (by simp [AV.erase, AV.unview]; done)) | fail "no end")
  have g1' : r ≠ [] := fun h => g1 (by rw [h]; rfl)
  (simp (config := { maxSteps := 1000000 }) [g1'])
  by_cases g2 : s.length = 0
  · have g2' : s = [] := List.length_eq_zero_iff.1 g2
    (simp (config := { maxSteps := 1000000 }) [g2'])
    (refine AWcall_det (law12_awake_calls A S C) (by rfl) (by rfl) ?_)
    (simp (config := { maxSteps := 1000000 }) [])
    (first | exact hR _ _ (Fin_ret _ rfl rfl rfl) | exact hR _ _ (Fin_normal _ rfl rfl rfl) | exact hR _ _ (Fin_ret _ rfl rfl (by simp [AV.erase, AV.unview]; done)) | exact hR _ _ (Fin_normal _ rfl rfl (by simp [AV.erase, AV.unview]; done)) | fail "no end")
  have g2' : s ≠ [] := fun h => g2 (by rw [h]; rfl)
  (simp (config := { maxSteps := 1000000 }) [g2'])
  ((first | refine AW_cond_split _ (by rfl) (fun g3 => ?_) (fun g3 => ?_) | refine AWop_split _ (by rfl) (fun g3 => ?_) (fun g3 => ?_)) <;> (try simp only [decide_eq_true_eq, decide_eq_false_iff_not, Bool.not_eq_true', Bool.not_eq_false', Bool.and_eq_true, Bool.or_eq_true, beq_iff_eq, bne_iff_ne, ne_eq, beq_eq_false_iff_ne, bne_eq_false_iff_eq] at g3))
  · (simp (config := { maxSteps := 1000000 }) [g3])
    (refine AWcall_det (law12_awake_calls A S C) (by rfl) (by rfl) ?_)
    (simp (config := { maxSteps := 1000000 }) [])
    (first | exact hR _ _ (Fin_ret _ rfl rfl rfl) | exact hR _ _ (Fin_normal _ rfl rfl rfl) | exact hR _ _ (Fin_ret _ rfl rfl (by simp [AV.erase, AV.unview]; done)) | exact hR _ _ (Fin_normal _ rfl rfl (by simp [AV.erase, AV.unview]; done)) | fail "no end")
  (simp (config := { maxSteps := 1000000 }) [g3])
  ((first | refine AW_cond_split _ (by rfl) (fun g4 => ?_) (fun g4 => ?_) | refine AWop_split _ (by rfl) (fun g4 => ?_) (fun g4 => ?_)) <;> (try simp only [decide_eq_true_eq, decide_eq_false_iff_not, Bool.not_eq_true', Bool.not_eq_false', Bool.and_eq_true, Bool.or_eq_true, beq_iff_eq, bne_iff_ne, ne_eq, beq_eq_false_iff_ne, bne_eq_false_iff_eq] at g4))
  · (simp (config := { maxSteps := 1000000 }) [g4])
    (refine AWcall_det (law12_awake_calls A S C) (by rfl) (by rfl) ?_)
    (simp (config := { maxSteps := 1000000 }) [])
    (first | exact hR _ _ (Fin_ret _ rfl rfl rfl) | exact hR _ _ (Fin_normal _ rfl rfl rfl) | exact hR _ _ (Fin_ret _ rfl rfl (by simp [AV.erase, AV.unview]; done)) | exact hR _ _ (Fin_normal _ rfl rfl (by simp [AV.erase, AV.unview]; done)) | fail "no end")
  (simp (config := { maxSteps := 1000000 }) [g4])
  have lr : r.length ≤ 20 := by omega
  have ls : s.length ≤ 20 := by omega
  (refine AWcall_det (law12_known_calls A r s lr ls) (by rfl) (by rfl) ?_)
  have hks := srt_knownP r s
  have hkl := knowP_len r s r.length
  have hkl2 : r.length * s.length ≤ 20 * 20 := Nat.mul_le_mul lr ls
  have hke : knowP r s r.length = knownP r s := rfl
  rw [hke] at hkl
  obtain ⟨L, hL⟩ : ∃ L, L = knownP r s := ⟨_, rfl⟩
  rw [← hL] at hks hkl ⊢
  (simp (config := { maxSteps := 1000000 }) [pairsD])
  refine AW_loop (fun z : Nat × List Pair => ⟨[(19, AI z.1), (18, .own 2 (z.2.map Pair.row)), (17, .d (.sl (L.map Pair.row))), (16, AB false), (0, .d (.sl (r.map intRow))), (1, .d (.sl (s.map intRow))), (2, .d (.sl (dr.map boolRow))), (3, .d (.int .u8 d)), (4, .d (.int .u8 a)), (5, .d (.int .u8 t)), (6, .d (.int .u8 u)), (7, AI n)], []⟩)
    (fun z => z.1 ≤ L.length ∧ z.2.Sublist (L.take z.1)) (fun z => L.length - z.1) (0, []) ⟨Nat.zero_le _, by simp⟩ (by simp only [List.map_nil]; (refine Wk.of ?_ ?_ (by simp) <;> repeat' (first | exact True.intro | exact ⟨_, rfl, wkt_same rfl⟩ | exact ⟨_, rfl, wkt_erase rfl⟩ | exact ⟨_, rfl, .inl .nild⟩ | exact ⟨_, rfl, .inl .nile⟩ | exact ⟨_, rfl, wkt_nils⟩ | exact wkt_same rfl | exact wkt_erase rfl | exact .inl .nild | exact .inl .nile | exact wkt_nils | exact WkB.same rfl | exact WkB_rows | exact WkB_nil | exact .dead _ | refine WkB_cons ?_ ?_ | refine And.intro ?_ ?_))) ?_
  rintro ⟨k, out⟩ ⟨hk, hsub⟩ N hN
  simp only at hk hsub hN ⊢
  (simp (config := { maxSteps := 1000000 }) [])
  ((first | refine AW_cond_split _ (by rfl) (fun h2 => ?_) (fun h2 => ?_) | refine AWop_split _ (by rfl) (fun h2 => ?_) (fun h2 => ?_)) <;> (try simp only [decide_eq_true_eq, decide_eq_false_iff_not, Bool.not_eq_true', Bool.not_eq_false', Bool.and_eq_true, Bool.or_eq_true, beq_iff_eq, bne_iff_ne, ne_eq, beq_eq_false_iff_ne, bne_eq_false_iff_eq] at h2))
  · have hkl2 : k < L.length := by simpa using h2
    have hb : L[k]? = some L[k] := by simp
    have hw := wrap_succ (k := k) (by omega)
    have hol := hsub.length_le
    rw [List.length_take] at hol
    have hs1 : out.Sublist (L.take (k + 1)) := by
      rw [List.take_add_one]; exact hsub.trans (List.sublist_append_left _ _)
    have hs2 : (out ++ [L[k]]).Sublist (L.take (k + 1)) := by
      rw [List.take_add_one, hb]; exact hsub.append (List.Sublist.refl _)
    (simp (config := { maxSteps := 1000000 }) [h2])
    by_cases h3 : dr.length ≤ k
    · (simp (config := { maxSteps := 1000000 }) [h3, hb, Pair.row])
      (refine AWio_app_own (by rfl) (by rfl) (by rfl) ?_ (by decide) ?_ ?_ ?_)
      · simp
      · simp; omega
      · simp; omega
      (simp (config := { maxSteps := 1000000 }) [hw])
      exact hN _ (k + 1, out ++ [L[k]]) ⟨hkl2, hs2⟩ (by simp [Pair.row]; (refine Wk.of ?_ ?_ (by simp) <;> repeat' (first | exact True.intro | exact ⟨_, rfl, wkt_same rfl⟩ | exact ⟨_, rfl, wkt_erase rfl⟩ | exact ⟨_, rfl, .inl .nild⟩ | exact ⟨_, rfl, .inl .nile⟩ | exact ⟨_, rfl, wkt_nils⟩ | exact wkt_same rfl | exact wkt_erase rfl | exact .inl .nild | exact .inl .nile | exact wkt_nils | exact WkB.same rfl | exact WkB_rows | exact WkB_nil | exact .dead _ | refine WkB_cons ?_ ?_ | refine And.intro ?_ ?_))) (by simp only; omega)
    · have hdk : k < dr.length := by omega
      have hbd : dr[k]? = some dr[k] := by simp
      cases h4 : dr[k] with
      | true =>
        rw [h4] at hbd
        (simp (config := { maxSteps := 1000000 }) [h3, hdk, hbd, h4, boolRow, hw])
        exact hN _ (k + 1, out) ⟨hkl2, hs1⟩ (by (refine Wk.of ?_ ?_ (by simp) <;> repeat' (first | exact True.intro | exact ⟨_, rfl, wkt_same rfl⟩ | exact ⟨_, rfl, wkt_erase rfl⟩ | exact ⟨_, rfl, .inl .nild⟩ | exact ⟨_, rfl, .inl .nile⟩ | exact ⟨_, rfl, wkt_nils⟩ | exact wkt_same rfl | exact wkt_erase rfl | exact .inl .nild | exact .inl .nile | exact wkt_nils | exact WkB.same rfl | exact WkB_rows | exact WkB_nil | exact .dead _ | refine WkB_cons ?_ ?_ | refine And.intro ?_ ?_))) (by simp only; omega)
      | false =>
        rw [h4] at hbd
        (simp (config := { maxSteps := 1000000 }) [h3, hdk, hbd, h4, boolRow, hb, Pair.row])
        (refine AWio_app_own (by rfl) (by rfl) (by rfl) ?_ (by decide) ?_ ?_ ?_)
        · simp
        · simp; omega
        · simp; omega
        (simp (config := { maxSteps := 1000000 }) [hw])
        exact hN _ (k + 1, out ++ [L[k]]) ⟨hkl2, hs2⟩ (by simp [Pair.row]; (refine Wk.of ?_ ?_ (by simp) <;> repeat' (first | exact True.intro | exact ⟨_, rfl, wkt_same rfl⟩ | exact ⟨_, rfl, wkt_erase rfl⟩ | exact ⟨_, rfl, .inl .nild⟩ | exact ⟨_, rfl, .inl .nile⟩ | exact ⟨_, rfl, wkt_nils⟩ | exact wkt_same rfl | exact wkt_erase rfl | exact .inl .nild | exact .inl .nile | exact wkt_nils | exact WkB.same rfl | exact WkB_rows | exact WkB_nil | exact .dead _ | refine WkB_cons ?_ ?_ | refine And.intro ?_ ?_))) (by simp only; omega)
  · clear hN
    have hso : out.Sublist L := hsub.trans (List.take_sublist _ _)
    have hsl : Srt out := srt_sub hso hks
    have hol := hso.length_le
    have hmem : ∀ q ∈ out, q ∈ knownP r s := fun q hq => by rw [← hL]; exact hso.subset hq
    clear hsub hso h2 hk hks hL hke
    have hne1 : r.map intRow ≠ [] := by simpa using g1'
    have hne2 : s.map intRow ≠ [] := by simpa using g2'
    have hrow : ∀ l : List Int, ∀ r ∈ l.map intRow, r.length = 1 := fun l => rows_len fun x => rfl
    obtain ⟨x, hx, ex⟩ := mod_nat hd.1 g1
    obtain ⟨y, hy, ey⟩ := mod_nat ha.1 g1
    obtain ⟨v, hv, ev⟩ := mod_nat ht.1 g2
    obtain ⟨w, hw, ew⟩ := mod_nat hu.1 g2
    have w1 : IntKind.i64.wrap d = d := wrap_i64 (by omega) (by omega)
    have w2 : IntKind.i64.wrap a = a := wrap_i64 (by omega) (by omega)
    have w3 : IntKind.i64.wrap t = t := wrap_i64 (by omega) (by omega)
    have w4 : IntKind.i64.wrap u = u := wrap_i64 (by omega) (by omega)
    (simp (config := { maxSteps := 1000000 }) [w1, w2, w3, w4, ex, ey, ev, ew, g1', g2'])
    have hyr : r[y]? = some r[y] := List.getElem?_eq_getElem hy
    have hws : s[w]? = some s[w] := List.getElem?_eq_getElem hw
    have hx1 : x + 1 ≤ r.length := hx
    have hv1 : v + 1 ≤ s.length := hv
    obtain ⟨r1, hr1⟩ : ∃ z, z = r.set x r[y] := ⟨_, rfl⟩
    have lr1 : r.length = r1.length := by rw [hr1, List.length_set]
    obtain ⟨s1, hs1⟩ : ∃ z, z = s.set v s[w] := ⟨_, rfl⟩
    have ls1 : s.length = s1.length := by rw [hs1, List.length_set]
    obtain ⟨r2, hr2⟩ : ∃ z, z = r.set x n := ⟨_, rfl⟩
    have lr2 : r.length = r2.length := by rw [hr2, List.length_set]
    obtain ⟨s2, hs2⟩ : ∃ z, z = s.set v n := ⟨_, rfl⟩
    have ls2 : s.length = s2.length := by rw [hs2, List.length_set]
    refine AWio_app_h (.inl (by rfl)) (by rfl) (hrow r) (by decide) (by simp; omega) (by simp; omega) hne1 ?_
    rw [rowCells_int]
    (simp (config := { maxSteps := 1000000 }) [])
    rw [law12_TransferSound_m26_eq]
    refine AW_merge ⟨[(24, .d (.sl ((r1).map intRow))), (23, AI w), (22, AI v), (21, AI y), (20, AI x), (18, .d (.sl (out.map Pair.row))), (16, AB false), (0, .d (.sl (r.map intRow))), (1, .d (.sl (s.map intRow))), (7, AI n)], []⟩ (fun N hN => ?_) ?_
    · clear hR
      (simp (config := { maxSteps := 1000000 }) [hx, hy, hyr, hx1, intRow])
      rw [set_ints hx, ← hr1]
      exact hN _ (by (refine Wk.of ?_ ?_ (by simp) <;> repeat' (first | exact ⟨_, rfl, WkT_ints rfl (Nat.zero_le _) lr1⟩ | (first | exact True.intro | exact ⟨_, rfl, wkt_same rfl⟩ | exact ⟨_, rfl, wkt_erase rfl⟩ | exact ⟨_, rfl, .inl .nild⟩ | exact ⟨_, rfl, .inl .nile⟩ | exact ⟨_, rfl, wkt_nils⟩ | exact wkt_same rfl | exact wkt_erase rfl | exact .inl .nild | exact .inl .nile | exact wkt_nils | exact WkB.same rfl | exact WkB_rows | exact WkB_nil | exact .dead _ | refine WkB_cons ?_ ?_ | refine And.intro ?_ ?_))))
    (simp (config := { maxSteps := 1000000 }) [])
    refine AWio_app_h (.inl (by rfl)) (by rfl) (hrow s) (by decide) (by simp; omega) (by simp; omega) hne2 ?_
    rw [rowCells_int]
    (simp (config := { maxSteps := 1000000 }) [])
    rw [law12_TransferSound_m25_eq]
    refine AW_merge ⟨[(25, .d (.sl ((s1).map intRow))), (24, .d (.sl ((r1).map intRow))), (23, AI w), (22, AI v), (21, AI y), (20, AI x), (18, .d (.sl (out.map Pair.row))), (16, AB false), (0, .d (.sl (r.map intRow))), (1, .d (.sl (s.map intRow))), (7, AI n)], []⟩ (fun N hN => ?_) ?_
    · clear hR
      (simp (config := { maxSteps := 1000000 }) [hv, hw, hws, hv1, intRow])
      rw [set_ints hv, ← hs1]
      exact hN _ (by (refine Wk.of ?_ ?_ (by simp) <;> repeat' (first | exact ⟨_, rfl, WkT_ints rfl (Nat.zero_le _) ls1⟩ | (first | exact True.intro | exact ⟨_, rfl, wkt_same rfl⟩ | exact ⟨_, rfl, wkt_erase rfl⟩ | exact ⟨_, rfl, .inl .nild⟩ | exact ⟨_, rfl, .inl .nile⟩ | exact ⟨_, rfl, wkt_nils⟩ | exact wkt_same rfl | exact wkt_erase rfl | exact .inl .nild | exact .inl .nile | exact wkt_nils | exact WkB.same rfl | exact WkB_rows | exact WkB_nil | exact .dead _ | refine WkB_cons ?_ ?_ | refine And.intro ?_ ?_))))
    (simp (config := { maxSteps := 1000000 }) [])
    refine AWio_app_h (.inl (by rfl)) (by rfl) (hrow r) (by decide) (by simp; omega) (by simp; omega) hne1 ?_
    rw [rowCells_int]
    (simp (config := { maxSteps := 1000000 }) [])
    rw [law12_TransferSound_m24_eq]
    refine AW_merge ⟨[(26, .d (.sl ((r2).map intRow))), (25, .d (.sl ((s1).map intRow))), (24, .d (.sl ((r1).map intRow))), (23, AI w), (22, AI v), (21, AI y), (20, AI x), (18, .d (.sl (out.map Pair.row))), (16, AB false), (0, .d (.sl (r.map intRow))), (1, .d (.sl (s.map intRow))), (7, AI n)], []⟩ (fun N hN => ?_) ?_
    · clear hR
      (simp (config := { maxSteps := 1000000 }) [hx, hx1, intRow])
      rw [set_ints hx, ← hr2]
      exact hN _ (by (refine Wk.of ?_ ?_ (by simp) <;> repeat' (first | exact ⟨_, rfl, WkT_ints rfl (Nat.zero_le _) lr2⟩ | (first | exact True.intro | exact ⟨_, rfl, wkt_same rfl⟩ | exact ⟨_, rfl, wkt_erase rfl⟩ | exact ⟨_, rfl, .inl .nild⟩ | exact ⟨_, rfl, .inl .nile⟩ | exact ⟨_, rfl, wkt_nils⟩ | exact wkt_same rfl | exact wkt_erase rfl | exact .inl .nild | exact .inl .nile | exact wkt_nils | exact WkB.same rfl | exact WkB_rows | exact WkB_nil | exact .dead _ | refine WkB_cons ?_ ?_ | refine And.intro ?_ ?_))))
    (simp (config := { maxSteps := 1000000 }) [])
    refine AWio_app_h (.inl (by rfl)) (by rfl) (hrow s) (by decide) (by simp; omega) (by simp; omega) hne2 ?_
    rw [rowCells_int]
    (simp (config := { maxSteps := 1000000 }) [])
    rw [law12_TransferSound_m23_eq]
    refine AW_merge ⟨[(27, .d (.sl ((s2).map intRow))), (26, .d (.sl ((r2).map intRow))), (25, .d (.sl ((s1).map intRow))), (24, .d (.sl ((r1).map intRow))), (23, AI w), (22, AI v), (21, AI y), (20, AI x), (18, .d (.sl (out.map Pair.row))), (16, AB false), (0, .d (.sl (r.map intRow))), (1, .d (.sl (s.map intRow))), (7, AI n)], []⟩ (fun N hN => ?_) ?_
    · clear hR
      (simp (config := { maxSteps := 1000000 }) [hv, hv1, intRow])
      rw [set_ints hv, ← hs2]
      exact hN _ (by (refine Wk.of ?_ ?_ (by simp) <;> repeat' (first | exact ⟨_, rfl, WkT_ints rfl (Nat.zero_le _) ls2⟩ | (first | exact True.intro | exact ⟨_, rfl, wkt_same rfl⟩ | exact ⟨_, rfl, wkt_erase rfl⟩ | exact ⟨_, rfl, .inl .nild⟩ | exact ⟨_, rfl, .inl .nile⟩ | exact ⟨_, rfl, wkt_nils⟩ | exact wkt_same rfl | exact wkt_erase rfl | exact .inl .nild | exact .inl .nile | exact wkt_nils | exact WkB.same rfl | exact WkB_rows | exact WkB_nil | exact .dead _ | refine WkB_cons ?_ ?_ | refine And.intro ?_ ?_))))
    have lx1 := copyP_len out x y
    have lx2 := moveP_len out v w
    have lx3 := defP_len out x v
    have c1 := transfer_Copy_calls A S C out x y (by omega)
    have m1 := transfer_Move_calls A S C out v w (by omega)
    have d1 := transfer_Define_calls A S out x v (by omega) hsl
    have c2 := law12_holds_calls A (copyP out x y) (r.set x r[y]) s (by omega) (by rw [List.length_set]; exact lr) ls fun q hq => (copy_known hx hy q).1 (copyP_mono hmem q hq)
    have m2 := law12_holds_calls A (moveP out v w) r (s.set v s[w]) (by omega) lr (by rw [List.length_set]; exact ls) fun q hq => (move_known hv hw q).1 (moveP_mono hmem q hq)
    have d2 := law12_holds_calls A (defP out x v) (r.set x n) (s.set v n) (by omega) (by rw [List.length_set]; exact lr) (by rw [List.length_set]; exact ls) fun q hq => def_sound hx hv q (defP_mono hmem q hq)
    obtain ⟨cx, hcx⟩ : ∃ z, z = copyP out x y := ⟨_, rfl⟩
    obtain ⟨mx, hmx⟩ : ∃ z, z = moveP out v w := ⟨_, rfl⟩
    obtain ⟨dx, hdx⟩ : ∃ z, z = defP out x v := ⟨_, rfl⟩
    rw [← hcx] at c1 c2
    rw [← hmx] at m1 m2
    rw [← hdx] at d1 d2
    rw [← hr1] at c2
    rw [← hs1] at m2
    rw [← hr2, ← hs2] at d2
    (simp (config := { maxSteps := 1000000 }) [])
    (refine AWcall_det c1 (by rfl) (by rfl) ?_)
    (simp (config := { maxSteps := 1000000 }) [pairsD])
    (refine AWcall_det c2 (by rfl) (by rfl) ?_)
    (simp (config := { maxSteps := 1000000 }) [])
    (refine AWcall_det m1 (by rfl) (by rfl) ?_)
    (simp (config := { maxSteps := 1000000 }) [pairsD])
    (refine AWcall_det m2 (by rfl) (by rfl) ?_)
    (simp (config := { maxSteps := 1000000 }) [])
    (refine AWcall_det d1 (by rfl) (by rfl) ?_)
    (simp (config := { maxSteps := 1000000 }) [pairsD])
    (refine AWcall_det d2 (by rfl) (by rfl) ?_)
    (simp (config := { maxSteps := 1000000 }) [])
    (first | exact hR _ _ (Fin_ret _ rfl rfl rfl) | exact hR _ _ (Fin_normal _ rfl rfl rfl) | exact hR _ _ (Fin_ret _ rfl rfl (by simp [AV.erase, AV.unview]; done)) | exact hR _ _ (Fin_normal _ rfl rfl (by simp [AV.erase, AV.unview]; done)) | fail "no end")
end
end Go.AE

/- Transfer: what holds after is found. -/
set_option linter.unusedVariables false
namespace Go.AE
open Go
def u8Row (n : Int) : List D := [.int .u8 n]
def u8sD (l : List Int) : D := .sl (l.map u8Row)

section
set_option maxHeartbeats 4000000 in
theorem law12_TransferComplete_calls {P : Program} {p : Nums} (A : All P p) (S : SortOk P p) (C : ClosOk P p) (r s : List Int) (d a t u : Int) (hr : ∀ n ∈ r, 0 ≤ n ∧ n < 256) (hs : ∀ n ∈ s, 0 ≤ n ∧ n < 256) (hd : 0 ≤ d ∧ d < 256) (ha : 0 ≤ a ∧ a < 256) (ht : 0 ≤ t ∧ t < 256) (hu : 0 ≤ u ∧ u < 256) :
    CallsTo P p.law12_TransferComplete [.d (u8sD r), .d (u8sD s), AU d, AU a, AU t, AU u] [] fun o _ => o = .ret (AB true) := by
  refine A.law12_TransferComplete.run rfl fun R hR => ?_
  (simp (config := { maxSteps := 1000000 }) [ic_law12_TransferComplete, u8sD, AU])
  (refine AWcall_det (law12_awake_calls A S C) (by rfl) (by rfl) ?_)
  (simp (config := { maxSteps := 1000000 }) [])
  by_cases g1 : r.length = 0
  · have g1' : r = [] := List.length_eq_zero_iff.1 g1
    (simp (config := { maxSteps := 1000000 }) [g1'])
    (refine AWcall_det (law12_awake_calls A S C) (by rfl) (by rfl) ?_)
    (simp (config := { maxSteps := 1000000 }) [])
    (first | exact hR _ _ (Fin_ret _ rfl rfl rfl) | exact hR _ _ (Fin_normal _ rfl rfl rfl) | exact hR _ _ (Fin_ret _ rfl rfl (by simp [AV.erase, AV.unview]; done)) | exact hR _ _ (Fin_normal _ rfl rfl (by simp [AV.erase, AV.unview]; done)) | fail "no end")
  have g1' : r ≠ [] := fun h => g1 (by rw [h]; rfl)
  (simp (config := { maxSteps := 1000000 }) [g1'])
  by_cases g2 : s.length = 0
  · have g2' : s = [] := List.length_eq_zero_iff.1 g2
    (simp (config := { maxSteps := 1000000 }) [g2'])
    (refine AWcall_det (law12_awake_calls A S C) (by rfl) (by rfl) ?_)
    (simp (config := { maxSteps := 1000000 }) [])
    (first | exact hR _ _ (Fin_ret _ rfl rfl rfl) | exact hR _ _ (Fin_normal _ rfl rfl rfl) | exact hR _ _ (Fin_ret _ rfl rfl (by simp [AV.erase, AV.unview]; done)) | exact hR _ _ (Fin_normal _ rfl rfl (by simp [AV.erase, AV.unview]; done)) | fail "no end")
  have g2' : s ≠ [] := fun h => g2 (by rw [h]; rfl)
  (simp (config := { maxSteps := 1000000 }) [g2'])
  ((first | refine AW_cond_split _ (by rfl) (fun g3 => ?_) (fun g3 => ?_) | refine AWop_split _ (by rfl) (fun g3 => ?_) (fun g3 => ?_)) <;> (try simp only [decide_eq_true_eq, decide_eq_false_iff_not, Bool.not_eq_true', Bool.not_eq_false', Bool.and_eq_true, Bool.or_eq_true, beq_iff_eq, bne_iff_ne, ne_eq, beq_eq_false_iff_ne, bne_eq_false_iff_eq] at g3))
  · (simp (config := { maxSteps := 1000000 }) [g3])
    (refine AWcall_det (law12_awake_calls A S C) (by rfl) (by rfl) ?_)
    (simp (config := { maxSteps := 1000000 }) [])
    (first | exact hR _ _ (Fin_ret _ rfl rfl rfl) | exact hR _ _ (Fin_normal _ rfl rfl rfl) | exact hR _ _ (Fin_ret _ rfl rfl (by simp [AV.erase, AV.unview]; done)) | exact hR _ _ (Fin_normal _ rfl rfl (by simp [AV.erase, AV.unview]; done)) | fail "no end")
  (simp (config := { maxSteps := 1000000 }) [g3])
  ((first | refine AW_cond_split _ (by rfl) (fun g4 => ?_) (fun g4 => ?_) | refine AWop_split _ (by rfl) (fun g4 => ?_) (fun g4 => ?_)) <;> (try simp only [decide_eq_true_eq, decide_eq_false_iff_not, Bool.not_eq_true', Bool.not_eq_false', Bool.and_eq_true, Bool.or_eq_true, beq_iff_eq, bne_iff_ne, ne_eq, beq_eq_false_iff_ne, bne_eq_false_iff_eq] at g4))
  · (simp (config := { maxSteps := 1000000 }) [g4])
    (refine AWcall_det (law12_awake_calls A S C) (by rfl) (by rfl) ?_)
    (simp (config := { maxSteps := 1000000 }) [])
    (first | exact hR _ _ (Fin_ret _ rfl rfl rfl) | exact hR _ _ (Fin_normal _ rfl rfl rfl) | exact hR _ _ (Fin_ret _ rfl rfl (by simp [AV.erase, AV.unview]; done)) | exact hR _ _ (Fin_normal _ rfl rfl (by simp [AV.erase, AV.unview]; done)) | fail "no end")
  (simp (config := { maxSteps := 1000000 }) [g4])
  have lr : r.length ≤ 20 := by omega
  have ls : s.length ≤ 20 := by omega
  refine AW_loop (fun z : Nat × List Int => ⟨[(15, AI z.1), (13, .own 1 (z.2.map intRow)), (14, .nils), (12, AB false), (0, .d (.sl (r.map u8Row))), (1, .d (.sl (s.map u8Row))), (2, .d (.int .u8 d)), (3, .d (.int .u8 a)), (4, .d (.int .u8 t)), (5, .d (.int .u8 u))], []⟩)
    (fun z => z.1 ≤ r.length ∧ z.2 = r.take z.1) (fun z => r.length - z.1) (0, []) ⟨Nat.zero_le _, by simp⟩ (by simp only [List.map_nil]; (refine Wk.of ?_ ?_ (by simp) <;> repeat' (first | exact True.intro | exact ⟨_, rfl, wkt_same rfl⟩ | exact ⟨_, rfl, wkt_erase rfl⟩ | exact ⟨_, rfl, .inl .nild⟩ | exact ⟨_, rfl, .inl .nile⟩ | exact ⟨_, rfl, wkt_nils⟩ | exact wkt_same rfl | exact wkt_erase rfl | exact .inl .nild | exact .inl .nile | exact wkt_nils | exact WkB.same rfl | exact WkB_rows | exact WkB_nil | exact .dead _ | refine WkB_cons ?_ ?_ | refine And.intro ?_ ?_))) ?_
  rintro ⟨k, K⟩ ⟨hk, hK⟩ N hN
  simp only at hk hK hN ⊢
  (simp (config := { maxSteps := 1000000 }) [])
  ((first | refine AW_cond_split _ (by rfl) (fun h2 => ?_) (fun h2 => ?_) | refine AWop_split _ (by rfl) (fun h2 => ?_) (fun h2 => ?_)) <;> (try simp only [decide_eq_true_eq, decide_eq_false_iff_not, Bool.not_eq_true', Bool.not_eq_false', Bool.and_eq_true, Bool.or_eq_true, beq_iff_eq, bne_iff_ne, ne_eq, beq_eq_false_iff_ne, bne_eq_false_iff_eq] at h2))
  · have hkl : k < r.length := by simpa using h2
    have hb : r[k]? = some r[k] := by simp
    have hw := wrap_succ (k := k) (by omega)
    have hbd := hr _ (List.getElem_mem hkl)
    have hwr : IntKind.i64.wrap r[k] = r[k] := wrap_i64 (by omega) (by omega)
    have hts : r.take (k + 1) = r.take k ++ [r[k]] := by rw [List.take_add_one, hb]; rfl
    rw [← hK] at hts
    have hlt : K.length ≤ k := by rw [hK, List.length_take]; omega
    (simp (config := { maxSteps := 1000000 }) [h2, hkl, hb, u8Row, hwr])
    (refine AWio_app_own (by rfl) (by rfl) (by rfl) ?_ (by decide) ?_ ?_ ?_)
    · simp
    · simp; omega
    · simp; omega
    (simp (config := { maxSteps := 1000000 }) [hw])
    exact hN _ (k + 1, K ++ [r[k]]) ⟨hkl, hts.symm⟩ (by simp [intRow]; (refine Wk.of ?_ ?_ (by simp) <;> repeat' (first | exact True.intro | exact ⟨_, rfl, wkt_same rfl⟩ | exact ⟨_, rfl, wkt_erase rfl⟩ | exact ⟨_, rfl, .inl .nild⟩ | exact ⟨_, rfl, .inl .nile⟩ | exact ⟨_, rfl, wkt_nils⟩ | exact wkt_same rfl | exact wkt_erase rfl | exact .inl .nild | exact .inl .nile | exact wkt_nils | exact WkB.same rfl | exact WkB_rows | exact WkB_nil | exact .dead _ | refine WkB_cons ?_ ?_ | refine And.intro ?_ ?_))) (by simp only; omega)
  clear hN
  have hk' : k = r.length := by omega
  rw [hk', List.take_length] at hK
  rw [hK, hk']
  clear hk hK h2
  (simp (config := { maxSteps := 1000000 }) [])
  refine AW_loop (fun z : Nat × List Int => ⟨[(16, AI z.1), (14, .own 1 (z.2.map intRow)), (13, .own 1 (r.map intRow)), (12, AB false), (0, .d (.sl (r.map u8Row))), (1, .d (.sl (s.map u8Row))), (2, .d (.int .u8 d)), (3, .d (.int .u8 a)), (4, .d (.int .u8 t)), (5, .d (.int .u8 u))], []⟩)
    (fun z => z.1 ≤ s.length ∧ z.2 = s.take z.1) (fun z => s.length - z.1) (0, []) ⟨Nat.zero_le _, by simp⟩ (by simp only [List.map_nil]; (refine Wk.of ?_ ?_ (by simp) <;> repeat' (first | exact True.intro | exact ⟨_, rfl, wkt_same rfl⟩ | exact ⟨_, rfl, wkt_erase rfl⟩ | exact ⟨_, rfl, .inl .nild⟩ | exact ⟨_, rfl, .inl .nile⟩ | exact ⟨_, rfl, wkt_nils⟩ | exact wkt_same rfl | exact wkt_erase rfl | exact .inl .nild | exact .inl .nile | exact wkt_nils | exact WkB.same rfl | exact WkB_rows | exact WkB_nil | exact .dead _ | refine WkB_cons ?_ ?_ | refine And.intro ?_ ?_))) ?_
  rintro ⟨k, K⟩ ⟨hk, hK⟩ N hN
  simp only at hk hK hN ⊢
  (simp (config := { maxSteps := 1000000 }) [])
  ((first | refine AW_cond_split _ (by rfl) (fun h2 => ?_) (fun h2 => ?_) | refine AWop_split _ (by rfl) (fun h2 => ?_) (fun h2 => ?_)) <;> (try simp only [decide_eq_true_eq, decide_eq_false_iff_not, Bool.not_eq_true', Bool.not_eq_false', Bool.and_eq_true, Bool.or_eq_true, beq_iff_eq, bne_iff_ne, ne_eq, beq_eq_false_iff_ne, bne_eq_false_iff_eq] at h2))
  · have hkl : k < s.length := by simpa using h2
    have hb : s[k]? = some s[k] := by simp
    have hw := wrap_succ (k := k) (by omega)
    have hbd := hs _ (List.getElem_mem hkl)
    have hwr : IntKind.i64.wrap s[k] = s[k] := wrap_i64 (by omega) (by omega)
    have hts : s.take (k + 1) = s.take k ++ [s[k]] := by rw [List.take_add_one, hb]; rfl
    rw [← hK] at hts
    have hlt : K.length ≤ k := by rw [hK, List.length_take]; omega
    (simp (config := { maxSteps := 1000000 }) [h2, hkl, hb, u8Row, hwr])
    (refine AWio_app_own (by rfl) (by rfl) (by rfl) ?_ (by decide) ?_ ?_ ?_)
    · simp
    · simp; omega
    · simp; omega
    (simp (config := { maxSteps := 1000000 }) [hw])
    exact hN _ (k + 1, K ++ [s[k]]) ⟨hkl, hts.symm⟩ (by simp [intRow]; (refine Wk.of ?_ ?_ (by simp) <;> repeat' (first | exact True.intro | exact ⟨_, rfl, wkt_same rfl⟩ | exact ⟨_, rfl, wkt_erase rfl⟩ | exact ⟨_, rfl, .inl .nild⟩ | exact ⟨_, rfl, .inl .nile⟩ | exact ⟨_, rfl, wkt_nils⟩ | exact wkt_same rfl | exact wkt_erase rfl | exact .inl .nild | exact .inl .nile | exact wkt_nils | exact WkB.same rfl | exact WkB_rows | exact WkB_nil | exact .dead _ | refine WkB_cons ?_ ?_ | refine And.intro ?_ ?_))) (by simp only; omega)
  clear hN
  have hk' : k = s.length := by omega
  rw [hk', List.take_length] at hK
  rw [hK, hk']
  clear hk hK h2
  (simp (config := { maxSteps := 1000000 }) [])
  (refine AWcall_det (law12_known_calls A r s lr ls) (by rfl) (by rfl) ?_)
  have hks := srt_knownP r s
  have hkl := knowP_len r s r.length
  have hkl2 : r.length * s.length ≤ 20 * 20 := Nat.mul_le_mul lr ls
  have hke : knowP r s r.length = knownP r s := rfl
  rw [hke] at hkl
  obtain ⟨L, hL⟩ : ∃ L, L = knownP r s := ⟨_, rfl⟩
  rw [← hL] at hks hkl ⊢
  clear hke
  have hne1 : r.map intRow ≠ [] := by simpa using g1'
  have hne2 : s.map intRow ≠ [] := by simpa using g2'
  have hrow : ∀ l : List Int, ∀ r ∈ l.map intRow, r.length = 1 := fun l => rows_len fun x => rfl
  obtain ⟨x, hx, ex⟩ := mod_nat hd.1 g1
  obtain ⟨y, hy, ey⟩ := mod_nat ha.1 g1
  obtain ⟨v, hv, ev⟩ := mod_nat ht.1 g2
  obtain ⟨w, hw, ew⟩ := mod_nat hu.1 g2
  have w1 : IntKind.i64.wrap d = d := wrap_i64 (by omega) (by omega)
  have w2 : IntKind.i64.wrap a = a := wrap_i64 (by omega) (by omega)
  have w3 : IntKind.i64.wrap t = t := wrap_i64 (by omega) (by omega)
  have w4 : IntKind.i64.wrap u = u := wrap_i64 (by omega) (by omega)
  (simp (config := { maxSteps := 1000000 }) [pairsD, w1, w2, w3, w4, ex, ey, ev, ew, g1', g2'])
  have hyr : r[y]? = some r[y] := List.getElem?_eq_getElem hy
  have hws : s[w]? = some s[w] := List.getElem?_eq_getElem hw
  have hx1 : x + 1 ≤ r.length := hx
  have hv1 : v + 1 ≤ s.length := hv
  obtain ⟨r1, hr1⟩ : ∃ z, z = r.set x r[y] := ⟨_, rfl⟩
  have lr1 : r.length = r1.length := by rw [hr1, List.length_set]
  obtain ⟨s1, hs1⟩ : ∃ z, z = s.set v s[w] := ⟨_, rfl⟩
  have ls1 : s.length = s1.length := by rw [hs1, List.length_set]
  obtain ⟨r2, hr2⟩ : ∃ z, z = r.set x 1000 := ⟨_, rfl⟩
  have lr2 : r.length = r2.length := by rw [hr2, List.length_set]
  obtain ⟨s2, hs2⟩ : ∃ z, z = s.set v 1000 := ⟨_, rfl⟩
  have ls2 : s.length = s2.length := by rw [hs2, List.length_set]
  refine AWio_app_h (.inl (by rfl)) (by rfl) (hrow r) (by decide) (by simp; omega) (by simp; omega) hne1 ?_
  rw [rowCells_int]
  (simp (config := { maxSteps := 1000000 }) [])
  rw [law12_TransferComplete_m28_eq]
  refine AW_merge ⟨[(22, .d (.sl (r1.map intRow))), (21, AI w), (20, AI v), (19, AI y), (18, AI x), (17, .d (.sl (L.map Pair.row))), (12, AB false), (13, .d (.sl (r.map intRow))), (14, .d (.sl (s.map intRow)))], []⟩ (fun N hN => ?_) ?_
  · clear hR
    (simp (config := { maxSteps := 1000000 }) [hx, hy, hyr, hx1, intRow])
    rw [set_ints hx, ← hr1]
    exact hN _ (by (refine Wk.of ?_ ?_ (by simp) <;> repeat' (first | exact ⟨_, rfl, WkT_ints rfl (Nat.zero_le _) lr1⟩ | (first | exact True.intro | exact ⟨_, rfl, wkt_same rfl⟩ | exact ⟨_, rfl, wkt_erase rfl⟩ | exact ⟨_, rfl, .inl .nild⟩ | exact ⟨_, rfl, .inl .nile⟩ | exact ⟨_, rfl, wkt_nils⟩ | exact wkt_same rfl | exact wkt_erase rfl | exact .inl .nild | exact .inl .nile | exact wkt_nils | exact WkB.same rfl | exact WkB_rows | exact WkB_nil | exact .dead _ | refine WkB_cons ?_ ?_ | refine And.intro ?_ ?_))))
  (simp (config := { maxSteps := 1000000 }) [])
  refine AWio_app_h (.inl (by rfl)) (by rfl) (hrow s) (by decide) (by simp; omega) (by simp; omega) hne2 ?_
  rw [rowCells_int]
  (simp (config := { maxSteps := 1000000 }) [])
  rw [law12_TransferComplete_m27_eq]
  refine AW_merge ⟨[(23, .d (.sl (s1.map intRow))), (22, .d (.sl (r1.map intRow))), (21, AI w), (20, AI v), (19, AI y), (18, AI x), (17, .d (.sl (L.map Pair.row))), (12, AB false), (13, .d (.sl (r.map intRow))), (14, .d (.sl (s.map intRow)))], []⟩ (fun N hN => ?_) ?_
  · clear hR
    (simp (config := { maxSteps := 1000000 }) [hv, hw, hws, hv1, intRow])
    rw [set_ints hv, ← hs1]
    exact hN _ (by (refine Wk.of ?_ ?_ (by simp) <;> repeat' (first | exact ⟨_, rfl, WkT_ints rfl (Nat.zero_le _) ls1⟩ | (first | exact True.intro | exact ⟨_, rfl, wkt_same rfl⟩ | exact ⟨_, rfl, wkt_erase rfl⟩ | exact ⟨_, rfl, .inl .nild⟩ | exact ⟨_, rfl, .inl .nile⟩ | exact ⟨_, rfl, wkt_nils⟩ | exact wkt_same rfl | exact wkt_erase rfl | exact .inl .nild | exact .inl .nile | exact wkt_nils | exact WkB.same rfl | exact WkB_rows | exact WkB_nil | exact .dead _ | refine WkB_cons ?_ ?_ | refine And.intro ?_ ?_))))
  (simp (config := { maxSteps := 1000000 }) [])
  refine AWio_app_h (.inl (by rfl)) (by rfl) (hrow r) (by decide) (by simp; omega) (by simp; omega) hne1 ?_
  rw [rowCells_int]
  (simp (config := { maxSteps := 1000000 }) [])
  rw [law12_TransferComplete_m26_eq]
  refine AW_merge ⟨[(24, .d (.sl (r2.map intRow))), (23, .d (.sl (s1.map intRow))), (22, .d (.sl (r1.map intRow))), (21, AI w), (20, AI v), (19, AI y), (18, AI x), (17, .d (.sl (L.map Pair.row))), (12, AB false), (13, .d (.sl (r.map intRow))), (14, .d (.sl (s.map intRow)))], []⟩ (fun N hN => ?_) ?_
  · clear hR
    (simp (config := { maxSteps := 1000000 }) [hx, hx1, intRow])
    rw [set_ints hx, ← hr2]
    exact hN _ (by (refine Wk.of ?_ ?_ (by simp) <;> repeat' (first | exact ⟨_, rfl, WkT_ints rfl (Nat.zero_le _) lr2⟩ | (first | exact True.intro | exact ⟨_, rfl, wkt_same rfl⟩ | exact ⟨_, rfl, wkt_erase rfl⟩ | exact ⟨_, rfl, .inl .nild⟩ | exact ⟨_, rfl, .inl .nile⟩ | exact ⟨_, rfl, wkt_nils⟩ | exact wkt_same rfl | exact wkt_erase rfl | exact .inl .nild | exact .inl .nile | exact wkt_nils | exact WkB.same rfl | exact WkB_rows | exact WkB_nil | exact .dead _ | refine WkB_cons ?_ ?_ | refine And.intro ?_ ?_))))
  (simp (config := { maxSteps := 1000000 }) [])
  refine AWio_app_h (.inl (by rfl)) (by rfl) (hrow s) (by decide) (by simp; omega) (by simp; omega) hne2 ?_
  rw [rowCells_int]
  (simp (config := { maxSteps := 1000000 }) [])
  rw [law12_TransferComplete_m25_eq]
  refine AW_merge ⟨[(25, .d (.sl (s2.map intRow))), (24, .d (.sl (r2.map intRow))), (23, .d (.sl (s1.map intRow))), (22, .d (.sl (r1.map intRow))), (21, AI w), (20, AI v), (19, AI y), (18, AI x), (17, .d (.sl (L.map Pair.row))), (12, AB false), (13, .d (.sl (r.map intRow))), (14, .d (.sl (s.map intRow)))], []⟩ (fun N hN => ?_) ?_
  · clear hR
    (simp (config := { maxSteps := 1000000 }) [hv, hv1, intRow])
    rw [set_ints hv, ← hs2]
    exact hN _ (by (refine Wk.of ?_ ?_ (by simp) <;> repeat' (first | exact ⟨_, rfl, WkT_ints rfl (Nat.zero_le _) ls2⟩ | (first | exact True.intro | exact ⟨_, rfl, wkt_same rfl⟩ | exact ⟨_, rfl, wkt_erase rfl⟩ | exact ⟨_, rfl, .inl .nild⟩ | exact ⟨_, rfl, .inl .nile⟩ | exact ⟨_, rfl, wkt_nils⟩ | exact wkt_same rfl | exact wkt_erase rfl | exact .inl .nild | exact .inl .nile | exact wkt_nils | exact WkB.same rfl | exact WkB_rows | exact WkB_nil | exact .dead _ | refine WkB_cons ?_ ?_ | refine And.intro ?_ ?_))))
  have lx1 := copyP_len L x y
  have lx2 := moveP_len L v w
  have lx3 := defP_len L x v
  have n1 : (1000 : Int) ∉ r := fun h => by have := hr _ h; omega
  have n2 : (1000 : Int) ∉ s := fun h => by have := hs _ h; omega
  have c1 := transfer_Copy_calls A S C L x y (by omega)
  have m1 := transfer_Move_calls A S C L v w (by omega)
  have d1 := transfer_Define_calls A S L x v (by omega) hks
  rw [hL, copy_eq hx hy, ← hL] at c1
  rw [hL, move_eq hv hw, ← hL] at m1
  rw [hL, def_eq hx hv n1 n2, ← hL] at d1
  rw [hL, copy_eq hx hy, ← hL] at lx1
  rw [hL, move_eq hv hw, ← hL] at lx2
  rw [hL, def_eq hx hv n1 n2, ← hL] at lx3
  rw [← hr1] at c1 lx1
  rw [← hs1] at m1 lx2
  rw [← hr2, ← hs2] at d1 lx3
  have c2 := law12_known_calls A r1 s (by omega) ls
  have m2 := law12_known_calls A r s1 lr (by omega)
  have d2 := law12_known_calls A r2 s2 (by omega) (by omega)
  obtain ⟨cx, hcx⟩ : ∃ z, z = knownP r1 s := ⟨_, rfl⟩
  obtain ⟨mx, hmx⟩ : ∃ z, z = knownP r s1 := ⟨_, rfl⟩
  obtain ⟨dx, hdx⟩ : ∃ z, z = knownP r2 s2 := ⟨_, rfl⟩
  rw [← hcx] at c1 c2 lx1
  rw [← hmx] at m1 m2 lx2
  rw [← hdx] at d1 d2 lx3
  have c3 := ref11_Same_calls A cx cx (by omega) (by omega)
  have m3 := ref11_Same_calls A mx mx (by omega) (by omega)
  have d3 := ref11_Same_calls A dx dx (by omega) (by omega)
  rw [decide_eq_true rfl] at c3 m3 d3
  (simp (config := { maxSteps := 1000000 }) [])
  (refine AWcall_det c1 (by rfl) (by rfl) ?_)
  (simp (config := { maxSteps := 1000000 }) [pairsD])
  (refine AWcall_det c2 (by rfl) (by rfl) ?_)
  (simp (config := { maxSteps := 1000000 }) [pairsD])
  (refine AWcall_det c3 (by rfl) (by rfl) ?_)
  (simp (config := { maxSteps := 1000000 }) [])
  (refine AWcall_det m1 (by rfl) (by rfl) ?_)
  (simp (config := { maxSteps := 1000000 }) [pairsD])
  (refine AWcall_det m2 (by rfl) (by rfl) ?_)
  (simp (config := { maxSteps := 1000000 }) [pairsD])
  (refine AWcall_det m3 (by rfl) (by rfl) ?_)
  (simp (config := { maxSteps := 1000000 }) [])
  (refine AWcall_det d1 (by rfl) (by rfl) ?_)
  (simp (config := { maxSteps := 1000000 }) [pairsD])
  (refine AWcall_det d2 (by rfl) (by rfl) ?_)
  (simp (config := { maxSteps := 1000000 }) [pairsD])
  (refine AWcall_det d3 (by rfl) (by rfl) ?_)
  (simp (config := { maxSteps := 1000000 }) [])
  (first | exact hR _ _ (Fin_ret _ rfl rfl rfl) | exact hR _ _ (Fin_normal _ rfl rfl rfl) | exact hR _ _ (Fin_ret _ rfl rfl (by simp [AV.erase, AV.unview]; done)) | exact hR _ _ (Fin_normal _ rfl rfl (by simp [AV.erase, AV.unview]; done)) | fail "no end")
end
end Go.AE

/- The readings of small numbers and of slices of numbers. -/
set_option linter.unusedVariables false
namespace Go.AE
open Go
theorem HasT.bool_inv {d : D} (h : HasT .bool d) : ∃ b, d = .bool b := by
  cases h with
  | bool b => exact ⟨b, rfl⟩
theorem u8_bound {n : Int} (hw : (Lit.int .u8 n).wf = true) : 0 ≤ n ∧ n < 256 := by
  simp [Lit.wf, IntKind.min, IntKind.max, IntKind.signed, IntKind.bits] at hw
  omega
theorem u8_of {d : D} (h : HasT (.int .u8) d) : ∃ n : Int, AV.d d = AU n ∧ (0 ≤ n ∧ n < 256) := by
  obtain ⟨n, rfl, hw⟩ := h.int_inv
  exact ⟨n, rfl, u8_bound hw⟩
theorem ints_of {d : D} (h : HasT (.sl [ltI]) d) : ∃ l : List Int, AV.d d = .d (intsD l) ∧ l.length ≤ maxLen := by
  obtain ⟨rows, rfl, hl, hr⟩ := h.sl_inv
  obtain ⟨l, rfl⟩ := rows_of (g := intRow) (fun r hr => by
    obtain ⟨_, _, rfl, h0, h⟩ := HasL.cons_inv hr
    obtain rfl := h.nil_inv
    obtain ⟨a, rfl, _⟩ := h0.int_inv
    exact ⟨a, rfl⟩) hr
  exact ⟨l, rfl, by simpa using hl⟩
theorem bools_of {d : D} (h : HasT (.sl [.bool]) d) : ∃ l : List Bool, AV.d d = .d (boolsD l) ∧ l.length ≤ maxLen := by
  obtain ⟨rows, rfl, hl, hr⟩ := h.sl_inv
  obtain ⟨l, rfl⟩ := rows_of (g := boolRow) (fun r hr => by
    obtain ⟨_, _, rfl, h0, h⟩ := HasL.cons_inv hr
    obtain rfl := h.nil_inv
    obtain ⟨b, rfl⟩ := h0.bool_inv
    exact ⟨b, rfl⟩) hr
  exact ⟨l, rfl, by simpa using hl⟩
theorem u8s_of {d : D} (h : HasT (.sl [.int .u8]) d) : ∃ l : List Int, AV.d d = .d (u8sD l) ∧ ∀ n ∈ l, 0 ≤ n ∧ n < 256 := by
  obtain ⟨rows, rfl, hl, hr⟩ := h.sl_inv
  have key : ∀ {rows : List (List D)}, (∀ r ∈ rows, HasL [.int .u8] r) → ∃ l : List Int, rows = l.map u8Row ∧ ∀ n ∈ l, 0 ≤ n ∧ n < 256 := by
    intro rows
    induction rows with
    | nil => intro _; exact ⟨[], rfl, by simp⟩
    | cons r rows ih =>
      intro hq
      obtain ⟨_, _, rfl, h0, h⟩ := HasL.cons_inv (hq r (by simp))
      obtain rfl := h.nil_inv
      obtain ⟨a, rfl, hw⟩ := h0.int_inv
      obtain ⟨l, rfl, hb⟩ := ih fun r hr => hq r (by simp [hr])
      refine ⟨a :: l, rfl, fun n hn => ?_⟩
      rcases List.mem_cons.1 hn with rfl | hn
      · exact u8_bound hw
      · exact hb n hn
  obtain ⟨l, rfl, hb⟩ := key hr
  exact ⟨l, rfl, hb⟩
end Go.AE
