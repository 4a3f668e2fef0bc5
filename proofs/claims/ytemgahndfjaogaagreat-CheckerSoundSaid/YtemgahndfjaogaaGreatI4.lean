/- A part of the proof: the evaluator over abstract values, its codes, the contracts of the functions. -/
import Derived.Test.YtemgahndfjaogaaGreatI3
import Derived.Shelf.SlSortCmp.NoneTotal
import Derived.Lib.ItoaNum
set_option linter.unusedVariables false
set_option linter.unusedSimpArgs false
namespace Go.AE
open Go
theorem Jtpl {α : Type} (f : α → Bool) (l : List α) : l.takeWhile f = l.take (l.takeWhile f).length := by
 have e := List.takeWhile_append_dropWhile (p := f) (l := l)
 have := congrArg (List.take (l.takeWhile f).length) e
 rw [List.take_left'] at this
 ·exact this
 ·rfl
theorem Jt8m {α : Type} (f : α → Bool) (l : List α) : l.dropWhile f = l.drop (l.takeWhile f).length := by
 have e := List.takeWhile_append_dropWhile (p := f) (l := l)
 have := congrArg (List.drop (l.takeWhile f).length) e
 rw [List.drop_left'] at this
 ·exact this
 ·rfl
theorem Jtpk {α : Type} (f : α → Bool) (l : List α) (i : Nat) (hi : i ≤ l.length) (h1 : ∀ j, j < i → (h : j < l.length) → f l[j] = true) (h2 : (h : i < l.length) → f l[i] = false) : (l.takeWhile f).length = i := by
 induction l generalizing i with
 | nil => simp at hi; simp [hi]
 | cons x l ih =>
  cases i with
  | zero => have := h2 (by simp); simp at this; simp [List.takeWhile_cons, this]
  | succ i =>
   have h0 := h1 0 (by omega) (by simp)
   simp at h0
   rw [List.takeWhile_cons, h0, if_pos rfl, List.length_cons]
   have := ih i (by simpa using hi) (fun j hj h => by have := h1 (j + 1) (by omega) (by simpa using h); simpa using this) (fun h => by have := h2 (by simpa using h); simpa using this)
   rw [this]
theorem Jtk0 (l : List Pair) (p : Pair) : posP l p ≤ l.length := (List.takeWhile_sublist _).length_le
theorem Jtk1 {l : List Pair} {p : Pair} {j : Nat} (h : j < posP l p) (hl : j < l.length) : lessP l[j] p = true := by
 have h1 : (l.takeWhile fun q => lessP q p)[j]? = some l[j] := by
  rw [Jtpl, List.getElem?_take]; simp only [posP] at h; simp [h]
 exact Jtpn _ (List.mem_of_getElem? h1)
theorem Jtjz {l : List Pair} {p : Pair} (hs : Srt l) {j : Nat} (h : posP l p ≤ j) (hl : j < l.length) : lessP l[j] p = false := by
 refine Jt8n hs _ ?_
 rw [Jt8m]
 have : (l.drop (posP l p))[j - posP l p]? = some l[j] := by rw [List.getElem?_drop]; simp [Nat.add_sub_cancel' h]
 exact List.mem_of_getElem? this
theorem Jtho {l : List Pair} {p : Pair} (hs : Srt l) : p ∈ l ↔ l[posP l p]? = some p := by
 constructor
 ·intro h
  obtain ⟨j, hj, e⟩ := List.getElem_of_mem h
  have h1 : posP l p ≤ j := by
   rcases Nat.lt_or_ge j (posP l p) with h2 | h2
   ·have := Jtk1 h2 hj; rw [e, Jtfv] at this; cases this
   ·exact h2
  have h2 : j ≤ posP l p := by
   rcases Nat.lt_or_ge (posP l p) j with h2 | h2
   ·have h3 := Jtol hs h2 hj
    rw [e, Jtjz hs (Nat.le_refl _) (by omega)] at h3; cases h3
   ·exact h2
  have : posP l p = j := by omega
  rw [this, List.getElem?_eq_getElem hj, e]
 ·exact List.mem_of_getElem?
theorem Jt9t {l : List Pair} {p : Pair} (h : p ∉ l) : l.filter (fun q => decide (q ≠ p)) = l := by
 rw [List.filter_eq_self]; intro a ha; simp; rintro rfl; exact h ha
theorem Jt4p {l : List Pair} {p : Pair} (hs : Srt l) : addP l p = l.take (posP l p) ++ p :: l.drop (if p ∈ l then posP l p + 1 else posP l p) := by
 rw [Jt4n, insP, Jtpl, Jt8m]
 show l.take (posP l p) ++ p :: (l.drop (posP l p)).filter _ = _
 congr 2
 split
 ·rename_i h
  have hp := (Jtho hs).1 h
  have hlt := (List.getElem?_eq_some_iff.1 hp).1
  have he := (List.getElem?_eq_some_iff.1 hp).2
  have hs' : Srt (l.drop (posP l p)) := Jtoq (List.drop_sublist _ _) hs
  rw [List.drop_eq_getElem_cons hlt, he] at hs' ⊢
  rw [List.filter_cons_of_neg (by simp)]
  refine Jt9t fun hm => ?_
  have := (Jtog.1 hs').1 p hm
  rw [Jtfv] at this; cases this
 ·rename_i h
  exact Jt9t fun hm => h (List.drop_subset _ _ hm)
section
theorem Jtjp {P : Program} {p : Nums} (A : All P p) (l : List Pair) (q : Pair) (h0 : l.length < 1000000000) (hs : Srt l) : Jt3x P p.pairset_find [.d (pairsD l), q.av] [] fun o _ => o = .ret (AI (posP l q)) := by
 refine A.pairset_find.run rfl fun R hR => ?_
 (simp (maxSteps := 1000000) [Jtdy, pairsD, Pair.av])
 refine Jtd (fun k : Nat × Nat => ⟨[(5, AI k.1), (6, AI k.2), (4, AI 0), (3, .ptr 0 0), (0, .d (.sl (l.map Pair.row)))], [.mem [AI q.v, AI q.l]]⟩)
  (fun k => k.1 ≤ k.2 ∧ k.2 ≤ l.length ∧ (∀ j, j < k.1 → (h : j < l.length) → lessP l[j] q = true) ∧ ∀ j, k.2 ≤ j → (h : j < l.length) → lessP l[j] q = false) (fun k => k.2 - k.1) (0, l.length) (by simp; intro j h1 h2; omega) (by (exact wkA)) ?_
 rintro ⟨a, b⟩ ⟨hab, hb, hlo, hhi⟩ N hN
 simp only at hab hb hlo hhi hN ⊢
 (simp (maxSteps := 1000000) [])
 ((first | refine Xc (fun h2 => ?_) (fun h2 => ?_) | refine Xo (fun h2 => ?_) (fun h2 => ?_)) <;> (try simp only [Xz, Xy] at h2))
 ·have hm : a + (b - a) / 2 < l.length := by omega
  have hma : a ≤ a + (b - a) / 2 := by omega
  have hmb : a + (b - a) / 2 < b := by omega
  have hw1 : IntKind.i64.wrap ((b : Int) - (a : Int)) = ((b - a : Nat) : Int) := by rw [wrap_i64 (by omega) (by omega)]; omega
  have hw2 : IntKind.i64.wrap (((b - a : Nat) : Int) / 2) = (((b - a) / 2 : Nat) : Int) := by rw [wrap_i64 (by omega) (by omega)]; omega
  have hw3 : IntKind.i64.wrap ((a : Int) + (((b - a) / 2 : Nat) : Int)) = ((a + (b - a) / 2 : Nat) : Int) := by rw [wrap_i64 (by omega) (by omega)]; omega
  obtain ⟨d, hd⟩ : ∃ d, d = b - a := ⟨_, rfl⟩
  obtain ⟨d2, hd2⟩ : ∃ d2, d2 = d / 2 := ⟨_, rfl⟩
  obtain ⟨m, hmm⟩ : ∃ m, m = a + d2 := ⟨_, rfl⟩
  have hw := Jtr1 (k := m) (by omega)
  simp only [← hd, ← hd2, ← hmm] at hm hma hmb hw1 hw2 hw3
  have hbm : l[m]? = some l[m] := by simp
  (simp (maxSteps := 1000000) [h2, hw1])
  (simp (maxSteps := 1000000) [hw2])
  (simp (maxSteps := 1000000) [hw3, hbm, Pair.row])
  (refine Jtx (Jtjj A l[m] q) (by rfl) (by rfl) ?_)
  (simp (maxSteps := 1000000) [])
  ((first | refine Xc (fun h3 => ?_) (fun h3 => ?_) | refine Xo (fun h3 => ?_) (fun h3 => ?_)) <;> (try simp only [Xz, Xy] at h3))
  ·(simp (maxSteps := 1000000) [h3, hw])
   refine hN _ (m + 1, b) ⟨by simp only; omega, hb, ?_, hhi⟩ (by (exact wkA)) (by simp only; omega)
   intro j hj h
   simp only at hj
   by_cases e : j = m
   ·subst e; exact h3
   ·exact Jtfy (Jtol hs (by omega : j < m) hm) h3
  ·(simp (maxSteps := 1000000) [h3])
   refine hN _ (a, m) ⟨by simp only; omega, by simp only; omega, hlo, ?_⟩ (by (exact wkA)) (by simp only; omega)
   intro j hj h
   simp only at hj
   cases e : lessP l[j] q with
   | false => rfl
   | true =>
    by_cases e2 : j = m
    ·subst e2; rw [e] at h3; simp at h3
    ·rw [Jtfy (Jtol hs (by omega : m < j) h) e] at h3; simp at h3
 ·have e : a = b := by omega
  subst e
  have : posP l q = a := Jtpk _ l a hb hlo fun h => hhi a (by omega) h
  (simp (maxSteps := 1000000) [])
  (first | exact hR _ _ FrA | exact hR _ _ FnA | exact hR _ _ (Xf (hq := by simp [AV.erase, AV.unview, this]; done)))
theorem Jtji {P : Program} {p : Nums} (A : All P p) (l : List Pair) (q : Pair) (h0 : l.length < 1000000000) (hs : Srt l) : Jt3x P p.pairset_Has [.d (pairsD l), q.av] [] fun o _ => o = .ret (AB (decide (q ∈ l))) := by
 refine A.pairset_Has.run rfl fun R hR => ?_
 (simp (maxSteps := 1000000) [Jtds, pairsD, Pair.av])
 (refine Jtx (Jtjp A l q h0 hs) (by rfl) (by rfl) ?_)
 (simp (maxSteps := 1000000) [])
 have hp := Jtho (p := q) hs
 have hle := Jtk0 l q
 obtain ⟨i, hi⟩ : ∃ i, i = posP l q := ⟨_, rfl⟩
 rw [← hi] at hp hle ⊢
 ((first | refine Xc (fun h1 => ?_) (fun h1 => ?_) | refine Xo (fun h1 => ?_) (fun h1 => ?_)) <;> (try simp only [Xz, Xy] at h1))
 ·have hil : i < l.length := by omega
  have hb : l[i]? = some l[i] := by simp
  rw [hb] at hp
  (simp (maxSteps := 1000000) [h1, hb, Pair.row])
  have e : (l[i].v == q.v && l[i].l == q.l) = decide (q ∈ l) := by
   rw [Jtj8]; simp only [Option.some.injEq] at hp; simp [hp]
  (first | exact hR _ _ FrA | exact hR _ _ FnA | exact hR _ _ (Xf (hq := by simp [AV.erase, AV.unview, e, Pair.row]; done)))
 ·(simp (maxSteps := 1000000) [h1])
  have hb : l[i]? = none := by simp; omega
  rw [hb] at hp
  have e : q ∉ l := by simpa using hp
  (first | exact hR _ _ FrA | exact hR _ _ FnA | exact hR _ _ (Xf (hq := by simp [AV.erase, AV.unview, e]; done)))
end
section
theorem Jtjb {P : Program} {p : Nums} (A : All P p) (l : List Pair) (q : Pair) (h0 : l.length < 1000000) (hs : Srt l) : Jt3x P p.pairset_Add [.d (pairsD l), q.av] [] fun o H' => o = .ret (.own 2 ((addP l q).map Pair.row)) ∧ H' = [] := by
 refine A.pairset_Add.run rfl fun R hR => ?_
 (simp (maxSteps := 1000000) [Jtdn, pairsD, Pair.av])
 (refine Jtx (Jtjp A l q (by omega) hs) (by rfl) (by rfl) ?_)
 have hw := Jtr1 (k := l.length) (by omega)
 have hp := Jtho (p := q) hs
 have hle := Jtk0 l q
 have hadd := Jt4p (p := q) hs
 obtain ⟨i, hi⟩ : ∃ i, i = posP l q := ⟨_, rfl⟩
 rw [← hi] at hp hle hadd ⊢
 (simp (maxSteps := 1000000) [hw])
 refine Jt25 (n := l.length + 1) (by rfl) (by rfl) (by omega) (by omega) (by decide) (by rfl) ?_
 (simp (maxSteps := 1000000) [hle, Pair.row])
 have hrow : ∀ m : List (List D), (∀ r ∈ m, r ∈ l.map Pair.row) → ∀ r ∈ m, r.length = 2 := fun m hm r hr => Jtm4 (f := Pair.row) (fun _ => rfl) r (hm r hr)
 refine ⟨hrow _ fun r hr => List.take_subset _ _ hr, by omega, by omega, ?_⟩
 (refine Jt1b (by rfl) (by rfl) (by rfl) ?_ (by decide) ?_ ?_ ?_)
 ·simp
 ·simp; omega
 ·simp; omega
 (simp (maxSteps := 1000000) [])
 have hln : (l.map Pair.row).length = l.length := by simp
 have fin : ∀ j, addP l q = l.take i ++ q :: l.drop j → (List.take i (l.map Pair.row) ++ [[D.int IntKind.i64 q.v, D.int IntKind.i64 q.l]]) ++ List.drop j (List.take l.length (l.map Pair.row)) = (addP l q).map Pair.row := by
  intro j hj
  rw [hj, List.take_of_length_le (i := l.length) (l := l.map Pair.row) (by simp)]
  simp [Pair.row]
 ((first | refine Xc (fun h1 => ?_) (fun h1 => ?_) | refine Xo (fun h1 => ?_) (fun h1 => ?_)) <;> (try simp only [Xz, Xy] at h1))
 ·have hil : i < l.length := by omega
  have hb : l[i]? = some l[i] := by simp
  rw [hb, Option.some.injEq] at hp
  (simp (maxSteps := 1000000) [h1, hb, Pair.row])
  ((first | refine Xc (fun h2 => ?_) (fun h2 => ?_) | refine Xo (fun h2 => ?_) (fun h2 => ?_)) <;> (try simp only [Xz, Xy] at h2))
  ·have e : l[i] = q := Jt93 h2.1 h2.2
   have hm := hp.2 e
   rw [if_pos hm] at hadd
   have hw2 := Jtr1 (k := i) (by omega)
   obtain ⟨i1, hi1⟩ : ∃ i1, i1 = i + 1 := ⟨_, rfl⟩
   rw [← hi1] at hw2 hadd
   have hle1 : i1 ≤ l.length := by omega
   (simp (maxSteps := 1000000) [hw2, h2])
   (simp (maxSteps := 1000000) [hle1, Pair.row])
   (refine Jt1b (by rfl) (by rfl) (by rfl) ?_ (by decide) ?_ ?_ ?_)
   ·exact hrow _ fun r hr => List.take_subset _ _ (List.drop_subset _ _ hr)
   ·simp; omega
   ·simp; omega
   rw [fin i1 hadd]
   (simp (maxSteps := 1000000) [])
   exact hR _ _ (Jt3z _ _ rfl ⟨rfl, rfl⟩)
  ·have hm : q ∉ l := by
    intro hm; have := hp.1 hm
    rw [this] at h2; simp at h2
   rw [if_neg hm] at hadd
   (simp (maxSteps := 1000000) [h2, hle, Pair.row])
   (refine Jt1b (by rfl) (by rfl) (by rfl) ?_ (by decide) ?_ ?_ ?_)
   ·exact hrow _ fun r hr => List.take_subset _ _ (List.drop_subset _ _ hr)
   ·simp; omega
   ·simp; omega
   rw [fin i hadd]
   (simp (maxSteps := 1000000) [])
   exact hR _ _ (Jt3z _ _ rfl ⟨rfl, rfl⟩)
 ·have hm : q ∉ l := by
   intro hm; have := hp.1 hm
   rw [List.getElem?_eq_none (by omega)] at this; cases this
  rw [if_neg hm] at hadd
  (simp (maxSteps := 1000000) [h1, hle, Pair.row])
  (refine Jt1b (by rfl) (by rfl) (by rfl) ?_ (by decide) ?_ ?_ ?_)
  ·exact hrow _ fun r hr => List.take_subset _ _ (List.drop_subset _ _ hr)
  ·simp; omega
  ·simp; omega
  rw [fin i hadd]
  (simp (maxSteps := 1000000) [])
  exact hR _ _ (Jt3z _ _ rfl ⟨rfl, rfl⟩)
end
section
theorem Jtjm {P : Program} {p : Nums} (A : All P p) (a b : List Pair) (h0 : a.length < 1000000) (h1 : b.length < 1000000) (ha : Srt a) (hb : Srt b) : Jt3x P p.pairset_Missing [.d (pairsD a), .d (pairsD b)] [] fun o _ => o = .ret (missA a b) := by
 refine A.pairset_Missing.run rfl fun R hR => ?_
 (simp (maxSteps := 1000000) [Jtdv, pairsD])
 refine Jtd (fun k : Nat × Nat => ⟨[(11, AI k.1), (10, AI a.length), (9, .d (.sl (a.map Pair.row))), (6, AI k.2), (5, AB false), (4, .ptr 0 0), (1, .d (.sl (b.map Pair.row)))], [.mem [AI 0, AI 0]]⟩)
  (fun k => k.1 ≤ a.length ∧ k.2 ≤ b.length ∧ (∀ q ∈ a.take k.1, q ∈ b) ∧ ∀ j k', j < k.2 → k.1 ≤ k' → (h : j < b.length) → (h' : k' < a.length) → lessP b[j] a[k'] = true) (fun k => a.length - k.1) (0, 0) (by simp) (by (exact wkA)) ?_
 rintro ⟨k, i⟩ ⟨hk, hi, hz, hj⟩ N hN
 simp only at hk hi hz hj hN ⊢
 (simp (maxSteps := 1000000) [])
 ((first | refine Xc (fun h2 => ?_) (fun h2 => ?_) | refine Xo (fun h2 => ?_) (fun h2 => ?_)) <;> (try simp only [Xz, Xy] at h2))
 ·have hkl : k < a.length := by omega
  have hbk : a[k]? = some a[k] := by simp
  have hw := Jtr1 (k := k) (by omega)
  (simp (maxSteps := 1000000) [h2, hbk, Pair.row])
  refine Jtd (fun i : Nat => ⟨[(8, .ptr 1 0), (11, AI k), (10, AI a.length), (9, .d (.sl (a.map Pair.row))), (6, AI i), (5, AB false), (4, .ptr 0 0), (1, .d (.sl (b.map Pair.row)))], [.mem [AI 0, AI 0], .mem [AI a[k].v, AI a[k].l]]⟩)
   (fun i => i ≤ b.length ∧ ∀ j k', j < i → k ≤ k' → (h : j < b.length) → (h' : k' < a.length) → lessP b[j] a[k'] = true) (fun i => b.length - i) i ⟨hi, hj⟩ (by (exact wkA)) ?_
  rintro i ⟨hi, hj⟩ N2 hN2
  have stop : (i = b.length ∨ ∃ h : i < b.length, lessP b[i] a[k] = false ∧ b[i] ≠ a[k]) → a[k] ∉ b := by
   intro hc hm
   obtain ⟨j, hjl, e⟩ := List.getElem_of_mem hm
   have h3 : i ≤ j := by
    rcases Nat.lt_or_ge j i with h | h
    ·have := hj j k h (Nat.le_refl _) hjl hkl
     rw [e, Jtfv] at this; cases this
    ·exact h
   rcases hc with hc | ⟨h, h4, h5⟩
   ·omega
   ·rcases Nat.lt_or_eq_of_le h3 with h3 | h3
    ·have := Jtol hb h3 hjl
     rw [e, h4] at this; cases this
    ·subst h3; exact h5 e
  have go : ∀ (h : i < b.length), b[i] = a[k] → (∀ q ∈ a.take (k + 1), q ∈ b) ∧ ∀ j k', j < i → k + 1 ≤ k' → (h : j < b.length) → (h' : k' < a.length) → lessP b[j] a[k'] = true := by
   intro h e
   refine ⟨?_, fun j k' h1 h2 h3 h4 => hj j k' h1 (by omega) h3 h4⟩
   intro q hq
   rw [List.take_add_one, hbk] at hq
   rcases List.mem_append.1 hq with hq | hq
   ·exact hz q hq
   ·simp at hq; subst hq; rw [← e]; exact List.getElem_mem _
  (simp (maxSteps := 1000000) [])
  ((first | refine Xc (fun h3 => ?_) (fun h3 => ?_) | refine Xo (fun h3 => ?_) (fun h3 => ?_)) <;> (try simp only [Xz, Xy] at h3))
  ·have hil : i < b.length := by omega
   have hbi : b[i]? = some b[i] := by simp
   (simp (maxSteps := 1000000) [h3, hbi, Pair.row])
   (refine Jtx (Jtjj A b[i] a[k]) (by rfl) (by rfl) ?_)
   (simp (maxSteps := 1000000) [])
   ((first | refine Xc (fun h4 => ?_) (fun h4 => ?_) | refine Xo (fun h4 => ?_) (fun h4 => ?_)) <;> (try simp only [Xz, Xy] at h4))
   ·have hwi := Jtr1 (k := i) (by omega)
    (simp (maxSteps := 1000000) [h4, hwi])
    refine hN2 _ (i + 1) ⟨hil, ?_⟩ (by (exact wkA)) (by omega)
    intro j k' h5 h6 h7 h8
    by_cases e : j = i
    ·subst e
     rcases Nat.lt_or_eq_of_le h6 with h6 | h6
     ·refine Jtfy (b := a[k]) h4 (Jtol ha h6 h8)
     ·subst h6; exact h4
    ·exact hj j k' (by omega) h6 h7 h8
   ·have hne : ¬ ((i : Int) = (b.length : Int)) := by omega
    have h4' : lessP b[i] a[k] = false := by simpa using h4
    (simp (maxSteps := 1000000) [h4', hne, hbi, Pair.row])
    ((first | refine Xc (fun h5 => ?_) (fun h5 => ?_) | refine Xo (fun h5 => ?_) (fun h5 => ?_)) <;> (try simp only [Xz, Xy] at h5))
    ·have hx2 : a[k] ∉ b := stop (.inr ⟨hil, h4', fun e => by rw [e] at h5; simp at h5⟩)
     have := Jthw hkl hz hx2
     (simp (maxSteps := 1000000) [h5])
     (first | exact hR _ _ FrA | exact hR _ _ FnA | exact hR _ _ (Xf (hq := by simp [AV.erase, AV.unview, missA, this, Pair.av]; done)))
    ·have e : b[i] = a[k] := Jt93 (by simp at h5; exact h5.1) (by simp at h5; exact h5.2)
     have := go hil e
     (simp (maxSteps := 1000000) [h5, hw])
     exact hN _ (k + 1, i) ⟨hkl, hi, this.1, this.2⟩ (by simp only; (exact wkA)) (by simp only; omega)
  ·have e : i = b.length := by omega
   have hx2 : a[k] ∉ b := stop (.inl e)
   have := Jthw hkl hz hx2
   (simp (maxSteps := 1000000) [h3, e])
   (first | exact hR _ _ FrA | exact hR _ _ FnA | exact hR _ _ (Xf (hq := by simp [AV.erase, AV.unview, missA, this, Pair.av]; done)))
 ·have hk' : k = a.length := by omega
  subst hk'
  have := Jthx (a := a) (b := b) (by simpa using hz)
  (simp (maxSteps := 1000000) [])
  (first | exact hR _ _ FrA | exact hR _ _ FnA | exact hR _ _ (Xf (hq := by simp [AV.erase, AV.unview, missA, this, Pair.av]; done)))
end
def mergeP : List Pair → List Pair → List Pair
 | [], b => b
 | x :: a, [] => x :: a
 | x :: a, y :: b => if lessP y x = true then y :: mergeP (x :: a) b else if y = x then x :: mergeP a b else x :: mergeP a (y :: b)
termination_by a b => a.length + b.length
theorem Jtht (a : List Pair) : mergeP a [] = a := by cases a <;> simp [mergeP]
theorem Jthm {a b : List Pair} {q : Pair} : q ∈ mergeP a b ↔ q ∈ a ∨ q ∈ b := by
 induction a, b using mergeP.induct with
 | case1 b => simp [mergeP]
 | case2 x a => simp [mergeP]
 | case3 x a y b h ih => rw [mergeP, if_pos h, List.mem_cons, ih]; simp only [List.mem_cons]; constructor <;> (intro h; rcases h with h | h | h <;> simp_all)
 | case4 a b x h ih => rw [mergeP, if_neg h, if_pos rfl, List.mem_cons, ih]; simp only [List.mem_cons]; constructor <;> grind
 | case5 x a y b h h2 ih => rw [mergeP, if_neg h, if_neg h2, List.mem_cons, ih]; simp only [List.mem_cons]; constructor <;> grind
theorem Jton {a b : List Pair} (ha : Srt a) (hb : Srt b) : Srt (mergeP a b) := by
 induction a, b using mergeP.induct with
 | case1 b => simpa [mergeP] using hb
 | case2 x a => simpa [mergeP] using ha
 | case3 x a y b h ih =>
  rw [mergeP, if_pos h]
  refine Jtog.2 ⟨fun q hq => ?_, ih ha (Jtog.1 hb).2⟩
  rw [Jthm, List.mem_cons] at hq
  rcases hq with (rfl | hq) | hq
  ·exact h
  ·exact Jtfy h ((Jtog.1 ha).1 q hq)
  ·exact (Jtog.1 hb).1 q hq
 | case4 a b x h ih =>
  rw [mergeP, if_neg h, if_pos rfl]
  refine Jtog.2 ⟨fun q hq => ?_, ih (Jtog.1 ha).2 (Jtog.1 hb).2⟩
  rw [Jthm] at hq
  rcases hq with hq | hq
  ·exact (Jtog.1 ha).1 q hq
  ·exact (Jtog.1 hb).1 q hq
 | case5 x a y b h h2 ih =>
  rw [mergeP, if_neg h, if_neg h2]
  have hxy : lessP x y = true := by
   cases e : lessP x y with
   | true => rfl
   | false => exact absurd (Jtfx (by simpa using h) e) h2
  refine Jtog.2 ⟨fun q hq => ?_, ih (Jtog.1 ha).2 hb⟩
  rw [Jthm, List.mem_cons] at hq
  rcases hq with hq | rfl | hq
  ·exact (Jtog.1 ha).1 q hq
  ·exact hxy
  ·exact Jtfy hxy ((Jtog.1 hb).1 q hq)
section
theorem Jtjn {P : Program} {p : Nums} (A : All P p) (a b : List Pair) (h0 : a.length < 1000000) (h1 : b.length < 1000000) : Jt3x P p.pairset_Union [.d (pairsD a), .d (pairsD b)] [] fun o H' => o = .ret (.own 2 ((mergeP a b).map Pair.row)) ∧ H' = [] := by
 refine A.pairset_Union.run rfl fun R hR => ?_
 have hw : IntKind.i64.wrap ((a.length : Int) + (b.length : Int)) = ((a.length + b.length : Nat) : Int) := Jtr0 (by omega)
 obtain ⟨n, hn⟩ : ∃ n, n = a.length + b.length := ⟨_, rfl⟩
 rw [← hn] at hw
 (simp (maxSteps := 1000000) [Jtdw, pairsD, hw])
 refine Jt25 (n := n) (by rfl) (by rfl) (by omega) (by omega) (by decide) (by rfl) ?_
 (simp (maxSteps := 1000000) [])
 have hrow : ∀ l : List Pair, ∀ r ∈ l.map Pair.row, r.length = 2 := fun l => Jtm4 fun x => rfl
 refine Jtd (fun s : List Pair × List Pair × List Pair => ⟨[(5, .own 2 (s.2.2.map Pair.row)), (4, .nils), (1, .d (.sl (s.2.1.map Pair.row))), (0, .d (.sl (s.1.map Pair.row)))], []⟩)
  (fun s => s.2.2 ++ mergeP s.1 s.2.1 = mergeP a b ∧ s.1.length + s.2.1.length + s.2.2.length ≤ n) (fun s => s.1.length + s.2.1.length) (a, b, []) ⟨by simp, by simp; omega⟩ (by simp only [List.map_nil]; (exact wkA)) ?_
 rintro ⟨xs, ys, out⟩ ⟨hm, hlen⟩ N hN
 simp only at hm hlen hN ⊢
 have fin : xs = [] ∨ ys = [] → (out.map Pair.row ++ xs.map Pair.row) ++ ys.map Pair.row = (mergeP a b).map Pair.row := by
  intro h
  rw [← hm]
  rcases h with rfl | rfl
  ·simp [mergeP]
  ·simp [Jtht]
 cases xs with
 | nil =>
  (simp (maxSteps := 1000000) [])
  (refine Jt1b (by rfl) (by rfl) (by rfl) ?_ (by decide) ?_ ?_ ?_)
  ·simp
  ·simp; omega
  ·simp; omega
  (simp (maxSteps := 1000000) [])
  (refine Jt1b (by rfl) (by rfl) (by rfl) ?_ (by decide) ?_ ?_ ?_)
  ·exact hrow _
  ·simp at hlen ⊢; omega
  ·simp at hlen ⊢; omega
  (simp (maxSteps := 1000000) [])
  exact hR _ _ (Jt3z _ _ rfl ⟨by simp [← fin (.inl rfl)], rfl⟩)
 | cons x xs =>
  have hx0 : ¬ ((xs.length : Int) + 1 ≤ 0) := by omega
  have hx1 : (0 : Int) < (xs.length : Int) + 1 := by omega
  cases ys with
  | nil =>
   (simp (maxSteps := 1000000) [hx1])
   (refine Jt1b (by rfl) (by rfl) (by rfl) ?_ (by decide) ?_ ?_ ?_)
   ·simpa using hrow (x :: xs)
   ·simp at hlen ⊢; omega
   ·simp at hlen ⊢; omega
   (simp (maxSteps := 1000000) [])
   (refine Jt1b (by rfl) (by rfl) (by rfl) ?_ (by decide) ?_ ?_ ?_)
   ·simp
   ·simp at hlen ⊢; omega
   ·simp at hlen ⊢; omega
   (simp (maxSteps := 1000000) [])
   have := fin (.inr rfl)
   simp only [List.map_cons, List.map_nil, List.append_nil] at this
   exact hR _ _ (Jt3z _ _ rfl ⟨by simp [← this], rfl⟩)
  | cons y ys =>
   have hy1 : (0 : Int) < (ys.length : Int) + 1 := by omega
   have hx2 : (1 : Int) ≤ (xs.length : Int) + 1 := by omega
   have hy2 : (1 : Int) ≤ (ys.length : Int) + 1 := by omega
   have htx : (xs.map Pair.row).take xs.length = xs.map Pair.row := List.take_of_length_le (by simp)
   have hty : (ys.map Pair.row).take ys.length = ys.map Pair.row := List.take_of_length_le (by simp)
   simp only [List.length_cons] at hlen
   rw [mergeP] at hm
   (simp (maxSteps := 1000000) [hx1, hy1, Pair.row])
   (refine Jtx (Jtjj A y x) (by rfl) (by rfl) ?_)
   (simp (maxSteps := 1000000) [])
   ((first | refine Xc (fun h2 => ?_) (fun h2 => ?_) | refine Xo (fun h2 => ?_) (fun h2 => ?_)) <;> (try simp only [Xz, Xy] at h2))
   ·rw [if_pos h2] at hm
    have hne : ¬ x = y := fun h => Jtfw h2 h.symm
    have hs1 : IntKind.i64.wrap 1 = 1 := by rw [wrap_i64 (by omega) (by omega)]
    (simp (maxSteps := 1000000) [h2, Pair.row])
    (refine Jt1b (by rfl) (by rfl) (by rfl) ?_ (by decide) ?_ ?_ ?_)
    ·simp
    ·simp at hlen ⊢; omega
    ·simp at hlen ⊢; omega
    (simp (maxSteps := 1000000) [Pair.row, Jtj8, hne, hy2, hty])
    refine hN _ (x :: xs, ys, out ++ [y]) ⟨by simp only; rw [← hm]; simp, by simp; omega⟩ ?_ (by simp only [List.length_cons]; omega)
    simp only [List.map_cons, List.map_append, List.map_nil, Pair.row]
    (exact wkA)
   ·have h2' : lessP y x = false := by simpa using h2
    rw [if_neg (by rw [h2']; simp)] at hm
    (simp (maxSteps := 1000000) [h2', Pair.row])
    (refine Jt1b (by rfl) (by rfl) (by rfl) ?_ (by decide) ?_ ?_ ?_)
    ·simp
    ·simp at hlen ⊢; omega
    ·simp at hlen ⊢; omega
    by_cases e : y = x
    ·rw [if_pos e] at hm
     subst e
     (simp (maxSteps := 1000000) [Pair.row, Jtj8, hx2, hy2, htx, hty])
     refine hN _ (xs, ys, out ++ [y]) ⟨by simp only; rw [← hm]; simp, by simp; omega⟩ ?_ (by simp only [List.length_cons]; omega)
     simp only [List.map_cons, List.map_append, List.map_nil, Pair.row]
     (exact wkA)
    ·rw [if_neg e] at hm
     (simp (maxSteps := 1000000) [Pair.row, Jtj8, e, hx2, htx])
     refine hN _ (xs, y :: ys, out ++ [x]) ⟨by simp only; rw [← hm]; simp, by simp; omega⟩ ?_ (by simp only [List.length_cons]; omega)
     simp only [List.map_cons, List.map_append, List.map_nil, Pair.row]
     (exact wkA)
end
theorem Jtlu {rows : List (List D)} {e k : Nat} (he : ∀ r ∈ rows, r.length = e) (hk : k < rows.length) : ((Jtlr rows).drop (k * e)).take e = rows[k].map AV.d := by
 unfold Jtlr
 induction rows generalizing k with
 | nil => simp at hk
 | cons r rows ih =>
  have h1 := he r (by simp)
  cases k with
  | zero => simp only [Nat.zero_mul, List.drop_zero, List.flatten_cons, List.map_append, List.getElem_cons_zero]; rw [List.take_left' (by simp [h1])]
  | succ k =>
   have h2 := ih (fun r hr => he r (by simp [hr])) (k := k) (by simpa using hk)
   simp only [List.flatten_cons, List.map_append, List.getElem_cons_succ]
   have e1 : (k + 1) * e = (r.map AV.d).length + k * e := by rw [Nat.add_mul]; simp [h1]; omega
   rw [e1, List.drop_length_add_append]; exact h2
theorem Jtj7 {l : List Pair} {k : Nat} (hk : k < l.length) : ((Jtlr (l.map Pair.row)).drop (k * 2)).take 2 = [AI l[k].v, AI l[k].l] := by
 rw [Jtlu (e := 2) (rows := l.map Pair.row) (Jtm4 (f := Pair.row) fun _ => rfl) (by simpa using hk)]; simp [Pair.row]
theorem Jtlt (l : List Pair) : (Jtlr (l.map Pair.row)).length = l.length * 2 := by
 rw [Jtlw (e := 2) (Jtm4 fun _ => rfl)]; simp
theorem Jtlv (rows : List (List D)) : (Jtlr rows).map AV.erase = Jtlr rows := by
 simp [Jtlr, AV.erase, Function.comp_def]
def ddStep (out : List Pair) (q : Pair) : List Pair := if out.getLast? = some q then out else out ++ [q]
def dd (l : List Pair) : List Pair := l.foldl ddStep []
theorem Jt8h (l : List Pair) (q : Pair) : dd (l ++ [q]) = ddStep (dd l) q := by simp [dd]
theorem Jt8g (l : List Pair) : (dd l).getLast? = l.getLast? := by
 induction l using Jth6 with
 | h0 => rfl
 | h1 l q ih =>
  rw [Jt8h, ddStep]
  split
  ·rename_i h; rw [h]; simp
  ·simp
theorem mem_dd {l : List Pair} {q : Pair} : q ∈ dd l ↔ q ∈ l := by
 induction l using Jth6 with
 | h0 => simp [dd]
 | h1 l x ih =>
  rw [Jt8h, ddStep]
  split
  ·rename_i h
   rw [ih, List.mem_append]
   have : x ∈ l := by rw [Jt8g] at h; exact List.mem_of_getLast? h
   constructor
   ·exact .inl
   ·rintro (h | h)
    ·exact h
    ·simp at h; subst h; exact this
  ·rw [List.mem_append, List.mem_append, ih]
theorem Jt8j {l : List Pair} {k : Nat} (h0 : 0 < k) (h : k < l.length) : dd (l.take (k + 1)) = if l[k - 1]'(by omega) = l[k] then dd (l.take k) else dd (l.take k) ++ [l[k]] := by
 have e : l.take (k + 1) = l.take k ++ [l[k]] := by rw [List.take_add_one, List.getElem?_eq_getElem h]; rfl
 rw [e, Jt8h, ddStep, Jt8g]
 have : (l.take k).getLast? = some (l[k - 1]'(by omega)) := by
  rw [List.getLast?_eq_getElem?, List.getElem?_take]; simp only [List.length_take, Option.ite_none_right_eq_some]; rw [show min k l.length - 1 = k - 1 by omega, List.getElem?_eq_getElem (by omega)]; exact ⟨by omega, rfl⟩
 rw [this]; simp
def cptP (l : List Pair) : List Pair := dd l ++ List.replicate (l.length - (dd l).length) (⟨0, 0⟩ : Pair)
theorem Jt8a {l : List Pair} (h : dd l = l) : cptP l = l := by unfold cptP; rw [h]; simp
theorem srt_dd {l : List Pair} (h : l.Pairwise fun a b => lessP b a = false) : Srt (dd l) := by
 induction l using Jth6 with
 | h0 => exact List.Pairwise.nil
 | h1 l x ih =>
  have h2 := List.pairwise_append.1 h
  have ih := ih h2.1
  rw [Jt8h, ddStep]
  split
  ·exact ih
  ·rename_i hl
   refine List.pairwise_append.2 ⟨ih, List.pairwise_singleton _ _, ?_⟩
   intro a ha b hb
   simp at hb; subst hb
   have hab := h2.2.2 a (mem_dd.1 ha) b (by simp)
   cases e : lessP a b with
   | true => rfl
   | false =>
    have eab := Jtfx e hab
    subst eab
    obtain ⟨j, hj, ej⟩ := List.getElem_of_mem ha
    have hne : dd l ≠ [] := List.ne_nil_of_mem ha
    have hjl : j < (dd l).length - 1 := by
     rcases Nat.lt_or_ge j ((dd l).length - 1) with h | h
     ·exact h
     ·refine absurd ?_ hl
      rw [List.getLast?_eq_getElem?, show (dd l).length - 1 = j by omega, List.getElem?_eq_getElem hj, ej]
    have h3 := Jtol ih hjl (by omega)
    rw [ej] at h3
    have hm : (dd l)[(dd l).length - 1]'(by omega) ∈ l := mem_dd.1 (List.getElem_mem _)
    rw [h2.2.2 _ hm a (by simp)] at h3; cases h3
section
theorem Jtni {P : Program} {p : Nums} (A : All P p) : Jt3x P p.slices_Clone_Pair [.d (.sl [])] [] fun o H' => o = .ret (.d (.sl [])) ∧ H' = [] := by
 refine A.slices_Clone_Pair.run rfl fun R hR => ?_
 (simp (maxSteps := 1000000) [Jte7])
 refine Jt1w (by rfl) (fun _ => ?_) ?_
 ·(simp (maxSteps := 1000000) [])
  exact hR _ _ (Jt43 _ _ rfl (by (exact wkvA)) ⟨rfl, rfl⟩)
 ·(simp (maxSteps := 1000000) [])
  refine Jt1a (by rfl) (by rfl) (by simp) (by decide) (by simp) (by simp) (fun hn => ?_) fun hn => absurd rfl hn
  (simp (maxSteps := 1000000) [])
  exact hR _ _ (Jt43 _ _ rfl (by (exact wkvA)) ⟨rfl, rfl⟩)
theorem Jtnh {P : Program} {p : Nums} (A : All P p) (l : List Pair) (hl : l ≠ []) (h0 : l.length < 1000000) : Jt3x P p.slices_Clone_Pair [.d (pairsD l)] [] fun o H' => o = .ret (.hsl 0 0 2 l.length) ∧ H' = [.mem (Jtlr (l.map Pair.row))] := by
 refine A.slices_Clone_Pair.run rfl fun R hR => ?_
 (simp (maxSteps := 1000000) [Jte7, pairsD])
 refine Jt1w (by rfl) (fun h => absurd (by simpa using h) hl) ?_
 (simp (maxSteps := 1000000) [])
 refine Jt19 (.inl (by rfl)) (by rfl) (Jtm4 fun _ => rfl) (by decide) (by simp; omega) (by simp; omega) (by simpa using hl) ?_
 (simp (maxSteps := 1000000) [])
 exact hR _ _ (Jt42 _ _ _ rfl (by (exact wkA)) ⟨by simp, rfl⟩)
theorem Jtnk {P : Program} {p : Nums} (A : All P p) : Jt3x P p.slices_Compact_Pair [.d (.sl [])] [] fun o H' => o = .ret (.d (.sl [])) ∧ H' = [] := by
 refine A.slices_Compact_Pair.run rfl fun R hR => ?_
 (simp (maxSteps := 1000000) [Jte8])
 exact hR _ _ (Jt43 _ _ rfl (by (exact wkvA)) ⟨rfl, rfl⟩)
theorem Jtnj {P : Program} {p : Nums} (A : All P p) (l : List Pair) (hl : l ≠ []) (h0 : l.length < 1000000) : Jt3x P p.slices_Compact_Pair [.hsl 0 0 2 l.length] [.mem (Jtlr (l.map Pair.row))] fun o H' => o = .ret (.hsl 0 0 2 (dd l).length) ∧ H' = [.mem (Jtlr ((cptP l).map Pair.row))] := by
 refine A.slices_Compact_Pair.run rfl fun R hR => ?_
 (simp (maxSteps := 1000000) [Jte8])
 have hpos : 0 < l.length := List.length_pos_iff.2 hl
 have dd1 : dd (l.take 1) = l.take 1 := by
  cases l with
  | nil => exact absurd rfl hl
  | cons x l => simp [dd, ddStep]
 have done : dd l = l → R .ret ⟨[(2, .hsl 0 0 2 l.length)], [.mem (Jtlr (l.map Pair.row))]⟩ := by
  intro e
  refine hR _ _ (Jt42 _ (.hsl 0 0 2 l.length) [.mem (Jtlr (l.map Pair.row))] rfl (by (exact wkA)) ⟨by rw [e], by rw [Jt8a e]⟩)
 ((first | refine Xc (fun h1 => ?_) (fun h1 => ?_) | refine Xo (fun h1 => ?_) (fun h1 => ?_)) <;> (try simp only [Xz, Xy] at h1))
 ·have e1 : l.length = 1 := by omega
  have : dd l = l := by rw [show l.take 1 = l from List.take_of_length_le (by omega)] at dd1; exact dd1
  (simp (maxSteps := 1000000) [h1])
  refine hR _ _ (Jt42 _ (.hsl 0 0 2 l.length) [.mem (Jtlr (l.map Pair.row))] rfl (by (exact wkA)) ⟨by rw [this], by rw [Jt8a this]⟩)
 (simp (maxSteps := 1000000) [h1])
 refine Jtd (fun k : Nat => ⟨[(3, AI k), (2, .nils), (0, .hsl 0 0 2 l.length)], [.mem (Jtlr (l.map Pair.row))]⟩) (fun k => 1 ≤ k ∧ k ≤ l.length ∧ dd (l.take k) = l.take k) (fun k => l.length - k) 1 ⟨by omega, by omega, dd1⟩ (by (exact wkA)) ?_
 rintro k ⟨hk1, hk, hd⟩ N hN
 have hlc := Jtlt l
 (simp (maxSteps := 1000000) [])
 ((first | refine Xc (fun h2 => ?_) (fun h2 => ?_) | refine Xo (fun h2 => ?_) (fun h2 => ?_)) <;> (try simp only [Xz, Xy] at h2))
 ·have hkl : k < l.length := by omega
  have hw := Jtr1 (k := k) (by omega)
  obtain ⟨km, hkm⟩ : ∃ km, km = k - 1 := ⟨_, rfl⟩
  have hw2 : IntKind.i64.wrap ((k : Int) - 1) = (km : Int) := by rw [wrap_i64 (by omega) (by omega)]; omega
  have hp1 := Jtj7 (l := l) (k := km) (by omega)
  have hp2 := Jtj7 (l := l) (k := k) hkl
  have hce := Jtlv (l.map Pair.row)
  obtain ⟨C, hC⟩ : ∃ C, C = Jtlr (l.map Pair.row) := ⟨_, rfl⟩
  have hkml : km < l.length := by omega
  obtain ⟨x, hx⟩ : ∃ x, x = l[k] := ⟨_, rfl⟩
  obtain ⟨y, hy⟩ : ∃ y, y = l[km] := ⟨_, rfl⟩
  rw [← hC] at hlc hp1 hp2 hce ⊢
  rw [← hx] at hp2
  rw [← hy] at hp1
  have hl1 : km * 2 + 2 ≤ C.length := by omega
  have hl2 : k * 2 + 2 ≤ C.length := by omega
  have hk2 : (km : Int) < (l.length : Int) := by omega
  (simp (maxSteps := 1000000) [h2, hw2, hk2, hl1, hl2, hp1, hp2, hce, Jtj8])
  ((first | refine Xc (fun h3 => ?_) (fun h3 => ?_) | refine Xo (fun h3 => ?_) (fun h3 => ?_)) <;> (try simp only [Xz, Xy] at h3))
  ·have hsl : IntKind.i64.wrap 1 = 1 := by rw [wrap_i64 (by omega) (by omega)]
   have hkle : k ≤ l.length := by omega
   (simp (maxSteps := 1000000) [h3, hkle])
   have hdk : dd (l.take (k + 1)) = l.take k := by
    rw [Jt8j hk1 hkl, if_pos, hd]
    rw [← hx, h3, hy]; simp only [hkm]
   refine Jtd (fun s : Nat × Nat × List Pair => ⟨[(5, AI s.1), (4, .hsl 0 (k * 2) 2 (l.length - k)), (3, AI s.2.1), (2, .nils), (0, .hsl 0 0 2 l.length)], [.mem (Jtlr (s.2.2.map Pair.row))]⟩)
    (fun s => 1 ≤ s.1 ∧ k + s.1 ≤ l.length ∧ s.2.1 + 1 ≤ k + s.1 ∧ s.2.2.length = l.length ∧ s.2.2.take s.2.1 = dd (l.take (k + s.1)) ∧ s.2.2.drop (k + s.1 - 1) = l.drop (k + s.1 - 1)) (fun s => l.length - s.1) (1, k, l)
    ⟨by simp, by simp; omega, by simp, rfl, hdk.symm, rfl⟩ (by rw [hC]; (exact wkA)) ?_
   rintro ⟨j, i, cur⟩ ⟨hj1, hjn, hij, hcl, hct, hcd⟩ N2 hN2
   simp only at hj1 hjn hij hcl hct hcd hN2 ⊢
   have hlc2 := Jtlt cur
   have hce2 := Jtlv (cur.map Pair.row)
   (simp (maxSteps := 1000000) [])
   ((first | refine Xc (fun h4 => ?_) (fun h4 => ?_) | refine Xo (fun h4 => ?_) (fun h4 => ?_)) <;> (try simp only [Xz, Xy] at h4))
   ·have h4' : k + j < l.length := by omega
    have hcur : ∀ m, k + j - 1 ≤ m → (h : m < l.length) → cur[m]'(by omega) = l[m] := by
     intro m h5 h6
     have e1 : (cur.drop (k + j - 1))[m - (k + j - 1)]? = cur[m]? := by rw [List.getElem?_drop, Nat.add_sub_cancel' h5]
     have e2 : (l.drop (k + j - 1))[m - (k + j - 1)]? = l[m]? := by rw [List.getElem?_drop, Nat.add_sub_cancel' h5]
     rw [hcd, e2, List.getElem?_eq_getElem h6, List.getElem?_eq_getElem (by omega)] at e1
     injection e1 with e1; exact e1.symm
    obtain ⟨jm, hjm⟩ : ∃ jm, jm = j - 1 := ⟨_, rfl⟩
    have hwj := Jtr1 (k := j) (by omega)
    have hwi := Jtr1 (k := i) (by omega)
    have hwjm : IntKind.i64.wrap ((j : Int) - 1) = (jm : Int) := by rw [wrap_i64 (by omega) (by omega)]; omega
    have hq1 := Jtj7 (l := cur) (k := k + j) (by omega)
    have hq2 := Jtj7 (l := cur) (k := k + jm) (by omega)
    rw [hcur _ (by omega) (by omega), Nat.add_mul] at hq1 hq2
    have hdj := Jt8j (l := l) (k := k + j) (by omega) h4'
    have ejm : k + j - 1 = k + jm := by omega
    simp only [ejm] at hdj hcur hcd
    obtain ⟨u, hu⟩ : ∃ u, u = l[k + j] := ⟨_, rfl⟩
    obtain ⟨v, hv⟩ : ∃ v, v = l[k + jm]'(by omega) := ⟨_, rfl⟩
    rw [← hu] at hq1 hdj
    rw [← hv] at hq2 hdj
    have hset := Jto6 (rows := cur.map Pair.row) (e := 2) (k := i) (row := u.row) (Jtm4 fun _ => rfl) rfl (by simp; omega)
    obtain ⟨E, hE⟩ : ∃ E, E = Jtlr (cur.map Pair.row) := ⟨_, rfl⟩
    rw [← hE] at hlc2 hce2 hq1 hq2 hset ⊢
    have hm1 : k * 2 + j * 2 + 2 ≤ E.length := by omega
    have hm2 : k * 2 + jm * 2 + 2 ≤ E.length := by omega
    have hm3 : i * 2 + 2 ≤ E.length := by omega
    have hn1 : (j : Int) < ((l.length - k : Nat) : Int) := by omega
    have hn2 : (jm : Int) < ((l.length - k : Nat) : Int) := by omega
    have hn3 : (i : Int) < (l.length : Int) := by omega
    have hcd' : ∀ c : List Pair, c.drop (k + jm) = l.drop (k + jm) → c.drop (k + j) = l.drop (k + j) := by
     intro c hc
     have := congrArg (List.drop 1) hc
     rw [List.drop_drop, List.drop_drop] at this
     rwa [show k + jm + 1 = k + j by omega] at this
    (simp (maxSteps := 1000000) [h4, hwjm, hn1, hn2, hm1, hm2, hq1, hq2, hce2, Jtj8])
    ((first | refine Xc (fun h5 => ?_) (fun h5 => ?_) | refine Xo (fun h5 => ?_) (fun h5 => ?_)) <;> (try simp only [Xz, Xy] at h5))
    ·(simp (maxSteps := 1000000) [h5, hn1, hn2, hn3, hm1, hm2, hm3, hq1, hq2, hce2, hwi, hwj])
     rw [if_neg (by intro e; exact h5 e.symm)] at hdj
     have hset' : List.take (i * 2) E ++ AI u.v :: AI u.l :: List.drop (i * 2 + 2) E = Jtlr ((cur.set i u).map Pair.row) := by
      rw [List.map_set, ← hset]; simp [spl, Pair.row]
     rw [hset']
     refine hN2 _ (j + 1, i + 1, cur.set i u) ⟨by simp only; omega, by simp only; omega, by simp only; omega, by simpa using hcl, ?_, ?_⟩ (by simp only; (exact wkA)) (by simp only; omega)
     ·simp only
      rw [← Nat.add_assoc, hdj, ← hct, List.take_add_one, List.getElem?_set_self (by omega), List.take_set_of_le (by omega)]; rfl
     ·simp only
      rw [show k + (j + 1) - 1 = k + j by omega, List.drop_set_of_lt (by omega)]; exact hcd' _ hcd
    ·(simp (maxSteps := 1000000) [h5, hwj])
     rw [if_pos (by simpa using Eq.symm (by simpa using h5))] at hdj
     refine hN2 _ (j + 1, i, cur) ⟨by simp only; omega, by simp only; omega, by simp only; omega, hcl, ?_, ?_⟩ (by simp only; rw [hE]; (exact wkA)) (by simp only; omega)
     ·simp only; rw [hct, ← Nat.add_assoc, hdj]
     ·simp only; rw [show k + (j + 1) - 1 = k + j by omega]; exact hcd' _ hcd
   ·have hj2 : k + j = l.length := by omega
    rw [hj2, List.take_length] at hct
    have hil : i < l.length := by omega
    have hil' : i ≤ l.length := by omega
    have hdl : (dd l).length = i := by rw [← hct]; simp; omega
    have hzero : ¬ (l.length - i = 0) := by omega
    (simp (maxSteps := 1000000) [hil'])
    refine Jt1l (by rfl) (by rfl) (by decide) (by omega) (by rfl) (by omega) ?_
    obtain ⟨T, hT⟩ : ∃ T : List Pair, T = List.replicate (l.length - i) (⟨0, 0⟩ : Pair) := ⟨_, rfl⟩
    obtain ⟨U, hU⟩ : ∃ U : List Pair, U = dd l ++ T := ⟨_, rfl⟩
    have hfin : spl (Jtlr (cur.map Pair.row)) (i * 2) (Jtlr (List.replicate (l.length - i) [I 0, I 0])) = Jtlr (U.map Pair.row) := by
     have h7 : (Jtlr (List.replicate (l.length - i) [I 0, I 0])).length = (l.length - i) * 2 := by
      rw [Jtlw (e := 2) (fun r hr => by rw [List.eq_of_mem_replicate hr]; rfl)]; simp
     rw [spl, Jtlx (e := 2) (rows := cur.map Pair.row) (Jtm4 (f := Pair.row) fun _ => rfl), h7, List.drop_of_length_le (by omega), List.append_nil, ← List.map_take, hct, hU, hT]
     simp [Jtlr, Pair.row]
    rw [hfin]
    (simp (maxSteps := 1000000) [hil'])
    refine hR _ _ (Jt42 _ (.hsl 0 0 2 i) [.mem (Jtlr (U.map Pair.row))] rfl (by (exact wkA)) ⟨by rw [hdl], by rw [hU, hT, cptP, hdl]⟩)
  ·(simp (maxSteps := 1000000) [h3, hw])
   refine hN _ (k + 1) ⟨by omega, hkl, ?_⟩ (by rw [hC]; (exact wkA)) (by omega)
   have e : ¬ l[k - 1]'(by omega) = l[k] := by
    rw [← hx]; intro e; apply h3; rw [← e, hy]; simp only [hkm]
   rw [Jt8j hk1 hkl, if_neg e, hd, List.take_add_one, List.getElem?_eq_getElem hkl]; rfl
 ·have hk' : k = l.length := by omega
  subst hk'
  rw [List.take_length] at hd
  (simp (maxSteps := 1000000) [])
  refine hR _ _ (Jt42 _ (.hsl 0 0 2 l.length) [.mem (Jtlr (l.map Pair.row))] rfl (by (exact wkA)) ⟨by rw [hd], by rw [Jt8a hd]⟩)
end
end Go.AE
namespace Go.AE
open Go Go.Proofs Go.Shelf Go.Sort
def encP (x : Pair) : List Value := [.int .i64 x.v, .int .i64 x.l]
def cfP (a b : Pair) : Int := if lessP a b = true then -1 else if lessP b a = true then 1 else 0
theorem Jtgp (a b : Pair) : ltOf cfP a b = lessP a b := by
 unfold ltOf cfP
 cases h1 : lessP a b <;> cases h2 : lessP b a <;> simp
theorem swoP : SWO (ltOf cfP) where
 irrefl x := by rw [Jtgp]; exact Jtfv x
 trans x y z h1 h2 := by rw [Jtgp] at *; exact Jtfy h1 h2
 ntrans x y z h1 h2 := by
  rw [Jtgp] at *
  have h1 : ¬ lessP x y = true := by simp [h1]
  have h2 : ¬ lessP y z = true := by simp [h2]
  cases h : lessP x z with
  | false => rfl
  | true => rw [Jtfu] at *; omega
def sortP (l : List Pair) : List Pair := l.mergeSort fun x y => !lessP y x
theorem Jtnm (l : List Pair) : (sortP l).length = l.length := by simp [sortP]
theorem Jta4 : ∀ (l : List Pair) (j : Nat) (h : j < 2 * l.length), (l.map Pair.row).flatten[j]? = some (if j % 2 = 0 then I (l[j / 2]'(by omega)).v else I (l[j / 2]'(by omega)).l) := by
 intro l
 induction l with
 | nil => intro j h; simp at h
 | cons x l ih =>
  intro j h
  match j, h with
  | 0, h => simp [Pair.row]
  | 1, h => simp [Pair.row]
  | j + 2, h =>
   have h' : j < 2 * l.length := by simp at h; omega
   have e := ih j h'
   have e1 : (j + 2) / 2 = j / 2 + 1 := by omega
   have e2 : (j + 2) % 2 = j % 2 := by omega
   simp only [List.map_cons, List.flatten_cons, Pair.row, List.cons_append, List.nil_append, List.getElem?_cons_succ, e2]
   rw [e]
   simp only [e1, List.getElem_cons_succ]
theorem Jta3 (l : List Pair) (j : Nat) (h : j < 2 * l.length) : ∃ n : Int, (Jtlr (l.map Pair.row))[j]? = some (AI n) ∧ (flatK encP 2 l.toArray)[j]! = .int .i64 n := by
 have h1 := Jta4 l j h
 have h2 := get_flatK encP 2 l.toArray j (by simp; omega)
 have h3 : l.toArray[j / 2]! = l[j / 2]'(by omega) := by
  rw [getElem!_pos _ _ (by simp; omega)]; simp
 rw [h3] at h2
 rcases Nat.mod_two_eq_zero_or_one j with hm | hm
 ·refine ⟨(l[j / 2]'(by omega)).v, ?_, ?_⟩
  ·rw [Jtlr, List.getElem?_map, h1, hm]; rfl
  ·rw [h2, hm]; rfl
 ·refine ⟨(l[j / 2]'(by omega)).l, ?_, ?_⟩
  ·rw [Jtlr, List.getElem?_map, h1, hm]; rfl
  ·rw [h2, hm]; rfl
theorem Jtls (l : List Pair) : (Jtlr (l.map Pair.row)).length = 2 * l.length := by
 rw [Jtlw (e := 2) (Jtm4 fun _ => rfl)]; simp; omega
section
variable {P : Program} {ρ : Ren}
theorem Jtns (L : SlLaysF0.n6 P ρ) (aE : ∀ w, (isAgg (ρ.t 24)).run P w = .ok true w) (zE : ∀ w, (Go.sizeOf (ρ.t 24)).run P w = .ok 2 w) (c : Nat) (eg : ∀ args w, (callFunc c args).run P w = .ok (.enter c args) w)
  (hcmp : ∀ blk off size w, CmpLays P c #[] encP 2 cfP blk off size w) (l : List Pair) (hne : l ≠ []) (hlen : l.length < 4611686018427387904) :
  Jt3x P (ρ.f 6) [.hsl 0 0 2 l.length, .fn (.func c) [] []] [.mem (Jtlr (l.map Pair.row))] fun o H' => o = .ret (.tup []) ∧ H' = [.mem (Jtlr ((sortP l).map Pair.row))] := by
 intro g vs w hsz hs
 have hn : l.length ≠ 0 := by simpa using hne
 obtain ⟨vs⟩ := vs
 obtain ⟨v0, v1, rfl⟩ : ∃ a b, vs = [a, b] := by
  match vs, hsz with
  | [a, b], _ => exact ⟨a, b, rfl⟩
 have e0 : Rel g.F g.φ w (.hsl 0 0 2 l.length) v0 := hs.env 0 _ rfl
 have e1 : Rel g.F g.φ w (.fn (.func c) [] []) v1 := hs.env 1 _ rfl
 cases e0 with
 | hsl _ _ _ _ r cap a hφ hcap ha _ =>
 have ha := ha hn; subst ha
 cases e1 with
 | fn _ _ _ us us' hl _ hl' _ =>
 have : us = [] := by simpa using hl
 subst this
 have : us' = [] := by simpa using hl'
 subst this
 obtain ⟨cl, te, hc, hcs, hcell⟩ := hs.mem 0 _ r rfl hφ
 have hF := (hs.lt 0 r hφ).2.1
 have hrl := (hs.lt 0 r hφ).1
 rw [Jtls] at hcs
 have hH : HoldsK encP 2 w r 0 l.toArray := by
  intro j hj
  rw [size_flatK] at hj
  have hj' : j < 2 * l.length := by simp at hj; omega
  obtain ⟨n, h1, h2⟩ := Jta3 l j hj'
  obtain ⟨_, u, hu, hrel⟩ := hcell j _ h1
  cases hrel with
  | d _ _ hp =>
  cases hp with
  | int k m =>
  constructor
  ·rw [h2]; simp [World.cell?, hc, hu]
  ·simp [World.frozen?, hc]
 have := AnyQ.slices_SortFunc_total L 2 aE zE encP (fun _ => rfl) (fun x v hv => by simp [encP] at hv; rcases hv with rfl | rfl <;> rfl) cfP swoP c #[] r 0 cap l.toArray w eg (hcmp r 0 _ w) hH hrl (by simpa using hlen) (fun x y h1 h2 => by rw [Jtgp] at h1 h2; exact Jtfx h1 h2)
 refine Calls.mono (show Calls P (ρ.f 6) #[.slice (some ⟨r, 0, none⟩) l.length cap, .func (.func c) #[] #[]] w _ from this) ?_
 rintro e w' ⟨rfl, n, os, hw⟩
 have hw : w' = sortWorldK encP 2 w r 0 n (sortP l).toArray os := by
  rw [hw]; simp only [Jtgp]; rfl
 obtain ⟨d, hd⟩ : ∃ d, d = sortP l := ⟨_, rfl⟩
 have hdl : d.length = l.length := by rw [hd, Jtnm]
 rw [← hd] at hw
 have hheap : w'.heap = (w.heap.modify r (onCells (putCells id 0 (flatK encP 2 d.toArray)))) ++ os := by rw [hw]; rfl
 have hother : ∀ r', r' < w.heap.size → r' ≠ r → w'.heap[r']? = w.heap[r']? := by
  intro r' h1 h2
  rw [hheap, Array.getElem?_append]
  simp only [Array.size_modify, h1, if_true, Array.getElem?_modify]
  rw [if_neg (Ne.symm h2)]
 have hsize : w.heap.size ≤ w'.heap.size := by rw [hheap]; simp
 have hpsz : (putCells id 0 (flatK encP 2 d.toArray) cl).size = cl.size := by simp [putCells]
 have hr' : w'.heap[r]? = some (.cells (putCells id 0 (flatK encP 2 d.toArray) cl) te (0, 0)) := by
  rw [hheap, Array.getElem?_append]
  simp only [Array.size_modify, hrl, if_true, Array.getElem?_modify, if_true]
  rw [hc]; rfl
 have hno : ∀ (env : List (Nat × AV)) (cells : List D) b j e rows, AP ⟨env, [.mem (cells.map AV.d)]⟩ (.cell b j) ≠ some (.own e rows) := by
  intro env cells b j e rows h
  simp only [AP] at h
  cases b with
  | zero =>
   simp only [List.getElem?_cons_zero] at h
   rw [List.getElem?_map] at h
   cases hx : cells[j]? with
   | none => rw [hx] at h; cases h
   | some d => rw [hx] at h; cases h
  | succ b => simp at h
 have hno' : ∀ p e rows, AP ⟨[(0, .tup [])], [.mem (Jtlr (d.map Pair.row))]⟩ p ≠ some (.own e rows) := by
  intro p e rows h
  cases p with
  | tmp t => simp only [AP, get] at h; split at h <;> cases h
  | cell b j => exact hno _ _ _ _ _ _ h
 have hb0 : ∀ b r', g.φ b = some r' → b = 0 := fun b r' h => by have := (hs.lt b r' h).2.2; simp at this; exact this
 refine ⟨.ret (.tup []), [.mem (Jtlr (d.map Pair.row))], g, .tuple #[], ⟨rfl, by rw [hd]⟩, rfl, ?_, ?_, fun _ _ _ h => h, by simp, ?_⟩
 ·refine { size := by simp, env := ?_, inj := hs.inj, lt := ?_, dom := ?_, mem := ?_, iter := ?_, glob := ?_, own := ?_, excl := ?_, apart := ?_, view := ?_ }
  ·intro t x hx
   simp only [get] at hx
   split at hx
   ·rename_i h; subst h; injection hx with hx; subst hx
    exact .tup [] [] rfl fun j x u h => by simp at h
   ·cases hx
  ·intro b r' h
   obtain ⟨h1, h2, h3⟩ := hs.lt b r' h
   exact ⟨by omega, h2, by simpa using h3⟩
  ·intro b k h hk
   cases b with
   | zero => exact ⟨r, hφ⟩
   | succ b => simp at h
  ·intro b cells r' h hr2
   have hb := hb0 b r' hr2
   subst hb
   rw [hφ] at hr2; injection hr2 with hr2; subst hr2
   simp at h; subst h
   refine ⟨_, te, hr', ?_, ?_⟩
   ·rw [Jtls, hdl]; simp [putCells]; exact hcs
   ·intro j x hx
    have hj : j < 2 * d.length := by
     have := (List.getElem?_eq_some_iff.1 hx).1
     rwa [Jtls] at this
    obtain ⟨n, h1, h2⟩ := Jta3 d j hj
    rw [hx] at h1; injection h1 with h1; subst h1
    refine ⟨rfl, .int .i64 n, ?_, .d _ _ (.int _ _)⟩
    have hjc : j < cl.size := by omega
    have hf : j < (flatK encP 2 d.toArray).size := by rw [size_flatK]; simp; omega
    simp only [putCells, Array.getElem?_mapIdx, hjc, Array.getElem?_eq_getElem, Option.map_some, Nat.zero_le, true_and, Nat.zero_add, hf, if_true, Nat.sub_zero, h2, id]
  ·intro b s pos r' h _
   cases b with
   | zero => simp at h
   | succ b => simp at h
  ·intro b s pos r' h _
   cases b with
   | zero => simp at h
   | succ b => simp at h
  ·intro p e rows v h; exact absurd h (hno' p e rows)
  ·rintro p p' r' ⟨e, rows, _, h, _⟩; exact absurd h (hno' p e rows)
  ·rintro p r' b ⟨e, rows, _, h, _⟩; exact absurd h (hno' p e rows)
  ·intro t org e rows h
   simp only [get] at h
   split at h <;> cases h
 ·refine ⟨by rw [hw]; rfl, by rw [hw]; rfl, by rw [hw]; rfl, hsize, ?_, ?_⟩
  ·intro r' h1 h2
   refine ⟨hother r' h1 ?_, rfl⟩
   rintro rfl; exact h2 (.inl ⟨0, hφ⟩)
  ·refine ⟨fun _ _ => Nat.le_refl _, ?_, fun q => ?_⟩
   rotate_left
   ·by_cases hq : q = r
    ·subst hq; rw [Jt8c hc, Jt8c hr']; exact Nat.le_of_eq hpsz.symm
    ·by_cases hql : q < w.heap.size
     ·rw [Jt8d (hother q hql hq)]; exact Nat.le_refl _
     ·have : w.heap[q]? = none := Array.getElem?_eq_none (by omega)
      simp [csize, this]
   intro r' j u hj hu
   have hne : r' ≠ r := by rintro rfl; omega
   have hlt := World.block_lt_of_cell? w ⟨r', j, none⟩ hu
   have := hother r' hlt hne
   simp only [World.cell?] at hu ⊢
   rw [this]; exact hu
 ·rintro r' (⟨b, hb⟩ | ⟨p, e, rows, _, h, _⟩)
  ·exact .inl (.inl ⟨b, hb⟩)
  ·exact absurd h (hno' p e rows)
theorem Jtnr (L : SlLaysF0.n6 P ρ) (c : Nat) (x : AV) (hx : x = .d (.sl []) ∨ x = .nils ∨ x = .nile) :
  Jt3x P (ρ.f 6) [x, .fn (.func c) [] []] [] fun o H' => o = .ret (.tup []) ∧ H' = [] := by
 intro g vs w hsz hs
 obtain ⟨vs⟩ := vs
 obtain ⟨v0, v1, rfl⟩ : ∃ a b, vs = [a, b] := by
  match vs, hsz with
  | [a, b], _ => exact ⟨a, b, rfl⟩
 have e0 : Rel g.F g.φ w x.erase v0 := hs.env 0 _ rfl
 obtain ⟨a, cap, rfl⟩ : ∃ a cap, v0 = .slice a 0 cap := by
  rcases hx with rfl | rfl | rfl
  ·cases e0 with
   | d _ _ h => cases h with
    | nil a cap => exact ⟨a, cap, rfl⟩
    | sl rows ad cap esz vs h1 h2 h3 h4 h5 h6 => exact ⟨_, _, rfl⟩
  ·cases e0; exact ⟨_, _, rfl⟩
  ·cases e0; exact ⟨_, _, rfl⟩
 refine Calls.mono (AnyF.slices_SortFunc_none L a cap v1 w) ?_
 rintro e w' ⟨rfl, rfl⟩
 have hno : ∀ (st : ASt) p e rows, st.H = [] → (∀ t e rows, get st.env t ≠ some (.own e rows)) → AP st p ≠ some (.own e rows) := by
  intro st p e rows h1 h2 h
  cases p with
  | tmp t => exact h2 t e rows h
  | cell b j => simp only [AP, h1] at h; simp at h
 have hno' : ∀ p e rows, AP ⟨[(0, .tup [])], []⟩ p ≠ some (.own e rows) := by
  intro p e rows
  refine hno _ p e rows rfl ?_
  intro t e rows h; simp only [get] at h; split at h <;> cases h
 have hb0 : ∀ b r, g.φ b ≠ some r := fun b r h => by have := (hs.lt b r h).2.2; simp at this
 refine ⟨.ret (.tup []), [], g, .tuple #[], ⟨rfl, rfl⟩, rfl, ?_, Tr.refl _ _ _, fun _ _ _ h => h, by simp, ?_⟩
 ·refine { size := by simp, env := ?_, inj := hs.inj, lt := fun b r h => absurd h (hb0 b r), dom := ?_, mem := ?_, iter := ?_, glob := ?_, own := ?_, excl := ?_, apart := ?_, view := ?_ }
  ·intro t x hx
   simp only [get] at hx
   split at hx
   ·rename_i h; subst h; injection hx with hx; subst hx
    exact .tup [] [] rfl fun j x u h => by simp at h
   ·cases hx
  ·intro b k h; simp at h
  ·intro b cells r h; simp at h
  ·intro b s pos r h; simp at h
  ·intro b s pos r h; simp at h
  ·intro p e rows v h; exact absurd h (hno' p e rows)
  ·rintro p p' r' ⟨e, rows, _, h, _⟩; exact absurd h (hno' p e rows)
  ·rintro p r' b ⟨e, rows, _, h, _⟩; exact absurd h (hno' p e rows)
  ·intro t org e rows h; simp only [get] at h; split at h <;> cases h
 ·rintro r' (⟨b, hb⟩ | ⟨p, e, rows, _, h, _⟩)
  ·exact absurd hb (hb0 b r')
  ·exact absurd h (hno' p e rows)
end
structure SortOk (P : Program) (p : Nums) : Prop where
 none : Jt3x P p.slices_SortFunc_Pair [.d (.sl []), .fn (.func p.pairset_compare) [] []] [] fun o H' => o = .ret (.tup []) ∧ H' = []
 some : ∀ l : List Pair, l ≠ [] → l.length < 1000000 → Jt3x P p.slices_SortFunc_Pair [.hsl 0 0 2 l.length, .fn (.func p.pairset_compare) [] []] [.mem (Jtlr (l.map Pair.row))] fun o H' => o = .ret (.tup []) ∧ H' = [.mem (Jtlr ((sortP l).map Pair.row))]
theorem Jtno (l : List Pair) : (sortP l).Pairwise fun a b => lessP b a = false := by
 have := List.pairwise_mergeSort (le := fun x y => !lessP y x) (fun a b c h1 h2 => ?_) (fun a b => ?_) l
 ·refine List.Pairwise.imp ?_ this
  intro a b h; simpa using h
 ·simp only [Bool.not_eq_true'] at h1 h2 ⊢
  cases h : lessP c a with
  | false => rfl
  | true =>
   cases h3 : lessP b c with
   | true => rw [Jtfy h3 h] at h1; cases h1
   | false => have := Jtfx h3 h2; subst this; rw [h] at h1; cases h1
 ·cases h1 : lessP b a with
  | false => simp
  | true => simp [Jtft h1]
theorem Jths {l : List Pair} {q : Pair} : q ∈ sortP l ↔ q ∈ l := by unfold sortP; simp
theorem Jt8i (l : List Pair) : dd (sortP l) = makeP l :=
 Jtoj (srt_dd (Jtno l)) (Jtom l) fun q => by rw [mem_dd, Jths, Jthl]
theorem Jtnn {l : List Pair} (h : l ≠ []) : sortP l ≠ [] := by
 intro e; have := Jtnm l; rw [e] at this; exact h (List.length_eq_zero_iff.1 this.symm)
section
theorem Jtjl {P : Program} {p : Nums} (A : All P p) (S : SortOk P p) : Jt3x P p.pairset_Make [.d (.sl [])] [] fun o H' => o = .ret (.d (.sl [])) ∧ H' = [] := by
 refine A.pairset_Make.run rfl fun R hR => ?_
 (simp (maxSteps := 1000000) [Jtdu])
 refine Jt10 [] 0 (Jtni A) (by decide) (by rfl) (by rfl) (by rfl) (by rfl) (by rfl) (by rfl) ?_
 (simp (maxSteps := 1000000) [])
 refine Jt10 [] 0 S.none (by decide) (by rfl) (by rfl) (by rfl) (by rfl) (by rfl) (by rfl) ?_
 (simp (maxSteps := 1000000) [])
 refine Jt10 [] 0 (Jtnk A) (by decide) (by rfl) (by rfl) (by rfl) (by rfl) (by rfl) (by rfl) ?_
 (simp (maxSteps := 1000000) [])
 exact hR _ _ (Jt43 _ _ rfl (by (exact wkvA)) ⟨rfl, rfl⟩)
theorem Jtjk {P : Program} {p : Nums} (A : All P p) (S : SortOk P p) (l : List Pair) (h0 : l.length < 1000000) : Jt3x P p.pairset_Make [.d (pairsD l)] [] fun o _ => o = .ret (.d (pairsD (makeP l))) := by
 by_cases hl : l = []
 ·subst hl
  exact (Jtjl A S).mono fun o H' h => h.1
 ·refine A.pairset_Make.run rfl fun R hR => ?_
  (simp (maxSteps := 1000000) [Jtdu, pairsD])
  refine Jt10 [] 1 (Jtnh A l hl h0) (by decide) (by rfl) (by rfl) (by rfl) Jtl4 (by rfl) (by rfl) ?_
  (simp (maxSteps := 1000000) [])
  refine Jt10 [0] 0 (S.some l hl h0) (by decide) (by rfl) (by rfl) Jtl4 Jtl4 (by rfl) (by rfl) ?_
  (simp (maxSteps := 1000000) [])
  have hs := Jtnj A (sortP l) (Jtnn hl) (by rw [Jtnm]; exact h0)
  rw [Jtnm, Jt8i] at hs
  refine Jt10 [0] 0 hs (by decide) (by rfl) (by rfl) Jtl4 Jtl4 (by rfl) (by rfl) ?_
  obtain ⟨n, hn⟩ : ∃ n, n = (makeP l).length := ⟨_, rfl⟩
  obtain ⟨U, hU⟩ : ∃ U, U = cptP (sortP l) := ⟨_, rfl⟩
  rw [← hn, ← hU]
  (simp (maxSteps := 1000000) [])
  refine hR _ _ (Jt43 _ _ rfl (WkV.hsl 0 0 2 n _ ((makeP l).map Pair.row) rfl (by omega) ?_ (by rw [hn]; simp) (Jtm4 fun _ => rfl)) rfl)
  show ((Jtlr (U.map Pair.row)).drop 0).take (n * 2) = Jtlr ((makeP l).map Pair.row)
  rw [List.drop_zero, Jtlx (e := 2) (rows := U.map Pair.row) (Jtm4 (f := Pair.row) fun _ => rfl), ← List.map_take, hU, cptP, Jt8i, hn, List.take_left']
  rfl
end
def renP (c : Pair → Bool) (f : Pair → Pair) (l : List Pair) : List Pair := (l.filter c).map f
theorem Jtld {c : Pair → Bool} {f : Pair → Pair} {l : List Pair} {k : Nat} (h : k < l.length) : renP c f (l.take (k + 1)) = if c l[k] = true then renP c f (l.take k) ++ [f l[k]] else renP c f (l.take k) := by
 unfold renP
 rw [List.take_add_one, List.getElem?_eq_getElem h, List.filter_append, List.map_append]
 cases hf : c l[k] <;> simp [hf]
theorem Jtlc (c : Pair → Bool) (f : Pair → Pair) (l : List Pair) : (renP c f l).length ≤ l.length := by
 unfold renP; rw [List.length_map]; exact List.length_filter_le _ _
theorem Jthr {c : Pair → Bool} {f : Pair → Pair} {l : List Pair} {q : Pair} : q ∈ renP c f l ↔ ∃ p ∈ l, c p = true ∧ f p = q := by
 unfold renP; simp only [List.mem_map, List.mem_filter, and_assoc]
def copyP (l : List Pair) (d a : Int) : List Pair := if d = a then makeP l else mergeP (l.filter fun x => x.v != d) (makeP (renP (fun x => x.v == a) (fun x => ⟨d, x.l⟩) l))
def moveP (l : List Pair) (d a : Int) : List Pair := if d = a then makeP l else mergeP (l.filter fun x => x.l != d) (makeP (renP (fun x => x.l == a) (fun x => ⟨x.v, d⟩) l))
def defP (l : List Pair) (d t : Int) : List Pair := addP ((l.filter fun x => x.v != d).filter fun x => x.l != t) ⟨d, t⟩
theorem Jtok {l : List Pair} {f : Pair → Bool} (h : Srt l) : Srt (l.filter f) := List.Pairwise.filter f h
theorem Jtoh {l : List Pair} {d a : Int} (h : Srt l) : Srt (copyP l d a) := by
 unfold copyP; split
 ·exact Jtom _
 ·exact Jton (Jtok h) (Jtom _)
theorem Jtoo {l : List Pair} {d a : Int} (h : Srt l) : Srt (moveP l d a) := by
 unfold moveP; split
 ·exact Jtom _
 ·exact Jton (Jtok h) (Jtom _)
theorem Jtoi {l : List Pair} {d t : Int} (h : Srt l) : Srt (defP l d t) := Jtoe (Jtok (Jtok h))
theorem Jthj {l : List Pair} {d a : Int} {q : Pair} : q ∈ copyP l d a ↔ (q ∈ l ∧ (d = a ∨ q.v ≠ d)) ∨ (q.v = d ∧ (⟨a, q.l⟩ : Pair) ∈ l) := by
 unfold copyP
 by_cases h : d = a
 ·subst h
  rw [if_pos rfl, Jthl]
  constructor
  ·intro hq; exact .inl ⟨hq, .inl rfl⟩
  ·rintro (⟨hq, _⟩ | ⟨e, hq⟩)
   ·exact hq
   ·have : (⟨d, q.l⟩ : Pair) = q := Jt93 e.symm rfl
    rw [this] at hq; exact hq
 ·rw [if_neg h, Jthm, Jthl, Jthr, List.mem_filter]
  constructor
  ·rintro (⟨h1, h2⟩ | ⟨p, h1, h2, rfl⟩)
   ·exact .inl ⟨h1, .inr (by simpa using h2)⟩
   ·refine .inr ⟨rfl, ?_⟩
    have e : p.v = a := by simpa using h2
    have : (⟨a, p.l⟩ : Pair) = p := Jt93 e.symm rfl
    simpa [this] using h1
  ·rintro (⟨h1, h2⟩ | ⟨h1, h2⟩)
   ·exact .inl ⟨h1, by simpa using h2.resolve_left h⟩
   ·exact .inr ⟨_, h2, by simp, Jt93 h1.symm rfl⟩
theorem Jthn {l : List Pair} {d a : Int} {q : Pair} : q ∈ moveP l d a ↔ (q ∈ l ∧ (d = a ∨ q.l ≠ d)) ∨ (q.l = d ∧ (⟨q.v, a⟩ : Pair) ∈ l) := by
 unfold moveP
 by_cases h : d = a
 ·subst h
  rw [if_pos rfl, Jthl]
  constructor
  ·intro hq; exact .inl ⟨hq, .inl rfl⟩
  ·rintro (⟨hq, _⟩ | ⟨e, hq⟩)
   ·exact hq
   ·have : (⟨q.v, d⟩ : Pair) = q := Jt93 rfl e.symm
    rw [this] at hq; exact hq
 ·rw [if_neg h, Jthm, Jthl, Jthr, List.mem_filter]
  constructor
  ·rintro (⟨h1, h2⟩ | ⟨p, h1, h2, rfl⟩)
   ·exact .inl ⟨h1, .inr (by simpa using h2)⟩
   ·refine .inr ⟨rfl, ?_⟩
    have e : p.l = a := by simpa using h2
    have : (⟨p.v, a⟩ : Pair) = p := Jt93 rfl e.symm
    simpa [this] using h1
  ·rintro (⟨h1, h2⟩ | ⟨h1, h2⟩)
   ·exact .inl ⟨h1, by simpa using h2.resolve_left h⟩
   ·exact .inr ⟨_, h2, by simp, Jt93 rfl h1.symm⟩
theorem Jthk {l : List Pair} {d t : Int} {q : Pair} : q ∈ defP l d t ↔ q = ⟨d, t⟩ ∨ (q ∈ l ∧ q.v ≠ d ∧ q.l ≠ t) := by
 unfold defP
 rw [Jthi, List.mem_filter, List.mem_filter]
 simp [and_assoc]
section
end
section
end
section
end
section
end
theorem Jt9u {l : List Pair} {f : Pair → Bool} {k : Nat} (h : k < l.length) : (l.take (k + 1)).filter f = if f l[k] = true then (l.take k).filter f ++ [l[k]] else (l.take k).filter f := by
 rw [List.take_add_one, List.getElem?_eq_getElem h, List.filter_append]
 cases hf : f l[k] <;> simp [hf]
section
theorem Jtjf {P : Program} {p : Nums} (A : All P p) (x : Pair) (v : Int) : Jt3x P p.pairset_DropV_1 [x.av, .ptr 0 0] [.mem [AI v]] fun o H' => o = .ret (AB (x.v != v)) ∧ H' = [.mem [AI v]] := by
 refine A.pairset_DropV_1.run rfl fun R hR => ?_
 (simp (maxSteps := 1000000) [Jtdr, Pair.av])
 exact hR _ _ (Jt42 _ (AB (x.v != v)) [.mem [AI v]] rfl (by (exact wkA)) ⟨rfl, rfl⟩)
theorem Jtjc {P : Program} {p : Nums} (A : All P p) (x : Pair) (v : Int) : Jt3x P p.pairset_DropL_1 [x.av, .ptr 0 0] [.mem [AI v]] fun o H' => o = .ret (AB (x.l != v)) ∧ H' = [.mem [AI v]] := by
 refine A.pairset_DropL_1.run rfl fun R hR => ?_
 (simp (maxSteps := 1000000) [Jtdp, Pair.av])
 exact hR _ _ (Jt42 _ (AB (x.l != v)) [.mem [AI v]] rfl (by (exact wkA)) ⟨rfl, rfl⟩)
theorem Jtjo {P : Program} {p : Nums} (A : All P p) (l : List Pair) (f : Nat) (v : Int) (keep : Pair → Bool) (h0 : l.length < 1000000) (hok : okFn P f = true)
  (hf : ∀ x : Pair, Jt3x P f [x.av, .ptr 0 0] [.mem [AI v]] fun o H' => o = .ret (AB (keep x)) ∧ H' = [.mem [AI v]]) :
  Jt3x P p.pairset_filter [.d (pairsD l), .fn (.func f) [] [.ptr 0 0]] [.mem [AI v]] fun o H' => o = .ret (.own 2 ((l.filter keep).map Pair.row)) ∧ H' = [.mem [AI v]] := by
 refine A.pairset_filter.run rfl fun R hR => ?_
 (simp (maxSteps := 1000000) [Jtdx, pairsD])
 refine Jt25 (n := l.length) (by rfl) (by rfl) (by omega) (by omega) (by decide) (by rfl) ?_
 (simp (maxSteps := 1000000) [])
 refine Jtd (fun k : Nat => ⟨[(13, AI k), (12, AI l.length), (11, .d (.sl (l.map Pair.row))), (5, .own 2 (((l.take k).filter keep).map Pair.row)), (4, .nils), (1, .fn (.func f) [] [.ptr 0 0])], [.mem [AI v]]⟩) (fun k => k ≤ l.length) (fun k => l.length - k) 0 (by simp) (by simp only [List.take_zero, List.filter_nil, List.map_nil]; (exact wkA)) ?_
 intro k hk N hN
 (simp (maxSteps := 1000000) [])
 ((first | refine Xc (fun h2 => ?_) (fun h2 => ?_) | refine Xo (fun h2 => ?_) (fun h2 => ?_)) <;> (try simp only [Xz, Xy] at h2))
 ·have hkl : k < l.length := by omega
  have hb : l[k]? = some l[k] := by simp
  have hw := Jtr1 (k := k) (by omega)
  have hs := Jt9u (f := keep) hkl
  have hl := List.length_filter_le keep (l.take k)
  rw [List.length_take] at hl
  obtain ⟨x, hx⟩ : ∃ x, x = l[k] := ⟨_, rfl⟩
  obtain ⟨F, hF⟩ : ∃ F, F = (l.take k).filter keep := ⟨_, rfl⟩
  have hN' := fun st' h => hN st' (k + 1) hkl h (by omega)
  rw [hs] at hN'
  rw [← hx, ← hF] at hN'
  rw [← hF] at hl ⊢
  rw [← hx] at hb
  (simp (maxSteps := 1000000) [h2, hb, Pair.row])
  refine ⟨f, [], [.ptr 0 0], [.agg [AI l[k].v, AI l[k].l]], rfl, hok, rfl, ?_⟩
  refine Jtz [0] (hf l[k]) (by decide) (by rfl) (by rfl) (by rfl) (by rfl) (by rfl) (by rfl) ?_
  rw [← hx]
  (simp (maxSteps := 1000000) [])
  cases hkx : keep x with
  | true =>
   rw [hkx, if_pos rfl] at hN'
   (simp (maxSteps := 1000000) [hkx])
   (refine Jt1b (by rfl) (by rfl) (by rfl) ?_ (by decide) ?_ ?_ ?_)
   ·simp
   ·simp; omega
   ·simp; omega
   (simp (maxSteps := 1000000) [hw])
   exact hN' _ (by simp [Pair.row]; (exact wkA))
  | false =>
   rw [hkx, if_neg (by simp)] at hN'
   (simp (maxSteps := 1000000) [hkx, hw])
   exact hN' _ (by (exact wkA))
 ·have hk' : k = l.length := by omega
  subst hk'
  (simp (maxSteps := 1000000) [])
  exact hR _ _ (Jt42 _ (.own 2 ((l.filter keep).map Pair.row)) [.mem [AI v]] rfl (by (exact wkA)) ⟨rfl, rfl⟩)
theorem Jtjh {P : Program} {p : Nums} (A : All P p) (l : List Pair) (v : Int) (h0 : l.length < 1000000) : Jt3x P p.pairset_DropV [.d (pairsD l), AI v] [] fun o H' => o = .ret (.own 2 ((l.filter fun x => x.v != v).map Pair.row)) ∧ H' = [] := by
 refine A.pairset_DropV.run rfl fun R hR => ?_
 (simp (maxSteps := 1000000) [Jtdq, pairsD])
 refine Jtz [0] (Jtjo A l p.pairset_DropV_1 v (fun x => x.v != v) h0 A.pairset_DropV_1.ok fun x => Jtjf A x v) (by decide) (by rfl) (by rfl) (by rfl) (by rfl) (by rfl) (by rfl) ?_
 (simp (maxSteps := 1000000) [])
 exact hR _ _ (Jt3z _ _ rfl ⟨rfl, rfl⟩)
theorem Jtje {P : Program} {p : Nums} (A : All P p) (l : List Pair) (v : Int) (h0 : l.length < 1000000) : Jt3x P p.pairset_DropL [.d (pairsD l), AI v] [] fun o H' => o = .ret (.own 2 ((l.filter fun x => x.l != v).map Pair.row)) ∧ H' = [] := by
 refine A.pairset_DropL.run rfl fun R hR => ?_
 (simp (maxSteps := 1000000) [Jtdo, pairsD])
 refine Jtz [0] (Jtjo A l p.pairset_DropL_1 v (fun x => x.l != v) h0 A.pairset_DropL_1.ok fun x => Jtjc A x v) (by decide) (by rfl) (by rfl) (by rfl) (by rfl) (by rfl) (by rfl) ?_
 (simp (maxSteps := 1000000) [])
 exact hR _ _ (Jt3z _ _ rfl ⟨rfl, rfl⟩)
theorem Jtjg {P : Program} {p : Nums} (A : All P p) (l : List Pair) (v : Int) (h0 : l.length < 1000000) : Jt3x P p.pairset_DropV [.d (pairsD l), AI v] [] fun o _ => o = .ret (.d (pairsD (l.filter fun x => x.v != v))) :=
 (Jtjh A l v h0).unown.mono fun _ _ h => h.1
theorem Jtjd {P : Program} {p : Nums} (A : All P p) (l : List Pair) (v : Int) (h0 : l.length < 1000000) : Jt3x P p.pairset_DropL [.d (pairsD l), AI v] [] fun o _ => o = .ret (.d (pairsD (l.filter fun x => x.l != v))) :=
 (Jtje A l v h0).unown.mono fun _ _ h => h.1
end
structure ClosOk (P : Program) (p : Nums) : Prop where
 ok1 : okFn P p.transfer_Copy_1 = true
 ok2 : okFn P p.transfer_Move_1 = true
 copy : ∀ (x : Pair) (d a : Int), Jt3x P p.transfer_Copy_1 [x.av, .ptr 0 0, .ptr 1 0] [.mem [AI d], .mem [AI a]] fun o H' => o = .ret (.tup [(⟨d, x.l⟩ : Pair).av, AB (x.v == a)]) ∧ H' = [.mem [AI d], .mem [AI a]]
 move : ∀ (x : Pair) (d a : Int), Jt3x P p.transfer_Move_1 [x.av, .ptr 0 0, .ptr 1 0] [.mem [AI d], .mem [AI a]] fun o H' => o = .ret (.tup [(⟨x.v, d⟩ : Pair).av, AB (x.l == a)]) ∧ H' = [.mem [AI d], .mem [AI a]]
section
theorem Jtqb {P : Program} {p : Nums} (A : All P p) (S : SortOk P p) (kept l : List Pair) (f : Nat) (d a : Int) (c : Pair → Bool) (g : Pair → Pair) (h0 : kept.length < 100000) (h1 : l.length < 100000) (hok : okFn P f = true)
  (hf : ∀ x : Pair, Jt3x P f [x.av, .ptr 0 0, .ptr 1 0] [.mem [AI d], .mem [AI a]] fun o H' => o = .ret (.tup [(g x).av, AB (c x)]) ∧ H' = [.mem [AI d], .mem [AI a]]) :
  Jt3x P p.transfer_rename [.d (pairsD kept), .d (pairsD l), .fn (.func f) [] [.ptr 0 0, .ptr 1 0]] [.mem [AI d], .mem [AI a]] fun o H' => o = .ret (.own 2 ((mergeP kept (makeP (renP c g l))).map Pair.row)) ∧ H' = [.mem [AI d], .mem [AI a]] := by
 refine A.transfer_rename.run rfl fun R hR => ?_
 (simp (maxSteps := 1000000) [Jtek, pairsD])
 refine Jtd (fun k : Nat => ⟨[(14, AI k), (13, AI l.length), (12, .d (.sl (l.map Pair.row))), (7, .own 2 ((renP c g (l.take k)).map Pair.row)), (6, .nils), (2, .fn (.func f) [] [.ptr 0 0, .ptr 1 0]), (0, .d (.sl (kept.map Pair.row)))], [.mem [AI d], .mem [AI a]]⟩) (fun k => k ≤ l.length) (fun k => l.length - k) 0 (by simp) (by simp only [List.take_zero, renP, List.filter_nil, List.map_nil]; (exact wkA)) ?_
 intro k hk N hN
 (simp (maxSteps := 1000000) [])
 ((first | refine Xc (fun h2 => ?_) (fun h2 => ?_) | refine Xo (fun h2 => ?_) (fun h2 => ?_)) <;> (try simp only [Xz, Xy] at h2))
 ·have hkl : k < l.length := by omega
  have hb : l[k]? = some l[k] := by simp
  have hw := Jtr1 (k := k) (by omega)
  have hs := Jtld (c := c) (f := g) hkl
  have hl := Jtlc c g (l.take k)
  rw [List.length_take] at hl
  obtain ⟨x, hx⟩ : ∃ x, x = l[k] := ⟨_, rfl⟩
  obtain ⟨F, hF⟩ : ∃ F, F = renP c g (l.take k) := ⟨_, rfl⟩
  have hN' := fun st' h => hN st' (k + 1) hkl h (by omega)
  rw [hs] at hN'
  rw [← hx, ← hF] at hN'
  rw [← hF] at hl ⊢
  rw [← hx] at hb
  (simp (maxSteps := 1000000) [h2, hb, Pair.row])
  refine ⟨f, [], [.ptr 0 0, .ptr 1 0], [.agg [AI l[k].v, AI l[k].l]], rfl, hok, rfl, ?_⟩
  refine Jtz [0, 1] (hf l[k]) (by decide) (by rfl) (by rfl) (by rfl) (by rfl) (by rfl) (by rfl) ?_
  rw [← hx]
  obtain ⟨y, hy⟩ : ∃ y, y = g x := ⟨_, rfl⟩
  rw [← hy] at hN' ⊢
  (simp (maxSteps := 1000000) [Pair.av])
  cases hkx : c x with
  | true =>
   rw [hkx, if_pos rfl] at hN'
   (simp (maxSteps := 1000000) [hkx, Pair.av])
   (refine Jt1b (by rfl) (by rfl) (by rfl) ?_ (by decide) ?_ ?_ ?_)
   ·simp
   ·simp; omega
   ·simp; omega
   (simp (maxSteps := 1000000) [hw])
   exact hN' _ (by simp [Pair.row]; (exact wkA))
  | false =>
   rw [hkx, if_neg (by simp)] at hN'
   (simp (maxSteps := 1000000) [hkx, hw])
   exact hN' _ (by (exact wkA))
 ·have hk' : k = l.length := by omega
  subst hk'
  have hl := Jtlc c g l
  have hm := Jth5 (renP c g l)
  have hmk := Jtjk A S (renP c g l) (by omega)
  have hun := (Jtjn A kept (makeP (renP c g l)) (by omega) (by omega)).mono fun _ _ h => h.1
  obtain ⟨G, hG⟩ : ∃ G, G = renP c g l := ⟨_, rfl⟩
  obtain ⟨M, hM⟩ : ∃ M, M = makeP (renP c g l) := ⟨_, rfl⟩
  rw [← hM, ← hG] at hmk
  rw [← hM] at hun
  simp only [List.take_length]
  rw [← hG]
  (simp (maxSteps := 1000000) [])
  (refine Jtx hmk (by rfl) (by rfl) ?_)
  (simp (maxSteps := 1000000) [pairsD])
  (refine Jtx hun (by rfl) (by rfl) ?_)
  (simp (maxSteps := 1000000) [])
  exact hR _ _ (Jt42 _ (.own 2 ((mergeP kept M).map Pair.row)) [.mem [AI d], .mem [AI a]] rfl (by (exact wkA)) ⟨by rw [hM], rfl⟩)
theorem Jtq6 {P : Program} {p : Nums} (A : All P p) (S : SortOk P p) (C : ClosOk P p) (l : List Pair) (d a : Int) (h0 : l.length < 100000) (hne : d ≠ a) : Jt3x P p.transfer_Copy [.d (pairsD l), AI d, AI a] [] fun o H' => o = .ret (.own 2 ((copyP l d a).map Pair.row)) ∧ H' = [] := by
 refine A.transfer_Copy.run rfl fun R hR => ?_
 (simp (maxSteps := 1000000) [Jteh, pairsD, hne])
 (refine Jtx (Jtjg A l d (by omega)) (by rfl) (by rfl) ?_)
 have hl := List.length_filter_le (fun x : Pair => x.v != d) l
 have hrn := Jtqb A S (l.filter fun x => x.v != d) l p.transfer_Copy_1 d a (fun x => x.v == a) (fun x => ⟨d, x.l⟩) (by omega) h0 C.ok1 fun x => C.copy x d a
 have hc : copyP l d a = mergeP (l.filter fun x => x.v != d) (makeP (renP (fun x => x.v == a) (fun x => ⟨d, x.l⟩) l)) := by unfold copyP; rw [if_neg hne]
 rw [← hc] at hrn
 obtain ⟨K, hK⟩ : ∃ K, K = l.filter fun x => x.v != d := ⟨_, rfl⟩
 rw [← hK] at hrn ⊢
 (simp (maxSteps := 1000000) [pairsD])
 refine Jtz [0, 1] hrn (by decide) (by rfl) (by rfl) (by rfl) (by rfl) (by rfl) (by rfl) ?_
 (simp (maxSteps := 1000000) [])
 exact hR _ _ (Jt3z _ _ rfl ⟨rfl, rfl⟩)
theorem Jtq5 {P : Program} {p : Nums} (A : All P p) (S : SortOk P p) (C : ClosOk P p) (l : List Pair) (d a : Int) (h0 : l.length < 100000) : Jt3x P p.transfer_Copy [.d (pairsD l), AI d, AI a] [] fun o _ => o = .ret (.d (pairsD (copyP l d a))) := by
 by_cases hne : d = a
 ·refine A.transfer_Copy.run rfl fun R hR => ?_
  subst hne
  (simp (maxSteps := 1000000) [Jteh, pairsD])
  have hc : copyP l d d = makeP l := by unfold copyP; rw [if_pos rfl]
  have hmk := Jtjk A S l (by omega)
  rw [← hc] at hmk
  (refine Jtx hmk (by rfl) (by rfl) ?_)
  (simp (maxSteps := 1000000) [pairsD])
  (first | exact hR _ _ FrA | exact hR _ _ FnA | exact hR _ _ (Xf (hq := by simp [AV.erase, AV.unview, pairsD]; done)))
 ·exact (Jtq6 A S C l d a h0 hne).unown.mono fun _ _ h => h.1
theorem Jtqa {P : Program} {p : Nums} (A : All P p) (S : SortOk P p) (C : ClosOk P p) (l : List Pair) (d a : Int) (h0 : l.length < 100000) (hne : d ≠ a) : Jt3x P p.transfer_Move [.d (pairsD l), AI d, AI a] [] fun o H' => o = .ret (.own 2 ((moveP l d a).map Pair.row)) ∧ H' = [] := by
 refine A.transfer_Move.run rfl fun R hR => ?_
 (simp (maxSteps := 1000000) [Jtej, pairsD, hne])
 (refine Jtx (Jtjd A l d (by omega)) (by rfl) (by rfl) ?_)
 have hl := List.length_filter_le (fun x : Pair => x.l != d) l
 have hrn := Jtqb A S (l.filter fun x => x.l != d) l p.transfer_Move_1 d a (fun x => x.l == a) (fun x => ⟨x.v, d⟩) (by omega) h0 C.ok2 fun x => C.move x d a
 have hc : moveP l d a = mergeP (l.filter fun x => x.l != d) (makeP (renP (fun x => x.l == a) (fun x => ⟨x.v, d⟩) l)) := by unfold moveP; rw [if_neg hne]
 rw [← hc] at hrn
 obtain ⟨K, hK⟩ : ∃ K, K = l.filter fun x => x.l != d := ⟨_, rfl⟩
 rw [← hK] at hrn ⊢
 (simp (maxSteps := 1000000) [pairsD])
 refine Jtz [0, 1] hrn (by decide) (by rfl) (by rfl) (by rfl) (by rfl) (by rfl) (by rfl) ?_
 (simp (maxSteps := 1000000) [])
 exact hR _ _ (Jt3z _ _ rfl ⟨rfl, rfl⟩)
theorem Jtq9 {P : Program} {p : Nums} (A : All P p) (S : SortOk P p) (C : ClosOk P p) (l : List Pair) (d a : Int) (h0 : l.length < 100000) : Jt3x P p.transfer_Move [.d (pairsD l), AI d, AI a] [] fun o _ => o = .ret (.d (pairsD (moveP l d a))) := by
 by_cases hne : d = a
 ·refine A.transfer_Move.run rfl fun R hR => ?_
  subst hne
  (simp (maxSteps := 1000000) [Jtej, pairsD])
  have hc : moveP l d d = makeP l := by unfold moveP; rw [if_pos rfl]
  have hmk := Jtjk A S l (by omega)
  rw [← hc] at hmk
  (refine Jtx hmk (by rfl) (by rfl) ?_)
  (simp (maxSteps := 1000000) [pairsD])
  (first | exact hR _ _ FrA | exact hR _ _ FnA | exact hR _ _ (Xf (hq := by simp [AV.erase, AV.unview, pairsD]; done)))
 ·exact (Jtqa A S C l d a h0 hne).unown.mono fun _ _ h => h.1
theorem Jtq8 {P : Program} {p : Nums} (A : All P p) (S : SortOk P p) (l : List Pair) (d t : Int) (h0 : l.length < 100000) (hs : Srt l) : Jt3x P p.transfer_Define [.d (pairsD l), AI d, AI t] [] fun o H' => o = .ret (.own 2 ((defP l d t).map Pair.row)) ∧ H' = [] := by
 refine A.transfer_Define.run rfl fun R hR => ?_
 (simp (maxSteps := 1000000) [Jtei, pairsD])
 (refine Jtx (Jtjg A l d (by omega)) (by rfl) (by rfl) ?_)
 have hl := List.length_filter_le (fun x : Pair => x.v != d) l
 have hl2 := List.length_filter_le (fun x : Pair => x.l != t) (l.filter fun x : Pair => x.v != d)
 have h2 := Jtjd A (l.filter fun x : Pair => x.v != d) t (by omega)
 have h3 := (Jtjb A ((l.filter fun x => x.v != d).filter fun x => x.l != t) ⟨d, t⟩ (by omega) (Jtok (Jtok hs))).mono fun _ _ h => h.1
 have hc : addP ((l.filter fun x => x.v != d).filter fun x => x.l != t) ⟨d, t⟩ = defP l d t := rfl
 rw [hc] at h3
 obtain ⟨K, hK⟩ : ∃ K, K = l.filter fun x : Pair => x.v != d := ⟨_, rfl⟩
 rw [← hK] at h2 h3 ⊢
 obtain ⟨K2, hK2⟩ : ∃ K2, K2 = K.filter fun x : Pair => x.l != t := ⟨_, rfl⟩
 rw [← hK2] at h2 h3
 (simp (maxSteps := 1000000) [pairsD])
 (refine Jtx h2 (by rfl) (by rfl) ?_)
 (simp (maxSteps := 1000000) [pairsD])
 (refine Jtx h3 (by rfl) (by rfl) ?_)
 (simp (maxSteps := 1000000) [])
 exact hR _ _ (Jt3z _ _ rfl ⟨rfl, rfl⟩)
theorem Jtq7 {P : Program} {p : Nums} (A : All P p) (S : SortOk P p) (l : List Pair) (d t : Int) (h0 : l.length < 100000) (hs : Srt l) : Jt3x P p.transfer_Define [.d (pairsD l), AI d, AI t] [] fun o _ => o = .ret (.d (pairsD (defP l d t))) :=
 (Jtq8 A S l d t h0 hs).unown.mono fun _ _ h => h.1
end
section
end
section
end
section
end
section
end
def intRow (n : Int) : List D := [.int .i64 n]
def intsD (l : List Int) : D := .sl (l.map intRow)
section
end
section
end
def AU (n : Int) : AV := .d (.int .u8 n)
section
end
section
end
theorem Jtqf {n : Int} (hw : (Lit.int .u8 n).wf = true) : 0 ≤ n ∧ n < 256 := by
 simp [Lit.wf, IntKind.min, IntKind.max, IntKind.signed, IntKind.bits] at hw
 omega
theorem u8_of {d : D} (h : HasT (.int .u8) d) : ∃ n : Int, AV.d d = AU n ∧ (0 ≤ n ∧ n < 256) := by
 obtain ⟨n, rfl, hw⟩ := h.int_inv
 exact ⟨n, rfl, Jtqf hw⟩
theorem Jtf8 {d : D} (h : HasT (.sl [ltI]) d) : ∃ l : List Int, AV.d d = .d (intsD l) ∧ l.length ≤ maxLen := by
 obtain ⟨rows, rfl, hl, hr⟩ := h.sl_inv
 obtain ⟨l, rfl⟩ := Jtm5 (g := intRow) (fun r hr => by
  obtain ⟨_, _, rfl, h0, h⟩ := HasL.cons_inv hr
  obtain rfl := h.nil_inv
  obtain ⟨a, rfl, _⟩ := h0.int_inv
  exact ⟨a, rfl⟩) hr
 exact ⟨l, rfl, by simpa using hl⟩
def isDig (c : UInt8) : Bool := decide (48 ≤ c.toNat) && decide (c.toNat ≤ 57)
def valD (ds : List UInt8) : Nat := ds.foldl (fun n c => 10 * n + (c.toNat - 48)) 0
def okD (ds : List UInt8) : Prop := ds ≠ [] ∧ (∀ c ∈ ds, isDig c = true) ∧ (ds.length ≤ 1 ∨ ds.head? ≠ some 48) ∧ valD ds < 1099511627776
instance (ds : List UInt8) : Decidable (okD ds) := by unfold okD; infer_instance
theorem Jtpq (k : Nat) : ((k : Int)).tdiv 2 = ((k / 2 : Nat) : Int) := rfl
theorem Jtpp (l : Int) (h0 : -9223372036854775808 ≤ l) (h1 : l ≤ 9223372036854775807) : IntKind.i64.wrap (l.tdiv 2) = l.tdiv 2 := by
 rcases Int.le_total 0 l with h | h
 ·obtain ⟨k, rfl⟩ := Int.eq_ofNat_of_zero_le h
  rw [Jtpq]; exact wrap_i64 (by omega) (by omega)
 ·obtain ⟨k, hk⟩ := Int.eq_ofNat_of_zero_le (show 0 ≤ -l by omega)
  have : l = -(k : Int) := by omega
  subst this
  rw [Int.neg_tdiv, Jtpq]; exact wrap_i64 (by omega) (by omega)
section
theorem Jtgh {P : Program} {p : Nums} (A : All P p) (n : Int) (h0 : -1000000000000000 ≤ n) (h1 : n ≤ 1000000000000000) : Jt3x P p.location_Slot [AI n] [] fun o _ => o = .ret (AI (2 * n + 1)) := by
 refine A.location_Slot.run rfl fun R hR => ?_
 have hw : IntKind.i64.wrap (2 * n) = 2 * n := wrap_i64 (by omega) (by omega)
 have hw2 : IntKind.i64.wrap (2 * n + 1) = 2 * n + 1 := wrap_i64 (by omega) (by omega)
 (simp (maxSteps := 1000000) [Jtd8, hw, hw2])
 (first | exact hR _ _ FrA | exact hR _ _ FnA)
theorem Jtgf {P : Program} {p : Nums} (A : All P p) (l : Int) : Jt3x P p.location_IsSlot [AI l] [] fun o _ => o = .ret (AB (l.tmod 2 == 1)) := by
 refine A.location_IsSlot.run rfl fun R hR => ?_
 (simp (maxSteps := 1000000) [Jtd6])
 (first | exact hR _ _ FrA | exact hR _ _ FnA)
theorem Jtge {P : Program} {p : Nums} (A : All P p) (l : Int) (h0 : -9223372036854775808 ≤ l) (h1 : l ≤ 9223372036854775807) : Jt3x P p.location_Index [AI l] [] fun o _ => o = .ret (AI (l.tdiv 2)) := by
 refine A.location_Index.run rfl fun R hR => ?_
 have hw := Jtpp l h0 h1
 (simp (maxSteps := 1000000) [Jtd5, hw])
 (first | exact hR _ _ FrA | exact hR _ _ FnA)
def rngZ (l r s : Int) : Bool := if l.tmod 2 = 1 then decide (0 ≤ l) && decide (l.tdiv 2 < s) else decide (0 ≤ l) && decide (l.tdiv 2 < r)
theorem Jtgd {P : Program} {p : Nums} (A : All P p) (l r s : Int) (h0 : -9223372036854775808 ≤ l) (h1 : l ≤ 9223372036854775807) : Jt3x P p.location_InRange [AI l, AI r, AI s] [] fun o _ => o = .ret (AB (rngZ l r s)) := by
 refine A.location_InRange.run rfl fun R hR => ?_
 (simp (maxSteps := 1000000) [Jtd4])
 (refine Jtx (Jtgf A l) (by rfl) (by rfl) ?_)
 (simp (maxSteps := 1000000) [])
 by_cases hm : l.tmod 2 = 1 <;> by_cases hl : 0 ≤ l
 ·(simp (maxSteps := 1000000) [hm, hl])
  (refine Jtx (Jtge A l h0 h1) (by rfl) (by rfl) ?_)
  (simp (maxSteps := 1000000) [])
  (first | exact hR _ _ FrA | exact hR _ _ FnA | exact hR _ _ (Xf (hq := by simp [AV.erase, AV.unview, rngZ, hm, hl]; done)))
 ·(simp (maxSteps := 1000000) [hm, hl])
  (first | exact hR _ _ FrA | exact hR _ _ FnA | exact hR _ _ (Xf (hq := by simp [AV.erase, AV.unview, rngZ, hm, hl]; done)))
 ·(simp (maxSteps := 1000000) [hm, hl])
  (refine Jtx (Jtge A l h0 h1) (by rfl) (by rfl) ?_)
  (simp (maxSteps := 1000000) [])
  (first | exact hR _ _ FrA | exact hR _ _ FnA | exact hR _ _ (Xf (hq := by simp [AV.erase, AV.unview, rngZ, hm, hl]; done)))
 ·(simp (maxSteps := 1000000) [hm, hl])
  (first | exact hR _ _ FrA | exact hR _ _ FnA | exact hR _ _ (Xf (hq := by simp [AV.erase, AV.unview, rngZ, hm, hl]; done)))
end
structure Mach where (op d a b imm dst src : Int)
 deriving DecidableEq, Inhabited
def Mach.row (m : Mach) : List D := [I m.op, I m.d, I m.a, I m.b, I m.imm, I m.dst, I m.src]
def Mach.av (m : Mach) : AV := .agg [AI m.op, AI m.d, AI m.a, AI m.b, AI m.imm, AI m.dst, AI m.src]
def regZ (n : Int) : Int := IntKind.i64.wrap (2 * n)
def slotZ (n : Int) : Int := IntKind.i64.wrap (IntKind.i64.wrap (2 * n) + 1)
def mvM (dst src : Int) : Mach := ⟨18, 0, 0, 0, 0, dst, src⟩
section
theorem Jtgg {P : Program} {p : Nums} (A : All P p) (x : Int) : Jt3x P p.location_Reg [AI x] [] fun o _ => o = .ret (AI (regZ x)) := by
 refine A.location_Reg.run rfl fun R hR => ?_
 (simp (maxSteps := 1000000) [Jtd7])
 (first | exact hR _ _ FrA | exact hR _ _ FnA)
def knownZ (x : Int) : Bool := decide (1 ≤ x ∧ x ≤ 18)
theorem Jtj0 {P : Program} {p : Nums} (A : All P p) (x : Int) : Jt3x P p.opcode_known [AI x] [] fun o _ => o = .ret (AB (knownZ x)) := by
 refine A.opcode_known.run rfl fun R hR => ?_
 (simp (maxSteps := 1000000) [Jtdm])
 ((first | refine Xc (fun hx => ?_) (fun hx => ?_) | refine Xo (fun hx => ?_) (fun hx => ?_)) <;> (try simp only [Xz, Xy] at hx))
 ·(simp (maxSteps := 1000000) [hx])
  (first | exact hR _ _ FrA | exact hR _ _ FnA | exact hR _ _ (Xf (hq := by simp [AV.erase, AV.unview, knownZ, hx]; done)))
 ·(simp (maxSteps := 1000000) [hx])
  (first | exact hR _ _ FrA | exact hR _ _ FnA | exact hR _ _ (Xf (hq := by simp [AV.erase, AV.unview, knownZ, hx]; done)))
structure Shape where (D A B Imm : Bool)
def shapeZ (x : Int) : Shape :=
 if knownZ x = false then ⟨false, false, false, false⟩ else if x = 1 then ⟨true, false, false, true⟩ else if x ≤ 4 then ⟨true, true, false, false⟩ else if x ≤ 16 then ⟨true, true, true, false⟩ else ⟨false, x == 17, false, false⟩
theorem Jtiy {P : Program} {p : Nums} (A : All P p) (x : Int) : Jt3x P p.opcode_Of [AI x] [] fun o _ => o = .ret (.tup [.agg [AB (shapeZ x).D, AB (shapeZ x).A, AB (shapeZ x).B, AB (shapeZ x).Imm], AB (knownZ x)]) := by
 refine A.opcode_Of.run rfl fun R hR => ?_
 (simp (maxSteps := 1000000) [Jtdk])
 (refine Jtx (Jtj0 A _) (by rfl) (by rfl) ?_)
 (simp (maxSteps := 1000000) [])
 ((first | refine Xc (fun h1 => ?_) (fun h1 => ?_) | refine Xo (fun h1 => ?_) (fun h1 => ?_)) <;> (try simp only [Xz, Xy] at h1))
 ·(simp (maxSteps := 1000000) [h1])
  (first | exact hR _ _ FrA | exact hR _ _ FnA | exact hR _ _ (Xf (hq := by simp [AV.erase, AV.unview, shapeZ, h1]; done)))
 ·(simp (maxSteps := 1000000) [h1])
  ((first | refine Xc (fun h2 => ?_) (fun h2 => ?_) | refine Xo (fun h2 => ?_) (fun h2 => ?_)) <;> (try simp only [Xz, Xy] at h2))
  ·subst h2
   (simp (maxSteps := 1000000) [])
   (first | exact hR _ _ FrA | exact hR _ _ FnA | exact hR _ _ (Xf (hq := by simp [AV.erase, AV.unview, shapeZ, h1]; done)))
  ·(simp (maxSteps := 1000000) [h2])
   ((first | refine Xc (fun h3 => ?_) (fun h3 => ?_) | refine Xo (fun h3 => ?_) (fun h3 => ?_)) <;> (try simp only [Xz, Xy] at h3))
   ·(simp (maxSteps := 1000000) [h3])
    (first | exact hR _ _ FrA | exact hR _ _ FnA | exact hR _ _ (Xf (hq := by simp [AV.erase, AV.unview, shapeZ, h1, h2, h3]; done)))
   ·(simp (maxSteps := 1000000) [h3])
    ((first | refine Xc (fun h4 => ?_) (fun h4 => ?_) | refine Xo (fun h4 => ?_) (fun h4 => ?_)) <;> (try simp only [Xz, Xy] at h4))
    ·(simp (maxSteps := 1000000) [h4])
     (first | exact hR _ _ FrA | exact hR _ _ FnA | exact hR _ _ (Xf (hq := by simp [AV.erase, AV.unview, shapeZ, h1, h2, h3, h4]; done)))
    ·(simp (maxSteps := 1000000) [h4])
     (first | exact hR _ _ FrA | exact hR _ _ FnA | exact hR _ _ (Xf (hq := by simp [AV.erase, AV.unview, shapeZ, h1, h2, h3, h4]; done)))
def Jtnt (x : Int) : Bool := knownZ x && x != 18
theorem Jtiz {P : Program} {p : Nums} (A : All P p) (x : Int) : Jt3x P p.opcode_Source [AI x] [] fun o _ => o = .ret (AB (Jtnt x)) := by
 refine A.opcode_Source.run rfl fun R hR => ?_
 (simp (maxSteps := 1000000) [Jtdl])
 (refine Jtx (Jtj0 A _) (by rfl) (by rfl) ?_)
 (simp (maxSteps := 1000000) [])
 ((first | refine Xc (fun h1 => ?_) (fun h1 => ?_) | refine Xo (fun h1 => ?_) (fun h1 => ?_)) <;> (try simp only [Xz, Xy] at h1))
 ·(simp (maxSteps := 1000000) [h1])
  (first | exact hR _ _ FrA | exact hR _ _ FnA | exact hR _ _ (Xf (hq := by simp [AV.erase, AV.unview, h1, Jtnt]; done)))
 ·(simp (maxSteps := 1000000) [h1])
  (first | exact hR _ _ FrA | exact hR _ _ FnA | exact hR _ _ (Xf (hq := by simp [AV.erase, AV.unview, h1, Jtnt]; done)))
def inZ (x n : Int) : Bool := decide (0 ≤ x ∧ x < n)
def usesA (x : Int) : Bool := decide (2 ≤ x ∧ x ≤ 17)
def usesB (x : Int) : Bool := decide (5 ≤ x ∧ x ≤ 16)
def usesD (x : Int) : Bool := decide (1 ≤ x ∧ x ≤ 16)
end
structure Field where (value : Int) (used : Bool) (bound : Int)
def Field.row (f : Field) : List D := [I f.value, .bool f.used, I f.bound]
def Field.bad (f : Field) : Bool := f.used && (decide (f.value < 0) || decide (f.bound ≤ f.value))
def Jtqr (fs : List Field) : Bool := !fs.any Field.bad
section
theorem Jto2 {P : Program} {p : Nums} (A : All P p) (fs : List Field) (hl : fs.length < 1000000) : Jt3x P p.source_within [.d (.sl (fs.map Field.row))] [] fun o _ => o = .ret (AB (Jtqr fs)) := by
 refine A.source_within.run rfl fun R hR => ?_
 (simp (maxSteps := 1000000) [Jteg])
 refine Jtd (fun k : Nat => ⟨[(7, AI k), (6, AI fs.length), (5, .d (.sl (fs.map Field.row))), (2, AB false)], []⟩) (fun k => k ≤ fs.length ∧ (fs.take k).any Field.bad = false) (fun k => fs.length - k) 0 (by simp) (by (exact wkA)) ?_
 rintro k ⟨hk, hno⟩ N hN
 (simp (maxSteps := 1000000) [])
 ((first | refine Xc (fun h1 => ?_) (fun h1 => ?_) | refine Xo (fun h1 => ?_) (fun h1 => ?_)) <;> (try simp only [Xz, Xy] at h1))
 ·have hkl : k < fs.length := by simpa using h1
  have hf : fs[k]? = some fs[k] := by simp [hkl]
  have hw := Jtr1 (k := k) (by omega)
  have htk : fs.take (k + 1) = fs.take k ++ [fs[k]] := by rw [List.take_add_one, hf]; rfl
  have hany : Jtqr fs = true → fs[k].bad = false := by
   intro h; simp [Jtqr] at h; exact h _ (List.getElem_mem hkl)
  have next : ∀ env H, fs[k].bad = false → Wk 0 ⟨env, H⟩ ⟨[(7, AI ((k + 1 : Nat) : Int)), (6, AI fs.length), (5, .d (.sl (fs.map Field.row))), (2, AB false)], []⟩ → N ⟨env, H⟩ :=
   fun env H hb hw => hN _ (k + 1) ⟨hkl, by rw [htk, List.any_append, hno]; simp [hb]⟩ hw (by omega)
  have stop : fs[k].bad = true → Jtqr fs = false := by
   intro h; cases hz : Jtqr fs with
   | false => rfl
   | true => rw [hany hz] at h; cases h
  (simp (maxSteps := 1000000) [h1, hf, Field.row])
  ((first | refine Xc (fun h2 => ?_) (fun h2 => ?_) | refine Xo (fun h2 => ?_) (fun h2 => ?_)) <;> (try simp only [Xz, Xy] at h2))
  ·(simp (maxSteps := 1000000) [h2])
   ((first | refine Xc (fun h3 => ?_) (fun h3 => ?_) | refine Xo (fun h3 => ?_) (fun h3 => ?_)) <;> (try simp only [Xz, Xy] at h3))
   ·(simp (maxSteps := 1000000) [h2, h3])
    (first | exact hR _ _ FrA | exact hR _ _ FnA | exact hR _ _ (Xf (hq := by simp [AV.erase, AV.unview, stop (by simp [Field.bad, h2, h3])]; done)))
   ·(simp (maxSteps := 1000000) [h2, h3])
    ((first | refine Xc (fun h4 => ?_) (fun h4 => ?_) | refine Xo (fun h4 => ?_) (fun h4 => ?_)) <;> (try simp only [Xz, Xy] at h4))
    ·(simp (maxSteps := 1000000) [h2, h3, h4])
     (first | exact hR _ _ FrA | exact hR _ _ FnA | exact hR _ _ (Xf (hq := by simp [AV.erase, AV.unview, stop (by simp [Field.bad, h2, h3, h4])]; done)))
    ·(simp (maxSteps := 1000000) [h2, h3, h4, hw])
     exact next _ _ (by simp [Field.bad, h2, h3, h4]) (by (exact wkA))
  ·(simp (maxSteps := 1000000) [h2, hw])
   exact next _ _ (by simp [Field.bad, h2]) (by (exact wkA))
 ·(simp (maxSteps := 1000000) [h1])
  have hk' : k = fs.length := by simp at h1; omega
  subst hk'
  rw [List.take_length] at hno
  (first | exact hR _ _ FrA | exact hR _ _ FnA | exact hR _ _ (Xf (hq := by simp [AV.erase, AV.unview, Jtqr, hno]; done)))
end
def Field.odd (f : Field) : Bool := !f.used && f.value != 0
def blankZ (fs : List Field) : Bool := !fs.any Field.odd
structure Instr where (op d a b imm : Int)
 deriving DecidableEq, Inhabited
def Instr.row (i : Instr) : List D := [I i.op, I i.d, I i.a, I i.b, I i.imm]
def Instr.av (i : Instr) : AV := .agg [AI i.op, AI i.d, AI i.a, AI i.b, AI i.imm]
structure Term where (kind a to els : Int)
 deriving DecidableEq, Inhabited
def Term.row (i : Term) : List D := [I i.kind, I i.a, I i.to, I i.els]
def Term.av (i : Term) : AV := .agg [AI i.kind, AI i.a, AI i.to, AI i.els]
def flds (i : Instr) (regs : Int) : List Field := [⟨i.d, (shapeZ i.op).D, regs⟩, ⟨i.a, (shapeZ i.op).A, regs⟩, ⟨i.b, (shapeZ i.op).B, regs⟩]
def Jto9 (i : Instr) (regs : Int) : Int :=
 if Jtnt i.op = false then 8 else if Jtqr (flds i regs) = false then 9 else if blankZ (flds i regs) = false then 12 else if (shapeZ i.op).Imm = false ∧ i.imm ≠ 0 then 12 else 0
section
theorem Jtnz {P : Program} {p : Nums} (A : All P p) (fs : List Field) (hl : fs.length < 1000000) : Jt3x P p.source_blank [.d (.sl (fs.map Field.row))] [] fun o _ => o = .ret (AB (blankZ fs)) := by
 refine A.source_blank.run rfl fun R hR => ?_
 (simp (maxSteps := 1000000) [Jtee])
 refine Jtd (fun k : Nat => ⟨[(7, AI k), (6, AI fs.length), (5, .d (.sl (fs.map Field.row))), (2, AB false)], []⟩) (fun k => k ≤ fs.length ∧ (fs.take k).any Field.odd = false) (fun k => fs.length - k) 0 (by simp) (by (exact wkA)) ?_
 rintro k ⟨hk, hno⟩ N hN
 (simp (maxSteps := 1000000) [])
 ((first | refine Xc (fun h1 => ?_) (fun h1 => ?_) | refine Xo (fun h1 => ?_) (fun h1 => ?_)) <;> (try simp only [Xz, Xy] at h1))
 ·have hkl : k < fs.length := by simpa using h1
  have hf : fs[k]? = some fs[k] := by simp [hkl]
  have hw := Jtr1 (k := k) (by omega)
  have htk : fs.take (k + 1) = fs.take k ++ [fs[k]] := by rw [List.take_add_one, hf]; rfl
  have hany : blankZ fs = true → fs[k].odd = false := by
   intro h; simp [blankZ] at h; exact h _ (List.getElem_mem hkl)
  have next : ∀ env H, fs[k].odd = false → Wk 0 ⟨env, H⟩ ⟨[(7, AI ((k + 1 : Nat) : Int)), (6, AI fs.length), (5, .d (.sl (fs.map Field.row))), (2, AB false)], []⟩ → N ⟨env, H⟩ :=
   fun env H hb hw => hN _ (k + 1) ⟨hkl, by rw [htk, List.any_append, hno]; simp [hb]⟩ hw (by omega)
  have stop : fs[k].odd = true → blankZ fs = false := by
   intro h; cases hz : blankZ fs with
   | false => rfl
   | true => rw [hany hz] at h; cases h
  (simp (maxSteps := 1000000) [h1, hf, Field.row])
  ((first | refine Xc (fun h2 => ?_) (fun h2 => ?_) | refine Xo (fun h2 => ?_) (fun h2 => ?_)) <;> (try simp only [Xz, Xy] at h2))
  ·(simp (maxSteps := 1000000) [h2])
   ((first | refine Xc (fun h3 => ?_) (fun h3 => ?_) | refine Xo (fun h3 => ?_) (fun h3 => ?_)) <;> (try simp only [Xz, Xy] at h3))
   ·(simp (maxSteps := 1000000) [h2, h3])
    (first | exact hR _ _ FrA | exact hR _ _ FnA | exact hR _ _ (Xf (hq := by simp [AV.erase, AV.unview, stop (by simp [Field.odd, h2, h3])]; done)))
   ·(simp (maxSteps := 1000000) [h2, h3, hw])
    exact next _ _ (by simp [Field.odd, h2, h3]) (by (exact wkA))
  ·(simp (maxSteps := 1000000) [h2, hw])
   exact next _ _ (by simp [Field.odd, h2]) (by (exact wkA))
 ·(simp (maxSteps := 1000000) [h1])
  have hk' : k = fs.length := by simp at h1; omega
  subst hk'
  rw [List.take_length] at hno
  (first | exact hR _ _ FrA | exact hR _ _ FnA | exact hR _ _ (Xf (hq := by simp [AV.erase, AV.unview, blankZ, hno]; done)))
theorem Jtnw {P : Program} {p : Nums} (A : All P p) (i : Instr) (regs : Int) : Jt3x P p.source_Instr [i.av, AI regs] [] fun o _ => o = .ret (AI (Jto9 i regs)) := by
 have hflds : AV.d (.sl [[I i.d, .bool (shapeZ i.op).D, I regs], [I i.a, .bool (shapeZ i.op).A, I regs], [I i.b, .bool (shapeZ i.op).B, I regs]]) = .d (.sl ((flds i regs).map Field.row)) := rfl
 refine A.source_Instr.run rfl fun R hR => ?_
 (simp (maxSteps := 1000000) [Jteb, Instr.av])
 (refine Jtx (Jtiy A _) (by rfl) (by rfl) ?_)
 (simp (maxSteps := 1000000) [])
 (refine Jtx (Jtiz A _) (by rfl) (by rfl) ?_)
 (simp (maxSteps := 1000000) [])
 ((first | refine Xc (fun h1 => ?_) (fun h1 => ?_) | refine Xo (fun h1 => ?_) (fun h1 => ?_)) <;> (try simp only [Xz, Xy] at h1))
 ·(simp (maxSteps := 1000000) [h1])
  (first | exact hR _ _ FrA | exact hR _ _ FnA | exact hR _ _ (Xf (hq := by simp [AV.erase, AV.unview, Jto9, h1]; done)))
 ·(simp (maxSteps := 1000000) [h1])
  (refine Jtx (Jto2 A (flds i regs) (by simp [flds])) (by rfl) (by rfl) ?_)
  (simp (maxSteps := 1000000) [])
  ((first | refine Xc (fun h2 => ?_) (fun h2 => ?_) | refine Xo (fun h2 => ?_) (fun h2 => ?_)) <;> (try simp only [Xz, Xy] at h2))
  ·(simp (maxSteps := 1000000) [h2])
   (first | exact hR _ _ FrA | exact hR _ _ FnA | exact hR _ _ (Xf (hq := by simp [AV.erase, AV.unview, Jto9, h1, h2]; done)))
  ·(simp (maxSteps := 1000000) [h2])
   (refine Jtx (Jtnz A (flds i regs) (by simp [flds])) (by rfl) (by rfl) ?_)
   (simp (maxSteps := 1000000) [])
   ((first | refine Xc (fun h3 => ?_) (fun h3 => ?_) | refine Xo (fun h3 => ?_) (fun h3 => ?_)) <;> (try simp only [Xz, Xy] at h3))
   ·(simp (maxSteps := 1000000) [h3])
    (first | exact hR _ _ FrA | exact hR _ _ FnA | exact hR _ _ (Xf (hq := by simp [AV.erase, AV.unview, Jto9, h1, h2, h3]; done)))
   ·(simp (maxSteps := 1000000) [h3])
    ((first | refine Xc (fun h4 => ?_) (fun h4 => ?_) | refine Xo (fun h4 => ?_) (fun h4 => ?_)) <;> (try simp only [Xz, Xy] at h4))
    ·(simp (maxSteps := 1000000) [h4])
     ((first | refine Xc (fun h5 => ?_) (fun h5 => ?_) | refine Xo (fun h5 => ?_) (fun h5 => ?_)) <;> (try simp only [Xz, Xy] at h5))
     ·(simp (maxSteps := 1000000) [h5])
      (first | exact hR _ _ FrA | exact hR _ _ FnA | exact hR _ _ (Xf (hq := by simp [AV.erase, AV.unview, Jto9, h1, h2, h3, h4, h5]; done)))
     ·(simp (maxSteps := 1000000) [h5])
      (first | exact hR _ _ FrA | exact hR _ _ FnA | exact hR _ _ (Xf (hq := by simp [AV.erase, AV.unview, Jto9, h1, h2, h3, h4, h5]; done)))
    ·(simp (maxSteps := 1000000) [h4])
     (first | exact hR _ _ FrA | exact hR _ _ FnA | exact hR _ _ (Xf (hq := by simp [AV.erase, AV.unview, Jto9, h1, h2, h3, h4]; done)))
def fldsT (t : Term) (regs blocks : Int) : List Field := [⟨t.a, t.kind != 1, regs⟩, ⟨t.to, t.kind != 3, blocks⟩, ⟨t.els, t.kind == 2, blocks⟩]
def Jtod (t : Term) (regs blocks : Int) : Int :=
 if t.kind < 1 ∨ 3 < t.kind then 16 else if Jtqr ((fldsT t regs blocks).take 1) = false then 9 else if Jtqr ((fldsT t regs blocks).drop 1) = false then 11 else if blankZ (fldsT t regs blocks) = false then 12 else 0
theorem Jtny {P : Program} {p : Nums} (A : All P p) (t : Term) (regs blocks : Int) : Jt3x P p.source_Term [t.av, AI regs, AI blocks] [] fun o _ => o = .ret (AI (Jtod t regs blocks)) := by
 refine A.source_Term.run rfl fun R hR => ?_
 (simp (maxSteps := 1000000) [Jted, Term.av])
 ((first | refine Xc (fun h1 => ?_) (fun h1 => ?_) | refine Xo (fun h1 => ?_) (fun h1 => ?_)) <;> (try simp only [Xz, Xy] at h1))
 ·(simp (maxSteps := 1000000) [h1])
  (first | exact hR _ _ FrA | exact hR _ _ FnA | exact hR _ _ (Xf (hq := by simp [AV.erase, AV.unview, Jtod, h1]; done)))
 ·(simp (maxSteps := 1000000) [h1])
  ((first | refine Xc (fun h2 => ?_) (fun h2 => ?_) | refine Xo (fun h2 => ?_) (fun h2 => ?_)) <;> (try simp only [Xz, Xy] at h2))
  ·(simp (maxSteps := 1000000) [h2])
   (first | exact hR _ _ FrA | exact hR _ _ FnA | exact hR _ _ (Xf (hq := by simp [AV.erase, AV.unview, Jtod, h1, h2]; done)))
  ·(simp (maxSteps := 1000000) [h2])
   (refine Jtx (Jto2 A ((fldsT t regs blocks).take 1) (by simp [fldsT])) (by rfl) (by rfl) ?_)
   (simp (maxSteps := 1000000) [])
   ((first | refine Xc (fun h3 => ?_) (fun h3 => ?_) | refine Xo (fun h3 => ?_) (fun h3 => ?_)) <;> (try simp only [Xz, Xy] at h3))
   ·(simp (maxSteps := 1000000) [h3])
    (first | exact hR _ _ FrA | exact hR _ _ FnA | exact hR _ _ (Xf (hq := by simp [AV.erase, AV.unview, Jtod, h1, h2, h3]; done)))
   ·(simp (maxSteps := 1000000) [h3])
    (refine Jtx (Jto2 A ((fldsT t regs blocks).drop 1) (by simp [fldsT])) (by rfl) (by rfl) ?_)
    (simp (maxSteps := 1000000) [])
    ((first | refine Xc (fun h4 => ?_) (fun h4 => ?_) | refine Xo (fun h4 => ?_) (fun h4 => ?_)) <;> (try simp only [Xz, Xy] at h4))
    ·(simp (maxSteps := 1000000) [h4])
     (first | exact hR _ _ FrA | exact hR _ _ FnA | exact hR _ _ (Xf (hq := by simp [AV.erase, AV.unview, Jtod, h1, h2, h3, h4]; done)))
    ·(simp (maxSteps := 1000000) [h4])
     (refine Jtx (Jtnz A (fldsT t regs blocks) (by simp [fldsT])) (by rfl) (by rfl) ?_)
     (simp (maxSteps := 1000000) [])
     ((first | refine Xc (fun h5 => ?_) (fun h5 => ?_) | refine Xo (fun h5 => ?_) (fun h5 => ?_)) <;> (try simp only [Xz, Xy] at h5))
     ·(simp (maxSteps := 1000000) [h5])
      (first | exact hR _ _ FrA | exact hR _ _ FnA | exact hR _ _ (Xf (hq := by simp [AV.erase, AV.unview, Jtod, h1, h2, h3, h4, h5]; done)))
     ·(simp (maxSteps := 1000000) [h5])
      (first | exact hR _ _ FrA | exact hR _ _ FnA | exact hR _ _ (Xf (hq := by simp [AV.erase, AV.unview, Jtod, h1, h2, h3, h4, h5]; done)))
end
structure Block where (code : List Instr) (term : Term)
 deriving Inhabited
def Block.row (b : Block) : List D := [.sl (b.code.map Instr.row), I b.term.kind, I b.term.a, I b.term.to, I b.term.els]
def Block.av (b : Block) : AV := .agg [.d (.sl (b.code.map Instr.row)), AI b.term.kind, AI b.term.a, AI b.term.to, AI b.term.els]
structure Func where (args regs : Int) (blocks : List Block)
def Func.av (f : Func) : AV := .agg [AI f.args, AI f.regs, .d (.sl (f.blocks.map Block.row))]
def codeN (bs : List Block) : Nat := (bs.map fun b => b.code.length).sum
theorem Jt7x {bs : List Block} {k : Nat} {b : Block} (h : bs[k]? = some b) : codeN (bs.take (k + 1)) = codeN (bs.take k) + b.code.length := by
 rw [codeN, List.take_add_one, h]; simp [codeN]
theorem Jt7u (a b : List Block) : codeN (a ++ b) = codeN a + codeN b := by simp [codeN]
theorem Jt7w (bs : List Block) (k : Nat) : codeN (bs.take k) ≤ codeN bs := by
 have h := Jt7u (bs.take k) (bs.drop k)
 rw [List.take_append_drop] at h; omega
def Jt9v : List Int → Int
 | [] => 0
 | e :: es => if e ≠ 0 then e else Jt9v es
theorem Jt9z {es : List Int} {k : Nat} (h : ∀ e ∈ es.take k, e = 0) : Jt9v es = Jt9v (es.drop k) := by
 induction k generalizing es with
 | zero => rfl
 | succ k ih =>
  cases es with
  | nil => rfl
  | cons e es =>
   have : e = 0 := h e (by simp)
   simp only [Jt9v, this, ne_eq, not_true_eq_false, if_false, List.drop_succ_cons]
   exact ih fun x hx => h x (by simp [hx])
theorem Jt9y {es : List Int} {k : Nat} {e : Int} (h : ∀ e ∈ es.take k, e = 0) (hk : es[k]? = some e) (he : e ≠ 0) : Jt9v es = e := by
 rw [Jt9z h]
 have hlt := (List.getElem?_eq_some_iff.1 hk).1
 rw [List.drop_eq_getElem_cons hlt]
 have : es[k] = e := (List.getElem?_eq_some_iff.1 hk).2
 simp [Jt9v, this, he]
theorem Jt9w {es : List Int} (h : ∀ e ∈ es, e = 0) : Jt9v es = 0 := by
 rw [Jt9z (k := es.length) (by simpa using h)]; simp [Jt9v]
def Jto7 (b : Block) (regs blocks : Int) : Int :=
 let e := Jt9v (b.code.map (Jto9 · regs))
 if e ≠ 0 then e else Jtod b.term regs blocks
theorem take_zero {α : Type} {f : α → Int} {l : List α} {k : Nat} {x : α} (h : ∀ e ∈ (l.map f).take k, e = 0) (hx : l[k]? = some x) (h0 : f x = 0) : ∀ e ∈ (l.map f).take (k + 1), e = 0 := by
 intro e he
 rw [List.take_add_one, List.mem_append] at he
 rcases he with he | he
 ·exact h e he
 ·rw [List.getElem?_map, hx] at he; simp at he; rw [he]; exact h0
section
theorem Jtnv {P : Program} {p : Nums} (A : All P p) (f : Func) (h0 : f.blocks.length < 1000000000) (h1 : codeN f.blocks < 1000000000) : Jt3x P p.source_Code [f.av] [] fun o _ => o = .ret (AI (codeN f.blocks)) := by
 refine A.source_Code.run rfl fun R hR => ?_
 (simp (maxSteps := 1000000) [Jtea, Func.av])
 refine Jtd (fun k : Nat => ⟨[(9, AI k), (8, AI f.blocks.length), (7, .d (.sl (f.blocks.map Block.row))), (3, AI (codeN (f.blocks.take k)))], []⟩) (fun k => k ≤ f.blocks.length) (fun k => f.blocks.length - k) 0 (by simp) (by (exact wkA)) ?_
 intro k hk N hN
 (simp (maxSteps := 1000000) [])
 ((first | refine Xc (fun h2 => ?_) (fun h2 => ?_) | refine Xo (fun h2 => ?_) (fun h2 => ?_)) <;> (try simp only [Xz, Xy] at h2))
 ·have hkl : k < f.blocks.length := by simpa using h2
  have hb : f.blocks[k]? = some f.blocks[k] := by simp [hkl]
  have hw := Jtr1 (k := k) (by omega)
  have hs := Jt7x hb
  have hle := Jt7w f.blocks (k + 1)
  have hw2 := Jtr0 (a := codeN (f.blocks.take k)) (b := f.blocks[k].code.length) (by omega)
  rw [← hs] at hw2
  (simp (maxSteps := 1000000) [h2, List.getElem?_map, hb, Block.row, hw, hw2])
  exact hN _ (k + 1) hkl (by (exact wkA)) (by omega)
 ·have hk' : k = f.blocks.length := by simp at h2; omega
  subst hk'
  (simp (maxSteps := 1000000) [])
  (first | exact hR _ _ FrA | exact hR _ _ FnA | exact hR _ _ (Xf (hq := by simp [AV.erase, AV.unview, List.take_length]; done)))
theorem Jto0 {P : Program} {p : Nums} (A : All P p) (b : Block) (regs blocks : Int) (h0 : b.code.length < 1000000000) : Jt3x P p.source_block [b.av, AI regs, AI blocks] [] fun o _ => o = .ret (AI (Jto7 b regs blocks)) := by
 refine A.source_block.run rfl fun R hR => ?_
 (simp (maxSteps := 1000000) [Jtef, Block.av])
 refine Jtd (fun k : Nat => ⟨[(13, AI k), (12, AI b.code.length), (11, .d (.sl (b.code.map Instr.row))), (3, .ptr 0 0), (1, AI regs), (2, AI blocks)], [.mem [.d (.sl (b.code.map Instr.row)), AI b.term.kind, AI b.term.a, AI b.term.to, AI b.term.els]]⟩)
  (fun k => k ≤ b.code.length ∧ ∀ e ∈ (b.code.map (Jto9 · regs)).take k, e = 0) (fun k => b.code.length - k) 0 (by simp) (by (exact wkA)) ?_
 rintro k ⟨hk, hz⟩ N hN
 (simp (maxSteps := 1000000) [])
 ((first | refine Xc (fun h2 => ?_) (fun h2 => ?_) | refine Xo (fun h2 => ?_) (fun h2 => ?_)) <;> (try simp only [Xz, Xy] at h2))
 ·have hkl : k < b.code.length := by simpa using h2
  have hb : b.code[k]? = some b.code[k] := by simp [hkl]
  have hw := Jtr1 (k := k) (by omega)
  (simp (maxSteps := 1000000) [h2, hb, Instr.row])
  (refine Jtx (Jtnw A b.code[k] regs) (by rfl) (by rfl) ?_)
  (simp (maxSteps := 1000000) [])
  ((first | refine Xc (fun h3 => ?_) (fun h3 => ?_) | refine Xo (fun h3 => ?_) (fun h3 => ?_)) <;> (try simp only [Xz, Xy] at h3))
  ·(simp (maxSteps := 1000000) [h3])
   have : Jt9v (b.code.map (Jto9 · regs)) = Jto9 b.code[k] regs := Jt9y hz (by simp [hkl]) h3
   (first | exact hR _ _ FrA | exact hR _ _ FnA | exact hR _ _ (Xf (hq := by simp [AV.erase, AV.unview, Jto7, this, h3]; done)))
  ·(simp (maxSteps := 1000000) [h3, hw])
   exact hN _ (k + 1) ⟨hkl, take_zero hz hb (by simpa using h3)⟩ (by (exact wkA)) (by omega)
 ·have hk' : k = b.code.length := by simp at h2; omega
  subst hk'
  have hfe : Jt9v (b.code.map (Jto9 · regs)) = 0 := Jt9w (by rw [List.take_of_length_le (by simp)] at hz; exact hz)
  (simp (maxSteps := 1000000) [])
  (refine Jtx (Jtny A b.term regs blocks) (by rfl) (by rfl) ?_)
  (simp (maxSteps := 1000000) [])
  (first | exact hR _ _ FrA | exact hR _ _ FnA | exact hR _ _ (Xf (hq := by simp [AV.erase, AV.unview, Jto7, hfe]; done)))
def Jto8 (f : Func) : Int :=
 if f.args < 0 ∨ f.regs < f.args then 9 else if 1048576 < f.regs then 6 else if f.blocks.length = 0 then 14 else if 1048576 < f.blocks.length ∨ 1048576 < codeN f.blocks then 6
 else Jt9v (f.blocks.map fun b => Jto7 b f.regs f.blocks.length)
theorem Jtnu {P : Program} {p : Nums} (A : All P p) (f : Func) (h0 : f.blocks.length < 1000000000) (h1 : codeN f.blocks < 1000000000) : Jt3x P p.source_Check [f.av] [] fun o _ => o = .ret (AI (Jto8 f)) := by
 refine A.source_Check.run rfl fun R hR => ?_
 (simp (maxSteps := 1000000) [Jte9, Func.av])
 ((first | refine Xc (fun a1 => ?_) (fun a1 => ?_) | refine Xo (fun a1 => ?_) (fun a1 => ?_)) <;> (try simp only [Xz, Xy] at a1))
 ·(simp (maxSteps := 1000000) [a1])
  have e : Jto8 f = 9 := by unfold Jto8; repeat (first | rw [if_pos (by omega)] | rw [if_neg (by omega)])
  (first | exact hR _ _ FrA | exact hR _ _ FnA | exact hR _ _ (Xf (hq := by simp [AV.erase, AV.unview, e]; done)))
 (simp (maxSteps := 1000000) [a1])
 ((first | refine Xc (fun a2 => ?_) (fun a2 => ?_) | refine Xo (fun a2 => ?_) (fun a2 => ?_)) <;> (try simp only [Xz, Xy] at a2))
 ·(simp (maxSteps := 1000000) [a2])
  have e : Jto8 f = 9 := by unfold Jto8; repeat (first | rw [if_pos (by omega)] | rw [if_neg (by omega)])
  (first | exact hR _ _ FrA | exact hR _ _ FnA | exact hR _ _ (Xf (hq := by simp [AV.erase, AV.unview, e]; done)))
 (simp (maxSteps := 1000000) [a2])
 ((first | refine Xc (fun a3 => ?_) (fun a3 => ?_) | refine Xo (fun a3 => ?_) (fun a3 => ?_)) <;> (try simp only [Xz, Xy] at a3))
 ·(simp (maxSteps := 1000000) [a3])
  have e : Jto8 f = 6 := by unfold Jto8; repeat (first | rw [if_pos (by omega)] | rw [if_neg (by omega)])
  (first | exact hR _ _ FrA | exact hR _ _ FnA | exact hR _ _ (Xf (hq := by simp [AV.erase, AV.unview, e]; done)))
 (simp (maxSteps := 1000000) [a3])
 ((first | refine Xc (fun a4 => ?_) (fun a4 => ?_) | refine Xo (fun a4 => ?_) (fun a4 => ?_)) <;> (try simp only [Xz, Xy] at a4))
 ·(simp (maxSteps := 1000000) [a4])
  have e : Jto8 f = 14 := by unfold Jto8; repeat (first | rw [if_pos (by omega)] | rw [if_neg (by omega)])
  (first | exact hR _ _ FrA | exact hR _ _ FnA | exact hR _ _ (Xf (hq := by simp [AV.erase, AV.unview, e]; done)))
 (simp (maxSteps := 1000000) [a4])
 ((first | refine Xc (fun a5 => ?_) (fun a5 => ?_) | refine Xo (fun a5 => ?_) (fun a5 => ?_)) <;> (try simp only [Xz, Xy] at a5))
 ·(simp (maxSteps := 1000000) [a5])
  have e : Jto8 f = 6 := by unfold Jto8; repeat (first | rw [if_pos (by omega)] | rw [if_neg (by omega)])
  (first | exact hR _ _ FrA | exact hR _ _ FnA | exact hR _ _ (Xf (hq := by simp [AV.erase, AV.unview, e]; done)))
 (simp (maxSteps := 1000000) [a5])
 (refine Jtx (Jtnv A f h0 h1) (by rfl) (by rfl) ?_)
 (simp (maxSteps := 1000000) [])
 ((first | refine Xc (fun a6 => ?_) (fun a6 => ?_) | refine Xo (fun a6 => ?_) (fun a6 => ?_)) <;> (try simp only [Xz, Xy] at a6))
 ·(simp (maxSteps := 1000000) [a6])
  have e : Jto8 f = 6 := by unfold Jto8; repeat (first | rw [if_pos (by omega)] | rw [if_neg (by omega)])
  (first | exact hR _ _ FrA | exact hR _ _ FnA | exact hR _ _ (Xf (hq := by simp [AV.erase, AV.unview, e]; done)))
 (simp (maxSteps := 1000000) [a6])
 have e : Jto8 f = Jt9v (f.blocks.map fun b => Jto7 b f.regs f.blocks.length) := by
  unfold Jto8; repeat (first | rw [if_pos (by omega)] | rw [if_neg (by omega)])
 refine Jtd (fun k : Nat => ⟨[(39, AI k), (38, AI f.blocks.length), (37, .d (.sl (f.blocks.map Block.row))), (1, .ptr 0 0)], [.mem [AI f.args, AI f.regs, .d (.sl (f.blocks.map Block.row))]]⟩)
  (fun k => k ≤ f.blocks.length ∧ ∀ e ∈ (f.blocks.map fun b => Jto7 b f.regs f.blocks.length).take k, e = 0) (fun k => f.blocks.length - k) 0 (by simp) (by (exact wkA)) ?_
 rintro k ⟨hk, hz⟩ N hN
 (simp (maxSteps := 1000000) [])
 ((first | refine Xc (fun h2 => ?_) (fun h2 => ?_) | refine Xo (fun h2 => ?_) (fun h2 => ?_)) <;> (try simp only [Xz, Xy] at h2))
 ·have hkl : k < f.blocks.length := by simpa using h2
  have hb : f.blocks[k]? = some f.blocks[k] := by simp [hkl]
  have hw := Jtr1 (k := k) (by omega)
  have hbl : f.blocks[k].code.length < 1000000000 := by
   have h3 := Jt7x hb
   have h4 := Jt7w f.blocks (k + 1)
   omega
  (simp (maxSteps := 1000000) [h2, hb, Block.row])
  (refine Jtx (Jto0 A f.blocks[k] f.regs f.blocks.length hbl) (by rfl) (by rfl) ?_)
  (simp (maxSteps := 1000000) [])
  ((first | refine Xc (fun h3 => ?_) (fun h3 => ?_) | refine Xo (fun h3 => ?_) (fun h3 => ?_)) <;> (try simp only [Xz, Xy] at h3))
  ·(simp (maxSteps := 1000000) [h3])
   have e2 : Jt9v (f.blocks.map fun b => Jto7 b f.regs f.blocks.length) = Jto7 f.blocks[k] f.regs f.blocks.length := Jt9y hz (by simp [hkl]) h3
   (first | exact hR _ _ FrA | exact hR _ _ FnA | exact hR _ _ (Xf (hq := by simp [AV.erase, AV.unview, e, e2]; done)))
  ·(simp (maxSteps := 1000000) [h3, hw])
   exact hN _ (k + 1) ⟨hkl, take_zero hz hb (by simpa using h3)⟩ (by (exact wkA)) (by omega)
 ·have hk' : k = f.blocks.length := by simp at h2; omega
  subst hk'
  have hfe : Jt9v (f.blocks.map fun b => Jto7 b f.regs f.blocks.length) = 0 := Jt9w (by rw [List.take_of_length_le (by simp)] at hz; exact hz)
  (simp (maxSteps := 1000000) [])
  (first | exact hR _ _ FrA | exact hR _ _ FnA | exact hR _ _ (Xf (hq := by simp [AV.erase, AV.unview, e, hfe]; done)))
end
def bad9 (i : Instr) (regs : Int) : Bool := usesD i.op && !inZ i.d regs || usesA i.op && !inZ i.a regs || usesB i.op && !inZ i.b regs
def bad12 (i : Instr) : Bool := !usesD i.op && i.d != 0 || !usesA i.op && i.a != 0 || !usesB i.op && i.b != 0 || i.op != 1 && i.imm != 0
def Jtkl (i : Instr) (regs : Int) : Int := if i.op < 1 ∨ 17 < i.op then 8 else if bad9 i regs = true then 9 else if bad12 i = true then 12 else 0
def Jtkr (t : Term) (regs blocks : Int) : Int :=
 if t.kind = 1 then (if inZ t.to blocks = false then 11 else if t.a ≠ 0 ∨ t.els ≠ 0 then 12 else 0)
 else if t.kind = 2 then (if inZ t.a regs = false then 9 else if inZ t.to blocks = false ∨ inZ t.els blocks = false then 11 else 0)
 else if t.kind = 3 then (if inZ t.a regs = false then 9 else if t.to ≠ 0 ∨ t.els ≠ 0 then 12 else 0)
 else 16
section
end
section
end
def few (f : Func) : Bool := decide (f.blocks.length ≤ 40) && decide (f.regs ≤ 60) && f.blocks.all (fun b => decide (b.code.length ≤ 100)) && decide (codeN f.blocks ≤ 300)
def Jtkj (b : Block) (regs blocks : Int) : Int :=
 let e := Jt9v (b.code.map (Jtkl · regs))
 if e ≠ 0 then e else Jtkr b.term regs blocks
def Jtkk (f : Func) : Int :=
 if f.args < 0 ∨ f.regs < f.args then 9 else if 1048576 < f.regs then 6 else if f.blocks.length = 0 then 14 else if 1048576 < f.blocks.length ∨ 1048576 < codeN f.blocks then 6
 else Jt9v (f.blocks.map fun b => Jtkj b f.regs f.blocks.length)
theorem Jt7v {bs : List Block} (h : ∀ b ∈ bs, b.code.length ≤ 100) : codeN bs ≤ 100 * bs.length := by
 induction bs with
 | nil => simp [codeN]
 | cons b bs ih =>
  have h1 := h b (by simp)
  have h2 := ih fun x hx => h x (by simp [hx])
  simp only [codeN, List.map_cons, List.sum_cons, List.length_cons] at *
  omega
section
theorem Jtkb {P : Program} {p : Nums} (A : All P p) (f : Func) (h0 : f.blocks.length < 1000000000) (h1 : codeN f.blocks < 1000000000) : Jt3x P p.ref07_Code [f.av] [] fun o _ => o = .ret (AI (codeN f.blocks)) := by
 refine A.ref07_Code.run rfl fun R hR => ?_
 (simp (maxSteps := 1000000) [Jtdz, Func.av])
 refine Jtd (fun k : Nat => ⟨[(4, AI k), (1, .ptr 0 0), (3, AI (codeN (f.blocks.take k)))], [.mem [AI f.args, AI f.regs, .d (.sl (f.blocks.map Block.row))]]⟩) (fun k => k ≤ f.blocks.length) (fun k => f.blocks.length - k) 0 (by simp) (by (exact wkA)) ?_
 intro k hk N hN
 (simp (maxSteps := 1000000) [])
 ((first | refine Xc (fun h2 => ?_) (fun h2 => ?_) | refine Xo (fun h2 => ?_) (fun h2 => ?_)) <;> (try simp only [Xz, Xy] at h2))
 ·have hkl : k < f.blocks.length := by simpa using h2
  have hb : f.blocks[k]? = some f.blocks[k] := by simp [hkl]
  have hw := Jtr1 (k := k) (by omega)
  have hs := Jt7x hb
  have hle := Jt7w f.blocks (k + 1)
  have hw2 := Jtr0 (a := codeN (f.blocks.take k)) (b := f.blocks[k].code.length) (by omega)
  rw [← hs] at hw2
  (simp (maxSteps := 1000000) [h2, List.getElem?_map, hb, Block.row, hw, hw2])
  exact hN _ (k + 1) hkl (by (exact wkA)) (by omega)
 ·have hk' : k = f.blocks.length := by simp at h2; omega
  subst hk'
  (simp (maxSteps := 1000000) [])
  (first | exact hR _ _ FrA | exact hR _ _ FnA | exact hR _ _ (Xf (hq := by simp [AV.erase, AV.unview, List.take_length]; done)))
theorem Jtkc {P : Program} {p : Nums} (A : All P p) (f : Func) : Jt3x P p.ref07_Few [f.av] [] fun o _ => o = .ret (AB (few f)) := by
 refine A.ref07_Few.run rfl fun R hR => ?_
 (simp (maxSteps := 1000000) [Jte0, Func.av])
 ((first | refine Xc (fun a1 => ?_) (fun a1 => ?_) | refine Xo (fun a1 => ?_) (fun a1 => ?_)) <;> (try simp only [Xz, Xy] at a1))
 ·(simp (maxSteps := 1000000) [a1])
  have e : few f = false := by simp [few]; omega
  (first | exact hR _ _ FrA | exact hR _ _ FnA | exact hR _ _ (Xf (hq := by simp [AV.erase, AV.unview, e]; done)))
 (simp (maxSteps := 1000000) [a1])
 ((first | refine Xc (fun a2 => ?_) (fun a2 => ?_) | refine Xo (fun a2 => ?_) (fun a2 => ?_)) <;> (try simp only [Xz, Xy] at a2))
 ·(simp (maxSteps := 1000000) [a2])
  have e : few f = false := by simp [few]; omega
  (first | exact hR _ _ FrA | exact hR _ _ FnA | exact hR _ _ (Xf (hq := by simp [AV.erase, AV.unview, e]; done)))
 (simp (maxSteps := 1000000) [a2])
 refine Jtd (fun k : Nat => ⟨[(3, AI k), (1, .ptr 0 0)], [.mem [AI f.args, AI f.regs, .d (.sl (f.blocks.map Block.row))]]⟩)
  (fun k => k ≤ f.blocks.length ∧ ∀ b ∈ f.blocks.take k, b.code.length ≤ 100) (fun k => f.blocks.length - k) 0 (by simp) (by (exact wkA)) ?_
 rintro k ⟨hk, hz⟩ N hN
 (simp (maxSteps := 1000000) [])
 ((first | refine Xc (fun h2 => ?_) (fun h2 => ?_) | refine Xo (fun h2 => ?_) (fun h2 => ?_)) <;> (try simp only [Xz, Xy] at h2))
 ·have hkl : k < f.blocks.length := by simpa using h2
  have hb : f.blocks[k]? = some f.blocks[k] := by simp [hkl]
  have hw := Jtr1 (k := k) (by omega)
  (simp (maxSteps := 1000000) [h2, hb, Block.row])
  ((first | refine Xc (fun h3 => ?_) (fun h3 => ?_) | refine Xo (fun h3 => ?_) (fun h3 => ?_)) <;> (try simp only [Xz, Xy] at h3))
  ·(simp (maxSteps := 1000000) [h3])
   have e : few f = false := by
    have : ¬ (∀ b ∈ f.blocks, b.code.length ≤ 100) := fun h => by have := h f.blocks[k] (by simp); omega
    simp [few]; intro _ _ h; exact absurd h this
   (first | exact hR _ _ FrA | exact hR _ _ FnA | exact hR _ _ (Xf (hq := by simp [AV.erase, AV.unview, e]; done)))
  ·(simp (maxSteps := 1000000) [h3, hw])
   refine hN _ (k + 1) ⟨hkl, ?_⟩ (by (exact wkA)) (by omega)
   intro b hb'
   rw [List.take_add_one, hb, List.mem_append] at hb'
   rcases hb' with hb' | hb'
   ·exact hz b hb'
   ·simp at hb'; subst hb'; omega
 ·have hk' : k = f.blocks.length := by simp at h2; omega
  subst hk'
  (simp (maxSteps := 1000000) [])
  have hcb : codeN f.blocks ≤ 100 * f.blocks.length := Jt7v (by rw [List.take_length] at hz; exact hz)
  (refine Jtx (Jtkb A f (by omega) (by omega)) (by rfl) (by rfl) ?_)
  (simp (maxSteps := 1000000) [])
  have e : few f = decide ((codeN f.blocks : Int) ≤ 300) := by
   rw [List.take_length] at hz
   have e1 : f.blocks.all (fun b => decide (b.code.length ≤ 100)) = true := by simpa using hz
   have e2 : decide (f.blocks.length ≤ 40) = true := by simp; omega
   have e3 : decide (f.regs ≤ 60) = true := by simp; omega
   simp only [few, e1, e2, e3, Bool.true_and]
   congr 1; simp; omega
  (first | exact hR _ _ FrA | exact hR _ _ FnA | exact hR _ _ (Xf (hq := by simp [AV.erase, AV.unview, e]; done)))
end
structure MBlock where (code : List Mach) (term : Term)
 deriving Inhabited
def MBlock.row (b : MBlock) : List D := [.sl (b.code.map Mach.row), I b.term.kind, I b.term.a, I b.term.to, I b.term.els]
def MBlock.av (b : MBlock) : AV := .agg [.d (.sl (b.code.map Mach.row)), AI b.term.kind, AI b.term.a, AI b.term.to, AI b.term.els]
structure MFunc where (args regs slots : Int) (blocks : List MBlock)
def MFunc.av (f : MFunc) : AV := .agg [AI f.args, AI f.regs, AI f.slots, .d (.sl (f.blocks.map MBlock.row))]
def witD (w : List (List Pair)) : D := .sl (w.map fun l => [pairsD l])
structure Cert where (S : Func) (T : MFunc) (W : List (List Pair))
def Cert.av (c : Cert) : AV := .agg [AI c.S.args, AI c.S.regs, .d (.sl (c.S.blocks.map Block.row)), AI c.T.args, AI c.T.regs, AI c.T.slots, .d (.sl (c.T.blocks.map MBlock.row)), .d (witD c.W)]
section
end
def opM (i : Instr) (b : Int) : Mach := ⟨i.op, 0, 0, b, i.imm, 0, 0⟩
def Jto3 (i : Instr) : List Mach :=
  (if (shapeZ i.op).A = true then [mvM (regZ 0) (slotZ i.a)] else []) ++
  ((if (i.op != 2) = true then (if (shapeZ i.op).B = true then [mvM (regZ 1) (slotZ i.b), opM i 1] else [opM i 0]) else []) ++
   (if (shapeZ i.op).D = true then [mvM (slotZ i.d) (regZ 0)] else []))
def spCode (l : List Instr) : List Mach := l.flatMap Jto3
section
end
section
end
def mcodeN (bs : List MBlock) : Nat := (bs.map fun b => b.code.length).sum
theorem Jthh {bs : List MBlock} {k : Nat} {b : MBlock} (h : bs[k]? = some b) : mcodeN (bs.take (k + 1)) = mcodeN (bs.take k) + b.code.length := by
 rw [mcodeN, List.take_add_one, h]; simp [mcodeN]
theorem Jthe (a b : List MBlock) : mcodeN (a ++ b) = mcodeN a + mcodeN b := by simp [mcodeN]
theorem Jthg (bs : List MBlock) (k : Nat) : mcodeN (bs.take k) ≤ mcodeN bs := by
 have h := Jthe (bs.take k) (bs.drop k)
 rw [List.take_append_drop] at h; omega
def mostN (l : List Nat) : Nat := l.foldl max 0
theorem Jti3 {l : List Nat} {k x : Nat} (h : l[k]? = some x) : mostN (l.take (k + 1)) = max (mostN (l.take k)) x := by
 rw [mostN, List.take_add_one, h]; simp [mostN]
theorem Jt9x {es : List Int} (h : Jt9v es = 0) : ∀ e ∈ es, e = 0 := by
 induction es with
 | nil => intro e he; simp at he
 | cons e es ih =>
  simp only [Jt9v] at h
  intro x hx
  split at h
  ·exact absurd h ‹_›
  ·rcases List.mem_cons.1 hx with rfl | hx
   ·simp_all
   ·exact ih h x hx
section
end
def lead : List Mach → Nat
 | [] => 0
 | m :: l => if (m.op == 18) = true then lead l + 1 else 0
def Jtkp (l : List Mach) : Nat := mostN ((List.range l.length).map fun i => lead (l.drop i))
theorem Jtfp (l : List Mach) : lead l ≤ l.length := by
 induction l with
 | nil => simp [lead]
 | cons m l ih => simp only [lead, List.length_cons]; split <;> omega
section
theorem Jtkd {P : Program} {p : Nums} (A : All P p) (f : MFunc) (h0 : f.blocks.length < 1000000000) (h1 : mcodeN f.blocks < 1000000000) : Jt3x P p.ref08_Code [f.av] [] fun o _ => o = .ret (AI (mcodeN f.blocks)) := by
 refine A.ref08_Code.run rfl fun R hR => ?_
 (simp (maxSteps := 1000000) [Jte1, MFunc.av])
 refine Jtd (fun k : Nat => ⟨[(4, AI k), (1, .ptr 0 0), (3, AI (mcodeN (f.blocks.take k)))], [.mem [AI f.args, AI f.regs, AI f.slots, .d (.sl (f.blocks.map MBlock.row))]]⟩) (fun k => k ≤ f.blocks.length) (fun k => f.blocks.length - k) 0 (by simp) (by (exact wkA)) ?_
 intro k hk N hN
 (simp (maxSteps := 1000000) [])
 ((first | refine Xc (fun h2 => ?_) (fun h2 => ?_) | refine Xo (fun h2 => ?_) (fun h2 => ?_)) <;> (try simp only [Xz, Xy] at h2))
 ·have hkl : k < f.blocks.length := by simpa using h2
  have hb : f.blocks[k]? = some f.blocks[k] := by simp [hkl]
  have hw := Jtr1 (k := k) (by omega)
  have hs := Jthh hb
  have hle := Jthg f.blocks (k + 1)
  have hw2 := Jtr0 (a := mcodeN (f.blocks.take k)) (b := f.blocks[k].code.length) (by omega)
  rw [← hs] at hw2
  (simp (maxSteps := 1000000) [h2, List.getElem?_map, hb, MBlock.row, hw, hw2])
  exact hN _ (k + 1) hkl (by (exact wkA)) (by omega)
 ·have hk' : k = f.blocks.length := by simp at h2; omega
  subst hk'
  (simp (maxSteps := 1000000) [])
  (first | exact hR _ _ FrA | exact hR _ _ FnA | exact hR _ _ (Xf (hq := by simp [AV.erase, AV.unview, List.take_length]; done)))
end
theorem Jtii {α : Type} [DecidableEq α] : ∀ {l m : List α}, l.Nodup → (∀ x ∈ l, x ∈ m) → l.length ≤ m.length := by
 intro l
 induction l with
 | nil => intro m _ _; simp
 | cons x l ih =>
  intro m hn hs
  rw [List.nodup_cons] at hn
  have hx := hs x (by simp)
  have := ih (m := m.erase x) hn.2 fun y hy => (List.mem_erase_of_ne (by rintro rfl; exact hn.1 hy)).2 (hs y (by simp [hy]))
  rw [List.length_erase_of_mem hx] at this
  have := List.length_pos_of_mem hx
  simp only [List.length_cons]; omega
def prodP (V L : List Int) : List Pair := V.flatMap fun v => L.map fun l => (⟨v, l⟩ : Pair)
theorem Jtk2 (V L : List Int) : (prodP V L).length = V.length * L.length := by
 unfold prodP
 induction V with
 | nil => simp
 | cons v V ih => simp only [List.flatMap_cons, List.length_append, List.length_map, List.length_cons, ih, Nat.add_mul]; omega
theorem Jthp {V L : List Int} {q : Pair} : q ∈ prodP V L ↔ q.v ∈ V ∧ q.l ∈ L := by
 unfold prodP
 simp only [List.mem_flatMap, List.mem_map]
 constructor
 ·rintro ⟨v, hv, l, hl, rfl⟩; exact ⟨hv, hl⟩
 ·rintro ⟨hv, hl⟩; exact ⟨q.v, hv, q.l, hl, rfl⟩
structure Over (V L : List Int) (l : List Pair) : Prop where
 srt : Srt l
 mem : ∀ q ∈ l, q.v ∈ V ∧ q.l ∈ L
theorem Over.len {V L : List Int} {l : List Pair} (h : Over V L l) : l.length ≤ V.length * L.length := by
 rw [← Jtk2]
 exact Jtii (Jtop h.srt) fun q hq => Jthp.2 (h.mem q hq)
theorem Over.copy {V L : List Int} {l : List Pair} (h : Over V L l) {d a : Int} (hd : d ∈ V) : Over V L (copyP l d a) := by
 refine ⟨Jtoh h.srt, fun q hq => ?_⟩
 rcases Jthj.1 hq with ⟨h1, _⟩ | ⟨h1, h2⟩
 ·exact h.mem q h1
 ·exact ⟨by rw [h1]; exact hd, (h.mem _ h2).2⟩
theorem Over.move {V L : List Int} {l : List Pair} (h : Over V L l) {d a : Int} (hd : d ∈ L) : Over V L (moveP l d a) := by
 refine ⟨Jtoo h.srt, fun q hq => ?_⟩
 rcases Jthn.1 hq with ⟨h1, _⟩ | ⟨h1, h2⟩
 ·exact h.mem q h1
 ·exact ⟨(h.mem _ h2).1, by rw [h1]; exact hd⟩
theorem Over.define {V L : List Int} {l : List Pair} (h : Over V L l) {d t : Int} (hd : d ∈ V) (ht : t ∈ L) : Over V L (defP l d t) := by
 refine ⟨Jtoi h.srt, fun q hq => ?_⟩
 rcases Jthk.1 hq with rfl | ⟨h1, _⟩
 ·exact ⟨hd, ht⟩
 ·exact h.mem q h1
structure CS where (set : List Pair) (steps largest : Nat)
abbrev CR := CS × Option (Int × Int)
def costC (s : CS) : CS := ⟨s.set, s.steps + 1 + s.set.length, s.largest⟩
def Jt6b (most : Int) (s : CS) (l : List Pair) (at_ : Int) : CR := (⟨l, s.steps, max s.largest l.length⟩, if (l.length : Int) > most then some (24, at_) else none)
def useC (s : CS) (v t at_ : Int) : CR := (costC s, if (⟨v, t⟩ : Pair) ∈ s.set then none else some (21, at_))
def thenC (r : CR) (f : CS → CR) : CR := match r.2 with
 | none => f r.1
 | some e => (r.1, some e)
theorem Jtpx {s : CS} {f : CS → CR} : thenC (s, none) f = f s := rfl
theorem Jtpy {s : CS} {e : Int × Int} {f : CS → CR} : thenC (s, some e) f = (s, some e) := rfl
structure Room (V L : List Int) (s : CS) (n : Nat) : Prop where
 over : Over V L s.set
 few : V.length * L.length < 100000
 steps : s.steps + 100001 * n < 1000000000000000000
 lg : s.largest < 100000
theorem Room.len {V L : List Int} {s : CS} {n : Nat} (h : Room V L s n) : s.set.length < 100000 := Nat.lt_of_le_of_lt h.over.len h.few
theorem Room.mono {V L : List Int} {s : CS} {n m : Nat} (h : Room V L s n) (hm : m ≤ n) : Room V L s m := ⟨h.over, h.few, by have := h.steps; omega, h.lg⟩
theorem Room.cost {V L : List Int} {s : CS} {n : Nat} (h : Room V L s (n + 1)) : Room V L (costC s) n :=
 ⟨h.over, h.few, by have := h.steps; have := h.len; simp only [costC]; omega, h.lg⟩
theorem Room.become {V L : List Int} {s : CS} {n : Nat} (h : Room V L s n) {l : List Pair} (hl : Over V L l) (most at_ : Int) : Room V L (Jt6b most s l at_).1 n := by
 refine ⟨hl, h.few, h.steps, ?_⟩
 have := h.lg
 have := Nat.lt_of_le_of_lt hl.len h.few
 simp only [Jt6b]; omega
theorem Room.use {V L : List Int} {s : CS} {n : Nat} (h : Room V L s (n + 1)) (v t at_ : Int) : Room V L (useC s v t at_).1 n := h.cost
section
variable {P : Program} {m : Nat} {Q : AExit → ASt → Prop} {st : ASt} {K : ASt → Prop} {QP : AV → ASt → Prop} {dst : Option Nat}
theorem Jt11 (bs : List Nat) {f : Nat} {args cargs : List AV} {Hp Hc Hc' Hb : List Blk} {x y : AV} (h : Jt3x P f cargs Hc fun o H' => o = .pan x ∧ H' = Hc')
  (hnd : bs.Nodup) (ha : renL (idx bs) args = some cargs) (hp : picks st.H bs = some Hp) (hc : renB (idx bs) Hp = some Hc) (hb : renB (back bs st.H.length 0) Hc' = some Hb)
  (hl : Hc'.length = bs.length) (hx : x.ren (back bs st.H.length 0) = some y) (hK : QP y ⟨unview st.env, wback st.H bs Hb⟩) : AWcall P false f args dst K QP st := by
 refine .inr ⟨rfl, .inr ⟨bs, hnd, cargs, Hp, Hc, ha, hp, hc, h.mono ?_⟩⟩
 rintro o H' ⟨rfl, he⟩
 subst he
 have ht : H'.take (bs.length + 0) = H' := by rw [Nat.add_zero, ← hl, List.take_length]
 refine ⟨0, Hb, y, by rw [ht]; exact hb, by omega, hx, ?_⟩
 have e : Hb.length = bs.length := by rw [Jtl3 hb, hl]
 rw [← e, List.take_length, List.drop_length, List.append_nil]
 exact hK
theorem Jt40 {rs : List RV} {m : Nat} {Q : AOut → List Blk → Prop} {st : ASt} (x x' : AV) (H' : List Blk) (hw : Wk m ⟨[(0, x.erase)], st.H⟩ ⟨[(0, x')], H'⟩) (hq : Q (.pan x') H') : Fin rs m Q (.panic x) st := ⟨x', H', hw, hq⟩
attribute [simp] panEnd
end
def failV (p : Nums) (e : Int × Int) : AV := .iface p.ty_bcfail (.agg [AI e.1, AI e.2])
def outR (p : Nums) : Option (Int × Int) → AOut
 | none => .ret (.tup [])
 | some e => .pan (failV p e)
def ckB (most : Int) (s : CS) : Blk := .mem [.d (pairsD s.set), AI most, AI s.steps, AI s.largest]
theorem wrapN {n : Nat} (h : n < 4611686018427387904) : IntKind.i64.wrap (n : Int) = (n : Int) := by
 have := Jtr0 (a := n) (b := 0) (by omega); simpa using this
section
theorem Jt6j {P : Program} {p : Nums} (A : All P p) (s : CS) (most : Int) (h0 : s.set.length < 100000) (h1 : s.steps < 1000000000000000000) : Jt3x P p.blockcheck_checker_cost [.ptr 0 0] [ckB most s] fun o H' => o = .ret (.tup []) ∧ H' = [ckB most (costC s)] := by
 refine A.blockcheck_checker_cost.run rfl fun R hR => ?_
 obtain ⟨l, n, g⟩ := s
 have e1 : IntKind.i64.wrap (1 + (l.length : Int)) = 1 + (l.length : Int) := by have := wrapN (n := 1 + l.length) (by simp at h0; omega); simpa using this
 have e2 : IntKind.i64.wrap ((n : Int) + (1 + (l.length : Int))) = (n : Int) + (1 + (l.length : Int)) := by have := wrapN (n := n + (1 + l.length)) (by simp at h0 h1; omega); simpa using this
 have e3 : ((n + 1 + l.length : Nat) : Int) = (n : Int) + (1 + (l.length : Int)) := by omega
 (simp (maxSteps := 1000000) [Jtc6, ckB, pairsD, e1, e2])
 exact hR _ _ (Fin_wk (.tup []) (.tup []) [.mem [.d (pairsD l), AI most, AI ((n : Int) + (1 + (l.length : Int))), AI g]] rfl (by simp only [pairsD]; (exact wkA)) ⟨rfl, by simp only [ckB, costC, e3]⟩)
theorem Jt6i {P : Program} {p : Nums} (A : All P p) (s : CS) (most : Int) (l : List Pair) (at_ : Int) (h0 : l.length < 100000) (h1 : s.largest < 1000000000000000000) :
  Jt3x P p.blockcheck_checker_become [.ptr 0 0, .d (pairsD l), AI at_] [ckB most s] fun o H' => o = outR p (Jt6b most s l at_).2 ∧ H' = [ckB most (Jt6b most s l at_).1] := by
 refine A.blockcheck_checker_become.run rfl fun R hR => ?_
 obtain ⟨u, n, g⟩ := s
 obtain ⟨mx, hmx⟩ : ∃ mx, mx = max g l.length := ⟨_, rfl⟩
 have e1 : (if g < l.length then (l.length : Int) else (g : Int)) = (mx : Int) := by split <;> omega
 (simp (maxSteps := 1000000) [Jtc5, ckB, pairsD, e1])
 ((first | refine Xc (fun h2 => ?_) (fun h2 => ?_) | refine Xo (fun h2 => ?_) (fun h2 => ?_)) <;> (try simp only [Xz, Xy] at h2))
 ·(simp (maxSteps := 1000000) [h2])
  refine hR _ _ (Jt40 _ (failV p (24, at_)) [.mem [.d (pairsD l), AI most, AI n, AI mx]] (by simp only [pairsD, failV]; (exact wkA)) ⟨?_, by simp only [ckB, Jt6b, hmx]⟩)
  simp [outR, Jt6b, h2]
 ·(simp (maxSteps := 1000000) [h2])
  refine hR _ _ (Fin_wk (.tup []) (.tup []) [.mem [.d (pairsD l), AI most, AI n, AI mx]] rfl (by simp only [pairsD]; (exact wkA)) ⟨?_, by simp only [ckB, Jt6b, hmx]⟩)
  simp [outR, Jt6b, h2]
end
def instrC (most : Int) (s : CS) (i : Instr) (m : Mach) (at_ : Int) : CR :=
 thenC (if usesA i.op = true then useC s i.a (regZ m.a) at_ else (s, none)) fun s =>
  thenC (if usesB i.op = true then useC s i.b (regZ m.b) at_ else (s, none)) fun s =>
   if usesD i.op = true then Jt6b most (costC s) (defP s.set i.d (regZ m.d)) at_ else (s, none)
theorem Jtmx (x : Int) : (shapeZ x).D = usesD x := by
 unfold shapeZ usesD knownZ
 by_cases h1 : 1 ≤ x ∧ x ≤ 18
 ·by_cases h2 : x = 1
  ·subst h2; decide
  ·by_cases h3 : x ≤ 4
   ·simp [h1, h2, h3]; omega
   ·by_cases h4 : x ≤ 16
    ·simp [h1, h2, h3, h4]
    ·simp [h1, h2, h3, h4]
 ·simp [h1]; omega
theorem Jtmv (x : Int) : (shapeZ x).A = usesA x := by
 unfold shapeZ usesA knownZ
 by_cases h1 : 1 ≤ x ∧ x ≤ 18
 ·by_cases h2 : x = 1
  ·subst h2; decide
  ·by_cases h3 : x ≤ 4
   ·simp [h1, h2, h3]; omega
   ·by_cases h4 : x ≤ 16
    ·simp [h1, h2, h3, h4]; omega
    ·simp only [h1, h2, h3, h4, and_self, decide_true, Bool.true_eq_false, if_false]; by_cases h5 : x = 17
     ·subst h5; decide
     ·have : x = 18 := by omega
      subst this; decide
 ·simp [h1]; omega
theorem Jtmw (x : Int) : (shapeZ x).B = usesB x := by
 unfold shapeZ usesB knownZ
 by_cases h1 : 1 ≤ x ∧ x ≤ 18
 ·by_cases h2 : x = 1
  ·subst h2; decide
  ·by_cases h3 : x ≤ 4
   ·simp [h1, h2, h3]; omega
   ·by_cases h4 : x ≤ 16
    ·simp [h1, h2, h3, h4]; omega
    ·simp [h1, h2, h3, h4]
 ·simp [h1]; omega
section
theorem Jt6n {P : Program} {p : Nums} (A : All P p) (s : CS) (most v reg at_ : Int) (h0 : s.set.length < 100000) (h1 : s.steps < 1000000000000000000) (hs : Srt s.set) :
  Jt3x P p.blockcheck_checker_use [.ptr 0 0, AI v, AI reg, AI at_] [ckB most s] fun o H' => o = outR p (useC s v (regZ reg) at_).2 ∧ H' = [ckB most (useC s v (regZ reg) at_).1] := by
 refine A.blockcheck_checker_use.run rfl fun R hR => ?_
 have hH := Jtji A s.set ⟨v, regZ reg⟩ (by omega) hs
 have hc := Jt6j A s most h0 h1
 have e0 : (useC s v (regZ reg) at_).1 = costC s := rfl
 obtain ⟨C, hC⟩ : ∃ C, C = ckB most (costC s) := ⟨_, rfl⟩
 have hCm : C = .mem [.d (pairsD s.set), AI most, AI (costC s).steps, AI s.largest] := hC
 obtain ⟨B, hB⟩ : ∃ B, B = ckB most s := ⟨_, rfl⟩
 rw [← hC] at hc
 rw [← hB] at hc ⊢
 (simp (maxSteps := 1000000) [Jtcc])
 refine Jtz [0] hc (by decide) (by rfl) (by rfl) (by rw [hB]; rfl) (by rw [hCm]; rfl) (by rfl) (by rfl) ?_
 (simp (maxSteps := 1000000) [hCm])
 (refine Jtx (Jtgg A reg) (by rfl) (by rfl) ?_)
 (simp (maxSteps := 1000000) [])
 (refine Jtx hH (by rfl) (by rfl) ?_)
 by_cases hm : (⟨v, regZ reg⟩ : Pair) ∈ s.set
 ·(simp (maxSteps := 1000000) [hm])
  refine hR _ _ (Fin_wk (.tup []) (.tup []) [C] rfl (by rw [hCm]; (exact wkA)) ⟨?_, by rw [hC]; rfl⟩)
  simp [useC, hm, outR]
 ·(simp (maxSteps := 1000000) [hm])
  refine hR _ _ (Jt40 _ (failV p (21, at_)) [C] (by rw [hCm]; simp only [failV]; (exact wkA)) ⟨?_, by rw [hC]; rfl⟩)
  simp [useC, hm, outR]
end
theorem Jteu {V L : List Int} {most : Int} {s : CS} {n : Nat} {i : Instr} {m : Mach} {at_ : Int} (h : Room V L s (n + 3)) (hd : usesD i.op = true → i.d ∈ V ∧ regZ m.d ∈ L) : Room V L (instrC most s i m at_).1 n := by
 unfold instrC
 have h2 : Room V L (if usesA i.op = true then useC s i.a (regZ m.a) at_ else (s, none)).1 (n + 2) := by split <;> first | exact h.use _ _ _ | exact h.mono (by omega)
 generalize (if usesA i.op = true then useC s i.a (regZ m.a) at_ else (s, none)) = r at h2
 obtain ⟨s1, e⟩ := r
 cases e with
 | some e => rw [Jtpy]; exact h2.mono (by omega)
 | none =>
  rw [Jtpx]
  have h3 : Room V L (if usesB i.op = true then useC s1 i.b (regZ m.b) at_ else (s1, none)).1 (n + 1) := by split <;> first | exact h2.use _ _ _ | exact h2.mono (by omega)
  generalize (if usesB i.op = true then useC s1 i.b (regZ m.b) at_ else (s1, none)) = r at h3
  obtain ⟨s2, e⟩ := r
  cases e with
  | some e => rw [Jtpy]; exact h3.mono (by omega)
  | none =>
   rw [Jtpx]
   split
   ·rename_i hu
    obtain ⟨k1, k2⟩ := hd hu
    exact h3.cost.become (h3.over.define k1 k2) _ _
   ·exact h3.mono (by omega)
section
theorem Jt6k {P : Program} {p : Nums} (A : All P p) (S : SortOk P p) {V L : List Int} (s : CS) (most : Int) (i : Instr) (m : Mach) (at_ : Int) (h : Room V L s 3) (hd : usesD i.op = true → i.d ∈ V ∧ regZ m.d ∈ L) :
  Jt3x P p.blockcheck_checker_instr [.ptr 0 0, i.av, m.av, AI at_] [ckB most s] fun o H' => o = outR p (instrC most s i m at_).2 ∧ H' = [ckB most (instrC most s i m at_).1] := by
 refine A.blockcheck_checker_instr.run rfl fun R hR => ?_
 have r1 := h.cost
 have r2 := r1.cost
 have l0 := h.len
 have l1 := r1.len
 have l2 := r2.len
 have t0 := h.steps
 have t1 := r1.steps
 have t2 := r2.steps
 have g2 := r2.cost
 have q0 := h.over.srt
 obtain ⟨s1, hs1⟩ : ∃ s1, s1 = costC s := ⟨_, rfl⟩
 obtain ⟨s2, hs2⟩ : ∃ s2, s2 = costC s1 := ⟨_, rfl⟩
 obtain ⟨s3, hs3⟩ : ∃ s3, s3 = costC s2 := ⟨_, rfl⟩
 have q1 : Srt s1.set := by rw [hs1]; exact q0
 have q2 : Srt s2.set := by rw [hs2]; exact q1
 rw [← hs1] at r1 r2 l1 l2 t1 t2 g2
 rw [← hs2] at r2 l2 t2 g2
 rw [← hs3] at g2
 (simp (maxSteps := 1000000) [Jtc7, Instr.av, Mach.av])
 (refine Jtx (Jtiy A i.op) (by rfl) (by rfl) ?_)
 (simp (maxSteps := 1000000) [Jtmv, Jtmw, Jtmx])
 have hspec : instrC most s i m at_ = instrC most s i m at_ := rfl
 conv at hspec => rhs; unfold instrC
 cases hA : usesA i.op <;> cases hB : usesB i.op <;> cases hD : usesD i.op <;> simp only [hA, hB, hD, if_true, if_false, Bool.false_eq_true, Jtpx] at hspec
 ·(simp (maxSteps := 1000000) [hA, hB, hD])
  exact hR _ _ (Fin_wk (.tup []) (.tup []) [ckB most s] rfl (by simp only [ckB]; (exact wkA)) ⟨by rw [hspec]; rfl, by rw [hspec]⟩)
 ·(simp (maxSteps := 1000000) [hA, hB, hD])
  have hc := Jt6j A s most (by omega) (by omega)
  rw [← hs1] at hc hspec
  have hV := hd hD
  have ho : Over V L (defP s.set i.d (regZ m.d)) := (h).over.define hV.1 hV.2
  have hl := Nat.lt_of_le_of_lt ho.len h.few
  have hset : s1.set = s.set := by rw [hs1]; rfl
  have hb := Jt6i A s1 most (defP s.set i.d (regZ m.d)) at_ hl (by have := (r1).lg; omega)
  have hdf : Jt3x P p.transfer_Define [.d (pairsD s1.set), AI i.d, AI (regZ m.d)] [] fun o _ => o = .ret (.d (pairsD (defP s.set i.d (regZ m.d)))) := by rw [hset]; exact Jtq7 A S s.set i.d (regZ m.d) (by omega) q0
  obtain ⟨dl, hdl⟩ : ∃ dl, dl = defP s.set i.d (regZ m.d) := ⟨_, rfl⟩
  rw [← hdl] at hb hdf hspec
  obtain ⟨⟨s9, e9⟩, h9⟩ : ∃ r, r = Jt6b most s1 dl at_ := ⟨_, rfl⟩
  rw [← h9] at hb hspec
  refine Jtz [0] (x := .tup []) hc (by decide) (by rfl) (by rfl) (by rfl) (by rfl) (by rfl) (by rfl) ?_
  (simp (maxSteps := 1000000) [])
  (refine Jtx (Jtgg A m.d) (by rfl) (by rfl) ?_)
  (simp (maxSteps := 1000000) [])
  (refine Jtx hdf (by rfl) (by rfl) ?_)
  (simp (maxSteps := 1000000) [])
  cases e9 with
  | none =>
   refine Jtz [0] (x := .tup []) hb (by decide) (by rfl) (by rfl) (by rfl) (by rfl) (by rfl) (by rfl) ?_
   (simp (maxSteps := 1000000) [])
   exact hR _ _ (Fin_wk (.tup []) (.tup []) [ckB most s9] rfl (by simp only [ckB]; (exact wkA)) ⟨by rw [hspec]; rfl, by rw [hspec]⟩)
  | some e =>
   refine Jt11 [0] (x := failV p e) hb (by decide) (by rfl) (by rfl) (by rfl) (by rfl) (by rfl) (by rfl) ?_
   (simp (maxSteps := 1000000) [])
   exact hR _ _ (Jt40 _ (failV p e) [ckB most s9] (by simp only [ckB, failV]; (exact wkA)) ⟨by rw [hspec]; rfl, by rw [hspec]⟩)
 ·(simp (maxSteps := 1000000) [hA, hB, hD])
  have eB : (useC s i.b (regZ m.b) at_).1 = s1 := by rw [hs1]; rfl
  have huB := (Jt6n A s most i.b m.b at_ (by omega) (by omega) q0)
  rw [eB] at huB
  rcases hrB : (useC s i.b (regZ m.b) at_).2 with _ | e
  ·rw [hrB] at huB
   rw [show useC s i.b (regZ m.b) at_ = (s1, none) from Prod.ext eB hrB, Jtpx] at hspec
   refine Jtz [0] (x := .tup []) huB (by decide) (by rfl) (by rfl) (by rfl) (by rfl) (by rfl) (by rfl) ?_
   (simp (maxSteps := 1000000) [hA, hB, hD])
   exact hR _ _ (Fin_wk (.tup []) (.tup []) [ckB most s1] rfl (by simp only [ckB]; (exact wkA)) ⟨by rw [hspec]; rfl, by rw [hspec]⟩)
  ·rw [hrB] at huB
   rw [show useC s i.b (regZ m.b) at_ = (s1, some e) from Prod.ext eB hrB, Jtpy] at hspec
   refine Jt11 [0] (x := failV p e) huB (by decide) (by rfl) (by rfl) (by rfl) (by rfl) (by rfl) (by rfl) ?_
   (simp (maxSteps := 1000000) [])
   exact hR _ _ (Jt40 _ (failV p e) [ckB most s1] (by simp only [ckB, failV]; (exact wkA)) ⟨by rw [hspec]; rfl, by rw [hspec]⟩)
 ·(simp (maxSteps := 1000000) [hA, hB, hD])
  have eB : (useC s i.b (regZ m.b) at_).1 = s1 := by rw [hs1]; rfl
  have huB := (Jt6n A s most i.b m.b at_ (by omega) (by omega) q0)
  rw [eB] at huB
  rcases hrB : (useC s i.b (regZ m.b) at_).2 with _ | e
  ·rw [hrB] at huB
   rw [show useC s i.b (regZ m.b) at_ = (s1, none) from Prod.ext eB hrB, Jtpx] at hspec
   refine Jtz [0] (x := .tup []) huB (by decide) (by rfl) (by rfl) (by rfl) (by rfl) (by rfl) (by rfl) ?_
   (simp (maxSteps := 1000000) [hA, hB, hD])
   have hc := Jt6j A s1 most (by omega) (by omega)
   rw [← hs2] at hc hspec
   have hV := hd hD
   have ho : Over V L (defP s1.set i.d (regZ m.d)) := (r1).over.define hV.1 hV.2
   have hl := Nat.lt_of_le_of_lt ho.len h.few
   have hset : s2.set = s1.set := by rw [hs2]; rfl
   have hb := Jt6i A s2 most (defP s1.set i.d (regZ m.d)) at_ hl (by have := (r2).lg; omega)
   have hdf : Jt3x P p.transfer_Define [.d (pairsD s2.set), AI i.d, AI (regZ m.d)] [] fun o _ => o = .ret (.d (pairsD (defP s1.set i.d (regZ m.d)))) := by rw [hset]; exact Jtq7 A S s1.set i.d (regZ m.d) (by omega) q1
   obtain ⟨dl, hdl⟩ : ∃ dl, dl = defP s1.set i.d (regZ m.d) := ⟨_, rfl⟩
   rw [← hdl] at hb hdf hspec
   obtain ⟨⟨s9, e9⟩, h9⟩ : ∃ r, r = Jt6b most s2 dl at_ := ⟨_, rfl⟩
   rw [← h9] at hb hspec
   refine Jtz [0] (x := .tup []) hc (by decide) (by rfl) (by rfl) (by rfl) (by rfl) (by rfl) (by rfl) ?_
   (simp (maxSteps := 1000000) [])
   (refine Jtx (Jtgg A m.d) (by rfl) (by rfl) ?_)
   (simp (maxSteps := 1000000) [])
   (refine Jtx hdf (by rfl) (by rfl) ?_)
   (simp (maxSteps := 1000000) [])
   cases e9 with
   | none =>
    refine Jtz [0] (x := .tup []) hb (by decide) (by rfl) (by rfl) (by rfl) (by rfl) (by rfl) (by rfl) ?_
    (simp (maxSteps := 1000000) [])
    exact hR _ _ (Fin_wk (.tup []) (.tup []) [ckB most s9] rfl (by simp only [ckB]; (exact wkA)) ⟨by rw [hspec]; rfl, by rw [hspec]⟩)
   | some e =>
    refine Jt11 [0] (x := failV p e) hb (by decide) (by rfl) (by rfl) (by rfl) (by rfl) (by rfl) (by rfl) ?_
    (simp (maxSteps := 1000000) [])
    exact hR _ _ (Jt40 _ (failV p e) [ckB most s9] (by simp only [ckB, failV]; (exact wkA)) ⟨by rw [hspec]; rfl, by rw [hspec]⟩)
  ·rw [hrB] at huB
   rw [show useC s i.b (regZ m.b) at_ = (s1, some e) from Prod.ext eB hrB, Jtpy] at hspec
   refine Jt11 [0] (x := failV p e) huB (by decide) (by rfl) (by rfl) (by rfl) (by rfl) (by rfl) (by rfl) ?_
   (simp (maxSteps := 1000000) [])
   exact hR _ _ (Jt40 _ (failV p e) [ckB most s1] (by simp only [ckB, failV]; (exact wkA)) ⟨by rw [hspec]; rfl, by rw [hspec]⟩)
 ·(simp (maxSteps := 1000000) [hA, hB, hD])
  have eA : (useC s i.a (regZ m.a) at_).1 = s1 := by rw [hs1]; rfl
  have huA := (Jt6n A s most i.a m.a at_ (by omega) (by omega) q0)
  rw [eA] at huA
  rcases hrA : (useC s i.a (regZ m.a) at_).2 with _ | e
  ·rw [hrA] at huA
   rw [show useC s i.a (regZ m.a) at_ = (s1, none) from Prod.ext eA hrA, Jtpx] at hspec
   refine Jtz [0] (x := .tup []) huA (by decide) (by rfl) (by rfl) (by rfl) (by rfl) (by rfl) (by rfl) ?_
   (simp (maxSteps := 1000000) [hA, hB, hD])
   exact hR _ _ (Fin_wk (.tup []) (.tup []) [ckB most s1] rfl (by simp only [ckB]; (exact wkA)) ⟨by rw [hspec]; rfl, by rw [hspec]⟩)
  ·rw [hrA] at huA
   rw [show useC s i.a (regZ m.a) at_ = (s1, some e) from Prod.ext eA hrA, Jtpy] at hspec
   refine Jt11 [0] (x := failV p e) huA (by decide) (by rfl) (by rfl) (by rfl) (by rfl) (by rfl) (by rfl) ?_
   (simp (maxSteps := 1000000) [])
   exact hR _ _ (Jt40 _ (failV p e) [ckB most s1] (by simp only [ckB, failV]; (exact wkA)) ⟨by rw [hspec]; rfl, by rw [hspec]⟩)
 ·(simp (maxSteps := 1000000) [hA, hB, hD])
  have eA : (useC s i.a (regZ m.a) at_).1 = s1 := by rw [hs1]; rfl
  have huA := (Jt6n A s most i.a m.a at_ (by omega) (by omega) q0)
  rw [eA] at huA
  rcases hrA : (useC s i.a (regZ m.a) at_).2 with _ | e
  ·rw [hrA] at huA
   rw [show useC s i.a (regZ m.a) at_ = (s1, none) from Prod.ext eA hrA, Jtpx] at hspec
   refine Jtz [0] (x := .tup []) huA (by decide) (by rfl) (by rfl) (by rfl) (by rfl) (by rfl) (by rfl) ?_
   (simp (maxSteps := 1000000) [hA, hB, hD])
   have hc := Jt6j A s1 most (by omega) (by omega)
   rw [← hs2] at hc hspec
   have hV := hd hD
   have ho : Over V L (defP s1.set i.d (regZ m.d)) := (r1).over.define hV.1 hV.2
   have hl := Nat.lt_of_le_of_lt ho.len h.few
   have hset : s2.set = s1.set := by rw [hs2]; rfl
   have hb := Jt6i A s2 most (defP s1.set i.d (regZ m.d)) at_ hl (by have := (r2).lg; omega)
   have hdf : Jt3x P p.transfer_Define [.d (pairsD s2.set), AI i.d, AI (regZ m.d)] [] fun o _ => o = .ret (.d (pairsD (defP s1.set i.d (regZ m.d)))) := by rw [hset]; exact Jtq7 A S s1.set i.d (regZ m.d) (by omega) q1
   obtain ⟨dl, hdl⟩ : ∃ dl, dl = defP s1.set i.d (regZ m.d) := ⟨_, rfl⟩
   rw [← hdl] at hb hdf hspec
   obtain ⟨⟨s9, e9⟩, h9⟩ : ∃ r, r = Jt6b most s2 dl at_ := ⟨_, rfl⟩
   rw [← h9] at hb hspec
   refine Jtz [0] (x := .tup []) hc (by decide) (by rfl) (by rfl) (by rfl) (by rfl) (by rfl) (by rfl) ?_
   (simp (maxSteps := 1000000) [])
   (refine Jtx (Jtgg A m.d) (by rfl) (by rfl) ?_)
   (simp (maxSteps := 1000000) [])
   (refine Jtx hdf (by rfl) (by rfl) ?_)
   (simp (maxSteps := 1000000) [])
   cases e9 with
   | none =>
    refine Jtz [0] (x := .tup []) hb (by decide) (by rfl) (by rfl) (by rfl) (by rfl) (by rfl) (by rfl) ?_
    (simp (maxSteps := 1000000) [])
    exact hR _ _ (Fin_wk (.tup []) (.tup []) [ckB most s9] rfl (by simp only [ckB]; (exact wkA)) ⟨by rw [hspec]; rfl, by rw [hspec]⟩)
   | some e =>
    refine Jt11 [0] (x := failV p e) hb (by decide) (by rfl) (by rfl) (by rfl) (by rfl) (by rfl) (by rfl) ?_
    (simp (maxSteps := 1000000) [])
    exact hR _ _ (Jt40 _ (failV p e) [ckB most s9] (by simp only [ckB, failV]; (exact wkA)) ⟨by rw [hspec]; rfl, by rw [hspec]⟩)
  ·rw [hrA] at huA
   rw [show useC s i.a (regZ m.a) at_ = (s1, some e) from Prod.ext eA hrA, Jtpy] at hspec
   refine Jt11 [0] (x := failV p e) huA (by decide) (by rfl) (by rfl) (by rfl) (by rfl) (by rfl) (by rfl) ?_
   (simp (maxSteps := 1000000) [])
   exact hR _ _ (Jt40 _ (failV p e) [ckB most s1] (by simp only [ckB, failV]; (exact wkA)) ⟨by rw [hspec]; rfl, by rw [hspec]⟩)
 ·(simp (maxSteps := 1000000) [hA, hB, hD])
  have eA : (useC s i.a (regZ m.a) at_).1 = s1 := by rw [hs1]; rfl
  have huA := (Jt6n A s most i.a m.a at_ (by omega) (by omega) q0)
  rw [eA] at huA
  rcases hrA : (useC s i.a (regZ m.a) at_).2 with _ | e
  ·rw [hrA] at huA
   rw [show useC s i.a (regZ m.a) at_ = (s1, none) from Prod.ext eA hrA, Jtpx] at hspec
   refine Jtz [0] (x := .tup []) huA (by decide) (by rfl) (by rfl) (by rfl) (by rfl) (by rfl) (by rfl) ?_
   (simp (maxSteps := 1000000) [hA, hB, hD])
   have eB : (useC s1 i.b (regZ m.b) at_).1 = s2 := by rw [hs2]; rfl
   have huB := (Jt6n A s1 most i.b m.b at_ (by omega) (by omega) q1)
   rw [eB] at huB
   rcases hrB : (useC s1 i.b (regZ m.b) at_).2 with _ | e
   ·rw [hrB] at huB
    rw [show useC s1 i.b (regZ m.b) at_ = (s2, none) from Prod.ext eB hrB, Jtpx] at hspec
    refine Jtz [0] (x := .tup []) huB (by decide) (by rfl) (by rfl) (by rfl) (by rfl) (by rfl) (by rfl) ?_
    (simp (maxSteps := 1000000) [hA, hB, hD])
    exact hR _ _ (Fin_wk (.tup []) (.tup []) [ckB most s2] rfl (by simp only [ckB]; (exact wkA)) ⟨by rw [hspec]; rfl, by rw [hspec]⟩)
   ·rw [hrB] at huB
    rw [show useC s1 i.b (regZ m.b) at_ = (s2, some e) from Prod.ext eB hrB, Jtpy] at hspec
    refine Jt11 [0] (x := failV p e) huB (by decide) (by rfl) (by rfl) (by rfl) (by rfl) (by rfl) (by rfl) ?_
    (simp (maxSteps := 1000000) [])
    exact hR _ _ (Jt40 _ (failV p e) [ckB most s2] (by simp only [ckB, failV]; (exact wkA)) ⟨by rw [hspec]; rfl, by rw [hspec]⟩)
  ·rw [hrA] at huA
   rw [show useC s i.a (regZ m.a) at_ = (s1, some e) from Prod.ext eA hrA, Jtpy] at hspec
   refine Jt11 [0] (x := failV p e) huA (by decide) (by rfl) (by rfl) (by rfl) (by rfl) (by rfl) (by rfl) ?_
   (simp (maxSteps := 1000000) [])
   exact hR _ _ (Jt40 _ (failV p e) [ckB most s1] (by simp only [ckB, failV]; (exact wkA)) ⟨by rw [hspec]; rfl, by rw [hspec]⟩)
 ·(simp (maxSteps := 1000000) [hA, hB, hD])
  have eA : (useC s i.a (regZ m.a) at_).1 = s1 := by rw [hs1]; rfl
  have huA := (Jt6n A s most i.a m.a at_ (by omega) (by omega) q0)
  rw [eA] at huA
  rcases hrA : (useC s i.a (regZ m.a) at_).2 with _ | e
  ·rw [hrA] at huA
   rw [show useC s i.a (regZ m.a) at_ = (s1, none) from Prod.ext eA hrA, Jtpx] at hspec
   refine Jtz [0] (x := .tup []) huA (by decide) (by rfl) (by rfl) (by rfl) (by rfl) (by rfl) (by rfl) ?_
   (simp (maxSteps := 1000000) [hA, hB, hD])
   have eB : (useC s1 i.b (regZ m.b) at_).1 = s2 := by rw [hs2]; rfl
   have huB := (Jt6n A s1 most i.b m.b at_ (by omega) (by omega) q1)
   rw [eB] at huB
   rcases hrB : (useC s1 i.b (regZ m.b) at_).2 with _ | e
   ·rw [hrB] at huB
    rw [show useC s1 i.b (regZ m.b) at_ = (s2, none) from Prod.ext eB hrB, Jtpx] at hspec
    refine Jtz [0] (x := .tup []) huB (by decide) (by rfl) (by rfl) (by rfl) (by rfl) (by rfl) (by rfl) ?_
    (simp (maxSteps := 1000000) [hA, hB, hD])
    have hc := Jt6j A s2 most (by omega) (by omega)
    rw [← hs3] at hc hspec
    have hV := hd hD
    have ho : Over V L (defP s2.set i.d (regZ m.d)) := (r2).over.define hV.1 hV.2
    have hl := Nat.lt_of_le_of_lt ho.len h.few
    have hset : s3.set = s2.set := by rw [hs3]; rfl
    have hb := Jt6i A s3 most (defP s2.set i.d (regZ m.d)) at_ hl (by have := (g2).lg; omega)
    have hdf : Jt3x P p.transfer_Define [.d (pairsD s3.set), AI i.d, AI (regZ m.d)] [] fun o _ => o = .ret (.d (pairsD (defP s2.set i.d (regZ m.d)))) := by rw [hset]; exact Jtq7 A S s2.set i.d (regZ m.d) (by omega) q2
    obtain ⟨dl, hdl⟩ : ∃ dl, dl = defP s2.set i.d (regZ m.d) := ⟨_, rfl⟩
    rw [← hdl] at hb hdf hspec
    obtain ⟨⟨s9, e9⟩, h9⟩ : ∃ r, r = Jt6b most s3 dl at_ := ⟨_, rfl⟩
    rw [← h9] at hb hspec
    refine Jtz [0] (x := .tup []) hc (by decide) (by rfl) (by rfl) (by rfl) (by rfl) (by rfl) (by rfl) ?_
    (simp (maxSteps := 1000000) [])
    (refine Jtx (Jtgg A m.d) (by rfl) (by rfl) ?_)
    (simp (maxSteps := 1000000) [])
    (refine Jtx hdf (by rfl) (by rfl) ?_)
    (simp (maxSteps := 1000000) [])
    cases e9 with
    | none =>
     refine Jtz [0] (x := .tup []) hb (by decide) (by rfl) (by rfl) (by rfl) (by rfl) (by rfl) (by rfl) ?_
     (simp (maxSteps := 1000000) [])
     exact hR _ _ (Fin_wk (.tup []) (.tup []) [ckB most s9] rfl (by simp only [ckB]; (exact wkA)) ⟨by rw [hspec]; rfl, by rw [hspec]⟩)
    | some e =>
     refine Jt11 [0] (x := failV p e) hb (by decide) (by rfl) (by rfl) (by rfl) (by rfl) (by rfl) (by rfl) ?_
     (simp (maxSteps := 1000000) [])
     exact hR _ _ (Jt40 _ (failV p e) [ckB most s9] (by simp only [ckB, failV]; (exact wkA)) ⟨by rw [hspec]; rfl, by rw [hspec]⟩)
   ·rw [hrB] at huB
    rw [show useC s1 i.b (regZ m.b) at_ = (s2, some e) from Prod.ext eB hrB, Jtpy] at hspec
    refine Jt11 [0] (x := failV p e) huB (by decide) (by rfl) (by rfl) (by rfl) (by rfl) (by rfl) (by rfl) ?_
    (simp (maxSteps := 1000000) [])
    exact hR _ _ (Jt40 _ (failV p e) [ckB most s2] (by simp only [ckB, failV]; (exact wkA)) ⟨by rw [hspec]; rfl, by rw [hspec]⟩)
  ·rw [hrA] at huA
   rw [show useC s i.a (regZ m.a) at_ = (s1, some e) from Prod.ext eA hrA, Jtpy] at hspec
   refine Jt11 [0] (x := failV p e) huA (by decide) (by rfl) (by rfl) (by rfl) (by rfl) (by rfl) (by rfl) ?_
   (simp (maxSteps := 1000000) [])
   exact hR _ _ (Jt40 _ (failV p e) [ckB most s1] (by simp only [ckB, failV]; (exact wkA)) ⟨by rw [hspec]; rfl, by rw [hspec]⟩)
end
structure ARow where (cf ct mf mt : Nat) (src mach : Int)
def ARow.row (r : ARow) : List D := [I r.cf, I r.ct, I r.mf, I r.mt, I r.src, I r.mach]
def ARow.av (r : ARow) : AV := .agg [AI r.cf, AI r.ct, AI r.mf, AI r.mt, AI r.src, AI r.mach]
def copyC (most at_ : Int) : List Instr → CS → CR
 | [], s => (s, none)
 | i :: is, s => thenC (Jt6b most (costC s) (copyP s.set i.d i.a) at_) (copyC most at_ is)
def moveC (most : Int) : Nat → List Mach → CS → CR
 | _, [], s => (s, none)
 | k, m :: ms, s => thenC (Jt6b most (costC s) (moveP s.set m.dst m.src) k) (moveC most (k + 1) ms)
def lastC (most : Int) (b : List Instr) (m : List Mach) (r : ARow) (s : CS) : CR :=
 if 0 ≤ r.src then match b[r.src.toNat]?, m[r.mach.toNat]? with
  | some i, some x => instrC most s i x r.mach
  | _, _ => (s, none)
 else (s, none)
def rowC (most : Int) (b : List Instr) (m : List Mach) (r : ARow) (s : CS) : CR :=
 thenC (copyC most r.mf ((b.take r.ct).drop r.cf) s) fun s => thenC (moveC most r.mf ((m.take r.mt).drop r.mf) s) (lastC most b m r)
structure RowOk (b : List Instr) (m : List Mach) (r : ARow) : Prop where
 hc : r.cf ≤ r.ct ∧ r.ct ≤ b.length
 hm : r.mf ≤ r.mt ∧ r.mt ≤ m.length
 hs : 0 ≤ r.src → r.src < b.length ∧ 0 ≤ r.mach ∧ r.mach < m.length
structure VLOk (V L : List Int) (b : List Instr) (m : List Mach) : Prop where
 v : ∀ i ∈ b, i.d ∈ V
 l : ∀ x ∈ m, x.dst ∈ L ∧ regZ x.d ∈ L
theorem Room.copyStep {V L : List Int} {s : CS} {n : Nat} (h : Room V L s (n + 1)) {d a : Int} (hd : d ∈ V) (most at_ : Int) : Room V L (Jt6b most (costC s) (copyP s.set d a) at_).1 n := h.cost.become (h.over.copy hd) _ _
theorem Room.moveStep {V L : List Int} {s : CS} {n : Nat} (h : Room V L s (n + 1)) {d a : Int} (hd : d ∈ L) (most at_ : Int) : Room V L (Jt6b most (costC s) (moveP s.set d a) at_).1 n := h.cost.become (h.over.move hd) _ _
theorem Jt87 {V L : List Int} {most at_ : Int} : ∀ {l : List Instr} {s : CS} {n : Nat}, Room V L s (n + l.length) → (∀ i ∈ l, i.d ∈ V) → Room V L (copyC most at_ l s).1 n := by
 intro l
 induction l with
 | nil => intro s n h _; exact h
 | cons i l ih =>
  intro s n h hv
  have h1 := Room.copyStep (n := n + l.length) (by simpa [Nat.add_assoc] using h) (hv i (by simp)) most at_ (a := i.a)
  simp only [copyC]
  generalize Jt6b most (costC s) (copyP s.set i.d i.a) at_ = r at h1
  obtain ⟨s1, e⟩ := r
  cases e with
  | some e => rw [Jtpy]; exact h1.mono (by omega)
  | none => rw [Jtpx]; exact ih h1 fun j hj => hv j (by simp [hj])
theorem Jtib {V L : List Int} {most : Int} : ∀ {l : List Mach} {k : Nat} {s : CS} {n : Nat}, Room V L s (n + l.length) → (∀ x ∈ l, x.dst ∈ L) → Room V L (moveC most k l s).1 n := by
 intro l
 induction l with
 | nil => intro k s n h _; exact h
 | cons i l ih =>
  intro k s n h hv
  have h1 := Room.moveStep (n := n + l.length) (by simpa [Nat.add_assoc] using h) (hv i (by simp)) most k (a := i.src)
  simp only [moveC]
  generalize Jt6b most (costC s) (moveP s.set i.dst i.src) k = r at h1
  obtain ⟨s1, e⟩ := r
  cases e with
  | some e => rw [Jtpy]; exact h1.mono (by omega)
  | none => rw [Jtpx]; exact ih h1 fun j hj => hv j (by simp [hj])
theorem Jtfj {V L : List Int} {most : Int} {b : List Instr} {m : List Mach} {r : ARow} {s : CS} {n : Nat} (h : Room V L s (n + 3)) (hv : VLOk V L b m) : Room V L (lastC most b m r s).1 n := by
 unfold lastC
 split
 ·split
  ·rename_i i x h1 h2
   exact Jteu h fun _ => ⟨hv.v i (List.mem_of_getElem? h1), (hv.l x (List.mem_of_getElem? h2)).2⟩
  ·exact h.mono (by omega)
 ·exact h.mono (by omega)
theorem Jtlq {V L : List Int} {most : Int} {b : List Instr} {m : List Mach} {r : ARow} {s : CS} {n : Nat} (h : Room V L s (n + 3 + ((m.take r.mt).drop r.mf).length + ((b.take r.ct).drop r.cf).length)) (hv : VLOk V L b m) : Room V L (rowC most b m r s).1 n := by
 unfold rowC
 have h1 := Jt87 (most := most) (at_ := r.mf) h fun i hi => hv.v i (List.mem_of_mem_take (List.mem_of_mem_drop hi))
 generalize copyC most r.mf ((b.take r.ct).drop r.cf) s = q at h1
 obtain ⟨s1, e⟩ := q
 cases e with
 | some e => rw [Jtpy]; exact h1.mono (by omega)
 | none =>
  rw [Jtpx]
  have h2 := Jtib (most := most) (k := r.mf) h1 fun i hi => (hv.l i (List.mem_of_mem_take (List.mem_of_mem_drop hi))).1
  generalize moveC most r.mf ((m.take r.mt).drop r.mf) s1 = q at h2
  obtain ⟨s2, e⟩ := q
  cases e with
  | some e => rw [Jtpy]; exact h2.mono (by omega)
  | none => rw [Jtpx]; exact Jtfj h2 hv
theorem Jtf9 (i : Instr) : i.row.length = 5 := rfl
theorem Jt8o {α : Type} {l : List α} {j : Nat} (h : j < l.length) : l.drop j = l[j] :: l.drop (j + 1) := List.drop_eq_getElem_cons h
section
theorem Jt6l {P : Program} {p : Nums} (A : All P p) (S : SortOk P p) (C : ClosOk P p) {V L : List Int} (s : CS) (most : Int) (b : Block) (m : MBlock) (r : ARow) {n1 n2 : Nat} (hn1 : n1 = r.ct - r.cf) (hn2 : n2 = r.mt - r.mf) (h : Room V L s (3 + n2 + n1)) (hv : VLOk V L b.code m.code) (hr : RowOk b.code m.code r)
  (hb0 : b.code.length < 1000000) (hm0 : m.code.length < 1000000) :
  Jt3x P p.blockcheck_checker_row [.ptr 0 0, b.av, m.av, r.av] [ckB most s] fun o H' => o = outR p (rowC most b.code m.code r s).2 ∧ H' = [ckB most (rowC most b.code m.code r s).1] := by
 refine A.blockcheck_checker_row.run rfl fun R hR => ?_
 obtain ⟨code, kind, ta, to, els⟩ := b
 obtain ⟨mcode, mkind, mta, mto, mels⟩ := m
 obtain ⟨cf, ct, mf, mt, src, mach⟩ := r
 obtain ⟨⟨hc1, hc2⟩, ⟨hm1, hm2⟩, hsr⟩ := hr
 simp only at hc1 hc2 hm1 hm2 hsr hn1 hn2 hb0 hm0 hv
 obtain ⟨sub, hsub⟩ : ∃ l, l = (code.take ct).drop cf := ⟨_, rfl⟩
 obtain ⟨msub, hmsub⟩ : ∃ l, l = (mcode.take mt).drop mf := ⟨_, rfl⟩
 have hsl : sub.length = n1 := by rw [hsub, hn1]; simp; omega
 have hml : msub.length = n2 := by rw [hmsub, hn2]; simp; omega
 have hsv : ∀ i ∈ sub, i.d ∈ V := fun i hi => hv.v i (by rw [hsub] at hi; exact List.mem_of_mem_take (List.mem_of_mem_drop hi))
 have hml' : ∀ x ∈ msub, x.dst ∈ L := fun x hx => (hv.l x (by rw [hmsub] at hx; exact List.mem_of_mem_take (List.mem_of_mem_drop hx))).1
 have hspec : rowC most code mcode ⟨cf, ct, mf, mt, src, mach⟩ s = thenC (copyC most mf sub s) fun s => thenC (moveC most mf msub s) (lastC most code mcode ⟨cf, ct, mf, mt, src, mach⟩) := by rw [hsub, hmsub]; rfl
 obtain ⟨bB, hbB⟩ : ∃ x, x = Blk.mem [.d (.sl (code.map Instr.row)), AI kind, AI ta, AI to, AI els] := ⟨_, rfl⟩
 have i1 : (cf : Int) ≤ (ct : Int) := by omega
 have i2 : (ct : Int) ≤ (code.length : Int) := by omega
 have hrows : ((code.map Instr.row).take ct).drop cf = sub.map Instr.row := by rw [hsub, List.map_drop, List.map_take]
 obtain ⟨T1, hT1⟩ : ∃ T, T = copyC most mf sub s := ⟨_, rfl⟩
 rw [← hT1] at hspec
 (simp (maxSteps := 1000000) [Jtc8, Block.av, MBlock.av, ARow.av, i1, i2, hrows, Jtf9])
 refine Jtd (fun x : Nat × CS => ⟨[(19, AI x.1), (18, AI sub.length), (17, .d (.sl (sub.map Instr.row))), (7, .ptr 3 0), (6, .ptr 2 0), (5, .ptr 1 0), (0, .ptr 0 0)],
  [ckB most x.2, .mem [.d (.sl (code.map Instr.row)), AI kind, AI ta, AI to, AI els], .mem [.d (.sl (mcode.map Mach.row)), AI mkind, AI mta, AI mto, AI mels], .mem [AI cf, AI ct, AI mf, AI mt, AI src, AI mach]]⟩)
  (fun x => x.1 ≤ sub.length ∧ copyC most mf (sub.drop x.1) x.2 = T1 ∧ Room V L x.2 (3 + n2 + (n1 - x.1))) (fun x => sub.length - x.1) (0, s) (by simp [hT1]; exact h) (by simp only [ckB]; (exact wkA)) ?_
 rintro ⟨j, t⟩ ⟨hj, hT, hR1⟩ N hN
 simp only at hj hT hR1
 (simp (maxSteps := 1000000) [])
 ((first | refine Xc (fun h2 => ?_) (fun h2 => ?_) | refine Xo (fun h2 => ?_) (fun h2 => ?_)) <;> (try simp only [Xz, Xy] at h2))
 ·have hjl : j < sub.length := by simpa using h2
  have hji : sub[j]? = some sub[j] := by simp [hjl]
  have hw := Jtr1 (k := j) (by omega)
  rw [Jt8o hjl] at hT
  simp only [copyC] at hT
  obtain ⟨t1, ht1⟩ : ∃ t1, t1 = costC t := ⟨_, rfl⟩
  have hxv : sub[j].d ∈ V := hsv _ (List.getElem_mem hjl)
  rw [← ht1] at hT
  have e0 : n1 - j = (n1 - (j + 1)) + 1 := by omega
  rw [e0, ← Nat.add_assoc] at hR1
  have hR2 := hR1.copyStep hxv most mf (a := sub[j].a)
  have hl0 := hR1.len
  have hst := hR1.steps
  have hlg := hR1.lg
  have hcost := Jt6j A t most hl0 (by omega)
  have hol := Nat.lt_of_le_of_lt (hR1.over.copy hxv (a := sub[j].a)).len hR1.few
  have hset : t1.set = t.set := by rw [ht1]; rfl
  have hlg1 : t1.largest = t.largest := by rw [ht1]; rfl
  rw [← ht1] at hcost hR2
  have hcp : Jt3x P p.transfer_Copy [.d (pairsD t1.set), AI sub[j].d, AI sub[j].a] [] fun o _ => o = .ret (.d (pairsD (copyP t.set sub[j].d sub[j].a))) := by rw [hset]; exact Jtq5 A S C t.set sub[j].d sub[j].a hl0
  obtain ⟨cl, hcl⟩ : ∃ cl, cl = copyP t.set sub[j].d sub[j].a := ⟨_, rfl⟩
  rw [← hcl] at hT hR2 hcp hol
  have hbec := Jt6i A t1 most cl mf hol (by omega)
  obtain ⟨⟨t2, e2⟩, h2r⟩ : ∃ r, r = Jt6b most t1 cl mf := ⟨_, rfl⟩
  rw [← h2r] at hbec hT hR2
  (simp (maxSteps := 1000000) [h2, List.getElem?_map, hji, Instr.row, hw])
  refine Jtz [0] (x := .tup []) hcost (by decide) (by rfl) (by rfl) (by rfl) (by rfl) (by rfl) (by rfl) ?_
  (simp (maxSteps := 1000000) [ckB])
  (refine Jtx hcp (by rfl) (by rfl) ?_)
  (simp (maxSteps := 1000000) [])
  cases e2 with
  | none =>
   rw [Jtpx] at hT
   refine Jtz [0] (x := .tup []) hbec (by decide) (by rfl) (by rfl) (by rfl) (by rfl) (by rfl) (by rfl) ?_
   (simp (maxSteps := 1000000) [ckB, hw])
   exact hN _ (j + 1, t2) ⟨hjl, hT, hR2⟩ (by simp only [ckB]; (exact wkA)) (by simp only; omega)
  | some e =>
   rw [Jtpy] at hT
   refine Jt11 [0] (x := failV p e) hbec (by decide) (by rfl) (by rfl) (by rfl) (by rfl) (by rfl) (by rfl) ?_
   (simp (maxSteps := 1000000) [ckB])
   rw [← hT, Jtpy] at hspec
   exact hR _ _ (Jt40 _ (failV p e) [ckB most t2] (by simp only [ckB, failV]; (exact wkA)) ⟨by rw [hspec]; rfl, by rw [hspec]⟩)
 ·have hjl : j = sub.length := by simp at h2; omega
  subst hjl
  have hT' : T1 = (t, none) := by rw [← hT, List.drop_length]; rfl
  rw [hT', Jtpx] at hspec
  have e0 : n1 - sub.length = 0 := by omega
  rw [e0, Nat.add_zero] at hR1
  obtain ⟨T2, hT2⟩ : ∃ T, T = moveC most mf msub t := ⟨_, rfl⟩
  rw [← hT2] at hspec
  (simp (maxSteps := 1000000) [])
  refine Jtd (fun x : Nat × CS => ⟨[(10, AI x.1), (7, .ptr 3 0), (6, .ptr 2 0), (5, .ptr 1 0), (0, .ptr 0 0)],
   [ckB most x.2, .mem [.d (.sl (code.map Instr.row)), AI kind, AI ta, AI to, AI els], .mem [.d (.sl (mcode.map Mach.row)), AI mkind, AI mta, AI mto, AI mels], .mem [AI cf, AI ct, AI mf, AI mt, AI src, AI mach]]⟩)
   (fun x => mf ≤ x.1 ∧ x.1 ≤ mt ∧ moveC most x.1 (msub.drop (x.1 - mf)) x.2 = T2 ∧ Room V L x.2 (3 + (mt - x.1))) (fun x => mt - x.1) (mf, t) (by simp [hT2]; exact ⟨hm1, by rw [← hn2]; exact hR1⟩) (by simp only [ckB]; (exact wkA)) ?_
  rintro ⟨k, u⟩ ⟨hk0, hk1, hTm, hR2⟩ N hN
  simp only at hk0 hk1 hTm hR2
  (simp (maxSteps := 1000000) [])
  ((first | refine Xc (fun h3 => ?_) (fun h3 => ?_) | refine Xo (fun h3 => ?_) (fun h3 => ?_)) <;> (try simp only [Xz, Xy] at h3))
  ·have hkl : k < mt := by simpa using h3
   have hkm : k < mcode.length := by omega
   have hjl : k - mf < msub.length := by omega
   have hmj : msub[k - mf] = mcode[k] := by simp [hmsub]; congr 1; omega
   have hw := Jtr1 (k := k) (by omega)
   have hmi : mcode[k]? = some mcode[k] := by simp [hkm]
   rw [Jt8o hjl, hmj] at hTm
   simp only [moveC] at hTm
   have e1 : k - mf + 1 = k + 1 - mf := by omega
   rw [e1] at hTm
   obtain ⟨t1, ht1⟩ : ∃ t1, t1 = costC u := ⟨_, rfl⟩
   have hxv : mcode[k].dst ∈ L := (hv.l _ (List.getElem_mem hkm)).1
   rw [← ht1] at hTm
   have e0 : mt - k = (mt - (k + 1)) + 1 := by omega
   rw [e0, ← Nat.add_assoc] at hR2
   have hR3 := hR2.moveStep hxv most k (a := mcode[k].src)
   have hl0 := hR2.len
   have hst := hR2.steps
   have hlg := hR2.lg
   have hcost := Jt6j A u most hl0 (by omega)
   have hol := Nat.lt_of_le_of_lt (hR2.over.move hxv (a := mcode[k].src)).len hR2.few
   have hset : t1.set = u.set := by rw [ht1]; rfl
   have hlg1 : t1.largest = u.largest := by rw [ht1]; rfl
   rw [← ht1] at hcost hR3
   have hcp : Jt3x P p.transfer_Move [.d (pairsD t1.set), AI mcode[k].dst, AI mcode[k].src] [] fun o _ => o = .ret (.d (pairsD (moveP u.set mcode[k].dst mcode[k].src))) := by rw [hset]; exact Jtq9 A S C u.set mcode[k].dst mcode[k].src hl0
   obtain ⟨cl, hcl⟩ : ∃ cl, cl = moveP u.set mcode[k].dst mcode[k].src := ⟨_, rfl⟩
   rw [← hcl] at hTm hR3 hcp hol
   have hbec := Jt6i A t1 most cl k hol (by omega)
   obtain ⟨⟨t2, e2⟩, h2r⟩ : ∃ r, r = Jt6b most t1 cl k := ⟨_, rfl⟩
   rw [← h2r] at hbec hTm hR3
   (simp (maxSteps := 1000000) [h3, List.getElem?_map, hmi, Mach.row, hw])
   refine Jtz [0] (x := .tup []) hcost (by decide) (by rfl) (by rfl) (by rfl) (by rfl) (by rfl) (by rfl) ?_
   (simp (maxSteps := 1000000) [ckB, List.getElem?_map, hmi, Mach.row])
   (refine Jtx hcp (by rfl) (by rfl) ?_)
   (simp (maxSteps := 1000000) [])
   cases e2 with
   | none =>
    rw [Jtpx] at hTm
    refine Jtz [0] (x := .tup []) hbec (by decide) (by rfl) (by rfl) (by rfl) (by rfl) (by rfl) (by rfl) ?_
    (simp (maxSteps := 1000000) [ckB, hw])
    exact hN _ (k + 1, t2) ⟨by simp only; omega, hkl, hTm, hR3⟩ (by simp only [ckB]; (exact wkA)) (by simp only; omega)
   | some e =>
    rw [Jtpy] at hTm
    refine Jt11 [0] (x := failV p e) hbec (by decide) (by rfl) (by rfl) (by rfl) (by rfl) (by rfl) (by rfl) ?_
    (simp (maxSteps := 1000000) [ckB])
    rw [← hTm, Jtpy] at hspec
    exact hR _ _ (Jt40 _ (failV p e) [ckB most t2] (by simp only [ckB, failV]; (exact wkA)) ⟨by rw [hspec]; rfl, by rw [hspec]⟩)
  ·have hkl : k = mt := by simp at h3; omega
   subst hkl
   have hT'' : T2 = (u, none) := by rw [← hTm, List.drop_eq_nil_of_le (by omega)]; rfl
   rw [hT'', Jtpx] at hspec
   rw [Nat.sub_self, Nat.add_zero] at hR2
   (simp (maxSteps := 1000000) [])
   ((first | refine Xc (fun h4 => ?_) (fun h4 => ?_) | refine Xo (fun h4 => ?_) (fun h4 => ?_)) <;> (try simp only [Xz, Xy] at h4))
   ·obtain ⟨h5, h6, h7⟩ := hsr h4
    have hi1 : src.toNat < code.length := by omega
    have hi2 : mach.toNat < mcode.length := by omega
    have hci : code[src.toNat]? = some code[src.toNat] := by simp [hi1]
    have hmi : mcode[mach.toNat]? = some mcode[mach.toNat] := by simp [hi2]
    have hl : lastC most code mcode ⟨cf, ct, mf, k, src, mach⟩ u = instrC most u code[src.toNat] mcode[mach.toNat] mach := by
     simp only [lastC, h4, if_true, hci, hmi]
    rw [hl] at hspec
    have hins := Jt6k A S u most code[src.toNat] mcode[mach.toNat] mach hR2 (fun _ => ⟨hv.v _ (List.getElem_mem hi1), (hv.l _ (List.getElem_mem hi2)).2⟩)
    obtain ⟨⟨t2, e2⟩, h2r⟩ : ∃ r, r = instrC most u code[src.toNat] mcode[mach.toNat] mach := ⟨_, rfl⟩
    rw [← h2r] at hins hspec
    (simp (maxSteps := 1000000) [h4, h6, List.getElem?_map, hci, hmi, Instr.row, Mach.row])
    cases e2 with
    | none =>
     refine Jtz [0] (x := .tup []) hins (by decide) (by rfl) (by rfl) (by rfl) (by rfl) (by rfl) (by rfl) ?_
     (simp (maxSteps := 1000000) [ckB])
     exact hR _ _ (Fin_wk (.tup []) (.tup []) [ckB most t2] rfl (by simp only [ckB]; (exact wkA)) ⟨by rw [hspec]; rfl, by rw [hspec]⟩)
    | some e =>
     refine Jt11 [0] (x := failV p e) hins (by decide) (by rfl) (by rfl) (by rfl) (by rfl) (by rfl) (by rfl) ?_
     (simp (maxSteps := 1000000) [ckB])
     exact hR _ _ (Jt40 _ (failV p e) [ckB most t2] (by simp only [ckB, failV]; (exact wkA)) ⟨by rw [hspec]; rfl, by rw [hspec]⟩)
   ·have hl : lastC most code mcode ⟨cf, ct, mf, k, src, mach⟩ u = (u, none) := by
     unfold lastC; rw [if_neg h4]
    rw [hl] at hspec
    (simp (maxSteps := 1000000) [h4])
    exact hR _ _ (Fin_wk (.tup []) (.tup []) [ckB most u] rfl (by simp only [ckB]; (exact wkA)) ⟨by rw [hspec]; rfl, by rw [hspec]⟩)
end
def rowsC (most : Int) (b : List Instr) (m : List Mach) : List ARow → CS → CR
 | [], s => (s, none)
 | r :: rs, s => thenC (rowC most b m r s) (rowsC most b m rs)
def runC (most : Int) (b : Block) (m : MBlock) (rows : List ARow) (s : CS) : CR :=
 thenC (rowsC most b.code m.code rows s) fun s => if b.term.kind = 1 then (s, none) else useC s b.term.a (regZ m.term.a) m.code.length
def runE (m : MBlock) : Option (Int × Int) → Int × Int
 | none => (0, m.code.length)
 | some e => e
def needR (r : ARow) : Nat := 3 + (r.mt - r.mf) + (r.ct - r.cf)
def needRs (rs : List ARow) : Nat := (rs.map needR).sum
section
variable {P : Program} {p : Nums}
theorem Jtmn {s : CS} {most : Int} {e : Int × Int} {b m : List AV} {E : List (Nat × AV)} (h8 : get E 8 = some (.ptr 3 0)) (h9 : get E 9 = some (.ptr 4 0)) {Q : AOut → List Blk → Prop} (hQ : Q (.ret (.tup [AI e.1, AI e.2])) [ckB most s]) :
  FinD P [.cell 8 none, .cell 9 none] 1 (Jtca p) [8, 9] 5 2 [.ptr 3 0, .ptr 4 0] Q (.panic (failV p e)) ⟨E, [ckB most s, .mem b, .mem m, .mem [AI 0], .mem [AI 0]]⟩ := by
 refine ⟨fun j c hj => ?_, ?_⟩
 ·match j with
  | 0 => simp at hj; subst hj; exact h8
  | 1 => simp at hj; subst hj; exact h9
  | j + 2 => simp at hj
 ·obtain ⟨c, hc⟩ : ∃ c, c = ckB most s := ⟨_, rfl⟩
  have hcm : c = .mem [.d (pairsD s.set), AI most, AI s.steps, AI s.largest] := hc
  rw [← hc] at hQ ⊢
  (simp (maxSteps := 1000000) [Jtca, panV, failV])
  exact ⟨_, rfl, .tup [AI e.1, AI e.2], [c], by rw [hcm]; (exact wkA), hQ⟩
theorem Jtmo {x0 : Blk} {s : CS} {most : Int} {e : Int × Int} {b m : List AV} {E : List (Nat × AV)} (h8 : get E 8 = some (.ptr 3 0)) (h9 : get E 9 = some (.ptr 4 0)) {Q : AOut → List Blk → Prop} (hQ : Q (.ret (.tup [AI e.1, AI e.2])) [ckB most s]) :
  FinD P [.cell 8 none, .cell 9 none] 1 (Jtca p) [8, 9] 5 2 [.ptr 3 0, .ptr 4 0] Q (.panic (failV p e)) ⟨E, [ckB most s, .mem b, .mem m, .mem [AI 0], .mem [AI 0], x0]⟩ := by
 refine ⟨fun j c hj => ?_, ?_⟩
 ·match j with
  | 0 => simp at hj; subst hj; exact h8
  | 1 => simp at hj; subst hj; exact h9
  | j + 2 => simp at hj
 ·obtain ⟨c, hc⟩ : ∃ c, c = ckB most s := ⟨_, rfl⟩
  have hcm : c = .mem [.d (pairsD s.set), AI most, AI s.steps, AI s.largest] := hc
  rw [← hc] at hQ ⊢
  (simp (maxSteps := 1000000) [Jtca, panV, failV])
  exact ⟨_, rfl, .tup [AI e.1, AI e.2], [c], by rw [hcm]; (exact wkA), hQ⟩
theorem Jtmq {s : CS} {most : Int} {e : Int × Int} {b m : List AV} {E : List (Nat × AV)} (h8 : get E 8 = some (.ptr 3 0)) (h9 : get E 9 = some (.ptr 4 0)) {Q : AOut → List Blk → Prop} (hQ : Q (.ret (.tup [AI e.1, AI e.2])) [ckB most s]) :
  FinD P [.cell 8 none, .cell 9 none] 1 (Jtca p) [8, 9] 5 2 [.ptr 3 0, .ptr 4 0] Q .ret ⟨E, [ckB most s, .mem b, .mem m, .mem [AI e.1], .mem [AI e.2]]⟩ := by
 refine ⟨fun j c hj => ?_, ?_⟩
 ·match j with
  | 0 => simp at hj; subst hj; exact h8
  | 1 => simp at hj; subst hj; exact h9
  | j + 2 => simp at hj
 ·obtain ⟨c, hc⟩ : ∃ c, c = ckB most s := ⟨_, rfl⟩
  have hcm : c = .mem [.d (pairsD s.set), AI most, AI s.steps, AI s.largest] := hc
  rw [← hc] at hQ ⊢
  (simp (maxSteps := 1000000) [Jtca, panV])
  exact ⟨_, rfl, .tup [AI e.1, AI e.2], [c], by rw [hcm]; (exact wkA), hQ⟩
end
theorem Jtie (r : ARow) (rs : List ARow) : needRs (r :: rs) = needR r + needRs rs := by simp [needRs]
section
theorem Jt6m {P : Program} {p : Nums} (A : All P p) (S : SortOk P p) (C : ClosOk P p) {V L : List Int} (s : CS) (most : Int) (b : Block) (m : MBlock) (rows : List ARow) (h : Room V L s (needRs rows + 1)) (hv : VLOk V L b.code m.code) (hr : ∀ r ∈ rows, RowOk b.code m.code r)
  (hb0 : b.code.length < 1000000) (hm0 : m.code.length < 1000000) (hrl : rows.length < 1000000) :
  Jt3x P p.blockcheck_checker_run [.ptr 0 0, b.av, m.av, .d (.sl (rows.map ARow.row))] [ckB most s]
   fun o H' => o = .ret (.tup [AI (runE m (runC most b m rows s).2).1, AI (runE m (runC most b m rows s).2).2]) ∧ H' = [ckB most (runC most b m rows s).1] := by
 obtain ⟨Q, hQ⟩ : ∃ Q : AOut → List Blk → Prop, Q = fun o H' => o = .ret (.tup [AI (runE m (runC most b m rows s).2).1, AI (runE m (runC most b m rows s).2).2]) ∧ H' = [ckB most (runC most b m rows s).1] := ⟨_, rfl⟩
 rw [← hQ]
 refine A.blockcheck_checker_run.calls rfl ?_
 obtain ⟨code, kind, ta, to, els⟩ := b
 obtain ⟨mcode, mkind, mta, mto, mels⟩ := m
 obtain ⟨total, htot⟩ : ∃ T, T = runC most ⟨code, kind, ta, to, els⟩ ⟨mcode, mkind, mta, mto, mels⟩ rows s := ⟨_, rfl⟩
 rw [← htot] at hQ
 have fin : ∀ s' e, total = (s', e) → Q (.ret (.tup [AI (runE ⟨mcode, mkind, mta, mto, mels⟩ e).1, AI (runE ⟨mcode, mkind, mta, mto, mels⟩ e).2])) [ckB most s'] := by
  intro s' e he
  rw [hQ, he]; exact ⟨rfl, rfl⟩
 obtain ⟨T1, hT1⟩ : ∃ T, T = rowsC most code mcode rows s := ⟨_, rfl⟩
 have hspec : total = thenC T1 fun s => if kind = 1 then (s, none) else useC s ta (regZ mta) mcode.length := by rw [htot, hT1]; rfl
 simp only at hb0 hm0 hv hr
 (simp (maxSteps := 1000000) [Jtc9, Block.av, MBlock.av])
 refine ⟨[.ptr 3 0, .ptr 4 0], rfl, fun j c hj => ?_, fun x hx => by simp at hx; rcases hx with rfl | rfl <;> rfl, ?_⟩
 ·match j with
  | 0 => simp at hj; subst hj; rfl
  | 1 => simp at hj; subst hj; rfl
  | j + 2 => simp at hj
 (simp (maxSteps := 1000000) [Jtcb])
 refine Jtd (fun x : Nat × CS => ⟨[(15, AI x.1), (14, AI rows.length), (13, .d (.sl (rows.map ARow.row))), (9, .ptr 4 0), (8, .ptr 3 0), (6, .ptr 2 0), (5, .ptr 1 0), (0, .ptr 0 0)],
  [ckB most x.2, .mem [.d (.sl (code.map Instr.row)), AI kind, AI ta, AI to, AI els], .mem [.d (.sl (mcode.map Mach.row)), AI mkind, AI mta, AI mto, AI mels], .mem [AI 0], .mem [AI 0]]⟩)
  (fun x => x.1 ≤ rows.length ∧ rowsC most code mcode (rows.drop x.1) x.2 = T1 ∧ Room V L x.2 (needRs (rows.drop x.1) + 1)) (fun x => rows.length - x.1) (0, s) (by simp [hT1]; exact h) (by simp only [ckB]; (exact wkA)) ?_
 rintro ⟨j, t⟩ ⟨hj, hT, hR1⟩ N hN
 simp only at hj hT hR1
 (simp (maxSteps := 1000000) [])
 ((first | refine Xc (fun h2 => ?_) (fun h2 => ?_) | refine Xo (fun h2 => ?_) (fun h2 => ?_)) <;> (try simp only [Xz, Xy] at h2))
 ·have hjl : j < rows.length := by simpa using h2
  have hji : rows[j]? = some rows[j] := by simp [hjl]
  have hw := Jtr1 (k := j) (by omega)
  rw [Jt8o hjl] at hT hR1
  rw [Jtie] at hR1
  simp only [rowsC] at hT
  have hro := hr _ (List.getElem_mem hjl)
  have hrow := Jt6l A S C t most ⟨code, kind, ta, to, els⟩ ⟨mcode, mkind, mta, mto, mels⟩ rows[j] (n1 := rows[j].ct - rows[j].cf) (n2 := rows[j].mt - rows[j].mf) rfl rfl (hR1.mono (by unfold needR; omega)) hv hro hb0 hm0
  have hl1 : ((mcode.take rows[j].mt).drop rows[j].mf).length = rows[j].mt - rows[j].mf := by have := hro.hm; simp; omega
  have hl2 : ((code.take rows[j].ct).drop rows[j].cf).length = rows[j].ct - rows[j].cf := by have := hro.hc; simp; omega
  have hR2 := Jtlq (n := needRs (rows.drop (j + 1)) + 1) (most := most) (r := rows[j]) (hR1.mono (by rw [hl1, hl2]; unfold needR; omega)) hv
  simp only at hrow
  obtain ⟨⟨t2, e2⟩, h2r⟩ : ∃ r, r = rowC most code mcode rows[j] t := ⟨_, rfl⟩
  rw [← h2r] at hrow hT hR2
  (simp (maxSteps := 1000000) [h2, List.getElem?_map, hji, ARow.row, hw])
  cases e2 with
  | none =>
   rw [Jtpx] at hT
   refine Jtz [0] (x := .tup []) hrow (by decide) (by rfl) (by rfl) (by rfl) (by rfl) (by rfl) (by rfl) ?_
   (simp (maxSteps := 1000000) [ckB, hw])
   exact hN _ (j + 1, t2) ⟨hjl, hT, hR2⟩ (by simp only [ckB]; (exact wkA)) (by simp only; omega)
  | some e =>
   rw [Jtpy] at hT
   refine Jt11 [0] (x := failV p e) hrow (by decide) (by rfl) (by rfl) (by rfl) (by rfl) (by rfl) (by rfl) ?_
   rw [← hT, Jtpy] at hspec
   have hq := fin _ _ hspec
   (simp (maxSteps := 1000000) [])
   exact Jtmo (s := t2) (e := e) rfl rfl hq
 ·have hjl : j = rows.length := by simp at h2; omega
  subst hjl
  have hT' : T1 = (t, none) := by rw [← hT, List.drop_length]; rfl
  rw [hT', Jtpx] at hspec
  rw [List.drop_length] at hR1
  (simp (maxSteps := 1000000) [])
  ((first | refine Xc (fun h3 => ?_) (fun h3 => ?_) | refine Xo (fun h3 => ?_) (fun h3 => ?_)) <;> (try simp only [Xz, Xy] at h3))
  ·rw [if_neg h3] at hspec
   have hl0 := hR1.len
   have hst : t.steps < 1000000000000000000 := Nat.lt_of_le_of_lt (Nat.le_add_right _ _) hR1.steps
   have hu := Jt6n A t most ta mta mcode.length hl0 hst hR1.over.srt
   obtain ⟨⟨t2, e2⟩, h2r⟩ : ∃ r, r = useC t ta (regZ mta) mcode.length := ⟨_, rfl⟩
   rw [← h2r] at hu hspec
   have hq := fin _ _ hspec
   (simp (maxSteps := 1000000) [h3])
   cases e2 with
   | none =>
    refine Jtz [0] (x := .tup []) hu (by decide) (by rfl) (by rfl) (by rfl) (by rfl) (by rfl) (by rfl) ?_
    (simp (maxSteps := 1000000) [ckB])
    exact Jtmq (s := t2) (e := (0, mcode.length)) rfl rfl hq
   | some e =>
    refine Jt11 [0] (x := failV p e) hu (by decide) (by rfl) (by rfl) (by rfl) (by rfl) (by rfl) (by rfl) ?_
    (simp (maxSteps := 1000000) [])
    exact Jtmn (s := t2) (e := e) rfl rfl hq
  ·have h3' : kind = 1 := by simpa using h3
   rw [if_pos h3'] at hspec
   have hq := fin _ _ hspec
   (simp (maxSteps := 1000000) [h3])
   exact Jtmq (e := (0, mcode.length)) rfl rfl hq
end
def isCopy (i : Instr) : Bool := i.op == 2
def isMove (m : Mach) : Bool := m.op == 18
def skipW {α : Type} (f : α → Bool) (l : List α) (i : Nat) : Nat := i + ((l.drop i).takeWhile f).length
theorem Jtn6 {α : Type} (f : α → Bool) (l : List α) (i : Nat) : i ≤ skipW f l i := Nat.le_add_right _ _
theorem Jtn7 {α : Type} {f : α → Bool} {l : List α} {i : Nat} (h : i ≤ l.length) : skipW f l i ≤ l.length := by
 have := (List.takeWhile_prefix f (l := l.drop i)).length_le
 rw [List.length_drop] at this
 unfold skipW; omega
theorem Jtn8 {α : Type} {f : α → Bool} {l : List α} {i : Nat} (h : i < l.length) (hf : f l[i] = true) : skipW f l i = skipW f l (i + 1) := by
 unfold skipW
 rw [List.drop_eq_getElem_cons h, List.takeWhile_cons, if_pos hf, List.length_cons]; omega
theorem Jtn5 {α : Type} {f : α → Bool} {l : List α} {i : Nat} (h : i < l.length) (hf : f l[i] = false) : skipW f l i = i := by
 unfold skipW
 rw [List.drop_eq_getElem_cons h, List.takeWhile_cons, hf]; simp
theorem Jtn4 {α : Type} {f : α → Bool} {l : List α} {i : Nat} (h : l.length ≤ i) : skipW f l i = i := by
 unfold skipW
 rw [List.drop_eq_nil_of_le h]; simp
def sameI (i : Instr) (m : Mach) : Bool := i.op == m.op && i.imm == m.imm && i.op != 2 && i.op != 18
def termsZ (a b : Term) : Bool := a.kind == b.kind && a.to == b.to && a.els == b.els
def alignS (code : List Instr) (mach : List Mach) : Nat → Nat → Nat → List ARow → List ARow × Nat × Int
 | 0, _, k, _ => ([], k, 20)
 | f + 1, i, k, rows =>
  if skipW isCopy code i = code.length ∧ skipW isMove mach k = mach.length then (rows ++ [⟨i, skipW isCopy code i, k, skipW isMove mach k, -1, -1⟩], skipW isMove mach k, 0)
  else match code[skipW isCopy code i]?, mach[skipW isMove mach k]? with
   | some x, some y => if sameI x y = true then alignS code mach f (skipW isCopy code i + 1) (skipW isMove mach k + 1) (rows ++ [⟨i, skipW isCopy code i, k, skipW isMove mach k, skipW isCopy code i, skipW isMove mach k⟩]) else ([], skipW isMove mach k, 20)
   | _, _ => ([], skipW isMove mach k, 20)
def alignZ (code : List Instr) (mach : List Mach) : List ARow × Nat × Int := alignS code mach (code.length + 1) 0 0 []
section
theorem Jt53 {P : Program} {p : Nums} (A : All P p) (i : Instr) : Jt3x P p.align_copied [i.av] [] fun o _ => o = .ret (AB (isCopy i)) := by
 refine A.align_copied.run rfl fun R hR => ?_
 (simp (maxSteps := 1000000) [Jtbl, Instr.av])
 (first | exact hR _ _ FrA | exact hR _ _ FnA | exact hR _ _ (Xf (hq := by simp [AV.erase, AV.unview, isCopy]; done)))
theorem Jt54 {P : Program} {p : Nums} (A : All P p) (m : Mach) : Jt3x P p.align_moved [m.av] [] fun o _ => o = .ret (AB (isMove m)) := by
 refine A.align_moved.run rfl fun R hR => ?_
 (simp (maxSteps := 1000000) [Jtbm, Mach.av])
 (first | exact hR _ _ FrA | exact hR _ _ FnA | exact hR _ _ (Xf (hq := by simp [AV.erase, AV.unview, isMove]; done)))
theorem Jt51 {P : Program} {p : Nums} (A : All P p) (i : Instr) (m : Mach) : Jt3x P p.align_Same [i.av, m.av] [] fun o _ => o = .ret (AB (sameI i m)) := by
 refine A.align_Same.run rfl fun R hR => ?_
 have hs : sameI i m = sameI i m := rfl
 conv at hs => rhs; unfold sameI
 cases h1 : i.op == m.op <;> cases h2 : i.imm == m.imm <;> cases h3 : i.op != 2 <;> cases h4 : i.op != 18 <;> simp only [h1, h2, h3, h4, Bool.and_true, Bool.and_false, Bool.false_and, Bool.and_self] at hs <;>
  (simp (maxSteps := 1000000) [Jtbj, Instr.av, Mach.av, h1, h2, h3, h4]) <;> (first | exact hR _ _ FrA | exact hR _ _ FnA | exact hR _ _ (Xf (hq := by simp [AV.erase, AV.unview, hs]; done)))
theorem Jt52 {P : Program} {p : Nums} (A : All P p) (a b : Term) : Jt3x P p.align_Terms [a.av, b.av] [] fun o _ => o = .ret (AB (termsZ a b)) := by
 refine A.align_Terms.run rfl fun R hR => ?_
 have hs : termsZ a b = termsZ a b := rfl
 conv at hs => rhs; unfold termsZ
 cases h1 : a.kind == b.kind <;> cases h2 : a.to == b.to <;> cases h3 : a.els == b.els <;> simp only [h1, h2, h3, Bool.and_true, Bool.and_false, Bool.false_and, Bool.and_self] at hs <;>
  (simp (maxSteps := 1000000) [Jtbk, Term.av, h1, h2, h3]) <;> (first | exact hR _ _ FrA | exact hR _ _ FnA | exact hR _ _ (Xf (hq := by simp [AV.erase, AV.unview, hs]; done)))
theorem Jt55 {P : Program} {p : Nums} (A : All P p) (l : List Instr) (i : Nat) (h0 : l.length < 1000000) (h1 : i < 1000000) : Jt3x P p.align_skip_Instr [.d (.sl (l.map Instr.row)), AI i, .fn (.func p.align_copied) [] []] [] fun o _ => o = .ret (AI (skipW isCopy l i)) := by
 refine A.align_skip_Instr.run rfl fun R hR => ?_
 (simp (maxSteps := 1000000) [Jtbn])
 refine Jtd (fun k : Nat => ⟨[(1, AI k), (2, .fn (.func p.align_copied) [] []), (0, .d (.sl (l.map Instr.row)))], []⟩) (fun k => k < 1000000 + l.length ∧ skipW isCopy l k = skipW isCopy l i) (fun k => l.length - k) i (by simp; omega) (by (exact wkA)) ?_
 rintro k ⟨hk, hs⟩ N hN
 (simp (maxSteps := 1000000) [])
 ((first | refine Xc (fun h2 => ?_) (fun h2 => ?_) | refine Xo (fun h2 => ?_) (fun h2 => ?_)) <;> (try simp only [Xz, Xy] at h2))
 ·have hkl : k < l.length := by simpa using h2
  have hki : l[k]? = some l[k] := by simp [hkl]
  have hw := Jtr1 (k := k) (by omega)
  (simp (maxSteps := 1000000) [h2, List.getElem?_map, hki, Instr.row])
  refine ⟨_, [], [], _, rfl, A.align_copied.ok, rfl, ?_⟩
  (refine Jtx (Jt53 A l[k]) (by rfl) (by rfl) ?_)
  cases hc : isCopy l[k] with
  | true =>
   (simp (maxSteps := 1000000) [h2, hc, hw])
   exact hN _ (k + 1) ⟨by omega, by rw [← Jtn8 hkl hc]; exact hs⟩ (by (exact wkA)) (by omega)
  | false =>
   rw [Jtn5 hkl hc] at hs
   (simp (maxSteps := 1000000) [h2, hc])
   (first | exact hR _ _ FrA | exact hR _ _ FnA | exact hR _ _ (Xf (hq := by simp [AV.erase, AV.unview, hs]; done)))
 ·have hkl : l.length ≤ k := by simpa using h2
  rw [Jtn4 hkl] at hs
  (simp (maxSteps := 1000000) [h2])
  (first | exact hR _ _ FrA | exact hR _ _ FnA | exact hR _ _ (Xf (hq := by simp [AV.erase, AV.unview, hs]; done)))
theorem Jt56 {P : Program} {p : Nums} (A : All P p) (l : List Mach) (i : Nat) (h0 : l.length < 1000000) (h1 : i < 1000000) : Jt3x P p.align_skip_Mach [.d (.sl (l.map Mach.row)), AI i, .fn (.func p.align_moved) [] []] [] fun o _ => o = .ret (AI (skipW isMove l i)) := by
 refine A.align_skip_Mach.run rfl fun R hR => ?_
 (simp (maxSteps := 1000000) [Jtbo])
 refine Jtd (fun k : Nat => ⟨[(1, AI k), (2, .fn (.func p.align_moved) [] []), (0, .d (.sl (l.map Mach.row)))], []⟩) (fun k => k < 1000000 + l.length ∧ skipW isMove l k = skipW isMove l i) (fun k => l.length - k) i (by simp; omega) (by (exact wkA)) ?_
 rintro k ⟨hk, hs⟩ N hN
 (simp (maxSteps := 1000000) [])
 ((first | refine Xc (fun h2 => ?_) (fun h2 => ?_) | refine Xo (fun h2 => ?_) (fun h2 => ?_)) <;> (try simp only [Xz, Xy] at h2))
 ·have hkl : k < l.length := by simpa using h2
  have hki : l[k]? = some l[k] := by simp [hkl]
  have hw := Jtr1 (k := k) (by omega)
  (simp (maxSteps := 1000000) [h2, List.getElem?_map, hki, Mach.row])
  refine ⟨_, [], [], _, rfl, A.align_moved.ok, rfl, ?_⟩
  (refine Jtx (Jt54 A l[k]) (by rfl) (by rfl) ?_)
  cases hc : isMove l[k] with
  | true =>
   (simp (maxSteps := 1000000) [h2, hc, hw])
   exact hN _ (k + 1) ⟨by omega, by rw [← Jtn8 hkl hc]; exact hs⟩ (by (exact wkA)) (by omega)
  | false =>
   rw [Jtn5 hkl hc] at hs
   (simp (maxSteps := 1000000) [h2, hc])
   (first | exact hR _ _ FrA | exact hR _ _ FnA | exact hR _ _ (Xf (hq := by simp [AV.erase, AV.unview, hs]; done)))
 ·have hkl : l.length ≤ k := by simpa using h2
  rw [Jtn4 hkl] at hs
  (simp (maxSteps := 1000000) [h2])
  (first | exact hR _ _ FrA | exact hR _ _ FnA | exact hR _ _ (Xf (hq := by simp [AV.erase, AV.unview, hs]; done)))
end
section
theorem Jt50 {P : Program} {p : Nums} (A : All P p) (code : List Instr) (mach : List Mach) (h0 : code.length < 500000) (h1 : mach.length < 500000) : Jt3x P p.align_Code [.d (.sl (code.map Instr.row)), .d (.sl (mach.map Mach.row))] []
  fun o _ => o = .ret (.tup [.d (.sl ((alignZ code mach).1.map ARow.row)), AI (alignZ code mach).2.1, AI (alignZ code mach).2.2]) := by
 refine A.align_Code.run rfl fun R hR => ?_
 obtain ⟨T, hT⟩ : ∃ T, T = alignZ code mach := ⟨_, rfl⟩
 rw [← hT] at hR
 (simp (maxSteps := 1000000) [Jtbi])
 refine Jtd (fun x : Nat × Nat × Nat × List ARow => ⟨[(7, .own 6 (x.2.2.2.map ARow.row)), (8, AI x.2.1), (9, AI x.2.2.1), (0, .d (.sl (code.map Instr.row))), (1, .d (.sl (mach.map Mach.row)))], []⟩)
  (fun x => x.2.1 ≤ code.length ∧ x.2.2.1 ≤ mach.length ∧ code.length + 1 ≤ x.1 + x.2.1 ∧ x.2.2.2.length ≤ x.2.1 ∧ alignS code mach x.1 x.2.1 x.2.2.1 x.2.2.2 = T) (fun x => code.length + 1 - x.2.1) (code.length + 1, 0, 0, []) (by simp [hT, alignZ]) (by simp only [List.map_nil]; (exact wkA)) ?_
 rintro ⟨f, i, k, rows⟩ ⟨hi, hk, hf, hrl, hal⟩ N hN
 simp only at hi hk hf hrl hal
 obtain ⟨f, rfl⟩ : ∃ g, f = g + 1 := ⟨f - 1, by omega⟩
 have hsi := Jt55 A code i (by omega) (by omega)
 have hsk := Jt56 A mach k (by omega) (by omega)
 have hile := Jtn7 (f := isCopy) hi
 have hkle := Jtn7 (f := isMove) hk
 have hige := Jtn6 isCopy code i
 simp only [alignS] at hal
 obtain ⟨si, hsie⟩ : ∃ x, x = skipW isCopy code i := ⟨_, rfl⟩
 obtain ⟨sk, hske⟩ : ∃ x, x = skipW isMove mach k := ⟨_, rfl⟩
 rw [← hsie] at hsi hal hile hige
 rw [← hske] at hsk hal hkle
 (simp (maxSteps := 1000000) [])
 (refine Jtx hsi (by rfl) (by rfl) ?_)
 (simp (maxSteps := 1000000) [])
 (refine Jtx hsk (by rfl) (by rfl) ?_)
 obtain ⟨F, hF⟩ : ∃ F, F = rows.map ARow.row := ⟨_, rfl⟩
 have hFl : F.length = rows.length := by rw [hF]; simp
 rw [← hF]
 by_cases h2 : si = code.length
 ·by_cases h3 : sk = mach.length
  ·rw [if_pos ⟨h2, h3⟩] at hal
   (simp (maxSteps := 1000000) [h2, h3])
   (refine Jt1b (by rfl) (by rfl) (by rfl) ?_ (by decide) ?_ ?_ ?_)
   ·simp
   ·simp; omega
   ·simp; omega
   (simp (maxSteps := 1000000) [])
   refine hR _ _ (Jt43 _ _ rfl (by (exact wkvA)) ?_)
   rw [← hal]
   simp [hF, ARow.row, h2, h3]
  ·rw [if_neg (fun h => h3 h.2)] at hal
   have hb3 : ((sk : Int) == (mach.length : Int)) = false := by simp; omega
   have hc : code[si]? = none := List.getElem?_eq_none (by omega)
   rw [hc] at hal
   simp only at hal
   (simp (maxSteps := 1000000) [h2, h3, hb3])
   refine hR _ _ (Jt43 (.tup [.nils, AI sk, AI 20]) (.tup [.d (.sl []), AI sk, AI 20]) rfl (by (exact wkvA)) ?_)
   rw [← hal]; rfl
 ·have hb2 : ((si : Int) == (code.length : Int)) = false := by simp; omega
  rw [if_neg (fun h => h2 h.1)] at hal
  have hcl : si < code.length := by omega
  have hci : code[si]? = some code[si] := by simp [hcl]
  by_cases h3 : sk = mach.length
  ·have hc : mach[sk]? = none := List.getElem?_eq_none (by omega)
   rw [hci, hc] at hal
   simp only at hal
   (simp (maxSteps := 1000000) [h2, h3, hb2])
   refine hR _ _ (Jt43 (.tup [.nils, AI mach.length, AI 20]) (.tup [.d (.sl []), AI mach.length, AI 20]) rfl (by (exact wkvA)) ?_)
   rw [← hal]; simp [h3]
  ·have hkl : sk < mach.length := by omega
   have hki : mach[sk]? = some mach[sk] := by simp [hkl]
   rw [hci, hki] at hal
   simp only at hal
   have hb3 : ((sk : Int) == (mach.length : Int)) = false := by simp; omega
   (simp (maxSteps := 1000000) [h2, h3, hb2, hb3, List.getElem?_map, hci, hki, Instr.row, Mach.row])
   (refine Jtx (Jt51 A code[si] mach[sk]) (by rfl) (by rfl) ?_)
   cases hs : sameI code[si] mach[sk] with
   | false =>
    rw [hs] at hal
    simp only [Bool.false_eq_true, if_false] at hal
    (simp (maxSteps := 1000000) [hs])
    refine hR _ _ (Jt43 (.tup [.nils, AI sk, AI 20]) (.tup [.d (.sl []), AI sk, AI 20]) rfl (by (exact wkvA)) ?_)
    rw [← hal]; rfl
   | true =>
    rw [hs, if_pos rfl] at hal
    have hw1 := Jtr1 (k := si) (by omega)
    have hw2 := Jtr1 (k := sk) (by omega)
    (simp (maxSteps := 1000000) [hs])
    (refine Jt1b (by rfl) (by rfl) (by rfl) ?_ (by decide) ?_ ?_ ?_)
    ·simp
    ·simp; omega
    ·simp; omega
    (simp (maxSteps := 1000000) [hw1, hw2])
    exact hN _ (f, si + 1, sk + 1, rows ++ [⟨i, si, k, sk, si, sk⟩]) ⟨hcl, hkl, by simp only; omega, by simp only [List.length_append, List.length_singleton]; omega, hal⟩ (by simp only [List.map_append, List.map_cons, List.map_nil, ← hF, ARow.row]; (exact wkA)) (by simp only; omega)
end
theorem Jt4v {code : List Instr} {mach : List Mach} : ∀ (f i k : Nat) (rows : List ARow), i ≤ code.length → k ≤ mach.length → (∀ r ∈ rows, RowOk code mach r) → rows.length ≤ i →
  (∀ r ∈ (alignS code mach f i k rows).1, RowOk code mach r) ∧ (alignS code mach f i k rows).1.length ≤ code.length + 1 ∧ (alignS code mach f i k rows).2.1 ≤ mach.length := by
 intro f
 induction f with
 | zero => intro i k rows hi hk h hl; exact ⟨fun r hr => by simp [alignS] at hr, by simp [alignS], by simpa [alignS] using hk⟩
 | succ f ih =>
  intro i k rows hi hk h hl
  have h1 := Jtn7 (f := isCopy) hi
  have h2 := Jtn7 (f := isMove) hk
  have h3 := Jtn6 isCopy code i
  have h4 := Jtn6 isMove mach k
  simp only [alignS]
  split
  ·refine ⟨fun r hr => ?_, by simp; omega, h2⟩
   rcases List.mem_append.1 hr with hr | hr
   ·exact h r hr
   ·simp only [List.mem_singleton] at hr
    subst hr
    exact ⟨⟨h3, h1⟩, ⟨h4, h2⟩, fun h => by simp at h⟩
  ·split
   ·rename_i x y hx hy
    have hx' := (List.getElem?_eq_some_iff.1 hx).1
    have hy' := (List.getElem?_eq_some_iff.1 hy).1
    split
    ·refine ih _ _ _ hx' hy' (fun r hr => ?_) (by simp only [List.length_append, List.length_singleton]; omega)
     rcases List.mem_append.1 hr with hr | hr
     ·exact h r hr
     ·simp only [List.mem_singleton] at hr
      subst hr
      exact ⟨⟨h3, h1⟩, ⟨h4, h2⟩, fun _ => ⟨by simp; omega, by simp, by simp; omega⟩⟩
    ·exact ⟨fun r hr => by simp at hr, by simp, h2⟩
   ·exact ⟨fun r hr => by simp at hr, by simp, h2⟩
theorem Jt4y (code : List Instr) (mach : List Mach) : (∀ r ∈ (alignZ code mach).1, RowOk code mach r) ∧ (alignZ code mach).1.length ≤ code.length + 1 ∧ (alignZ code mach).2.1 ≤ mach.length :=
 Jt4v _ 0 0 [] (Nat.zero_le _) (Nat.zero_le _) (fun r hr => by simp at hr) (Nat.le_refl _)
theorem Jtif {code : List Instr} {mach : List Mach} {rows : List ARow} (h : ∀ r ∈ rows, RowOk code mach r) : needRs rows ≤ rows.length * (3 + mach.length + code.length) := by
 induction rows with
 | nil => simp [needRs]
 | cons r rows ih =>
  have h1 := h r (by simp)
  have h2 := ih fun r hr => h r (by simp [hr])
  rw [Jtie, List.length_cons, Nat.add_mul, Nat.one_mul]
  have := h1.hc
  have := h1.hm
  unfold needR; omega
structure Res where (out : List Pair) (err at_ : Int) (steps largest : Nat)
 deriving DecidableEq
def Res.av (r : Res) : AV := .agg [.d (pairsD r.out), AI r.err, AI r.at_, AI r.steps, AI r.largest]
def checkZ (b : Block) (m : MBlock) (l : List Pair) (most : Int) : Res :=
 if (l.length : Int) > most then ⟨[], 24, 0, 0, l.length⟩
 else
  let a := alignZ b.code m.code
  let why := if a.2.2 = 0 ∧ termsZ b.term m.term = false then 20 else a.2.2
  if why ≠ 0 then ⟨[], why, a.2.1, 0, l.length⟩
  else
   let r := runC most b m a.1 ⟨makeP l, 0, l.length⟩
   ⟨if (runE m r.2).1 = 0 then r.1.set else [], (runE m r.2).1, (runE m r.2).2, r.1.steps, r.1.largest⟩
section
theorem Jt6h {P : Program} {p : Nums} (A : All P p) (S : SortOk P p) (C : ClosOk P p) {V L : List Int} (b : Block) (m : MBlock) (l : List Pair) (most : Int) (hl : ∀ q ∈ l, q.v ∈ V ∧ q.l ∈ L) (hv : VLOk V L b.code m.code) (few : V.length * L.length < 100000) (hl0 : l.length < 100000)
  (hb0 : b.code.length ≤ 1000) (hm0 : m.code.length ≤ 1000) : Jt3x P p.blockcheck_Check [b.av, m.av, .d (pairsD l), AI most] [] fun o _ => o = .ret (checkZ b m l most).av := by
 refine A.blockcheck_Check.run rfl fun R hR => ?_
 obtain ⟨T, hT⟩ : ∃ T, T = checkZ b m l most := ⟨_, rfl⟩
 rw [← hT] at hR
 have hspec : T = checkZ b m l most := hT
 unfold checkZ at hspec
 obtain ⟨ha1, ha2, ha3⟩ := Jt4y b.code m.code
 have hal := Jt50 A b.code m.code (by omega) (by omega)
 have htm := Jt52 A b.term m.term
 have hmk := Jtjk A S l (by omega)
 have hover : Over V L (makeP l) := ⟨Jtom l, fun q hq => hl q (Jthl.1 hq)⟩
 have hroom : Room V L ⟨makeP l, 0, l.length⟩ (needRs (alignZ b.code m.code).1 + 1) := by
  refine ⟨hover, few, ?_, by simp only; omega⟩
  have h1 := Jtif ha1
  have h2 : (alignZ b.code m.code).1.length * (3 + m.code.length + b.code.length) ≤ 1001 * 2003 := Nat.mul_le_mul (by omega) (by omega)
  simp only
  omega
 have hrun := Jt6m A S C ⟨makeP l, 0, l.length⟩ most b m (alignZ b.code m.code).1 hroom hv ha1 (by omega) (by omega) (by omega)
 obtain ⟨al, hale⟩ : ∃ a, a = alignZ b.code m.code := ⟨_, rfl⟩
 rw [← hale] at hal hrun hspec
 obtain ⟨rows, at_, why⟩ := al
 obtain ⟨⟨t, e⟩, hre⟩ : ∃ r, r = runC most b m rows ⟨makeP l, 0, l.length⟩ := ⟨_, rfl⟩
 simp only at hal hrun hspec
 rw [← hre] at hrun hspec
 obtain ⟨re, hree⟩ : ∃ x, x = runE m e := ⟨_, rfl⟩
 simp only at hrun hspec
 rw [← hree] at hrun hspec
 obtain ⟨mk, hmke⟩ : ∃ x, x = makeP l := ⟨_, rfl⟩
 rw [← hmke] at hmk hrun
 obtain ⟨tz, htz⟩ : ∃ x, x = termsZ b.term m.term := ⟨_, rfl⟩
 rw [← htz] at htm hspec
 obtain ⟨code, kind, ta, to, els⟩ := b
 obtain ⟨mcode, mkind, mta, mto, mels⟩ := m
 simp only [Block.av, MBlock.av, Term.av] at hal hrun htm ⊢
 by_cases h1 : most < (l.length : Int)
 ·rw [if_pos h1] at hspec
  (simp (maxSteps := 1000000) [Jtc4, pairsD, h1])
  refine hR _ _ (Jt43 (.agg [.nils, AI 24, AI 0, AI 0, AI l.length]) (.agg [.d (.sl []), AI 24, AI 0, AI 0, AI l.length]) rfl (by (exact wkvA)) ?_)
  rw [hspec]; rfl
 ·rw [if_neg h1] at hspec
  (simp (maxSteps := 1000000) [Jtc4, pairsD, h1])
  (refine Jtx hal (by rfl) (by rfl) ?_)
  by_cases hw : why = 0
  ·subst hw
   (simp (maxSteps := 1000000) [])
   (refine Jtx htm (by rfl) (by rfl) ?_)
   cases tz with
   | false =>
    simp only [and_self, if_true, ne_eq, reduceCtorEq, not_false_eq_true, Int.reduceEq] at hspec
    (simp (maxSteps := 1000000) [])
    refine hR _ _ (Jt43 (.agg [.nils, AI 20, AI at_, AI 0, AI l.length]) (.agg [.d (.sl []), AI 20, AI at_, AI 0, AI l.length]) rfl (by (exact wkvA)) ?_)
    rw [hspec]; rfl
   | true =>
    simp only [Bool.true_eq_false, and_false, if_false, ne_eq, not_true_eq_false] at hspec
    (simp (maxSteps := 1000000) [pairsD])
    (refine Jtx hmk (by rfl) (by rfl) ?_)
    (simp (maxSteps := 1000000) [pairsD])
    refine Jtz [3] hrun (by decide) (by rfl) (by rfl) (by rfl) (by rfl) (by rfl) (by rfl) ?_
    (simp (maxSteps := 1000000) [ckB])
    by_cases hz : re.1 = 0
    ·rw [if_pos hz] at hspec
     (simp (maxSteps := 1000000) [hz, pairsD])
     refine hR _ _ (Jt43 (.agg [.d (.sl (t.set.map Pair.row)), AI 0, AI re.2, AI t.steps, AI t.largest]) _ rfl (by (exact wkvA)) ?_)
     rw [hspec, hz]; rfl
    ·rw [if_neg hz] at hspec
     have hzb : (re.1 == 0) = false := by simpa using hz
     (simp (maxSteps := 1000000) [hz, hzb, pairsD])
     refine hR _ _ (Jt43 (.agg [.nils, AI re.1, AI re.2, AI t.steps, AI t.largest]) (.agg [.d (.sl []), AI re.1, AI re.2, AI t.steps, AI t.largest]) rfl (by (exact wkvA)) ?_)
     rw [hspec]; rfl
  ·have hwb : (why == 0) = false := by simpa using hw
   simp only [hw, false_and, if_false, ne_eq, not_false_eq_true, if_true] at hspec
   (simp (maxSteps := 1000000) [hw, hwb])
   refine hR _ _ (Jt43 (.agg [.nils, AI why, AI at_, AI 0, AI l.length]) (.agg [.d (.sl []), AI why, AI at_, AI 0, AI l.length]) rfl (by (exact wkvA)) ?_)
   rw [hspec]; rfl
end
def okZ (n : Int) : Prop := -9223372036854775808 ≤ n ∧ n ≤ 9223372036854775807
def Jtko (i : Mach) (regs slots : Int) : Int :=
 if i.op < 1 ∨ 18 < i.op ∨ i.op = 2 then 8
 else if i.op = 18 then
  if rngZ i.dst regs slots = false ∨ rngZ i.src regs slots = false ∨ (i.dst.tmod 2 = 1 ∧ i.src.tmod 2 = 1) then 10
  else if i.d ≠ 0 ∨ i.a ≠ 0 ∨ i.b ≠ 0 ∨ i.imm ≠ 0 then 12 else 0
 else if Jtkl ⟨i.op, i.d, i.a, i.b, i.imm⟩ regs = 0 ∧ (i.dst ≠ 0 ∨ i.src ≠ 0) then 12 else Jtkl ⟨i.op, i.d, i.a, i.b, i.imm⟩ regs
section
end
def mErr (code : List Mach) (regs slots : Int) (j : Nat) : Int := match code[j]? with
 | none => 0
 | some x => if Jtko x regs slots ≠ 0 then Jtko x regs slots else if 64 ≤ j ∧ 64 < Jtkp ((code.take (j + 1)).drop (j - 64)) then 15 else 0
def mErrs (code : List Mach) (regs slots : Int) : Int := Jt9v ((List.range code.length).map (mErr code regs slots))
def Jtkm (b : MBlock) (regs slots blocks : Int) : Int := if mErrs b.code regs slots ≠ 0 then mErrs b.code regs slots else Jtkr b.term regs blocks
def Jtkn (f : MFunc) : Int :=
 if f.args < 0 ∨ f.slots < f.args then 10 else if f.regs < 0 then 9 else if 1048576 < f.slots ∨ 1048576 < f.regs then 6 else if f.blocks.length = 0 then 14 else if 1048576 < f.blocks.length ∨ 1048576 < mcodeN f.blocks then 6
 else Jt9v (f.blocks.map fun b => Jtkm b f.regs f.slots f.blocks.length)
def okM (b : MBlock) : Prop := ∀ x ∈ b.code, okZ x.dst ∧ okZ x.src
section
end
structure Bd (most : Int) (m n : Nat) (s : CS) (r : CR) : Prop where
 steps : r.1.steps ≤ s.steps + n * (r.1.largest + 1)
 lg : s.largest ≤ r.1.largest
 set : r.1.set.length ≤ r.1.largest
 most : r.2 = none → (s.largest : Int) ≤ most → (r.1.largest : Int) ≤ most
 fail : ∀ e, r.2 = some e → e.1 ≠ 0 ∧ 0 ≤ e.2 ∧ e.2 ≤ m
section
variable {most : Int} {m : Nat} {s : CS}
theorem Bd.refl (h : s.set.length ≤ s.largest) : Bd most m 0 s (s, none) := ⟨by simp, Nat.le_refl _, h, fun _ h => h, fun e h => by cases h⟩
theorem Bd.mono {n n' : Nat} {r : CR} (h : Bd most m n s r) (hn : n ≤ n') : Bd most m n' s r :=
 ⟨Nat.le_trans h.steps (Nat.add_le_add_left (Nat.mul_le_mul_right _ hn) _), h.lg, h.set, h.most, h.fail⟩
theorem Bd.then {n1 n2 : Nat} {r : CR} {f : CS → CR} (h : Bd most m n1 s r) (hf : ∀ s1, r = (s1, none) → Bd most m n2 s1 (f s1)) : Bd most m (n1 + n2) s (thenC r f) := by
 obtain ⟨s1, e⟩ := r
 cases e with
 | some e => rw [Jtpy]; exact h.mono (by omega)
 | none =>
  rw [Jtpx]
  have h2 := hf s1 rfl
  refine ⟨?_, Nat.le_trans h.lg h2.lg, h2.set, fun hn hm => h2.most hn (h.most rfl hm), h2.fail⟩
  have k1 := h.steps
  have k2 := h2.steps
  have k3 := h2.lg
  simp only at k1 k3
  have k4 : n1 * (s1.largest + 1) ≤ n1 * ((f s1).1.largest + 1) := Nat.mul_le_mul_left _ (by omega)
  rw [Nat.add_mul]
  omega
theorem Bd.use {v t at_ : Int} (h : s.set.length ≤ s.largest) (h0 : 0 ≤ at_) (h1 : at_ ≤ m) : Bd most m 1 s (useC s v t at_) := by
 refine ⟨?_, Nat.le_refl _, h, fun _ h => h, fun e he => ?_⟩
 ·simp only [useC, costC]; omega
 ·simp only [useC] at he
  split at he
  ·cases he
  ·injection he with he; subst he; exact ⟨by simp, h0, h1⟩
theorem Bd.step {l : List Pair} {at_ : Int} (h : s.set.length ≤ s.largest) (h0 : 0 ≤ at_) (h1 : at_ ≤ m) : Bd most m 1 s (Jt6b most (costC s) l at_) := by
 refine ⟨?_, ?_, ?_, fun hn hm => ?_, fun e he => ?_⟩
 ·simp only [Jt6b, costC]; omega
 ·simp only [Jt6b, costC]; omega
 ·simp only [Jt6b, costC]; omega
 ·simp only [Jt6b, costC] at hn ⊢
  split at hn
  ·cases hn
  ·omega
 ·simp only [Jt6b] at he
  split at he
  ·injection he with he; subst he; exact ⟨by simp, h0, h1⟩
  ·cases he
theorem Jt86 {at_ : Int} (h0 : 0 ≤ at_) (h1 : at_ ≤ m) : ∀ {l : List Instr} {s : CS}, s.set.length ≤ s.largest → Bd most m l.length s (copyC most at_ l s) := by
 intro l
 induction l with
 | nil => intro s h; exact .refl h
 | cons i l ih =>
  intro s h
  simp only [copyC, List.length_cons]
  rw [Nat.add_comm]
  refine (Bd.step h h0 h1).then fun s1 hs1 => ih ?_
  have := (Bd.step (most := most) (m := m) (l := copyP s.set i.d i.a) h h0 h1).set
  rw [hs1] at this; exact this
theorem Jtia : ∀ {l : List Mach} {k : Nat} {s : CS}, k + l.length ≤ m → s.set.length ≤ s.largest → Bd most m l.length s (moveC most k l s) := by
 intro l
 induction l with
 | nil => intro k s _ h; exact .refl h
 | cons i l ih =>
  intro k s hk h
  simp only [moveC, List.length_cons] at hk ⊢
  rw [Nat.add_comm l.length 1]
  have hst := Bd.step (most := most) (m := m) (l := moveP s.set i.dst i.src) (at_ := k) h (by omega) (by omega)
  refine hst.then fun s1 hs1 => ih (by omega) ?_
  have := hst.set
  rw [hs1] at this; exact this
theorem Jtet {i : Instr} {x : Mach} {at_ : Int} (h : s.set.length ≤ s.largest) (h0 : 0 ≤ at_) (h1 : at_ ≤ m) : Bd most m 3 s (instrC most s i x at_) := by
 unfold instrC
 refine Bd.then (n1 := 1) (n2 := 2) ?_ fun s1 hs1 => Bd.then (n1 := 1) (n2 := 1) ?_ fun s2 hs2 => ?_
 ·split
  ·exact .use h h0 h1
  ·exact (Bd.refl h).mono (by omega)
 ·have k1 : s1.set.length ≤ s1.largest := by
   split at hs1
   ·have := (Bd.use (most := most) (m := m) (v := i.a) (t := regZ x.a) h h0 h1).set; rw [hs1] at this; exact this
   ·injection hs1 with hs1; subst hs1; exact h
  split
  ·exact .use k1 h0 h1
  ·exact (Bd.refl k1).mono (by omega)
 ·have k1 : s1.set.length ≤ s1.largest := by
   split at hs1
   ·have := (Bd.use (most := most) (m := m) (v := i.a) (t := regZ x.a) h h0 h1).set; rw [hs1] at this; exact this
   ·injection hs1 with hs1; subst hs1; exact h
  have k2 : s2.set.length ≤ s2.largest := by
   split at hs2
   ·have := (Bd.use (most := most) (m := m) (v := i.b) (t := regZ x.b) k1 h0 h1).set; rw [hs2] at this; exact this
   ·injection hs2 with hs2; subst hs2; exact k1
  split
  ·exact .step k2 h0 h1
  ·exact (Bd.refl k2).mono (by omega)
end
def costR (r : ARow) : Nat := (r.ct - r.cf) + (r.mt - r.mf) + if 0 ≤ r.src then 3 else 0
theorem Jtlp {most : Int} {b : List Instr} {mc : List Mach} {r : ARow} {s : CS} (h : s.set.length ≤ s.largest) (hr : RowOk b mc r) : Bd most mc.length (costR r) s (rowC most b mc r s) := by
 unfold rowC costR
 have hl1 : ((b.take r.ct).drop r.cf).length = r.ct - r.cf := by have := hr.hc; simp; omega
 have hl2 : ((mc.take r.mt).drop r.mf).length = r.mt - r.mf := by have := hr.hm; simp; omega
 have b1 := Jt86 (most := most) (m := mc.length) (at_ := r.mf) (by omega) (by have := hr.hm; omega) (l := (b.take r.ct).drop r.cf) h
 rw [hl1] at b1
 rw [Nat.add_assoc]
 refine b1.then fun s1 hs1 => ?_
 have k1 := b1.set
 rw [hs1] at k1
 have b2 := Jtia (most := most) (m := mc.length) (k := r.mf) (l := (mc.take r.mt).drop r.mf) (s := s1) (by have := hr.hm; rw [hl2]; omega) k1
 rw [hl2] at b2
 refine b2.then fun s2 hs2 => ?_
 have k2 := b2.set
 rw [hs2] at k2
 unfold lastC
 split
 ·rename_i h0
  obtain ⟨q1, q2, q3⟩ := hr.hs h0
  split
  ·exact Jtet k2 q2 (by omega)
  ·exact (Bd.refl k2).mono (by omega)
 ·exact (Bd.refl k2).mono (by omega)
def costRs (rs : List ARow) : Nat := (rs.map costR).sum
theorem Jtm0 {most : Int} {b : List Instr} {mc : List Mach} : ∀ {rs : List ARow} {s : CS}, s.set.length ≤ s.largest → (∀ r ∈ rs, RowOk b mc r) → Bd most mc.length (costRs rs) s (rowsC most b mc rs s) := by
 intro rs
 induction rs with
 | nil => intro s h _; exact .refl h
 | cons r rs ih =>
  intro s h hr
  have b1 := Jtlp (most := most) h (hr r (by simp))
  have e : costRs (r :: rs) = costR r + costRs rs := by simp [costRs]
  rw [e]
  refine b1.then fun s1 hs1 => ih ?_ fun r hr' => hr r (by simp [hr'])
  have := b1.set
  rw [hs1] at this; exact this
theorem Jtm7 {most : Int} {b : Block} {m : MBlock} {rs : List ARow} {s : CS} (h : s.set.length ≤ s.largest) (hr : ∀ r ∈ rs, RowOk b.code m.code r) : Bd most m.code.length (costRs rs + 1) s (runC most b m rs s) := by
 unfold runC
 have b1 := Jtm0 (most := most) h hr
 refine b1.then fun s1 hs1 => ?_
 have k1 := b1.set
 rw [hs1] at k1
 split
 ·exact (Bd.refl k1).mono (by omega)
 ·exact .use k1 (by omega) (by omega)
theorem Jt89 (a b : List ARow) : costRs (a ++ b) = costRs a + costRs b := by simp [costRs]
theorem Jt4u {code : List Instr} {mach : List Mach} : ∀ (f i k : Nat) (rows : List ARow), i ≤ code.length → k ≤ mach.length → costRs rows ≤ i + 3 * k →
  costRs (alignS code mach f i k rows).1 ≤ code.length + 3 * mach.length := by
 intro f
 induction f with
 | zero => intro i k rows hi hk h; simp [alignS, costRs]
 | succ f ih =>
  intro i k rows hi hk h
  have h1 := Jtn7 (f := isCopy) hi
  have h2 := Jtn7 (f := isMove) hk
  have h3 := Jtn6 isCopy code i
  have h4 := Jtn6 isMove mach k
  simp only [alignS]
  split
  ·rename_i hc
   rw [Jt89]
   simp only [costRs, List.map_cons, List.map_nil, List.sum_cons, List.sum_nil, costR] at h ⊢
   rw [if_neg (by omega)]
   omega
  ·split
   ·rename_i x y hx hy
    have hx' := (List.getElem?_eq_some_iff.1 hx).1
    have hy' := (List.getElem?_eq_some_iff.1 hy).1
    split
    ·refine ih _ _ _ hx' hy' ?_
     rw [Jt89]
     simp only [costRs, List.map_cons, List.map_nil, List.sum_cons, List.sum_nil, costR] at h ⊢
     rw [if_pos (by omega)]
     omega
    ·simp [costRs]
   ·simp [costRs]
theorem Jt4x (code : List Instr) (mach : List Mach) : costRs (alignZ code mach).1 ≤ code.length + 3 * mach.length := Jt4u _ 0 0 [] (Nat.zero_le _) (Nat.zero_le _) (by simp [costRs])
theorem Jt7f (b : Block) (m : MBlock) (l : List Pair) (most : Int) (hl : (makeP l).length ≤ l.length) : (checkZ b m l most).steps ≤ (3 * m.code.length + b.code.length + 1) * ((checkZ b m l most).largest + 1) ∧ l.length ≤ (checkZ b m l most).largest ∧
  (checkZ b m l most).out.length ≤ (checkZ b m l most).largest ∧ ((checkZ b m l most).err = 0 → ((checkZ b m l most).largest : Int) ≤ most) ∧ 0 ≤ (checkZ b m l most).at_ ∧ (checkZ b m l most).at_ ≤ m.code.length := by
 obtain ⟨a1, a2, a3⟩ := Jt4y b.code m.code
 have hc := Jt4x b.code m.code
 unfold checkZ
 split
 ·exact ⟨Nat.zero_le _, Nat.le_refl _, Nat.zero_le _, fun h => by simp at h, by simp, by simp⟩
 ·rename_i h1
  by_cases h2 : (if (alignZ b.code m.code).2.2 = 0 ∧ termsZ b.term m.term = false then 20 else (alignZ b.code m.code).2.2) ≠ 0
  ·simp only [if_pos h2]
   exact ⟨Nat.zero_le _, Nat.le_refl _, Nat.zero_le _, fun h => absurd h h2, by simp, by simpa using a3⟩
  ·simp only [if_neg h2]
   have hb := Jtm7 (most := most) (b := b) (m := m) (rs := (alignZ b.code m.code).1) (s := ⟨makeP l, 0, l.length⟩) hl a1
   generalize runC most b m (alignZ b.code m.code).1 ⟨makeP l, 0, l.length⟩ = r at hb
   obtain ⟨t, e⟩ := r
   obtain ⟨k1, k2, k3, k4, k5⟩ := hb
   simp only at k1 k2 k3 k4 k5 ⊢
   refine ⟨?_, k2, ?_, fun h => ?_, ?_, ?_⟩
   ·have : (costRs (alignZ b.code m.code).1 + 1) * (t.largest + 1) ≤ (3 * m.code.length + b.code.length + 1) * (t.largest + 1) := Nat.mul_le_mul_right _ (by omega)
    omega
   ·split
    ·exact k3
    ·simp
   ·cases e with
    | none => exact k4 rfl (by omega)
    | some e => exact absurd h (k5 e rfl).1
   ·cases e with
    | none => simp [runE]
    | some e => exact (k5 e rfl).2.1
   ·cases e with
    | none => simp [runE]
    | some e => exact (k5 e rfl).2.2
def smallZ (b : Block) (m : MBlock) (regs slots : Int) : Prop :=
 ¬ (60 : Int) < (b.code.length : Int) ∧ ¬ (200 : Int) < (m.code.length : Int) ∧ ¬ 20 < regs ∧ ¬ 20 < slots ∧ ¬ 30 < b.term.to ∧ ¬ 30 < b.term.els ∧ ¬ 30 < m.term.to ∧ ¬ 30 < m.term.els ∧ ¬ b.term.to < 0 ∧ ¬ b.term.els < 0
instance (b : Block) (m : MBlock) (regs slots : Int) : Decidable (smallZ b m regs slots) := by unfold smallZ; infer_instance
section
end
section
end
section
end
section
end
def okC (r : CR) : Prop := ∀ e, r.2 = some e → e.1 ≠ 0
theorem okC.then {r : CR} {f : CS → CR} (h : okC r) (hf : ∀ s, okC (f s)) : okC (thenC r f) := by
 obtain ⟨s, e⟩ := r
 cases e with
 | none => exact hf s
 | some e => exact h
structure Inv14 (V L : List Int) (most : Int) (code : List Instr) (mcode : List Mach) (rows : List ARow) (T : CR) (x : Nat × CR) : Prop where
 le : x.1 ≤ rows.length
 eq : thenC x.2 (rowsC most code mcode (rows.drop x.1)) = T
 ok : okC x.2
 room : x.2.2 = none → Room V L x.2.1 (1 + needRs (rows.drop x.1))
section
end
section
end
theorem Jtm1 {V L : List Int} {most : Int} {b : List Instr} {m : List Mach} (hv : VLOk V L b m) : ∀ {rs : List ARow} {s : CS} {n : Nat}, Room V L s (n + needRs rs) → (∀ r ∈ rs, RowOk b m r) → Room V L (rowsC most b m rs s).1 n := by
 intro rs
 induction rs with
 | nil => intro s n h _; simpa [needRs, rowsC] using h
 | cons r rs ih =>
  intro s n h hr
  rw [Jtie] at h
  have hro := hr r (by simp)
  have hl1 : ((m.take r.mt).drop r.mf).length = r.mt - r.mf := by have := hro.hm; simp; omega
  have hl2 : ((b.take r.ct).drop r.cf).length = r.ct - r.cf := by have := hro.hc; simp; omega
  have h1 := Jtlq (n := n + needRs rs) (most := most) (r := r) (h.mono (by rw [hl1, hl2]; unfold needR; omega)) hv
  simp only [rowsC]
  generalize rowC most b m r s = q at h1
  obtain ⟨s1, e⟩ := q
  cases e with
  | some e => rw [Jtpy]; exact h1.mono (by omega)
  | none => rw [Jtpx]; exact ih h1 fun r hr' => hr r (by simp [hr'])
theorem Jtm9 {V L : List Int} {most : Int} {b : Block} {m : MBlock} (hv : VLOk V L b.code m.code) {rs : List ARow} {s : CS} {n : Nat} (h : Room V L s (n + 1 + needRs rs)) (hr : ∀ r ∈ rs, RowOk b.code m.code r) : Room V L (runC most b m rs s).1 n := by
 unfold runC
 have h1 := Jtm1 (most := most) hv h hr
 generalize rowsC most b.code m.code rs s = q at h1
 obtain ⟨s1, e⟩ := q
 cases e with
 | some e => rw [Jtpy]; exact h1.mono (by omega)
 | none =>
  rw [Jtpx]
  split
  ·exact h1.mono (by omega)
  ·exact h1.use _ _ _
theorem Jt7h {V L : List Int} {b : Block} {m : MBlock} {l : List Pair} {most : Int} (hl : ∀ q ∈ l, q.v ∈ V ∧ q.l ∈ L) (hv : VLOk V L b.code m.code) (few : V.length * L.length < 100000) (hl0 : l.length < 100000)
  (hb0 : b.code.length ≤ 1000) (hm0 : m.code.length ≤ 1000) : (checkZ b m l most).largest < 100000 ∧ ∀ q ∈ (checkZ b m l most).out, q.v ∈ V ∧ q.l ∈ L := by
 obtain ⟨a1, a2, a3⟩ := Jt4y b.code m.code
 unfold checkZ
 split
 ·exact ⟨hl0, fun q hq => by simp at hq⟩
 ·by_cases h2 : (if (alignZ b.code m.code).2.2 = 0 ∧ termsZ b.term m.term = false then 20 else (alignZ b.code m.code).2.2) ≠ 0
  ·simp only [if_pos h2]; exact ⟨hl0, fun q hq => by simp at hq⟩
  ·simp only [if_neg h2]
   have hover : Over V L (makeP l) := ⟨Jtom l, fun q hq => hl q (Jthl.1 hq)⟩
   have hroom : Room V L ⟨makeP l, 0, l.length⟩ (0 + 1 + needRs (alignZ b.code m.code).1) := by
    refine ⟨hover, few, ?_, by simp only; omega⟩
    have h1 := Jtif a1
    have h2 : (alignZ b.code m.code).1.length * (3 + m.code.length + b.code.length) ≤ 1001 * 2003 := Nat.mul_le_mul (by omega) (by omega)
    simp only
    omega
   have hr := Jtm9 (most := most) hv hroom a1
   generalize runC most b m (alignZ b.code m.code).1 ⟨makeP l, 0, l.length⟩ = r at hr
   obtain ⟨t, e⟩ := r
   refine ⟨hr.lg, fun q hq => ?_⟩
   simp only at hq
   split at hq
   ·exact hr.over.mem q hq
   ·simp at hq
section
end
section
end
def Jtgn : List LT := [ltI, ltI, ltI, ltI, ltI]
def Jtgm : List LT := [.sl Jtgn, ltI, ltI, ltI, ltI]
theorem Jtf0 {r : List D} (h : HasL Jtgn r) : ∃ i : Instr, r = i.row := by
 obtain ⟨_, _, rfl, h0, h⟩ := h.cons_inv
 obtain ⟨_, _, rfl, h1, h⟩ := h.cons_inv
 obtain ⟨_, _, rfl, h2, h⟩ := h.cons_inv
 obtain ⟨_, _, rfl, h3, h⟩ := h.cons_inv
 obtain ⟨_, _, rfl, h4, h⟩ := h.cons_inv
 obtain rfl := h.nil_inv
 obtain ⟨a, rfl, _⟩ := h0.int_inv
 obtain ⟨b, rfl, _⟩ := h1.int_inv
 obtain ⟨c, rfl, _⟩ := h2.int_inv
 obtain ⟨d, rfl, _⟩ := h3.int_inv
 obtain ⟨e, rfl, _⟩ := h4.int_inv
 exact ⟨⟨a, b, c, d, e⟩, rfl⟩
theorem Jt6g {r : List D} (h : HasL Jtgm r) : ∃ b : Block, r = b.row := by
 obtain ⟨_, _, rfl, h0, h⟩ := h.cons_inv
 obtain ⟨_, _, rfl, h1, h⟩ := h.cons_inv
 obtain ⟨_, _, rfl, h2, h⟩ := h.cons_inv
 obtain ⟨_, _, rfl, h3, h⟩ := h.cons_inv
 obtain ⟨_, _, rfl, h4, h⟩ := h.cons_inv
 obtain rfl := h.nil_inv
 obtain ⟨rows, rfl, _, hr⟩ := h0.sl_inv
 obtain ⟨code, rfl⟩ := Jtm5 (fun r hr => Jtf0 hr) hr
 obtain ⟨b, rfl, _⟩ := h1.int_inv
 obtain ⟨c, rfl, _⟩ := h2.int_inv
 obtain ⟨d, rfl, _⟩ := h3.int_inv
 obtain ⟨e, rfl, _⟩ := h4.int_inv
 exact ⟨⟨code, ⟨b, c, d, e⟩⟩, rfl⟩
def ltMach : List LT := [ltI, ltI, ltI, ltI, ltI, ltI, ltI]
def Jtgo : List LT := [.sl ltMach, ltI, ltI, ltI, ltI]
theorem Jtf2 {d : D} (h : HasT ltI d) : ∃ n, d = I n ∧ okZ n := by
 obtain ⟨n, rfl, hw⟩ := h.int_inv
 refine ⟨n, rfl, ?_⟩
 simp [Lit.wf, IntKind.min, IntKind.max, IntKind.signed, IntKind.bits] at hw
 exact ⟨by omega, by omega⟩
theorem Jtgs {r : List D} (h : HasL ltMach r) : ∃ i : Mach, r = i.row ∧ okZ i.dst ∧ okZ i.src := by
 obtain ⟨_, _, rfl, h0, h⟩ := h.cons_inv
 obtain ⟨_, _, rfl, h1, h⟩ := h.cons_inv
 obtain ⟨_, _, rfl, h2, h⟩ := h.cons_inv
 obtain ⟨_, _, rfl, h3, h⟩ := h.cons_inv
 obtain ⟨_, _, rfl, h4, h⟩ := h.cons_inv
 obtain ⟨_, _, rfl, h5, h⟩ := h.cons_inv
 obtain ⟨_, _, rfl, h6, h⟩ := h.cons_inv
 obtain rfl := h.nil_inv
 obtain ⟨a, rfl, _⟩ := h0.int_inv
 obtain ⟨b, rfl, _⟩ := h1.int_inv
 obtain ⟨c, rfl, _⟩ := h2.int_inv
 obtain ⟨d, rfl, _⟩ := h3.int_inv
 obtain ⟨e, rfl, _⟩ := h4.int_inv
 obtain ⟨f, rfl, o5⟩ := Jtf2 h5
 obtain ⟨g, rfl, o6⟩ := Jtf2 h6
 exact ⟨⟨a, b, c, d, e, f, g⟩, rfl, o5, o6⟩
theorem Jth3 {rows : List (List D)} (h : ∀ r ∈ rows, HasL ltMach r) : ∃ l : List Mach, rows = l.map Mach.row ∧ ∀ x ∈ l, okZ x.dst ∧ okZ x.src := by
 induction rows with
 | nil => exact ⟨[], rfl, by simp⟩
 | cons r rows ih =>
  obtain ⟨a, rfl, ha⟩ := Jtgs (h r (by simp))
  obtain ⟨l, rfl, hb⟩ := ih fun r hr => h r (by simp [hr])
  refine ⟨a :: l, rfl, fun n hn => ?_⟩
  rcases List.mem_cons.1 hn with rfl | hn
  ·exact ha
  ·exact hb n hn
theorem Jthb {r : List D} (h : HasL Jtgo r) : ∃ b : MBlock, r = b.row ∧ okM b := by
 obtain ⟨_, _, rfl, h0, h⟩ := h.cons_inv
 obtain ⟨_, _, rfl, h1, h⟩ := h.cons_inv
 obtain ⟨_, _, rfl, h2, h⟩ := h.cons_inv
 obtain ⟨_, _, rfl, h3, h⟩ := h.cons_inv
 obtain ⟨_, _, rfl, h4, h⟩ := h.cons_inv
 obtain rfl := h.nil_inv
 obtain ⟨rows, rfl, _, hr⟩ := h0.sl_inv
 obtain ⟨code, rfl, hok⟩ := Jth3 hr
 obtain ⟨b, rfl, _⟩ := h1.int_inv
 obtain ⟨c, rfl, _⟩ := h2.int_inv
 obtain ⟨d, rfl, _⟩ := h3.int_inv
 obtain ⟨e, rfl, _⟩ := h4.int_inv
 exact ⟨⟨code, ⟨b, c, d, e⟩⟩, rfl, hok⟩
theorem Jtmy {x : Int} (h1 : 1 ≤ x) (h2 : x ≤ 17) : (shapeZ x).D = usesD x ∧ (shapeZ x).A = usesA x ∧ (shapeZ x).B = usesB x ∧ (shapeZ x).Imm = (x == 1) := by
 have : x = 1 ∨ x = 2 ∨ x = 3 ∨ x = 4 ∨ x = 5 ∨ x = 6 ∨ x = 7 ∨ x = 8 ∨ x = 9 ∨ x = 10 ∨ x = 11 ∨ x = 12 ∨ x = 13 ∨ x = 14 ∨ x = 15 ∨ x = 16 ∨ x = 17 := by omega
 rcases this with h | h | h | h | h | h | h | h | h | h | h | h | h | h | h | h | h <;> subst h <;> decide
theorem Jto1 (x : Int) : Jtnt x = decide (1 ≤ x ∧ x ≤ 17) := by
 rw [Bool.eq_iff_iff]; simp only [Jtnt, knownZ, Bool.and_eq_true, decide_eq_true_eq, bne_iff_ne, ne_eq]; omega
theorem out_eq (u : Bool) (v n : Int) : (u && (decide (v < 0) || decide (n ≤ v))) = (u && !inZ v n) := by
 cases u
 ·rfl
 ·rw [Bool.eq_iff_iff]; simp [inZ]
theorem Jtew (i : Instr) (regs : Int) : Jto9 i regs = Jtkl i regs := by
 unfold Jto9 Jtkl
 by_cases h : i.op < 1 ∨ 17 < i.op
 ·rw [if_pos h, if_pos (by rw [Jto1]; simp only [decide_eq_false_iff_not]; omega)]
 ·obtain ⟨hD, hA, hB, hI⟩ := Jtmy (x := i.op) (by omega) (by omega)
  rw [if_neg h, if_neg (by rw [Jto1]; simp only [decide_eq_false_iff_not]; omega)]
  have e1 : Jtqr (flds i regs) = !bad9 i regs := by
   simp only [Jtqr, flds, bad9, List.any_cons, List.any_nil, Field.bad, hD, hA, hB, out_eq, Bool.or_false, Bool.or_assoc]
  have e2 : blankZ (flds i regs) = !(!usesD i.op && i.d != 0 || !usesA i.op && i.a != 0 || !usesB i.op && i.b != 0) := by
   simp only [blankZ, flds, List.any_cons, List.any_nil, Field.odd, hD, hA, hB, Bool.or_false, Bool.or_assoc]
  have e3 : bad12 i = ((!usesD i.op && i.d != 0 || !usesA i.op && i.a != 0 || !usesB i.op && i.b != 0) || i.op != 1 && i.imm != 0) := rfl
  rw [e1, e2, e3, hI]
  generalize bad9 i regs = p1
  generalize (!usesD i.op && i.d != 0 || !usesA i.op && i.a != 0 || !usesB i.op && i.b != 0) = p2
  cases p1
  ·cases p2
   ·by_cases c1 : i.op = 1 <;> by_cases c2 : i.imm = 0 <;> simp [c1, c2]
   ·simp
  ·simp
theorem Jtps (t : Term) (regs blocks : Int) : Jtod t regs blocks = Jtkr t regs blocks := by
 unfold Jtod Jtkr
 by_cases h : t.kind < 1 ∨ 3 < t.kind
 ·rw [if_pos h, if_neg (by omega), if_neg (by omega), if_neg (by omega)]
 ·rw [if_neg h]
  have hk : t.kind = 1 ∨ t.kind = 2 ∨ t.kind = 3 := by omega
  have e1 : Jtqr ((fldsT t regs blocks).take 1) = !((t.kind != 1) && !inZ t.a regs) := by
   simp only [Jtqr, fldsT, List.take_succ_cons, List.take_zero, List.any_cons, List.any_nil, Field.bad, out_eq, Bool.or_false]
  have e2 : Jtqr ((fldsT t regs blocks).drop 1) = !((t.kind != 3) && !inZ t.to blocks || (t.kind == 2) && !inZ t.els blocks) := by
   simp only [Jtqr, fldsT, List.drop_succ_cons, List.drop_zero, List.any_cons, List.any_nil, Field.bad, out_eq, Bool.or_false]
  have e3 : blankZ (fldsT t regs blocks) = !((!(t.kind != 1) && t.a != 0) || (!(t.kind != 3) && t.to != 0) || (!(t.kind == 2) && t.els != 0)) := by
   simp only [blankZ, fldsT, List.any_cons, List.any_nil, Field.odd, Bool.or_false, Bool.or_assoc]
  rw [e1, e2, e3]
  rcases hk with hk | hk | hk <;> rw [hk] <;> cases inZ t.a regs <;> cases inZ t.to blocks <;> cases inZ t.els blocks <;> by_cases ca : t.a = 0 <;> by_cases ct : t.to = 0 <;> by_cases ce : t.els = 0 <;> simp [ca, ct, ce]
theorem Jt7j (f : Func) : Jto8 f = Jtkk f := by
 have e : ∀ b : Block, Jto7 b f.regs f.blocks.length = Jtkj b f.regs f.blocks.length := by
  intro b
  simp only [Jto7, Jtkj, Jtew, Jtps]
 simp only [Jto8, Jtkk, e]
section
variable {P : Program} {q : Bool} {K : ASt → Prop} {QP : AV → ASt → Prop} {dst : Option Nat} {st : ASt}
@[simp] def goCV (K : ASt → Prop) (dst : Option Nat) (st : ASt) (P : Program) (q : Bool) (QP : AV → ASt → Prop) : Option AV → Option (List AV) → Prop
 | some (.fn (.func f) xs bs), some cs => okFn P f = true ∧ AWcall P q f (xs ++ cs ++ bs) dst K QP st
 | _, _ => False
@[simp] theorem Jt1k {x : Opd} {args : List Opd} : AWio P q (.callv x args) dst K QP st ↔ goCV K dst st P q QP (evr st.env x) (evs st.env args) := by
 constructor
 ·rintro ⟨f, xs, bs, cs, h1, h2, h3, h4⟩; rw [h1, h3]; exact ⟨h2, h4⟩
 ·intro h
  unfold goCV at h
  split at h
  ·rename_i f xs bs cs h1 h3; exact ⟨f, xs, bs, cs, h1, h.1, h3, h.2⟩
  ·exact h.elim
end
def runN (n : Nat) (m : Mach) : Nat := if m.op = 18 then n + 1 else 0
def runF (l : List Mach) : Nat := l.foldl runN 0
theorem Jtmd {l : List Mach} {j : Nat} (h : j < l.length) : runF (l.take (j + 1)) = runN (runF (l.take j)) l[j] := by
 unfold runF
 rw [List.take_succ_eq_append_getElem h, List.foldl_append]
 rfl
theorem Jtmb {l : List Mach} : ∀ {j k : Nat}, j ≤ l.length → (k ≤ runF (l.take j) ↔ k ≤ j ∧ ∀ i x, j - k ≤ i → i < j → l[i]? = some x → x.op = 18) := by
 intro j
 induction j with
 | zero =>
  intro k _
  simp only [List.take_zero, runF, List.foldl_nil]
  constructor
  ·intro h; exact ⟨h, fun i x _ h2 => by omega⟩
  ·intro h; exact h.1
 | succ j ih =>
  intro k hj
  have hjl : j < l.length := by omega
  have hji : l[j]? = some l[j] := by simp [hjl]
  rw [Jtmd hjl]
  unfold runN
  by_cases h18 : l[j].op = 18
  ·rw [if_pos h18]
   cases k with
   | zero => simp only [Nat.zero_le, true_and, true_iff]; intro i x h1 h2; omega
   | succ k =>
    have := ih (k := k) (by omega)
    constructor
    ·intro h
     obtain ⟨e1, e2⟩ := this.1 (by omega)
     refine ⟨by omega, fun i x h1 h2 hx => ?_⟩
     by_cases hi : i = j
     ·subst hi; rw [hji] at hx; injection hx with hx; subst hx; exact h18
     ·exact e2 i x (by omega) (by omega) hx
    ·rintro ⟨e1, e2⟩
     have := this.2 ⟨by omega, fun i x h1 h2 hx => e2 i x (by omega) (by omega) hx⟩
     omega
  ·rw [if_neg h18]
   cases k with
   | zero => simp only [Nat.le_refl, Nat.zero_le, true_and, true_iff]; intro i x h1 h2; omega
   | succ k =>
    constructor
    ·intro h; omega
    ·rintro ⟨e1, e2⟩
     exact absurd (e2 j _ (by omega) (by omega) hji) h18
theorem Jtfo {w : List Mach} : w.length ≤ lead w ↔ ∀ x ∈ w, x.op = 18 := by
 induction w with
 | nil => simp [lead]
 | cons m w ih =>
  simp only [lead, List.length_cons, List.mem_cons, forall_eq_or_imp]
  by_cases h : m.op = 18
  ·simp only [h, beq_self_eq_true, if_true, true_and]
   rw [← ih]; omega
  ·have hb : (m.op == 18) = false := by simpa using h
   simp only [hb, Bool.false_eq_true, if_false, h, false_and, iff_false]; omega
theorem Jti2 {l : List Nat} {k : Nat} : k < mostN l ↔ ∃ x ∈ l, k < x := by
 have key : ∀ (l : List Nat) (n : Nat), k < l.foldl max n ↔ k < n ∨ ∃ x ∈ l, k < x := by
  intro l
  induction l with
  | nil => intro n; simp
  | cons x l ih =>
   intro n
   simp only [List.foldl_cons, ih, List.mem_cons, exists_eq_or_imp]
   constructor
   ·rintro (h | h)
    ·by_cases hx : k < x
     ·exact .inr (.inl hx)
     ·exact .inl (by omega)
    ·exact .inr (.inr h)
   ·rintro (h | h | h)
    ·exact .inl (by omega)
    ·exact .inl (by omega)
    ·exact .inr h
 have := key l 0
 unfold mostN
 rw [this]; simp
theorem Jtkq {w : List Mach} (hw : w.length = 65) : 64 < Jtkp w ↔ ∀ x ∈ w, x.op = 18 := by
 rw [← Jtfo]
 unfold Jtkp
 rw [Jti2]
 constructor
 ·rintro ⟨x, hx, h⟩
  rw [List.mem_map] at hx
  obtain ⟨i, hi, rfl⟩ := hx
  have h1 := Jtfp (w.drop i)
  rw [List.length_drop] at h1
  have hi0 : i = 0 := by omega
  subst hi0
  rw [List.drop_zero] at h
  omega
 ·intro h
  exact ⟨lead (w.drop 0), List.mem_map.2 ⟨0, by simp; omega, rfl⟩, by rw [List.drop_zero]; omega⟩
theorem Jtic {l : List Mach} {j : Nat} (h : j < l.length) : 64 < runF (l.take (j + 1)) ↔ (64 ≤ j ∧ 64 < Jtkp ((l.take (j + 1)).drop (j - 64))) := by
 have h1 := Jtmb (l := l) (j := j + 1) (k := 65) (by omega)
 constructor
 ·intro h2
  obtain ⟨e1, e2⟩ := h1.1 h2
  have hw : ((l.take (j + 1)).drop (j - 64)).length = 65 := by rw [List.length_drop, List.length_take]; omega
  refine ⟨by omega, (Jtkq hw).2 fun x hx => ?_⟩
  obtain ⟨i, hi⟩ := List.getElem?_of_mem hx
  rw [List.getElem?_drop, List.getElem?_take] at hi
  split at hi
  ·exact e2 _ x (by omega) (by omega) hi
  ·cases hi
 ·rintro ⟨e1, e2⟩
  have hw : ((l.take (j + 1)).drop (j - 64)).length = 65 := by rw [List.length_drop, List.length_take]; omega
  have e3 := (Jtkq hw).1 e2
  have := h1.2 ⟨by omega, fun i x k1 k2 hx => e3 x (List.mem_iff_getElem?.2 ⟨i - (j - 64), by rw [List.getElem?_drop, List.getElem?_take, if_pos (by omega), show j - 64 + (i - (j - 64)) = i by omega]; exact hx⟩)⟩
  omega
def wTotal (w : List (List Pair)) : Nat := (w.map List.length).sum
def pErr (l : List Pair) (vregs regs slots : Int) (k : Nat) : Int := match l[k]? with
 | none => 0
 | some q => if q.v < 0 ∨ vregs ≤ q.v then 9 else if rngZ q.l regs slots = false then 10 else if 0 < k ∧ (match l[k - 1]? with | some q0 => lessP q0 q | none => true) = false then 13 else 0
def pErrs (l : List Pair) (vregs regs slots : Int) : Int := Jt9v ((List.range l.length).map (pErr l vregs regs slots))
def Jt8p (w : List (List Pair)) (blocks vregs regs slots : Int) : Int := if (w.length : Int) ≠ blocks then 14 else if 1048576 < wTotal w then 6 else Jt9v (w.map fun l => pErrs l vregs regs slots)
def okW (w : List (List Pair)) : Prop := ∀ l ∈ w, ∀ q ∈ l, okZ q.l
def validZ (c : Cert) : Int := if Jtkk c.S ≠ 0 then Jtkk c.S else if Jtkn c.T ≠ 0 then Jtkn c.T else if c.S.blocks.length ≠ c.T.blocks.length ∨ c.S.args ≠ c.T.args then 14 else Jt8p c.W c.S.blocks.length c.S.regs c.T.regs c.T.slots
def fewM (f : MFunc) : Bool := decide (f.blocks.length ≤ 40) && decide (f.regs ≤ 60) && decide (f.slots ≤ 60) && f.blocks.all (fun b => decide (b.code.length ≤ 300)) && decide (mcodeN f.blocks ≤ 900)
def fewW (w : List (List Pair)) : Bool := decide (w.length ≤ 40) && w.all (fun l => decide (l.length ≤ 400))
def fewC (c : Cert) : Bool := few c.S && fewM c.T && fewW c.W
def succsZ (t : Term) : List Int := if t.kind = 1 then [t.to] else if t.kind = 2 then [t.to, t.els] else []
def initZ (q : Pair) (args : Int) : Bool := if q.v < args then decide (q.l.tmod 2 = 1) && decide (q.l.tdiv 2 = q.v) else !decide (q.l.tmod 2 = 1) || decide (args ≤ q.l.tdiv 2)
structure Rep where (err block at_ : Int) (blocks edges steps largest : Nat)
 deriving DecidableEq
def Rep.av (r : Rep) : AV := .agg [AI r.err, AI r.block, AI r.at_, AI r.blocks, AI r.edges, AI r.steps, AI r.largest]
def edgesC (w : List (List Pair)) (out : List Pair) (i : Nat) : List Int → Nat → Rep → Rep × Bool
 | [], _, r => (r, false)
 | to :: ts, k, r =>
  if (missP ((w[to.toNat]?).getD []) out).isSome = true then ({ r with edges := r.edges + 1, steps := r.steps + 1 + out.length + ((w[to.toNat]?).getD []).length, err := 22, block := i, at_ := k }, true)
  else edgesC w out i ts (k + 1) { r with edges := r.edges + 1, steps := r.steps + 1 + out.length + ((w[to.toNat]?).getD []).length }
def blockC (c : Cert) (i : Nat) (r : Rep) : Rep × Bool := match c.S.blocks[i]?, c.T.blocks[i]?, c.W[i]? with
 | some b, some m, some l =>
  if (checkZ b m l 1048576).err ≠ 0 then ({ r with blocks := r.blocks + 1, steps := r.steps + (checkZ b m l 1048576).steps, largest := max r.largest (checkZ b m l 1048576).largest, err := (checkZ b m l 1048576).err, block := i, at_ := (checkZ b m l 1048576).at_ }, true)
  else edgesC c.W (checkZ b m l 1048576).out i (succsZ b.term) 0 { r with blocks := r.blocks + 1, steps := r.steps + (checkZ b m l 1048576).steps, largest := max r.largest (checkZ b m l 1048576).largest }
 | _, _, _ => (r, true)
def Jt6o (c : Cert) : Nat → Nat → Rep → Rep
 | 0, _, r => r
 | n + 1, i, r => match blockC c i r with
  | (r, true) => r
  | (r, false) => Jt6o c n (i + 1) r
def mostW (w : List (List Pair)) : Nat := mostN (w.map List.length)
def w0 (c : Cert) : List Pair := (c.W[0]?).getD []
def rep0 (c : Cert) : Rep := ⟨0, 0, 0, 0, 0, 1 + (w0 c).length, mostW c.W⟩
def Jtli (c : Cert) : Rep := if validZ c ≠ 0 then ⟨validZ c, 0, 0, 0, 0, 0, 0⟩ else if ((w0 c).all fun q => initZ q c.S.args) = false then { rep0 c with err := 23 } else Jt6o c c.S.blocks.length 0 (rep0 c)
theorem Jthf {bs : List MBlock} (h : ∀ b ∈ bs, b.code.length ≤ 300) : mcodeN bs ≤ 300 * bs.length := by
 induction bs with
 | nil => simp [mcodeN]
 | cons b bs ih =>
  have h1 := h b (by simp)
  have h2 := ih fun b hb => h b (by simp [hb])
  simp only [mcodeN, List.map_cons, List.sum_cons, List.length_cons] at *
  omega
theorem Jtqn {w : List (List Pair)} {k : Nat} {l : List Pair} (h : w[k]? = some l) : wTotal (w.take (k + 1)) = wTotal (w.take k) + l.length := by
 rw [List.take_add_one, h]; simp [wTotal]
theorem Jtqm (w : List (List Pair)) (k : Nat) : wTotal (w.take k) ≤ wTotal w := by
 have h : wTotal (w.take k) + wTotal (w.drop k) = wTotal w := by
  unfold wTotal
  rw [← List.sum_append, ← List.map_append, List.take_append_drop]
 omega
section
theorem Jtke {P : Program} {p : Nums} (A : All P p) (f : MFunc) : Jt3x P p.ref08_Few [f.av] [] fun o _ => o = .ret (AB (fewM f)) := by
 refine A.ref08_Few.run rfl fun R hR => ?_
 (simp (maxSteps := 1000000) [Jte2, MFunc.av])
 ((first | refine Xc (fun a1 => ?_) (fun a1 => ?_) | refine Xo (fun a1 => ?_) (fun a1 => ?_)) <;> (try simp only [Xz, Xy] at a1))
 ·(simp (maxSteps := 1000000) [a1])
  have e : fewM f = false := by simp [fewM]; omega
  (first | exact hR _ _ FrA | exact hR _ _ FnA | exact hR _ _ (Xf (hq := by simp [AV.erase, AV.unview, e]; done)))
 (simp (maxSteps := 1000000) [a1])
 ((first | refine Xc (fun a2 => ?_) (fun a2 => ?_) | refine Xo (fun a2 => ?_) (fun a2 => ?_)) <;> (try simp only [Xz, Xy] at a2))
 ·(simp (maxSteps := 1000000) [a2])
  have e : fewM f = false := by simp [fewM]; omega
  (first | exact hR _ _ FrA | exact hR _ _ FnA | exact hR _ _ (Xf (hq := by simp [AV.erase, AV.unview, e]; done)))
 (simp (maxSteps := 1000000) [a2])
 ((first | refine Xc (fun a3 => ?_) (fun a3 => ?_) | refine Xo (fun a3 => ?_) (fun a3 => ?_)) <;> (try simp only [Xz, Xy] at a3))
 ·(simp (maxSteps := 1000000) [a3])
  have e : fewM f = false := by simp [fewM]; omega
  (first | exact hR _ _ FrA | exact hR _ _ FnA | exact hR _ _ (Xf (hq := by simp [AV.erase, AV.unview, e]; done)))
 (simp (maxSteps := 1000000) [a3])
 refine Jtd (fun k : Nat => ⟨[(3, AI k), (1, .ptr 0 0)], [.mem [AI f.args, AI f.regs, AI f.slots, .d (.sl (f.blocks.map MBlock.row))]]⟩)
  (fun k => k ≤ f.blocks.length ∧ ∀ b ∈ f.blocks.take k, b.code.length ≤ 300) (fun k => f.blocks.length - k) 0 (by simp) (by (exact wkA)) ?_
 rintro k ⟨hk, hz⟩ N hN
 (simp (maxSteps := 1000000) [])
 ((first | refine Xc (fun h2 => ?_) (fun h2 => ?_) | refine Xo (fun h2 => ?_) (fun h2 => ?_)) <;> (try simp only [Xz, Xy] at h2))
 ·have hkl : k < f.blocks.length := by simpa using h2
  have hb : f.blocks[k]? = some f.blocks[k] := by simp [hkl]
  have hw := Jtr1 (k := k) (by omega)
  (simp (maxSteps := 1000000) [h2, hb, MBlock.row])
  ((first | refine Xc (fun h3 => ?_) (fun h3 => ?_) | refine Xo (fun h3 => ?_) (fun h3 => ?_)) <;> (try simp only [Xz, Xy] at h3))
  ·(simp (maxSteps := 1000000) [h3])
   have e : fewM f = false := by
    have : ¬ (∀ b ∈ f.blocks, b.code.length ≤ 300) := fun h => by have := h f.blocks[k] (by simp); omega
    simp [fewM]; intro _ _ _ h; exact absurd h this
   (first | exact hR _ _ FrA | exact hR _ _ FnA | exact hR _ _ (Xf (hq := by simp [AV.erase, AV.unview, e]; done)))
  ·(simp (maxSteps := 1000000) [h3, hw])
   refine hN _ (k + 1) ⟨hkl, ?_⟩ (by (exact wkA)) (by omega)
   intro b hb'
   rw [List.take_add_one, hb, List.mem_append] at hb'
   rcases hb' with hb' | hb'
   ·exact hz b hb'
   ·simp at hb'; subst hb'; omega
 ·have hk' : k = f.blocks.length := by simp at h2; omega
  subst hk'
  (simp (maxSteps := 1000000) [])
  have hcb : mcodeN f.blocks ≤ 300 * f.blocks.length := Jthf (by rw [List.take_length] at hz; exact hz)
  (refine Jtx (Jtkd A f (by omega) (by omega)) (by rfl) (by rfl) ?_)
  (simp (maxSteps := 1000000) [])
  have e : fewM f = decide ((mcodeN f.blocks : Int) ≤ 900) := by
   rw [List.take_length] at hz
   have e1 : f.blocks.all (fun b => decide (b.code.length ≤ 300)) = true := by simpa using hz
   have e2 : decide (f.blocks.length ≤ 40) = true := by simp; omega
   have e3 : decide (f.regs ≤ 60) = true := by simp; omega
   have e4 : decide (f.slots ≤ 60) = true := by simp; omega
   simp only [fewM, e1, e2, e3, e4, Bool.true_and]
   congr 1; simp; omega
  (first | exact hR _ _ FrA | exact hR _ _ FnA | exact hR _ _ (Xf (hq := by simp [AV.erase, AV.unview, e]; done)))
theorem Jtkh {P : Program} {p : Nums} (A : All P p) (w : List (List Pair)) : Jt3x P p.ref15_Few [.d (witD w)] [] fun o _ => o = .ret (AB (fewW w)) := by
 refine A.ref15_Few.run rfl fun R hR => ?_
 (simp (maxSteps := 1000000) [Jte5, witD])
 refine Jtd (fun k : Nat => ⟨[(3, AI k), (0, .d (.sl (w.map fun l => [pairsD l])))], []⟩)
  (fun k => k ≤ w.length ∧ k ≤ 41 ∧ ∀ l ∈ w.take k, l.length ≤ 400) (fun k => w.length - k) 0 (by simp) (by (exact wkA)) ?_
 rintro k ⟨hk, hk41, hz⟩ N hN
 (simp (maxSteps := 1000000) [])
 ((first | refine Xc (fun h2 => ?_) (fun h2 => ?_) | refine Xo (fun h2 => ?_) (fun h2 => ?_)) <;> (try simp only [Xz, Xy] at h2))
 ·have hkl : k < w.length := by simpa using h2
  have hb : w[k]? = some w[k] := by simp [hkl]
  have hw := Jtr1 (k := k) (by omega)
  (simp (maxSteps := 1000000) [h2, hb])
  ((first | refine Xc (fun h3 => ?_) (fun h3 => ?_) | refine Xo (fun h3 => ?_) (fun h3 => ?_)) <;> (try simp only [Xz, Xy] at h3))
  ·(simp (maxSteps := 1000000) [h3, hb, pairsD])
   ((first | refine Xc (fun h4 => ?_) (fun h4 => ?_) | refine Xo (fun h4 => ?_) (fun h4 => ?_)) <;> (try simp only [Xz, Xy] at h4))
   ·(simp (maxSteps := 1000000) [h4])
    have e : fewW w = false := by
     simp [fewW]; intro _; exact ⟨w[k], List.getElem_mem hkl, by omega⟩
    (first | exact hR _ _ FrA | exact hR _ _ FnA | exact hR _ _ (Xf (hq := by simp [AV.erase, AV.unview, e]; done)))
   ·(simp (maxSteps := 1000000) [h4, hw])
    refine hN _ (k + 1) ⟨hkl, by omega, ?_⟩ (by (exact wkA)) (by omega)
    intro l hl
    rw [List.take_add_one, hb, List.mem_append] at hl
    rcases hl with hl | hl
    ·exact hz l hl
    ·simp at hl; subst hl; omega
  ·(simp (maxSteps := 1000000) [h3])
   have e : fewW w = false := by simp [fewW]; intro h; omega
   have e2 : 40 < (w.length : Int) := by omega
   (first | exact hR _ _ FrA | exact hR _ _ FnA | exact hR _ _ (Xf (hq := by simp [AV.erase, AV.unview, e, e2]; done)))
 ·have hk' : k = w.length := by simp at h2; omega
  subst hk'
  (simp (maxSteps := 1000000) [])
  have e : fewW w = decide ((w.length : Int) ≤ 40) := by
   rw [List.take_length] at hz
   have e1 : w.all (fun l => decide (l.length ≤ 400)) = true := by simpa using hz
   simp only [fewW, e1, Bool.and_true]
   congr 1; simp; omega
  (first | exact hR _ _ FrA | exact hR _ _ FnA | exact hR _ _ (Xf (hq := by simp [AV.erase, AV.unview, e]; done)))
theorem Jtki {P : Program} {p : Nums} (A : All P p) (c : Cert) : Jt3x P p.ref16_Few [c.av] [] fun o _ => o = .ret (AB (fewC c)) := by
 refine A.ref16_Few.run rfl fun R hR => ?_
 (simp (maxSteps := 1000000) [Jte6, Cert.av])
 (refine Jtx (Jtkc A c.S) (by rfl) (by rfl) ?_)
 (simp (maxSteps := 1000000) [])
 ((first | refine Xc (fun h1 => ?_) (fun h1 => ?_) | refine Xo (fun h1 => ?_) (fun h1 => ?_)) <;> (try simp only [Xz, Xy] at h1))
 ·(simp (maxSteps := 1000000) [h1])
  (refine Jtx (Jtke A c.T) (by rfl) (by rfl) ?_)
  (simp (maxSteps := 1000000) [])
  ((first | refine Xc (fun h2 => ?_) (fun h2 => ?_) | refine Xo (fun h2 => ?_) (fun h2 => ?_)) <;> (try simp only [Xz, Xy] at h2))
  ·(simp (maxSteps := 1000000) [h2])
   (refine Jtx (Jtkh A c.W) (by rfl) (by rfl) ?_)
   (simp (maxSteps := 1000000) [])
   (first | exact hR _ _ FrA | exact hR _ _ FnA | exact hR _ _ (Xf (hq := by simp [AV.erase, AV.unview, fewC, h1, h2]; done)))
  ·(simp (maxSteps := 1000000) [h2])
   (first | exact hR _ _ FrA | exact hR _ _ FnA | exact hR _ _ (Xf (hq := by simp [AV.erase, AV.unview, fewC, h1, h2]; done)))
 ·(simp (maxSteps := 1000000) [h1])
  (first | exact hR _ _ FrA | exact hR _ _ FnA | exact hR _ _ (Xf (hq := by simp [AV.erase, AV.unview, fewC, h1]; done)))
theorem Jtgu {P : Program} {p : Nums} (A : All P p) (f : MFunc) (h0 : f.blocks.length < 1000000000) (h1 : mcodeN f.blocks < 1000000000) : Jt3x P p.machine_Code [f.av] [] fun o _ => o = .ret (AI (mcodeN f.blocks)) := by
 refine A.machine_Code.run rfl fun R hR => ?_
 (simp (maxSteps := 1000000) [Jtda, MFunc.av])
 refine Jtd (fun k : Nat => ⟨[(9, AI k), (8, AI f.blocks.length), (7, .d (.sl (f.blocks.map MBlock.row))), (3, AI (mcodeN (f.blocks.take k)))], []⟩) (fun k => k ≤ f.blocks.length) (fun k => f.blocks.length - k) 0 (by simp) (by (exact wkA)) ?_
 intro k hk N hN
 (simp (maxSteps := 1000000) [])
 ((first | refine Xc (fun h2 => ?_) (fun h2 => ?_) | refine Xo (fun h2 => ?_) (fun h2 => ?_)) <;> (try simp only [Xz, Xy] at h2))
 ·have hkl : k < f.blocks.length := by simpa using h2
  have hb : f.blocks[k]? = some f.blocks[k] := by simp [hkl]
  have hw := Jtr1 (k := k) (by omega)
  have hs := Jthh hb
  have hle := Jthg f.blocks (k + 1)
  have hw2 := Jtr0 (a := mcodeN (f.blocks.take k)) (b := f.blocks[k].code.length) (by omega)
  rw [← hs] at hw2
  (simp (maxSteps := 1000000) [h2, List.getElem?_map, hb, MBlock.row, hw, hw2])
  exact hN _ (k + 1) hkl (by (exact wkA)) (by omega)
 ·have hk' : k = f.blocks.length := by simp at h2; omega
  subst hk'
  (simp (maxSteps := 1000000) [])
  (first | exact hR _ _ FrA | exact hR _ _ FnA | exact hR _ _ (Xf (hq := by simp [AV.erase, AV.unview, List.take_length]; done)))
theorem Jt8v {P : Program} {p : Nums} (A : All P p) (w : List (List Pair)) (h0 : w.length < 1000000000) (h1 : wTotal w < 1000000000) : Jt3x P p.edge_total [.d (witD w)] [] fun o _ => o = .ret (AI (wTotal w)) := by
 refine A.edge_total.run rfl fun R hR => ?_
 (simp (maxSteps := 1000000) [Jtcm, witD])
 refine Jtd (fun k : Nat => ⟨[(8, AI k), (7, AI w.length), (6, .d (.sl (w.map fun l => [pairsD l]))), (3, AI (wTotal (w.take k)))], []⟩) (fun k => k ≤ w.length) (fun k => w.length - k) 0 (by simp) (by (exact wkA)) ?_
 intro k hk N hN
 (simp (maxSteps := 1000000) [])
 ((first | refine Xc (fun h2 => ?_) (fun h2 => ?_) | refine Xo (fun h2 => ?_) (fun h2 => ?_)) <;> (try simp only [Xz, Xy] at h2))
 ·have hkl : k < w.length := by simpa using h2
  have hb : w[k]? = some w[k] := by simp [hkl]
  have hw := Jtr1 (k := k) (by omega)
  have hs := Jtqn hb
  have hle := Jtqm w (k + 1)
  have hw2 := Jtr0 (a := wTotal (w.take k)) (b := w[k].length) (by omega)
  rw [← hs] at hw2
  (simp (maxSteps := 1000000) [h2, hb, pairsD, hw, hw2])
  exact hN _ (k + 1) hkl (by (exact wkA)) (by omega)
 ·have hk' : k = w.length := by simp at h2; omega
  subst hk'
  (simp (maxSteps := 1000000) [])
  (first | exact hR _ _ FrA | exact hR _ _ FnA | exact hR _ _ (Xf (hq := by simp [AV.erase, AV.unview, List.take_length]; done)))
theorem Jtix {P : Program} {p : Nums} (A : All P p) (x : Int) : Jt3x P p.opcode_Machine [AI x] [] fun o _ => o = .ret (AB (knownZ x && x != 2)) := by
 refine A.opcode_Machine.run rfl fun R hR => ?_
 (simp (maxSteps := 1000000) [Jtdj])
 (refine Jtx (Jtj0 A x) (by rfl) (by rfl) ?_)
 (simp (maxSteps := 1000000) [])
 ((first | refine Xc (fun h1 => ?_) (fun h1 => ?_) | refine Xo (fun h1 => ?_) (fun h1 => ?_)) <;> (try simp only [Xz, Xy] at h1))
 ·(simp (maxSteps := 1000000) [h1])
  (first | exact hR _ _ FrA | exact hR _ _ FnA | exact hR _ _ (Xf (hq := by simp [AV.erase, AV.unview, h1, bne]; done)))
 ·(simp (maxSteps := 1000000) [h1])
  (first | exact hR _ _ FrA | exact hR _ _ FnA | exact hR _ _ (Xf (hq := by simp [AV.erase, AV.unview, h1]; done)))
end
def clearM (i : Mach) : Bool := (i.d == 0) && (i.a == 0) && (i.b == 0) && (i.imm == 0)
def clearO (i : Mach) : Bool := (i.dst == 0) && (i.src == 0)
def movZ (i : Mach) (regs slots : Int) : Int := if (i.dst.tmod 2 = 1 ∧ i.src.tmod 2 = 1) ∨ rngZ i.dst regs slots = false ∨ rngZ i.src regs slots = false then 10 else 0
def Mach.instr (i : Mach) : Instr := ⟨i.op, i.d, i.a, i.b, i.imm⟩
section
theorem Jth0 {P : Program} {p : Nums} (A : All P p) (i : Mach) (regs slots : Int) : Jt3x P p.machine_others_1 [i.av, AI regs, AI slots] [] fun o _ => o = .ret (AI (Jto9 i.instr regs)) := by
 refine A.machine_others_1.run rfl fun R hR => ?_
 (simp (maxSteps := 1000000) [Jtdh, Mach.av])
 (refine Jtx (Jtnw A i.instr regs) (by rfl) (by rfl) ?_)
 (simp (maxSteps := 1000000) [])
 (first | exact hR _ _ FrA | exact hR _ _ FnA)
theorem Jth1 {P : Program} {p : Nums} (A : All P p) (i : Mach) : Jt3x P p.machine_others_2 [i.av] [] fun o _ => o = .ret (AB (clearO i)) := by
 refine A.machine_others_2.run rfl fun R hR => ?_
 (simp (maxSteps := 1000000) [Jtdi, Mach.av])
 ((first | refine Xc (fun h1 => ?_) (fun h1 => ?_) | refine Xo (fun h1 => ?_) (fun h1 => ?_)) <;> (try simp only [Xz, Xy] at h1))
 ·(simp (maxSteps := 1000000) [h1])
  (first | exact hR _ _ FrA | exact hR _ _ FnA | exact hR _ _ (Xf (hq := by simp [AV.erase, AV.unview, clearO, h1]; done)))
 ·(simp (maxSteps := 1000000) [h1])
  (first | exact hR _ _ FrA | exact hR _ _ FnA | exact hR _ _ (Xf (hq := by simp [AV.erase, AV.unview, clearO, h1]; done)))
theorem Jtgy {P : Program} {p : Nums} (A : All P p) (i : Mach) : Jt3x P p.machine_moves_2 [i.av] [] fun o _ => o = .ret (AB (clearM i)) := by
 refine A.machine_moves_2.run rfl fun R hR => ?_
 (simp (maxSteps := 1000000) [Jtdf, Mach.av])
 ((first | refine Xc (fun h1 => ?_) (fun h1 => ?_) | refine Xo (fun h1 => ?_) (fun h1 => ?_)) <;> (try simp only [Xz, Xy] at h1))
 ·(simp (maxSteps := 1000000) [h1])
  ((first | refine Xc (fun h2 => ?_) (fun h2 => ?_) | refine Xo (fun h2 => ?_) (fun h2 => ?_)) <;> (try simp only [Xz, Xy] at h2))
  ·(simp (maxSteps := 1000000) [h2])
   ((first | refine Xc (fun h3 => ?_) (fun h3 => ?_) | refine Xo (fun h3 => ?_) (fun h3 => ?_)) <;> (try simp only [Xz, Xy] at h3))
   ·(simp (maxSteps := 1000000) [h3])
    (first | exact hR _ _ FrA | exact hR _ _ FnA | exact hR _ _ (Xf (hq := by simp [AV.erase, AV.unview, clearM, h1, h2, h3]; done)))
   ·(simp (maxSteps := 1000000) [h3])
    (first | exact hR _ _ FrA | exact hR _ _ FnA | exact hR _ _ (Xf (hq := by simp [AV.erase, AV.unview, clearM, h1, h2, h3]; done)))
  ·(simp (maxSteps := 1000000) [h2])
   (first | exact hR _ _ FrA | exact hR _ _ FnA | exact hR _ _ (Xf (hq := by simp [AV.erase, AV.unview, clearM, h1, h2]; done)))
 ·(simp (maxSteps := 1000000) [h1])
  (first | exact hR _ _ FrA | exact hR _ _ FnA | exact hR _ _ (Xf (hq := by simp [AV.erase, AV.unview, clearM, h1]; done)))
theorem Jtgx {P : Program} {p : Nums} (A : All P p) (i : Mach) (regs slots : Int) (g1 : okZ i.dst) (g2 : okZ i.src) : Jt3x P p.machine_moves_1 [i.av, AI regs, AI slots] [] fun o _ => o = .ret (AI (movZ i regs slots)) := by
 refine A.machine_moves_1.run rfl fun R hR => ?_
 (simp (maxSteps := 1000000) [Jtde, Mach.av])
 (refine Jtx (Jtgf A i.dst) (by rfl) (by rfl) ?_)
 (simp (maxSteps := 1000000) [])
 have rest : ∀ both : Bool, both = decide (i.dst.tmod 2 = 1 ∧ i.src.tmod 2 = 1) → movZ i regs slots = if both = true then 10 else if rngZ i.dst regs slots = false then 10 else if rngZ i.src regs slots = false then 10 else 0 := by
  intro both hb
  subst hb
  unfold movZ
  by_cases c1 : i.dst.tmod 2 = 1 ∧ i.src.tmod 2 = 1 <;> cases rngZ i.dst regs slots <;> cases rngZ i.src regs slots <;> simp [c1]
 ((first | refine Xc (fun h1 => ?_) (fun h1 => ?_) | refine Xo (fun h1 => ?_) (fun h1 => ?_)) <;> (try simp only [Xz, Xy] at h1))
 ·(simp (maxSteps := 1000000) [h1])
  (refine Jtx (Jtgf A i.src) (by rfl) (by rfl) ?_)
  (simp (maxSteps := 1000000) [])
  ((first | refine Xc (fun h2 => ?_) (fun h2 => ?_) | refine Xo (fun h2 => ?_) (fun h2 => ?_)) <;> (try simp only [Xz, Xy] at h2))
  ·(simp (maxSteps := 1000000) [h2])
   have e := rest true (by simp [h1, h2])
   (first | exact hR _ _ FrA | exact hR _ _ FnA | exact hR _ _ (Xf (hq := by simp [AV.erase, AV.unview, e]; done)))
  ·have b2 : (i.src.tmod 2 == 1) = false := by simp [h2]
   (simp (maxSteps := 1000000) [h2, b2])
   have e := rest false (by simp [h1, h2])
   (refine Jtx (Jtgd A i.dst regs slots g1.1 g1.2) (by rfl) (by rfl) ?_)
   (simp (maxSteps := 1000000) [])
   ((first | refine Xc (fun h3 => ?_) (fun h3 => ?_) | refine Xo (fun h3 => ?_) (fun h3 => ?_)) <;> (try simp only [Xz, Xy] at h3))
   ·(simp (maxSteps := 1000000) [h3])
    (first | exact hR _ _ FrA | exact hR _ _ FnA | exact hR _ _ (Xf (hq := by simp [AV.erase, AV.unview, e, h3]; done)))
   (simp (maxSteps := 1000000) [h3])
   (refine Jtx (Jtgd A i.src regs slots g2.1 g2.2) (by rfl) (by rfl) ?_)
   (simp (maxSteps := 1000000) [])
   ((first | refine Xc (fun h4 => ?_) (fun h4 => ?_) | refine Xo (fun h4 => ?_) (fun h4 => ?_)) <;> (try simp only [Xz, Xy] at h4))
   ·(simp (maxSteps := 1000000) [h4])
    (first | exact hR _ _ FrA | exact hR _ _ FnA | exact hR _ _ (Xf (hq := by simp [AV.erase, AV.unview, e, h3, h4]; done)))
   (simp (maxSteps := 1000000) [h4])
   (first | exact hR _ _ FrA | exact hR _ _ FnA | exact hR _ _ (Xf (hq := by simp [AV.erase, AV.unview, e, h3, h4]; done)))
 ·have b1 : (i.dst.tmod 2 == 1) = false := by simp [h1]
  (simp (maxSteps := 1000000) [h1, b1])
  have e := rest false (by simp [h1])
  (refine Jtx (Jtgd A i.dst regs slots g1.1 g1.2) (by rfl) (by rfl) ?_)
  (simp (maxSteps := 1000000) [])
  ((first | refine Xc (fun h3 => ?_) (fun h3 => ?_) | refine Xo (fun h3 => ?_) (fun h3 => ?_)) <;> (try simp only [Xz, Xy] at h3))
  ·(simp (maxSteps := 1000000) [h3])
   (first | exact hR _ _ FrA | exact hR _ _ FnA | exact hR _ _ (Xf (hq := by simp [AV.erase, AV.unview, e, h3]; done)))
  (simp (maxSteps := 1000000) [h3])
  (refine Jtx (Jtgd A i.src regs slots g2.1 g2.2) (by rfl) (by rfl) ?_)
  (simp (maxSteps := 1000000) [])
  ((first | refine Xc (fun h4 => ?_) (fun h4 => ?_) | refine Xo (fun h4 => ?_) (fun h4 => ?_)) <;> (try simp only [Xz, Xy] at h4))
  ·(simp (maxSteps := 1000000) [h4])
   (first | exact hR _ _ FrA | exact hR _ _ FnA | exact hR _ _ (Xf (hq := by simp [AV.erase, AV.unview, e, h3, h4]; done)))
  (simp (maxSteps := 1000000) [h4])
  (first | exact hR _ _ FrA | exact hR _ _ FnA | exact hR _ _ (Xf (hq := by simp [AV.erase, AV.unview, e, h3, h4]; done)))
theorem Jth2 {P : Program} {p : Nums} (A : All P p) : Jt3x P p.machine_others [] [] fun o _ => o = .ret (.agg [.fn (.func p.machine_others_1) [] [], .fn (.func p.machine_others_2) [] []]) := by
 refine A.machine_others.run rfl fun R hR => ?_
 (simp (maxSteps := 1000000) [Jtdg])
 (first | exact hR _ _ FrA | exact hR _ _ FnA)
theorem Jtgz {P : Program} {p : Nums} (A : All P p) : Jt3x P p.machine_moves [] [] fun o _ => o = .ret (.agg [.fn (.func p.machine_moves_1) [] [], .fn (.func p.machine_moves_2) [] []]) := by
 refine A.machine_moves.run rfl fun R hR => ?_
 (simp (maxSteps := 1000000) [Jtdd])
 (first | exact hR _ _ FrA | exact hR _ _ FnA)
end
def Jtoc (i : Mach) (regs slots : Int) : Int :=
 if (knownZ i.op && i.op != 2) = false then 8
 else if i.op = 18 then (if movZ i regs slots ≠ 0 then movZ i regs slots else if clearM i = false then 12 else 0)
 else (if Jto9 i.instr regs ≠ 0 then Jto9 i.instr regs else if clearO i = false then 12 else 0)
def sbErr (code : List Mach) (regs slots : Int) (k : Nat) : Int := match code[k]? with
 | none => 0
 | some x => if Jtoc x regs slots ≠ 0 then Jtoc x regs slots else if 64 < runF (code.take (k + 1)) then 15 else 0
def sbErrs (code : List Mach) (regs slots : Int) : Int := Jt9v ((List.range code.length).map (sbErr code regs slots))
def Jtoa (b : MBlock) (regs slots blocks : Int) : Int := if sbErrs b.code regs slots ≠ 0 then sbErrs b.code regs slots else Jtod b.term regs blocks
def Jtob (f : MFunc) : Int :=
 if f.args < 0 ∨ f.slots < f.args then 10 else if f.regs < 0 then 9 else if 1048576 < f.slots ∨ 1048576 < f.regs then 6 else if f.blocks.length = 0 then 14 else if 1048576 < f.blocks.length ∨ 1048576 < mcodeN f.blocks then 6
 else Jt9v (f.blocks.map fun b => Jtoa b f.regs f.slots f.blocks.length)
theorem Jtmc (l : List Mach) : ∀ k, k ≤ l.length → runF (l.take k) ≤ k := by
 intro k
 induction k with
 | zero => intro _; simp [runF]
 | succ k ih =>
  intro h
  rw [Jtmd (by omega)]
  have := ih (by omega)
  unfold runN; split <;> omega
section
theorem Jtgv {P : Program} {p : Nums} (A : All P p) (i : Mach) (regs slots : Int) (g1 : okZ i.dst) (g2 : okZ i.src) : Jt3x P p.machine_Instr [i.av, AI regs, AI slots] [] fun o _ => o = .ret (AI (Jtoc i regs slots)) := by
 refine A.machine_Instr.run rfl fun R hR => ?_
 obtain ⟨T, hT⟩ : ∃ T, T = Jtoc i regs slots := ⟨_, rfl⟩
 rw [← hT] at hR
 unfold Jtoc at hT
 have c := Jtix A i.op
 obtain ⟨km, hkm⟩ : ∃ b, b = (knownZ i.op && i.op != 2) := ⟨_, rfl⟩
 rw [← hkm] at c hT
 (simp (maxSteps := 1000000) [Jtdb, Mach.av])
 (refine Jtx c (by rfl) (by rfl) ?_)
 (simp (maxSteps := 1000000) [])
 ((first | refine Xc (fun h1 => ?_) (fun h1 => ?_) | refine Xo (fun h1 => ?_) (fun h1 => ?_)) <;> (try simp only [Xz, Xy] at h1))
 ·(simp (maxSteps := 1000000) [h1])
  rw [if_pos h1] at hT
  (first | exact hR _ _ FrA | exact hR _ _ FnA | exact hR _ _ (Xf (hq := by simp [AV.erase, AV.unview, hT]; done)))
 rw [if_neg (by simp [h1])] at hT
 (simp (maxSteps := 1000000) [h1])
 (refine Jtx (Jth2 A) (by rfl) (by rfl) ?_)
 (simp (maxSteps := 1000000) [])
 ((first | refine Xc (fun h2 => ?_) (fun h2 => ?_) | refine Xo (fun h2 => ?_) (fun h2 => ?_)) <;> (try simp only [Xz, Xy] at h2))
 ·rw [if_pos h2] at hT
  (simp (maxSteps := 1000000) [])
  (refine Jtx (Jtgz A) (by rfl) (by rfl) ?_)
  (simp (maxSteps := 1000000) [])
  refine ⟨A.machine_moves_1.ok, ?_⟩
  (refine Jtx (Jtgx A i regs slots g1 g2) (by rfl) (by rfl) ?_)
  (simp (maxSteps := 1000000) [])
  ((first | refine Xc (fun h3 => ?_) (fun h3 => ?_) | refine Xo (fun h3 => ?_) (fun h3 => ?_)) <;> (try simp only [Xz, Xy] at h3))
  ·rw [if_pos h3] at hT
   (simp (maxSteps := 1000000) [h3])
   (first | exact hR _ _ FrA | exact hR _ _ FnA | exact hR _ _ (Xf (hq := by simp [AV.erase, AV.unview, hT]; done)))
  rw [if_neg (by simpa using h3)] at hT
  (simp (maxSteps := 1000000) [h3])
  refine ⟨A.machine_moves_2.ok, ?_⟩
  (refine Jtx (Jtgy A i) (by rfl) (by rfl) ?_)
  (simp (maxSteps := 1000000) [])
  ((first | refine Xc (fun h4 => ?_) (fun h4 => ?_) | refine Xo (fun h4 => ?_) (fun h4 => ?_)) <;> (try simp only [Xz, Xy] at h4))
  ·rw [if_pos h4] at hT
   (simp (maxSteps := 1000000) [h4])
   (first | exact hR _ _ FrA | exact hR _ _ FnA | exact hR _ _ (Xf (hq := by simp [AV.erase, AV.unview, hT]; done)))
  rw [if_neg (by simp [h4])] at hT
  (simp (maxSteps := 1000000) [h4])
  (first | exact hR _ _ FrA | exact hR _ _ FnA | exact hR _ _ (Xf (hq := by simp [AV.erase, AV.unview, hT]; done)))
 ·rw [if_neg h2] at hT
  (simp (maxSteps := 1000000) [])
  refine ⟨A.machine_others_1.ok, ?_⟩
  (refine Jtx (Jth0 A i regs slots) (by rfl) (by rfl) ?_)
  (simp (maxSteps := 1000000) [])
  ((first | refine Xc (fun h3 => ?_) (fun h3 => ?_) | refine Xo (fun h3 => ?_) (fun h3 => ?_)) <;> (try simp only [Xz, Xy] at h3))
  ·rw [if_pos h3] at hT
   (simp (maxSteps := 1000000) [h3])
   (first | exact hR _ _ FrA | exact hR _ _ FnA | exact hR _ _ (Xf (hq := by simp [AV.erase, AV.unview, hT]; done)))
  rw [if_neg (by simpa using h3)] at hT
  (simp (maxSteps := 1000000) [h3])
  refine ⟨A.machine_others_2.ok, ?_⟩
  (refine Jtx (Jth1 A i) (by rfl) (by rfl) ?_)
  (simp (maxSteps := 1000000) [])
  ((first | refine Xc (fun h4 => ?_) (fun h4 => ?_) | refine Xo (fun h4 => ?_) (fun h4 => ?_)) <;> (try simp only [Xz, Xy] at h4))
  ·rw [if_pos h4] at hT
   (simp (maxSteps := 1000000) [h4])
   (first | exact hR _ _ FrA | exact hR _ _ FnA | exact hR _ _ (Xf (hq := by simp [AV.erase, AV.unview, hT]; done)))
  rw [if_neg (by simp [h4])] at hT
  (simp (maxSteps := 1000000) [h4])
  (first | exact hR _ _ FrA | exact hR _ _ FnA | exact hR _ _ (Xf (hq := by simp [AV.erase, AV.unview, hT]; done)))
theorem Jtgw {P : Program} {p : Nums} (A : All P p) (f : MFunc) (b : MBlock) (h0 : b.code.length < 1000000000) (hok : okM b) : Jt3x P p.machine_block [f.av, b.av] [] fun o _ => o = .ret (AI (Jtoa b f.regs f.slots f.blocks.length)) := by
 refine A.machine_block.run rfl fun R hR => ?_
 (simp (maxSteps := 1000000) [Jtdc, MBlock.av, MFunc.av])
 refine Jtd (fun k : Nat => ⟨[(12, AI k), (11, AI b.code.length), (10, .d (.sl (b.code.map Mach.row))), (5, AI (runF (b.code.take k))), (2, .ptr 0 0), (3, .ptr 1 0)], [.mem [AI f.args, AI f.regs, AI f.slots, .d (.sl (f.blocks.map MBlock.row))], .mem [.d (.sl (b.code.map Mach.row)), AI b.term.kind, AI b.term.a, AI b.term.to, AI b.term.els]]⟩)
  (fun k => k ≤ b.code.length ∧ ∀ e ∈ ((List.range b.code.length).map (sbErr b.code f.regs f.slots)).take k, e = 0) (fun k => b.code.length - k) 0 (by simp) (by (exact wkA)) ?_
 rintro k ⟨hk, hz⟩ N hN
 (simp (maxSteps := 1000000) [])
 ((first | refine Xc (fun h2 => ?_) (fun h2 => ?_) | refine Xo (fun h2 => ?_) (fun h2 => ?_)) <;> (try simp only [Xz, Xy] at h2))
 ·have hkl : k < b.code.length := by simpa using h2
  have hb : b.code[k]? = some b.code[k] := by simp [hkl]
  have hr : (List.range b.code.length)[k]? = some k := by simp [hkl]
  have hw := Jtr1 (k := k) (by omega)
  have hle := Jtmc b.code k (by omega)
  have hw2 := Jtr1 (k := runF (b.code.take k)) (by omega)
  have hsu := Jtmd hkl
  obtain ⟨g1, g2⟩ := hok _ (List.getElem_mem hkl)
  (simp (maxSteps := 1000000) [h2, hb, Mach.row])
  (refine Jtx (Jtgv A b.code[k] f.regs f.slots g1 g2) (by rfl) (by rfl) ?_)
  (simp (maxSteps := 1000000) [])
  ((first | refine Xc (fun h3 => ?_) (fun h3 => ?_) | refine Xo (fun h3 => ?_) (fun h3 => ?_)) <;> (try simp only [Xz, Xy] at h3))
  ·(simp (maxSteps := 1000000) [h3])
   have e1 : sbErr b.code f.regs f.slots k = Jtoc b.code[k] f.regs f.slots := by unfold sbErr; rw [hb]; simp only; rw [if_pos h3]
   have e2 : sbErrs b.code f.regs f.slots = Jtoc b.code[k] f.regs f.slots := by rw [← e1]; exact Jt9y hz (by simp [hkl]) (by rw [e1]; exact h3)
   (first | exact hR _ _ FrA | exact hR _ _ FnA | exact hR _ _ (Xf (hq := by simp [AV.erase, AV.unview, Jtoa, e2, h3]; done)))
  ·(simp (maxSteps := 1000000) [h3, hw2])
   have e1 : sbErr b.code f.regs f.slots k = if 64 < runF (b.code.take (k + 1)) then 15 else 0 := by unfold sbErr; rw [hb]; simp only; rw [if_neg (by simpa using h3)]
   ((first | refine Xc (fun h4 => ?_) (fun h4 => ?_) | refine Xo (fun h4 => ?_) (fun h4 => ?_)) <;> (try simp only [Xz, Xy] at h4))
   ·have hrn : runF (b.code.take (k + 1)) = 0 := by rw [hsu]; unfold runN; rw [if_neg (by simpa using h4)]
    rw [hrn] at e1
    (simp (maxSteps := 1000000) [h4, hw])
    exact hN _ (k + 1) ⟨hkl, take_zero hz hr (by rw [e1]; rfl)⟩ (by rw [hrn]; (exact wkA)) (by omega)
   ·have hrn : runF (b.code.take (k + 1)) = runF (b.code.take k) + 1 := by rw [hsu]; unfold runN; rw [if_pos (by simpa using h4)]
    (simp (maxSteps := 1000000) [h4])
    ((first | refine Xc (fun h5 => ?_) (fun h5 => ?_) | refine Xo (fun h5 => ?_) (fun h5 => ?_)) <;> (try simp only [Xz, Xy] at h5))
    ·(simp (maxSteps := 1000000) [h5])
     rw [if_pos (by omega)] at e1
     have e2 : sbErrs b.code f.regs f.slots = 15 := by rw [← e1]; exact Jt9y hz (by simp [hkl]) (by rw [e1]; decide)
     (first | exact hR _ _ FrA | exact hR _ _ FnA | exact hR _ _ (Xf (hq := by simp [AV.erase, AV.unview, Jtoa, e2]; done)))
    ·(simp (maxSteps := 1000000) [h5, hw])
     rw [if_neg (by omega)] at e1
     exact hN _ (k + 1) ⟨hkl, take_zero hz hr e1⟩ (by rw [hrn]; (exact wkA)) (by omega)
 ·have hk' : k = b.code.length := by simp at h2; omega
  subst hk'
  have hfe : sbErrs b.code f.regs f.slots = 0 := Jt9w (by rw [List.take_of_length_le (by simp)] at hz; exact hz)
  (simp (maxSteps := 1000000) [])
  (refine Jtx (Jtny A b.term f.regs f.blocks.length) (by rfl) (by rfl) ?_)
  (simp (maxSteps := 1000000) [])
  (first | exact hR _ _ FrA | exact hR _ _ FnA | exact hR _ _ (Xf (hq := by simp [AV.erase, AV.unview, Jtoa, hfe]; done)))
theorem Jtgt {P : Program} {p : Nums} (A : All P p) (f : MFunc) (h0 : f.blocks.length < 1000000000) (h1 : mcodeN f.blocks < 1000000000) (hok : ∀ b ∈ f.blocks, okM b) : Jt3x P p.machine_Check [f.av] [] fun o _ => o = .ret (AI (Jtob f)) := by
 refine A.machine_Check.run rfl fun R hR => ?_
 (simp (maxSteps := 1000000) [Jtd9, MFunc.av])
 ((first | refine Xc (fun a1 => ?_) (fun a1 => ?_) | refine Xo (fun a1 => ?_) (fun a1 => ?_)) <;> (try simp only [Xz, Xy] at a1))
 ·(simp (maxSteps := 1000000) [a1])
  have e : Jtob f = 10 := by unfold Jtob; repeat (first | rw [if_pos (by omega)] | rw [if_neg (by omega)])
  (first | exact hR _ _ FrA | exact hR _ _ FnA | exact hR _ _ (Xf (hq := by simp [AV.erase, AV.unview, e]; done)))
 (simp (maxSteps := 1000000) [a1])
 ((first | refine Xc (fun a2 => ?_) (fun a2 => ?_) | refine Xo (fun a2 => ?_) (fun a2 => ?_)) <;> (try simp only [Xz, Xy] at a2))
 ·(simp (maxSteps := 1000000) [a2])
  have e : Jtob f = 10 := by unfold Jtob; repeat (first | rw [if_pos (by omega)] | rw [if_neg (by omega)])
  (first | exact hR _ _ FrA | exact hR _ _ FnA | exact hR _ _ (Xf (hq := by simp [AV.erase, AV.unview, e]; done)))
 (simp (maxSteps := 1000000) [a2])
 ((first | refine Xc (fun a3 => ?_) (fun a3 => ?_) | refine Xo (fun a3 => ?_) (fun a3 => ?_)) <;> (try simp only [Xz, Xy] at a3))
 ·(simp (maxSteps := 1000000) [a3])
  have e : Jtob f = 9 := by unfold Jtob; repeat (first | rw [if_pos (by omega)] | rw [if_neg (by omega)])
  (first | exact hR _ _ FrA | exact hR _ _ FnA | exact hR _ _ (Xf (hq := by simp [AV.erase, AV.unview, e]; done)))
 (simp (maxSteps := 1000000) [a3])
 ((first | refine Xc (fun a4 => ?_) (fun a4 => ?_) | refine Xo (fun a4 => ?_) (fun a4 => ?_)) <;> (try simp only [Xz, Xy] at a4))
 ·(simp (maxSteps := 1000000) [a4])
  have e : Jtob f = 6 := by unfold Jtob; repeat (first | rw [if_pos (by omega)] | rw [if_neg (by omega)])
  (first | exact hR _ _ FrA | exact hR _ _ FnA | exact hR _ _ (Xf (hq := by simp [AV.erase, AV.unview, e]; done)))
 (simp (maxSteps := 1000000) [a4])
 ((first | refine Xc (fun a5 => ?_) (fun a5 => ?_) | refine Xo (fun a5 => ?_) (fun a5 => ?_)) <;> (try simp only [Xz, Xy] at a5))
 ·(simp (maxSteps := 1000000) [a5])
  have e : Jtob f = 6 := by unfold Jtob; repeat (first | rw [if_pos (by omega)] | rw [if_neg (by omega)])
  (first | exact hR _ _ FrA | exact hR _ _ FnA | exact hR _ _ (Xf (hq := by simp [AV.erase, AV.unview, e]; done)))
 (simp (maxSteps := 1000000) [a5])
 ((first | refine Xc (fun a6 => ?_) (fun a6 => ?_) | refine Xo (fun a6 => ?_) (fun a6 => ?_)) <;> (try simp only [Xz, Xy] at a6))
 ·(simp (maxSteps := 1000000) [a6])
  have e : Jtob f = 14 := by unfold Jtob; repeat (first | rw [if_pos (by omega)] | rw [if_neg (by omega)])
  (first | exact hR _ _ FrA | exact hR _ _ FnA | exact hR _ _ (Xf (hq := by simp [AV.erase, AV.unview, e]; done)))
 (simp (maxSteps := 1000000) [a6])
 ((first | refine Xc (fun a7 => ?_) (fun a7 => ?_) | refine Xo (fun a7 => ?_) (fun a7 => ?_)) <;> (try simp only [Xz, Xy] at a7))
 ·(simp (maxSteps := 1000000) [a7])
  have e : Jtob f = 6 := by unfold Jtob; repeat (first | rw [if_pos (by omega)] | rw [if_neg (by omega)])
  (first | exact hR _ _ FrA | exact hR _ _ FnA | exact hR _ _ (Xf (hq := by simp [AV.erase, AV.unview, e]; done)))
 (simp (maxSteps := 1000000) [a7])
 (refine Jtx (Jtgu A f h0 h1) (by rfl) (by rfl) ?_)
 (simp (maxSteps := 1000000) [])
 ((first | refine Xc (fun a8 => ?_) (fun a8 => ?_) | refine Xo (fun a8 => ?_) (fun a8 => ?_)) <;> (try simp only [Xz, Xy] at a8))
 ·(simp (maxSteps := 1000000) [a8])
  have e : Jtob f = 6 := by unfold Jtob; repeat (first | rw [if_pos (by omega)] | rw [if_neg (by omega)])
  (first | exact hR _ _ FrA | exact hR _ _ FnA | exact hR _ _ (Xf (hq := by simp [AV.erase, AV.unview, e]; done)))
 (simp (maxSteps := 1000000) [a8])
 have e : Jtob f = Jt9v (f.blocks.map fun b => Jtoa b f.regs f.slots f.blocks.length) := by
  unfold Jtob; repeat (first | rw [if_pos (by omega)] | rw [if_neg (by omega)])
 refine Jtd (fun k : Nat => ⟨[(48, AI k), (47, AI f.blocks.length), (46, .d (.sl (f.blocks.map MBlock.row))), (1, .ptr 0 0)], [.mem [AI f.args, AI f.regs, AI f.slots, .d (.sl (f.blocks.map MBlock.row))]]⟩)
  (fun k => k ≤ f.blocks.length ∧ ∀ e ∈ (f.blocks.map fun b => Jtoa b f.regs f.slots f.blocks.length).take k, e = 0) (fun k => f.blocks.length - k) 0 (by simp) (by (exact wkA)) ?_
 rintro k ⟨hk, hz⟩ N hN
 (simp (maxSteps := 1000000) [])
 ((first | refine Xc (fun h2 => ?_) (fun h2 => ?_) | refine Xo (fun h2 => ?_) (fun h2 => ?_)) <;> (try simp only [Xz, Xy] at h2))
 ·have hkl : k < f.blocks.length := by simpa using h2
  have hb : f.blocks[k]? = some f.blocks[k] := by simp [hkl]
  have hw := Jtr1 (k := k) (by omega)
  have hbl : f.blocks[k].code.length < 1000000000 := by
   have h3 := Jthh hb
   have h4 := Jthg f.blocks (k + 1)
   omega
  (simp (maxSteps := 1000000) [h2, hb, MBlock.row])
  (refine Jtx (Jtgw A f f.blocks[k] hbl (hok _ (List.getElem_mem hkl))) (by rfl) (by rfl) ?_)
  (simp (maxSteps := 1000000) [])
  ((first | refine Xc (fun h3 => ?_) (fun h3 => ?_) | refine Xo (fun h3 => ?_) (fun h3 => ?_)) <;> (try simp only [Xz, Xy] at h3))
  ·(simp (maxSteps := 1000000) [h3])
   have e2 : Jt9v (f.blocks.map fun b => Jtoa b f.regs f.slots f.blocks.length) = Jtoa f.blocks[k] f.regs f.slots f.blocks.length := Jt9y hz (by simp [hkl]) h3
   (first | exact hR _ _ FrA | exact hR _ _ FnA | exact hR _ _ (Xf (hq := by simp [AV.erase, AV.unview, e, e2]; done)))
  ·(simp (maxSteps := 1000000) [h3, hw])
   exact hN _ (k + 1) ⟨hkl, take_zero hz hb (by simpa using h3)⟩ (by (exact wkA)) (by omega)
 ·have hk' : k = f.blocks.length := by simp at h2; omega
  subst hk'
  have hfe : Jt9v (f.blocks.map fun b => Jtoa b f.regs f.slots f.blocks.length) = 0 := Jt9w (by rw [List.take_of_length_le (by simp)] at hz; exact hz)
  (simp (maxSteps := 1000000) [])
  (first | exact hR _ _ FrA | exact hR _ _ FnA | exact hR _ _ (Xf (hq := by simp [AV.erase, AV.unview, e, hfe]; done)))
end
theorem Jtj4 {l : List Pair} {vregs regs slots : Int} {k : Nat} (hz : ∀ e ∈ ((List.range l.length).map (pErr l vregs regs slots)).take k, e = 0) (hk : k < l.length) (h : pErr l vregs regs slots k ≠ 0) : pErrs l vregs regs slots = pErr l vregs regs slots k :=
 Jt9y hz (by simp [hk]) h
theorem ibeq (a b : Int) : (a == b) = decide (a = b) := by rw [Bool.eq_iff_iff]; simp
def entA (w : List Pair) (args : Int) : AV := .tup [((w.find? fun q => !initZ q args).getD ⟨0, 0⟩).av, AI (if (w.all fun q => initZ q args) = true then 0 else 23)]
def impA (out w : List Pair) : AV := .tup [((missP w out).getD ⟨0, 0⟩).av, AI (if (missP w out).isSome = true then 22 else 0)]
theorem ent_at {w : List Pair} {args : Int} {k : Nat} (h : k < w.length) (h1 : ∀ q ∈ w.take k, initZ q args = true) (h2 : initZ w[k] args = false) : w.find? (fun q => !initZ q args) = some w[k] ∧ (w.all fun q => initZ q args) = false := by
 constructor
 ·have e : w = w.take k ++ w[k] :: w.drop (k + 1) := by rw [List.getElem_cons_drop, List.take_append_drop]
  have e1 : (w.take k).find? (fun q => !initZ q args) = none := by
   rw [List.find?_eq_none]; intro q hq; simp [h1 q hq]
  have e2 : (w[k] :: w.drop (k + 1)).find? (fun q => !initZ q args) = some w[k] := by
   rw [List.find?_cons_of_pos (by simp [h2])]
  have e3 := congrArg (List.find? fun q => !initZ q args) e
  rw [List.find?_append, e1, e2] at e3
  exact e3
 ·rw [← Bool.not_eq_true, List.all_eq_true]
  intro h'
  have := h' w[k] (List.getElem_mem h)
  rw [h2] at this; cases this
section
theorem Jtnx {P : Program} {p : Nums} (A : All P p) (t : Term) : Jt3x P p.source_Successors [t.av] [] fun o _ => o = .ret (.d (.sl ((succsZ t).map fun x => [I x]))) := by
 refine A.source_Successors.run rfl fun R hR => ?_
 (simp (maxSteps := 1000000) [Jtec, Term.av])
 ((first | refine Xc (fun h1 => ?_) (fun h1 => ?_) | refine Xo (fun h1 => ?_) (fun h1 => ?_)) <;> (try simp only [Xz, Xy] at h1))
 ·(simp (maxSteps := 1000000) [h1])
  (first | exact hR _ _ FrA | exact hR _ _ FnA | exact hR _ _ (Xf (hq := by simp [AV.erase, AV.unview, succsZ, h1]; done)))
 (simp (maxSteps := 1000000) [h1])
 ((first | refine Xc (fun h2 => ?_) (fun h2 => ?_) | refine Xo (fun h2 => ?_) (fun h2 => ?_)) <;> (try simp only [Xz, Xy] at h2))
 ·(simp (maxSteps := 1000000) [h2])
  (first | exact hR _ _ FrA | exact hR _ _ FnA | exact hR _ _ (Xf (hq := by simp [AV.erase, AV.unview, succsZ, h1, h2]; done)))
 (simp (maxSteps := 1000000) [h2])
 exact hR _ _ (Jt42 .nils (.d (.sl ((succsZ t).map fun x => [I x]))) [] rfl (by simp only [succsZ, if_neg h1, if_neg h2, List.map_nil]; (exact wkA)) rfl)
theorem Jt8s {P : Program} {p : Nums} (A : All P p) (q : Pair) (args : Int) (h0 : 0 ≤ q.l) (h1 : q.l ≤ 9223372036854775807) (h2 : 0 ≤ q.v) (h3 : q.v ≤ 1000000000000000) : Jt3x P p.edge_Initial [q.av, AI args] [] fun o _ => o = .ret (AB (initZ q args)) := by
 have em : q.l.tmod 2 = q.l % 2 := Int.tmod_eq_emod_of_nonneg h0
 have ed : q.l.tdiv 2 = q.l / 2 := Int.tdiv_eq_ediv_of_nonneg h0
 refine A.edge_Initial.run rfl fun R hR => ?_
 (simp (maxSteps := 1000000) [Jtcj, Pair.av])
 ((first | refine Xc (fun h4 => ?_) (fun h4 => ?_) | refine Xo (fun h4 => ?_) (fun h4 => ?_)) <;> (try simp only [Xz, Xy] at h4))
 ·(simp (maxSteps := 1000000) [h4])
  (refine Jtx (Jtgh A q.v (by omega) (by omega)) (by rfl) (by rfl) ?_)
  (simp (maxSteps := 1000000) [])
  have e : initZ q args = decide (q.l = 2 * q.v + 1) := by
   unfold initZ; rw [if_pos h4, em, ed, Bool.eq_iff_iff]; simp; omega
  (first | exact hR _ _ FrA | exact hR _ _ FnA | exact hR _ _ (Xf (hq := by simp [AV.erase, AV.unview, e, ibeq]; done)))
 ·(simp (maxSteps := 1000000) [h4])
  (refine Jtx (Jtgf A q.l) (by rfl) (by rfl) ?_)
  (simp (maxSteps := 1000000) [])
  ((first | refine Xc (fun h5 => ?_) (fun h5 => ?_) | refine Xo (fun h5 => ?_) (fun h5 => ?_)) <;> (try simp only [Xz, Xy] at h5))
  ·(simp (maxSteps := 1000000) [h5])
   have e : initZ q args = true := by unfold initZ; rw [if_neg h4]; simp [h5]
   (first | exact hR _ _ FrA | exact hR _ _ FnA | exact hR _ _ (Xf (hq := by simp [AV.erase, AV.unview, e]; done)))
  ·(simp (maxSteps := 1000000) [h5])
   (refine Jtx (Jtge A q.l (by omega) (by omega)) (by rfl) (by rfl) ?_)
   (simp (maxSteps := 1000000) [])
   have e : initZ q args = decide (args ≤ q.l.tdiv 2) := by unfold initZ; rw [if_neg h4]; simp [h5]
   (first | exact hR _ _ FrA | exact hR _ _ FnA | exact hR _ _ (Xf (hq := by simp [AV.erase, AV.unview, e]; done)))
theorem Jt8q {P : Program} {p : Nums} (A : All P p) (w : List Pair) (args : Int) (h0 : w.length < 1000000) (hw : ∀ q ∈ w, 0 ≤ q.l ∧ q.l ≤ 9223372036854775807 ∧ 0 ≤ q.v ∧ q.v ≤ 1000000000000000) : Jt3x P p.edge_Entry [.d (pairsD w), AI args] [] fun o _ => o = .ret (entA w args) := by
 refine A.edge_Entry.run rfl fun R hR => ?_
 (simp (maxSteps := 1000000) [Jtch, pairsD])
 refine Jtd (fun k : Nat => ⟨[(10, AI k), (9, AI w.length), (8, .d (.sl (w.map Pair.row))), (5, AI 0), (4, .ptr 0 0), (1, AI args)], [.mem [AI 0, AI 0]]⟩) (fun k => k ≤ w.length ∧ ∀ q ∈ w.take k, initZ q args = true) (fun k => w.length - k) 0 (by simp) (by (exact wkA)) ?_
 rintro k ⟨hk, hz⟩ N hN
 (simp (maxSteps := 1000000) [])
 ((first | refine Xc (fun h2 => ?_) (fun h2 => ?_) | refine Xo (fun h2 => ?_) (fun h2 => ?_)) <;> (try simp only [Xz, Xy] at h2))
 ·have hkl : k < w.length := by simpa using h2
  have hb : w[k]? = some w[k] := by simp
  have hw1 := Jtr1 (k := k) (by omega)
  obtain ⟨g1, g2, g3, g4⟩ := hw w[k] (List.getElem_mem hkl)
  (simp (maxSteps := 1000000) [h2, hb, Pair.row])
  (refine Jtx (Jt8s A w[k] args g1 g2 g3 g4) (by rfl) (by rfl) ?_)
  (simp (maxSteps := 1000000) [])
  ((first | refine Xc (fun h3 => ?_) (fun h3 => ?_) | refine Xo (fun h3 => ?_) (fun h3 => ?_)) <;> (try simp only [Xz, Xy] at h3))
  ·(simp (maxSteps := 1000000) [h3])
   obtain ⟨e1, e2⟩ := ent_at hkl hz (by simpa using h3)
   (first | exact hR _ _ FrA | exact hR _ _ FnA | exact hR _ _ (Xf (hq := by simp [AV.erase, AV.unview, entA, e1, e2, Pair.av]; done)))
  ·(simp (maxSteps := 1000000) [h3, hw1])
   refine hN _ (k + 1) ⟨hkl, ?_⟩ (by (exact wkA)) (by omega)
   intro q hq
   rw [List.take_add_one, hb] at hq
   rcases List.mem_append.1 hq with hq | hq
   ·exact hz q hq
   ·simp at hq; subst hq; simpa using h3
 ·have hk' : k = w.length := by simp at h2; omega
  subst hk'
  rw [List.take_length] at hz
  have e1 : (w.all fun q => initZ q args) = true := by rw [List.all_eq_true]; exact hz
  have e2 : w.find? (fun q => !initZ q args) = none := by rw [List.find?_eq_none]; intro q hq; simp [hz q hq]
  (simp (maxSteps := 1000000) [])
  (first | exact hR _ _ FrA | exact hR _ _ FnA | exact hR _ _ (Xf (hq := by simp [AV.erase, AV.unview, entA, e1, e2, Pair.av]; done)))
theorem Jt8r {P : Program} {p : Nums} (A : All P p) (out w : List Pair) (h0 : out.length < 1000000) (h1 : w.length < 1000000) (ho : Srt out) (hw : Srt w) : Jt3x P p.edge_Implies [.d (pairsD out), .d (pairsD w)] [] fun o _ => o = .ret (impA out w) := by
 refine A.edge_Implies.run rfl fun R hR => ?_
 (simp (maxSteps := 1000000) [Jtci])
 (refine Jtx (Jtjm A w out h1 h0 hw ho) (by rfl) (by rfl) ?_)
 (simp (maxSteps := 1000000) [missA, Pair.av])
 ((first | refine Xc (fun h2 => ?_) (fun h2 => ?_) | refine Xo (fun h2 => ?_) (fun h2 => ?_)) <;> (try simp only [Xz, Xy] at h2))
 ·(simp (maxSteps := 1000000) [h2])
  (first | exact hR _ _ FrA | exact hR _ _ FnA | exact hR _ _ (Xf (hq := by simp [AV.erase, AV.unview, impA, h2, Pair.av]; done)))
 ·(simp (maxSteps := 1000000) [h2])
  have e : missP w out = none := by simpa using h2
  (first | exact hR _ _ FrA | exact hR _ _ FnA | exact hR _ _ (Xf (hq := by simp [AV.erase, AV.unview, impA, e, Pair.av]; done)))
end
theorem Jtj3 {l : List Pair} {k : Nat} (hk : k < l.length) (vregs regs slots : Int) : pErr l vregs regs slots k = if l[k].v < 0 ∨ vregs ≤ l[k].v then 9 else if rngZ l[k].l regs slots = false then 10 else if 0 < k ∧ (match l[k - 1]? with | some q0 => lessP q0 l[k] | none => true) = false then 13 else 0 := by
 unfold pErr; rw [List.getElem?_eq_getElem hk]; try rfl
section
theorem Jt8u {P : Program} {p : Nums} (A : All P p) (l : List Pair) (vregs regs slots : Int) (h0 : l.length < 1000000000) (hok : ∀ q ∈ l, okZ q.l) : Jt3x P p.edge_pairs [.d (pairsD l), AI vregs, AI regs, AI slots] [] fun o _ => o = .ret (AI (pErrs l vregs regs slots)) := by
 refine A.edge_pairs.run rfl fun R hR => ?_
 (simp (maxSteps := 1000000) [Jtcl, pairsD])
 refine Jtd (fun k : Nat => ⟨[(13, AI k), (12, AI l.length), (11, .d (.sl (l.map Pair.row))), (0, .d (.sl (l.map Pair.row))), (1, AI vregs), (2, AI regs), (3, AI slots)], []⟩)
  (fun k => k ≤ l.length ∧ ∀ e ∈ ((List.range l.length).map (pErr l vregs regs slots)).take k, e = 0) (fun k => l.length - k) 0 (by simp) (by (exact wkA)) ?_
 rintro k ⟨hk, hz⟩ N hN
 (simp (maxSteps := 1000000) [])
 ((first | refine Xc (fun h2 => ?_) (fun h2 => ?_) | refine Xo (fun h2 => ?_) (fun h2 => ?_)) <;> (try simp only [Xz, Xy] at h2))
 ·have hkl : k < l.length := by simpa using h2
  have hb : l[k]? = some l[k] := by simp
  have hr : (List.range l.length)[k]? = some k := by simp [hkl]
  have hw := Jtr1 (k := k) (by omega)
  obtain ⟨g1, g2⟩ := hok _ (List.getElem_mem hkl)
  have hv := Jtj3 hkl vregs regs slots
  (simp (maxSteps := 1000000) [h2, hb, Pair.row])
  ((first | refine Xc (fun h3 => ?_) (fun h3 => ?_) | refine Xo (fun h3 => ?_) (fun h3 => ?_)) <;> (try simp only [Xz, Xy] at h3))
  ·(simp (maxSteps := 1000000) [h3])
   rw [if_pos (.inl h3)] at hv
   have e := Jtj4 hz hkl (by rw [hv]; decide)
   (first | exact hR _ _ FrA | exact hR _ _ FnA | exact hR _ _ (Xf (hq := by simp [AV.erase, AV.unview, e, hv]; done)))
  (simp (maxSteps := 1000000) [h3])
  ((first | refine Xc (fun h4 => ?_) (fun h4 => ?_) | refine Xo (fun h4 => ?_) (fun h4 => ?_)) <;> (try simp only [Xz, Xy] at h4))
  ·(simp (maxSteps := 1000000) [h4])
   rw [if_pos (.inr h4)] at hv
   have e := Jtj4 hz hkl (by rw [hv]; decide)
   (first | exact hR _ _ FrA | exact hR _ _ FnA | exact hR _ _ (Xf (hq := by simp [AV.erase, AV.unview, e, hv]; done)))
  (simp (maxSteps := 1000000) [h4])
  rw [if_neg (by omega)] at hv
  (refine Jtx (Jtgd A l[k].l regs slots g1 g2) (by rfl) (by rfl) ?_)
  (simp (maxSteps := 1000000) [])
  ((first | refine Xc (fun h5 => ?_) (fun h5 => ?_) | refine Xo (fun h5 => ?_) (fun h5 => ?_)) <;> (try simp only [Xz, Xy] at h5))
  ·(simp (maxSteps := 1000000) [h5])
   rw [if_pos h5] at hv
   have e := Jtj4 hz hkl (by rw [hv]; decide)
   (first | exact hR _ _ FrA | exact hR _ _ FnA | exact hR _ _ (Xf (hq := by simp [AV.erase, AV.unview, e, hv]; done)))
  rw [if_neg (by simp [h5])] at hv
  (simp (maxSteps := 1000000) [h5])
  ((first | refine Xc (fun h6 => ?_) (fun h6 => ?_) | refine Xo (fun h6 => ?_) (fun h6 => ?_)) <;> (try simp only [Xz, Xy] at h6))
  ·obtain ⟨lo, hlo⟩ : ∃ x, x = k - 1 := ⟨_, rfl⟩
   have hk0 : 0 < k := by omega
   have hll : lo < l.length := by omega
   have hbl : l[lo]? = some l[lo] := by simp
   have hwl : IntKind.i64.wrap ((k : Int) - 1) = (lo : Int) := by
    have e1 : (k : Int) - 1 = (lo : Int) := by omega
    rw [e1]; exact wrapN (by omega)
   rw [← hlo, hbl] at hv
   simp only [hk0, true_and] at hv
   have c := Jtjj A l[lo] l[k]
   obtain ⟨b, hbe⟩ : ∃ b, b = lessP l[lo] l[k] := ⟨_, rfl⟩
   rw [← hbe] at hv c
   (simp (maxSteps := 1000000) [h6, hwl, hbl, Pair.row])
   (refine Jtx c (by rfl) (by rfl) ?_)
   (simp (maxSteps := 1000000) [])
   ((first | refine Xc (fun h7 => ?_) (fun h7 => ?_) | refine Xo (fun h7 => ?_) (fun h7 => ?_)) <;> (try simp only [Xz, Xy] at h7))
   ·(simp (maxSteps := 1000000) [h7])
    rw [if_pos h7] at hv
    have e := Jtj4 hz hkl (by rw [hv]; decide)
    (first | exact hR _ _ FrA | exact hR _ _ FnA | exact hR _ _ (Xf (hq := by simp [AV.erase, AV.unview, e, hv]; done)))
   ·rw [if_neg (by simp [h7])] at hv
    (simp (maxSteps := 1000000) [h7, hw])
    exact hN _ (k + 1) ⟨hkl, take_zero hz hr hv⟩ (by (exact wkA)) (by omega)
  ·rw [if_neg (by omega)] at hv
   (simp (maxSteps := 1000000) [h6, hw])
   exact hN _ (k + 1) ⟨hkl, take_zero hz hr hv⟩ (by (exact wkA)) (by omega)
 ·have hk' : k = l.length := by simp at h2; omega
  subst hk'
  have hfe : pErrs l vregs regs slots = 0 := Jt9w (by rw [List.take_of_length_le (by simp)] at hz; exact hz)
  (simp (maxSteps := 1000000) [])
  (first | exact hR _ _ FrA | exact hR _ _ FnA | exact hR _ _ (Xf (hq := by simp [AV.erase, AV.unview, hfe]; done)))
theorem Jt8t {P : Program} {p : Nums} (A : All P p) (w : List (List Pair)) (blocks vregs regs slots : Int) (h0 : w.length < 1000000000) (h1 : wTotal w < 1000000000) (hl : ∀ l ∈ w, l.length < 1000000000) (hok : okW w) :
  Jt3x P p.edge_Valid [.d (witD w), AI blocks, AI vregs, AI regs, AI slots] [] fun o _ => o = .ret (AI (Jt8p w blocks vregs regs slots)) := by
 refine A.edge_Valid.run rfl fun R hR => ?_
 (simp (maxSteps := 1000000) [Jtck, witD])
 ((first | refine Xc (fun a1 => ?_) (fun a1 => ?_) | refine Xo (fun a1 => ?_) (fun a1 => ?_)) <;> (try simp only [Xz, Xy] at a1))
 ·(simp (maxSteps := 1000000) [a1])
  have e : Jt8p w blocks vregs regs slots = 14 := by unfold Jt8p; rw [if_pos a1]
  (first | exact hR _ _ FrA | exact hR _ _ FnA | exact hR _ _ (Xf (hq := by simp [AV.erase, AV.unview, e]; done)))
 (simp (maxSteps := 1000000) [a1])
 (refine Jtx (Jt8v A w h0 h1) (by rfl) (by rfl) ?_)
 (simp (maxSteps := 1000000) [])
 ((first | refine Xc (fun a2 => ?_) (fun a2 => ?_) | refine Xo (fun a2 => ?_) (fun a2 => ?_)) <;> (try simp only [Xz, Xy] at a2))
 ·(simp (maxSteps := 1000000) [a2])
  have e : Jt8p w blocks vregs regs slots = 6 := by unfold Jt8p; rw [if_neg (fun h => h a1), if_pos (by omega)]
  (first | exact hR _ _ FrA | exact hR _ _ FnA | exact hR _ _ (Xf (hq := by simp [AV.erase, AV.unview, e]; done)))
 (simp (maxSteps := 1000000) [a2])
 have e : Jt8p w blocks vregs regs slots = Jt9v (w.map fun l => pErrs l vregs regs slots) := by unfold Jt8p; rw [if_neg (fun h => h a1), if_neg (by omega)]
 refine Jtd (fun k : Nat => ⟨[(25, AI k), (24, AI w.length), (23, .d (.sl (w.map fun l => [pairsD l]))), (2, AI vregs), (3, AI regs), (4, AI slots)], []⟩)
  (fun k => k ≤ w.length ∧ ∀ e ∈ (w.map fun l => pErrs l vregs regs slots).take k, e = 0) (fun k => w.length - k) 0 (by simp) (by (exact wkA)) ?_
 rintro k ⟨hk, hz⟩ N hN
 (simp (maxSteps := 1000000) [])
 ((first | refine Xc (fun h2 => ?_) (fun h2 => ?_) | refine Xo (fun h2 => ?_) (fun h2 => ?_)) <;> (try simp only [Xz, Xy] at h2))
 ·have hkl : k < w.length := by simpa using h2
  have hb : w[k]? = some w[k] := by simp
  have hw := Jtr1 (k := k) (by omega)
  (simp (maxSteps := 1000000) [h2, hb])
  (refine Jtx (Jt8u A w[k] vregs regs slots (hl _ (List.getElem_mem hkl)) (hok _ (List.getElem_mem hkl))) (by rfl) (by rfl) ?_)
  (simp (maxSteps := 1000000) [])
  ((first | refine Xc (fun h3 => ?_) (fun h3 => ?_) | refine Xo (fun h3 => ?_) (fun h3 => ?_)) <;> (try simp only [Xz, Xy] at h3))
  ·(simp (maxSteps := 1000000) [h3])
   have e2 : Jt9v (w.map fun l => pErrs l vregs regs slots) = pErrs w[k] vregs regs slots := Jt9y hz (by simp [hkl]) h3
   (first | exact hR _ _ FrA | exact hR _ _ FnA | exact hR _ _ (Xf (hq := by simp [AV.erase, AV.unview, e, e2]; done)))
  ·(simp (maxSteps := 1000000) [h3, hw])
   exact hN _ (k + 1) ⟨hkl, take_zero hz hb (by simpa using h3)⟩ (by (exact wkA)) (by omega)
 ·have hk' : k = w.length := by simp at h2; omega
  subst hk'
  have hfe : Jt9v (w.map fun l => pErrs l vregs regs slots) = 0 := Jt9w (by rw [List.take_of_length_le (by simp)] at hz; exact hz)
  (simp (maxSteps := 1000000) [])
  (first | exact hR _ _ FrA | exact hR _ _ FnA | exact hR _ _ (Xf (hq := by simp [AV.erase, AV.unview, e, hfe]; done)))
end
theorem Jthu (i : Mach) (regs slots : Int) : Jtoc i regs slots = Jtko i regs slots := by
 have hk : (knownZ i.op && i.op != 2) = false ↔ (i.op < 1 ∨ 18 < i.op ∨ i.op = 2) := by
  rw [← Bool.not_eq_true, Bool.and_eq_true]
  simp only [knownZ, decide_eq_true_eq, bne_iff_ne, ne_eq]
  omega
 unfold Jtoc Jtko
 by_cases h1 : i.op < 1 ∨ 18 < i.op ∨ i.op = 2
 ·rw [if_pos (hk.2 h1), if_pos h1]
 ·rw [if_neg (fun h => h1 (hk.1 h)), if_neg h1]
  by_cases h2 : i.op = 18
  ·rw [if_pos h2, if_pos h2]
   have hc : clearM i = false ↔ (i.d ≠ 0 ∨ i.a ≠ 0 ∨ i.b ≠ 0 ∨ i.imm ≠ 0) := by
    rw [← Bool.not_eq_true]; unfold clearM; simp only [Bool.and_eq_true, beq_iff_eq]; omega
   by_cases hA : rngZ i.dst regs slots = false ∨ rngZ i.src regs slots = false ∨ (i.dst.tmod 2 = 1 ∧ i.src.tmod 2 = 1)
   ·have e : movZ i regs slots = 10 := by
     unfold movZ
     rw [if_pos]
     rcases hA with h | h | h
     ·exact .inr (.inl h)
     ·exact .inr (.inr h)
     ·exact .inl h
    rw [e, if_pos (by decide), if_pos hA]
   ·have e : movZ i regs slots = 0 := by
     unfold movZ
     rw [if_neg]
     rintro (h | h | h)
     ·exact hA (.inr (.inr h))
     ·exact hA (.inl h)
     ·exact hA (.inr (.inl h))
    rw [e, if_neg (by decide), if_neg hA]
    by_cases hd : clearM i = false
    ·rw [if_pos hd, if_pos (hc.1 hd)]
    ·rw [if_neg hd, if_neg (fun h => hd (hc.2 h))]
  ·rw [if_neg h2, if_neg h2, Jtew]
   have hc : clearO i = false ↔ (i.dst ≠ 0 ∨ i.src ≠ 0) := by
    rw [← Bool.not_eq_true]; unfold clearO; simp only [Bool.and_eq_true, beq_iff_eq]; omega
   show (if Jtkl i.instr regs ≠ 0 then Jtkl i.instr regs else if clearO i = false then 12 else 0) = if Jtkl i.instr regs = 0 ∧ (i.dst ≠ 0 ∨ i.src ≠ 0) then 12 else Jtkl i.instr regs
   by_cases he : Jtkl i.instr regs = 0
   ·rw [if_neg (fun h => h he)]
    by_cases hd : clearO i = false
    ·rw [if_pos hd, if_pos ⟨he, hc.1 hd⟩]
    ·rw [if_neg hd, if_neg (fun h => hd (hc.2 h.2)), he]
   ·rw [if_pos he, if_neg (fun h => he h.1)]
theorem sb_eq (code : List Mach) (regs slots : Int) (k : Nat) : sbErr code regs slots k = mErr code regs slots k := by
 unfold sbErr mErr
 cases hk : code[k]? with
 | none => rfl
 | some x =>
  have hlt := (List.getElem?_eq_some_iff.1 hk).1
  simp only [Jthu]
  by_cases h : 64 < runF (code.take (k + 1))
  ·rw [if_pos h, if_pos ((Jtic hlt).1 h)]
  ·rw [if_neg h, if_neg (fun h' => h ((Jtic hlt).2 h'))]
theorem Jthd (f : MFunc) : Jtob f = Jtkn f := by
 have e : ∀ b : MBlock, Jtoa b f.regs f.slots f.blocks.length = Jtkm b f.regs f.slots f.blocks.length := by
  intro b
  have e1 : sbErr b.code f.regs f.slots = mErr b.code f.regs f.slots := funext (sb_eq _ _ _)
  unfold Jtoa Jtkm sbErrs mErrs
  rw [e1, Jtps]
 simp only [Jtob, Jtkn, e]
structure okCert (c : Cert) : Prop where
 s0 : c.S.blocks.length < 1000000000
 s1 : codeN c.S.blocks < 1000000000
 t0 : c.T.blocks.length < 1000000000
 t1 : mcodeN c.T.blocks < 1000000000
 t2 : ∀ b ∈ c.T.blocks, okM b
 w0 : c.W.length < 1000000000
 w1 : wTotal c.W < 1000000000
 w2 : okW c.W
theorem okCert.w3 {c : Cert} (h : okCert c) : ∀ l ∈ c.W, l.length < 1000000000 := by
 intro l hl
 obtain ⟨k, hk⟩ := List.getElem?_of_mem hl
 have h1 := Jtqn hk
 have h2 := Jtqm c.W (k + 1)
 have := h.w1
 omega
section
theorem Jt7n {P : Program} {p : Nums} (A : All P p) (c : Cert) (ok : okCert c) : Jt3x P p.checker_Valid [c.av] [] fun o _ => o = .ret (AI (validZ c)) := by
 obtain ⟨T, hT⟩ : ∃ T, T = validZ c := ⟨_, rfl⟩
 refine A.checker_Valid.run rfl fun R hR => ?_
 rw [← hT] at hR
 unfold validZ at hT
 have c1 := Jtnu A c.S ok.s0 ok.s1
 have c2 := Jtgt A c.T ok.t0 ok.t1 ok.t2
 have c3 := Jt8t A c.W c.S.blocks.length c.S.regs c.T.regs c.T.slots ok.w0 ok.w1 ok.w3 ok.w2
 rw [Jt7j] at c1
 rw [Jthd] at c2
 obtain ⟨e1, he1⟩ : ∃ e, e = Jtkk c.S := ⟨_, rfl⟩
 obtain ⟨e2, he2⟩ : ∃ e, e = Jtkn c.T := ⟨_, rfl⟩
 obtain ⟨e3, he3⟩ : ∃ e, e = Jt8p c.W c.S.blocks.length c.S.regs c.T.regs c.T.slots := ⟨_, rfl⟩
 rw [← he1] at hT c1
 rw [← he2] at hT c2
 rw [← he3] at hT c3
 (simp (maxSteps := 1000000) [Jtcf, Cert.av])
 (refine Jtx c1 (by rfl) (by rfl) ?_)
 (simp (maxSteps := 1000000) [])
 ((first | refine Xc (fun h1 => ?_) (fun h1 => ?_) | refine Xo (fun h1 => ?_) (fun h1 => ?_)) <;> (try simp only [Xz, Xy] at h1))
 ·rw [if_pos h1] at hT
  (simp (maxSteps := 1000000) [h1])
  (first | exact hR _ _ FrA | exact hR _ _ FnA | exact hR _ _ (Xf (hq := by simp [AV.erase, AV.unview, hT]; done)))
 rw [if_neg (by simpa using h1)] at hT
 (simp (maxSteps := 1000000) [h1])
 (refine Jtx c2 (by rfl) (by rfl) ?_)
 (simp (maxSteps := 1000000) [])
 ((first | refine Xc (fun h2 => ?_) (fun h2 => ?_) | refine Xo (fun h2 => ?_) (fun h2 => ?_)) <;> (try simp only [Xz, Xy] at h2))
 ·rw [if_pos h2] at hT
  (simp (maxSteps := 1000000) [h2])
  (first | exact hR _ _ FrA | exact hR _ _ FnA | exact hR _ _ (Xf (hq := by simp [AV.erase, AV.unview, hT]; done)))
 rw [if_neg (by simpa using h2)] at hT
 (simp (maxSteps := 1000000) [h2])
 ((first | refine Xc (fun h3 => ?_) (fun h3 => ?_) | refine Xo (fun h3 => ?_) (fun h3 => ?_)) <;> (try simp only [Xz, Xy] at h3))
 ·rw [if_pos (.inl (by omega))] at hT
  (simp (maxSteps := 1000000) [h3])
  (first | exact hR _ _ FrA | exact hR _ _ FnA | exact hR _ _ (Xf (hq := by simp [AV.erase, AV.unview, hT]; done)))
 (simp (maxSteps := 1000000) [h3])
 ((first | refine Xc (fun h4 => ?_) (fun h4 => ?_) | refine Xo (fun h4 => ?_) (fun h4 => ?_)) <;> (try simp only [Xz, Xy] at h4))
 ·rw [if_pos (.inr h4)] at hT
  (simp (maxSteps := 1000000) [h4])
  (first | exact hR _ _ FrA | exact hR _ _ FnA | exact hR _ _ (Xf (hq := by simp [AV.erase, AV.unview, hT]; done)))
 rw [if_neg (by omega)] at hT
 (simp (maxSteps := 1000000) [h4])
 (refine Jtx c3 (by rfl) (by rfl) ?_)
 (simp (maxSteps := 1000000) [])
 (first | exact hR _ _ FrA | exact hR _ _ FnA | exact hR _ _ (Xf (hq := by simp [AV.erase, AV.unview, hT]; done)))
end
end Go.AE
