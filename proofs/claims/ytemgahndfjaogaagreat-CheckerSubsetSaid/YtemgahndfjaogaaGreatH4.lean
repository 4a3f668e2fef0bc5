/- A part of the proof: the evaluator over abstract values, its codes, the contracts of the functions. -/
import Derived.Test.YtemgahndfjaogaaGreatH3
import Derived.Shelf.SlSortCmp.NoneTotal
import Derived.Lib.ItoaNum
set_option linter.unusedVariables false
set_option linter.unusedSimpArgs false
namespace Go.AE
open Go
def lessP (a b : Pair) : Bool := if a.v = b.v then decide (a.l < b.l) else decide (a.v < b.v)
theorem Jte3 {a b : Pair} : lessP a b = true ↔ a.v < b.v ∨ (a.v = b.v ∧ a.l < b.l) := by
 unfold lessP; split <;> simp <;> omega
theorem Jte6 {a b : Pair} (h1 : lessP a b = false) (h2 : lessP b a = false) : a = b := by
 have h1 : ¬ lessP a b = true := by simp [h1]
 have h2 : ¬ lessP b a = true := by simp [h2]
 rw [Jte3] at h1 h2
 obtain ⟨a1, a2⟩ := a; obtain ⟨b1, b2⟩ := b
 simp only [Pair.mk.injEq]; simp only at h1 h2; omega
theorem Jte7 {a b c : Pair} (h1 : lessP a b = true) (h2 : lessP b c = true) : lessP a c = true := by
 rw [Jte3] at *; omega
theorem Jte4 (a : Pair) : lessP a a = false := by
 cases h : lessP a a with
 | false => rfl
 | true => rw [Jte3] at h; omega
theorem Jte2 {a b : Pair} (h1 : lessP a b = true) : lessP b a = false := by
 cases h : lessP b a with
 | false => rfl
 | true => have := Jte7 h1 h; rw [Jte4] at this; cases this
def stepA (p : Pair) (s : List Pair × Bool) (q : Pair) : List Pair × Bool :=
 let s := if s.2 = false ∧ lessP q p = false then (s.1 ++ [p], true) else s
 if q = p then s else (s.1 ++ [q], s.2)
def foldA (p : Pair) (l : List Pair) : List Pair × Bool := l.foldl (stepA p) ([], false)
def addP (l : List Pair) (p : Pair) : List Pair := if (foldA p l).2 = true then (foldA p l).1 else (foldA p l).1 ++ [p]
def makeP (l : List Pair) : List Pair := l.foldl addP []
def missP (a b : List Pair) : Option Pair := a.find? fun q => !decide (q ∈ b)
theorem Jt95 {p : Pair} {l : List Pair} {k : Nat} (h : k < l.length) : foldA p (l.take (k + 1)) = stepA p (foldA p (l.take k)) l[k] := by
 rw [foldA, foldA, List.take_add_one, List.foldl_append]; simp [h]
theorem Jtn7 (p : Pair) (s : List Pair × Bool) (q : Pair) : (stepA p s q).1.length ≤ s.1.length + 2 := by
 unfold stepA; dsimp only; split <;> split <;> simp
theorem Jt94 (p : Pair) (l : List Pair) (s : List Pair × Bool) : (l.foldl (stepA p) s).1.length ≤ s.1.length + 2 * l.length := by
 induction l generalizing s with
 | nil => simp
 | cons q l ih => have := ih (stepA p s q); have := Jtn7 p s q; simp only [List.foldl_cons, List.length_cons]; omega
theorem Jt88 {a b : Pair} (h1 : a.v = b.v) (h2 : a.l = b.l) : a = b := by cases a; cases b; simp_all
theorem Jthj (a b : Pair) : (decide (a.v = b.v) && decide (a.l = b.l)) = decide (a = b) := by
 by_cases h : a = b
 ·subst h; simp
 ·rw [decide_eq_false h]
  cases h1 : decide (a.v = b.v) <;> cases h2 : decide (a.l = b.l) <;> simp_all
  exact h (Jt88 h1 h2)
theorem Jthi (a b : Pair) : (a.v == b.v && a.l == b.l) = decide (a = b) := by
 rw [← Jthj]; rfl
def Srt (l : List Pair) : Prop := l.Pairwise fun a b => lessP a b = true
theorem Jtms {a : Pair} {l : List Pair} : Srt (a :: l) ↔ (∀ b ∈ l, lessP a b = true) ∧ Srt l := List.pairwise_cons
theorem Jtmy {l : List Pair} (h : Srt l) {i j : Nat} (hij : i < j) (hj : j < l.length) : lessP (l[i]'(by omega)) l[j] = true := List.pairwise_iff_getElem.1 h i j (by omega) hj hij
theorem Jtmr {l : List Pair} : Srt l ↔ ∀ k, (h : k + 1 < l.length) → lessP (l[k]) (l[k+1]) = true := by
 constructor
 ·intro h k hk; exact Jtmy h (by omega) hk
 ·intro h
  refine List.pairwise_iff_getElem.2 fun i j hi hj hij => ?_
  obtain ⟨n, rfl⟩ : ∃ n, j = i + 1 + n := ⟨j - (i + 1), by omega⟩
  induction n with
  | zero => exact h i hj
  | succ n ih => exact Jte7 (ih (by omega) (by omega)) (h (i + 1 + n) (by omega))
theorem Jtmv : ∀ {a b : List Pair}, Srt a → Srt b → (∀ q, q ∈ a ↔ q ∈ b) → a = b := by
 intro a
 induction a with
 | nil =>
  intro b _ _ h
  cases b with
  | nil => rfl
  | cons y b => have := (h y).2 (by simp); cases this
 | cons x a ih =>
  intro b ha hb h
  cases b with
  | nil => have := (h x).1 (by simp); cases this
  | cons y b =>
   rw [Jtms] at ha hb
   have exy : x = y := by
    have h1 := (h x).1 (by simp)
    have h2 := (h y).2 (by simp)
    rw [List.mem_cons] at h1 h2
    rcases h1 with h1 | h1
    ·exact h1
    ·rcases h2 with h2 | h2
     ·exact h2.symm
     ·have := Jte2 (hb.1 x h1); rw [ha.1 y h2] at this; cases this
   subst exy
   have : a = b := by
    refine ih ha.2 hb.2 fun q => ?_
    have hq := h q
    rw [List.mem_cons, List.mem_cons] at hq
    constructor
    ·intro hqa
     rcases hq.1 (.inr hqa) with e | e
     ·subst e; have := ha.1 q hqa; rw [Jte4] at this; cases this
     ·exact e
    ·intro hqb
     rcases hq.2 (.inr hqb) with e | e
     ·subst e; have := hb.1 q hqb; rw [Jte4] at this; cases this
     ·exact e
   rw [this]
def posP (l : List Pair) (p : Pair) : Nat := (l.takeWhile fun q => lessP q p).length
def insP (l : List Pair) (p : Pair) : List Pair := (l.takeWhile fun q => lessP q p) ++ p :: (l.dropWhile fun q => lessP q p).filter fun q => decide (q ≠ p)
theorem Jte5 {a b : Pair} (h : lessP a b = true) : a ≠ b := by rintro rfl; rw [Jte4] at h; cases h
theorem Jt96 (p : Pair) (l out : List Pair) : l.foldl (stepA p) (out, true) = (out ++ l.filter (fun q => decide (q ≠ p)), true) := by
 induction l generalizing out with
 | nil => simp
 | cons q l ih =>
  by_cases e : q = p
  ·simp [stepA, e, ih]
  ·simp [stepA, e, ih]
theorem Jt98 (p : Pair) (l out : List Pair) : l.foldl (stepA p) (out, false) = if (l.dropWhile fun q => lessP q p) = [] then (out ++ l, false) else (out ++ insP l p, true) := by
 induction l generalizing out with
 | nil => simp
 | cons q l ih =>
  cases h : lessP q p with
  | true =>
   have hne := Jte5 h
   simp only [List.foldl_cons, stepA, h, hne, if_false, and_false, ih, List.dropWhile_cons, if_true, Bool.true_eq_false, insP, List.takeWhile_cons]
   split <;> simp [List.append_assoc]
  | false =>
   simp only [List.foldl_cons, stepA, h, and_self, if_true, List.dropWhile_cons, Bool.false_eq_true, if_false, reduceCtorEq, insP, List.takeWhile_cons, List.nil_append]
   by_cases e : q = p
   ·simp [e, Jt96]
   ·simp [e, Jt96]
theorem Jt4i (l : List Pair) (p : Pair) : addP l p = insP l p := by
 unfold addP foldA
 rw [Jt98]
 split
 ·rename_i h
  simp only [List.nil_append, Bool.false_eq_true, if_false, insP, h, List.filter_nil]
  have : l.takeWhile (fun q => lessP q p) = l := by
   have e := List.takeWhile_append_dropWhile (p := fun q => lessP q p) (l := l)
   rw [h, List.append_nil] at e; exact e
  rw [this]
 ·simp
theorem Jtfe {l : List Pair} {p q : Pair} : q ∈ addP l p ↔ q = p ∨ q ∈ l := by
 rw [Jt4i, insP]
 have e := List.takeWhile_append_dropWhile (p := fun q => lessP q p) (l := l)
 have e2 : q ∈ l ↔ q ∈ l.takeWhile (fun q => lessP q p) ∨ q ∈ l.dropWhile (fun q => lessP q p) := by
  rw [← List.mem_append, e]
 simp only [List.mem_append, List.mem_cons, List.mem_filter, decide_eq_true_eq, e2]
 by_cases h : q = p <;> simp [h]
theorem Jt7r {l : List Pair} {p : Pair} (h : Srt l) : ∀ q ∈ l.dropWhile (fun q => lessP q p), lessP q p = false := by
 induction l with
 | nil => intro q hq; simp at hq
 | cons x l ih =>
  intro q hq
  rw [Jtms] at h
  cases hx : lessP x p with
  | true => rw [List.dropWhile_cons, hx, if_pos rfl] at hq; exact ih h.2 q hq
  | false =>
   rw [List.dropWhile_cons, hx, if_neg (by simp)] at hq
   rcases List.mem_cons.1 hq with rfl | hq
   ·exact hx
   ·cases hqp : lessP q p with
    | false => rfl
    | true => rw [Jte7 (h.1 q hq) hqp] at hx; cases hx
theorem Jtns {l : List Pair} {p : Pair} : ∀ q ∈ l.takeWhile (fun q => lessP q p), lessP q p = true := by
 induction l with
 | nil => intro q hq; simp at hq
 | cons x l ih =>
  intro q hq
  cases hx : lessP x p with
  | true =>
   rw [List.takeWhile_cons, hx, if_pos rfl] at hq
   rcases List.mem_cons.1 hq with rfl | hq
   ·exact hx
   ·exact ih q hq
  | false => rw [List.takeWhile_cons, hx, if_neg (by simp)] at hq; simp at hq
theorem Jtn3 {a b : List Pair} (h : a.Sublist b) (hb : Srt b) : Srt a := List.Pairwise.sublist h hb
theorem Jtmq {l : List Pair} {p : Pair} (h : Srt l) : Srt (addP l p) := by
 rw [Jt4i, insP]
 refine List.pairwise_append.2 ⟨Jtn3 (List.takeWhile_sublist _) h, Jtms.2 ⟨?_, ?_⟩, ?_⟩
 ·intro b hb
  rw [List.mem_filter, decide_eq_true_eq] at hb
  have h1 := Jt7r h b hb.1
  cases h2 : lessP p b with
  | true => rfl
  | false => exact absurd (Jte6 h2 h1).symm hb.2
 ·exact Jtn3 (List.filter_sublist.trans (List.dropWhile_sublist _)) h
 ·intro a ha b hb
  have h1 := Jtns a ha
  rcases List.mem_cons.1 hb with rfl | hb
  ·exact h1
  ·rw [List.mem_filter, decide_eq_true_eq] at hb
   have h2 := Jt7r h b hb.1
   cases h3 : lessP p b with
   | true => exact Jte7 h1 h3
   | false => exact absurd (Jte6 h3 h2).symm hb.2
theorem Jtf4 (l : List Pair) (q : Pair) : makeP (l ++ [q]) = addP (makeP l) q := by simp [makeP]
theorem Jtf3 {motive : List Pair → Prop} (h0 : motive []) (h1 : ∀ l q, motive l → motive (l ++ [q])) (l : List Pair) : motive l := by
 generalize hn : l.length = n
 induction n generalizing l with
 | zero => have : l = [] := List.length_eq_zero_iff.1 hn; subst this; exact h0
 | succ n ih =>
  have hne : l ≠ [] := by rintro rfl; simp at hn
  rw [← List.dropLast_concat_getLast hne]
  exact h1 _ _ (ih _ (by simp [hn]))
theorem Jtmz (l : List Pair) : Srt (makeP l) := by
 induction l using Jtf3 with
 | h0 => exact List.Pairwise.nil
 | h1 l q ih => rw [Jtf4]; exact Jtmq ih
theorem Jtfi {l : List Pair} {q : Pair} : q ∈ makeP l ↔ q ∈ l := by
 induction l using Jtf3 with
 | h0 => simp [makeP]
 | h1 l x ih => rw [Jtf4, Jtfe, ih]; simp [or_comm]
theorem Jtf5 {l : List Pair} (h : Srt l) : makeP l = l := Jtmv (Jtmz l) h fun q => Jtfi
theorem Jtn2 {l : List Pair} (h : Srt l) : l.Nodup := List.Pairwise.imp (fun h => Jte5 h) h
theorem Jt4j (l : List Pair) (p : Pair) : (addP l p).length ≤ l.length + 1 := by
 rw [Jt4i, insP]
 have e := congrArg List.length (List.takeWhile_append_dropWhile (p := fun q => lessP q p) (l := l))
 have e2 := List.length_filter_le (fun q => decide (q ≠ p)) (l.dropWhile fun q => lessP q p)
 simp only [List.length_append, List.length_cons] at e ⊢; omega
theorem Jtf2 (l : List Pair) : (makeP l).length ≤ l.length := by
 induction l using Jtf3 with
 | h0 => simp [makeP]
 | h1 l x ih => rw [Jtf4]; have := Jt4j (makeP l) x; simp only [List.length_append, List.length_cons, List.length_nil]; omega
section
theorem Jtj2 {P : Program} {p : Nums} (A : All P p) (a b : Pair) : Jt3o P p.ref11_Less [a.av, b.av] [] fun o _ => o = .ret (AB (lessP a b)) := by
 refine A.ref11_Less.run rfl fun R hR => ?_
 (simp (maxSteps := 1000000) [Jtca, Pair.av])
 ((first | refine Xc (fun h => ?_) (fun h => ?_) | refine Xo (fun h => ?_) (fun h => ?_)) <;> (try simp only [Xz, Xy] at h))
 ·(simp (maxSteps := 1000000) [h])
  (first | exact hR _ _ FrA | exact hR _ _ FnA | exact hR _ _ (Xf (hq := by simp [AV.erase, AV.unview, lessP, h]; done)))
 ·(simp (maxSteps := 1000000) [h])
  (first | exact hR _ _ FrA | exact hR _ _ FnA | exact hR _ _ (Xf (hq := by simp [AV.erase, AV.unview, lessP, h]; done)))
theorem Jtj1 {P : Program} {p : Nums} (A : All P p) (l : List Pair) (q : Pair) (h0 : l.length < 1000000000) : Jt3o P p.ref11_Has [.d (pairsD l), q.av] [] fun o _ => o = .ret (AB (decide (q ∈ l))) := by
 refine A.ref11_Has.run rfl fun R hR => ?_
 (simp (maxSteps := 1000000) [Jtc9, pairsD, Pair.av])
 refine Jt9 (fun k : Nat => ⟨[(5, AI k), (4, AB false), (3, .ptr 0 0), (0, .d (.sl (l.map Pair.row)))], [.mem [AI q.v, AI q.l]]⟩) (fun k => k ≤ l.length ∧ q ∉ l.take k) (fun k => l.length - k) 0 (by simp) (by (exact wkA)) ?_
 rintro k ⟨hk, hz⟩ N hN
 (simp (maxSteps := 1000000) [])
 ((first | refine Xc (fun h2 => ?_) (fun h2 => ?_) | refine Xo (fun h2 => ?_) (fun h2 => ?_)) <;> (try simp only [Xz, Xy] at h2))
 ·have hkl : k < l.length := by simpa using h2
  have hb : l[k]? = some l[k] := by simp
  have hw := Jtp7 (k := k) (by omega)
  (simp (maxSteps := 1000000) [h2, hb, Pair.row])
  ((first | refine Xc (fun h3 => ?_) (fun h3 => ?_) | refine Xo (fun h3 => ?_) (fun h3 => ?_)) <;> (try simp only [Xz, Xy] at h3))
  ·(simp (maxSteps := 1000000) [h3])
   have e : q = l[k] := by cases q; cases hq : l[k]; simp_all
   have : q ∈ l := by rw [e]; exact List.getElem_mem hkl
   (first | exact hR _ _ FrA | exact hR _ _ FnA | exact hR _ _ (Xf (hq := by simp [AV.erase, AV.unview, this]; done)))
  ·(simp (maxSteps := 1000000) [h3, hw])
   refine hN _ (k + 1) ⟨hkl, ?_⟩ (by (exact wkA)) (by omega)
   rw [List.take_add_one, hb]
   simp only [List.mem_append, not_or, hz, not_false_eq_true, true_and, Option.toList, List.mem_singleton]
   intro e; subst e; simp at h3
 ·have hk' : k = l.length := by simp at h2; omega
  subst hk'
  have : q ∉ l := by simpa using hz
  (simp (maxSteps := 1000000) [])
  (first | exact hR _ _ FrA | exact hR _ _ FnA | exact hR _ _ (Xf (hq := by simp [AV.erase, AV.unview, this]; done)))
end
section
theorem Jtj0 {P : Program} {p : Nums} (A : All P p) (l : List Pair) (q : Pair) (h0 : l.length < 1000000) : Jt3o P p.ref11_Add [.d (pairsD l), q.av] [] fun o _ => o = .ret (.d (pairsD (addP l q))) := by
 refine A.ref11_Add.run rfl fun R hR => ?_
 (simp (maxSteps := 1000000) [Jtc8, pairsD, Pair.av])
 refine Jt9 (fun k : Nat => ⟨[(7, AI k), (6, AB (foldA q (l.take k)).2), (5, .own 2 ((foldA q (l.take k)).1.map Pair.row)), (4, .nils), (3, .ptr 0 0), (0, .d (.sl (l.map Pair.row)))], [.mem [AI q.v, AI q.l]]⟩) (fun k => k ≤ l.length) (fun k => l.length - k) 0 (by simp) (by simp only [foldA, List.take_zero, List.foldl_nil, List.map_nil]; (exact wkA)) ?_
 intro k hk N hN
 have hlen := Jt94 q (l.take k) ([], false)
 obtain ⟨out, dn, hs⟩ : ∃ out dn, foldA q (l.take k) = (out, dn) := ⟨_, _, rfl⟩
 have hlen : out.length ≤ 2 * k := by
  have : (foldA q (l.take k)).1.length ≤ 0 + 2 * (l.take k).length := hlen
  rw [hs] at this; simp at this; omega
 simp only [hs]
 (simp (maxSteps := 1000000) [])
 ((first | refine Xc (fun h2 => ?_) (fun h2 => ?_) | refine Xo (fun h2 => ?_) (fun h2 => ?_)) <;> (try simp only [Xz, Xy] at h2))
 ·have hkl : k < l.length := by simpa using h2
  have hb : l[k]? = some l[k] := by simp
  have hw := Jtp7 (k := k) (by omega)
  have hsn := Jt95 (p := q) hkl
  rw [hs] at hsn
  have next : ∀ st', Wk 0 st' ⟨[(7, AI ((k + 1 : Nat) : Int)), (6, AB (stepA q (out, dn) l[k]).2), (5, .own 2 ((stepA q (out, dn) l[k]).1.map Pair.row)), (4, .nils), (3, .ptr 0 0), (0, .d (.sl (l.map Pair.row)))], [.mem [AI q.v, AI q.l]]⟩ → N st' := by
   intro st' h; rw [← hsn] at h; exact hN st' (k + 1) hkl h (by omega)
  obtain ⟨x, hx⟩ : ∃ x, x = l[k] := ⟨_, rfl⟩
  rw [← hx] at hb next
  have hrow : ∀ l : List Pair, ∀ r ∈ l.map Pair.row, r.length = 2 := fun l => Jtl2 fun x => rfl
  (simp (maxSteps := 1000000) [h2, hb, Pair.row])
  cases dn with
  | true =>
   (simp (maxSteps := 1000000) [hb, Pair.row])
   ((first | refine Xc (fun h3 => ?_) (fun h3 => ?_) | refine Xo (fun h3 => ?_) (fun h3 => ?_)) <;> (try simp only [Xz, Xy] at h3))
   ·have e : x ≠ q := by rintro rfl; simp at h3
    (simp (maxSteps := 1000000) [h3, hb, hw, Pair.row])
    (refine Jt16 (by rfl) (by rfl) (by rfl) ?_ (by decide) ?_ ?_ ?_)
    ·simp
    ·simp; omega
    ·simp; omega
    (simp (maxSteps := 1000000) [hw])
    exact next _ (by simp only [stepA, e]; simp [Pair.row]; (exact wkA))
   ·have e : x = q := by cases x; cases q; simp_all
    (simp (maxSteps := 1000000) [h3, hw])
    exact next _ (by simp only [stepA, e]; simp; (exact wkA))
  | false =>
   (simp (maxSteps := 1000000) [hb, Pair.row])
   (refine Jts (Jtj2 A x q) (by rfl) (by rfl) ?_)
   (simp (maxSteps := 1000000) [])
   by_cases hl : lessP x q = true
   ·(simp (maxSteps := 1000000) [hl, hb, hw, Pair.row])
    ((first | refine Xc (fun h3 => ?_) (fun h3 => ?_) | refine Xo (fun h3 => ?_) (fun h3 => ?_)) <;> (try simp only [Xz, Xy] at h3))
    ·have e : x ≠ q := by rintro rfl; simp at h3
     (simp (maxSteps := 1000000) [h3, hb, hw, Pair.row])
     (refine Jt16 (by rfl) (by rfl) (by rfl) ?_ (by decide) ?_ ?_ ?_)
     ·simp
     ·simp; omega
     ·simp; omega
     (simp (maxSteps := 1000000) [hw])
     exact next _ (by simp only [stepA, hl, e]; simp [Pair.row]; (exact wkA))
    ·have e : x = q := by cases x; cases q; simp_all
     (simp (maxSteps := 1000000) [h3, hw])
     subst e
     exact next _ (by simp only [stepA, hl]; simp; (exact wkA))
   ·have hl : lessP x q = false := by simpa using hl
    (simp (maxSteps := 1000000) [hl, hb, hw, Pair.row])
    (refine Jt16 (by rfl) (by rfl) (by rfl) ?_ (by decide) ?_ ?_ ?_)
    ·simp
    ·simp; omega
    ·simp; omega
    (simp (maxSteps := 1000000) [hb, hw, Pair.row])
    ((first | refine Xc (fun h3 => ?_) (fun h3 => ?_) | refine Xo (fun h3 => ?_) (fun h3 => ?_)) <;> (try simp only [Xz, Xy] at h3))
    ·have e : x ≠ q := by rintro rfl; simp at h3
     (simp (maxSteps := 1000000) [h3, hb, hw, Pair.row])
     (refine Jt16 (by rfl) (by rfl) (by rfl) ?_ (by decide) ?_ ?_ ?_)
     ·simp
     ·simp; omega
     ·simp; omega
     (simp (maxSteps := 1000000) [hw])
     exact next _ (by simp only [stepA, hl, e]; simp [Pair.row]; (exact wkA))
    ·have e : x = q := by cases x; cases q; simp_all
     (simp (maxSteps := 1000000) [h3, hw])
     subst e
     exact next _ (by simp only [stepA, hl]; simp [Pair.row]; (exact wkA))
 ·have hk' : k = l.length := by simp at h2; omega
  subst hk'
  rw [List.take_length] at hs
  cases dn with
  | true =>
   (simp (maxSteps := 1000000) [])
   (first | exact hR _ _ FrA | exact hR _ _ FnA | exact hR _ _ (Xf (hq := by simp [AV.erase, AV.unview, addP, hs, pairsD]; done)))
  | false =>
   (simp (maxSteps := 1000000) [])
   (refine Jt16 (by rfl) (by rfl) (by rfl) ?_ (by decide) ?_ ?_ ?_)
   ·simp
   ·simp; omega
   ·simp; omega
   (simp (maxSteps := 1000000) [])
   (first | exact hR _ _ FrA | exact hR _ _ FnA | exact hR _ _ (Xf (hq := by simp [AV.erase, AV.unview, addP, hs, pairsD, Pair.row]; done)))
end
def missA (a b : List Pair) : AV := .tup [((missP a b).getD ⟨0, 0⟩).av, AB (missP a b).isSome]
theorem Jtfu {a b : List Pair} {k : Nat} (h : k < a.length) (h1 : ∀ q ∈ a.take k, q ∈ b) (h2 : a[k] ∉ b) : missP a b = some a[k] := by
 unfold missP
 have e : a = a.take k ++ a[k] :: a.drop (k + 1) := by rw [List.getElem_cons_drop, List.take_append_drop]
 have e1 : (a.take k).find? (fun q => !decide (q ∈ b)) = none := by
  rw [List.find?_eq_none]; intro q hq; simp [h1 q hq]
 have e2 : (a[k] :: a.drop (k + 1)).find? (fun q => !decide (q ∈ b)) = some a[k] := by
  rw [List.find?_cons_of_pos (by simp [h2])]
 have e3 := congrArg (List.find? fun q => !decide (q ∈ b)) e
 rw [List.find?_append, e1, e2] at e3
 exact e3
theorem Jtfv {a b : List Pair} (h1 : ∀ q ∈ a, q ∈ b) : missP a b = none := by
 unfold missP; rw [List.find?_eq_none]; intro q hq; simp [h1 q hq]
theorem Jtfw {a b : List Pair} : (missP a b).isSome = false ↔ ∀ q ∈ a, q ∈ b := by
 unfold missP
 rw [← Bool.not_eq_true, List.find?_isSome]
 simp
section
theorem Jtj3 {P : Program} {p : Nums} (A : All P p) (a b : List Pair) (h0 : a.length < 1000000) (h1 : b.length < 1000000) : Jt3o P p.ref11_Missing [.d (pairsD a), .d (pairsD b)] [] fun o _ => o = .ret (missA a b) := by
 refine A.ref11_Missing.run rfl fun R hR => ?_
 (simp (maxSteps := 1000000) [Jtcb, pairsD])
 refine Jt9 (fun k : Nat => ⟨[(6, AI k), (5, AB false), (4, .ptr 0 0), (1, .d (.sl (b.map Pair.row))), (0, .d (.sl (a.map Pair.row)))], [.mem [AI 0, AI 0]]⟩) (fun k => k ≤ a.length ∧ ∀ q ∈ a.take k, q ∈ b) (fun k => a.length - k) 0 (by simp) (by (exact wkA)) ?_
 rintro k ⟨hk, hz⟩ N hN
 (simp (maxSteps := 1000000) [])
 ((first | refine Xc (fun h2 => ?_) (fun h2 => ?_) | refine Xo (fun h2 => ?_) (fun h2 => ?_)) <;> (try simp only [Xz, Xy] at h2))
 ·have hkl : k < a.length := by simpa using h2
  have hb : a[k]? = some a[k] := by simp
  have hw := Jtp7 (k := k) (by omega)
  (simp (maxSteps := 1000000) [h2, hb, Pair.row])
  (refine Jts (Jtj1 A b a[k] (by omega)) (by rfl) (by rfl) ?_)
  (simp (maxSteps := 1000000) [])
  ((first | refine Xc (fun h3 => ?_) (fun h3 => ?_) | refine Xo (fun h3 => ?_) (fun h3 => ?_)) <;> (try simp only [Xz, Xy] at h3))
  ·(simp (maxSteps := 1000000) [h3, hb, Pair.row])
   have := Jtfu hkl hz (by simpa using h3)
   (first | exact hR _ _ FrA | exact hR _ _ FnA | exact hR _ _ (Xf (hq := by simp [AV.erase, AV.unview, missA, this, Pair.av]; done)))
  ·(simp (maxSteps := 1000000) [h3, hw])
   refine hN _ (k + 1) ⟨hkl, ?_⟩ (by (exact wkA)) (by omega)
   intro q hq
   rw [List.take_add_one, hb] at hq
   rcases List.mem_append.1 hq with hq | hq
   ·exact hz q hq
   ·simp at hq; subst hq; simpa using h3
 ·have hk' : k = a.length := by simp at h2; omega
  subst hk'
  have := Jtfv (a := a) (b := b) (by simpa using hz)
  (simp (maxSteps := 1000000) [])
  (first | exact hR _ _ FrA | exact hR _ _ FnA | exact hR _ _ (Xf (hq := by simp [AV.erase, AV.unview, missA, this, Pair.av]; done)))
theorem Jtht {P : Program} {p : Nums} (A : All P p) (a b : Pair) : Jt3o P p.pairset_Less [a.av, b.av] [] fun o _ => o = .ret (AB (lessP a b)) := by
 refine A.pairset_Less.run rfl fun R hR => ?_
 (simp (maxSteps := 1000000) [Jtbs, Pair.av])
 ((first | refine Xc (fun h => ?_) (fun h => ?_) | refine Xo (fun h => ?_) (fun h => ?_)) <;> (try simp only [Xz, Xy] at h))
 ·(simp (maxSteps := 1000000) [h])
  have e : lessP a b = true := by rw [Jte3]; omega
  (first | exact hR _ _ FrA | exact hR _ _ FnA | exact hR _ _ (Xf (hq := by simp [AV.erase, AV.unview, e]; done)))
 (simp (maxSteps := 1000000) [h])
 ((first | refine Xc (fun h1 => ?_) (fun h1 => ?_) | refine Xo (fun h1 => ?_) (fun h1 => ?_)) <;> (try simp only [Xz, Xy] at h1))
 ·(simp (maxSteps := 1000000) [h1])
  (first | exact hR _ _ FrA | exact hR _ _ FnA | exact hR _ _ (Xf (hq := by simp [AV.erase, AV.unview, lessP, h1]; done)))
 ·(simp (maxSteps := 1000000) [h1])
  have e : lessP a b = false := by
   cases e : lessP a b with
   | false => rfl
   | true => rw [Jte3] at e; omega
  (first | exact hR _ _ FrA | exact hR _ _ FnA | exact hR _ _ (Xf (hq := by simp [AV.erase, AV.unview, e]; done)))
end
theorem Jtnr {α : Type} (f : α → Bool) (l : List α) : l.takeWhile f = l.take (l.takeWhile f).length := by
 have e := List.takeWhile_append_dropWhile (p := f) (l := l)
 have := congrArg (List.take (l.takeWhile f).length) e
 rw [List.take_left'] at this
 ·exact this
 ·rfl
theorem Jt7q {α : Type} (f : α → Bool) (l : List α) : l.dropWhile f = l.drop (l.takeWhile f).length := by
 have e := List.takeWhile_append_dropWhile (p := f) (l := l)
 have := congrArg (List.drop (l.takeWhile f).length) e
 rw [List.drop_left'] at this
 ·exact this
 ·rfl
theorem Jtnq {α : Type} (f : α → Bool) (l : List α) (i : Nat) (hi : i ≤ l.length) (h1 : ∀ j, j < i → (h : j < l.length) → f l[j] = true) (h2 : (h : i < l.length) → f l[i] = false) : (l.takeWhile f).length = i := by
 induction l generalizing i with
 | nil => simp at hi; simp [hi]
 | cons x l ih =>
  cases i with
  | zero => have := h2 (by simp); simp at this; simp [List.takeWhile_cons, this]
  | succ i =>
   have h0 := h1 0 (by omega) (by simp)
   simp at h0
   rw [List.takeWhile_cons, h0, if_pos rfl, List.length_cons]
   have := ih i (by simpa using hi) (fun j hj h => by have := h1 (j + 1) (by omega) (by simpa using h); simpa using this) (fun h => by have := h2 (by simpa using h); simpa using this)
   rw [this]
theorem Jtia (l : List Pair) (p : Pair) : posP l p ≤ l.length := (List.takeWhile_sublist _).length_le
theorem Jtib {l : List Pair} {p : Pair} {j : Nat} (h : j < posP l p) (hl : j < l.length) : lessP l[j] p = true := by
 have h1 : (l.takeWhile fun q => lessP q p)[j]? = some l[j] := by
  rw [Jtnr, List.getElem?_take]; simp only [posP] at h; simp [h]
 exact Jtns _ (List.mem_of_getElem? h1)
theorem Jti9 {l : List Pair} {p : Pair} (hs : Srt l) {j : Nat} (h : posP l p ≤ j) (hl : j < l.length) : lessP l[j] p = false := by
 refine Jt7r hs _ ?_
 rw [Jt7q]
 have : (l.drop (posP l p))[j - posP l p]? = some l[j] := by rw [List.getElem?_drop]; simp [Nat.add_sub_cancel' h]
 exact List.mem_of_getElem? this
theorem Jtfl {l : List Pair} {p : Pair} (hs : Srt l) : p ∈ l ↔ l[posP l p]? = some p := by
 constructor
 ·intro h
  obtain ⟨j, hj, e⟩ := List.getElem_of_mem h
  have h1 : posP l p ≤ j := by
   rcases Nat.lt_or_ge j (posP l p) with h2 | h2
   ·have := Jtib h2 hj; rw [e, Jte4] at this; cases this
   ·exact h2
  have h2 : j ≤ posP l p := by
   rcases Nat.lt_or_ge (posP l p) j with h2 | h2
   ·have h3 := Jtmy hs h2 hj
    rw [e, Jti9 hs (Nat.le_refl _) (by omega)] at h3; cases h3
   ·exact h2
  have : posP l p = j := by omega
  rw [this, List.getElem?_eq_getElem hj, e]
 ·exact List.mem_of_getElem?
theorem Jt8n {l : List Pair} {p : Pair} (h : p ∉ l) : l.filter (fun q => decide (q ≠ p)) = l := by
 rw [List.filter_eq_self]; intro a ha; simp; rintro rfl; exact h ha
theorem Jt4k {l : List Pair} {p : Pair} (hs : Srt l) : addP l p = l.take (posP l p) ++ p :: l.drop (if p ∈ l then posP l p + 1 else posP l p) := by
 rw [Jt4i, insP, Jtnr, Jt7q]
 show l.take (posP l p) ++ p :: (l.drop (posP l p)).filter _ = _
 congr 2
 split
 ·rename_i h
  have hp := (Jtfl hs).1 h
  have hlt := (List.getElem?_eq_some_iff.1 hp).1
  have he := (List.getElem?_eq_some_iff.1 hp).2
  have hs' : Srt (l.drop (posP l p)) := Jtn3 (List.drop_sublist _ _) hs
  rw [List.drop_eq_getElem_cons hlt, he] at hs' ⊢
  rw [List.filter_cons_of_neg (by simp)]
  refine Jt8n fun hm => ?_
  have := (Jtms.1 hs').1 p hm
  rw [Jte4] at this; cases this
 ·rename_i h
  exact Jt8n fun hm => h (List.drop_subset _ _ hm)
section
theorem Jthz {P : Program} {p : Nums} (A : All P p) (l : List Pair) (q : Pair) (h0 : l.length < 1000000000) (hs : Srt l) : Jt3o P p.pairset_find [.d (pairsD l), q.av] [] fun o _ => o = .ret (AI (posP l q)) := by
 refine A.pairset_find.run rfl fun R hR => ?_
 (simp (maxSteps := 1000000) [Jtbx, pairsD, Pair.av])
 refine Jt9 (fun k : Nat × Nat => ⟨[(5, AI k.1), (6, AI k.2), (4, AI 0), (3, .ptr 0 0), (0, .d (.sl (l.map Pair.row)))], [.mem [AI q.v, AI q.l]]⟩)
  (fun k => k.1 ≤ k.2 ∧ k.2 ≤ l.length ∧ (∀ j, j < k.1 → (h : j < l.length) → lessP l[j] q = true) ∧ ∀ j, k.2 ≤ j → (h : j < l.length) → lessP l[j] q = false) (fun k => k.2 - k.1) (0, l.length) (by simp; intro j h1 h2; omega) (by (exact wkA)) ?_
 rintro ⟨a, b⟩ ⟨hab, hb, hlo, hhi⟩ N hN
 simp only at hab hb hlo hhi hN ⊢
 (simp (maxSteps := 1000000) [])
 ((first | refine Xc (fun h2 => ?_) (fun h2 => ?_) | refine Xo (fun h2 => ?_) (fun h2 => ?_)) <;> (try simp only [Xz, Xy] at h2))
 ·have hm : a + (b - a) / 2 < l.length := by omega
  have hma : a ≤ a + (b - a) / 2 := by omega
  have hmb : a + (b - a) / 2 < b := by omega
  have hw1 : IntKind.i64.wrap ((b : Int) - (a : Int)) = ((b - a : Nat) : Int) := by rw [wrap_i64 (by omega) (by omega)]; omega
  have hw2 : IntKind.i64.wrap (((b - a : Nat) : Int) / 2) = (((b - a) / 2 : Nat) : Int) := by rw [wrap_i64 (by omega) (by omega)]; omega
  have hw3 : IntKind.i64.wrap ((a : Int) + (((b - a) / 2 : Nat) : Int)) = ((a + (b - a) / 2 : Nat) : Int) := by rw [wrap_i64 (by omega) (by omega)]; omega
  obtain ⟨d, hd⟩ : ∃ d, d = b - a := ⟨_, rfl⟩
  obtain ⟨d2, hd2⟩ : ∃ d2, d2 = d / 2 := ⟨_, rfl⟩
  obtain ⟨m, hmm⟩ : ∃ m, m = a + d2 := ⟨_, rfl⟩
  have hw := Jtp7 (k := m) (by omega)
  simp only [← hd, ← hd2, ← hmm] at hm hma hmb hw1 hw2 hw3
  have hbm : l[m]? = some l[m] := by simp
  (simp (maxSteps := 1000000) [h2, hw1])
  (simp (maxSteps := 1000000) [hw2])
  (simp (maxSteps := 1000000) [hw3, hbm, Pair.row])
  (refine Jts (Jtht A l[m] q) (by rfl) (by rfl) ?_)
  (simp (maxSteps := 1000000) [])
  ((first | refine Xc (fun h3 => ?_) (fun h3 => ?_) | refine Xo (fun h3 => ?_) (fun h3 => ?_)) <;> (try simp only [Xz, Xy] at h3))
  ·(simp (maxSteps := 1000000) [h3, hw])
   refine hN _ (m + 1, b) ⟨by simp only; omega, hb, ?_, hhi⟩ (by (exact wkA)) (by simp only; omega)
   intro j hj h
   simp only at hj
   by_cases e : j = m
   ·subst e; exact h3
   ·exact Jte7 (Jtmy hs (by omega : j < m) hm) h3
  ·(simp (maxSteps := 1000000) [h3])
   refine hN _ (a, m) ⟨by simp only; omega, by simp only; omega, hlo, ?_⟩ (by (exact wkA)) (by simp only; omega)
   intro j hj h
   simp only at hj
   cases e : lessP l[j] q with
   | false => rfl
   | true =>
    by_cases e2 : j = m
    ·subst e2; rw [e] at h3; simp at h3
    ·rw [Jte7 (Jtmy hs (by omega : m < j) h) e] at h3; simp at h3
 ·have e : a = b := by omega
  subst e
  have : posP l q = a := Jtnq _ l a hb hlo fun h => hhi a (by omega) h
  (simp (maxSteps := 1000000) [])
  (first | exact hR _ _ FrA | exact hR _ _ FnA | exact hR _ _ (Xf (hq := by simp [AV.erase, AV.unview, this]; done)))
theorem Jths {P : Program} {p : Nums} (A : All P p) (l : List Pair) (q : Pair) (h0 : l.length < 1000000000) (hs : Srt l) : Jt3o P p.pairset_Has [.d (pairsD l), q.av] [] fun o _ => o = .ret (AB (decide (q ∈ l))) := by
 refine A.pairset_Has.run rfl fun R hR => ?_
 (simp (maxSteps := 1000000) [Jtbr, pairsD, Pair.av])
 (refine Jts (Jthz A l q h0 hs) (by rfl) (by rfl) ?_)
 (simp (maxSteps := 1000000) [])
 have hp := Jtfl (p := q) hs
 have hle := Jtia l q
 obtain ⟨i, hi⟩ : ∃ i, i = posP l q := ⟨_, rfl⟩
 rw [← hi] at hp hle ⊢
 ((first | refine Xc (fun h1 => ?_) (fun h1 => ?_) | refine Xo (fun h1 => ?_) (fun h1 => ?_)) <;> (try simp only [Xz, Xy] at h1))
 ·have hil : i < l.length := by omega
  have hb : l[i]? = some l[i] := by simp
  rw [hb] at hp
  (simp (maxSteps := 1000000) [h1, hb, Pair.row])
  have e : (l[i].v == q.v && l[i].l == q.l) = decide (q ∈ l) := by
   rw [Jthi]; simp only [Option.some.injEq] at hp; simp [hp]
  (first | exact hR _ _ FrA | exact hR _ _ FnA | exact hR _ _ (Xf (hq := by simp [AV.erase, AV.unview, e, Pair.row]; done)))
 ·(simp (maxSteps := 1000000) [h1])
  have hb : l[i]? = none := by simp; omega
  rw [hb] at hp
  have e : q ∉ l := by simpa using hp
  (first | exact hR _ _ FrA | exact hR _ _ FnA | exact hR _ _ (Xf (hq := by simp [AV.erase, AV.unview, e]; done)))
end
section
theorem Jthl {P : Program} {p : Nums} (A : All P p) (l : List Pair) (q : Pair) (h0 : l.length < 1000000) (hs : Srt l) : Jt3o P p.pairset_Add [.d (pairsD l), q.av] [] fun o H' => o = .ret (.own 2 ((addP l q).map Pair.row)) ∧ H' = [] := by
 refine A.pairset_Add.run rfl fun R hR => ?_
 (simp (maxSteps := 1000000) [Jtbm, pairsD, Pair.av])
 (refine Jts (Jthz A l q (by omega) hs) (by rfl) (by rfl) ?_)
 have hw := Jtp7 (k := l.length) (by omega)
 have hp := Jtfl (p := q) hs
 have hle := Jtia l q
 have hadd := Jt4k (p := q) hs
 obtain ⟨i, hi⟩ : ∃ i, i = posP l q := ⟨_, rfl⟩
 rw [← hi] at hp hle hadd ⊢
 (simp (maxSteps := 1000000) [hw])
 refine Jt1y (n := l.length + 1) (by rfl) (by rfl) (by omega) (by omega) (by decide) (by rfl) ?_
 (simp (maxSteps := 1000000) [hle, Pair.row])
 have hrow : ∀ m : List (List D), (∀ r ∈ m, r ∈ l.map Pair.row) → ∀ r ∈ m, r.length = 2 := fun m hm r hr => Jtl2 (f := Pair.row) (fun _ => rfl) r (hm r hr)
 refine ⟨hrow _ fun r hr => List.take_subset _ _ hr, by omega, by omega, ?_⟩
 (refine Jt16 (by rfl) (by rfl) (by rfl) ?_ (by decide) ?_ ?_ ?_)
 ·simp
 ·simp; omega
 ·simp; omega
 (simp (maxSteps := 1000000) [])
 have hln : (l.map Pair.row).length = l.length := by simp
 have fin : ∀ j, addP l q = l.take i ++ q :: l.drop j → (List.take i (l.map Pair.row) ++ [[D.int IntKind.i64 q.v, D.int IntKind.i64 q.l]]) ++ List.drop j (List.take l.length (l.map Pair.row)) = (addP l q).map Pair.row := by
  intro j hj
  rw [hj, List.take_of_length_le (i := l.length) (l := l.map Pair.row) (by simp)]
  simp [Pair.row]
 ((first | refine Xc (fun h1 => ?_) (fun h1 => ?_) | refine Xo (fun h1 => ?_) (fun h1 => ?_)) <;> (try simp only [Xz, Xy] at h1))
 ·have hil : i < l.length := by omega
  have hb : l[i]? = some l[i] := by simp
  rw [hb, Option.some.injEq] at hp
  (simp (maxSteps := 1000000) [h1, hb, Pair.row])
  ((first | refine Xc (fun h2 => ?_) (fun h2 => ?_) | refine Xo (fun h2 => ?_) (fun h2 => ?_)) <;> (try simp only [Xz, Xy] at h2))
  ·have e : l[i] = q := Jt88 h2.1 h2.2
   have hm := hp.2 e
   rw [if_pos hm] at hadd
   have hw2 := Jtp7 (k := i) (by omega)
   obtain ⟨i1, hi1⟩ : ∃ i1, i1 = i + 1 := ⟨_, rfl⟩
   rw [← hi1] at hw2 hadd
   have hle1 : i1 ≤ l.length := by omega
   (simp (maxSteps := 1000000) [hw2, h2])
   (simp (maxSteps := 1000000) [hle1, Pair.row])
   (refine Jt16 (by rfl) (by rfl) (by rfl) ?_ (by decide) ?_ ?_ ?_)
   ·exact hrow _ fun r hr => List.take_subset _ _ (List.drop_subset _ _ hr)
   ·simp; omega
   ·simp; omega
   rw [fin i1 hadd]
   (simp (maxSteps := 1000000) [])
   exact hR _ _ (Jt3q _ _ rfl ⟨rfl, rfl⟩)
  ·have hm : q ∉ l := by
    intro hm; have := hp.1 hm
    rw [this] at h2; simp at h2
   rw [if_neg hm] at hadd
   (simp (maxSteps := 1000000) [h2, hle, Pair.row])
   (refine Jt16 (by rfl) (by rfl) (by rfl) ?_ (by decide) ?_ ?_ ?_)
   ·exact hrow _ fun r hr => List.take_subset _ _ (List.drop_subset _ _ hr)
   ·simp; omega
   ·simp; omega
   rw [fin i hadd]
   (simp (maxSteps := 1000000) [])
   exact hR _ _ (Jt3q _ _ rfl ⟨rfl, rfl⟩)
 ·have hm : q ∉ l := by
   intro hm; have := hp.1 hm
   rw [List.getElem?_eq_none (by omega)] at this; cases this
  rw [if_neg hm] at hadd
  (simp (maxSteps := 1000000) [h1, hle, Pair.row])
  (refine Jt16 (by rfl) (by rfl) (by rfl) ?_ (by decide) ?_ ?_ ?_)
  ·exact hrow _ fun r hr => List.take_subset _ _ (List.drop_subset _ _ hr)
  ·simp; omega
  ·simp; omega
  rw [fin i hadd]
  (simp (maxSteps := 1000000) [])
  exact hR _ _ (Jt3q _ _ rfl ⟨rfl, rfl⟩)
end
section
theorem Jthw {P : Program} {p : Nums} (A : All P p) (a b : List Pair) (h0 : a.length < 1000000) (h1 : b.length < 1000000) (ha : Srt a) (hb : Srt b) : Jt3o P p.pairset_Missing [.d (pairsD a), .d (pairsD b)] [] fun o _ => o = .ret (missA a b) := by
 refine A.pairset_Missing.run rfl fun R hR => ?_
 (simp (maxSteps := 1000000) [Jtbu, pairsD])
 refine Jt9 (fun k : Nat × Nat => ⟨[(11, AI k.1), (10, AI a.length), (9, .d (.sl (a.map Pair.row))), (6, AI k.2), (5, AB false), (4, .ptr 0 0), (1, .d (.sl (b.map Pair.row)))], [.mem [AI 0, AI 0]]⟩)
  (fun k => k.1 ≤ a.length ∧ k.2 ≤ b.length ∧ (∀ q ∈ a.take k.1, q ∈ b) ∧ ∀ j k', j < k.2 → k.1 ≤ k' → (h : j < b.length) → (h' : k' < a.length) → lessP b[j] a[k'] = true) (fun k => a.length - k.1) (0, 0) (by simp) (by (exact wkA)) ?_
 rintro ⟨k, i⟩ ⟨hk, hi, hz, hj⟩ N hN
 simp only at hk hi hz hj hN ⊢
 (simp (maxSteps := 1000000) [])
 ((first | refine Xc (fun h2 => ?_) (fun h2 => ?_) | refine Xo (fun h2 => ?_) (fun h2 => ?_)) <;> (try simp only [Xz, Xy] at h2))
 ·have hkl : k < a.length := by omega
  have hbk : a[k]? = some a[k] := by simp
  have hw := Jtp7 (k := k) (by omega)
  (simp (maxSteps := 1000000) [h2, hbk, Pair.row])
  refine Jt9 (fun i : Nat => ⟨[(8, .ptr 1 0), (11, AI k), (10, AI a.length), (9, .d (.sl (a.map Pair.row))), (6, AI i), (5, AB false), (4, .ptr 0 0), (1, .d (.sl (b.map Pair.row)))], [.mem [AI 0, AI 0], .mem [AI a[k].v, AI a[k].l]]⟩)
   (fun i => i ≤ b.length ∧ ∀ j k', j < i → k ≤ k' → (h : j < b.length) → (h' : k' < a.length) → lessP b[j] a[k'] = true) (fun i => b.length - i) i ⟨hi, hj⟩ (by (exact wkA)) ?_
  rintro i ⟨hi, hj⟩ N2 hN2
  have stop : (i = b.length ∨ ∃ h : i < b.length, lessP b[i] a[k] = false ∧ b[i] ≠ a[k]) → a[k] ∉ b := by
   intro hc hm
   obtain ⟨j, hjl, e⟩ := List.getElem_of_mem hm
   have h3 : i ≤ j := by
    rcases Nat.lt_or_ge j i with h | h
    ·have := hj j k h (Nat.le_refl _) hjl hkl
     rw [e, Jte4] at this; cases this
    ·exact h
   rcases hc with hc | ⟨h, h4, h5⟩
   ·omega
   ·rcases Nat.lt_or_eq_of_le h3 with h3 | h3
    ·have := Jtmy hb h3 hjl
     rw [e, h4] at this; cases this
    ·subst h3; exact h5 e
  have go : ∀ (h : i < b.length), b[i] = a[k] → (∀ q ∈ a.take (k + 1), q ∈ b) ∧ ∀ j k', j < i → k + 1 ≤ k' → (h : j < b.length) → (h' : k' < a.length) → lessP b[j] a[k'] = true := by
   intro h e
   refine ⟨?_, fun j k' h1 h2 h3 h4 => hj j k' h1 (by omega) h3 h4⟩
   intro q hq
   rw [List.take_add_one, hbk] at hq
   rcases List.mem_append.1 hq with hq | hq
   ·exact hz q hq
   ·simp at hq; subst hq; rw [← e]; exact List.getElem_mem _
  (simp (maxSteps := 1000000) [])
  ((first | refine Xc (fun h3 => ?_) (fun h3 => ?_) | refine Xo (fun h3 => ?_) (fun h3 => ?_)) <;> (try simp only [Xz, Xy] at h3))
  ·have hil : i < b.length := by omega
   have hbi : b[i]? = some b[i] := by simp
   (simp (maxSteps := 1000000) [h3, hbi, Pair.row])
   (refine Jts (Jtht A b[i] a[k]) (by rfl) (by rfl) ?_)
   (simp (maxSteps := 1000000) [])
   ((first | refine Xc (fun h4 => ?_) (fun h4 => ?_) | refine Xo (fun h4 => ?_) (fun h4 => ?_)) <;> (try simp only [Xz, Xy] at h4))
   ·have hwi := Jtp7 (k := i) (by omega)
    (simp (maxSteps := 1000000) [h4, hwi])
    refine hN2 _ (i + 1) ⟨hil, ?_⟩ (by (exact wkA)) (by omega)
    intro j k' h5 h6 h7 h8
    by_cases e : j = i
    ·subst e
     rcases Nat.lt_or_eq_of_le h6 with h6 | h6
     ·refine Jte7 (b := a[k]) h4 (Jtmy ha h6 h8)
     ·subst h6; exact h4
    ·exact hj j k' (by omega) h6 h7 h8
   ·have hne : ¬ ((i : Int) = (b.length : Int)) := by omega
    have h4' : lessP b[i] a[k] = false := by simpa using h4
    (simp (maxSteps := 1000000) [h4', hne, hbi, Pair.row])
    ((first | refine Xc (fun h5 => ?_) (fun h5 => ?_) | refine Xo (fun h5 => ?_) (fun h5 => ?_)) <;> (try simp only [Xz, Xy] at h5))
    ·have hx2 : a[k] ∉ b := stop (.inr ⟨hil, h4', fun e => by rw [e] at h5; simp at h5⟩)
     have := Jtfu hkl hz hx2
     (simp (maxSteps := 1000000) [h5])
     (first | exact hR _ _ FrA | exact hR _ _ FnA | exact hR _ _ (Xf (hq := by simp [AV.erase, AV.unview, missA, this, Pair.av]; done)))
    ·have e : b[i] = a[k] := Jt88 (by simp at h5; exact h5.1) (by simp at h5; exact h5.2)
     have := go hil e
     (simp (maxSteps := 1000000) [h5, hw])
     exact hN _ (k + 1, i) ⟨hkl, hi, this.1, this.2⟩ (by simp only; (exact wkA)) (by simp only; omega)
  ·have e : i = b.length := by omega
   have hx2 : a[k] ∉ b := stop (.inl e)
   have := Jtfu hkl hz hx2
   (simp (maxSteps := 1000000) [h3, e])
   (first | exact hR _ _ FrA | exact hR _ _ FnA | exact hR _ _ (Xf (hq := by simp [AV.erase, AV.unview, missA, this, Pair.av]; done)))
 ·have hk' : k = a.length := by omega
  subst hk'
  have := Jtfv (a := a) (b := b) (by simpa using hz)
  (simp (maxSteps := 1000000) [])
  (first | exact hR _ _ FrA | exact hR _ _ FnA | exact hR _ _ (Xf (hq := by simp [AV.erase, AV.unview, missA, this, Pair.av]; done)))
end
def mergeP : List Pair → List Pair → List Pair
 | [], b => b
 | x :: a, [] => x :: a
 | x :: a, y :: b => if lessP y x = true then y :: mergeP (x :: a) b else if y = x then x :: mergeP a b else x :: mergeP a (y :: b)
termination_by a b => a.length + b.length
theorem Jtfr (a : List Pair) : mergeP a [] = a := by cases a <;> simp [mergeP]
theorem Jtfj {a b : List Pair} {q : Pair} : q ∈ mergeP a b ↔ q ∈ a ∨ q ∈ b := by
 induction a, b using mergeP.induct with
 | case1 b => simp [mergeP]
 | case2 x a => simp [mergeP]
 | case3 x a y b h ih => rw [mergeP, if_pos h, List.mem_cons, ih]; simp only [List.mem_cons]; constructor <;> (intro h; rcases h with h | h | h <;> simp_all)
 | case4 a b x h ih => rw [mergeP, if_neg h, if_pos rfl, List.mem_cons, ih]; simp only [List.mem_cons]; constructor <;> grind
 | case5 x a y b h h2 ih => rw [mergeP, if_neg h, if_neg h2, List.mem_cons, ih]; simp only [List.mem_cons]; constructor <;> grind
theorem Jtn0 {a b : List Pair} (ha : Srt a) (hb : Srt b) : Srt (mergeP a b) := by
 induction a, b using mergeP.induct with
 | case1 b => simpa [mergeP] using hb
 | case2 x a => simpa [mergeP] using ha
 | case3 x a y b h ih =>
  rw [mergeP, if_pos h]
  refine Jtms.2 ⟨fun q hq => ?_, ih ha (Jtms.1 hb).2⟩
  rw [Jtfj, List.mem_cons] at hq
  rcases hq with (rfl | hq) | hq
  ·exact h
  ·exact Jte7 h ((Jtms.1 ha).1 q hq)
  ·exact (Jtms.1 hb).1 q hq
 | case4 a b x h ih =>
  rw [mergeP, if_neg h, if_pos rfl]
  refine Jtms.2 ⟨fun q hq => ?_, ih (Jtms.1 ha).2 (Jtms.1 hb).2⟩
  rw [Jtfj] at hq
  rcases hq with hq | hq
  ·exact (Jtms.1 ha).1 q hq
  ·exact (Jtms.1 hb).1 q hq
 | case5 x a y b h h2 ih =>
  rw [mergeP, if_neg h, if_neg h2]
  have hxy : lessP x y = true := by
   cases e : lessP x y with
   | true => rfl
   | false => exact absurd (Jte6 (by simpa using h) e) h2
  refine Jtms.2 ⟨fun q hq => ?_, ih (Jtms.1 ha).2 hb⟩
  rw [Jtfj, List.mem_cons] at hq
  rcases hq with hq | rfl | hq
  ·exact (Jtms.1 ha).1 q hq
  ·exact hxy
  ·exact Jte7 hxy ((Jtms.1 hb).1 q hq)
section
theorem Jthx {P : Program} {p : Nums} (A : All P p) (a b : List Pair) (h0 : a.length < 1000000) (h1 : b.length < 1000000) : Jt3o P p.pairset_Union [.d (pairsD a), .d (pairsD b)] [] fun o H' => o = .ret (.own 2 ((mergeP a b).map Pair.row)) ∧ H' = [] := by
 refine A.pairset_Union.run rfl fun R hR => ?_
 have hw : IntKind.i64.wrap ((a.length : Int) + (b.length : Int)) = ((a.length + b.length : Nat) : Int) := Jtp6 (by omega)
 obtain ⟨n, hn⟩ : ∃ n, n = a.length + b.length := ⟨_, rfl⟩
 rw [← hn] at hw
 (simp (maxSteps := 1000000) [Jtbv, pairsD, hw])
 refine Jt1y (n := n) (by rfl) (by rfl) (by omega) (by omega) (by decide) (by rfl) ?_
 (simp (maxSteps := 1000000) [])
 have hrow : ∀ l : List Pair, ∀ r ∈ l.map Pair.row, r.length = 2 := fun l => Jtl2 fun x => rfl
 refine Jt9 (fun s : List Pair × List Pair × List Pair => ⟨[(5, .own 2 (s.2.2.map Pair.row)), (4, .nils), (1, .d (.sl (s.2.1.map Pair.row))), (0, .d (.sl (s.1.map Pair.row)))], []⟩)
  (fun s => s.2.2 ++ mergeP s.1 s.2.1 = mergeP a b ∧ s.1.length + s.2.1.length + s.2.2.length ≤ n) (fun s => s.1.length + s.2.1.length) (a, b, []) ⟨by simp, by simp; omega⟩ (by simp only [List.map_nil]; (exact wkA)) ?_
 rintro ⟨xs, ys, out⟩ ⟨hm, hlen⟩ N hN
 simp only at hm hlen hN ⊢
 have fin : xs = [] ∨ ys = [] → (out.map Pair.row ++ xs.map Pair.row) ++ ys.map Pair.row = (mergeP a b).map Pair.row := by
  intro h
  rw [← hm]
  rcases h with rfl | rfl
  ·simp [mergeP]
  ·simp [Jtfr]
 cases xs with
 | nil =>
  (simp (maxSteps := 1000000) [])
  (refine Jt16 (by rfl) (by rfl) (by rfl) ?_ (by decide) ?_ ?_ ?_)
  ·simp
  ·simp; omega
  ·simp; omega
  (simp (maxSteps := 1000000) [])
  (refine Jt16 (by rfl) (by rfl) (by rfl) ?_ (by decide) ?_ ?_ ?_)
  ·exact hrow _
  ·simp at hlen ⊢; omega
  ·simp at hlen ⊢; omega
  (simp (maxSteps := 1000000) [])
  exact hR _ _ (Jt3q _ _ rfl ⟨by simp [← fin (.inl rfl)], rfl⟩)
 | cons x xs =>
  have hx0 : ¬ ((xs.length : Int) + 1 ≤ 0) := by omega
  have hx1 : (0 : Int) < (xs.length : Int) + 1 := by omega
  cases ys with
  | nil =>
   (simp (maxSteps := 1000000) [hx1])
   (refine Jt16 (by rfl) (by rfl) (by rfl) ?_ (by decide) ?_ ?_ ?_)
   ·simpa using hrow (x :: xs)
   ·simp at hlen ⊢; omega
   ·simp at hlen ⊢; omega
   (simp (maxSteps := 1000000) [])
   (refine Jt16 (by rfl) (by rfl) (by rfl) ?_ (by decide) ?_ ?_ ?_)
   ·simp
   ·simp at hlen ⊢; omega
   ·simp at hlen ⊢; omega
   (simp (maxSteps := 1000000) [])
   have := fin (.inr rfl)
   simp only [List.map_cons, List.map_nil, List.append_nil] at this
   exact hR _ _ (Jt3q _ _ rfl ⟨by simp [← this], rfl⟩)
  | cons y ys =>
   have hy1 : (0 : Int) < (ys.length : Int) + 1 := by omega
   have hx2 : (1 : Int) ≤ (xs.length : Int) + 1 := by omega
   have hy2 : (1 : Int) ≤ (ys.length : Int) + 1 := by omega
   have htx : (xs.map Pair.row).take xs.length = xs.map Pair.row := List.take_of_length_le (by simp)
   have hty : (ys.map Pair.row).take ys.length = ys.map Pair.row := List.take_of_length_le (by simp)
   simp only [List.length_cons] at hlen
   rw [mergeP] at hm
   (simp (maxSteps := 1000000) [hx1, hy1, Pair.row])
   (refine Jts (Jtht A y x) (by rfl) (by rfl) ?_)
   (simp (maxSteps := 1000000) [])
   ((first | refine Xc (fun h2 => ?_) (fun h2 => ?_) | refine Xo (fun h2 => ?_) (fun h2 => ?_)) <;> (try simp only [Xz, Xy] at h2))
   ·rw [if_pos h2] at hm
    have hne : ¬ x = y := fun h => Jte5 h2 h.symm
    have hs1 : IntKind.i64.wrap 1 = 1 := by rw [wrap_i64 (by omega) (by omega)]
    (simp (maxSteps := 1000000) [h2, Pair.row])
    (refine Jt16 (by rfl) (by rfl) (by rfl) ?_ (by decide) ?_ ?_ ?_)
    ·simp
    ·simp at hlen ⊢; omega
    ·simp at hlen ⊢; omega
    (simp (maxSteps := 1000000) [Pair.row, Jthi, hne, hy2, hty])
    refine hN _ (x :: xs, ys, out ++ [y]) ⟨by simp only; rw [← hm]; simp, by simp; omega⟩ ?_ (by simp only [List.length_cons]; omega)
    simp only [List.map_cons, List.map_append, List.map_nil, Pair.row]
    (exact wkA)
   ·have h2' : lessP y x = false := by simpa using h2
    rw [if_neg (by rw [h2']; simp)] at hm
    (simp (maxSteps := 1000000) [h2', Pair.row])
    (refine Jt16 (by rfl) (by rfl) (by rfl) ?_ (by decide) ?_ ?_ ?_)
    ·simp
    ·simp at hlen ⊢; omega
    ·simp at hlen ⊢; omega
    by_cases e : y = x
    ·rw [if_pos e] at hm
     subst e
     (simp (maxSteps := 1000000) [Pair.row, Jthi, hx2, hy2, htx, hty])
     refine hN _ (xs, ys, out ++ [y]) ⟨by simp only; rw [← hm]; simp, by simp; omega⟩ ?_ (by simp only [List.length_cons]; omega)
     simp only [List.map_cons, List.map_append, List.map_nil, Pair.row]
     (exact wkA)
    ·rw [if_neg e] at hm
     (simp (maxSteps := 1000000) [Pair.row, Jthi, e, hx2, htx])
     refine hN _ (xs, y :: ys, out ++ [x]) ⟨by simp only; rw [← hm]; simp, by simp; omega⟩ ?_ (by simp only [List.length_cons]; omega)
     simp only [List.map_cons, List.map_append, List.map_nil, Pair.row]
     (exact wkA)
end
theorem Jtkv {rows : List (List D)} {e k : Nat} (he : ∀ r ∈ rows, r.length = e) (hk : k < rows.length) : ((Jtkq rows).drop (k * e)).take e = rows[k].map AV.d := by
 unfold Jtkq
 induction rows generalizing k with
 | nil => simp at hk
 | cons r rows ih =>
  have h1 := he r (by simp)
  cases k with
  | zero => simp only [Nat.zero_mul, List.drop_zero, List.flatten_cons, List.map_append, List.getElem_cons_zero]; rw [List.take_left' (by simp [h1])]
  | succ k =>
   have h2 := ih (fun r hr => he r (by simp [hr])) (k := k) (by simpa using hk)
   simp only [List.flatten_cons, List.map_append, List.getElem_cons_succ]
   have e1 : (k + 1) * e = (r.map AV.d).length + k * e := by rw [Nat.add_mul]; simp [h1]; omega
   rw [e1, List.drop_length_add_append]; exact h2
theorem Jthh {l : List Pair} {k : Nat} (hk : k < l.length) : ((Jtkq (l.map Pair.row)).drop (k * 2)).take 2 = [AI l[k].v, AI l[k].l] := by
 rw [Jtkv (e := 2) (rows := l.map Pair.row) (Jtl2 (f := Pair.row) fun _ => rfl) (by simpa using hk)]; simp [Pair.row]
theorem Jtks (l : List Pair) : (Jtkq (l.map Pair.row)).length = l.length * 2 := by
 rw [Jtkx (e := 2) (Jtl2 fun _ => rfl)]; simp
theorem Jtkw (rows : List (List D)) : (Jtkq rows).map AV.erase = Jtkq rows := by
 simp [Jtkq, AV.erase, Function.comp_def]
def ddStep (out : List Pair) (q : Pair) : List Pair := if out.getLast? = some q then out else out ++ [q]
def dd (l : List Pair) : List Pair := l.foldl ddStep []
theorem Jt7l (l : List Pair) (q : Pair) : dd (l ++ [q]) = ddStep (dd l) q := by simp [dd]
theorem Jt7k (l : List Pair) : (dd l).getLast? = l.getLast? := by
 induction l using Jtf3 with
 | h0 => rfl
 | h1 l q ih =>
  rw [Jt7l, ddStep]
  split
  ·rename_i h; rw [h]; simp
  ·simp
theorem mem_dd {l : List Pair} {q : Pair} : q ∈ dd l ↔ q ∈ l := by
 induction l using Jtf3 with
 | h0 => simp [dd]
 | h1 l x ih =>
  rw [Jt7l, ddStep]
  split
  ·rename_i h
   rw [ih, List.mem_append]
   have : x ∈ l := by rw [Jt7k] at h; exact List.mem_of_getLast? h
   constructor
   ·exact .inl
   ·rintro (h | h)
    ·exact h
    ·simp at h; subst h; exact this
  ·rw [List.mem_append, List.mem_append, ih]
theorem Jt7n {l : List Pair} {k : Nat} (h0 : 0 < k) (h : k < l.length) : dd (l.take (k + 1)) = if l[k - 1]'(by omega) = l[k] then dd (l.take k) else dd (l.take k) ++ [l[k]] := by
 have e : l.take (k + 1) = l.take k ++ [l[k]] := by rw [List.take_add_one, List.getElem?_eq_getElem h]; rfl
 rw [e, Jt7l, ddStep, Jt7k]
 have : (l.take k).getLast? = some (l[k - 1]'(by omega)) := by
  rw [List.getLast?_eq_getElem?, List.getElem?_take]; simp only [List.length_take, Option.ite_none_right_eq_some]; rw [show min k l.length - 1 = k - 1 by omega, List.getElem?_eq_getElem (by omega)]; exact ⟨by omega, rfl⟩
 rw [this]; simp
def cptP (l : List Pair) : List Pair := dd l ++ List.replicate (l.length - (dd l).length) (⟨0, 0⟩ : Pair)
theorem Jt7e {l : List Pair} (h : dd l = l) : cptP l = l := by unfold cptP; rw [h]; simp
theorem srt_dd {l : List Pair} (h : l.Pairwise fun a b => lessP b a = false) : Srt (dd l) := by
 induction l using Jtf3 with
 | h0 => exact List.Pairwise.nil
 | h1 l x ih =>
  have h2 := List.pairwise_append.1 h
  have ih := ih h2.1
  rw [Jt7l, ddStep]
  split
  ·exact ih
  ·rename_i hl
   refine List.pairwise_append.2 ⟨ih, List.pairwise_singleton _ _, ?_⟩
   intro a ha b hb
   simp at hb; subst hb
   have hab := h2.2.2 a (mem_dd.1 ha) b (by simp)
   cases e : lessP a b with
   | true => rfl
   | false =>
    have eab := Jte6 e hab
    subst eab
    obtain ⟨j, hj, ej⟩ := List.getElem_of_mem ha
    have hne : dd l ≠ [] := List.ne_nil_of_mem ha
    have hjl : j < (dd l).length - 1 := by
     rcases Nat.lt_or_ge j ((dd l).length - 1) with h | h
     ·exact h
     ·refine absurd ?_ hl
      rw [List.getLast?_eq_getElem?, show (dd l).length - 1 = j by omega, List.getElem?_eq_getElem hj, ej]
    have h3 := Jtmy ih hjl (by omega)
    rw [ej] at h3
    have hm : (dd l)[(dd l).length - 1]'(by omega) ∈ l := mem_dd.1 (List.getElem_mem _)
    rw [h2.2.2 _ hm a (by simp)] at h3; cases h3
section
theorem Jtlw {P : Program} {p : Nums} (A : All P p) : Jt3o P p.slices_Clone_Pair [.d (.sl [])] [] fun o H' => o = .ret (.d (.sl [])) ∧ H' = [] := by
 refine A.slices_Clone_Pair.run rfl fun R hR => ?_
 (simp (maxSteps := 1000000) [Jtcr])
 refine Jt1q (by rfl) (fun _ => ?_) ?_
 ·(simp (maxSteps := 1000000) [])
  exact hR _ _ (Jt3u _ _ rfl (by (exact wkvA)) ⟨rfl, rfl⟩)
 ·(simp (maxSteps := 1000000) [])
  refine Jt15 (by rfl) (by rfl) (by simp) (by decide) (by simp) (by simp) (fun hn => ?_) fun hn => absurd rfl hn
  (simp (maxSteps := 1000000) [])
  exact hR _ _ (Jt3u _ _ rfl (by (exact wkvA)) ⟨rfl, rfl⟩)
theorem Jtlv {P : Program} {p : Nums} (A : All P p) (l : List Pair) (hl : l ≠ []) (h0 : l.length < 1000000) : Jt3o P p.slices_Clone_Pair [.d (pairsD l)] [] fun o H' => o = .ret (.hsl 0 0 2 l.length) ∧ H' = [.mem (Jtkq (l.map Pair.row))] := by
 refine A.slices_Clone_Pair.run rfl fun R hR => ?_
 (simp (maxSteps := 1000000) [Jtcr, pairsD])
 refine Jt1q (by rfl) (fun h => absurd (by simpa using h) hl) ?_
 (simp (maxSteps := 1000000) [])
 refine Jt13 (.inl (by rfl)) (by rfl) (Jtl2 fun _ => rfl) (by decide) (by simp; omega) (by simp; omega) (by simpa using hl) ?_
 (simp (maxSteps := 1000000) [])
 exact hR _ _ (Jt3t _ _ _ rfl (by (exact wkA)) ⟨by simp, rfl⟩)
theorem Jtly {P : Program} {p : Nums} (A : All P p) : Jt3o P p.slices_Compact_Pair [.d (.sl [])] [] fun o H' => o = .ret (.d (.sl [])) ∧ H' = [] := by
 refine A.slices_Compact_Pair.run rfl fun R hR => ?_
 (simp (maxSteps := 1000000) [Jtcs])
 exact hR _ _ (Jt3u _ _ rfl (by (exact wkvA)) ⟨rfl, rfl⟩)
theorem Jtlx {P : Program} {p : Nums} (A : All P p) (l : List Pair) (hl : l ≠ []) (h0 : l.length < 1000000) : Jt3o P p.slices_Compact_Pair [.hsl 0 0 2 l.length] [.mem (Jtkq (l.map Pair.row))] fun o H' => o = .ret (.hsl 0 0 2 (dd l).length) ∧ H' = [.mem (Jtkq ((cptP l).map Pair.row))] := by
 refine A.slices_Compact_Pair.run rfl fun R hR => ?_
 (simp (maxSteps := 1000000) [Jtcs])
 have hpos : 0 < l.length := List.length_pos_iff.2 hl
 have dd1 : dd (l.take 1) = l.take 1 := by
  cases l with
  | nil => exact absurd rfl hl
  | cons x l => simp [dd, ddStep]
 have done : dd l = l → R .ret ⟨[(2, .hsl 0 0 2 l.length)], [.mem (Jtkq (l.map Pair.row))]⟩ := by
  intro e
  refine hR _ _ (Jt3t _ (.hsl 0 0 2 l.length) [.mem (Jtkq (l.map Pair.row))] rfl (by (exact wkA)) ⟨by rw [e], by rw [Jt7e e]⟩)
 ((first | refine Xc (fun h1 => ?_) (fun h1 => ?_) | refine Xo (fun h1 => ?_) (fun h1 => ?_)) <;> (try simp only [Xz, Xy] at h1))
 ·have e1 : l.length = 1 := by omega
  have : dd l = l := by rw [show l.take 1 = l from List.take_of_length_le (by omega)] at dd1; exact dd1
  (simp (maxSteps := 1000000) [h1])
  refine hR _ _ (Jt3t _ (.hsl 0 0 2 l.length) [.mem (Jtkq (l.map Pair.row))] rfl (by (exact wkA)) ⟨by rw [this], by rw [Jt7e this]⟩)
 (simp (maxSteps := 1000000) [h1])
 refine Jt9 (fun k : Nat => ⟨[(3, AI k), (2, .nils), (0, .hsl 0 0 2 l.length)], [.mem (Jtkq (l.map Pair.row))]⟩) (fun k => 1 ≤ k ∧ k ≤ l.length ∧ dd (l.take k) = l.take k) (fun k => l.length - k) 1 ⟨by omega, by omega, dd1⟩ (by (exact wkA)) ?_
 rintro k ⟨hk1, hk, hd⟩ N hN
 have hlc := Jtks l
 (simp (maxSteps := 1000000) [])
 ((first | refine Xc (fun h2 => ?_) (fun h2 => ?_) | refine Xo (fun h2 => ?_) (fun h2 => ?_)) <;> (try simp only [Xz, Xy] at h2))
 ·have hkl : k < l.length := by omega
  have hw := Jtp7 (k := k) (by omega)
  obtain ⟨km, hkm⟩ : ∃ km, km = k - 1 := ⟨_, rfl⟩
  have hw2 : IntKind.i64.wrap ((k : Int) - 1) = (km : Int) := by rw [wrap_i64 (by omega) (by omega)]; omega
  have hp1 := Jthh (l := l) (k := km) (by omega)
  have hp2 := Jthh (l := l) (k := k) hkl
  have hce := Jtkw (l.map Pair.row)
  obtain ⟨C, hC⟩ : ∃ C, C = Jtkq (l.map Pair.row) := ⟨_, rfl⟩
  have hkml : km < l.length := by omega
  obtain ⟨x, hx⟩ : ∃ x, x = l[k] := ⟨_, rfl⟩
  obtain ⟨y, hy⟩ : ∃ y, y = l[km] := ⟨_, rfl⟩
  rw [← hC] at hlc hp1 hp2 hce ⊢
  rw [← hx] at hp2
  rw [← hy] at hp1
  have hl1 : km * 2 + 2 ≤ C.length := by omega
  have hl2 : k * 2 + 2 ≤ C.length := by omega
  have hk2 : (km : Int) < (l.length : Int) := by omega
  (simp (maxSteps := 1000000) [h2, hw2, hk2, hl1, hl2, hp1, hp2, hce, Jthi])
  ((first | refine Xc (fun h3 => ?_) (fun h3 => ?_) | refine Xo (fun h3 => ?_) (fun h3 => ?_)) <;> (try simp only [Xz, Xy] at h3))
  ·have hsl : IntKind.i64.wrap 1 = 1 := by rw [wrap_i64 (by omega) (by omega)]
   have hkle : k ≤ l.length := by omega
   (simp (maxSteps := 1000000) [h3, hkle])
   have hdk : dd (l.take (k + 1)) = l.take k := by
    rw [Jt7n hk1 hkl, if_pos, hd]
    rw [← hx, h3, hy]; simp only [hkm]
   refine Jt9 (fun s : Nat × Nat × List Pair => ⟨[(5, AI s.1), (4, .hsl 0 (k * 2) 2 (l.length - k)), (3, AI s.2.1), (2, .nils), (0, .hsl 0 0 2 l.length)], [.mem (Jtkq (s.2.2.map Pair.row))]⟩)
    (fun s => 1 ≤ s.1 ∧ k + s.1 ≤ l.length ∧ s.2.1 + 1 ≤ k + s.1 ∧ s.2.2.length = l.length ∧ s.2.2.take s.2.1 = dd (l.take (k + s.1)) ∧ s.2.2.drop (k + s.1 - 1) = l.drop (k + s.1 - 1)) (fun s => l.length - s.1) (1, k, l)
    ⟨by simp, by simp; omega, by simp, rfl, hdk.symm, rfl⟩ (by rw [hC]; (exact wkA)) ?_
   rintro ⟨j, i, cur⟩ ⟨hj1, hjn, hij, hcl, hct, hcd⟩ N2 hN2
   simp only at hj1 hjn hij hcl hct hcd hN2 ⊢
   have hlc2 := Jtks cur
   have hce2 := Jtkw (cur.map Pair.row)
   (simp (maxSteps := 1000000) [])
   ((first | refine Xc (fun h4 => ?_) (fun h4 => ?_) | refine Xo (fun h4 => ?_) (fun h4 => ?_)) <;> (try simp only [Xz, Xy] at h4))
   ·have h4' : k + j < l.length := by omega
    have hcur : ∀ m, k + j - 1 ≤ m → (h : m < l.length) → cur[m]'(by omega) = l[m] := by
     intro m h5 h6
     have e1 : (cur.drop (k + j - 1))[m - (k + j - 1)]? = cur[m]? := by rw [List.getElem?_drop, Nat.add_sub_cancel' h5]
     have e2 : (l.drop (k + j - 1))[m - (k + j - 1)]? = l[m]? := by rw [List.getElem?_drop, Nat.add_sub_cancel' h5]
     rw [hcd, e2, List.getElem?_eq_getElem h6, List.getElem?_eq_getElem (by omega)] at e1
     injection e1 with e1; exact e1.symm
    obtain ⟨jm, hjm⟩ : ∃ jm, jm = j - 1 := ⟨_, rfl⟩
    have hwj := Jtp7 (k := j) (by omega)
    have hwi := Jtp7 (k := i) (by omega)
    have hwjm : IntKind.i64.wrap ((j : Int) - 1) = (jm : Int) := by rw [wrap_i64 (by omega) (by omega)]; omega
    have hq1 := Jthh (l := cur) (k := k + j) (by omega)
    have hq2 := Jthh (l := cur) (k := k + jm) (by omega)
    rw [hcur _ (by omega) (by omega), Nat.add_mul] at hq1 hq2
    have hdj := Jt7n (l := l) (k := k + j) (by omega) h4'
    have ejm : k + j - 1 = k + jm := by omega
    simp only [ejm] at hdj hcur hcd
    obtain ⟨u, hu⟩ : ∃ u, u = l[k + j] := ⟨_, rfl⟩
    obtain ⟨v, hv⟩ : ∃ v, v = l[k + jm]'(by omega) := ⟨_, rfl⟩
    rw [← hu] at hq1 hdj
    rw [← hv] at hq2 hdj
    have hset := Jtmi (rows := cur.map Pair.row) (e := 2) (k := i) (row := u.row) (Jtl2 fun _ => rfl) rfl (by simp; omega)
    obtain ⟨E, hE⟩ : ∃ E, E = Jtkq (cur.map Pair.row) := ⟨_, rfl⟩
    rw [← hE] at hlc2 hce2 hq1 hq2 hset ⊢
    have hm1 : k * 2 + j * 2 + 2 ≤ E.length := by omega
    have hm2 : k * 2 + jm * 2 + 2 ≤ E.length := by omega
    have hm3 : i * 2 + 2 ≤ E.length := by omega
    have hn1 : (j : Int) < ((l.length - k : Nat) : Int) := by omega
    have hn2 : (jm : Int) < ((l.length - k : Nat) : Int) := by omega
    have hn3 : (i : Int) < (l.length : Int) := by omega
    have hcd' : ∀ c : List Pair, c.drop (k + jm) = l.drop (k + jm) → c.drop (k + j) = l.drop (k + j) := by
     intro c hc
     have := congrArg (List.drop 1) hc
     rw [List.drop_drop, List.drop_drop] at this
     rwa [show k + jm + 1 = k + j by omega] at this
    (simp (maxSteps := 1000000) [h4, hwjm, hn1, hn2, hm1, hm2, hq1, hq2, hce2, Jthi])
    ((first | refine Xc (fun h5 => ?_) (fun h5 => ?_) | refine Xo (fun h5 => ?_) (fun h5 => ?_)) <;> (try simp only [Xz, Xy] at h5))
    ·(simp (maxSteps := 1000000) [h5, hn1, hn2, hn3, hm1, hm2, hm3, hq1, hq2, hce2, hwi, hwj])
     rw [if_neg (by intro e; exact h5 e.symm)] at hdj
     have hset' : List.take (i * 2) E ++ AI u.v :: AI u.l :: List.drop (i * 2 + 2) E = Jtkq ((cur.set i u).map Pair.row) := by
      rw [List.map_set, ← hset]; simp [spl, Pair.row]
     rw [hset']
     refine hN2 _ (j + 1, i + 1, cur.set i u) ⟨by simp only; omega, by simp only; omega, by simp only; omega, by simpa using hcl, ?_, ?_⟩ (by simp only; (exact wkA)) (by simp only; omega)
     ·simp only
      rw [← Nat.add_assoc, hdj, ← hct, List.take_add_one, List.getElem?_set_self (by omega), List.take_set_of_le (by omega)]; rfl
     ·simp only
      rw [show k + (j + 1) - 1 = k + j by omega, List.drop_set_of_lt (by omega)]; exact hcd' _ hcd
    ·(simp (maxSteps := 1000000) [h5, hwj])
     rw [if_pos (by simpa using Eq.symm (by simpa using h5))] at hdj
     refine hN2 _ (j + 1, i, cur) ⟨by simp only; omega, by simp only; omega, by simp only; omega, hcl, ?_, ?_⟩ (by simp only; rw [hE]; (exact wkA)) (by simp only; omega)
     ·simp only; rw [hct, ← Nat.add_assoc, hdj]
     ·simp only; rw [show k + (j + 1) - 1 = k + j by omega]; exact hcd' _ hcd
   ·have hj2 : k + j = l.length := by omega
    rw [hj2, List.take_length] at hct
    have hil : i < l.length := by omega
    have hil' : i ≤ l.length := by omega
    have hdl : (dd l).length = i := by rw [← hct]; simp; omega
    have hzero : ¬ (l.length - i = 0) := by omega
    (simp (maxSteps := 1000000) [hil'])
    refine Jt1g (by rfl) (by rfl) (by decide) (by omega) (by rfl) (by omega) ?_
    obtain ⟨T, hT⟩ : ∃ T : List Pair, T = List.replicate (l.length - i) (⟨0, 0⟩ : Pair) := ⟨_, rfl⟩
    obtain ⟨U, hU⟩ : ∃ U : List Pair, U = dd l ++ T := ⟨_, rfl⟩
    have hfin : spl (Jtkq (cur.map Pair.row)) (i * 2) (Jtkq (List.replicate (l.length - i) [I 0, I 0])) = Jtkq (U.map Pair.row) := by
     have h7 : (Jtkq (List.replicate (l.length - i) [I 0, I 0])).length = (l.length - i) * 2 := by
      rw [Jtkx (e := 2) (fun r hr => by rw [List.eq_of_mem_replicate hr]; rfl)]; simp
     rw [spl, Jtky (e := 2) (rows := cur.map Pair.row) (Jtl2 (f := Pair.row) fun _ => rfl), h7, List.drop_of_length_le (by omega), List.append_nil, ← List.map_take, hct, hU, hT]
     simp [Jtkq, Pair.row]
    rw [hfin]
    (simp (maxSteps := 1000000) [hil'])
    refine hR _ _ (Jt3t _ (.hsl 0 0 2 i) [.mem (Jtkq (U.map Pair.row))] rfl (by (exact wkA)) ⟨by rw [hdl], by rw [hU, hT, cptP, hdl]⟩)
  ·(simp (maxSteps := 1000000) [h3, hw])
   refine hN _ (k + 1) ⟨by omega, hkl, ?_⟩ (by rw [hC]; (exact wkA)) (by omega)
   have e : ¬ l[k - 1]'(by omega) = l[k] := by
    rw [← hx]; intro e; apply h3; rw [← e, hy]; simp only [hkm]
   rw [Jt7n hk1 hkl, if_neg e, hd, List.take_add_one, List.getElem?_eq_getElem hkl]; rfl
 ·have hk' : k = l.length := by omega
  subst hk'
  rw [List.take_length] at hd
  (simp (maxSteps := 1000000) [])
  refine hR _ _ (Jt3t _ (.hsl 0 0 2 l.length) [.mem (Jtkq (l.map Pair.row))] rfl (by (exact wkA)) ⟨by rw [hd], by rw [Jt7e hd]⟩)
end
end Go.AE
namespace Go.AE
open Go Go.Proofs Go.Shelf Go.Sort
def encP (x : Pair) : List Value := [.int .i64 x.v, .int .i64 x.l]
def cfP (a b : Pair) : Int := if lessP a b = true then -1 else if lessP b a = true then 1 else 0
theorem Jteo (a b : Pair) : ltOf cfP a b = lessP a b := by
 unfold ltOf cfP
 cases h1 : lessP a b <;> cases h2 : lessP b a <;> simp
theorem swoP : SWO (ltOf cfP) where
 irrefl x := by rw [Jteo]; exact Jte4 x
 trans x y z h1 h2 := by rw [Jteo] at *; exact Jte7 h1 h2
 ntrans x y z h1 h2 := by
  rw [Jteo] at *
  have h1 : ¬ lessP x y = true := by simp [h1]
  have h2 : ¬ lessP y z = true := by simp [h2]
  cases h : lessP x z with
  | false => rfl
  | true => rw [Jte3] at *; omega
def sortP (l : List Pair) : List Pair := l.mergeSort fun x y => !lessP y x
theorem Jtlz (l : List Pair) : (sortP l).length = l.length := by simp [sortP]
theorem Jt8y : ∀ (l : List Pair) (j : Nat) (h : j < 2 * l.length), (l.map Pair.row).flatten[j]? = some (if j % 2 = 0 then I (l[j / 2]'(by omega)).v else I (l[j / 2]'(by omega)).l) := by
 intro l
 induction l with
 | nil => intro j h; simp at h
 | cons x l ih =>
  intro j h
  match j, h with
  | 0, h => simp [Pair.row]
  | 1, h => simp [Pair.row]
  | j + 2, h =>
   have h' : j < 2 * l.length := by simp at h; omega
   have e := ih j h'
   have e1 : (j + 2) / 2 = j / 2 + 1 := by omega
   have e2 : (j + 2) % 2 = j % 2 := by omega
   simp only [List.map_cons, List.flatten_cons, Pair.row, List.cons_append, List.nil_append, List.getElem?_cons_succ, e2]
   rw [e]
   simp only [e1, List.getElem_cons_succ]
theorem Jt8x (l : List Pair) (j : Nat) (h : j < 2 * l.length) : ∃ n : Int, (Jtkq (l.map Pair.row))[j]? = some (AI n) ∧ (flatK encP 2 l.toArray)[j]! = .int .i64 n := by
 have h1 := Jt8y l j h
 have h2 := get_flatK encP 2 l.toArray j (by simp; omega)
 have h3 : l.toArray[j / 2]! = l[j / 2]'(by omega) := by
  rw [getElem!_pos _ _ (by simp; omega)]; simp
 rw [h3] at h2
 rcases Nat.mod_two_eq_zero_or_one j with hm | hm
 ·refine ⟨(l[j / 2]'(by omega)).v, ?_, ?_⟩
  ·rw [Jtkq, List.getElem?_map, h1, hm]; rfl
  ·rw [h2, hm]; rfl
 ·refine ⟨(l[j / 2]'(by omega)).l, ?_, ?_⟩
  ·rw [Jtkq, List.getElem?_map, h1, hm]; rfl
  ·rw [h2, hm]; rfl
theorem Jtkr (l : List Pair) : (Jtkq (l.map Pair.row)).length = 2 * l.length := by
 rw [Jtkx (e := 2) (Jtl2 fun _ => rfl)]; simp; omega
section
variable {P : Program} {ρ : Ren}
theorem Jtm5 (L : SlLaysF0.n6 P ρ) (aE : ∀ w, (isAgg (ρ.t 24)).run P w = .ok true w) (zE : ∀ w, (Go.sizeOf (ρ.t 24)).run P w = .ok 2 w) (c : Nat) (eg : ∀ args w, (callFunc c args).run P w = .ok (.enter c args) w)
  (hcmp : ∀ blk off size w, CmpLays P c #[] encP 2 cfP blk off size w) (l : List Pair) (hne : l ≠ []) (hlen : l.length < 4611686018427387904) :
  Jt3o P (ρ.f 6) [.hsl 0 0 2 l.length, .fn (.func c) [] []] [.mem (Jtkq (l.map Pair.row))] fun o H' => o = .ret (.tup []) ∧ H' = [.mem (Jtkq ((sortP l).map Pair.row))] := by
 intro g vs w hsz hs
 have hn : l.length ≠ 0 := by simpa using hne
 obtain ⟨vs⟩ := vs
 obtain ⟨v0, v1, rfl⟩ : ∃ a b, vs = [a, b] := by
  match vs, hsz with
  | [a, b], _ => exact ⟨a, b, rfl⟩
 have e0 : Rel g.F g.φ w (.hsl 0 0 2 l.length) v0 := hs.env 0 _ rfl
 have e1 : Rel g.F g.φ w (.fn (.func c) [] []) v1 := hs.env 1 _ rfl
 cases e0 with
 | hsl _ _ _ _ r cap a hφ hcap ha _ =>
 have ha := ha hn; subst ha
 cases e1 with
 | fn _ _ _ us us' hl _ hl' _ =>
 have : us = [] := by simpa using hl
 subst this
 have : us' = [] := by simpa using hl'
 subst this
 obtain ⟨cl, te, hc, hcs, hcell⟩ := hs.mem 0 _ r rfl hφ
 have hF := (hs.lt 0 r hφ).2.1
 have hrl := (hs.lt 0 r hφ).1
 rw [Jtkr] at hcs
 have hH : HoldsK encP 2 w r 0 l.toArray := by
  intro j hj
  rw [size_flatK] at hj
  have hj' : j < 2 * l.length := by simp at hj; omega
  obtain ⟨n, h1, h2⟩ := Jt8x l j hj'
  obtain ⟨_, u, hu, hrel⟩ := hcell j _ h1
  cases hrel with
  | d _ _ hp =>
  cases hp with
  | int k m =>
  constructor
  ·rw [h2]; simp [World.cell?, hc, hu]
  ·simp [World.frozen?, hc]
 have := AnyQ.slices_SortFunc_total L 2 aE zE encP (fun _ => rfl) (fun x v hv => by simp [encP] at hv; rcases hv with rfl | rfl <;> rfl) cfP swoP c #[] r 0 cap l.toArray w eg (hcmp r 0 _ w) hH hrl (by simpa using hlen) (fun x y h1 h2 => by rw [Jteo] at h1 h2; exact Jte6 h1 h2)
 refine Calls.mono (show Calls P (ρ.f 6) #[.slice (some ⟨r, 0, none⟩) l.length cap, .func (.func c) #[] #[]] w _ from this) ?_
 rintro e w' ⟨rfl, n, os, hw⟩
 have hw : w' = sortWorldK encP 2 w r 0 n (sortP l).toArray os := by
  rw [hw]; simp only [Jteo]; rfl
 obtain ⟨d, hd⟩ : ∃ d, d = sortP l := ⟨_, rfl⟩
 have hdl : d.length = l.length := by rw [hd, Jtlz]
 rw [← hd] at hw
 have hheap : w'.heap = (w.heap.modify r (onCells (putCells id 0 (flatK encP 2 d.toArray)))) ++ os := by rw [hw]; rfl
 have hother : ∀ r', r' < w.heap.size → r' ≠ r → w'.heap[r']? = w.heap[r']? := by
  intro r' h1 h2
  rw [hheap, Array.getElem?_append]
  simp only [Array.size_modify, h1, if_true, Array.getElem?_modify]
  rw [if_neg (Ne.symm h2)]
 have hsize : w.heap.size ≤ w'.heap.size := by rw [hheap]; simp
 have hpsz : (putCells id 0 (flatK encP 2 d.toArray) cl).size = cl.size := by simp [putCells]
 have hr' : w'.heap[r]? = some (.cells (putCells id 0 (flatK encP 2 d.toArray) cl) te (0, 0)) := by
  rw [hheap, Array.getElem?_append]
  simp only [Array.size_modify, hrl, if_true, Array.getElem?_modify, if_true]
  rw [hc]; rfl
 have hno : ∀ (env : List (Nat × AV)) (cells : List D) b j e rows, AP ⟨env, [.mem (cells.map AV.d)]⟩ (.cell b j) ≠ some (.own e rows) := by
  intro env cells b j e rows h
  simp only [AP] at h
  cases b with
  | zero =>
   simp only [List.getElem?_cons_zero] at h
   rw [List.getElem?_map] at h
   cases hx : cells[j]? with
   | none => rw [hx] at h; cases h
   | some d => rw [hx] at h; cases h
  | succ b => simp at h
 have hno' : ∀ p e rows, AP ⟨[(0, .tup [])], [.mem (Jtkq (d.map Pair.row))]⟩ p ≠ some (.own e rows) := by
  intro p e rows h
  cases p with
  | tmp t => simp only [AP, get] at h; split at h <;> cases h
  | cell b j => exact hno _ _ _ _ _ _ h
 have hb0 : ∀ b r', g.φ b = some r' → b = 0 := fun b r' h => by have := (hs.lt b r' h).2.2; simp at this; exact this
 refine ⟨.ret (.tup []), [.mem (Jtkq (d.map Pair.row))], g, .tuple #[], ⟨rfl, by rw [hd]⟩, rfl, ?_, ?_, fun _ _ _ h => h, by simp, ?_⟩
 ·refine { size := by simp, env := ?_, inj := hs.inj, lt := ?_, dom := ?_, mem := ?_, iter := ?_, glob := ?_, own := ?_, excl := ?_, apart := ?_, view := ?_ }
  ·intro t x hx
   simp only [get] at hx
   split at hx
   ·rename_i h; subst h; injection hx with hx; subst hx
    exact .tup [] [] rfl fun j x u h => by simp at h
   ·cases hx
  ·intro b r' h
   obtain ⟨h1, h2, h3⟩ := hs.lt b r' h
   exact ⟨by omega, h2, by simpa using h3⟩
  ·intro b k h hk
   cases b with
   | zero => exact ⟨r, hφ⟩
   | succ b => simp at h
  ·intro b cells r' h hr2
   have hb := hb0 b r' hr2
   subst hb
   rw [hφ] at hr2; injection hr2 with hr2; subst hr2
   simp at h; subst h
   refine ⟨_, te, hr', ?_, ?_⟩
   ·rw [Jtkr, hdl]; simp [putCells]; exact hcs
   ·intro j x hx
    have hj : j < 2 * d.length := by
     have := (List.getElem?_eq_some_iff.1 hx).1
     rwa [Jtkr] at this
    obtain ⟨n, h1, h2⟩ := Jt8x d j hj
    rw [hx] at h1; injection h1 with h1; subst h1
    refine ⟨rfl, .int .i64 n, ?_, .d _ _ (.int _ _)⟩
    have hjc : j < cl.size := by omega
    have hf : j < (flatK encP 2 d.toArray).size := by rw [size_flatK]; simp; omega
    simp only [putCells, Array.getElem?_mapIdx, hjc, Array.getElem?_eq_getElem, Option.map_some, Nat.zero_le, true_and, Nat.zero_add, hf, if_true, Nat.sub_zero, h2, id]
  ·intro b s pos r' h _
   cases b with
   | zero => simp at h
   | succ b => simp at h
  ·intro b s pos r' h _
   cases b with
   | zero => simp at h
   | succ b => simp at h
  ·intro p e rows v h; exact absurd h (hno' p e rows)
  ·rintro p p' r' ⟨e, rows, _, h, _⟩; exact absurd h (hno' p e rows)
  ·rintro p r' b ⟨e, rows, _, h, _⟩; exact absurd h (hno' p e rows)
  ·intro t org e rows h
   simp only [get] at h
   split at h <;> cases h
 ·refine ⟨by rw [hw]; rfl, by rw [hw]; rfl, by rw [hw]; rfl, hsize, ?_, ?_⟩
  ·intro r' h1 h2
   refine ⟨hother r' h1 ?_, rfl⟩
   rintro rfl; exact h2 (.inl ⟨0, hφ⟩)
  ·refine ⟨fun _ _ => Nat.le_refl _, ?_, fun q => ?_⟩
   rotate_left
   ·by_cases hq : q = r
    ·subst hq; rw [Jt7g hc, Jt7g hr']; exact Nat.le_of_eq hpsz.symm
    ·by_cases hql : q < w.heap.size
     ·rw [Jt7h (hother q hql hq)]; exact Nat.le_refl _
     ·have : w.heap[q]? = none := Array.getElem?_eq_none (by omega)
      simp [csize, this]
   intro r' j u hj hu
   have hne : r' ≠ r := by rintro rfl; omega
   have hlt := World.block_lt_of_cell? w ⟨r', j, none⟩ hu
   have := hother r' hlt hne
   simp only [World.cell?] at hu ⊢
   rw [this]; exact hu
 ·rintro r' (⟨b, hb⟩ | ⟨p, e, rows, _, h, _⟩)
  ·exact .inl (.inl ⟨b, hb⟩)
  ·exact absurd h (hno' p e rows)
theorem Jtm4 (L : SlLaysF0.n6 P ρ) (c : Nat) (x : AV) (hx : x = .d (.sl []) ∨ x = .nils ∨ x = .nile) :
  Jt3o P (ρ.f 6) [x, .fn (.func c) [] []] [] fun o H' => o = .ret (.tup []) ∧ H' = [] := by
 intro g vs w hsz hs
 obtain ⟨vs⟩ := vs
 obtain ⟨v0, v1, rfl⟩ : ∃ a b, vs = [a, b] := by
  match vs, hsz with
  | [a, b], _ => exact ⟨a, b, rfl⟩
 have e0 : Rel g.F g.φ w x.erase v0 := hs.env 0 _ rfl
 obtain ⟨a, cap, rfl⟩ : ∃ a cap, v0 = .slice a 0 cap := by
  rcases hx with rfl | rfl | rfl
  ·cases e0 with
   | d _ _ h => cases h with
    | nil a cap => exact ⟨a, cap, rfl⟩
    | sl rows ad cap esz vs h1 h2 h3 h4 h5 h6 => exact ⟨_, _, rfl⟩
  ·cases e0; exact ⟨_, _, rfl⟩
  ·cases e0; exact ⟨_, _, rfl⟩
 refine Calls.mono (AnyF.slices_SortFunc_none L a cap v1 w) ?_
 rintro e w' ⟨rfl, rfl⟩
 have hno : ∀ (st : ASt) p e rows, st.H = [] → (∀ t e rows, get st.env t ≠ some (.own e rows)) → AP st p ≠ some (.own e rows) := by
  intro st p e rows h1 h2 h
  cases p with
  | tmp t => exact h2 t e rows h
  | cell b j => simp only [AP, h1] at h; simp at h
 have hno' : ∀ p e rows, AP ⟨[(0, .tup [])], []⟩ p ≠ some (.own e rows) := by
  intro p e rows
  refine hno _ p e rows rfl ?_
  intro t e rows h; simp only [get] at h; split at h <;> cases h
 have hb0 : ∀ b r, g.φ b ≠ some r := fun b r h => by have := (hs.lt b r h).2.2; simp at this
 refine ⟨.ret (.tup []), [], g, .tuple #[], ⟨rfl, rfl⟩, rfl, ?_, Tr.refl _ _ _, fun _ _ _ h => h, by simp, ?_⟩
 ·refine { size := by simp, env := ?_, inj := hs.inj, lt := fun b r h => absurd h (hb0 b r), dom := ?_, mem := ?_, iter := ?_, glob := ?_, own := ?_, excl := ?_, apart := ?_, view := ?_ }
  ·intro t x hx
   simp only [get] at hx
   split at hx
   ·rename_i h; subst h; injection hx with hx; subst hx
    exact .tup [] [] rfl fun j x u h => by simp at h
   ·cases hx
  ·intro b k h; simp at h
  ·intro b cells r h; simp at h
  ·intro b s pos r h; simp at h
  ·intro b s pos r h; simp at h
  ·intro p e rows v h; exact absurd h (hno' p e rows)
  ·rintro p p' r' ⟨e, rows, _, h, _⟩; exact absurd h (hno' p e rows)
  ·rintro p r' b ⟨e, rows, _, h, _⟩; exact absurd h (hno' p e rows)
  ·intro t org e rows h; simp only [get] at h; split at h <;> cases h
 ·rintro r' (⟨b, hb⟩ | ⟨p, e, rows, _, h, _⟩)
  ·exact absurd hb (hb0 b r')
  ·exact absurd h (hno' p e rows)
end
structure SortOk (P : Program) (p : Nums) : Prop where
 none : Jt3o P p.slices_SortFunc_Pair [.d (.sl []), .fn (.func p.pairset_compare) [] []] [] fun o H' => o = .ret (.tup []) ∧ H' = []
 some : ∀ l : List Pair, l ≠ [] → l.length < 1000000 → Jt3o P p.slices_SortFunc_Pair [.hsl 0 0 2 l.length, .fn (.func p.pairset_compare) [] []] [.mem (Jtkq (l.map Pair.row))] fun o H' => o = .ret (.tup []) ∧ H' = [.mem (Jtkq ((sortP l).map Pair.row))]
theorem Jtm1 (l : List Pair) : (sortP l).Pairwise fun a b => lessP b a = false := by
 have := List.pairwise_mergeSort (le := fun x y => !lessP y x) (fun a b c h1 h2 => ?_) (fun a b => ?_) l
 ·refine List.Pairwise.imp ?_ this
  intro a b h; simpa using h
 ·simp only [Bool.not_eq_true'] at h1 h2 ⊢
  cases h : lessP c a with
  | false => rfl
  | true =>
   cases h3 : lessP b c with
   | true => rw [Jte7 h3 h] at h1; cases h1
   | false => have := Jte6 h3 h2; subst this; rw [h] at h1; cases h1
 ·cases h1 : lessP b a with
  | false => simp
  | true => simp [Jte2 h1]
theorem Jtfq {l : List Pair} {q : Pair} : q ∈ sortP l ↔ q ∈ l := by unfold sortP; simp
theorem Jt7m (l : List Pair) : dd (sortP l) = makeP l :=
 Jtmv (srt_dd (Jtm1 l)) (Jtmz l) fun q => by rw [mem_dd, Jtfq, Jtfi]
theorem Jtm0 {l : List Pair} (h : l ≠ []) : sortP l ≠ [] := by
 intro e; have := Jtlz l; rw [e] at this; exact h (List.length_eq_zero_iff.1 this.symm)
section
theorem Jthv {P : Program} {p : Nums} (A : All P p) (S : SortOk P p) : Jt3o P p.pairset_Make [.d (.sl [])] [] fun o H' => o = .ret (.d (.sl [])) ∧ H' = [] := by
 refine A.pairset_Make.run rfl fun R hR => ?_
 (simp (maxSteps := 1000000) [Jtbt])
 refine Jtv [] 0 (Jtlw A) (by decide) (by rfl) (by rfl) (by rfl) (by rfl) (by rfl) (by rfl) ?_
 (simp (maxSteps := 1000000) [])
 refine Jtv [] 0 S.none (by decide) (by rfl) (by rfl) (by rfl) (by rfl) (by rfl) (by rfl) ?_
 (simp (maxSteps := 1000000) [])
 refine Jtv [] 0 (Jtly A) (by decide) (by rfl) (by rfl) (by rfl) (by rfl) (by rfl) (by rfl) ?_
 (simp (maxSteps := 1000000) [])
 exact hR _ _ (Jt3u _ _ rfl (by (exact wkvA)) ⟨rfl, rfl⟩)
theorem Jthu {P : Program} {p : Nums} (A : All P p) (S : SortOk P p) (l : List Pair) (h0 : l.length < 1000000) : Jt3o P p.pairset_Make [.d (pairsD l)] [] fun o _ => o = .ret (.d (pairsD (makeP l))) := by
 by_cases hl : l = []
 ·subst hl
  exact (Jthv A S).mono fun o H' h => h.1
 ·refine A.pairset_Make.run rfl fun R hR => ?_
  (simp (maxSteps := 1000000) [Jtbt, pairsD])
  refine Jtv [] 1 (Jtlv A l hl h0) (by decide) (by rfl) (by rfl) (by rfl) Jtk4 (by rfl) (by rfl) ?_
  (simp (maxSteps := 1000000) [])
  refine Jtv [0] 0 (S.some l hl h0) (by decide) (by rfl) (by rfl) Jtk4 Jtk4 (by rfl) (by rfl) ?_
  (simp (maxSteps := 1000000) [])
  have hs := Jtlx A (sortP l) (Jtm0 hl) (by rw [Jtlz]; exact h0)
  rw [Jtlz, Jt7m] at hs
  refine Jtv [0] 0 hs (by decide) (by rfl) (by rfl) Jtk4 Jtk4 (by rfl) (by rfl) ?_
  obtain ⟨n, hn⟩ : ∃ n, n = (makeP l).length := ⟨_, rfl⟩
  obtain ⟨U, hU⟩ : ∃ U, U = cptP (sortP l) := ⟨_, rfl⟩
  rw [← hn, ← hU]
  (simp (maxSteps := 1000000) [])
  refine hR _ _ (Jt3u _ _ rfl (WkV.hsl 0 0 2 n _ ((makeP l).map Pair.row) rfl (by omega) ?_ (by rw [hn]; simp) (Jtl2 fun _ => rfl)) rfl)
  show ((Jtkq (U.map Pair.row)).drop 0).take (n * 2) = Jtkq ((makeP l).map Pair.row)
  rw [List.drop_zero, Jtky (e := 2) (rows := U.map Pair.row) (Jtl2 (f := Pair.row) fun _ => rfl), ← List.map_take, hU, cptP, Jt7m, hn, List.take_left']
  rfl
end
def renP (c : Pair → Bool) (f : Pair → Pair) (l : List Pair) : List Pair := (l.filter c).map f
theorem Jtk8 {c : Pair → Bool} {f : Pair → Pair} {l : List Pair} {k : Nat} (h : k < l.length) : renP c f (l.take (k + 1)) = if c l[k] = true then renP c f (l.take k) ++ [f l[k]] else renP c f (l.take k) := by
 unfold renP
 rw [List.take_add_one, List.getElem?_eq_getElem h, List.filter_append, List.map_append]
 cases hf : c l[k] <;> simp [hf]
theorem Jtk7 (c : Pair → Bool) (f : Pair → Pair) (l : List Pair) : (renP c f l).length ≤ l.length := by
 unfold renP; rw [List.length_map]; exact List.length_filter_le _ _
theorem Jtfo {c : Pair → Bool} {f : Pair → Pair} {l : List Pair} {q : Pair} : q ∈ renP c f l ↔ ∃ p ∈ l, c p = true ∧ f p = q := by
 unfold renP; simp only [List.mem_map, List.mem_filter, and_assoc]
def copyP (l : List Pair) (d a : Int) : List Pair := if d = a then makeP l else mergeP (l.filter fun x => x.v != d) (makeP (renP (fun x => x.v == a) (fun x => ⟨d, x.l⟩) l))
def moveP (l : List Pair) (d a : Int) : List Pair := if d = a then makeP l else mergeP (l.filter fun x => x.l != d) (makeP (renP (fun x => x.l == a) (fun x => ⟨x.v, d⟩) l))
def defP (l : List Pair) (d t : Int) : List Pair := addP ((l.filter fun x => x.v != d).filter fun x => x.l != t) ⟨d, t⟩
theorem Jtmw {l : List Pair} {f : Pair → Bool} (h : Srt l) : Srt (l.filter f) := List.Pairwise.filter f h
theorem Jtmt {l : List Pair} {d a : Int} (h : Srt l) : Srt (copyP l d a) := by
 unfold copyP; split
 ·exact Jtmz _
 ·exact Jtn0 (Jtmw h) (Jtmz _)
theorem Jtn1 {l : List Pair} {d a : Int} (h : Srt l) : Srt (moveP l d a) := by
 unfold moveP; split
 ·exact Jtmz _
 ·exact Jtn0 (Jtmw h) (Jtmz _)
theorem Jtmu {l : List Pair} {d t : Int} (h : Srt l) : Srt (defP l d t) := Jtmq (Jtmw (Jtmw h))
theorem Jtff {l : List Pair} {d a : Int} {q : Pair} : q ∈ copyP l d a ↔ (q ∈ l ∧ (d = a ∨ q.v ≠ d)) ∨ (q.v = d ∧ (⟨a, q.l⟩ : Pair) ∈ l) := by
 unfold copyP
 by_cases h : d = a
 ·subst h
  rw [if_pos rfl, Jtfi]
  constructor
  ·intro hq; exact .inl ⟨hq, .inl rfl⟩
  ·rintro (⟨hq, _⟩ | ⟨e, hq⟩)
   ·exact hq
   ·have : (⟨d, q.l⟩ : Pair) = q := Jt88 e.symm rfl
    rw [this] at hq; exact hq
 ·rw [if_neg h, Jtfj, Jtfi, Jtfo, List.mem_filter]
  constructor
  ·rintro (⟨h1, h2⟩ | ⟨p, h1, h2, rfl⟩)
   ·exact .inl ⟨h1, .inr (by simpa using h2)⟩
   ·refine .inr ⟨rfl, ?_⟩
    have e : p.v = a := by simpa using h2
    have : (⟨a, p.l⟩ : Pair) = p := Jt88 e.symm rfl
    simpa [this] using h1
  ·rintro (⟨h1, h2⟩ | ⟨h1, h2⟩)
   ·exact .inl ⟨h1, by simpa using h2.resolve_left h⟩
   ·exact .inr ⟨_, h2, by simp, Jt88 h1.symm rfl⟩
theorem Jtfk {l : List Pair} {d a : Int} {q : Pair} : q ∈ moveP l d a ↔ (q ∈ l ∧ (d = a ∨ q.l ≠ d)) ∨ (q.l = d ∧ (⟨q.v, a⟩ : Pair) ∈ l) := by
 unfold moveP
 by_cases h : d = a
 ·subst h
  rw [if_pos rfl, Jtfi]
  constructor
  ·intro hq; exact .inl ⟨hq, .inl rfl⟩
  ·rintro (⟨hq, _⟩ | ⟨e, hq⟩)
   ·exact hq
   ·have : (⟨q.v, d⟩ : Pair) = q := Jt88 rfl e.symm
    rw [this] at hq; exact hq
 ·rw [if_neg h, Jtfj, Jtfi, Jtfo, List.mem_filter]
  constructor
  ·rintro (⟨h1, h2⟩ | ⟨p, h1, h2, rfl⟩)
   ·exact .inl ⟨h1, .inr (by simpa using h2)⟩
   ·refine .inr ⟨rfl, ?_⟩
    have e : p.l = a := by simpa using h2
    have : (⟨p.v, a⟩ : Pair) = p := Jt88 rfl e.symm
    simpa [this] using h1
  ·rintro (⟨h1, h2⟩ | ⟨h1, h2⟩)
   ·exact .inl ⟨h1, by simpa using h2.resolve_left h⟩
   ·exact .inr ⟨_, h2, by simp, Jt88 rfl h1.symm⟩
theorem Jtfg {l : List Pair} {d t : Int} {q : Pair} : q ∈ defP l d t ↔ q = ⟨d, t⟩ ∨ (q ∈ l ∧ q.v ≠ d ∧ q.l ≠ t) := by
 unfold defP
 rw [Jtfe, List.mem_filter, List.mem_filter]
 simp [and_assoc]
def rcStep (d a : Int) (out : List Pair) (x : Pair) : List Pair :=
 if x.v = a then addP (if d = a ∨ x.v ≠ d then addP out x else out) ⟨d, x.l⟩ else (if d = a ∨ x.v ≠ d then addP out x else out)
theorem Jtik {d a : Int} {out : List Pair} {x : Pair} (h3 : x.v = a) (h2 : d = a ∨ x.v ≠ d) : rcStep d a out x = addP (addP out x) ⟨d, x.l⟩ := by unfold rcStep; rw [if_pos h3, if_pos h2]
theorem Jtij {d a : Int} {out : List Pair} {x : Pair} (h3 : x.v = a) (h2 : ¬ (d = a ∨ x.v ≠ d)) : rcStep d a out x = addP out ⟨d, x.l⟩ := by unfold rcStep; rw [if_pos h3, if_neg h2]
theorem Jtih {d a : Int} {out : List Pair} {x : Pair} (h3 : ¬ x.v = a) (h2 : d = a ∨ x.v ≠ d) : rcStep d a out x = addP out x := by unfold rcStep; rw [if_neg h3, if_pos h2]
theorem Jtig {d a : Int} {out : List Pair} {x : Pair} (h3 : ¬ x.v = a) (h2 : ¬ (d = a ∨ x.v ≠ d)) : rcStep d a out x = out := by unfold rcStep; rw [if_neg h3, if_neg h2]
def rcopyP (l : List Pair) (d a : Int) : List Pair := l.foldl (rcStep d a) []
def rmStep (d a : Int) (out : List Pair) (x : Pair) : List Pair :=
 if x.l = a then addP (if d = a ∨ x.l ≠ d then addP out x else out) ⟨x.v, d⟩ else (if d = a ∨ x.l ≠ d then addP out x else out)
theorem Jtkl {d a : Int} {out : List Pair} {x : Pair} (h3 : x.l = a) (h2 : d = a ∨ x.l ≠ d) : rmStep d a out x = addP (addP out x) ⟨x.v, d⟩ := by unfold rmStep; rw [if_pos h3, if_pos h2]
theorem Jtkk {d a : Int} {out : List Pair} {x : Pair} (h3 : x.l = a) (h2 : ¬ (d = a ∨ x.l ≠ d)) : rmStep d a out x = addP out ⟨x.v, d⟩ := by unfold rmStep; rw [if_pos h3, if_neg h2]
theorem Jtki {d a : Int} {out : List Pair} {x : Pair} (h3 : ¬ x.l = a) (h2 : d = a ∨ x.l ≠ d) : rmStep d a out x = addP out x := by unfold rmStep; rw [if_neg h3, if_pos h2]
theorem Jtkh {d a : Int} {out : List Pair} {x : Pair} (h3 : ¬ x.l = a) (h2 : ¬ (d = a ∨ x.l ≠ d)) : rmStep d a out x = out := by unfold rmStep; rw [if_neg h3, if_neg h2]
def rmoveP (l : List Pair) (d a : Int) : List Pair := l.foldl (rmStep d a) []
def rdStep (d t : Int) (out : List Pair) (x : Pair) : List Pair := if x.v ≠ d ∧ x.l ≠ t then addP out x else out
def rdefP (l : List Pair) (d t : Int) : List Pair := l.foldl (rdStep d t) [⟨d, t⟩]
theorem Jt9a {α β : Type} {f : β → α → β} {l : List α} {z : β} {k : Nat} (h : k < l.length) : (l.take (k + 1)).foldl f z = f ((l.take k).foldl f z) l[k] := by
 rw [List.take_add_one, List.getElem?_eq_getElem h, List.foldl_append]; rfl
theorem Jtii (d a : Int) (out : List Pair) (x : Pair) : (rcStep d a out x).length ≤ out.length + 2 := by
 have h1 := Jt4j out x
 have h5 := Jt4j (addP out x) ⟨d, x.l⟩
 have h6 := Jt4j out ⟨d, x.l⟩
 by_cases h2 : d = a ∨ x.v ≠ d <;> by_cases h3 : x.v = a
 ·rw [Jtik h3 h2]; omega
 ·rw [Jtih h3 h2]; omega
 ·rw [Jtij h3 h2]; omega
 ·rw [Jtig h3 h2]; omega
theorem Jtkj (d a : Int) (out : List Pair) (x : Pair) : (rmStep d a out x).length ≤ out.length + 2 := by
 have h1 := Jt4j out x
 have h5 := Jt4j (addP out x) ⟨x.v, d⟩
 have h6 := Jt4j out ⟨x.v, d⟩
 by_cases h2 : d = a ∨ x.l ≠ d <;> by_cases h3 : x.l = a
 ·rw [Jtkl h3 h2]; omega
 ·rw [Jtki h3 h2]; omega
 ·rw [Jtkk h3 h2]; omega
 ·rw [Jtkh h3 h2]; omega
theorem Jt97 {f : List Pair → Pair → List Pair} (hf : ∀ o x, (f o x).length ≤ o.length + 2) (l z : List Pair) : (l.foldl f z).length ≤ z.length + 2 * l.length := by
 induction l generalizing z with
 | nil => simp
 | cons x l ih => have h1 := ih (f z x); have h2 := hf z x; simp only [List.foldl_cons, List.length_cons]; omega
theorem Jtmx {f : List Pair → Pair → List Pair} (hf : ∀ o x, Srt o → Srt (f o x)) (l z : List Pair) (hz : Srt z) : Srt (l.foldl f z) := by
 induction l generalizing z with
 | nil => exact hz
 | cons x l ih => exact ih _ (hf z x hz)
theorem Jtfh {f : List Pair → Pair → List Pair} {R : Pair → Pair → Prop} (hf : ∀ o x q, q ∈ f o x ↔ q ∈ o ∨ R x q) (l z : List Pair) (q : Pair) : q ∈ l.foldl f z ↔ q ∈ z ∨ ∃ x ∈ l, R x q := by
 induction l generalizing z with
 | nil => simp
 | cons x l ih => rw [List.foldl_cons, ih, hf]; simp [or_assoc]
theorem Jtil {l : List Pair} {d a : Int} (h : Srt l) : rcopyP l d a = copyP l d a := by
 refine Jtmv (Jtmx (fun o x ho => ?_) l [] List.Pairwise.nil) (Jtmt h) fun q => ?_
 ·have h1 := Jtmq (p := x) ho
  by_cases h2 : d = a ∨ x.v ≠ d <;> by_cases h3 : x.v = a
  ·rw [Jtik h3 h2]; exact Jtmq h1
  ·rw [Jtih h3 h2]; exact h1
  ·rw [Jtij h3 h2]; exact Jtmq ho
  ·rw [Jtig h3 h2]; exact ho
 ·unfold rcopyP
  rw [Jtfh (R := fun x q => ((d = a ∨ x.v ≠ d) ∧ q = x) ∨ (x.v = a ∧ q = ⟨d, x.l⟩)) (fun o x q => ?_), Jtff]
  ·simp only [List.not_mem_nil, false_or]
   constructor
   ·rintro ⟨x, hx, ⟨h1, rfl⟩ | ⟨h1, rfl⟩⟩
    ·exact .inl ⟨hx, h1⟩
    ·exact .inr ⟨rfl, by rw [show (⟨a, x.l⟩ : Pair) = x from Jt88 h1.symm rfl]; exact hx⟩
   ·rintro (⟨h1, h2⟩ | ⟨h1, h2⟩)
    ·exact ⟨q, h1, .inl ⟨h2, rfl⟩⟩
    ·exact ⟨_, h2, .inr ⟨rfl, Jt88 h1 rfl⟩⟩
  ·by_cases h2 : d = a ∨ x.v ≠ d <;> by_cases h3 : x.v = a
   ·rw [Jtik h3 h2, Jtfe, Jtfe, eq_true h2, eq_true h3, true_and, true_and]
    constructor <;> rintro (h | h | h) <;> simp [h]
   ·rw [Jtih h3 h2, Jtfe, eq_true h2, eq_false h3, true_and, false_and, or_false, or_comm]
   ·rw [Jtij h3 h2, Jtfe, eq_false h2, eq_true h3, true_and, false_and, false_or, or_comm]
   ·rw [Jtig h3 h2, eq_false h2, eq_false h3, false_and, false_and, false_or, or_false]
theorem Jtkm {l : List Pair} {d a : Int} (h : Srt l) : rmoveP l d a = moveP l d a := by
 refine Jtmv (Jtmx (fun o x ho => ?_) l [] List.Pairwise.nil) (Jtn1 h) fun q => ?_
 ·have h1 := Jtmq (p := x) ho
  by_cases h2 : d = a ∨ x.l ≠ d <;> by_cases h3 : x.l = a
  ·rw [Jtkl h3 h2]; exact Jtmq h1
  ·rw [Jtki h3 h2]; exact h1
  ·rw [Jtkk h3 h2]; exact Jtmq ho
  ·rw [Jtkh h3 h2]; exact ho
 ·unfold rmoveP
  rw [Jtfh (R := fun x q => ((d = a ∨ x.l ≠ d) ∧ q = x) ∨ (x.l = a ∧ q = ⟨x.v, d⟩)) (fun o x q => ?_), Jtfk]
  ·simp only [List.not_mem_nil, false_or]
   constructor
   ·rintro ⟨x, hx, ⟨h1, rfl⟩ | ⟨h1, rfl⟩⟩
    ·exact .inl ⟨hx, h1⟩
    ·exact .inr ⟨rfl, by rw [show (⟨x.v, a⟩ : Pair) = x from Jt88 rfl h1.symm]; exact hx⟩
   ·rintro (⟨h1, h2⟩ | ⟨h1, h2⟩)
    ·exact ⟨q, h1, .inl ⟨h2, rfl⟩⟩
    ·exact ⟨_, h2, .inr ⟨rfl, Jt88 rfl h1⟩⟩
  ·by_cases h2 : d = a ∨ x.l ≠ d <;> by_cases h3 : x.l = a
   ·rw [Jtkl h3 h2, Jtfe, Jtfe, eq_true h2, eq_true h3, true_and, true_and]
    constructor <;> rintro (h | h | h) <;> simp [h]
   ·rw [Jtki h3 h2, Jtfe, eq_true h2, eq_false h3, true_and, false_and, or_false, or_comm]
   ·rw [Jtkk h3 h2, Jtfe, eq_false h2, eq_true h3, true_and, false_and, false_or, or_comm]
   ·rw [Jtkh h3 h2, eq_false h2, eq_false h3, false_and, false_and, false_or, or_false]
theorem Jtin {l : List Pair} {d t : Int} (h : Srt l) : rdefP l d t = defP l d t := by
 refine Jtmv (Jtmx (fun o x ho => ?_) l _ (List.pairwise_singleton _ _)) (Jtmu h) fun q => ?_
 ·unfold rdStep; split
  ·exact Jtmq ho
  ·exact ho
 ·unfold rdefP
  rw [Jtfh (R := fun x q => (x.v ≠ d ∧ x.l ≠ t) ∧ q = x) (fun o x q => ?_), Jtfg, List.mem_singleton]
  ·constructor
   ·rintro (h1 | ⟨x, hx, h1, rfl⟩)
    ·exact .inl h1
    ·exact .inr ⟨hx, h1⟩
   ·rintro (h1 | ⟨h1, h2⟩)
    ·exact .inl h1
    ·exact .inr ⟨q, h1, h2, rfl⟩
  ·unfold rdStep
   by_cases h2 : x.v ≠ d ∧ x.l ≠ t <;> simp only [h2, if_true, if_false, Jtfe, true_and, false_and, or_false, and_self, not_false_eq_true, ne_eq]
   constructor <;> (intro hh; rcases hh with hh | hh <;> simp_all)
section
end
section
end
section
end
section
end
theorem Jt8o {l : List Pair} {f : Pair → Bool} {k : Nat} (h : k < l.length) : (l.take (k + 1)).filter f = if f l[k] = true then (l.take k).filter f ++ [l[k]] else (l.take k).filter f := by
 rw [List.take_add_one, List.getElem?_eq_getElem h, List.filter_append]
 cases hf : f l[k] <;> simp [hf]
section
theorem Jthp {P : Program} {p : Nums} (A : All P p) (x : Pair) (v : Int) : Jt3o P p.pairset_DropV_1 [x.av, .ptr 0 0] [.mem [AI v]] fun o H' => o = .ret (AB (x.v != v)) ∧ H' = [.mem [AI v]] := by
 refine A.pairset_DropV_1.run rfl fun R hR => ?_
 (simp (maxSteps := 1000000) [Jtbq, Pair.av])
 exact hR _ _ (Jt3t _ (AB (x.v != v)) [.mem [AI v]] rfl (by (exact wkA)) ⟨rfl, rfl⟩)
theorem Jthm {P : Program} {p : Nums} (A : All P p) (x : Pair) (v : Int) : Jt3o P p.pairset_DropL_1 [x.av, .ptr 0 0] [.mem [AI v]] fun o H' => o = .ret (AB (x.l != v)) ∧ H' = [.mem [AI v]] := by
 refine A.pairset_DropL_1.run rfl fun R hR => ?_
 (simp (maxSteps := 1000000) [Jtbo, Pair.av])
 exact hR _ _ (Jt3t _ (AB (x.l != v)) [.mem [AI v]] rfl (by (exact wkA)) ⟨rfl, rfl⟩)
theorem Jthy {P : Program} {p : Nums} (A : All P p) (l : List Pair) (f : Nat) (v : Int) (keep : Pair → Bool) (h0 : l.length < 1000000) (hok : okFn P f = true)
  (hf : ∀ x : Pair, Jt3o P f [x.av, .ptr 0 0] [.mem [AI v]] fun o H' => o = .ret (AB (keep x)) ∧ H' = [.mem [AI v]]) :
  Jt3o P p.pairset_filter [.d (pairsD l), .fn (.func f) [] [.ptr 0 0]] [.mem [AI v]] fun o H' => o = .ret (.own 2 ((l.filter keep).map Pair.row)) ∧ H' = [.mem [AI v]] := by
 refine A.pairset_filter.run rfl fun R hR => ?_
 (simp (maxSteps := 1000000) [Jtbw, pairsD])
 refine Jt1y (n := l.length) (by rfl) (by rfl) (by omega) (by omega) (by decide) (by rfl) ?_
 (simp (maxSteps := 1000000) [])
 refine Jt9 (fun k : Nat => ⟨[(13, AI k), (12, AI l.length), (11, .d (.sl (l.map Pair.row))), (5, .own 2 (((l.take k).filter keep).map Pair.row)), (4, .nils), (1, .fn (.func f) [] [.ptr 0 0])], [.mem [AI v]]⟩) (fun k => k ≤ l.length) (fun k => l.length - k) 0 (by simp) (by simp only [List.take_zero, List.filter_nil, List.map_nil]; (exact wkA)) ?_
 intro k hk N hN
 (simp (maxSteps := 1000000) [])
 ((first | refine Xc (fun h2 => ?_) (fun h2 => ?_) | refine Xo (fun h2 => ?_) (fun h2 => ?_)) <;> (try simp only [Xz, Xy] at h2))
 ·have hkl : k < l.length := by omega
  have hb : l[k]? = some l[k] := by simp
  have hw := Jtp7 (k := k) (by omega)
  have hs := Jt8o (f := keep) hkl
  have hl := List.length_filter_le keep (l.take k)
  rw [List.length_take] at hl
  obtain ⟨x, hx⟩ : ∃ x, x = l[k] := ⟨_, rfl⟩
  obtain ⟨F, hF⟩ : ∃ F, F = (l.take k).filter keep := ⟨_, rfl⟩
  have hN' := fun st' h => hN st' (k + 1) hkl h (by omega)
  rw [hs] at hN'
  rw [← hx, ← hF] at hN'
  rw [← hF] at hl ⊢
  rw [← hx] at hb
  (simp (maxSteps := 1000000) [h2, hb, Pair.row])
  refine ⟨f, [], [.ptr 0 0], [.agg [AI l[k].v, AI l[k].l]], rfl, hok, rfl, ?_⟩
  refine Jtu [0] (hf l[k]) (by decide) (by rfl) (by rfl) (by rfl) (by rfl) (by rfl) (by rfl) ?_
  rw [← hx]
  (simp (maxSteps := 1000000) [])
  cases hkx : keep x with
  | true =>
   rw [hkx, if_pos rfl] at hN'
   (simp (maxSteps := 1000000) [hkx])
   (refine Jt16 (by rfl) (by rfl) (by rfl) ?_ (by decide) ?_ ?_ ?_)
   ·simp
   ·simp; omega
   ·simp; omega
   (simp (maxSteps := 1000000) [hw])
   exact hN' _ (by simp [Pair.row]; (exact wkA))
  | false =>
   rw [hkx, if_neg (by simp)] at hN'
   (simp (maxSteps := 1000000) [hkx, hw])
   exact hN' _ (by (exact wkA))
 ·have hk' : k = l.length := by omega
  subst hk'
  (simp (maxSteps := 1000000) [])
  exact hR _ _ (Jt3t _ (.own 2 ((l.filter keep).map Pair.row)) [.mem [AI v]] rfl (by (exact wkA)) ⟨rfl, rfl⟩)
theorem Jthr {P : Program} {p : Nums} (A : All P p) (l : List Pair) (v : Int) (h0 : l.length < 1000000) : Jt3o P p.pairset_DropV [.d (pairsD l), AI v] [] fun o H' => o = .ret (.own 2 ((l.filter fun x => x.v != v).map Pair.row)) ∧ H' = [] := by
 refine A.pairset_DropV.run rfl fun R hR => ?_
 (simp (maxSteps := 1000000) [Jtbp, pairsD])
 refine Jtu [0] (Jthy A l p.pairset_DropV_1 v (fun x => x.v != v) h0 A.pairset_DropV_1.ok fun x => Jthp A x v) (by decide) (by rfl) (by rfl) (by rfl) (by rfl) (by rfl) (by rfl) ?_
 (simp (maxSteps := 1000000) [])
 exact hR _ _ (Jt3q _ _ rfl ⟨rfl, rfl⟩)
theorem Jtho {P : Program} {p : Nums} (A : All P p) (l : List Pair) (v : Int) (h0 : l.length < 1000000) : Jt3o P p.pairset_DropL [.d (pairsD l), AI v] [] fun o H' => o = .ret (.own 2 ((l.filter fun x => x.l != v).map Pair.row)) ∧ H' = [] := by
 refine A.pairset_DropL.run rfl fun R hR => ?_
 (simp (maxSteps := 1000000) [Jtbn, pairsD])
 refine Jtu [0] (Jthy A l p.pairset_DropL_1 v (fun x => x.l != v) h0 A.pairset_DropL_1.ok fun x => Jthm A x v) (by decide) (by rfl) (by rfl) (by rfl) (by rfl) (by rfl) (by rfl) ?_
 (simp (maxSteps := 1000000) [])
 exact hR _ _ (Jt3q _ _ rfl ⟨rfl, rfl⟩)
theorem Jthq {P : Program} {p : Nums} (A : All P p) (l : List Pair) (v : Int) (h0 : l.length < 1000000) : Jt3o P p.pairset_DropV [.d (pairsD l), AI v] [] fun o _ => o = .ret (.d (pairsD (l.filter fun x => x.v != v))) :=
 (Jthr A l v h0).unown.mono fun _ _ h => h.1
theorem Jthn {P : Program} {p : Nums} (A : All P p) (l : List Pair) (v : Int) (h0 : l.length < 1000000) : Jt3o P p.pairset_DropL [.d (pairsD l), AI v] [] fun o _ => o = .ret (.d (pairsD (l.filter fun x => x.l != v))) :=
 (Jtho A l v h0).unown.mono fun _ _ h => h.1
end
structure ClosOk (P : Program) (p : Nums) : Prop where
 ok1 : okFn P p.transfer_Copy_1 = true
 ok2 : okFn P p.transfer_Move_1 = true
 copy : ∀ (x : Pair) (d a : Int), Jt3o P p.transfer_Copy_1 [x.av, .ptr 0 0, .ptr 1 0] [.mem [AI d], .mem [AI a]] fun o H' => o = .ret (.tup [(⟨d, x.l⟩ : Pair).av, AB (x.v == a)]) ∧ H' = [.mem [AI d], .mem [AI a]]
 move : ∀ (x : Pair) (d a : Int), Jt3o P p.transfer_Move_1 [x.av, .ptr 0 0, .ptr 1 0] [.mem [AI d], .mem [AI a]] fun o H' => o = .ret (.tup [(⟨x.v, d⟩ : Pair).av, AB (x.l == a)]) ∧ H' = [.mem [AI d], .mem [AI a]]
section
theorem Jtoj {P : Program} {p : Nums} (A : All P p) (S : SortOk P p) (kept l : List Pair) (f : Nat) (d a : Int) (c : Pair → Bool) (g : Pair → Pair) (h0 : kept.length < 100000) (h1 : l.length < 100000) (hok : okFn P f = true)
  (hf : ∀ x : Pair, Jt3o P f [x.av, .ptr 0 0, .ptr 1 0] [.mem [AI d], .mem [AI a]] fun o H' => o = .ret (.tup [(g x).av, AB (c x)]) ∧ H' = [.mem [AI d], .mem [AI a]]) :
  Jt3o P p.transfer_rename [.d (pairsD kept), .d (pairsD l), .fn (.func f) [] [.ptr 0 0, .ptr 1 0]] [.mem [AI d], .mem [AI a]] fun o H' => o = .ret (.own 2 ((mergeP kept (makeP (renP c g l))).map Pair.row)) ∧ H' = [.mem [AI d], .mem [AI a]] := by
 refine A.transfer_rename.run rfl fun R hR => ?_
 (simp (maxSteps := 1000000) [Jtd4, pairsD])
 refine Jt9 (fun k : Nat => ⟨[(14, AI k), (13, AI l.length), (12, .d (.sl (l.map Pair.row))), (7, .own 2 ((renP c g (l.take k)).map Pair.row)), (6, .nils), (2, .fn (.func f) [] [.ptr 0 0, .ptr 1 0]), (0, .d (.sl (kept.map Pair.row)))], [.mem [AI d], .mem [AI a]]⟩) (fun k => k ≤ l.length) (fun k => l.length - k) 0 (by simp) (by simp only [List.take_zero, renP, List.filter_nil, List.map_nil]; (exact wkA)) ?_
 intro k hk N hN
 (simp (maxSteps := 1000000) [])
 ((first | refine Xc (fun h2 => ?_) (fun h2 => ?_) | refine Xo (fun h2 => ?_) (fun h2 => ?_)) <;> (try simp only [Xz, Xy] at h2))
 ·have hkl : k < l.length := by omega
  have hb : l[k]? = some l[k] := by simp
  have hw := Jtp7 (k := k) (by omega)
  have hs := Jtk8 (c := c) (f := g) hkl
  have hl := Jtk7 c g (l.take k)
  rw [List.length_take] at hl
  obtain ⟨x, hx⟩ : ∃ x, x = l[k] := ⟨_, rfl⟩
  obtain ⟨F, hF⟩ : ∃ F, F = renP c g (l.take k) := ⟨_, rfl⟩
  have hN' := fun st' h => hN st' (k + 1) hkl h (by omega)
  rw [hs] at hN'
  rw [← hx, ← hF] at hN'
  rw [← hF] at hl ⊢
  rw [← hx] at hb
  (simp (maxSteps := 1000000) [h2, hb, Pair.row])
  refine ⟨f, [], [.ptr 0 0, .ptr 1 0], [.agg [AI l[k].v, AI l[k].l]], rfl, hok, rfl, ?_⟩
  refine Jtu [0, 1] (hf l[k]) (by decide) (by rfl) (by rfl) (by rfl) (by rfl) (by rfl) (by rfl) ?_
  rw [← hx]
  obtain ⟨y, hy⟩ : ∃ y, y = g x := ⟨_, rfl⟩
  rw [← hy] at hN' ⊢
  (simp (maxSteps := 1000000) [Pair.av])
  cases hkx : c x with
  | true =>
   rw [hkx, if_pos rfl] at hN'
   (simp (maxSteps := 1000000) [hkx, Pair.av])
   (refine Jt16 (by rfl) (by rfl) (by rfl) ?_ (by decide) ?_ ?_ ?_)
   ·simp
   ·simp; omega
   ·simp; omega
   (simp (maxSteps := 1000000) [hw])
   exact hN' _ (by simp [Pair.row]; (exact wkA))
  | false =>
   rw [hkx, if_neg (by simp)] at hN'
   (simp (maxSteps := 1000000) [hkx, hw])
   exact hN' _ (by (exact wkA))
 ·have hk' : k = l.length := by omega
  subst hk'
  have hl := Jtk7 c g l
  have hm := Jtf2 (renP c g l)
  have hmk := Jthu A S (renP c g l) (by omega)
  have hun := (Jthx A kept (makeP (renP c g l)) (by omega) (by omega)).mono fun _ _ h => h.1
  obtain ⟨G, hG⟩ : ∃ G, G = renP c g l := ⟨_, rfl⟩
  obtain ⟨M, hM⟩ : ∃ M, M = makeP (renP c g l) := ⟨_, rfl⟩
  rw [← hM, ← hG] at hmk
  rw [← hM] at hun
  simp only [List.take_length]
  rw [← hG]
  (simp (maxSteps := 1000000) [])
  (refine Jts hmk (by rfl) (by rfl) ?_)
  (simp (maxSteps := 1000000) [pairsD])
  (refine Jts hun (by rfl) (by rfl) ?_)
  (simp (maxSteps := 1000000) [])
  exact hR _ _ (Jt3t _ (.own 2 ((mergeP kept M).map Pair.row)) [.mem [AI d], .mem [AI a]] rfl (by (exact wkA)) ⟨by rw [hM], rfl⟩)
theorem Jtoe {P : Program} {p : Nums} (A : All P p) (S : SortOk P p) (C : ClosOk P p) (l : List Pair) (d a : Int) (h0 : l.length < 100000) (hne : d ≠ a) : Jt3o P p.transfer_Copy [.d (pairsD l), AI d, AI a] [] fun o H' => o = .ret (.own 2 ((copyP l d a).map Pair.row)) ∧ H' = [] := by
 refine A.transfer_Copy.run rfl fun R hR => ?_
 (simp (maxSteps := 1000000) [Jtd1, pairsD, hne])
 (refine Jts (Jthq A l d (by omega)) (by rfl) (by rfl) ?_)
 have hl := List.length_filter_le (fun x : Pair => x.v != d) l
 have hrn := Jtoj A S (l.filter fun x => x.v != d) l p.transfer_Copy_1 d a (fun x => x.v == a) (fun x => ⟨d, x.l⟩) (by omega) h0 C.ok1 fun x => C.copy x d a
 have hc : copyP l d a = mergeP (l.filter fun x => x.v != d) (makeP (renP (fun x => x.v == a) (fun x => ⟨d, x.l⟩) l)) := by unfold copyP; rw [if_neg hne]
 rw [← hc] at hrn
 obtain ⟨K, hK⟩ : ∃ K, K = l.filter fun x => x.v != d := ⟨_, rfl⟩
 rw [← hK] at hrn ⊢
 (simp (maxSteps := 1000000) [pairsD])
 refine Jtu [0, 1] hrn (by decide) (by rfl) (by rfl) (by rfl) (by rfl) (by rfl) (by rfl) ?_
 (simp (maxSteps := 1000000) [])
 exact hR _ _ (Jt3q _ _ rfl ⟨rfl, rfl⟩)
theorem Jtod {P : Program} {p : Nums} (A : All P p) (S : SortOk P p) (C : ClosOk P p) (l : List Pair) (d a : Int) (h0 : l.length < 100000) : Jt3o P p.transfer_Copy [.d (pairsD l), AI d, AI a] [] fun o _ => o = .ret (.d (pairsD (copyP l d a))) := by
 by_cases hne : d = a
 ·refine A.transfer_Copy.run rfl fun R hR => ?_
  subst hne
  (simp (maxSteps := 1000000) [Jtd1, pairsD])
  have hc : copyP l d d = makeP l := by unfold copyP; rw [if_pos rfl]
  have hmk := Jthu A S l (by omega)
  rw [← hc] at hmk
  (refine Jts hmk (by rfl) (by rfl) ?_)
  (simp (maxSteps := 1000000) [pairsD])
  (first | exact hR _ _ FrA | exact hR _ _ FnA | exact hR _ _ (Xf (hq := by simp [AV.erase, AV.unview, pairsD]; done)))
 ·exact (Jtoe A S C l d a h0 hne).unown.mono fun _ _ h => h.1
theorem Jtoi {P : Program} {p : Nums} (A : All P p) (S : SortOk P p) (C : ClosOk P p) (l : List Pair) (d a : Int) (h0 : l.length < 100000) (hne : d ≠ a) : Jt3o P p.transfer_Move [.d (pairsD l), AI d, AI a] [] fun o H' => o = .ret (.own 2 ((moveP l d a).map Pair.row)) ∧ H' = [] := by
 refine A.transfer_Move.run rfl fun R hR => ?_
 (simp (maxSteps := 1000000) [Jtd3, pairsD, hne])
 (refine Jts (Jthn A l d (by omega)) (by rfl) (by rfl) ?_)
 have hl := List.length_filter_le (fun x : Pair => x.l != d) l
 have hrn := Jtoj A S (l.filter fun x => x.l != d) l p.transfer_Move_1 d a (fun x => x.l == a) (fun x => ⟨x.v, d⟩) (by omega) h0 C.ok2 fun x => C.move x d a
 have hc : moveP l d a = mergeP (l.filter fun x => x.l != d) (makeP (renP (fun x => x.l == a) (fun x => ⟨x.v, d⟩) l)) := by unfold moveP; rw [if_neg hne]
 rw [← hc] at hrn
 obtain ⟨K, hK⟩ : ∃ K, K = l.filter fun x => x.l != d := ⟨_, rfl⟩
 rw [← hK] at hrn ⊢
 (simp (maxSteps := 1000000) [pairsD])
 refine Jtu [0, 1] hrn (by decide) (by rfl) (by rfl) (by rfl) (by rfl) (by rfl) (by rfl) ?_
 (simp (maxSteps := 1000000) [])
 exact hR _ _ (Jt3q _ _ rfl ⟨rfl, rfl⟩)
theorem Jtoh {P : Program} {p : Nums} (A : All P p) (S : SortOk P p) (C : ClosOk P p) (l : List Pair) (d a : Int) (h0 : l.length < 100000) : Jt3o P p.transfer_Move [.d (pairsD l), AI d, AI a] [] fun o _ => o = .ret (.d (pairsD (moveP l d a))) := by
 by_cases hne : d = a
 ·refine A.transfer_Move.run rfl fun R hR => ?_
  subst hne
  (simp (maxSteps := 1000000) [Jtd3, pairsD])
  have hc : moveP l d d = makeP l := by unfold moveP; rw [if_pos rfl]
  have hmk := Jthu A S l (by omega)
  rw [← hc] at hmk
  (refine Jts hmk (by rfl) (by rfl) ?_)
  (simp (maxSteps := 1000000) [pairsD])
  (first | exact hR _ _ FrA | exact hR _ _ FnA | exact hR _ _ (Xf (hq := by simp [AV.erase, AV.unview, pairsD]; done)))
 ·exact (Jtoi A S C l d a h0 hne).unown.mono fun _ _ h => h.1
theorem Jtog {P : Program} {p : Nums} (A : All P p) (S : SortOk P p) (l : List Pair) (d t : Int) (h0 : l.length < 100000) (hs : Srt l) : Jt3o P p.transfer_Define [.d (pairsD l), AI d, AI t] [] fun o H' => o = .ret (.own 2 ((defP l d t).map Pair.row)) ∧ H' = [] := by
 refine A.transfer_Define.run rfl fun R hR => ?_
 (simp (maxSteps := 1000000) [Jtd2, pairsD])
 (refine Jts (Jthq A l d (by omega)) (by rfl) (by rfl) ?_)
 have hl := List.length_filter_le (fun x : Pair => x.v != d) l
 have hl2 := List.length_filter_le (fun x : Pair => x.l != t) (l.filter fun x : Pair => x.v != d)
 have h2 := Jthn A (l.filter fun x : Pair => x.v != d) t (by omega)
 have h3 := (Jthl A ((l.filter fun x => x.v != d).filter fun x => x.l != t) ⟨d, t⟩ (by omega) (Jtmw (Jtmw hs))).mono fun _ _ h => h.1
 have hc : addP ((l.filter fun x => x.v != d).filter fun x => x.l != t) ⟨d, t⟩ = defP l d t := rfl
 rw [hc] at h3
 obtain ⟨K, hK⟩ : ∃ K, K = l.filter fun x : Pair => x.v != d := ⟨_, rfl⟩
 rw [← hK] at h2 h3 ⊢
 obtain ⟨K2, hK2⟩ : ∃ K2, K2 = K.filter fun x : Pair => x.l != t := ⟨_, rfl⟩
 rw [← hK2] at h2 h3
 (simp (maxSteps := 1000000) [pairsD])
 (refine Jts h2 (by rfl) (by rfl) ?_)
 (simp (maxSteps := 1000000) [pairsD])
 (refine Jts h3 (by rfl) (by rfl) ?_)
 (simp (maxSteps := 1000000) [])
 exact hR _ _ (Jt3q _ _ rfl ⟨rfl, rfl⟩)
theorem Jtof {P : Program} {p : Nums} (A : All P p) (S : SortOk P p) (l : List Pair) (d t : Int) (h0 : l.length < 100000) (hs : Srt l) : Jt3o P p.transfer_Define [.d (pairsD l), AI d, AI t] [] fun o _ => o = .ret (.d (pairsD (defP l d t))) :=
 (Jtog A S l d t h0 hs).unown.mono fun _ _ h => h.1
end
theorem Jtim (d t : Int) (out : List Pair) (x : Pair) : (rdStep d t out x).length ≤ out.length + 2 := by
 have := Jt4j out x
 unfold rdStep; split <;> omega
section
theorem Jtj4 {P : Program} {p : Nums} (A : All P p) (l : List Pair) (d a : Int) (h0 : l.length < 100000) : Jt3o P p.ref12_Copy [.d (pairsD l), AI d, AI a] [] fun o _ => o = .ret (.d (pairsD (rcopyP l d a))) := by
 refine A.ref12_Copy.run rfl fun R hR => ?_
 (simp (maxSteps := 1000000) [Jtcc, pairsD])
 refine Jt9 (fun k : Nat => ⟨[(8, AI k), (7, .d (.sl ((rcopyP (l.take k) d a).map Pair.row))), (6, .nils), (2, AI a), (1, AI d), (0, .d (.sl (l.map Pair.row)))], []⟩) (fun k => k ≤ l.length) (fun k => l.length - k) 0 (by simp) (by simp only [List.take_zero, rcopyP, List.foldl_nil, List.map_nil]; (exact wkA)) ?_
 intro k hk N hN
 (simp (maxSteps := 1000000) [])
 ((first | refine Xc (fun h2 => ?_) (fun h2 => ?_) | refine Xo (fun h2 => ?_) (fun h2 => ?_)) <;> (try simp only [Xz, Xy] at h2))
 ·have hkl : k < l.length := by simpa using h2
  have hb : l[k]? = some l[k] := by simp
  have hw := Jtp7 (k := k) (by omega)
  have hs : rcopyP (l.take (k + 1)) d a = rcStep d a (rcopyP (l.take k) d a) l[k] := Jt9a hkl
  have hl : (rcopyP (l.take k) d a).length ≤ 2 * l.length := by
   have := Jt97 (Jtii d a) (l.take k) []; simp only [List.length_take, List.length_nil] at this; unfold rcopyP; omega
  have hN' := fun st' h => hN st' (k + 1) hkl h (by omega)
  rw [hs] at hN'
  obtain ⟨F, hF⟩ : ∃ F, F = rcopyP (l.take k) d a := ⟨_, rfl⟩
  rw [← hF] at hN' hl ⊢
  have hF1 := Jt4j F l[k]
  by_cases e1 : d = a
  ·subst e1
   (simp (maxSteps := 1000000) [h2, hb, Pair.row])
   (refine Jts (Jtj0 A F l[k] (by omega)) (by rfl) (by rfl) ?_)
   (simp (maxSteps := 1000000) [pairsD, hb, Pair.row])
   by_cases h3 : l[k].v = d
   ·rw [Jtik h3 (.inl rfl)] at hN'
    (simp (maxSteps := 1000000) [h3, hb, Pair.row])
    (refine Jts (Jtj0 A (addP F l[k]) ⟨d, l[k].l⟩ (by omega)) (by rfl) (by rfl) ?_)
    (simp (maxSteps := 1000000) [pairsD, hw])
    exact hN' _ (by (exact wkA))
   ·rw [Jtih h3 (.inl rfl)] at hN'
    (simp (maxSteps := 1000000) [h3, hw])
    exact hN' _ (by (exact wkA))
  ·by_cases h4 : l[k].v = d
   ·have h3 : ¬ l[k].v = a := fun h => e1 (h4.symm.trans h)
    have h5 : ¬ (d = a ∨ l[k].v ≠ d) := by rintro (h | h); exact e1 h; exact h h4
    rw [Jtig h3 h5] at hN'
    (simp (maxSteps := 1000000) [h2, e1, h4, h3, hb, Pair.row, hw])
    exact hN' _ (by (exact wkA))
   ·have h5 : d = a ∨ l[k].v ≠ d := .inr h4
    (simp (maxSteps := 1000000) [h2, e1, h4, hb, Pair.row])
    (refine Jts (Jtj0 A F l[k] (by omega)) (by rfl) (by rfl) ?_)
    (simp (maxSteps := 1000000) [pairsD, hb, Pair.row])
    by_cases h3 : l[k].v = a
    ·rw [Jtik h3 h5] at hN'
     (simp (maxSteps := 1000000) [h3, hb, Pair.row])
     (refine Jts (Jtj0 A (addP F l[k]) ⟨d, l[k].l⟩ (by omega)) (by rfl) (by rfl) ?_)
     (simp (maxSteps := 1000000) [pairsD, hw])
     exact hN' _ (by (exact wkA))
    ·rw [Jtih h3 h5] at hN'
     (simp (maxSteps := 1000000) [h3, hw])
     exact hN' _ (by (exact wkA))
 ·have hk' : k = l.length := by simp at h2; omega
  subst hk'
  (simp (maxSteps := 1000000) [])
  (first | exact hR _ _ FrA | exact hR _ _ FnA | exact hR _ _ (Xf (hq := by simp [AV.erase, AV.unview, List.take_length, pairsD]; done)))
theorem Jtj6 {P : Program} {p : Nums} (A : All P p) (l : List Pair) (d a : Int) (h0 : l.length < 100000) : Jt3o P p.ref12_Move [.d (pairsD l), AI d, AI a] [] fun o _ => o = .ret (.d (pairsD (rmoveP l d a))) := by
 refine A.ref12_Move.run rfl fun R hR => ?_
 (simp (maxSteps := 1000000) [Jtce, pairsD])
 refine Jt9 (fun k : Nat => ⟨[(8, AI k), (7, .d (.sl ((rmoveP (l.take k) d a).map Pair.row))), (6, .nils), (2, AI a), (1, AI d), (0, .d (.sl (l.map Pair.row)))], []⟩) (fun k => k ≤ l.length) (fun k => l.length - k) 0 (by simp) (by simp only [List.take_zero, rmoveP, List.foldl_nil, List.map_nil]; (exact wkA)) ?_
 intro k hk N hN
 (simp (maxSteps := 1000000) [])
 ((first | refine Xc (fun h2 => ?_) (fun h2 => ?_) | refine Xo (fun h2 => ?_) (fun h2 => ?_)) <;> (try simp only [Xz, Xy] at h2))
 ·have hkl : k < l.length := by simpa using h2
  have hb : l[k]? = some l[k] := by simp
  have hw := Jtp7 (k := k) (by omega)
  have hs : rmoveP (l.take (k + 1)) d a = rmStep d a (rmoveP (l.take k) d a) l[k] := Jt9a hkl
  have hl : (rmoveP (l.take k) d a).length ≤ 2 * l.length := by
   have := Jt97 (Jtkj d a) (l.take k) []; simp only [List.length_take, List.length_nil] at this; unfold rmoveP; omega
  have hN' := fun st' h => hN st' (k + 1) hkl h (by omega)
  rw [hs] at hN'
  obtain ⟨F, hF⟩ : ∃ F, F = rmoveP (l.take k) d a := ⟨_, rfl⟩
  rw [← hF] at hN' hl ⊢
  have hF1 := Jt4j F l[k]
  by_cases e1 : d = a
  ·subst e1
   (simp (maxSteps := 1000000) [h2, hb, Pair.row])
   (refine Jts (Jtj0 A F l[k] (by omega)) (by rfl) (by rfl) ?_)
   (simp (maxSteps := 1000000) [pairsD, hb, Pair.row])
   by_cases h3 : l[k].l = d
   ·rw [Jtkl h3 (.inl rfl)] at hN'
    (simp (maxSteps := 1000000) [h3, hb, Pair.row])
    (refine Jts (Jtj0 A (addP F l[k]) ⟨l[k].v, d⟩ (by omega)) (by rfl) (by rfl) ?_)
    (simp (maxSteps := 1000000) [pairsD, hw])
    exact hN' _ (by (exact wkA))
   ·rw [Jtki h3 (.inl rfl)] at hN'
    (simp (maxSteps := 1000000) [h3, hw])
    exact hN' _ (by (exact wkA))
  ·by_cases h4 : l[k].l = d
   ·have h3 : ¬ l[k].l = a := fun h => e1 (h4.symm.trans h)
    have h5 : ¬ (d = a ∨ l[k].l ≠ d) := by rintro (h | h); exact e1 h; exact h h4
    rw [Jtkh h3 h5] at hN'
    (simp (maxSteps := 1000000) [h2, e1, h4, h3, hb, Pair.row, hw])
    exact hN' _ (by (exact wkA))
   ·have h5 : d = a ∨ l[k].l ≠ d := .inr h4
    (simp (maxSteps := 1000000) [h2, e1, h4, hb, Pair.row])
    (refine Jts (Jtj0 A F l[k] (by omega)) (by rfl) (by rfl) ?_)
    (simp (maxSteps := 1000000) [pairsD, hb, Pair.row])
    by_cases h3 : l[k].l = a
    ·rw [Jtkl h3 h5] at hN'
     (simp (maxSteps := 1000000) [h3, hb, Pair.row])
     (refine Jts (Jtj0 A (addP F l[k]) ⟨l[k].v, d⟩ (by omega)) (by rfl) (by rfl) ?_)
     (simp (maxSteps := 1000000) [pairsD, hw])
     exact hN' _ (by (exact wkA))
    ·rw [Jtki h3 h5] at hN'
     (simp (maxSteps := 1000000) [h3, hw])
     exact hN' _ (by (exact wkA))
 ·have hk' : k = l.length := by simp at h2; omega
  subst hk'
  (simp (maxSteps := 1000000) [])
  (first | exact hR _ _ FrA | exact hR _ _ FnA | exact hR _ _ (Xf (hq := by simp [AV.erase, AV.unview, List.take_length, pairsD]; done)))
theorem Jtj5 {P : Program} {p : Nums} (A : All P p) (l : List Pair) (d t : Int) (h0 : l.length < 100000) : Jt3o P p.ref12_Define [.d (pairsD l), AI d, AI t] [] fun o _ => o = .ret (.d (pairsD (rdefP l d t))) := by
 refine A.ref12_Define.run rfl fun R hR => ?_
 (simp (maxSteps := 1000000) [Jtcd, pairsD])
 refine Jt9 (fun k : Nat => ⟨[(8, AI k), (7, .d (.sl ((rdefP (l.take k) d t).map Pair.row))), (6, .nils), (2, AI t), (1, AI d), (0, .d (.sl (l.map Pair.row)))], []⟩) (fun k => k ≤ l.length) (fun k => l.length - k) 0 (by simp) (by simp only [List.take_zero, rdefP, List.foldl_nil, List.map_nil, List.map_cons, Pair.row]; (exact wkA)) ?_
 intro k hk N hN
 (simp (maxSteps := 1000000) [])
 ((first | refine Xc (fun h2 => ?_) (fun h2 => ?_) | refine Xo (fun h2 => ?_) (fun h2 => ?_)) <;> (try simp only [Xz, Xy] at h2))
 ·have hkl : k < l.length := by simpa using h2
  have hb : l[k]? = some l[k] := by simp
  have hw := Jtp7 (k := k) (by omega)
  have hs : rdefP (l.take (k + 1)) d t = rdStep d t (rdefP (l.take k) d t) l[k] := Jt9a hkl
  have hl : (rdefP (l.take k) d t).length ≤ 2 * l.length + 1 := by
   have := Jt97 (Jtim d t) (l.take k) [⟨d, t⟩]; simp only [List.length_take, List.length_cons, List.length_nil] at this; unfold rdefP; omega
  have hN' := fun st' h => hN st' (k + 1) hkl h (by omega)
  rw [hs] at hN'
  obtain ⟨F, hF⟩ : ∃ F, F = rdefP (l.take k) d t := ⟨_, rfl⟩
  rw [← hF] at hN' hl ⊢
  by_cases h4 : l[k].v = d
  ·have h5 : ¬ (l[k].v ≠ d ∧ l[k].l ≠ t) := fun h => h.1 h4
   rw [rdStep, if_neg h5] at hN'
   (simp (maxSteps := 1000000) [h2, h4, hb, Pair.row, hw])
   exact hN' _ (by (exact wkA))
  ·by_cases h3 : l[k].l = t
   ·have h5 : ¬ (l[k].v ≠ d ∧ l[k].l ≠ t) := fun h => h.2 h3
    rw [rdStep, if_neg h5] at hN'
    (simp (maxSteps := 1000000) [h2, h4, h3, hb, Pair.row, hw])
    exact hN' _ (by (exact wkA))
   ·rw [rdStep, if_pos ⟨h4, h3⟩] at hN'
    (simp (maxSteps := 1000000) [h2, h4, h3, hb, Pair.row])
    (refine Jts (Jtj0 A F l[k] (by omega)) (by rfl) (by rfl) ?_)
    (simp (maxSteps := 1000000) [pairsD, hw])
    exact hN' _ (by (exact wkA))
 ·have hk' : k = l.length := by simp at h2; omega
  subst hk'
  (simp (maxSteps := 1000000) [])
  (first | exact hR _ _ FrA | exact hR _ _ FnA | exact hR _ _ (Xf (hq := by simp [AV.erase, AV.unview, List.take_length, pairsD]; done)))
end
section
end
section
end
section
end
section
end
section
end
def Jt5w (b : Bool) : List D := [.bool b]
def boolsD (l : List Bool) : D := .sl (l.map Jt5w)
def AU (n : Int) : AV := .d (.int .u8 n)
section
end
section
end
theorem HasT.bool_inv {d : D} (h : HasT .bool d) : ∃ b, d = .bool b := by
 cases h with
 | bool b => exact ⟨b, rfl⟩
theorem Jtom {n : Int} (hw : (Lit.int .u8 n).wf = true) : 0 ≤ n ∧ n < 256 := by
 simp [Lit.wf, IntKind.min, IntKind.max, IntKind.signed, IntKind.bits] at hw
 omega
theorem u8_of {d : D} (h : HasT (.int .u8) d) : ∃ n : Int, AV.d d = AU n ∧ (0 ≤ n ∧ n < 256) := by
 obtain ⟨n, rfl, hw⟩ := h.int_inv
 exact ⟨n, rfl, Jtom hw⟩
theorem Jt5x {d : D} (h : HasT (.sl [.bool]) d) : ∃ l : List Bool, AV.d d = .d (boolsD l) ∧ l.length ≤ maxLen := by
 obtain ⟨rows, rfl, hl, hr⟩ := h.sl_inv
 obtain ⟨l, rfl⟩ := Jtl3 (g := Jt5w) (fun r hr => by
  obtain ⟨_, _, rfl, h0, h⟩ := HasL.cons_inv hr
  obtain rfl := h.nil_inv
  obtain ⟨b, rfl⟩ := h0.bool_inv
  exact ⟨b, rfl⟩) hr
 exact ⟨l, rfl, by simpa using hl⟩
def isDig (c : UInt8) : Bool := decide (48 ≤ c.toNat) && decide (c.toNat ≤ 57)
def valD (ds : List UInt8) : Nat := ds.foldl (fun n c => 10 * n + (c.toNat - 48)) 0
def okD (ds : List UInt8) : Prop := ds ≠ [] ∧ (∀ c ∈ ds, isDig c = true) ∧ (ds.length ≤ 1 ∨ ds.head? ≠ some 48) ∧ valD ds < 1099511627776
instance (ds : List UInt8) : Decidable (okD ds) := by unfold okD; infer_instance
theorem Jtnw (k : Nat) : ((k : Int)).tdiv 2 = ((k / 2 : Nat) : Int) := rfl
theorem Jtnv (l : Int) (h0 : -9223372036854775808 ≤ l) (h1 : l ≤ 9223372036854775807) : IntKind.i64.wrap (l.tdiv 2) = l.tdiv 2 := by
 rcases Int.le_total 0 l with h | h
 ·obtain ⟨k, rfl⟩ := Int.eq_ofNat_of_zero_le h
  rw [Jtnw]; exact wrap_i64 (by omega) (by omega)
 ·obtain ⟨k, hk⟩ := Int.eq_ofNat_of_zero_le (show 0 ≤ -l by omega)
  have : l = -(k : Int) := by omega
  subst this
  rw [Int.neg_tdiv, Jtnw]; exact wrap_i64 (by omega) (by omega)
section
theorem Jteg {P : Program} {p : Nums} (A : All P p) (n : Int) (h0 : -1000000000000000 ≤ n) (h1 : n ≤ 1000000000000000) : Jt3o P p.location_Slot [AI n] [] fun o _ => o = .ret (AI (2 * n + 1)) := by
 refine A.location_Slot.run rfl fun R hR => ?_
 have hw : IntKind.i64.wrap (2 * n) = 2 * n := wrap_i64 (by omega) (by omega)
 have hw2 : IntKind.i64.wrap (2 * n + 1) = 2 * n + 1 := wrap_i64 (by omega) (by omega)
 (simp (maxSteps := 1000000) [Jtb7, hw, hw2])
 (first | exact hR _ _ FrA | exact hR _ _ FnA)
theorem Jtee {P : Program} {p : Nums} (A : All P p) (l : Int) : Jt3o P p.location_IsSlot [AI l] [] fun o _ => o = .ret (AB (l.tmod 2 == 1)) := by
 refine A.location_IsSlot.run rfl fun R hR => ?_
 (simp (maxSteps := 1000000) [Jtb5])
 (first | exact hR _ _ FrA | exact hR _ _ FnA)
theorem Jted {P : Program} {p : Nums} (A : All P p) (l : Int) (h0 : -9223372036854775808 ≤ l) (h1 : l ≤ 9223372036854775807) : Jt3o P p.location_Index [AI l] [] fun o _ => o = .ret (AI (l.tdiv 2)) := by
 refine A.location_Index.run rfl fun R hR => ?_
 have hw := Jtnv l h0 h1
 (simp (maxSteps := 1000000) [Jtb4, hw])
 (first | exact hR _ _ FrA | exact hR _ _ FnA)
def rngZ (l r s : Int) : Bool := if l.tmod 2 = 1 then decide (0 ≤ l) && decide (l.tdiv 2 < s) else decide (0 ≤ l) && decide (l.tdiv 2 < r)
theorem Jtec {P : Program} {p : Nums} (A : All P p) (l r s : Int) (h0 : -9223372036854775808 ≤ l) (h1 : l ≤ 9223372036854775807) : Jt3o P p.location_InRange [AI l, AI r, AI s] [] fun o _ => o = .ret (AB (rngZ l r s)) := by
 refine A.location_InRange.run rfl fun R hR => ?_
 (simp (maxSteps := 1000000) [Jtb3])
 (refine Jts (Jtee A l) (by rfl) (by rfl) ?_)
 (simp (maxSteps := 1000000) [])
 by_cases hm : l.tmod 2 = 1 <;> by_cases hl : 0 ≤ l
 ·(simp (maxSteps := 1000000) [hm, hl])
  (refine Jts (Jted A l h0 h1) (by rfl) (by rfl) ?_)
  (simp (maxSteps := 1000000) [])
  (first | exact hR _ _ FrA | exact hR _ _ FnA | exact hR _ _ (Xf (hq := by simp [AV.erase, AV.unview, rngZ, hm, hl]; done)))
 ·(simp (maxSteps := 1000000) [hm, hl])
  (first | exact hR _ _ FrA | exact hR _ _ FnA | exact hR _ _ (Xf (hq := by simp [AV.erase, AV.unview, rngZ, hm, hl]; done)))
 ·(simp (maxSteps := 1000000) [hm, hl])
  (refine Jts (Jted A l h0 h1) (by rfl) (by rfl) ?_)
  (simp (maxSteps := 1000000) [])
  (first | exact hR _ _ FrA | exact hR _ _ FnA | exact hR _ _ (Xf (hq := by simp [AV.erase, AV.unview, rngZ, hm, hl]; done)))
 ·(simp (maxSteps := 1000000) [hm, hl])
  (first | exact hR _ _ FrA | exact hR _ _ FnA | exact hR _ _ (Xf (hq := by simp [AV.erase, AV.unview, rngZ, hm, hl]; done)))
end
structure Mach where (op d a b imm dst src : Int)
 deriving DecidableEq, Inhabited
def Mach.row (m : Mach) : List D := [I m.op, I m.d, I m.a, I m.b, I m.imm, I m.dst, I m.src]
def Mach.av (m : Mach) : AV := .agg [AI m.op, AI m.d, AI m.a, AI m.b, AI m.imm, AI m.dst, AI m.src]
def regZ (n : Int) : Int := IntKind.i64.wrap (2 * n)
section
theorem Jtef {P : Program} {p : Nums} (A : All P p) (x : Int) : Jt3o P p.location_Reg [AI x] [] fun o _ => o = .ret (AI (regZ x)) := by
 refine A.location_Reg.run rfl fun R hR => ?_
 (simp (maxSteps := 1000000) [Jtb6])
 (first | exact hR _ _ FrA | exact hR _ _ FnA)
def knownZ (x : Int) : Bool := decide (1 ≤ x ∧ x ≤ 18)
theorem Jth8 {P : Program} {p : Nums} (A : All P p) (x : Int) : Jt3o P p.opcode_known [AI x] [] fun o _ => o = .ret (AB (knownZ x)) := by
 refine A.opcode_known.run rfl fun R hR => ?_
 (simp (maxSteps := 1000000) [Jtbl])
 ((first | refine Xc (fun hx => ?_) (fun hx => ?_) | refine Xo (fun hx => ?_) (fun hx => ?_)) <;> (try simp only [Xz, Xy] at hx))
 ·(simp (maxSteps := 1000000) [hx])
  (first | exact hR _ _ FrA | exact hR _ _ FnA | exact hR _ _ (Xf (hq := by simp [AV.erase, AV.unview, knownZ, hx]; done)))
 ·(simp (maxSteps := 1000000) [hx])
  (first | exact hR _ _ FrA | exact hR _ _ FnA | exact hR _ _ (Xf (hq := by simp [AV.erase, AV.unview, knownZ, hx]; done)))
structure Shape where (D A B Imm : Bool)
def shapeZ (x : Int) : Shape :=
 if knownZ x = false then ⟨false, false, false, false⟩ else if x = 1 then ⟨true, false, false, true⟩ else if x ≤ 4 then ⟨true, true, false, false⟩ else if x ≤ 16 then ⟨true, true, true, false⟩ else ⟨false, x == 17, false, false⟩
theorem Jth6 {P : Program} {p : Nums} (A : All P p) (x : Int) : Jt3o P p.opcode_Of [AI x] [] fun o _ => o = .ret (.tup [.agg [AB (shapeZ x).D, AB (shapeZ x).A, AB (shapeZ x).B, AB (shapeZ x).Imm], AB (knownZ x)]) := by
 refine A.opcode_Of.run rfl fun R hR => ?_
 (simp (maxSteps := 1000000) [Jtbj])
 (refine Jts (Jth8 A _) (by rfl) (by rfl) ?_)
 (simp (maxSteps := 1000000) [])
 ((first | refine Xc (fun h1 => ?_) (fun h1 => ?_) | refine Xo (fun h1 => ?_) (fun h1 => ?_)) <;> (try simp only [Xz, Xy] at h1))
 ·(simp (maxSteps := 1000000) [h1])
  (first | exact hR _ _ FrA | exact hR _ _ FnA | exact hR _ _ (Xf (hq := by simp [AV.erase, AV.unview, shapeZ, h1]; done)))
 ·(simp (maxSteps := 1000000) [h1])
  ((first | refine Xc (fun h2 => ?_) (fun h2 => ?_) | refine Xo (fun h2 => ?_) (fun h2 => ?_)) <;> (try simp only [Xz, Xy] at h2))
  ·subst h2
   (simp (maxSteps := 1000000) [])
   (first | exact hR _ _ FrA | exact hR _ _ FnA | exact hR _ _ (Xf (hq := by simp [AV.erase, AV.unview, shapeZ, h1]; done)))
  ·(simp (maxSteps := 1000000) [h2])
   ((first | refine Xc (fun h3 => ?_) (fun h3 => ?_) | refine Xo (fun h3 => ?_) (fun h3 => ?_)) <;> (try simp only [Xz, Xy] at h3))
   ·(simp (maxSteps := 1000000) [h3])
    (first | exact hR _ _ FrA | exact hR _ _ FnA | exact hR _ _ (Xf (hq := by simp [AV.erase, AV.unview, shapeZ, h1, h2, h3]; done)))
   ·(simp (maxSteps := 1000000) [h3])
    ((first | refine Xc (fun h4 => ?_) (fun h4 => ?_) | refine Xo (fun h4 => ?_) (fun h4 => ?_)) <;> (try simp only [Xz, Xy] at h4))
    ·(simp (maxSteps := 1000000) [h4])
     (first | exact hR _ _ FrA | exact hR _ _ FnA | exact hR _ _ (Xf (hq := by simp [AV.erase, AV.unview, shapeZ, h1, h2, h3, h4]; done)))
    ·(simp (maxSteps := 1000000) [h4])
     (first | exact hR _ _ FrA | exact hR _ _ FnA | exact hR _ _ (Xf (hq := by simp [AV.erase, AV.unview, shapeZ, h1, h2, h3, h4]; done)))
def Jtm6 (x : Int) : Bool := knownZ x && x != 18
theorem Jth7 {P : Program} {p : Nums} (A : All P p) (x : Int) : Jt3o P p.opcode_Source [AI x] [] fun o _ => o = .ret (AB (Jtm6 x)) := by
 refine A.opcode_Source.run rfl fun R hR => ?_
 (simp (maxSteps := 1000000) [Jtbk])
 (refine Jts (Jth8 A _) (by rfl) (by rfl) ?_)
 (simp (maxSteps := 1000000) [])
 ((first | refine Xc (fun h1 => ?_) (fun h1 => ?_) | refine Xo (fun h1 => ?_) (fun h1 => ?_)) <;> (try simp only [Xz, Xy] at h1))
 ·(simp (maxSteps := 1000000) [h1])
  (first | exact hR _ _ FrA | exact hR _ _ FnA | exact hR _ _ (Xf (hq := by simp [AV.erase, AV.unview, h1, Jtm6]; done)))
 ·(simp (maxSteps := 1000000) [h1])
  (first | exact hR _ _ FrA | exact hR _ _ FnA | exact hR _ _ (Xf (hq := by simp [AV.erase, AV.unview, h1, Jtm6]; done)))
def inZ (x n : Int) : Bool := decide (0 ≤ x ∧ x < n)
def usesA (x : Int) : Bool := decide (2 ≤ x ∧ x ≤ 17)
theorem Jtiq {P : Program} {p : Nums} (A : All P p) (x : Int) : Jt3o P p.ref05_UsesA [AI x] [] fun o _ => o = .ret (AB (usesA x)) := by
 refine A.ref05_UsesA.run rfl fun R hR => ?_
 (simp (maxSteps := 1000000) [Jtby])
 ((first | refine Xc (fun hx => ?_) (fun hx => ?_) | refine Xo (fun hx => ?_) (fun hx => ?_)) <;> (try simp only [Xz, Xy] at hx))
 ·(simp (maxSteps := 1000000) [hx])
  (first | exact hR _ _ FrA | exact hR _ _ FnA | exact hR _ _ (Xf (hq := by simp [AV.erase, AV.unview, usesA, hx]; done)))
 ·(simp (maxSteps := 1000000) [hx])
  (first | exact hR _ _ FrA | exact hR _ _ FnA | exact hR _ _ (Xf (hq := by simp [AV.erase, AV.unview, usesA, hx]; done)))
def usesB (x : Int) : Bool := decide (5 ≤ x ∧ x ≤ 16)
theorem Jtir {P : Program} {p : Nums} (A : All P p) (x : Int) : Jt3o P p.ref05_UsesB [AI x] [] fun o _ => o = .ret (AB (usesB x)) := by
 refine A.ref05_UsesB.run rfl fun R hR => ?_
 (simp (maxSteps := 1000000) [Jtbz])
 ((first | refine Xc (fun hx => ?_) (fun hx => ?_) | refine Xo (fun hx => ?_) (fun hx => ?_)) <;> (try simp only [Xz, Xy] at hx))
 ·(simp (maxSteps := 1000000) [hx])
  (first | exact hR _ _ FrA | exact hR _ _ FnA | exact hR _ _ (Xf (hq := by simp [AV.erase, AV.unview, usesB, hx]; done)))
 ·(simp (maxSteps := 1000000) [hx])
  (first | exact hR _ _ FrA | exact hR _ _ FnA | exact hR _ _ (Xf (hq := by simp [AV.erase, AV.unview, usesB, hx]; done)))
def usesD (x : Int) : Bool := decide (1 ≤ x ∧ x ≤ 16)
theorem Jtis {P : Program} {p : Nums} (A : All P p) (x : Int) : Jt3o P p.ref05_UsesD [AI x] [] fun o _ => o = .ret (AB (usesD x)) := by
 refine A.ref05_UsesD.run rfl fun R hR => ?_
 (simp (maxSteps := 1000000) [Jtc0])
 ((first | refine Xc (fun hx => ?_) (fun hx => ?_) | refine Xo (fun hx => ?_) (fun hx => ?_)) <;> (try simp only [Xz, Xy] at hx))
 ·(simp (maxSteps := 1000000) [hx])
  (first | exact hR _ _ FrA | exact hR _ _ FnA | exact hR _ _ (Xf (hq := by simp [AV.erase, AV.unview, usesD, hx]; done)))
 ·(simp (maxSteps := 1000000) [hx])
  (first | exact hR _ _ FrA | exact hR _ _ FnA | exact hR _ _ (Xf (hq := by simp [AV.erase, AV.unview, usesD, hx]; done)))
end
structure Field where (value : Int) (used : Bool) (bound : Int)
def Field.row (f : Field) : List D := [I f.value, .bool f.used, I f.bound]
def Field.bad (f : Field) : Bool := f.used && (decide (f.value < 0) || decide (f.bound ≤ f.value))
def Jtox (fs : List Field) : Bool := !fs.any Field.bad
section
theorem Jtmf {P : Program} {p : Nums} (A : All P p) (fs : List Field) (hl : fs.length < 1000000) : Jt3o P p.source_within [.d (.sl (fs.map Field.row))] [] fun o _ => o = .ret (AB (Jtox fs)) := by
 refine A.source_within.run rfl fun R hR => ?_
 (simp (maxSteps := 1000000) [Jtd0])
 refine Jt9 (fun k : Nat => ⟨[(7, AI k), (6, AI fs.length), (5, .d (.sl (fs.map Field.row))), (2, AB false)], []⟩) (fun k => k ≤ fs.length ∧ (fs.take k).any Field.bad = false) (fun k => fs.length - k) 0 (by simp) (by (exact wkA)) ?_
 rintro k ⟨hk, hno⟩ N hN
 (simp (maxSteps := 1000000) [])
 ((first | refine Xc (fun h1 => ?_) (fun h1 => ?_) | refine Xo (fun h1 => ?_) (fun h1 => ?_)) <;> (try simp only [Xz, Xy] at h1))
 ·have hkl : k < fs.length := by simpa using h1
  have hf : fs[k]? = some fs[k] := by simp [hkl]
  have hw := Jtp7 (k := k) (by omega)
  have htk : fs.take (k + 1) = fs.take k ++ [fs[k]] := by rw [List.take_add_one, hf]; rfl
  have hany : Jtox fs = true → fs[k].bad = false := by
   intro h; simp [Jtox] at h; exact h _ (List.getElem_mem hkl)
  have next : ∀ env H, fs[k].bad = false → Wk 0 ⟨env, H⟩ ⟨[(7, AI ((k + 1 : Nat) : Int)), (6, AI fs.length), (5, .d (.sl (fs.map Field.row))), (2, AB false)], []⟩ → N ⟨env, H⟩ :=
   fun env H hb hw => hN _ (k + 1) ⟨hkl, by rw [htk, List.any_append, hno]; simp [hb]⟩ hw (by omega)
  have stop : fs[k].bad = true → Jtox fs = false := by
   intro h; cases hz : Jtox fs with
   | false => rfl
   | true => rw [hany hz] at h; cases h
  (simp (maxSteps := 1000000) [h1, hf, Field.row])
  ((first | refine Xc (fun h2 => ?_) (fun h2 => ?_) | refine Xo (fun h2 => ?_) (fun h2 => ?_)) <;> (try simp only [Xz, Xy] at h2))
  ·(simp (maxSteps := 1000000) [h2])
   ((first | refine Xc (fun h3 => ?_) (fun h3 => ?_) | refine Xo (fun h3 => ?_) (fun h3 => ?_)) <;> (try simp only [Xz, Xy] at h3))
   ·(simp (maxSteps := 1000000) [h2, h3])
    (first | exact hR _ _ FrA | exact hR _ _ FnA | exact hR _ _ (Xf (hq := by simp [AV.erase, AV.unview, stop (by simp [Field.bad, h2, h3])]; done)))
   ·(simp (maxSteps := 1000000) [h2, h3])
    ((first | refine Xc (fun h4 => ?_) (fun h4 => ?_) | refine Xo (fun h4 => ?_) (fun h4 => ?_)) <;> (try simp only [Xz, Xy] at h4))
    ·(simp (maxSteps := 1000000) [h2, h3, h4])
     (first | exact hR _ _ FrA | exact hR _ _ FnA | exact hR _ _ (Xf (hq := by simp [AV.erase, AV.unview, stop (by simp [Field.bad, h2, h3, h4])]; done)))
    ·(simp (maxSteps := 1000000) [h2, h3, h4, hw])
     exact next _ _ (by simp [Field.bad, h2, h3, h4]) (by (exact wkA))
  ·(simp (maxSteps := 1000000) [h2, hw])
   exact next _ _ (by simp [Field.bad, h2]) (by (exact wkA))
 ·(simp (maxSteps := 1000000) [h1])
  have hk' : k = fs.length := by simp at h1; omega
  subst hk'
  rw [List.take_length] at hno
  (first | exact hR _ _ FrA | exact hR _ _ FnA | exact hR _ _ (Xf (hq := by simp [AV.erase, AV.unview, Jtox, hno]; done)))
end
def Field.odd (f : Field) : Bool := !f.used && f.value != 0
def blankZ (fs : List Field) : Bool := !fs.any Field.odd
structure Instr where (op d a b imm : Int)
 deriving DecidableEq, Inhabited
def Instr.row (i : Instr) : List D := [I i.op, I i.d, I i.a, I i.b, I i.imm]
def Instr.av (i : Instr) : AV := .agg [AI i.op, AI i.d, AI i.a, AI i.b, AI i.imm]
structure Term where (kind a to els : Int)
 deriving DecidableEq, Inhabited
def Term.row (i : Term) : List D := [I i.kind, I i.a, I i.to, I i.els]
def Term.av (i : Term) : AV := .agg [AI i.kind, AI i.a, AI i.to, AI i.els]
def flds (i : Instr) (regs : Int) : List Field := [⟨i.d, (shapeZ i.op).D, regs⟩, ⟨i.a, (shapeZ i.op).A, regs⟩, ⟨i.b, (shapeZ i.op).B, regs⟩]
def Jtml (i : Instr) (regs : Int) : Int :=
 if Jtm6 i.op = false then 8 else if Jtox (flds i regs) = false then 9 else if blankZ (flds i regs) = false then 12 else if (shapeZ i.op).Imm = false ∧ i.imm ≠ 0 then 12 else 0
section
theorem Jtmc {P : Program} {p : Nums} (A : All P p) (fs : List Field) (hl : fs.length < 1000000) : Jt3o P p.source_blank [.d (.sl (fs.map Field.row))] [] fun o _ => o = .ret (AB (blankZ fs)) := by
 refine A.source_blank.run rfl fun R hR => ?_
 (simp (maxSteps := 1000000) [Jtcy])
 refine Jt9 (fun k : Nat => ⟨[(7, AI k), (6, AI fs.length), (5, .d (.sl (fs.map Field.row))), (2, AB false)], []⟩) (fun k => k ≤ fs.length ∧ (fs.take k).any Field.odd = false) (fun k => fs.length - k) 0 (by simp) (by (exact wkA)) ?_
 rintro k ⟨hk, hno⟩ N hN
 (simp (maxSteps := 1000000) [])
 ((first | refine Xc (fun h1 => ?_) (fun h1 => ?_) | refine Xo (fun h1 => ?_) (fun h1 => ?_)) <;> (try simp only [Xz, Xy] at h1))
 ·have hkl : k < fs.length := by simpa using h1
  have hf : fs[k]? = some fs[k] := by simp [hkl]
  have hw := Jtp7 (k := k) (by omega)
  have htk : fs.take (k + 1) = fs.take k ++ [fs[k]] := by rw [List.take_add_one, hf]; rfl
  have hany : blankZ fs = true → fs[k].odd = false := by
   intro h; simp [blankZ] at h; exact h _ (List.getElem_mem hkl)
  have next : ∀ env H, fs[k].odd = false → Wk 0 ⟨env, H⟩ ⟨[(7, AI ((k + 1 : Nat) : Int)), (6, AI fs.length), (5, .d (.sl (fs.map Field.row))), (2, AB false)], []⟩ → N ⟨env, H⟩ :=
   fun env H hb hw => hN _ (k + 1) ⟨hkl, by rw [htk, List.any_append, hno]; simp [hb]⟩ hw (by omega)
  have stop : fs[k].odd = true → blankZ fs = false := by
   intro h; cases hz : blankZ fs with
   | false => rfl
   | true => rw [hany hz] at h; cases h
  (simp (maxSteps := 1000000) [h1, hf, Field.row])
  ((first | refine Xc (fun h2 => ?_) (fun h2 => ?_) | refine Xo (fun h2 => ?_) (fun h2 => ?_)) <;> (try simp only [Xz, Xy] at h2))
  ·(simp (maxSteps := 1000000) [h2])
   ((first | refine Xc (fun h3 => ?_) (fun h3 => ?_) | refine Xo (fun h3 => ?_) (fun h3 => ?_)) <;> (try simp only [Xz, Xy] at h3))
   ·(simp (maxSteps := 1000000) [h2, h3])
    (first | exact hR _ _ FrA | exact hR _ _ FnA | exact hR _ _ (Xf (hq := by simp [AV.erase, AV.unview, stop (by simp [Field.odd, h2, h3])]; done)))
   ·(simp (maxSteps := 1000000) [h2, h3, hw])
    exact next _ _ (by simp [Field.odd, h2, h3]) (by (exact wkA))
  ·(simp (maxSteps := 1000000) [h2, hw])
   exact next _ _ (by simp [Field.odd, h2]) (by (exact wkA))
 ·(simp (maxSteps := 1000000) [h1])
  have hk' : k = fs.length := by simp at h1; omega
  subst hk'
  rw [List.take_length] at hno
  (first | exact hR _ _ FrA | exact hR _ _ FnA | exact hR _ _ (Xf (hq := by simp [AV.erase, AV.unview, blankZ, hno]; done)))
theorem Jtm9 {P : Program} {p : Nums} (A : All P p) (i : Instr) (regs : Int) : Jt3o P p.source_Instr [i.av, AI regs] [] fun o _ => o = .ret (AI (Jtml i regs)) := by
 have hflds : AV.d (.sl [[I i.d, .bool (shapeZ i.op).D, I regs], [I i.a, .bool (shapeZ i.op).A, I regs], [I i.b, .bool (shapeZ i.op).B, I regs]]) = .d (.sl ((flds i regs).map Field.row)) := rfl
 refine A.source_Instr.run rfl fun R hR => ?_
 (simp (maxSteps := 1000000) [Jtcv, Instr.av])
 (refine Jts (Jth6 A _) (by rfl) (by rfl) ?_)
 (simp (maxSteps := 1000000) [])
 (refine Jts (Jth7 A _) (by rfl) (by rfl) ?_)
 (simp (maxSteps := 1000000) [])
 ((first | refine Xc (fun h1 => ?_) (fun h1 => ?_) | refine Xo (fun h1 => ?_) (fun h1 => ?_)) <;> (try simp only [Xz, Xy] at h1))
 ·(simp (maxSteps := 1000000) [h1])
  (first | exact hR _ _ FrA | exact hR _ _ FnA | exact hR _ _ (Xf (hq := by simp [AV.erase, AV.unview, Jtml, h1]; done)))
 ·(simp (maxSteps := 1000000) [h1])
  (refine Jts (Jtmf A (flds i regs) (by simp [flds])) (by rfl) (by rfl) ?_)
  (simp (maxSteps := 1000000) [])
  ((first | refine Xc (fun h2 => ?_) (fun h2 => ?_) | refine Xo (fun h2 => ?_) (fun h2 => ?_)) <;> (try simp only [Xz, Xy] at h2))
  ·(simp (maxSteps := 1000000) [h2])
   (first | exact hR _ _ FrA | exact hR _ _ FnA | exact hR _ _ (Xf (hq := by simp [AV.erase, AV.unview, Jtml, h1, h2]; done)))
  ·(simp (maxSteps := 1000000) [h2])
   (refine Jts (Jtmc A (flds i regs) (by simp [flds])) (by rfl) (by rfl) ?_)
   (simp (maxSteps := 1000000) [])
   ((first | refine Xc (fun h3 => ?_) (fun h3 => ?_) | refine Xo (fun h3 => ?_) (fun h3 => ?_)) <;> (try simp only [Xz, Xy] at h3))
   ·(simp (maxSteps := 1000000) [h3])
    (first | exact hR _ _ FrA | exact hR _ _ FnA | exact hR _ _ (Xf (hq := by simp [AV.erase, AV.unview, Jtml, h1, h2, h3]; done)))
   ·(simp (maxSteps := 1000000) [h3])
    ((first | refine Xc (fun h4 => ?_) (fun h4 => ?_) | refine Xo (fun h4 => ?_) (fun h4 => ?_)) <;> (try simp only [Xz, Xy] at h4))
    ·(simp (maxSteps := 1000000) [h4])
     ((first | refine Xc (fun h5 => ?_) (fun h5 => ?_) | refine Xo (fun h5 => ?_) (fun h5 => ?_)) <;> (try simp only [Xz, Xy] at h5))
     ·(simp (maxSteps := 1000000) [h5])
      (first | exact hR _ _ FrA | exact hR _ _ FnA | exact hR _ _ (Xf (hq := by simp [AV.erase, AV.unview, Jtml, h1, h2, h3, h4, h5]; done)))
     ·(simp (maxSteps := 1000000) [h5])
      (first | exact hR _ _ FrA | exact hR _ _ FnA | exact hR _ _ (Xf (hq := by simp [AV.erase, AV.unview, Jtml, h1, h2, h3, h4, h5]; done)))
    ·(simp (maxSteps := 1000000) [h4])
     (first | exact hR _ _ FrA | exact hR _ _ FnA | exact hR _ _ (Xf (hq := by simp [AV.erase, AV.unview, Jtml, h1, h2, h3, h4]; done)))
def fldsT (t : Term) (regs blocks : Int) : List Field := [⟨t.a, t.kind != 1, regs⟩, ⟨t.to, t.kind != 3, blocks⟩, ⟨t.els, t.kind == 2, blocks⟩]
def Jtmp (t : Term) (regs blocks : Int) : Int :=
 if t.kind < 1 ∨ 3 < t.kind then 16 else if Jtox ((fldsT t regs blocks).take 1) = false then 9 else if Jtox ((fldsT t regs blocks).drop 1) = false then 11 else if blankZ (fldsT t regs blocks) = false then 12 else 0
theorem Jtmb {P : Program} {p : Nums} (A : All P p) (t : Term) (regs blocks : Int) : Jt3o P p.source_Term [t.av, AI regs, AI blocks] [] fun o _ => o = .ret (AI (Jtmp t regs blocks)) := by
 refine A.source_Term.run rfl fun R hR => ?_
 (simp (maxSteps := 1000000) [Jtcx, Term.av])
 ((first | refine Xc (fun h1 => ?_) (fun h1 => ?_) | refine Xo (fun h1 => ?_) (fun h1 => ?_)) <;> (try simp only [Xz, Xy] at h1))
 ·(simp (maxSteps := 1000000) [h1])
  (first | exact hR _ _ FrA | exact hR _ _ FnA | exact hR _ _ (Xf (hq := by simp [AV.erase, AV.unview, Jtmp, h1]; done)))
 ·(simp (maxSteps := 1000000) [h1])
  ((first | refine Xc (fun h2 => ?_) (fun h2 => ?_) | refine Xo (fun h2 => ?_) (fun h2 => ?_)) <;> (try simp only [Xz, Xy] at h2))
  ·(simp (maxSteps := 1000000) [h2])
   (first | exact hR _ _ FrA | exact hR _ _ FnA | exact hR _ _ (Xf (hq := by simp [AV.erase, AV.unview, Jtmp, h1, h2]; done)))
  ·(simp (maxSteps := 1000000) [h2])
   (refine Jts (Jtmf A ((fldsT t regs blocks).take 1) (by simp [fldsT])) (by rfl) (by rfl) ?_)
   (simp (maxSteps := 1000000) [])
   ((first | refine Xc (fun h3 => ?_) (fun h3 => ?_) | refine Xo (fun h3 => ?_) (fun h3 => ?_)) <;> (try simp only [Xz, Xy] at h3))
   ·(simp (maxSteps := 1000000) [h3])
    (first | exact hR _ _ FrA | exact hR _ _ FnA | exact hR _ _ (Xf (hq := by simp [AV.erase, AV.unview, Jtmp, h1, h2, h3]; done)))
   ·(simp (maxSteps := 1000000) [h3])
    (refine Jts (Jtmf A ((fldsT t regs blocks).drop 1) (by simp [fldsT])) (by rfl) (by rfl) ?_)
    (simp (maxSteps := 1000000) [])
    ((first | refine Xc (fun h4 => ?_) (fun h4 => ?_) | refine Xo (fun h4 => ?_) (fun h4 => ?_)) <;> (try simp only [Xz, Xy] at h4))
    ·(simp (maxSteps := 1000000) [h4])
     (first | exact hR _ _ FrA | exact hR _ _ FnA | exact hR _ _ (Xf (hq := by simp [AV.erase, AV.unview, Jtmp, h1, h2, h3, h4]; done)))
    ·(simp (maxSteps := 1000000) [h4])
     (refine Jts (Jtmc A (fldsT t regs blocks) (by simp [fldsT])) (by rfl) (by rfl) ?_)
     (simp (maxSteps := 1000000) [])
     ((first | refine Xc (fun h5 => ?_) (fun h5 => ?_) | refine Xo (fun h5 => ?_) (fun h5 => ?_)) <;> (try simp only [Xz, Xy] at h5))
     ·(simp (maxSteps := 1000000) [h5])
      (first | exact hR _ _ FrA | exact hR _ _ FnA | exact hR _ _ (Xf (hq := by simp [AV.erase, AV.unview, Jtmp, h1, h2, h3, h4, h5]; done)))
     ·(simp (maxSteps := 1000000) [h5])
      (first | exact hR _ _ FrA | exact hR _ _ FnA | exact hR _ _ (Xf (hq := by simp [AV.erase, AV.unview, Jtmp, h1, h2, h3, h4, h5]; done)))
end
structure Block where (code : List Instr) (term : Term)
 deriving Inhabited
def Block.row (b : Block) : List D := [.sl (b.code.map Instr.row), I b.term.kind, I b.term.a, I b.term.to, I b.term.els]
def Block.av (b : Block) : AV := .agg [.d (.sl (b.code.map Instr.row)), AI b.term.kind, AI b.term.a, AI b.term.to, AI b.term.els]
structure Func where (args regs : Int) (blocks : List Block)
def Func.av (f : Func) : AV := .agg [AI f.args, AI f.regs, .d (.sl (f.blocks.map Block.row))]
def codeN (bs : List Block) : Nat := (bs.map fun b => b.code.length).sum
theorem Jt72 {bs : List Block} {k : Nat} {b : Block} (h : bs[k]? = some b) : codeN (bs.take (k + 1)) = codeN (bs.take k) + b.code.length := by
 rw [codeN, List.take_add_one, h]; simp [codeN]
theorem Jt6z (a b : List Block) : codeN (a ++ b) = codeN a + codeN b := by simp [codeN]
theorem Jt71 (bs : List Block) (k : Nat) : codeN (bs.take k) ≤ codeN bs := by
 have h := Jt6z (bs.take k) (bs.drop k)
 rw [List.take_append_drop] at h; omega
def Jt8p : List Int → Int
 | [] => 0
 | e :: es => if e ≠ 0 then e else Jt8p es
theorem Jt8t {es : List Int} {k : Nat} (h : ∀ e ∈ es.take k, e = 0) : Jt8p es = Jt8p (es.drop k) := by
 induction k generalizing es with
 | zero => rfl
 | succ k ih =>
  cases es with
  | nil => rfl
  | cons e es =>
   have : e = 0 := h e (by simp)
   simp only [Jt8p, this, ne_eq, not_true_eq_false, if_false, List.drop_succ_cons]
   exact ih fun x hx => h x (by simp [hx])
theorem Jt8s {es : List Int} {k : Nat} {e : Int} (h : ∀ e ∈ es.take k, e = 0) (hk : es[k]? = some e) (he : e ≠ 0) : Jt8p es = e := by
 rw [Jt8t h]
 have hlt := (List.getElem?_eq_some_iff.1 hk).1
 rw [List.drop_eq_getElem_cons hlt]
 have : es[k] = e := (List.getElem?_eq_some_iff.1 hk).2
 simp [Jt8p, this, he]
theorem Jt8q {es : List Int} (h : ∀ e ∈ es, e = 0) : Jt8p es = 0 := by
 rw [Jt8t (k := es.length) (by simpa using h)]; simp [Jt8p]
def Jtmj (b : Block) (regs blocks : Int) : Int :=
 let e := Jt8p (b.code.map (Jtml · regs))
 if e ≠ 0 then e else Jtmp b.term regs blocks
theorem take_zero {α : Type} {f : α → Int} {l : List α} {k : Nat} {x : α} (h : ∀ e ∈ (l.map f).take k, e = 0) (hx : l[k]? = some x) (h0 : f x = 0) : ∀ e ∈ (l.map f).take (k + 1), e = 0 := by
 intro e he
 rw [List.take_add_one, List.mem_append] at he
 rcases he with he | he
 ·exact h e he
 ·rw [List.getElem?_map, hx] at he; simp at he; rw [he]; exact h0
section
theorem Jtm8 {P : Program} {p : Nums} (A : All P p) (f : Func) (h0 : f.blocks.length < 1000000000) (h1 : codeN f.blocks < 1000000000) : Jt3o P p.source_Code [f.av] [] fun o _ => o = .ret (AI (codeN f.blocks)) := by
 refine A.source_Code.run rfl fun R hR => ?_
 (simp (maxSteps := 1000000) [Jtcu, Func.av])
 refine Jt9 (fun k : Nat => ⟨[(9, AI k), (8, AI f.blocks.length), (7, .d (.sl (f.blocks.map Block.row))), (3, AI (codeN (f.blocks.take k)))], []⟩) (fun k => k ≤ f.blocks.length) (fun k => f.blocks.length - k) 0 (by simp) (by (exact wkA)) ?_
 intro k hk N hN
 (simp (maxSteps := 1000000) [])
 ((first | refine Xc (fun h2 => ?_) (fun h2 => ?_) | refine Xo (fun h2 => ?_) (fun h2 => ?_)) <;> (try simp only [Xz, Xy] at h2))
 ·have hkl : k < f.blocks.length := by simpa using h2
  have hb : f.blocks[k]? = some f.blocks[k] := by simp [hkl]
  have hw := Jtp7 (k := k) (by omega)
  have hs := Jt72 hb
  have hle := Jt71 f.blocks (k + 1)
  have hw2 := Jtp6 (a := codeN (f.blocks.take k)) (b := f.blocks[k].code.length) (by omega)
  rw [← hs] at hw2
  (simp (maxSteps := 1000000) [h2, List.getElem?_map, hb, Block.row, hw, hw2])
  exact hN _ (k + 1) hkl (by (exact wkA)) (by omega)
 ·have hk' : k = f.blocks.length := by simp at h2; omega
  subst hk'
  (simp (maxSteps := 1000000) [])
  (first | exact hR _ _ FrA | exact hR _ _ FnA | exact hR _ _ (Xf (hq := by simp [AV.erase, AV.unview, List.take_length]; done)))
theorem Jtmd {P : Program} {p : Nums} (A : All P p) (b : Block) (regs blocks : Int) (h0 : b.code.length < 1000000000) : Jt3o P p.source_block [b.av, AI regs, AI blocks] [] fun o _ => o = .ret (AI (Jtmj b regs blocks)) := by
 refine A.source_block.run rfl fun R hR => ?_
 (simp (maxSteps := 1000000) [Jtcz, Block.av])
 refine Jt9 (fun k : Nat => ⟨[(13, AI k), (12, AI b.code.length), (11, .d (.sl (b.code.map Instr.row))), (3, .ptr 0 0), (1, AI regs), (2, AI blocks)], [.mem [.d (.sl (b.code.map Instr.row)), AI b.term.kind, AI b.term.a, AI b.term.to, AI b.term.els]]⟩)
  (fun k => k ≤ b.code.length ∧ ∀ e ∈ (b.code.map (Jtml · regs)).take k, e = 0) (fun k => b.code.length - k) 0 (by simp) (by (exact wkA)) ?_
 rintro k ⟨hk, hz⟩ N hN
 (simp (maxSteps := 1000000) [])
 ((first | refine Xc (fun h2 => ?_) (fun h2 => ?_) | refine Xo (fun h2 => ?_) (fun h2 => ?_)) <;> (try simp only [Xz, Xy] at h2))
 ·have hkl : k < b.code.length := by simpa using h2
  have hb : b.code[k]? = some b.code[k] := by simp [hkl]
  have hw := Jtp7 (k := k) (by omega)
  (simp (maxSteps := 1000000) [h2, hb, Instr.row])
  (refine Jts (Jtm9 A b.code[k] regs) (by rfl) (by rfl) ?_)
  (simp (maxSteps := 1000000) [])
  ((first | refine Xc (fun h3 => ?_) (fun h3 => ?_) | refine Xo (fun h3 => ?_) (fun h3 => ?_)) <;> (try simp only [Xz, Xy] at h3))
  ·(simp (maxSteps := 1000000) [h3])
   have : Jt8p (b.code.map (Jtml · regs)) = Jtml b.code[k] regs := Jt8s hz (by simp [hkl]) h3
   (first | exact hR _ _ FrA | exact hR _ _ FnA | exact hR _ _ (Xf (hq := by simp [AV.erase, AV.unview, Jtmj, this, h3]; done)))
  ·(simp (maxSteps := 1000000) [h3, hw])
   exact hN _ (k + 1) ⟨hkl, take_zero hz hb (by simpa using h3)⟩ (by (exact wkA)) (by omega)
 ·have hk' : k = b.code.length := by simp at h2; omega
  subst hk'
  have hfe : Jt8p (b.code.map (Jtml · regs)) = 0 := Jt8q (by rw [List.take_of_length_le (by simp)] at hz; exact hz)
  (simp (maxSteps := 1000000) [])
  (refine Jts (Jtmb A b.term regs blocks) (by rfl) (by rfl) ?_)
  (simp (maxSteps := 1000000) [])
  (first | exact hR _ _ FrA | exact hR _ _ FnA | exact hR _ _ (Xf (hq := by simp [AV.erase, AV.unview, Jtmj, hfe]; done)))
def Jtmk (f : Func) : Int :=
 if f.args < 0 ∨ f.regs < f.args then 9 else if 1048576 < f.regs then 6 else if f.blocks.length = 0 then 14 else if 1048576 < f.blocks.length ∨ 1048576 < codeN f.blocks then 6
 else Jt8p (f.blocks.map fun b => Jtmj b f.regs f.blocks.length)
theorem Jtm7 {P : Program} {p : Nums} (A : All P p) (f : Func) (h0 : f.blocks.length < 1000000000) (h1 : codeN f.blocks < 1000000000) : Jt3o P p.source_Check [f.av] [] fun o _ => o = .ret (AI (Jtmk f)) := by
 refine A.source_Check.run rfl fun R hR => ?_
 (simp (maxSteps := 1000000) [Jtct, Func.av])
 ((first | refine Xc (fun a1 => ?_) (fun a1 => ?_) | refine Xo (fun a1 => ?_) (fun a1 => ?_)) <;> (try simp only [Xz, Xy] at a1))
 ·(simp (maxSteps := 1000000) [a1])
  have e : Jtmk f = 9 := by unfold Jtmk; repeat (first | rw [if_pos (by omega)] | rw [if_neg (by omega)])
  (first | exact hR _ _ FrA | exact hR _ _ FnA | exact hR _ _ (Xf (hq := by simp [AV.erase, AV.unview, e]; done)))
 (simp (maxSteps := 1000000) [a1])
 ((first | refine Xc (fun a2 => ?_) (fun a2 => ?_) | refine Xo (fun a2 => ?_) (fun a2 => ?_)) <;> (try simp only [Xz, Xy] at a2))
 ·(simp (maxSteps := 1000000) [a2])
  have e : Jtmk f = 9 := by unfold Jtmk; repeat (first | rw [if_pos (by omega)] | rw [if_neg (by omega)])
  (first | exact hR _ _ FrA | exact hR _ _ FnA | exact hR _ _ (Xf (hq := by simp [AV.erase, AV.unview, e]; done)))
 (simp (maxSteps := 1000000) [a2])
 ((first | refine Xc (fun a3 => ?_) (fun a3 => ?_) | refine Xo (fun a3 => ?_) (fun a3 => ?_)) <;> (try simp only [Xz, Xy] at a3))
 ·(simp (maxSteps := 1000000) [a3])
  have e : Jtmk f = 6 := by unfold Jtmk; repeat (first | rw [if_pos (by omega)] | rw [if_neg (by omega)])
  (first | exact hR _ _ FrA | exact hR _ _ FnA | exact hR _ _ (Xf (hq := by simp [AV.erase, AV.unview, e]; done)))
 (simp (maxSteps := 1000000) [a3])
 ((first | refine Xc (fun a4 => ?_) (fun a4 => ?_) | refine Xo (fun a4 => ?_) (fun a4 => ?_)) <;> (try simp only [Xz, Xy] at a4))
 ·(simp (maxSteps := 1000000) [a4])
  have e : Jtmk f = 14 := by unfold Jtmk; repeat (first | rw [if_pos (by omega)] | rw [if_neg (by omega)])
  (first | exact hR _ _ FrA | exact hR _ _ FnA | exact hR _ _ (Xf (hq := by simp [AV.erase, AV.unview, e]; done)))
 (simp (maxSteps := 1000000) [a4])
 ((first | refine Xc (fun a5 => ?_) (fun a5 => ?_) | refine Xo (fun a5 => ?_) (fun a5 => ?_)) <;> (try simp only [Xz, Xy] at a5))
 ·(simp (maxSteps := 1000000) [a5])
  have e : Jtmk f = 6 := by unfold Jtmk; repeat (first | rw [if_pos (by omega)] | rw [if_neg (by omega)])
  (first | exact hR _ _ FrA | exact hR _ _ FnA | exact hR _ _ (Xf (hq := by simp [AV.erase, AV.unview, e]; done)))
 (simp (maxSteps := 1000000) [a5])
 (refine Jts (Jtm8 A f h0 h1) (by rfl) (by rfl) ?_)
 (simp (maxSteps := 1000000) [])
 ((first | refine Xc (fun a6 => ?_) (fun a6 => ?_) | refine Xo (fun a6 => ?_) (fun a6 => ?_)) <;> (try simp only [Xz, Xy] at a6))
 ·(simp (maxSteps := 1000000) [a6])
  have e : Jtmk f = 6 := by unfold Jtmk; repeat (first | rw [if_pos (by omega)] | rw [if_neg (by omega)])
  (first | exact hR _ _ FrA | exact hR _ _ FnA | exact hR _ _ (Xf (hq := by simp [AV.erase, AV.unview, e]; done)))
 (simp (maxSteps := 1000000) [a6])
 have e : Jtmk f = Jt8p (f.blocks.map fun b => Jtmj b f.regs f.blocks.length) := by
  unfold Jtmk; repeat (first | rw [if_pos (by omega)] | rw [if_neg (by omega)])
 refine Jt9 (fun k : Nat => ⟨[(39, AI k), (38, AI f.blocks.length), (37, .d (.sl (f.blocks.map Block.row))), (1, .ptr 0 0)], [.mem [AI f.args, AI f.regs, .d (.sl (f.blocks.map Block.row))]]⟩)
  (fun k => k ≤ f.blocks.length ∧ ∀ e ∈ (f.blocks.map fun b => Jtmj b f.regs f.blocks.length).take k, e = 0) (fun k => f.blocks.length - k) 0 (by simp) (by (exact wkA)) ?_
 rintro k ⟨hk, hz⟩ N hN
 (simp (maxSteps := 1000000) [])
 ((first | refine Xc (fun h2 => ?_) (fun h2 => ?_) | refine Xo (fun h2 => ?_) (fun h2 => ?_)) <;> (try simp only [Xz, Xy] at h2))
 ·have hkl : k < f.blocks.length := by simpa using h2
  have hb : f.blocks[k]? = some f.blocks[k] := by simp [hkl]
  have hw := Jtp7 (k := k) (by omega)
  have hbl : f.blocks[k].code.length < 1000000000 := by
   have h3 := Jt72 hb
   have h4 := Jt71 f.blocks (k + 1)
   omega
  (simp (maxSteps := 1000000) [h2, hb, Block.row])
  (refine Jts (Jtmd A f.blocks[k] f.regs f.blocks.length hbl) (by rfl) (by rfl) ?_)
  (simp (maxSteps := 1000000) [])
  ((first | refine Xc (fun h3 => ?_) (fun h3 => ?_) | refine Xo (fun h3 => ?_) (fun h3 => ?_)) <;> (try simp only [Xz, Xy] at h3))
  ·(simp (maxSteps := 1000000) [h3])
   have e2 : Jt8p (f.blocks.map fun b => Jtmj b f.regs f.blocks.length) = Jtmj f.blocks[k] f.regs f.blocks.length := Jt8s hz (by simp [hkl]) h3
   (first | exact hR _ _ FrA | exact hR _ _ FnA | exact hR _ _ (Xf (hq := by simp [AV.erase, AV.unview, e, e2]; done)))
  ·(simp (maxSteps := 1000000) [h3, hw])
   exact hN _ (k + 1) ⟨hkl, take_zero hz hb (by simpa using h3)⟩ (by (exact wkA)) (by omega)
 ·have hk' : k = f.blocks.length := by simp at h2; omega
  subst hk'
  have hfe : Jt8p (f.blocks.map fun b => Jtmj b f.regs f.blocks.length) = 0 := Jt8q (by rw [List.take_of_length_le (by simp)] at hz; exact hz)
  (simp (maxSteps := 1000000) [])
  (first | exact hR _ _ FrA | exact hR _ _ FnA | exact hR _ _ (Xf (hq := by simp [AV.erase, AV.unview, e, hfe]; done)))
end
def bad9 (i : Instr) (regs : Int) : Bool := usesD i.op && !inZ i.d regs || usesA i.op && !inZ i.a regs || usesB i.op && !inZ i.b regs
def bad12 (i : Instr) : Bool := !usesD i.op && i.d != 0 || !usesA i.op && i.a != 0 || !usesB i.op && i.b != 0 || i.op != 1 && i.imm != 0
def Jtjo (i : Instr) (regs : Int) : Int := if i.op < 1 ∨ 17 < i.op then 8 else if bad9 i regs = true then 9 else if bad12 i = true then 12 else 0
def Jtju (t : Term) (regs blocks : Int) : Int :=
 if t.kind = 1 then (if inZ t.to blocks = false then 11 else if t.a ≠ 0 ∨ t.els ≠ 0 then 12 else 0)
 else if t.kind = 2 then (if inZ t.a regs = false then 9 else if inZ t.to blocks = false ∨ inZ t.els blocks = false then 11 else 0)
 else if t.kind = 3 then (if inZ t.a regs = false then 9 else if t.to ≠ 0 ∨ t.els ≠ 0 then 12 else 0)
 else 16
section
end
section
end
def few (f : Func) : Bool := decide (f.blocks.length ≤ 40) && decide (f.regs ≤ 60) && f.blocks.all (fun b => decide (b.code.length ≤ 100)) && decide (codeN f.blocks ≤ 300)
def Jtjm (b : Block) (regs blocks : Int) : Int :=
 let e := Jt8p (b.code.map (Jtjo · regs))
 if e ≠ 0 then e else Jtju b.term regs blocks
def Jtjn (f : Func) : Int :=
 if f.args < 0 ∨ f.regs < f.args then 9 else if 1048576 < f.regs then 6 else if f.blocks.length = 0 then 14 else if 1048576 < f.blocks.length ∨ 1048576 < codeN f.blocks then 6
 else Jt8p (f.blocks.map fun b => Jtjm b f.regs f.blocks.length)
theorem Jt70 {bs : List Block} (h : ∀ b ∈ bs, b.code.length ≤ 100) : codeN bs ≤ 100 * bs.length := by
 induction bs with
 | nil => simp [codeN]
 | cons b bs ih =>
  have h1 := h b (by simp)
  have h2 := ih fun x hx => h x (by simp [hx])
  simp only [codeN, List.map_cons, List.sum_cons, List.length_cons] at *
  omega
section
theorem Jtit {P : Program} {p : Nums} (A : All P p) (f : Func) (h0 : f.blocks.length < 1000000000) (h1 : codeN f.blocks < 1000000000) : Jt3o P p.ref07_Code [f.av] [] fun o _ => o = .ret (AI (codeN f.blocks)) := by
 refine A.ref07_Code.run rfl fun R hR => ?_
 (simp (maxSteps := 1000000) [Jtc1, Func.av])
 refine Jt9 (fun k : Nat => ⟨[(4, AI k), (1, .ptr 0 0), (3, AI (codeN (f.blocks.take k)))], [.mem [AI f.args, AI f.regs, .d (.sl (f.blocks.map Block.row))]]⟩) (fun k => k ≤ f.blocks.length) (fun k => f.blocks.length - k) 0 (by simp) (by (exact wkA)) ?_
 intro k hk N hN
 (simp (maxSteps := 1000000) [])
 ((first | refine Xc (fun h2 => ?_) (fun h2 => ?_) | refine Xo (fun h2 => ?_) (fun h2 => ?_)) <;> (try simp only [Xz, Xy] at h2))
 ·have hkl : k < f.blocks.length := by simpa using h2
  have hb : f.blocks[k]? = some f.blocks[k] := by simp [hkl]
  have hw := Jtp7 (k := k) (by omega)
  have hs := Jt72 hb
  have hle := Jt71 f.blocks (k + 1)
  have hw2 := Jtp6 (a := codeN (f.blocks.take k)) (b := f.blocks[k].code.length) (by omega)
  rw [← hs] at hw2
  (simp (maxSteps := 1000000) [h2, List.getElem?_map, hb, Block.row, hw, hw2])
  exact hN _ (k + 1) hkl (by (exact wkA)) (by omega)
 ·have hk' : k = f.blocks.length := by simp at h2; omega
  subst hk'
  (simp (maxSteps := 1000000) [])
  (first | exact hR _ _ FrA | exact hR _ _ FnA | exact hR _ _ (Xf (hq := by simp [AV.erase, AV.unview, List.take_length]; done)))
theorem Jtiv {P : Program} {p : Nums} (A : All P p) (f : Func) : Jt3o P p.ref07_Few [f.av] [] fun o _ => o = .ret (AB (few f)) := by
 refine A.ref07_Few.run rfl fun R hR => ?_
 (simp (maxSteps := 1000000) [Jtc3, Func.av])
 ((first | refine Xc (fun a1 => ?_) (fun a1 => ?_) | refine Xo (fun a1 => ?_) (fun a1 => ?_)) <;> (try simp only [Xz, Xy] at a1))
 ·(simp (maxSteps := 1000000) [a1])
  have e : few f = false := by simp [few]; omega
  (first | exact hR _ _ FrA | exact hR _ _ FnA | exact hR _ _ (Xf (hq := by simp [AV.erase, AV.unview, e]; done)))
 (simp (maxSteps := 1000000) [a1])
 ((first | refine Xc (fun a2 => ?_) (fun a2 => ?_) | refine Xo (fun a2 => ?_) (fun a2 => ?_)) <;> (try simp only [Xz, Xy] at a2))
 ·(simp (maxSteps := 1000000) [a2])
  have e : few f = false := by simp [few]; omega
  (first | exact hR _ _ FrA | exact hR _ _ FnA | exact hR _ _ (Xf (hq := by simp [AV.erase, AV.unview, e]; done)))
 (simp (maxSteps := 1000000) [a2])
 refine Jt9 (fun k : Nat => ⟨[(3, AI k), (1, .ptr 0 0)], [.mem [AI f.args, AI f.regs, .d (.sl (f.blocks.map Block.row))]]⟩)
  (fun k => k ≤ f.blocks.length ∧ ∀ b ∈ f.blocks.take k, b.code.length ≤ 100) (fun k => f.blocks.length - k) 0 (by simp) (by (exact wkA)) ?_
 rintro k ⟨hk, hz⟩ N hN
 (simp (maxSteps := 1000000) [])
 ((first | refine Xc (fun h2 => ?_) (fun h2 => ?_) | refine Xo (fun h2 => ?_) (fun h2 => ?_)) <;> (try simp only [Xz, Xy] at h2))
 ·have hkl : k < f.blocks.length := by simpa using h2
  have hb : f.blocks[k]? = some f.blocks[k] := by simp [hkl]
  have hw := Jtp7 (k := k) (by omega)
  (simp (maxSteps := 1000000) [h2, hb, Block.row])
  ((first | refine Xc (fun h3 => ?_) (fun h3 => ?_) | refine Xo (fun h3 => ?_) (fun h3 => ?_)) <;> (try simp only [Xz, Xy] at h3))
  ·(simp (maxSteps := 1000000) [h3])
   have e : few f = false := by
    have : ¬ (∀ b ∈ f.blocks, b.code.length ≤ 100) := fun h => by have := h f.blocks[k] (by simp); omega
    simp [few]; intro _ _ h; exact absurd h this
   (first | exact hR _ _ FrA | exact hR _ _ FnA | exact hR _ _ (Xf (hq := by simp [AV.erase, AV.unview, e]; done)))
  ·(simp (maxSteps := 1000000) [h3, hw])
   refine hN _ (k + 1) ⟨hkl, ?_⟩ (by (exact wkA)) (by omega)
   intro b hb'
   rw [List.take_add_one, hb, List.mem_append] at hb'
   rcases hb' with hb' | hb'
   ·exact hz b hb'
   ·simp at hb'; subst hb'; omega
 ·have hk' : k = f.blocks.length := by simp at h2; omega
  subst hk'
  (simp (maxSteps := 1000000) [])
  have hcb : codeN f.blocks ≤ 100 * f.blocks.length := Jt70 (by rw [List.take_length] at hz; exact hz)
  (refine Jts (Jtit A f (by omega) (by omega)) (by rfl) (by rfl) ?_)
  (simp (maxSteps := 1000000) [])
  have e : few f = decide ((codeN f.blocks : Int) ≤ 300) := by
   rw [List.take_length] at hz
   have e1 : f.blocks.all (fun b => decide (b.code.length ≤ 100)) = true := by simpa using hz
   have e2 : decide (f.blocks.length ≤ 40) = true := by simp; omega
   have e3 : decide (f.regs ≤ 60) = true := by simp; omega
   simp only [few, e1, e2, e3, Bool.true_and]
   congr 1; simp; omega
  (first | exact hR _ _ FrA | exact hR _ _ FnA | exact hR _ _ (Xf (hq := by simp [AV.erase, AV.unview, e]; done)))
end
structure MBlock where (code : List Mach) (term : Term)
 deriving Inhabited
def MBlock.row (b : MBlock) : List D := [.sl (b.code.map Mach.row), I b.term.kind, I b.term.a, I b.term.to, I b.term.els]
def MBlock.av (b : MBlock) : AV := .agg [.d (.sl (b.code.map Mach.row)), AI b.term.kind, AI b.term.a, AI b.term.to, AI b.term.els]
structure MFunc where (args regs slots : Int) (blocks : List MBlock)
def MFunc.av (f : MFunc) : AV := .agg [AI f.args, AI f.regs, AI f.slots, .d (.sl (f.blocks.map MBlock.row))]
def witD (w : List (List Pair)) : D := .sl (w.map fun l => [pairsD l])
structure Cert where (S : Func) (T : MFunc) (W : List (List Pair))
def Cert.av (c : Cert) : AV := .agg [AI c.S.args, AI c.S.regs, .d (.sl (c.S.blocks.map Block.row)), AI c.T.args, AI c.T.regs, AI c.T.slots, .d (.sl (c.T.blocks.map MBlock.row)), .d (witD c.W)]
section
end
section
end
section
end
def mcodeN (bs : List MBlock) : Nat := (bs.map fun b => b.code.length).sum
theorem Jtfd {bs : List MBlock} {k : Nat} {b : MBlock} (h : bs[k]? = some b) : mcodeN (bs.take (k + 1)) = mcodeN (bs.take k) + b.code.length := by
 rw [mcodeN, List.take_add_one, h]; simp [mcodeN]
theorem Jtfa (a b : List MBlock) : mcodeN (a ++ b) = mcodeN a + mcodeN b := by simp [mcodeN]
theorem Jtfc (bs : List MBlock) (k : Nat) : mcodeN (bs.take k) ≤ mcodeN bs := by
 have h := Jtfa (bs.take k) (bs.drop k)
 rw [List.take_append_drop] at h; omega
def mostN (l : List Nat) : Nat := l.foldl max 0
theorem Jtg1 {l : List Nat} {k x : Nat} (h : l[k]? = some x) : mostN (l.take (k + 1)) = max (mostN (l.take k)) x := by
 rw [mostN, List.take_add_one, h]; simp [mostN]
theorem Jt8r {es : List Int} (h : Jt8p es = 0) : ∀ e ∈ es, e = 0 := by
 induction es with
 | nil => intro e he; simp at he
 | cons e es ih =>
  simp only [Jt8p] at h
  intro x hx
  split at h
  ·exact absurd h ‹_›
  ·rcases List.mem_cons.1 hx with rfl | hx
   ·simp_all
   ·exact ih h x hx
theorem Jtnt {α : Type} {l : List α} {k : Nat} {x : α} (h : l[k]? = some x) : l.take (k + 1) = l.take k ++ [x] := by rw [List.take_add_one, h]; rfl
section
end
def lead : List Mach → Nat
 | [] => 0
 | m :: l => if (m.op == 18) = true then lead l + 1 else 0
def Jtjs (l : List Mach) : Nat := mostN ((List.range l.length).map fun i => lead (l.drop i))
theorem Jtdy (l : List Mach) : lead l ≤ l.length := by
 induction l with
 | nil => simp [lead]
 | cons m l ih => simp only [lead, List.length_cons]; split <;> omega
section
theorem Jtix {P : Program} {p : Nums} (A : All P p) (f : MFunc) (h0 : f.blocks.length < 1000000000) (h1 : mcodeN f.blocks < 1000000000) : Jt3o P p.ref08_Code [f.av] [] fun o _ => o = .ret (AI (mcodeN f.blocks)) := by
 refine A.ref08_Code.run rfl fun R hR => ?_
 (simp (maxSteps := 1000000) [Jtc5, MFunc.av])
 refine Jt9 (fun k : Nat => ⟨[(4, AI k), (1, .ptr 0 0), (3, AI (mcodeN (f.blocks.take k)))], [.mem [AI f.args, AI f.regs, AI f.slots, .d (.sl (f.blocks.map MBlock.row))]]⟩) (fun k => k ≤ f.blocks.length) (fun k => f.blocks.length - k) 0 (by simp) (by (exact wkA)) ?_
 intro k hk N hN
 (simp (maxSteps := 1000000) [])
 ((first | refine Xc (fun h2 => ?_) (fun h2 => ?_) | refine Xo (fun h2 => ?_) (fun h2 => ?_)) <;> (try simp only [Xz, Xy] at h2))
 ·have hkl : k < f.blocks.length := by simpa using h2
  have hb : f.blocks[k]? = some f.blocks[k] := by simp [hkl]
  have hw := Jtp7 (k := k) (by omega)
  have hs := Jtfd hb
  have hle := Jtfc f.blocks (k + 1)
  have hw2 := Jtp6 (a := mcodeN (f.blocks.take k)) (b := f.blocks[k].code.length) (by omega)
  rw [← hs] at hw2
  (simp (maxSteps := 1000000) [h2, List.getElem?_map, hb, MBlock.row, hw, hw2])
  exact hN _ (k + 1) hkl (by (exact wkA)) (by omega)
 ·have hk' : k = f.blocks.length := by simp at h2; omega
  subst hk'
  (simp (maxSteps := 1000000) [])
  (first | exact hR _ _ FrA | exact hR _ _ FnA | exact hR _ _ (Xf (hq := by simp [AV.erase, AV.unview, List.take_length]; done)))
end
theorem Jtgh {α : Type} [DecidableEq α] : ∀ {l m : List α}, l.Nodup → (∀ x ∈ l, x ∈ m) → l.length ≤ m.length := by
 intro l
 induction l with
 | nil => intro m _ _; simp
 | cons x l ih =>
  intro m hn hs
  rw [List.nodup_cons] at hn
  have hx := hs x (by simp)
  have := ih (m := m.erase x) hn.2 fun y hy => (List.mem_erase_of_ne (by rintro rfl; exact hn.1 hy)).2 (hs y (by simp [hy]))
  rw [List.length_erase_of_mem hx] at this
  have := List.length_pos_of_mem hx
  simp only [List.length_cons]; omega
def prodP (V L : List Int) : List Pair := V.flatMap fun v => L.map fun l => (⟨v, l⟩ : Pair)
theorem Jtic (V L : List Int) : (prodP V L).length = V.length * L.length := by
 unfold prodP
 induction V with
 | nil => simp
 | cons v V ih => simp only [List.flatMap_cons, List.length_append, List.length_map, List.length_cons, ih, Nat.add_mul]; omega
theorem Jtfm {V L : List Int} {q : Pair} : q ∈ prodP V L ↔ q.v ∈ V ∧ q.l ∈ L := by
 unfold prodP
 simp only [List.mem_flatMap, List.mem_map]
 constructor
 ·rintro ⟨v, hv, l, hl, rfl⟩; exact ⟨hv, hl⟩
 ·rintro ⟨hv, hl⟩; exact ⟨q.v, hv, q.l, hl, rfl⟩
structure Over (V L : List Int) (l : List Pair) : Prop where
 srt : Srt l
 mem : ∀ q ∈ l, q.v ∈ V ∧ q.l ∈ L
theorem Over.len {V L : List Int} {l : List Pair} (h : Over V L l) : l.length ≤ V.length * L.length := by
 rw [← Jtic]
 exact Jtgh (Jtn2 h.srt) fun q hq => Jtfm.2 (h.mem q hq)
theorem Over.copy {V L : List Int} {l : List Pair} (h : Over V L l) {d a : Int} (hd : d ∈ V) : Over V L (copyP l d a) := by
 refine ⟨Jtmt h.srt, fun q hq => ?_⟩
 rcases Jtff.1 hq with ⟨h1, _⟩ | ⟨h1, h2⟩
 ·exact h.mem q h1
 ·exact ⟨by rw [h1]; exact hd, (h.mem _ h2).2⟩
theorem Over.move {V L : List Int} {l : List Pair} (h : Over V L l) {d a : Int} (hd : d ∈ L) : Over V L (moveP l d a) := by
 refine ⟨Jtn1 h.srt, fun q hq => ?_⟩
 rcases Jtfk.1 hq with ⟨h1, _⟩ | ⟨h1, h2⟩
 ·exact h.mem q h1
 ·exact ⟨(h.mem _ h2).1, by rw [h1]; exact hd⟩
theorem Over.define {V L : List Int} {l : List Pair} (h : Over V L l) {d t : Int} (hd : d ∈ V) (ht : t ∈ L) : Over V L (defP l d t) := by
 refine ⟨Jtmu h.srt, fun q hq => ?_⟩
 rcases Jtfg.1 hq with rfl | ⟨h1, _⟩
 ·exact ⟨hd, ht⟩
 ·exact h.mem q h1
structure CS where (set : List Pair) (steps largest : Nat)
abbrev CR := CS × Option (Int × Int)
def costC (s : CS) : CS := ⟨s.set, s.steps + 1 + s.set.length, s.largest⟩
def Jt5e (most : Int) (s : CS) (l : List Pair) (at_ : Int) : CR := (⟨l, s.steps, max s.largest l.length⟩, if (l.length : Int) > most then some (24, at_) else none)
def useC (s : CS) (v t at_ : Int) : CR := (costC s, if (⟨v, t⟩ : Pair) ∈ s.set then none else some (21, at_))
def thenC (r : CR) (f : CS → CR) : CR := match r.2 with
 | none => f r.1
 | some e => (r.1, some e)
theorem Jto1 {s : CS} {f : CS → CR} : thenC (s, none) f = f s := rfl
theorem Jto2 {s : CS} {e : Int × Int} {f : CS → CR} : thenC (s, some e) f = (s, some e) := rfl
structure Room (V L : List Int) (s : CS) (n : Nat) : Prop where
 over : Over V L s.set
 few : V.length * L.length < 100000
 steps : s.steps + 100001 * n < 1000000000000000000
 lg : s.largest < 100000
theorem Room.len {V L : List Int} {s : CS} {n : Nat} (h : Room V L s n) : s.set.length < 100000 := Nat.lt_of_le_of_lt h.over.len h.few
theorem Room.mono {V L : List Int} {s : CS} {n m : Nat} (h : Room V L s n) (hm : m ≤ n) : Room V L s m := ⟨h.over, h.few, by have := h.steps; omega, h.lg⟩
theorem Room.cost {V L : List Int} {s : CS} {n : Nat} (h : Room V L s (n + 1)) : Room V L (costC s) n :=
 ⟨h.over, h.few, by have := h.steps; have := h.len; simp only [costC]; omega, h.lg⟩
theorem Room.become {V L : List Int} {s : CS} {n : Nat} (h : Room V L s n) {l : List Pair} (hl : Over V L l) (most at_ : Int) : Room V L (Jt5e most s l at_).1 n := by
 refine ⟨hl, h.few, h.steps, ?_⟩
 have := h.lg
 have := Nat.lt_of_le_of_lt hl.len h.few
 simp only [Jt5e]; omega
theorem Room.use {V L : List Int} {s : CS} {n : Nat} (h : Room V L s (n + 1)) (v t at_ : Int) : Room V L (useC s v t at_).1 n := h.cost
section
variable {P : Program} {m : Nat} {Q : AExit → ASt → Prop} {st : ASt} {K : ASt → Prop} {QP : AV → ASt → Prop} {dst : Option Nat}
theorem Jtw (bs : List Nat) {f : Nat} {args cargs : List AV} {Hp Hc Hc' Hb : List Blk} {x y : AV} (h : Jt3o P f cargs Hc fun o H' => o = .pan x ∧ H' = Hc')
  (hnd : bs.Nodup) (ha : renL (idx bs) args = some cargs) (hp : picks st.H bs = some Hp) (hc : renB (idx bs) Hp = some Hc) (hb : renB (back bs st.H.length 0) Hc' = some Hb)
  (hl : Hc'.length = bs.length) (hx : x.ren (back bs st.H.length 0) = some y) (hK : QP y ⟨unview st.env, wback st.H bs Hb⟩) : AWcall P false f args dst K QP st := by
 refine .inr ⟨rfl, .inr ⟨bs, hnd, cargs, Hp, Hc, ha, hp, hc, h.mono ?_⟩⟩
 rintro o H' ⟨rfl, he⟩
 subst he
 have ht : H'.take (bs.length + 0) = H' := by rw [Nat.add_zero, ← hl, List.take_length]
 refine ⟨0, Hb, y, by rw [ht]; exact hb, by omega, hx, ?_⟩
 have e : Hb.length = bs.length := by rw [Jtk3 hb, hl]
 rw [← e, List.take_length, List.drop_length, List.append_nil]
 exact hK
theorem Jt3r {rs : List RV} {m : Nat} {Q : AOut → List Blk → Prop} {st : ASt} (x x' : AV) (H' : List Blk) (hw : Wk m ⟨[(0, x.erase)], st.H⟩ ⟨[(0, x')], H'⟩) (hq : Q (.pan x') H') : Fin rs m Q (.panic x) st := ⟨x', H', hw, hq⟩
attribute [simp] panEnd
end
def failV (p : Nums) (e : Int × Int) : AV := .iface p.ty_bcfail (.agg [AI e.1, AI e.2])
def outR (p : Nums) : Option (Int × Int) → AOut
 | none => .ret (.tup [])
 | some e => .pan (failV p e)
def ckB (most : Int) (s : CS) : Blk := .mem [.d (pairsD s.set), AI most, AI s.steps, AI s.largest]
theorem wrapN {n : Nat} (h : n < 4611686018427387904) : IntKind.i64.wrap (n : Int) = (n : Int) := by
 have := Jtp6 (a := n) (b := 0) (by omega); simpa using this
section
theorem Jt5m {P : Program} {p : Nums} (A : All P p) (s : CS) (most : Int) (h0 : s.set.length < 100000) (h1 : s.steps < 1000000000000000000) : Jt3o P p.blockcheck_checker_cost [.ptr 0 0] [ckB most s] fun o H' => o = .ret (.tup []) ∧ H' = [ckB most (costC s)] := by
 refine A.blockcheck_checker_cost.run rfl fun R hR => ?_
 obtain ⟨l, n, g⟩ := s
 have e1 : IntKind.i64.wrap (1 + (l.length : Int)) = 1 + (l.length : Int) := by have := wrapN (n := 1 + l.length) (by simp at h0; omega); simpa using this
 have e2 : IntKind.i64.wrap ((n : Int) + (1 + (l.length : Int))) = (n : Int) + (1 + (l.length : Int)) := by have := wrapN (n := n + (1 + l.length)) (by simp at h0 h1; omega); simpa using this
 have e3 : ((n + 1 + l.length : Nat) : Int) = (n : Int) + (1 + (l.length : Int)) := by omega
 (simp (maxSteps := 1000000) [Jtak, ckB, pairsD, e1, e2])
 exact hR _ _ (Fin_wk (.tup []) (.tup []) [.mem [.d (pairsD l), AI most, AI ((n : Int) + (1 + (l.length : Int))), AI g]] rfl (by simp only [pairsD]; (exact wkA)) ⟨rfl, by simp only [ckB, costC, e3]⟩)
theorem Jt5l {P : Program} {p : Nums} (A : All P p) (s : CS) (most : Int) (l : List Pair) (at_ : Int) (h0 : l.length < 100000) (h1 : s.largest < 1000000000000000000) :
  Jt3o P p.blockcheck_checker_become [.ptr 0 0, .d (pairsD l), AI at_] [ckB most s] fun o H' => o = outR p (Jt5e most s l at_).2 ∧ H' = [ckB most (Jt5e most s l at_).1] := by
 refine A.blockcheck_checker_become.run rfl fun R hR => ?_
 obtain ⟨u, n, g⟩ := s
 obtain ⟨mx, hmx⟩ : ∃ mx, mx = max g l.length := ⟨_, rfl⟩
 have e1 : (if g < l.length then (l.length : Int) else (g : Int)) = (mx : Int) := by split <;> omega
 (simp (maxSteps := 1000000) [Jtaj, ckB, pairsD, e1])
 ((first | refine Xc (fun h2 => ?_) (fun h2 => ?_) | refine Xo (fun h2 => ?_) (fun h2 => ?_)) <;> (try simp only [Xz, Xy] at h2))
 ·(simp (maxSteps := 1000000) [h2])
  refine hR _ _ (Jt3r _ (failV p (24, at_)) [.mem [.d (pairsD l), AI most, AI n, AI mx]] (by simp only [pairsD, failV]; (exact wkA)) ⟨?_, by simp only [ckB, Jt5e, hmx]⟩)
  simp [outR, Jt5e, h2]
 ·(simp (maxSteps := 1000000) [h2])
  refine hR _ _ (Fin_wk (.tup []) (.tup []) [.mem [.d (pairsD l), AI most, AI n, AI mx]] rfl (by simp only [pairsD]; (exact wkA)) ⟨?_, by simp only [ckB, Jt5e, hmx]⟩)
  simp [outR, Jt5e, h2]
end
def instrC (most : Int) (s : CS) (i : Instr) (m : Mach) (at_ : Int) : CR :=
 thenC (if usesA i.op = true then useC s i.a (regZ m.a) at_ else (s, none)) fun s =>
  thenC (if usesB i.op = true then useC s i.b (regZ m.b) at_ else (s, none)) fun s =>
   if usesD i.op = true then Jt5e most (costC s) (defP s.set i.d (regZ m.d)) at_ else (s, none)
theorem Jtlj (x : Int) : (shapeZ x).D = usesD x := by
 unfold shapeZ usesD knownZ
 by_cases h1 : 1 ≤ x ∧ x ≤ 18
 ·by_cases h2 : x = 1
  ·subst h2; decide
  ·by_cases h3 : x ≤ 4
   ·simp [h1, h2, h3]; omega
   ·by_cases h4 : x ≤ 16
    ·simp [h1, h2, h3, h4]
    ·simp [h1, h2, h3, h4]
 ·simp [h1]; omega
theorem Jtlh (x : Int) : (shapeZ x).A = usesA x := by
 unfold shapeZ usesA knownZ
 by_cases h1 : 1 ≤ x ∧ x ≤ 18
 ·by_cases h2 : x = 1
  ·subst h2; decide
  ·by_cases h3 : x ≤ 4
   ·simp [h1, h2, h3]; omega
   ·by_cases h4 : x ≤ 16
    ·simp [h1, h2, h3, h4]; omega
    ·simp only [h1, h2, h3, h4, and_self, decide_true, Bool.true_eq_false, if_false]; by_cases h5 : x = 17
     ·subst h5; decide
     ·have : x = 18 := by omega
      subst this; decide
 ·simp [h1]; omega
theorem Jtli (x : Int) : (shapeZ x).B = usesB x := by
 unfold shapeZ usesB knownZ
 by_cases h1 : 1 ≤ x ∧ x ≤ 18
 ·by_cases h2 : x = 1
  ·subst h2; decide
  ·by_cases h3 : x ≤ 4
   ·simp [h1, h2, h3]; omega
   ·by_cases h4 : x ≤ 16
    ·simp [h1, h2, h3, h4]; omega
    ·simp [h1, h2, h3, h4]
 ·simp [h1]; omega
section
theorem Jt5q {P : Program} {p : Nums} (A : All P p) (s : CS) (most v reg at_ : Int) (h0 : s.set.length < 100000) (h1 : s.steps < 1000000000000000000) (hs : Srt s.set) :
  Jt3o P p.blockcheck_checker_use [.ptr 0 0, AI v, AI reg, AI at_] [ckB most s] fun o H' => o = outR p (useC s v (regZ reg) at_).2 ∧ H' = [ckB most (useC s v (regZ reg) at_).1] := by
 refine A.blockcheck_checker_use.run rfl fun R hR => ?_
 have hH := Jths A s.set ⟨v, regZ reg⟩ (by omega) hs
 have hc := Jt5m A s most h0 h1
 have e0 : (useC s v (regZ reg) at_).1 = costC s := rfl
 obtain ⟨C, hC⟩ : ∃ C, C = ckB most (costC s) := ⟨_, rfl⟩
 have hCm : C = .mem [.d (pairsD s.set), AI most, AI (costC s).steps, AI s.largest] := hC
 obtain ⟨B, hB⟩ : ∃ B, B = ckB most s := ⟨_, rfl⟩
 rw [← hC] at hc
 rw [← hB] at hc ⊢
 (simp (maxSteps := 1000000) [Jtaq])
 refine Jtu [0] hc (by decide) (by rfl) (by rfl) (by rw [hB]; rfl) (by rw [hCm]; rfl) (by rfl) (by rfl) ?_
 (simp (maxSteps := 1000000) [hCm])
 (refine Jts (Jtef A reg) (by rfl) (by rfl) ?_)
 (simp (maxSteps := 1000000) [])
 (refine Jts hH (by rfl) (by rfl) ?_)
 by_cases hm : (⟨v, regZ reg⟩ : Pair) ∈ s.set
 ·(simp (maxSteps := 1000000) [hm])
  refine hR _ _ (Fin_wk (.tup []) (.tup []) [C] rfl (by rw [hCm]; (exact wkA)) ⟨?_, by rw [hC]; rfl⟩)
  simp [useC, hm, outR]
 ·(simp (maxSteps := 1000000) [hm])
  refine hR _ _ (Jt3r _ (failV p (21, at_)) [C] (by rw [hCm]; simp only [failV]; (exact wkA)) ⟨?_, by rw [hC]; rfl⟩)
  simp [useC, hm, outR]
end
theorem Jtdg {V L : List Int} {most : Int} {s : CS} {n : Nat} {i : Instr} {m : Mach} {at_ : Int} (h : Room V L s (n + 3)) (hd : usesD i.op = true → i.d ∈ V ∧ regZ m.d ∈ L) : Room V L (instrC most s i m at_).1 n := by
 unfold instrC
 have h2 : Room V L (if usesA i.op = true then useC s i.a (regZ m.a) at_ else (s, none)).1 (n + 2) := by split <;> first | exact h.use _ _ _ | exact h.mono (by omega)
 generalize (if usesA i.op = true then useC s i.a (regZ m.a) at_ else (s, none)) = r at h2
 obtain ⟨s1, e⟩ := r
 cases e with
 | some e => rw [Jto2]; exact h2.mono (by omega)
 | none =>
  rw [Jto1]
  have h3 : Room V L (if usesB i.op = true then useC s1 i.b (regZ m.b) at_ else (s1, none)).1 (n + 1) := by split <;> first | exact h2.use _ _ _ | exact h2.mono (by omega)
  generalize (if usesB i.op = true then useC s1 i.b (regZ m.b) at_ else (s1, none)) = r at h3
  obtain ⟨s2, e⟩ := r
  cases e with
  | some e => rw [Jto2]; exact h3.mono (by omega)
  | none =>
   rw [Jto1]
   split
   ·rename_i hu
    obtain ⟨k1, k2⟩ := hd hu
    exact h3.cost.become (h3.over.define k1 k2) _ _
   ·exact h3.mono (by omega)
section
theorem Jt5n {P : Program} {p : Nums} (A : All P p) (S : SortOk P p) {V L : List Int} (s : CS) (most : Int) (i : Instr) (m : Mach) (at_ : Int) (h : Room V L s 3) (hd : usesD i.op = true → i.d ∈ V ∧ regZ m.d ∈ L) :
  Jt3o P p.blockcheck_checker_instr [.ptr 0 0, i.av, m.av, AI at_] [ckB most s] fun o H' => o = outR p (instrC most s i m at_).2 ∧ H' = [ckB most (instrC most s i m at_).1] := by
 refine A.blockcheck_checker_instr.run rfl fun R hR => ?_
 have r1 := h.cost
 have r2 := r1.cost
 have l0 := h.len
 have l1 := r1.len
 have l2 := r2.len
 have t0 := h.steps
 have t1 := r1.steps
 have t2 := r2.steps
 have g2 := r2.cost
 have q0 := h.over.srt
 obtain ⟨s1, hs1⟩ : ∃ s1, s1 = costC s := ⟨_, rfl⟩
 obtain ⟨s2, hs2⟩ : ∃ s2, s2 = costC s1 := ⟨_, rfl⟩
 obtain ⟨s3, hs3⟩ : ∃ s3, s3 = costC s2 := ⟨_, rfl⟩
 have q1 : Srt s1.set := by rw [hs1]; exact q0
 have q2 : Srt s2.set := by rw [hs2]; exact q1
 rw [← hs1] at r1 r2 l1 l2 t1 t2 g2
 rw [← hs2] at r2 l2 t2 g2
 rw [← hs3] at g2
 (simp (maxSteps := 1000000) [Jtal, Instr.av, Mach.av])
 (refine Jts (Jth6 A i.op) (by rfl) (by rfl) ?_)
 (simp (maxSteps := 1000000) [Jtlh, Jtli, Jtlj])
 have hspec : instrC most s i m at_ = instrC most s i m at_ := rfl
 conv at hspec => rhs; unfold instrC
 cases hA : usesA i.op <;> cases hB : usesB i.op <;> cases hD : usesD i.op <;> simp only [hA, hB, hD, if_true, if_false, Bool.false_eq_true, Jto1] at hspec
 ·(simp (maxSteps := 1000000) [hA, hB, hD])
  exact hR _ _ (Fin_wk (.tup []) (.tup []) [ckB most s] rfl (by simp only [ckB]; (exact wkA)) ⟨by rw [hspec]; rfl, by rw [hspec]⟩)
 ·(simp (maxSteps := 1000000) [hA, hB, hD])
  have hc := Jt5m A s most (by omega) (by omega)
  rw [← hs1] at hc hspec
  have hV := hd hD
  have ho : Over V L (defP s.set i.d (regZ m.d)) := (h).over.define hV.1 hV.2
  have hl := Nat.lt_of_le_of_lt ho.len h.few
  have hset : s1.set = s.set := by rw [hs1]; rfl
  have hb := Jt5l A s1 most (defP s.set i.d (regZ m.d)) at_ hl (by have := (r1).lg; omega)
  have hdf : Jt3o P p.transfer_Define [.d (pairsD s1.set), AI i.d, AI (regZ m.d)] [] fun o _ => o = .ret (.d (pairsD (defP s.set i.d (regZ m.d)))) := by rw [hset]; exact Jtof A S s.set i.d (regZ m.d) (by omega) q0
  obtain ⟨dl, hdl⟩ : ∃ dl, dl = defP s.set i.d (regZ m.d) := ⟨_, rfl⟩
  rw [← hdl] at hb hdf hspec
  obtain ⟨⟨s9, e9⟩, h9⟩ : ∃ r, r = Jt5e most s1 dl at_ := ⟨_, rfl⟩
  rw [← h9] at hb hspec
  refine Jtu [0] (x := .tup []) hc (by decide) (by rfl) (by rfl) (by rfl) (by rfl) (by rfl) (by rfl) ?_
  (simp (maxSteps := 1000000) [])
  (refine Jts (Jtef A m.d) (by rfl) (by rfl) ?_)
  (simp (maxSteps := 1000000) [])
  (refine Jts hdf (by rfl) (by rfl) ?_)
  (simp (maxSteps := 1000000) [])
  cases e9 with
  | none =>
   refine Jtu [0] (x := .tup []) hb (by decide) (by rfl) (by rfl) (by rfl) (by rfl) (by rfl) (by rfl) ?_
   (simp (maxSteps := 1000000) [])
   exact hR _ _ (Fin_wk (.tup []) (.tup []) [ckB most s9] rfl (by simp only [ckB]; (exact wkA)) ⟨by rw [hspec]; rfl, by rw [hspec]⟩)
  | some e =>
   refine Jtw [0] (x := failV p e) hb (by decide) (by rfl) (by rfl) (by rfl) (by rfl) (by rfl) (by rfl) ?_
   (simp (maxSteps := 1000000) [])
   exact hR _ _ (Jt3r _ (failV p e) [ckB most s9] (by simp only [ckB, failV]; (exact wkA)) ⟨by rw [hspec]; rfl, by rw [hspec]⟩)
 ·(simp (maxSteps := 1000000) [hA, hB, hD])
  have eB : (useC s i.b (regZ m.b) at_).1 = s1 := by rw [hs1]; rfl
  have huB := (Jt5q A s most i.b m.b at_ (by omega) (by omega) q0)
  rw [eB] at huB
  rcases hrB : (useC s i.b (regZ m.b) at_).2 with _ | e
  ·rw [hrB] at huB
   rw [show useC s i.b (regZ m.b) at_ = (s1, none) from Prod.ext eB hrB, Jto1] at hspec
   refine Jtu [0] (x := .tup []) huB (by decide) (by rfl) (by rfl) (by rfl) (by rfl) (by rfl) (by rfl) ?_
   (simp (maxSteps := 1000000) [hA, hB, hD])
   exact hR _ _ (Fin_wk (.tup []) (.tup []) [ckB most s1] rfl (by simp only [ckB]; (exact wkA)) ⟨by rw [hspec]; rfl, by rw [hspec]⟩)
  ·rw [hrB] at huB
   rw [show useC s i.b (regZ m.b) at_ = (s1, some e) from Prod.ext eB hrB, Jto2] at hspec
   refine Jtw [0] (x := failV p e) huB (by decide) (by rfl) (by rfl) (by rfl) (by rfl) (by rfl) (by rfl) ?_
   (simp (maxSteps := 1000000) [])
   exact hR _ _ (Jt3r _ (failV p e) [ckB most s1] (by simp only [ckB, failV]; (exact wkA)) ⟨by rw [hspec]; rfl, by rw [hspec]⟩)
 ·(simp (maxSteps := 1000000) [hA, hB, hD])
  have eB : (useC s i.b (regZ m.b) at_).1 = s1 := by rw [hs1]; rfl
  have huB := (Jt5q A s most i.b m.b at_ (by omega) (by omega) q0)
  rw [eB] at huB
  rcases hrB : (useC s i.b (regZ m.b) at_).2 with _ | e
  ·rw [hrB] at huB
   rw [show useC s i.b (regZ m.b) at_ = (s1, none) from Prod.ext eB hrB, Jto1] at hspec
   refine Jtu [0] (x := .tup []) huB (by decide) (by rfl) (by rfl) (by rfl) (by rfl) (by rfl) (by rfl) ?_
   (simp (maxSteps := 1000000) [hA, hB, hD])
   have hc := Jt5m A s1 most (by omega) (by omega)
   rw [← hs2] at hc hspec
   have hV := hd hD
   have ho : Over V L (defP s1.set i.d (regZ m.d)) := (r1).over.define hV.1 hV.2
   have hl := Nat.lt_of_le_of_lt ho.len h.few
   have hset : s2.set = s1.set := by rw [hs2]; rfl
   have hb := Jt5l A s2 most (defP s1.set i.d (regZ m.d)) at_ hl (by have := (r2).lg; omega)
   have hdf : Jt3o P p.transfer_Define [.d (pairsD s2.set), AI i.d, AI (regZ m.d)] [] fun o _ => o = .ret (.d (pairsD (defP s1.set i.d (regZ m.d)))) := by rw [hset]; exact Jtof A S s1.set i.d (regZ m.d) (by omega) q1
   obtain ⟨dl, hdl⟩ : ∃ dl, dl = defP s1.set i.d (regZ m.d) := ⟨_, rfl⟩
   rw [← hdl] at hb hdf hspec
   obtain ⟨⟨s9, e9⟩, h9⟩ : ∃ r, r = Jt5e most s2 dl at_ := ⟨_, rfl⟩
   rw [← h9] at hb hspec
   refine Jtu [0] (x := .tup []) hc (by decide) (by rfl) (by rfl) (by rfl) (by rfl) (by rfl) (by rfl) ?_
   (simp (maxSteps := 1000000) [])
   (refine Jts (Jtef A m.d) (by rfl) (by rfl) ?_)
   (simp (maxSteps := 1000000) [])
   (refine Jts hdf (by rfl) (by rfl) ?_)
   (simp (maxSteps := 1000000) [])
   cases e9 with
   | none =>
    refine Jtu [0] (x := .tup []) hb (by decide) (by rfl) (by rfl) (by rfl) (by rfl) (by rfl) (by rfl) ?_
    (simp (maxSteps := 1000000) [])
    exact hR _ _ (Fin_wk (.tup []) (.tup []) [ckB most s9] rfl (by simp only [ckB]; (exact wkA)) ⟨by rw [hspec]; rfl, by rw [hspec]⟩)
   | some e =>
    refine Jtw [0] (x := failV p e) hb (by decide) (by rfl) (by rfl) (by rfl) (by rfl) (by rfl) (by rfl) ?_
    (simp (maxSteps := 1000000) [])
    exact hR _ _ (Jt3r _ (failV p e) [ckB most s9] (by simp only [ckB, failV]; (exact wkA)) ⟨by rw [hspec]; rfl, by rw [hspec]⟩)
  ·rw [hrB] at huB
   rw [show useC s i.b (regZ m.b) at_ = (s1, some e) from Prod.ext eB hrB, Jto2] at hspec
   refine Jtw [0] (x := failV p e) huB (by decide) (by rfl) (by rfl) (by rfl) (by rfl) (by rfl) (by rfl) ?_
   (simp (maxSteps := 1000000) [])
   exact hR _ _ (Jt3r _ (failV p e) [ckB most s1] (by simp only [ckB, failV]; (exact wkA)) ⟨by rw [hspec]; rfl, by rw [hspec]⟩)
 ·(simp (maxSteps := 1000000) [hA, hB, hD])
  have eA : (useC s i.a (regZ m.a) at_).1 = s1 := by rw [hs1]; rfl
  have huA := (Jt5q A s most i.a m.a at_ (by omega) (by omega) q0)
  rw [eA] at huA
  rcases hrA : (useC s i.a (regZ m.a) at_).2 with _ | e
  ·rw [hrA] at huA
   rw [show useC s i.a (regZ m.a) at_ = (s1, none) from Prod.ext eA hrA, Jto1] at hspec
   refine Jtu [0] (x := .tup []) huA (by decide) (by rfl) (by rfl) (by rfl) (by rfl) (by rfl) (by rfl) ?_
   (simp (maxSteps := 1000000) [hA, hB, hD])
   exact hR _ _ (Fin_wk (.tup []) (.tup []) [ckB most s1] rfl (by simp only [ckB]; (exact wkA)) ⟨by rw [hspec]; rfl, by rw [hspec]⟩)
  ·rw [hrA] at huA
   rw [show useC s i.a (regZ m.a) at_ = (s1, some e) from Prod.ext eA hrA, Jto2] at hspec
   refine Jtw [0] (x := failV p e) huA (by decide) (by rfl) (by rfl) (by rfl) (by rfl) (by rfl) (by rfl) ?_
   (simp (maxSteps := 1000000) [])
   exact hR _ _ (Jt3r _ (failV p e) [ckB most s1] (by simp only [ckB, failV]; (exact wkA)) ⟨by rw [hspec]; rfl, by rw [hspec]⟩)
 ·(simp (maxSteps := 1000000) [hA, hB, hD])
  have eA : (useC s i.a (regZ m.a) at_).1 = s1 := by rw [hs1]; rfl
  have huA := (Jt5q A s most i.a m.a at_ (by omega) (by omega) q0)
  rw [eA] at huA
  rcases hrA : (useC s i.a (regZ m.a) at_).2 with _ | e
  ·rw [hrA] at huA
   rw [show useC s i.a (regZ m.a) at_ = (s1, none) from Prod.ext eA hrA, Jto1] at hspec
   refine Jtu [0] (x := .tup []) huA (by decide) (by rfl) (by rfl) (by rfl) (by rfl) (by rfl) (by rfl) ?_
   (simp (maxSteps := 1000000) [hA, hB, hD])
   have hc := Jt5m A s1 most (by omega) (by omega)
   rw [← hs2] at hc hspec
   have hV := hd hD
   have ho : Over V L (defP s1.set i.d (regZ m.d)) := (r1).over.define hV.1 hV.2
   have hl := Nat.lt_of_le_of_lt ho.len h.few
   have hset : s2.set = s1.set := by rw [hs2]; rfl
   have hb := Jt5l A s2 most (defP s1.set i.d (regZ m.d)) at_ hl (by have := (r2).lg; omega)
   have hdf : Jt3o P p.transfer_Define [.d (pairsD s2.set), AI i.d, AI (regZ m.d)] [] fun o _ => o = .ret (.d (pairsD (defP s1.set i.d (regZ m.d)))) := by rw [hset]; exact Jtof A S s1.set i.d (regZ m.d) (by omega) q1
   obtain ⟨dl, hdl⟩ : ∃ dl, dl = defP s1.set i.d (regZ m.d) := ⟨_, rfl⟩
   rw [← hdl] at hb hdf hspec
   obtain ⟨⟨s9, e9⟩, h9⟩ : ∃ r, r = Jt5e most s2 dl at_ := ⟨_, rfl⟩
   rw [← h9] at hb hspec
   refine Jtu [0] (x := .tup []) hc (by decide) (by rfl) (by rfl) (by rfl) (by rfl) (by rfl) (by rfl) ?_
   (simp (maxSteps := 1000000) [])
   (refine Jts (Jtef A m.d) (by rfl) (by rfl) ?_)
   (simp (maxSteps := 1000000) [])
   (refine Jts hdf (by rfl) (by rfl) ?_)
   (simp (maxSteps := 1000000) [])
   cases e9 with
   | none =>
    refine Jtu [0] (x := .tup []) hb (by decide) (by rfl) (by rfl) (by rfl) (by rfl) (by rfl) (by rfl) ?_
    (simp (maxSteps := 1000000) [])
    exact hR _ _ (Fin_wk (.tup []) (.tup []) [ckB most s9] rfl (by simp only [ckB]; (exact wkA)) ⟨by rw [hspec]; rfl, by rw [hspec]⟩)
   | some e =>
    refine Jtw [0] (x := failV p e) hb (by decide) (by rfl) (by rfl) (by rfl) (by rfl) (by rfl) (by rfl) ?_
    (simp (maxSteps := 1000000) [])
    exact hR _ _ (Jt3r _ (failV p e) [ckB most s9] (by simp only [ckB, failV]; (exact wkA)) ⟨by rw [hspec]; rfl, by rw [hspec]⟩)
  ·rw [hrA] at huA
   rw [show useC s i.a (regZ m.a) at_ = (s1, some e) from Prod.ext eA hrA, Jto2] at hspec
   refine Jtw [0] (x := failV p e) huA (by decide) (by rfl) (by rfl) (by rfl) (by rfl) (by rfl) (by rfl) ?_
   (simp (maxSteps := 1000000) [])
   exact hR _ _ (Jt3r _ (failV p e) [ckB most s1] (by simp only [ckB, failV]; (exact wkA)) ⟨by rw [hspec]; rfl, by rw [hspec]⟩)
 ·(simp (maxSteps := 1000000) [hA, hB, hD])
  have eA : (useC s i.a (regZ m.a) at_).1 = s1 := by rw [hs1]; rfl
  have huA := (Jt5q A s most i.a m.a at_ (by omega) (by omega) q0)
  rw [eA] at huA
  rcases hrA : (useC s i.a (regZ m.a) at_).2 with _ | e
  ·rw [hrA] at huA
   rw [show useC s i.a (regZ m.a) at_ = (s1, none) from Prod.ext eA hrA, Jto1] at hspec
   refine Jtu [0] (x := .tup []) huA (by decide) (by rfl) (by rfl) (by rfl) (by rfl) (by rfl) (by rfl) ?_
   (simp (maxSteps := 1000000) [hA, hB, hD])
   have eB : (useC s1 i.b (regZ m.b) at_).1 = s2 := by rw [hs2]; rfl
   have huB := (Jt5q A s1 most i.b m.b at_ (by omega) (by omega) q1)
   rw [eB] at huB
   rcases hrB : (useC s1 i.b (regZ m.b) at_).2 with _ | e
   ·rw [hrB] at huB
    rw [show useC s1 i.b (regZ m.b) at_ = (s2, none) from Prod.ext eB hrB, Jto1] at hspec
    refine Jtu [0] (x := .tup []) huB (by decide) (by rfl) (by rfl) (by rfl) (by rfl) (by rfl) (by rfl) ?_
    (simp (maxSteps := 1000000) [hA, hB, hD])
    exact hR _ _ (Fin_wk (.tup []) (.tup []) [ckB most s2] rfl (by simp only [ckB]; (exact wkA)) ⟨by rw [hspec]; rfl, by rw [hspec]⟩)
   ·rw [hrB] at huB
    rw [show useC s1 i.b (regZ m.b) at_ = (s2, some e) from Prod.ext eB hrB, Jto2] at hspec
    refine Jtw [0] (x := failV p e) huB (by decide) (by rfl) (by rfl) (by rfl) (by rfl) (by rfl) (by rfl) ?_
    (simp (maxSteps := 1000000) [])
    exact hR _ _ (Jt3r _ (failV p e) [ckB most s2] (by simp only [ckB, failV]; (exact wkA)) ⟨by rw [hspec]; rfl, by rw [hspec]⟩)
  ·rw [hrA] at huA
   rw [show useC s i.a (regZ m.a) at_ = (s1, some e) from Prod.ext eA hrA, Jto2] at hspec
   refine Jtw [0] (x := failV p e) huA (by decide) (by rfl) (by rfl) (by rfl) (by rfl) (by rfl) (by rfl) ?_
   (simp (maxSteps := 1000000) [])
   exact hR _ _ (Jt3r _ (failV p e) [ckB most s1] (by simp only [ckB, failV]; (exact wkA)) ⟨by rw [hspec]; rfl, by rw [hspec]⟩)
 ·(simp (maxSteps := 1000000) [hA, hB, hD])
  have eA : (useC s i.a (regZ m.a) at_).1 = s1 := by rw [hs1]; rfl
  have huA := (Jt5q A s most i.a m.a at_ (by omega) (by omega) q0)
  rw [eA] at huA
  rcases hrA : (useC s i.a (regZ m.a) at_).2 with _ | e
  ·rw [hrA] at huA
   rw [show useC s i.a (regZ m.a) at_ = (s1, none) from Prod.ext eA hrA, Jto1] at hspec
   refine Jtu [0] (x := .tup []) huA (by decide) (by rfl) (by rfl) (by rfl) (by rfl) (by rfl) (by rfl) ?_
   (simp (maxSteps := 1000000) [hA, hB, hD])
   have eB : (useC s1 i.b (regZ m.b) at_).1 = s2 := by rw [hs2]; rfl
   have huB := (Jt5q A s1 most i.b m.b at_ (by omega) (by omega) q1)
   rw [eB] at huB
   rcases hrB : (useC s1 i.b (regZ m.b) at_).2 with _ | e
   ·rw [hrB] at huB
    rw [show useC s1 i.b (regZ m.b) at_ = (s2, none) from Prod.ext eB hrB, Jto1] at hspec
    refine Jtu [0] (x := .tup []) huB (by decide) (by rfl) (by rfl) (by rfl) (by rfl) (by rfl) (by rfl) ?_
    (simp (maxSteps := 1000000) [hA, hB, hD])
    have hc := Jt5m A s2 most (by omega) (by omega)
    rw [← hs3] at hc hspec
    have hV := hd hD
    have ho : Over V L (defP s2.set i.d (regZ m.d)) := (r2).over.define hV.1 hV.2
    have hl := Nat.lt_of_le_of_lt ho.len h.few
    have hset : s3.set = s2.set := by rw [hs3]; rfl
    have hb := Jt5l A s3 most (defP s2.set i.d (regZ m.d)) at_ hl (by have := (g2).lg; omega)
    have hdf : Jt3o P p.transfer_Define [.d (pairsD s3.set), AI i.d, AI (regZ m.d)] [] fun o _ => o = .ret (.d (pairsD (defP s2.set i.d (regZ m.d)))) := by rw [hset]; exact Jtof A S s2.set i.d (regZ m.d) (by omega) q2
    obtain ⟨dl, hdl⟩ : ∃ dl, dl = defP s2.set i.d (regZ m.d) := ⟨_, rfl⟩
    rw [← hdl] at hb hdf hspec
    obtain ⟨⟨s9, e9⟩, h9⟩ : ∃ r, r = Jt5e most s3 dl at_ := ⟨_, rfl⟩
    rw [← h9] at hb hspec
    refine Jtu [0] (x := .tup []) hc (by decide) (by rfl) (by rfl) (by rfl) (by rfl) (by rfl) (by rfl) ?_
    (simp (maxSteps := 1000000) [])
    (refine Jts (Jtef A m.d) (by rfl) (by rfl) ?_)
    (simp (maxSteps := 1000000) [])
    (refine Jts hdf (by rfl) (by rfl) ?_)
    (simp (maxSteps := 1000000) [])
    cases e9 with
    | none =>
     refine Jtu [0] (x := .tup []) hb (by decide) (by rfl) (by rfl) (by rfl) (by rfl) (by rfl) (by rfl) ?_
     (simp (maxSteps := 1000000) [])
     exact hR _ _ (Fin_wk (.tup []) (.tup []) [ckB most s9] rfl (by simp only [ckB]; (exact wkA)) ⟨by rw [hspec]; rfl, by rw [hspec]⟩)
    | some e =>
     refine Jtw [0] (x := failV p e) hb (by decide) (by rfl) (by rfl) (by rfl) (by rfl) (by rfl) (by rfl) ?_
     (simp (maxSteps := 1000000) [])
     exact hR _ _ (Jt3r _ (failV p e) [ckB most s9] (by simp only [ckB, failV]; (exact wkA)) ⟨by rw [hspec]; rfl, by rw [hspec]⟩)
   ·rw [hrB] at huB
    rw [show useC s1 i.b (regZ m.b) at_ = (s2, some e) from Prod.ext eB hrB, Jto2] at hspec
    refine Jtw [0] (x := failV p e) huB (by decide) (by rfl) (by rfl) (by rfl) (by rfl) (by rfl) (by rfl) ?_
    (simp (maxSteps := 1000000) [])
    exact hR _ _ (Jt3r _ (failV p e) [ckB most s2] (by simp only [ckB, failV]; (exact wkA)) ⟨by rw [hspec]; rfl, by rw [hspec]⟩)
  ·rw [hrA] at huA
   rw [show useC s i.a (regZ m.a) at_ = (s1, some e) from Prod.ext eA hrA, Jto2] at hspec
   refine Jtw [0] (x := failV p e) huA (by decide) (by rfl) (by rfl) (by rfl) (by rfl) (by rfl) (by rfl) ?_
   (simp (maxSteps := 1000000) [])
   exact hR _ _ (Jt3r _ (failV p e) [ckB most s1] (by simp only [ckB, failV]; (exact wkA)) ⟨by rw [hspec]; rfl, by rw [hspec]⟩)
end
structure ARow where (cf ct mf mt : Nat) (src mach : Int)
def ARow.row (r : ARow) : List D := [I r.cf, I r.ct, I r.mf, I r.mt, I r.src, I r.mach]
def ARow.av (r : ARow) : AV := .agg [AI r.cf, AI r.ct, AI r.mf, AI r.mt, AI r.src, AI r.mach]
def copyC (most at_ : Int) : List Instr → CS → CR
 | [], s => (s, none)
 | i :: is, s => thenC (Jt5e most (costC s) (copyP s.set i.d i.a) at_) (copyC most at_ is)
def moveC (most : Int) : Nat → List Mach → CS → CR
 | _, [], s => (s, none)
 | k, m :: ms, s => thenC (Jt5e most (costC s) (moveP s.set m.dst m.src) k) (moveC most (k + 1) ms)
def lastC (most : Int) (b : List Instr) (m : List Mach) (r : ARow) (s : CS) : CR :=
 if 0 ≤ r.src then match b[r.src.toNat]?, m[r.mach.toNat]? with
  | some i, some x => instrC most s i x r.mach
  | _, _ => (s, none)
 else (s, none)
def rowC (most : Int) (b : List Instr) (m : List Mach) (r : ARow) (s : CS) : CR :=
 thenC (copyC most r.mf ((b.take r.ct).drop r.cf) s) fun s => thenC (moveC most r.mf ((m.take r.mt).drop r.mf) s) (lastC most b m r)
structure RowOk (b : List Instr) (m : List Mach) (r : ARow) : Prop where
 hc : r.cf ≤ r.ct ∧ r.ct ≤ b.length
 hm : r.mf ≤ r.mt ∧ r.mt ≤ m.length
 hs : 0 ≤ r.src → r.src < b.length ∧ 0 ≤ r.mach ∧ r.mach < m.length
structure VLOk (V L : List Int) (b : List Instr) (m : List Mach) : Prop where
 v : ∀ i ∈ b, i.d ∈ V
 l : ∀ x ∈ m, x.dst ∈ L ∧ regZ x.d ∈ L
theorem Room.copyStep {V L : List Int} {s : CS} {n : Nat} (h : Room V L s (n + 1)) {d a : Int} (hd : d ∈ V) (most at_ : Int) : Room V L (Jt5e most (costC s) (copyP s.set d a) at_).1 n := h.cost.become (h.over.copy hd) _ _
theorem Room.moveStep {V L : List Int} {s : CS} {n : Nat} (h : Room V L s (n + 1)) {d a : Int} (hd : d ∈ L) (most at_ : Int) : Room V L (Jt5e most (costC s) (moveP s.set d a) at_).1 n := h.cost.become (h.over.move hd) _ _
theorem Jt7c {V L : List Int} {most at_ : Int} : ∀ {l : List Instr} {s : CS} {n : Nat}, Room V L s (n + l.length) → (∀ i ∈ l, i.d ∈ V) → Room V L (copyC most at_ l s).1 n := by
 intro l
 induction l with
 | nil => intro s n h _; exact h
 | cons i l ih =>
  intro s n h hv
  have h1 := Room.copyStep (n := n + l.length) (by simpa [Nat.add_assoc] using h) (hv i (by simp)) most at_ (a := i.a)
  simp only [copyC]
  generalize Jt5e most (costC s) (copyP s.set i.d i.a) at_ = r at h1
  obtain ⟨s1, e⟩ := r
  cases e with
  | some e => rw [Jto2]; exact h1.mono (by omega)
  | none => rw [Jto1]; exact ih h1 fun j hj => hv j (by simp [hj])
theorem Jtg9 {V L : List Int} {most : Int} : ∀ {l : List Mach} {k : Nat} {s : CS} {n : Nat}, Room V L s (n + l.length) → (∀ x ∈ l, x.dst ∈ L) → Room V L (moveC most k l s).1 n := by
 intro l
 induction l with
 | nil => intro k s n h _; exact h
 | cons i l ih =>
  intro k s n h hv
  have h1 := Room.moveStep (n := n + l.length) (by simpa [Nat.add_assoc] using h) (hv i (by simp)) most k (a := i.src)
  simp only [moveC]
  generalize Jt5e most (costC s) (moveP s.set i.dst i.src) k = r at h1
  obtain ⟨s1, e⟩ := r
  cases e with
  | some e => rw [Jto2]; exact h1.mono (by omega)
  | none => rw [Jto1]; exact ih h1 fun j hj => hv j (by simp [hj])
theorem Jtdt {V L : List Int} {most : Int} {b : List Instr} {m : List Mach} {r : ARow} {s : CS} {n : Nat} (h : Room V L s (n + 3)) (hv : VLOk V L b m) : Room V L (lastC most b m r s).1 n := by
 unfold lastC
 split
 ·split
  ·rename_i i x h1 h2
   exact Jtdg h fun _ => ⟨hv.v i (List.mem_of_getElem? h1), (hv.l x (List.mem_of_getElem? h2)).2⟩
  ·exact h.mono (by omega)
 ·exact h.mono (by omega)
theorem Jtkp {V L : List Int} {most : Int} {b : List Instr} {m : List Mach} {r : ARow} {s : CS} {n : Nat} (h : Room V L s (n + 3 + ((m.take r.mt).drop r.mf).length + ((b.take r.ct).drop r.cf).length)) (hv : VLOk V L b m) : Room V L (rowC most b m r s).1 n := by
 unfold rowC
 have h1 := Jt7c (most := most) (at_ := r.mf) h fun i hi => hv.v i (List.mem_of_mem_take (List.mem_of_mem_drop hi))
 generalize copyC most r.mf ((b.take r.ct).drop r.cf) s = q at h1
 obtain ⟨s1, e⟩ := q
 cases e with
 | some e => rw [Jto2]; exact h1.mono (by omega)
 | none =>
  rw [Jto1]
  have h2 := Jtg9 (most := most) (k := r.mf) h1 fun i hi => (hv.l i (List.mem_of_mem_take (List.mem_of_mem_drop hi))).1
  generalize moveC most r.mf ((m.take r.mt).drop r.mf) s1 = q at h2
  obtain ⟨s2, e⟩ := q
  cases e with
  | some e => rw [Jto2]; exact h2.mono (by omega)
  | none => rw [Jto1]; exact Jtdt h2 hv
theorem Jtdl (i : Instr) : i.row.length = 5 := rfl
theorem Jt7s {α : Type} {l : List α} {j : Nat} (h : j < l.length) : l.drop j = l[j] :: l.drop (j + 1) := List.drop_eq_getElem_cons h
section
theorem Jt5o {P : Program} {p : Nums} (A : All P p) (S : SortOk P p) (C : ClosOk P p) {V L : List Int} (s : CS) (most : Int) (b : Block) (m : MBlock) (r : ARow) {n1 n2 : Nat} (hn1 : n1 = r.ct - r.cf) (hn2 : n2 = r.mt - r.mf) (h : Room V L s (3 + n2 + n1)) (hv : VLOk V L b.code m.code) (hr : RowOk b.code m.code r)
  (hb0 : b.code.length < 1000000) (hm0 : m.code.length < 1000000) :
  Jt3o P p.blockcheck_checker_row [.ptr 0 0, b.av, m.av, r.av] [ckB most s] fun o H' => o = outR p (rowC most b.code m.code r s).2 ∧ H' = [ckB most (rowC most b.code m.code r s).1] := by
 refine A.blockcheck_checker_row.run rfl fun R hR => ?_
 obtain ⟨code, kind, ta, to, els⟩ := b
 obtain ⟨mcode, mkind, mta, mto, mels⟩ := m
 obtain ⟨cf, ct, mf, mt, src, mach⟩ := r
 obtain ⟨⟨hc1, hc2⟩, ⟨hm1, hm2⟩, hsr⟩ := hr
 simp only at hc1 hc2 hm1 hm2 hsr hn1 hn2 hb0 hm0 hv
 obtain ⟨sub, hsub⟩ : ∃ l, l = (code.take ct).drop cf := ⟨_, rfl⟩
 obtain ⟨msub, hmsub⟩ : ∃ l, l = (mcode.take mt).drop mf := ⟨_, rfl⟩
 have hsl : sub.length = n1 := by rw [hsub, hn1]; simp; omega
 have hml : msub.length = n2 := by rw [hmsub, hn2]; simp; omega
 have hsv : ∀ i ∈ sub, i.d ∈ V := fun i hi => hv.v i (by rw [hsub] at hi; exact List.mem_of_mem_take (List.mem_of_mem_drop hi))
 have hml' : ∀ x ∈ msub, x.dst ∈ L := fun x hx => (hv.l x (by rw [hmsub] at hx; exact List.mem_of_mem_take (List.mem_of_mem_drop hx))).1
 have hspec : rowC most code mcode ⟨cf, ct, mf, mt, src, mach⟩ s = thenC (copyC most mf sub s) fun s => thenC (moveC most mf msub s) (lastC most code mcode ⟨cf, ct, mf, mt, src, mach⟩) := by rw [hsub, hmsub]; rfl
 obtain ⟨bB, hbB⟩ : ∃ x, x = Blk.mem [.d (.sl (code.map Instr.row)), AI kind, AI ta, AI to, AI els] := ⟨_, rfl⟩
 have i1 : (cf : Int) ≤ (ct : Int) := by omega
 have i2 : (ct : Int) ≤ (code.length : Int) := by omega
 have hrows : ((code.map Instr.row).take ct).drop cf = sub.map Instr.row := by rw [hsub, List.map_drop, List.map_take]
 obtain ⟨T1, hT1⟩ : ∃ T, T = copyC most mf sub s := ⟨_, rfl⟩
 rw [← hT1] at hspec
 (simp (maxSteps := 1000000) [Jtam, Block.av, MBlock.av, ARow.av, i1, i2, hrows, Jtdl])
 refine Jt9 (fun x : Nat × CS => ⟨[(19, AI x.1), (18, AI sub.length), (17, .d (.sl (sub.map Instr.row))), (7, .ptr 3 0), (6, .ptr 2 0), (5, .ptr 1 0), (0, .ptr 0 0)],
  [ckB most x.2, .mem [.d (.sl (code.map Instr.row)), AI kind, AI ta, AI to, AI els], .mem [.d (.sl (mcode.map Mach.row)), AI mkind, AI mta, AI mto, AI mels], .mem [AI cf, AI ct, AI mf, AI mt, AI src, AI mach]]⟩)
  (fun x => x.1 ≤ sub.length ∧ copyC most mf (sub.drop x.1) x.2 = T1 ∧ Room V L x.2 (3 + n2 + (n1 - x.1))) (fun x => sub.length - x.1) (0, s) (by simp [hT1]; exact h) (by simp only [ckB]; (exact wkA)) ?_
 rintro ⟨j, t⟩ ⟨hj, hT, hR1⟩ N hN
 simp only at hj hT hR1
 (simp (maxSteps := 1000000) [])
 ((first | refine Xc (fun h2 => ?_) (fun h2 => ?_) | refine Xo (fun h2 => ?_) (fun h2 => ?_)) <;> (try simp only [Xz, Xy] at h2))
 ·have hjl : j < sub.length := by simpa using h2
  have hji : sub[j]? = some sub[j] := by simp [hjl]
  have hw := Jtp7 (k := j) (by omega)
  rw [Jt7s hjl] at hT
  simp only [copyC] at hT
  obtain ⟨t1, ht1⟩ : ∃ t1, t1 = costC t := ⟨_, rfl⟩
  have hxv : sub[j].d ∈ V := hsv _ (List.getElem_mem hjl)
  rw [← ht1] at hT
  have e0 : n1 - j = (n1 - (j + 1)) + 1 := by omega
  rw [e0, ← Nat.add_assoc] at hR1
  have hR2 := hR1.copyStep hxv most mf (a := sub[j].a)
  have hl0 := hR1.len
  have hst := hR1.steps
  have hlg := hR1.lg
  have hcost := Jt5m A t most hl0 (by omega)
  have hol := Nat.lt_of_le_of_lt (hR1.over.copy hxv (a := sub[j].a)).len hR1.few
  have hset : t1.set = t.set := by rw [ht1]; rfl
  have hlg1 : t1.largest = t.largest := by rw [ht1]; rfl
  rw [← ht1] at hcost hR2
  have hcp : Jt3o P p.transfer_Copy [.d (pairsD t1.set), AI sub[j].d, AI sub[j].a] [] fun o _ => o = .ret (.d (pairsD (copyP t.set sub[j].d sub[j].a))) := by rw [hset]; exact Jtod A S C t.set sub[j].d sub[j].a hl0
  obtain ⟨cl, hcl⟩ : ∃ cl, cl = copyP t.set sub[j].d sub[j].a := ⟨_, rfl⟩
  rw [← hcl] at hT hR2 hcp hol
  have hbec := Jt5l A t1 most cl mf hol (by omega)
  obtain ⟨⟨t2, e2⟩, h2r⟩ : ∃ r, r = Jt5e most t1 cl mf := ⟨_, rfl⟩
  rw [← h2r] at hbec hT hR2
  (simp (maxSteps := 1000000) [h2, List.getElem?_map, hji, Instr.row, hw])
  refine Jtu [0] (x := .tup []) hcost (by decide) (by rfl) (by rfl) (by rfl) (by rfl) (by rfl) (by rfl) ?_
  (simp (maxSteps := 1000000) [ckB])
  (refine Jts hcp (by rfl) (by rfl) ?_)
  (simp (maxSteps := 1000000) [])
  cases e2 with
  | none =>
   rw [Jto1] at hT
   refine Jtu [0] (x := .tup []) hbec (by decide) (by rfl) (by rfl) (by rfl) (by rfl) (by rfl) (by rfl) ?_
   (simp (maxSteps := 1000000) [ckB, hw])
   exact hN _ (j + 1, t2) ⟨hjl, hT, hR2⟩ (by simp only [ckB]; (exact wkA)) (by simp only; omega)
  | some e =>
   rw [Jto2] at hT
   refine Jtw [0] (x := failV p e) hbec (by decide) (by rfl) (by rfl) (by rfl) (by rfl) (by rfl) (by rfl) ?_
   (simp (maxSteps := 1000000) [ckB])
   rw [← hT, Jto2] at hspec
   exact hR _ _ (Jt3r _ (failV p e) [ckB most t2] (by simp only [ckB, failV]; (exact wkA)) ⟨by rw [hspec]; rfl, by rw [hspec]⟩)
 ·have hjl : j = sub.length := by simp at h2; omega
  subst hjl
  have hT' : T1 = (t, none) := by rw [← hT, List.drop_length]; rfl
  rw [hT', Jto1] at hspec
  have e0 : n1 - sub.length = 0 := by omega
  rw [e0, Nat.add_zero] at hR1
  obtain ⟨T2, hT2⟩ : ∃ T, T = moveC most mf msub t := ⟨_, rfl⟩
  rw [← hT2] at hspec
  (simp (maxSteps := 1000000) [])
  refine Jt9 (fun x : Nat × CS => ⟨[(10, AI x.1), (7, .ptr 3 0), (6, .ptr 2 0), (5, .ptr 1 0), (0, .ptr 0 0)],
   [ckB most x.2, .mem [.d (.sl (code.map Instr.row)), AI kind, AI ta, AI to, AI els], .mem [.d (.sl (mcode.map Mach.row)), AI mkind, AI mta, AI mto, AI mels], .mem [AI cf, AI ct, AI mf, AI mt, AI src, AI mach]]⟩)
   (fun x => mf ≤ x.1 ∧ x.1 ≤ mt ∧ moveC most x.1 (msub.drop (x.1 - mf)) x.2 = T2 ∧ Room V L x.2 (3 + (mt - x.1))) (fun x => mt - x.1) (mf, t) (by simp [hT2]; exact ⟨hm1, by rw [← hn2]; exact hR1⟩) (by simp only [ckB]; (exact wkA)) ?_
  rintro ⟨k, u⟩ ⟨hk0, hk1, hTm, hR2⟩ N hN
  simp only at hk0 hk1 hTm hR2
  (simp (maxSteps := 1000000) [])
  ((first | refine Xc (fun h3 => ?_) (fun h3 => ?_) | refine Xo (fun h3 => ?_) (fun h3 => ?_)) <;> (try simp only [Xz, Xy] at h3))
  ·have hkl : k < mt := by simpa using h3
   have hkm : k < mcode.length := by omega
   have hjl : k - mf < msub.length := by omega
   have hmj : msub[k - mf] = mcode[k] := by simp [hmsub]; congr 1; omega
   have hw := Jtp7 (k := k) (by omega)
   have hmi : mcode[k]? = some mcode[k] := by simp [hkm]
   rw [Jt7s hjl, hmj] at hTm
   simp only [moveC] at hTm
   have e1 : k - mf + 1 = k + 1 - mf := by omega
   rw [e1] at hTm
   obtain ⟨t1, ht1⟩ : ∃ t1, t1 = costC u := ⟨_, rfl⟩
   have hxv : mcode[k].dst ∈ L := (hv.l _ (List.getElem_mem hkm)).1
   rw [← ht1] at hTm
   have e0 : mt - k = (mt - (k + 1)) + 1 := by omega
   rw [e0, ← Nat.add_assoc] at hR2
   have hR3 := hR2.moveStep hxv most k (a := mcode[k].src)
   have hl0 := hR2.len
   have hst := hR2.steps
   have hlg := hR2.lg
   have hcost := Jt5m A u most hl0 (by omega)
   have hol := Nat.lt_of_le_of_lt (hR2.over.move hxv (a := mcode[k].src)).len hR2.few
   have hset : t1.set = u.set := by rw [ht1]; rfl
   have hlg1 : t1.largest = u.largest := by rw [ht1]; rfl
   rw [← ht1] at hcost hR3
   have hcp : Jt3o P p.transfer_Move [.d (pairsD t1.set), AI mcode[k].dst, AI mcode[k].src] [] fun o _ => o = .ret (.d (pairsD (moveP u.set mcode[k].dst mcode[k].src))) := by rw [hset]; exact Jtoh A S C u.set mcode[k].dst mcode[k].src hl0
   obtain ⟨cl, hcl⟩ : ∃ cl, cl = moveP u.set mcode[k].dst mcode[k].src := ⟨_, rfl⟩
   rw [← hcl] at hTm hR3 hcp hol
   have hbec := Jt5l A t1 most cl k hol (by omega)
   obtain ⟨⟨t2, e2⟩, h2r⟩ : ∃ r, r = Jt5e most t1 cl k := ⟨_, rfl⟩
   rw [← h2r] at hbec hTm hR3
   (simp (maxSteps := 1000000) [h3, List.getElem?_map, hmi, Mach.row, hw])
   refine Jtu [0] (x := .tup []) hcost (by decide) (by rfl) (by rfl) (by rfl) (by rfl) (by rfl) (by rfl) ?_
   (simp (maxSteps := 1000000) [ckB, List.getElem?_map, hmi, Mach.row])
   (refine Jts hcp (by rfl) (by rfl) ?_)
   (simp (maxSteps := 1000000) [])
   cases e2 with
   | none =>
    rw [Jto1] at hTm
    refine Jtu [0] (x := .tup []) hbec (by decide) (by rfl) (by rfl) (by rfl) (by rfl) (by rfl) (by rfl) ?_
    (simp (maxSteps := 1000000) [ckB, hw])
    exact hN _ (k + 1, t2) ⟨by simp only; omega, hkl, hTm, hR3⟩ (by simp only [ckB]; (exact wkA)) (by simp only; omega)
   | some e =>
    rw [Jto2] at hTm
    refine Jtw [0] (x := failV p e) hbec (by decide) (by rfl) (by rfl) (by rfl) (by rfl) (by rfl) (by rfl) ?_
    (simp (maxSteps := 1000000) [ckB])
    rw [← hTm, Jto2] at hspec
    exact hR _ _ (Jt3r _ (failV p e) [ckB most t2] (by simp only [ckB, failV]; (exact wkA)) ⟨by rw [hspec]; rfl, by rw [hspec]⟩)
  ·have hkl : k = mt := by simp at h3; omega
   subst hkl
   have hT'' : T2 = (u, none) := by rw [← hTm, List.drop_eq_nil_of_le (by omega)]; rfl
   rw [hT'', Jto1] at hspec
   rw [Nat.sub_self, Nat.add_zero] at hR2
   (simp (maxSteps := 1000000) [])
   ((first | refine Xc (fun h4 => ?_) (fun h4 => ?_) | refine Xo (fun h4 => ?_) (fun h4 => ?_)) <;> (try simp only [Xz, Xy] at h4))
   ·obtain ⟨h5, h6, h7⟩ := hsr h4
    have hi1 : src.toNat < code.length := by omega
    have hi2 : mach.toNat < mcode.length := by omega
    have hci : code[src.toNat]? = some code[src.toNat] := by simp [hi1]
    have hmi : mcode[mach.toNat]? = some mcode[mach.toNat] := by simp [hi2]
    have hl : lastC most code mcode ⟨cf, ct, mf, k, src, mach⟩ u = instrC most u code[src.toNat] mcode[mach.toNat] mach := by
     simp only [lastC, h4, if_true, hci, hmi]
    rw [hl] at hspec
    have hins := Jt5n A S u most code[src.toNat] mcode[mach.toNat] mach hR2 (fun _ => ⟨hv.v _ (List.getElem_mem hi1), (hv.l _ (List.getElem_mem hi2)).2⟩)
    obtain ⟨⟨t2, e2⟩, h2r⟩ : ∃ r, r = instrC most u code[src.toNat] mcode[mach.toNat] mach := ⟨_, rfl⟩
    rw [← h2r] at hins hspec
    (simp (maxSteps := 1000000) [h4, h6, List.getElem?_map, hci, hmi, Instr.row, Mach.row])
    cases e2 with
    | none =>
     refine Jtu [0] (x := .tup []) hins (by decide) (by rfl) (by rfl) (by rfl) (by rfl) (by rfl) (by rfl) ?_
     (simp (maxSteps := 1000000) [ckB])
     exact hR _ _ (Fin_wk (.tup []) (.tup []) [ckB most t2] rfl (by simp only [ckB]; (exact wkA)) ⟨by rw [hspec]; rfl, by rw [hspec]⟩)
    | some e =>
     refine Jtw [0] (x := failV p e) hins (by decide) (by rfl) (by rfl) (by rfl) (by rfl) (by rfl) (by rfl) ?_
     (simp (maxSteps := 1000000) [ckB])
     exact hR _ _ (Jt3r _ (failV p e) [ckB most t2] (by simp only [ckB, failV]; (exact wkA)) ⟨by rw [hspec]; rfl, by rw [hspec]⟩)
   ·have hl : lastC most code mcode ⟨cf, ct, mf, k, src, mach⟩ u = (u, none) := by
     unfold lastC; rw [if_neg h4]
    rw [hl] at hspec
    (simp (maxSteps := 1000000) [h4])
    exact hR _ _ (Fin_wk (.tup []) (.tup []) [ckB most u] rfl (by simp only [ckB]; (exact wkA)) ⟨by rw [hspec]; rfl, by rw [hspec]⟩)
end
def rowsC (most : Int) (b : List Instr) (m : List Mach) : List ARow → CS → CR
 | [], s => (s, none)
 | r :: rs, s => thenC (rowC most b m r s) (rowsC most b m rs)
def runC (most : Int) (b : Block) (m : MBlock) (rows : List ARow) (s : CS) : CR :=
 thenC (rowsC most b.code m.code rows s) fun s => if b.term.kind = 1 then (s, none) else useC s b.term.a (regZ m.term.a) m.code.length
def runE (m : MBlock) : Option (Int × Int) → Int × Int
 | none => (0, m.code.length)
 | some e => e
def needR (r : ARow) : Nat := 3 + (r.mt - r.mf) + (r.ct - r.cf)
def needRs (rs : List ARow) : Nat := (rs.map needR).sum
section
variable {P : Program} {p : Nums}
theorem Jtlc {s : CS} {most : Int} {e : Int × Int} {b m : List AV} {E : List (Nat × AV)} (h8 : get E 8 = some (.ptr 3 0)) (h9 : get E 9 = some (.ptr 4 0)) {Q : AOut → List Blk → Prop} (hQ : Q (.ret (.tup [AI e.1, AI e.2])) [ckB most s]) :
  FinD P [.cell 8 none, .cell 9 none] 1 (Jtao p) [8, 9] 5 2 [.ptr 3 0, .ptr 4 0] Q (.panic (failV p e)) ⟨E, [ckB most s, .mem b, .mem m, .mem [AI 0], .mem [AI 0]]⟩ := by
 refine ⟨fun j c hj => ?_, ?_⟩
 ·match j with
  | 0 => simp at hj; subst hj; exact h8
  | 1 => simp at hj; subst hj; exact h9
  | j + 2 => simp at hj
 ·obtain ⟨c, hc⟩ : ∃ c, c = ckB most s := ⟨_, rfl⟩
  have hcm : c = .mem [.d (pairsD s.set), AI most, AI s.steps, AI s.largest] := hc
  rw [← hc] at hQ ⊢
  (simp (maxSteps := 1000000) [Jtao, panV, failV])
  exact ⟨_, rfl, .tup [AI e.1, AI e.2], [c], by rw [hcm]; (exact wkA), hQ⟩
theorem Jtld {x0 : Blk} {s : CS} {most : Int} {e : Int × Int} {b m : List AV} {E : List (Nat × AV)} (h8 : get E 8 = some (.ptr 3 0)) (h9 : get E 9 = some (.ptr 4 0)) {Q : AOut → List Blk → Prop} (hQ : Q (.ret (.tup [AI e.1, AI e.2])) [ckB most s]) :
  FinD P [.cell 8 none, .cell 9 none] 1 (Jtao p) [8, 9] 5 2 [.ptr 3 0, .ptr 4 0] Q (.panic (failV p e)) ⟨E, [ckB most s, .mem b, .mem m, .mem [AI 0], .mem [AI 0], x0]⟩ := by
 refine ⟨fun j c hj => ?_, ?_⟩
 ·match j with
  | 0 => simp at hj; subst hj; exact h8
  | 1 => simp at hj; subst hj; exact h9
  | j + 2 => simp at hj
 ·obtain ⟨c, hc⟩ : ∃ c, c = ckB most s := ⟨_, rfl⟩
  have hcm : c = .mem [.d (pairsD s.set), AI most, AI s.steps, AI s.largest] := hc
  rw [← hc] at hQ ⊢
  (simp (maxSteps := 1000000) [Jtao, panV, failV])
  exact ⟨_, rfl, .tup [AI e.1, AI e.2], [c], by rw [hcm]; (exact wkA), hQ⟩
theorem Jtlf {s : CS} {most : Int} {e : Int × Int} {b m : List AV} {E : List (Nat × AV)} (h8 : get E 8 = some (.ptr 3 0)) (h9 : get E 9 = some (.ptr 4 0)) {Q : AOut → List Blk → Prop} (hQ : Q (.ret (.tup [AI e.1, AI e.2])) [ckB most s]) :
  FinD P [.cell 8 none, .cell 9 none] 1 (Jtao p) [8, 9] 5 2 [.ptr 3 0, .ptr 4 0] Q .ret ⟨E, [ckB most s, .mem b, .mem m, .mem [AI e.1], .mem [AI e.2]]⟩ := by
 refine ⟨fun j c hj => ?_, ?_⟩
 ·match j with
  | 0 => simp at hj; subst hj; exact h8
  | 1 => simp at hj; subst hj; exact h9
  | j + 2 => simp at hj
 ·obtain ⟨c, hc⟩ : ∃ c, c = ckB most s := ⟨_, rfl⟩
  have hcm : c = .mem [.d (pairsD s.set), AI most, AI s.steps, AI s.largest] := hc
  rw [← hc] at hQ ⊢
  (simp (maxSteps := 1000000) [Jtao, panV])
  exact ⟨_, rfl, .tup [AI e.1, AI e.2], [c], by rw [hcm]; (exact wkA), hQ⟩
end
theorem Jtgd (r : ARow) (rs : List ARow) : needRs (r :: rs) = needR r + needRs rs := by simp [needRs]
section
theorem Jt5p {P : Program} {p : Nums} (A : All P p) (S : SortOk P p) (C : ClosOk P p) {V L : List Int} (s : CS) (most : Int) (b : Block) (m : MBlock) (rows : List ARow) (h : Room V L s (needRs rows + 1)) (hv : VLOk V L b.code m.code) (hr : ∀ r ∈ rows, RowOk b.code m.code r)
  (hb0 : b.code.length < 1000000) (hm0 : m.code.length < 1000000) (hrl : rows.length < 1000000) :
  Jt3o P p.blockcheck_checker_run [.ptr 0 0, b.av, m.av, .d (.sl (rows.map ARow.row))] [ckB most s]
   fun o H' => o = .ret (.tup [AI (runE m (runC most b m rows s).2).1, AI (runE m (runC most b m rows s).2).2]) ∧ H' = [ckB most (runC most b m rows s).1] := by
 obtain ⟨Q, hQ⟩ : ∃ Q : AOut → List Blk → Prop, Q = fun o H' => o = .ret (.tup [AI (runE m (runC most b m rows s).2).1, AI (runE m (runC most b m rows s).2).2]) ∧ H' = [ckB most (runC most b m rows s).1] := ⟨_, rfl⟩
 rw [← hQ]
 refine A.blockcheck_checker_run.calls rfl ?_
 obtain ⟨code, kind, ta, to, els⟩ := b
 obtain ⟨mcode, mkind, mta, mto, mels⟩ := m
 obtain ⟨total, htot⟩ : ∃ T, T = runC most ⟨code, kind, ta, to, els⟩ ⟨mcode, mkind, mta, mto, mels⟩ rows s := ⟨_, rfl⟩
 rw [← htot] at hQ
 have fin : ∀ s' e, total = (s', e) → Q (.ret (.tup [AI (runE ⟨mcode, mkind, mta, mto, mels⟩ e).1, AI (runE ⟨mcode, mkind, mta, mto, mels⟩ e).2])) [ckB most s'] := by
  intro s' e he
  rw [hQ, he]; exact ⟨rfl, rfl⟩
 obtain ⟨T1, hT1⟩ : ∃ T, T = rowsC most code mcode rows s := ⟨_, rfl⟩
 have hspec : total = thenC T1 fun s => if kind = 1 then (s, none) else useC s ta (regZ mta) mcode.length := by rw [htot, hT1]; rfl
 simp only at hb0 hm0 hv hr
 (simp (maxSteps := 1000000) [Jtan, Block.av, MBlock.av])
 refine ⟨[.ptr 3 0, .ptr 4 0], rfl, fun j c hj => ?_, fun x hx => by simp at hx; rcases hx with rfl | rfl <;> rfl, ?_⟩
 ·match j with
  | 0 => simp at hj; subst hj; rfl
  | 1 => simp at hj; subst hj; rfl
  | j + 2 => simp at hj
 (simp (maxSteps := 1000000) [Jtap])
 refine Jt9 (fun x : Nat × CS => ⟨[(15, AI x.1), (14, AI rows.length), (13, .d (.sl (rows.map ARow.row))), (9, .ptr 4 0), (8, .ptr 3 0), (6, .ptr 2 0), (5, .ptr 1 0), (0, .ptr 0 0)],
  [ckB most x.2, .mem [.d (.sl (code.map Instr.row)), AI kind, AI ta, AI to, AI els], .mem [.d (.sl (mcode.map Mach.row)), AI mkind, AI mta, AI mto, AI mels], .mem [AI 0], .mem [AI 0]]⟩)
  (fun x => x.1 ≤ rows.length ∧ rowsC most code mcode (rows.drop x.1) x.2 = T1 ∧ Room V L x.2 (needRs (rows.drop x.1) + 1)) (fun x => rows.length - x.1) (0, s) (by simp [hT1]; exact h) (by simp only [ckB]; (exact wkA)) ?_
 rintro ⟨j, t⟩ ⟨hj, hT, hR1⟩ N hN
 simp only at hj hT hR1
 (simp (maxSteps := 1000000) [])
 ((first | refine Xc (fun h2 => ?_) (fun h2 => ?_) | refine Xo (fun h2 => ?_) (fun h2 => ?_)) <;> (try simp only [Xz, Xy] at h2))
 ·have hjl : j < rows.length := by simpa using h2
  have hji : rows[j]? = some rows[j] := by simp [hjl]
  have hw := Jtp7 (k := j) (by omega)
  rw [Jt7s hjl] at hT hR1
  rw [Jtgd] at hR1
  simp only [rowsC] at hT
  have hro := hr _ (List.getElem_mem hjl)
  have hrow := Jt5o A S C t most ⟨code, kind, ta, to, els⟩ ⟨mcode, mkind, mta, mto, mels⟩ rows[j] (n1 := rows[j].ct - rows[j].cf) (n2 := rows[j].mt - rows[j].mf) rfl rfl (hR1.mono (by unfold needR; omega)) hv hro hb0 hm0
  have hl1 : ((mcode.take rows[j].mt).drop rows[j].mf).length = rows[j].mt - rows[j].mf := by have := hro.hm; simp; omega
  have hl2 : ((code.take rows[j].ct).drop rows[j].cf).length = rows[j].ct - rows[j].cf := by have := hro.hc; simp; omega
  have hR2 := Jtkp (n := needRs (rows.drop (j + 1)) + 1) (most := most) (r := rows[j]) (hR1.mono (by rw [hl1, hl2]; unfold needR; omega)) hv
  simp only at hrow
  obtain ⟨⟨t2, e2⟩, h2r⟩ : ∃ r, r = rowC most code mcode rows[j] t := ⟨_, rfl⟩
  rw [← h2r] at hrow hT hR2
  (simp (maxSteps := 1000000) [h2, List.getElem?_map, hji, ARow.row, hw])
  cases e2 with
  | none =>
   rw [Jto1] at hT
   refine Jtu [0] (x := .tup []) hrow (by decide) (by rfl) (by rfl) (by rfl) (by rfl) (by rfl) (by rfl) ?_
   (simp (maxSteps := 1000000) [ckB, hw])
   exact hN _ (j + 1, t2) ⟨hjl, hT, hR2⟩ (by simp only [ckB]; (exact wkA)) (by simp only; omega)
  | some e =>
   rw [Jto2] at hT
   refine Jtw [0] (x := failV p e) hrow (by decide) (by rfl) (by rfl) (by rfl) (by rfl) (by rfl) (by rfl) ?_
   rw [← hT, Jto2] at hspec
   have hq := fin _ _ hspec
   (simp (maxSteps := 1000000) [])
   exact Jtld (s := t2) (e := e) rfl rfl hq
 ·have hjl : j = rows.length := by simp at h2; omega
  subst hjl
  have hT' : T1 = (t, none) := by rw [← hT, List.drop_length]; rfl
  rw [hT', Jto1] at hspec
  rw [List.drop_length] at hR1
  (simp (maxSteps := 1000000) [])
  ((first | refine Xc (fun h3 => ?_) (fun h3 => ?_) | refine Xo (fun h3 => ?_) (fun h3 => ?_)) <;> (try simp only [Xz, Xy] at h3))
  ·rw [if_neg h3] at hspec
   have hl0 := hR1.len
   have hst : t.steps < 1000000000000000000 := Nat.lt_of_le_of_lt (Nat.le_add_right _ _) hR1.steps
   have hu := Jt5q A t most ta mta mcode.length hl0 hst hR1.over.srt
   obtain ⟨⟨t2, e2⟩, h2r⟩ : ∃ r, r = useC t ta (regZ mta) mcode.length := ⟨_, rfl⟩
   rw [← h2r] at hu hspec
   have hq := fin _ _ hspec
   (simp (maxSteps := 1000000) [h3])
   cases e2 with
   | none =>
    refine Jtu [0] (x := .tup []) hu (by decide) (by rfl) (by rfl) (by rfl) (by rfl) (by rfl) (by rfl) ?_
    (simp (maxSteps := 1000000) [ckB])
    exact Jtlf (s := t2) (e := (0, mcode.length)) rfl rfl hq
   | some e =>
    refine Jtw [0] (x := failV p e) hu (by decide) (by rfl) (by rfl) (by rfl) (by rfl) (by rfl) (by rfl) ?_
    (simp (maxSteps := 1000000) [])
    exact Jtlc (s := t2) (e := e) rfl rfl hq
  ·have h3' : kind = 1 := by simpa using h3
   rw [if_pos h3'] at hspec
   have hq := fin _ _ hspec
   (simp (maxSteps := 1000000) [h3])
   exact Jtlf (e := (0, mcode.length)) rfl rfl hq
end
def isCopy (i : Instr) : Bool := i.op == 2
def isMove (m : Mach) : Bool := m.op == 18
def skipW {α : Type} (f : α → Bool) (l : List α) (i : Nat) : Nat := i + ((l.drop i).takeWhile f).length
theorem Jtlp {α : Type} (f : α → Bool) (l : List α) (i : Nat) : i ≤ skipW f l i := Nat.le_add_right _ _
theorem Jtlq {α : Type} {f : α → Bool} {l : List α} {i : Nat} (h : i ≤ l.length) : skipW f l i ≤ l.length := by
 have := (List.takeWhile_prefix f (l := l.drop i)).length_le
 rw [List.length_drop] at this
 unfold skipW; omega
theorem Jtlr {α : Type} {f : α → Bool} {l : List α} {i : Nat} (h : i < l.length) (hf : f l[i] = true) : skipW f l i = skipW f l (i + 1) := by
 unfold skipW
 rw [List.drop_eq_getElem_cons h, List.takeWhile_cons, if_pos hf, List.length_cons]; omega
theorem Jtlo {α : Type} {f : α → Bool} {l : List α} {i : Nat} (h : i < l.length) (hf : f l[i] = false) : skipW f l i = i := by
 unfold skipW
 rw [List.drop_eq_getElem_cons h, List.takeWhile_cons, hf]; simp
theorem Jtln {α : Type} {f : α → Bool} {l : List α} {i : Nat} (h : l.length ≤ i) : skipW f l i = i := by
 unfold skipW
 rw [List.drop_eq_nil_of_le h]; simp
def sameI (i : Instr) (m : Mach) : Bool := i.op == m.op && i.imm == m.imm && i.op != 2 && i.op != 18
def termsZ (a b : Term) : Bool := a.kind == b.kind && a.to == b.to && a.els == b.els
def alignS (code : List Instr) (mach : List Mach) : Nat → Nat → Nat → List ARow → List ARow × Nat × Int
 | 0, _, k, _ => ([], k, 20)
 | f + 1, i, k, rows =>
  if skipW isCopy code i = code.length ∧ skipW isMove mach k = mach.length then (rows ++ [⟨i, skipW isCopy code i, k, skipW isMove mach k, -1, -1⟩], skipW isMove mach k, 0)
  else match code[skipW isCopy code i]?, mach[skipW isMove mach k]? with
   | some x, some y => if sameI x y = true then alignS code mach f (skipW isCopy code i + 1) (skipW isMove mach k + 1) (rows ++ [⟨i, skipW isCopy code i, k, skipW isMove mach k, skipW isCopy code i, skipW isMove mach k⟩]) else ([], skipW isMove mach k, 20)
   | _, _ => ([], skipW isMove mach k, 20)
def alignZ (code : List Instr) (mach : List Mach) : List ARow × Nat × Int := alignS code mach (code.length + 1) 0 0 []
section
theorem Jt4y {P : Program} {p : Nums} (A : All P p) (i : Instr) : Jt3o P p.align_copied [i.av] [] fun o _ => o = .ret (AB (isCopy i)) := by
 refine A.align_copied.run rfl fun R hR => ?_
 (simp (maxSteps := 1000000) [Jtae, Instr.av])
 (first | exact hR _ _ FrA | exact hR _ _ FnA | exact hR _ _ (Xf (hq := by simp [AV.erase, AV.unview, isCopy]; done)))
theorem Jt4z {P : Program} {p : Nums} (A : All P p) (m : Mach) : Jt3o P p.align_moved [m.av] [] fun o _ => o = .ret (AB (isMove m)) := by
 refine A.align_moved.run rfl fun R hR => ?_
 (simp (maxSteps := 1000000) [Jtaf, Mach.av])
 (first | exact hR _ _ FrA | exact hR _ _ FnA | exact hR _ _ (Xf (hq := by simp [AV.erase, AV.unview, isMove]; done)))
theorem Jt4w {P : Program} {p : Nums} (A : All P p) (i : Instr) (m : Mach) : Jt3o P p.align_Same [i.av, m.av] [] fun o _ => o = .ret (AB (sameI i m)) := by
 refine A.align_Same.run rfl fun R hR => ?_
 have hs : sameI i m = sameI i m := rfl
 conv at hs => rhs; unfold sameI
 cases h1 : i.op == m.op <;> cases h2 : i.imm == m.imm <;> cases h3 : i.op != 2 <;> cases h4 : i.op != 18 <;> simp only [h1, h2, h3, h4, Bool.and_true, Bool.and_false, Bool.false_and, Bool.and_self] at hs <;>
  (simp (maxSteps := 1000000) [Jtac, Instr.av, Mach.av, h1, h2, h3, h4]) <;> (first | exact hR _ _ FrA | exact hR _ _ FnA | exact hR _ _ (Xf (hq := by simp [AV.erase, AV.unview, hs]; done)))
theorem Jt4x {P : Program} {p : Nums} (A : All P p) (a b : Term) : Jt3o P p.align_Terms [a.av, b.av] [] fun o _ => o = .ret (AB (termsZ a b)) := by
 refine A.align_Terms.run rfl fun R hR => ?_
 have hs : termsZ a b = termsZ a b := rfl
 conv at hs => rhs; unfold termsZ
 cases h1 : a.kind == b.kind <;> cases h2 : a.to == b.to <;> cases h3 : a.els == b.els <;> simp only [h1, h2, h3, Bool.and_true, Bool.and_false, Bool.false_and, Bool.and_self] at hs <;>
  (simp (maxSteps := 1000000) [Jtad, Term.av, h1, h2, h3]) <;> (first | exact hR _ _ FrA | exact hR _ _ FnA | exact hR _ _ (Xf (hq := by simp [AV.erase, AV.unview, hs]; done)))
theorem Jt50 {P : Program} {p : Nums} (A : All P p) (l : List Instr) (i : Nat) (h0 : l.length < 1000000) (h1 : i < 1000000) : Jt3o P p.align_skip_Instr [.d (.sl (l.map Instr.row)), AI i, .fn (.func p.align_copied) [] []] [] fun o _ => o = .ret (AI (skipW isCopy l i)) := by
 refine A.align_skip_Instr.run rfl fun R hR => ?_
 (simp (maxSteps := 1000000) [Jtag])
 refine Jt9 (fun k : Nat => ⟨[(1, AI k), (2, .fn (.func p.align_copied) [] []), (0, .d (.sl (l.map Instr.row)))], []⟩) (fun k => k < 1000000 + l.length ∧ skipW isCopy l k = skipW isCopy l i) (fun k => l.length - k) i (by simp; omega) (by (exact wkA)) ?_
 rintro k ⟨hk, hs⟩ N hN
 (simp (maxSteps := 1000000) [])
 ((first | refine Xc (fun h2 => ?_) (fun h2 => ?_) | refine Xo (fun h2 => ?_) (fun h2 => ?_)) <;> (try simp only [Xz, Xy] at h2))
 ·have hkl : k < l.length := by simpa using h2
  have hki : l[k]? = some l[k] := by simp [hkl]
  have hw := Jtp7 (k := k) (by omega)
  (simp (maxSteps := 1000000) [h2, List.getElem?_map, hki, Instr.row])
  refine ⟨_, [], [], _, rfl, A.align_copied.ok, rfl, ?_⟩
  (refine Jts (Jt4y A l[k]) (by rfl) (by rfl) ?_)
  cases hc : isCopy l[k] with
  | true =>
   (simp (maxSteps := 1000000) [h2, hc, hw])
   exact hN _ (k + 1) ⟨by omega, by rw [← Jtlr hkl hc]; exact hs⟩ (by (exact wkA)) (by omega)
  | false =>
   rw [Jtlo hkl hc] at hs
   (simp (maxSteps := 1000000) [h2, hc])
   (first | exact hR _ _ FrA | exact hR _ _ FnA | exact hR _ _ (Xf (hq := by simp [AV.erase, AV.unview, hs]; done)))
 ·have hkl : l.length ≤ k := by simpa using h2
  rw [Jtln hkl] at hs
  (simp (maxSteps := 1000000) [h2])
  (first | exact hR _ _ FrA | exact hR _ _ FnA | exact hR _ _ (Xf (hq := by simp [AV.erase, AV.unview, hs]; done)))
theorem Jt51 {P : Program} {p : Nums} (A : All P p) (l : List Mach) (i : Nat) (h0 : l.length < 1000000) (h1 : i < 1000000) : Jt3o P p.align_skip_Mach [.d (.sl (l.map Mach.row)), AI i, .fn (.func p.align_moved) [] []] [] fun o _ => o = .ret (AI (skipW isMove l i)) := by
 refine A.align_skip_Mach.run rfl fun R hR => ?_
 (simp (maxSteps := 1000000) [Jtah])
 refine Jt9 (fun k : Nat => ⟨[(1, AI k), (2, .fn (.func p.align_moved) [] []), (0, .d (.sl (l.map Mach.row)))], []⟩) (fun k => k < 1000000 + l.length ∧ skipW isMove l k = skipW isMove l i) (fun k => l.length - k) i (by simp; omega) (by (exact wkA)) ?_
 rintro k ⟨hk, hs⟩ N hN
 (simp (maxSteps := 1000000) [])
 ((first | refine Xc (fun h2 => ?_) (fun h2 => ?_) | refine Xo (fun h2 => ?_) (fun h2 => ?_)) <;> (try simp only [Xz, Xy] at h2))
 ·have hkl : k < l.length := by simpa using h2
  have hki : l[k]? = some l[k] := by simp [hkl]
  have hw := Jtp7 (k := k) (by omega)
  (simp (maxSteps := 1000000) [h2, List.getElem?_map, hki, Mach.row])
  refine ⟨_, [], [], _, rfl, A.align_moved.ok, rfl, ?_⟩
  (refine Jts (Jt4z A l[k]) (by rfl) (by rfl) ?_)
  cases hc : isMove l[k] with
  | true =>
   (simp (maxSteps := 1000000) [h2, hc, hw])
   exact hN _ (k + 1) ⟨by omega, by rw [← Jtlr hkl hc]; exact hs⟩ (by (exact wkA)) (by omega)
  | false =>
   rw [Jtlo hkl hc] at hs
   (simp (maxSteps := 1000000) [h2, hc])
   (first | exact hR _ _ FrA | exact hR _ _ FnA | exact hR _ _ (Xf (hq := by simp [AV.erase, AV.unview, hs]; done)))
 ·have hkl : l.length ≤ k := by simpa using h2
  rw [Jtln hkl] at hs
  (simp (maxSteps := 1000000) [h2])
  (first | exact hR _ _ FrA | exact hR _ _ FnA | exact hR _ _ (Xf (hq := by simp [AV.erase, AV.unview, hs]; done)))
end
section
theorem Jt4v {P : Program} {p : Nums} (A : All P p) (code : List Instr) (mach : List Mach) (h0 : code.length < 500000) (h1 : mach.length < 500000) : Jt3o P p.align_Code [.d (.sl (code.map Instr.row)), .d (.sl (mach.map Mach.row))] []
  fun o _ => o = .ret (.tup [.d (.sl ((alignZ code mach).1.map ARow.row)), AI (alignZ code mach).2.1, AI (alignZ code mach).2.2]) := by
 refine A.align_Code.run rfl fun R hR => ?_
 obtain ⟨T, hT⟩ : ∃ T, T = alignZ code mach := ⟨_, rfl⟩
 rw [← hT] at hR
 (simp (maxSteps := 1000000) [Jtab])
 refine Jt9 (fun x : Nat × Nat × Nat × List ARow => ⟨[(7, .own 6 (x.2.2.2.map ARow.row)), (8, AI x.2.1), (9, AI x.2.2.1), (0, .d (.sl (code.map Instr.row))), (1, .d (.sl (mach.map Mach.row)))], []⟩)
  (fun x => x.2.1 ≤ code.length ∧ x.2.2.1 ≤ mach.length ∧ code.length + 1 ≤ x.1 + x.2.1 ∧ x.2.2.2.length ≤ x.2.1 ∧ alignS code mach x.1 x.2.1 x.2.2.1 x.2.2.2 = T) (fun x => code.length + 1 - x.2.1) (code.length + 1, 0, 0, []) (by simp [hT, alignZ]) (by simp only [List.map_nil]; (exact wkA)) ?_
 rintro ⟨f, i, k, rows⟩ ⟨hi, hk, hf, hrl, hal⟩ N hN
 simp only at hi hk hf hrl hal
 obtain ⟨f, rfl⟩ : ∃ g, f = g + 1 := ⟨f - 1, by omega⟩
 have hsi := Jt50 A code i (by omega) (by omega)
 have hsk := Jt51 A mach k (by omega) (by omega)
 have hile := Jtlq (f := isCopy) hi
 have hkle := Jtlq (f := isMove) hk
 have hige := Jtlp isCopy code i
 simp only [alignS] at hal
 obtain ⟨si, hsie⟩ : ∃ x, x = skipW isCopy code i := ⟨_, rfl⟩
 obtain ⟨sk, hske⟩ : ∃ x, x = skipW isMove mach k := ⟨_, rfl⟩
 rw [← hsie] at hsi hal hile hige
 rw [← hske] at hsk hal hkle
 (simp (maxSteps := 1000000) [])
 (refine Jts hsi (by rfl) (by rfl) ?_)
 (simp (maxSteps := 1000000) [])
 (refine Jts hsk (by rfl) (by rfl) ?_)
 obtain ⟨F, hF⟩ : ∃ F, F = rows.map ARow.row := ⟨_, rfl⟩
 have hFl : F.length = rows.length := by rw [hF]; simp
 rw [← hF]
 by_cases h2 : si = code.length
 ·by_cases h3 : sk = mach.length
  ·rw [if_pos ⟨h2, h3⟩] at hal
   (simp (maxSteps := 1000000) [h2, h3])
   (refine Jt16 (by rfl) (by rfl) (by rfl) ?_ (by decide) ?_ ?_ ?_)
   ·simp
   ·simp; omega
   ·simp; omega
   (simp (maxSteps := 1000000) [])
   refine hR _ _ (Jt3u _ _ rfl (by (exact wkvA)) ?_)
   rw [← hal]
   simp [hF, ARow.row, h2, h3]
  ·rw [if_neg (fun h => h3 h.2)] at hal
   have hb3 : ((sk : Int) == (mach.length : Int)) = false := by simp; omega
   have hc : code[si]? = none := List.getElem?_eq_none (by omega)
   rw [hc] at hal
   simp only at hal
   (simp (maxSteps := 1000000) [h2, h3, hb3])
   refine hR _ _ (Jt3u (.tup [.nils, AI sk, AI 20]) (.tup [.d (.sl []), AI sk, AI 20]) rfl (by (exact wkvA)) ?_)
   rw [← hal]; rfl
 ·have hb2 : ((si : Int) == (code.length : Int)) = false := by simp; omega
  rw [if_neg (fun h => h2 h.1)] at hal
  have hcl : si < code.length := by omega
  have hci : code[si]? = some code[si] := by simp [hcl]
  by_cases h3 : sk = mach.length
  ·have hc : mach[sk]? = none := List.getElem?_eq_none (by omega)
   rw [hci, hc] at hal
   simp only at hal
   (simp (maxSteps := 1000000) [h2, h3, hb2])
   refine hR _ _ (Jt3u (.tup [.nils, AI mach.length, AI 20]) (.tup [.d (.sl []), AI mach.length, AI 20]) rfl (by (exact wkvA)) ?_)
   rw [← hal]; simp [h3]
  ·have hkl : sk < mach.length := by omega
   have hki : mach[sk]? = some mach[sk] := by simp [hkl]
   rw [hci, hki] at hal
   simp only at hal
   have hb3 : ((sk : Int) == (mach.length : Int)) = false := by simp; omega
   (simp (maxSteps := 1000000) [h2, h3, hb2, hb3, List.getElem?_map, hci, hki, Instr.row, Mach.row])
   (refine Jts (Jt4w A code[si] mach[sk]) (by rfl) (by rfl) ?_)
   cases hs : sameI code[si] mach[sk] with
   | false =>
    rw [hs] at hal
    simp only [Bool.false_eq_true, if_false] at hal
    (simp (maxSteps := 1000000) [hs])
    refine hR _ _ (Jt3u (.tup [.nils, AI sk, AI 20]) (.tup [.d (.sl []), AI sk, AI 20]) rfl (by (exact wkvA)) ?_)
    rw [← hal]; rfl
   | true =>
    rw [hs, if_pos rfl] at hal
    have hw1 := Jtp7 (k := si) (by omega)
    have hw2 := Jtp7 (k := sk) (by omega)
    (simp (maxSteps := 1000000) [hs])
    (refine Jt16 (by rfl) (by rfl) (by rfl) ?_ (by decide) ?_ ?_ ?_)
    ·simp
    ·simp; omega
    ·simp; omega
    (simp (maxSteps := 1000000) [hw1, hw2])
    exact hN _ (f, si + 1, sk + 1, rows ++ [⟨i, si, k, sk, si, sk⟩]) ⟨hcl, hkl, by simp only; omega, by simp only [List.length_append, List.length_singleton]; omega, hal⟩ (by simp only [List.map_append, List.map_cons, List.map_nil, ← hF, ARow.row]; (exact wkA)) (by simp only; omega)
end
theorem Jt4r {code : List Instr} {mach : List Mach} : ∀ (f i k : Nat) (rows : List ARow), i ≤ code.length → k ≤ mach.length → (∀ r ∈ rows, RowOk code mach r) → rows.length ≤ i →
  (∀ r ∈ (alignS code mach f i k rows).1, RowOk code mach r) ∧ (alignS code mach f i k rows).1.length ≤ code.length + 1 ∧ (alignS code mach f i k rows).2.1 ≤ mach.length := by
 intro f
 induction f with
 | zero => intro i k rows hi hk h hl; exact ⟨fun r hr => by simp [alignS] at hr, by simp [alignS], by simpa [alignS] using hk⟩
 | succ f ih =>
  intro i k rows hi hk h hl
  have h1 := Jtlq (f := isCopy) hi
  have h2 := Jtlq (f := isMove) hk
  have h3 := Jtlp isCopy code i
  have h4 := Jtlp isMove mach k
  simp only [alignS]
  split
  ·refine ⟨fun r hr => ?_, by simp; omega, h2⟩
   rcases List.mem_append.1 hr with hr | hr
   ·exact h r hr
   ·simp only [List.mem_singleton] at hr
    subst hr
    exact ⟨⟨h3, h1⟩, ⟨h4, h2⟩, fun h => by simp at h⟩
  ·split
   ·rename_i x y hx hy
    have hx' := (List.getElem?_eq_some_iff.1 hx).1
    have hy' := (List.getElem?_eq_some_iff.1 hy).1
    split
    ·refine ih _ _ _ hx' hy' (fun r hr => ?_) (by simp only [List.length_append, List.length_singleton]; omega)
     rcases List.mem_append.1 hr with hr | hr
     ·exact h r hr
     ·simp only [List.mem_singleton] at hr
      subst hr
      exact ⟨⟨h3, h1⟩, ⟨h4, h2⟩, fun _ => ⟨by simp; omega, by simp, by simp; omega⟩⟩
    ·exact ⟨fun r hr => by simp at hr, by simp, h2⟩
   ·exact ⟨fun r hr => by simp at hr, by simp, h2⟩
theorem Jt4u (code : List Instr) (mach : List Mach) : (∀ r ∈ (alignZ code mach).1, RowOk code mach r) ∧ (alignZ code mach).1.length ≤ code.length + 1 ∧ (alignZ code mach).2.1 ≤ mach.length :=
 Jt4r _ 0 0 [] (Nat.zero_le _) (Nat.zero_le _) (fun r hr => by simp at hr) (Nat.le_refl _)
theorem Jtge {code : List Instr} {mach : List Mach} {rows : List ARow} (h : ∀ r ∈ rows, RowOk code mach r) : needRs rows ≤ rows.length * (3 + mach.length + code.length) := by
 induction rows with
 | nil => simp [needRs]
 | cons r rows ih =>
  have h1 := h r (by simp)
  have h2 := ih fun r hr => h r (by simp [hr])
  rw [Jtgd, List.length_cons, Nat.add_mul, Nat.one_mul]
  have := h1.hc
  have := h1.hm
  unfold needR; omega
structure Res where (out : List Pair) (err at_ : Int) (steps largest : Nat)
 deriving DecidableEq
def Res.av (r : Res) : AV := .agg [.d (pairsD r.out), AI r.err, AI r.at_, AI r.steps, AI r.largest]
def checkZ (b : Block) (m : MBlock) (l : List Pair) (most : Int) : Res :=
 if (l.length : Int) > most then ⟨[], 24, 0, 0, l.length⟩
 else
  let a := alignZ b.code m.code
  let why := if a.2.2 = 0 ∧ termsZ b.term m.term = false then 20 else a.2.2
  if why ≠ 0 then ⟨[], why, a.2.1, 0, l.length⟩
  else
   let r := runC most b m a.1 ⟨makeP l, 0, l.length⟩
   ⟨if (runE m r.2).1 = 0 then r.1.set else [], (runE m r.2).1, (runE m r.2).2, r.1.steps, r.1.largest⟩
section
theorem Jt5k {P : Program} {p : Nums} (A : All P p) (S : SortOk P p) (C : ClosOk P p) {V L : List Int} (b : Block) (m : MBlock) (l : List Pair) (most : Int) (hl : ∀ q ∈ l, q.v ∈ V ∧ q.l ∈ L) (hv : VLOk V L b.code m.code) (few : V.length * L.length < 100000) (hl0 : l.length < 100000)
  (hb0 : b.code.length ≤ 1000) (hm0 : m.code.length ≤ 1000) : Jt3o P p.blockcheck_Check [b.av, m.av, .d (pairsD l), AI most] [] fun o _ => o = .ret (checkZ b m l most).av := by
 refine A.blockcheck_Check.run rfl fun R hR => ?_
 obtain ⟨T, hT⟩ : ∃ T, T = checkZ b m l most := ⟨_, rfl⟩
 rw [← hT] at hR
 have hspec : T = checkZ b m l most := hT
 unfold checkZ at hspec
 obtain ⟨ha1, ha2, ha3⟩ := Jt4u b.code m.code
 have hal := Jt4v A b.code m.code (by omega) (by omega)
 have htm := Jt4x A b.term m.term
 have hmk := Jthu A S l (by omega)
 have hover : Over V L (makeP l) := ⟨Jtmz l, fun q hq => hl q (Jtfi.1 hq)⟩
 have hroom : Room V L ⟨makeP l, 0, l.length⟩ (needRs (alignZ b.code m.code).1 + 1) := by
  refine ⟨hover, few, ?_, by simp only; omega⟩
  have h1 := Jtge ha1
  have h2 : (alignZ b.code m.code).1.length * (3 + m.code.length + b.code.length) ≤ 1001 * 2003 := Nat.mul_le_mul (by omega) (by omega)
  simp only
  omega
 have hrun := Jt5p A S C ⟨makeP l, 0, l.length⟩ most b m (alignZ b.code m.code).1 hroom hv ha1 (by omega) (by omega) (by omega)
 obtain ⟨al, hale⟩ : ∃ a, a = alignZ b.code m.code := ⟨_, rfl⟩
 rw [← hale] at hal hrun hspec
 obtain ⟨rows, at_, why⟩ := al
 obtain ⟨⟨t, e⟩, hre⟩ : ∃ r, r = runC most b m rows ⟨makeP l, 0, l.length⟩ := ⟨_, rfl⟩
 simp only at hal hrun hspec
 rw [← hre] at hrun hspec
 obtain ⟨re, hree⟩ : ∃ x, x = runE m e := ⟨_, rfl⟩
 simp only at hrun hspec
 rw [← hree] at hrun hspec
 obtain ⟨mk, hmke⟩ : ∃ x, x = makeP l := ⟨_, rfl⟩
 rw [← hmke] at hmk hrun
 obtain ⟨tz, htz⟩ : ∃ x, x = termsZ b.term m.term := ⟨_, rfl⟩
 rw [← htz] at htm hspec
 obtain ⟨code, kind, ta, to, els⟩ := b
 obtain ⟨mcode, mkind, mta, mto, mels⟩ := m
 simp only [Block.av, MBlock.av, Term.av] at hal hrun htm ⊢
 by_cases h1 : most < (l.length : Int)
 ·rw [if_pos h1] at hspec
  (simp (maxSteps := 1000000) [Jtai, pairsD, h1])
  refine hR _ _ (Jt3u (.agg [.nils, AI 24, AI 0, AI 0, AI l.length]) (.agg [.d (.sl []), AI 24, AI 0, AI 0, AI l.length]) rfl (by (exact wkvA)) ?_)
  rw [hspec]; rfl
 ·rw [if_neg h1] at hspec
  (simp (maxSteps := 1000000) [Jtai, pairsD, h1])
  (refine Jts hal (by rfl) (by rfl) ?_)
  by_cases hw : why = 0
  ·subst hw
   (simp (maxSteps := 1000000) [])
   (refine Jts htm (by rfl) (by rfl) ?_)
   cases tz with
   | false =>
    simp only [and_self, if_true, ne_eq, reduceCtorEq, not_false_eq_true, Int.reduceEq] at hspec
    (simp (maxSteps := 1000000) [])
    refine hR _ _ (Jt3u (.agg [.nils, AI 20, AI at_, AI 0, AI l.length]) (.agg [.d (.sl []), AI 20, AI at_, AI 0, AI l.length]) rfl (by (exact wkvA)) ?_)
    rw [hspec]; rfl
   | true =>
    simp only [Bool.true_eq_false, and_false, if_false, ne_eq, not_true_eq_false] at hspec
    (simp (maxSteps := 1000000) [pairsD])
    (refine Jts hmk (by rfl) (by rfl) ?_)
    (simp (maxSteps := 1000000) [pairsD])
    refine Jtu [3] hrun (by decide) (by rfl) (by rfl) (by rfl) (by rfl) (by rfl) (by rfl) ?_
    (simp (maxSteps := 1000000) [ckB])
    by_cases hz : re.1 = 0
    ·rw [if_pos hz] at hspec
     (simp (maxSteps := 1000000) [hz, pairsD])
     refine hR _ _ (Jt3u (.agg [.d (.sl (t.set.map Pair.row)), AI 0, AI re.2, AI t.steps, AI t.largest]) _ rfl (by (exact wkvA)) ?_)
     rw [hspec, hz]; rfl
    ·rw [if_neg hz] at hspec
     have hzb : (re.1 == 0) = false := by simpa using hz
     (simp (maxSteps := 1000000) [hz, hzb, pairsD])
     refine hR _ _ (Jt3u (.agg [.nils, AI re.1, AI re.2, AI t.steps, AI t.largest]) (.agg [.d (.sl []), AI re.1, AI re.2, AI t.steps, AI t.largest]) rfl (by (exact wkvA)) ?_)
     rw [hspec]; rfl
  ·have hwb : (why == 0) = false := by simpa using hw
   simp only [hw, false_and, if_false, ne_eq, not_false_eq_true, if_true] at hspec
   (simp (maxSteps := 1000000) [hw, hwb])
   refine hR _ _ (Jt3u (.agg [.nils, AI why, AI at_, AI 0, AI l.length]) (.agg [.d (.sl []), AI why, AI at_, AI 0, AI l.length]) rfl (by (exact wkvA)) ?_)
   rw [hspec]; rfl
end
def okZ (n : Int) : Prop := -9223372036854775808 ≤ n ∧ n ≤ 9223372036854775807
def Jtjr (i : Mach) (regs slots : Int) : Int :=
 if i.op < 1 ∨ 18 < i.op ∨ i.op = 2 then 8
 else if i.op = 18 then
  if rngZ i.dst regs slots = false ∨ rngZ i.src regs slots = false ∨ (i.dst.tmod 2 = 1 ∧ i.src.tmod 2 = 1) then 10
  else if i.d ≠ 0 ∨ i.a ≠ 0 ∨ i.b ≠ 0 ∨ i.imm ≠ 0 then 12 else 0
 else if Jtjo ⟨i.op, i.d, i.a, i.b, i.imm⟩ regs = 0 ∧ (i.dst ≠ 0 ∨ i.src ≠ 0) then 12 else Jtjo ⟨i.op, i.d, i.a, i.b, i.imm⟩ regs
section
end
def mErr (code : List Mach) (regs slots : Int) (j : Nat) : Int := match code[j]? with
 | none => 0
 | some x => if Jtjr x regs slots ≠ 0 then Jtjr x regs slots else if 64 ≤ j ∧ 64 < Jtjs ((code.take (j + 1)).drop (j - 64)) then 15 else 0
def mErrs (code : List Mach) (regs slots : Int) : Int := Jt8p ((List.range code.length).map (mErr code regs slots))
def Jtjp (b : MBlock) (regs slots blocks : Int) : Int := if mErrs b.code regs slots ≠ 0 then mErrs b.code regs slots else Jtju b.term regs blocks
def Jtjq (f : MFunc) : Int :=
 if f.args < 0 ∨ f.slots < f.args then 10 else if f.regs < 0 then 9 else if 1048576 < f.slots ∨ 1048576 < f.regs then 6 else if f.blocks.length = 0 then 14 else if 1048576 < f.blocks.length ∨ 1048576 < mcodeN f.blocks then 6
 else Jt8p (f.blocks.map fun b => Jtjp b f.regs f.slots f.blocks.length)
def okM (b : MBlock) : Prop := ∀ x ∈ b.code, okZ x.dst ∧ okZ x.src
section
end
structure Bd (most : Int) (m n : Nat) (s : CS) (r : CR) : Prop where
 steps : r.1.steps ≤ s.steps + n * (r.1.largest + 1)
 lg : s.largest ≤ r.1.largest
 set : r.1.set.length ≤ r.1.largest
 most : r.2 = none → (s.largest : Int) ≤ most → (r.1.largest : Int) ≤ most
 fail : ∀ e, r.2 = some e → e.1 ≠ 0 ∧ 0 ≤ e.2 ∧ e.2 ≤ m
section
variable {most : Int} {m : Nat} {s : CS}
theorem Bd.refl (h : s.set.length ≤ s.largest) : Bd most m 0 s (s, none) := ⟨by simp, Nat.le_refl _, h, fun _ h => h, fun e h => by cases h⟩
theorem Bd.mono {n n' : Nat} {r : CR} (h : Bd most m n s r) (hn : n ≤ n') : Bd most m n' s r :=
 ⟨Nat.le_trans h.steps (Nat.add_le_add_left (Nat.mul_le_mul_right _ hn) _), h.lg, h.set, h.most, h.fail⟩
theorem Bd.then {n1 n2 : Nat} {r : CR} {f : CS → CR} (h : Bd most m n1 s r) (hf : ∀ s1, r = (s1, none) → Bd most m n2 s1 (f s1)) : Bd most m (n1 + n2) s (thenC r f) := by
 obtain ⟨s1, e⟩ := r
 cases e with
 | some e => rw [Jto2]; exact h.mono (by omega)
 | none =>
  rw [Jto1]
  have h2 := hf s1 rfl
  refine ⟨?_, Nat.le_trans h.lg h2.lg, h2.set, fun hn hm => h2.most hn (h.most rfl hm), h2.fail⟩
  have k1 := h.steps
  have k2 := h2.steps
  have k3 := h2.lg
  simp only at k1 k3
  have k4 : n1 * (s1.largest + 1) ≤ n1 * ((f s1).1.largest + 1) := Nat.mul_le_mul_left _ (by omega)
  rw [Nat.add_mul]
  omega
theorem Bd.use {v t at_ : Int} (h : s.set.length ≤ s.largest) (h0 : 0 ≤ at_) (h1 : at_ ≤ m) : Bd most m 1 s (useC s v t at_) := by
 refine ⟨?_, Nat.le_refl _, h, fun _ h => h, fun e he => ?_⟩
 ·simp only [useC, costC]; omega
 ·simp only [useC] at he
  split at he
  ·cases he
  ·injection he with he; subst he; exact ⟨by simp, h0, h1⟩
theorem Bd.step {l : List Pair} {at_ : Int} (h : s.set.length ≤ s.largest) (h0 : 0 ≤ at_) (h1 : at_ ≤ m) : Bd most m 1 s (Jt5e most (costC s) l at_) := by
 refine ⟨?_, ?_, ?_, fun hn hm => ?_, fun e he => ?_⟩
 ·simp only [Jt5e, costC]; omega
 ·simp only [Jt5e, costC]; omega
 ·simp only [Jt5e, costC]; omega
 ·simp only [Jt5e, costC] at hn ⊢
  split at hn
  ·cases hn
  ·omega
 ·simp only [Jt5e] at he
  split at he
  ·injection he with he; subst he; exact ⟨by simp, h0, h1⟩
  ·cases he
theorem Jt7b {at_ : Int} (h0 : 0 ≤ at_) (h1 : at_ ≤ m) : ∀ {l : List Instr} {s : CS}, s.set.length ≤ s.largest → Bd most m l.length s (copyC most at_ l s) := by
 intro l
 induction l with
 | nil => intro s h; exact .refl h
 | cons i l ih =>
  intro s h
  simp only [copyC, List.length_cons]
  rw [Nat.add_comm]
  refine (Bd.step h h0 h1).then fun s1 hs1 => ih ?_
  have := (Bd.step (most := most) (m := m) (l := copyP s.set i.d i.a) h h0 h1).set
  rw [hs1] at this; exact this
theorem Jtg8 : ∀ {l : List Mach} {k : Nat} {s : CS}, k + l.length ≤ m → s.set.length ≤ s.largest → Bd most m l.length s (moveC most k l s) := by
 intro l
 induction l with
 | nil => intro k s _ h; exact .refl h
 | cons i l ih =>
  intro k s hk h
  simp only [moveC, List.length_cons] at hk ⊢
  rw [Nat.add_comm l.length 1]
  have hst := Bd.step (most := most) (m := m) (l := moveP s.set i.dst i.src) (at_ := k) h (by omega) (by omega)
  refine hst.then fun s1 hs1 => ih (by omega) ?_
  have := hst.set
  rw [hs1] at this; exact this
theorem Jtdf {i : Instr} {x : Mach} {at_ : Int} (h : s.set.length ≤ s.largest) (h0 : 0 ≤ at_) (h1 : at_ ≤ m) : Bd most m 3 s (instrC most s i x at_) := by
 unfold instrC
 refine Bd.then (n1 := 1) (n2 := 2) ?_ fun s1 hs1 => Bd.then (n1 := 1) (n2 := 1) ?_ fun s2 hs2 => ?_
 ·split
  ·exact .use h h0 h1
  ·exact (Bd.refl h).mono (by omega)
 ·have k1 : s1.set.length ≤ s1.largest := by
   split at hs1
   ·have := (Bd.use (most := most) (m := m) (v := i.a) (t := regZ x.a) h h0 h1).set; rw [hs1] at this; exact this
   ·injection hs1 with hs1; subst hs1; exact h
  split
  ·exact .use k1 h0 h1
  ·exact (Bd.refl k1).mono (by omega)
 ·have k1 : s1.set.length ≤ s1.largest := by
   split at hs1
   ·have := (Bd.use (most := most) (m := m) (v := i.a) (t := regZ x.a) h h0 h1).set; rw [hs1] at this; exact this
   ·injection hs1 with hs1; subst hs1; exact h
  have k2 : s2.set.length ≤ s2.largest := by
   split at hs2
   ·have := (Bd.use (most := most) (m := m) (v := i.b) (t := regZ x.b) k1 h0 h1).set; rw [hs2] at this; exact this
   ·injection hs2 with hs2; subst hs2; exact k1
  split
  ·exact .step k2 h0 h1
  ·exact (Bd.refl k2).mono (by omega)
end
def costR (r : ARow) : Nat := (r.ct - r.cf) + (r.mt - r.mf) + if 0 ≤ r.src then 3 else 0
theorem Jtko {most : Int} {b : List Instr} {mc : List Mach} {r : ARow} {s : CS} (h : s.set.length ≤ s.largest) (hr : RowOk b mc r) : Bd most mc.length (costR r) s (rowC most b mc r s) := by
 unfold rowC costR
 have hl1 : ((b.take r.ct).drop r.cf).length = r.ct - r.cf := by have := hr.hc; simp; omega
 have hl2 : ((mc.take r.mt).drop r.mf).length = r.mt - r.mf := by have := hr.hm; simp; omega
 have b1 := Jt7b (most := most) (m := mc.length) (at_ := r.mf) (by omega) (by have := hr.hm; omega) (l := (b.take r.ct).drop r.cf) h
 rw [hl1] at b1
 rw [Nat.add_assoc]
 refine b1.then fun s1 hs1 => ?_
 have k1 := b1.set
 rw [hs1] at k1
 have b2 := Jtg8 (most := most) (m := mc.length) (k := r.mf) (l := (mc.take r.mt).drop r.mf) (s := s1) (by have := hr.hm; rw [hl2]; omega) k1
 rw [hl2] at b2
 refine b2.then fun s2 hs2 => ?_
 have k2 := b2.set
 rw [hs2] at k2
 unfold lastC
 split
 ·rename_i h0
  obtain ⟨q1, q2, q3⟩ := hr.hs h0
  split
  ·exact Jtdf k2 q2 (by omega)
  ·exact (Bd.refl k2).mono (by omega)
 ·exact (Bd.refl k2).mono (by omega)
def costRs (rs : List ARow) : Nat := (rs.map costR).sum
theorem Jtl0 {most : Int} {b : List Instr} {mc : List Mach} : ∀ {rs : List ARow} {s : CS}, s.set.length ≤ s.largest → (∀ r ∈ rs, RowOk b mc r) → Bd most mc.length (costRs rs) s (rowsC most b mc rs s) := by
 intro rs
 induction rs with
 | nil => intro s h _; exact .refl h
 | cons r rs ih =>
  intro s h hr
  have b1 := Jtko (most := most) h (hr r (by simp))
  have e : costRs (r :: rs) = costR r + costRs rs := by simp [costRs]
  rw [e]
  refine b1.then fun s1 hs1 => ih ?_ fun r hr' => hr r (by simp [hr'])
  have := b1.set
  rw [hs1] at this; exact this
theorem Jtl5 {most : Int} {b : Block} {m : MBlock} {rs : List ARow} {s : CS} (h : s.set.length ≤ s.largest) (hr : ∀ r ∈ rs, RowOk b.code m.code r) : Bd most m.code.length (costRs rs + 1) s (runC most b m rs s) := by
 unfold runC
 have b1 := Jtl0 (most := most) h hr
 refine b1.then fun s1 hs1 => ?_
 have k1 := b1.set
 rw [hs1] at k1
 split
 ·exact (Bd.refl k1).mono (by omega)
 ·exact .use k1 (by omega) (by omega)
theorem Jt7d (a b : List ARow) : costRs (a ++ b) = costRs a + costRs b := by simp [costRs]
theorem Jt4p {code : List Instr} {mach : List Mach} : ∀ (f i k : Nat) (rows : List ARow), i ≤ code.length → k ≤ mach.length → costRs rows ≤ i + 3 * k →
  costRs (alignS code mach f i k rows).1 ≤ code.length + 3 * mach.length := by
 intro f
 induction f with
 | zero => intro i k rows hi hk h; simp [alignS, costRs]
 | succ f ih =>
  intro i k rows hi hk h
  have h1 := Jtlq (f := isCopy) hi
  have h2 := Jtlq (f := isMove) hk
  have h3 := Jtlp isCopy code i
  have h4 := Jtlp isMove mach k
  simp only [alignS]
  split
  ·rename_i hc
   rw [Jt7d]
   simp only [costRs, List.map_cons, List.map_nil, List.sum_cons, List.sum_nil, costR] at h ⊢
   rw [if_neg (by omega)]
   omega
  ·split
   ·rename_i x y hx hy
    have hx' := (List.getElem?_eq_some_iff.1 hx).1
    have hy' := (List.getElem?_eq_some_iff.1 hy).1
    split
    ·refine ih _ _ _ hx' hy' ?_
     rw [Jt7d]
     simp only [costRs, List.map_cons, List.map_nil, List.sum_cons, List.sum_nil, costR] at h ⊢
     rw [if_pos (by omega)]
     omega
    ·simp [costRs]
   ·simp [costRs]
theorem Jt4s (code : List Instr) (mach : List Mach) : costRs (alignZ code mach).1 ≤ code.length + 3 * mach.length := Jt4p _ 0 0 [] (Nat.zero_le _) (Nat.zero_le _) (by simp [costRs])
theorem Jt6k (b : Block) (m : MBlock) (l : List Pair) (most : Int) (hl : (makeP l).length ≤ l.length) : (checkZ b m l most).steps ≤ (3 * m.code.length + b.code.length + 1) * ((checkZ b m l most).largest + 1) ∧ l.length ≤ (checkZ b m l most).largest ∧
  (checkZ b m l most).out.length ≤ (checkZ b m l most).largest ∧ ((checkZ b m l most).err = 0 → ((checkZ b m l most).largest : Int) ≤ most) ∧ 0 ≤ (checkZ b m l most).at_ ∧ (checkZ b m l most).at_ ≤ m.code.length := by
 obtain ⟨a1, a2, a3⟩ := Jt4u b.code m.code
 have hc := Jt4s b.code m.code
 unfold checkZ
 split
 ·exact ⟨Nat.zero_le _, Nat.le_refl _, Nat.zero_le _, fun h => by simp at h, by simp, by simp⟩
 ·rename_i h1
  by_cases h2 : (if (alignZ b.code m.code).2.2 = 0 ∧ termsZ b.term m.term = false then 20 else (alignZ b.code m.code).2.2) ≠ 0
  ·simp only [if_pos h2]
   exact ⟨Nat.zero_le _, Nat.le_refl _, Nat.zero_le _, fun h => absurd h h2, by simp, by simpa using a3⟩
  ·simp only [if_neg h2]
   have hb := Jtl5 (most := most) (b := b) (m := m) (rs := (alignZ b.code m.code).1) (s := ⟨makeP l, 0, l.length⟩) hl a1
   generalize runC most b m (alignZ b.code m.code).1 ⟨makeP l, 0, l.length⟩ = r at hb
   obtain ⟨t, e⟩ := r
   obtain ⟨k1, k2, k3, k4, k5⟩ := hb
   simp only at k1 k2 k3 k4 k5 ⊢
   refine ⟨?_, k2, ?_, fun h => ?_, ?_, ?_⟩
   ·have : (costRs (alignZ b.code m.code).1 + 1) * (t.largest + 1) ≤ (3 * m.code.length + b.code.length + 1) * (t.largest + 1) := Nat.mul_le_mul_right _ (by omega)
    omega
   ·split
    ·exact k3
    ·simp
   ·cases e with
    | none => exact k4 rfl (by omega)
    | some e => exact absurd h (k5 e rfl).1
   ·cases e with
    | none => simp [runE]
    | some e => exact (k5 e rfl).2.1
   ·cases e with
    | none => simp [runE]
    | some e => exact (k5 e rfl).2.2
def smallZ (b : Block) (m : MBlock) (regs slots : Int) : Prop :=
 ¬ (60 : Int) < (b.code.length : Int) ∧ ¬ (200 : Int) < (m.code.length : Int) ∧ ¬ 20 < regs ∧ ¬ 20 < slots ∧ ¬ 30 < b.term.to ∧ ¬ 30 < b.term.els ∧ ¬ 30 < m.term.to ∧ ¬ 30 < m.term.els ∧ ¬ b.term.to < 0 ∧ ¬ b.term.els < 0
instance (b : Block) (m : MBlock) (regs slots : Int) : Decidable (smallZ b m regs slots) := by unfold smallZ; infer_instance
section
end
def idxF {α : Type} (f : α → Bool) (l : List α) : Nat → Nat → List Nat
 | 0, _ => []
 | n + 1, i => match l[i]? with
  | some x => if f x = true then idxF f l n (i + 1) else i :: idxF f l n (i + 1)
  | none => []
def idxA {α : Type} (f : α → Bool) (l : List α) (i : Nat) : List Nat := idxF f l (l.length - i) i
theorem Jtd5 {α : Type} {f : α → Bool} {l : List α} {i : Nat} (h : l.length ≤ i) : idxA f l i = [] := by
 unfold idxA; rw [show l.length - i = 0 by omega]; rfl
theorem idxA_t {α : Type} {f : α → Bool} {l : List α} {i : Nat} (h : i < l.length) (hf : f l[i] = true) : idxA f l i = idxA f l (i + 1) := by
 unfold idxA
 rw [show l.length - i = (l.length - (i + 1)) + 1 by omega]
 simp only [idxF, List.getElem?_eq_getElem h, hf, if_true]
theorem idxA_f {α : Type} {f : α → Bool} {l : List α} {i : Nat} (h : i < l.length) (hf : f l[i] = false) : idxA f l i = i :: idxA f l (i + 1) := by
 unfold idxA
 rw [show l.length - i = (l.length - (i + 1)) + 1 by omega]
 simp only [idxF, List.getElem?_eq_getElem h, hf, Bool.false_eq_true, if_false]
theorem Jtd7 {α : Type} {f : α → Bool} {l : List α} : ∀ {n i : Nat}, l.length - i = n → i ≤ l.length → (skipW f l i < l.length ∧ idxA f l i = skipW f l i :: idxA f l (skipW f l i + 1)) ∨ (skipW f l i = l.length ∧ idxA f l i = []) := by
 intro n
 induction n with
 | zero =>
  intro i hn hi
  have : i = l.length := by omega
  subst this
  exact .inr ⟨Jtln (Nat.le_refl _), Jtd5 (Nat.le_refl _)⟩
 | succ n ih =>
  intro i hn hi
  have hil : i < l.length := by omega
  cases hf : f l[i] with
  | true =>
   rw [Jtlr hil hf, idxA_t hil hf]
   exact ih (by omega) (by omega)
  | false =>
   rw [Jtlo hil hf]
   exact .inl ⟨hil, idxA_f hil hf⟩
theorem Jtd6 {α : Type} {f : α → Bool} {l : List α} : ∀ {n i : Nat}, l.length - i = n → (idxA f l i).length ≤ n := by
 intro n
 induction n with
 | zero => intro i hn; rw [Jtd5 (by omega)]; simp
 | succ n ih =>
  intro i hn
  have hil : i < l.length := by omega
  have := ih (i := i + 1) (by omega)
  cases hf : f l[i] with
  | true => rw [idxA_t hil hf]; omega
  | false => rw [idxA_f hil hf]; simp only [List.length_cons]; omega
def natsD (l : List Nat) : List (List D) := l.map fun (n : Nat) => [D.int .i64 (n : Int)]
section
theorem Jtja {P : Program} {p : Nums} (A : All P p) (i : Instr) (m : Mach) : Jt3o P p.ref13_Same [i.av, m.av] [] fun o _ => o = .ret (AB (sameI i m)) := by
 refine A.ref13_Same.run rfl fun R hR => ?_
 have hs : sameI i m = sameI i m := rfl
 conv at hs => rhs; unfold sameI
 cases h1 : i.op == m.op <;> cases h2 : i.imm == m.imm <;> cases h3 : i.op != 2 <;> cases h4 : i.op != 18 <;> simp only [h1, h2, h3, h4, Bool.and_true, Bool.and_false, Bool.false_and, Bool.and_self] at hs <;>
  (simp (maxSteps := 1000000) [Jtci, Instr.av, Mach.av, h1, h2, h3, h4]) <;> (first | exact hR _ _ FrA | exact hR _ _ FnA | exact hR _ _ (Xf (hq := by simp [AV.erase, AV.unview, hs]; done)))
theorem Jtjb {P : Program} {p : Nums} (A : All P p) (a b : Term) : Jt3o P p.ref13_Terms [a.av, b.av] [] fun o _ => o = .ret (AB (termsZ a b)) := by
 refine A.ref13_Terms.run rfl fun R hR => ?_
 have hs : termsZ a b = termsZ a b := rfl
 conv at hs => rhs; unfold termsZ
 cases h1 : a.kind == b.kind <;> cases h2 : a.to == b.to <;> cases h3 : a.els == b.els <;> simp only [h1, h2, h3, Bool.and_true, Bool.and_false, Bool.false_and, Bool.and_self] at hs <;>
  (simp (maxSteps := 1000000) [Jtcj, Term.av, h1, h2, h3, eqD]) <;> (first | exact hR _ _ FrA | exact hR _ _ FnA | exact hR _ _ (Xf (hq := by simp [AV.erase, AV.unview, hs]; done)))
theorem Jtj8 {P : Program} {p : Nums} (A : All P p) (l : List Instr) (h0 : l.length < 1000000) : Jt3o P p.ref13_Operations [.d (.sl (l.map Instr.row))] [] fun o _ => o = .ret (.d (.sl (natsD (idxA isCopy l 0)))) := by
 refine A.ref13_Operations.run rfl fun R hR => ?_
 obtain ⟨T, hT⟩ : ∃ T, T = idxA isCopy l 0 := ⟨_, rfl⟩
 rw [← hT] at hR
 (simp (maxSteps := 1000000) [Jtcg])
 refine Jt9 (fun x : Nat × List Nat => ⟨[(4, AI x.1), (3, .own 1 (natsD x.2)), (0, .d (.sl (l.map Instr.row)))], []⟩) (fun x => x.1 ≤ l.length ∧ x.2 ++ idxA isCopy l x.1 = T ∧ x.2.length ≤ x.1) (fun x => l.length - x.1) (0, []) (by simp [hT]) (by simp only [natsD, List.map_nil]; (exact wkA)) ?_
 rintro ⟨k, acc⟩ ⟨hk, hs, hl⟩ N hN
 simp only at hk hs hl
 (simp (maxSteps := 1000000) [])
 ((first | refine Xc (fun h2 => ?_) (fun h2 => ?_) | refine Xo (fun h2 => ?_) (fun h2 => ?_)) <;> (try simp only [Xz, Xy] at h2))
 ·have hkl : k < l.length := by simpa using h2
  have hki : l[k]? = some l[k] := by simp [hkl]
  have hw := Jtp7 (k := k) (by omega)
  obtain ⟨F, hF⟩ : ∃ F, F = natsD acc := ⟨_, rfl⟩
  have hFl : F.length = acc.length := by rw [hF]; simp [natsD]
  rw [← hF]
  by_cases hc : l[k].op = 2
  ·have hcc : isCopy l[k] = true := by simp [isCopy, hc]
   rw [idxA_t hkl hcc] at hs
   (simp (maxSteps := 1000000) [h2, List.getElem?_map, hki, Instr.row, hc, hw])
   exact hN _ (k + 1, acc) ⟨hkl, hs, by simp only; omega⟩ (by simp only [← hF]; (exact wkA)) (by simp only; omega)
  ·have hcc : isCopy l[k] = false := by simp [isCopy, hc]
   rw [idxA_f hkl hcc] at hs
   (simp (maxSteps := 1000000) [h2, List.getElem?_map, hki, Instr.row, hc])
   (refine Jt16 (by rfl) (by rfl) (by rfl) ?_ (by decide) ?_ ?_ ?_)
   ·simp
   ·simp; omega
   ·simp; omega
   (simp (maxSteps := 1000000) [hw])
   exact hN _ (k + 1, acc ++ [k]) ⟨hkl, by simpa using hs, by simp only [List.length_append, List.length_singleton]; omega⟩ (by simp only [natsD, List.map_append, List.map_cons, List.map_nil]; simp only [natsD] at hF; rw [← hF]; (exact wkA)) (by simp only; omega)
 ·have hkl : l.length ≤ k := by simpa using h2
  rw [Jtd5 hkl, List.append_nil] at hs
  (simp (maxSteps := 1000000) [h2])
  refine hR _ _ (Jt3u _ _ rfl (by (exact wkvA)) ?_)
  rw [hs]; rfl
theorem Jtj9 {P : Program} {p : Nums} (A : All P p) (l : List Mach) (h0 : l.length < 1000000) : Jt3o P p.ref13_Others [.d (.sl (l.map Mach.row))] [] fun o _ => o = .ret (.d (.sl (natsD (idxA isMove l 0)))) := by
 refine A.ref13_Others.run rfl fun R hR => ?_
 obtain ⟨T, hT⟩ : ∃ T, T = idxA isMove l 0 := ⟨_, rfl⟩
 rw [← hT] at hR
 (simp (maxSteps := 1000000) [Jtch])
 refine Jt9 (fun x : Nat × List Nat => ⟨[(4, AI x.1), (3, .own 1 (natsD x.2)), (0, .d (.sl (l.map Mach.row)))], []⟩) (fun x => x.1 ≤ l.length ∧ x.2 ++ idxA isMove l x.1 = T ∧ x.2.length ≤ x.1) (fun x => l.length - x.1) (0, []) (by simp [hT]) (by simp only [natsD, List.map_nil]; (exact wkA)) ?_
 rintro ⟨k, acc⟩ ⟨hk, hs, hl⟩ N hN
 simp only at hk hs hl
 (simp (maxSteps := 1000000) [])
 ((first | refine Xc (fun h2 => ?_) (fun h2 => ?_) | refine Xo (fun h2 => ?_) (fun h2 => ?_)) <;> (try simp only [Xz, Xy] at h2))
 ·have hkl : k < l.length := by simpa using h2
  have hki : l[k]? = some l[k] := by simp [hkl]
  have hw := Jtp7 (k := k) (by omega)
  obtain ⟨F, hF⟩ : ∃ F, F = natsD acc := ⟨_, rfl⟩
  have hFl : F.length = acc.length := by rw [hF]; simp [natsD]
  rw [← hF]
  by_cases hc : l[k].op = 18
  ·have hcc : isMove l[k] = true := by simp [isMove, hc]
   rw [idxA_t hkl hcc] at hs
   (simp (maxSteps := 1000000) [h2, List.getElem?_map, hki, Mach.row, hc, hw])
   exact hN _ (k + 1, acc) ⟨hkl, hs, by simp only; omega⟩ (by simp only [← hF]; (exact wkA)) (by simp only; omega)
  ·have hcc : isMove l[k] = false := by simp [isMove, hc]
   rw [idxA_f hkl hcc] at hs
   (simp (maxSteps := 1000000) [h2, List.getElem?_map, hki, Mach.row, hc])
   (refine Jt16 (by rfl) (by rfl) (by rfl) ?_ (by decide) ?_ ?_ ?_)
   ·simp
   ·simp; omega
   ·simp; omega
   (simp (maxSteps := 1000000) [hw])
   exact hN _ (k + 1, acc ++ [k]) ⟨hkl, by simpa using hs, by simp only [List.length_append, List.length_singleton]; omega⟩ (by simp only [natsD, List.map_append, List.map_cons, List.map_nil]; simp only [natsD] at hF; rw [← hF]; (exact wkA)) (by simp only; omega)
 ·have hkl : l.length ≤ k := by simpa using h2
  rw [Jtd5 hkl, List.append_nil] at hs
  (simp (maxSteps := 1000000) [h2])
  refine hR _ _ (Jt3u _ _ rfl (by (exact wkvA)) ?_)
  rw [hs]; rfl
end
theorem Jtgc {l : List Nat} {n : Nat} (h : n < l.length) : (natsD l)[n]? = some [D.int .i64 (l[n] : Int)] := by simp [natsD, h]
section
set_option maxHeartbeats 2000000 in
theorem Jtj7 {P : Program} {p : Nums} (A : All P p) (code : List Instr) (mach : List Mach) (h0 : code.length < 500000) (h1 : mach.length < 500000) : Jt3o P p.ref13_Code [.d (.sl (code.map Instr.row)), .d (.sl (mach.map Mach.row))] []
  fun o _ => o = .ret (.tup [.d (.sl ((alignZ code mach).1.map ARow.row)), AI (alignZ code mach).2.1, AI (alignZ code mach).2.2]) := by
 refine A.ref13_Code.run rfl fun R hR => ?_
 obtain ⟨T, hT⟩ : ∃ T, T = alignZ code mach := ⟨_, rfl⟩
 rw [← hT] at hR
 have ho := Jtj8 A code (by omega)
 have ht := Jtj9 A mach (by omega)
 have hal := Jtd6 (f := isCopy) (l := code) (n := code.length) (i := 0) (by omega)
 have hbl := Jtd6 (f := isMove) (l := mach) (n := mach.length) (i := 0) (by omega)
 obtain ⟨a, ha⟩ : ∃ a, a = idxA isCopy code 0 := ⟨_, rfl⟩
 obtain ⟨b, hb⟩ : ∃ b, b = idxA isMove mach 0 := ⟨_, rfl⟩
 rw [← ha] at ho hal
 rw [← hb] at ht hbl
 have hlenA : (natsD a).length = a.length := by simp [natsD]
 have hlenB : (natsD b).length = b.length := by simp [natsD]
 (simp (maxSteps := 1000000) [Jtcf])
 (refine Jts ho (by rfl) (by rfl) ?_)
 (simp (maxSteps := 1000000) [])
 (refine Jts ht (by rfl) (by rfl) ?_)
 (simp (maxSteps := 1000000) [])
 refine Jt9 (fun x : Nat × Nat × Nat × List ARow => ⟨[(12, AI x.1), (10, AI x.2.1), (11, AI x.2.2.1), (9, .own 6 (x.2.2.2.map ARow.row)), (7, .d (.sl (natsD a))), (8, .d (.sl (natsD b))), (0, .d (.sl (code.map Instr.row))), (1, .d (.sl (mach.map Mach.row)))], []⟩)
  (fun x => x.1 ≤ b.length ∧ x.1 ≤ x.2.1 ∧ x.2.1 ≤ code.length ∧ x.2.2.1 ≤ mach.length ∧ a.drop x.1 = idxA isCopy code x.2.1 ∧ b.drop x.1 = idxA isMove mach x.2.2.1 ∧ x.2.2.2.length = x.1 ∧ alignS code mach (code.length - x.1 + 1) x.2.1 x.2.2.1 x.2.2.2 = T)
  (fun x => b.length - x.1) (0, 0, 0, []) (by simp [hT, alignZ, ha, hb]) (by simp only [List.map_nil]; (exact wkA)) ?_
 rintro ⟨n, i, k, rows⟩ ⟨hnb, hni, hi, hk, hda, hdb, hrl, hS⟩ N hN
 simp only at hnb hni hi hk hda hdb hrl hS
 have hsa := Jtd7 (f := isCopy) (l := code) rfl hi
 have hsb := Jtd7 (f := isMove) (l := mach) rfl hk
 rw [← hda] at hsa
 rw [← hdb] at hsb
 simp only [alignS] at hS
 obtain ⟨si, hsi⟩ : ∃ x, x = skipW isCopy code i := ⟨_, rfl⟩
 obtain ⟨sk, hsk⟩ : ∃ x, x = skipW isMove mach k := ⟨_, rfl⟩
 have hige := Jtlp isCopy code i
 rw [← hsi] at hsa hS hige
 rw [← hsk] at hsb hS
 obtain ⟨F, hF⟩ : ∃ F, F = rows.map ARow.row := ⟨_, rfl⟩
 have hFl : F.length = rows.length := by rw [hF]; simp
 rw [← hF]
 (simp (maxSteps := 1000000) [hlenB])
 ((first | refine Xc (fun h2 => ?_) (fun h2 => ?_) | refine Xo (fun h2 => ?_) (fun h2 => ?_)) <;> (try simp only [Xz, Xy] at h2))
 ·have hnl : n < b.length := by simpa using h2
  have hbn := Jtgc hnl
  have hdn := Jt7s hnl
  obtain ⟨hskl, hskc⟩ := hsb.resolve_right (fun h => by have := h.2; rw [hdn] at this; cases this)
  rw [hdn] at hskc
  injection hskc with hbe hdb'
  have hki : mach[sk]? = some mach[sk] := by simp [hskl]
  rw [if_neg (by omega)] at hS
  (simp (maxSteps := 1000000) [h2, hlenA])
  rcases hsa with ⟨hsil, hsic⟩ | ⟨hsie, hsin⟩
  ·have hnal : n < a.length := by
    have := congrArg List.length hsic
    simp at this; omega
   have hna : ¬ (a.length : Int) ≤ (n : Int) := by omega
   have hnaN : ¬ a.length ≤ n := by omega
   have han := Jtgc hnal
   rw [Jt7s hnal] at hsic
   injection hsic with hae hda'
   have hci : code[si]? = some code[si] := by simp [hsil]
   rw [hci, hki] at hS
   simp only at hS
   rw [hae] at han
   rw [hbe] at hbn
   have hbn' : (natsD b)[n] = [D.int .i64 (sk : Int)] := by
    have := hbn; rw [List.getElem?_eq_some_iff] at this; exact this.2
   have hw1 := Jtp7 (k := si) (by omega)
   have hw2 := Jtp7 (k := sk) (by omega)
   have hw3 := Jtp7 (k := n) (by omega)
   (simp (maxSteps := 1000000) [hna, hnaN, hlenA, hlenB, han, hbn, List.getElem?_map, hci, hki, Instr.row, Mach.row])
   (refine Jts (Jtja A code[si] mach[sk]) (by rfl) (by rfl) ?_)
   cases hs : sameI code[si] mach[sk] with
   | false =>
    rw [hs] at hS
    simp only [Bool.false_eq_true, if_false] at hS
    (simp (maxSteps := 1000000) [hs, hbn])
    refine hR _ _ (Jt3u (.tup [.nils, AI sk, AI 20]) (.tup [.d (.sl []), AI sk, AI 20]) rfl (by (exact wkvA)) ?_)
    rw [← hS]; rfl
   | true =>
    rw [hs, if_pos rfl] at hS
    (simp (maxSteps := 1000000) [hs, han, hbn])
    (refine Jt16 (by rfl) (by rfl) (by rfl) ?_ (by decide) ?_ ?_ ?_)
    ·simp
    ·simp; omega
    ·simp; omega
    (simp (maxSteps := 1000000) [han, hbn, hw1, hw2, hw3])
    refine hN _ (n + 1, si + 1, sk + 1, rows ++ [⟨i, si, k, sk, si, sk⟩]) ⟨hnl, by simp only; omega, hsil, hskl, hda', hdb', by simp [hrl], ?_⟩ (by simp only [List.map_append, List.map_cons, List.map_nil, ← hF, ARow.row]; (exact wkA)) (by simp only; omega)
    simp only
    rw [show code.length - (n + 1) + 1 = code.length - n by omega]; exact hS
  ·have hnal : a.length ≤ n := by
    have := congrArg List.length hsin
    simp at this; omega
   have hna : (a.length : Int) ≤ (n : Int) := by omega
   have hnaN : a.length ≤ n := by omega
   have hc : code[si]? = none := List.getElem?_eq_none (by omega)
   rw [hc] at hS
   simp only at hS
   rw [hbe] at hbn
   (simp (maxSteps := 1000000) [hna, hnaN, hlenA, hbn])
   refine hR _ _ (Jt3u (.tup [.nils, AI sk, AI 20]) (.tup [.d (.sl []), AI sk, AI 20]) rfl (by (exact wkvA)) ?_)
   rw [← hS]; rfl
 ·have hnl : n = b.length := by simp at h2; omega
  have hske : sk = mach.length := by
   rcases hsb with ⟨_, h⟩ | ⟨h, _⟩
   ·rw [hnl, List.drop_length] at h; cases h
   ·exact h
  (simp (maxSteps := 1000000) [h2, hlenA, hlenB])
  rcases hsa with ⟨hsil, hsic⟩ | ⟨hsie, hsin⟩
  ·have hnal : n < a.length := by
    have := congrArg List.length hsic
    simp at this; omega
   have hba : b.length < a.length := by omega
   have hci : code[si]? = some code[si] := by simp [hsil]
   have hc : mach[sk]? = none := List.getElem?_eq_none (by omega)
   rw [if_neg (by omega), hci, hc] at hS
   simp only at hS
   (simp (maxSteps := 1000000) [hba])
   refine hR _ _ (Jt3u (.tup [.nils, AI mach.length, AI 20]) (.tup [.d (.sl []), AI mach.length, AI 20]) rfl (by (exact wkvA)) ?_)
   rw [← hS, hske]; rfl
  ·have hnal : a.length ≤ n := by
    have := congrArg List.length hsin
    simp at this; omega
   have hba : ¬ b.length < a.length := by omega
   rw [if_pos ⟨hsie, hske⟩] at hS
   (simp (maxSteps := 1000000) [hba])
   (refine Jt16 (by rfl) (by rfl) (by rfl) ?_ (by decide) ?_ ?_ ?_)
   ·simp
   ·simp; omega
   ·simp; omega
   (simp (maxSteps := 1000000) [])
   refine hR _ _ (Jt3u _ _ rfl (by (exact wkvA)) ?_)
   rw [← hS]
   simp [hF, ARow.row, hsie, hske]
end
def resR (r : CR) : List AV := match r.2 with
 | none => [.d (pairsD r.1.set), AI 0, AI 0, AI r.1.steps, AI r.1.largest]
 | some e => [.d (.sl []), AI e.1, AI e.2, AI r.1.steps, AI r.1.largest]
section
theorem Jtjd {P : Program} {p : Nums} (A : All P p) (l : D) (a b c d e x : Int) : Jt3o P p.ref14_fail [.agg [.d l, AI a, AI b, AI c, AI d], AI e, AI x] [] fun o _ => o = .ret (.agg [.d (.sl []), AI e, AI x, AI c, AI d]) := by
 refine A.ref14_fail.run rfl fun R hR => ?_
 (simp (maxSteps := 1000000) [Jtcl])
 exact hR _ _ (Jt3u (.agg [.nils, AI e, AI x, AI c, AI d]) _ rfl (by (exact wkvA)) rfl)
theorem Jtjf {P : Program} {p : Nums} (A : All P p) (s : CS) (l : List Pair) (most at_ : Int) (h0 : s.set.length < 100000) (h1 : s.steps < 1000000000000000000) (h2 : l.length < 100000) (h3 : s.largest < 100000) :
  Jt3o P p.ref14_grow [.agg (resR (s, none)), .d (pairsD l), AI most, AI at_] [] fun o _ => o = .ret (.agg (resR (Jt5e most (costC s) l at_))) := by
 refine A.ref14_grow.run rfl fun R hR => ?_
 obtain ⟨u, n, g⟩ := s
 simp only at h0 h1 h3
 have e1 : IntKind.i64.wrap ((n : Int) + 1) = ((n + 1 : Nat) : Int) := Jtp7 (by omega)
 have e2 : IntKind.i64.wrap ((n : Int) + 1 + (u.length : Int)) = ((n + 1 + u.length : Nat) : Int) := by have := Jtp6 (a := n + 1) (b := u.length) (by omega); simpa using this
 obtain ⟨T, hT⟩ : ∃ T, T = Jt5e most (costC ⟨u, n, g⟩) l at_ := ⟨_, rfl⟩
 rw [← hT] at hR
 simp only [Jt5e, costC] at hT
 obtain ⟨st, hst⟩ : ∃ st, st = n + 1 + u.length := ⟨_, rfl⟩
 rw [← hst] at e2 hT
 have hf := fun (g' : Nat) => Jtjd A (pairsD l) 0 0 (st : Int) (g' : Int) 24 at_
 simp only [pairsD] at hf
 (simp (maxSteps := 1000000) [Jtcm, resR, pairsD, e1, e2])
 by_cases hg : g < l.length
 ·have hg' : g < l.length := by omega
  have hmx : max g l.length = l.length := by omega
  rw [hmx] at hT
  by_cases hm : most < (l.length : Int)
  ·rw [if_pos hm] at hT
   (simp (maxSteps := 1000000) [hg', hm])
   (refine Jts (hf l.length) (by rfl) (by rfl) ?_)
   (simp (maxSteps := 1000000) [])
   refine hR _ _ (Jt3u _ _ rfl (by (exact wkvA)) ?_)
   rw [hT]; rfl
  ·rw [if_neg hm] at hT
   (simp (maxSteps := 1000000) [hg', hm])
   refine hR _ _ (Jt3u _ _ rfl (by (exact wkvA)) ?_)
   rw [hT]; rfl
 ·have hg' : ¬ g < l.length := by omega
  have hmx : max g l.length = g := by omega
  rw [hmx] at hT
  by_cases hm : most < (l.length : Int)
  ·rw [if_pos hm] at hT
   (simp (maxSteps := 1000000) [hg', hm])
   (refine Jts (hf g) (by rfl) (by rfl) ?_)
   (simp (maxSteps := 1000000) [])
   refine hR _ _ (Jt3u _ _ rfl (by (exact wkvA)) ?_)
   rw [hT]; rfl
  ·rw [if_neg hm] at hT
   (simp (maxSteps := 1000000) [hg', hm])
   refine hR _ _ (Jt3u _ _ rfl (by (exact wkvA)) ?_)
   rw [hT]; rfl
theorem Jtjh {P : Program} {p : Nums} (A : All P p) (s : CS) (v reg at_ : Int) (h0 : s.set.length < 100000) (h1 : s.steps < 1000000000000000000) :
  Jt3o P p.ref14_use [.agg (resR (s, none)), AI v, AI reg, AI at_] [] fun o _ => o = .ret (.agg (resR (useC s v (regZ reg) at_))) := by
 refine A.ref14_use.run rfl fun R hR => ?_
 obtain ⟨u, n, g⟩ := s
 simp only at h0 h1
 have e1 : IntKind.i64.wrap ((n : Int) + 1) = ((n + 1 : Nat) : Int) := Jtp7 (by omega)
 have e2 : IntKind.i64.wrap ((n : Int) + 1 + (u.length : Int)) = ((n + 1 + u.length : Nat) : Int) := by have := Jtp6 (a := n + 1) (b := u.length) (by omega); simpa using this
 obtain ⟨T, hT⟩ : ∃ T, T = useC ⟨u, n, g⟩ v (regZ reg) at_ := ⟨_, rfl⟩
 rw [← hT] at hR
 simp only [useC, costC] at hT
 obtain ⟨st, hst⟩ : ∃ st, st = n + 1 + u.length := ⟨_, rfl⟩
 rw [← hst] at e2 hT
 have hf := Jtjd A (pairsD u) 0 0 (st : Int) (g : Int) 21 at_
 simp only [pairsD] at hf
 have hh := Jtj1 A u ⟨v, regZ reg⟩ (by omega)
 simp only [pairsD, Pair.av, regZ] at hh
 (simp (maxSteps := 1000000) [Jtcn, resR, pairsD, e1, e2])
 (refine Jts hh (by rfl) (by rfl) ?_)
 by_cases hm : (⟨v, regZ reg⟩ : Pair) ∈ u
 ·rw [if_pos hm] at hT
  simp only [regZ] at hm
  (simp (maxSteps := 1000000) [hm])
  refine hR _ _ (Jt3u _ _ rfl (by (exact wkvA)) ?_)
  rw [hT]; rfl
 ·rw [if_neg hm] at hT
  simp only [regZ] at hm
  (simp (maxSteps := 1000000) [hm])
  (refine Jts hf (by rfl) (by rfl) ?_)
  (simp (maxSteps := 1000000) [])
  refine hR _ _ (Jt3u _ _ rfl (by (exact wkvA)) ?_)
  rw [hT]; rfl
end
end Go.AE
