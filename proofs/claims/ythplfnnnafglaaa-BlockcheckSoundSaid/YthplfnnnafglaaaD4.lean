/- A part of the proof: the evaluator over abstract values, its codes, the contracts of the functions. -/
import Derived.Test.YthplfnnnafglaaaD3
import Derived.Shelf.SlSortCmp.NoneTotal
import Derived.Lib.ItoaNum
set_option linter.unusedVariables false
set_option linter.unusedSimpArgs false
namespace Go.AE
open Go Go.Proofs Go.Shelf Go.Sort
def encP (x : Pair) : List Value := [.int .i64 x.v, .int .i64 x.l]
def cfP (a b : Pair) : Int := if lessP a b = true then -1 else if lessP b a = true then 1 else 0
theorem Jte8 (a b : Pair) : ltOf cfP a b = lessP a b := by
 unfold ltOf cfP
 cases h1 : lessP a b <;> cases h2 : lessP b a <;> simp
theorem swoP : SWO (ltOf cfP) where
 irrefl x := by rw [Jte8]; exact Jtdj x
 trans x y z h1 h2 := by rw [Jte8] at *; exact Jtdm h1 h2
 ntrans x y z h1 h2 := by
  rw [Jte8] at *
  have h1 : ¬ lessP x y = true := by simp [h1]
  have h2 : ¬ lessP y z = true := by simp [h2]
  cases h : lessP x z with
  | false => rfl
  | true => rw [Jtdi] at *; omega
def sortP (l : List Pair) : List Pair := l.mergeSort fun x y => !lessP y x
theorem Jtk7 (l : List Pair) : (sortP l).length = l.length := by simp [sortP]
theorem Jt8u : ∀ (l : List Pair) (j : Nat) (h : j < 2 * l.length), (l.map Pair.row).flatten[j]? = some (if j % 2 = 0 then I (l[j / 2]'(by omega)).v else I (l[j / 2]'(by omega)).l) := by
 intro l
 induction l with
 | nil => intro j h; simp at h
 | cons x l ih =>
  intro j h
  match j, h with
  | 0, h => simp [Pair.row]
  | 1, h => simp [Pair.row]
  | j + 2, h =>
   have h' : j < 2 * l.length := by simp at h; omega
   have e := ih j h'
   have e1 : (j + 2) / 2 = j / 2 + 1 := by omega
   have e2 : (j + 2) % 2 = j % 2 := by omega
   simp only [List.map_cons, List.flatten_cons, Pair.row, List.cons_append, List.nil_append, List.getElem?_cons_succ, e2]
   rw [e]
   simp only [e1, List.getElem_cons_succ]
theorem Jt8t (l : List Pair) (j : Nat) (h : j < 2 * l.length) : ∃ n : Int, (Jtiw (l.map Pair.row))[j]? = some (AI n) ∧ (flatK encP 2 l.toArray)[j]! = .int .i64 n := by
 have h1 := Jt8u l j h
 have h2 := get_flatK encP 2 l.toArray j (by simp; omega)
 have h3 : l.toArray[j / 2]! = l[j / 2]'(by omega) := by
  rw [getElem!_pos _ _ (by simp; omega)]; simp
 rw [h3] at h2
 rcases Nat.mod_two_eq_zero_or_one j with hm | hm
 ·refine ⟨(l[j / 2]'(by omega)).v, ?_, ?_⟩
  ·rw [Jtiw, List.getElem?_map, h1, hm]; rfl
  ·rw [h2, hm]; rfl
 ·refine ⟨(l[j / 2]'(by omega)).l, ?_, ?_⟩
  ·rw [Jtiw, List.getElem?_map, h1, hm]; rfl
  ·rw [h2, hm]; rfl
theorem Jtix (l : List Pair) : (Jtiw (l.map Pair.row)).length = 2 * l.length := by
 rw [Jtj2 (e := 2) (Jtj6 fun _ => rfl)]; simp; omega
section
variable {P : Program} {ρ : Ren}
theorem Jtkd (L : SlLaysF0.n6 P ρ) (aE : ∀ w, (isAgg (ρ.t 24)).run P w = .ok true w) (zE : ∀ w, (Go.sizeOf (ρ.t 24)).run P w = .ok 2 w) (c : Nat) (eg : ∀ args w, (callFunc c args).run P w = .ok (.enter c args) w)
  (hcmp : ∀ blk off size w, CmpLays P c #[] encP 2 cfP blk off size w) (l : List Pair) (hne : l ≠ []) (hlen : l.length < 4611686018427387904) :
  Jt3w P (ρ.f 6) [.hsl 0 0 2 l.length, .fn (.func c) [] []] [.mem (Jtiw (l.map Pair.row))] fun o H' => o = .ret (.tup []) ∧ H' = [.mem (Jtiw ((sortP l).map Pair.row))] := by
 intro g vs w hsz hs
 have hn : l.length ≠ 0 := by simpa using hne
 obtain ⟨vs⟩ := vs
 obtain ⟨v0, v1, rfl⟩ : ∃ a b, vs = [a, b] := by
  match vs, hsz with
  | [a, b], _ => exact ⟨a, b, rfl⟩
 have e0 : Rel g.F g.φ w (.hsl 0 0 2 l.length) v0 := hs.env 0 _ rfl
 have e1 : Rel g.F g.φ w (.fn (.func c) [] []) v1 := hs.env 1 _ rfl
 cases e0 with
 | hsl _ _ _ _ r cap a hφ hcap ha _ =>
 have ha := ha hn; subst ha
 cases e1 with
 | fn _ _ _ us us' hl _ hl' _ =>
 have : us = [] := by simpa using hl
 subst this
 have : us' = [] := by simpa using hl'
 subst this
 obtain ⟨cl, te, hc, hcs, hcell⟩ := hs.mem 0 _ r rfl hφ
 have hF := (hs.lt 0 r hφ).2.1
 have hrl := (hs.lt 0 r hφ).1
 rw [Jtix] at hcs
 have hH : HoldsK encP 2 w r 0 l.toArray := by
  intro j hj
  rw [size_flatK] at hj
  have hj' : j < 2 * l.length := by simp at hj; omega
  obtain ⟨n, h1, h2⟩ := Jt8t l j hj'
  obtain ⟨_, u, hu, hrel⟩ := hcell j _ h1
  cases hrel with
  | d _ _ hp =>
  cases hp with
  | int k m =>
  constructor
  ·rw [h2]; simp [World.cell?, hc, hu]
  ·simp [World.frozen?, hc]
 have := AnyQ.slices_SortFunc_total L 2 aE zE encP (fun _ => rfl) (fun x v hv => by simp [encP] at hv; rcases hv with rfl | rfl <;> rfl) cfP swoP c #[] r 0 cap l.toArray w eg (hcmp r 0 _ w) hH hrl (by simpa using hlen) (fun x y h1 h2 => by rw [Jte8] at h1 h2; exact Jtdl h1 h2)
 refine Calls.mono (show Calls P (ρ.f 6) #[.slice (some ⟨r, 0, none⟩) l.length cap, .func (.func c) #[] #[]] w _ from this) ?_
 rintro e w' ⟨rfl, n, os, hw⟩
 have hw : w' = sortWorldK encP 2 w r 0 n (sortP l).toArray os := by
  rw [hw]; simp only [Jte8]; rfl
 obtain ⟨d, hd⟩ : ∃ d, d = sortP l := ⟨_, rfl⟩
 have hdl : d.length = l.length := by rw [hd, Jtk7]
 rw [← hd] at hw
 have hheap : w'.heap = (w.heap.modify r (onCells (putCells id 0 (flatK encP 2 d.toArray)))) ++ os := by rw [hw]; rfl
 have hother : ∀ r', r' < w.heap.size → r' ≠ r → w'.heap[r']? = w.heap[r']? := by
  intro r' h1 h2
  rw [hheap, Array.getElem?_append]
  simp only [Array.size_modify, h1, if_true, Array.getElem?_modify]
  rw [if_neg (Ne.symm h2)]
 have hsize : w.heap.size ≤ w'.heap.size := by rw [hheap]; simp
 have hpsz : (putCells id 0 (flatK encP 2 d.toArray) cl).size = cl.size := by simp [putCells]
 have hr' : w'.heap[r]? = some (.cells (putCells id 0 (flatK encP 2 d.toArray) cl) te (0, 0)) := by
  rw [hheap, Array.getElem?_append]
  simp only [Array.size_modify, hrl, if_true, Array.getElem?_modify, if_true]
  rw [hc]; rfl
 have hno : ∀ (env : List (Nat × AV)) (cells : List D) b j e rows, AP ⟨env, [.mem (cells.map AV.d)]⟩ (.cell b j) ≠ some (.own e rows) := by
  intro env cells b j e rows h
  simp only [AP] at h
  cases b with
  | zero =>
   simp only [List.getElem?_cons_zero] at h
   rw [List.getElem?_map] at h
   cases hx : cells[j]? with
   | none => rw [hx] at h; cases h
   | some d => rw [hx] at h; cases h
  | succ b => simp at h
 have hno' : ∀ p e rows, AP ⟨[(0, .tup [])], [.mem (Jtiw (d.map Pair.row))]⟩ p ≠ some (.own e rows) := by
  intro p e rows h
  cases p with
  | tmp t => simp only [AP, get] at h; split at h <;> cases h
  | cell b j => exact hno _ _ _ _ _ _ h
 have hb0 : ∀ b r', g.φ b = some r' → b = 0 := fun b r' h => by have := (hs.lt b r' h).2.2; simp at this; exact this
 refine ⟨.ret (.tup []), [.mem (Jtiw (d.map Pair.row))], g, .tuple #[], ⟨rfl, by rw [hd]⟩, rfl, ?_, ?_, fun _ _ _ h => h, by simp, ?_⟩
 ·refine { size := by simp, env := ?_, inj := hs.inj, lt := ?_, dom := ?_, mem := ?_, iter := ?_, glob := ?_, own := ?_, excl := ?_, apart := ?_, view := ?_ }
  ·intro t x hx
   simp only [get] at hx
   split at hx
   ·rename_i h; subst h; injection hx with hx; subst hx
    exact .tup [] [] rfl fun j x u h => by simp at h
   ·cases hx
  ·intro b r' h
   obtain ⟨h1, h2, h3⟩ := hs.lt b r' h
   exact ⟨by omega, h2, by simpa using h3⟩
  ·intro b k h hk
   cases b with
   | zero => exact ⟨r, hφ⟩
   | succ b => simp at h
  ·intro b cells r' h hr2
   have hb := hb0 b r' hr2
   subst hb
   rw [hφ] at hr2; injection hr2 with hr2; subst hr2
   simp at h; subst h
   refine ⟨_, te, hr', ?_, ?_⟩
   ·rw [Jtix, hdl]; simp [putCells]; exact hcs
   ·intro j x hx
    have hj : j < 2 * d.length := by
     have := (List.getElem?_eq_some_iff.1 hx).1
     rwa [Jtix] at this
    obtain ⟨n, h1, h2⟩ := Jt8t d j hj
    rw [hx] at h1; injection h1 with h1; subst h1
    refine ⟨rfl, .int .i64 n, ?_, .d _ _ (.int _ _)⟩
    have hjc : j < cl.size := by omega
    have hf : j < (flatK encP 2 d.toArray).size := by rw [size_flatK]; simp; omega
    simp only [putCells, Array.getElem?_mapIdx, hjc, Array.getElem?_eq_getElem, Option.map_some, Nat.zero_le, true_and, Nat.zero_add, hf, if_true, Nat.sub_zero, h2, id]
  ·intro b s pos r' h _
   cases b with
   | zero => simp at h
   | succ b => simp at h
  ·intro b s pos r' h _
   cases b with
   | zero => simp at h
   | succ b => simp at h
  ·intro p e rows v h; exact absurd h (hno' p e rows)
  ·rintro p p' r' ⟨e, rows, _, h, _⟩; exact absurd h (hno' p e rows)
  ·rintro p r' b ⟨e, rows, _, h, _⟩; exact absurd h (hno' p e rows)
  ·intro t org e rows h
   simp only [get] at h
   split at h <;> cases h
 ·refine ⟨by rw [hw]; rfl, by rw [hw]; rfl, by rw [hw]; rfl, hsize, ?_, ?_⟩
  ·intro r' h1 h2
   refine ⟨hother r' h1 ?_, rfl⟩
   rintro rfl; exact h2 (.inl ⟨0, hφ⟩)
  ·refine ⟨fun _ _ => Nat.le_refl _, ?_, fun q => ?_⟩
   rotate_left
   ·by_cases hq : q = r
    ·subst hq; rw [Jt7g hc, Jt7g hr']; exact Nat.le_of_eq hpsz.symm
    ·by_cases hql : q < w.heap.size
     ·rw [Jt7h (hother q hql hq)]; exact Nat.le_refl _
     ·have : w.heap[q]? = none := Array.getElem?_eq_none (by omega)
      simp [csize, this]
   intro r' j u hj hu
   have hne : r' ≠ r := by rintro rfl; omega
   have hlt := World.block_lt_of_cell? w ⟨r', j, none⟩ hu
   have := hother r' hlt hne
   simp only [World.cell?] at hu ⊢
   rw [this]; exact hu
 ·rintro r' (⟨b, hb⟩ | ⟨p, e, rows, _, h, _⟩)
  ·exact .inl (.inl ⟨b, hb⟩)
  ·exact absurd h (hno' p e rows)
theorem Jtkc (L : SlLaysF0.n6 P ρ) (c : Nat) (x : AV) (hx : x = .d (.sl []) ∨ x = .nils ∨ x = .nile) :
  Jt3w P (ρ.f 6) [x, .fn (.func c) [] []] [] fun o H' => o = .ret (.tup []) ∧ H' = [] := by
 intro g vs w hsz hs
 obtain ⟨vs⟩ := vs
 obtain ⟨v0, v1, rfl⟩ : ∃ a b, vs = [a, b] := by
  match vs, hsz with
  | [a, b], _ => exact ⟨a, b, rfl⟩
 have e0 : Rel g.F g.φ w x.erase v0 := hs.env 0 _ rfl
 obtain ⟨a, cap, rfl⟩ : ∃ a cap, v0 = .slice a 0 cap := by
  rcases hx with rfl | rfl | rfl
  ·cases e0 with
   | d _ _ h => cases h with
    | nil a cap => exact ⟨a, cap, rfl⟩
    | sl rows ad cap esz vs h1 h2 h3 h4 h5 h6 => exact ⟨_, _, rfl⟩
  ·cases e0; exact ⟨_, _, rfl⟩
  ·cases e0; exact ⟨_, _, rfl⟩
 refine Calls.mono (AnyF.slices_SortFunc_none L a cap v1 w) ?_
 rintro e w' ⟨rfl, rfl⟩
 have hno : ∀ (st : ASt) p e rows, st.H = [] → (∀ t e rows, get st.env t ≠ some (.own e rows)) → AP st p ≠ some (.own e rows) := by
  intro st p e rows h1 h2 h
  cases p with
  | tmp t => exact h2 t e rows h
  | cell b j => simp only [AP, h1] at h; simp at h
 have hno' : ∀ p e rows, AP ⟨[(0, .tup [])], []⟩ p ≠ some (.own e rows) := by
  intro p e rows
  refine hno _ p e rows rfl ?_
  intro t e rows h; simp only [get] at h; split at h <;> cases h
 have hb0 : ∀ b r, g.φ b ≠ some r := fun b r h => by have := (hs.lt b r h).2.2; simp at this
 refine ⟨.ret (.tup []), [], g, .tuple #[], ⟨rfl, rfl⟩, rfl, ?_, Tr.refl _ _ _, fun _ _ _ h => h, by simp, ?_⟩
 ·refine { size := by simp, env := ?_, inj := hs.inj, lt := fun b r h => absurd h (hb0 b r), dom := ?_, mem := ?_, iter := ?_, glob := ?_, own := ?_, excl := ?_, apart := ?_, view := ?_ }
  ·intro t x hx
   simp only [get] at hx
   split at hx
   ·rename_i h; subst h; injection hx with hx; subst hx
    exact .tup [] [] rfl fun j x u h => by simp at h
   ·cases hx
  ·intro b k h; simp at h
  ·intro b cells r h; simp at h
  ·intro b s pos r h; simp at h
  ·intro b s pos r h; simp at h
  ·intro p e rows v h; exact absurd h (hno' p e rows)
  ·rintro p p' r' ⟨e, rows, _, h, _⟩; exact absurd h (hno' p e rows)
  ·rintro p r' b ⟨e, rows, _, h, _⟩; exact absurd h (hno' p e rows)
  ·intro t org e rows h; simp only [get] at h; split at h <;> cases h
 ·rintro r' (⟨b, hb⟩ | ⟨p, e, rows, _, h, _⟩)
  ·exact absurd hb (hb0 b r')
  ·exact absurd h (hno' p e rows)
end
structure SortOk (P : Program) (p : Nums) : Prop where
 none : Jt3w P p.slices_SortFunc_Pair [.d (.sl []), .fn (.func p.pairset_compare) [] []] [] fun o H' => o = .ret (.tup []) ∧ H' = []
 some : ∀ l : List Pair, l ≠ [] → l.length < 1000000 → Jt3w P p.slices_SortFunc_Pair [.hsl 0 0 2 l.length, .fn (.func p.pairset_compare) [] []] [.mem (Jtiw (l.map Pair.row))] fun o H' => o = .ret (.tup []) ∧ H' = [.mem (Jtiw ((sortP l).map Pair.row))]
theorem Jtk9 (l : List Pair) : (sortP l).Pairwise fun a b => lessP b a = false := by
 have := List.pairwise_mergeSort (le := fun x y => !lessP y x) (fun a b c h1 h2 => ?_) (fun a b => ?_) l
 ·refine List.Pairwise.imp ?_ this
  intro a b h; simpa using h
 ·simp only [Bool.not_eq_true'] at h1 h2 ⊢
  cases h : lessP c a with
  | false => rfl
  | true =>
   cases h3 : lessP b c with
   | true => rw [Jtdm h3 h] at h1; cases h1
   | false => have := Jtdl h3 h2; subst this; rw [h] at h1; cases h1
 ·cases h1 : lessP b a with
  | false => simp
  | true => simp [Jtdh h1]
theorem Jtex {l : List Pair} {q : Pair} : q ∈ sortP l ↔ q ∈ l := by unfold sortP; simp
theorem Jt7m (l : List Pair) : dd (sortP l) = makeP l :=
 Jtkm (srt_dd (Jtk9 l)) (Jtkp l) fun q => by rw [mem_dd, Jtex, Jteq]
theorem Jtk8 {l : List Pair} (h : l ≠ []) : sortP l ≠ [] := by
 intro e; have := Jtk7 l; rw [e] at this; exact h (List.length_eq_zero_iff.1 this.symm)
section
theorem Jtgb {P : Program} {p : Nums} (A : All P p) (S : SortOk P p) : Jt3w P p.pairset_Make [.d (.sl [])] [] fun o H' => o = .ret (.d (.sl [])) ∧ H' = [] := by
 refine A.pairset_Make.run rfl fun R hR => ?_
 (simp (maxSteps := 1000000) [Jtbb])
 refine Jt10 [] 0 (Jtk3 A) (by decide) (by rfl) (by rfl) (by rfl) (by rfl) (by rfl) (by rfl) ?_
 (simp (maxSteps := 1000000) [])
 refine Jt10 [] 0 S.none (by decide) (by rfl) (by rfl) (by rfl) (by rfl) (by rfl) (by rfl) ?_
 (simp (maxSteps := 1000000) [])
 refine Jt10 [] 0 (Jtk5 A) (by decide) (by rfl) (by rfl) (by rfl) (by rfl) (by rfl) (by rfl) ?_
 (simp (maxSteps := 1000000) [])
 exact hR _ _ (Jt42 _ _ rfl (by (exact wkvA)) ⟨rfl, rfl⟩)
theorem Jtga {P : Program} {p : Nums} (A : All P p) (S : SortOk P p) (l : List Pair) (h0 : l.length < 1000000) : Jt3w P p.pairset_Make [.d (pairsD l)] [] fun o _ => o = .ret (.d (pairsD (makeP l))) := by
 by_cases hl : l = []
 ·subst hl
  exact (Jtgb A S).mono fun o H' h => h.1
 ·refine A.pairset_Make.run rfl fun R hR => ?_
  (simp (maxSteps := 1000000) [Jtbb, pairsD])
  refine Jt10 [] 1 (Jtk2 A l hl h0) (by decide) (by rfl) (by rfl) (by rfl) Jtib (by rfl) (by rfl) ?_
  (simp (maxSteps := 1000000) [])
  refine Jt10 [0] 0 (S.some l hl h0) (by decide) (by rfl) (by rfl) Jtib Jtib (by rfl) (by rfl) ?_
  (simp (maxSteps := 1000000) [])
  have hs := Jtk4 A (sortP l) (Jtk8 hl) (by rw [Jtk7]; exact h0)
  rw [Jtk7, Jt7m] at hs
  refine Jt10 [0] 0 hs (by decide) (by rfl) (by rfl) Jtib Jtib (by rfl) (by rfl) ?_
  obtain ⟨n, hn⟩ : ∃ n, n = (makeP l).length := ⟨_, rfl⟩
  obtain ⟨U, hU⟩ : ∃ U, U = cptP (sortP l) := ⟨_, rfl⟩
  rw [← hn, ← hU]
  (simp (maxSteps := 1000000) [])
  refine hR _ _ (Jt42 _ _ rfl (WkV.hsl 0 0 2 n _ ((makeP l).map Pair.row) rfl (by omega) ?_ (by rw [hn]; simp) (Jtj6 fun _ => rfl)) rfl)
  show ((Jtiw (U.map Pair.row)).drop 0).take (n * 2) = Jtiw ((makeP l).map Pair.row)
  rw [List.drop_zero, Jtj3 (e := 2) (rows := U.map Pair.row) (Jtj6 (f := Pair.row) fun _ => rfl), ← List.map_take, hU, cptP, Jt7m, hn, List.take_left']
  rfl
end
def renP (c : Pair → Bool) (f : Pair → Pair) (l : List Pair) : List Pair := (l.filter c).map f
theorem Jtif {c : Pair → Bool} {f : Pair → Pair} {l : List Pair} {k : Nat} (h : k < l.length) : renP c f (l.take (k + 1)) = if c l[k] = true then renP c f (l.take k) ++ [f l[k]] else renP c f (l.take k) := by
 unfold renP
 rw [List.take_add_one, List.getElem?_eq_getElem h, List.filter_append, List.map_append]
 cases hf : c l[k] <;> simp [hf]
theorem Jtie (c : Pair → Bool) (f : Pair → Pair) (l : List Pair) : (renP c f l).length ≤ l.length := by
 unfold renP; rw [List.length_map]; exact List.length_filter_le _ _
theorem Jtew {c : Pair → Bool} {f : Pair → Pair} {l : List Pair} {q : Pair} : q ∈ renP c f l ↔ ∃ p ∈ l, c p = true ∧ f p = q := by
 unfold renP; simp only [List.mem_map, List.mem_filter, and_assoc]
def copyP (l : List Pair) (d a : Int) : List Pair := if d = a then makeP l else mergeP (l.filter fun x => x.v != d) (makeP (renP (fun x => x.v == a) (fun x => ⟨d, x.l⟩) l))
def moveP (l : List Pair) (d a : Int) : List Pair := if d = a then makeP l else mergeP (l.filter fun x => x.l != d) (makeP (renP (fun x => x.l == a) (fun x => ⟨x.v, d⟩) l))
def defP (l : List Pair) (d t : Int) : List Pair := addP ((l.filter fun x => x.v != d).filter fun x => x.l != t) ⟨d, t⟩
theorem Jtkn {l : List Pair} {f : Pair → Bool} (h : Srt l) : Srt (l.filter f) := List.Pairwise.filter f h
theorem Jtkk {l : List Pair} {d a : Int} (h : Srt l) : Srt (copyP l d a) := by
 unfold copyP; split
 ·exact Jtkp _
 ·exact Jtkq (Jtkn h) (Jtkp _)
theorem Jtkr {l : List Pair} {d a : Int} (h : Srt l) : Srt (moveP l d a) := by
 unfold moveP; split
 ·exact Jtkp _
 ·exact Jtkq (Jtkn h) (Jtkp _)
theorem Jtkl {l : List Pair} {d t : Int} (h : Srt l) : Srt (defP l d t) := Jtki (Jtkn (Jtkn h))
theorem Jteo {l : List Pair} {d a : Int} {q : Pair} : q ∈ copyP l d a ↔ (q ∈ l ∧ (d = a ∨ q.v ≠ d)) ∨ (q.v = d ∧ (⟨a, q.l⟩ : Pair) ∈ l) := by
 unfold copyP
 by_cases h : d = a
 ·subst h
  rw [if_pos rfl, Jteq]
  constructor
  ·intro hq; exact .inl ⟨hq, .inl rfl⟩
  ·rintro (⟨hq, _⟩ | ⟨e, hq⟩)
   ·exact hq
   ·have : (⟨d, q.l⟩ : Pair) = q := Jt7z e.symm rfl
    rw [this] at hq; exact hq
 ·rw [if_neg h, Jter, Jteq, Jtew, List.mem_filter]
  constructor
  ·rintro (⟨h1, h2⟩ | ⟨p, h1, h2, rfl⟩)
   ·exact .inl ⟨h1, .inr (by simpa using h2)⟩
   ·refine .inr ⟨rfl, ?_⟩
    have e : p.v = a := by simpa using h2
    have : (⟨a, p.l⟩ : Pair) = p := Jt7z e.symm rfl
    simpa [this] using h1
  ·rintro (⟨h1, h2⟩ | ⟨h1, h2⟩)
   ·exact .inl ⟨h1, by simpa using h2.resolve_left h⟩
   ·exact .inr ⟨_, h2, by simp, Jt7z h1.symm rfl⟩
theorem Jtes {l : List Pair} {d a : Int} {q : Pair} : q ∈ moveP l d a ↔ (q ∈ l ∧ (d = a ∨ q.l ≠ d)) ∨ (q.l = d ∧ (⟨q.v, a⟩ : Pair) ∈ l) := by
 unfold moveP
 by_cases h : d = a
 ·subst h
  rw [if_pos rfl, Jteq]
  constructor
  ·intro hq; exact .inl ⟨hq, .inl rfl⟩
  ·rintro (⟨hq, _⟩ | ⟨e, hq⟩)
   ·exact hq
   ·have : (⟨q.v, d⟩ : Pair) = q := Jt7z rfl e.symm
    rw [this] at hq; exact hq
 ·rw [if_neg h, Jter, Jteq, Jtew, List.mem_filter]
  constructor
  ·rintro (⟨h1, h2⟩ | ⟨p, h1, h2, rfl⟩)
   ·exact .inl ⟨h1, .inr (by simpa using h2)⟩
   ·refine .inr ⟨rfl, ?_⟩
    have e : p.l = a := by simpa using h2
    have : (⟨p.v, a⟩ : Pair) = p := Jt7z rfl e.symm
    simpa [this] using h1
  ·rintro (⟨h1, h2⟩ | ⟨h1, h2⟩)
   ·exact .inl ⟨h1, by simpa using h2.resolve_left h⟩
   ·exact .inr ⟨_, h2, by simp, Jt7z rfl h1.symm⟩
theorem Jtep {l : List Pair} {d t : Int} {q : Pair} : q ∈ defP l d t ↔ q = ⟨d, t⟩ ∨ (q ∈ l ∧ q.v ≠ d ∧ q.l ≠ t) := by
 unfold defP
 rw [Jten, List.mem_filter, List.mem_filter]
 simp [and_assoc]
section
end
section
end
section
end
section
end
theorem Jt8l {l : List Pair} {f : Pair → Bool} {k : Nat} (h : k < l.length) : (l.take (k + 1)).filter f = if f l[k] = true then (l.take k).filter f ++ [l[k]] else (l.take k).filter f := by
 rw [List.take_add_one, List.getElem?_eq_getElem h, List.filter_append]
 cases hf : f l[k] <;> simp [hf]
section
theorem Jtg5 {P : Program} {p : Nums} (A : All P p) (x : Pair) (v : Int) : Jt3w P p.pairset_DropV_1 [x.av, .ptr 0 0] [.mem [AI v]] fun o H' => o = .ret (AB (x.v != v)) ∧ H' = [.mem [AI v]] := by
 refine A.pairset_DropV_1.run rfl fun R hR => ?_
 (simp (maxSteps := 1000000) [Jtb8, Pair.av])
 exact hR _ _ (Jt41 _ (AB (x.v != v)) [.mem [AI v]] rfl (by (exact wkA)) ⟨rfl, rfl⟩)
theorem Jtg2 {P : Program} {p : Nums} (A : All P p) (x : Pair) (v : Int) : Jt3w P p.pairset_DropL_1 [x.av, .ptr 0 0] [.mem [AI v]] fun o H' => o = .ret (AB (x.l != v)) ∧ H' = [.mem [AI v]] := by
 refine A.pairset_DropL_1.run rfl fun R hR => ?_
 (simp (maxSteps := 1000000) [Jtb6, Pair.av])
 exact hR _ _ (Jt41 _ (AB (x.l != v)) [.mem [AI v]] rfl (by (exact wkA)) ⟨rfl, rfl⟩)
theorem Jtgd {P : Program} {p : Nums} (A : All P p) (l : List Pair) (f : Nat) (v : Int) (keep : Pair → Bool) (h0 : l.length < 1000000) (hok : okFn P f = true)
  (hf : ∀ x : Pair, Jt3w P f [x.av, .ptr 0 0] [.mem [AI v]] fun o H' => o = .ret (AB (keep x)) ∧ H' = [.mem [AI v]]) :
  Jt3w P p.pairset_filter [.d (pairsD l), .fn (.func f) [] [.ptr 0 0]] [.mem [AI v]] fun o H' => o = .ret (.own 2 ((l.filter keep).map Pair.row)) ∧ H' = [.mem [AI v]] := by
 refine A.pairset_filter.run rfl fun R hR => ?_
 (simp (maxSteps := 1000000) [Jtbd, pairsD])
 refine Jt24 (n := l.length) (by rfl) (by rfl) (by omega) (by omega) (by decide) (by rfl) ?_
 (simp (maxSteps := 1000000) [])
 refine Jtd (fun k : Nat => ⟨[(13, AI k), (12, AI l.length), (11, .d (.sl (l.map Pair.row))), (5, .own 2 (((l.take k).filter keep).map Pair.row)), (4, .nils), (1, .fn (.func f) [] [.ptr 0 0])], [.mem [AI v]]⟩) (fun k => k ≤ l.length) (fun k => l.length - k) 0 (by simp) (by simp only [List.take_zero, List.filter_nil, List.map_nil]; (exact wkA)) ?_
 intro k hk N hN
 (simp (maxSteps := 1000000) [])
 ((first | refine Xc (fun h2 => ?_) (fun h2 => ?_) | refine Xo (fun h2 => ?_) (fun h2 => ?_)) <;> (try simp only [Xz, Xy] at h2))
 ·have hkl : k < l.length := by omega
  have hb : l[k]? = some l[k] := by simp
  have hw := Jtmv (k := k) (by omega)
  have hs := Jt8l (f := keep) hkl
  have hl := List.length_filter_le keep (l.take k)
  rw [List.length_take] at hl
  obtain ⟨x, hx⟩ : ∃ x, x = l[k] := ⟨_, rfl⟩
  obtain ⟨F, hF⟩ : ∃ F, F = (l.take k).filter keep := ⟨_, rfl⟩
  have hN' := fun st' h => hN st' (k + 1) hkl h (by omega)
  rw [hs] at hN'
  rw [← hx, ← hF] at hN'
  rw [← hF] at hl ⊢
  rw [← hx] at hb
  (simp (maxSteps := 1000000) [h2, hb, Pair.row])
  refine ⟨f, [], [.ptr 0 0], [.agg [AI l[k].v, AI l[k].l]], rfl, hok, rfl, ?_⟩
  refine Jtz [0] (hf l[k]) (by decide) (by rfl) (by rfl) (by rfl) (by rfl) (by rfl) (by rfl) ?_
  rw [← hx]
  (simp (maxSteps := 1000000) [])
  cases hkx : keep x with
  | true =>
   rw [hkx, if_pos rfl] at hN'
   (simp (maxSteps := 1000000) [hkx])
   (refine Jt1b (by rfl) (by rfl) (by rfl) ?_ (by decide) ?_ ?_ ?_)
   ·simp
   ·simp; omega
   ·simp; omega
   (simp (maxSteps := 1000000) [hw])
   exact hN' _ (by simp [Pair.row]; (exact wkA))
  | false =>
   rw [hkx, if_neg (by simp)] at hN'
   (simp (maxSteps := 1000000) [hkx, hw])
   exact hN' _ (by (exact wkA))
 ·have hk' : k = l.length := by omega
  subst hk'
  (simp (maxSteps := 1000000) [])
  exact hR _ _ (Jt41 _ (.own 2 ((l.filter keep).map Pair.row)) [.mem [AI v]] rfl (by (exact wkA)) ⟨rfl, rfl⟩)
theorem Jtg7 {P : Program} {p : Nums} (A : All P p) (l : List Pair) (v : Int) (h0 : l.length < 1000000) : Jt3w P p.pairset_DropV [.d (pairsD l), AI v] [] fun o H' => o = .ret (.own 2 ((l.filter fun x => x.v != v).map Pair.row)) ∧ H' = [] := by
 refine A.pairset_DropV.run rfl fun R hR => ?_
 (simp (maxSteps := 1000000) [Jtb7, pairsD])
 refine Jtz [0] (Jtgd A l p.pairset_DropV_1 v (fun x => x.v != v) h0 A.pairset_DropV_1.ok fun x => Jtg5 A x v) (by decide) (by rfl) (by rfl) (by rfl) (by rfl) (by rfl) (by rfl) ?_
 (simp (maxSteps := 1000000) [])
 exact hR _ _ (Jt3y _ _ rfl ⟨rfl, rfl⟩)
theorem Jtg4 {P : Program} {p : Nums} (A : All P p) (l : List Pair) (v : Int) (h0 : l.length < 1000000) : Jt3w P p.pairset_DropL [.d (pairsD l), AI v] [] fun o H' => o = .ret (.own 2 ((l.filter fun x => x.l != v).map Pair.row)) ∧ H' = [] := by
 refine A.pairset_DropL.run rfl fun R hR => ?_
 (simp (maxSteps := 1000000) [Jtb5, pairsD])
 refine Jtz [0] (Jtgd A l p.pairset_DropL_1 v (fun x => x.l != v) h0 A.pairset_DropL_1.ok fun x => Jtg2 A x v) (by decide) (by rfl) (by rfl) (by rfl) (by rfl) (by rfl) (by rfl) ?_
 (simp (maxSteps := 1000000) [])
 exact hR _ _ (Jt3y _ _ rfl ⟨rfl, rfl⟩)
theorem Jtg6 {P : Program} {p : Nums} (A : All P p) (l : List Pair) (v : Int) (h0 : l.length < 1000000) : Jt3w P p.pairset_DropV [.d (pairsD l), AI v] [] fun o _ => o = .ret (.d (pairsD (l.filter fun x => x.v != v))) :=
 (Jtg7 A l v h0).unown.mono fun _ _ h => h.1
theorem Jtg3 {P : Program} {p : Nums} (A : All P p) (l : List Pair) (v : Int) (h0 : l.length < 1000000) : Jt3w P p.pairset_DropL [.d (pairsD l), AI v] [] fun o _ => o = .ret (.d (pairsD (l.filter fun x => x.l != v))) :=
 (Jtg4 A l v h0).unown.mono fun _ _ h => h.1
end
structure ClosOk (P : Program) (p : Nums) : Prop where
 ok1 : okFn P p.transfer_Copy_1 = true
 ok2 : okFn P p.transfer_Move_1 = true
 copy : ∀ (x : Pair) (d a : Int), Jt3w P p.transfer_Copy_1 [x.av, .ptr 0 0, .ptr 1 0] [.mem [AI d], .mem [AI a]] fun o H' => o = .ret (.tup [(⟨d, x.l⟩ : Pair).av, AB (x.v == a)]) ∧ H' = [.mem [AI d], .mem [AI a]]
 move : ∀ (x : Pair) (d a : Int), Jt3w P p.transfer_Move_1 [x.av, .ptr 0 0, .ptr 1 0] [.mem [AI d], .mem [AI a]] fun o H' => o = .ret (.tup [(⟨x.v, d⟩ : Pair).av, AB (x.l == a)]) ∧ H' = [.mem [AI d], .mem [AI a]]
section
theorem Jtm7 {P : Program} {p : Nums} (A : All P p) (S : SortOk P p) (kept l : List Pair) (f : Nat) (d a : Int) (c : Pair → Bool) (g : Pair → Pair) (h0 : kept.length < 100000) (h1 : l.length < 100000) (hok : okFn P f = true)
  (hf : ∀ x : Pair, Jt3w P f [x.av, .ptr 0 0, .ptr 1 0] [.mem [AI d], .mem [AI a]] fun o H' => o = .ret (.tup [(g x).av, AB (c x)]) ∧ H' = [.mem [AI d], .mem [AI a]]) :
  Jt3w P p.transfer_rename [.d (pairsD kept), .d (pairsD l), .fn (.func f) [] [.ptr 0 0, .ptr 1 0]] [.mem [AI d], .mem [AI a]] fun o H' => o = .ret (.own 2 ((mergeP kept (makeP (renP c g l))).map Pair.row)) ∧ H' = [.mem [AI d], .mem [AI a]] := by
 refine A.transfer_rename.run rfl fun R hR => ?_
 (simp (maxSteps := 1000000) [Jtc8, pairsD])
 refine Jtd (fun k : Nat => ⟨[(14, AI k), (13, AI l.length), (12, .d (.sl (l.map Pair.row))), (7, .own 2 ((renP c g (l.take k)).map Pair.row)), (6, .nils), (2, .fn (.func f) [] [.ptr 0 0, .ptr 1 0]), (0, .d (.sl (kept.map Pair.row)))], [.mem [AI d], .mem [AI a]]⟩) (fun k => k ≤ l.length) (fun k => l.length - k) 0 (by simp) (by simp only [List.take_zero, renP, List.filter_nil, List.map_nil]; (exact wkA)) ?_
 intro k hk N hN
 (simp (maxSteps := 1000000) [])
 ((first | refine Xc (fun h2 => ?_) (fun h2 => ?_) | refine Xo (fun h2 => ?_) (fun h2 => ?_)) <;> (try simp only [Xz, Xy] at h2))
 ·have hkl : k < l.length := by omega
  have hb : l[k]? = some l[k] := by simp
  have hw := Jtmv (k := k) (by omega)
  have hs := Jtif (c := c) (f := g) hkl
  have hl := Jtie c g (l.take k)
  rw [List.length_take] at hl
  obtain ⟨x, hx⟩ : ∃ x, x = l[k] := ⟨_, rfl⟩
  obtain ⟨F, hF⟩ : ∃ F, F = renP c g (l.take k) := ⟨_, rfl⟩
  have hN' := fun st' h => hN st' (k + 1) hkl h (by omega)
  rw [hs] at hN'
  rw [← hx, ← hF] at hN'
  rw [← hF] at hl ⊢
  rw [← hx] at hb
  (simp (maxSteps := 1000000) [h2, hb, Pair.row])
  refine ⟨f, [], [.ptr 0 0, .ptr 1 0], [.agg [AI l[k].v, AI l[k].l]], rfl, hok, rfl, ?_⟩
  refine Jtz [0, 1] (hf l[k]) (by decide) (by rfl) (by rfl) (by rfl) (by rfl) (by rfl) (by rfl) ?_
  rw [← hx]
  obtain ⟨y, hy⟩ : ∃ y, y = g x := ⟨_, rfl⟩
  rw [← hy] at hN' ⊢
  (simp (maxSteps := 1000000) [Pair.av])
  cases hkx : c x with
  | true =>
   rw [hkx, if_pos rfl] at hN'
   (simp (maxSteps := 1000000) [hkx, Pair.av])
   (refine Jt1b (by rfl) (by rfl) (by rfl) ?_ (by decide) ?_ ?_ ?_)
   ·simp
   ·simp; omega
   ·simp; omega
   (simp (maxSteps := 1000000) [hw])
   exact hN' _ (by simp [Pair.row]; (exact wkA))
  | false =>
   rw [hkx, if_neg (by simp)] at hN'
   (simp (maxSteps := 1000000) [hkx, hw])
   exact hN' _ (by (exact wkA))
 ·have hk' : k = l.length := by omega
  subst hk'
  have hl := Jtie c g l
  have hm := Jted (renP c g l)
  have hmk := Jtga A S (renP c g l) (by omega)
  have hun := (Jtgc A kept (makeP (renP c g l)) (by omega) (by omega)).mono fun _ _ h => h.1
  obtain ⟨G, hG⟩ : ∃ G, G = renP c g l := ⟨_, rfl⟩
  obtain ⟨M, hM⟩ : ∃ M, M = makeP (renP c g l) := ⟨_, rfl⟩
  rw [← hM, ← hG] at hmk
  rw [← hM] at hun
  simp only [List.take_length]
  rw [← hG]
  (simp (maxSteps := 1000000) [])
  (refine Jty hmk (by rfl) (by rfl) ?_)
  (simp (maxSteps := 1000000) [pairsD])
  (refine Jty hun (by rfl) (by rfl) ?_)
  (simp (maxSteps := 1000000) [])
  exact hR _ _ (Jt41 _ (.own 2 ((mergeP kept M).map Pair.row)) [.mem [AI d], .mem [AI a]] rfl (by (exact wkA)) ⟨by rw [hM], rfl⟩)
theorem Jtm2 {P : Program} {p : Nums} (A : All P p) (S : SortOk P p) (C : ClosOk P p) (l : List Pair) (d a : Int) (h0 : l.length < 100000) (hne : d ≠ a) : Jt3w P p.transfer_Copy [.d (pairsD l), AI d, AI a] [] fun o H' => o = .ret (.own 2 ((copyP l d a).map Pair.row)) ∧ H' = [] := by
 refine A.transfer_Copy.run rfl fun R hR => ?_
 (simp (maxSteps := 1000000) [Jtc5, pairsD, hne])
 (refine Jty (Jtg6 A l d (by omega)) (by rfl) (by rfl) ?_)
 have hl := List.length_filter_le (fun x : Pair => x.v != d) l
 have hrn := Jtm7 A S (l.filter fun x => x.v != d) l p.transfer_Copy_1 d a (fun x => x.v == a) (fun x => ⟨d, x.l⟩) (by omega) h0 C.ok1 fun x => C.copy x d a
 have hc : copyP l d a = mergeP (l.filter fun x => x.v != d) (makeP (renP (fun x => x.v == a) (fun x => ⟨d, x.l⟩) l)) := by unfold copyP; rw [if_neg hne]
 rw [← hc] at hrn
 obtain ⟨K, hK⟩ : ∃ K, K = l.filter fun x => x.v != d := ⟨_, rfl⟩
 rw [← hK] at hrn ⊢
 (simp (maxSteps := 1000000) [pairsD])
 refine Jtz [0, 1] hrn (by decide) (by rfl) (by rfl) (by rfl) (by rfl) (by rfl) (by rfl) ?_
 (simp (maxSteps := 1000000) [])
 exact hR _ _ (Jt3y _ _ rfl ⟨rfl, rfl⟩)
theorem Jtm1 {P : Program} {p : Nums} (A : All P p) (S : SortOk P p) (C : ClosOk P p) (l : List Pair) (d a : Int) (h0 : l.length < 100000) : Jt3w P p.transfer_Copy [.d (pairsD l), AI d, AI a] [] fun o _ => o = .ret (.d (pairsD (copyP l d a))) := by
 by_cases hne : d = a
 ·refine A.transfer_Copy.run rfl fun R hR => ?_
  subst hne
  (simp (maxSteps := 1000000) [Jtc5, pairsD])
  have hc : copyP l d d = makeP l := by unfold copyP; rw [if_pos rfl]
  have hmk := Jtga A S l (by omega)
  rw [← hc] at hmk
  (refine Jty hmk (by rfl) (by rfl) ?_)
  (simp (maxSteps := 1000000) [pairsD])
  (first | exact hR _ _ FrA | exact hR _ _ FnA | exact hR _ _ (Xf (hq := by simp [AV.erase, AV.unview, pairsD]; done)))
 ·exact (Jtm2 A S C l d a h0 hne).unown.mono fun _ _ h => h.1
theorem Jtm6 {P : Program} {p : Nums} (A : All P p) (S : SortOk P p) (C : ClosOk P p) (l : List Pair) (d a : Int) (h0 : l.length < 100000) (hne : d ≠ a) : Jt3w P p.transfer_Move [.d (pairsD l), AI d, AI a] [] fun o H' => o = .ret (.own 2 ((moveP l d a).map Pair.row)) ∧ H' = [] := by
 refine A.transfer_Move.run rfl fun R hR => ?_
 (simp (maxSteps := 1000000) [Jtc7, pairsD, hne])
 (refine Jty (Jtg3 A l d (by omega)) (by rfl) (by rfl) ?_)
 have hl := List.length_filter_le (fun x : Pair => x.l != d) l
 have hrn := Jtm7 A S (l.filter fun x => x.l != d) l p.transfer_Move_1 d a (fun x => x.l == a) (fun x => ⟨x.v, d⟩) (by omega) h0 C.ok2 fun x => C.move x d a
 have hc : moveP l d a = mergeP (l.filter fun x => x.l != d) (makeP (renP (fun x => x.l == a) (fun x => ⟨x.v, d⟩) l)) := by unfold moveP; rw [if_neg hne]
 rw [← hc] at hrn
 obtain ⟨K, hK⟩ : ∃ K, K = l.filter fun x => x.l != d := ⟨_, rfl⟩
 rw [← hK] at hrn ⊢
 (simp (maxSteps := 1000000) [pairsD])
 refine Jtz [0, 1] hrn (by decide) (by rfl) (by rfl) (by rfl) (by rfl) (by rfl) (by rfl) ?_
 (simp (maxSteps := 1000000) [])
 exact hR _ _ (Jt3y _ _ rfl ⟨rfl, rfl⟩)
theorem Jtm5 {P : Program} {p : Nums} (A : All P p) (S : SortOk P p) (C : ClosOk P p) (l : List Pair) (d a : Int) (h0 : l.length < 100000) : Jt3w P p.transfer_Move [.d (pairsD l), AI d, AI a] [] fun o _ => o = .ret (.d (pairsD (moveP l d a))) := by
 by_cases hne : d = a
 ·refine A.transfer_Move.run rfl fun R hR => ?_
  subst hne
  (simp (maxSteps := 1000000) [Jtc7, pairsD])
  have hc : moveP l d d = makeP l := by unfold moveP; rw [if_pos rfl]
  have hmk := Jtga A S l (by omega)
  rw [← hc] at hmk
  (refine Jty hmk (by rfl) (by rfl) ?_)
  (simp (maxSteps := 1000000) [pairsD])
  (first | exact hR _ _ FrA | exact hR _ _ FnA | exact hR _ _ (Xf (hq := by simp [AV.erase, AV.unview, pairsD]; done)))
 ·exact (Jtm6 A S C l d a h0 hne).unown.mono fun _ _ h => h.1
theorem Jtm4 {P : Program} {p : Nums} (A : All P p) (S : SortOk P p) (l : List Pair) (d t : Int) (h0 : l.length < 100000) (hs : Srt l) : Jt3w P p.transfer_Define [.d (pairsD l), AI d, AI t] [] fun o H' => o = .ret (.own 2 ((defP l d t).map Pair.row)) ∧ H' = [] := by
 refine A.transfer_Define.run rfl fun R hR => ?_
 (simp (maxSteps := 1000000) [Jtc6, pairsD])
 (refine Jty (Jtg6 A l d (by omega)) (by rfl) (by rfl) ?_)
 have hl := List.length_filter_le (fun x : Pair => x.v != d) l
 have hl2 := List.length_filter_le (fun x : Pair => x.l != t) (l.filter fun x : Pair => x.v != d)
 have h2 := Jtg3 A (l.filter fun x : Pair => x.v != d) t (by omega)
 have h3 := (Jtg1 A ((l.filter fun x => x.v != d).filter fun x => x.l != t) ⟨d, t⟩ (by omega) (Jtkn (Jtkn hs))).mono fun _ _ h => h.1
 have hc : addP ((l.filter fun x => x.v != d).filter fun x => x.l != t) ⟨d, t⟩ = defP l d t := rfl
 rw [hc] at h3
 obtain ⟨K, hK⟩ : ∃ K, K = l.filter fun x : Pair => x.v != d := ⟨_, rfl⟩
 rw [← hK] at h2 h3 ⊢
 obtain ⟨K2, hK2⟩ : ∃ K2, K2 = K.filter fun x : Pair => x.l != t := ⟨_, rfl⟩
 rw [← hK2] at h2 h3
 (simp (maxSteps := 1000000) [pairsD])
 (refine Jty h2 (by rfl) (by rfl) ?_)
 (simp (maxSteps := 1000000) [pairsD])
 (refine Jty h3 (by rfl) (by rfl) ?_)
 (simp (maxSteps := 1000000) [])
 exact hR _ _ (Jt3y _ _ rfl ⟨rfl, rfl⟩)
theorem Jtm3 {P : Program} {p : Nums} (A : All P p) (S : SortOk P p) (l : List Pair) (d t : Int) (h0 : l.length < 100000) (hs : Srt l) : Jt3w P p.transfer_Define [.d (pairsD l), AI d, AI t] [] fun o _ => o = .ret (.d (pairsD (defP l d t))) :=
 (Jtm4 A S l d t h0 hs).unown.mono fun _ _ h => h.1
end
section
end
section
end
section
end
section
end
def intRow (n : Int) : List D := [.int .i64 n]
def intsD (l : List Int) : D := .sl (l.map intRow)
section
end
section
end
def Jt63 (b : Bool) : List D := [.bool b]
def boolsD (l : List Bool) : D := .sl (l.map Jt63)
section
end
section
end
theorem HasT.bool_inv {d : D} (h : HasT .bool d) : ∃ b, d = .bool b := by
 cases h with
 | bool b => exact ⟨b, rfl⟩
theorem Jtcp {d : D} (h : HasT (.sl [ltI]) d) : ∃ l : List Int, AV.d d = .d (intsD l) ∧ l.length ≤ maxLen := by
 obtain ⟨rows, rfl, hl, hr⟩ := h.sl_inv
 obtain ⟨l, rfl⟩ := Jtj7 (g := intRow) (fun r hr => by
  obtain ⟨_, _, rfl, h0, h⟩ := HasL.cons_inv hr
  obtain rfl := h.nil_inv
  obtain ⟨a, rfl, _⟩ := h0.int_inv
  exact ⟨a, rfl⟩) hr
 exact ⟨l, rfl, by simpa using hl⟩
theorem Jt64 {d : D} (h : HasT (.sl [.bool]) d) : ∃ l : List Bool, AV.d d = .d (boolsD l) ∧ l.length ≤ maxLen := by
 obtain ⟨rows, rfl, hl, hr⟩ := h.sl_inv
 obtain ⟨l, rfl⟩ := Jtj7 (g := Jt63) (fun r hr => by
  obtain ⟨_, _, rfl, h0, h⟩ := HasL.cons_inv hr
  obtain rfl := h.nil_inv
  obtain ⟨b, rfl⟩ := h0.bool_inv
  exact ⟨b, rfl⟩) hr
 exact ⟨l, rfl, by simpa using hl⟩
def isDig (c : UInt8) : Bool := decide (48 ≤ c.toNat) && decide (c.toNat ≤ 57)
def valD (ds : List UInt8) : Nat := ds.foldl (fun n c => 10 * n + (c.toNat - 48)) 0
def okD (ds : List UInt8) : Prop := ds ≠ [] ∧ (∀ c ∈ ds, isDig c = true) ∧ (ds.length ≤ 1 ∨ ds.head? ≠ some 48) ∧ valD ds < 1099511627776
instance (ds : List UInt8) : Decidable (okD ds) := by unfold okD; infer_instance
theorem Jtln (k : Nat) : ((k : Int)).tdiv 2 = ((k / 2 : Nat) : Int) := rfl
theorem Jtlm (l : Int) (h0 : -9223372036854775808 ≤ l) (h1 : l ≤ 9223372036854775807) : IntKind.i64.wrap (l.tdiv 2) = l.tdiv 2 := by
 rcases Int.le_total 0 l with h | h
 ·obtain ⟨k, rfl⟩ := Int.eq_ofNat_of_zero_le h
  rw [Jtln]; exact wrap_i64 (by omega) (by omega)
 ·obtain ⟨k, hk⟩ := Int.eq_ofNat_of_zero_le (show 0 ≤ -l by omega)
  have : l = -(k : Int) := by omega
  subst this
  rw [Int.neg_tdiv, Jtln]; exact wrap_i64 (by omega) (by omega)
section
def rngZ (l r s : Int) : Bool := if l.tmod 2 = 1 then decide (0 ≤ l) && decide (l.tdiv 2 < s) else decide (0 ≤ l) && decide (l.tdiv 2 < r)
theorem Jtgz {P : Program} {p : Nums} (A : All P p) (l r s : Int) (h0 : -9223372036854775808 ≤ l) (h1 : l ≤ 9223372036854775807) : Jt3w P p.ref04_InRange [AI l, AI r, AI s] [] fun o _ => o = .ret (AB (rngZ l r s)) := by
 refine A.ref04_InRange.run rfl fun R hR => ?_
 have hw := Jtlm l h0 h1
 (simp (maxSteps := 1000000) [Jtbf, hw])
 by_cases hl : l < 0
 ·have hl' : ¬ 0 ≤ l := by omega
  (simp (maxSteps := 1000000) [hl])
  (first | exact hR _ _ FrA | exact hR _ _ FnA | exact hR _ _ (Xf (hq := by simp [AV.erase, AV.unview, rngZ, hl']; done)))
 ·have hl' : 0 ≤ l := by omega
  by_cases hm : l.tmod 2 = 1
  ·(simp (maxSteps := 1000000) [hm, hl, hw])
   (first | exact hR _ _ FrA | exact hR _ _ FnA | exact hR _ _ (Xf (hq := by simp [AV.erase, AV.unview, rngZ, hm, hl', hw]; done)))
  ·(simp (maxSteps := 1000000) [hm, hl, hw])
   (first | exact hR _ _ FrA | exact hR _ _ FnA | exact hR _ _ (Xf (hq := by simp [AV.erase, AV.unview, rngZ, hm, hl', hw]; done)))
end
structure Mach where (op d a b imm dst src : Int)
 deriving DecidableEq, Inhabited
def Mach.row (m : Mach) : List D := [I m.op, I m.d, I m.a, I m.b, I m.imm, I m.dst, I m.src]
def Mach.av (m : Mach) : AV := .agg [AI m.op, AI m.d, AI m.a, AI m.b, AI m.imm, AI m.dst, AI m.src]
def regZ (n : Int) : Int := IntKind.i64.wrap (2 * n)
def slotZ (n : Int) : Int := IntKind.i64.wrap (IntKind.i64.wrap (2 * n) + 1)
def mvM (dst src : Int) : Mach := ⟨18, 0, 0, 0, 0, dst, src⟩
section
theorem Jte0 {P : Program} {p : Nums} (A : All P p) (x : Int) : Jt3w P p.location_Reg [AI x] [] fun o _ => o = .ret (AI (regZ x)) := by
 refine A.location_Reg.run rfl fun R hR => ?_
 (simp (maxSteps := 1000000) [Jtb1])
 (first | exact hR _ _ FrA | exact hR _ _ FnA)
def knownZ (x : Int) : Bool := decide (1 ≤ x ∧ x ≤ 18)
theorem Jtfv {P : Program} {p : Nums} (A : All P p) (x : Int) : Jt3w P p.opcode_known [AI x] [] fun o _ => o = .ret (AB (knownZ x)) := by
 refine A.opcode_known.run rfl fun R hR => ?_
 (simp (maxSteps := 1000000) [Jtb3])
 ((first | refine Xc (fun hx => ?_) (fun hx => ?_) | refine Xo (fun hx => ?_) (fun hx => ?_)) <;> (try simp only [Xz, Xy] at hx))
 ·(simp (maxSteps := 1000000) [hx])
  (first | exact hR _ _ FrA | exact hR _ _ FnA | exact hR _ _ (Xf (hq := by simp [AV.erase, AV.unview, knownZ, hx]; done)))
 ·(simp (maxSteps := 1000000) [hx])
  (first | exact hR _ _ FrA | exact hR _ _ FnA | exact hR _ _ (Xf (hq := by simp [AV.erase, AV.unview, knownZ, hx]; done)))
structure Shape where (D A B Imm : Bool)
def shapeZ (x : Int) : Shape :=
 if knownZ x = false then ⟨false, false, false, false⟩ else if x = 1 then ⟨true, false, false, true⟩ else if x ≤ 4 then ⟨true, true, false, false⟩ else if x ≤ 16 then ⟨true, true, true, false⟩ else ⟨false, x == 17, false, false⟩
theorem Jtfu {P : Program} {p : Nums} (A : All P p) (x : Int) : Jt3w P p.opcode_Of [AI x] [] fun o _ => o = .ret (.tup [.agg [AB (shapeZ x).D, AB (shapeZ x).A, AB (shapeZ x).B, AB (shapeZ x).Imm], AB (knownZ x)]) := by
 refine A.opcode_Of.run rfl fun R hR => ?_
 (simp (maxSteps := 1000000) [Jtb2])
 (refine Jty (Jtfv A _) (by rfl) (by rfl) ?_)
 (simp (maxSteps := 1000000) [])
 ((first | refine Xc (fun h1 => ?_) (fun h1 => ?_) | refine Xo (fun h1 => ?_) (fun h1 => ?_)) <;> (try simp only [Xz, Xy] at h1))
 ·(simp (maxSteps := 1000000) [h1])
  (first | exact hR _ _ FrA | exact hR _ _ FnA | exact hR _ _ (Xf (hq := by simp [AV.erase, AV.unview, shapeZ, h1]; done)))
 ·(simp (maxSteps := 1000000) [h1])
  ((first | refine Xc (fun h2 => ?_) (fun h2 => ?_) | refine Xo (fun h2 => ?_) (fun h2 => ?_)) <;> (try simp only [Xz, Xy] at h2))
  ·subst h2
   (simp (maxSteps := 1000000) [])
   (first | exact hR _ _ FrA | exact hR _ _ FnA | exact hR _ _ (Xf (hq := by simp [AV.erase, AV.unview, shapeZ, h1]; done)))
  ·(simp (maxSteps := 1000000) [h2])
   ((first | refine Xc (fun h3 => ?_) (fun h3 => ?_) | refine Xo (fun h3 => ?_) (fun h3 => ?_)) <;> (try simp only [Xz, Xy] at h3))
   ·(simp (maxSteps := 1000000) [h3])
    (first | exact hR _ _ FrA | exact hR _ _ FnA | exact hR _ _ (Xf (hq := by simp [AV.erase, AV.unview, shapeZ, h1, h2, h3]; done)))
   ·(simp (maxSteps := 1000000) [h3])
    ((first | refine Xc (fun h4 => ?_) (fun h4 => ?_) | refine Xo (fun h4 => ?_) (fun h4 => ?_)) <;> (try simp only [Xz, Xy] at h4))
    ·(simp (maxSteps := 1000000) [h4])
     (first | exact hR _ _ FrA | exact hR _ _ FnA | exact hR _ _ (Xf (hq := by simp [AV.erase, AV.unview, shapeZ, h1, h2, h3, h4]; done)))
    ·(simp (maxSteps := 1000000) [h4])
     (first | exact hR _ _ FrA | exact hR _ _ FnA | exact hR _ _ (Xf (hq := by simp [AV.erase, AV.unview, shapeZ, h1, h2, h3, h4]; done)))
def inZ (x n : Int) : Bool := decide (0 ≤ x ∧ x < n)
theorem Jthc {P : Program} {p : Nums} (A : All P p) (x n : Int) : Jt3w P p.ref07_in [AI x, AI n] [] fun o _ => o = .ret (AB (inZ x n)) := by
 refine A.ref07_in.run rfl fun R hR => ?_
 (simp (maxSteps := 1000000) [Jtbs])
 ((first | refine Xc (fun h1 => ?_) (fun h1 => ?_) | refine Xo (fun h1 => ?_) (fun h1 => ?_)) <;> (try simp only [Xz, Xy] at h1))
 ·(simp (maxSteps := 1000000) [h1])
  (first | exact hR _ _ FrA | exact hR _ _ FnA | exact hR _ _ (Xf (hq := by simp [AV.erase, AV.unview, h1, inZ]; done)))
 ·(simp (maxSteps := 1000000) [h1])
  (first | exact hR _ _ FrA | exact hR _ _ FnA | exact hR _ _ (Xf (hq := by simp [AV.erase, AV.unview, h1, inZ]; done)))
def usesA (x : Int) : Bool := decide (2 ≤ x ∧ x ≤ 17)
theorem Jth0 {P : Program} {p : Nums} (A : All P p) (x : Int) : Jt3w P p.ref05_UsesA [AI x] [] fun o _ => o = .ret (AB (usesA x)) := by
 refine A.ref05_UsesA.run rfl fun R hR => ?_
 (simp (maxSteps := 1000000) [Jtbg])
 ((first | refine Xc (fun hx => ?_) (fun hx => ?_) | refine Xo (fun hx => ?_) (fun hx => ?_)) <;> (try simp only [Xz, Xy] at hx))
 ·(simp (maxSteps := 1000000) [hx])
  (first | exact hR _ _ FrA | exact hR _ _ FnA | exact hR _ _ (Xf (hq := by simp [AV.erase, AV.unview, usesA, hx]; done)))
 ·(simp (maxSteps := 1000000) [hx])
  (first | exact hR _ _ FrA | exact hR _ _ FnA | exact hR _ _ (Xf (hq := by simp [AV.erase, AV.unview, usesA, hx]; done)))
def usesB (x : Int) : Bool := decide (5 ≤ x ∧ x ≤ 16)
theorem Jth1 {P : Program} {p : Nums} (A : All P p) (x : Int) : Jt3w P p.ref05_UsesB [AI x] [] fun o _ => o = .ret (AB (usesB x)) := by
 refine A.ref05_UsesB.run rfl fun R hR => ?_
 (simp (maxSteps := 1000000) [Jtbh])
 ((first | refine Xc (fun hx => ?_) (fun hx => ?_) | refine Xo (fun hx => ?_) (fun hx => ?_)) <;> (try simp only [Xz, Xy] at hx))
 ·(simp (maxSteps := 1000000) [hx])
  (first | exact hR _ _ FrA | exact hR _ _ FnA | exact hR _ _ (Xf (hq := by simp [AV.erase, AV.unview, usesB, hx]; done)))
 ·(simp (maxSteps := 1000000) [hx])
  (first | exact hR _ _ FrA | exact hR _ _ FnA | exact hR _ _ (Xf (hq := by simp [AV.erase, AV.unview, usesB, hx]; done)))
def usesD (x : Int) : Bool := decide (1 ≤ x ∧ x ≤ 16)
theorem Jth2 {P : Program} {p : Nums} (A : All P p) (x : Int) : Jt3w P p.ref05_UsesD [AI x] [] fun o _ => o = .ret (AB (usesD x)) := by
 refine A.ref05_UsesD.run rfl fun R hR => ?_
 (simp (maxSteps := 1000000) [Jtbi])
 ((first | refine Xc (fun hx => ?_) (fun hx => ?_) | refine Xo (fun hx => ?_) (fun hx => ?_)) <;> (try simp only [Xz, Xy] at hx))
 ·(simp (maxSteps := 1000000) [hx])
  (first | exact hR _ _ FrA | exact hR _ _ FnA | exact hR _ _ (Xf (hq := by simp [AV.erase, AV.unview, usesD, hx]; done)))
 ·(simp (maxSteps := 1000000) [hx])
  (first | exact hR _ _ FrA | exact hR _ _ FnA | exact hR _ _ (Xf (hq := by simp [AV.erase, AV.unview, usesD, hx]; done)))
end
structure Field where (value : Int) (used : Bool) (bound : Int)
def Field.row (f : Field) : List D := [I f.value, .bool f.used, I f.bound]
def Field.bad (f : Field) : Bool := f.used && (decide (f.value < 0) || decide (f.bound ≤ f.value))
section
end
structure Instr where (op d a b imm : Int)
 deriving DecidableEq, Inhabited
def Instr.row (i : Instr) : List D := [I i.op, I i.d, I i.a, I i.b, I i.imm]
def Instr.av (i : Instr) : AV := .agg [AI i.op, AI i.d, AI i.a, AI i.b, AI i.imm]
structure Term where (kind a to els : Int)
 deriving DecidableEq, Inhabited
def Term.row (i : Term) : List D := [I i.kind, I i.a, I i.to, I i.els]
def Term.av (i : Term) : AV := .agg [AI i.kind, AI i.a, AI i.to, AI i.els]
section
end
structure Block where (code : List Instr) (term : Term)
 deriving Inhabited
def Block.row (b : Block) : List D := [.sl (b.code.map Instr.row), I b.term.kind, I b.term.a, I b.term.to, I b.term.els]
def Block.av (b : Block) : AV := .agg [.d (.sl (b.code.map Instr.row)), AI b.term.kind, AI b.term.a, AI b.term.to, AI b.term.els]
structure Func where (args regs : Int) (blocks : List Block)
def Func.av (f : Func) : AV := .agg [AI f.args, AI f.regs, .d (.sl (f.blocks.map Block.row))]
def codeN (bs : List Block) : Nat := (bs.map fun b => b.code.length).sum
theorem Jt73 {bs : List Block} {k : Nat} {b : Block} (h : bs[k]? = some b) : codeN (bs.take (k + 1)) = codeN (bs.take k) + b.code.length := by
 rw [codeN, List.take_add_one, h]; simp [codeN]
theorem Jt71 (a b : List Block) : codeN (a ++ b) = codeN a + codeN b := by simp [codeN]
theorem Jt72 (bs : List Block) (k : Nat) : codeN (bs.take k) ≤ codeN bs := by
 have h := Jt71 (bs.take k) (bs.drop k)
 rw [List.take_append_drop] at h; omega
def Jt8m : List Int → Int
 | [] => 0
 | e :: es => if e ≠ 0 then e else Jt8m es
theorem Jt8q {es : List Int} {k : Nat} (h : ∀ e ∈ es.take k, e = 0) : Jt8m es = Jt8m (es.drop k) := by
 induction k generalizing es with
 | zero => rfl
 | succ k ih =>
  cases es with
  | nil => rfl
  | cons e es =>
   have : e = 0 := h e (by simp)
   simp only [Jt8m, this, ne_eq, not_true_eq_false, if_false, List.drop_succ_cons]
   exact ih fun x hx => h x (by simp [hx])
theorem Jt8p {es : List Int} {k : Nat} {e : Int} (h : ∀ e ∈ es.take k, e = 0) (hk : es[k]? = some e) (he : e ≠ 0) : Jt8m es = e := by
 rw [Jt8q h]
 have hlt := (List.getElem?_eq_some_iff.1 hk).1
 rw [List.drop_eq_getElem_cons hlt]
 have : es[k] = e := (List.getElem?_eq_some_iff.1 hk).2
 simp [Jt8m, this, he]
theorem Jt8n {es : List Int} (h : ∀ e ∈ es, e = 0) : Jt8m es = 0 := by
 rw [Jt8q (k := es.length) (by simpa using h)]; simp [Jt8m]
theorem take_zero {α : Type} {f : α → Int} {l : List α} {k : Nat} {x : α} (h : ∀ e ∈ (l.map f).take k, e = 0) (hx : l[k]? = some x) (h0 : f x = 0) : ∀ e ∈ (l.map f).take (k + 1), e = 0 := by
 intro e he
 rw [List.take_add_one, List.mem_append] at he
 rcases he with he | he
 ·exact h e he
 ·rw [List.getElem?_map, hx] at he; simp at he; rw [he]; exact h0
section
end
def bad9 (i : Instr) (regs : Int) : Bool := usesD i.op && !inZ i.d regs || usesA i.op && !inZ i.a regs || usesB i.op && !inZ i.b regs
def bad12 (i : Instr) : Bool := !usesD i.op && i.d != 0 || !usesA i.op && i.a != 0 || !usesB i.op && i.b != 0 || i.op != 1 && i.imm != 0
def Jtht (i : Instr) (regs : Int) : Int := if i.op < 1 ∨ 17 < i.op then 8 else if bad9 i regs = true then 9 else if bad12 i = true then 12 else 0
def Jthz (t : Term) (regs blocks : Int) : Int :=
 if t.kind = 1 then (if inZ t.to blocks = false then 11 else if t.a ≠ 0 ∨ t.els ≠ 0 then 12 else 0)
 else if t.kind = 2 then (if inZ t.a regs = false then 9 else if inZ t.to blocks = false ∨ inZ t.els blocks = false then 11 else 0)
 else if t.kind = 3 then (if inZ t.a regs = false then 9 else if t.to ≠ 0 ∨ t.els ≠ 0 then 12 else 0)
 else 16
section
theorem Jthb {P : Program} {p : Nums} (A : All P p) (t : Term) (regs blocks : Int) : Jt3w P p.ref07_Term [t.av, AI regs, AI blocks] [] fun o _ => o = .ret (AI (Jthz t regs blocks)) := by
 refine A.ref07_Term.run rfl fun R hR => ?_
 (simp (maxSteps := 1000000) [Jtbr, Term.av])
 repeat' (first | ((refine Jty (Jthc A _ _) (by rfl) (by rfl) ?_); (simp (maxSteps := 1000000) [])) | (((first | refine Xc (fun hbr => ?_) (fun hbr => ?_) | refine Xo (fun hbr => ?_) (fun hbr => ?_)) <;> (try simp only [Xz, Xy] at hbr)) <;> simp (maxSteps := 1000000) [hbr]) | ((first | refine hR _ _ (Jt40 _ rfl rfl ?_) | refine hR _ _ (Jt3x _ rfl rfl ?_)); clear hR; (try simp_all [AV.erase, AV.unview, Jthz])))
end
section
set_option maxHeartbeats 4000000 in
theorem Jtha {P : Program} {p : Nums} (A : All P p) (i : Instr) (regs : Int) : Jt3w P p.ref07_Instr [i.av, AI regs] [] fun o _ => o = .ret (AI (Jtht i regs)) := by
 refine A.ref07_Instr.run rfl fun R hR => ?_
 (simp (maxSteps := 1000000) [Jtbq, Instr.av])
 rw [Jeeu]
 refine Jte ⟨[(12, AB (decide (i.op < 1) || decide (17 < i.op))), (2, .ptr 0 0), (4, AI 0), (1, AI regs)], [.mem [AI i.op, AI i.d, AI i.a, AI i.b, AI i.imm]]⟩ (fun N hN => ?_) ?_
 ·(simp (maxSteps := 1000000) [])
  ((first | refine Xc (fun h => ?_) (fun h => ?_) | refine Xo (fun h => ?_) (fun h => ?_)) <;> (try simp only [Xz, Xy] at h))
  ·(simp (maxSteps := 1000000) [h])
   exact hN _ (by simp only [h]; (exact wkA))
  ·(simp (maxSteps := 1000000) [h])
   exact hN _ (by simp only [h]; (exact wkA))
 ((first | refine Xc (fun h1 => ?_) (fun h1 => ?_) | refine Xo (fun h1 => ?_) (fun h1 => ?_)) <;> (try simp only [Xz, Xy] at h1))
 ·(simp (maxSteps := 1000000) [h1])
  have e : Jtht i regs = 8 := by unfold Jtht; rw [if_pos h1]
  (first | exact hR _ _ FrA | exact hR _ _ FnA | exact hR _ _ (Xf (hq := by simp [AV.erase, AV.unview, e]; done)))
 (simp (maxSteps := 1000000) [h1])
 rw [Jeev]
 refine Jte ⟨[(46, AB (bad9 i regs)), (2, .ptr 0 0), (4, AI 0), (1, AI regs)], [.mem [AI i.op, AI i.d, AI i.a, AI i.b, AI i.imm]]⟩ (fun N hN => ?_) ?_
 ·(simp (maxSteps := 1000000) [])
  cases uD : usesD i.op <;> cases uA : usesA i.op <;> cases uB : usesB i.op <;> cases nD : inZ i.d regs <;> cases nA : inZ i.a regs <;> cases nB : inZ i.b regs <;>
   (repeat' (first | ((refine Jty (Jthc A _ _) (by rfl) (by rfl) ?_); (simp (maxSteps := 1000000) [nD, nA, nB])) | ((refine Jty (Jth0 A _) (by rfl) (by rfl) ?_); (simp (maxSteps := 1000000) [uA])) | ((refine Jty (Jth1 A _) (by rfl) (by rfl) ?_); (simp (maxSteps := 1000000) [uB])) | ((refine Jty (Jth2 A _) (by rfl) (by rfl) ?_); (simp (maxSteps := 1000000) [uD])))) <;>
   exact hN _ (by simp only [bad9, uD, uA, uB, nD, nA, nB]; (exact wkA))
 ((first | refine Xc (fun h2 => ?_) (fun h2 => ?_) | refine Xo (fun h2 => ?_) (fun h2 => ?_)) <;> (try simp only [Xz, Xy] at h2))
 ·(simp (maxSteps := 1000000) [h2])
  have e : Jtht i regs = 9 := by unfold Jtht; rw [if_neg (by simp at h1; omega), if_pos h2]
  (first | exact hR _ _ FrA | exact hR _ _ FnA | exact hR _ _ (Xf (hq := by simp [AV.erase, AV.unview, e]; done)))
 (simp (maxSteps := 1000000) [h2])
 rw [Jeew]
 refine Jte ⟨[(87, AB (bad12 i)), (2, .ptr 0 0), (4, AI 0), (1, AI regs)], [.mem [AI i.op, AI i.d, AI i.a, AI i.b, AI i.imm]]⟩ (fun N hN => ?_) ?_
 ·clear hR h1 h2
  (simp (maxSteps := 1000000) [])
  cases uD : usesD i.op <;> cases uA : usesA i.op <;> cases uB : usesB i.op <;>
   (repeat' (first | ((refine Jty (Jth0 A _) (by rfl) (by rfl) ?_); (simp (maxSteps := 1000000) [uA])) | ((refine Jty (Jth1 A _) (by rfl) (by rfl) ?_); (simp (maxSteps := 1000000) [uB])) | ((refine Jty (Jth2 A _) (by rfl) (by rfl) ?_); (simp (maxSteps := 1000000) [uD])) | (((first | refine Xc (fun hbr => ?_) (fun hbr => ?_) | refine Xo (fun hbr => ?_) (fun hbr => ?_)) <;> (try simp only [Xz, Xy] at hbr)) <;> simp (maxSteps := 1000000) [hbr]))) <;>
   (refine hN _ ?_; clear hN; cases hb : bad12 i) <;> (first | ((exact wkA); done) | (exfalso; simp_all [bad12]; done) | (simp_all [bad12]; (exact wkA); done) | (cases hi : (i.imm != 0) <;> first | ((exact wkA); done) | (simp only [*]; (exact wkA); done) | (exfalso; simp_all [bad12]; done)))
 ((first | refine Xc (fun h3 => ?_) (fun h3 => ?_) | refine Xo (fun h3 => ?_) (fun h3 => ?_)) <;> (try simp only [Xz, Xy] at h3))
 ·(simp (maxSteps := 1000000) [h3])
  have e : Jtht i regs = 12 := by unfold Jtht; rw [if_neg (by simp at h1; omega), if_neg (by simpa using h2), if_pos h3]
  (first | exact hR _ _ FrA | exact hR _ _ FnA | exact hR _ _ (Xf (hq := by simp [AV.erase, AV.unview, e]; done)))
 (simp (maxSteps := 1000000) [h3])
 have e : Jtht i regs = 0 := by unfold Jtht; rw [if_neg (by simp at h1; omega), if_neg (by simpa using h2), if_neg (by simpa using h3)]
 (first | exact hR _ _ FrA | exact hR _ _ FnA | exact hR _ _ (Xf (hq := by simp [AV.erase, AV.unview, e]; done)))
end
def few (f : Func) : Bool := decide (f.blocks.length ≤ 40) && decide (f.regs ≤ 60) && f.blocks.all (fun b => decide (b.code.length ≤ 100)) && decide (codeN f.blocks ≤ 300)
def Jthr (b : Block) (regs blocks : Int) : Int :=
 let e := Jt8m (b.code.map (Jtht · regs))
 if e ≠ 0 then e else Jthz b.term regs blocks
def Jths (f : Func) : Int :=
 if f.args < 0 ∨ f.regs < f.args then 9 else if 1048576 < f.regs then 6 else if f.blocks.length = 0 then 14 else if 1048576 < f.blocks.length ∨ 1048576 < codeN f.blocks then 6
 else Jt8m (f.blocks.map fun b => Jthr b f.regs f.blocks.length)
section
theorem Jth9 {P : Program} {p : Nums} (A : All P p) (f : Func) (h0 : f.blocks.length < 1000000000) (h1 : codeN f.blocks < 1000000000) : Jt3w P p.ref07_Code [f.av] [] fun o _ => o = .ret (AI (codeN f.blocks)) := by
 refine A.ref07_Code.run rfl fun R hR => ?_
 (simp (maxSteps := 1000000) [Jtbp, Func.av])
 refine Jtd (fun k : Nat => ⟨[(4, AI k), (1, .ptr 0 0), (3, AI (codeN (f.blocks.take k)))], [.mem [AI f.args, AI f.regs, .d (.sl (f.blocks.map Block.row))]]⟩) (fun k => k ≤ f.blocks.length) (fun k => f.blocks.length - k) 0 (by simp) (by (exact wkA)) ?_
 intro k hk N hN
 (simp (maxSteps := 1000000) [])
 ((first | refine Xc (fun h2 => ?_) (fun h2 => ?_) | refine Xo (fun h2 => ?_) (fun h2 => ?_)) <;> (try simp only [Xz, Xy] at h2))
 ·have hkl : k < f.blocks.length := by simpa using h2
  have hb : f.blocks[k]? = some f.blocks[k] := by simp [hkl]
  have hw := Jtmv (k := k) (by omega)
  have hs := Jt73 hb
  have hle := Jt72 f.blocks (k + 1)
  have hw2 := Jtmu (a := codeN (f.blocks.take k)) (b := f.blocks[k].code.length) (by omega)
  rw [← hs] at hw2
  (simp (maxSteps := 1000000) [h2, List.getElem?_map, hb, Block.row, hw, hw2])
  exact hN _ (k + 1) hkl (by (exact wkA)) (by omega)
 ·have hk' : k = f.blocks.length := by simp at h2; omega
  subst hk'
  (simp (maxSteps := 1000000) [])
  (first | exact hR _ _ FrA | exact hR _ _ FnA | exact hR _ _ (Xf (hq := by simp [AV.erase, AV.unview, List.take_length]; done)))
theorem Jth8 {P : Program} {p : Nums} (A : All P p) (f : Func) (h0 : f.blocks.length < 1000000000) (h1 : codeN f.blocks < 1000000000) : Jt3w P p.ref07_Check [f.av] [] fun o _ => o = .ret (AI (Jths f)) := by
 refine A.ref07_Check.run rfl fun R hR => ?_
 (simp (maxSteps := 1000000) [Jtbo, Func.av])
 ((first | refine Xc (fun a1 => ?_) (fun a1 => ?_) | refine Xo (fun a1 => ?_) (fun a1 => ?_)) <;> (try simp only [Xz, Xy] at a1))
 ·(simp (maxSteps := 1000000) [a1])
  have e : Jths f = 9 := by unfold Jths; repeat (first | rw [if_pos (by omega)] | rw [if_neg (by omega)])
  (first | exact hR _ _ FrA | exact hR _ _ FnA | exact hR _ _ (Xf (hq := by simp [AV.erase, AV.unview, e]; done)))
 (simp (maxSteps := 1000000) [a1])
 ((first | refine Xc (fun a2 => ?_) (fun a2 => ?_) | refine Xo (fun a2 => ?_) (fun a2 => ?_)) <;> (try simp only [Xz, Xy] at a2))
 ·(simp (maxSteps := 1000000) [a2])
  have e : Jths f = 9 := by unfold Jths; repeat (first | rw [if_pos (by omega)] | rw [if_neg (by omega)])
  (first | exact hR _ _ FrA | exact hR _ _ FnA | exact hR _ _ (Xf (hq := by simp [AV.erase, AV.unview, e]; done)))
 (simp (maxSteps := 1000000) [a2])
 ((first | refine Xc (fun a3 => ?_) (fun a3 => ?_) | refine Xo (fun a3 => ?_) (fun a3 => ?_)) <;> (try simp only [Xz, Xy] at a3))
 ·(simp (maxSteps := 1000000) [a3])
  have e : Jths f = 6 := by unfold Jths; repeat (first | rw [if_pos (by omega)] | rw [if_neg (by omega)])
  (first | exact hR _ _ FrA | exact hR _ _ FnA | exact hR _ _ (Xf (hq := by simp [AV.erase, AV.unview, e]; done)))
 (simp (maxSteps := 1000000) [a3])
 ((first | refine Xc (fun a4 => ?_) (fun a4 => ?_) | refine Xo (fun a4 => ?_) (fun a4 => ?_)) <;> (try simp only [Xz, Xy] at a4))
 ·(simp (maxSteps := 1000000) [a4])
  have e : Jths f = 14 := by unfold Jths; repeat (first | rw [if_pos (by omega)] | rw [if_neg (by omega)])
  (first | exact hR _ _ FrA | exact hR _ _ FnA | exact hR _ _ (Xf (hq := by simp [AV.erase, AV.unview, e]; done)))
 (simp (maxSteps := 1000000) [a4])
 ((first | refine Xc (fun a5 => ?_) (fun a5 => ?_) | refine Xo (fun a5 => ?_) (fun a5 => ?_)) <;> (try simp only [Xz, Xy] at a5))
 ·(simp (maxSteps := 1000000) [a5])
  have e : Jths f = 6 := by unfold Jths; repeat (first | rw [if_pos (by omega)] | rw [if_neg (by omega)])
  (first | exact hR _ _ FrA | exact hR _ _ FnA | exact hR _ _ (Xf (hq := by simp [AV.erase, AV.unview, e]; done)))
 (simp (maxSteps := 1000000) [a5])
 (refine Jty (Jth9 A f h0 h1) (by rfl) (by rfl) ?_)
 (simp (maxSteps := 1000000) [])
 ((first | refine Xc (fun a6 => ?_) (fun a6 => ?_) | refine Xo (fun a6 => ?_) (fun a6 => ?_)) <;> (try simp only [Xz, Xy] at a6))
 ·(simp (maxSteps := 1000000) [a6])
  have e : Jths f = 6 := by unfold Jths; repeat (first | rw [if_pos (by omega)] | rw [if_neg (by omega)])
  (first | exact hR _ _ FrA | exact hR _ _ FnA | exact hR _ _ (Xf (hq := by simp [AV.erase, AV.unview, e]; done)))
 (simp (maxSteps := 1000000) [a6])
 have e : Jths f = Jt8m (f.blocks.map fun b => Jthr b f.regs f.blocks.length) := by
  unfold Jths; repeat (first | rw [if_pos (by omega)] | rw [if_neg (by omega)])
 refine Jtd (fun k : Nat => ⟨[(3, AI k), (2, AI 0), (1, .ptr 0 0)], [.mem [AI f.args, AI f.regs, .d (.sl (f.blocks.map Block.row))]]⟩)
  (fun k => k ≤ f.blocks.length ∧ ∀ e ∈ (f.blocks.map fun b => Jthr b f.regs f.blocks.length).take k, e = 0) (fun k => f.blocks.length - k) 0 (by simp) (by (exact wkA)) ?_
 rintro k ⟨hk, hz⟩ N hN
 (simp (maxSteps := 1000000) [])
 ((first | refine Xc (fun h2 => ?_) (fun h2 => ?_) | refine Xo (fun h2 => ?_) (fun h2 => ?_)) <;> (try simp only [Xz, Xy] at h2))
 ·have hkl : k < f.blocks.length := by simpa using h2
  have hb : f.blocks[k]? = some f.blocks[k] := by simp [hkl]
  have hw := Jtmv (k := k) (by omega)
  have hbl : f.blocks[k].code.length < 1000000000 := by
   have h3 := Jt73 hb
   have h4 := Jt72 f.blocks (k + 1)
   omega
  (simp (maxSteps := 1000000) [h2, hb, Block.row])
  refine Jtd (fun j : Nat => ⟨[(5, AI j), (4, .ptr 1 0), (3, AI k), (2, AI 0), (1, .ptr 0 0)], [.mem [AI f.args, AI f.regs, .d (.sl (f.blocks.map Block.row))], .mem [.d (.sl (f.blocks[k].code.map Instr.row)), AI f.blocks[k].term.kind, AI f.blocks[k].term.a, AI f.blocks[k].term.to, AI f.blocks[k].term.els]]⟩)
   (fun j => j ≤ f.blocks[k].code.length ∧ ∀ e ∈ (f.blocks[k].code.map (Jtht · f.regs)).take j, e = 0) (fun j => f.blocks[k].code.length - j) 0 (by simp) (by (exact wkA)) ?_
  rintro j ⟨hj, hy⟩ N' hN'
  (simp (maxSteps := 1000000) [])
  ((first | refine Xc (fun h3 => ?_) (fun h3 => ?_) | refine Xo (fun h3 => ?_) (fun h3 => ?_)) <;> (try simp only [Xz, Xy] at h3))
  ·have hjl : j < f.blocks[k].code.length := by simpa using h3
   have hbj : f.blocks[k].code[j]? = some f.blocks[k].code[j] := by simp [hjl]
   have hwj := Jtmv (k := j) (by omega)
   (simp (maxSteps := 1000000) [h3, hbj, Instr.row])
   (refine Jty (Jtha A f.blocks[k].code[j] f.regs) (by rfl) (by rfl) ?_)
   (simp (maxSteps := 1000000) [])
   ((first | refine Xc (fun h4 => ?_) (fun h4 => ?_) | refine Xo (fun h4 => ?_) (fun h4 => ?_)) <;> (try simp only [Xz, Xy] at h4))
   ·(simp (maxSteps := 1000000) [h4])
    have e2 : Jt8m (f.blocks[k].code.map (Jtht · f.regs)) = Jtht f.blocks[k].code[j] f.regs := Jt8p hy (by simp [hjl]) h4
    have e3 : Jthr f.blocks[k] f.regs f.blocks.length = Jtht f.blocks[k].code[j] f.regs := by simp [Jthr, e2, h4]
    have e4 : Jt8m (f.blocks.map fun b => Jthr b f.regs f.blocks.length) = Jthr f.blocks[k] f.regs f.blocks.length := Jt8p hz (by simp [hkl]) (by rw [e3]; exact h4)
    (first | exact hR _ _ FrA | exact hR _ _ FnA | exact hR _ _ (Xf (hq := by simp [AV.erase, AV.unview, e, e4, e3]; done)))
   ·(simp (maxSteps := 1000000) [h4, hwj])
    exact hN' _ (j + 1) ⟨hjl, take_zero hy hbj (by simpa using h4)⟩ (by (exact wkA)) (by omega)
  ·have hj' : j = f.blocks[k].code.length := by simp at h3; omega
   subst hj'
   have hfe : Jt8m (f.blocks[k].code.map (Jtht · f.regs)) = 0 := Jt8n (by rw [List.take_of_length_le (by simp)] at hy; exact hy)
   have e3 : Jthr f.blocks[k] f.regs f.blocks.length = Jthz f.blocks[k].term f.regs f.blocks.length := by simp [Jthr, hfe]
   (simp (maxSteps := 1000000) [])
   (refine Jty (Jthb A f.blocks[k].term f.regs f.blocks.length) (by rfl) (by rfl) ?_)
   (simp (maxSteps := 1000000) [])
   ((first | refine Xc (fun h5 => ?_) (fun h5 => ?_) | refine Xo (fun h5 => ?_) (fun h5 => ?_)) <;> (try simp only [Xz, Xy] at h5))
   ·(simp (maxSteps := 1000000) [h5])
    have e4 : Jt8m (f.blocks.map fun b => Jthr b f.regs f.blocks.length) = Jthr f.blocks[k] f.regs f.blocks.length := Jt8p hz (by simp [hkl]) (by rw [e3]; exact h5)
    (first | exact hR _ _ FrA | exact hR _ _ FnA | exact hR _ _ (Xf (hq := by simp [AV.erase, AV.unview, e, e4, e3]; done)))
   ·(simp (maxSteps := 1000000) [h5, hw])
    exact hN _ (k + 1) ⟨hkl, take_zero hz hb (by rw [e3]; simpa using h5)⟩ (by (exact wkA)) (by omega)
 ·have hk' : k = f.blocks.length := by simp at h2; omega
  subst hk'
  have hfe : Jt8m (f.blocks.map fun b => Jthr b f.regs f.blocks.length) = 0 := Jt8n (by rw [List.take_of_length_le (by simp)] at hz; exact hz)
  (simp (maxSteps := 1000000) [])
  (first | exact hR _ _ FrA | exact hR _ _ FnA | exact hR _ _ (Xf (hq := by simp [AV.erase, AV.unview, e, hfe]; done)))
end
structure MBlock where (code : List Mach) (term : Term)
 deriving Inhabited
def MBlock.row (b : MBlock) : List D := [.sl (b.code.map Mach.row), I b.term.kind, I b.term.a, I b.term.to, I b.term.els]
def MBlock.av (b : MBlock) : AV := .agg [.d (.sl (b.code.map Mach.row)), AI b.term.kind, AI b.term.a, AI b.term.to, AI b.term.els]
structure MFunc where (args regs slots : Int) (blocks : List MBlock)
def MFunc.av (f : MFunc) : AV := .agg [AI f.args, AI f.regs, AI f.slots, .d (.sl (f.blocks.map MBlock.row))]
def witD (w : List (List Pair)) : D := .sl (w.map fun l => [pairsD l])
structure Cert where (S : Func) (T : MFunc) (W : List (List Pair))
def Cert.av (c : Cert) : AV := .agg [AI c.S.args, AI c.S.regs, .d (.sl (c.S.blocks.map Block.row)), AI c.T.args, AI c.T.regs, AI c.T.slots, .d (.sl (c.T.blocks.map MBlock.row)), .d (witD c.W)]
section
end
def opM (i : Instr) (b : Int) : Mach := ⟨i.op, 0, 0, b, i.imm, 0, 0⟩
def Jtke (i : Instr) : List Mach :=
  (if (shapeZ i.op).A = true then [mvM (regZ 0) (slotZ i.a)] else []) ++
  ((if (i.op != 2) = true then (if (shapeZ i.op).B = true then [mvM (regZ 1) (slotZ i.b), opM i 1] else [opM i 0]) else []) ++
   (if (shapeZ i.op).D = true then [mvM (slotZ i.d) (regZ 0)] else []))
def spCode (l : List Instr) : List Mach := l.flatMap Jtke
section
end
section
end
def mcodeN (bs : List MBlock) : Nat := (bs.map fun b => b.code.length).sum
theorem Jtem {bs : List MBlock} {k : Nat} {b : MBlock} (h : bs[k]? = some b) : mcodeN (bs.take (k + 1)) = mcodeN (bs.take k) + b.code.length := by
 rw [mcodeN, List.take_add_one, h]; simp [mcodeN]
theorem Jtek (a b : List MBlock) : mcodeN (a ++ b) = mcodeN a + mcodeN b := by simp [mcodeN]
theorem Jtel (bs : List MBlock) (k : Nat) : mcodeN (bs.take k) ≤ mcodeN bs := by
 have h := Jtek (bs.take k) (bs.drop k)
 rw [List.take_append_drop] at h; omega
def mostN (l : List Nat) : Nat := l.foldl max 0
theorem Jt8o {es : List Int} (h : Jt8m es = 0) : ∀ e ∈ es, e = 0 := by
 induction es with
 | nil => intro e he; simp at he
 | cons e es ih =>
  simp only [Jt8m] at h
  intro x hx
  split at h
  ·exact absurd h ‹_›
  ·rcases List.mem_cons.1 hx with rfl | hx
   ·simp_all
   ·exact ih h x hx
section
end
def lead : List Mach → Nat
 | [] => 0
 | m :: l => if (m.op == 18) = true then lead l + 1 else 0
def Jthx (l : List Mach) : Nat := mostN ((List.range l.length).map fun i => lead (l.drop i))
theorem Jtdd (l : List Mach) : lead l ≤ l.length := by
 induction l with
 | nil => simp [lead]
 | cons m l ih => simp only [lead, List.length_cons]; split <;> omega
theorem Jtdc {l : List Mach} {i : Nat} {m : Mach} (h : l[i]? = some m) : lead (l.drop i) = if (m.op == 18) = true then lead (l.drop (i + 1)) + 1 else 0 := by
 have hlt := (List.getElem?_eq_some_iff.1 h).1
 rw [List.drop_eq_getElem_cons hlt, (List.getElem?_eq_some_iff.1 h).2]; rfl
def mxAt (l : List Mach) (k : Nat) : Nat := mostN ((List.range k).map fun i => lead (l.drop i))
theorem Jtfc (l : List Mach) (k : Nat) : mxAt l (k + 1) = max (mxAt l k) (lead (l.drop k)) := by
 simp [mxAt, mostN, List.range_succ]
section
theorem Jthe {P : Program} {p : Nums} (A : All P p) (f : MFunc) (h0 : f.blocks.length < 1000000000) (h1 : mcodeN f.blocks < 1000000000) : Jt3w P p.ref08_Code [f.av] [] fun o _ => o = .ret (AI (mcodeN f.blocks)) := by
 refine A.ref08_Code.run rfl fun R hR => ?_
 (simp (maxSteps := 1000000) [Jtbu, MFunc.av])
 refine Jtd (fun k : Nat => ⟨[(4, AI k), (1, .ptr 0 0), (3, AI (mcodeN (f.blocks.take k)))], [.mem [AI f.args, AI f.regs, AI f.slots, .d (.sl (f.blocks.map MBlock.row))]]⟩) (fun k => k ≤ f.blocks.length) (fun k => f.blocks.length - k) 0 (by simp) (by (exact wkA)) ?_
 intro k hk N hN
 (simp (maxSteps := 1000000) [])
 ((first | refine Xc (fun h2 => ?_) (fun h2 => ?_) | refine Xo (fun h2 => ?_) (fun h2 => ?_)) <;> (try simp only [Xz, Xy] at h2))
 ·have hkl : k < f.blocks.length := by simpa using h2
  have hb : f.blocks[k]? = some f.blocks[k] := by simp [hkl]
  have hw := Jtmv (k := k) (by omega)
  have hs := Jtem hb
  have hle := Jtel f.blocks (k + 1)
  have hw2 := Jtmu (a := mcodeN (f.blocks.take k)) (b := f.blocks[k].code.length) (by omega)
  rw [← hs] at hw2
  (simp (maxSteps := 1000000) [h2, List.getElem?_map, hb, MBlock.row, hw, hw2])
  exact hN _ (k + 1) hkl (by (exact wkA)) (by omega)
 ·have hk' : k = f.blocks.length := by simp at h2; omega
  subst hk'
  (simp (maxSteps := 1000000) [])
  (first | exact hR _ _ FrA | exact hR _ _ FnA | exact hR _ _ (Xf (hq := by simp [AV.erase, AV.unview, List.take_length]; done)))
theorem Jthg {P : Program} {p : Nums} (A : All P p) (l : List Mach) (h0 : l.length < 1000000000) : Jt3w P p.ref08_Moves [.d (.sl (l.map Mach.row))] [] fun o _ => o = .ret (AI (Jthx l)) := by
 refine A.ref08_Moves.run rfl fun R hR => ?_
 (simp (maxSteps := 1000000) [Jtbw])
 refine Jtd (fun k : Nat => ⟨[(4, AI k), (3, AI (mxAt l k)), (2, AI 0), (0, .d (.sl (l.map Mach.row)))], []⟩) (fun k => k ≤ l.length) (fun k => l.length - k) 0 (by simp) (by (exact wkA)) ?_
 intro k hk N hN
 (simp (maxSteps := 1000000) [])
 ((first | refine Xc (fun h2 => ?_) (fun h2 => ?_) | refine Xo (fun h2 => ?_) (fun h2 => ?_)) <;> (try simp only [Xz, Xy] at h2))
 ·have hkl : k < l.length := by simpa using h2
  have hw := Jtmv (k := k) (by omega)
  (simp (maxSteps := 1000000) [h2])
  refine Jtd (fun n : Nat => ⟨[(5, AI n), (4, AI k), (3, AI (mxAt l k)), (2, AI 0), (0, .d (.sl (l.map Mach.row)))], []⟩)
   (fun n => k + n ≤ l.length ∧ lead (l.drop k) = n + lead (l.drop (k + n))) (fun n => l.length - n) 0 (by simp; omega) (by (exact wkA)) ?_
  rintro n ⟨hn, hld⟩ N' hN'
  have hw2 := Jtmu (a := k) (b := n) (by omega)
  have hw3 := Jtmv (k := n) (by omega)
  have hms := Jtfc l k
  (simp (maxSteps := 1000000) [hw2])
  have hnn : (0 : Int) ≤ (k : Int) + n := by omega
  have htn : ((k : Int) + n).toNat = k + n := by omega
  ((first | refine Xc (fun h3 => ?_) (fun h3 => ?_) | refine Xo (fun h3 => ?_) (fun h3 => ?_)) <;> (try simp only [Xz, Xy] at h3))
  ·have hkn : k + n < l.length := by omega
   have hb : l[k + n]? = some l[k + n] := by simp [hkn]
   have hla := Jtdc hb
   (simp (maxSteps := 1000000) [h3, hw2, hnn, htn, hb, Mach.row, hkn])
   ((first | refine Xc (fun h4 => ?_) (fun h4 => ?_) | refine Xo (fun h4 => ?_) (fun h4 => ?_)) <;> (try simp only [Xz, Xy] at h4))
   ·(simp (maxSteps := 1000000) [h4, hw3])
    rw [if_pos (by simp [h4])] at hla
    exact hN' _ (n + 1) ⟨hkn, by rw [hld, hla, Nat.add_assoc]; omega⟩ (by (exact wkA)) (by omega)
   ·(simp (maxSteps := 1000000) [h4])
    rw [if_neg (by simp [h4])] at hla
    ((first | refine Xc (fun h5 => ?_) (fun h5 => ?_) | refine Xo (fun h5 => ?_) (fun h5 => ?_)) <;> (try simp only [Xz, Xy] at h5))
    ·(simp (maxSteps := 1000000) [h5, hw])
     exact hN _ (k + 1) hkl (by rw [hms, hld, hla, show max (mxAt l k) (n + 0) = n by omega]; (exact wkA)) (by omega)
    ·(simp (maxSteps := 1000000) [h5, hw])
     exact hN _ (k + 1) hkl (by rw [hms, hld, hla, show max (mxAt l k) (n + 0) = mxAt l k by omega]; (exact wkA)) (by omega)
  ·have hla : lead (l.drop (k + n)) = 0 := by rw [List.drop_of_length_le (by omega)]; rfl
   (simp (maxSteps := 1000000) [h3])
   ((first | refine Xc (fun h5 => ?_) (fun h5 => ?_) | refine Xo (fun h5 => ?_) (fun h5 => ?_)) <;> (try simp only [Xz, Xy] at h5))
   ·(simp (maxSteps := 1000000) [h5, hw])
    exact hN _ (k + 1) hkl (by rw [hms, hld, hla, show max (mxAt l k) (n + 0) = n by omega]; (exact wkA)) (by omega)
   ·(simp (maxSteps := 1000000) [h5, hw])
    exact hN _ (k + 1) hkl (by rw [hms, hld, hla, show max (mxAt l k) (n + 0) = mxAt l k by omega]; (exact wkA)) (by omega)
 ·have hk' : k = l.length := by simp at h2; omega
  subst hk'
  (simp (maxSteps := 1000000) [])
  (first | exact hR _ _ FrA | exact hR _ _ FnA | exact hR _ _ (Xf (hq := by simp [AV.erase, AV.unview, Jthx, mxAt]; done)))
end
theorem Jtfi {α : Type} [DecidableEq α] : ∀ {l m : List α}, l.Nodup → (∀ x ∈ l, x ∈ m) → l.length ≤ m.length := by
 intro l
 induction l with
 | nil => intro m _ _; simp
 | cons x l ih =>
  intro m hn hs
  rw [List.nodup_cons] at hn
  have hx := hs x (by simp)
  have := ih (m := m.erase x) hn.2 fun y hy => (List.mem_erase_of_ne (by rintro rfl; exact hn.1 hy)).2 (hs y (by simp [hy]))
  rw [List.length_erase_of_mem hx] at this
  have := List.length_pos_of_mem hx
  simp only [List.length_cons]; omega
def prodP (V L : List Int) : List Pair := V.flatMap fun v => L.map fun l => (⟨v, l⟩ : Pair)
theorem Jtgr (V L : List Int) : (prodP V L).length = V.length * L.length := by
 unfold prodP
 induction V with
 | nil => simp
 | cons v V ih => simp only [List.flatMap_cons, List.length_append, List.length_map, List.length_cons, ih, Nat.add_mul]; omega
theorem Jteu {V L : List Int} {q : Pair} : q ∈ prodP V L ↔ q.v ∈ V ∧ q.l ∈ L := by
 unfold prodP
 simp only [List.mem_flatMap, List.mem_map]
 constructor
 ·rintro ⟨v, hv, l, hl, rfl⟩; exact ⟨hv, hl⟩
 ·rintro ⟨hv, hl⟩; exact ⟨q.v, hv, q.l, hl, rfl⟩
structure Over (V L : List Int) (l : List Pair) : Prop where
 srt : Srt l
 mem : ∀ q ∈ l, q.v ∈ V ∧ q.l ∈ L
theorem Over.len {V L : List Int} {l : List Pair} (h : Over V L l) : l.length ≤ V.length * L.length := by
 rw [← Jtgr]
 exact Jtfi (Jtks h.srt) fun q hq => Jteu.2 (h.mem q hq)
theorem Over.copy {V L : List Int} {l : List Pair} (h : Over V L l) {d a : Int} (hd : d ∈ V) : Over V L (copyP l d a) := by
 refine ⟨Jtkk h.srt, fun q hq => ?_⟩
 rcases Jteo.1 hq with ⟨h1, _⟩ | ⟨h1, h2⟩
 ·exact h.mem q h1
 ·exact ⟨by rw [h1]; exact hd, (h.mem _ h2).2⟩
theorem Over.move {V L : List Int} {l : List Pair} (h : Over V L l) {d a : Int} (hd : d ∈ L) : Over V L (moveP l d a) := by
 refine ⟨Jtkr h.srt, fun q hq => ?_⟩
 rcases Jtes.1 hq with ⟨h1, _⟩ | ⟨h1, h2⟩
 ·exact h.mem q h1
 ·exact ⟨(h.mem _ h2).1, by rw [h1]; exact hd⟩
theorem Over.define {V L : List Int} {l : List Pair} (h : Over V L l) {d t : Int} (hd : d ∈ V) (ht : t ∈ L) : Over V L (defP l d t) := by
 refine ⟨Jtkl h.srt, fun q hq => ?_⟩
 rcases Jtep.1 hq with rfl | ⟨h1, _⟩
 ·exact ⟨hd, ht⟩
 ·exact h.mem q h1
structure CS where (set : List Pair) (steps largest : Nat)
abbrev CR := CS × Option (Int × Int)
def costC (s : CS) : CS := ⟨s.set, s.steps + 1 + s.set.length, s.largest⟩
def Jt5o (most : Int) (s : CS) (l : List Pair) (at_ : Int) : CR := (⟨l, s.steps, max s.largest l.length⟩, if (l.length : Int) > most then some (24, at_) else none)
def useC (s : CS) (v t at_ : Int) : CR := (costC s, if (⟨v, t⟩ : Pair) ∈ s.set then none else some (21, at_))
def thenC (r : CR) (f : CS → CR) : CR := match r.2 with
 | none => f r.1
 | some e => (r.1, some e)
theorem Jtlt {s : CS} {f : CS → CR} : thenC (s, none) f = f s := rfl
theorem Jtlu {s : CS} {e : Int × Int} {f : CS → CR} : thenC (s, some e) f = (s, some e) := rfl
structure Room (V L : List Int) (s : CS) (n : Nat) : Prop where
 over : Over V L s.set
 few : V.length * L.length < 100000
 steps : s.steps + 100001 * n < 1000000000000000000
 lg : s.largest < 100000
theorem Room.len {V L : List Int} {s : CS} {n : Nat} (h : Room V L s n) : s.set.length < 100000 := Nat.lt_of_le_of_lt h.over.len h.few
theorem Room.mono {V L : List Int} {s : CS} {n m : Nat} (h : Room V L s n) (hm : m ≤ n) : Room V L s m := ⟨h.over, h.few, by have := h.steps; omega, h.lg⟩
theorem Room.cost {V L : List Int} {s : CS} {n : Nat} (h : Room V L s (n + 1)) : Room V L (costC s) n :=
 ⟨h.over, h.few, by have := h.steps; have := h.len; simp only [costC]; omega, h.lg⟩
theorem Room.become {V L : List Int} {s : CS} {n : Nat} (h : Room V L s n) {l : List Pair} (hl : Over V L l) (most at_ : Int) : Room V L (Jt5o most s l at_).1 n := by
 refine ⟨hl, h.few, h.steps, ?_⟩
 have := h.lg
 have := Nat.lt_of_le_of_lt hl.len h.few
 simp only [Jt5o]; omega
theorem Room.use {V L : List Int} {s : CS} {n : Nat} (h : Room V L s (n + 1)) (v t at_ : Int) : Room V L (useC s v t at_).1 n := h.cost
section
variable {P : Program} {m : Nat} {Q : AExit → ASt → Prop} {st : ASt} {K : ASt → Prop} {QP : AV → ASt → Prop} {dst : Option Nat}
theorem Jt11 (bs : List Nat) {f : Nat} {args cargs : List AV} {Hp Hc Hc' Hb : List Blk} {x y : AV} (h : Jt3w P f cargs Hc fun o H' => o = .pan x ∧ H' = Hc')
  (hnd : bs.Nodup) (ha : renL (idx bs) args = some cargs) (hp : picks st.H bs = some Hp) (hc : renB (idx bs) Hp = some Hc) (hb : renB (back bs st.H.length 0) Hc' = some Hb)
  (hl : Hc'.length = bs.length) (hx : x.ren (back bs st.H.length 0) = some y) (hK : QP y ⟨unview st.env, wback st.H bs Hb⟩) : AWcall P false f args dst K QP st := by
 refine .inr ⟨rfl, .inr ⟨bs, hnd, cargs, Hp, Hc, ha, hp, hc, h.mono ?_⟩⟩
 rintro o H' ⟨rfl, he⟩
 subst he
 have ht : H'.take (bs.length + 0) = H' := by rw [Nat.add_zero, ← hl, List.take_length]
 refine ⟨0, Hb, y, by rw [ht]; exact hb, by omega, hx, ?_⟩
 have e : Hb.length = bs.length := by rw [Jtia hb, hl]
 rw [← e, List.take_length, List.drop_length, List.append_nil]
 exact hK
theorem Jt3z {rs : List RV} {m : Nat} {Q : AOut → List Blk → Prop} {st : ASt} (x x' : AV) (H' : List Blk) (hw : Wk m ⟨[(0, x.erase)], st.H⟩ ⟨[(0, x')], H'⟩) (hq : Q (.pan x') H') : Fin rs m Q (.panic x) st := ⟨x', H', hw, hq⟩
attribute [simp] panEnd
end
def failV (p : Nums) (e : Int × Int) : AV := .iface p.ty_bcfail (.agg [AI e.1, AI e.2])
def outR (p : Nums) : Option (Int × Int) → AOut
 | none => .ret (.tup [])
 | some e => .pan (failV p e)
def ckB (most : Int) (s : CS) : Blk := .mem [.d (pairsD s.set), AI most, AI s.steps, AI s.largest]
theorem wrapN {n : Nat} (h : n < 4611686018427387904) : IntKind.i64.wrap (n : Int) = (n : Int) := by
 have := Jtmu (a := n) (b := 0) (by omega); simpa using this
section
theorem Jt5w {P : Program} {p : Nums} (A : All P p) (s : CS) (most : Int) (h0 : s.set.length < 100000) (h1 : s.steps < 1000000000000000000) : Jt3w P p.blockcheck_checker_cost [.ptr 0 0] [ckB most s] fun o H' => o = .ret (.tup []) ∧ H' = [ckB most (costC s)] := by
 refine A.blockcheck_checker_cost.run rfl fun R hR => ?_
 obtain ⟨l, n, g⟩ := s
 have e1 : IntKind.i64.wrap (1 + (l.length : Int)) = 1 + (l.length : Int) := by have := wrapN (n := 1 + l.length) (by simp at h0; omega); simpa using this
 have e2 : IntKind.i64.wrap ((n : Int) + (1 + (l.length : Int))) = (n : Int) + (1 + (l.length : Int)) := by have := wrapN (n := n + (1 + l.length)) (by simp at h0 h1; omega); simpa using this
 have e3 : ((n + 1 + l.length : Nat) : Int) = (n : Int) + (1 + (l.length : Int)) := by omega
 (simp (maxSteps := 1000000) [Jtar, ckB, pairsD, e1, e2])
 exact hR _ _ (Fin_wk (.tup []) (.tup []) [.mem [.d (pairsD l), AI most, AI ((n : Int) + (1 + (l.length : Int))), AI g]] rfl (by simp only [pairsD]; (exact wkA)) ⟨rfl, by simp only [ckB, costC, e3]⟩)
theorem Jt5v {P : Program} {p : Nums} (A : All P p) (s : CS) (most : Int) (l : List Pair) (at_ : Int) (h0 : l.length < 100000) (h1 : s.largest < 1000000000000000000) :
  Jt3w P p.blockcheck_checker_become [.ptr 0 0, .d (pairsD l), AI at_] [ckB most s] fun o H' => o = outR p (Jt5o most s l at_).2 ∧ H' = [ckB most (Jt5o most s l at_).1] := by
 refine A.blockcheck_checker_become.run rfl fun R hR => ?_
 obtain ⟨u, n, g⟩ := s
 obtain ⟨mx, hmx⟩ : ∃ mx, mx = max g l.length := ⟨_, rfl⟩
 have e1 : (if g < l.length then (l.length : Int) else (g : Int)) = (mx : Int) := by split <;> omega
 (simp (maxSteps := 1000000) [Jtaq, ckB, pairsD, e1])
 ((first | refine Xc (fun h2 => ?_) (fun h2 => ?_) | refine Xo (fun h2 => ?_) (fun h2 => ?_)) <;> (try simp only [Xz, Xy] at h2))
 ·(simp (maxSteps := 1000000) [h2])
  refine hR _ _ (Jt3z _ (failV p (24, at_)) [.mem [.d (pairsD l), AI most, AI n, AI mx]] (by simp only [pairsD, failV]; (exact wkA)) ⟨?_, by simp only [ckB, Jt5o, hmx]⟩)
  simp [outR, Jt5o, h2]
 ·(simp (maxSteps := 1000000) [h2])
  refine hR _ _ (Fin_wk (.tup []) (.tup []) [.mem [.d (pairsD l), AI most, AI n, AI mx]] rfl (by simp only [pairsD]; (exact wkA)) ⟨?_, by simp only [ckB, Jt5o, hmx]⟩)
  simp [outR, Jt5o, h2]
end
def instrC (most : Int) (s : CS) (i : Instr) (m : Mach) (at_ : Int) : CR :=
 thenC (if usesA i.op = true then useC s i.a (regZ m.a) at_ else (s, none)) fun s =>
  thenC (if usesB i.op = true then useC s i.b (regZ m.b) at_ else (s, none)) fun s =>
   if usesD i.op = true then Jt5o most (costC s) (defP s.set i.d (regZ m.d)) at_ else (s, none)
theorem Jtjp (x : Int) : (shapeZ x).D = usesD x := by
 unfold shapeZ usesD knownZ
 by_cases h1 : 1 ≤ x ∧ x ≤ 18
 ·by_cases h2 : x = 1
  ·subst h2; decide
  ·by_cases h3 : x ≤ 4
   ·simp [h1, h2, h3]; omega
   ·by_cases h4 : x ≤ 16
    ·simp [h1, h2, h3, h4]
    ·simp [h1, h2, h3, h4]
 ·simp [h1]; omega
theorem Jtjn (x : Int) : (shapeZ x).A = usesA x := by
 unfold shapeZ usesA knownZ
 by_cases h1 : 1 ≤ x ∧ x ≤ 18
 ·by_cases h2 : x = 1
  ·subst h2; decide
  ·by_cases h3 : x ≤ 4
   ·simp [h1, h2, h3]; omega
   ·by_cases h4 : x ≤ 16
    ·simp [h1, h2, h3, h4]; omega
    ·simp only [h1, h2, h3, h4, and_self, decide_true, Bool.true_eq_false, if_false]; by_cases h5 : x = 17
     ·subst h5; decide
     ·have : x = 18 := by omega
      subst this; decide
 ·simp [h1]; omega
theorem Jtjo (x : Int) : (shapeZ x).B = usesB x := by
 unfold shapeZ usesB knownZ
 by_cases h1 : 1 ≤ x ∧ x ≤ 18
 ·by_cases h2 : x = 1
  ·subst h2; decide
  ·by_cases h3 : x ≤ 4
   ·simp [h1, h2, h3]; omega
   ·by_cases h4 : x ≤ 16
    ·simp [h1, h2, h3, h4]; omega
    ·simp [h1, h2, h3, h4]
 ·simp [h1]; omega
section
theorem Jt60 {P : Program} {p : Nums} (A : All P p) (s : CS) (most v reg at_ : Int) (h0 : s.set.length < 100000) (h1 : s.steps < 1000000000000000000) (hs : Srt s.set) :
  Jt3w P p.blockcheck_checker_use [.ptr 0 0, AI v, AI reg, AI at_] [ckB most s] fun o H' => o = outR p (useC s v (regZ reg) at_).2 ∧ H' = [ckB most (useC s v (regZ reg) at_).1] := by
 refine A.blockcheck_checker_use.run rfl fun R hR => ?_
 have hH := Jtg8 A s.set ⟨v, regZ reg⟩ (by omega) hs
 have hc := Jt5w A s most h0 h1
 have e0 : (useC s v (regZ reg) at_).1 = costC s := rfl
 obtain ⟨C, hC⟩ : ∃ C, C = ckB most (costC s) := ⟨_, rfl⟩
 have hCm : C = .mem [.d (pairsD s.set), AI most, AI (costC s).steps, AI s.largest] := hC
 obtain ⟨B, hB⟩ : ∃ B, B = ckB most s := ⟨_, rfl⟩
 rw [← hC] at hc
 rw [← hB] at hc ⊢
 (simp (maxSteps := 1000000) [Jtax])
 refine Jtz [0] hc (by decide) (by rfl) (by rfl) (by rw [hB]; rfl) (by rw [hCm]; rfl) (by rfl) (by rfl) ?_
 (simp (maxSteps := 1000000) [hCm])
 (refine Jty (Jte0 A reg) (by rfl) (by rfl) ?_)
 (simp (maxSteps := 1000000) [])
 (refine Jty hH (by rfl) (by rfl) ?_)
 by_cases hm : (⟨v, regZ reg⟩ : Pair) ∈ s.set
 ·(simp (maxSteps := 1000000) [hm])
  refine hR _ _ (Fin_wk (.tup []) (.tup []) [C] rfl (by rw [hCm]; (exact wkA)) ⟨?_, by rw [hC]; rfl⟩)
  simp [useC, hm, outR]
 ·(simp (maxSteps := 1000000) [hm])
  refine hR _ _ (Jt3z _ (failV p (21, at_)) [C] (by rw [hCm]; simp only [failV]; (exact wkA)) ⟨?_, by rw [hC]; rfl⟩)
  simp [useC, hm, outR]
end
theorem Jtch {V L : List Int} {most : Int} {s : CS} {n : Nat} {i : Instr} {m : Mach} {at_ : Int} (h : Room V L s (n + 3)) (hd : usesD i.op = true → i.d ∈ V ∧ regZ m.d ∈ L) : Room V L (instrC most s i m at_).1 n := by
 unfold instrC
 have h2 : Room V L (if usesA i.op = true then useC s i.a (regZ m.a) at_ else (s, none)).1 (n + 2) := by split <;> first | exact h.use _ _ _ | exact h.mono (by omega)
 generalize (if usesA i.op = true then useC s i.a (regZ m.a) at_ else (s, none)) = r at h2
 obtain ⟨s1, e⟩ := r
 cases e with
 | some e => rw [Jtlu]; exact h2.mono (by omega)
 | none =>
  rw [Jtlt]
  have h3 : Room V L (if usesB i.op = true then useC s1 i.b (regZ m.b) at_ else (s1, none)).1 (n + 1) := by split <;> first | exact h2.use _ _ _ | exact h2.mono (by omega)
  generalize (if usesB i.op = true then useC s1 i.b (regZ m.b) at_ else (s1, none)) = r at h3
  obtain ⟨s2, e⟩ := r
  cases e with
  | some e => rw [Jtlu]; exact h3.mono (by omega)
  | none =>
   rw [Jtlt]
   split
   ·rename_i hu
    obtain ⟨k1, k2⟩ := hd hu
    exact h3.cost.become (h3.over.define k1 k2) _ _
   ·exact h3.mono (by omega)
section
theorem Jt5x {P : Program} {p : Nums} (A : All P p) (S : SortOk P p) {V L : List Int} (s : CS) (most : Int) (i : Instr) (m : Mach) (at_ : Int) (h : Room V L s 3) (hd : usesD i.op = true → i.d ∈ V ∧ regZ m.d ∈ L) :
  Jt3w P p.blockcheck_checker_instr [.ptr 0 0, i.av, m.av, AI at_] [ckB most s] fun o H' => o = outR p (instrC most s i m at_).2 ∧ H' = [ckB most (instrC most s i m at_).1] := by
 refine A.blockcheck_checker_instr.run rfl fun R hR => ?_
 have r1 := h.cost
 have r2 := r1.cost
 have l0 := h.len
 have l1 := r1.len
 have l2 := r2.len
 have t0 := h.steps
 have t1 := r1.steps
 have t2 := r2.steps
 have g2 := r2.cost
 have q0 := h.over.srt
 obtain ⟨s1, hs1⟩ : ∃ s1, s1 = costC s := ⟨_, rfl⟩
 obtain ⟨s2, hs2⟩ : ∃ s2, s2 = costC s1 := ⟨_, rfl⟩
 obtain ⟨s3, hs3⟩ : ∃ s3, s3 = costC s2 := ⟨_, rfl⟩
 have q1 : Srt s1.set := by rw [hs1]; exact q0
 have q2 : Srt s2.set := by rw [hs2]; exact q1
 rw [← hs1] at r1 r2 l1 l2 t1 t2 g2
 rw [← hs2] at r2 l2 t2 g2
 rw [← hs3] at g2
 (simp (maxSteps := 1000000) [Jtas, Instr.av, Mach.av])
 (refine Jty (Jtfu A i.op) (by rfl) (by rfl) ?_)
 (simp (maxSteps := 1000000) [Jtjn, Jtjo, Jtjp])
 have hspec : instrC most s i m at_ = instrC most s i m at_ := rfl
 conv at hspec => rhs; unfold instrC
 cases hA : usesA i.op <;> cases hB : usesB i.op <;> cases hD : usesD i.op <;> simp only [hA, hB, hD, if_true, if_false, Bool.false_eq_true, Jtlt] at hspec
 ·(simp (maxSteps := 1000000) [hA, hB, hD])
  exact hR _ _ (Fin_wk (.tup []) (.tup []) [ckB most s] rfl (by simp only [ckB]; (exact wkA)) ⟨by rw [hspec]; rfl, by rw [hspec]⟩)
 ·(simp (maxSteps := 1000000) [hA, hB, hD])
  have hc := Jt5w A s most (by omega) (by omega)
  rw [← hs1] at hc hspec
  have hV := hd hD
  have ho : Over V L (defP s.set i.d (regZ m.d)) := (h).over.define hV.1 hV.2
  have hl := Nat.lt_of_le_of_lt ho.len h.few
  have hset : s1.set = s.set := by rw [hs1]; rfl
  have hb := Jt5v A s1 most (defP s.set i.d (regZ m.d)) at_ hl (by have := (r1).lg; omega)
  have hdf : Jt3w P p.transfer_Define [.d (pairsD s1.set), AI i.d, AI (regZ m.d)] [] fun o _ => o = .ret (.d (pairsD (defP s.set i.d (regZ m.d)))) := by rw [hset]; exact Jtm3 A S s.set i.d (regZ m.d) (by omega) q0
  obtain ⟨dl, hdl⟩ : ∃ dl, dl = defP s.set i.d (regZ m.d) := ⟨_, rfl⟩
  rw [← hdl] at hb hdf hspec
  obtain ⟨⟨s9, e9⟩, h9⟩ : ∃ r, r = Jt5o most s1 dl at_ := ⟨_, rfl⟩
  rw [← h9] at hb hspec
  refine Jtz [0] (x := .tup []) hc (by decide) (by rfl) (by rfl) (by rfl) (by rfl) (by rfl) (by rfl) ?_
  (simp (maxSteps := 1000000) [])
  (refine Jty (Jte0 A m.d) (by rfl) (by rfl) ?_)
  (simp (maxSteps := 1000000) [])
  (refine Jty hdf (by rfl) (by rfl) ?_)
  (simp (maxSteps := 1000000) [])
  cases e9 with
  | none =>
   refine Jtz [0] (x := .tup []) hb (by decide) (by rfl) (by rfl) (by rfl) (by rfl) (by rfl) (by rfl) ?_
   (simp (maxSteps := 1000000) [])
   exact hR _ _ (Fin_wk (.tup []) (.tup []) [ckB most s9] rfl (by simp only [ckB]; (exact wkA)) ⟨by rw [hspec]; rfl, by rw [hspec]⟩)
  | some e =>
   refine Jt11 [0] (x := failV p e) hb (by decide) (by rfl) (by rfl) (by rfl) (by rfl) (by rfl) (by rfl) ?_
   (simp (maxSteps := 1000000) [])
   exact hR _ _ (Jt3z _ (failV p e) [ckB most s9] (by simp only [ckB, failV]; (exact wkA)) ⟨by rw [hspec]; rfl, by rw [hspec]⟩)
 ·(simp (maxSteps := 1000000) [hA, hB, hD])
  have eB : (useC s i.b (regZ m.b) at_).1 = s1 := by rw [hs1]; rfl
  have huB := (Jt60 A s most i.b m.b at_ (by omega) (by omega) q0)
  rw [eB] at huB
  rcases hrB : (useC s i.b (regZ m.b) at_).2 with _ | e
  ·rw [hrB] at huB
   rw [show useC s i.b (regZ m.b) at_ = (s1, none) from Prod.ext eB hrB, Jtlt] at hspec
   refine Jtz [0] (x := .tup []) huB (by decide) (by rfl) (by rfl) (by rfl) (by rfl) (by rfl) (by rfl) ?_
   (simp (maxSteps := 1000000) [hA, hB, hD])
   exact hR _ _ (Fin_wk (.tup []) (.tup []) [ckB most s1] rfl (by simp only [ckB]; (exact wkA)) ⟨by rw [hspec]; rfl, by rw [hspec]⟩)
  ·rw [hrB] at huB
   rw [show useC s i.b (regZ m.b) at_ = (s1, some e) from Prod.ext eB hrB, Jtlu] at hspec
   refine Jt11 [0] (x := failV p e) huB (by decide) (by rfl) (by rfl) (by rfl) (by rfl) (by rfl) (by rfl) ?_
   (simp (maxSteps := 1000000) [])
   exact hR _ _ (Jt3z _ (failV p e) [ckB most s1] (by simp only [ckB, failV]; (exact wkA)) ⟨by rw [hspec]; rfl, by rw [hspec]⟩)
 ·(simp (maxSteps := 1000000) [hA, hB, hD])
  have eB : (useC s i.b (regZ m.b) at_).1 = s1 := by rw [hs1]; rfl
  have huB := (Jt60 A s most i.b m.b at_ (by omega) (by omega) q0)
  rw [eB] at huB
  rcases hrB : (useC s i.b (regZ m.b) at_).2 with _ | e
  ·rw [hrB] at huB
   rw [show useC s i.b (regZ m.b) at_ = (s1, none) from Prod.ext eB hrB, Jtlt] at hspec
   refine Jtz [0] (x := .tup []) huB (by decide) (by rfl) (by rfl) (by rfl) (by rfl) (by rfl) (by rfl) ?_
   (simp (maxSteps := 1000000) [hA, hB, hD])
   have hc := Jt5w A s1 most (by omega) (by omega)
   rw [← hs2] at hc hspec
   have hV := hd hD
   have ho : Over V L (defP s1.set i.d (regZ m.d)) := (r1).over.define hV.1 hV.2
   have hl := Nat.lt_of_le_of_lt ho.len h.few
   have hset : s2.set = s1.set := by rw [hs2]; rfl
   have hb := Jt5v A s2 most (defP s1.set i.d (regZ m.d)) at_ hl (by have := (r2).lg; omega)
   have hdf : Jt3w P p.transfer_Define [.d (pairsD s2.set), AI i.d, AI (regZ m.d)] [] fun o _ => o = .ret (.d (pairsD (defP s1.set i.d (regZ m.d)))) := by rw [hset]; exact Jtm3 A S s1.set i.d (regZ m.d) (by omega) q1
   obtain ⟨dl, hdl⟩ : ∃ dl, dl = defP s1.set i.d (regZ m.d) := ⟨_, rfl⟩
   rw [← hdl] at hb hdf hspec
   obtain ⟨⟨s9, e9⟩, h9⟩ : ∃ r, r = Jt5o most s2 dl at_ := ⟨_, rfl⟩
   rw [← h9] at hb hspec
   refine Jtz [0] (x := .tup []) hc (by decide) (by rfl) (by rfl) (by rfl) (by rfl) (by rfl) (by rfl) ?_
   (simp (maxSteps := 1000000) [])
   (refine Jty (Jte0 A m.d) (by rfl) (by rfl) ?_)
   (simp (maxSteps := 1000000) [])
   (refine Jty hdf (by rfl) (by rfl) ?_)
   (simp (maxSteps := 1000000) [])
   cases e9 with
   | none =>
    refine Jtz [0] (x := .tup []) hb (by decide) (by rfl) (by rfl) (by rfl) (by rfl) (by rfl) (by rfl) ?_
    (simp (maxSteps := 1000000) [])
    exact hR _ _ (Fin_wk (.tup []) (.tup []) [ckB most s9] rfl (by simp only [ckB]; (exact wkA)) ⟨by rw [hspec]; rfl, by rw [hspec]⟩)
   | some e =>
    refine Jt11 [0] (x := failV p e) hb (by decide) (by rfl) (by rfl) (by rfl) (by rfl) (by rfl) (by rfl) ?_
    (simp (maxSteps := 1000000) [])
    exact hR _ _ (Jt3z _ (failV p e) [ckB most s9] (by simp only [ckB, failV]; (exact wkA)) ⟨by rw [hspec]; rfl, by rw [hspec]⟩)
  ·rw [hrB] at huB
   rw [show useC s i.b (regZ m.b) at_ = (s1, some e) from Prod.ext eB hrB, Jtlu] at hspec
   refine Jt11 [0] (x := failV p e) huB (by decide) (by rfl) (by rfl) (by rfl) (by rfl) (by rfl) (by rfl) ?_
   (simp (maxSteps := 1000000) [])
   exact hR _ _ (Jt3z _ (failV p e) [ckB most s1] (by simp only [ckB, failV]; (exact wkA)) ⟨by rw [hspec]; rfl, by rw [hspec]⟩)
 ·(simp (maxSteps := 1000000) [hA, hB, hD])
  have eA : (useC s i.a (regZ m.a) at_).1 = s1 := by rw [hs1]; rfl
  have huA := (Jt60 A s most i.a m.a at_ (by omega) (by omega) q0)
  rw [eA] at huA
  rcases hrA : (useC s i.a (regZ m.a) at_).2 with _ | e
  ·rw [hrA] at huA
   rw [show useC s i.a (regZ m.a) at_ = (s1, none) from Prod.ext eA hrA, Jtlt] at hspec
   refine Jtz [0] (x := .tup []) huA (by decide) (by rfl) (by rfl) (by rfl) (by rfl) (by rfl) (by rfl) ?_
   (simp (maxSteps := 1000000) [hA, hB, hD])
   exact hR _ _ (Fin_wk (.tup []) (.tup []) [ckB most s1] rfl (by simp only [ckB]; (exact wkA)) ⟨by rw [hspec]; rfl, by rw [hspec]⟩)
  ·rw [hrA] at huA
   rw [show useC s i.a (regZ m.a) at_ = (s1, some e) from Prod.ext eA hrA, Jtlu] at hspec
   refine Jt11 [0] (x := failV p e) huA (by decide) (by rfl) (by rfl) (by rfl) (by rfl) (by rfl) (by rfl) ?_
   (simp (maxSteps := 1000000) [])
   exact hR _ _ (Jt3z _ (failV p e) [ckB most s1] (by simp only [ckB, failV]; (exact wkA)) ⟨by rw [hspec]; rfl, by rw [hspec]⟩)
 ·(simp (maxSteps := 1000000) [hA, hB, hD])
  have eA : (useC s i.a (regZ m.a) at_).1 = s1 := by rw [hs1]; rfl
  have huA := (Jt60 A s most i.a m.a at_ (by omega) (by omega) q0)
  rw [eA] at huA
  rcases hrA : (useC s i.a (regZ m.a) at_).2 with _ | e
  ·rw [hrA] at huA
   rw [show useC s i.a (regZ m.a) at_ = (s1, none) from Prod.ext eA hrA, Jtlt] at hspec
   refine Jtz [0] (x := .tup []) huA (by decide) (by rfl) (by rfl) (by rfl) (by rfl) (by rfl) (by rfl) ?_
   (simp (maxSteps := 1000000) [hA, hB, hD])
   have hc := Jt5w A s1 most (by omega) (by omega)
   rw [← hs2] at hc hspec
   have hV := hd hD
   have ho : Over V L (defP s1.set i.d (regZ m.d)) := (r1).over.define hV.1 hV.2
   have hl := Nat.lt_of_le_of_lt ho.len h.few
   have hset : s2.set = s1.set := by rw [hs2]; rfl
   have hb := Jt5v A s2 most (defP s1.set i.d (regZ m.d)) at_ hl (by have := (r2).lg; omega)
   have hdf : Jt3w P p.transfer_Define [.d (pairsD s2.set), AI i.d, AI (regZ m.d)] [] fun o _ => o = .ret (.d (pairsD (defP s1.set i.d (regZ m.d)))) := by rw [hset]; exact Jtm3 A S s1.set i.d (regZ m.d) (by omega) q1
   obtain ⟨dl, hdl⟩ : ∃ dl, dl = defP s1.set i.d (regZ m.d) := ⟨_, rfl⟩
   rw [← hdl] at hb hdf hspec
   obtain ⟨⟨s9, e9⟩, h9⟩ : ∃ r, r = Jt5o most s2 dl at_ := ⟨_, rfl⟩
   rw [← h9] at hb hspec
   refine Jtz [0] (x := .tup []) hc (by decide) (by rfl) (by rfl) (by rfl) (by rfl) (by rfl) (by rfl) ?_
   (simp (maxSteps := 1000000) [])
   (refine Jty (Jte0 A m.d) (by rfl) (by rfl) ?_)
   (simp (maxSteps := 1000000) [])
   (refine Jty hdf (by rfl) (by rfl) ?_)
   (simp (maxSteps := 1000000) [])
   cases e9 with
   | none =>
    refine Jtz [0] (x := .tup []) hb (by decide) (by rfl) (by rfl) (by rfl) (by rfl) (by rfl) (by rfl) ?_
    (simp (maxSteps := 1000000) [])
    exact hR _ _ (Fin_wk (.tup []) (.tup []) [ckB most s9] rfl (by simp only [ckB]; (exact wkA)) ⟨by rw [hspec]; rfl, by rw [hspec]⟩)
   | some e =>
    refine Jt11 [0] (x := failV p e) hb (by decide) (by rfl) (by rfl) (by rfl) (by rfl) (by rfl) (by rfl) ?_
    (simp (maxSteps := 1000000) [])
    exact hR _ _ (Jt3z _ (failV p e) [ckB most s9] (by simp only [ckB, failV]; (exact wkA)) ⟨by rw [hspec]; rfl, by rw [hspec]⟩)
  ·rw [hrA] at huA
   rw [show useC s i.a (regZ m.a) at_ = (s1, some e) from Prod.ext eA hrA, Jtlu] at hspec
   refine Jt11 [0] (x := failV p e) huA (by decide) (by rfl) (by rfl) (by rfl) (by rfl) (by rfl) (by rfl) ?_
   (simp (maxSteps := 1000000) [])
   exact hR _ _ (Jt3z _ (failV p e) [ckB most s1] (by simp only [ckB, failV]; (exact wkA)) ⟨by rw [hspec]; rfl, by rw [hspec]⟩)
 ·(simp (maxSteps := 1000000) [hA, hB, hD])
  have eA : (useC s i.a (regZ m.a) at_).1 = s1 := by rw [hs1]; rfl
  have huA := (Jt60 A s most i.a m.a at_ (by omega) (by omega) q0)
  rw [eA] at huA
  rcases hrA : (useC s i.a (regZ m.a) at_).2 with _ | e
  ·rw [hrA] at huA
   rw [show useC s i.a (regZ m.a) at_ = (s1, none) from Prod.ext eA hrA, Jtlt] at hspec
   refine Jtz [0] (x := .tup []) huA (by decide) (by rfl) (by rfl) (by rfl) (by rfl) (by rfl) (by rfl) ?_
   (simp (maxSteps := 1000000) [hA, hB, hD])
   have eB : (useC s1 i.b (regZ m.b) at_).1 = s2 := by rw [hs2]; rfl
   have huB := (Jt60 A s1 most i.b m.b at_ (by omega) (by omega) q1)
   rw [eB] at huB
   rcases hrB : (useC s1 i.b (regZ m.b) at_).2 with _ | e
   ·rw [hrB] at huB
    rw [show useC s1 i.b (regZ m.b) at_ = (s2, none) from Prod.ext eB hrB, Jtlt] at hspec
    refine Jtz [0] (x := .tup []) huB (by decide) (by rfl) (by rfl) (by rfl) (by rfl) (by rfl) (by rfl) ?_
    (simp (maxSteps := 1000000) [hA, hB, hD])
    exact hR _ _ (Fin_wk (.tup []) (.tup []) [ckB most s2] rfl (by simp only [ckB]; (exact wkA)) ⟨by rw [hspec]; rfl, by rw [hspec]⟩)
   ·rw [hrB] at huB
    rw [show useC s1 i.b (regZ m.b) at_ = (s2, some e) from Prod.ext eB hrB, Jtlu] at hspec
    refine Jt11 [0] (x := failV p e) huB (by decide) (by rfl) (by rfl) (by rfl) (by rfl) (by rfl) (by rfl) ?_
    (simp (maxSteps := 1000000) [])
    exact hR _ _ (Jt3z _ (failV p e) [ckB most s2] (by simp only [ckB, failV]; (exact wkA)) ⟨by rw [hspec]; rfl, by rw [hspec]⟩)
  ·rw [hrA] at huA
   rw [show useC s i.a (regZ m.a) at_ = (s1, some e) from Prod.ext eA hrA, Jtlu] at hspec
   refine Jt11 [0] (x := failV p e) huA (by decide) (by rfl) (by rfl) (by rfl) (by rfl) (by rfl) (by rfl) ?_
   (simp (maxSteps := 1000000) [])
   exact hR _ _ (Jt3z _ (failV p e) [ckB most s1] (by simp only [ckB, failV]; (exact wkA)) ⟨by rw [hspec]; rfl, by rw [hspec]⟩)
 ·(simp (maxSteps := 1000000) [hA, hB, hD])
  have eA : (useC s i.a (regZ m.a) at_).1 = s1 := by rw [hs1]; rfl
  have huA := (Jt60 A s most i.a m.a at_ (by omega) (by omega) q0)
  rw [eA] at huA
  rcases hrA : (useC s i.a (regZ m.a) at_).2 with _ | e
  ·rw [hrA] at huA
   rw [show useC s i.a (regZ m.a) at_ = (s1, none) from Prod.ext eA hrA, Jtlt] at hspec
   refine Jtz [0] (x := .tup []) huA (by decide) (by rfl) (by rfl) (by rfl) (by rfl) (by rfl) (by rfl) ?_
   (simp (maxSteps := 1000000) [hA, hB, hD])
   have eB : (useC s1 i.b (regZ m.b) at_).1 = s2 := by rw [hs2]; rfl
   have huB := (Jt60 A s1 most i.b m.b at_ (by omega) (by omega) q1)
   rw [eB] at huB
   rcases hrB : (useC s1 i.b (regZ m.b) at_).2 with _ | e
   ·rw [hrB] at huB
    rw [show useC s1 i.b (regZ m.b) at_ = (s2, none) from Prod.ext eB hrB, Jtlt] at hspec
    refine Jtz [0] (x := .tup []) huB (by decide) (by rfl) (by rfl) (by rfl) (by rfl) (by rfl) (by rfl) ?_
    (simp (maxSteps := 1000000) [hA, hB, hD])
    have hc := Jt5w A s2 most (by omega) (by omega)
    rw [← hs3] at hc hspec
    have hV := hd hD
    have ho : Over V L (defP s2.set i.d (regZ m.d)) := (r2).over.define hV.1 hV.2
    have hl := Nat.lt_of_le_of_lt ho.len h.few
    have hset : s3.set = s2.set := by rw [hs3]; rfl
    have hb := Jt5v A s3 most (defP s2.set i.d (regZ m.d)) at_ hl (by have := (g2).lg; omega)
    have hdf : Jt3w P p.transfer_Define [.d (pairsD s3.set), AI i.d, AI (regZ m.d)] [] fun o _ => o = .ret (.d (pairsD (defP s2.set i.d (regZ m.d)))) := by rw [hset]; exact Jtm3 A S s2.set i.d (regZ m.d) (by omega) q2
    obtain ⟨dl, hdl⟩ : ∃ dl, dl = defP s2.set i.d (regZ m.d) := ⟨_, rfl⟩
    rw [← hdl] at hb hdf hspec
    obtain ⟨⟨s9, e9⟩, h9⟩ : ∃ r, r = Jt5o most s3 dl at_ := ⟨_, rfl⟩
    rw [← h9] at hb hspec
    refine Jtz [0] (x := .tup []) hc (by decide) (by rfl) (by rfl) (by rfl) (by rfl) (by rfl) (by rfl) ?_
    (simp (maxSteps := 1000000) [])
    (refine Jty (Jte0 A m.d) (by rfl) (by rfl) ?_)
    (simp (maxSteps := 1000000) [])
    (refine Jty hdf (by rfl) (by rfl) ?_)
    (simp (maxSteps := 1000000) [])
    cases e9 with
    | none =>
     refine Jtz [0] (x := .tup []) hb (by decide) (by rfl) (by rfl) (by rfl) (by rfl) (by rfl) (by rfl) ?_
     (simp (maxSteps := 1000000) [])
     exact hR _ _ (Fin_wk (.tup []) (.tup []) [ckB most s9] rfl (by simp only [ckB]; (exact wkA)) ⟨by rw [hspec]; rfl, by rw [hspec]⟩)
    | some e =>
     refine Jt11 [0] (x := failV p e) hb (by decide) (by rfl) (by rfl) (by rfl) (by rfl) (by rfl) (by rfl) ?_
     (simp (maxSteps := 1000000) [])
     exact hR _ _ (Jt3z _ (failV p e) [ckB most s9] (by simp only [ckB, failV]; (exact wkA)) ⟨by rw [hspec]; rfl, by rw [hspec]⟩)
   ·rw [hrB] at huB
    rw [show useC s1 i.b (regZ m.b) at_ = (s2, some e) from Prod.ext eB hrB, Jtlu] at hspec
    refine Jt11 [0] (x := failV p e) huB (by decide) (by rfl) (by rfl) (by rfl) (by rfl) (by rfl) (by rfl) ?_
    (simp (maxSteps := 1000000) [])
    exact hR _ _ (Jt3z _ (failV p e) [ckB most s2] (by simp only [ckB, failV]; (exact wkA)) ⟨by rw [hspec]; rfl, by rw [hspec]⟩)
  ·rw [hrA] at huA
   rw [show useC s i.a (regZ m.a) at_ = (s1, some e) from Prod.ext eA hrA, Jtlu] at hspec
   refine Jt11 [0] (x := failV p e) huA (by decide) (by rfl) (by rfl) (by rfl) (by rfl) (by rfl) (by rfl) ?_
   (simp (maxSteps := 1000000) [])
   exact hR _ _ (Jt3z _ (failV p e) [ckB most s1] (by simp only [ckB, failV]; (exact wkA)) ⟨by rw [hspec]; rfl, by rw [hspec]⟩)
end
structure ARow where (cf ct mf mt : Nat) (src mach : Int)
def ARow.row (r : ARow) : List D := [I r.cf, I r.ct, I r.mf, I r.mt, I r.src, I r.mach]
def ARow.av (r : ARow) : AV := .agg [AI r.cf, AI r.ct, AI r.mf, AI r.mt, AI r.src, AI r.mach]
def copyC (most at_ : Int) : List Instr → CS → CR
 | [], s => (s, none)
 | i :: is, s => thenC (Jt5o most (costC s) (copyP s.set i.d i.a) at_) (copyC most at_ is)
def moveC (most : Int) : Nat → List Mach → CS → CR
 | _, [], s => (s, none)
 | k, m :: ms, s => thenC (Jt5o most (costC s) (moveP s.set m.dst m.src) k) (moveC most (k + 1) ms)
def lastC (most : Int) (b : List Instr) (m : List Mach) (r : ARow) (s : CS) : CR :=
 if 0 ≤ r.src then match b[r.src.toNat]?, m[r.mach.toNat]? with
  | some i, some x => instrC most s i x r.mach
  | _, _ => (s, none)
 else (s, none)
def rowC (most : Int) (b : List Instr) (m : List Mach) (r : ARow) (s : CS) : CR :=
 thenC (copyC most r.mf ((b.take r.ct).drop r.cf) s) fun s => thenC (moveC most r.mf ((m.take r.mt).drop r.mf) s) (lastC most b m r)
structure RowOk (b : List Instr) (m : List Mach) (r : ARow) : Prop where
 hc : r.cf ≤ r.ct ∧ r.ct ≤ b.length
 hm : r.mf ≤ r.mt ∧ r.mt ≤ m.length
 hs : 0 ≤ r.src → r.src < b.length ∧ 0 ≤ r.mach ∧ r.mach < m.length
structure VLOk (V L : List Int) (b : List Instr) (m : List Mach) : Prop where
 v : ∀ i ∈ b, i.d ∈ V
 l : ∀ x ∈ m, x.dst ∈ L ∧ regZ x.d ∈ L
theorem Room.copyStep {V L : List Int} {s : CS} {n : Nat} (h : Room V L s (n + 1)) {d a : Int} (hd : d ∈ V) (most at_ : Int) : Room V L (Jt5o most (costC s) (copyP s.set d a) at_).1 n := h.cost.become (h.over.copy hd) _ _
theorem Room.moveStep {V L : List Int} {s : CS} {n : Nat} (h : Room V L s (n + 1)) {d a : Int} (hd : d ∈ L) (most at_ : Int) : Room V L (Jt5o most (costC s) (moveP s.set d a) at_).1 n := h.cost.become (h.over.move hd) _ _
theorem Jt7c {V L : List Int} {most at_ : Int} : ∀ {l : List Instr} {s : CS} {n : Nat}, Room V L s (n + l.length) → (∀ i ∈ l, i.d ∈ V) → Room V L (copyC most at_ l s).1 n := by
 intro l
 induction l with
 | nil => intro s n h _; exact h
 | cons i l ih =>
  intro s n h hv
  have h1 := Room.copyStep (n := n + l.length) (by simpa [Nat.add_assoc] using h) (hv i (by simp)) most at_ (a := i.a)
  simp only [copyC]
  generalize Jt5o most (costC s) (copyP s.set i.d i.a) at_ = r at h1
  obtain ⟨s1, e⟩ := r
  cases e with
  | some e => rw [Jtlu]; exact h1.mono (by omega)
  | none => rw [Jtlt]; exact ih h1 fun j hj => hv j (by simp [hj])
theorem Jtf8 {V L : List Int} {most : Int} : ∀ {l : List Mach} {k : Nat} {s : CS} {n : Nat}, Room V L s (n + l.length) → (∀ x ∈ l, x.dst ∈ L) → Room V L (moveC most k l s).1 n := by
 intro l
 induction l with
 | nil => intro k s n h _; exact h
 | cons i l ih =>
  intro k s n h hv
  have h1 := Room.moveStep (n := n + l.length) (by simpa [Nat.add_assoc] using h) (hv i (by simp)) most k (a := i.src)
  simp only [moveC]
  generalize Jt5o most (costC s) (moveP s.set i.dst i.src) k = r at h1
  obtain ⟨s1, e⟩ := r
  cases e with
  | some e => rw [Jtlu]; exact h1.mono (by omega)
  | none => rw [Jtlt]; exact ih h1 fun j hj => hv j (by simp [hj])
theorem Jtd6 {V L : List Int} {most : Int} {b : List Instr} {m : List Mach} {r : ARow} {s : CS} {n : Nat} (h : Room V L s (n + 3)) (hv : VLOk V L b m) : Room V L (lastC most b m r s).1 n := by
 unfold lastC
 split
 ·split
  ·rename_i i x h1 h2
   exact Jtch h fun _ => ⟨hv.v i (List.mem_of_getElem? h1), (hv.l x (List.mem_of_getElem? h2)).2⟩
  ·exact h.mono (by omega)
 ·exact h.mono (by omega)
theorem Jtiv {V L : List Int} {most : Int} {b : List Instr} {m : List Mach} {r : ARow} {s : CS} {n : Nat} (h : Room V L s (n + 3 + ((m.take r.mt).drop r.mf).length + ((b.take r.ct).drop r.cf).length)) (hv : VLOk V L b m) : Room V L (rowC most b m r s).1 n := by
 unfold rowC
 have h1 := Jt7c (most := most) (at_ := r.mf) h fun i hi => hv.v i (List.mem_of_mem_take (List.mem_of_mem_drop hi))
 generalize copyC most r.mf ((b.take r.ct).drop r.cf) s = q at h1
 obtain ⟨s1, e⟩ := q
 cases e with
 | some e => rw [Jtlu]; exact h1.mono (by omega)
 | none =>
  rw [Jtlt]
  have h2 := Jtf8 (most := most) (k := r.mf) h1 fun i hi => (hv.l i (List.mem_of_mem_take (List.mem_of_mem_drop hi))).1
  generalize moveC most r.mf ((m.take r.mt).drop r.mf) s1 = q at h2
  obtain ⟨s2, e⟩ := q
  cases e with
  | some e => rw [Jtlu]; exact h2.mono (by omega)
  | none => rw [Jtlt]; exact Jtd6 h2 hv
theorem Jtcq (i : Instr) : i.row.length = 5 := rfl
theorem Jtfa (i : Mach) : i.row.length = 7 := rfl
theorem Jt7s {α : Type} {l : List α} {j : Nat} (h : j < l.length) : l.drop j = l[j] :: l.drop (j + 1) := List.drop_eq_getElem_cons h
section
theorem Jt5y {P : Program} {p : Nums} (A : All P p) (S : SortOk P p) (C : ClosOk P p) {V L : List Int} (s : CS) (most : Int) (b : Block) (m : MBlock) (r : ARow) {n1 n2 : Nat} (hn1 : n1 = r.ct - r.cf) (hn2 : n2 = r.mt - r.mf) (h : Room V L s (3 + n2 + n1)) (hv : VLOk V L b.code m.code) (hr : RowOk b.code m.code r)
  (hb0 : b.code.length < 1000000) (hm0 : m.code.length < 1000000) :
  Jt3w P p.blockcheck_checker_row [.ptr 0 0, b.av, m.av, r.av] [ckB most s] fun o H' => o = outR p (rowC most b.code m.code r s).2 ∧ H' = [ckB most (rowC most b.code m.code r s).1] := by
 refine A.blockcheck_checker_row.run rfl fun R hR => ?_
 obtain ⟨code, kind, ta, to, els⟩ := b
 obtain ⟨mcode, mkind, mta, mto, mels⟩ := m
 obtain ⟨cf, ct, mf, mt, src, mach⟩ := r
 obtain ⟨⟨hc1, hc2⟩, ⟨hm1, hm2⟩, hsr⟩ := hr
 simp only at hc1 hc2 hm1 hm2 hsr hn1 hn2 hb0 hm0 hv
 obtain ⟨sub, hsub⟩ : ∃ l, l = (code.take ct).drop cf := ⟨_, rfl⟩
 obtain ⟨msub, hmsub⟩ : ∃ l, l = (mcode.take mt).drop mf := ⟨_, rfl⟩
 have hsl : sub.length = n1 := by rw [hsub, hn1]; simp; omega
 have hml : msub.length = n2 := by rw [hmsub, hn2]; simp; omega
 have hsv : ∀ i ∈ sub, i.d ∈ V := fun i hi => hv.v i (by rw [hsub] at hi; exact List.mem_of_mem_take (List.mem_of_mem_drop hi))
 have hml' : ∀ x ∈ msub, x.dst ∈ L := fun x hx => (hv.l x (by rw [hmsub] at hx; exact List.mem_of_mem_take (List.mem_of_mem_drop hx))).1
 have hspec : rowC most code mcode ⟨cf, ct, mf, mt, src, mach⟩ s = thenC (copyC most mf sub s) fun s => thenC (moveC most mf msub s) (lastC most code mcode ⟨cf, ct, mf, mt, src, mach⟩) := by rw [hsub, hmsub]; rfl
 obtain ⟨bB, hbB⟩ : ∃ x, x = Blk.mem [.d (.sl (code.map Instr.row)), AI kind, AI ta, AI to, AI els] := ⟨_, rfl⟩
 have i1 : (cf : Int) ≤ (ct : Int) := by omega
 have i2 : (ct : Int) ≤ (code.length : Int) := by omega
 have hrows : ((code.map Instr.row).take ct).drop cf = sub.map Instr.row := by rw [hsub, List.map_drop, List.map_take]
 obtain ⟨T1, hT1⟩ : ∃ T, T = copyC most mf sub s := ⟨_, rfl⟩
 rw [← hT1] at hspec
 (simp (maxSteps := 1000000) [Jtat, Block.av, MBlock.av, ARow.av, i1, i2, hrows, Jtcq])
 refine Jtd (fun x : Nat × CS => ⟨[(19, AI x.1), (18, AI sub.length), (17, .d (.sl (sub.map Instr.row))), (7, .ptr 3 0), (6, .ptr 2 0), (5, .ptr 1 0), (0, .ptr 0 0)],
  [ckB most x.2, .mem [.d (.sl (code.map Instr.row)), AI kind, AI ta, AI to, AI els], .mem [.d (.sl (mcode.map Mach.row)), AI mkind, AI mta, AI mto, AI mels], .mem [AI cf, AI ct, AI mf, AI mt, AI src, AI mach]]⟩)
  (fun x => x.1 ≤ sub.length ∧ copyC most mf (sub.drop x.1) x.2 = T1 ∧ Room V L x.2 (3 + n2 + (n1 - x.1))) (fun x => sub.length - x.1) (0, s) (by simp [hT1]; exact h) (by simp only [ckB]; (exact wkA)) ?_
 rintro ⟨j, t⟩ ⟨hj, hT, hR1⟩ N hN
 simp only at hj hT hR1
 (simp (maxSteps := 1000000) [])
 ((first | refine Xc (fun h2 => ?_) (fun h2 => ?_) | refine Xo (fun h2 => ?_) (fun h2 => ?_)) <;> (try simp only [Xz, Xy] at h2))
 ·have hjl : j < sub.length := by simpa using h2
  have hji : sub[j]? = some sub[j] := by simp [hjl]
  have hw := Jtmv (k := j) (by omega)
  rw [Jt7s hjl] at hT
  simp only [copyC] at hT
  obtain ⟨t1, ht1⟩ : ∃ t1, t1 = costC t := ⟨_, rfl⟩
  have hxv : sub[j].d ∈ V := hsv _ (List.getElem_mem hjl)
  rw [← ht1] at hT
  have e0 : n1 - j = (n1 - (j + 1)) + 1 := by omega
  rw [e0, ← Nat.add_assoc] at hR1
  have hR2 := hR1.copyStep hxv most mf (a := sub[j].a)
  have hl0 := hR1.len
  have hst := hR1.steps
  have hlg := hR1.lg
  have hcost := Jt5w A t most hl0 (by omega)
  have hol := Nat.lt_of_le_of_lt (hR1.over.copy hxv (a := sub[j].a)).len hR1.few
  have hset : t1.set = t.set := by rw [ht1]; rfl
  have hlg1 : t1.largest = t.largest := by rw [ht1]; rfl
  rw [← ht1] at hcost hR2
  have hcp : Jt3w P p.transfer_Copy [.d (pairsD t1.set), AI sub[j].d, AI sub[j].a] [] fun o _ => o = .ret (.d (pairsD (copyP t.set sub[j].d sub[j].a))) := by rw [hset]; exact Jtm1 A S C t.set sub[j].d sub[j].a hl0
  obtain ⟨cl, hcl⟩ : ∃ cl, cl = copyP t.set sub[j].d sub[j].a := ⟨_, rfl⟩
  rw [← hcl] at hT hR2 hcp hol
  have hbec := Jt5v A t1 most cl mf hol (by omega)
  obtain ⟨⟨t2, e2⟩, h2r⟩ : ∃ r, r = Jt5o most t1 cl mf := ⟨_, rfl⟩
  rw [← h2r] at hbec hT hR2
  (simp (maxSteps := 1000000) [h2, List.getElem?_map, hji, Instr.row, hw])
  refine Jtz [0] (x := .tup []) hcost (by decide) (by rfl) (by rfl) (by rfl) (by rfl) (by rfl) (by rfl) ?_
  (simp (maxSteps := 1000000) [ckB])
  (refine Jty hcp (by rfl) (by rfl) ?_)
  (simp (maxSteps := 1000000) [])
  cases e2 with
  | none =>
   rw [Jtlt] at hT
   refine Jtz [0] (x := .tup []) hbec (by decide) (by rfl) (by rfl) (by rfl) (by rfl) (by rfl) (by rfl) ?_
   (simp (maxSteps := 1000000) [ckB, hw])
   exact hN _ (j + 1, t2) ⟨hjl, hT, hR2⟩ (by simp only [ckB]; (exact wkA)) (by simp only; omega)
  | some e =>
   rw [Jtlu] at hT
   refine Jt11 [0] (x := failV p e) hbec (by decide) (by rfl) (by rfl) (by rfl) (by rfl) (by rfl) (by rfl) ?_
   (simp (maxSteps := 1000000) [ckB])
   rw [← hT, Jtlu] at hspec
   exact hR _ _ (Jt3z _ (failV p e) [ckB most t2] (by simp only [ckB, failV]; (exact wkA)) ⟨by rw [hspec]; rfl, by rw [hspec]⟩)
 ·have hjl : j = sub.length := by simp at h2; omega
  subst hjl
  have hT' : T1 = (t, none) := by rw [← hT, List.drop_length]; rfl
  rw [hT', Jtlt] at hspec
  have e0 : n1 - sub.length = 0 := by omega
  rw [e0, Nat.add_zero] at hR1
  obtain ⟨T2, hT2⟩ : ∃ T, T = moveC most mf msub t := ⟨_, rfl⟩
  rw [← hT2] at hspec
  (simp (maxSteps := 1000000) [])
  refine Jtd (fun x : Nat × CS => ⟨[(10, AI x.1), (7, .ptr 3 0), (6, .ptr 2 0), (5, .ptr 1 0), (0, .ptr 0 0)],
   [ckB most x.2, .mem [.d (.sl (code.map Instr.row)), AI kind, AI ta, AI to, AI els], .mem [.d (.sl (mcode.map Mach.row)), AI mkind, AI mta, AI mto, AI mels], .mem [AI cf, AI ct, AI mf, AI mt, AI src, AI mach]]⟩)
   (fun x => mf ≤ x.1 ∧ x.1 ≤ mt ∧ moveC most x.1 (msub.drop (x.1 - mf)) x.2 = T2 ∧ Room V L x.2 (3 + (mt - x.1))) (fun x => mt - x.1) (mf, t) (by simp [hT2]; exact ⟨hm1, by rw [← hn2]; exact hR1⟩) (by simp only [ckB]; (exact wkA)) ?_
  rintro ⟨k, u⟩ ⟨hk0, hk1, hTm, hR2⟩ N hN
  simp only at hk0 hk1 hTm hR2
  (simp (maxSteps := 1000000) [])
  ((first | refine Xc (fun h3 => ?_) (fun h3 => ?_) | refine Xo (fun h3 => ?_) (fun h3 => ?_)) <;> (try simp only [Xz, Xy] at h3))
  ·have hkl : k < mt := by simpa using h3
   have hkm : k < mcode.length := by omega
   have hjl : k - mf < msub.length := by omega
   have hmj : msub[k - mf] = mcode[k] := by simp [hmsub]; congr 1; omega
   have hw := Jtmv (k := k) (by omega)
   have hmi : mcode[k]? = some mcode[k] := by simp [hkm]
   rw [Jt7s hjl, hmj] at hTm
   simp only [moveC] at hTm
   have e1 : k - mf + 1 = k + 1 - mf := by omega
   rw [e1] at hTm
   obtain ⟨t1, ht1⟩ : ∃ t1, t1 = costC u := ⟨_, rfl⟩
   have hxv : mcode[k].dst ∈ L := (hv.l _ (List.getElem_mem hkm)).1
   rw [← ht1] at hTm
   have e0 : mt - k = (mt - (k + 1)) + 1 := by omega
   rw [e0, ← Nat.add_assoc] at hR2
   have hR3 := hR2.moveStep hxv most k (a := mcode[k].src)
   have hl0 := hR2.len
   have hst := hR2.steps
   have hlg := hR2.lg
   have hcost := Jt5w A u most hl0 (by omega)
   have hol := Nat.lt_of_le_of_lt (hR2.over.move hxv (a := mcode[k].src)).len hR2.few
   have hset : t1.set = u.set := by rw [ht1]; rfl
   have hlg1 : t1.largest = u.largest := by rw [ht1]; rfl
   rw [← ht1] at hcost hR3
   have hcp : Jt3w P p.transfer_Move [.d (pairsD t1.set), AI mcode[k].dst, AI mcode[k].src] [] fun o _ => o = .ret (.d (pairsD (moveP u.set mcode[k].dst mcode[k].src))) := by rw [hset]; exact Jtm5 A S C u.set mcode[k].dst mcode[k].src hl0
   obtain ⟨cl, hcl⟩ : ∃ cl, cl = moveP u.set mcode[k].dst mcode[k].src := ⟨_, rfl⟩
   rw [← hcl] at hTm hR3 hcp hol
   have hbec := Jt5v A t1 most cl k hol (by omega)
   obtain ⟨⟨t2, e2⟩, h2r⟩ : ∃ r, r = Jt5o most t1 cl k := ⟨_, rfl⟩
   rw [← h2r] at hbec hTm hR3
   (simp (maxSteps := 1000000) [h3, List.getElem?_map, hmi, Mach.row, hw])
   refine Jtz [0] (x := .tup []) hcost (by decide) (by rfl) (by rfl) (by rfl) (by rfl) (by rfl) (by rfl) ?_
   (simp (maxSteps := 1000000) [ckB, List.getElem?_map, hmi, Mach.row])
   (refine Jty hcp (by rfl) (by rfl) ?_)
   (simp (maxSteps := 1000000) [])
   cases e2 with
   | none =>
    rw [Jtlt] at hTm
    refine Jtz [0] (x := .tup []) hbec (by decide) (by rfl) (by rfl) (by rfl) (by rfl) (by rfl) (by rfl) ?_
    (simp (maxSteps := 1000000) [ckB, hw])
    exact hN _ (k + 1, t2) ⟨by simp only; omega, hkl, hTm, hR3⟩ (by simp only [ckB]; (exact wkA)) (by simp only; omega)
   | some e =>
    rw [Jtlu] at hTm
    refine Jt11 [0] (x := failV p e) hbec (by decide) (by rfl) (by rfl) (by rfl) (by rfl) (by rfl) (by rfl) ?_
    (simp (maxSteps := 1000000) [ckB])
    rw [← hTm, Jtlu] at hspec
    exact hR _ _ (Jt3z _ (failV p e) [ckB most t2] (by simp only [ckB, failV]; (exact wkA)) ⟨by rw [hspec]; rfl, by rw [hspec]⟩)
  ·have hkl : k = mt := by simp at h3; omega
   subst hkl
   have hT'' : T2 = (u, none) := by rw [← hTm, List.drop_eq_nil_of_le (by omega)]; rfl
   rw [hT'', Jtlt] at hspec
   rw [Nat.sub_self, Nat.add_zero] at hR2
   (simp (maxSteps := 1000000) [])
   ((first | refine Xc (fun h4 => ?_) (fun h4 => ?_) | refine Xo (fun h4 => ?_) (fun h4 => ?_)) <;> (try simp only [Xz, Xy] at h4))
   ·obtain ⟨h5, h6, h7⟩ := hsr h4
    have hi1 : src.toNat < code.length := by omega
    have hi2 : mach.toNat < mcode.length := by omega
    have hci : code[src.toNat]? = some code[src.toNat] := by simp [hi1]
    have hmi : mcode[mach.toNat]? = some mcode[mach.toNat] := by simp [hi2]
    have hl : lastC most code mcode ⟨cf, ct, mf, k, src, mach⟩ u = instrC most u code[src.toNat] mcode[mach.toNat] mach := by
     simp only [lastC, h4, if_true, hci, hmi]
    rw [hl] at hspec
    have hins := Jt5x A S u most code[src.toNat] mcode[mach.toNat] mach hR2 (fun _ => ⟨hv.v _ (List.getElem_mem hi1), (hv.l _ (List.getElem_mem hi2)).2⟩)
    obtain ⟨⟨t2, e2⟩, h2r⟩ : ∃ r, r = instrC most u code[src.toNat] mcode[mach.toNat] mach := ⟨_, rfl⟩
    rw [← h2r] at hins hspec
    (simp (maxSteps := 1000000) [h4, h6, List.getElem?_map, hci, hmi, Instr.row, Mach.row])
    cases e2 with
    | none =>
     refine Jtz [0] (x := .tup []) hins (by decide) (by rfl) (by rfl) (by rfl) (by rfl) (by rfl) (by rfl) ?_
     (simp (maxSteps := 1000000) [ckB])
     exact hR _ _ (Fin_wk (.tup []) (.tup []) [ckB most t2] rfl (by simp only [ckB]; (exact wkA)) ⟨by rw [hspec]; rfl, by rw [hspec]⟩)
    | some e =>
     refine Jt11 [0] (x := failV p e) hins (by decide) (by rfl) (by rfl) (by rfl) (by rfl) (by rfl) (by rfl) ?_
     (simp (maxSteps := 1000000) [ckB])
     exact hR _ _ (Jt3z _ (failV p e) [ckB most t2] (by simp only [ckB, failV]; (exact wkA)) ⟨by rw [hspec]; rfl, by rw [hspec]⟩)
   ·have hl : lastC most code mcode ⟨cf, ct, mf, k, src, mach⟩ u = (u, none) := by
     unfold lastC; rw [if_neg h4]
    rw [hl] at hspec
    (simp (maxSteps := 1000000) [h4])
    exact hR _ _ (Fin_wk (.tup []) (.tup []) [ckB most u] rfl (by simp only [ckB]; (exact wkA)) ⟨by rw [hspec]; rfl, by rw [hspec]⟩)
end
def rowsC (most : Int) (b : List Instr) (m : List Mach) : List ARow → CS → CR
 | [], s => (s, none)
 | r :: rs, s => thenC (rowC most b m r s) (rowsC most b m rs)
def runC (most : Int) (b : Block) (m : MBlock) (rows : List ARow) (s : CS) : CR :=
 thenC (rowsC most b.code m.code rows s) fun s => if b.term.kind = 1 then (s, none) else useC s b.term.a (regZ m.term.a) m.code.length
def runE (m : MBlock) : Option (Int × Int) → Int × Int
 | none => (0, m.code.length)
 | some e => e
def needR (r : ARow) : Nat := 3 + (r.mt - r.mf) + (r.ct - r.cf)
def needRs (rs : List ARow) : Nat := (rs.map needR).sum
section
variable {P : Program} {p : Nums}
theorem Jtjg {s : CS} {most : Int} {e : Int × Int} {b m : List AV} {E : List (Nat × AV)} (h8 : get E 8 = some (.ptr 3 0)) (h9 : get E 9 = some (.ptr 4 0)) {Q : AOut → List Blk → Prop} (hQ : Q (.ret (.tup [AI e.1, AI e.2])) [ckB most s]) :
  FinD P [.cell 8 none, .cell 9 none] 1 (Jtav p) [8, 9] 5 2 [.ptr 3 0, .ptr 4 0] Q (.panic (failV p e)) ⟨E, [ckB most s, .mem b, .mem m, .mem [AI 0], .mem [AI 0]]⟩ := by
 refine ⟨fun j c hj => ?_, ?_⟩
 ·match j with
  | 0 => simp at hj; subst hj; exact h8
  | 1 => simp at hj; subst hj; exact h9
  | j + 2 => simp at hj
 ·obtain ⟨c, hc⟩ : ∃ c, c = ckB most s := ⟨_, rfl⟩
  have hcm : c = .mem [.d (pairsD s.set), AI most, AI s.steps, AI s.largest] := hc
  rw [← hc] at hQ ⊢
  (simp (maxSteps := 1000000) [Jtav, panV, failV])
  exact ⟨_, rfl, .tup [AI e.1, AI e.2], [c], by rw [hcm]; (exact wkA), hQ⟩
theorem Jtjh {x0 : Blk} {s : CS} {most : Int} {e : Int × Int} {b m : List AV} {E : List (Nat × AV)} (h8 : get E 8 = some (.ptr 3 0)) (h9 : get E 9 = some (.ptr 4 0)) {Q : AOut → List Blk → Prop} (hQ : Q (.ret (.tup [AI e.1, AI e.2])) [ckB most s]) :
  FinD P [.cell 8 none, .cell 9 none] 1 (Jtav p) [8, 9] 5 2 [.ptr 3 0, .ptr 4 0] Q (.panic (failV p e)) ⟨E, [ckB most s, .mem b, .mem m, .mem [AI 0], .mem [AI 0], x0]⟩ := by
 refine ⟨fun j c hj => ?_, ?_⟩
 ·match j with
  | 0 => simp at hj; subst hj; exact h8
  | 1 => simp at hj; subst hj; exact h9
  | j + 2 => simp at hj
 ·obtain ⟨c, hc⟩ : ∃ c, c = ckB most s := ⟨_, rfl⟩
  have hcm : c = .mem [.d (pairsD s.set), AI most, AI s.steps, AI s.largest] := hc
  rw [← hc] at hQ ⊢
  (simp (maxSteps := 1000000) [Jtav, panV, failV])
  exact ⟨_, rfl, .tup [AI e.1, AI e.2], [c], by rw [hcm]; (exact wkA), hQ⟩
theorem Jtjj {s : CS} {most : Int} {e : Int × Int} {b m : List AV} {E : List (Nat × AV)} (h8 : get E 8 = some (.ptr 3 0)) (h9 : get E 9 = some (.ptr 4 0)) {Q : AOut → List Blk → Prop} (hQ : Q (.ret (.tup [AI e.1, AI e.2])) [ckB most s]) :
  FinD P [.cell 8 none, .cell 9 none] 1 (Jtav p) [8, 9] 5 2 [.ptr 3 0, .ptr 4 0] Q .ret ⟨E, [ckB most s, .mem b, .mem m, .mem [AI e.1], .mem [AI e.2]]⟩ := by
 refine ⟨fun j c hj => ?_, ?_⟩
 ·match j with
  | 0 => simp at hj; subst hj; exact h8
  | 1 => simp at hj; subst hj; exact h9
  | j + 2 => simp at hj
 ·obtain ⟨c, hc⟩ : ∃ c, c = ckB most s := ⟨_, rfl⟩
  have hcm : c = .mem [.d (pairsD s.set), AI most, AI s.steps, AI s.largest] := hc
  rw [← hc] at hQ ⊢
  (simp (maxSteps := 1000000) [Jtav, panV])
  exact ⟨_, rfl, .tup [AI e.1, AI e.2], [c], by rw [hcm]; (exact wkA), hQ⟩
end
theorem Jtfe (r : ARow) (rs : List ARow) : needRs (r :: rs) = needR r + needRs rs := by simp [needRs]
section
theorem Jt5z {P : Program} {p : Nums} (A : All P p) (S : SortOk P p) (C : ClosOk P p) {V L : List Int} (s : CS) (most : Int) (b : Block) (m : MBlock) (rows : List ARow) (h : Room V L s (needRs rows + 1)) (hv : VLOk V L b.code m.code) (hr : ∀ r ∈ rows, RowOk b.code m.code r)
  (hb0 : b.code.length < 1000000) (hm0 : m.code.length < 1000000) (hrl : rows.length < 1000000) :
  Jt3w P p.blockcheck_checker_run [.ptr 0 0, b.av, m.av, .d (.sl (rows.map ARow.row))] [ckB most s]
   fun o H' => o = .ret (.tup [AI (runE m (runC most b m rows s).2).1, AI (runE m (runC most b m rows s).2).2]) ∧ H' = [ckB most (runC most b m rows s).1] := by
 obtain ⟨Q, hQ⟩ : ∃ Q : AOut → List Blk → Prop, Q = fun o H' => o = .ret (.tup [AI (runE m (runC most b m rows s).2).1, AI (runE m (runC most b m rows s).2).2]) ∧ H' = [ckB most (runC most b m rows s).1] := ⟨_, rfl⟩
 rw [← hQ]
 refine A.blockcheck_checker_run.calls rfl ?_
 obtain ⟨code, kind, ta, to, els⟩ := b
 obtain ⟨mcode, mkind, mta, mto, mels⟩ := m
 obtain ⟨total, htot⟩ : ∃ T, T = runC most ⟨code, kind, ta, to, els⟩ ⟨mcode, mkind, mta, mto, mels⟩ rows s := ⟨_, rfl⟩
 rw [← htot] at hQ
 have fin : ∀ s' e, total = (s', e) → Q (.ret (.tup [AI (runE ⟨mcode, mkind, mta, mto, mels⟩ e).1, AI (runE ⟨mcode, mkind, mta, mto, mels⟩ e).2])) [ckB most s'] := by
  intro s' e he
  rw [hQ, he]; exact ⟨rfl, rfl⟩
 obtain ⟨T1, hT1⟩ : ∃ T, T = rowsC most code mcode rows s := ⟨_, rfl⟩
 have hspec : total = thenC T1 fun s => if kind = 1 then (s, none) else useC s ta (regZ mta) mcode.length := by rw [htot, hT1]; rfl
 simp only at hb0 hm0 hv hr
 (simp (maxSteps := 1000000) [Jtau, Block.av, MBlock.av])
 refine ⟨[.ptr 3 0, .ptr 4 0], rfl, fun j c hj => ?_, fun x hx => by simp at hx; rcases hx with rfl | rfl <;> rfl, ?_⟩
 ·match j with
  | 0 => simp at hj; subst hj; rfl
  | 1 => simp at hj; subst hj; rfl
  | j + 2 => simp at hj
 (simp (maxSteps := 1000000) [Jtaw])
 refine Jtd (fun x : Nat × CS => ⟨[(15, AI x.1), (14, AI rows.length), (13, .d (.sl (rows.map ARow.row))), (9, .ptr 4 0), (8, .ptr 3 0), (6, .ptr 2 0), (5, .ptr 1 0), (0, .ptr 0 0)],
  [ckB most x.2, .mem [.d (.sl (code.map Instr.row)), AI kind, AI ta, AI to, AI els], .mem [.d (.sl (mcode.map Mach.row)), AI mkind, AI mta, AI mto, AI mels], .mem [AI 0], .mem [AI 0]]⟩)
  (fun x => x.1 ≤ rows.length ∧ rowsC most code mcode (rows.drop x.1) x.2 = T1 ∧ Room V L x.2 (needRs (rows.drop x.1) + 1)) (fun x => rows.length - x.1) (0, s) (by simp [hT1]; exact h) (by simp only [ckB]; (exact wkA)) ?_
 rintro ⟨j, t⟩ ⟨hj, hT, hR1⟩ N hN
 simp only at hj hT hR1
 (simp (maxSteps := 1000000) [])
 ((first | refine Xc (fun h2 => ?_) (fun h2 => ?_) | refine Xo (fun h2 => ?_) (fun h2 => ?_)) <;> (try simp only [Xz, Xy] at h2))
 ·have hjl : j < rows.length := by simpa using h2
  have hji : rows[j]? = some rows[j] := by simp [hjl]
  have hw := Jtmv (k := j) (by omega)
  rw [Jt7s hjl] at hT hR1
  rw [Jtfe] at hR1
  simp only [rowsC] at hT
  have hro := hr _ (List.getElem_mem hjl)
  have hrow := Jt5y A S C t most ⟨code, kind, ta, to, els⟩ ⟨mcode, mkind, mta, mto, mels⟩ rows[j] (n1 := rows[j].ct - rows[j].cf) (n2 := rows[j].mt - rows[j].mf) rfl rfl (hR1.mono (by unfold needR; omega)) hv hro hb0 hm0
  have hl1 : ((mcode.take rows[j].mt).drop rows[j].mf).length = rows[j].mt - rows[j].mf := by have := hro.hm; simp; omega
  have hl2 : ((code.take rows[j].ct).drop rows[j].cf).length = rows[j].ct - rows[j].cf := by have := hro.hc; simp; omega
  have hR2 := Jtiv (n := needRs (rows.drop (j + 1)) + 1) (most := most) (r := rows[j]) (hR1.mono (by rw [hl1, hl2]; unfold needR; omega)) hv
  simp only at hrow
  obtain ⟨⟨t2, e2⟩, h2r⟩ : ∃ r, r = rowC most code mcode rows[j] t := ⟨_, rfl⟩
  rw [← h2r] at hrow hT hR2
  (simp (maxSteps := 1000000) [h2, List.getElem?_map, hji, ARow.row, hw])
  cases e2 with
  | none =>
   rw [Jtlt] at hT
   refine Jtz [0] (x := .tup []) hrow (by decide) (by rfl) (by rfl) (by rfl) (by rfl) (by rfl) (by rfl) ?_
   (simp (maxSteps := 1000000) [ckB, hw])
   exact hN _ (j + 1, t2) ⟨hjl, hT, hR2⟩ (by simp only [ckB]; (exact wkA)) (by simp only; omega)
  | some e =>
   rw [Jtlu] at hT
   refine Jt11 [0] (x := failV p e) hrow (by decide) (by rfl) (by rfl) (by rfl) (by rfl) (by rfl) (by rfl) ?_
   rw [← hT, Jtlu] at hspec
   have hq := fin _ _ hspec
   (simp (maxSteps := 1000000) [])
   exact Jtjh (s := t2) (e := e) rfl rfl hq
 ·have hjl : j = rows.length := by simp at h2; omega
  subst hjl
  have hT' : T1 = (t, none) := by rw [← hT, List.drop_length]; rfl
  rw [hT', Jtlt] at hspec
  rw [List.drop_length] at hR1
  (simp (maxSteps := 1000000) [])
  ((first | refine Xc (fun h3 => ?_) (fun h3 => ?_) | refine Xo (fun h3 => ?_) (fun h3 => ?_)) <;> (try simp only [Xz, Xy] at h3))
  ·rw [if_neg h3] at hspec
   have hl0 := hR1.len
   have hst : t.steps < 1000000000000000000 := Nat.lt_of_le_of_lt (Nat.le_add_right _ _) hR1.steps
   have hu := Jt60 A t most ta mta mcode.length hl0 hst hR1.over.srt
   obtain ⟨⟨t2, e2⟩, h2r⟩ : ∃ r, r = useC t ta (regZ mta) mcode.length := ⟨_, rfl⟩
   rw [← h2r] at hu hspec
   have hq := fin _ _ hspec
   (simp (maxSteps := 1000000) [h3])
   cases e2 with
   | none =>
    refine Jtz [0] (x := .tup []) hu (by decide) (by rfl) (by rfl) (by rfl) (by rfl) (by rfl) (by rfl) ?_
    (simp (maxSteps := 1000000) [ckB])
    exact Jtjj (s := t2) (e := (0, mcode.length)) rfl rfl hq
   | some e =>
    refine Jt11 [0] (x := failV p e) hu (by decide) (by rfl) (by rfl) (by rfl) (by rfl) (by rfl) (by rfl) ?_
    (simp (maxSteps := 1000000) [])
    exact Jtjg (s := t2) (e := e) rfl rfl hq
  ·have h3' : kind = 1 := by simpa using h3
   rw [if_pos h3'] at hspec
   have hq := fin _ _ hspec
   (simp (maxSteps := 1000000) [h3])
   exact Jtjj (e := (0, mcode.length)) rfl rfl hq
end
def isCopy (i : Instr) : Bool := i.op == 2
def isMove (m : Mach) : Bool := m.op == 18
def skipW {α : Type} (f : α → Bool) (l : List α) (i : Nat) : Nat := i + ((l.drop i).takeWhile f).length
theorem Jtju {α : Type} (f : α → Bool) (l : List α) (i : Nat) : i ≤ skipW f l i := Nat.le_add_right _ _
theorem Jtjv {α : Type} {f : α → Bool} {l : List α} {i : Nat} (h : i ≤ l.length) : skipW f l i ≤ l.length := by
 have := (List.takeWhile_prefix f (l := l.drop i)).length_le
 rw [List.length_drop] at this
 unfold skipW; omega
theorem Jtjw {α : Type} {f : α → Bool} {l : List α} {i : Nat} (h : i < l.length) (hf : f l[i] = true) : skipW f l i = skipW f l (i + 1) := by
 unfold skipW
 rw [List.drop_eq_getElem_cons h, List.takeWhile_cons, if_pos hf, List.length_cons]; omega
theorem Jtjt {α : Type} {f : α → Bool} {l : List α} {i : Nat} (h : i < l.length) (hf : f l[i] = false) : skipW f l i = i := by
 unfold skipW
 rw [List.drop_eq_getElem_cons h, List.takeWhile_cons, hf]; simp
theorem Jtjs {α : Type} {f : α → Bool} {l : List α} {i : Nat} (h : l.length ≤ i) : skipW f l i = i := by
 unfold skipW
 rw [List.drop_eq_nil_of_le h]; simp
def sameI (i : Instr) (m : Mach) : Bool := i.op == m.op && i.imm == m.imm && i.op != 2 && i.op != 18
def termsZ (a b : Term) : Bool := a.kind == b.kind && a.to == b.to && a.els == b.els
def alignS (code : List Instr) (mach : List Mach) : Nat → Nat → Nat → List ARow → List ARow × Nat × Int
 | 0, _, k, _ => ([], k, 20)
 | f + 1, i, k, rows =>
  if skipW isCopy code i = code.length ∧ skipW isMove mach k = mach.length then (rows ++ [⟨i, skipW isCopy code i, k, skipW isMove mach k, -1, -1⟩], skipW isMove mach k, 0)
  else match code[skipW isCopy code i]?, mach[skipW isMove mach k]? with
   | some x, some y => if sameI x y = true then alignS code mach f (skipW isCopy code i + 1) (skipW isMove mach k + 1) (rows ++ [⟨i, skipW isCopy code i, k, skipW isMove mach k, skipW isCopy code i, skipW isMove mach k⟩]) else ([], skipW isMove mach k, 20)
   | _, _ => ([], skipW isMove mach k, 20)
def alignZ (code : List Instr) (mach : List Mach) : List ARow × Nat × Int := alignS code mach (code.length + 1) 0 0 []
section
theorem Jt57 {P : Program} {p : Nums} (A : All P p) (i : Instr) : Jt3w P p.align_copied [i.av] [] fun o _ => o = .ret (AB (isCopy i)) := by
 refine A.align_copied.run rfl fun R hR => ?_
 (simp (maxSteps := 1000000) [Jtal, Instr.av])
 (first | exact hR _ _ FrA | exact hR _ _ FnA | exact hR _ _ (Xf (hq := by simp [AV.erase, AV.unview, isCopy]; done)))
theorem Jt58 {P : Program} {p : Nums} (A : All P p) (m : Mach) : Jt3w P p.align_moved [m.av] [] fun o _ => o = .ret (AB (isMove m)) := by
 refine A.align_moved.run rfl fun R hR => ?_
 (simp (maxSteps := 1000000) [Jtam, Mach.av])
 (first | exact hR _ _ FrA | exact hR _ _ FnA | exact hR _ _ (Xf (hq := by simp [AV.erase, AV.unview, isMove]; done)))
theorem Jt55 {P : Program} {p : Nums} (A : All P p) (i : Instr) (m : Mach) : Jt3w P p.align_Same [i.av, m.av] [] fun o _ => o = .ret (AB (sameI i m)) := by
 refine A.align_Same.run rfl fun R hR => ?_
 have hs : sameI i m = sameI i m := rfl
 conv at hs => rhs; unfold sameI
 cases h1 : i.op == m.op <;> cases h2 : i.imm == m.imm <;> cases h3 : i.op != 2 <;> cases h4 : i.op != 18 <;> simp only [h1, h2, h3, h4, Bool.and_true, Bool.and_false, Bool.false_and, Bool.and_self] at hs <;>
  (simp (maxSteps := 1000000) [Jtaj, Instr.av, Mach.av, h1, h2, h3, h4]) <;> (first | exact hR _ _ FrA | exact hR _ _ FnA | exact hR _ _ (Xf (hq := by simp [AV.erase, AV.unview, hs]; done)))
theorem Jt56 {P : Program} {p : Nums} (A : All P p) (a b : Term) : Jt3w P p.align_Terms [a.av, b.av] [] fun o _ => o = .ret (AB (termsZ a b)) := by
 refine A.align_Terms.run rfl fun R hR => ?_
 have hs : termsZ a b = termsZ a b := rfl
 conv at hs => rhs; unfold termsZ
 cases h1 : a.kind == b.kind <;> cases h2 : a.to == b.to <;> cases h3 : a.els == b.els <;> simp only [h1, h2, h3, Bool.and_true, Bool.and_false, Bool.false_and, Bool.and_self] at hs <;>
  (simp (maxSteps := 1000000) [Jtak, Term.av, h1, h2, h3]) <;> (first | exact hR _ _ FrA | exact hR _ _ FnA | exact hR _ _ (Xf (hq := by simp [AV.erase, AV.unview, hs]; done)))
theorem Jt59 {P : Program} {p : Nums} (A : All P p) (l : List Instr) (i : Nat) (h0 : l.length < 1000000) (h1 : i < 1000000) : Jt3w P p.align_skip_Instr [.d (.sl (l.map Instr.row)), AI i, .fn (.func p.align_copied) [] []] [] fun o _ => o = .ret (AI (skipW isCopy l i)) := by
 refine A.align_skip_Instr.run rfl fun R hR => ?_
 (simp (maxSteps := 1000000) [Jtan])
 refine Jtd (fun k : Nat => ⟨[(1, AI k), (2, .fn (.func p.align_copied) [] []), (0, .d (.sl (l.map Instr.row)))], []⟩) (fun k => k < 1000000 + l.length ∧ skipW isCopy l k = skipW isCopy l i) (fun k => l.length - k) i (by simp; omega) (by (exact wkA)) ?_
 rintro k ⟨hk, hs⟩ N hN
 (simp (maxSteps := 1000000) [])
 ((first | refine Xc (fun h2 => ?_) (fun h2 => ?_) | refine Xo (fun h2 => ?_) (fun h2 => ?_)) <;> (try simp only [Xz, Xy] at h2))
 ·have hkl : k < l.length := by simpa using h2
  have hki : l[k]? = some l[k] := by simp [hkl]
  have hw := Jtmv (k := k) (by omega)
  (simp (maxSteps := 1000000) [h2, List.getElem?_map, hki, Instr.row])
  refine ⟨_, [], [], _, rfl, A.align_copied.ok, rfl, ?_⟩
  (refine Jty (Jt57 A l[k]) (by rfl) (by rfl) ?_)
  cases hc : isCopy l[k] with
  | true =>
   (simp (maxSteps := 1000000) [h2, hc, hw])
   exact hN _ (k + 1) ⟨by omega, by rw [← Jtjw hkl hc]; exact hs⟩ (by (exact wkA)) (by omega)
  | false =>
   rw [Jtjt hkl hc] at hs
   (simp (maxSteps := 1000000) [h2, hc])
   (first | exact hR _ _ FrA | exact hR _ _ FnA | exact hR _ _ (Xf (hq := by simp [AV.erase, AV.unview, hs]; done)))
 ·have hkl : l.length ≤ k := by simpa using h2
  rw [Jtjs hkl] at hs
  (simp (maxSteps := 1000000) [h2])
  (first | exact hR _ _ FrA | exact hR _ _ FnA | exact hR _ _ (Xf (hq := by simp [AV.erase, AV.unview, hs]; done)))
theorem Jt5a {P : Program} {p : Nums} (A : All P p) (l : List Mach) (i : Nat) (h0 : l.length < 1000000) (h1 : i < 1000000) : Jt3w P p.align_skip_Mach [.d (.sl (l.map Mach.row)), AI i, .fn (.func p.align_moved) [] []] [] fun o _ => o = .ret (AI (skipW isMove l i)) := by
 refine A.align_skip_Mach.run rfl fun R hR => ?_
 (simp (maxSteps := 1000000) [Jtao])
 refine Jtd (fun k : Nat => ⟨[(1, AI k), (2, .fn (.func p.align_moved) [] []), (0, .d (.sl (l.map Mach.row)))], []⟩) (fun k => k < 1000000 + l.length ∧ skipW isMove l k = skipW isMove l i) (fun k => l.length - k) i (by simp; omega) (by (exact wkA)) ?_
 rintro k ⟨hk, hs⟩ N hN
 (simp (maxSteps := 1000000) [])
 ((first | refine Xc (fun h2 => ?_) (fun h2 => ?_) | refine Xo (fun h2 => ?_) (fun h2 => ?_)) <;> (try simp only [Xz, Xy] at h2))
 ·have hkl : k < l.length := by simpa using h2
  have hki : l[k]? = some l[k] := by simp [hkl]
  have hw := Jtmv (k := k) (by omega)
  (simp (maxSteps := 1000000) [h2, List.getElem?_map, hki, Mach.row])
  refine ⟨_, [], [], _, rfl, A.align_moved.ok, rfl, ?_⟩
  (refine Jty (Jt58 A l[k]) (by rfl) (by rfl) ?_)
  cases hc : isMove l[k] with
  | true =>
   (simp (maxSteps := 1000000) [h2, hc, hw])
   exact hN _ (k + 1) ⟨by omega, by rw [← Jtjw hkl hc]; exact hs⟩ (by (exact wkA)) (by omega)
  | false =>
   rw [Jtjt hkl hc] at hs
   (simp (maxSteps := 1000000) [h2, hc])
   (first | exact hR _ _ FrA | exact hR _ _ FnA | exact hR _ _ (Xf (hq := by simp [AV.erase, AV.unview, hs]; done)))
 ·have hkl : l.length ≤ k := by simpa using h2
  rw [Jtjs hkl] at hs
  (simp (maxSteps := 1000000) [h2])
  (first | exact hR _ _ FrA | exact hR _ _ FnA | exact hR _ _ (Xf (hq := by simp [AV.erase, AV.unview, hs]; done)))
end
section
theorem Jt54 {P : Program} {p : Nums} (A : All P p) (code : List Instr) (mach : List Mach) (h0 : code.length < 500000) (h1 : mach.length < 500000) : Jt3w P p.align_Code [.d (.sl (code.map Instr.row)), .d (.sl (mach.map Mach.row))] []
  fun o _ => o = .ret (.tup [.d (.sl ((alignZ code mach).1.map ARow.row)), AI (alignZ code mach).2.1, AI (alignZ code mach).2.2]) := by
 refine A.align_Code.run rfl fun R hR => ?_
 obtain ⟨T, hT⟩ : ∃ T, T = alignZ code mach := ⟨_, rfl⟩
 rw [← hT] at hR
 (simp (maxSteps := 1000000) [Jtai])
 refine Jtd (fun x : Nat × Nat × Nat × List ARow => ⟨[(7, .own 6 (x.2.2.2.map ARow.row)), (8, AI x.2.1), (9, AI x.2.2.1), (0, .d (.sl (code.map Instr.row))), (1, .d (.sl (mach.map Mach.row)))], []⟩)
  (fun x => x.2.1 ≤ code.length ∧ x.2.2.1 ≤ mach.length ∧ code.length + 1 ≤ x.1 + x.2.1 ∧ x.2.2.2.length ≤ x.2.1 ∧ alignS code mach x.1 x.2.1 x.2.2.1 x.2.2.2 = T) (fun x => code.length + 1 - x.2.1) (code.length + 1, 0, 0, []) (by simp [hT, alignZ]) (by simp only [List.map_nil]; (exact wkA)) ?_
 rintro ⟨f, i, k, rows⟩ ⟨hi, hk, hf, hrl, hal⟩ N hN
 simp only at hi hk hf hrl hal
 obtain ⟨f, rfl⟩ : ∃ g, f = g + 1 := ⟨f - 1, by omega⟩
 have hsi := Jt59 A code i (by omega) (by omega)
 have hsk := Jt5a A mach k (by omega) (by omega)
 have hile := Jtjv (f := isCopy) hi
 have hkle := Jtjv (f := isMove) hk
 have hige := Jtju isCopy code i
 simp only [alignS] at hal
 obtain ⟨si, hsie⟩ : ∃ x, x = skipW isCopy code i := ⟨_, rfl⟩
 obtain ⟨sk, hske⟩ : ∃ x, x = skipW isMove mach k := ⟨_, rfl⟩
 rw [← hsie] at hsi hal hile hige
 rw [← hske] at hsk hal hkle
 (simp (maxSteps := 1000000) [])
 (refine Jty hsi (by rfl) (by rfl) ?_)
 (simp (maxSteps := 1000000) [])
 (refine Jty hsk (by rfl) (by rfl) ?_)
 obtain ⟨F, hF⟩ : ∃ F, F = rows.map ARow.row := ⟨_, rfl⟩
 have hFl : F.length = rows.length := by rw [hF]; simp
 rw [← hF]
 by_cases h2 : si = code.length
 ·by_cases h3 : sk = mach.length
  ·rw [if_pos ⟨h2, h3⟩] at hal
   (simp (maxSteps := 1000000) [h2, h3])
   (refine Jt1b (by rfl) (by rfl) (by rfl) ?_ (by decide) ?_ ?_ ?_)
   ·simp
   ·simp; omega
   ·simp; omega
   (simp (maxSteps := 1000000) [])
   refine hR _ _ (Jt42 _ _ rfl (by (exact wkvA)) ?_)
   rw [← hal]
   simp [hF, ARow.row, h2, h3]
  ·rw [if_neg (fun h => h3 h.2)] at hal
   have hb3 : ((sk : Int) == (mach.length : Int)) = false := by simp; omega
   have hc : code[si]? = none := List.getElem?_eq_none (by omega)
   rw [hc] at hal
   simp only at hal
   (simp (maxSteps := 1000000) [h2, h3, hb3])
   refine hR _ _ (Jt42 (.tup [.nils, AI sk, AI 20]) (.tup [.d (.sl []), AI sk, AI 20]) rfl (by (exact wkvA)) ?_)
   rw [← hal]; rfl
 ·have hb2 : ((si : Int) == (code.length : Int)) = false := by simp; omega
  rw [if_neg (fun h => h2 h.1)] at hal
  have hcl : si < code.length := by omega
  have hci : code[si]? = some code[si] := by simp [hcl]
  by_cases h3 : sk = mach.length
  ·have hc : mach[sk]? = none := List.getElem?_eq_none (by omega)
   rw [hci, hc] at hal
   simp only at hal
   (simp (maxSteps := 1000000) [h2, h3, hb2])
   refine hR _ _ (Jt42 (.tup [.nils, AI mach.length, AI 20]) (.tup [.d (.sl []), AI mach.length, AI 20]) rfl (by (exact wkvA)) ?_)
   rw [← hal]; simp [h3]
  ·have hkl : sk < mach.length := by omega
   have hki : mach[sk]? = some mach[sk] := by simp [hkl]
   rw [hci, hki] at hal
   simp only at hal
   have hb3 : ((sk : Int) == (mach.length : Int)) = false := by simp; omega
   (simp (maxSteps := 1000000) [h2, h3, hb2, hb3, List.getElem?_map, hci, hki, Instr.row, Mach.row])
   (refine Jty (Jt55 A code[si] mach[sk]) (by rfl) (by rfl) ?_)
   cases hs : sameI code[si] mach[sk] with
   | false =>
    rw [hs] at hal
    simp only [Bool.false_eq_true, if_false] at hal
    (simp (maxSteps := 1000000) [hs])
    refine hR _ _ (Jt42 (.tup [.nils, AI sk, AI 20]) (.tup [.d (.sl []), AI sk, AI 20]) rfl (by (exact wkvA)) ?_)
    rw [← hal]; rfl
   | true =>
    rw [hs, if_pos rfl] at hal
    have hw1 := Jtmv (k := si) (by omega)
    have hw2 := Jtmv (k := sk) (by omega)
    (simp (maxSteps := 1000000) [hs])
    (refine Jt1b (by rfl) (by rfl) (by rfl) ?_ (by decide) ?_ ?_ ?_)
    ·simp
    ·simp; omega
    ·simp; omega
    (simp (maxSteps := 1000000) [hw1, hw2])
    exact hN _ (f, si + 1, sk + 1, rows ++ [⟨i, si, k, sk, si, sk⟩]) ⟨hcl, hkl, by simp only; omega, by simp only [List.length_append, List.length_singleton]; omega, hal⟩ (by simp only [List.map_append, List.map_cons, List.map_nil, ← hF, ARow.row]; (exact wkA)) (by simp only; omega)
end
theorem Jt4z {code : List Instr} {mach : List Mach} : ∀ (f i k : Nat) (rows : List ARow), i ≤ code.length → k ≤ mach.length → (∀ r ∈ rows, RowOk code mach r) → rows.length ≤ i →
  (∀ r ∈ (alignS code mach f i k rows).1, RowOk code mach r) ∧ (alignS code mach f i k rows).1.length ≤ code.length + 1 ∧ (alignS code mach f i k rows).2.1 ≤ mach.length := by
 intro f
 induction f with
 | zero => intro i k rows hi hk h hl; exact ⟨fun r hr => by simp [alignS] at hr, by simp [alignS], by simpa [alignS] using hk⟩
 | succ f ih =>
  intro i k rows hi hk h hl
  have h1 := Jtjv (f := isCopy) hi
  have h2 := Jtjv (f := isMove) hk
  have h3 := Jtju isCopy code i
  have h4 := Jtju isMove mach k
  simp only [alignS]
  split
  ·refine ⟨fun r hr => ?_, by simp; omega, h2⟩
   rcases List.mem_append.1 hr with hr | hr
   ·exact h r hr
   ·simp only [List.mem_singleton] at hr
    subst hr
    exact ⟨⟨h3, h1⟩, ⟨h4, h2⟩, fun h => by simp at h⟩
  ·split
   ·rename_i x y hx hy
    have hx' := (List.getElem?_eq_some_iff.1 hx).1
    have hy' := (List.getElem?_eq_some_iff.1 hy).1
    split
    ·refine ih _ _ _ hx' hy' (fun r hr => ?_) (by simp only [List.length_append, List.length_singleton]; omega)
     rcases List.mem_append.1 hr with hr | hr
     ·exact h r hr
     ·simp only [List.mem_singleton] at hr
      subst hr
      exact ⟨⟨h3, h1⟩, ⟨h4, h2⟩, fun _ => ⟨by simp; omega, by simp, by simp; omega⟩⟩
    ·exact ⟨fun r hr => by simp at hr, by simp, h2⟩
   ·exact ⟨fun r hr => by simp at hr, by simp, h2⟩
theorem Jt52 (code : List Instr) (mach : List Mach) : (∀ r ∈ (alignZ code mach).1, RowOk code mach r) ∧ (alignZ code mach).1.length ≤ code.length + 1 ∧ (alignZ code mach).2.1 ≤ mach.length :=
 Jt4z _ 0 0 [] (Nat.zero_le _) (Nat.zero_le _) (fun r hr => by simp at hr) (Nat.le_refl _)
theorem Jtff {code : List Instr} {mach : List Mach} {rows : List ARow} (h : ∀ r ∈ rows, RowOk code mach r) : needRs rows ≤ rows.length * (3 + mach.length + code.length) := by
 induction rows with
 | nil => simp [needRs]
 | cons r rows ih =>
  have h1 := h r (by simp)
  have h2 := ih fun r hr => h r (by simp [hr])
  rw [Jtfe, List.length_cons, Nat.add_mul, Nat.one_mul]
  have := h1.hc
  have := h1.hm
  unfold needR; omega
structure Res where (out : List Pair) (err at_ : Int) (steps largest : Nat)
 deriving DecidableEq
def Res.av (r : Res) : AV := .agg [.d (pairsD r.out), AI r.err, AI r.at_, AI r.steps, AI r.largest]
def checkZ (b : Block) (m : MBlock) (l : List Pair) (most : Int) : Res :=
 if (l.length : Int) > most then ⟨[], 24, 0, 0, l.length⟩
 else
  let a := alignZ b.code m.code
  let why := if a.2.2 = 0 ∧ termsZ b.term m.term = false then 20 else a.2.2
  if why ≠ 0 then ⟨[], why, a.2.1, 0, l.length⟩
  else
   let r := runC most b m a.1 ⟨makeP l, 0, l.length⟩
   ⟨if (runE m r.2).1 = 0 then r.1.set else [], (runE m r.2).1, (runE m r.2).2, r.1.steps, r.1.largest⟩
section
theorem Jt5u {P : Program} {p : Nums} (A : All P p) (S : SortOk P p) (C : ClosOk P p) {V L : List Int} (b : Block) (m : MBlock) (l : List Pair) (most : Int) (hl : ∀ q ∈ l, q.v ∈ V ∧ q.l ∈ L) (hv : VLOk V L b.code m.code) (few : V.length * L.length < 100000) (hl0 : l.length < 100000)
  (hb0 : b.code.length ≤ 1000) (hm0 : m.code.length ≤ 1000) : Jt3w P p.blockcheck_Check [b.av, m.av, .d (pairsD l), AI most] [] fun o _ => o = .ret (checkZ b m l most).av := by
 refine A.blockcheck_Check.run rfl fun R hR => ?_
 obtain ⟨T, hT⟩ : ∃ T, T = checkZ b m l most := ⟨_, rfl⟩
 rw [← hT] at hR
 have hspec : T = checkZ b m l most := hT
 unfold checkZ at hspec
 obtain ⟨ha1, ha2, ha3⟩ := Jt52 b.code m.code
 have hal := Jt54 A b.code m.code (by omega) (by omega)
 have htm := Jt56 A b.term m.term
 have hmk := Jtga A S l (by omega)
 have hover : Over V L (makeP l) := ⟨Jtkp l, fun q hq => hl q (Jteq.1 hq)⟩
 have hroom : Room V L ⟨makeP l, 0, l.length⟩ (needRs (alignZ b.code m.code).1 + 1) := by
  refine ⟨hover, few, ?_, by simp only; omega⟩
  have h1 := Jtff ha1
  have h2 : (alignZ b.code m.code).1.length * (3 + m.code.length + b.code.length) ≤ 1001 * 2003 := Nat.mul_le_mul (by omega) (by omega)
  simp only
  omega
 have hrun := Jt5z A S C ⟨makeP l, 0, l.length⟩ most b m (alignZ b.code m.code).1 hroom hv ha1 (by omega) (by omega) (by omega)
 obtain ⟨al, hale⟩ : ∃ a, a = alignZ b.code m.code := ⟨_, rfl⟩
 rw [← hale] at hal hrun hspec
 obtain ⟨rows, at_, why⟩ := al
 obtain ⟨⟨t, e⟩, hre⟩ : ∃ r, r = runC most b m rows ⟨makeP l, 0, l.length⟩ := ⟨_, rfl⟩
 simp only at hal hrun hspec
 rw [← hre] at hrun hspec
 obtain ⟨re, hree⟩ : ∃ x, x = runE m e := ⟨_, rfl⟩
 simp only at hrun hspec
 rw [← hree] at hrun hspec
 obtain ⟨mk, hmke⟩ : ∃ x, x = makeP l := ⟨_, rfl⟩
 rw [← hmke] at hmk hrun
 obtain ⟨tz, htz⟩ : ∃ x, x = termsZ b.term m.term := ⟨_, rfl⟩
 rw [← htz] at htm hspec
 obtain ⟨code, kind, ta, to, els⟩ := b
 obtain ⟨mcode, mkind, mta, mto, mels⟩ := m
 simp only [Block.av, MBlock.av, Term.av] at hal hrun htm ⊢
 by_cases h1 : most < (l.length : Int)
 ·rw [if_pos h1] at hspec
  (simp (maxSteps := 1000000) [Jtap, pairsD, h1])
  refine hR _ _ (Jt42 (.agg [.nils, AI 24, AI 0, AI 0, AI l.length]) (.agg [.d (.sl []), AI 24, AI 0, AI 0, AI l.length]) rfl (by (exact wkvA)) ?_)
  rw [hspec]; rfl
 ·rw [if_neg h1] at hspec
  (simp (maxSteps := 1000000) [Jtap, pairsD, h1])
  (refine Jty hal (by rfl) (by rfl) ?_)
  by_cases hw : why = 0
  ·subst hw
   (simp (maxSteps := 1000000) [])
   (refine Jty htm (by rfl) (by rfl) ?_)
   cases tz with
   | false =>
    simp only [and_self, if_true, ne_eq, reduceCtorEq, not_false_eq_true, Int.reduceEq] at hspec
    (simp (maxSteps := 1000000) [])
    refine hR _ _ (Jt42 (.agg [.nils, AI 20, AI at_, AI 0, AI l.length]) (.agg [.d (.sl []), AI 20, AI at_, AI 0, AI l.length]) rfl (by (exact wkvA)) ?_)
    rw [hspec]; rfl
   | true =>
    simp only [Bool.true_eq_false, and_false, if_false, ne_eq, not_true_eq_false] at hspec
    (simp (maxSteps := 1000000) [pairsD])
    (refine Jty hmk (by rfl) (by rfl) ?_)
    (simp (maxSteps := 1000000) [pairsD])
    refine Jtz [3] hrun (by decide) (by rfl) (by rfl) (by rfl) (by rfl) (by rfl) (by rfl) ?_
    (simp (maxSteps := 1000000) [ckB])
    by_cases hz : re.1 = 0
    ·rw [if_pos hz] at hspec
     (simp (maxSteps := 1000000) [hz, pairsD])
     refine hR _ _ (Jt42 (.agg [.d (.sl (t.set.map Pair.row)), AI 0, AI re.2, AI t.steps, AI t.largest]) _ rfl (by (exact wkvA)) ?_)
     rw [hspec, hz]; rfl
    ·rw [if_neg hz] at hspec
     have hzb : (re.1 == 0) = false := by simpa using hz
     (simp (maxSteps := 1000000) [hz, hzb, pairsD])
     refine hR _ _ (Jt42 (.agg [.nils, AI re.1, AI re.2, AI t.steps, AI t.largest]) (.agg [.d (.sl []), AI re.1, AI re.2, AI t.steps, AI t.largest]) rfl (by (exact wkvA)) ?_)
     rw [hspec]; rfl
  ·have hwb : (why == 0) = false := by simpa using hw
   simp only [hw, false_and, if_false, ne_eq, not_false_eq_true, if_true] at hspec
   (simp (maxSteps := 1000000) [hw, hwb])
   refine hR _ _ (Jt42 (.agg [.nils, AI why, AI at_, AI 0, AI l.length]) (.agg [.d (.sl []), AI why, AI at_, AI 0, AI l.length]) rfl (by (exact wkvA)) ?_)
   rw [hspec]; rfl
end
def okZ (n : Int) : Prop := -9223372036854775808 ≤ n ∧ n ≤ 9223372036854775807
def Jthw (i : Mach) (regs slots : Int) : Int :=
 if i.op < 1 ∨ 18 < i.op ∨ i.op = 2 then 8
 else if i.op = 18 then
  if rngZ i.dst regs slots = false ∨ rngZ i.src regs slots = false ∨ (i.dst.tmod 2 = 1 ∧ i.src.tmod 2 = 1) then 10
  else if i.d ≠ 0 ∨ i.a ≠ 0 ∨ i.b ≠ 0 ∨ i.imm ≠ 0 then 12 else 0
 else if Jtht ⟨i.op, i.d, i.a, i.b, i.imm⟩ regs = 0 ∧ (i.dst ≠ 0 ∨ i.src ≠ 0) then 12 else Jtht ⟨i.op, i.d, i.a, i.b, i.imm⟩ regs
section
theorem Jthf {P : Program} {p : Nums} (A : All P p) (i : Mach) (regs slots : Int) (h1 : okZ i.dst) (h2 : okZ i.src) : Jt3w P p.ref08_Instr [i.av, AI regs, AI slots] [] fun o _ => o = .ret (AI (Jthw i regs slots)) := by
 refine A.ref08_Instr.run rfl fun R hR => ?_
 obtain ⟨T, hT⟩ : ∃ T, T = Jthw i regs slots := ⟨_, rfl⟩
 have hs := hT
 unfold Jthw at hs
 rw [← hT] at hR
 obtain ⟨op, d, a, b, imm, dst, src⟩ := i
 simp only at hs h1 h2
 have c1 := Jtgz A dst regs slots h1.1 h1.2
 have c2 := Jtgz A src regs slots h2.1 h2.2
 have c3 := Jtha A ⟨op, d, a, b, imm⟩ regs
 obtain ⟨r1, hr1⟩ : ∃ r, r = rngZ dst regs slots := ⟨_, rfl⟩
 obtain ⟨r2, hr2⟩ : ∃ r, r = rngZ src regs slots := ⟨_, rfl⟩
 obtain ⟨e, he⟩ : ∃ r, r = Jtht ⟨op, d, a, b, imm⟩ regs := ⟨_, rfl⟩
 rw [← hr1] at c1 hs
 rw [← hr2] at c2 hs
 rw [← he] at c3 hs
 simp only [Instr.av] at c3
 by_cases o1 : op < 1
 ·rw [if_pos (.inl o1)] at hs
  (simp (maxSteps := 1000000) [Jtbv, Mach.av, o1])
  (first | exact hR _ _ FrA | exact hR _ _ FnA | exact hR _ _ (Xf (hq := by simp [AV.erase, AV.unview, hs]; done)))
 by_cases o2 : 18 < op
 ·rw [if_pos (.inr (.inl o2))] at hs
  (simp (maxSteps := 1000000) [Jtbv, Mach.av, o1, o2])
  (first | exact hR _ _ FrA | exact hR _ _ FnA | exact hR _ _ (Xf (hq := by simp [AV.erase, AV.unview, hs]; done)))
 by_cases o3 : op = 2
 ·rw [if_pos (.inr (.inr o3))] at hs
  subst o3
  (simp (maxSteps := 1000000) [Jtbv, Mach.av])
  (first | exact hR _ _ FrA | exact hR _ _ FnA | exact hR _ _ (Xf (hq := by simp [AV.erase, AV.unview, hs]; done)))
 have b3 : (op == 2) = false := by simpa using o3
 rw [if_neg (by omega)] at hs
 by_cases o4 : op = 18
 ·subst o4
  rw [if_pos rfl] at hs
  (simp (maxSteps := 1000000) [Jtbv, Mach.av])
  (refine Jty c1 (by rfl) (by rfl) ?_)
  cases r1 with
  | false =>
   rw [if_pos (.inl rfl)] at hs
   (simp (maxSteps := 1000000) [])
   (first | exact hR _ _ FrA | exact hR _ _ FnA | exact hR _ _ (Xf (hq := by simp [AV.erase, AV.unview, hs]; done)))
  | true =>
   (simp (maxSteps := 1000000) [])
   (refine Jty c2 (by rfl) (by rfl) ?_)
   cases r2 with
   | false =>
    rw [if_pos (.inr (.inl rfl))] at hs
    (simp (maxSteps := 1000000) [])
    (first | exact hR _ _ FrA | exact hR _ _ FnA | exact hR _ _ (Xf (hq := by simp [AV.erase, AV.unview, hs]; done)))
   | true =>
    by_cases d1 : dst.tmod 2 = 1
    ·by_cases d2 : src.tmod 2 = 1
     ·rw [if_pos (.inr (.inr ⟨d1, d2⟩))] at hs
      (simp (maxSteps := 1000000) [d1, d2])
      (first | exact hR _ _ FrA | exact hR _ _ FnA | exact hR _ _ (Xf (hq := by simp [AV.erase, AV.unview, hs]; done)))
     ·have bd2 : (src.tmod 2 == 1) = false := by simpa using d2
      rw [if_neg (by simp [d2])] at hs
      by_cases q1 : d = 0
      ·by_cases q2 : a = 0
       ·by_cases q3 : b = 0
        ·by_cases q4 : imm = 0
         ·rw [if_neg (by omega)] at hs
          (simp (maxSteps := 1000000) [d1, d2, bd2, q1, q2, q3, q4])
          (first | exact hR _ _ FrA | exact hR _ _ FnA | exact hR _ _ (Xf (hq := by simp [AV.erase, AV.unview, hs]; done)))
         ·have w : (imm == 0) = false := by simpa using q4
          rw [if_pos (by omega)] at hs
          (simp (maxSteps := 1000000) [d1, d2, bd2, q1, q2, q3, q4, w])
          (first | exact hR _ _ FrA | exact hR _ _ FnA | exact hR _ _ (Xf (hq := by simp [AV.erase, AV.unview, hs]; done)))
        ·have w : (b == 0) = false := by simpa using q3
         rw [if_pos (by omega)] at hs
         (simp (maxSteps := 1000000) [d1, d2, bd2, q1, q2, q3, w])
         (first | exact hR _ _ FrA | exact hR _ _ FnA | exact hR _ _ (Xf (hq := by simp [AV.erase, AV.unview, hs]; done)))
       ·have w : (a == 0) = false := by simpa using q2
        rw [if_pos (by omega)] at hs
        (simp (maxSteps := 1000000) [d1, d2, bd2, q1, q2, w])
        (first | exact hR _ _ FrA | exact hR _ _ FnA | exact hR _ _ (Xf (hq := by simp [AV.erase, AV.unview, hs]; done)))
      ·have w : (d == 0) = false := by simpa using q1
       rw [if_pos (by omega)] at hs
       (simp (maxSteps := 1000000) [d1, d2, bd2, q1, w])
       (first | exact hR _ _ FrA | exact hR _ _ FnA | exact hR _ _ (Xf (hq := by simp [AV.erase, AV.unview, hs]; done)))
    ·have bd1 : (dst.tmod 2 == 1) = false := by simpa using d1
     rw [if_neg (by simp [d1])] at hs
     by_cases q1 : d = 0
     ·by_cases q2 : a = 0
      ·by_cases q3 : b = 0
       ·by_cases q4 : imm = 0
        ·rw [if_neg (by omega)] at hs
         (simp (maxSteps := 1000000) [d1, bd1, q1, q2, q3, q4])
         (first | exact hR _ _ FrA | exact hR _ _ FnA | exact hR _ _ (Xf (hq := by simp [AV.erase, AV.unview, hs]; done)))
        ·have w : (imm == 0) = false := by simpa using q4
         rw [if_pos (by omega)] at hs
         (simp (maxSteps := 1000000) [d1, bd1, q1, q2, q3, q4, w])
         (first | exact hR _ _ FrA | exact hR _ _ FnA | exact hR _ _ (Xf (hq := by simp [AV.erase, AV.unview, hs]; done)))
       ·have w : (b == 0) = false := by simpa using q3
        rw [if_pos (by omega)] at hs
        (simp (maxSteps := 1000000) [d1, bd1, q1, q2, q3, w])
        (first | exact hR _ _ FrA | exact hR _ _ FnA | exact hR _ _ (Xf (hq := by simp [AV.erase, AV.unview, hs]; done)))
      ·have w : (a == 0) = false := by simpa using q2
       rw [if_pos (by omega)] at hs
       (simp (maxSteps := 1000000) [d1, bd1, q1, q2, w])
       (first | exact hR _ _ FrA | exact hR _ _ FnA | exact hR _ _ (Xf (hq := by simp [AV.erase, AV.unview, hs]; done)))
     ·have w : (d == 0) = false := by simpa using q1
      rw [if_pos (by omega)] at hs
      (simp (maxSteps := 1000000) [d1, bd1, q1, w])
      (first | exact hR _ _ FrA | exact hR _ _ FnA | exact hR _ _ (Xf (hq := by simp [AV.erase, AV.unview, hs]; done)))
 ·have b4 : (op == 18) = false := by simpa using o4
  rw [if_neg o4] at hs
  (simp (maxSteps := 1000000) [Jtbv, Mach.av, o1, o2, b3, b4])
  (refine Jty c3 (by rfl) (by rfl) ?_)
  by_cases he0 : e = 0
  ·subst he0
   by_cases q1 : dst = 0
   ·by_cases q2 : src = 0
    ·rw [if_neg (by omega)] at hs
     (simp (maxSteps := 1000000) [q1, q2])
     (first | exact hR _ _ FrA | exact hR _ _ FnA | exact hR _ _ (Xf (hq := by simp [AV.erase, AV.unview, hs]; done)))
    ·have b2 : (src == 0) = false := by simpa using q2
     rw [if_pos ⟨rfl, .inr q2⟩] at hs
     (simp (maxSteps := 1000000) [q1, q2, b2])
     (first | exact hR _ _ FrA | exact hR _ _ FnA | exact hR _ _ (Xf (hq := by simp [AV.erase, AV.unview, hs]; done)))
   ·have b1 : (dst == 0) = false := by simpa using q1
    rw [if_pos ⟨rfl, .inl q1⟩] at hs
    (simp (maxSteps := 1000000) [q1, b1])
    (first | exact hR _ _ FrA | exact hR _ _ FnA | exact hR _ _ (Xf (hq := by simp [AV.erase, AV.unview, hs]; done)))
  ·have b0 : (e == 0) = false := by simpa using he0
   rw [if_neg (fun h => he0 h.1)] at hs
   (simp (maxSteps := 1000000) [he0, b0])
   (first | exact hR _ _ FrA | exact hR _ _ FnA | exact hR _ _ (Xf (hq := by simp [AV.erase, AV.unview, hs]; done)))
end
def mErr (code : List Mach) (regs slots : Int) (j : Nat) : Int := match code[j]? with
 | none => 0
 | some x => if Jthw x regs slots ≠ 0 then Jthw x regs slots else if 64 ≤ j ∧ 64 < Jthx ((code.take (j + 1)).drop (j - 64)) then 15 else 0
def mErrs (code : List Mach) (regs slots : Int) : Int := Jt8m ((List.range code.length).map (mErr code regs slots))
def Jthu (b : MBlock) (regs slots blocks : Int) : Int := if mErrs b.code regs slots ≠ 0 then mErrs b.code regs slots else Jthz b.term regs blocks
def Jthv (f : MFunc) : Int :=
 if f.args < 0 ∨ f.slots < f.args then 10 else if f.regs < 0 then 9 else if 1048576 < f.slots ∨ 1048576 < f.regs then 6 else if f.blocks.length = 0 then 14 else if 1048576 < f.blocks.length ∨ 1048576 < mcodeN f.blocks then 6
 else Jt8m (f.blocks.map fun b => Jthu b f.regs f.slots f.blocks.length)
def okM (b : MBlock) : Prop := ∀ x ∈ b.code, okZ x.dst ∧ okZ x.src
section
theorem Jthd {P : Program} {p : Nums} (A : All P p) (f : MFunc) (h0 : f.blocks.length < 1000000000) (h1 : mcodeN f.blocks < 1000000000) (hok : ∀ b ∈ f.blocks, okM b) : Jt3w P p.ref08_Check [f.av] [] fun o _ => o = .ret (AI (Jthv f)) := by
 refine A.ref08_Check.run rfl fun R hR => ?_
 (simp (maxSteps := 1000000) [Jtbt, MFunc.av])
 ((first | refine Xc (fun a1 => ?_) (fun a1 => ?_) | refine Xo (fun a1 => ?_) (fun a1 => ?_)) <;> (try simp only [Xz, Xy] at a1))
 ·(simp (maxSteps := 1000000) [a1])
  have e : Jthv f = 10 := by unfold Jthv; repeat (first | rw [if_pos (by omega)] | rw [if_neg (by omega)])
  (first | exact hR _ _ FrA | exact hR _ _ FnA | exact hR _ _ (Xf (hq := by simp [AV.erase, AV.unview, e]; done)))
 (simp (maxSteps := 1000000) [a1])
 ((first | refine Xc (fun a2 => ?_) (fun a2 => ?_) | refine Xo (fun a2 => ?_) (fun a2 => ?_)) <;> (try simp only [Xz, Xy] at a2))
 ·(simp (maxSteps := 1000000) [a2])
  have e : Jthv f = 10 := by unfold Jthv; repeat (first | rw [if_pos (by omega)] | rw [if_neg (by omega)])
  (first | exact hR _ _ FrA | exact hR _ _ FnA | exact hR _ _ (Xf (hq := by simp [AV.erase, AV.unview, e]; done)))
 (simp (maxSteps := 1000000) [a2])
 ((first | refine Xc (fun a3 => ?_) (fun a3 => ?_) | refine Xo (fun a3 => ?_) (fun a3 => ?_)) <;> (try simp only [Xz, Xy] at a3))
 ·(simp (maxSteps := 1000000) [a3])
  have e : Jthv f = 9 := by unfold Jthv; repeat (first | rw [if_pos (by omega)] | rw [if_neg (by omega)])
  (first | exact hR _ _ FrA | exact hR _ _ FnA | exact hR _ _ (Xf (hq := by simp [AV.erase, AV.unview, e]; done)))
 (simp (maxSteps := 1000000) [a3])
 ((first | refine Xc (fun a4 => ?_) (fun a4 => ?_) | refine Xo (fun a4 => ?_) (fun a4 => ?_)) <;> (try simp only [Xz, Xy] at a4))
 ·(simp (maxSteps := 1000000) [a4])
  have e : Jthv f = 6 := by unfold Jthv; repeat (first | rw [if_pos (by omega)] | rw [if_neg (by omega)])
  (first | exact hR _ _ FrA | exact hR _ _ FnA | exact hR _ _ (Xf (hq := by simp [AV.erase, AV.unview, e]; done)))
 (simp (maxSteps := 1000000) [a4])
 ((first | refine Xc (fun a5 => ?_) (fun a5 => ?_) | refine Xo (fun a5 => ?_) (fun a5 => ?_)) <;> (try simp only [Xz, Xy] at a5))
 ·(simp (maxSteps := 1000000) [a5])
  have e : Jthv f = 6 := by unfold Jthv; repeat (first | rw [if_pos (by omega)] | rw [if_neg (by omega)])
  (first | exact hR _ _ FrA | exact hR _ _ FnA | exact hR _ _ (Xf (hq := by simp [AV.erase, AV.unview, e]; done)))
 (simp (maxSteps := 1000000) [a5])
 ((first | refine Xc (fun a6 => ?_) (fun a6 => ?_) | refine Xo (fun a6 => ?_) (fun a6 => ?_)) <;> (try simp only [Xz, Xy] at a6))
 ·(simp (maxSteps := 1000000) [a6])
  have e : Jthv f = 14 := by unfold Jthv; repeat (first | rw [if_pos (by omega)] | rw [if_neg (by omega)])
  (first | exact hR _ _ FrA | exact hR _ _ FnA | exact hR _ _ (Xf (hq := by simp [AV.erase, AV.unview, e]; done)))
 (simp (maxSteps := 1000000) [a6])
 ((first | refine Xc (fun a7 => ?_) (fun a7 => ?_) | refine Xo (fun a7 => ?_) (fun a7 => ?_)) <;> (try simp only [Xz, Xy] at a7))
 ·(simp (maxSteps := 1000000) [a7])
  have e : Jthv f = 6 := by unfold Jthv; repeat (first | rw [if_pos (by omega)] | rw [if_neg (by omega)])
  (first | exact hR _ _ FrA | exact hR _ _ FnA | exact hR _ _ (Xf (hq := by simp [AV.erase, AV.unview, e]; done)))
 (simp (maxSteps := 1000000) [a7])
 (refine Jty (Jthe A f h0 h1) (by rfl) (by rfl) ?_)
 (simp (maxSteps := 1000000) [])
 ((first | refine Xc (fun a8 => ?_) (fun a8 => ?_) | refine Xo (fun a8 => ?_) (fun a8 => ?_)) <;> (try simp only [Xz, Xy] at a8))
 ·(simp (maxSteps := 1000000) [a8])
  have e : Jthv f = 6 := by unfold Jthv; repeat (first | rw [if_pos (by omega)] | rw [if_neg (by omega)])
  (first | exact hR _ _ FrA | exact hR _ _ FnA | exact hR _ _ (Xf (hq := by simp [AV.erase, AV.unview, e]; done)))
 (simp (maxSteps := 1000000) [a8])
 have e : Jthv f = Jt8m (f.blocks.map fun b => Jthu b f.regs f.slots f.blocks.length) := by
  unfold Jthv; repeat (first | rw [if_pos (by omega)] | rw [if_neg (by omega)])
 refine Jtd (fun k : Nat => ⟨[(3, AI k), (2, AI 0), (1, .ptr 0 0)], [.mem [AI f.args, AI f.regs, AI f.slots, .d (.sl (f.blocks.map MBlock.row))]]⟩)
  (fun k => k ≤ f.blocks.length ∧ ∀ e ∈ (f.blocks.map fun b => Jthu b f.regs f.slots f.blocks.length).take k, e = 0) (fun k => f.blocks.length - k) 0 (by simp) (by (exact wkA)) ?_
 rintro k ⟨hk, hz⟩ N hN
 (simp (maxSteps := 1000000) [])
 ((first | refine Xc (fun h2 => ?_) (fun h2 => ?_) | refine Xo (fun h2 => ?_) (fun h2 => ?_)) <;> (try simp only [Xz, Xy] at h2))
 ·have hkl : k < f.blocks.length := by simpa using h2
  have hb : f.blocks[k]? = some f.blocks[k] := by simp [hkl]
  have hw := Jtmv (k := k) (by omega)
  have hokb := hok _ (List.getElem_mem hkl)
  have hbl : f.blocks[k].code.length < 1000000000 := by
   have h3 := Jtem hb
   have h4 := Jtel f.blocks (k + 1)
   omega
  (simp (maxSteps := 1000000) [h2, hb, MBlock.row])
  refine Jtd (fun j : Nat => ⟨[(5, AI j), (4, .ptr 1 0), (3, AI k), (2, AI 0), (1, .ptr 0 0)], [.mem [AI f.args, AI f.regs, AI f.slots, .d (.sl (f.blocks.map MBlock.row))], .mem [.d (.sl (f.blocks[k].code.map Mach.row)), AI f.blocks[k].term.kind, AI f.blocks[k].term.a, AI f.blocks[k].term.to, AI f.blocks[k].term.els]]⟩)
   (fun j => j ≤ f.blocks[k].code.length ∧ ∀ e ∈ ((List.range f.blocks[k].code.length).map (mErr f.blocks[k].code f.regs f.slots)).take j, e = 0) (fun j => f.blocks[k].code.length - j) 0 (by simp) (by (exact wkA)) ?_
  rintro j ⟨hj, hy⟩ N' hN'
  (simp (maxSteps := 1000000) [])
  ((first | refine Xc (fun h3 => ?_) (fun h3 => ?_) | refine Xo (fun h3 => ?_) (fun h3 => ?_)) <;> (try simp only [Xz, Xy] at h3))
  ·have hjl : j < f.blocks[k].code.length := by simpa using h3
   have hbj : f.blocks[k].code[j]? = some f.blocks[k].code[j] := by simp [hjl]
   have hrj : (List.range f.blocks[k].code.length)[j]? = some j := by simp [hjl]
   have hokj := hokb _ (List.getElem_mem hjl)
   obtain ⟨up, hup⟩ : ∃ u, u = j + 1 := ⟨_, rfl⟩
   have hwj : IntKind.i64.wrap ((j : Int) + 1) = (up : Int) := by rw [hup]; exact Jtmv (by omega)
   (simp (maxSteps := 1000000) [h3, hbj, Mach.row])
   (refine Jty (Jthf A f.blocks[k].code[j] f.regs f.slots hokj.1 hokj.2) (by rfl) (by rfl) ?_)
   (simp (maxSteps := 1000000) [])
   ((first | refine Xc (fun h4 => ?_) (fun h4 => ?_) | refine Xo (fun h4 => ?_) (fun h4 => ?_)) <;> (try simp only [Xz, Xy] at h4))
   ·(simp (maxSteps := 1000000) [h4])
    have e2 : mErr f.blocks[k].code f.regs f.slots j = Jthw f.blocks[k].code[j] f.regs f.slots := by unfold mErr; rw [hbj]; simp only; rw [if_pos h4]
    have e3 : mErrs f.blocks[k].code f.regs f.slots = mErr f.blocks[k].code f.regs f.slots j := Jt8p hy (by simp [hjl]) (by rw [e2]; exact h4)
    have e4 : Jthu f.blocks[k] f.regs f.slots f.blocks.length = Jthw f.blocks[k].code[j] f.regs f.slots := by unfold Jthu; rw [e3, e2, if_pos h4]
    have e5 : Jt8m (f.blocks.map fun b => Jthu b f.regs f.slots f.blocks.length) = Jthu f.blocks[k] f.regs f.slots f.blocks.length := Jt8p hz (by simp [hkl]) (by rw [e4]; exact h4)
    (first | exact hR _ _ FrA | exact hR _ _ FnA | exact hR _ _ (Xf (hq := by simp [AV.erase, AV.unview, e, e5, e4]; done)))
   ·have h4' : Jthw f.blocks[k].code[j] f.regs f.slots = 0 := by simpa using h4
    (simp (maxSteps := 1000000) [h4])
    ((first | refine Xc (fun h5 => ?_) (fun h5 => ?_) | refine Xo (fun h5 => ?_) (fun h5 => ?_)) <;> (try simp only [Xz, Xy] at h5))
    ·obtain ⟨lo, hlo⟩ : ∃ u, u = j - 64 := ⟨_, rfl⟩
     have hj64 : 64 ≤ j := by omega
     have hwl : IntKind.i64.wrap ((j : Int) - 64) = (lo : Int) := by
      have e1 : (j : Int) - 64 = (lo : Int) := by omega
      rw [e1]; exact wrapN (by omega)
     have i1 : (lo : Int) ≤ (up : Int) := by omega
     have i2 : (up : Int) ≤ (f.blocks[k].code.length : Int) := by omega
     obtain ⟨sl, hsl⟩ : ∃ x, x = (f.blocks[k].code.take up).drop lo := ⟨_, rfl⟩
     have hsll : sl.length < 1000000000 := by rw [hsl]; simp; omega
     have hrows : ((f.blocks[k].code.map Mach.row).take up).drop lo = sl.map Mach.row := by rw [hsl, List.map_drop, List.map_take]
     have hmv := Jthg A sl hsll
     obtain ⟨mv, hmve⟩ : ∃ x, x = Jthx sl := ⟨_, rfl⟩
     rw [← hmve] at hmv
     rw [hsl] at hmve
     (simp (maxSteps := 1000000) [h5, hwl, hwj, i1, i2, hrows, Jtfa])
     (refine Jty hmv (by rfl) (by rfl) ?_)
     (simp (maxSteps := 1000000) [])
     ((first | refine Xc (fun h6 => ?_) (fun h6 => ?_) | refine Xo (fun h6 => ?_) (fun h6 => ?_)) <;> (try simp only [Xz, Xy] at h6))
     ·have e2 : mErr f.blocks[k].code f.regs f.slots j = 15 := by unfold mErr; rw [hbj]; simp only; rw [if_neg (by simpa using h4'), ← hlo, ← hup, ← hmve, if_pos ⟨hj64, by omega⟩]
      have e3 : mErrs f.blocks[k].code f.regs f.slots = mErr f.blocks[k].code f.regs f.slots j := Jt8p hy (by simp [hjl]) (by rw [e2]; decide)
      have e4 : Jthu f.blocks[k] f.regs f.slots f.blocks.length = 15 := by unfold Jthu; rw [e3, e2]; rfl
      have e5 : Jt8m (f.blocks.map fun b => Jthu b f.regs f.slots f.blocks.length) = Jthu f.blocks[k] f.regs f.slots f.blocks.length := Jt8p hz (by simp [hkl]) (by rw [e4]; decide)
      (simp (maxSteps := 1000000) [h6])
      (first | exact hR _ _ FrA | exact hR _ _ FnA | exact hR _ _ (Xf (hq := by simp [AV.erase, AV.unview, e, e5, e4]; done)))
     ·have e2 : mErr f.blocks[k].code f.regs f.slots j = 0 := by unfold mErr; rw [hbj]; simp only; rw [if_neg (by simpa using h4'), ← hlo, ← hup, ← hmve, if_neg (fun h => h6 (by omega))]
      (simp (maxSteps := 1000000) [h6, hwj])
      exact hN' _ up ⟨by omega, by rw [hup]; exact take_zero hy hrj e2⟩ (by (exact wkA)) (by omega)
    ·have e2 : mErr f.blocks[k].code f.regs f.slots j = 0 := by unfold mErr; rw [hbj]; simp only; rw [if_neg (by simpa using h4'), if_neg (fun h => h5 (by omega))]
     (simp (maxSteps := 1000000) [h5, hwj])
     exact hN' _ up ⟨by omega, by rw [hup]; exact take_zero hy hrj e2⟩ (by (exact wkA)) (by omega)
  ·have hj' : j = f.blocks[k].code.length := by simp at h3; omega
   subst hj'
   have hfe : mErrs f.blocks[k].code f.regs f.slots = 0 := Jt8n (by rw [List.take_of_length_le (by simp)] at hy; exact hy)
   have e3 : Jthu f.blocks[k] f.regs f.slots f.blocks.length = Jthz f.blocks[k].term f.regs f.blocks.length := by simp [Jthu, hfe]
   (simp (maxSteps := 1000000) [])
   (refine Jty (Jthb A f.blocks[k].term f.regs f.blocks.length) (by rfl) (by rfl) ?_)
   (simp (maxSteps := 1000000) [])
   ((first | refine Xc (fun h5 => ?_) (fun h5 => ?_) | refine Xo (fun h5 => ?_) (fun h5 => ?_)) <;> (try simp only [Xz, Xy] at h5))
   ·(simp (maxSteps := 1000000) [h5])
    have e4 : Jt8m (f.blocks.map fun b => Jthu b f.regs f.slots f.blocks.length) = Jthu f.blocks[k] f.regs f.slots f.blocks.length := Jt8p hz (by simp [hkl]) (by rw [e3]; exact h5)
    (first | exact hR _ _ FrA | exact hR _ _ FnA | exact hR _ _ (Xf (hq := by simp [AV.erase, AV.unview, e, e4, e3]; done)))
   ·(simp (maxSteps := 1000000) [h5, hw])
    exact hN _ (k + 1) ⟨hkl, take_zero hz hb (by rw [e3]; simpa using h5)⟩ (by (exact wkA)) (by omega)
 ·have hk' : k = f.blocks.length := by simp at h2; omega
  subst hk'
  have hfe : Jt8m (f.blocks.map fun b => Jthu b f.regs f.slots f.blocks.length) = 0 := Jt8n (by rw [List.take_of_length_le (by simp)] at hz; exact hz)
  (simp (maxSteps := 1000000) [])
  (first | exact hR _ _ FrA | exact hR _ _ FnA | exact hR _ _ (Xf (hq := by simp [AV.erase, AV.unview, e, hfe]; done)))
end
structure Bd (most : Int) (m n : Nat) (s : CS) (r : CR) : Prop where
 steps : r.1.steps ≤ s.steps + n * (r.1.largest + 1)
 lg : s.largest ≤ r.1.largest
 set : r.1.set.length ≤ r.1.largest
 most : r.2 = none → (s.largest : Int) ≤ most → (r.1.largest : Int) ≤ most
 fail : ∀ e, r.2 = some e → e.1 ≠ 0 ∧ 0 ≤ e.2 ∧ e.2 ≤ m
section
variable {most : Int} {m : Nat} {s : CS}
theorem Bd.refl (h : s.set.length ≤ s.largest) : Bd most m 0 s (s, none) := ⟨by simp, Nat.le_refl _, h, fun _ h => h, fun e h => by cases h⟩
theorem Bd.mono {n n' : Nat} {r : CR} (h : Bd most m n s r) (hn : n ≤ n') : Bd most m n' s r :=
 ⟨Nat.le_trans h.steps (Nat.add_le_add_left (Nat.mul_le_mul_right _ hn) _), h.lg, h.set, h.most, h.fail⟩
theorem Bd.then {n1 n2 : Nat} {r : CR} {f : CS → CR} (h : Bd most m n1 s r) (hf : ∀ s1, r = (s1, none) → Bd most m n2 s1 (f s1)) : Bd most m (n1 + n2) s (thenC r f) := by
 obtain ⟨s1, e⟩ := r
 cases e with
 | some e => rw [Jtlu]; exact h.mono (by omega)
 | none =>
  rw [Jtlt]
  have h2 := hf s1 rfl
  refine ⟨?_, Nat.le_trans h.lg h2.lg, h2.set, fun hn hm => h2.most hn (h.most rfl hm), h2.fail⟩
  have k1 := h.steps
  have k2 := h2.steps
  have k3 := h2.lg
  simp only at k1 k3
  have k4 : n1 * (s1.largest + 1) ≤ n1 * ((f s1).1.largest + 1) := Nat.mul_le_mul_left _ (by omega)
  rw [Nat.add_mul]
  omega
theorem Bd.use {v t at_ : Int} (h : s.set.length ≤ s.largest) (h0 : 0 ≤ at_) (h1 : at_ ≤ m) : Bd most m 1 s (useC s v t at_) := by
 refine ⟨?_, Nat.le_refl _, h, fun _ h => h, fun e he => ?_⟩
 ·simp only [useC, costC]; omega
 ·simp only [useC] at he
  split at he
  ·cases he
  ·injection he with he; subst he; exact ⟨by simp, h0, h1⟩
theorem Bd.step {l : List Pair} {at_ : Int} (h : s.set.length ≤ s.largest) (h0 : 0 ≤ at_) (h1 : at_ ≤ m) : Bd most m 1 s (Jt5o most (costC s) l at_) := by
 refine ⟨?_, ?_, ?_, fun hn hm => ?_, fun e he => ?_⟩
 ·simp only [Jt5o, costC]; omega
 ·simp only [Jt5o, costC]; omega
 ·simp only [Jt5o, costC]; omega
 ·simp only [Jt5o, costC] at hn ⊢
  split at hn
  ·cases hn
  ·omega
 ·simp only [Jt5o] at he
  split at he
  ·injection he with he; subst he; exact ⟨by simp, h0, h1⟩
  ·cases he
theorem Jt7b {at_ : Int} (h0 : 0 ≤ at_) (h1 : at_ ≤ m) : ∀ {l : List Instr} {s : CS}, s.set.length ≤ s.largest → Bd most m l.length s (copyC most at_ l s) := by
 intro l
 induction l with
 | nil => intro s h; exact .refl h
 | cons i l ih =>
  intro s h
  simp only [copyC, List.length_cons]
  rw [Nat.add_comm]
  refine (Bd.step h h0 h1).then fun s1 hs1 => ih ?_
  have := (Bd.step (most := most) (m := m) (l := copyP s.set i.d i.a) h h0 h1).set
  rw [hs1] at this; exact this
theorem Jtf7 : ∀ {l : List Mach} {k : Nat} {s : CS}, k + l.length ≤ m → s.set.length ≤ s.largest → Bd most m l.length s (moveC most k l s) := by
 intro l
 induction l with
 | nil => intro k s _ h; exact .refl h
 | cons i l ih =>
  intro k s hk h
  simp only [moveC, List.length_cons] at hk ⊢
  rw [Nat.add_comm l.length 1]
  have hst := Bd.step (most := most) (m := m) (l := moveP s.set i.dst i.src) (at_ := k) h (by omega) (by omega)
  refine hst.then fun s1 hs1 => ih (by omega) ?_
  have := hst.set
  rw [hs1] at this; exact this
theorem Jtcg {i : Instr} {x : Mach} {at_ : Int} (h : s.set.length ≤ s.largest) (h0 : 0 ≤ at_) (h1 : at_ ≤ m) : Bd most m 3 s (instrC most s i x at_) := by
 unfold instrC
 refine Bd.then (n1 := 1) (n2 := 2) ?_ fun s1 hs1 => Bd.then (n1 := 1) (n2 := 1) ?_ fun s2 hs2 => ?_
 ·split
  ·exact .use h h0 h1
  ·exact (Bd.refl h).mono (by omega)
 ·have k1 : s1.set.length ≤ s1.largest := by
   split at hs1
   ·have := (Bd.use (most := most) (m := m) (v := i.a) (t := regZ x.a) h h0 h1).set; rw [hs1] at this; exact this
   ·injection hs1 with hs1; subst hs1; exact h
  split
  ·exact .use k1 h0 h1
  ·exact (Bd.refl k1).mono (by omega)
 ·have k1 : s1.set.length ≤ s1.largest := by
   split at hs1
   ·have := (Bd.use (most := most) (m := m) (v := i.a) (t := regZ x.a) h h0 h1).set; rw [hs1] at this; exact this
   ·injection hs1 with hs1; subst hs1; exact h
  have k2 : s2.set.length ≤ s2.largest := by
   split at hs2
   ·have := (Bd.use (most := most) (m := m) (v := i.b) (t := regZ x.b) k1 h0 h1).set; rw [hs2] at this; exact this
   ·injection hs2 with hs2; subst hs2; exact k1
  split
  ·exact .step k2 h0 h1
  ·exact (Bd.refl k2).mono (by omega)
end
def costR (r : ARow) : Nat := (r.ct - r.cf) + (r.mt - r.mf) + if 0 ≤ r.src then 3 else 0
theorem Jtit {most : Int} {b : List Instr} {mc : List Mach} {r : ARow} {s : CS} (h : s.set.length ≤ s.largest) (hr : RowOk b mc r) : Bd most mc.length (costR r) s (rowC most b mc r s) := by
 unfold rowC costR
 have hl1 : ((b.take r.ct).drop r.cf).length = r.ct - r.cf := by have := hr.hc; simp; omega
 have hl2 : ((mc.take r.mt).drop r.mf).length = r.mt - r.mf := by have := hr.hm; simp; omega
 have b1 := Jt7b (most := most) (m := mc.length) (at_ := r.mf) (by omega) (by have := hr.hm; omega) (l := (b.take r.ct).drop r.cf) h
 rw [hl1] at b1
 rw [Nat.add_assoc]
 refine b1.then fun s1 hs1 => ?_
 have k1 := b1.set
 rw [hs1] at k1
 have b2 := Jtf7 (most := most) (m := mc.length) (k := r.mf) (l := (mc.take r.mt).drop r.mf) (s := s1) (by have := hr.hm; rw [hl2]; omega) k1
 rw [hl2] at b2
 refine b2.then fun s2 hs2 => ?_
 have k2 := b2.set
 rw [hs2] at k2
 unfold lastC
 split
 ·rename_i h0
  obtain ⟨q1, q2, q3⟩ := hr.hs h0
  split
  ·exact Jtcg k2 q2 (by omega)
  ·exact (Bd.refl k2).mono (by omega)
 ·exact (Bd.refl k2).mono (by omega)
def costRs (rs : List ARow) : Nat := (rs.map costR).sum
theorem Jtj4 {most : Int} {b : List Instr} {mc : List Mach} : ∀ {rs : List ARow} {s : CS}, s.set.length ≤ s.largest → (∀ r ∈ rs, RowOk b mc r) → Bd most mc.length (costRs rs) s (rowsC most b mc rs s) := by
 intro rs
 induction rs with
 | nil => intro s h _; exact .refl h
 | cons r rs ih =>
  intro s h hr
  have b1 := Jtit (most := most) h (hr r (by simp))
  have e : costRs (r :: rs) = costR r + costRs rs := by simp [costRs]
  rw [e]
  refine b1.then fun s1 hs1 => ih ?_ fun r hr' => hr r (by simp [hr'])
  have := b1.set
  rw [hs1] at this; exact this
theorem Jtj9 {most : Int} {b : Block} {m : MBlock} {rs : List ARow} {s : CS} (h : s.set.length ≤ s.largest) (hr : ∀ r ∈ rs, RowOk b.code m.code r) : Bd most m.code.length (costRs rs + 1) s (runC most b m rs s) := by
 unfold runC
 have b1 := Jtj4 (most := most) h hr
 refine b1.then fun s1 hs1 => ?_
 have k1 := b1.set
 rw [hs1] at k1
 split
 ·exact (Bd.refl k1).mono (by omega)
 ·exact .use k1 (by omega) (by omega)
theorem Jt7d (a b : List ARow) : costRs (a ++ b) = costRs a + costRs b := by simp [costRs]
theorem Jt4y {code : List Instr} {mach : List Mach} : ∀ (f i k : Nat) (rows : List ARow), i ≤ code.length → k ≤ mach.length → costRs rows ≤ i + 3 * k →
  costRs (alignS code mach f i k rows).1 ≤ code.length + 3 * mach.length := by
 intro f
 induction f with
 | zero => intro i k rows hi hk h; simp [alignS, costRs]
 | succ f ih =>
  intro i k rows hi hk h
  have h1 := Jtjv (f := isCopy) hi
  have h2 := Jtjv (f := isMove) hk
  have h3 := Jtju isCopy code i
  have h4 := Jtju isMove mach k
  simp only [alignS]
  split
  ·rename_i hc
   rw [Jt7d]
   simp only [costRs, List.map_cons, List.map_nil, List.sum_cons, List.sum_nil, costR] at h ⊢
   rw [if_neg (by omega)]
   omega
  ·split
   ·rename_i x y hx hy
    have hx' := (List.getElem?_eq_some_iff.1 hx).1
    have hy' := (List.getElem?_eq_some_iff.1 hy).1
    split
    ·refine ih _ _ _ hx' hy' ?_
     rw [Jt7d]
     simp only [costRs, List.map_cons, List.map_nil, List.sum_cons, List.sum_nil, costR] at h ⊢
     rw [if_pos (by omega)]
     omega
    ·simp [costRs]
   ·simp [costRs]
theorem Jt51 (code : List Instr) (mach : List Mach) : costRs (alignZ code mach).1 ≤ code.length + 3 * mach.length := Jt4y _ 0 0 [] (Nat.zero_le _) (Nat.zero_le _) (by simp [costRs])
theorem Jt6q (b : Block) (m : MBlock) (l : List Pair) (most : Int) (hl : (makeP l).length ≤ l.length) : (checkZ b m l most).steps ≤ (3 * m.code.length + b.code.length + 1) * ((checkZ b m l most).largest + 1) ∧ l.length ≤ (checkZ b m l most).largest ∧
  (checkZ b m l most).out.length ≤ (checkZ b m l most).largest ∧ ((checkZ b m l most).err = 0 → ((checkZ b m l most).largest : Int) ≤ most) ∧ 0 ≤ (checkZ b m l most).at_ ∧ (checkZ b m l most).at_ ≤ m.code.length := by
 obtain ⟨a1, a2, a3⟩ := Jt52 b.code m.code
 have hc := Jt51 b.code m.code
 unfold checkZ
 split
 ·exact ⟨Nat.zero_le _, Nat.le_refl _, Nat.zero_le _, fun h => by simp at h, by simp, by simp⟩
 ·rename_i h1
  by_cases h2 : (if (alignZ b.code m.code).2.2 = 0 ∧ termsZ b.term m.term = false then 20 else (alignZ b.code m.code).2.2) ≠ 0
  ·simp only [if_pos h2]
   exact ⟨Nat.zero_le _, Nat.le_refl _, Nat.zero_le _, fun h => absurd h h2, by simp, by simpa using a3⟩
  ·simp only [if_neg h2]
   have hb := Jtj9 (most := most) (b := b) (m := m) (rs := (alignZ b.code m.code).1) (s := ⟨makeP l, 0, l.length⟩) hl a1
   generalize runC most b m (alignZ b.code m.code).1 ⟨makeP l, 0, l.length⟩ = r at hb
   obtain ⟨t, e⟩ := r
   obtain ⟨k1, k2, k3, k4, k5⟩ := hb
   simp only at k1 k2 k3 k4 k5 ⊢
   refine ⟨?_, k2, ?_, fun h => ?_, ?_, ?_⟩
   ·have : (costRs (alignZ b.code m.code).1 + 1) * (t.largest + 1) ≤ (3 * m.code.length + b.code.length + 1) * (t.largest + 1) := Nat.mul_le_mul_right _ (by omega)
    omega
   ·split
    ·exact k3
    ·simp
   ·cases e with
    | none => exact k4 rfl (by omega)
    | some e => exact absurd h (k5 e rfl).1
   ·cases e with
    | none => simp [runE]
    | some e => exact (k5 e rfl).2.1
   ·cases e with
    | none => simp [runE]
    | some e => exact (k5 e rfl).2.2
def zrow : List D := [.sl [], I 0, I 0, I 0, I 0]
def rrow : List D := [.sl [], I 3, I 0, I 0, I 0]
def retB : Block := ⟨[], ⟨3, 0, 0, 0⟩⟩
def retM : MBlock := ⟨[], ⟨3, 0, 0, 0⟩⟩
def fRow (k : Nat) : List (List D) := List.replicate k rrow ++ List.replicate (31 - k) zrow
theorem Jt8d (k : Nat) : ∀ r ∈ fRow k, r.length = 5 := by
 intro r hr
 rcases List.mem_append.1 hr with h | h <;> rw [(List.mem_replicate.1 h).2] <;> rfl
theorem Jt8e {k : Nat} (h : k < 31) : (fRow k).set k rrow = fRow (k + 1) := by
 unfold fRow
 rw [show 31 - k = (31 - (k + 1)) + 1 by omega, List.replicate_succ (n := 31 - (k + 1)), List.set_append, if_neg (by simp), List.length_replicate, Nat.sub_self, List.set_cons_zero, List.replicate_succ' (n := k), List.append_assoc]; rfl
theorem Jt8f {k : Nat} (h : k ≤ 31) : (fRow k).length = 31 := by simp [fRow]; omega
theorem Jt4b {H : List Blk} {n : Nat} {a b c d : List AV} (h1 : WkB H n (.mem a) (.mem b)) (h2 : WkB H n (.mem c) (.mem d)) : WkB H n (.mem (a ++ c)) (.mem (b ++ d)) := by
 cases h1 with
 | mem _ _ hl h1 =>
  cases h2 with
  | mem _ _ hl2 h2 =>
   refine .mem _ _ (by simp [hl, hl2]) fun j x y hx hy => ?_
   by_cases hj : j < a.length
   ·rw [List.getElem?_append_left hj] at hx
    rw [List.getElem?_append_left (by omega)] at hy
    exact h1 j x y hx hy
   ·rw [List.getElem?_append_right (by omega)] at hx
    rw [List.getElem?_append_right (by omega), ← hl] at hy
    exact h2 _ x y hx hy
theorem Jt4d {H : List Blk} {n : Nat} (ds : List D) : WkB H n (.mem (ds.map AV.d)) (.mem (ds.map AV.d)) := .same (renL_d _)
theorem Jt4f {H : List Blk} {n k : Nat} {xs : List D} {rows : List (List D)} (hl : ∀ r ∈ rows, r.length = xs.length + 1) (hk : k < rows.length) :
  WkB H n (.mem (List.take (k * (xs.length + 1)) (Jtiw rows) ++ (.nils :: xs.map AV.d) ++ List.drop (k * (xs.length + 1) + (xs.length + 1)) (Jtiw rows))) (.mem (Jtiw (rows.set k (.sl [] :: xs)))) := by
 have h := Jtkh (rows := rows) (e := xs.length + 1) (row := .sl [] :: xs) hl (by simp) hk
 rw [← h]
 simp only [spl, List.map_cons, List.length_cons, List.length_map]
 have e1 : List.take (k * (xs.length + 1)) (Jtiw rows) = (rows.flatten.take (k * (xs.length + 1))).map AV.d := by simp [Jtiw, List.map_take]
 have e2 : List.drop (k * (xs.length + 1) + (xs.length + 1)) (Jtiw rows) = (rows.flatten.drop (k * (xs.length + 1) + (xs.length + 1))).map AV.d := by simp [Jtiw, List.map_drop]
 rw [e1, e2]
 exact Jt4b (Jt4b (Jt4d _) (Jt4c (.inl .nild) (Jt4d _))) (Jt4d _)
theorem Jt4l {H : List Blk} {b m n e : Nat} {rows : List (List D)} (hb : H[b]? = some (.mem (Jtiw rows))) (hm : m ≤ b) (hl : rows.length = n) (he : ∀ r ∈ rows, r.length = e) : WkT H m (.hsl b 0 e n) (.d (.sl rows)) := by
 refine .inl (.hsl b 0 e n (Jtiw rows) rows hb hm ?_ hl he)
 rw [List.drop_zero, List.take_of_length_le (by rw [Jtj2 he, hl]; exact Nat.le_refl _)]; rfl
def smallZ (b : Block) (m : MBlock) (regs slots : Int) : Prop :=
 ¬ (60 : Int) < (b.code.length : Int) ∧ ¬ (200 : Int) < (m.code.length : Int) ∧ ¬ 20 < regs ∧ ¬ 20 < slots ∧ ¬ 30 < b.term.to ∧ ¬ 30 < b.term.els ∧ ¬ 30 < m.term.to ∧ ¬ 30 < m.term.els ∧ ¬ b.term.to < 0 ∧ ¬ b.term.els < 0
instance (b : Block) (m : MBlock) (regs slots : Int) : Decidable (smallZ b m regs slots) := by unfold smallZ; infer_instance
def fnB (b : Block) : Func := ⟨0, 20, b :: List.replicate 30 retB⟩
def fnM (m : MBlock) (regs slots : Int) : MFunc := ⟨0, regs, slots, m :: List.replicate 30 retM⟩
def rightZ (b : Block) (m : MBlock) (regs slots : Int) : Bool :=
 if smallZ b m regs slots then (if Jths (fnB b) ≠ 0 then false else Jthv (fnM m regs slots) == 0) else false
theorem Jt90 (b : Block) : (fnB b).blocks.map Block.row = (fRow 31).set 0 b.row := by
 simp [fnB, fRow, retB, Block.row, rrow, List.replicate_succ]
theorem Jt91 (m : MBlock) (regs slots : Int) : (fnM m regs slots).blocks.map MBlock.row = (fRow 31).set 0 m.row := by
 simp [fnM, fRow, retM, MBlock.row, rrow, List.replicate_succ]
section
theorem Jtd9 {P : Program} {p : Nums} (A : All P p) (b : Block) (m : MBlock) (regs slots : Int) (hok : okM m) : Jt3w P p.law14_right [b.av, m.av, AI regs, AI slots] [] fun o _ => o = .ret (AB (rightZ b m regs slots)) := by
 refine A.law14_right.run rfl fun R hR => ?_
 obtain ⟨T, hT⟩ : ∃ T, T = rightZ b m regs slots := ⟨_, rfl⟩
 have hs := hT
 unfold rightZ at hs
 rw [← hT] at hR
 have h7 : b.code.length ≤ 60 → Jt3w P p.ref07_Check [(fnB b).av] [] fun o _ => o = .ret (AI (Jths (fnB b))) := fun h => Jth8 A (fnB b) (by simp [fnB]) (by simp [fnB, codeN, retB]; omega)
 have h8 : m.code.length ≤ 200 → Jt3w P p.ref08_Check [(fnM m regs slots).av] [] fun o _ => o = .ret (AI (Jthv (fnM m regs slots))) := fun h => Jthd A (fnM m regs slots) (by simp [fnM]) (by simp [fnM, mcodeN, retM]; omega)
  (fun x hx => by
   simp only [fnM, List.mem_cons] at hx
   rcases hx with rfl | hx
   ·exact hok
   ·rw [(List.mem_replicate.1 hx).2]; intro y hy; simp [retM] at hy)
 have r7 := Jt90 b
 have r8 := Jt91 m regs slots
 unfold Func.av at h7
 unfold MFunc.av at h8
 rw [r7] at h7
 rw [r8] at h8
 obtain ⟨e7, he7⟩ : ∃ x, x = Jths (fnB b) := ⟨_, rfl⟩
 obtain ⟨e8, he8⟩ : ∃ x, x = Jthv (fnM m regs slots) := ⟨_, rfl⟩
 rw [← he7] at h7 hs
 rw [← he8] at h8 hs
 simp only [fnB, fnM] at h7 h8
 obtain ⟨rb, hrb⟩ : ∃ x, x = b.row := ⟨_, rfl⟩
 obtain ⟨rm, hrm⟩ : ∃ x, x = m.row := ⟨_, rfl⟩
 rw [← hrb] at h7
 rw [← hrm] at h8
 obtain ⟨code, kind, ta, to, els⟩ := b
 obtain ⟨mcode, mkind, mta, mto, mels⟩ := m
 simp only [Block.row] at hrb
 simp only [MBlock.row] at hrm
 (simp (maxSteps := 1000000) [Jtb0, Block.av, MBlock.av])
 by_cases g1 : (60 : Int) < (code.length : Int)
 ·rw [if_neg (fun h => h.1 g1)] at hs
  (simp (maxSteps := 1000000) [g1])
  (first | exact hR _ _ FrA | exact hR _ _ FnA | exact hR _ _ (Xf (hq := by simp [AV.erase, AV.unview, hs]; done)))
 (simp (maxSteps := 1000000) [g1])
 by_cases g2 : (200 : Int) < (mcode.length : Int)
 ·rw [if_neg (fun h => h.2.1 g2)] at hs
  (simp (maxSteps := 1000000) [g2])
  (first | exact hR _ _ FrA | exact hR _ _ FnA | exact hR _ _ (Xf (hq := by simp [AV.erase, AV.unview, hs]; done)))
 (simp (maxSteps := 1000000) [g2])
 by_cases g3 : 20 < regs
 ·rw [if_neg (fun h => h.2.2.1 g3)] at hs
  (simp (maxSteps := 1000000) [g3])
  (first | exact hR _ _ FrA | exact hR _ _ FnA | exact hR _ _ (Xf (hq := by simp [AV.erase, AV.unview, hs]; done)))
 (simp (maxSteps := 1000000) [g3])
 by_cases g4 : 20 < slots
 ·rw [if_neg (fun h => h.2.2.2.1 g4)] at hs
  (simp (maxSteps := 1000000) [g4])
  (first | exact hR _ _ FrA | exact hR _ _ FnA | exact hR _ _ (Xf (hq := by simp [AV.erase, AV.unview, hs]; done)))
 (simp (maxSteps := 1000000) [g4])
 by_cases g5 : 30 < to
 ·rw [if_neg (fun h => h.2.2.2.2.1 g5)] at hs
  (simp (maxSteps := 1000000) [g5])
  (first | exact hR _ _ FrA | exact hR _ _ FnA | exact hR _ _ (Xf (hq := by simp [AV.erase, AV.unview, hs]; done)))
 (simp (maxSteps := 1000000) [g5])
 by_cases g6 : 30 < els
 ·rw [if_neg (fun h => h.2.2.2.2.2.1 g6)] at hs
  (simp (maxSteps := 1000000) [g6])
  (first | exact hR _ _ FrA | exact hR _ _ FnA | exact hR _ _ (Xf (hq := by simp [AV.erase, AV.unview, hs]; done)))
 (simp (maxSteps := 1000000) [g6])
 by_cases g7 : 30 < mto
 ·rw [if_neg (fun h => h.2.2.2.2.2.2.1 g7)] at hs
  (simp (maxSteps := 1000000) [g7])
  (first | exact hR _ _ FrA | exact hR _ _ FnA | exact hR _ _ (Xf (hq := by simp [AV.erase, AV.unview, hs]; done)))
 (simp (maxSteps := 1000000) [g7])
 by_cases g8 : 30 < mels
 ·rw [if_neg (fun h => h.2.2.2.2.2.2.2.1 g8)] at hs
  (simp (maxSteps := 1000000) [g8])
  (first | exact hR _ _ FrA | exact hR _ _ FnA | exact hR _ _ (Xf (hq := by simp [AV.erase, AV.unview, hs]; done)))
 (simp (maxSteps := 1000000) [g8])
 by_cases g9 : to < 0
 ·rw [if_neg (fun h => h.2.2.2.2.2.2.2.2.1 g9)] at hs
  (simp (maxSteps := 1000000) [g9])
  (first | exact hR _ _ FrA | exact hR _ _ FnA | exact hR _ _ (Xf (hq := by simp [AV.erase, AV.unview, hs]; done)))
 (simp (maxSteps := 1000000) [g9])
 by_cases g10 : els < 0
 ·rw [if_neg (fun h => h.2.2.2.2.2.2.2.2.2 g10)] at hs
  (simp (maxSteps := 1000000) [g10])
  (first | exact hR _ _ FrA | exact hR _ _ FnA | exact hR _ _ (Xf (hq := by simp [AV.erase, AV.unview, hs]; done)))
 (simp (maxSteps := 1000000) [g10])
 rw [if_pos ⟨g1, g2, g3, g4, g5, g6, g7, g8, g9, g10⟩] at hs
 have h7 := h7 (by simp only; omega)
 have h8 := h8 (by simp only; omega)
 refine Jt23 (n := 31) (by rfl) (by rfl) (by decide) (by decide) (by decide) (by rfl) ?_
 have hz : List.replicate 31 [D.sl [], D.int .i64 0, D.int .i64 0, D.int .i64 0, D.int .i64 0] = fRow 0 := rfl
 rw [hz]
 obtain ⟨B, hB⟩ : ∃ B : Nat → List AV, B = fun k => Jtiw (fRow k) := ⟨_, rfl⟩
 have hB0 : Jtiw (fRow 0) = B 0 := by rw [hB]
 have hBl : ∀ k, k ≤ 31 → (B k).length = 155 := fun k hk => by rw [hB]; simp only; rw [Jtj2 (Jt8d k), Jt8f hk]
 have hBw : ∀ {H : List Blk} {n k : Nat}, k < 31 → WkB H n (.mem (List.take (k * 5) (B k) ++ AV.nils :: AI 3 :: AI 0 :: AI 0 :: AI 0 :: List.drop (k * 5 + 5) (B k))) (.mem (B (k + 1))) := by
  intro H n k hk
  have := Jt4f (H := H) (n := n) (k := k) (xs := [I 3, I 0, I 0, I 0]) (rows := fRow k) (Jt8d k) (by rw [Jt8f (by omega)]; exact hk)
  rw [show (D.sl [] :: [I 3, I 0, I 0, I 0]) = rrow from rfl, Jt8e hk] at this
  rw [hB]; simpa using this
 have hBs : ∀ {H : List Blk} {n k : Nat}, WkB H n (.mem (B k)) (.mem (B k)) := by intro H n k; rw [hB]; exact Jt4d _
 rw [hB0]
 (simp (maxSteps := 1000000) [])
 refine Jtd (fun k : Nat => ⟨[(10, AI k), (9, .hsl 2 0 5 31), (5, .ptr 1 0), (4, .ptr 0 0), (2, AI regs), (3, AI slots)],
  [.mem [.d (.sl (code.map Instr.row)), AI kind, AI ta, AI to, AI els], .mem [.d (.sl (mcode.map Mach.row)), AI mkind, AI mta, AI mto, AI mels], .mem (B k)]⟩) (fun k => k ≤ 31) (fun k => 31 - k) 0 (by simp) ?_ ?_
 ·refine Wk.of ?_ ?_ (by simp) <;> repeat' (first | exact hBs | (first | exact True.intro | exact ⟨_, rfl, Jtmp rfl⟩ | exact ⟨_, rfl, Jtmn rfl⟩ | exact ⟨_, rfl, .inl .nild⟩ | exact ⟨_, rfl, .inl .nile⟩ | exact ⟨_, rfl, Jtmo⟩ | exact Jtmp rfl | exact Jtmn rfl | exact .inl .nild | exact .inl .nile | exact Jtmo | exact WkB.same rfl | exact Jt4g | exact Jt4e | exact .dead _ | exact .iter _ _ | exact .glob _ _ | refine Jt4c ?_ ?_ | refine And.intro ?_ ?_))
 intro k hk N hN
 (simp (maxSteps := 1000000) [])
 ((first | refine Xc (fun h2 => ?_) (fun h2 => ?_) | refine Xo (fun h2 => ?_) (fun h2 => ?_)) <;> (try simp only [Xz, Xy] at h2))
 ·have hkl : k < 31 := by omega
  have hw := Jtmv (k := k) (by omega)
  have hfit : k * 5 + 5 ≤ (B k).length := by rw [hBl k hk]; omega
  (simp (maxSteps := 1000000) [h2, hfit, hw])
  exact hN _ (k + 1) hkl (by refine Wk.of ?_ ?_ (by simp) <;> repeat' (first | exact hBw hkl | (first | exact True.intro | exact ⟨_, rfl, Jtmp rfl⟩ | exact ⟨_, rfl, Jtmn rfl⟩ | exact ⟨_, rfl, .inl .nild⟩ | exact ⟨_, rfl, .inl .nile⟩ | exact ⟨_, rfl, Jtmo⟩ | exact Jtmp rfl | exact Jtmn rfl | exact .inl .nild | exact .inl .nile | exact Jtmo | exact WkB.same rfl | exact Jt4g | exact Jt4e | exact .dead _ | exact .iter _ _ | exact .glob _ _ | refine Jt4c ?_ ?_ | refine And.intro ?_ ?_))) (by omega)
 ·have hkl : k = 31 := by omega
  subst hkl
  (simp (maxSteps := 1000000) [h2])
  rw [Je6w]
  have h31 : ∀ r ∈ (fRow 31).set 0 rb, r.length = 5 := by
   intro r hr
   rcases List.mem_or_eq_of_mem_set hr with h | h
   ·exact Jt8d 31 r h
   ·rw [h, hrb]; rfl
  have h31m : ∀ r ∈ (fRow 31).set 0 rm, r.length = 5 := by
   intro r hr
   rcases List.mem_or_eq_of_mem_set hr with h | h
   ·exact Jt8d 31 r h
   ·rw [h, hrm]; rfl
  have hl31 : ((fRow 31).set 0 rb).length = 31 := by simp [fRow]
  have hl31m : ((fRow 31).set 0 rm).length = 31 := by simp [fRow]
  have hBr : List.take 0 (B 31) ++ [AV.d (.sl (code.map Instr.row)), AI kind, AI ta, AI to, AI els] ++ List.drop 5 (B 31) = Jtiw ((fRow 31).set 0 rb) := by
   have := Jtkh (rows := fRow 31) (e := 5) (k := 0) (row := rb) (Jt8d 31) (by rw [hrb]; rfl) (by rw [Jt8f (Nat.le_refl _)]; decide)
   rw [← this, hB, hrb]; rfl
  have hBm : List.take 0 (B 31) ++ [AV.d (.sl (mcode.map Mach.row)), AI mkind, AI mta, AI mto, AI mels] ++ List.drop 5 (B 31) = Jtiw ((fRow 31).set 0 rm) := by
   have := Jtkh (rows := fRow 31) (e := 5) (k := 0) (row := rm) (Jt8d 31) (by rw [hrm]; rfl) (by rw [Jt8f (Nat.le_refl _)]; decide)
   rw [← this, hB, hrm]; rfl
  obtain ⟨F7, hF7⟩ : ∃ x, x = (fRow 31).set 0 rb := ⟨_, rfl⟩
  obtain ⟨F8, hF8⟩ : ∃ x, x = (fRow 31).set 0 rm := ⟨_, rfl⟩
  rw [← hF7] at h7 hBr h31 hl31
  rw [← hF8] at h8 hBm h31m hl31m
  have hfit : 5 ≤ (B 31).length := by rw [hBl 31 (Nat.le_refl _)]; decide
  refine Jte ⟨[(9, .d (.sl F7)), (5, .ptr 1 0), (2, AI regs), (3, AI slots)], [.mem [.d (.sl (code.map Instr.row)), AI kind, AI ta, AI to, AI els], .mem [.d (.sl (mcode.map Mach.row)), AI mkind, AI mta, AI mto, AI mels]]⟩ (fun N hN => ?_) ?_
  ·(simp (maxSteps := 1000000) [hfit])
   have hBr' : (AV.d (.sl (code.map Instr.row)) :: AI kind :: AI ta :: AI to :: AI els :: List.drop 5 (B 31)) = Jtiw F7 := by simpa using hBr
   rw [hBr']
   exact hN _ (by refine Wk.of ?_ ?_ (by simp) <;> repeat' (first | exact ⟨_, rfl, Jt4l rfl (Nat.le_refl _) hl31 h31⟩ | (first | exact True.intro | exact ⟨_, rfl, Jtmp rfl⟩ | exact ⟨_, rfl, Jtmn rfl⟩ | exact ⟨_, rfl, .inl .nild⟩ | exact ⟨_, rfl, .inl .nile⟩ | exact ⟨_, rfl, Jtmo⟩ | exact Jtmp rfl | exact Jtmn rfl | exact .inl .nild | exact .inl .nile | exact Jtmo | exact WkB.same rfl | exact Jt4g | exact Jt4e | exact .dead _ | exact .iter _ _ | exact .glob _ _ | refine Jt4c ?_ ?_ | refine And.intro ?_ ?_)))
  (simp (maxSteps := 1000000) [])
  (refine Jty h7 (by rfl) (by rfl) ?_)
  by_cases z7 : e7 = 0
  ·rw [if_neg (by simpa using z7)] at hs
   (simp (maxSteps := 1000000) [z7])
   refine Jt23 (n := 31) (by rfl) (by rfl) (by decide) (by decide) (by decide) (by rfl) ?_
   rw [hz, hB0]
   (simp (maxSteps := 1000000) [])
   refine Jtd (fun k : Nat => ⟨[(12, AI k), (11, .hsl 2 0 5 31), (5, .ptr 1 0), (2, AI regs), (3, AI slots)],
    [.mem [.d (.sl (code.map Instr.row)), AI kind, AI ta, AI to, AI els], .mem [.d (.sl (mcode.map Mach.row)), AI mkind, AI mta, AI mto, AI mels], .mem (B k)]⟩) (fun k => k ≤ 31) (fun k => 31 - k) 0 (by simp) ?_ ?_
   ·refine Wk.of ?_ ?_ (by simp) <;> repeat' (first | exact hBs | (first | exact True.intro | exact ⟨_, rfl, Jtmp rfl⟩ | exact ⟨_, rfl, Jtmn rfl⟩ | exact ⟨_, rfl, .inl .nild⟩ | exact ⟨_, rfl, .inl .nile⟩ | exact ⟨_, rfl, Jtmo⟩ | exact Jtmp rfl | exact Jtmn rfl | exact .inl .nild | exact .inl .nile | exact Jtmo | exact WkB.same rfl | exact Jt4g | exact Jt4e | exact .dead _ | exact .iter _ _ | exact .glob _ _ | refine Jt4c ?_ ?_ | refine And.intro ?_ ?_))
   intro k hk N hN
   (simp (maxSteps := 1000000) [])
   ((first | refine Xc (fun h2 => ?_) (fun h2 => ?_) | refine Xo (fun h2 => ?_) (fun h2 => ?_)) <;> (try simp only [Xz, Xy] at h2))
   ·have hkl : k < 31 := by omega
    have hw := Jtmv (k := k) (by omega)
    have hfit : k * 5 + 5 ≤ (B k).length := by rw [hBl k hk]; omega
    (simp (maxSteps := 1000000) [h2, hfit, hw])
    exact hN _ (k + 1) hkl (by refine Wk.of ?_ ?_ (by simp) <;> repeat' (first | exact hBw hkl | (first | exact True.intro | exact ⟨_, rfl, Jtmp rfl⟩ | exact ⟨_, rfl, Jtmn rfl⟩ | exact ⟨_, rfl, .inl .nild⟩ | exact ⟨_, rfl, .inl .nile⟩ | exact ⟨_, rfl, Jtmo⟩ | exact Jtmp rfl | exact Jtmn rfl | exact .inl .nild | exact .inl .nile | exact Jtmo | exact WkB.same rfl | exact Jt4g | exact Jt4e | exact .dead _ | exact .iter _ _ | exact .glob _ _ | refine Jt4c ?_ ?_ | refine And.intro ?_ ?_))) (by omega)
   ·have hkl : k = 31 := by omega
    subst hkl
    (simp (maxSteps := 1000000) [h2])
    rw [Je6v]
    refine Jte ⟨[(11, .d (.sl F8)), (2, AI regs), (3, AI slots)], []⟩ (fun N hN => ?_) ?_
    ·(simp (maxSteps := 1000000) [hfit])
     have hBr' : (AV.d (.sl (mcode.map Mach.row)) :: AI mkind :: AI mta :: AI mto :: AI mels :: List.drop 5 (B 31)) = Jtiw F8 := by simpa using hBm
     rw [hBr']
     exact hN _ (by refine Wk.of ?_ ?_ (by simp) <;> repeat' (first | exact ⟨_, rfl, Jt4l rfl (Nat.zero_le _) hl31m h31m⟩ | (first | exact True.intro | exact ⟨_, rfl, Jtmp rfl⟩ | exact ⟨_, rfl, Jtmn rfl⟩ | exact ⟨_, rfl, .inl .nild⟩ | exact ⟨_, rfl, .inl .nile⟩ | exact ⟨_, rfl, Jtmo⟩ | exact Jtmp rfl | exact Jtmn rfl | exact .inl .nild | exact .inl .nile | exact Jtmo | exact WkB.same rfl | exact Jt4g | exact Jt4e | exact .dead _ | exact .iter _ _ | exact .glob _ _ | refine Jt4c ?_ ?_ | refine And.intro ?_ ?_)))
    (simp (maxSteps := 1000000) [])
    (refine Jty h8 (by rfl) (by rfl) ?_)
    (simp (maxSteps := 1000000) [])
    (first | exact hR _ _ FrA | exact hR _ _ FnA | exact hR _ _ (Xf (hq := by simp [AV.erase, AV.unview, hs]; done)))
  ·rw [if_pos z7] at hs
   have zb : (e7 == 0) = false := by simpa using z7
   (simp (maxSteps := 1000000) [z7, zb])
   (first | exact hR _ _ FrA | exact hR _ _ FnA | exact hR _ _ (Xf (hq := by simp [AV.erase, AV.unview, hs]; done)))
end
section
end
section
end
section
end
def okC (r : CR) : Prop := ∀ e, r.2 = some e → e.1 ≠ 0
theorem okC.then {r : CR} {f : CS → CR} (h : okC r) (hf : ∀ s, okC (f s)) : okC (thenC r f) := by
 obtain ⟨s, e⟩ := r
 cases e with
 | none => exact hf s
 | some e => exact h
structure Inv14 (V L : List Int) (most : Int) (code : List Instr) (mcode : List Mach) (rows : List ARow) (T : CR) (x : Nat × CR) : Prop where
 le : x.1 ≤ rows.length
 eq : thenC x.2 (rowsC most code mcode (rows.drop x.1)) = T
 ok : okC x.2
 room : x.2.2 = none → Room V L x.2.1 (1 + needRs (rows.drop x.1))
theorem bne0 {e : Int} (h : e ≠ 0) : (e == 0) = false := by simpa using h
section
end
section
end
def vOf (b : Block) (l : List Pair) : List Int := l.map Pair.v ++ b.code.map Instr.d
def lOf (m : MBlock) (l : List Pair) : List Int := l.map Pair.l ++ (m.code.map Mach.dst ++ m.code.map fun x => regZ x.d)
theorem Jtmh (b : Block) (m : MBlock) (l : List Pair) : VLOk (vOf b l) (lOf m l) b.code m.code :=
 ⟨fun i hi => List.mem_append_right _ (List.mem_map_of_mem hi), fun x hx => ⟨List.mem_append_right _ (List.mem_append_left _ (List.mem_map_of_mem hx)), List.mem_append_right _ (List.mem_append_right _ (List.mem_map.2 ⟨x, hx, rfl⟩))⟩⟩
theorem Jtmg {b : Block} {m : MBlock} {l : List Pair} (hl : l.length ≤ 80) (hb : b.code.length ≤ 60) (hm : m.code.length ≤ 200) : (vOf b l).length * (lOf m l).length < 100000 := by
 have h1 : (vOf b l).length ≤ 140 := by simp [vOf]; omega
 have h2 : (lOf m l).length ≤ 480 := by simp [lOf]; omega
 have := Nat.mul_le_mul h1 h2
 omega
theorem Jtj5 {V L : List Int} {most : Int} {b : List Instr} {m : List Mach} (hv : VLOk V L b m) : ∀ {rs : List ARow} {s : CS} {n : Nat}, Room V L s (n + needRs rs) → (∀ r ∈ rs, RowOk b m r) → Room V L (rowsC most b m rs s).1 n := by
 intro rs
 induction rs with
 | nil => intro s n h _; simpa [needRs, rowsC] using h
 | cons r rs ih =>
  intro s n h hr
  rw [Jtfe] at h
  have hro := hr r (by simp)
  have hl1 : ((m.take r.mt).drop r.mf).length = r.mt - r.mf := by have := hro.hm; simp; omega
  have hl2 : ((b.take r.ct).drop r.cf).length = r.ct - r.cf := by have := hro.hc; simp; omega
  have h1 := Jtiv (n := n + needRs rs) (most := most) (r := r) (h.mono (by rw [hl1, hl2]; unfold needR; omega)) hv
  simp only [rowsC]
  generalize rowC most b m r s = q at h1
  obtain ⟨s1, e⟩ := q
  cases e with
  | some e => rw [Jtlu]; exact h1.mono (by omega)
  | none => rw [Jtlt]; exact ih h1 fun r hr' => hr r (by simp [hr'])
theorem Jtja {V L : List Int} {most : Int} {b : Block} {m : MBlock} (hv : VLOk V L b.code m.code) {rs : List ARow} {s : CS} {n : Nat} (h : Room V L s (n + 1 + needRs rs)) (hr : ∀ r ∈ rs, RowOk b.code m.code r) : Room V L (runC most b m rs s).1 n := by
 unfold runC
 have h1 := Jtj5 (most := most) hv h hr
 generalize rowsC most b.code m.code rs s = q at h1
 obtain ⟨s1, e⟩ := q
 cases e with
 | some e => rw [Jtlu]; exact h1.mono (by omega)
 | none =>
  rw [Jtlt]
  split
  ·exact h1.mono (by omega)
  ·exact h1.use _ _ _
theorem Jt6s {V L : List Int} {b : Block} {m : MBlock} {l : List Pair} {most : Int} (hl : ∀ q ∈ l, q.v ∈ V ∧ q.l ∈ L) (hv : VLOk V L b.code m.code) (few : V.length * L.length < 100000) (hl0 : l.length < 100000)
  (hb0 : b.code.length ≤ 1000) (hm0 : m.code.length ≤ 1000) : (checkZ b m l most).largest < 100000 ∧ ∀ q ∈ (checkZ b m l most).out, q.v ∈ V ∧ q.l ∈ L := by
 obtain ⟨a1, a2, a3⟩ := Jt52 b.code m.code
 unfold checkZ
 split
 ·exact ⟨hl0, fun q hq => by simp at hq⟩
 ·by_cases h2 : (if (alignZ b.code m.code).2.2 = 0 ∧ termsZ b.term m.term = false then 20 else (alignZ b.code m.code).2.2) ≠ 0
  ·simp only [if_pos h2]; exact ⟨hl0, fun q hq => by simp at hq⟩
  ·simp only [if_neg h2]
   have hover : Over V L (makeP l) := ⟨Jtkp l, fun q hq => hl q (Jteq.1 hq)⟩
   have hroom : Room V L ⟨makeP l, 0, l.length⟩ (0 + 1 + needRs (alignZ b.code m.code).1) := by
    refine ⟨hover, few, ?_, by simp only; omega⟩
    have h1 := Jtff a1
    have h2 : (alignZ b.code m.code).1.length * (3 + m.code.length + b.code.length) ≤ 1001 * 2003 := Nat.mul_le_mul (by omega) (by omega)
    simp only
    omega
   have hr := Jtja (most := most) hv hroom a1
   generalize runC most b m (alignZ b.code m.code).1 ⟨makeP l, 0, l.length⟩ = r at hr
   obtain ⟨t, e⟩ := r
   refine ⟨hr.lg, fun q hq => ?_⟩
   simp only at hq
   split at hq
   ·exact hr.over.mem q hq
   ·simp at hq
section
theorem Jt6u {P : Program} {p : Nums} (A : All P p) (S : SortOk P p) (C : ClosOk P p) (b : Block) (m : MBlock) (l : List Pair) (most : Int) (hl : l.length ≤ 80) (hb : b.code.length ≤ 60) (hm : m.code.length ≤ 200) : Jt3w P p.blockcheck_Check [b.av, m.av, .d (pairsD l), AI most] [] fun o _ => o = .ret (checkZ b m l most).av :=
 Jt5u A S C b m l most (fun q hq => ⟨List.mem_append_left _ (List.mem_map_of_mem hq), List.mem_append_left _ (List.mem_map_of_mem hq)⟩) (Jtmh b m l) (Jtmg hl hb hm) (by omega) (by omega) (by omega)
end
def exB : Block := ⟨[⟨17, 0, 0, 0, 0⟩], ⟨1, 0, 0, 0⟩⟩
def exM : MBlock := ⟨[⟨18, 0, 0, 0, 0, 2, 1⟩, ⟨17, 0, 1, 0, 0, 0, 0⟩], ⟨1, 0, 0, 0⟩⟩
def exN : MBlock := ⟨[⟨17, 0, 1, 0, 0, 0, 0⟩], ⟨1, 0, 0, 0⟩⟩
section
set_option maxRecDepth 10000 in
theorem Jtd8 {P : Program} {p : Nums} (A : All P p) (S : SortOk P p) (C : ClosOk P p) : Jt3w P p.law14_awake [] [] fun o _ => o = .ret (AB true) := by
 refine A.law14_awake.run rfl fun R hR => ?_
 have h1 := Jt6u A S C exB exM [⟨0, 1⟩] 9 (by decide) (by decide) (by decide)
 have h2 := Jt6u A S C exB exN [⟨0, 1⟩] 9 (by decide) (by decide) (by decide)
 have h3 := Jt6u A S C exB exM [⟨0, 1⟩] 1 (by decide) (by decide) (by decide)
 have e1 : checkZ exB exM [⟨0, 1⟩] 9 = ⟨[⟨0, 1⟩, ⟨0, 2⟩], 0, 2, 5, 2⟩ := by decide +kernel
 have e2 : checkZ exB exN [⟨0, 1⟩] 9 = ⟨[], 21, 0, 2, 1⟩ := by decide +kernel
 have e3 : checkZ exB exM [⟨0, 1⟩] 1 = ⟨[], 24, 0, 2, 2⟩ := by decide +kernel
 rw [e1] at h1
 rw [e2] at h2
 rw [e3] at h3
 simp only [Res.av] at h1 h2 h3
 have hm := Jthq A [⟨0, 1⟩, ⟨0, 2⟩] [⟨0, 1⟩, ⟨0, 2⟩] (by decide) (by decide)
 rw [decide_eq_true rfl] at hm
 (simp (maxSteps := 1000000) [Jtaz])
 (refine Jty h1 (by rfl) (by rfl) ?_)
 (simp (maxSteps := 1000000) [])
 (refine Jty h2 (by rfl) (by rfl) ?_)
 (simp (maxSteps := 1000000) [])
 (refine Jty h3 (by rfl) (by rfl) ?_)
 (simp (maxSteps := 1000000) [])
 (refine Jty hm (by rfl) (by rfl) ?_)
 (simp (maxSteps := 1000000) [pairsD])
 (first | exact hR _ _ FrA | exact hR _ _ FnA)
end
def Jte6 : List LT := [ltI, ltI, ltI, ltI, ltI]
def Jte5 : List LT := [.sl Jte6, ltI, ltI, ltI, ltI]
theorem Jtck {r : List D} (h : HasL Jte6 r) : ∃ i : Instr, r = i.row := by
 obtain ⟨_, _, rfl, h0, h⟩ := h.cons_inv
 obtain ⟨_, _, rfl, h1, h⟩ := h.cons_inv
 obtain ⟨_, _, rfl, h2, h⟩ := h.cons_inv
 obtain ⟨_, _, rfl, h3, h⟩ := h.cons_inv
 obtain ⟨_, _, rfl, h4, h⟩ := h.cons_inv
 obtain rfl := h.nil_inv
 obtain ⟨a, rfl, _⟩ := h0.int_inv
 obtain ⟨b, rfl, _⟩ := h1.int_inv
 obtain ⟨c, rfl, _⟩ := h2.int_inv
 obtain ⟨d, rfl, _⟩ := h3.int_inv
 obtain ⟨e, rfl, _⟩ := h4.int_inv
 exact ⟨⟨a, b, c, d, e⟩, rfl⟩
theorem Jt5s {r : List D} (h : HasL Jte5 r) : ∃ b : Block, r = b.row := by
 obtain ⟨_, _, rfl, h0, h⟩ := h.cons_inv
 obtain ⟨_, _, rfl, h1, h⟩ := h.cons_inv
 obtain ⟨_, _, rfl, h2, h⟩ := h.cons_inv
 obtain ⟨_, _, rfl, h3, h⟩ := h.cons_inv
 obtain ⟨_, _, rfl, h4, h⟩ := h.cons_inv
 obtain rfl := h.nil_inv
 obtain ⟨rows, rfl, _, hr⟩ := h0.sl_inv
 obtain ⟨code, rfl⟩ := Jtj7 (fun r hr => Jtck hr) hr
 obtain ⟨b, rfl, _⟩ := h1.int_inv
 obtain ⟨c, rfl, _⟩ := h2.int_inv
 obtain ⟨d, rfl, _⟩ := h3.int_inv
 obtain ⟨e, rfl, _⟩ := h4.int_inv
 exact ⟨⟨code, ⟨b, c, d, e⟩⟩, rfl⟩
def ltMach : List LT := [ltI, ltI, ltI, ltI, ltI, ltI, ltI]
def Jte7 : List LT := [.sl ltMach, ltI, ltI, ltI, ltI]
theorem Jtcn {d : D} (h : HasT ltI d) : ∃ n, d = I n ∧ okZ n := by
 obtain ⟨n, rfl, hw⟩ := h.int_inv
 refine ⟨n, rfl, ?_⟩
 simp [Lit.wf, IntKind.min, IntKind.max, IntKind.signed, IntKind.bits] at hw
 exact ⟨by omega, by omega⟩
theorem Jtea {r : List D} (h : HasL ltMach r) : ∃ i : Mach, r = i.row ∧ okZ i.dst ∧ okZ i.src := by
 obtain ⟨_, _, rfl, h0, h⟩ := h.cons_inv
 obtain ⟨_, _, rfl, h1, h⟩ := h.cons_inv
 obtain ⟨_, _, rfl, h2, h⟩ := h.cons_inv
 obtain ⟨_, _, rfl, h3, h⟩ := h.cons_inv
 obtain ⟨_, _, rfl, h4, h⟩ := h.cons_inv
 obtain ⟨_, _, rfl, h5, h⟩ := h.cons_inv
 obtain ⟨_, _, rfl, h6, h⟩ := h.cons_inv
 obtain rfl := h.nil_inv
 obtain ⟨a, rfl, _⟩ := h0.int_inv
 obtain ⟨b, rfl, _⟩ := h1.int_inv
 obtain ⟨c, rfl, _⟩ := h2.int_inv
 obtain ⟨d, rfl, _⟩ := h3.int_inv
 obtain ⟨e, rfl, _⟩ := h4.int_inv
 obtain ⟨f, rfl, o5⟩ := Jtcn h5
 obtain ⟨g, rfl, o6⟩ := Jtcn h6
 exact ⟨⟨a, b, c, d, e, f, g⟩, rfl, o5, o6⟩
theorem Jteb {rows : List (List D)} (h : ∀ r ∈ rows, HasL ltMach r) : ∃ l : List Mach, rows = l.map Mach.row ∧ ∀ x ∈ l, okZ x.dst ∧ okZ x.src := by
 induction rows with
 | nil => exact ⟨[], rfl, by simp⟩
 | cons r rows ih =>
  obtain ⟨a, rfl, ha⟩ := Jtea (h r (by simp))
  obtain ⟨l, rfl, hb⟩ := ih fun r hr => h r (by simp [hr])
  refine ⟨a :: l, rfl, fun n hn => ?_⟩
  rcases List.mem_cons.1 hn with rfl | hn
  ·exact ha
  ·exact hb n hn
theorem Jtej {r : List D} (h : HasL Jte7 r) : ∃ b : MBlock, r = b.row ∧ okM b := by
 obtain ⟨_, _, rfl, h0, h⟩ := h.cons_inv
 obtain ⟨_, _, rfl, h1, h⟩ := h.cons_inv
 obtain ⟨_, _, rfl, h2, h⟩ := h.cons_inv
 obtain ⟨_, _, rfl, h3, h⟩ := h.cons_inv
 obtain ⟨_, _, rfl, h4, h⟩ := h.cons_inv
 obtain rfl := h.nil_inv
 obtain ⟨rows, rfl, _, hr⟩ := h0.sl_inv
 obtain ⟨code, rfl, hok⟩ := Jteb hr
 obtain ⟨b, rfl, _⟩ := h1.int_inv
 obtain ⟨c, rfl, _⟩ := h2.int_inv
 obtain ⟨d, rfl, _⟩ := h3.int_inv
 obtain ⟨e, rfl, _⟩ := h4.int_inv
 exact ⟨⟨code, ⟨b, c, d, e⟩⟩, rfl, hok⟩
theorem Jtei {ds : List D} (h : HasL Jte7 ds) : ∃ b : MBlock, .agg (ds.map AV.d) = b.av ∧ okM b := by
 obtain ⟨b, rfl, hb⟩ := Jtej h
 exact ⟨b, rfl, hb⟩
theorem Jt5r {ds : List D} (h : HasL Jte5 ds) : ∃ b : Block, .agg (ds.map AV.d) = b.av := by
 obtain ⟨b, rfl⟩ := Jt5s h
 exact ⟨b, rfl⟩
abbrev AW64 (n : Int) : AV := .d (.int .u64 n)
def divsZ : Nat → Int → Int
 | 0, n => n
 | k + 1, n => divsZ k (IntKind.u64.wrap (n.tdiv 2))
def bitZ (n : Int) (k : Nat) : Bool := (divsZ k n).tmod 2 == 1
def truthZ (b : Bool) : Int := if b = true then 1 else 0
def halfZ (a : Int) : Int := if a < 0 ∧ a.tmod 2 ≠ 0 then IntKind.i64.wrap (IntKind.i64.wrap (a.tdiv 2) - 1) else IntKind.i64.wrap (a.tdiv 2)
def ixZ (a b : Int) (i : Nat) : Nat := (if bitZ (IntKind.u64.wrap a) i = true then 2 else 0) + if bitZ (IntKind.u64.wrap b) i = true then 1 else 0
def bitsZ (a b : Int) (t : Nat → Bool) : Nat → Nat → Int → Int → Int
 | 0, i, out, p => IntKind.i64.wrap out
 | r + 1, i, out, p => bitsZ a b t r (i + 1) (if t (ixZ a b i) = true then IntKind.u64.wrap (out + p) else out) (IntKind.u64.wrap (p * 2))
def shZ (op : Int) : Nat → Int → Int
 | 0, a => a
 | k + 1, a => shZ op k (if op = 13 then IntKind.i64.wrap (a * 2) else halfZ a)
def tabD (t : Nat → Bool) : List (List D) := [[.bool (t 0)], [.bool (t 1)], [.bool (t 2)], [.bool (t 3)]]
section
theorem Jth7 {P : Program} {p : Nums} (A : All P p) (b : Bool) : Jt3w P p.ref06_truth [AB b] [] fun o _ => o = .ret (AI (truthZ b)) := by
 refine A.ref06_truth.run rfl fun R hR => ?_
 cases b <;> (simp (maxSteps := 1000000) [Jtbn]) <;> (first | exact hR _ _ FrA | exact hR _ _ FnA | exact hR _ _ (Xf (hq := by simp [AV.erase, AV.unview, truthZ]; done)))
theorem Jth6 {P : Program} {p : Nums} (A : All P p) (a : Int) : Jt3w P p.ref06_half [AI a] [] fun o _ => o = .ret (AI (halfZ a)) := by
 refine A.ref06_half.run rfl fun R hR => ?_
 have hs : halfZ a = halfZ a := rfl
 conv at hs => rhs; unfold halfZ
 by_cases h1 : a < 0
 ·by_cases h2 : a.tmod 2 = 0
  ·rw [if_neg (fun h => h.2 h2)] at hs
   (simp (maxSteps := 1000000) [Jtbm, h1, h2])
   (first | exact hR _ _ FrA | exact hR _ _ FnA | exact hR _ _ (Xf (hq := by simp [AV.erase, AV.unview, hs]; done)))
  ·have h2b : (a.tmod 2 == 0) = false := by simpa using h2
   rw [if_pos ⟨h1, h2⟩] at hs
   (simp (maxSteps := 1000000) [Jtbm, h1, h2, h2b])
   (first | exact hR _ _ FrA | exact hR _ _ FnA | exact hR _ _ (Xf (hq := by simp [AV.erase, AV.unview, hs]; done)))
 ·rw [if_neg (fun h => h1 h.1)] at hs
  (simp (maxSteps := 1000000) [Jtbm, h1])
  (first | exact hR _ _ FrA | exact hR _ _ FnA | exact hR _ _ (Xf (hq := by simp [AV.erase, AV.unview, hs]; done)))
theorem Jth4 {P : Program} {p : Nums} (A : All P p) (n : Int) (i : Nat) (hi : i ≤ 64) : Jt3w P p.ref06_bit [AW64 n, AI i] [] fun o _ => o = .ret (AB (bitZ n i)) := by
 refine A.ref06_bit.run rfl fun R hR => ?_
 (simp (maxSteps := 1000000) [Jtbk])
 refine Jtd (fun x : Nat × Int => ⟨[(5, AI x.1), (1, AI i), (0, AW64 x.2)], []⟩) (fun x => x.1 ≤ i ∧ divsZ (i - x.1) x.2 = divsZ i n) (fun x => i - x.1) (0, n) (by simp) (by (exact wkA)) ?_
 rintro ⟨k, m⟩ ⟨hk, hs⟩ N hN
 simp only at hk hs
 (simp (maxSteps := 1000000) [])
 ((first | refine Xc (fun h2 => ?_) (fun h2 => ?_) | refine Xo (fun h2 => ?_) (fun h2 => ?_)) <;> (try simp only [Xz, Xy] at h2))
 ·have hkl : k < i := by simpa using h2
  have hw := Jtmv (k := k) (by omega)
  rw [show i - k = (i - (k + 1)) + 1 by omega] at hs
  simp only [divsZ] at hs
  (simp (maxSteps := 1000000) [h2, hw])
  exact hN _ (k + 1, _) ⟨hkl, hs⟩ (by (exact wkA)) (by simp only; omega)
 ·have hkl : k = i := by simp at h2; omega
  subst hkl
  rw [Nat.sub_self] at hs
  simp only [divsZ] at hs
  (simp (maxSteps := 1000000) [h2, hs])
  (first | exact hR _ _ FrA | exact hR _ _ FnA | exact hR _ _ (Xf (hq := by simp [AV.erase, AV.unview, bitZ]; done)))
theorem Jth5 {P : Program} {p : Nums} (A : All P p) (a b : Int) (t : Nat → Bool) : Jt3w P p.ref06_bits [AI a, AI b, .d (.sl (tabD t))] [] fun o _ => o = .ret (AI (bitsZ a b t 64 0 0 1)) := by
 refine A.ref06_bits.run rfl fun R hR => ?_
 obtain ⟨T, hT⟩ : ∃ T, T = bitsZ a b t 64 0 0 1 := ⟨_, rfl⟩
 rw [← hT] at hR
 (simp (maxSteps := 1000000) [Jtbl])
 refine Jtd (fun x : Nat × Int × Int => ⟨[(9, AI x.1), (7, AW64 x.2.1), (8, AW64 x.2.2), (0, AI a), (1, AI b), (2, .d (.sl (tabD t)))], []⟩) (fun x => x.1 ≤ 64 ∧ bitsZ a b t (64 - x.1) x.1 x.2.1 x.2.2 = T) (fun x => 64 - x.1) (0, 0, 1) (by simp [hT]) (by (exact wkA)) ?_
 rintro ⟨k, out, q⟩ ⟨hk, hs⟩ N hN
 simp only at hk hs
 (simp (maxSteps := 1000000) [])
 ((first | refine Xc (fun h2 => ?_) (fun h2 => ?_) | refine Xo (fun h2 => ?_) (fun h2 => ?_)) <;> (try simp only [Xz, Xy] at h2))
 ·have hkl : k < 64 := by omega
  have hw := Jtmv (k := k) (by omega)
  rw [show 64 - k = (64 - (k + 1)) + 1 by omega] at hs
  simp only [bitsZ] at hs
  have hix : ixZ a b k = (if bitZ (IntKind.u64.wrap a) k = true then 2 else 0) + if bitZ (IntKind.u64.wrap b) k = true then 1 else 0 := rfl
  have hb1 := Jth4 A (IntKind.u64.wrap a) k hk
  have hb2 := Jth4 A (IntKind.u64.wrap b) k hk
  obtain ⟨x, hx⟩ : ∃ x, x = bitZ (IntKind.u64.wrap a) k := ⟨_, rfl⟩
  obtain ⟨y, hy⟩ : ∃ x, x = bitZ (IntKind.u64.wrap b) k := ⟨_, rfl⟩
  rw [← hx] at hb1 hix
  rw [← hy] at hb2 hix
  (simp (maxSteps := 1000000) [h2])
  (refine Jty hb1 (by rfl) (by rfl) ?_)
  cases x <;> cases y <;> simp at hix <;> rw [hix] at hs
  all_goals (
   (simp (maxSteps := 1000000) [])
   (refine Jty hb2 (by rfl) (by rfl) ?_)
   (simp (maxSteps := 1000000) [tabD, IntKind.wrap_i64]))
  ·cases h0 : t 0 <;> simp only [h0, if_true, Bool.false_eq_true, if_false] at hs <;> (simp (maxSteps := 1000000) [h0, hw]) <;> exact hN _ (k + 1, _, _) ⟨hkl, hs⟩ (by simp only [tabD, h0]; (exact wkA)) (by simp only; omega)
  ·cases h0 : t 1 <;> simp only [h0, if_true, Bool.false_eq_true, if_false] at hs <;> (simp (maxSteps := 1000000) [h0, hw]) <;> exact hN _ (k + 1, _, _) ⟨hkl, hs⟩ (by simp only [tabD, h0]; (exact wkA)) (by simp only; omega)
  ·cases h0 : t 2 <;> simp only [h0, if_true, Bool.false_eq_true, if_false] at hs <;> (simp (maxSteps := 1000000) [h0, hw]) <;> exact hN _ (k + 1, _, _) ⟨hkl, hs⟩ (by simp only [tabD, h0]; (exact wkA)) (by simp only; omega)
  ·cases h0 : t 3 <;> simp only [h0, if_true, Bool.false_eq_true, if_false] at hs <;> (simp (maxSteps := 1000000) [h0, hw]) <;> exact hN _ (k + 1, _, _) ⟨hkl, hs⟩ (by simp only [tabD, h0]; (exact wkA)) (by simp only; omega)
 ·have hkl : k = 64 := by omega
  subst hkl
  rw [Nat.sub_self] at hs
  simp only [bitsZ] at hs
  (simp (maxSteps := 1000000) [h2])
  (first | exact hR _ _ FrA | exact hR _ _ FnA | exact hR _ _ (Xf (hq := by simp [AV.erase, AV.unview, hs]; done)))
end
def tAnd : Nat → Bool := fun n => n == 3
def tOr : Nat → Bool := fun n => n != 0
def tXor : Nat → Bool := fun n => n == 1 || n == 2
def quoZ (a b : Int) : Int := if b = -1 then IntKind.i64.wrap (0 - a) else IntKind.i64.wrap (a.tdiv b)
def cntZ (b : Int) : Int := IntKind.i64.wrap ((IntKind.u64.wrap b).tmod 64)
def evalZ (op a b imm : Int) : Int × Bool :=
 if op = 1 then (imm, true) else if op = 2 then (a, true) else if op = 3 then (IntKind.i64.wrap (0 - a), true) else if op = 4 then (IntKind.i64.wrap (IntKind.i64.wrap (0 - a) - 1), true)
 else if op = 5 then (IntKind.i64.wrap (a + b), true) else if op = 6 then (IntKind.i64.wrap (a - b), true) else if op = 7 then (IntKind.i64.wrap (a * b), true)
 else if op = 8 then (if b = 0 then (0, false) else (quoZ a b, true)) else if op = 9 then (if b = 0 then (0, false) else (IntKind.i64.wrap (a - IntKind.i64.wrap (b * quoZ a b)), true))
 else if op = 10 then (bitsZ a b tAnd 64 0 0 1, true) else if op = 11 then (bitsZ a b tOr 64 0 0 1, true) else if op = 12 then (bitsZ a b tXor 64 0 0 1, true)
 else if op = 13 then (shZ 13 (cntZ b).toNat a, true) else if op = 14 then (shZ 14 (cntZ b).toNat a, true) else if op = 15 then (truthZ (a == b), true) else if op = 16 then (truthZ (decide (a < b)), true) else (0, false)
theorem Jt70 (b : Int) : cntZ b < 64 := by
 unfold cntZ
 have h1 : (IntKind.u64.wrap b).tmod 64 < 64 := Int.tmod_lt_of_pos _ (by decide)
 have h2 : -64 < (IntKind.u64.wrap b).tmod 64 := Int.lt_tmod_of_pos _ (by decide)
 rw [wrap_i64 (by omega) (by omega)]; exact h1
section
set_option maxHeartbeats 2000000 in
theorem Jth3 {P : Program} {p : Nums} (A : All P p) (op a b imm : Int) : Jt3w P p.ref06_Eval [AI op, AI a, AI b, AI imm] [] fun o _ => o = .ret (.tup [AI (evalZ op a b imm).1, AB (evalZ op a b imm).2]) := by
 refine A.ref06_Eval.run rfl fun R hR => ?_
 have hs : evalZ op a b imm = evalZ op a b imm := rfl
 conv at hs => rhs; unfold evalZ
 have hq : quoZ a b = quoZ a b := rfl
 conv at hq => rhs; unfold quoZ
 obtain ⟨⟨v, ok⟩, hT⟩ : ∃ T, T = evalZ op a b imm := ⟨_, rfl⟩
 rw [← hT] at hR hs
 (simp (maxSteps := 1000000) [Jtbj])
 by_cases o1 : op = 1
 ·subst o1
  simp only [Int.reduceEq, if_false, if_true] at hs
  (simp (maxSteps := 1000000) [])
  refine hR _ _ (Jt42 _ _ rfl (by (exact wkvA)) ?_)
  injection hs with e1 e2; subst e1; subst e2; (first | rfl | simp)
 have b1 : (op == 1) = false := by simpa using o1
 rw [if_neg o1] at hs
 by_cases o2 : op = 2
 ·subst o2
  simp only [Int.reduceEq, if_false, if_true] at hs
  (simp (maxSteps := 1000000) [])
  refine hR _ _ (Jt42 _ _ rfl (by (exact wkvA)) ?_)
  injection hs with e1 e2; subst e1; subst e2; (first | rfl | simp)
 have b2 : (op == 2) = false := by simpa using o2
 rw [if_neg o2] at hs
 by_cases o3 : op = 3
 ·subst o3
  simp only [Int.reduceEq, if_false, if_true] at hs
  (simp (maxSteps := 1000000) [])
  refine hR _ _ (Jt42 _ _ rfl (by (exact wkvA)) ?_)
  injection hs with e1 e2; subst e1; subst e2; (first | rfl | simp)
 have b3 : (op == 3) = false := by simpa using o3
 rw [if_neg o3] at hs
 by_cases o4 : op = 4
 ·subst o4
  simp only [Int.reduceEq, if_false, if_true] at hs
  (simp (maxSteps := 1000000) [])
  refine hR _ _ (Jt42 _ _ rfl (by (exact wkvA)) ?_)
  injection hs with e1 e2; subst e1; subst e2; (first | rfl | simp)
 have b4 : (op == 4) = false := by simpa using o4
 rw [if_neg o4] at hs
 by_cases o5 : op = 5
 ·subst o5
  simp only [Int.reduceEq, if_false, if_true] at hs
  (simp (maxSteps := 1000000) [])
  refine hR _ _ (Jt42 _ _ rfl (by (exact wkvA)) ?_)
  injection hs with e1 e2; subst e1; subst e2; (first | rfl | simp)
 have b5 : (op == 5) = false := by simpa using o5
 rw [if_neg o5] at hs
 by_cases o6 : op = 6
 ·subst o6
  simp only [Int.reduceEq, if_false, if_true] at hs
  (simp (maxSteps := 1000000) [])
  refine hR _ _ (Jt42 _ _ rfl (by (exact wkvA)) ?_)
  injection hs with e1 e2; subst e1; subst e2; (first | rfl | simp)
 have b6 : (op == 6) = false := by simpa using o6
 rw [if_neg o6] at hs
 by_cases o7 : op = 7
 ·subst o7
  simp only [Int.reduceEq, if_false, if_true] at hs
  (simp (maxSteps := 1000000) [])
  refine hR _ _ (Jt42 _ _ rfl (by (exact wkvA)) ?_)
  injection hs with e1 e2; subst e1; subst e2; (first | rfl | simp)
 have b7 : (op == 7) = false := by simpa using o7
 rw [if_neg o7] at hs
 by_cases o8 : op = 8
 ·subst o8
  simp only [Int.reduceEq, if_false, if_true] at hs
  by_cases hb : b = 0
  ·subst hb
   simp only [if_true] at hs
   (simp (maxSteps := 1000000) [])
   refine hR _ _ (Jt42 _ _ rfl (by (exact wkvA)) ?_)
   injection hs with e1 e2; subst e1; subst e2; rfl
  ·have hbb := bne0 hb
   rw [if_neg hb] at hs
   by_cases hm : b = -1
   ·rw [if_pos hm] at hq
    subst hm
    rw [hq] at hs
    (simp (maxSteps := 1000000) [])
    refine hR _ _ (Jt42 _ _ rfl (by (exact wkvA)) ?_)
    injection hs with e1 e2; subst e1; subst e2; (first | rfl | simp)
   ·have hmb : (b == -1) = false := by simpa using hm
    rw [if_neg hm] at hq
    rw [hq] at hs
    (simp (maxSteps := 1000000) [hb, hbb, hm, hmb])
    refine hR _ _ (Jt42 _ _ rfl (by (exact wkvA)) ?_)
    injection hs with e1 e2; subst e1; subst e2; (first | rfl | simp)
 have b8 : (op == 8) = false := by simpa using o8
 rw [if_neg o8] at hs
 by_cases o9 : op = 9
 ·subst o9
  simp only [Int.reduceEq, if_false, if_true] at hs
  by_cases hb : b = 0
  ·subst hb
   simp only [if_true] at hs
   (simp (maxSteps := 1000000) [])
   refine hR _ _ (Jt42 _ _ rfl (by (exact wkvA)) ?_)
   injection hs with e1 e2; subst e1; subst e2; rfl
  ·have hbb := bne0 hb
   rw [if_neg hb] at hs
   by_cases hm : b = -1
   ·rw [if_pos hm] at hq
    subst hm
    rw [hq] at hs
    (simp (maxSteps := 1000000) [])
    refine hR _ _ (Jt42 _ _ rfl (by (exact wkvA)) ?_)
    injection hs with e1 e2; subst e1; subst e2; (first | rfl | simp)
   ·have hmb : (b == -1) = false := by simpa using hm
    rw [if_neg hm] at hq
    rw [hq] at hs
    (simp (maxSteps := 1000000) [hb, hbb, hm, hmb])
    refine hR _ _ (Jt42 _ _ rfl (by (exact wkvA)) ?_)
    injection hs with e1 e2; subst e1; subst e2; (first | rfl | simp)
 have b9 : (op == 9) = false := by simpa using o9
 rw [if_neg o9] at hs
 by_cases o10 : op = 10
 ·subst o10
  simp only [Int.reduceEq, if_false, if_true] at hs
  have hc := Jth5 A a b tAnd
  generalize bitsZ a b tAnd 64 0 0 1 = w at hc hs
  (simp (maxSteps := 1000000) [])
  (refine Jty hc (by rfl) (by rfl) ?_)
  (simp (maxSteps := 1000000) [])
  refine hR _ _ (Jt42 _ _ rfl (by (exact wkvA)) ?_)
  injection hs with e1 e2; subst e1; subst e2; rfl
 have b10 : (op == 10) = false := by simpa using o10
 rw [if_neg o10] at hs
 by_cases o11 : op = 11
 ·subst o11
  simp only [Int.reduceEq, if_false, if_true] at hs
  have hc := Jth5 A a b tOr
  generalize bitsZ a b tOr 64 0 0 1 = w at hc hs
  (simp (maxSteps := 1000000) [])
  (refine Jty hc (by rfl) (by rfl) ?_)
  (simp (maxSteps := 1000000) [])
  refine hR _ _ (Jt42 _ _ rfl (by (exact wkvA)) ?_)
  injection hs with e1 e2; subst e1; subst e2; rfl
 have b11 : (op == 11) = false := by simpa using o11
 rw [if_neg o11] at hs
 by_cases o12 : op = 12
 ·subst o12
  simp only [Int.reduceEq, if_false, if_true] at hs
  have hc := Jth5 A a b tXor
  generalize bitsZ a b tXor 64 0 0 1 = w at hc hs
  (simp (maxSteps := 1000000) [])
  (refine Jty hc (by rfl) (by rfl) ?_)
  (simp (maxSteps := 1000000) [])
  refine hR _ _ (Jt42 _ _ rfl (by (exact wkvA)) ?_)
  injection hs with e1 e2; subst e1; subst e2; rfl
 have b12 : (op == 12) = false := by simpa using o12
 rw [if_neg o12] at hs
 by_cases o13 : op = 13
 ·subst o13
  simp only [Int.reduceEq, if_false, if_true] at hs
  have hc := Jt70 b
  obtain ⟨n, hn⟩ : ∃ n, n = cntZ b := ⟨_, rfl⟩
  rw [← hn] at hs hc
  have hn' : IntKind.i64.wrap ((IntKind.u64.wrap b).tmod 64) = n := hn.symm
  (simp (maxSteps := 1000000) [hn'])
  refine Jtd (fun x : Nat × Int => ⟨[(12, AI x.1), (1, AI x.2), (11, AI n), (0, AI 13)], []⟩) (fun x => x.1 ≤ n.toNat ∧ shZ 13 (n.toNat - x.1) x.2 = shZ 13 n.toNat a) (fun x => n.toNat - x.1) (0, a) (by simp) (by (exact wkA)) ?_
  rintro ⟨i, c⟩ ⟨hi, hsh⟩ N hN
  simp only at hi hsh
  (simp (maxSteps := 1000000) [])
  ((first | refine Xc (fun h2 => ?_) (fun h2 => ?_) | refine Xo (fun h2 => ?_) (fun h2 => ?_)) <;> (try simp only [Xz, Xy] at h2))
  ·have hkl : i < n.toNat := by omega
   have hw := Jtmv (k := i) (by omega)
   rw [show n.toNat - i = (n.toNat - (i + 1)) + 1 by omega] at hsh
   simp only [shZ, Int.reduceEq, if_true, if_false] at hsh
   (simp (maxSteps := 1000000) [h2, hw])
   exact hN _ (i + 1, _) ⟨hkl, hsh⟩ (by (exact wkA)) (by simp only; omega)
  ·have hkl : n.toNat - i = 0 := by omega
   rw [hkl] at hsh
   simp only [shZ] at hsh
   (simp (maxSteps := 1000000) [h2])
   refine hR _ _ (Jt42 _ _ rfl (by (exact wkvA)) ?_)
   injection hs with e1 e2; subst e1; subst e2; rw [← hsh]; rfl
 have b13 : (op == 13) = false := by simpa using o13
 rw [if_neg o13] at hs
 by_cases o14 : op = 14
 ·subst o14
  simp only [Int.reduceEq, if_false, if_true] at hs
  have hc := Jt70 b
  obtain ⟨n, hn⟩ : ∃ n, n = cntZ b := ⟨_, rfl⟩
  rw [← hn] at hs hc
  have hn' : IntKind.i64.wrap ((IntKind.u64.wrap b).tmod 64) = n := hn.symm
  (simp (maxSteps := 1000000) [hn'])
  refine Jtd (fun x : Nat × Int => ⟨[(12, AI x.1), (1, AI x.2), (11, AI n), (0, AI 14)], []⟩) (fun x => x.1 ≤ n.toNat ∧ shZ 14 (n.toNat - x.1) x.2 = shZ 14 n.toNat a) (fun x => n.toNat - x.1) (0, a) (by simp) (by (exact wkA)) ?_
  rintro ⟨i, c⟩ ⟨hi, hsh⟩ N hN
  simp only at hi hsh
  (simp (maxSteps := 1000000) [])
  ((first | refine Xc (fun h2 => ?_) (fun h2 => ?_) | refine Xo (fun h2 => ?_) (fun h2 => ?_)) <;> (try simp only [Xz, Xy] at h2))
  ·have hkl : i < n.toNat := by omega
   have hw := Jtmv (k := i) (by omega)
   rw [show n.toNat - i = (n.toNat - (i + 1)) + 1 by omega] at hsh
   simp only [shZ, Int.reduceEq, if_true, if_false] at hsh
   (simp (maxSteps := 1000000) [h2, hw])
   (refine Jty (Jth6 A c) (by rfl) (by rfl) ?_)
   (simp (maxSteps := 1000000) [hw])
   exact hN _ (i + 1, _) ⟨hkl, hsh⟩ (by (exact wkA)) (by simp only; omega)
  ·have hkl : n.toNat - i = 0 := by omega
   rw [hkl] at hsh
   simp only [shZ] at hsh
   (simp (maxSteps := 1000000) [h2])
   refine hR _ _ (Jt42 _ _ rfl (by (exact wkvA)) ?_)
   injection hs with e1 e2; subst e1; subst e2; rw [← hsh]; rfl
 have b14 : (op == 14) = false := by simpa using o14
 rw [if_neg o14] at hs
 by_cases o15 : op = 15
 ·subst o15
  simp only [Int.reduceEq, if_false, if_true] at hs
  (simp (maxSteps := 1000000) [])
  (refine Jty (Jth7 A (a == b)) (by rfl) (by rfl) ?_)
  (simp (maxSteps := 1000000) [])
  refine hR _ _ (Jt42 _ _ rfl (by (exact wkvA)) ?_)
  injection hs with e1 e2; subst e1; subst e2; rfl
 have b15 : (op == 15) = false := by simpa using o15
 rw [if_neg o15] at hs
 by_cases o16 : op = 16
 ·subst o16
  simp only [Int.reduceEq, if_false, if_true] at hs
  (simp (maxSteps := 1000000) [])
  (refine Jty (Jth7 A (decide (a < b))) (by rfl) (by rfl) ?_)
  (simp (maxSteps := 1000000) [])
  refine hR _ _ (Jt42 _ _ rfl (by (exact wkvA)) ?_)
  injection hs with e1 e2; subst e1; subst e2; rfl
 have b16 : (op == 16) = false := by simpa using o16
 rw [if_neg o16] at hs
 (simp (maxSteps := 1000000) [b1, b2, b3, b4, b5, b6, b7, b8, b9, b10, b11, b12, b13, b14, b15, b16])
 refine hR _ _ (Jt42 _ _ rfl (by (exact wkvA)) ?_)
 injection hs with e1 e2; subst e1; subst e2; rfl
end
section
variable {P : Program} {q : Bool} {K : ASt → Prop} {QP : AV → ASt → Prop} {dst : Option Nat} {st : ASt}
@[simp] def goCV (K : ASt → Prop) (dst : Option Nat) (st : ASt) (P : Program) (q : Bool) (QP : AV → ASt → Prop) : Option AV → Option (List AV) → Prop
 | some (.fn (.func f) xs bs), some cs => okFn P f = true ∧ AWcall P q f (xs ++ cs ++ bs) dst K QP st
 | _, _ => False
@[simp] theorem Jt1k {x : Opd} {args : List Opd} : AWio P q (.callv x args) dst K QP st ↔ goCV K dst st P q QP (evr st.env x) (evs st.env args) := by
 constructor
 ·rintro ⟨f, xs, bs, cs, h1, h2, h3, h4⟩; rw [h1, h3]; exact ⟨h2, h4⟩
 ·intro h
  unfold goCV at h
  split at h
  ·rename_i f xs bs cs h1 h3; exact ⟨f, xs, bs, cs, h1, h.1, h3, h.2⟩
  ·exact h.elim
end
def runN (n : Nat) (m : Mach) : Nat := if m.op = 18 then n + 1 else 0
def runF (l : List Mach) : Nat := l.foldl runN 0
theorem Jtjc {l : List Mach} {j : Nat} (h : j < l.length) : runF (l.take (j + 1)) = runN (runF (l.take j)) l[j] := by
 unfold runF
 rw [List.take_succ_eq_append_getElem h, List.foldl_append]
 rfl
theorem Jtjb {l : List Mach} : ∀ {j k : Nat}, j ≤ l.length → (k ≤ runF (l.take j) ↔ k ≤ j ∧ ∀ i x, j - k ≤ i → i < j → l[i]? = some x → x.op = 18) := by
 intro j
 induction j with
 | zero =>
  intro k _
  simp only [List.take_zero, runF, List.foldl_nil]
  constructor
  ·intro h; exact ⟨h, fun i x _ h2 => by omega⟩
  ·intro h; exact h.1
 | succ j ih =>
  intro k hj
  have hjl : j < l.length := by omega
  have hji : l[j]? = some l[j] := by simp [hjl]
  rw [Jtjc hjl]
  unfold runN
  by_cases h18 : l[j].op = 18
  ·rw [if_pos h18]
   cases k with
   | zero => simp only [Nat.zero_le, true_and, true_iff]; intro i x h1 h2; omega
   | succ k =>
    have := ih (k := k) (by omega)
    constructor
    ·intro h
     obtain ⟨e1, e2⟩ := this.1 (by omega)
     refine ⟨by omega, fun i x h1 h2 hx => ?_⟩
     by_cases hi : i = j
     ·subst hi; rw [hji] at hx; injection hx with hx; subst hx; exact h18
     ·exact e2 i x (by omega) (by omega) hx
    ·rintro ⟨e1, e2⟩
     have := this.2 ⟨by omega, fun i x h1 h2 hx => e2 i x (by omega) (by omega) hx⟩
     omega
  ·rw [if_neg h18]
   cases k with
   | zero => simp only [Nat.le_refl, Nat.zero_le, true_and, true_iff]; intro i x h1 h2; omega
   | succ k =>
    constructor
    ·intro h; omega
    ·rintro ⟨e1, e2⟩
     exact absurd (e2 j _ (by omega) (by omega) hji) h18
theorem Jtdb {w : List Mach} : w.length ≤ lead w ↔ ∀ x ∈ w, x.op = 18 := by
 induction w with
 | nil => simp [lead]
 | cons m w ih =>
  simp only [lead, List.length_cons, List.mem_cons, forall_eq_or_imp]
  by_cases h : m.op = 18
  ·simp only [h, beq_self_eq_true, if_true, true_and]
   rw [← ih]; omega
  ·have hb : (m.op == 18) = false := by simpa using h
   simp only [hb, Bool.false_eq_true, if_false, h, false_and, iff_false]; omega
theorem Jtf3 {l : List Nat} {k : Nat} : k < mostN l ↔ ∃ x ∈ l, k < x := by
 have key : ∀ (l : List Nat) (n : Nat), k < l.foldl max n ↔ k < n ∨ ∃ x ∈ l, k < x := by
  intro l
  induction l with
  | nil => intro n; simp
  | cons x l ih =>
   intro n
   simp only [List.foldl_cons, ih, List.mem_cons, exists_eq_or_imp]
   constructor
   ·rintro (h | h)
    ·by_cases hx : k < x
     ·exact .inr (.inl hx)
     ·exact .inl (by omega)
    ·exact .inr (.inr h)
   ·rintro (h | h | h)
    ·exact .inl (by omega)
    ·exact .inl (by omega)
    ·exact .inr h
 have := key l 0
 unfold mostN
 rw [this]; simp
theorem Jthy {w : List Mach} (hw : w.length = 65) : 64 < Jthx w ↔ ∀ x ∈ w, x.op = 18 := by
 rw [← Jtdb]
 unfold Jthx
 rw [Jtf3]
 constructor
 ·rintro ⟨x, hx, h⟩
  rw [List.mem_map] at hx
  obtain ⟨i, hi, rfl⟩ := hx
  have h1 := Jtdd (w.drop i)
  rw [List.length_drop] at h1
  have hi0 : i = 0 := by omega
  subst hi0
  rw [List.drop_zero] at h
  omega
 ·intro h
  exact ⟨lead (w.drop 0), List.mem_map.2 ⟨0, by simp; omega, rfl⟩, by rw [List.drop_zero]; omega⟩
theorem Jtf9 {l : List Mach} {j : Nat} (h : j < l.length) : 64 < runF (l.take (j + 1)) ↔ (64 ≤ j ∧ 64 < Jthx ((l.take (j + 1)).drop (j - 64))) := by
 have h1 := Jtjb (l := l) (j := j + 1) (k := 65) (by omega)
 constructor
 ·intro h2
  obtain ⟨e1, e2⟩ := h1.1 h2
  have hw : ((l.take (j + 1)).drop (j - 64)).length = 65 := by rw [List.length_drop, List.length_take]; omega
  refine ⟨by omega, (Jthy hw).2 fun x hx => ?_⟩
  obtain ⟨i, hi⟩ := List.getElem?_of_mem hx
  rw [List.getElem?_drop, List.getElem?_take] at hi
  split at hi
  ·exact e2 _ x (by omega) (by omega) hi
  ·cases hi
 ·rintro ⟨e1, e2⟩
  have hw : ((l.take (j + 1)).drop (j - 64)).length = 65 := by rw [List.length_drop, List.length_take]; omega
  have e3 := (Jthy hw).1 e2
  have := h1.2 ⟨by omega, fun i x k1 k2 hx => e3 x (List.mem_iff_getElem?.2 ⟨i - (j - 64), by rw [List.getElem?_drop, List.getElem?_take, if_pos (by omega), show j - 64 + (i - (j - 64)) = i by omega]; exact hx⟩)⟩
  omega
def wTotal (w : List (List Pair)) : Nat := (w.map List.length).sum
def okW (w : List (List Pair)) : Prop := ∀ l ∈ w, ∀ q ∈ l, okZ q.l
def succsZ (t : Term) : List Int := if t.kind = 1 then [t.to] else if t.kind = 2 then [t.to, t.els] else []
structure Rep where (err block at_ : Int) (blocks edges steps largest : Nat)
 deriving DecidableEq
def Rep.av (r : Rep) : AV := .agg [AI r.err, AI r.block, AI r.at_, AI r.blocks, AI r.edges, AI r.steps, AI r.largest]
def mostW (w : List (List Pair)) : Nat := mostN (w.map List.length)
def w0 (c : Cert) : List Pair := (c.W[0]?).getD []
theorem Jtmj {w : List (List Pair)} {k : Nat} {l : List Pair} (h : w[k]? = some l) : wTotal (w.take (k + 1)) = wTotal (w.take k) + l.length := by
 rw [List.take_add_one, h]; simp [wTotal]
theorem Jtmi (w : List (List Pair)) (k : Nat) : wTotal (w.take k) ≤ wTotal w := by
 have h : wTotal (w.take k) + wTotal (w.drop k) = wTotal w := by
  unfold wTotal
  rw [← List.sum_append, ← List.map_append, List.take_append_drop]
 omega
section
end
section
end
section
end
section
end
section
end
structure okCert (c : Cert) : Prop where
 s0 : c.S.blocks.length < 1000000000
 s1 : codeN c.S.blocks < 1000000000
 t0 : c.T.blocks.length < 1000000000
 t1 : mcodeN c.T.blocks < 1000000000
 t2 : ∀ b ∈ c.T.blocks, okM b
 w0 : c.W.length < 1000000000
 w1 : wTotal c.W < 1000000000
 w2 : okW c.W
theorem okCert.w3 {c : Cert} (h : okCert c) : ∀ l ∈ c.W, l.length < 1000000000 := by
 intro l hl
 obtain ⟨k, hk⟩ := List.getElem?_of_mem hl
 have h1 := Jtmj hk
 have h2 := Jtmi c.W (k + 1)
 have := h.w1
 omega
section
end
def VS : List Int := (List.range 61).map fun n : Nat => (n : Int)
def LS : List Int := (List.range 122).map fun n : Nat => (n : Int)
theorem mem_VS {x : Int} (h0 : 0 ≤ x) (h1 : x ≤ 60) : x ∈ VS := List.mem_map.2 ⟨x.toNat, List.mem_range.2 (by omega), by omega⟩
theorem mem_LS {x : Int} (h0 : 0 ≤ x) (h1 : x ≤ 121) : x ∈ LS := List.mem_map.2 ⟨x.toNat, List.mem_range.2 (by omega), by omega⟩
theorem VL_few : VS.length * LS.length < 100000 := by decide
theorem src_ok {f : Func} (h : Jths f = 0) : 0 ≤ f.args ∧ f.args ≤ f.regs ∧ 0 < f.blocks.length ∧ ∀ b ∈ f.blocks, (∀ i ∈ b.code, Jtht i f.regs = 0) ∧ Jthz b.term f.regs f.blocks.length = 0 := by
 unfold Jths at h
 split at h
 ·cases h
 split at h
 ·cases h
 split at h
 ·cases h
 split at h
 ·cases h
 refine ⟨by omega, by omega, by omega, fun b hb => ?_⟩
 have h3 := Jt8o h _ (List.mem_map_of_mem hb)
 simp only [Jthr] at h3
 split at h3
 ·rename_i h5; exact absurd h3 h5
 ·rename_i h5
  exact ⟨fun i hi => Jt8o (es := b.code.map (Jtht · f.regs)) (by simpa using h5) _ (List.mem_map_of_mem hi), h3⟩
theorem Jtlr {t : Term} {regs blocks : Int} (h : Jthz t regs blocks = 0) : ∀ x ∈ succsZ t, 0 ≤ x ∧ x < blocks := by
 unfold Jthz at h
 unfold succsZ
 intro x hx
 split at h
 ·rename_i k1
  rw [if_pos k1] at hx
  simp only [List.mem_singleton] at hx
  split at h
  ·cases h
  ·rename_i k2
   subst hx; simpa [inZ] using k2
 ·rename_i k1
  rw [if_neg k1] at hx
  split at h
  ·rename_i k3
   rw [if_pos k3] at hx
   split at h
   ·cases h
   split at h
   ·cases h
   rename_i k4 k5
   simp only [not_or] at k5
   simp only [List.mem_cons, List.not_mem_nil, or_false] at hx
   rcases hx with rfl | rfl
   ·simpa [inZ] using k5.1
   ·simpa [inZ] using k5.2
  ·rename_i k3
   rw [if_neg k3] at hx; simp at hx
theorem mac_ok {f : MFunc} (h : Jthv f = 0) : 0 ≤ f.args ∧ f.args ≤ f.slots ∧ 0 ≤ f.regs ∧ ∀ b ∈ f.blocks, ∀ x ∈ b.code, Jthw x f.regs f.slots = 0 := by
 unfold Jthv at h
 split at h
 ·cases h
 split at h
 ·cases h
 split at h
 ·cases h
 split at h
 ·cases h
 split at h
 ·cases h
 refine ⟨by omega, by omega, by omega, fun b hb x hx => ?_⟩
 have h3 := Jt8o h _ (List.mem_map_of_mem hb)
 unfold Jthu at h3
 split at h3
 ·rename_i h5; exact absurd h3 h5
 ·rename_i h5
  have h6 : mErrs b.code f.regs f.slots = 0 := by simpa using h5
  obtain ⟨k, hk⟩ := List.getElem?_of_mem hx
  have hlt := (List.getElem?_eq_some_iff.1 hk).1
  have h7 := Jt8o h6 (mErr b.code f.regs f.slots k) (List.mem_map.2 ⟨k, List.mem_range.2 hlt, rfl⟩)
  unfold mErr at h7
  rw [hk] at h7
  simp only at h7
  split at h7
  ·rename_i h8; exact absurd h7 h8
  ·rename_i h8; simpa using h8
structure Fit (c : Cert) : Prop where
 lenT : c.T.blocks.length = c.S.blocks.length
 lenW : c.W.length = c.S.blocks.length
 pos : 0 < c.S.blocks.length
 few : c.S.blocks.length ≤ 40
 w : ∀ l ∈ c.W, Srt l ∧ l.length ≤ 400 ∧ ∀ q ∈ l, 0 ≤ q.v ∧ q.v ≤ 60 ∧ 0 ≤ q.l ∧ q.l ≤ 121
 vl : ∀ b ∈ c.S.blocks, ∀ m ∈ c.T.blocks, VLOk VS LS b.code m.code
 cs : ∀ b ∈ c.S.blocks, b.code.length ≤ 100
 ct : ∀ m ∈ c.T.blocks, m.code.length ≤ 900
 to : ∀ b ∈ c.S.blocks, ∀ x ∈ succsZ b.term, 0 ≤ x ∧ x < c.S.blocks.length
 ars : 0 ≤ c.S.args ∧ c.S.args ≤ 60
structure Good (r : Res) : Prop where
 srt : Srt r.out
 len : r.out.length < 100000
 steps : r.steps ≤ 1000000000
 lg : r.largest < 100000
theorem Jt6t {V L : List Int} {b : Block} {m : MBlock} {l : List Pair} {most : Int} (hl : ∀ q ∈ l, q.v ∈ V ∧ q.l ∈ L) (hv : VLOk V L b.code m.code) (few : V.length * L.length < 100000) (hl0 : l.length < 100000)
  (hb0 : b.code.length ≤ 1000) (hm0 : m.code.length ≤ 1000) : Over V L (checkZ b m l most).out := by
 have hnil : Over V L [] := ⟨List.Pairwise.nil, fun q hq => by simp at hq⟩
 obtain ⟨a1, a2, a3⟩ := Jt52 b.code m.code
 unfold checkZ
 split
 ·exact hnil
 ·by_cases h2 : (if (alignZ b.code m.code).2.2 = 0 ∧ termsZ b.term m.term = false then 20 else (alignZ b.code m.code).2.2) ≠ 0
  ·simp only [if_pos h2]; exact hnil
  ·simp only [if_neg h2]
   have hover : Over V L (makeP l) := ⟨Jtkp l, fun q hq => hl q (Jteq.1 hq)⟩
   have hroom : Room V L ⟨makeP l, 0, l.length⟩ (0 + 1 + needRs (alignZ b.code m.code).1) := by
    refine ⟨hover, few, ?_, by simp only; omega⟩
    have h1 := Jtff a1
    have h2 : (alignZ b.code m.code).1.length * (3 + m.code.length + b.code.length) ≤ 1001 * 2003 := Nat.mul_le_mul (by omega) (by omega)
    simp only
    omega
   have hr := Jtja (most := most) hv hroom a1
   generalize runC most b m (alignZ b.code m.code).1 ⟨makeP l, 0, l.length⟩ = r at hr
   obtain ⟨t, e⟩ := r
   simp only
   split
   ·exact hr.over
   ·exact hnil
theorem Fit.good {c : Cert} (h : Fit c) {b : Block} {m : MBlock} {l : List Pair} (hb : b ∈ c.S.blocks) (hm : m ∈ c.T.blocks) (hl : l ∈ c.W) (most : Int) : Good (checkZ b m l most) := by
 obtain ⟨w1, w2, w3⟩ := h.w l hl
 have k1 : ∀ q ∈ l, q.v ∈ VS ∧ q.l ∈ LS := fun q hq => by
  obtain ⟨a1, a2, a3, a4⟩ := w3 q hq
  exact ⟨mem_VS a1 a2, mem_LS a3 a4⟩
 have c1 := h.cs b hb
 have c2 := h.ct m hm
 have o := Jt6t (most := most) k1 (h.vl b hb m hm) VL_few (by omega) (by omega) (by omega)
 obtain ⟨r1, r2⟩ := Jt6s (most := most) k1 (h.vl b hb m hm) VL_few (by omega) (by omega) (by omega)
 have bd := (Jt6q b m l most (Jted l)).1
 refine ⟨o.srt, Nat.lt_of_le_of_lt o.len VL_few, ?_, r1⟩
 have : (3 * m.code.length + b.code.length + 1) * ((checkZ b m l most).largest + 1) ≤ 3001 * 100000 := Nat.mul_le_mul (by omega) (by omega)
 omega
section
end
end Go.AE
set_option maxRecDepth 4000
namespace Go.AE
open Go
structure RepOk (i : Nat) (r : Rep) : Prop where
 blocks : r.blocks ≤ i
 edges : r.edges ≤ 2 * i
 steps : r.steps ≤ 1000 + 2000000000 * i
 lg : r.largest < 100000
def edgeR (w : List (List Pair)) (out : List Pair) (to : Nat) (r : Rep) : Rep := { r with edges := r.edges + 1, steps := r.steps + 1 + out.length + ((w[to]?).getD []).length }
structure RepIn (i k : Nat) (r : Rep) : Prop where
 blocks : r.blocks ≤ i + 1
 edges : r.edges ≤ 2 * i + k
 steps : r.steps ≤ 1000 + 2000000000 * i + 1000000000 + 200000 * k
 lg : r.largest < 100000
theorem RepIn.out {i k : Nat} {r : Rep} (h : RepIn i k r) (hk : k ≤ 2) : RepOk (i + 1) r := ⟨h.blocks, by have := h.edges; omega, by have := h.steps; omega, h.lg⟩
theorem RepIn.edge {w : List (List Pair)} {out wt : List Pair} {i k to : Nat} {r : Rep} (h : RepIn i k r) (ho : out.length < 100000) (hw : w[to]? = some wt) (hwl : wt.length ≤ 400) : RepIn i (k + 1) (edgeR w out to r) := by
 have := h.blocks; have := h.edges; have := h.steps; have := h.lg
 refine ⟨by simpa [edgeR] using h.blocks, by simp only [edgeR]; omega, ?_, by simpa [edgeR] using h.lg⟩
 simp only [edgeR, hw, Option.getD_some]; omega
def Rep.cells (r : Rep) : List AV := [AI r.err, AI r.block, AI r.at_, AI r.blocks, AI r.edges, AI r.steps, AI r.largest]
section
end
end Go.AE
set_option maxRecDepth 4000
namespace Go.AE
open Go
section
end
end Go.AE
set_option maxRecDepth 4000
namespace Go.AE
open Go
def succN (bs : List Block) : Nat := (bs.map fun b => (succsZ b.term).length).sum
def boundN (c : Cert) : Nat := codeN c.S.blocks + mcodeN c.T.blocks + c.S.blocks.length + 1 + succN c.S.blocks
section
end
section
end
end Go.AE
set_option maxRecDepth 4000
namespace Go.AE
open Go
section
end
end Go.AE
set_option maxRecDepth 4000
namespace Go.AE
open Go
structure EdgeT (r : Rep) (n A : Nat) (R : Rep × Bool) : Prop where
 blocks : R.1.blocks = r.blocks
 lg : R.1.largest = r.largest
 edges : R.1.edges ≤ r.edges + n
 steps : R.1.steps ≤ (A + 2 * R.1.edges) * (R.1.largest + 1)
 bad : R.2 = true → R.1.err ≠ 0
 good : R.2 = false → R.1.edges = r.edges + n ∧ R.1.err = 0
def costN (c : Cert) (i : Nat) : Nat := 1 + 3 * mcodeN (c.T.blocks.take i) + codeN (c.S.blocks.take i) + i
structure OnceI (c : Cert) (i : Nat) (r : Rep) : Prop where
 blocks : r.blocks = i
 edges : r.edges = succN (c.S.blocks.take i)
 steps : r.steps ≤ (costN c i + 2 * r.edges) * (r.largest + 1)
 lg : mostW c.W ≤ r.largest
 lg2 : r.largest < 100000
 err : r.err = 0
structure OnceT (c : Cert) (T : Rep) : Prop where
 blocks : T.blocks ≤ c.S.blocks.length
 edges : T.edges ≤ succN c.S.blocks
 steps : T.steps ≤ 3 * boundN c * (T.largest + 1)
 lg : T.largest < 100000
 done : T.err = 0 → T.blocks = c.S.blocks.length ∧ T.edges = succN c.S.blocks
end Go.AE
set_option maxRecDepth 4000
namespace Go.AE
open Go
def N23 (r : CR) : Prop := ∀ e, r.2 = some e → e.1 ≠ 23
theorem N23.same {s : CS} : N23 (s, none) := fun e he => by cases he
theorem N23.then {r : CR} {f : CS → CR} (h : N23 r) (hf : ∀ s, N23 (f s)) : N23 (thenC r f) := by
 obtain ⟨s, e⟩ := r
 cases e with
 | some e => exact h
 | none => exact hf s
theorem N23.become {most : Int} {s : CS} {l : List Pair} {at_ : Int} : N23 (Jt5o most s l at_) := by
 intro e he
 unfold Jt5o at he
 simp only at he
 split at he
 ·injection he with he; subst he; simp
 ·cases he
theorem N23.use {s : CS} {v t at_ : Int} : N23 (useC s v t at_) := by
 intro e he
 unfold useC at he
 simp only at he
 split at he
 ·cases he
 ·injection he with he; subst he; simp
def hasE (w : List (List Pair)) (out : List Pair) (to : Int) : Bool := !(missP ((w[to.toNat]?).getD []) out).isSome
def blkOk (c : Cert) (i : Nat) : Bool := match c.S.blocks[i]?, c.T.blocks[i]?, c.W[i]? with
 | some b, some m, some l => decide ((checkZ b m l 1048576).err = 0) && (succsZ b.term).all (hasE c.W (checkZ b m l 1048576).out)
 | _, _, _ => false
structure Nums2 (V L : List Int) (s : CS) (σ τ : Int → Nat) (N : Nat) : Prop where
 over : Over V L s.set
 σb : ∀ v, σ v < N
 τb : ∀ x, τ x < N
 all : ∀ v ∈ V, ∀ x ∈ L, σ v = τ x → (⟨v, x⟩ : Pair) ∈ s.set
def upd (f : Int → Nat) (d : Int) (n : Nat) : Int → Nat := fun x => if x = d then n else f x
theorem Jtme {f : Int → Nat} {d : Int} {n : Nat} : upd f d n d = n := by simp [upd]
theorem upd_ne {f : Int → Nat} {d x : Int} {n : Nat} (h : x ≠ d) : upd f d n x = f x := by simp [upd, h]
def runCv (σ : Int → Nat) : List Instr → Int → Nat
 | [] => σ
 | i :: is => runCv (upd σ i.d (σ i.a)) is
def runMv (τ : Int → Nat) : List Mach → Int → Nat
 | [] => τ
 | m :: ms => runMv (upd τ m.dst (τ m.src)) ms
theorem Jtjd {τ : Int → Nat} : ∀ {a b : List Mach}, runMv τ (a ++ b) = runMv (runMv τ a) b := by
 intro a
 induction a generalizing τ with
 | nil => intro b; rfl
 | cons m a ih => intro b; exact ih
section
variable {V L : List Int} {most : Int}
theorem fits (few : V.length * L.length < 100000) (hm : 100000 ≤ most) {l : List Pair} (h : Over V L l) : ¬ ((l.length : Int) > most) := by
 have := h.len
 omega
theorem Nums2.copy (few : V.length * L.length < 100000) (hm : 100000 ≤ most) {s : CS} {σ τ : Int → Nat} {N : Nat} (h : Nums2 V L s σ τ N) {d a : Int} (hd : d ∈ V) (ha : a ∈ V) (at_ : Int) :
  ∃ s', Jt5o most (costC s) (copyP s.set d a) at_ = (s', none) ∧ Nums2 V L s' (upd σ d (σ a)) τ N := by
 have ho := h.over.copy (a := a) hd
 refine ⟨_, by unfold Jt5o; rw [if_neg (fits few hm ho)], ⟨ho, fun v => ?_, h.τb, fun v hv x hx hvx => ?_⟩⟩
 ·unfold upd; split
  ·exact h.σb a
  ·exact h.σb v
 ·show (⟨v, x⟩ : Pair) ∈ copyP s.set d a
  rw [Jteo]
  by_cases hvd : v = d
  ·subst hvd
   rw [Jtme] at hvx
   exact .inr ⟨rfl, h.all a ha x hx hvx⟩
  ·rw [upd_ne hvd] at hvx
   exact .inl ⟨h.all v hv x hx hvx, .inr hvd⟩
theorem Nums2.move (few : V.length * L.length < 100000) (hm : 100000 ≤ most) {s : CS} {σ τ : Int → Nat} {N : Nat} (h : Nums2 V L s σ τ N) {d a : Int} (hd : d ∈ L) (ha : a ∈ L) (at_ : Int) :
  ∃ s', Jt5o most (costC s) (moveP s.set d a) at_ = (s', none) ∧ Nums2 V L s' σ (upd τ d (τ a)) N := by
 have ho := h.over.move (a := a) hd
 refine ⟨_, by unfold Jt5o; rw [if_neg (fits few hm ho)], ⟨ho, h.σb, fun v => ?_, fun v hv x hx hvx => ?_⟩⟩
 ·unfold upd; split
  ·exact h.τb a
  ·exact h.τb v
 ·show (⟨v, x⟩ : Pair) ∈ moveP s.set d a
  rw [Jtes]
  by_cases hxd : x = d
  ·subst hxd
   rw [Jtme] at hvx
   exact .inr ⟨rfl, h.all v hv a ha hvx⟩
  ·rw [upd_ne hxd] at hvx
   exact .inl ⟨h.all v hv x hx hvx, .inr hxd⟩
theorem Nums2.define (few : V.length * L.length < 100000) (hm : 100000 ≤ most) {s : CS} {σ τ : Int → Nat} {N : Nat} (h : Nums2 V L s σ τ N) {d t : Int} (hd : d ∈ V) (ht : t ∈ L) (at_ : Int) :
  ∃ s', Jt5o most (costC s) (defP s.set d t) at_ = (s', none) ∧ Nums2 V L s' (upd σ d N) (upd τ t N) (N + 1) := by
 have ho := h.over.define hd ht
 refine ⟨_, by unfold Jt5o; rw [if_neg (fits few hm ho)], ⟨ho, fun v => ?_, fun v => ?_, fun v hv x hx hvx => ?_⟩⟩
 ·unfold upd; split
  ·omega
  ·have := h.σb v; omega
 ·unfold upd; split
  ·omega
  ·have := h.τb v; omega
 ·show (⟨v, x⟩ : Pair) ∈ defP s.set d t
  rw [Jtep]
  by_cases hvd : v = d
  ·subst hvd
   rw [Jtme] at hvx
   by_cases hxt : x = t
   ·subst hxt; exact .inl rfl
   ·rw [upd_ne hxt] at hvx; have := h.τb x; omega
  ·rw [upd_ne hvd] at hvx
   by_cases hxt : x = t
   ·subst hxt; rw [Jtme] at hvx; have := h.σb v; omega
   ·rw [upd_ne hxt] at hvx
    exact .inr ⟨h.all v hv x hx hvx, hvd, hxt⟩
theorem Nums2.use {s : CS} {σ τ : Int → Nat} {N : Nat} (h : Nums2 V L s σ τ N) {v t : Int} (hv : v ∈ V) (ht : t ∈ L) (he : σ v = τ t) (at_ : Int) : ∃ s', useC s v t at_ = (s', none) ∧ Nums2 V L s' σ τ N :=
 ⟨costC s, by unfold useC; rw [if_pos (h.all v hv t ht he)], ⟨h.over, h.σb, h.τb, h.all⟩⟩
theorem Nums2.copies (few : V.length * L.length < 100000) (hm : 100000 ≤ most) {τ : Int → Nat} {N : Nat} {at_ : Int} : ∀ {l : List Instr}, (∀ i ∈ l, i.d ∈ V ∧ i.a ∈ V) → ∀ {s : CS} {σ : Int → Nat}, Nums2 V L s σ τ N →
  ∃ s', copyC most at_ l s = (s', none) ∧ Nums2 V L s' (runCv σ l) τ N := by
 intro l
 induction l with
 | nil => intro _ s σ h; exact ⟨s, rfl, h⟩
 | cons i l ih =>
  intro hl s σ h
  obtain ⟨s1, e1, h1⟩ := h.copy few hm (hl i (by simp)).1 (hl i (by simp)).2 at_
  obtain ⟨s2, e2, h2⟩ := ih (fun x hx => hl x (by simp [hx])) h1
  exact ⟨s2, by show thenC (Jt5o most (costC s) (copyP s.set i.d i.a) at_) (copyC most at_ l) = _; rw [e1]; exact e2, h2⟩
theorem Nums2.moves (few : V.length * L.length < 100000) (hm : 100000 ≤ most) {σ : Int → Nat} {N : Nat} : ∀ {l : List Mach}, (∀ i ∈ l, i.dst ∈ L ∧ i.src ∈ L) → ∀ {k : Nat} {s : CS} {τ : Int → Nat}, Nums2 V L s σ τ N →
  ∃ s', moveC most k l s = (s', none) ∧ Nums2 V L s' σ (runMv τ l) N := by
 intro l
 induction l with
 | nil => intro _ k s τ h; exact ⟨s, rfl, h⟩
 | cons i l ih =>
  intro hl k s τ h
  obtain ⟨s1, e1, h1⟩ := h.move few hm (hl i (by simp)).1 (hl i (by simp)).2 k
  obtain ⟨s2, e2, h2⟩ := ih (fun x hx => hl x (by simp [hx])) (k := k + 1) h1
  exact ⟨s2, by show thenC (Jt5o most (costC s) (moveP s.set i.dst i.src) k) (moveC most (k + 1) l) = _; rw [e1]; exact e2, h2⟩
end
def Sy (n : Nat) (σ τ : Int → Nat) : Prop := ∀ v : Int, 0 ≤ v → v < n → σ v = τ (2 * v + 1)
theorem Sy.load {n : Nat} {σ τ : Int → Nat} (h : Sy n σ τ) {r : Int} (hr : r = 0 ∨ r = 2) (x : Nat) : Sy n σ (upd τ r x) := by
 intro v h0 h1
 rw [upd_ne (by omega)]; exact h v h0 h1
theorem Sy.store {n : Nat} {σ τ : Int → Nat} (h : Sy n σ τ) {d : Int} (x : Nat) : Sy n (upd σ d x) (upd τ (2 * d + 1) x) := by
 intro v h0 h1
 by_cases hd : v = d
 ·subst hd; rw [Jtme, Jtme]
 ·rw [upd_ne hd, upd_ne (by omega)]; exact h v h0 h1
theorem Sy.copies {n : Nat} : ∀ {l : List Instr} {σ τ : Int → Nat}, (∀ i ∈ l, i.op = 2 ∧ (0 ≤ i.a ∧ i.a < n) ∧ slotZ i.a = 2 * i.a + 1 ∧ slotZ i.d = 2 * i.d + 1) → Sy n σ τ → Sy n (runCv σ l) (runMv τ (spCode l)) := by
 intro l
 induction l with
 | nil => intro σ τ _ h; exact h
 | cons i l ih =>
  intro σ τ hl h
  obtain ⟨h1, ⟨h2, h3⟩, h4, h5⟩ := hl i (by simp)
  have e : spCode (i :: l) = [mvM (regZ 0) (slotZ i.a), mvM (slotZ i.d) (regZ 0)] ++ spCode l := by
   simp only [spCode, List.flatMap_cons, Jtke, h1]
   rfl
  rw [e, Jtjd]
  refine ih (fun x hx => hl x (by simp [hx])) ?_
  have r0 : regZ 0 = 0 := by decide
  show Sy n (upd σ i.d (σ i.a)) (upd (upd τ (regZ 0) (τ (slotZ i.a))) (slotZ i.d) (upd τ (regZ 0) (τ (slotZ i.a)) (regZ 0)))
  rw [Jtme, h4, h5, r0, ← h i.a h2 h3]
  exact (h.load (.inl rfl) _).store _
structure InOk (n : Nat) (i : Instr) : Prop where
 a : usesA i.op = true → (0 ≤ i.a ∧ i.a < n) ∧ slotZ i.a = 2 * i.a + 1
 b : usesB i.op = true → (0 ≤ i.b ∧ i.b < n) ∧ slotZ i.b = 2 * i.b + 1
 d : usesD i.op = true → (0 ≤ i.d ∧ i.d < n) ∧ slotZ i.d = 2 * i.d + 1
theorem r0e : regZ 0 = 0 := by decide
theorem Jtk6 {v : Int} (h0 : 0 ≤ v) (h1 : v ≤ 1000000) : slotZ v = 2 * v + 1 := by
 have e : IntKind.i64.wrap (2 * v) = 2 * v := wrap_i64 (by omega) (by omega)
 unfold slotZ; rw [e]; exact wrap_i64 (by omega) (by omega)
theorem Jtcf {i : Instr} {n : Nat} (hn : n ≤ 60) (h : Jtht i (n : Int) = 0) : (1 ≤ i.op ∧ i.op ≤ 17) ∧ InOk n i := by
 unfold Jtht at h
 split at h
 ·cases h
 rename_i h8
 split at h
 ·cases h
 rename_i h9
 refine ⟨by omega, ?_⟩
 simp only [bad9, Bool.or_eq_true, Bool.and_eq_true, not_or, not_and, Bool.not_eq_true', Bool.not_eq_false, inZ, decide_eq_true_eq] at h9
 obtain ⟨⟨d, a⟩, b⟩ := h9
 exact ⟨fun h => ⟨a h, Jtk6 (a h).1 (by have := (a h).2; omega)⟩, fun h => ⟨b h, Jtk6 (b h).1 (by have := (b h).2; omega)⟩, fun h => ⟨d h, Jtk6 (d h).1 (by have := (d h).2; omega)⟩⟩
theorem Jtlp {t : Term} {regs blocks : Int} (h : Jthz t regs blocks = 0) (hk : t.kind ≠ 1) : 0 ≤ t.a ∧ t.a < regs := by
 have key : ¬ (inZ t.a regs = false) → 0 ≤ t.a ∧ t.a < regs := fun h => by simpa [inZ] using h
 unfold Jthz at h
 rw [if_neg hk] at h
 split at h
 ·split at h
  ·cases h
  ·rename_i h2; exact key h2
 ·split at h
  ·split at h
   ·cases h
   ·rename_i h2; exact key h2
  ·cases h
end Go.AE
set_option maxRecDepth 4000
namespace Go.AE
open Go
end Go.AE
set_option maxRecDepth 4000
namespace Go.AE
open Go
section
end
section
end
@[simp] theorem Jt9p {K : ASt → Prop} {st : ASt} {n b off : Nat} {cells : List AV} {v : Opd} {b' o' e' l' : Nat} : goS3 K st n b off cells v (some (.hsl b' o' e' l')) ↔ 1 = n ∧ off + n ≤ cells.length ∧ K ⟨unview st.env, st.H.set b (.mem (spl cells off [.hsl b' o' e' l']))⟩ := by
 cases v <;> simp [goS3, AV.erase, AV.cells, AV.leaf]
@[simp] theorem Jt9t {K : ASt → Prop} {st : ASt} {n b off : Nat} {cells : List AV} {v : Opd} {q : Place} {e : Nat} {rows : List (List D)} : goS3 K st n b off cells v (some (.view q e rows)) ↔ 1 = n ∧ off + n ≤ cells.length ∧ K ⟨unview st.env, st.H.set b (.mem (spl cells off [.d (.sl rows)]))⟩ := by
 cases v <;> simp [goS3, AV.erase, AV.cells, AV.leaf]
theorem Jtiz (a b : List (List D)) : Jtiw (a ++ b) = Jtiw a ++ b.flatten.map AV.d := by simp [Jtiw]
theorem Jt19 {P : Program} {K : ASt → Prop} {QP : AV → ASt → Prop} {dst : Option Nat} {st : ASt} {esz bytes : Nat} {x y : Opd} {b len : Nat} {rows ys : List (List D)} (h : evr st.env x = some (.hsl b 0 esz len)) (hb : st.H[b]? = some (.mem (Jtiw rows))) (hrl : rows.length = len)
  (hre : ∀ r ∈ rows, r.length = esz) (h0 : 0 < len) (hy : Jt5g st.env y = some ys) (hr : ∀ r ∈ ys, r.length = esz) (hz : 0 < esz) (hne : ys ≠ []) (hn : len + ys.length ≤ 1000000000000000000) (hbt : (len + ys.length) * bytes ≤ 140737488355328)
  (hK : K (put dst (.hsl b 0 esz (len + ys.length)) ⟨unview st.env, st.H.set b (.mem (Jtiw (rows ++ ys)))⟩)) (hK' : K (put dst (.hsl st.H.length 0 esz (len + ys.length)) ⟨st.env, st.H ++ [.mem (Jtiw (rows ++ ys))]⟩)) :
  AWio P false (.app esz bytes x y) dst K QP st := by
 simp only [AWio, h]
 rw [Jtiz] at hK hK'
 refine ⟨trivial, b, len, Jtiw rows, ys, h, hb, by rw [Jtj2 hre, hrl], h0, ?_, hy, hr, hz, hne, hn, hbt, hK, hK'⟩
 rw [List.all_eq_true]
 intro x hx
 unfold Jtiw at hx
 rw [List.mem_map] at hx
 obtain ⟨d, _, rfl⟩ := hx
 rfl
def shN (b : Int) : Nat := (IntKind.u64.wrap (bits .and .i64 b 63)).toNat
def aluB (op a b : Int) : Int :=
 if op = 5 then IntKind.i64.wrap (a + b)
 else if op = 6 then IntKind.i64.wrap (a - b)
 else if op = 7 then IntKind.i64.wrap (a * b)
 else if op = 8 then IntKind.i64.wrap (a.tdiv b)
 else if op = 9 then a.tmod b
 else if op = 10 then bits .and .i64 a b
 else if op = 11 then bits .or .i64 a b
 else if op = 12 then bits .xor .i64 a b
 else if op = 13 then IntKind.i64.wrap (a * 2 ^ min (shN b) 64)
 else if op = 14 then a.fdiv (2 ^ min (shN b) 64)
 else if op = 15 then (if a = b then 1 else 0)
 else if op = 16 then (if a < b then 1 else 0)
 else 0
def aluZ (op a b imm : Int) : Int × Bool :=
 if op = 1 then (imm, true) else if op = 2 then (a, true) else if op = 3 then (IntKind.i64.wrap (0 - a), true) else if op = 4 then (bits .xor .i64 (-1) a, true)
 else if 5 ≤ op ∧ op < 17 then (if (op = 8 ∨ op = 9) ∧ b = 0 then (0, false) else (aluB op a b, true)) else (0, false)
section
end
structure RunZ where (state : Int) (block at_ : Nat) (value : Int) (regs slots trace : List Int) (steps : Nat)
def RunZ.av (r : RunZ) : AV := .agg [AI r.state, AI r.block, AI r.at_, AI r.value, .d (intsD r.regs), .d (intsD r.slots), .d (intsD r.trace), AI r.steps]
def gI (l : List Int) (n : Int) : Int := l.getD n.toNat 0
def setI (l : List Int) (n v : Int) : List Int := l.set n.toNat v
def stepI (i : Instr) (r : RunZ) : RunZ :=
 if i.op = 17 then { r with trace := r.trace ++ [gI r.regs i.a], at_ := r.at_ + 1, steps := r.steps + 1 }
 else if (aluZ i.op (gI r.regs i.a) (gI r.regs i.b) i.imm).2 = true then { r with regs := setI r.regs i.d (aluZ i.op (gI r.regs i.a) (gI r.regs i.b) i.imm).1, at_ := r.at_ + 1, steps := r.steps + 1 }
 else { r with state := 2 }
theorem Jtcl (l : List Int) : ∀ r ∈ l.map intRow, r.length = 1 := Jtj6 fun x => rfl
theorem lenI (l : List Int) : (Jtiw (l.map intRow)).length = l.length := by rw [Jtj2 (Jtcl l)]; simp
theorem Jtjl {l : List Int} {n v : Int} (h0 : 0 ≤ n) (h1 : n < l.length) : spl (Jtiw (l.map intRow)) n.toNat [AI v] = Jtiw ((setI l n v).map intRow) := by
 have := Jtkh (Jtcl l) (row := [.int .i64 v]) rfl (k := n.toNat) (by simp; omega)
 rw [Nat.mul_one] at this
 unfold setI
 rw [List.map_set]; exact this
theorem Jtjm (l : List Int) (n v : Int) : (setI l n v).length = l.length := by simp [setI]
section
end
end Go.AE
set_option maxRecDepth 4000
namespace Go.AE
open Go
section
end
end Go.AE
set_option maxRecDepth 4000
namespace Go.AE
open Go
structure OkT (t : Term) (n k : Nat) : Prop where
 kind : t.kind = 1 ∨ t.kind = 2 ∨ t.kind = 3
 a : t.kind ≠ 1 → 0 ≤ t.a ∧ t.a < n
 to : t.kind = 1 ∨ t.kind = 2 → 0 ≤ t.to ∧ t.to < k
 els : t.kind = 2 → 0 ≤ t.els ∧ t.els < k
structure OkF (f : Func) (n : Nat) : Prop where
 code : ∀ b ∈ f.blocks, ∀ i ∈ b.code, (0 ≤ i.a ∧ i.a < n) ∧ (0 ≤ i.b ∧ i.b < n) ∧ (0 ≤ i.d ∧ i.d < n)
 term : ∀ b ∈ f.blocks, OkT b.term n f.blocks.length
structure OkR (f : Func) (n : Nat) (r : RunZ) : Prop where
 regs : r.regs.length = n
 block : r.block < f.blocks.length
 at_ : ∀ b, f.blocks[r.block]? = some b → r.at_ ≤ b.code.length
section
end
end Go.AE
set_option maxRecDepth 4000
namespace Go.AE
open Go
section
variable {P : Program} {K : ASt → Prop} {QP : AV → ASt → Prop} {dst : Option Nat} {st : ASt}
end
section
end
end Go.AE
set_option maxRecDepth 4000
namespace Go.AE
open Go
def readL (m : RunZ) (l : Int) : Int := if l.tmod 2 = 1 then gI m.slots (l.tdiv 2) else gI m.regs (l.tdiv 2)
def writeL (m : RunZ) (l v : Int) : RunZ := if l.tmod 2 = 1 then { m with slots := setI m.slots (l.tdiv 2) v } else { m with regs := setI m.regs (l.tdiv 2) v }
def stepMI (x : Mach) (m : RunZ) : RunZ :=
 if x.op = 18 then { writeL m x.dst (readL m x.src) with at_ := m.at_ + 1, steps := m.steps + 1 }
 else if x.op = 17 then { m with trace := m.trace ++ [gI m.regs x.a], at_ := m.at_ + 1, steps := m.steps + 1 }
 else if (aluZ x.op (gI m.regs x.a) (gI m.regs x.b) x.imm).2 = true then { m with regs := setI m.regs x.d (aluZ x.op (gI m.regs x.a) (gI m.regs x.b) x.imm).1, at_ := m.at_ + 1, steps := m.steps + 1 }
 else { m with state := 2 }
def stepMT (t : Term) (r : RunZ) : RunZ :=
 if t.kind = 3 then { r with steps := r.steps + 1, state := 1, value := gI r.regs t.a }
 else if t.kind = 1 then { r with steps := r.steps + 1, block := t.to.toNat, at_ := 0 }
 else if gI r.regs t.a = 0 then { r with steps := r.steps + 1, block := t.els.toNat, at_ := 0 }
 else { r with steps := r.steps + 1, block := t.to.toNat, at_ := 0 }
def stepM (g : MFunc) (m : RunZ) : RunZ := match g.blocks[m.block]? with
 | none => m
 | some b => match b.code[m.at_]? with
  | some x => stepMI x m
  | none => stepMT b.term m
def LocOk (m : RunZ) (l : Int) : Prop := -9223372036854775808 ≤ l ∧ l ≤ 9223372036854775807 ∧ 0 ≤ l.tdiv 2 ∧ (l.tmod 2 = 1 → l.tdiv 2 < m.slots.length) ∧ (l.tmod 2 ≠ 1 → l.tdiv 2 < m.regs.length)
section
end
end Go.AE
set_option maxRecDepth 4000
namespace Go.AE
open Go
section
end
end Go.AE
set_option maxRecDepth 4000
namespace Go.AE
open Go
structure OkX (m : RunZ) (x : Mach) : Prop where
 mv : x.op = 18 → LocOk m x.dst ∧ LocOk m x.src
 em : x.op = 17 → 0 ≤ x.a ∧ x.a < m.regs.length
 op : x.op ≠ 18 → x.op ≠ 17 → (0 ≤ x.a ∧ x.a < m.regs.length) ∧ (0 ≤ x.b ∧ x.b < m.regs.length) ∧ (0 ≤ x.d ∧ x.d < m.regs.length)
section
end
end Go.AE
set_option maxRecDepth 4000
namespace Go.AE
open Go
structure OkG (g : MFunc) (n1 n2 : Nat) : Prop where
 code : ∀ b ∈ g.blocks, ∀ x ∈ b.code, ∀ m : RunZ, m.regs.length = n1 → m.slots.length = n2 → OkX m x
 term : ∀ b ∈ g.blocks, OkT b.term n1 g.blocks.length
structure OkRM (g : MFunc) (n1 n2 : Nat) (m : RunZ) : Prop where
 regs : m.regs.length = n1
 slots : m.slots.length = n2
 block : m.block < g.blocks.length
 at_ : ∀ b, g.blocks[m.block]? = some b → m.at_ ≤ b.code.length
theorem Jtmw (m : RunZ) (l v : Int) : (writeL m l v).regs.length = m.regs.length ∧ (writeL m l v).slots.length = m.slots.length ∧ (writeL m l v).block = m.block ∧ (writeL m l v).state = m.state ∧ (writeL m l v).trace = m.trace := by
 unfold writeL; split
 ·exact ⟨rfl, by simp [setI], rfl, rfl, rfl⟩
 ·exact ⟨by simp [setI], rfl, rfl, rfl, rfl⟩
section
end
end Go.AE
set_option maxRecDepth 4000
namespace Go.AE
open Go
section
end
end Go.AE
set_option maxRecDepth 4000
namespace Go.AE
open Go
def Reach (g : MFunc) : Nat → RunZ → RunZ → Prop
 | 0, m, m' => m = m'
 | j + 1, m, m' => m.state = 0 ∧ Reach g j (stepM g m) m'
theorem Reach.trans {g : MFunc} : ∀ {j k : Nat} {a b c : RunZ}, Reach g j a b → Reach g k b c → Reach g (j + k) a c := by
 intro j
 induction j with
 | zero => intro k a b c h1 h2; unfold Reach at h1; subst h1; rw [Nat.zero_add]; exact h2
 | succ j ih =>
  intro k a b c h1 h2
  rw [Nat.succ_add]
  exact ⟨h1.1, ih h1.2 h2⟩
def foldM : List Mach → RunZ → RunZ
 | [], m => m
 | x :: xs, m => foldM xs (stepMI x m)
def goodM : List Mach → RunZ → Prop
 | [], _ => True
 | x :: xs, m => m.state = 0 ∧ goodM xs (stepMI x m)
theorem Jtl2 {x : Mach} {m : RunZ} (h : (stepMI x m).state = 0) : (stepMI x m).at_ = m.at_ + 1 := by
 unfold stepMI at h ⊢
 split at h
 ·rename_i h1; rw [if_pos h1]
 ·rename_i h1
  rw [if_neg h1]
  split at h
  ·rename_i h2; rw [if_pos h2]
  ·rename_i h2
   rw [if_neg h2]
   split at h
   ·rename_i h3; rw [if_pos h3]
   ·cases h
theorem Jt9d {l : List Int} {n v : Int} (h0 : 0 ≤ n) (h1 : n < l.length) : gI (setI l n v) n = v := by
 have h : n.toNat < l.length := by omega
 simp [gI, setI, List.getD_eq_getElem?_getD, h]
theorem Jt9c {l : List Int} {n k v : Int} (h0 : 0 ≤ n) (h1 : 0 ≤ k) (hne : n ≠ k) : gI (setI l n v) k = gI l k := by
 have h : n.toNat ≠ k.toNat := by omega
 simp [gI, setI, List.getD_eq_getElem?_getD, List.getElem?_set_ne h]
end Go.AE
set_option maxRecDepth 4000
namespace Go.AE
open Go
structure RelS (f : Func) (n : Nat) (r m : RunZ) : Prop where
 run : r.state = 0
 runm : m.state = 0
 block : m.block = r.block
 at_ : ∀ b, f.blocks[r.block]? = some b → m.at_ = (spCode (b.code.take r.at_)).length
 slots : m.slots = r.regs
 trace : m.trace = r.trace
 value : m.value = r.value
 two : m.regs.length = 2
 len : r.regs.length = n
end Go.AE
set_option maxRecDepth 4000
namespace Go.AE
open Go
structure SrcOk (f : Func) (n : Nat) : Prop where
 code : ∀ b ∈ f.blocks, ∀ i ∈ b.code, (1 ≤ i.op ∧ i.op ≤ 17) ∧ InOk n i
 term : ∀ b ∈ f.blocks, OkT b.term n f.blocks.length ∧ (b.term.kind ≠ 1 → slotZ b.term.a = 2 * b.term.a + 1)
structure EndS (r m : RunZ) : Prop where
 state : m.state = 1
 value : m.value = r.value
 block : m.block = r.block
 slots : m.slots = r.regs
 trace : m.trace = r.trace
end Go.AE
set_option maxRecDepth 4000
namespace Go.AE
open Go
structure JumpF (f : Func) : Prop where
 code : ∀ b ∈ f.blocks, b.code = [] ∧ b.term.kind = 1 ∧ 0 ≤ b.term.to ∧ b.term.to < f.blocks.length
section
variable {P : Program} {K : ASt → Prop} {QP : AV → ASt → Prop} {dst : Option Nat} {st : ASt}
end
section
end
end Go.AE
set_option maxRecDepth 4000
namespace Go.AE
open Go
theorem Jtci {i : Instr} {n : Nat} (h : Jtht i (n : Int) = 0) (h0 : 0 < n) : (0 ≤ i.a ∧ i.a < n) ∧ (0 ≤ i.b ∧ i.b < n) ∧ (0 ≤ i.d ∧ i.d < n) := by
 unfold Jtht at h
 split at h
 ·cases h
 split at h
 ·cases h
 rename_i h9
 split at h
 ·cases h
 rename_i h12
 simp only [bad9, Bool.or_eq_true, Bool.and_eq_true, not_or, not_and, Bool.not_eq_true', Bool.not_eq_false, inZ, decide_eq_true_eq] at h9
 simp only [bad12, Bool.or_eq_true, Bool.and_eq_true, not_or, not_and, Bool.not_eq_true', bne_iff_ne, ne_eq, Decidable.not_not] at h12
 obtain ⟨⟨d, a⟩, b⟩ := h9
 obtain ⟨⟨⟨d2, a2⟩, b2⟩, _⟩ := h12
 have one : ∀ (u : Bool) (x : Int), (u = true → 0 ≤ x ∧ x < (n : Int)) → (u = false → x = 0) → 0 ≤ x ∧ x < (n : Int) := by
  intro u x h1 h2
  cases u with
  | true => exact h1 rfl
  | false => rw [h2 rfl]; omega
 exact ⟨one _ _ a a2, one _ _ b b2, one _ _ d d2⟩
theorem okT_of {t : Term} {n k : Nat} (h : Jthz t (n : Int) (k : Int) = 0) : OkT t n k := by
 have hto := Jtlr h
 refine ⟨?_, fun hk => Jtlp h hk, fun hk => ?_, fun hk => ?_⟩
 ·unfold Jthz at h
  split at h
  ·rename_i k1; exact .inl k1
  ·split at h
   ·rename_i k2; exact .inr (.inl k2)
   ·split at h
    ·rename_i k3; exact .inr (.inr k3)
    ·cases h
 ·refine hto _ ?_
  unfold succsZ
  rcases hk with k1 | k2
  ·rw [if_pos k1]; simp
  ·rw [if_neg (by omega), if_pos k2]; simp
 ·refine hto _ ?_
  unfold succsZ
  rw [if_neg (by omega), if_pos hk]; simp
theorem Jtdz {m : RunZ} {l : Int} {n1 n2 : Nat} (h : rngZ l (n1 : Int) (n2 : Int) = true) (h1 : m.regs.length = n1) (h2 : m.slots.length = n2) (q1 : n1 ≤ 1000000) (q2 : n2 ≤ 1000000) : LocOk m l := by
 unfold rngZ at h
 split at h
 ·rename_i k
  simp only [Bool.and_eq_true, decide_eq_true_eq] at h
  have e := Int.tdiv_eq_ediv_of_nonneg (b := 2) h.1
  exact ⟨by omega, by omega, by omega, fun _ => by rw [h2]; exact h.2, fun h' => absurd k h'⟩
 ·rename_i k
  simp only [Bool.and_eq_true, decide_eq_true_eq] at h
  have e := Int.tdiv_eq_ediv_of_nonneg (b := 2) h.1
  exact ⟨by omega, by omega, by omega, fun h' => absurd h' k, fun _ => by rw [h1]; exact h.2⟩
theorem okX_of {x : Mach} {n1 n2 : Nat} (h : Jthw x (n1 : Int) (n2 : Int) = 0) (h0 : 0 < n1) (q1 : n1 ≤ 1000000) (q2 : n2 ≤ 1000000) (m : RunZ) (h1 : m.regs.length = n1) (h2 : m.slots.length = n2) : OkX m x := by
 unfold Jthw at h
 split at h
 ·cases h
 split at h
 ·rename_i h18
  split at h
  ·cases h
  rename_i k1
  simp only [not_or, Bool.not_eq_false] at k1
  exact ⟨fun _ => ⟨Jtdz k1.1 h1 h2 q1 q2, Jtdz k1.2.1 h1 h2 q1 q2⟩, fun h => absurd h18 (by omega), fun h => absurd h18 h⟩
 ·rename_i h18
  split at h
  ·cases h
  obtain ⟨a, b, d⟩ := Jtci h h0
  exact ⟨fun h => absurd h h18, fun _ => by rw [h1]; exact a, fun _ _ => by rw [h1]; exact ⟨a, b, d⟩⟩
section
theorem Jthn {P : Program} {p : Nums} (A : All P p) (a : List Int) (h0 : a.length < 1000000000) : Jt3w P p.ref09_Values [.d (intsD a), .d (intsD a)] [] fun o _ => o = .ret (AB true) := by
 refine A.ref09_Values.run rfl fun R hR => ?_
 (simp (maxSteps := 1000000) [Jtbz, intsD])
 refine Jtd (fun k : Nat => ⟨[(5, AI k), (0, .d (.sl (a.map intRow))), (1, .d (.sl (a.map intRow)))], []⟩) (fun k => k ≤ a.length) (fun k => a.length - k) 0 (by simp) (by (exact wkA)) ?_
 rintro k hk N hN
 (simp (maxSteps := 1000000) [])
 ((first | refine Xc (fun h2 => ?_) (fun h2 => ?_) | refine Xo (fun h2 => ?_) (fun h2 => ?_)) <;> (try simp only [Xz, Xy] at h2))
 ·have hka : k < a.length := by omega
  have hw := Jtmv (k := k) (by omega)
  (simp (maxSteps := 1000000) [h2, intRow, hka, hw])
  exact hN _ (k + 1) hka (by (exact wkA)) (by omega)
 ·(simp (maxSteps := 1000000) [h2])
  (first | exact hR _ _ FrA | exact hR _ _ FnA)
end
end Go.AE
set_option maxRecDepth 4000
namespace Go.AE
open Go
structure Inv (n n1 n2 : Nat) (s : List Pair) (r m : RunZ) : Prop where
 pos : ∀ q ∈ s, 0 ≤ q.v ∧ 0 ≤ q.l
 val : ∀ q ∈ s, gI r.regs q.v = readL m q.l
 trace : m.trace = r.trace
 block : m.block = r.block
 run : r.state = 0
 runm : m.state = 0
 len : r.regs.length = n
 len1 : m.regs.length = n1
 len2 : m.slots.length = n2
theorem Jtls {r : CR} {f : CS → CR} {s' : CS} (h : thenC r f = (s', none)) : r.2 = none ∧ f r.1 = (s', none) := by
 unfold thenC at h
 cases hr : r.2 with
 | none => rw [hr] at h; exact ⟨rfl, h⟩
 | some e => rw [hr] at h; cases h
theorem par_eq {a b : Int} (ha : 0 ≤ a) (hb : 0 ≤ b) (h1 : a.tmod 2 = 1 ↔ b.tmod 2 = 1) (h2 : a.tdiv 2 = b.tdiv 2) : a = b := by
 have m1 := Int.tmod_eq_emod_of_nonneg (b := 2) ha
 have m2 := Int.tmod_eq_emod_of_nonneg (b := 2) hb
 have d1 := Int.tdiv_eq_ediv_of_nonneg (b := 2) ha
 have d2 := Int.tdiv_eq_ediv_of_nonneg (b := 2) hb
 omega
theorem Jtlo {a : Int} (ha : 0 ≤ a) : 0 ≤ a.tdiv 2 := by
 have d1 := Int.tdiv_eq_ediv_of_nonneg (b := 2) ha
 omega
theorem Jtgw {m : RunZ} {d l v : Int} (hd : LocOk m d) (h0 : 0 ≤ d) (hl : 0 ≤ l) : readL (writeL m d v) l = if l = d then v else readL m l := by
 obtain ⟨_, _, d0, d1, d2⟩ := hd
 have l0 := Jtlo hl
 by_cases hs : d.tmod 2 = 1
 ·have e : writeL m d v = { m with slots := setI m.slots (d.tdiv 2) v } := by unfold writeL; rw [if_pos hs]
  rw [e]
  by_cases hs2 : l.tmod 2 = 1
  ·have e1 : readL { m with slots := setI m.slots (d.tdiv 2) v } l = gI (setI m.slots (d.tdiv 2) v) (l.tdiv 2) := by unfold readL; rw [if_pos hs2]
   have e2 : readL m l = gI m.slots (l.tdiv 2) := by unfold readL; rw [if_pos hs2]
   rw [e1, e2]
   by_cases he : l = d
   ·subst he; rw [if_pos rfl]; exact Jt9d d0 (d1 hs)
   ·rw [if_neg he]
    exact Jt9c d0 l0 fun h => he (par_eq hl h0 (by simp [hs, hs2]) h.symm)
  ·have e1 : readL { m with slots := setI m.slots (d.tdiv 2) v } l = gI m.regs (l.tdiv 2) := by unfold readL; rw [if_neg hs2]
   have e2 : readL m l = gI m.regs (l.tdiv 2) := by unfold readL; rw [if_neg hs2]
   rw [e1, e2, if_neg (by rintro rfl; exact hs2 hs)]
 ·have e : writeL m d v = { m with regs := setI m.regs (d.tdiv 2) v } := by unfold writeL; rw [if_neg hs]
  rw [e]
  by_cases hs2 : l.tmod 2 = 1
  ·have e1 : readL { m with regs := setI m.regs (d.tdiv 2) v } l = gI m.slots (l.tdiv 2) := by unfold readL; rw [if_pos hs2]
   have e2 : readL m l = gI m.slots (l.tdiv 2) := by unfold readL; rw [if_pos hs2]
   rw [e1, e2, if_neg (by rintro rfl; exact hs hs2)]
  ·have e1 : readL { m with regs := setI m.regs (d.tdiv 2) v } l = gI (setI m.regs (d.tdiv 2) v) (l.tdiv 2) := by unfold readL; rw [if_neg hs2]
   have e2 : readL m l = gI m.regs (l.tdiv 2) := by unfold readL; rw [if_neg hs2]
   rw [e1, e2]
   by_cases he : l = d
   ·subst he; rw [if_pos rfl]; exact Jt9d d0 (d2 hs)
   ·rw [if_neg he]
    exact Jt9c d0 l0 fun h => he (par_eq hl h0 (by simp [hs, hs2]) h.symm)
theorem Jtl7 {i : Instr} {r : RunZ} (hc : i.op = 2) : stepI i r = { r with regs := setI r.regs i.d (gI r.regs i.a), at_ := r.at_ + 1, steps := r.steps + 1 } := by
 unfold stepI
 have hz : ∀ b, aluZ i.op (gI r.regs i.a) b i.imm = (gI r.regs i.a, true) := fun b => by unfold aluZ; rw [hc, if_neg (by decide), if_pos rfl]
 rw [if_neg (by rw [hc]; decide), hz, if_pos rfl]
section
variable {n n1 n2 : Nat} {s : List Pair} {r m : RunZ}
theorem Inv.copy {i : Instr} (h : Inv n n1 n2 s r m) (hc : i.op = 2) (hd : 0 ≤ i.d ∧ i.d < n) (ha : 0 ≤ i.a) : Inv n n1 n2 (copyP s i.d i.a) (stepI i r) m := by
 rw [Jtl7 hc]
 have hl : i.d < (r.regs.length : Int) := by rw [h.len]; exact hd.2
 refine ⟨fun q hq => ?_, fun q hq => ?_, h.trace, h.block, h.run, h.runm, by show (setI _ _ _).length = n; rw [Jtjm]; exact h.len, h.len1, h.len2⟩
 ·rcases Jteo.1 hq with ⟨k1, _⟩ | ⟨k1, k2⟩
  ·exact h.pos q k1
  ·exact ⟨by rw [k1]; exact hd.1, (h.pos _ k2).2⟩
 ·show gI (setI r.regs i.d (gI r.regs i.a)) q.v = readL m q.l
  rcases Jteo.1 hq with ⟨k1, k2⟩ | ⟨k1, k2⟩
  ·have p := h.pos q k1
   rcases k2 with k2 | k2
   ·by_cases he : q.v = i.d
    ·have v := h.val q k1
     rw [he] at v ⊢
     rw [Jt9d hd.1 hl, ← k2]; exact v
    ·rw [Jt9c hd.1 p.1 (fun h => he h.symm)]; exact h.val q k1
   ·rw [Jt9c hd.1 p.1 (fun h => k2 h.symm)]; exact h.val q k1
  ·rw [k1, Jt9d hd.1 hl]
   exact h.val _ k2
theorem Inv.move {x : Mach} (h : Inv n n1 n2 s r m) (hc : x.op = 18) (ok : OkX m x) (h0 : 0 ≤ x.dst) : Inv n n1 n2 (moveP s x.dst x.src) r (stepMI x m) := by
 obtain ⟨o1, o2⟩ := ok.mv hc
 have e : stepMI x m = { writeL m x.dst (readL m x.src) with at_ := m.at_ + 1, steps := m.steps + 1 } := by unfold stepMI; rw [if_pos hc]
 obtain ⟨w1, w2, w3, w4, w5⟩ := Jtmw m x.dst (readL m x.src)
 rw [e]
 have rd : ∀ l : Int, 0 ≤ l → readL { writeL m x.dst (readL m x.src) with at_ := m.at_ + 1, steps := m.steps + 1 } l = if l = x.dst then readL m x.src else readL m l := fun l hl => Jtgw o1 h0 hl
 refine ⟨fun q hq => ?_, fun q hq => ?_, by show (writeL m _ _).trace = _; rw [w5]; exact h.trace, by show (writeL m _ _).block = _; rw [w3]; exact h.block, h.run, by show (writeL m _ _).state = _; rw [w4]; exact h.runm, h.len,
  by show (writeL m _ _).regs.length = _; rw [w1]; exact h.len1, by show (writeL m _ _).slots.length = _; rw [w2]; exact h.len2⟩
 ·rcases Jtes.1 hq with ⟨k1, _⟩ | ⟨k1, k2⟩
  ·exact h.pos q k1
  ·exact ⟨(h.pos _ k2).1, by rw [k1]; exact h0⟩
 ·rcases Jtes.1 hq with ⟨k1, k2⟩ | ⟨k1, k2⟩
  ·rw [rd _ (h.pos q k1).2]
   by_cases he : q.l = x.dst
   ·rw [if_pos he]
    rcases k2 with k2 | k2
    ·have v := h.val q k1
     rw [v, he, k2]
    ·exact absurd he k2
   ·rw [if_neg he]; exact h.val q k1
  ·rw [rd _ (by rw [k1]; exact h0), if_pos k1]
   exact h.val _ k2
theorem Inv.moves {most : Int} {ok : Mach → Prop} (hok : ∀ x, ok x → x.op = 18 ∧ 0 ≤ x.dst ∧ ∀ m : RunZ, m.regs.length = n1 → m.slots.length = n2 → OkX m x) :
  ∀ {l : List Mach} {k : Nat} {s s' : CS} {m : RunZ}, moveC most k l s = (s', none) → (∀ x ∈ l, ok x) → Inv n n1 n2 s.set r m →
   goodM l m ∧ Inv n n1 n2 s'.set r (foldM l m) ∧ (foldM l m).at_ = m.at_ + l.length ∧ (foldM l m).value = m.value := by
 intro l
 induction l with
 | nil =>
  intro k s s' m h _ hi
  unfold moveC at h
  injection h with h; subst h
  exact ⟨trivial, hi, rfl, rfl⟩
 | cons x l ih =>
  intro k s s' m h hl hi
  unfold moveC at h
  obtain ⟨_, h2⟩ := Jtls h
  obtain ⟨x1, x2, x3⟩ := hok x (hl x (by simp))
  have hi1 := hi.move x1 (x3 m hi.len1 hi.len2) x2
  obtain ⟨g1, g2, g3, g4⟩ := ih h2 (fun y hy => hl y (by simp [hy])) hi1
  refine ⟨⟨hi.runm, g1⟩, g2, ?_, ?_⟩
  ·show (foldM l (stepMI x m)).at_ = _
   rw [g3, Jtl2 hi1.runm, List.length_cons]; omega
  ·show (foldM l (stepMI x m)).value = _
   rw [g4]
   unfold stepMI; rw [if_pos x1]
   show (writeL m x.dst (readL m x.src)).value = _
   unfold writeL; split <;> rfl
end
theorem Jtmf {s s' : CS} {v t a : Int} (h : useC s v t a = (s', none)) : (⟨v, t⟩ : Pair) ∈ s.set ∧ s'.set = s.set := by
 unfold useC at h
 split at h
 ·rename_i hm; injection h with h1 h2; subst h1; exact ⟨hm, rfl⟩
 ·injection h with h1 h2; cases h2
theorem Jtcj {most at_ : Int} {s s' : CS} {i : Instr} {x : Mach} (h : instrC most s i x at_ = (s', none)) :
  (usesA i.op = true → (⟨i.a, regZ x.a⟩ : Pair) ∈ s.set) ∧ (usesB i.op = true → (⟨i.b, regZ x.b⟩ : Pair) ∈ s.set) ∧ s'.set = if usesD i.op = true then defP s.set i.d (regZ x.d) else s.set := by
 unfold instrC at h
 obtain ⟨h1, h⟩ := Jtls h
 obtain ⟨h2, h⟩ := Jtls h
 have a1 : (usesA i.op = true → (⟨i.a, regZ x.a⟩ : Pair) ∈ s.set) ∧ (if usesA i.op = true then useC s i.a (regZ x.a) at_ else (s, none)).1.set = s.set := by
  by_cases hu : usesA i.op = true
  ·rw [if_pos hu] at h1 ⊢
   have := Jtmf (s' := (useC s i.a (regZ x.a) at_).1) (by rw [← h1])
   exact ⟨fun _ => this.1, this.2⟩
  ·rw [if_neg hu]; exact ⟨fun h => absurd h hu, rfl⟩
 obtain ⟨s1, hs1⟩ : ∃ s1, s1 = (if usesA i.op = true then useC s i.a (regZ x.a) at_ else (s, none)).1 := ⟨_, rfl⟩
 rw [← hs1] at h h2 a1
 have a2 : (usesB i.op = true → (⟨i.b, regZ x.b⟩ : Pair) ∈ s.set) ∧ (if usesB i.op = true then useC s1 i.b (regZ x.b) at_ else (s1, none)).1.set = s.set := by
  by_cases hu : usesB i.op = true
  ·rw [if_pos hu] at h2 ⊢
   have := Jtmf (s' := (useC s1 i.b (regZ x.b) at_).1) (by rw [← h2])
   exact ⟨fun _ => by rw [← a1.2]; exact this.1, by rw [this.2, a1.2]⟩
  ·rw [if_neg hu]; exact ⟨fun h => absurd h hu, a1.2⟩
 obtain ⟨s2, hs2⟩ : ∃ s2, s2 = (if usesB i.op = true then useC s1 i.b (regZ x.b) at_ else (s1, none)).1 := ⟨_, rfl⟩
 rw [← hs2] at h a2
 refine ⟨a1.1, a2.1, ?_⟩
 by_cases hu : usesD i.op = true
 ·rw [if_pos hu] at h ⊢
  have : s' = (Jt5o most (costC s2) (defP s2.set i.d (regZ x.d)) at_).1 := by rw [h]
  rw [this, ← a2.2]; rfl
 ·rw [if_neg hu] at h ⊢
  injection h with h; rw [← h]; exact a2.2
theorem Jti1 {v : Int} (h0 : 0 ≤ v) (h1 : v ≤ 1000000) : regZ v = 2 * v := by unfold regZ; exact wrap_i64 (by omega) (by omega)
theorem Jtgv {m : RunZ} {v : Int} (h0 : 0 ≤ v) (h1 : v ≤ 1000000) : readL m (regZ v) = gI m.regs v := by
 rw [Jti1 h0 h1]
 have m1 := Int.tmod_eq_emod_of_nonneg (a := 2 * v) (b := 2) (by omega)
 have d1 := Int.tdiv_eq_ediv_of_nonneg (a := 2 * v) (b := 2) (by omega)
 unfold readL
 rw [if_neg (by omega), show (2 * v).tdiv 2 = v by omega]
section
variable {n n1 n2 : Nat} {r m : RunZ}
end
end Go.AE
set_option maxRecDepth 4000
namespace Go.AE
open Go
inductive RowsF (code : List Instr) (mach : List Mach) : Nat → Nat → List ARow → Prop
 | last {i k : Nat} : skipW isCopy code i = code.length → skipW isMove mach k = mach.length → RowsF code mach i k [⟨i, skipW isCopy code i, k, skipW isMove mach k, -1, -1⟩]
 | next {i k : Nat} {x : Instr} {y : Mach} {rest : List ARow} : code[skipW isCopy code i]? = some x → mach[skipW isMove mach k]? = some y → sameI x y = true → RowsF code mach (skipW isCopy code i + 1) (skipW isMove mach k + 1) rest →
   RowsF code mach i k (⟨i, skipW isCopy code i, k, skipW isMove mach k, skipW isCopy code i, skipW isMove mach k⟩ :: rest)
theorem Jt50 {code : List Instr} {mach : List Mach} : ∀ (f i k : Nat) (acc : List ARow), (alignS code mach f i k acc).2.2 = 0 → ∃ rest, (alignS code mach f i k acc).1 = acc ++ rest ∧ RowsF code mach i k rest := by
 intro f
 induction f with
 | zero => intro i k acc h; cases h
 | succ f ih =>
  intro i k acc h
  unfold alignS at h ⊢
  by_cases h1 : skipW isCopy code i = code.length ∧ skipW isMove mach k = mach.length
  ·rw [if_pos h1]
   exact ⟨_, rfl, .last h1.1 h1.2⟩
  ·rw [if_neg h1] at h ⊢
   cases hx : code[skipW isCopy code i]? with
   | none => rw [hx] at h; cases h
   | some x =>
    cases hy : mach[skipW isMove mach k]? with
    | none => rw [hx, hy] at h; cases h
    | some y =>
     rw [hx, hy] at h
     simp only at h ⊢
     by_cases hs : sameI x y = true
     ·rw [if_pos hs] at h ⊢
      obtain ⟨rest, e, hr⟩ := ih _ _ _ h
      exact ⟨_, by rw [e, List.append_assoc]; rfl, .next hx hy hs hr⟩
     ·rw [if_neg hs] at h; cases h
theorem Jt53 {code : List Instr} {mach : List Mach} (h : (alignZ code mach).2.2 = 0) : RowsF code mach 0 0 (alignZ code mach).1 := by
 obtain ⟨rest, e, hr⟩ := Jt50 _ 0 0 [] h
 have : (alignZ code mach).1 = rest := e
 rw [this]; exact hr
theorem Jtjy {α : Type} (f : α → Bool) (l : List α) (i : Nat) : (l.take (skipW f l i)).drop i = (l.drop i).takeWhile f := by
 rw [List.drop_take]
 unfold skipW
 rw [Nat.add_sub_cancel_left]
 exact (List.prefix_iff_eq_take.1 (List.takeWhile_prefix f)).symm
theorem Jtjx {α : Type} {f : α → Bool} {l : List α} {i : Nat} : ∀ x ∈ (l.take (skipW f l i)).drop i, f x = true ∧ x ∈ l := by
 intro x hx
 rw [Jtjy] at hx
 exact ⟨List.all_eq_true.1 List.all_takeWhile x hx, List.mem_of_mem_drop ((List.takeWhile_prefix f).subset hx)⟩
theorem Jte9 {f : MFunc} (h : Jthv f = 0) {b : MBlock} (hb : b ∈ f.blocks) : (∀ x ∈ b.code, Jthw x f.regs f.slots = 0) ∧ (∀ j, j < b.code.length → ¬ 64 < runF (b.code.take (j + 1))) ∧ Jthz b.term f.regs f.blocks.length = 0 := by
 refine ⟨(mac_ok h).2.2.2 b hb, ?_⟩
 unfold Jthv at h
 split at h
 ·cases h
 split at h
 ·cases h
 split at h
 ·cases h
 split at h
 ·cases h
 split at h
 ·cases h
 have h3 := Jt8o h _ (List.mem_map_of_mem hb)
 unfold Jthu at h3
 split at h3
 ·rename_i h5; exact absurd h3 h5
 rename_i h5
 have h6 : mErrs b.code f.regs f.slots = 0 := by simpa using h5
 refine ⟨fun j hj hgt => ?_, h3⟩
 have h7 := Jt8o h6 (mErr b.code f.regs f.slots j) (List.mem_map.2 ⟨j, List.mem_range.2 hj, rfl⟩)
 unfold mErr at h7
 rw [List.getElem?_eq_getElem hj] at h7
 simp only at h7
 split at h7
 ·rename_i h8; exact absurd h7 h8
 rw [if_pos ((Jtf9 hj).1 hgt)] at h7
 cases h7
end Go.AE
set_option maxRecDepth 4000
namespace Go.AE
open Go
structure Acc (c : Cert) (n n1 n2 : Nat) : Prop where
 src : ∀ b ∈ c.S.blocks, ∀ i ∈ b.code, (1 ≤ i.op ∧ i.op ≤ 17) ∧ InOk n i
 sterm : ∀ b ∈ c.S.blocks, OkT b.term n c.S.blocks.length
 mac : OkG c.T n1 n2
 dst : ∀ b ∈ c.T.blocks, ∀ x ∈ b.code, 0 ≤ x.dst
 runs : ∀ b ∈ c.T.blocks, ∀ j, j < b.code.length → ¬ 64 < runF (b.code.take (j + 1))
 small : n1 ≤ 1000000
 lenT : c.T.blocks.length = c.S.blocks.length
 lenW : c.W.length = c.S.blocks.length
 w : ∀ l ∈ c.W, Srt l ∧ ∀ q ∈ l, 0 ≤ q.v ∧ 0 ≤ q.l
 blk : ∀ i, i < c.S.blocks.length → blkOk c i = true
end Go.AE
set_option maxRecDepth 4000
namespace Go.AE
open Go
structure EndC (r m : RunZ) : Prop where
 state : m.state = 1
 value : m.value = r.value
 trace : m.trace = r.trace
end Go.AE
set_option maxRecDepth 4000
namespace Go.AE
open Go
end Go.AE
set_option maxRecDepth 4000
namespace Go.AE
open Go
theorem dst_nn {x : Mach} {r s : Int} (h : Jthw x r s = 0) : 0 ≤ x.dst := by
 unfold Jthw at h
 split at h
 ·cases h
 split at h
 ·split at h
  ·cases h
  rename_i k
  simp only [not_or, Bool.not_eq_false] at k
  have k1 := k.1
  unfold rngZ at k1
  split at k1
  ·simp only [Bool.and_eq_true, decide_eq_true_eq] at k1; exact k1.1
  ·simp only [Bool.and_eq_true, decide_eq_true_eq] at k1; exact k1.1
 ·split at h
  ·cases h
  rename_i k
  rcases Decidable.em (x.dst = 0) with h0 | h0
  ·omega
  ·exact absurd ⟨h, .inl h0⟩ k
end Go.AE
