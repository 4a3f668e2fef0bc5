/- A part of the proof: the evaluator over abstract values, its codes, the contracts of the functions. -/
import Derived.Test.YtcandpnhiboehaaX3
set_option linter.unusedVariables false
set_option linter.unusedSimpArgs false
set_option maxRecDepth 8000
namespace Go.AE
open Go
theorem Jt16 {P : Program} {K : ASt → Prop} {QP : AV → ASt → Prop} {dst : Option Nat} {st : ASt} {ι : Type} {f : Nat} {args cargs : List AV} {C : ι → List Blk} {X Y : ι → AV} {Pr : ι → Prop}
  (h : Jt4n P f cargs [] fun o H' => ∃ i, Pr i ∧ o = .ret (X i) ∧ H' = C i) (ha : renL (idx []) args = some cargs) (hC : ∀ i, ∀ k ∈ C i, ClB k) (hx : ∀ i, (X i).ren (back [] st.H.length (C i).length) = some (Y i))
  (hK : ∀ i, Pr i → K (put dst (Y i) ⟨unview st.env, st.H ++ C i⟩)) : AWcall P false f args dst K QP st := by
 refine .inr ⟨rfl, .inr ⟨[], List.nodup_nil, cargs, [], [], ha, rfl, rfl, h.mono ?_⟩⟩
 rintro o H' ⟨i, hi, rfl, rfl⟩
 refine ⟨(C i).length, C i, Y i, ?_, by simp, hx i, ?_⟩
 ·simp only [List.length_nil, Nat.zero_add, List.take_length]
  exact Jtg6 (hC i) _
 ·exact hK i hi
open Classical in
noncomputable def liveS (f : Func) (j : Nat) : List Int := ((List.range f.regs.toNat).map fun v : Nat => (v : Int)).filter fun v => @decide (LiveAt f v j) (propDecidable _)
open Classical in
noncomputable def liveO (f : Func) (b : Block) : List Int := ((List.range f.regs.toNat).map fun v : Nat => (v : Int)).filter fun v => @decide (∃ t ∈ succsZ b.term, LiveAt f v t.toNat) (propDecidable _)
noncomputable def liveIn (f : Func) : List (List Int) := (List.range f.blocks.length).map (liveS f)
noncomputable def Jtc2 (f : Func) : List (List Int) := f.blocks.map (liveO f)
structure OkV (f : Func) : Prop where
 l : OkL f
 regs : ∀ v j, LiveAt f v j → 0 ≤ v ∧ v < f.regs
theorem mem_rg {n v : Int} : v ∈ ((List.range n.toNat).map fun v : Nat => (v : Int)) ↔ 0 ≤ v ∧ v < n := by
 simp only [List.mem_map, List.mem_range]
 constructor
 ·rintro ⟨k, h, rfl⟩; omega
 ·rintro ⟨h0, h1⟩; exact ⟨v.toNat, by omega, by omega⟩
theorem rg_lt (n : Nat) : ((List.range n).map fun v : Nat => (v : Int)).Pairwise fun a b => a < b := by
 rw [List.pairwise_map]
 exact List.pairwise_lt_range.imp fun h => by omega
theorem Jtd3 {f : Func} (ok : OkV f) {v : Int} {j : Nat} : v ∈ liveS f j ↔ LiveAt f v j := by
 unfold liveS
 rw [List.mem_filter, mem_rg]
 exact ⟨fun h => @of_decide_eq_true _ (Classical.propDecidable _) h.2, fun h => ⟨ok.regs v j h, @decide_eq_true _ (Classical.propDecidable _) h⟩⟩
theorem Jtd2 {f : Func} (ok : OkV f) {v : Int} {b : Block} : v ∈ liveO f b ↔ ∃ t ∈ succsZ b.term, LiveAt f v t.toNat := by
 unfold liveO
 rw [List.mem_filter, mem_rg]
 exact ⟨fun h => @of_decide_eq_true _ (Classical.propDecidable _) h.2, fun h => ⟨by obtain ⟨t, _, h⟩ := h; exact ok.regs v _ h, @decide_eq_true _ (Classical.propDecidable _) h⟩⟩
theorem Jtcn {l m : List Int} (h1 : l.Nodup) (h2 : m.Pairwise fun a b => a < b) (h : ∀ v, v ∈ l ↔ v ∈ m) : sortI l = m := by
 have hm : m.Nodup := h2.imp fun h => by omega
 exact Jthj (Jthg l) (h2.imp fun h => by omega) ((List.mergeSort_perm l _).trans ((List.perm_ext_iff_of_nodup h1 hm).2 h))
theorem Jtc5 (f : Func) (j : Nat) : (liveS f j).Pairwise fun a b => a < b := (rg_lt _).filter _
theorem Jtc1 (f : Func) (b : Block) : (liveO f b).Pairwise fun a b => a < b := (rg_lt _).filter _
theorem Jtc4 (f : Func) (j : Nat) : (liveS f j).length ≤ f.regs.toNat := by
 have := List.length_filter_le (fun v => @decide (LiveAt f v j) (Classical.propDecidable _)) ((List.range f.regs.toNat).map fun v : Nat => (v : Int))
 unfold liveS
 simpa using this
theorem Jtc0 (f : Func) (b : Block) : (liveO f b).length ≤ f.regs.toNat := by
 have := List.length_filter_le (fun v => @decide (∃ t ∈ succsZ b.term, LiveAt f v t.toNat) (Classical.propDecidable _)) ((List.range f.regs.toNat).map fun v : Nat => (v : Int))
 unfold liveO
 simpa using this
def outI (n k q : Nat) : AV := match k with
 | 0 => .nils
 | k + 1 => .hsl (6 * n + 4 + q) 0 1 (k + 1)
structure OutX (L : List (List D)) (k q : Nat) (X : List Blk) : Prop where
 out : 0 < k → X[q]? = some (.mem (Jtgl (L.take k)))
 cl : ∀ b ∈ X, ClB b
theorem ClB.rows (rows : List (List D)) : ClB (.mem (Jtgl rows)) := ClB.mem fun x hx ρ => by
 unfold Jtgl at hx
 obtain ⟨d, _, rfl⟩ := List.mem_map.1 hx; rfl
theorem OutX.s1 {L : List (List D)} {k q : Nat} {X : List Blk} (h : OutX L (k + 1) q X) {rows : List (List D)} (hr : rows = L.take (k + 1 + 1)) : OutX L (k + 1 + 1) q (X.set q (.mem (Jtgl rows))) := by
 subst hr
 have hl := (List.getElem?_eq_some_iff.1 (h.out (by omega))).1
 refine ⟨fun _ => by rw [List.getElem?_set_self hl], fun b hb => ?_⟩
 rcases List.mem_or_eq_of_mem_set hb with hb | hb
 ·exact h.cl b hb
 ·rw [hb]; exact .rows _
theorem OutX.s2 {L : List (List D)} {k q : Nat} {X : List Blk} (h : OutX L k q X) {Z : List Blk} (hZ : ∀ b ∈ Z, ClB b) {rows : List (List D)} (hr : rows = L.take (k + 1)) : OutX L (k + 1) (X ++ Z).length (X ++ Z ++ [.mem (Jtgl rows)]) := by
 subst hr
 refine ⟨fun _ => by simp, fun b hb => ?_⟩
 rcases List.mem_append.1 hb with hb | hb
 ·exact (List.mem_append.1 hb).elim (h.cl b) (hZ b)
 ·rw [List.mem_singleton.1 hb]; exact .rows _
theorem gX {a b c d : Blk} {T X : List Blk} {n q : Nat} (h : T.length = 6 * n) : (a :: b :: c :: d :: (T ++ X))[6 * n + 4 + q]? = X[q]? := by
 have e : 6 * n + 4 + q = (6 * n + q) + 4 := by omega
 rw [e]
 show (T ++ X)[6 * n + q]? = X[q]?
 rw [← h, List.getElem?_append_right (by omega)]; congr 1; omega
theorem sX {a b c d y : Blk} {T X : List Blk} {n q : Nat} (h : T.length = 6 * n) : (a :: b :: c :: d :: (T ++ X)).set (6 * n + 4 + q) y = a :: b :: c :: d :: (T ++ X.set q y) := by
 have e : 6 * n + 4 + q = (6 * n + q) + 4 := by omega
 rw [e]
 show a :: b :: c :: d :: (T ++ X).set (6 * n + q) y = _
 rw [← h, List.set_append_right _ _ (by omega)]; congr 6; omega
theorem Jt57 {H : List Blk} {n : Nat} {T X : List Blk} (h1 : ∀ k ∈ T, ClB k) (h2 : ∀ k ∈ X, ClB k) : WkHs H n (T ++ X) (T ++ X) := by
 have := Jt58 (H := H) (n := n) (T := T ++ X) (fun k hk => (List.mem_append.1 hk).elim (h1 k) (h2 k)) (X := []) (Y := []) trivial
 rwa [List.append_nil] at this
section
set_option maxHeartbeats 2000000 in
theorem Jtc7 {P : Program} {p : Nums} (A : All P p) (SI : SortIOk P p) (f : Func) (ok : OkV f) (hr0 : f.regs ≤ 10000) : Jt4n P p.liveness_In [f.av] [] fun o _ => o = .ret (.d (listsD (liveIn f))) := by
 refine A.liveness_In.run rfl fun R hR => ?_
 have hbl := ok.l.bl
 have hsol := Jtce A f ok.l
 obtain ⟨fR, hfR⟩ : ∃ x, x = f.blocks.map Block.row := ⟨_, rfl⟩
 obtain ⟨n, hn⟩ : ∃ n, n = f.blocks.length := ⟨_, rfl⟩
 obtain ⟨L, hL⟩ : ∃ L, L = (liveIn f).map fun x => [intsD x] := ⟨_, rfl⟩
 have lL : L.length = n := by rw [hL, hn]; simp [liveIn]
 have gL : ∀ j, j < n → L[j]? = some [intsD (liveS f j)] := fun j hj => by
  rw [hL, liveIn, List.getElem?_map, List.getElem?_map, List.getElem?_range (by omega)]; rfl
 have av : f.av = .agg [AI f.args, AI f.regs, .d (.sl fR)] := by rw [hfR]; rfl
 simp only [listsD, ← hL] at hR
 rw [av, ← hn] at hsol
 rw [← hn] at hbl
 rw [av]
 (simp (maxSteps := 1000000) [Jta1])
 refine Jt16 (Y := fun _ => .hsl 2 0 1 n) hsol (by rfl) (fun l k hk => ?_) (fun l => ?_) fun l hl => ?_
 ·rcases List.mem_append.1 hk with hk | hk
  ·simp only [List.mem_cons, List.not_mem_nil, or_false] at hk
   rcases hk with rfl | rfl | rfl
   ·exact .dead
   ·exact .mps _
   ·exact .dead
  ·exact TT_cl k hk
 ·simp [AV.ren, back]
 obtain ⟨hJ, hC⟩ := hl
 have el : l.length = n := by rw [hn]; exact hJ.len
 (simp (maxSteps := 1000000) [])
 have hTl : (TT l).length = 6 * n := by rw [TT_len, el]
 refine Jtd (fun z : Nat × Nat × List Blk => ⟨[(9, AI z.1), (8, AI (n : Int)), (7, .hsl 2 0 1 n), (3, outI n z.1 z.2.1)], .dead :: .dead :: .mem ((ruL l).map .mp) :: .dead :: (TT l ++ z.2.2)⟩)
  (fun z => z.1 ≤ n ∧ OutX L z.1 z.2.1 z.2.2) (fun z => n - z.1) (0, 0, []) ⟨Nat.zero_le _, fun h => absurd h (by simp), fun b hb => by simp at hb⟩ ?_ ?_
 ·simp only [outI, List.append_nil]
  refine Wk.of ?_ ?_ (by simp) <;> repeat' (first | exact (ClB.mps _).wk | exact Jt55 | (first | exact True.intro | exact ⟨_, rfl, Jtj8 rfl⟩ | exact ⟨_, rfl, Jtj6 rfl⟩ | exact ⟨_, rfl, .inl .nild⟩ | exact ⟨_, rfl, .inl .nile⟩ | exact ⟨_, rfl, Jtj7⟩ | exact Jtj8 rfl | exact Jtj6 rfl | exact .inl .nild | exact .inl .nile | exact Jtj7 | exact WkB.same rfl | exact Jt53 | exact Jt52 | exact .dead _ | exact .iter _ _ | exact .glob _ _ | refine Jt51 ?_ ?_ | refine And.intro ?_ ?_))
 rintro ⟨k, qx, X⟩ ⟨hk, hX⟩ N hN
 simp only at hk hX hN
 (simp (maxSteps := 1000000) [])
 by_cases h2 : k < n
 ·have h2i : (k : Int) < (n : Int) := by omega
  have hw := Jtje (k := k) (by omega)
  obtain ⟨q, hq⟩ : ∃ q, l[k]? = some q := ⟨_, List.getElem?_eq_getElem (by omega)⟩
  obtain ⟨b, hb⟩ : ∃ b, f.blocks[k]? = some b := ⟨_, List.getElem?_eq_getElem (by omega)⟩
  have gu := Jtgt hq
  obtain ⟨p1, _, _, _⟩ := hJ.at_ k q b hq hb
  have hmem : ∀ v, v ∈ q.ks ↔ LiveAt f v k := fun v => hJ.done (fun j hj => hC j (by omega)) hq v
  have e1 : sortI q.ks = liveS f k := Jtcn p1 (Jtc5 f k) fun v => by rw [hmem, Jtd3 ok]
  have hks : q.ks.length ≤ 1000000 := by
   have h1 := congrArg List.length e1
   rw [Jthe] at h1
   have := Jtc4 f k
   omega
  have hso := Jtcd A SI q.ru q.ks hks
  rw [e1] at hso
  have gl := gL k h2
  obtain ⟨D0, hD0⟩ : ∃ x, x = intsD (liveS f k) := ⟨_, rfl⟩
  rw [← hD0] at hso gl
  have eT : L.take k ++ [[D0]] = L.take (k + 1) := by rw [List.take_add_one, gl]; rfl
  have hp : picks (Blk.dead :: .dead :: .mem ((ruL l).map .mp) :: .dead :: (TT l ++ X)) [6 * k + 8] = some [.glob q.ru (mpK q.ks)] := by
   have h3 : (Blk.dead :: Blk.dead :: Blk.mem ((ruL l).map .mp) :: Blk.dead :: (TT l ++ X))[6 * k + 8]? = some (.glob q.ru (mpK q.ks)) := by
    show (TT l ++ X)[6 * k + 4]? = _
    rw [List.getElem?_append_left (List.getElem?_eq_some_iff.1 (TT_u hq)).1]; exact TT_u hq
   simp only [picks]; rw [h3]
  have leaf : ∀ {Y : List Blk} {q2 : Nat} {X2 : List Blk}, OutX L (k + 1) q2 X2 → WkT Y (Blk.dead :: .dead :: .mem ((ruL l).map .mp) :: .dead :: (TT l ++ X2)).length (.hsl (6 * n + 4 + q2) 0 1 (k + 1)) (.hsl (6 * n + 4 + q2) 0 1 (k + 1)) ∧ WkT Y (Blk.dead :: .dead :: .mem ((ruL l).map .mp) :: .dead :: (TT l ++ X2)).length (.hsl 2 0 1 n) (.hsl 2 0 1 n) := by
   intro Y q2 X2 h
   have := (List.getElem?_eq_some_iff.1 (h.out (by omega))).1
   refine ⟨Jtj8 ?_, Jtj8 ?_⟩ <;> simp only [AV.ren, List.length_cons, List.length_append, hTl] <;> rw [if_pos (by omega)]
  cases k with
  | zero =>
   simp only [outI]
   (simp (maxSteps := 1000000) [h2, gu])
   refine Jt13 [6 * 0 + 8] hso (by simp) (by rfl) hp (by rfl) (by rfl) (by rfl) (by rfl) ?_
   rw [Jtj5 _ _ _ hp]
   (simp (maxSteps := 1000000) [])
   refine Jt1d (ys := [[D0]]) (.inr (by rfl)) (by rfl) (by simp) (by decide) (by simp) (by simp) (by simp) ?_
   have h3 := hX.s2 (Z := []) (by simp) (rows := [[D0]]) (by simpa using eT)
   simp only [List.append_nil] at h3
   have hw1 : IntKind.i64.wrap 1 = 1 := by rw [wrap_i64 (by decide) (by decide)]
   have eI : 6 * n + X.length + 1 + 1 + 1 + 1 = 6 * n + 4 + X.length := by omega
   (simp (maxSteps := 1000000) [hTl, hw1])
   simp only [eI]
   refine hN _ (0 + 1, X.length, X ++ [.mem (Jtgl [[D0]])]) ⟨h2, h3⟩ ?_ (by simp only; omega)
   simp only [outI]
   refine Wk.of ?_ ?_ (by simp) <;> repeat' (first | exact (ClB.mps _).wk | exact Jt57 TT_cl h3.cl | (first | exact True.intro | exact ⟨_, rfl, Jtj8 rfl⟩ | exact ⟨_, rfl, Jtj6 rfl⟩ | exact ⟨_, rfl, .inl .nild⟩ | exact ⟨_, rfl, .inl .nile⟩ | exact ⟨_, rfl, Jtj7⟩ | exact Jtj8 rfl | exact Jtj6 rfl | exact .inl .nild | exact .inl .nile | exact Jtj7 | exact WkB.same rfl | exact Jt53 | exact Jt52 | exact .dead _ | exact .iter _ _ | exact .glob _ _ | refine Jt51 ?_ ?_ | refine And.intro ?_ ?_) | exact ⟨_, rfl, (leaf h3).1⟩ | exact ⟨_, rfl, (leaf h3).2⟩)
  | succ k =>
   have hw2 : IntKind.i64.wrap ((k : Int) + 1 + 1) = (k : Int) + 1 + 1 := wrap_i64 (by omega) (by omega)
   have h2j : (k : Int) + 1 < (n : Int) := by omega
   have h2z : (0 : Int) ≤ (k : Int) + 1 := by omega
   simp only [outI]
   (simp (maxSteps := 1000000) [h2, h2i, h2j, h2z, gu])
   refine Jt13 [6 * (k + 1) + 8] hso (by simp) (by rfl) hp (by rfl) (by rfl) (by rfl) (by rfl) ?_
   rw [Jtj5 _ _ _ hp]
   (simp (maxSteps := 1000000) [])
   refine Jt1e (b := 6 * n + 4 + qx) (rows := L.take (k + 1)) (ys := [[D0]]) (by rfl) ((gX hTl).trans (hX.out (by omega))) (by rw [List.length_take]; omega) ?_ (by omega) (by rfl) (by simp) (by decide) (by simp) (by simp; omega) (by simp; omega) ?_ ?_
   ·intro r hr
    have := List.mem_of_mem_take hr
    rw [hL] at this
    obtain ⟨x, _, rfl⟩ := List.mem_map.1 this; rfl
   ·have h3 := hX.s1 eT
    simp only [sX hTl]
    obtain ⟨Y, hY⟩ : ∃ Y, Y = X.set qx (.mem (Jtgl (L.take (k + 1) ++ [[D0]]))) := ⟨_, rfl⟩
    rw [← hY] at h3 ⊢
    (simp (maxSteps := 1000000) [hw2])
    refine hN _ (k + 1 + 1, qx, Y) ⟨h2, h3⟩ ?_ (by simp only; omega)
    simp only [outI]
    refine Wk.of ?_ ?_ (by simp) <;> repeat' (first | exact (ClB.mps _).wk | exact Jt57 TT_cl h3.cl | (first | exact True.intro | exact ⟨_, rfl, Jtj8 rfl⟩ | exact ⟨_, rfl, Jtj6 rfl⟩ | exact ⟨_, rfl, .inl .nild⟩ | exact ⟨_, rfl, .inl .nile⟩ | exact ⟨_, rfl, Jtj7⟩ | exact Jtj8 rfl | exact Jtj6 rfl | exact .inl .nild | exact .inl .nile | exact Jtj7 | exact WkB.same rfl | exact Jt53 | exact Jt52 | exact .dead _ | exact .iter _ _ | exact .glob _ _ | refine Jt51 ?_ ?_ | refine And.intro ?_ ?_) | exact ⟨_, rfl, (leaf h3).1⟩ | exact ⟨_, rfl, (leaf h3).2⟩)
   ·have h3 := hX.s2 (Z := []) (by simp) eT
    simp only [List.append_nil] at h3
    obtain ⟨Y, hY⟩ : ∃ Y, Y = X ++ [.mem (Jtgl (L.take (k + 1) ++ [[D0]]))] := ⟨_, rfl⟩
    rw [← hY] at h3
    simp only [List.cons_append, List.append_assoc, ← hY, List.length_cons, List.length_append, hTl]
    have eI : 6 * n + X.length + 1 + 1 + 1 + 1 = 6 * n + 4 + X.length := by omega
    (simp (maxSteps := 1000000) [hw2])
    simp only [eI]
    refine hN _ (k + 1 + 1, X.length, Y) ⟨h2, h3⟩ ?_ (by simp only; omega)
    simp only [outI]
    refine Wk.of ?_ ?_ (by simp) <;> repeat' (first | exact (ClB.mps _).wk | exact Jt57 TT_cl h3.cl | (first | exact True.intro | exact ⟨_, rfl, Jtj8 rfl⟩ | exact ⟨_, rfl, Jtj6 rfl⟩ | exact ⟨_, rfl, .inl .nild⟩ | exact ⟨_, rfl, .inl .nile⟩ | exact ⟨_, rfl, Jtj7⟩ | exact Jtj8 rfl | exact Jtj6 rfl | exact .inl .nild | exact .inl .nile | exact Jtj7 | exact WkB.same rfl | exact Jt53 | exact Jt52 | exact .dead _ | exact .iter _ _ | exact .glob _ _ | refine Jt51 ?_ ?_ | refine And.intro ?_ ?_) | exact ⟨_, rfl, (leaf h3).1⟩ | exact ⟨_, rfl, (leaf h3).2⟩)
 ·have ek : k = n := by omega
  subst ek
  cases k with
  | zero =>
   have : L = [] := List.eq_nil_of_length_eq_zero lL
   subst this
   simp only [outI]
   (simp (maxSteps := 1000000) [h2])
   exact hR _ _ (Jt4s _ (.d (.sl [])) rfl (by (exact wkvA)) rfl)
  | succ k =>
   simp only [outI]
   have eT : L.take (k + 1) = L := List.take_of_length_le (by omega)
   have ho := hX.out (by omega)
   rw [eT] at ho
   (simp (maxSteps := 1000000) [h2])
   refine hR _ _ (Jt4r (.hsl (6 * (k + 1) + 4 + qx) 0 1 (k + 1)) (.d (.sl L)) [] (by rfl) ?_ rfl)
   refine Wk.of ⟨⟨_, rfl, Jt5e ((gX hTl).trans ho) (Nat.zero_le _) lL ?_⟩, trivial⟩ trivial (by simp)
   intro r hr
   rw [hL] at hr
   obtain ⟨x, _, rfl⟩ := List.mem_map.1 hr; rfl
end
end Go.AE
set_option maxRecDepth 8000
namespace Go.AE
open Go
section
set_option maxHeartbeats 2000000 in
theorem Jtc8 {P : Program} {p : Nums} (A : All P p) (SI : SortIOk P p) (f : Func) (ok : OkV f) (hr0 : f.regs ≤ 10000) : Jt4n P p.liveness_Out [f.av] [] fun o _ => o = .ret (.d (listsD (Jtc2 f))) := by
 refine A.liveness_Out.run rfl fun R hR => ?_
 have hbl := ok.l.bl
 have hsol := Jtce A f ok.l
 obtain ⟨fR, hfR⟩ : ∃ x, x = f.blocks.map Block.row := ⟨_, rfl⟩
 obtain ⟨n, hn⟩ : ∃ n, n = f.blocks.length := ⟨_, rfl⟩
 obtain ⟨L, hL⟩ : ∃ L, L = (Jtc2 f).map fun x => [intsD x] := ⟨_, rfl⟩
 have lL : L.length = n := by rw [hL, hn]; simp [Jtc2]
 have gL : ∀ (j : Nat) (b : Block), f.blocks[j]? = some b → L[j]? = some [intsD (liveO f b)] := fun j b hb => by
  rw [hL, Jtc2, List.getElem?_map, List.getElem?_map, hb]; rfl
 have lR : fR.length = n := by rw [hfR, hn]; simp
 have gR : ∀ (j : Nat) (b : Block), f.blocks[j]? = some b → fR[j]? = some b.row := fun j b h => by rw [hfR, List.getElem?_map, h]; rfl
 have av : f.av = .agg [AI f.args, AI f.regs, .d (.sl fR)] := by rw [hfR]; rfl
 simp only [listsD, ← hL] at hR
 rw [av, ← hn] at hsol
 rw [← hn] at hbl
 rw [av]
 (simp (maxSteps := 1000000) [Jta2])
 refine Jt16 (Y := fun _ => .hsl 2 0 1 n) hsol (by rfl) (fun l k hk => ?_) (fun l => ?_) fun l hl => ?_
 ·rcases List.mem_append.1 hk with hk | hk
  ·simp only [List.mem_cons, List.not_mem_nil, or_false] at hk
   rcases hk with rfl | rfl | rfl
   ·exact .dead
   ·exact .mps _
   ·exact .dead
  ·exact TT_cl k hk
 ·simp [AV.ren, back]
 obtain ⟨hJ, hC⟩ := hl
 have el : l.length = n := by rw [hn]; exact hJ.len
 (simp (maxSteps := 1000000) [lR])
 have hTl : (TT l).length = 6 * n := by rw [TT_len, el]
 refine Jtd (fun z : Nat × Nat × List Blk => ⟨[(12, AI z.1), (11, AI (n : Int)), (10, .d (.sl fR)), (3, .hsl 2 0 1 n), (4, outI n z.1 z.2.1)], .dead :: .dead :: .mem ((ruL l).map .mp) :: .dead :: (TT l ++ z.2.2)⟩)
  (fun z => z.1 ≤ n ∧ OutX L z.1 z.2.1 z.2.2) (fun z => n - z.1) (0, 0, []) ⟨Nat.zero_le _, fun h => absurd h (by simp), fun b hb => by simp at hb⟩ ?_ ?_
 ·simp only [outI, List.append_nil]
  refine Wk.of ?_ ?_ (by simp) <;> repeat' (first | exact (ClB.mps _).wk | exact Jt55 | (first | exact True.intro | exact ⟨_, rfl, Jtj8 rfl⟩ | exact ⟨_, rfl, Jtj6 rfl⟩ | exact ⟨_, rfl, .inl .nild⟩ | exact ⟨_, rfl, .inl .nile⟩ | exact ⟨_, rfl, Jtj7⟩ | exact Jtj8 rfl | exact Jtj6 rfl | exact .inl .nild | exact .inl .nile | exact Jtj7 | exact WkB.same rfl | exact Jt53 | exact Jt52 | exact .dead _ | exact .iter _ _ | exact .glob _ _ | refine Jt51 ?_ ?_ | refine And.intro ?_ ?_))
 rintro ⟨k, qx, X⟩ ⟨hk, hX⟩ N hN
 simp only at hk hX hN
 (simp (maxSteps := 1000000) [])
 by_cases h2 : k < n
 ·have h2i : (k : Int) < (n : Int) := by omega
  have hw := Jtje (k := k) (by omega)
  obtain ⟨b, hb⟩ : ∃ b, f.blocks[k]? = some b := ⟨_, List.getElem?_eq_getElem (by omega)⟩
  have gl := gL k b hb
  have hr := gR k b hb
  have hsucc := fun t ht => ok.l.succ b (List.mem_of_getElem? hb) t ht
  obtain ⟨D0, hD0⟩ : ∃ x, x = intsD (liveO f b) := ⟨_, rfl⟩
  rw [← hD0] at gl
  have eT : L.take k ++ [[D0]] = L.take (k + 1) := by rw [List.take_add_one, gl]; rfl
  have hexM : ∀ v, Exits (l.map fun q => q.ks) (succsZ b.term) v ↔ v ∈ liveO f b := fun v => by
   rw [Jtd2 ok]
   constructor
   ·rintro ⟨t, ht, lt, h3, h4⟩
    rw [List.getElem?_map, Option.map_eq_some_iff] at h3
    obtain ⟨q2, h5, rfl⟩ := h3
    exact ⟨t, ht, (hJ.done (fun j hj => hC j (by omega)) h5 v).1 h4⟩
   ·rintro ⟨t, ht, h3⟩
    obtain ⟨q2, h5⟩ : ∃ q2, l[t.toNat]? = some q2 := ⟨_, List.getElem?_eq_getElem (by rw [hJ.len]; exact h3.lt)⟩
    exact ⟨t, ht, q2.ks, by rw [List.getElem?_map, h5]; rfl, (hJ.done (fun j hj => hC j (by omega)) h5 v).2 h3⟩
  have hso : ∀ x : Nat × List Int, (x.2.Nodup ∧ ∀ v, v ∈ x.2 ↔ Exits (l.map fun q => q.ks) (succsZ b.term) v) → Jt4n P p.liveness_set_sorted [.mp x.1] [.glob x.1 (mpK x.2)] fun o H' => o = .ret (.d D0) ∧ H' = [.glob x.1 (mpK x.2)] := fun x hx => by
   have e1 : sortI x.2 = liveO f b := Jtcn hx.1 (Jtc1 f b) fun v => by rw [hx.2, hexM]
   have hks : x.2.length ≤ 1000000 := by
    have h1 := congrArg List.length e1
    rw [Jthe] at h1
    have := Jtc0 f b
    omega
   have := Jtcd A SI x.1 x.2 hks
   rw [e1, ← hD0] at this; exact this
  clear hexM hD0
  have hex := fun H2 h1 h2 h3 => Jtca A b H2 2 n (ruL l) (l.map fun q => q.ks) ⟨h1, by simp, h2, h3⟩ (by simp [el]) (fun t ht => by have := hsucc t ht; rw [Jtgu, el, hn]; exact this)
  obtain ⟨code, kind, ta, to, els⟩ := b
  simp only [Block.row] at hr
  simp only [Block.av] at hex
  obtain ⟨B6, hB6⟩ : ∃ x, x = Blk.mem [AV.d (D.sl (code.map Instr.row)), AV.d (I kind), AV.d (I ta), AV.d (I to), AV.d (I els)] := ⟨_, rfl⟩
  have c6 : ClB B6 := by rw [hB6]; exact ClB.mem fun x hx ρ => by simp only [List.mem_cons, List.not_mem_nil, or_false] at hx; rcases hx with rfl | rfl | rfl | rfl | rfl <;> rfl
  have cAll : ∀ k ∈ (Blk.dead :: .dead :: .mem ((ruL l).map .mp) :: .dead :: (TT l ++ (X ++ [B6]))), ClB k := fun k hk => by
   simp only [List.mem_cons, List.mem_append, List.not_mem_nil, or_false] at hk
   rcases hk with rfl | rfl | rfl | rfl | hk | hk | rfl
   ·exact .dead
   ·exact .dead
   ·exact .mps _
   ·exact .dead
   ·exact TT_cl k hk
   ·exact hX.cl k hk
   ·exact c6
  have hex2 := hex (Blk.dead :: .dead :: .mem ((ruL l).map .mp) :: .dead :: (TT l ++ (X ++ [B6]))) rfl (fun i r ks h1 h2 => by
   rw [List.getElem?_map, Option.map_eq_some_iff] at h2
   obtain ⟨q2, h3, rfl⟩ := h2
   rw [Jtgt h3] at h1; injection h1 with h1; subst h1
   refine ⟨6 * i + 8, ?_⟩
   show (TT l ++ (X ++ [B6]))[6 * i + 4]? = _
   rw [List.getElem?_append_left (List.getElem?_eq_some_iff.1 (TT_u h3)).1]; exact TT_u h3) cAll
  clear hex
  have leaf : ∀ {Y : List Blk} {q2 : Nat} {X2 : List Blk}, OutX L (k + 1) q2 X2 → WkT Y (Blk.dead :: .dead :: .mem ((ruL l).map .mp) :: .dead :: (TT l ++ X2)).length (.hsl (6 * n + 4 + q2) 0 1 (k + 1)) (.hsl (6 * n + 4 + q2) 0 1 (k + 1)) ∧ WkT Y (Blk.dead :: .dead :: .mem ((ruL l).map .mp) :: .dead :: (TT l ++ X2)).length (.hsl 2 0 1 n) (.hsl 2 0 1 n) := by
   intro Y q2 X2 h
   have := (List.getElem?_eq_some_iff.1 (h.out (by omega))).1
   refine ⟨Jtj8 ?_, Jtj8 ?_⟩ <;> simp only [AV.ren, List.length_cons, List.length_append, hTl] <;> rw [if_pos (by omega)]
  cases k with
  | zero =>
   simp only [outI]
   (simp (maxSteps := 1000000) [h2, hr])
   simp only [← hB6]
   refine Jt11 (C := fun x : Nat × List Int => [.dead, .glob x.1 (mpK x.2)]) (X := fun x : Nat × List Int => .mp x.1) cAll ?_ hex2 (fun _ _ => rfl) (fun x k hk => ?_) fun x hx => ?_
   ·simp only [renL, AV.ren, List.length_cons]
    rw [Jtav _ 0 2 (by omega) (by omega)]
   ·simp only [List.mem_cons, List.not_mem_nil, or_false] at hk
    rcases hk with rfl | rfl
    ·exact .dead
    ·exact .glob _ _
   (simp (maxSteps := 1000000) [])
   have cZ : ∀ b ∈ [B6, Blk.dead, .glob x.1 (mpK x.2)], ClB b := fun b hb => by
    simp only [List.mem_cons, List.not_mem_nil, or_false] at hb
    rcases hb with rfl | rfl | rfl
    ·exact c6
    ·exact .dead
    ·exact .glob _ _
   have hp : picks (Blk.dead :: .dead :: .mem ((ruL l).map .mp) :: .dead :: (TT l ++ (X ++ [B6, .dead, .glob x.1 (mpK x.2)]))) [6 * n + 4 + (X.length + 2)] = some [.glob x.1 (mpK x.2)] := by
    simp only [picks]
    rw [gX hTl, gN2]
   refine Jt13 [6 * n + 4 + (X.length + 2)] (hso x hx) (by simp) (by rfl) hp (by rfl) (by rfl) (by rfl) (by rfl) ?_
   rw [Jtj5 _ _ _ hp]
   (simp (maxSteps := 1000000) [])
   have hXZ : OutX L 0 qx (X ++ [B6, .dead, .glob x.1 (mpK x.2)]) := ⟨fun h => absurd h (by simp), fun b hb => (List.mem_append.1 hb).elim (hX.cl b) (cZ b)⟩
   obtain ⟨W, hW⟩ : ∃ W, W = X ++ [B6, .dead, .glob x.1 (mpK x.2)] := ⟨_, rfl⟩
   rw [← hW] at hXZ ⊢
   refine Jt1d (ys := [[D0]]) (.inr (by rfl)) (by rfl) (by simp) (by decide) (by simp) (by simp) (by simp) ?_
   have h3 := hXZ.s2 (Z := []) (by simp) (rows := [[D0]]) (by simpa using eT)
   simp only [List.append_nil] at h3
   have hw1 : IntKind.i64.wrap 1 = 1 := by rw [wrap_i64 (by decide) (by decide)]
   have eI : 6 * n + W.length + 1 + 1 + 1 + 1 = 6 * n + 4 + W.length := by omega
   (simp (maxSteps := 1000000) [hTl, hw1])
   simp only [eI]
   refine hN _ (0 + 1, W.length, W ++ [.mem (Jtgl [[D0]])]) ⟨h2, h3⟩ ?_ (by simp only; omega)
   simp only [outI]
   refine Wk.of ?_ ?_ (by simp) <;> repeat' (first | exact (ClB.mps _).wk | exact Jt57 TT_cl h3.cl | (first | exact True.intro | exact ⟨_, rfl, Jtj8 rfl⟩ | exact ⟨_, rfl, Jtj6 rfl⟩ | exact ⟨_, rfl, .inl .nild⟩ | exact ⟨_, rfl, .inl .nile⟩ | exact ⟨_, rfl, Jtj7⟩ | exact Jtj8 rfl | exact Jtj6 rfl | exact .inl .nild | exact .inl .nile | exact Jtj7 | exact WkB.same rfl | exact Jt53 | exact Jt52 | exact .dead _ | exact .iter _ _ | exact .glob _ _ | refine Jt51 ?_ ?_ | refine And.intro ?_ ?_) | exact ⟨_, rfl, (leaf h3).1⟩ | exact ⟨_, rfl, (leaf h3).2⟩)
  | succ k =>
   have hw2 : IntKind.i64.wrap ((k : Int) + 1 + 1) = (k : Int) + 1 + 1 := wrap_i64 (by omega) (by omega)
   have h2j : (k : Int) + 1 < (n : Int) := by omega
   have h2z : (0 : Int) ≤ (k : Int) + 1 := by omega
   simp only [outI]
   (simp (maxSteps := 1000000) [h2, h2i, h2j, h2z, hr])
   simp only [← hB6]
   refine Jt11 (C := fun x : Nat × List Int => [.dead, .glob x.1 (mpK x.2)]) (X := fun x : Nat × List Int => .mp x.1) cAll ?_ hex2 (fun _ _ => rfl) (fun x k hk => ?_) fun x hx => ?_
   ·simp only [renL, AV.ren, List.length_cons]
    rw [Jtav _ 0 2 (by omega) (by omega)]
   ·simp only [List.mem_cons, List.not_mem_nil, or_false] at hk
    rcases hk with rfl | rfl
    ·exact .dead
    ·exact .glob _ _
   (simp (maxSteps := 1000000) [])
   have cZ : ∀ b ∈ [B6, Blk.dead, .glob x.1 (mpK x.2)], ClB b := fun b hb => by
    simp only [List.mem_cons, List.not_mem_nil, or_false] at hb
    rcases hb with rfl | rfl | rfl
    ·exact c6
    ·exact .dead
    ·exact .glob _ _
   have hp : picks (Blk.dead :: .dead :: .mem ((ruL l).map .mp) :: .dead :: (TT l ++ (X ++ [B6, .dead, .glob x.1 (mpK x.2)]))) [6 * n + 4 + (X.length + 2)] = some [.glob x.1 (mpK x.2)] := by
    simp only [picks]
    rw [gX hTl, gN2]
   refine Jt13 [6 * n + 4 + (X.length + 2)] (hso x hx) (by simp) (by rfl) hp (by rfl) (by rfl) (by rfl) (by rfl) ?_
   rw [Jtj5 _ _ _ hp]
   (simp (maxSteps := 1000000) [])
   have hXZ : OutX L (k + 1) qx (X ++ [B6, .dead, .glob x.1 (mpK x.2)]) := ⟨fun h => by rw [List.getElem?_append_left (List.getElem?_eq_some_iff.1 (hX.out h)).1]; exact hX.out h, fun b hb => (List.mem_append.1 hb).elim (hX.cl b) (cZ b)⟩
   obtain ⟨W, hW⟩ : ∃ W, W = X ++ [B6, .dead, .glob x.1 (mpK x.2)] := ⟨_, rfl⟩
   rw [← hW] at hXZ ⊢
   refine Jt1e (b := 6 * n + 4 + qx) (rows := L.take (k + 1)) (ys := [[D0]]) (by rfl) ((gX hTl).trans (hXZ.out (by omega))) (by rw [List.length_take]; omega) ?_ (by omega) (by rfl) (by simp) (by decide) (by simp) (by simp; omega) (by simp; omega) ?_ ?_
   ·intro r hr
    have := List.mem_of_mem_take hr
    rw [hL] at this
    obtain ⟨x, _, rfl⟩ := List.mem_map.1 this; rfl
   ·have h3 := hXZ.s1 eT
    simp only [sX hTl]
    obtain ⟨Y, hY⟩ : ∃ Y, Y = W.set qx (.mem (Jtgl (L.take (k + 1) ++ [[D0]]))) := ⟨_, rfl⟩
    rw [← hY] at h3 ⊢
    (simp (maxSteps := 1000000) [hw2])
    refine hN _ (k + 1 + 1, qx, Y) ⟨h2, h3⟩ ?_ (by simp only; omega)
    simp only [outI]
    refine Wk.of ?_ ?_ (by simp) <;> repeat' (first | exact (ClB.mps _).wk | exact Jt57 TT_cl h3.cl | (first | exact True.intro | exact ⟨_, rfl, Jtj8 rfl⟩ | exact ⟨_, rfl, Jtj6 rfl⟩ | exact ⟨_, rfl, .inl .nild⟩ | exact ⟨_, rfl, .inl .nile⟩ | exact ⟨_, rfl, Jtj7⟩ | exact Jtj8 rfl | exact Jtj6 rfl | exact .inl .nild | exact .inl .nile | exact Jtj7 | exact WkB.same rfl | exact Jt53 | exact Jt52 | exact .dead _ | exact .iter _ _ | exact .glob _ _ | refine Jt51 ?_ ?_ | refine And.intro ?_ ?_) | exact ⟨_, rfl, (leaf h3).1⟩ | exact ⟨_, rfl, (leaf h3).2⟩)
   ·have h3 := hXZ.s2 (Z := []) (by simp) eT
    simp only [List.append_nil] at h3
    obtain ⟨Y, hY⟩ : ∃ Y, Y = W ++ [.mem (Jtgl (L.take (k + 1) ++ [[D0]]))] := ⟨_, rfl⟩
    rw [← hY] at h3
    simp only [List.cons_append, List.append_assoc, ← hY, List.length_cons, List.length_append, hTl]
    have eI : 6 * n + W.length + 1 + 1 + 1 + 1 = 6 * n + 4 + W.length := by omega
    (simp (maxSteps := 1000000) [hw2])
    simp only [eI]
    refine hN _ (k + 1 + 1, W.length, Y) ⟨h2, h3⟩ ?_ (by simp only; omega)
    simp only [outI]
    refine Wk.of ?_ ?_ (by simp) <;> repeat' (first | exact (ClB.mps _).wk | exact Jt57 TT_cl h3.cl | (first | exact True.intro | exact ⟨_, rfl, Jtj8 rfl⟩ | exact ⟨_, rfl, Jtj6 rfl⟩ | exact ⟨_, rfl, .inl .nild⟩ | exact ⟨_, rfl, .inl .nile⟩ | exact ⟨_, rfl, Jtj7⟩ | exact Jtj8 rfl | exact Jtj6 rfl | exact .inl .nild | exact .inl .nile | exact Jtj7 | exact WkB.same rfl | exact Jt53 | exact Jt52 | exact .dead _ | exact .iter _ _ | exact .glob _ _ | refine Jt51 ?_ ?_ | refine And.intro ?_ ?_) | exact ⟨_, rfl, (leaf h3).1⟩ | exact ⟨_, rfl, (leaf h3).2⟩)
 ·have ek : k = n := by omega
  subst ek
  cases k with
  | zero =>
   have : L = [] := List.eq_nil_of_length_eq_zero lL
   subst this
   simp only [outI]
   (simp (maxSteps := 1000000) [h2])
   exact hR _ _ (Jt4s _ (.d (.sl [])) rfl (by (exact wkvA)) rfl)
  | succ k =>
   simp only [outI]
   have eT : L.take (k + 1) = L := List.take_of_length_le (by omega)
   have ho := hX.out (by omega)
   rw [eT] at ho
   (simp (maxSteps := 1000000) [h2])
   refine hR _ _ (Jt4r (.hsl (6 * (k + 1) + 4 + qx) 0 1 (k + 1)) (.d (.sl L)) [] (by rfl) ?_ rfl)
   refine Wk.of ⟨⟨_, rfl, Jt5e ((gX hTl).trans ho) (Nat.zero_le _) lL ?_⟩, trivial⟩ trivial (by simp)
   intro r hr
   rw [hL] at hr
   obtain ⟨x, _, rfl⟩ := List.mem_map.1 hr; rfl
end
end Go.AE
set_option maxRecDepth 8000
namespace Go.AE
open Go
theorem Jtiz {b : Block} {v : Int} {i j : Nat} (h : i ≤ j) (hu : usedC b v i = true) : usedC b v j = true := by
 unfold usedC at hu ⊢
 rw [List.any_eq_true] at hu ⊢
 obtain ⟨x, hx, hy⟩ := hu
 exact ⟨x, List.mem_range.2 (Nat.lt_of_lt_of_le (List.mem_range.1 hx) h), hy⟩
section
set_option maxHeartbeats 1000000 in
theorem Jtfy {P : Program} {p : Nums} (A : All P p) (b : Block) (v : Int) (h0 : b.code.length ≤ 1000000) : Jt4n P p.ref23_Used [b.av, AI v] [] fun o _ => o = .ret (AB (usedZ b v)) := by
 refine A.ref23_Used.run rfl fun R hR => ?_
 obtain ⟨T, hT⟩ : ∃ T, T = usedZ b v := ⟨_, rfl⟩
 rw [← hT] at hR
 unfold usedZ at hT
 have hd := fun k hk => Jtft A b v k hk h0
 have hs := fun j i => @Jtj0 b v j i
 have hmono := fun i j => @Jtiz b v i j
 obtain ⟨F, hF⟩ : ∃ F : Nat → Bool, F = fun k => usedC b v k := ⟨_, rfl⟩
 obtain ⟨G, hG⟩ : ∃ F : Nat → Bool, F = fun k => defAt b v k := ⟨_, rfl⟩
 have eF : ∀ k, usedC b v k = F k := fun k => by rw [hF]
 have eG : ∀ k, defAt b v k = G k := fun k => by rw [hG]
 have F0 : F 0 = false := by rw [hF]; rfl
 simp only [eF, eG] at hs hmono hT hd
 clear hF hG eF eG
 obtain ⟨code, kind, ta, to, els⟩ := b
 simp only [Block.av] at hd
 simp only at h0 hs hT hd
 (simp (maxSteps := 1000000) [Jtar, Block.av])
 refine Jtd (fun k : Nat => ⟨[(5, AI k), (1, AI v), (2, .ptr 0 0)], [.mem [.d (.sl (code.map Instr.row)), AI kind, AI ta, AI to, AI els]]⟩) (fun k => k ≤ code.length ∧ F k = false) (fun k => code.length - k) 0 ⟨Nat.zero_le _, F0⟩ (by (exact wkA)) ?_
 rintro k ⟨hk, hz⟩ N hN
 (simp (maxSteps := 1000000) [])
 by_cases h2 : k < code.length
 ·have hw := Jtje (k := k) (by omega)
  have hb : code[k]? = some code[k] := by simp [h2]
  obtain ⟨i, hi⟩ : ∃ i, i = code[k] := ⟨_, rfl⟩
  rw [← hi] at hb
  have hs := hs k i hb
  have hdk := hd k hk
  rw [hz, Bool.false_or] at hs
  have yes : G k = false → useI i v = true → T = true := fun h1 h2' => by
   rw [hT, hmono (k + 1) code.length h2 (by rw [hs, h1, h2']; rfl)]; rfl
  have no : (useI i v = false ∨ G k = true) → F (k + 1) = false := fun h => by
   rw [hs]
   rcases h with h | h <;> rw [h] <;> simp
  unfold useI at yes no
  (simp (maxSteps := 1000000) [h2, List.getElem?_map, hb, Instr.row])
  simp only [← hi]
  (refine Jt12 (Jtfi A i.op) (by rfl) (by rfl) ?_)
  by_cases hA : usesA i.op = true ∧ i.a = v
  ·obtain ⟨hA1, hA2⟩ := hA
   (simp (maxSteps := 1000000) [hA1, hA2])
   (refine Jt12 hdk (by rfl) (by rfl) ?_)
   cases hg : G k with
   | true =>
    (simp (maxSteps := 1000000) [hw])
    exact hN _ (k + 1) ⟨h2, no (.inr hg)⟩ (by (exact wkA)) (by omega)
   | false =>
    have := yes hg (by simp [hA1, hA2])
    (simp (maxSteps := 1000000) [])
    (first | exact hR _ _ FrA | exact hR _ _ FnA | exact hR _ _ (Xf (hq := by simp [AV.erase, AV.unview, this]; done)))
  ·have hAb : (usesA i.op && i.a == v) = false := by
    cases h : usesA i.op with
    | false => rfl
    | true => simpa using fun e => hA ⟨h, e⟩
   rw [hAb, Bool.false_or] at yes no
   cases hA1 : usesA i.op with
   | true =>
    have hA2 : ¬ i.a = v := fun e => hA ⟨hA1, e⟩
    have hA3 : (i.a == v) = false := by simpa using hA2
    (simp (maxSteps := 1000000) [hA2, hA3])
    (refine Jt12 (Jtfj A i.op) (by rfl) (by rfl) ?_)
    cases hB1 : usesB i.op with
    | true =>
     rw [hB1, Bool.true_and] at yes no
     by_cases hB2 : i.b = v
     ·(simp (maxSteps := 1000000) [hB2])
      (refine Jt12 hdk (by rfl) (by rfl) ?_)
      cases hg : G k with
      | true =>
       (simp (maxSteps := 1000000) [hw])
       exact hN _ (k + 1) ⟨h2, no (.inr hg)⟩ (by (exact wkA)) (by omega)
      | false =>
       have := yes hg (by simp [hB2])
       (simp (maxSteps := 1000000) [])
       (first | exact hR _ _ FrA | exact hR _ _ FnA | exact hR _ _ (Xf (hq := by simp [AV.erase, AV.unview, this]; done)))
     ·have hB3 : (i.b == v) = false := by simpa using hB2
      (simp (maxSteps := 1000000) [hB2, hB3, hw])
      exact hN _ (k + 1) ⟨h2, no (.inl hB3)⟩ (by (exact wkA)) (by omega)
    | false =>
     rw [hB1, Bool.false_and] at no
     (simp (maxSteps := 1000000) [hw])
     exact hN _ (k + 1) ⟨h2, no (.inl rfl)⟩ (by (exact wkA)) (by omega)
   | false =>
    (simp (maxSteps := 1000000) [])
    (refine Jt12 (Jtfj A i.op) (by rfl) (by rfl) ?_)
    cases hB1 : usesB i.op with
    | true =>
     rw [hB1, Bool.true_and] at yes no
     by_cases hB2 : i.b = v
     ·(simp (maxSteps := 1000000) [hB2])
      (refine Jt12 hdk (by rfl) (by rfl) ?_)
      cases hg : G k with
      | true =>
       (simp (maxSteps := 1000000) [hw])
       exact hN _ (k + 1) ⟨h2, no (.inr hg)⟩ (by (exact wkA)) (by omega)
      | false =>
       have := yes hg (by simp [hB2])
       (simp (maxSteps := 1000000) [])
       (first | exact hR _ _ FrA | exact hR _ _ FnA | exact hR _ _ (Xf (hq := by simp [AV.erase, AV.unview, this]; done)))
     ·have hB3 : (i.b == v) = false := by simpa using hB2
      (simp (maxSteps := 1000000) [hB2, hB3, hw])
      exact hN _ (k + 1) ⟨h2, no (.inl hB3)⟩ (by (exact wkA)) (by omega)
    | false =>
     rw [hB1, Bool.false_and] at no
     (simp (maxSteps := 1000000) [hw])
     exact hN _ (k + 1) ⟨h2, no (.inl rfl)⟩ (by (exact wkA)) (by omega)
 ·have ek : k = code.length := by omega
  subst ek
  rw [hz, Bool.false_or] at hT
  have hdk := hd code.length (Nat.le_refl _)
  (simp (maxSteps := 1000000) [])
  by_cases hk1 : kind = 1
  ·have hTf : T = false := by rw [hT]; simp [hk1]
   (simp (maxSteps := 1000000) [hk1])
   (first | exact hR _ _ FrA | exact hR _ _ FnA | exact hR _ _ (Xf (hq := by simp [AV.erase, AV.unview, hTf]; done)))
  ·have hkb : (kind != 1) = true := by simpa using hk1
   by_cases hta : ta = v
   ·subst hta
    (simp (maxSteps := 1000000) [hk1, hkb])
    (refine Jt12 hdk (by rfl) (by rfl) ?_)
    rw [hkb, beq_self_eq_true, Bool.true_and, Bool.true_and] at hT
    (simp (maxSteps := 1000000) [])
    (first | exact hR _ _ FrA | exact hR _ _ FnA | exact hR _ _ (Xf (hq := by simp [AV.erase, AV.unview, hT]; done)))
   ·have htb : (ta == v) = false := by simpa using hta
    have hTf : T = false := by rw [hT, htb]; simp
    (simp (maxSteps := 1000000) [hk1, hkb, hta, htb])
    (first | exact hR _ _ FrA | exact hR _ _ FnA | exact hR _ _ (Xf (hq := by simp [AV.erase, AV.unview, hTf]; done)))
end
end Go.AE
set_option maxRecDepth 8000
namespace Go.AE
open Go
theorem Jtiv {i : Instr} {v regs : Int} (h : Jtg2 i regs = 0) (hu : useI i v = true) : 0 ≤ v ∧ v < regs := by
 unfold Jtg2 at h
 split at h
 ·cases h
 split at h
 ·cases h
 rename_i h9
 simp only [bad9, Bool.or_eq_true, Bool.and_eq_true, not_or, not_and, Bool.not_eq_true', Bool.not_eq_false, inZ, decide_eq_true_eq] at h9
 simp only [useI, Bool.or_eq_true, Bool.and_eq_true, beq_iff_eq] at hu
 rcases hu with ⟨h1, h2⟩ | ⟨h1, h2⟩
 ·have := h9.1.2 h1; omega
 ·have := h9.2 h1; omega
theorem Jtj1 {b : Block} {v regs blocks : Int} (h1 : ∀ i ∈ b.code, Jtg2 i regs = 0) (h2 : Jtg3 b.term regs blocks = 0) (hu : usedZ b v = true) : 0 ≤ v ∧ v < regs := by
 unfold usedZ at hu
 rw [Bool.or_eq_true] at hu
 rcases hu with hu | hu
 ·unfold usedC at hu
  rw [List.any_eq_true] at hu
  obtain ⟨j, hj, hu⟩ := hu
  cases hc : b.code[j]? with
  | none => rw [hc] at hu; simp at hu
  | some i =>
   rw [hc] at hu
   simp only [Bool.and_eq_true] at hu
   exact Jtiv (h1 i (List.mem_of_getElem? hc)) hu.1
 ·simp only [Bool.and_eq_true, bne_iff_ne, ne_eq, beq_iff_eq] at hu
  obtain ⟨⟨hk, ha⟩, _⟩ := hu
  unfold Jtg3 at h2
  rw [if_neg hk] at h2
  split at h2
  ·split at h2
   ·cases h2
   ·rename_i h3; simp only [inZ, Bool.not_eq_false, Bool.and_eq_true, decide_eq_true_eq] at h3; omega
  ·split at h2
   ·split at h2
    ·cases h2
    ·rename_i h3; simp only [inZ, Bool.not_eq_false, Bool.and_eq_true, decide_eq_true_eq] at h3; omega
   ·cases h2
theorem Jti8 {t : Term} {regs blocks x : Int} (h : Jtg3 t regs blocks = 0) (hx : x ∈ succsZ t) : 0 ≤ x ∧ x < blocks := by
 unfold Jtg3 at h
 unfold succsZ at hx
 split at hx
 ·rename_i h1
  rw [if_pos h1] at h
  split at h
  ·cases h
  ·rename_i h3
   simp only [inZ, Bool.not_eq_false, Bool.and_eq_true, decide_eq_true_eq] at h3
   simp at hx; omega
 ·rename_i h1
  rw [if_neg h1] at h
  split at hx
  ·rename_i h2
   rw [if_pos h2] at h
   split at h
   ·cases h
   ·split at h
    ·cases h
    ·rename_i h3
     simp only [inZ, Bool.not_eq_false, Bool.and_eq_true, decide_eq_true_eq, not_or] at h3
     simp at hx; omega
  ·simp at hx
theorem okV_of {f : Func} (hf : few f = true) (hc : Jtg1 f = 0) : OkV f := by
 obtain ⟨f1, f2, f3, f4⟩ := Jt8b.1 hf
 obtain ⟨s1, s2, s3, s4⟩ := src_ok hc
 refine ⟨⟨fun b hb t ht => Jti8 (s4 b hb).2 ht, by omega, fun b hb => by have := f3 b hb; omega⟩, fun v j hl => ?_⟩
 exact LiveAt.closed (S := fun _ => 0 ≤ v ∧ v < f.regs) (fun i b hb hu => Jtj1 (s4 b (List.mem_of_getElem? hb)).1 (s4 b (List.mem_of_getElem? hb)).2 hu) (fun i b t hb ht h _ => h) hl
def lvB : Block := ⟨[⟨5, 1, 1, 0, 0⟩], ⟨3, 1, 0, 0⟩⟩
def lvF : Func := ⟨0, 3, [⟨[⟨1, 0, 0, 0, 0⟩], ⟨1, 0, 1, 0⟩⟩, lvB]⟩
def lvS (v : Int) (i : Nat) : Bool := (v == 1 && (i == 0 || i == 1)) || (v == 0 && i == 1)
theorem Jtcq {v : Int} (hv : v = 0 ∨ v = 1 ∨ v = 2) {i : Nat} (h : LiveAt lvF v i) : lvS v i = true := by
  refine LiveAt.closed (S := fun i => lvS v i = true) (fun i b hb hu => ?_) (fun i b t hb ht hs hd => ?_) h
  · match i, hb with
    | 0, hb => cases hb; rcases hv with rfl | rfl | rfl <;> revert hu <;> decide
    | 1, hb => cases hb; rcases hv with rfl | rfl | rfl <;> revert hu <;> decide
  · match i, hb with
    | 0, hb => cases hb; have : t = 1 := by simpa [succsZ] using ht
               subst this; rcases hv with rfl | rfl | rfl <;> revert hd hs <;> decide
    | 1, hb => cases hb; simp [succsZ, lvB] at ht
theorem lvF_01 : LiveAt lvF 0 1 := .use 1 lvB rfl (by decide)
theorem lvF_11 : LiveAt lvF 1 1 := .use 1 lvB rfl (by decide)
theorem lvF_10 : LiveAt lvF 1 0 := .next 0 ⟨[⟨1, 0, 0, 0, 0⟩], ⟨1, 0, 1, 0⟩⟩ 1 rfl (by decide) lvF_11 (by decide)
theorem lvF_in : liveIn lvF = [[1], [0, 1]] := by
 have h00 : ¬ LiveAt lvF 0 0 := fun h => absurd (Jtcq (by simp) h) (by decide)
 have h20 : ¬ LiveAt lvF 2 0 := fun h => absurd (Jtcq (by simp) h) (by decide)
 have h21 : ¬ LiveAt lvF 2 1 := fun h => absurd (Jtcq (by simp) h) (by decide)
 have hn : lvF.blocks.length = 2 := rfl
 have hr : lvF.regs.toNat = 3 := rfl
 simp [liveIn, liveS, hn, hr, List.range_succ, List.filter_cons, h00, h20, h21, lvF_01, lvF_11, lvF_10]
theorem Jtcr : Jtc2 lvF = [[0, 1], []] := by
 have h21 : ¬ LiveAt lvF 2 1 := fun h => absurd (Jtcq (by simp) h) (by decide)
 have hn : lvF.blocks = [⟨[⟨1, 0, 0, 0, 0⟩], ⟨1, 0, 1, 0⟩⟩, lvB] := rfl
 have s0 : succsZ ⟨1, 0, 1, 0⟩ = [1] := rfl
 have s1 : succsZ lvB.term = [] := rfl
 have hr : lvF.regs.toNat = 3 := rfl
 simp [Jtc2, liveO, hn, hr, s0, s1, List.range_succ, List.filter_cons, h21, lvF_01, lvF_11]
theorem Jtcp : sortI (scanZ lvB).1 = [0, 1] := Jtcn (by decide) (by decide) (by
 have : (scanZ lvB).1 = [1, 0] := by decide
 intro v; rw [this]; simp; omega)
theorem Jtco : sortI (scanZ lvB).2 = [1] := Jtcn (by decide) (by decide) (by
 have : (scanZ lvB).2 = [1] := by decide
 intro v; rw [this])
section
theorem Jtbd {P : Program} {p : Nums} (A : All P p) (SI : SortIOk P p) : Jt4n P p.law23_awake [] [] fun o _ => o = .ret (AB true) := by
 have okf : OkV lvF := okV_of (by decide) (by decide +kernel)
 have h1 := Jtc9 A SI lvB (by decide)
 have h2 := Jtc6 A SI lvB (by decide)
 have h3 := Jtc7 A SI lvF okf (by decide)
 have h4 := Jtc8 A SI lvF okf (by decide)
 rw [Jtcp] at h1
 rw [Jtco] at h2
 rw [lvF_in] at h3
 rw [Jtcr] at h4
 have n1 := Jtfp A [0, 1] [0, 1] (by decide) (by decide)
 have n2 := Jtfp A [1] [1] (by decide) (by decide)
 have s1 := Jtfx A [[1], [0, 1]] [[1], [0, 1]] (by decide) (by decide) (by decide) (by decide)
 have s2 := Jtfx A [[0, 1], []] [[0, 1], []] (by decide) (by decide) (by decide) (by decide)
 simp only [lvB, lvF, Block.av, Func.av, Block.row, Instr.row, List.map_cons, List.map_nil] at h1 h2 h3 h4
 simp only [listsD, intsD, intRow, List.map_cons, List.map_nil, decide_true] at h1 h2 h3 h4 n1 n2 s1 s2
 refine A.law23_awake.run rfl fun R hR => ?_
 (simp (maxSteps := 1000000) [Jt9z])
 (refine Jt12 h1 (by rfl) (by rfl) ?_)
 (simp (maxSteps := 1000000) [])
 (refine Jt12 n1 (by rfl) (by rfl) ?_)
 (simp (maxSteps := 1000000) [])
 (refine Jt12 h2 (by rfl) (by rfl) ?_)
 (simp (maxSteps := 1000000) [])
 (refine Jt12 n2 (by rfl) (by rfl) ?_)
 (simp (maxSteps := 1000000) [])
 (refine Jt12 h3 (by rfl) (by rfl) ?_)
 (simp (maxSteps := 1000000) [])
 (refine Jt12 s1 (by rfl) (by rfl) ?_)
 (simp (maxSteps := 1000000) [])
 (refine Jt12 h4 (by rfl) (by rfl) ?_)
 (simp (maxSteps := 1000000) [])
 (refine Jt12 s2 (by rfl) (by rfl) ?_)
 (simp (maxSteps := 1000000) [])
 (first | exact hR _ _ FrA | exact hR _ _ FnA)
end
end Go.AE
set_option linter.unusedSectionVars false
set_option maxRecDepth 8000
namespace Go.AE
open Go
theorem Jtbz (f : Func) : (liveIn f).length = f.blocks.length := by simp [liveIn]
theorem Jtc3 (f : Func) : (Jtc2 f).length = f.blocks.length := by simp [Jtc2]
theorem Jtby (f : Func) {i : Nat} (h : i < f.blocks.length) : (liveIn f)[i]? = some (liveS f i) := by simp [liveIn, h]
theorem Jti9 (t : Term) : (succsZ t).length ≤ 2 := by unfold succsZ; split <;> (try split) <;> simp
section
end
end Go.AE
set_option linter.unusedSectionVars false
set_option maxRecDepth 8000
namespace Go.AE
open Go
noncomputable def anyL (f : Func) (v : Int) (ss : List Int) (j : Nat) : Bool := (ss.take j).any fun t => @decide (v ∈ liveS f t.toNat) inferInstance
theorem Jt5t {f : Func} {v : Int} {ss : List Int} {j : Nat} {t : Int} (h : ss[j]? = some t) : anyL f v ss (j + 1) = (anyL f v ss j || decide (v ∈ liveS f t.toNat)) := by
 simp [anyL, List.take_add_one, h]
theorem Jt5s {f : Func} (ok : OkV f) {v : Int} {b : Block} : anyL f v (succsZ b.term) (succsZ b.term).length = decide (v ∈ liveO f b) := by
 rw [Bool.eq_iff_iff, decide_eq_true_eq, Jtd2 ok, anyL, List.take_length, List.any_eq_true]
 simp only [decide_eq_true_eq, Jtd3 ok]
section
end
end Go.AE
set_option maxRecDepth 8000
namespace Go.AE
open Go
def cntB (o : List Bool) : Nat := o.countP id
def GeB (o o' : List Bool) : Prop := o.length = o'.length ∧ ∀ j : Nat, o[j]? = some true → o'[j]? = some true
theorem GeB.refl (o : List Bool) : GeB o o := ⟨rfl, fun _ h => h⟩
theorem GeB.trans {a b c : List Bool} (h : GeB a b) (h' : GeB b c) : GeB a c := ⟨h.1.trans h'.1, fun j hj => h'.2 j (h.2 j hj)⟩
theorem GeB.set (o : List Bool) (i : Nat) : GeB o (o.set i true) := by
 refine ⟨by simp, fun j hj => ?_⟩
 rw [List.getElem?_set]
 split
 ·rename_i h; subst h; rw [if_pos (List.getElem?_eq_some_iff.1 hj).1]
 ·exact hj
theorem GeB.cnt {o o' : List Bool} (hg : GeB o o') : o = o' ∨ cntB o < cntB o' := by
 have key : ∀ {o o' : List Bool}, GeB o o' → (o = o' ∨ cntB o < cntB o') ∧ cntB o ≤ cntB o' := by
  intro o
  induction o with
  | nil => intro o' h; cases o' with | nil => exact ⟨.inl rfl, Nat.le_refl _⟩ | cons y o' => have := h.1; simp at this
  | cons x o ih =>
   intro o' h
   cases o' with
   | nil => have := h.1; simp at this
   | cons y o' =>
    obtain ⟨i1, i2⟩ := ih (o' := o') ⟨by have := h.1; simpa using this, fun j hj => by have := h.2 (j + 1) (by simpa using hj); simpa using this⟩
    have h0 : x = true → y = true := fun e => by have := h.2 0 (by simp [e]); simpa using this
    simp only [cntB, List.countP_cons, id] at i1 i2 ⊢
    cases x <;> cases y <;> simp at h0 ⊢
    ·refine ⟨i1, i2⟩
    ·exact ⟨by omega, by omega⟩
    ·exact ⟨i1, i2⟩
 exact (key hg).1
theorem Jt79 (o : List Bool) : cntB o ≤ o.length := List.countP_le_length
def SoundB (f : Func) (v : Int) (o : List Bool) : Prop := ∀ j : Nat, o[j]? = some true → LiveAt f v j
def ComplB (f : Func) (v : Int) (o : List Bool) : Prop := ∀ j : Nat, LiveAt f v j → o[j]? = some true
theorem SoundB.set {f : Func} {v : Int} {o : List Bool} (h : SoundB f v o) {i : Nat} (hi : LiveAt f v i) : SoundB f v (o.set i true) := by
 intro j hj
 rw [List.getElem?_set] at hj
 split at hj
 ·rename_i e; subst e; exact hi
 ·exact h j hj
noncomputable def liveB (f : Func) (v : Int) : List Bool := (List.range f.blocks.length).map fun j => @decide (LiveAt f v j) (Classical.propDecidable _)
theorem Jtbw {f : Func} {v : Int} {o : List Bool} (hl : o.length = f.blocks.length) (h1 : SoundB f v o) (h2 : ComplB f v o) : o = liveB f v := by
 apply List.ext_getElem?
 intro j
 by_cases hj : j < f.blocks.length
 ·rw [liveB, List.getElem?_map, List.getElem?_range hj, Option.map_some]
  have hjo : j < o.length := by omega
  cases ho : o[j]? with
  | none => rw [List.getElem?_eq_none_iff] at ho; omega
  | some x =>
   congr 1
   cases x with
   | true => exact (@decide_eq_true _ (Classical.propDecidable _) (h1 j ho)).symm
   | false => exact (@decide_eq_false _ (Classical.propDecidable _) fun h => by have := h2 j h; rw [ho] at this; cases this).symm
 ·rw [List.getElem?_eq_none (by omega), List.getElem?_eq_none (by simp [liveB]; omega)]
def bcB (o : List Bool) : List AV := Jtgl (o.map Jt6d)
theorem Jt63 (o : List Bool) (j : Nat) : (bcB o)[j]? = o[j]?.map AB := by
 induction o generalizing j with
 | nil => simp [bcB, Jtgl]
 | cons x o ih =>
  cases j with
  | zero => rfl
  | succ j => simpa [bcB, Jtgl, Jt6d] using ih j
theorem Jt64 (o : List Bool) : (bcB o).length = o.length := by
 unfold bcB; rw [Jtgp (e := 1) (Jtgq fun _ => rfl)]; simp
theorem Jt66 (o : List Bool) (i : Nat) (h : i < o.length) : (bcB o).take i ++ AB true :: (bcB o).drop (i + 1) = bcB (o.set i true) := by
 have := Jthn (rows := o.map Jt6d) (e := 1) (k := i) (row := Jt6d true) (Jtgq fun _ => rfl) rfl (by simpa using h)
 unfold bcB
 rw [List.map_set, ← this]
 simp [spl, Jt6d]
theorem Jt65 (n : Nat) : Jtgl (List.replicate n [D.bool false]) = bcB (List.replicate n false) := by
 unfold bcB; rw [List.map_replicate]; rfl
def RndB (f : Func) (v : Int) (o o' : List Bool) (j : Nat) : Prop := ∀ b, f.blocks[j]? = some b → (usedZ b v = true → o'[j]? = some true) ∧ ∀ t ∈ succsZ b.term, o[t.toNat]? = some true → defAt b v b.code.length = false → o'[j]? = some true
theorem RndB.mono {f : Func} {v : Int} {o a b : List Bool} {j : Nat} (h : RndB f v o a j) (hg : GeB a b) : RndB f v o b j := fun x hx => ⟨fun hu => hg.2 j ((h x hx).1 hu), fun t ht h1 h2 => hg.2 j ((h x hx).2 t ht h1 h2)⟩
theorem ComplB.of {f : Func} {v : Int} {o : List Bool} (h : ∀ j, j < f.blocks.length → RndB f v o o j) : ComplB f v o := fun j hj =>
 LiveAt.closed (S := fun j => o[j]? = some true) (fun i b hb hu => ((h i (List.getElem?_eq_some_iff.1 hb).1) b hb).1 hu) (fun i b t hb ht hs hd => ((h i (List.getElem?_eq_some_iff.1 hb).1) b hb).2 t ht hs hd) hj
theorem ComplB.mono {f : Func} {v : Int} {a b : List Bool} (h : ComplB f v a) (hg : GeB a b) : ComplB f v b := fun j hj => hg.2 j (h j hj)
theorem Jtia (t : Term) : (succsZ t).length ≤ 2 := by unfold succsZ; split <;> (try split) <;> simp
section
set_option maxHeartbeats 4000000 in
theorem Jtfz {P : Program} {p : Nums} (A : All P p) (f : Func) (ok : OkL f) (v : Int) : Jt4n P p.ref23_live [f.av, AI v] [] fun o _ => o = .ret (.d (boolsD (liveB f v))) := by
 refine A.ref23_live.run rfl fun R hR => ?_
 have hbl := ok.bl
 obtain ⟨fR, hfR⟩ : ∃ x, x = f.blocks.map Block.row := ⟨_, rfl⟩
 obtain ⟨n, hn⟩ : ∃ n, n = f.blocks.length := ⟨_, rfl⟩
 have lR : fR.length = n := by rw [hfR, hn]; simp
 have gR : ∀ (j : Nat) (b : Block), f.blocks[j]? = some b → fR[j]? = some b.row := fun j b h => by rw [hfR, List.getElem?_map, h]; rfl
 have av : f.av = .agg [AI f.args, AI f.regs, .d (.sl fR)] := by rw [hfR]; rfl
 rw [av]
 obtain ⟨fB, hfB⟩ : ∃ x, x = Blk.mem [AI f.args, AI f.regs, AV.d (.sl fR)] := ⟨_, rfl⟩
 rw [← hn] at hbl
 (simp (maxSteps := 1000000) [Jtas, lR])
 refine Jt2b (n := n) (by rfl) (by rfl) (by omega) (by omega) (by decide) (by rfl) ?_
 rw [Jt65]
 (simp (maxSteps := 1000000) [])
 refine Jtd (fun z : Nat × List Bool => ⟨[(6, AI z.1), (5, .hsl 1 0 1 n), (1, AI v), (2, .ptr 0 0)], [.mem [AI f.args, AI f.regs, .d (.sl fR)], .mem (bcB z.2)]⟩)
  (fun z => z.1 ≤ n + 1 ∧ z.2.length = n ∧ SoundB f v z.2 ∧ (ComplB f v z.2 ∨ z.1 ≤ cntB z.2)) (fun z => n + 1 - z.1) (0, List.replicate n false) ⟨Nat.zero_le _, by simp, fun j hj => by
   rw [List.getElem?_replicate] at hj; split at hj <;> simp at hj, .inr (Nat.zero_le _)⟩ ?_ ?_
 ·refine Wk.of ?_ ?_ (by simp) <;> repeat' (first | (first | exact True.intro | exact ⟨_, rfl, Jtj8 rfl⟩ | exact ⟨_, rfl, Jtj6 rfl⟩ | exact ⟨_, rfl, .inl .nild⟩ | exact ⟨_, rfl, .inl .nile⟩ | exact ⟨_, rfl, Jtj7⟩ | exact Jtj8 rfl | exact Jtj6 rfl | exact .inl .nild | exact .inl .nile | exact Jtj7 | exact WkB.same rfl | exact Jt53 | exact Jt52 | exact .dead _ | exact .iter _ _ | exact .glob _ _ | refine Jt51 ?_ ?_ | refine And.intro ?_ ?_))
 rintro ⟨r, o⟩ ⟨i1, i2, i3, i4⟩ N hN
 simp only at i1 i2 i3 i4 hN
 (simp (maxSteps := 1000000) [lR])
 by_cases h2 : r ≤ n
 ·have h2i : (r : Int) ≤ (n : Int) := by omega
  have hw := Jtje (k := r) (by omega)
  (simp (maxSteps := 1000000) [h2, h2i])
  refine Jtd (fun z : Nat × List Bool => ⟨[(7, AI z.1), (6, AI r), (5, .hsl 1 0 1 n), (1, AI v), (2, .ptr 0 0)], [.mem [AI f.args, AI f.regs, .d (.sl fR)], .mem (bcB z.2)]⟩)
   (fun z => z.1 ≤ n ∧ z.2.length = n ∧ SoundB f v z.2 ∧ GeB o z.2 ∧ ∀ j, j < z.1 → RndB f v o z.2 j) (fun z => n - z.1) (0, o) ⟨Nat.zero_le _, i2, i3, GeB.refl o, fun j hj => absurd hj (Nat.not_lt_zero _)⟩ ?_ ?_
  ·refine Wk.of ?_ ?_ (by simp) <;> repeat' (first | (first | exact True.intro | exact ⟨_, rfl, Jtj8 rfl⟩ | exact ⟨_, rfl, Jtj6 rfl⟩ | exact ⟨_, rfl, .inl .nild⟩ | exact ⟨_, rfl, .inl .nile⟩ | exact ⟨_, rfl, Jtj7⟩ | exact Jtj8 rfl | exact Jtj6 rfl | exact .inl .nild | exact .inl .nile | exact Jtj7 | exact WkB.same rfl | exact Jt53 | exact Jt52 | exact .dead _ | exact .iter _ _ | exact .glob _ _ | refine Jt51 ?_ ?_ | refine And.intro ?_ ?_))
  rintro ⟨i, a⟩ ⟨a1, a2, a3, a4, a5⟩ M hM
  simp only at a1 a2 a3 a4 a5 hM
  (simp (maxSteps := 1000000) [lR])
  by_cases h3 : i < n
  ·have h3i : (i : Int) < (n : Int) := by omega
   have h3s : i + 1 ≤ n := h3
   have hwi := Jtje (k := i) (by omega)
   have hb : f.blocks[i]? = some f.blocks[i] := by simp [← hn, h3]
   obtain ⟨b, hbe⟩ : ∃ b, b = f.blocks[i] := ⟨_, rfl⟩
   rw [← hbe] at hb
   have hbm : b ∈ f.blocks := List.mem_of_getElem? hb
   have hcl := ok.cl b hbm
   have hrow := gR i b hb
   have cu := Jtfy A b v (by omega)
   have cd := Jtft A b v b.code.length (Nat.le_refl _) (by omega)
   have cs := Jtfq A b.term
   have hsu := ok.succ b hbm
   rw [← hn] at hsu
   have lu : usedZ b v = true → LiveAt f v i := fun h => .use i b hb h
   have ln : ∀ t ∈ succsZ b.term, LiveAt f v t.toNat → defAt b v b.code.length = false → LiveAt f v i := fun t ht h1 h2 => .next i b t hb ht h1 h2
   have rnd : ∀ c : List Bool, (usedZ b v = true → c[i]? = some true) → (∀ t ∈ succsZ b.term, o[t.toNat]? = some true → defAt b v b.code.length = false → c[i]? = some true) → RndB f v o c i := fun c h1 h2 x hx => by
    rw [hb] at hx; cases hx; exact ⟨h1, h2⟩
   obtain ⟨u, hu⟩ : ∃ u, u = usedZ b v := ⟨_, rfl⟩
   obtain ⟨d, hd⟩ : ∃ u, u = defAt b v b.code.length := ⟨_, rfl⟩
   rw [← hu] at cu lu rnd
   rw [← hd] at cd ln rnd
   obtain ⟨sR, hsR⟩ : ∃ x, x = (succsZ b.term).map fun x => [I x] := ⟨_, rfl⟩
   obtain ⟨ss, hss⟩ : ∃ x, x = succsZ b.term := ⟨_, rfl⟩
   have hsl : ss.length ≤ 2 := by rw [hss]; exact Jtia _
   have lS : sR.length = ss.length := by rw [hsR, hss]; simp
   rw [← hsR] at cs
   rw [← hss] at hsR hsu ln rnd
   have gS : ∀ (j : Nat) t, ss[j]? = some t → sR[j]? = some [I t] := fun j t h => by rw [hsR, List.getElem?_map, h]; rfl
   obtain ⟨code, kind, ta, to, els⟩ := b
   simp only [Block.av, Block.row, Term.av] at cu cd cs hrow
   clear hbe hbm
   obtain ⟨a0, ha0, e1, e2, l1, s1, g1, u1⟩ : ∃ a0 : List Bool, a0 = (if u = true then a.set i true else a) ∧ (u = true → (bcB a).take i ++ AB true :: (bcB a).drop (i + 1) = bcB a0) ∧ (u = false → a0 = a) ∧ a0.length = n ∧ SoundB f v a0 ∧ GeB a a0 ∧ (u = true → a0[i]? = some true) := by
    cases u with
    | true => exact ⟨_, rfl, fun _ => Jt66 a i (by omega), (fun h => by cases h), by simp [a2], by simpa using a3.set (lu rfl), by simpa using GeB.set a i, fun _ => by simp [a2, h3]⟩
    | false => exact ⟨_, rfl, (fun h => by cases h), fun _ => rfl, a2, a3, GeB.refl a, fun h => by cases h⟩
   have la := Jt64 a
   rw [a2] at la
   (simp (maxSteps := 1000000) [h3, hrow])
   (refine Jt12 cu (by rfl) (by rfl) ?_)
   cases u <;> first | (simp (maxSteps := 1000000) [la, h3, h3s, e1 rfl]) | ((simp (maxSteps := 1000000) []); simp only [← e2 rfl])
   all_goals
    (refine Jt12 cs (by rfl) (by rfl) ?_)
    (simp (maxSteps := 1000000) [])
    refine Jtd (fun z : Nat × List Bool => ⟨[(10, AI z.1), (9, .d (.sl sR)), (8, .ptr 2 0), (7, AI i), (6, AI r), (5, .hsl 1 0 1 n), (1, AI v), (2, .ptr 0 0)], [.mem [AI f.args, AI f.regs, .d (.sl fR)], .mem (bcB z.2), .mem [.d (.sl (code.map Instr.row)), AI kind, AI ta, AI to, AI els]]⟩)
     (fun z => z.1 ≤ ss.length ∧ z.2.length = n ∧ SoundB f v z.2 ∧ GeB a0 z.2 ∧ ∀ t ∈ ss.take z.1, o[t.toNat]? = some true → d = false → z.2[i]? = some true) (fun z => ss.length - z.1) (0, a0) ⟨Nat.zero_le _, l1, s1, GeB.refl _, fun t ht => by simp at ht⟩ ?_ ?_
    ·refine Wk.of ?_ ?_ (by simp) <;> repeat' (first | (first | exact True.intro | exact ⟨_, rfl, Jtj8 rfl⟩ | exact ⟨_, rfl, Jtj6 rfl⟩ | exact ⟨_, rfl, .inl .nild⟩ | exact ⟨_, rfl, .inl .nile⟩ | exact ⟨_, rfl, Jtj7⟩ | exact Jtj8 rfl | exact Jtj6 rfl | exact .inl .nild | exact .inl .nile | exact Jtj7 | exact WkB.same rfl | exact Jt53 | exact Jt52 | exact .dead _ | exact .iter _ _ | exact .glob _ _ | refine Jt51 ?_ ?_ | refine And.intro ?_ ?_))
    rintro ⟨j, c⟩ ⟨c1, c2, c3, c4, c5⟩ K hK
    simp only at c1 c2 c3 c4 c5 hK
    (simp (maxSteps := 1000000) [lS])
    by_cases h4 : j < ss.length
    ·obtain ⟨t, ht⟩ : ∃ t, t = ss[j] := ⟨_, rfl⟩
     have hst : ss[j]? = some t := by rw [ht]; simp [h4]
     have htm : t ∈ ss := List.mem_of_getElem? hst
     obtain ⟨t0, t1⟩ := hsu t htm
     obtain ⟨tn, rfl⟩ : ∃ x : Nat, t = (x : Int) := ⟨t.toNat, by omega⟩
     have htn : tn < n := by omega
     have hgt := gS j tn hst
     have hw3 := Jtje (k := j) (by omega)
     have lc := Jt64 c
     rw [c2] at lc
     have ln := ln tn htm
     rw [Int.toNat_natCast] at ln
     obtain ⟨x, hx⟩ : ∃ x, c[tn]? = some x := ⟨_, List.getElem?_eq_getElem (by omega)⟩
     have hcx : (bcB c)[tn]? = some (AB x) := by rw [Jt63, hx]; rfl
     have tk : ∀ c' : List Bool, GeB c c' → (x = true → d = false → c'[i]? = some true) → ∀ t ∈ ss.take (j + 1), o[t.toNat]? = some true → d = false → c'[i]? = some true := fun c' hg hn t ht h1 h2 => by
      rw [List.take_add_one, hst] at ht
      rcases List.mem_append.1 ht with h | h
      ·exact hg.2 i (c5 t h h1 h2)
      ·have : t = (tn : Int) := by simpa using h
       subst this
       have h5 := c4.2 tn (g1.2 tn (a4.2 tn (by simpa using h1)))
       rw [hx] at h5
       injection h5 with h5
       exact hn h5 h2
     (simp (maxSteps := 1000000) [h4, hgt, htn, hcx])
     cases x with
     | false =>
      (simp (maxSteps := 1000000) [hw3])
      exact hK _ (j + 1, c) ⟨h4, c2, c3, c4, tk c (GeB.refl c) fun h => by cases h⟩ (by refine Wk.of ?_ ?_ (by simp) <;> repeat' (first | (first | exact True.intro | exact ⟨_, rfl, Jtj8 rfl⟩ | exact ⟨_, rfl, Jtj6 rfl⟩ | exact ⟨_, rfl, .inl .nild⟩ | exact ⟨_, rfl, .inl .nile⟩ | exact ⟨_, rfl, Jtj7⟩ | exact Jtj8 rfl | exact Jtj6 rfl | exact .inl .nild | exact .inl .nile | exact Jtj7 | exact WkB.same rfl | exact Jt53 | exact Jt52 | exact .dead _ | exact .iter _ _ | exact .glob _ _ | refine Jt51 ?_ ?_ | refine And.intro ?_ ?_))) (by simp only; omega)
     | true =>
      (simp (maxSteps := 1000000) [])
      (refine Jt12 cd (by rfl) (by rfl) ?_)
      cases d with
      | true =>
       (simp (maxSteps := 1000000) [hw3])
       exact hK _ (j + 1, c) ⟨h4, c2, c3, c4, tk c (GeB.refl c) fun _ h => by cases h⟩ (by refine Wk.of ?_ ?_ (by simp) <;> repeat' (first | (first | exact True.intro | exact ⟨_, rfl, Jtj8 rfl⟩ | exact ⟨_, rfl, Jtj6 rfl⟩ | exact ⟨_, rfl, .inl .nild⟩ | exact ⟨_, rfl, .inl .nile⟩ | exact ⟨_, rfl, Jtj7⟩ | exact Jtj8 rfl | exact Jtj6 rfl | exact .inl .nild | exact .inl .nile | exact Jtj7 | exact WkB.same rfl | exact Jt53 | exact Jt52 | exact .dead _ | exact .iter _ _ | exact .glob _ _ | refine Jt51 ?_ ?_ | refine And.intro ?_ ?_))) (by simp only; omega)
      | false =>
       have e4 := Jt66 c i (by omega)
       (simp (maxSteps := 1000000) [hw3, lc, h3, h3s, e4])
       exact hK _ (j + 1, c.set i true) ⟨h4, by simp [c2], c3.set (ln (c3 tn hx) rfl), c4.trans (GeB.set c i), tk _ (GeB.set c i) fun _ _ => by simp [c2, h3]⟩ (by refine Wk.of ?_ ?_ (by simp) <;> repeat' (first | (first | exact True.intro | exact ⟨_, rfl, Jtj8 rfl⟩ | exact ⟨_, rfl, Jtj6 rfl⟩ | exact ⟨_, rfl, .inl .nild⟩ | exact ⟨_, rfl, .inl .nile⟩ | exact ⟨_, rfl, Jtj7⟩ | exact Jtj8 rfl | exact Jtj6 rfl | exact .inl .nild | exact .inl .nile | exact Jtj7 | exact WkB.same rfl | exact Jt53 | exact Jt52 | exact .dead _ | exact .iter _ _ | exact .glob _ _ | refine Jt51 ?_ ?_ | refine And.intro ?_ ?_))) (by simp only; omega)
    ·have hje : j = ss.length := by omega
     subst hje
     rw [List.take_length] at c5
     (simp (maxSteps := 1000000) [h4, hwi])
     refine hM _ (i + 1, c) ⟨h3, c2, c3, a4.trans (g1.trans c4), fun j hj => ?_⟩ (by refine Wk.of ?_ ?_ (by simp) <;> repeat' (first | (first | exact True.intro | exact ⟨_, rfl, Jtj8 rfl⟩ | exact ⟨_, rfl, Jtj6 rfl⟩ | exact ⟨_, rfl, .inl .nild⟩ | exact ⟨_, rfl, .inl .nile⟩ | exact ⟨_, rfl, Jtj7⟩ | exact Jtj8 rfl | exact Jtj6 rfl | exact .inl .nild | exact .inl .nile | exact Jtj7 | exact WkB.same rfl | exact Jt53 | exact Jt52 | exact .dead _ | exact .iter _ _ | exact .glob _ _ | refine Jt51 ?_ ?_ | refine And.intro ?_ ?_))) (by simp only; omega)
     by_cases hji : j = i
     ·subst hji
      exact rnd c (fun h => c4.2 j (u1 h)) c5
     ·exact (a5 j (by simp only at hj; omega)).mono (g1.trans c4)
  ·have hie : i = n := by omega
   subst hie
   (simp (maxSteps := 1000000) [h3, hw])
   refine hN _ (r + 1, a) ⟨by omega, a2, a3, ?_⟩ ?_ (by simp only; omega)
   ·rcases i4 with h | h
    ·exact .inl (h.mono a4)
    ·rcases a4.cnt with h4 | h4
     ·subst h4; exact .inl (ComplB.of fun j hj => a5 j (by omega))
     ·exact .inr (by simp only; omega)
   ·refine Wk.of ?_ ?_ (by simp) <;> repeat' (first | (first | exact True.intro | exact ⟨_, rfl, Jtj8 rfl⟩ | exact ⟨_, rfl, Jtj6 rfl⟩ | exact ⟨_, rfl, .inl .nild⟩ | exact ⟨_, rfl, .inl .nile⟩ | exact ⟨_, rfl, Jtj7⟩ | exact Jtj8 rfl | exact Jtj6 rfl | exact .inl .nild | exact .inl .nile | exact Jtj7 | exact WkB.same rfl | exact Jt53 | exact Jt52 | exact .dead _ | exact .iter _ _ | exact .glob _ _ | refine Jt51 ?_ ?_ | refine And.intro ?_ ?_))
 ·have hc : ComplB f v o := by
   rcases i4 with h | h
   ·exact h
   ·have := Jt79 o; omega
  have hfin := Jtbw (by omega) i3 hc
  rw [hfin] at i2 ⊢
  (simp (maxSteps := 1000000) [h2])
  have lB : (liveB f v).length = n := i2
  refine hR _ _ (Jt4r (.hsl 1 0 1 n) (.d (boolsD (liveB f v))) [] (by rfl) ?_ rfl)
  refine Wk.of ⟨⟨_, rfl, Jt5e (e := 1) rfl (Nat.zero_le _) (by simp [lB]) (Jtgq fun _ => rfl)⟩, trivial⟩ trivial (by simp)
end
end Go.AE
set_option linter.unusedSectionVars false
set_option maxRecDepth 8000
namespace Go.AE
open Go
def cI (l : List Int) : AV := .own 1 (l.map intRow)
theorem cI_toD (l : List Int) : (cI l).erase.toD = some (intsD l) := rfl
def cellsI (L : List (List Int)) : List AV := L.map cI
theorem Jt6x (L : List (List Int)) : (cellsI L).length = L.length := by simp [cellsI]
theorem Jt6w (L : List (List Int)) (j : Nat) : (cellsI L)[j]? = L[j]?.map cI := by simp [cellsI]
theorem Jt6y {H : List Blk} {n : Nat} (L : List (List Int)) : WkB H n (.mem (cellsI L)) (.mem (cellsI L)) :=
 (ClB.mem fun x hx ρ => by obtain ⟨l, _, rfl⟩ := List.mem_map.1 hx; rfl).wk
theorem Jt5d {H : List Blk} {b m n : Nat} {L : List (List Int)} (hb : H[b]? = some (.mem (cellsI L))) (hm : m ≤ b) (hl : L.length = n) : WkT H m (.hsl b 0 1 n) (.d (listsD L)) := by
 refine .inl (.hsle b 0 1 n (cellsI L) (L.map fun x => [intsD x]) hb hm ?_ (by simpa using hl) (fun r hr => by obtain ⟨x, _, rfl⟩ := List.mem_map.1 hr; rfl))
 rw [List.drop_zero, List.take_of_length_le (by rw [Jt6x]; omega)]
 unfold cellsI
 rw [List.map_map]
 clear hb hl
 induction L with
 | nil => rfl
 | cons x L ih => simp only [List.map_cons, List.flatten_cons, Function.comp, cI_toD]; rw [ih]; rfl
open Classical in
noncomputable def preS (f : Func) (w j : Nat) : List Int := ((List.range w).map fun v : Nat => (v : Int)).filter fun v => @decide (LiveAt f v j) (propDecidable _)
theorem preS_0 (f : Func) (j : Nat) : preS f 0 j = [] := rfl
theorem Jtf1 (f : Func) (j : Nat) : preS f f.regs.toNat j = liveS f j := rfl
theorem Jtf4 {f : Func} {w j : Nat} (h : LiveAt f w j) : preS f (w + 1) j = preS f w j ++ [(w : Int)] := by
 unfold preS
 rw [List.range_succ, List.map_append, List.filter_append]
 simp [h]
theorem Jtf3 {f : Func} {w j : Nat} (h : ¬ LiveAt f w j) : preS f (w + 1) j = preS f w j := by
 unfold preS
 rw [List.range_succ, List.map_append, List.filter_append]
 simp [h]
theorem Jtf2 (f : Func) (w j : Nat) : (preS f w j).length ≤ w := by
 unfold preS
 refine Nat.le_trans (List.length_filter_le _ _) ?_
 simp
noncomputable def midS (f : Func) (n w i : Nat) : List (List Int) := (List.range n).map fun j => preS f (if j < i then w + 1 else w) j
theorem Jtdn (f : Func) (n w i : Nat) : (midS f n w i).length = n := by simp [midS]
theorem Jtdl {f : Func} {n w i : Nat} (h : i < n) : (midS f n w i)[i]? = some (preS f w i) := by
 unfold midS; rw [List.getElem?_map, List.getElem?_range h]; simp
theorem Jtdp {f : Func} {n w i : Nat} (h : i < n) : (midS f n w i).set i (preS f (w + 1) i) = midS f n w (i + 1) := by
 apply List.ext_getElem?
 intro j
 rw [List.getElem?_set]
 unfold midS
 split
 ·rename_i hj; subst hj; rw [List.getElem?_map, List.getElem?_range h]; simp [h]
 ·rename_i hj
  by_cases hjn : j < n
  ·rw [List.getElem?_map, List.getElem?_map, List.getElem?_range hjn]
   refine congrArg some ?_
   show preS f _ j = preS f _ j
   congr 1
   by_cases h1 : j < i
   ·rw [if_pos h1, if_pos (by omega)]
   ·rw [if_neg h1, if_neg (by omega)]
  ·rw [List.getElem?_eq_none (by simp; omega), List.getElem?_eq_none (by simp; omega)]
theorem Jtdo {f : Func} {n w i : Nat} (h : preS f (w + 1) i = preS f w i) : midS f n w (i + 1) = midS f n w i := by
 unfold midS
 apply List.map_congr_left
 intro j _
 by_cases h1 : j < i
 ·rw [if_pos h1, if_pos (by omega)]
 ·rw [if_neg h1]
  by_cases h2 : j = i
  ·subst h2; rw [if_pos (by omega), h]
  ·rw [if_neg (by omega)]
theorem Jtdm (f : Func) (n w : Nat) : midS f n w n = midS f n (w + 1) 0 := by
 unfold midS
 apply List.map_congr_left
 intro j hj
 rw [if_pos (List.mem_range.1 hj), if_neg (by omega)]
theorem Jte0 {H : List Blk} {m : Nat} (n : Nat) : WkB H m (.mem (List.replicate n .nils)) (.mem (cellsI (List.replicate n []))) := by
 rw [cellsI, List.map_replicate]
 refine .mem _ _ (by simp) fun j x y hx hy => ?_
 rw [List.getElem?_replicate] at hx hy
 split at hx <;> simp at hx hy
 subst hx
 obtain ⟨_, rfl⟩ := hy
 exact .inr ⟨rfl, 1, rfl⟩
theorem midS_0 {H : List Blk} {m : Nat} (f : Func) (n : Nat) : WkB H m (.mem (List.replicate n .nils)) (.mem (cellsI (midS f n 0 0))) := by
 have h1 : midS f n 0 0 = List.replicate n [] := by
  unfold midS
  rw [List.map_congr_left (g := fun _ => []) fun j _ => by rw [if_neg (by omega), preS_0], List.map_const', List.length_range]
 rw [h1]; exact Jte0 n
theorem Jtdk {f : Func} {n rn : Nat} (hn : n = f.blocks.length) (hr : rn = f.regs.toNat) : midS f n rn 0 = liveIn f := by
 unfold midS liveIn
 rw [← hn]
 apply List.map_congr_left
 intro j _
 rw [if_neg (by omega), hr, Jtf1]
theorem Jtbx {f : Func} {v : Int} {j : Nat} (h : j < f.blocks.length) : (liveB f v)[j]? = some (@decide (LiveAt f v j) (Classical.propDecidable _)) := by
 unfold liveB; rw [List.getElem?_map, List.getElem?_range h]; rfl
section
set_option maxHeartbeats 1000000 in
theorem Jtfv {P : Program} {p : Nums} (A : All P p) (f : Func) (ok : OkL f) (hr0 : f.regs ≤ 10000) : Jt4n P p.ref23_In [f.av] [] fun o _ => o = .ret (.d (listsD (liveIn f))) := by
 refine A.ref23_In.run rfl fun R hR => ?_
 have hlive := Jtfz A f ok
 have hbl := ok.bl
 obtain ⟨fR, hfR⟩ : ∃ x, x = f.blocks.map Block.row := ⟨_, rfl⟩
 obtain ⟨n, hn⟩ : ∃ n, n = f.blocks.length := ⟨_, rfl⟩
 have lR : fR.length = n := by rw [hfR, hn]; simp
 have av : f.av = .agg [AI f.args, AI f.regs, .d (.sl fR)] := by rw [hfR]; rfl
 rw [av] at hlive ⊢
 obtain ⟨fB, hfB⟩ : ∃ x, x = Blk.mem [AI f.args, AI f.regs, AV.d (.sl fR)] := ⟨_, rfl⟩
 rw [← hn] at hbl
 obtain ⟨rn, hrn⟩ : ∃ m : Nat, m = f.regs.toNat := ⟨_, rfl⟩
 (simp (maxSteps := 1000000) [Jtao, lR])
 refine Jt2d (n := n) (by rfl) (by rfl) (by omega) (by omega) (by decide) (by rfl) ?_
 simp only [List.map_cons, List.map_nil, nilsOf]
 (simp (maxSteps := 1000000) [])
 refine Jtd (fun w : Nat => ⟨[(4, AI w), (3, .hsl 1 0 1 n), (1, .ptr 0 0)], [.mem [AI f.args, AI f.regs, .d (.sl fR)], .mem (cellsI (midS f n w 0))]⟩) (fun w => w ≤ rn) (fun w => rn - w) 0 (Nat.zero_le _) ?_ ?_
 ·refine Wk.of ?_ ?_ (by simp) <;> repeat' (first | exact midS_0 f n | (first | exact True.intro | exact ⟨_, rfl, Jtj8 rfl⟩ | exact ⟨_, rfl, Jtj6 rfl⟩ | exact ⟨_, rfl, .inl .nild⟩ | exact ⟨_, rfl, .inl .nile⟩ | exact ⟨_, rfl, Jtj7⟩ | exact Jtj8 rfl | exact Jtj6 rfl | exact .inl .nild | exact .inl .nile | exact Jtj7 | exact WkB.same rfl | exact Jt53 | exact Jt52 | exact .dead _ | exact .iter _ _ | exact .glob _ _ | refine Jt51 ?_ ?_ | refine And.intro ?_ ?_))
 intro w hw1 N hN
 (simp (maxSteps := 1000000) [])
 by_cases h2i : (w : Int) < f.regs
 ·have h2 : w < rn := by omega
  have hw := Jtje (k := w) (by omega)
  have hlw := hlive w
  have hlen : (liveB f w).length = n := by rw [hn]; simp [liveB]
  have hget := fun j (h : j < n) => Jtbx (f := f) (v := w) (hn ▸ h)
  obtain ⟨lR2, hl2⟩ : ∃ x, x = (liveB f w).map Jt6d := ⟨_, rfl⟩
  have lL : lR2.length = n := by rw [hl2, List.length_map, hlen]
  have gL : ∀ j, j < n → lR2[j]? = some [D.bool (@decide (LiveAt f w j) (Classical.propDecidable _))] := fun j h => by rw [hl2, List.getElem?_map, hget j h]; rfl
  simp only [boolsD, ← hl2] at hlw
  (simp (maxSteps := 1000000) [h2i])
  (refine Jt12 hlw (by rfl) (by rfl) ?_)
  (simp (maxSteps := 1000000) [])
  refine Jtd (fun i : Nat => ⟨[(6, AI i), (5, .d (.sl lR2)), (4, AI w), (3, .hsl 1 0 1 n), (1, .ptr 0 0)], [.mem [AI f.args, AI f.regs, .d (.sl fR)], .mem (cellsI (midS f n w i))]⟩) (fun i => i ≤ n) (fun i => n - i) 0 (Nat.zero_le _) ?_ ?_
  ·refine Wk.of ?_ ?_ (by simp) <;> repeat' (first | exact Jt6y _ | (first | exact True.intro | exact ⟨_, rfl, Jtj8 rfl⟩ | exact ⟨_, rfl, Jtj6 rfl⟩ | exact ⟨_, rfl, .inl .nild⟩ | exact ⟨_, rfl, .inl .nile⟩ | exact ⟨_, rfl, Jtj7⟩ | exact Jtj8 rfl | exact Jtj6 rfl | exact .inl .nild | exact .inl .nile | exact Jtj7 | exact WkB.same rfl | exact Jt53 | exact Jt52 | exact .dead _ | exact .iter _ _ | exact .glob _ _ | refine Jt51 ?_ ?_ | refine And.intro ?_ ?_))
  intro i hi M hM
  (simp (maxSteps := 1000000) [lL])
  by_cases h3 : i < n
  ·have h3s : i + 1 ≤ n := h3
   have hwi := Jtje (k := i) (by omega)
   have gl := gL i h3
   have lc : (cellsI (midS f n w i)).length = n := by rw [Jt6x, Jtdn]
   have gc : (cellsI (midS f n w i))[i]? = some (cI (preS f w i)) := by rw [Jt6w, Jtdl h3]; rfl
   have pl := Jtf2 f w i
   by_cases hd : LiveAt f w i
   ·have e1 := Jtf4 hd
    rw [@decide_eq_true _ (Classical.propDecidable _) hd] at gl
    have e2 := Jtdp (f := f) (w := w) h3
    rw [e1] at e2
    obtain ⟨C, hC⟩ : ∃ C, C = cellsI (midS f n w i) := ⟨_, rfl⟩
    obtain ⟨R0, hR0⟩ : ∃ R0, R0 = (preS f w i).map intRow := ⟨_, rfl⟩
    have e3 : C.set i (.own 1 (R0 ++ [[I (w : Int)]])) = cellsI (midS f n w (i + 1)) := by
     rw [hC, ← e2, hR0]; simp [cellsI, List.map_set, cI, intRow]
    have pl2 : R0.length ≤ w := by rw [hR0]; simpa using pl
    rw [← hC] at lc gc ⊢
    simp only [cI, ← hR0] at gc
    have gc2 : C[i]'(by omega) = .own 1 R0 := (List.getElem?_eq_some_iff.1 gc).2
    (simp (maxSteps := 1000000) [h3, h3s, gl, hwi, gc, gc2, lc])
    (refine Jt1f (by rfl) (by rfl) (by rfl) ?_ (by decide) ?_ ?_ ?_)
    ·simp
    ·simp; omega
    ·simp; omega
    (simp (maxSteps := 1000000) [h3, h3s, gl, hwi, gc, gc2, lc])
    simp only [I] at e3
    rw [e3]
    exact hM _ (i + 1) h3 (by refine Wk.of ?_ ?_ (by simp) <;> repeat' (first | exact Jt6y _ | (first | exact True.intro | exact ⟨_, rfl, Jtj8 rfl⟩ | exact ⟨_, rfl, Jtj6 rfl⟩ | exact ⟨_, rfl, .inl .nild⟩ | exact ⟨_, rfl, .inl .nile⟩ | exact ⟨_, rfl, Jtj7⟩ | exact Jtj8 rfl | exact Jtj6 rfl | exact .inl .nild | exact .inl .nile | exact Jtj7 | exact WkB.same rfl | exact Jt53 | exact Jt52 | exact .dead _ | exact .iter _ _ | exact .glob _ _ | refine Jt51 ?_ ?_ | refine And.intro ?_ ?_))) (by omega)
   ·have e1 := Jtf3 hd
    rw [@decide_eq_false _ (Classical.propDecidable _) hd] at gl
    have e2 := Jtdo (n := n) e1
    (simp (maxSteps := 1000000) [h3, gl, hwi])
    exact hM _ (i + 1) h3 (by rw [e2]; refine Wk.of ?_ ?_ (by simp) <;> repeat' (first | exact Jt6y _ | (first | exact True.intro | exact ⟨_, rfl, Jtj8 rfl⟩ | exact ⟨_, rfl, Jtj6 rfl⟩ | exact ⟨_, rfl, .inl .nild⟩ | exact ⟨_, rfl, .inl .nile⟩ | exact ⟨_, rfl, Jtj7⟩ | exact Jtj8 rfl | exact Jtj6 rfl | exact .inl .nild | exact .inl .nile | exact Jtj7 | exact WkB.same rfl | exact Jt53 | exact Jt52 | exact .dead _ | exact .iter _ _ | exact .glob _ _ | refine Jt51 ?_ ?_ | refine And.intro ?_ ?_))) (by omega)
  ·have hie : i = n := by omega
   subst hie
   (simp (maxSteps := 1000000) [h3, hw])
   refine hN _ (w + 1) (by omega) ?_ (by omega)
   rw [← Jtdm]
   refine Wk.of ?_ ?_ (by simp) <;> repeat' (first | exact Jt6y _ | (first | exact True.intro | exact ⟨_, rfl, Jtj8 rfl⟩ | exact ⟨_, rfl, Jtj6 rfl⟩ | exact ⟨_, rfl, .inl .nild⟩ | exact ⟨_, rfl, .inl .nile⟩ | exact ⟨_, rfl, Jtj7⟩ | exact Jtj8 rfl | exact Jtj6 rfl | exact .inl .nild | exact .inl .nile | exact Jtj7 | exact WkB.same rfl | exact Jt53 | exact Jt52 | exact .dead _ | exact .iter _ _ | exact .glob _ _ | refine Jt51 ?_ ?_ | refine And.intro ?_ ?_))
 ·have hwe : w = rn := by omega
  have hfin := Jtdk hn hrn
  rw [← hwe] at hfin
  rw [hfin]
  (simp (maxSteps := 1000000) [h2i])
  have lL : (liveIn f).length = n := by rw [hn]; simp [liveIn]
  refine hR _ _ (Jt4r (.hsl 1 0 1 n) (.d (listsD (liveIn f))) [] (by rfl) ?_ rfl)
  exact Wk.of ⟨⟨_, rfl, Jt5d rfl (Nat.zero_le _) lL⟩, trivial⟩ trivial (by simp)
end
end Go.AE
set_option linter.unusedSectionVars false
set_option maxRecDepth 8000
namespace Go.AE
open Go
open Classical in
noncomputable def preO (f : Func) (b : Block) (w : Nat) : List Int := ((List.range w).map fun v : Nat => (v : Int)).filter fun v => @decide (∃ t ∈ succsZ b.term, LiveAt f v t.toNat) (propDecidable _)
theorem Jtex (f : Func) (b : Block) : preO f b f.regs.toNat = liveO f b := rfl
theorem Jtf0 {f : Func} {b : Block} {w : Nat} (h : ∃ t ∈ succsZ b.term, LiveAt f w t.toNat) : preO f b (w + 1) = preO f b w ++ [(w : Int)] := by
 unfold preO
 rw [List.range_succ, List.map_append, List.filter_append]
 simp only [List.map_cons, List.map_nil, List.filter_cons, List.filter_nil]
 rw [@decide_eq_true _ (Classical.propDecidable _) h]; rfl
theorem Jtez {f : Func} {b : Block} {w : Nat} (h : ¬ ∃ t ∈ succsZ b.term, LiveAt f w t.toNat) : preO f b (w + 1) = preO f b w := by
 unfold preO
 rw [List.range_succ, List.map_append, List.filter_append]
 simp only [List.map_cons, List.map_nil, List.filter_cons, List.filter_nil]
 rw [@decide_eq_false _ (Classical.propDecidable _) h]; simp
theorem Jtey (f : Func) (b : Block) (w : Nat) : (preO f b w).length ≤ w := by
 unfold preO
 refine Nat.le_trans (List.length_filter_le _ _) ?_
 simp
noncomputable def midO (f : Func) (n i w : Nat) : List (List Int) := (List.range n).map fun j => match f.blocks[j]? with
 | some b => if j < i then liveO f b else if j = i then preO f b w else []
 | none => []
theorem Jtdg (f : Func) (n i w : Nat) : (midO f n i w).length = n := by simp [midO]
theorem Jtdf {f : Func} {n i w : Nat} {b : Block} (h : i < n) (hb : f.blocks[i]? = some b) : (midO f n i w)[i]? = some (preO f b w) := by
 unfold midO; rw [List.getElem?_map, List.getElem?_range h, Option.map_some, hb]; simp
theorem Jtdj {f : Func} {n i w : Nat} {b : Block} (h : i < n) (hb : f.blocks[i]? = some b) : (midO f n i w).set i (preO f b (w + 1)) = midO f n i (w + 1) := by
 apply List.ext_getElem?
 intro j
 rw [List.getElem?_set]
 split
 ·rename_i hj; subst hj; rw [Jtdf h hb, Jtdg, if_pos h]
 ·rename_i hj
  unfold midO
  by_cases hjn : j < n
  ·rw [List.getElem?_map, List.getElem?_map, List.getElem?_range hjn, Option.map_some, Option.map_some]
   cases f.blocks[j]? with
   | none => rfl
   | some c => simp only [if_neg (fun e : j = i => hj e.symm)]
  ·rw [List.getElem?_eq_none (by simp; omega), List.getElem?_eq_none (by simp; omega)]
theorem Jtdi {f : Func} {n i w : Nat} {b : Block} (h : i < n) (hb : f.blocks[i]? = some b) (he : preO f b (w + 1) = preO f b w) : midO f n i (w + 1) = midO f n i w := by
 rw [← Jtdj h hb, he]
 apply List.ext_getElem?
 intro j
 rw [List.getElem?_set]
 split
 ·rename_i hj; subst hj; rw [Jtdg, if_pos h, Jtdf h hb]
 ·rfl
theorem Jtdh {f : Func} {n i : Nat} {b : Block} (hb : f.blocks[i]? = some b) : midO f n i f.regs.toNat = midO f n (i + 1) 0 := by
 unfold midO
 apply List.map_congr_left
 intro j _
 by_cases h1 : j = i
 ·subst h1; rw [hb]; simp only; rw [if_neg (by omega), if_pos True.intro, if_pos (by omega), Jtex]
 ·cases f.blocks[j]? with
  | none => rfl
  | some c =>
   simp only [if_neg h1]
   by_cases h2 : j < i
   ·rw [if_pos h2, if_pos (by omega)]
   ·rw [if_neg h2, if_neg (by omega)]
    by_cases h3 : j = i + 1
    ·rw [if_pos h3]; rfl
    ·rw [if_neg h3]
theorem midO_0 {H : List Blk} {m : Nat} (f : Func) (n : Nat) : WkB H m (.mem (List.replicate n .nils)) (.mem (cellsI (midO f n 0 0))) := by
 have h1 : midO f n 0 0 = List.replicate n [] := by
  unfold midO
  rw [List.map_congr_left (g := fun _ => []) fun j _ => ?_, List.map_const', List.length_range]
  cases f.blocks[j]? with
  | none => rfl
  | some c =>
   simp only
   rw [if_neg (by omega)]
   split <;> rfl
 rw [h1]; exact Jte0 n
theorem Jtde {f : Func} {n : Nat} (hn : n = f.blocks.length) : midO f n n 0 = Jtc2 f := by
 apply List.ext_getElem?
 intro j
 unfold midO Jtc2
 by_cases h : j < n
 ·rw [List.getElem?_map, List.getElem?_map, List.getElem?_range h, Option.map_some]
  have : f.blocks[j]? = some (f.blocks[j]'(by omega)) := List.getElem?_eq_getElem (by omega)
  rw [this]
  simp only [Option.map_some]
  rw [if_pos h]
 ·rw [List.getElem?_eq_none (by simp; omega), List.getElem?_eq_none (by simp; omega)]
section
set_option maxHeartbeats 1000000 in
theorem Jtfw {P : Program} {p : Nums} (A : All P p) (f : Func) (ok : OkV f) (hr0 : f.regs ≤ 10000) : Jt4n P p.ref23_Out [f.av] [] fun o _ => o = .ret (.d (listsD (Jtc2 f))) := by
 refine A.ref23_Out.run rfl fun R hR => ?_
 have hin := Jtfv A f ok.l hr0
 have hbl := ok.l.bl
 obtain ⟨fR, hfR⟩ : ∃ x, x = f.blocks.map Block.row := ⟨_, rfl⟩
 obtain ⟨iR, hiR⟩ : ∃ x, x = (liveIn f).map fun x => [intsD x] := ⟨_, rfl⟩
 obtain ⟨n, hn⟩ : ∃ n, n = f.blocks.length := ⟨_, rfl⟩
 have lR : fR.length = n := by rw [hfR, hn]; simp
 have lI : iR.length = n := by rw [hiR, hn]; simp [Jtbz]
 have gR : ∀ (j : Nat) (b : Block), f.blocks[j]? = some b → fR[j]? = some b.row := fun j b h => by rw [hfR, List.getElem?_map, h]; rfl
 have gI : ∀ (j : Nat), j < n → iR[j]? = some [intsD (liveS f j)] := fun j h => by rw [hiR, List.getElem?_map, Jtby f (by omega)]; rfl
 have av : f.av = .agg [AI f.args, AI f.regs, .d (.sl fR)] := by rw [hfR]; rfl
 rw [av] at hin ⊢
 have hin : Jt4n P p.ref23_In [AV.agg [AI f.args, AI f.regs, AV.d (.sl fR)]] [] fun o _ => o = .ret (.d (.sl iR)) := by rw [hiR]; exact hin
 have hS := fun j v => Jtfu A (liveS f j) v (by have := Jtc4 f j; omega)
 obtain ⟨fB, hfB⟩ : ∃ x, x = Blk.mem [AI f.args, AI f.regs, AV.d (.sl fR)] := ⟨_, rfl⟩
 have hsu := ok.l.succ
 rw [← hn] at hbl hsu
 obtain ⟨rn, hrn⟩ : ∃ m : Nat, m = f.regs.toNat := ⟨_, rfl⟩
 (simp (maxSteps := 1000000) [Jtap, lR])
 (refine Jt12 hin (by rfl) (by rfl) ?_)
 (simp (maxSteps := 1000000) [lR])
 refine Jt2d (n := n) (by rfl) (by rfl) (by omega) (by omega) (by decide) (by rfl) ?_
 simp only [List.map_cons, List.map_nil, nilsOf]
 (simp (maxSteps := 1000000) [])
 refine Jtd (fun i : Nat => ⟨[(5, AI i), (4, .hsl 1 0 1 n), (3, .d (.sl iR)), (1, .ptr 0 0)], [.mem [AI f.args, AI f.regs, .d (.sl fR)], .mem (cellsI (midO f n i 0))]⟩) (fun i => i ≤ n) (fun i => n - i) 0 (Nat.zero_le _) ?_ ?_
 ·refine Wk.of ?_ ?_ (by simp) <;> repeat' (first | exact midO_0 f n | (first | exact True.intro | exact ⟨_, rfl, Jtj8 rfl⟩ | exact ⟨_, rfl, Jtj6 rfl⟩ | exact ⟨_, rfl, .inl .nild⟩ | exact ⟨_, rfl, .inl .nile⟩ | exact ⟨_, rfl, Jtj7⟩ | exact Jtj8 rfl | exact Jtj6 rfl | exact .inl .nild | exact .inl .nile | exact Jtj7 | exact WkB.same rfl | exact Jt53 | exact Jt52 | exact .dead _ | exact .iter _ _ | exact .glob _ _ | refine Jt51 ?_ ?_ | refine And.intro ?_ ?_))
 intro i hi N hN
 (simp (maxSteps := 1000000) [lR])
 by_cases h2 : i < n
 ·have h2s : i + 1 ≤ n := h2
  have hwi := Jtje (k := i) (by omega)
  obtain ⟨b, hb⟩ : ∃ b, f.blocks[i]? = some b := ⟨_, List.getElem?_eq_getElem (by omega)⟩
  have hrow := gR i b hb
  have cs := Jtfq A b.term
  have hsu := hsu b (List.mem_of_getElem? hb)
  have hall := fun v => @Jt5s f ok v b
  obtain ⟨sR, hsR⟩ : ∃ x, x = (succsZ b.term).map fun x => [I x] := ⟨_, rfl⟩
  have hany : ∀ w : Nat, decide ((w : Int) ∈ liveO f b) = true ↔ ∃ t ∈ succsZ b.term, LiveAt f w t.toNat := fun w => by rw [decide_eq_true_eq, Jtd2 ok]
  obtain ⟨ss, hss⟩ : ∃ x, x = succsZ b.term := ⟨_, rfl⟩
  have hsl : ss.length ≤ 2 := by rw [hss]; exact Jti9 _
  have lS : sR.length = ss.length := by rw [hsR, hss]; simp
  rw [← hsR] at cs
  rw [← hss] at hsR hsu hall
  have gS : ∀ (j : Nat) t, ss[j]? = some t → sR[j]? = some [I t] := fun j t h => by rw [hsR, List.getElem?_map, h]; rfl
  simp only [Block.row] at hrow
  simp only [Term.av] at cs
  (simp (maxSteps := 1000000) [h2, hrow])
  (refine Jt12 cs (by rfl) (by rfl) ?_)
  (simp (maxSteps := 1000000) [])
  refine Jtd (fun w : Nat => ⟨[(7, AI w), (6, .d (.sl sR)), (5, AI i), (4, .hsl 1 0 1 n), (3, .d (.sl iR)), (1, .ptr 0 0)], [.mem [AI f.args, AI f.regs, .d (.sl fR)], .mem (cellsI (midO f n i w))]⟩) (fun w => w ≤ rn) (fun w => rn - w) 0 (Nat.zero_le _) ?_ ?_
  ·refine Wk.of ?_ ?_ (by simp) <;> repeat' (first | exact Jt6y _ | (first | exact True.intro | exact ⟨_, rfl, Jtj8 rfl⟩ | exact ⟨_, rfl, Jtj6 rfl⟩ | exact ⟨_, rfl, .inl .nild⟩ | exact ⟨_, rfl, .inl .nile⟩ | exact ⟨_, rfl, Jtj7⟩ | exact Jtj8 rfl | exact Jtj6 rfl | exact .inl .nild | exact .inl .nile | exact Jtj7 | exact WkB.same rfl | exact Jt53 | exact Jt52 | exact .dead _ | exact .iter _ _ | exact .glob _ _ | refine Jt51 ?_ ?_ | refine And.intro ?_ ?_))
  intro w hw1 M hM
  (simp (maxSteps := 1000000) [])
  by_cases h3i : (w : Int) < f.regs
  ·have h3 : w < rn := by omega
   have hw := Jtje (k := w) (by omega)
   (simp (maxSteps := 1000000) [h3i])
   refine Jtd (fun z : Nat × Bool => ⟨[(9, AI z.1), (8, AB z.2), (7, AI w), (6, .d (.sl sR)), (5, AI i), (4, .hsl 1 0 1 n), (3, .d (.sl iR)), (1, .ptr 0 0)], [.mem [AI f.args, AI f.regs, .d (.sl fR)], .mem (cellsI (midO f n i w))]⟩)
    (fun z => z.1 ≤ ss.length ∧ z.2 = anyL f w ss z.1) (fun z => ss.length - z.1) (0, false) ⟨Nat.zero_le _, rfl⟩ ?_ ?_
   ·refine Wk.of ?_ ?_ (by simp) <;> repeat' (first | exact Jt6y _ | (first | exact True.intro | exact ⟨_, rfl, Jtj8 rfl⟩ | exact ⟨_, rfl, Jtj6 rfl⟩ | exact ⟨_, rfl, .inl .nild⟩ | exact ⟨_, rfl, .inl .nile⟩ | exact ⟨_, rfl, Jtj7⟩ | exact Jtj8 rfl | exact Jtj6 rfl | exact .inl .nild | exact .inl .nile | exact Jtj7 | exact WkB.same rfl | exact Jt53 | exact Jt52 | exact .dead _ | exact .iter _ _ | exact .glob _ _ | refine Jt51 ?_ ?_ | refine And.intro ?_ ?_))
   rintro ⟨j, g⟩ ⟨hj, hg⟩ L hL
   simp only at hj hg hL
   (simp (maxSteps := 1000000) [lS])
   by_cases h7 : j < ss.length
   ·obtain ⟨t, ht⟩ : ∃ t, t = ss[j] := ⟨_, rfl⟩
    have hst : ss[j]? = some t := by rw [ht]; simp [h7]
    have htm : t ∈ ss := List.mem_of_getElem? hst
    obtain ⟨t0, t1⟩ := hsu t htm
    have hg2 := Jt5t (f := f) (v := w) hst
    rw [← hg] at hg2
    obtain ⟨tn, rfl⟩ : ∃ x : Nat, t = (x : Int) := ⟨t.toNat, by omega⟩
    rw [Int.toNat_natCast] at hg2
    have htn : tn < n := by omega
    have hgt := gS j tn hst
    have hit := gI tn htn
    have hht := hS tn w
    have hw3 := Jtje (k := j) (by omega)
    cases g with
    | true =>
     (simp (maxSteps := 1000000) [h7, hw3])
     exact hL _ (j + 1, true) ⟨h7, by rw [hg2]; rfl⟩ (by refine Wk.of ?_ ?_ (by simp) <;> repeat' (first | exact Jt6y _ | (first | exact True.intro | exact ⟨_, rfl, Jtj8 rfl⟩ | exact ⟨_, rfl, Jtj6 rfl⟩ | exact ⟨_, rfl, .inl .nild⟩ | exact ⟨_, rfl, .inl .nile⟩ | exact ⟨_, rfl, Jtj7⟩ | exact Jtj8 rfl | exact Jtj6 rfl | exact .inl .nild | exact .inl .nile | exact Jtj7 | exact WkB.same rfl | exact Jt53 | exact Jt52 | exact .dead _ | exact .iter _ _ | exact .glob _ _ | refine Jt51 ?_ ?_ | refine And.intro ?_ ?_))) (by simp only; omega)
    | false =>
     rw [Bool.false_or] at hg2
     obtain ⟨q, hq⟩ : ∃ q, q = decide ((w : Int) ∈ liveS f tn) := ⟨_, rfl⟩
     rw [← hq] at hht hg2
     (simp (maxSteps := 1000000) [h7, hgt, hit])
     (refine Jt12 hht (by rfl) (by rfl) ?_)
     (simp (maxSteps := 1000000) [hw3])
     exact hL _ (j + 1, q) ⟨h7, hg2.symm⟩ (by refine Wk.of ?_ ?_ (by simp) <;> repeat' (first | exact Jt6y _ | (first | exact True.intro | exact ⟨_, rfl, Jtj8 rfl⟩ | exact ⟨_, rfl, Jtj6 rfl⟩ | exact ⟨_, rfl, .inl .nild⟩ | exact ⟨_, rfl, .inl .nile⟩ | exact ⟨_, rfl, Jtj7⟩ | exact Jtj8 rfl | exact Jtj6 rfl | exact .inl .nild | exact .inl .nile | exact Jtj7 | exact WkB.same rfl | exact Jt53 | exact Jt52 | exact .dead _ | exact .iter _ _ | exact .glob _ _ | refine Jt51 ?_ ?_ | refine And.intro ?_ ?_))) (by simp only; omega)
   ·have hje : j = ss.length := by omega
    rw [hje, hall] at hg
    have hany := hany w
    rw [← hg] at hany
    have lc : (cellsI (midO f n i w)).length = n := by rw [Jt6x, Jtdg]
    have gc : (cellsI (midO f n i w))[i]? = some (cI (preO f b w)) := by rw [Jt6w, Jtdf h2 hb]; rfl
    have pl := Jtey f b w
    cases g with
    | false =>
     have e1 := Jtez fun h => Bool.false_ne_true (hany.2 h)
     have e2 := Jtdi (n := n) h2 hb e1
     (simp (maxSteps := 1000000) [h7, hw])
     exact hM _ (w + 1) h3 (by rw [e2]; refine Wk.of ?_ ?_ (by simp) <;> repeat' (first | exact Jt6y _ | (first | exact True.intro | exact ⟨_, rfl, Jtj8 rfl⟩ | exact ⟨_, rfl, Jtj6 rfl⟩ | exact ⟨_, rfl, .inl .nild⟩ | exact ⟨_, rfl, .inl .nile⟩ | exact ⟨_, rfl, Jtj7⟩ | exact Jtj8 rfl | exact Jtj6 rfl | exact .inl .nild | exact .inl .nile | exact Jtj7 | exact WkB.same rfl | exact Jt53 | exact Jt52 | exact .dead _ | exact .iter _ _ | exact .glob _ _ | refine Jt51 ?_ ?_ | refine And.intro ?_ ?_))) (by omega)
    | true =>
     have e1 := Jtf0 (hany.1 rfl)
     have e2 := Jtdj (w := w) h2 hb
     rw [e1] at e2
     obtain ⟨C, hC⟩ : ∃ C, C = cellsI (midO f n i w) := ⟨_, rfl⟩
     obtain ⟨R0, hR0⟩ : ∃ R0, R0 = (preO f b w).map intRow := ⟨_, rfl⟩
     have e3 : C.set i (.own 1 (R0 ++ [[I (w : Int)]])) = cellsI (midO f n i (w + 1)) := by
      rw [hC, ← e2, hR0]; simp [cellsI, List.map_set, cI, intRow]
     have pl2 : R0.length ≤ w := by rw [hR0]; simpa using pl
     rw [← hC] at lc gc ⊢
     simp only [cI, ← hR0] at gc
     have gc2 : C[i]'(by omega) = .own 1 R0 := (List.getElem?_eq_some_iff.1 gc).2
     (simp (maxSteps := 1000000) [h7, h2, h2s, hw, gc, gc2, lc])
     (refine Jt1f (by rfl) (by rfl) (by rfl) ?_ (by decide) ?_ ?_ ?_)
     ·simp
     ·simp; omega
     ·simp; omega
     (simp (maxSteps := 1000000) [h7, h2, h2s, hw, gc, gc2, lc])
     simp only [I] at e3
     rw [e3]
     exact hM _ (w + 1) h3 (by refine Wk.of ?_ ?_ (by simp) <;> repeat' (first | exact Jt6y _ | (first | exact True.intro | exact ⟨_, rfl, Jtj8 rfl⟩ | exact ⟨_, rfl, Jtj6 rfl⟩ | exact ⟨_, rfl, .inl .nild⟩ | exact ⟨_, rfl, .inl .nile⟩ | exact ⟨_, rfl, Jtj7⟩ | exact Jtj8 rfl | exact Jtj6 rfl | exact .inl .nild | exact .inl .nile | exact Jtj7 | exact WkB.same rfl | exact Jt53 | exact Jt52 | exact .dead _ | exact .iter _ _ | exact .glob _ _ | refine Jt51 ?_ ?_ | refine And.intro ?_ ?_))) (by omega)
  ·have hwe : w = f.regs.toNat := by omega
   have hnx := Jtdh (n := n) hb
   rw [← hwe] at hnx
   rw [hnx]
   (simp (maxSteps := 1000000) [h3i, hwi])
   exact hN _ (i + 1) h2 (by refine Wk.of ?_ ?_ (by simp) <;> repeat' (first | exact Jt6y _ | (first | exact True.intro | exact ⟨_, rfl, Jtj8 rfl⟩ | exact ⟨_, rfl, Jtj6 rfl⟩ | exact ⟨_, rfl, .inl .nild⟩ | exact ⟨_, rfl, .inl .nile⟩ | exact ⟨_, rfl, Jtj7⟩ | exact Jtj8 rfl | exact Jtj6 rfl | exact .inl .nild | exact .inl .nile | exact Jtj7 | exact WkB.same rfl | exact Jt53 | exact Jt52 | exact .dead _ | exact .iter _ _ | exact .glob _ _ | refine Jt51 ?_ ?_ | refine And.intro ?_ ?_))) (by omega)
 ·have hie : i = n := by omega
  have hfin := Jtde hn
  subst hie
  rw [hfin]
  (simp (maxSteps := 1000000) [h2])
  have lL : (Jtc2 f).length = i := by rw [hn]; simp [Jtc2]
  refine hR _ _ (Jt4r (.hsl 1 0 1 i) (.d (listsD (Jtc2 f))) [] (by rfl) ?_ rfl)
  exact Wk.of ⟨⟨_, rfl, Jt5d rfl (Nat.zero_le _) lL⟩, trivial⟩ trivial (by simp)
end
end Go.AE
set_option linter.unusedSectionVars false
set_option maxRecDepth 8000
namespace Go.AE
open Go
def preU (u : Int → Bool) (w : Nat) : List Int := ((List.range w).map fun v : Nat => (v : Int)).filter u
theorem Jtf7 (u : Int → Bool) (w : Nat) : preU u (w + 1) = if u w = true then preU u w ++ [(w : Int)] else preU u w := by
 unfold preU
 rw [List.range_succ, List.map_append, List.filter_append]
 simp only [List.map_cons, List.map_nil, List.filter_cons, List.filter_nil]
 split <;> simp
theorem Jtf5 (u : Int → Bool) (w : Nat) : (preU u w).length ≤ w := by
 unfold preU
 refine Nat.le_trans (List.length_filter_le _ _) ?_
 simp
theorem Jtf6 (u : Int → Bool) (w : Nat) : (preU u w).Pairwise fun a b => a < b := (rg_lt _).filter _
theorem Jtd8 {u : Int → Bool} {w : Nat} {v : Int} (hu : u v = true → 0 ≤ v ∧ v < w) : v ∈ preU u w ↔ u v = true := by
 unfold preU
 rw [List.mem_filter]
 constructor
 ·exact fun h => h.2
 ·intro h
  obtain ⟨h0, h1⟩ := hu h
  refine ⟨List.mem_map.2 ⟨v.toNat, List.mem_range.2 (by omega), by omega⟩, h⟩
theorem Jt7n {b : Block} {v regs : Int} (h1 : ∀ i ∈ b.code, Jtg2 i regs = 0) (hu : defAt b v b.code.length = true) : 0 ≤ v ∧ v < regs := by
 unfold defAt at hu
 rw [List.take_length, List.any_eq_true] at hu
 obtain ⟨i, hi, hu⟩ := hu
 simp only [Bool.and_eq_true, beq_iff_eq] at hu
 have h := h1 i hi
 unfold Jtg2 at h
 split at h
 ·cases h
 split at h
 ·cases h
 rename_i h9
 simp only [bad9, Bool.or_eq_true, Bool.and_eq_true, not_or, not_and, Bool.not_eq_true', Bool.not_eq_false, inZ, decide_eq_true_eq] at h9
 have := h9.1.1 hu.1; omega
section
set_option maxHeartbeats 2000000 in
theorem Jtbc {P : Program} {p : Nums} (A : All P p) (SI : SortIOk P p) (f : Func) : Jt4n P p.law23_LivenessMatchesReference [f.av] [] fun o _ => o = .ret (AB true) := by
 have cw := Jtbd A SI
 have cf := Jtfn A f
 have cc : few f = true → Jt4n P p.ref07_Check [f.av] [] fun o _ => o = .ret (AI (Jtg1 f)) := fun h => by
  obtain ⟨f1, f2, f3, f4⟩ := Jt8b.1 h
  exact Jtfl A f (by omega) (by omega)
 have okv := @okV_of f
 have ci := fun h1 h2 => Jtc7 A SI f (okv h1 h2) (by have := (Jt8b.1 h1).2.1; omega)
 have co := fun h1 h2 => Jtc8 A SI f (okv h1 h2) (by have := (Jt8b.1 h1).2.1; omega)
 have ci2 := fun h1 h2 => Jtfv A f (okv h1 h2).l (by have := (Jt8b.1 h1).2.1; omega)
 have co2 := fun h1 h2 => Jtfw A f (okv h1 h2) (by have := (Jt8b.1 h1).2.1; omega)
 have cs1 := fun (h1 : few f = true) => Jtfx A (liveIn f) (liveIn f) (by have := (Jt8b.1 h1).1; rw [Jtbz]; omega) (by have := (Jt8b.1 h1).1; rw [Jtbz]; omega) (fun x hx => by
  obtain ⟨j, _, rfl⟩ := List.mem_map.1 hx
  have := Jtc4 f j; have := (Jt8b.1 h1).2.1; omega) (fun x hx => by
  obtain ⟨j, _, rfl⟩ := List.mem_map.1 hx
  have := Jtc4 f j; have := (Jt8b.1 h1).2.1; omega)
 have cs2 := fun (h1 : few f = true) => Jtfx A (Jtc2 f) (Jtc2 f) (by have := (Jt8b.1 h1).1; rw [Jtc3]; omega) (by have := (Jt8b.1 h1).1; rw [Jtc3]; omega) (fun x hx => by
  obtain ⟨j, _, rfl⟩ := List.mem_map.1 hx
  have := Jtc0 f j; have := (Jt8b.1 h1).2.1; omega) (fun x hx => by
  obtain ⟨j, _, rfl⟩ := List.mem_map.1 hx
  have := Jtc0 f j; have := (Jt8b.1 h1).2.1; omega)
 have cu := fun (h1 : few f = true) (b : Block) (hb : b ∈ f.blocks) => Jtc9 A SI b (by have := (Jt8b.1 h1).2.2.1 b hb; omega)
 have cd := fun (h1 : few f = true) (b : Block) (hb : b ∈ f.blocks) => Jtc6 A SI b (by have := (Jt8b.1 h1).2.2.1 b hb; omega)
 have cu2 := fun (h1 : few f = true) (b : Block) (hb : b ∈ f.blocks) (w : Nat) => Jtfy A b w (by have := (Jt8b.1 h1).2.2.1 b hb; omega)
 have cd2 := fun (h1 : few f = true) (b : Block) (hb : b ∈ f.blocks) (w : Nat) => Jtft A b w b.code.length (Nat.le_refl _) (by have := (Jt8b.1 h1).2.2.1 b hb; omega)
 have hcl := fun (h : few f = true) => (Jt8b.1 h).2.2.1
 have hreg := fun (h : few f = true) => (Jt8b.1 h).2.1
 have hlen := fun (h : few f = true) => (Jt8b.1 h).1
 have hreg0 := fun (h : Jtg1 f = 0) => src_ok h
 obtain ⟨fw, hfw⟩ : ∃ x, x = few f := ⟨_, rfl⟩
 obtain ⟨fc, hfc⟩ : ∃ x, x = Jtg1 f := ⟨_, rfl⟩
 rw [← hfw] at cf cc okv ci co ci2 co2 cs1 cs2 cu cd cu2 cd2 hreg hlen hcl
 rw [← hfc] at cc okv ci co ci2 co2 hreg0
 obtain ⟨fR, hfR⟩ : ∃ x, x = f.blocks.map Block.row := ⟨_, rfl⟩
 obtain ⟨iR, hiR⟩ : ∃ x, x = listsD (liveIn f) := ⟨_, rfl⟩
 obtain ⟨oR, hoR⟩ : ∃ x, x = listsD (Jtc2 f) := ⟨_, rfl⟩
 obtain ⟨n, hn⟩ : ∃ n, n = f.blocks.length := ⟨_, rfl⟩
 have lR : fR.length = n := by rw [hfR, hn]; simp
 have gR : ∀ (j : Nat) (b : Block), f.blocks[j]? = some b → fR[j]? = some b.row := fun j b h => by rw [hfR, List.getElem?_map, h]; rfl
 have av : f.av = .agg [AI f.args, AI f.regs, .d (.sl fR)] := by rw [hfR]; rfl
 rw [av] at cf cc ci co ci2 co2
 rw [av]
 simp only [← hiR] at ci ci2 cs1
 simp only [← hoR] at co co2 cs2
 simp only [decide_true] at cs1 cs2
 rw [← hn] at hlen hreg0
 refine A.law23_LivenessMatchesReference.run rfl fun R hR => ?_
 (simp (maxSteps := 1000000) [Jt9y])
 (refine Jt12 cw (by rfl) (by rfl) ?_)
 (simp (maxSteps := 1000000) [])
 (refine Jt12 cf (by rfl) (by rfl) ?_)
 (simp (maxSteps := 1000000) [])
 ((first | refine Xc (fun h1 => ?_) (fun h1 => ?_) | refine Xo (fun h1 => ?_) (fun h1 => ?_)) <;> (try simp only [Xz, Xy] at h1))
 ·(simp (maxSteps := 1000000) [h1])
  (refine Jt12 cw (by rfl) (by rfl) ?_)
  (simp (maxSteps := 1000000) [])
  (first | exact hR _ _ FrA | exact hR _ _ FnA)
 have hft : fw = true := by simpa using h1
 (simp (maxSteps := 1000000) [h1])
 (refine Jt12 (cc hft) (by rfl) (by rfl) ?_)
 (simp (maxSteps := 1000000) [])
 ((first | refine Xc (fun h3 => ?_) (fun h3 => ?_) | refine Xo (fun h3 => ?_) (fun h3 => ?_)) <;> (try simp only [Xz, Xy] at h3))
 ·(simp (maxSteps := 1000000) [h3])
  (refine Jt12 cw (by rfl) (by rfl) ?_)
  (simp (maxSteps := 1000000) [])
  (first | exact hR _ _ FrA | exact hR _ _ FnA)
 have hfz : fc = 0 := by simpa using h3
 (simp (maxSteps := 1000000) [h3])
 have hr0 := hreg hft
 obtain ⟨s1, s2, s3, s4⟩ := hreg0 hfz
 have hl0 := hlen hft
 obtain ⟨rn, hrn⟩ : ∃ m : Nat, f.regs = (m : Int) := ⟨f.regs.toNat, by omega⟩
 refine Jtd (fun k : Nat => ⟨[(3, AI k), (1, .ptr 0 0), (2, AB false)], [.mem [AI f.args, AI f.regs, .d (.sl fR)]]⟩) (fun k => k ≤ n) (fun k => n - k) 0 (Nat.zero_le _) (by (exact wkA)) ?_
 intro k hk N hN
 (simp (maxSteps := 1000000) [lR])
 by_cases h5 : k < n
 ·have hb : f.blocks[k]? = some f.blocks[k] := by simp [← hn, h5]
  obtain ⟨b, hbe⟩ : ∃ b, b = f.blocks[k] := ⟨_, rfl⟩
  rw [← hbe] at hb
  have hbm : b ∈ f.blocks := List.mem_of_getElem? hb
  have hrow := gR k b hb
  have hw := Jtje (k := k) (by omega)
  have cu := cu hft b hbm
  have cd := cd hft b hbm
  have cu2 := cu2 hft b hbm
  have cd2 := cd2 hft b hbm
  have hcl := hcl hft b hbm
  obtain ⟨z1, z2, z3, z4, z5, z6⟩ := Jth4 b
  have eU : sortI (scanZ b).1 = preU (usedZ b) rn := Jtcn z3 (Jtf6 _ _) fun v => by
   rw [z2, Jtd8 fun h => ?_]
   have := Jtj1 (s4 b hbm).1 (s4 b hbm).2 h; omega
  have eD : sortI (scanZ b).2 = preU (fun v => defAt b v b.code.length) rn := Jtcn z4 (Jtf6 _ _) fun v => by
   rw [z1, Jtd8 fun h => ?_]
   have := Jt7n (s4 b hbm).1 h; omega
  rw [eU] at cu
  rw [eD] at cd
  obtain ⟨u, hu⟩ : ∃ u, u = usedZ b := ⟨_, rfl⟩
  obtain ⟨d, hd⟩ : ∃ u : Int → Bool, u = fun v => defAt b v b.code.length := ⟨_, rfl⟩
  have hd' : ∀ v, defAt b v b.code.length = d v := fun v => by rw [hd]
  rw [← hu] at cu
  rw [← hd] at cd
  have cu2 : ∀ w : Nat, Jt4n P p.ref23_Used [b.av, AI (w : Int)] [] fun o _ => o = .ret (AB (u w)) := fun w => by rw [hu]; exact cu2 w
  have cd2 : ∀ w : Nat, Jt4n P p.ref23_Defines [b.av, AI (w : Int), AI (b.code.length : Int)] [] fun o _ => o = .ret (AB (d w)) := fun w => by rw [hd]; exact cd2 w
  have cn1 := Jtfp A (preU u rn) (preU u rn) (by have := Jtf5 u rn; omega) (by have := Jtf5 u rn; omega)
  have cn2 := Jtfp A (preU d rn) (preU d rn) (by have := Jtf5 d rn; omega) (by have := Jtf5 d rn; omega)
  simp only [decide_true] at cn1 cn2
  obtain ⟨code, kind, ta, to, els⟩ := b
  simp only [Block.av, Block.row, Term.av] at cu cd cu2 cd2 hrow
  (simp (maxSteps := 1000000) [h5])
  refine Jtd (fun w : Nat => ⟨[(6, AI w), (5, .own 1 ((preU d w).map intRow)), (4, .own 1 ((preU u w).map intRow)), (3, AI k), (1, .ptr 0 0), (2, AB false)], [.mem [AI f.args, AI f.regs, .d (.sl fR)]]⟩) (fun w => w ≤ rn) (fun w => rn - w) 0 (Nat.zero_le _) (by (exact wkA)) ?_
  intro w hw1 M hM
  (simp (maxSteps := 1000000) [])
  by_cases h6i : (w : Int) < f.regs
  ·have h6 : w < rn := by omega
   have hw2 := Jtje (k := w) (by omega)
   have lu := Jtf5 u w
   have ld := Jtf5 d w
   have su := Jtf7 u w
   have sd := Jtf7 d w
   obtain ⟨U0, hU0⟩ : ∃ x, x = (preU u w).map intRow := ⟨_, rfl⟩
   obtain ⟨D0, hD0⟩ : ∃ x, x = (preU d w).map intRow := ⟨_, rfl⟩
   have lu : U0.length ≤ w := by rw [hU0]; simpa using lu
   have ld : D0.length ≤ w := by rw [hD0]; simpa using ld
   have su : (preU u (w + 1)).map intRow = if u w = true then U0 ++ [[I (w : Int)]] else U0 := by rw [su, hU0]; split <;> simp [intRow]
   have sd : (preU d (w + 1)).map intRow = if d w = true then D0 ++ [[I (w : Int)]] else D0 := by rw [sd, hD0]; split <;> simp [intRow]
   have hN2 := fun st h => hM st (w + 1) h6 h (by omega)
   simp only [su, sd] at hN2
   have cu2 := cu2 w
   have cd2 := cd2 w
   rw [← hU0, ← hD0]
   obtain ⟨uw, huw⟩ : ∃ x, x = u w := ⟨_, rfl⟩
   obtain ⟨dw, hdw⟩ : ∃ x, x = d w := ⟨_, rfl⟩
   rw [← huw] at cu2
   rw [← hdw] at cd2
   simp only [← huw, ← hdw] at hN2
   (simp (maxSteps := 1000000) [h6i, h5, hrow])
   (refine Jt12 cu2 (by rfl) (by rfl) ?_)
   cases uw with
   | true =>
    (simp (maxSteps := 1000000) [])
    (refine Jt1f (by rfl) (by rfl) (by rfl) ?_ (by decide) ?_ ?_ ?_)
    ·simp
    ·simp; omega
    ·simp; omega
    (simp (maxSteps := 1000000) [h5, hrow])
    (refine Jt12 cd2 (by rfl) (by rfl) ?_)
    cases dw with
    | true =>
     (simp (maxSteps := 1000000) [])
     (refine Jt1f (by rfl) (by rfl) (by rfl) ?_ (by decide) ?_ ?_ ?_)
     ·simp
     ·simp; omega
     ·simp; omega
     (simp (maxSteps := 1000000) [hw2])
     exact hN2 _ (by simp only [if_true]; (exact wkA))
    | false =>
     (simp (maxSteps := 1000000) [hw2])
     exact hN2 _ (by simp only [if_true]; (exact wkA))
   | false =>
    (simp (maxSteps := 1000000) [h5, hrow])
    (refine Jt12 cd2 (by rfl) (by rfl) ?_)
    cases dw with
    | true =>
     (simp (maxSteps := 1000000) [])
     (refine Jt1f (by rfl) (by rfl) (by rfl) ?_ (by decide) ?_ ?_ ?_)
     ·simp
     ·simp; omega
     ·simp; omega
     (simp (maxSteps := 1000000) [hw2])
     exact hN2 _ (by simp only [if_true]; (exact wkA))
    | false =>
     (simp (maxSteps := 1000000) [hw2])
     exact hN2 _ (by (exact wkA))
  ·have hwe : w = rn := by omega
   subst hwe
   (simp (maxSteps := 1000000) [h6i, h5, hrow])
   (refine Jt12 cu (by rfl) (by rfl) ?_)
   (simp (maxSteps := 1000000) [])
   (refine Jt12 cn1 (by rfl) (by rfl) ?_)
   (simp (maxSteps := 1000000) [h5, hrow])
   (refine Jt12 cd (by rfl) (by rfl) ?_)
   (simp (maxSteps := 1000000) [])
   (refine Jt12 cn2 (by rfl) (by rfl) ?_)
   (simp (maxSteps := 1000000) [hw])
   exact hN _ (k + 1) h5 (by (exact wkA)) (by omega)
 ·(simp (maxSteps := 1000000) [h5])
  (refine Jt12 (ci hft hfz) (by rfl) (by rfl) ?_)
  (simp (maxSteps := 1000000) [])
  (refine Jt12 (ci2 hft hfz) (by rfl) (by rfl) ?_)
  (simp (maxSteps := 1000000) [])
  (refine Jt12 (cs1 hft) (by rfl) (by rfl) ?_)
  (simp (maxSteps := 1000000) [])
  (refine Jt12 (co hft hfz) (by rfl) (by rfl) ?_)
  (simp (maxSteps := 1000000) [])
  (refine Jt12 (co2 hft hfz) (by rfl) (by rfl) ?_)
  (simp (maxSteps := 1000000) [])
  (refine Jt12 (cs2 hft) (by rfl) (by rfl) ?_)
  (simp (maxSteps := 1000000) [])
  (first | exact hR _ _ FrA | exact hR _ _ FnA)
end
end Go.AE
