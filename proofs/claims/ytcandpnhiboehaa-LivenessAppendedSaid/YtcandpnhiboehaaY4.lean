/- A part of the proof: the evaluator over abstract values, its codes, the contracts of the functions. -/
import Derived.Test.YtcandpnhiboehaaY3
set_option linter.unusedVariables false
set_option linter.unusedSimpArgs false
set_option maxRecDepth 8000
namespace Go.AE
open Go
section
set_option maxHeartbeats 2000000 in
theorem Jtbv {P : Program} {p : Nums} (A : All P p) (SI : SortIOk P p) (f : Func) (ok : OkV f) (hr0 : f.regs ≤ 10000) : Jt4n P p.liveness_Out [f.av] [] fun o _ => o = .ret (.d (listsD (Jtbm f))) := by
 refine A.liveness_Out.run rfl fun R hR => ?_
 have hbl := ok.l.bl
 have hsol := Jtc1 A f ok.l
 obtain ⟨fR, hfR⟩ : ∃ x, x = f.blocks.map Block.row := ⟨_, rfl⟩
 obtain ⟨n, hn⟩ : ∃ n, n = f.blocks.length := ⟨_, rfl⟩
 obtain ⟨L, hL⟩ : ∃ L, L = (Jtbm f).map fun x => [intsD x] := ⟨_, rfl⟩
 have lL : L.length = n := by rw [hL, hn]; simp [Jtbm]
 have gL : ∀ (j : Nat) (b : Block), f.blocks[j]? = some b → L[j]? = some [intsD (liveO f b)] := fun j b hb => by
  rw [hL, Jtbm, List.getElem?_map, List.getElem?_map, hb]; rfl
 have lR : fR.length = n := by rw [hfR, hn]; simp
 have gR : ∀ (j : Nat) (b : Block), f.blocks[j]? = some b → fR[j]? = some b.row := fun j b h => by rw [hfR, List.getElem?_map, h]; rfl
 have av : f.av = .agg [AI f.args, AI f.regs, .d (.sl fR)] := by rw [hfR]; rfl
 simp only [listsD, ← hL] at hR
 rw [av, ← hn] at hsol
 rw [← hn] at hbl
 rw [av]
 (simp (maxSteps := 1000000) [Jt9t])
 refine Jt18 (Y := fun _ => .hsl 2 0 1 n) hsol (by rfl) (fun l k hk => ?_) (fun l => ?_) fun l hl => ?_
 ·rcases List.mem_append.1 hk with hk | hk
  ·simp only [List.mem_cons, List.not_mem_nil, or_false] at hk
   rcases hk with rfl | rfl | rfl
   ·exact .dead
   ·exact .mps _
   ·exact .dead
  ·exact TT_cl k hk
 ·simp [AV.ren, back]
 obtain ⟨hJ, hC⟩ := hl
 have el : l.length = n := by rw [hn]; exact hJ.len
 (simp (maxSteps := 1000000) [lR])
 have hTl : (TT l).length = 6 * n := by rw [TT_len, el]
 refine Jtd (fun z : Nat × Nat × List Blk => ⟨[(12, AI z.1), (11, AI (n : Int)), (10, .d (.sl fR)), (3, .hsl 2 0 1 n), (4, outI n z.1 z.2.1)], .dead :: .dead :: .mem ((ruL l).map .mp) :: .dead :: (TT l ++ z.2.2)⟩)
  (fun z => z.1 ≤ n ∧ OutX L z.1 z.2.1 z.2.2) (fun z => n - z.1) (0, 0, []) ⟨Nat.zero_le _, fun h => absurd h (by simp), fun b hb => by simp at hb⟩ ?_ ?_
 ·simp only [outI, List.append_nil]
  refine Wk.of ?_ ?_ (by simp) <;> repeat' (first | exact (ClB.mps _).wk | exact Jt55 | (first | exact True.intro | exact ⟨_, rfl, Jti6 rfl⟩ | exact ⟨_, rfl, Jti4 rfl⟩ | exact ⟨_, rfl, .inl .nild⟩ | exact ⟨_, rfl, .inl .nile⟩ | exact ⟨_, rfl, Jti5⟩ | exact Jti6 rfl | exact Jti4 rfl | exact .inl .nild | exact .inl .nile | exact Jti5 | exact WkB.same rfl | exact Jt53 | exact Jt52 | exact .dead _ | exact .iter _ _ | exact .glob _ _ | refine Jt51 ?_ ?_ | refine And.intro ?_ ?_))
 rintro ⟨k, qx, X⟩ ⟨hk, hX⟩ N hN
 simp only at hk hX hN
 (simp (maxSteps := 1000000) [])
 by_cases h2 : k < n
 ·have h2i : (k : Int) < (n : Int) := by omega
  have hw := Jtic (k := k) (by omega)
  obtain ⟨b, hb⟩ : ∃ b, f.blocks[k]? = some b := ⟨_, List.getElem?_eq_getElem (by omega)⟩
  have gl := gL k b hb
  have hr := gR k b hb
  have hsucc := fun t ht => ok.l.succ b (List.mem_of_getElem? hb) t ht
  obtain ⟨D0, hD0⟩ : ∃ x, x = intsD (liveO f b) := ⟨_, rfl⟩
  rw [← hD0] at gl
  have eT : L.take k ++ [[D0]] = L.take (k + 1) := by rw [List.take_add_one, gl]; rfl
  have hexM : ∀ v, Exits (l.map fun q => q.ks) (succsZ b.term) v ↔ v ∈ liveO f b := fun v => by
   rw [Jtcp ok]
   constructor
   ·rintro ⟨t, ht, lt, h3, h4⟩
    rw [List.getElem?_map, Option.map_eq_some_iff] at h3
    obtain ⟨q2, h5, rfl⟩ := h3
    exact ⟨t, ht, (hJ.done (fun j hj => hC j (by omega)) h5 v).1 h4⟩
   ·rintro ⟨t, ht, h3⟩
    obtain ⟨q2, h5⟩ : ∃ q2, l[t.toNat]? = some q2 := ⟨_, List.getElem?_eq_getElem (by rw [hJ.len]; exact h3.lt)⟩
    exact ⟨t, ht, q2.ks, by rw [List.getElem?_map, h5]; rfl, (hJ.done (fun j hj => hC j (by omega)) h5 v).2 h3⟩
  have hso : ∀ x : Nat × List Int, (x.2.Nodup ∧ ∀ v, v ∈ x.2 ↔ Exits (l.map fun q => q.ks) (succsZ b.term) v) → Jt4n P p.liveness_set_sorted [.mp x.1] [.glob x.1 (mpK x.2)] fun o H' => o = .ret (.d D0) ∧ H' = [.glob x.1 (mpK x.2)] := fun x hx => by
   have e1 : sortI x.2 = liveO f b := Jtca hx.1 (Jtbl f b) fun v => by rw [hx.2, hexM]
   have hks : x.2.length ≤ 1000000 := by
    have h1 := congrArg List.length e1
    rw [Jtga] at h1
    have := Jtbk f b
    omega
   have := Jtc0 A SI x.1 x.2 hks
   rw [e1, ← hD0] at this; exact this
  clear hexM hD0
  have hex := fun H2 h1 h2 h3 => Jtbx A b H2 2 n (ruL l) (l.map fun q => q.ks) ⟨h1, by simp, h2, h3⟩ (by simp [el]) (fun t ht => by have := hsucc t ht; rw [Jtfq, el, hn]; exact this)
  obtain ⟨code, kind, ta, to, els⟩ := b
  simp only [Block.row] at hr
  simp only [Block.av] at hex
  obtain ⟨B6, hB6⟩ : ∃ x, x = Blk.mem [AV.d (D.sl (code.map Instr.row)), AV.d (I kind), AV.d (I ta), AV.d (I to), AV.d (I els)] := ⟨_, rfl⟩
  have c6 : ClB B6 := by rw [hB6]; exact ClB.mem fun x hx ρ => by simp only [List.mem_cons, List.not_mem_nil, or_false] at hx; rcases hx with rfl | rfl | rfl | rfl | rfl <;> rfl
  have cAll : ∀ k ∈ (Blk.dead :: .dead :: .mem ((ruL l).map .mp) :: .dead :: (TT l ++ (X ++ [B6]))), ClB k := fun k hk => by
   simp only [List.mem_cons, List.mem_append, List.not_mem_nil, or_false] at hk
   rcases hk with rfl | rfl | rfl | rfl | hk | hk | rfl
   ·exact .dead
   ·exact .dead
   ·exact .mps _
   ·exact .dead
   ·exact TT_cl k hk
   ·exact hX.cl k hk
   ·exact c6
  have hex2 := hex (Blk.dead :: .dead :: .mem ((ruL l).map .mp) :: .dead :: (TT l ++ (X ++ [B6]))) rfl (fun i r ks h1 h2 => by
   rw [List.getElem?_map, Option.map_eq_some_iff] at h2
   obtain ⟨q2, h3, rfl⟩ := h2
   rw [Jtfp h3] at h1; injection h1 with h1; subst h1
   refine ⟨6 * i + 8, ?_⟩
   show (TT l ++ (X ++ [B6]))[6 * i + 4]? = _
   rw [List.getElem?_append_left (List.getElem?_eq_some_iff.1 (TT_u h3)).1]; exact TT_u h3) cAll
  clear hex
  have leaf : ∀ {Y : List Blk} {q2 : Nat} {X2 : List Blk}, OutX L (k + 1) q2 X2 → WkT Y (Blk.dead :: .dead :: .mem ((ruL l).map .mp) :: .dead :: (TT l ++ X2)).length (.hsl (6 * n + 4 + q2) 0 1 (k + 1)) (.hsl (6 * n + 4 + q2) 0 1 (k + 1)) ∧ WkT Y (Blk.dead :: .dead :: .mem ((ruL l).map .mp) :: .dead :: (TT l ++ X2)).length (.hsl 2 0 1 n) (.hsl 2 0 1 n) := by
   intro Y q2 X2 h
   have := (List.getElem?_eq_some_iff.1 (h.out (by omega))).1
   refine ⟨Jti6 ?_, Jti6 ?_⟩ <;> simp only [AV.ren, List.length_cons, List.length_append, hTl] <;> rw [if_pos (by omega)]
  cases k with
  | zero =>
   simp only [outI]
   (simp (maxSteps := 1000000) [h2, hr])
   simp only [← hB6]
   refine Jt12 (C := fun x : Nat × List Int => [.dead, .glob x.1 (mpK x.2)]) (X := fun x : Nat × List Int => .mp x.1) cAll ?_ hex2 (fun _ _ => rfl) (fun x k hk => ?_) fun x hx => ?_
   ·simp only [renL, AV.ren, List.length_cons]
    rw [Jtag _ 0 2 (by omega) (by omega)]
   ·simp only [List.mem_cons, List.not_mem_nil, or_false] at hk
    rcases hk with rfl | rfl
    ·exact .dead
    ·exact .glob _ _
   (simp (maxSteps := 1000000) [])
   have cZ : ∀ b ∈ [B6, Blk.dead, .glob x.1 (mpK x.2)], ClB b := fun b hb => by
    simp only [List.mem_cons, List.not_mem_nil, or_false] at hb
    rcases hb with rfl | rfl | rfl
    ·exact c6
    ·exact .dead
    ·exact .glob _ _
   have hp : picks (Blk.dead :: .dead :: .mem ((ruL l).map .mp) :: .dead :: (TT l ++ (X ++ [B6, .dead, .glob x.1 (mpK x.2)]))) [6 * n + 4 + (X.length + 2)] = some [.glob x.1 (mpK x.2)] := by
    simp only [picks]
    rw [gX hTl, gN2]
   refine Jt14 [6 * n + 4 + (X.length + 2)] (hso x hx) (by simp) (by rfl) hp (by rfl) (by rfl) (by rfl) (by rfl) ?_
   rw [Jti3 _ _ _ hp]
   (simp (maxSteps := 1000000) [])
   have hXZ : OutX L 0 qx (X ++ [B6, .dead, .glob x.1 (mpK x.2)]) := ⟨fun h => absurd h (by simp), fun b hb => (List.mem_append.1 hb).elim (hX.cl b) (cZ b)⟩
   obtain ⟨W, hW⟩ : ∃ W, W = X ++ [B6, .dead, .glob x.1 (mpK x.2)] := ⟨_, rfl⟩
   rw [← hW] at hXZ ⊢
   refine Jt1f (ys := [[D0]]) (.inr (by rfl)) (by rfl) (by simp) (by decide) (by simp) (by simp) (by simp) ?_
   have h3 := hXZ.s2 (Z := []) (by simp) (rows := [[D0]]) (by simpa using eT)
   simp only [List.append_nil] at h3
   have hw1 : IntKind.i64.wrap 1 = 1 := by rw [wrap_i64 (by decide) (by decide)]
   have eI : 6 * n + W.length + 1 + 1 + 1 + 1 = 6 * n + 4 + W.length := by omega
   (simp (maxSteps := 1000000) [hTl, hw1])
   simp only [eI]
   refine hN _ (0 + 1, W.length, W ++ [.mem (Jtfh [[D0]])]) ⟨h2, h3⟩ ?_ (by simp only; omega)
   simp only [outI]
   refine Wk.of ?_ ?_ (by simp) <;> repeat' (first | exact (ClB.mps _).wk | exact Jt57 TT_cl h3.cl | (first | exact True.intro | exact ⟨_, rfl, Jti6 rfl⟩ | exact ⟨_, rfl, Jti4 rfl⟩ | exact ⟨_, rfl, .inl .nild⟩ | exact ⟨_, rfl, .inl .nile⟩ | exact ⟨_, rfl, Jti5⟩ | exact Jti6 rfl | exact Jti4 rfl | exact .inl .nild | exact .inl .nile | exact Jti5 | exact WkB.same rfl | exact Jt53 | exact Jt52 | exact .dead _ | exact .iter _ _ | exact .glob _ _ | refine Jt51 ?_ ?_ | refine And.intro ?_ ?_) | exact ⟨_, rfl, (leaf h3).1⟩ | exact ⟨_, rfl, (leaf h3).2⟩)
  | succ k =>
   have hw2 : IntKind.i64.wrap ((k : Int) + 1 + 1) = (k : Int) + 1 + 1 := wrap_i64 (by omega) (by omega)
   have h2j : (k : Int) + 1 < (n : Int) := by omega
   have h2z : (0 : Int) ≤ (k : Int) + 1 := by omega
   simp only [outI]
   (simp (maxSteps := 1000000) [h2, h2i, h2j, h2z, hr])
   simp only [← hB6]
   refine Jt12 (C := fun x : Nat × List Int => [.dead, .glob x.1 (mpK x.2)]) (X := fun x : Nat × List Int => .mp x.1) cAll ?_ hex2 (fun _ _ => rfl) (fun x k hk => ?_) fun x hx => ?_
   ·simp only [renL, AV.ren, List.length_cons]
    rw [Jtag _ 0 2 (by omega) (by omega)]
   ·simp only [List.mem_cons, List.not_mem_nil, or_false] at hk
    rcases hk with rfl | rfl
    ·exact .dead
    ·exact .glob _ _
   (simp (maxSteps := 1000000) [])
   have cZ : ∀ b ∈ [B6, Blk.dead, .glob x.1 (mpK x.2)], ClB b := fun b hb => by
    simp only [List.mem_cons, List.not_mem_nil, or_false] at hb
    rcases hb with rfl | rfl | rfl
    ·exact c6
    ·exact .dead
    ·exact .glob _ _
   have hp : picks (Blk.dead :: .dead :: .mem ((ruL l).map .mp) :: .dead :: (TT l ++ (X ++ [B6, .dead, .glob x.1 (mpK x.2)]))) [6 * n + 4 + (X.length + 2)] = some [.glob x.1 (mpK x.2)] := by
    simp only [picks]
    rw [gX hTl, gN2]
   refine Jt14 [6 * n + 4 + (X.length + 2)] (hso x hx) (by simp) (by rfl) hp (by rfl) (by rfl) (by rfl) (by rfl) ?_
   rw [Jti3 _ _ _ hp]
   (simp (maxSteps := 1000000) [])
   have hXZ : OutX L (k + 1) qx (X ++ [B6, .dead, .glob x.1 (mpK x.2)]) := ⟨fun h => by rw [List.getElem?_append_left (List.getElem?_eq_some_iff.1 (hX.out h)).1]; exact hX.out h, fun b hb => (List.mem_append.1 hb).elim (hX.cl b) (cZ b)⟩
   obtain ⟨W, hW⟩ : ∃ W, W = X ++ [B6, .dead, .glob x.1 (mpK x.2)] := ⟨_, rfl⟩
   rw [← hW] at hXZ ⊢
   refine Jt1g (b := 6 * n + 4 + qx) (rows := L.take (k + 1)) (ys := [[D0]]) (by rfl) ((gX hTl).trans (hXZ.out (by omega))) (by rw [List.length_take]; omega) ?_ (by omega) (by rfl) (by simp) (by decide) (by simp) (by simp; omega) (by simp; omega) ?_ ?_
   ·intro r hr
    have := List.mem_of_mem_take hr
    rw [hL] at this
    obtain ⟨x, _, rfl⟩ := List.mem_map.1 this; rfl
   ·have h3 := hXZ.s1 eT
    simp only [sX hTl]
    obtain ⟨Y, hY⟩ : ∃ Y, Y = W.set qx (.mem (Jtfh (L.take (k + 1) ++ [[D0]]))) := ⟨_, rfl⟩
    rw [← hY] at h3 ⊢
    (simp (maxSteps := 1000000) [hw2])
    refine hN _ (k + 1 + 1, qx, Y) ⟨h2, h3⟩ ?_ (by simp only; omega)
    simp only [outI]
    refine Wk.of ?_ ?_ (by simp) <;> repeat' (first | exact (ClB.mps _).wk | exact Jt57 TT_cl h3.cl | (first | exact True.intro | exact ⟨_, rfl, Jti6 rfl⟩ | exact ⟨_, rfl, Jti4 rfl⟩ | exact ⟨_, rfl, .inl .nild⟩ | exact ⟨_, rfl, .inl .nile⟩ | exact ⟨_, rfl, Jti5⟩ | exact Jti6 rfl | exact Jti4 rfl | exact .inl .nild | exact .inl .nile | exact Jti5 | exact WkB.same rfl | exact Jt53 | exact Jt52 | exact .dead _ | exact .iter _ _ | exact .glob _ _ | refine Jt51 ?_ ?_ | refine And.intro ?_ ?_) | exact ⟨_, rfl, (leaf h3).1⟩ | exact ⟨_, rfl, (leaf h3).2⟩)
   ·have h3 := hXZ.s2 (Z := []) (by simp) eT
    simp only [List.append_nil] at h3
    obtain ⟨Y, hY⟩ : ∃ Y, Y = W ++ [.mem (Jtfh (L.take (k + 1) ++ [[D0]]))] := ⟨_, rfl⟩
    rw [← hY] at h3
    simp only [List.cons_append, List.append_assoc, ← hY, List.length_cons, List.length_append, hTl]
    have eI : 6 * n + W.length + 1 + 1 + 1 + 1 = 6 * n + 4 + W.length := by omega
    (simp (maxSteps := 1000000) [hw2])
    simp only [eI]
    refine hN _ (k + 1 + 1, W.length, Y) ⟨h2, h3⟩ ?_ (by simp only; omega)
    simp only [outI]
    refine Wk.of ?_ ?_ (by simp) <;> repeat' (first | exact (ClB.mps _).wk | exact Jt57 TT_cl h3.cl | (first | exact True.intro | exact ⟨_, rfl, Jti6 rfl⟩ | exact ⟨_, rfl, Jti4 rfl⟩ | exact ⟨_, rfl, .inl .nild⟩ | exact ⟨_, rfl, .inl .nile⟩ | exact ⟨_, rfl, Jti5⟩ | exact Jti6 rfl | exact Jti4 rfl | exact .inl .nild | exact .inl .nile | exact Jti5 | exact WkB.same rfl | exact Jt53 | exact Jt52 | exact .dead _ | exact .iter _ _ | exact .glob _ _ | refine Jt51 ?_ ?_ | refine And.intro ?_ ?_) | exact ⟨_, rfl, (leaf h3).1⟩ | exact ⟨_, rfl, (leaf h3).2⟩)
 ·have ek : k = n := by omega
  subst ek
  cases k with
  | zero =>
   have : L = [] := List.eq_nil_of_length_eq_zero lL
   subst this
   simp only [outI]
   (simp (maxSteps := 1000000) [h2])
   exact hR _ _ (Jt4s _ (.d (.sl [])) rfl (by (exact wkvA)) rfl)
  | succ k =>
   simp only [outI]
   have eT : L.take (k + 1) = L := List.take_of_length_le (by omega)
   have ho := hX.out (by omega)
   rw [eT] at ho
   (simp (maxSteps := 1000000) [h2])
   refine hR _ _ (Jt4r (.hsl (6 * (k + 1) + 4 + qx) 0 1 (k + 1)) (.d (.sl L)) [] (by rfl) ?_ rfl)
   refine Wk.of ⟨⟨_, rfl, Jt5f ((gX hTl).trans ho) (Nat.zero_le _) lL ?_⟩, trivial⟩ trivial (by simp)
   intro r hr
   rw [hL] at hr
   obtain ⟨x, _, rfl⟩ := List.mem_map.1 hr; rfl
end
end Go.AE
set_option maxRecDepth 8000
namespace Go.AE
open Go
section
end
end Go.AE
set_option maxRecDepth 8000
namespace Go.AE
open Go
theorem Jthu {i : Instr} {v regs : Int} (h : Jtew i regs = 0) (hu : useI i v = true) : 0 ≤ v ∧ v < regs := by
 unfold Jtew at h
 split at h
 ·cases h
 split at h
 ·cases h
 rename_i h9
 simp only [bad9, Bool.or_eq_true, Bool.and_eq_true, not_or, not_and, Bool.not_eq_true', Bool.not_eq_false, inZ, decide_eq_true_eq] at h9
 simp only [useI, Bool.or_eq_true, Bool.and_eq_true, beq_iff_eq] at hu
 rcases hu with ⟨h1, h2⟩ | ⟨h1, h2⟩
 ·have := h9.1.2 h1; omega
 ·have := h9.2 h1; omega
theorem Jthz {b : Block} {v regs blocks : Int} (h1 : ∀ i ∈ b.code, Jtew i regs = 0) (h2 : Jtex b.term regs blocks = 0) (hu : usedZ b v = true) : 0 ≤ v ∧ v < regs := by
 unfold usedZ at hu
 rw [Bool.or_eq_true] at hu
 rcases hu with hu | hu
 ·unfold usedC at hu
  rw [List.any_eq_true] at hu
  obtain ⟨j, hj, hu⟩ := hu
  cases hc : b.code[j]? with
  | none => rw [hc] at hu; simp at hu
  | some i =>
   rw [hc] at hu
   simp only [Bool.and_eq_true] at hu
   exact Jthu (h1 i (List.mem_of_getElem? hc)) hu.1
 ·simp only [Bool.and_eq_true, bne_iff_ne, ne_eq, beq_iff_eq] at hu
  obtain ⟨⟨hk, ha⟩, _⟩ := hu
  unfold Jtex at h2
  rw [if_neg hk] at h2
  split at h2
  ·split at h2
   ·cases h2
   ·rename_i h3; simp only [inZ, Bool.not_eq_false, Bool.and_eq_true, decide_eq_true_eq] at h3; omega
  ·split at h2
   ·split at h2
    ·cases h2
    ·rename_i h3; simp only [inZ, Bool.not_eq_false, Bool.and_eq_true, decide_eq_true_eq] at h3; omega
   ·cases h2
theorem Jth3 {t : Term} {regs blocks x : Int} (h : Jtex t regs blocks = 0) (hx : x ∈ succsZ t) : 0 ≤ x ∧ x < blocks := by
 unfold Jtex at h
 unfold succsZ at hx
 split at hx
 ·rename_i h1
  rw [if_pos h1] at h
  split at h
  ·cases h
  ·rename_i h3
   simp only [inZ, Bool.not_eq_false, Bool.and_eq_true, decide_eq_true_eq] at h3
   simp at hx; omega
 ·rename_i h1
  rw [if_neg h1] at h
  split at hx
  ·rename_i h2
   rw [if_pos h2] at h
   split at h
   ·cases h
   ·split at h
    ·cases h
    ·rename_i h3
     simp only [inZ, Bool.not_eq_false, Bool.and_eq_true, decide_eq_true_eq, not_or] at h3
     simp at hx; omega
  ·simp at hx
theorem okV_of {f : Func} (hf : few f = true) (hc : Jtev f = 0) : OkV f := by
 obtain ⟨f1, f2, f3, f4⟩ := Jt82.1 hf
 obtain ⟨s1, s2, s3, s4⟩ := src_ok hc
 refine ⟨⟨fun b hb t ht => Jth3 (s4 b hb).2 ht, by omega, fun b hb => by have := f3 b hb; omega⟩, fun v j hl => ?_⟩
 exact LiveAt.closed (S := fun _ => 0 ≤ v ∧ v < f.regs) (fun i b hb hu => Jthz (s4 b (List.mem_of_getElem? hb)).1 (s4 b (List.mem_of_getElem? hb)).2 hu) (fun i b t hb ht h _ => h) hl
def lvB : Block := ⟨[⟨5, 1, 1, 0, 0⟩], ⟨3, 1, 0, 0⟩⟩
def lvF : Func := ⟨0, 3, [⟨[⟨1, 0, 0, 0, 0⟩], ⟨1, 0, 1, 0⟩⟩, lvB]⟩
def lvS (v : Int) (i : Nat) : Bool := (v == 1 && (i == 0 || i == 1)) || (v == 0 && i == 1)
theorem Jtcd {v : Int} (hv : v = 0 ∨ v = 1 ∨ v = 2) {i : Nat} (h : LiveAt lvF v i) : lvS v i = true := by
  refine LiveAt.closed (S := fun i => lvS v i = true) (fun i b hb hu => ?_) (fun i b t hb ht hs hd => ?_) h
  · match i, hb with
    | 0, hb => cases hb; rcases hv with rfl | rfl | rfl <;> revert hu <;> decide
    | 1, hb => cases hb; rcases hv with rfl | rfl | rfl <;> revert hu <;> decide
  · match i, hb with
    | 0, hb => cases hb; have : t = 1 := by simpa [succsZ] using ht
               subst this; rcases hv with rfl | rfl | rfl <;> revert hd hs <;> decide
    | 1, hb => cases hb; simp [succsZ, lvB] at ht
theorem lvF_01 : LiveAt lvF 0 1 := .use 1 lvB rfl (by decide)
theorem lvF_11 : LiveAt lvF 1 1 := .use 1 lvB rfl (by decide)
theorem lvF_10 : LiveAt lvF 1 0 := .next 0 ⟨[⟨1, 0, 0, 0, 0⟩], ⟨1, 0, 1, 0⟩⟩ 1 rfl (by decide) lvF_11 (by decide)
theorem lvF_in : liveIn lvF = [[1], [0, 1]] := by
 have h00 : ¬ LiveAt lvF 0 0 := fun h => absurd (Jtcd (by simp) h) (by decide)
 have h20 : ¬ LiveAt lvF 2 0 := fun h => absurd (Jtcd (by simp) h) (by decide)
 have h21 : ¬ LiveAt lvF 2 1 := fun h => absurd (Jtcd (by simp) h) (by decide)
 have hn : lvF.blocks.length = 2 := rfl
 have hr : lvF.regs.toNat = 3 := rfl
 simp [liveIn, liveS, hn, hr, List.range_succ, List.filter_cons, h00, h20, h21, lvF_01, lvF_11, lvF_10]
theorem Jtce : Jtbm lvF = [[0, 1], []] := by
 have h21 : ¬ LiveAt lvF 2 1 := fun h => absurd (Jtcd (by simp) h) (by decide)
 have hn : lvF.blocks = [⟨[⟨1, 0, 0, 0, 0⟩], ⟨1, 0, 1, 0⟩⟩, lvB] := rfl
 have s0 : succsZ ⟨1, 0, 1, 0⟩ = [1] := rfl
 have s1 : succsZ lvB.term = [] := rfl
 have hr : lvF.regs.toNat = 3 := rfl
 simp [Jtbm, liveO, hn, hr, s0, s1, List.range_succ, List.filter_cons, h21, lvF_01, lvF_11]
theorem Jtcc : sortI (scanZ lvB).1 = [0, 1] := Jtca (by decide) (by decide) (by
 have : (scanZ lvB).1 = [1, 0] := by decide
 intro v; rw [this]; simp; omega)
theorem Jtcb : sortI (scanZ lvB).2 = [1] := Jtca (by decide) (by decide) (by
 have : (scanZ lvB).2 = [1] := by decide
 intro v; rw [this])
section
theorem Jtay {P : Program} {p : Nums} (A : All P p) (SI : SortIOk P p) : Jt4n P p.law23_awake [] [] fun o _ => o = .ret (AB true) := by
 have okf : OkV lvF := okV_of (by decide) (by decide +kernel)
 have h1 := Jtbw A SI lvB (by decide)
 have h2 := Jtbt A SI lvB (by decide)
 have h3 := Jtbu A SI lvF okf (by decide)
 have h4 := Jtbv A SI lvF okf (by decide)
 rw [Jtcc] at h1
 rw [Jtcb] at h2
 rw [lvF_in] at h3
 rw [Jtce] at h4
 have n1 := Jteq A [0, 1] [0, 1] (by decide) (by decide)
 have n2 := Jteq A [1] [1] (by decide) (by decide)
 have s1 := Jtet A [[1], [0, 1]] [[1], [0, 1]] (by decide) (by decide) (by decide) (by decide)
 have s2 := Jtet A [[0, 1], []] [[0, 1], []] (by decide) (by decide) (by decide) (by decide)
 simp only [lvB, lvF, Block.av, Func.av, Block.row, Instr.row, List.map_cons, List.map_nil] at h1 h2 h3 h4
 simp only [listsD, intsD, intRow, List.map_cons, List.map_nil, decide_true] at h1 h2 h3 h4 n1 n2 s1 s2
 refine A.law23_awake.run rfl fun R hR => ?_
 (simp (maxSteps := 1000000) [Jt9q])
 (refine Jt13 h1 (by rfl) (by rfl) ?_)
 (simp (maxSteps := 1000000) [])
 (refine Jt13 n1 (by rfl) (by rfl) ?_)
 (simp (maxSteps := 1000000) [])
 (refine Jt13 h2 (by rfl) (by rfl) ?_)
 (simp (maxSteps := 1000000) [])
 (refine Jt13 n2 (by rfl) (by rfl) ?_)
 (simp (maxSteps := 1000000) [])
 (refine Jt13 h3 (by rfl) (by rfl) ?_)
 (simp (maxSteps := 1000000) [])
 (refine Jt13 s1 (by rfl) (by rfl) ?_)
 (simp (maxSteps := 1000000) [])
 (refine Jt13 h4 (by rfl) (by rfl) ?_)
 (simp (maxSteps := 1000000) [])
 (refine Jt13 s2 (by rfl) (by rfl) ?_)
 (simp (maxSteps := 1000000) [])
 (first | exact hR _ _ FrA | exact hR _ _ FnA)
end
end Go.AE
set_option linter.unusedSectionVars false
set_option maxRecDepth 8000
namespace Go.AE
open Go
theorem Jtbi (f : Func) : (liveIn f).length = f.blocks.length := by simp [liveIn]
theorem Jtbo (f : Func) : (Jtbm f).length = f.blocks.length := by simp [Jtbm]
section
end
end Go.AE
set_option linter.unusedSectionVars false
set_option maxRecDepth 8000
namespace Go.AE
open Go
def appF (f : Func) (b : Block) : Func := ⟨f.args, f.regs, f.blocks ++ [b]⟩
theorem Jt5t {f : Func} {b : Block} {i : Nat} (h : i < f.blocks.length) : (appF f b).blocks[i]? = f.blocks[i]? := List.getElem?_append_left h
theorem Jtbs {f : Func} (ok : OkL f) (b : Block) (v : Int) {i : Nat} (hi : i < f.blocks.length) : LiveAt (appF f b) v i ↔ LiveAt f v i := by
 constructor
 ·intro h
  refine LiveAt.closed (S := fun i => i < f.blocks.length → LiveAt f v i) (fun i b' hb hu hi => ?_) (fun i b' t hb ht hs hd hi => ?_) h hi
  ·rw [Jt5t hi] at hb; exact .use i b' hb hu
  ·rw [Jt5t hi] at hb
   obtain ⟨t0, t1⟩ := ok.succ b' (List.mem_of_getElem? hb) t ht
   exact .next i b' t hb ht (hs (by omega)) hd
 ·intro h
  refine LiveAt.closed (S := fun i => LiveAt (appF f b) v i) (fun i b' hb hu => ?_) (fun i b' t hb ht hs hd => ?_) h
  ·have := (List.getElem?_eq_some_iff.1 hb).1
   exact .use i b' (by rw [Jt5t this]; exact hb) hu
  ·have := (List.getElem?_eq_some_iff.1 hb).1
   exact .next i b' t (by rw [Jt5t this]; exact hb) ht hs hd
theorem Jtbp {f : Func} (ok : OkL f) (b : Block) {i : Nat} (hi : i < f.blocks.length) : liveS (appF f b) i = liveS f i := by
 unfold liveS
 apply List.filter_congr
 intro v _
 rw [Bool.eq_iff_iff, @decide_eq_true_eq _ (Classical.propDecidable _), @decide_eq_true_eq _ (Classical.propDecidable _)]
 exact Jtbs ok b v hi
theorem Jtbj {f : Func} (ok : OkL f) (b : Block) {b' : Block} (hb : b' ∈ f.blocks) : liveO (appF f b) b' = liveO f b' := by
 unfold liveO
 apply List.filter_congr
 intro v _
 rw [Bool.eq_iff_iff, @decide_eq_true_eq _ (Classical.propDecidable _), @decide_eq_true_eq _ (Classical.propDecidable _)]
 constructor
 ·rintro ⟨t, ht, hl⟩
  obtain ⟨t0, t1⟩ := ok.succ b' hb t ht
  exact ⟨t, ht, (Jtbs ok b v (by omega)).1 hl⟩
 ·rintro ⟨t, ht, hl⟩
  obtain ⟨t0, t1⟩ := ok.succ b' hb t ht
  exact ⟨t, ht, (Jtbs ok b v (by omega)).2 hl⟩
theorem Jtbh {f : Func} (ok : OkL f) (b : Block) : (liveIn (appF f b)).take f.blocks.length = liveIn f := by
 have e : (appF f b).blocks.length = f.blocks.length + 1 := by simp [appF]
 unfold liveIn
 rw [e, List.range_succ, List.map_append, List.take_append_of_le_length (by simp), List.take_of_length_le (by simp)]
 exact List.map_congr_left fun i hi => Jtbp ok b (List.mem_range.1 hi)
theorem Jtbn {f : Func} (ok : OkL f) (b : Block) : (Jtbm (appF f b)).take f.blocks.length = Jtbm f := by
 unfold Jtbm
 show ((f.blocks ++ [b]).map _).take _ = _
 rw [List.map_append, List.take_append_of_le_length (by simp), List.take_of_length_le (by simp)]
 exact List.map_congr_left fun i hi => Jtbj ok b hi
def cpF (k j : Nat) : AV := match k with
 | 0 => .nils
 | k + 1 => .hsl (j + 3) 0 5 (k + 1)
def openF (f : Func) : AV := .agg [AI f.args, AI f.regs, .hsl 0 0 5 f.blocks.length]
section
theorem Jtem {P : Program} {p : Nums} (A : All P p) (f : Func) (h0 : f.blocks.length ≤ 1000000) (h1 : codeN f.blocks ≤ 1000000) (hne : 0 < f.blocks.length) :
  Jt4n P p.ref07_Copy [f.av] [] fun o H' => ∃ i x, o = .ret x ∧ x.erase = x ∧ x.ren (fun b => if b = i then some 0 else none) = some (openF f) ∧ H'[i]? = some (.mem (Jtfh (f.blocks.map Block.row))) := by
 obtain ⟨sR, hsR⟩ : ∃ x, x = f.blocks.map Block.row := ⟨_, rfl⟩
 have hwl : sR.length = f.blocks.length := by rw [hsR]; simp
 have hw1 : ∀ r ∈ sR, r.length = 5 := fun r hr => by rw [hsR] at hr; obtain ⟨l, _, rfl⟩ := List.mem_map.1 hr; rfl
 unfold openF
 simp only [Func.av, ← hsR]
 refine A.ref07_Copy.run rfl fun R hR => ?_
 (simp (maxSteps := 1000000) [Jta7])
 refine Jtd (fun s : Nat × Nat => ⟨[(4, AI s.1), (1, .ptr 0 0), (2, .ptr 1 0), (3, .ptr 2 0)], .mem [AI f.args, AI f.regs, .d (.sl sR)] :: .mem [AI 0, AI 0, .nils] :: .mem [AI f.args, AI f.regs, cpF s.1 s.2] :: cpT sR s.1 s.2⟩)
  (fun s => s.1 ≤ f.blocks.length) (fun s => f.blocks.length - s.1) (0, 0) (by simp) (by (exact wkA)) ?_
 rintro ⟨k, j⟩ hk N hN
 simp only at hk hN
 (simp (maxSteps := 1000000) [hwl])
 ((first | refine Xc (fun h6 => ?_) (fun h6 => ?_) | refine Xo (fun h6 => ?_) (fun h6 => ?_)) <;> (try simp only [Xz, Xy] at h6))
 ·have hkl : k < f.blocks.length := by omega
  obtain ⟨b, hb⟩ : ∃ b, f.blocks[k]? = some b := ⟨_, List.getElem?_eq_getElem hkl⟩
  have hcl : b.code.length ≤ 1000000 := by
   have h3 := Jt75 hb
   have h4 := Jt74 f.blocks (k + 1)
   omega
  have hwk : sR[k]? = some b.row := by rw [hsR, List.getElem?_map, hb]; rfl
  have hw := Jtic (k := k) (by omega)
  have ess : sR.take k ++ [b.row] = sR.take (k + 1) := (Jth8 hwk).symm
  simp only [Block.row] at hwk ess
  cases k with
  | zero =>
   have eT : cpT sR (0 + 1) 0 = [.mem (Jtfh [[.sl (b.code.map Instr.row), I b.term.kind, I b.term.a, I b.term.to, I b.term.els]])] := by show tlB 0 (sR.take (0 + 1)) = _; rw [← ess]; rfl
   (simp (maxSteps := 1000000) [h6, hwk, cpF, cpT])
   refine Jt1h (by rfl) (by rfl) (Jtfm fun _ => rfl) (by decide) (by simp; omega) (by simp; omega) (fun hn => ?_) fun hn => ?_
   ·have hln : b.code = [] := by simpa using hn
    rw [hln, List.map_nil] at eT
    (simp (maxSteps := 1000000) [h6, hwk])
    refine Jt1f (.inr (by rfl)) (by rfl) (by simp) (by decide) (by simp) (by simp) (by simp) ?_
    (simp (maxSteps := 1000000) [hw])
    exact hN _ (0 + 1, 0) hkl (by simp only [eT, cpF]; (exact wkA)) (by simp only; omega)
   ·(simp (maxSteps := 1000000) [h6, hwk])
    refine Jt1f (.inr (by rfl)) (by rfl) (by simp) (by decide) (by simp) (by simp) (by simp) ?_
    (simp (maxSteps := 1000000) [hw])
    exact hN _ (0 + 1, 0) hkl (by simp only [eT, cpF]; (exact wkA)) (by simp only; omega)
  | succ k =>
   have hw2 : IntKind.i64.wrap ((k : Int) + 1 + 1) = (k : Int) + 1 + 1 := wrap_i64 (by omega) (by omega)
   have hlen : (sR.take (k + 1)).length = k + 1 := by rw [List.length_take]; omega
   have hre : ∀ r ∈ sR.take (k + 1), r.length = 5 := fun r hr => hw1 r (List.mem_of_mem_take hr)
   have hk0 : (0 : Int) ≤ (k : Int) + 1 := by omega
   (simp (maxSteps := 1000000) [h6, hwk, hk0, cpF, cpT])
   refine Jt1h (by rfl) (by rfl) (Jtfm fun _ => rfl) (by decide) (by simp; omega) (by simp; omega) (fun hn => ?_) fun hn => ?_
   ·have hln : b.code = [] := by simpa using hn
    rw [hln, List.map_nil] at ess
    (simp (maxSteps := 1000000) [h6, hwk, hk0])
    refine Jt1g (b := j + 3) (rows := sR.take (k + 1)) (by rfl) (get3.trans Jthi) hlen hre (by omega) (by rfl) (by simp) (by decide) (by simp) (by simp; omega) (by simp; omega) ?_ ?_
    ·simp only [set3, Jthk, ess]
     (simp (maxSteps := 1000000) [hw2])
     exact hN _ (k + 1 + 1, j) hkl (by refine Wk.of ?_ ?_ (by simp) <;> repeat' (first | (first | exact True.intro | exact ⟨_, rfl, Jti6 rfl⟩ | exact ⟨_, rfl, Jti4 rfl⟩ | exact ⟨_, rfl, .inl .nild⟩ | exact ⟨_, rfl, .inl .nile⟩ | exact ⟨_, rfl, Jti5⟩ | exact Jti6 rfl | exact Jti4 rfl | exact .inl .nild | exact .inl .nile | exact Jti5 | exact WkB.same rfl | exact Jt53 | exact Jt52 | exact .dead _ | exact .iter _ _ | exact .glob _ _ | refine Jt51 ?_ ?_ | refine And.intro ?_ ?_) | exact Jt5d | exact Jt5e | exact ⟨_, rfl, Jti6 (by simp only [AV.ren, List.length_cons, cpT, Jthj]; rw [if_pos (by omega)])⟩ | exact Jti6 (by simp only [AV.ren, List.length_cons, cpT, Jthj]; rw [if_pos (by omega)]))) (by simp only; omega)
    ·simp only [ess]
     (simp (maxSteps := 1000000) [hw2, Jthj])
     exact hN _ (k + 1 + 1, j + 1) hkl (by refine Wk.of ?_ ?_ (by simp) <;> repeat' (first | (first | exact True.intro | exact ⟨_, rfl, Jti6 rfl⟩ | exact ⟨_, rfl, Jti4 rfl⟩ | exact ⟨_, rfl, .inl .nild⟩ | exact ⟨_, rfl, .inl .nile⟩ | exact ⟨_, rfl, Jti5⟩ | exact Jti6 rfl | exact Jti4 rfl | exact .inl .nild | exact .inl .nile | exact Jti5 | exact WkB.same rfl | exact Jt53 | exact Jt52 | exact .dead _ | exact .iter _ _ | exact .glob _ _ | refine Jt51 ?_ ?_ | refine And.intro ?_ ?_) | exact Jt5d | exact Jt5e | exact ⟨_, rfl, Jti6 (by simp only [AV.ren, List.length_cons, cpT, Jthj]; rw [if_pos (by omega)])⟩ | exact Jti6 (by simp only [AV.ren, List.length_cons, cpT, Jthj]; rw [if_pos (by omega)]))) (by simp only; omega)
   ·(simp (maxSteps := 1000000) [h6, hwk, hk0])
    refine Jt1g (b := j + 3) (rows := sR.take (k + 1)) (by rfl) (get3.trans Jthi) hlen hre (by omega) (by rfl) (by simp) (by decide) (by simp) (by simp; omega) (by simp; omega) ?_ ?_
    ·simp only [set3, Jthk, ess]
     (simp (maxSteps := 1000000) [hw2])
     exact hN _ (k + 1 + 1, j) hkl (by refine Wk.of ?_ ?_ (by simp) <;> repeat' (first | (first | exact True.intro | exact ⟨_, rfl, Jti6 rfl⟩ | exact ⟨_, rfl, Jti4 rfl⟩ | exact ⟨_, rfl, .inl .nild⟩ | exact ⟨_, rfl, .inl .nile⟩ | exact ⟨_, rfl, Jti5⟩ | exact Jti6 rfl | exact Jti4 rfl | exact .inl .nild | exact .inl .nile | exact Jti5 | exact WkB.same rfl | exact Jt53 | exact Jt52 | exact .dead _ | exact .iter _ _ | exact .glob _ _ | refine Jt51 ?_ ?_ | refine And.intro ?_ ?_) | exact Jt5d | exact Jt5e | exact ⟨_, rfl, Jti6 (by simp only [AV.ren, List.length_cons, cpT, Jthj]; rw [if_pos (by omega)])⟩ | exact Jti6 (by simp only [AV.ren, List.length_cons, cpT, Jthj]; rw [if_pos (by omega)]))) (by simp only; omega)
    ·simp only [ess]
     (simp (maxSteps := 1000000) [hw2, Jthj])
     exact hN _ (k + 1 + 1, j + 1) hkl (by refine Wk.of ?_ ?_ (by simp) <;> repeat' (first | (first | exact True.intro | exact ⟨_, rfl, Jti6 rfl⟩ | exact ⟨_, rfl, Jti4 rfl⟩ | exact ⟨_, rfl, .inl .nild⟩ | exact ⟨_, rfl, .inl .nile⟩ | exact ⟨_, rfl, Jti5⟩ | exact Jti6 rfl | exact Jti4 rfl | exact .inl .nild | exact .inl .nile | exact Jti5 | exact WkB.same rfl | exact Jt53 | exact Jt52 | exact .dead _ | exact .iter _ _ | exact .glob _ _ | refine Jt51 ?_ ?_ | refine And.intro ?_ ?_) | exact Jt5d | exact Jt5e | exact ⟨_, rfl, Jti6 (by simp only [AV.ren, List.length_cons, cpT, Jthj]; rw [if_pos (by omega)])⟩ | exact Jti6 (by simp only [AV.ren, List.length_cons, cpT, Jthj]; rw [if_pos (by omega)]))) (by simp only; omega)
 ·have hk' : k = f.blocks.length := by omega
  subst hk'
  obtain ⟨k, hk2⟩ : ∃ k, f.blocks.length = k + 1 := ⟨f.blocks.length - 1, by omega⟩
  have eT : sR.take (k + 1) = sR := List.take_of_length_le (by omega)
  rw [hk2]
  simp only [cpF, cpT, eT]
  (simp (maxSteps := 1000000) [])
  refine hR _ _ (Jt4r (.agg [AI f.args, AI f.regs, .hsl (j + 3) 0 5 (k + 1)]) (.agg [AI f.args, AI f.regs, .hsl (j + 3) 0 5 (k + 1)]) (.dead :: .dead :: .dead :: tlB j sR) (by rfl) ?_ ?_)
  ·refine Wk.of ⟨⟨_, rfl, Jti6 ?_⟩, trivial⟩ ⟨.dead _, .dead _, .dead _, Jt5d⟩ (Nat.zero_le _)
   simp only [AV.ren, renL, List.length_cons, Jthj]
   rw [if_pos (by omega)]
  ·exact ⟨j + 3, _, rfl, rfl, by simp [AV.ren, renL, hk2], get3.trans Jthi⟩
end
end Go.AE
set_option linter.unusedSectionVars false
set_option maxRecDepth 8000
namespace Go.AE
open Go
def CutTo (m : Nat) (st S4 : ASt) : Prop := Wk m st S4 ∨ ∃ S2 i j S3, Wk m st S2 ∧ Mv m i j S2 S3 ∧ Wk m S3 S4
theorem Jtf {P : Program} {m : Nat} {Q : AExit → ASt → Prop} {st : ASt} (S4 : ASt) {r b : IC} (h1 : ∀ N : ASt → Prop, (∀ st', CutTo m st' S4 → N st') → AW P m r (AExit.then N Q) st) (h2 : AW P m b Q S4) : AW P m (.seq (.seq r .cut) b) Q st := by
 show AW P m (.seq r .cut) (AExit.then (AW P m b Q) Q) st
 show AW P m r (AExit.then (AW P m .cut (AExit.then (AW P m b Q) Q)) (AExit.then (AW P m b Q) Q)) st
 refine Jtg r ?_ (h1 (fun st' => CutTo m st' S4) fun st' h => h)
 intro e st' h
 cases e with
 | normal =>
  rcases h with h | ⟨S2, i, j, S3, h3, h4, h5⟩
  ·exact .inr ⟨S4, h, .inl h2⟩
  ·exact .inr ⟨S2, h3, .inr ⟨i, j, S3, S4, h4, h5, h2⟩⟩
 | exit i => exact h
 | ret => exact h
 | panic x => exact h
def renE (ρ : Nat → Option Nat) : List (Nat × AV) → Option (List (Nat × AV))
 | [] => some []
 | (t, x) :: r => match x.ren ρ, renE ρ r with | some y, some r' => some ((t, y) :: r') | _, _ => none
theorem Jtf6 {ρ : Nat → Option Nat} : ∀ {e e' : List (Nat × AV)}, renE ρ e = some e' → ∀ (t : Nat) (y : AV), get e' t = some y → ∃ x, get e t = some x ∧ x.ren ρ = some y := by
 intro e
 induction e with
 | nil => intro e' h t y hy; simp only [renE] at h; injection h with h; subst h; simp [get] at hy
 | cons z e ih =>
  intro e' h t y hy
  obtain ⟨s, x⟩ := z
  simp only [renE] at h
  split at h
  ·rename_i y' r' h1 h2
   injection h with h; subst h
   simp only [get] at hy ⊢
   split at hy
   ·rename_i hs; injection hy with hy; subst hy; rw [if_pos hs]; exact ⟨x, rfl, h1⟩
   ·rename_i hs; rw [if_neg hs]; exact ih h2 t y hy
  ·cases h
theorem Jtf4 {ρ : Nat → Option Nat} : ∀ {xs ys : List Blk}, renB ρ xs = some ys → xs.length = ys.length ∧ ∀ (k : Nat) (y : Blk), ys[k]? = some y → ∃ x, xs[k]? = some x ∧ x.ren ρ = some y := by
 intro xs
 induction xs with
 | nil => intro ys h; simp only [renB] at h; injection h with h; subst h; exact ⟨rfl, fun k y hy => by simp at hy⟩
 | cons x xs ih =>
  intro ys h
  simp only [renB] at h
  split at h
  ·rename_i y ys' h1 h2
   injection h with h; subst h
   obtain ⟨i1, i2⟩ := ih h2
   refine ⟨by simp [i1], fun k z hz => ?_⟩
   cases k with
   | zero => exact ⟨x, rfl, by simp at hz; rw [← hz]; exact h1⟩
   | succ k => exact i2 k z (by simpa using hz)
  ·cases h
theorem Jtf1 {ρ : Nat → Option Nat} {k k' : Blk} {t t' : List Blk} (h1 : k.ren ρ = some k') (h2 : renB ρ t = some t') : renB ρ (k :: t) = some (k' :: t') := by simp only [renB, h1, h2]
theorem Jtfb {ρ : Nat → Option Nat} (rows : List (List D)) : (Blk.mem (Jtfh rows)).ren ρ = some (.mem (Jtfh rows)) := ClB.rows rows ρ
theorem Mv.of {m i j : Nat} {e e' : List (Nat × AV)} {H H1 : List Blk} {x y : Blk} (he : renE (fun b => some (sw i j b)) e = some e') (hH : renB (fun b => some (sw i j b)) H = some H1) (hx : H1[i]? = some x) (hy : H1[j]? = some y) (hi : m ≤ i) (hj : m ≤ j) (hij : i ≠ j) :
  Mv m i j ⟨e, H⟩ ⟨e', (H1.set i y).set j x⟩ := by
 obtain ⟨l1, l2⟩ := Jtf4 hH
 have li := (List.getElem?_eq_some_iff.1 hx).1
 have lj := (List.getElem?_eq_some_iff.1 hy).1
 refine ⟨hi, hj, by show i < H.length; omega, by show j < H.length; omega, fun t z hz => Jtf6 he t z hz, by simp [l1], fun b k hk => l2 _ k ?_⟩
 simp only at hk
 by_cases hbj : b = j
 ·subst hbj
  rw [List.getElem?_set_self (by simpa using lj)] at hk
  have : sw i b b = i := by unfold sw; rw [if_neg (Ne.symm hij), if_pos rfl]
  rw [this, hx]; exact hk
 ·rw [List.getElem?_set_ne (Ne.symm hbj)] at hk
  by_cases hbi : b = i
  ·subst hbi
   rw [List.getElem?_set_self li] at hk
   have : sw b j b = j := by unfold sw; rw [if_pos rfl]
   rw [this, hy]; exact hk
  ·rw [List.getElem?_set_ne (Ne.symm hbi)] at hk
   have : sw i j b = b := by unfold sw; rw [if_neg hbi, if_neg hbj]
   rw [this]; exact hk
section
theorem Jten {P : Program} {p : Nums} (A : All P p) (f : Func) (h0 : f.blocks.length ≤ 1000000) (h1 : codeN f.blocks ≤ 1000000) (hne : 0 < f.blocks.length) :
  Jt4n P p.ref07_Copy [f.av] [] fun o H' => o = .ret (openF f) ∧ H' = [.mem (Jtfh (f.blocks.map Block.row))] :=
 (Jtem A f h0 h1 hne).pack rfl rfl (by
  rw [List.all_eq_true]
  intro x hx
  unfold Jtfh at hx
  obtain ⟨d, _, rfl⟩ := List.mem_map.1 hx
  rfl)
end
section
set_option maxHeartbeats 2000000 in
theorem Jtax {P : Program} {p : Nums} (A : All P p) (SI : SortIOk P p) (f : Func) (b : Block) : Jt4n P p.law23_LivenessAppended [f.av, b.av] [] fun o _ => o = .ret (AB true) := by
 have cw := Jtay A SI
 have cf := Jteo A f
 have cc : few f = true → Jt4n P p.ref07_Check [f.av] [] fun o _ => o = .ret (AI (Jtev f)) := fun h => by
  obtain ⟨f1, f2, f3, f4⟩ := Jt82.1 h
  exact Jtek A f (by omega) (by omega)
 have cf2 := Jteo A (appF f b)
 have cc2 : few (appF f b) = true → Jt4n P p.ref07_Check [(appF f b).av] [] fun o _ => o = .ret (AI (Jtev (appF f b))) := fun h => by
  obtain ⟨f1, f2, f3, f4⟩ := Jt82.1 h
  exact Jtek A _ (by omega) (by omega)
 have cp : few f = true → Jtev f = 0 → Jt4n P p.ref07_Copy [f.av] [] fun o H' => o = .ret (openF f) ∧ H' = [.mem (Jtfh (f.blocks.map Block.row))] := fun h h2 => by
  obtain ⟨f1, f2, f3, f4⟩ := Jt82.1 h
  exact Jten A f (by omega) (by omega) (src_ok h2).2.2.1
 have okv := @okV_of f
 have okv2 := @okV_of (appF f b)
 have ci := fun h1 h2 => Jtbu A SI f (okv h1 h2) (by have := (Jt82.1 h1).2.1; omega)
 have co := fun h1 h2 => Jtbv A SI f (okv h1 h2) (by have := (Jt82.1 h1).2.1; omega)
 have ci2 := fun h1 h2 => Jtbu A SI (appF f b) (okv2 h1 h2) (by have := (Jt82.1 h1).2.1; omega)
 have co2 := fun h1 h2 => Jtbv A SI (appF f b) (okv2 h1 h2) (by have := (Jt82.1 h1).2.1; omega)
 have cs1 := fun (h1 : few f = true) => Jtet A (liveIn f) (liveIn f) (by have := (Jt82.1 h1).1; rw [Jtbi]; omega) (by have := (Jt82.1 h1).1; rw [Jtbi]; omega) (fun x hx => by
  obtain ⟨j, _, rfl⟩ := List.mem_map.1 hx
  have := Jtbq f j; have := (Jt82.1 h1).2.1; omega) (fun x hx => by
  obtain ⟨j, _, rfl⟩ := List.mem_map.1 hx
  have := Jtbq f j; have := (Jt82.1 h1).2.1; omega)
 have cs2 := fun (h1 : few f = true) => Jtet A (Jtbm f) (Jtbm f) (by have := (Jt82.1 h1).1; rw [Jtbo]; omega) (by have := (Jt82.1 h1).1; rw [Jtbo]; omega) (fun x hx => by
  obtain ⟨j, _, rfl⟩ := List.mem_map.1 hx
  have := Jtbk f j; have := (Jt82.1 h1).2.1; omega) (fun x hx => by
  obtain ⟨j, _, rfl⟩ := List.mem_map.1 hx
  have := Jtbk f j; have := (Jt82.1 h1).2.1; omega)
 have eI := fun h1 h2 => Jtbh (okv h1 h2).l b
 have eO := fun h1 h2 => Jtbn (okv h1 h2).l b
 have hlen := fun (h : few f = true) => (Jt82.1 h).1
 have hreg0 := fun (h : Jtev f = 0) => (src_ok h).2.2.1
 obtain ⟨fw, hfw⟩ : ∃ x, x = few f := ⟨_, rfl⟩
 obtain ⟨fc, hfc⟩ : ∃ x, x = Jtev f := ⟨_, rfl⟩
 obtain ⟨gw, hgw⟩ : ∃ x, x = few (appF f b) := ⟨_, rfl⟩
 obtain ⟨gc, hgc⟩ : ∃ x, x = Jtev (appF f b) := ⟨_, rfl⟩
 rw [← hfw] at cf cc cp okv ci co cs1 cs2 hlen eI eO
 rw [← hfc] at cc cp okv ci co hreg0 eI eO
 rw [← hgw] at cf2 cc2 okv2 ci2 co2
 rw [← hgc] at cc2 okv2 ci2 co2
 obtain ⟨fR, hfR⟩ : ∃ x, x = f.blocks.map Block.row := ⟨_, rfl⟩
 obtain ⟨gR, hgR⟩ : ∃ x, x = fR ++ [b.row] := ⟨_, rfl⟩
 have av : f.av = .agg [AI f.args, AI f.regs, .d (.sl fR)] := by rw [hfR]; rfl
 have av2 : (appF f b).av = .agg [AI f.args, AI f.regs, .d (.sl gR)] := by rw [hgR, hfR]; simp [Func.av, appF]
 obtain ⟨iR, hiR⟩ : ∃ x, x = (liveIn f).map fun x => [intsD x] := ⟨_, rfl⟩
 obtain ⟨oR, hoR⟩ : ∃ x, x = (Jtbm f).map fun x => [intsD x] := ⟨_, rfl⟩
 obtain ⟨jR, hjR⟩ : ∃ x, x = (liveIn (appF f b)).map fun x => [intsD x] := ⟨_, rfl⟩
 obtain ⟨qR, hqR⟩ : ∃ x, x = (Jtbm (appF f b)).map fun x => [intsD x] := ⟨_, rfl⟩
 obtain ⟨n, hn⟩ : ∃ n, n = f.blocks.length := ⟨_, rfl⟩
 have lR : fR.length = n := by rw [hfR, hn]; simp
 have lI : iR.length = n := by rw [hiR, hn]; simp [Jtbi]
 have lO : oR.length = n := by rw [hoR, hn]; simp [Jtbo]
 have lJ : jR.length = n + 1 := by rw [hjR, hn, List.length_map, Jtbi]; simp [appF]
 have lQ : qR.length = n + 1 := by rw [hqR, hn, List.length_map, Jtbo]; simp [appF]
 have tJ := fun h1 h2 => show jR.take n = iR by rw [hjR, hn, ← List.map_take, eI h1 h2, hiR]
 have tQ := fun h1 h2 => show qR.take n = oR by rw [hqR, hn, ← List.map_take, eO h1 h2, hoR]
 have r5 : ∀ r ∈ fR, r.length = 5 := fun r hr => by rw [hfR] at hr; obtain ⟨l, _, rfl⟩ := List.mem_map.1 hr; rfl
 rw [av] at cf cc cp ci co
 rw [av2] at cf2 cc2 ci2 co2
 rw [av]
 simp only [listsD, ← hiR] at ci cs1
 simp only [listsD, ← hoR] at co cs2
 simp only [listsD, ← hjR] at ci2
 simp only [listsD, ← hqR] at co2
 simp only [decide_true] at cs1 cs2
 simp only [openF, ← hfR] at cp
 rw [← hn] at hlen hreg0 cp
 obtain ⟨code, kind, ta, to, els⟩ := b
 simp only [Block.row] at hgR
 refine A.law23_LivenessAppended.run rfl fun R hR => ?_
 (simp (maxSteps := 1000000) [Jt9p, Block.av])
 (refine Jt13 cw (by rfl) (by rfl) ?_)
 (simp (maxSteps := 1000000) [])
 (refine Jt13 cf (by rfl) (by rfl) ?_)
 (simp (maxSteps := 1000000) [])
 ((first | refine Xc (fun h1 => ?_) (fun h1 => ?_) | refine Xo (fun h1 => ?_) (fun h1 => ?_)) <;> (try simp only [Xz, Xy] at h1))
 ·(simp (maxSteps := 1000000) [h1])
  (refine Jt13 cw (by rfl) (by rfl) ?_)
  (simp (maxSteps := 1000000) [])
  (first | exact hR _ _ FrA | exact hR _ _ FnA)
 have hft : fw = true := by simpa using h1
 (simp (maxSteps := 1000000) [h1])
 (refine Jt13 (cc hft) (by rfl) (by rfl) ?_)
 (simp (maxSteps := 1000000) [])
 ((first | refine Xc (fun h3 => ?_) (fun h3 => ?_) | refine Xo (fun h3 => ?_) (fun h3 => ?_)) <;> (try simp only [Xz, Xy] at h3))
 ·(simp (maxSteps := 1000000) [h3])
  (refine Jt13 cw (by rfl) (by rfl) ?_)
  (simp (maxSteps := 1000000) [])
  (first | exact hR _ _ FrA | exact hR _ _ FnA)
 have hfz : fc = 0 := by simpa using h3
 have s3 := hreg0 hfz
 have hl0 := hlen hft
 (simp (maxSteps := 1000000) [h3])
 refine Jt16 [] 1 (cp hft hfz) (by decide) (by rfl) (by rfl) (by rfl) Jtf5 (by rfl) (by rfl) ?_
 (simp (maxSteps := 1000000) [])
 have lG : gR.length = n + 1 := by rw [hgR]; simp [lR]
 have rG : ∀ r ∈ gR, r.length = 5 := fun r hr => by
  rw [hgR] at hr
  rcases List.mem_append.1 hr with h | h
  ·exact r5 r h
  ·simp at h; subst h; rfl
 rw [Je10]
 refine Jtf ⟨[(5, .ptr 2 0), (4, AB false), (2, .ptr 0 0)], [.mem [AI f.args, AI f.regs, .d (.sl fR)], .mem [.d (.sl (code.map Instr.row)), AI kind, AI ta, AI to, AI els], .mem [AI f.args, AI f.regs, .d (.sl gR)]]⟩ (fun N hN => ?_) ?_
 ·clear hR
  (simp (maxSteps := 1000000) [])
  refine Jt1g (b := 2) (rows := fR) (by rfl) (by rfl) lR r5 (by omega) (by rfl) (by simp) (by decide) (by simp) (by simp; omega) (by simp; omega) ?_ ?_
  ·rw [← hgR]
   (simp (maxSteps := 1000000) [])
   refine hN _ (.inr ⟨⟨[(5, .ptr 3 0), (4, AB false), (2, .ptr 0 0)], [.mem [AI f.args, AI f.regs, .d (.sl fR)], .mem [.d (.sl (code.map Instr.row)), AI kind, AI ta, AI to, AI els], .mem (Jtfh gR), .mem [AI f.args, AI f.regs, .hsl 2 0 5 (n + 1)]]⟩, 2, 3, ⟨[(5, .ptr 2 0), (4, AB false), (2, .ptr 0 0)], [.mem [AI f.args, AI f.regs, .d (.sl fR)], .mem [.d (.sl (code.map Instr.row)), AI kind, AI ta, AI to, AI els], .mem [AI f.args, AI f.regs, .hsl 3 0 5 (n + 1)], .mem (Jtfh gR)]⟩, ?_, Mv.of rfl (Jtf1 rfl (Jtf1 rfl (Jtf1 (Jtfb _) (Jtf1 rfl rfl)))) rfl rfl (by omega) (by omega) (by omega), ?_⟩)
   ·refine Wk.of ?_ ?_ (by simp) <;> repeat' (first | exact Jt53 | (first | exact True.intro | exact ⟨_, rfl, Jti6 rfl⟩ | exact ⟨_, rfl, Jti4 rfl⟩ | exact ⟨_, rfl, .inl .nild⟩ | exact ⟨_, rfl, .inl .nile⟩ | exact ⟨_, rfl, Jti5⟩ | exact Jti6 rfl | exact Jti4 rfl | exact .inl .nild | exact .inl .nile | exact Jti5 | exact WkB.same rfl | exact Jt53 | exact Jt52 | exact .dead _ | exact .iter _ _ | exact .glob _ _ | refine Jt51 ?_ ?_ | refine And.intro ?_ ?_))
   ·refine Wk.of ?_ ?_ (by simp) <;> repeat' (first | exact Jt5f rfl (Nat.le_refl _) lG rG | (first | exact True.intro | exact ⟨_, rfl, Jti6 rfl⟩ | exact ⟨_, rfl, Jti4 rfl⟩ | exact ⟨_, rfl, .inl .nild⟩ | exact ⟨_, rfl, .inl .nile⟩ | exact ⟨_, rfl, Jti5⟩ | exact Jti6 rfl | exact Jti4 rfl | exact .inl .nild | exact .inl .nile | exact Jti5 | exact WkB.same rfl | exact Jt53 | exact Jt52 | exact .dead _ | exact .iter _ _ | exact .glob _ _ | refine Jt51 ?_ ?_ | refine And.intro ?_ ?_))
  ·rw [← hgR]
   (simp (maxSteps := 1000000) [])
   refine hN _ (.inr ⟨⟨[(5, .ptr 3 0), (4, AB false), (2, .ptr 0 0)], [.mem [AI f.args, AI f.regs, .d (.sl fR)], .mem [.d (.sl (code.map Instr.row)), AI kind, AI ta, AI to, AI els], .dead, .mem [AI f.args, AI f.regs, .hsl 4 0 5 (n + 1)], .mem (Jtfh gR)]⟩, 2, 3, ⟨[(5, .ptr 2 0), (4, AB false), (2, .ptr 0 0)], [.mem [AI f.args, AI f.regs, .d (.sl fR)], .mem [.d (.sl (code.map Instr.row)), AI kind, AI ta, AI to, AI els], .mem [AI f.args, AI f.regs, .hsl 4 0 5 (n + 1)], .dead, .mem (Jtfh gR)]⟩, ?_, Mv.of rfl (Jtf1 rfl (Jtf1 rfl (Jtf1 rfl (Jtf1 rfl (Jtf1 (Jtfb _) rfl))))) rfl rfl (by omega) (by omega) (by omega), ?_⟩)
   ·refine Wk.of ?_ ?_ (by simp) <;> repeat' (first | exact Jt53 | (first | exact True.intro | exact ⟨_, rfl, Jti6 rfl⟩ | exact ⟨_, rfl, Jti4 rfl⟩ | exact ⟨_, rfl, .inl .nild⟩ | exact ⟨_, rfl, .inl .nile⟩ | exact ⟨_, rfl, Jti5⟩ | exact Jti6 rfl | exact Jti4 rfl | exact .inl .nild | exact .inl .nile | exact Jti5 | exact WkB.same rfl | exact Jt53 | exact Jt52 | exact .dead _ | exact .iter _ _ | exact .glob _ _ | refine Jt51 ?_ ?_ | refine And.intro ?_ ?_))
   ·refine Wk.of ?_ ?_ (by simp) <;> repeat' (first | exact Jt5f (b := 4) rfl (Nat.le_succ 3) lG rG | (first | exact True.intro | exact ⟨_, rfl, Jti6 rfl⟩ | exact ⟨_, rfl, Jti4 rfl⟩ | exact ⟨_, rfl, .inl .nild⟩ | exact ⟨_, rfl, .inl .nile⟩ | exact ⟨_, rfl, Jti5⟩ | exact Jti6 rfl | exact Jti4 rfl | exact .inl .nild | exact .inl .nile | exact Jti5 | exact WkB.same rfl | exact Jt53 | exact Jt52 | exact .dead _ | exact .iter _ _ | exact .glob _ _ | refine Jt51 ?_ ?_ | refine And.intro ?_ ?_))
 (simp (maxSteps := 1000000) [])
 (refine Jt13 cf2 (by rfl) (by rfl) ?_)
 (simp (maxSteps := 1000000) [])
 ((first | refine Xc (fun h4 => ?_) (fun h4 => ?_) | refine Xo (fun h4 => ?_) (fun h4 => ?_)) <;> (try simp only [Xz, Xy] at h4))
 ·(simp (maxSteps := 1000000) [h4])
  (first | exact hR _ _ FrA | exact hR _ _ FnA)
 have hgt : gw = true := by simpa using h4
 (simp (maxSteps := 1000000) [h4])
 (refine Jt13 (cc2 hgt) (by rfl) (by rfl) ?_)
 (simp (maxSteps := 1000000) [])
 ((first | refine Xc (fun h5 => ?_) (fun h5 => ?_) | refine Xo (fun h5 => ?_) (fun h5 => ?_)) <;> (try simp only [Xz, Xy] at h5))
 ·(simp (maxSteps := 1000000) [h5])
  (first | exact hR _ _ FrA | exact hR _ _ FnA)
 have hgz : gc = 0 := by simpa using h5
 (simp (maxSteps := 1000000) [h5])
 (refine Jt13 (ci hft hfz) (by rfl) (by rfl) ?_)
 (simp (maxSteps := 1000000) [])
 (refine Jt13 (ci2 hgt hgz) (by rfl) (by rfl) ?_)
 (simp (maxSteps := 1000000) [])
 (refine Jt13 (co hft hfz) (by rfl) (by rfl) ?_)
 (simp (maxSteps := 1000000) [])
 (refine Jt13 (co2 hgt hgz) (by rfl) (by rfl) ?_)
 have hwn := Jtic (k := n) (by omega)
 have tJ := tJ hft hfz
 have tQ := tQ hft hfz
 have hle : (n : Int) ≤ (n : Int) + 1 := by omega
 have j1 : ∀ r ∈ jR, r.length = 1 := fun r hr => by rw [hjR] at hr; obtain ⟨l, _, rfl⟩ := List.mem_map.1 hr; rfl
 have q1 : ∀ r ∈ qR, r.length = 1 := fun r hr => by rw [hqR] at hr; obtain ⟨l, _, rfl⟩ := List.mem_map.1 hr; rfl
 (simp (maxSteps := 1000000) [lR, lI, lJ, lO, lQ, hwn, tJ, tQ, hle])
 rw [if_pos j1]
 (simp (maxSteps := 1000000) [])
 (refine Jt13 (cs1 hft) (by rfl) (by rfl) ?_)
 (simp (maxSteps := 1000000) [hle, lQ, tQ])
 rw [if_pos q1]
 (simp (maxSteps := 1000000) [])
 (refine Jt13 (cs2 hft) (by rfl) (by rfl) ?_)
 (simp (maxSteps := 1000000) [])
 (first | exact hR _ _ FrA | exact hR _ _ FnA)
end
end Go.AE
