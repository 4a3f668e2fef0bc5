/- A part of the proof: the evaluator over abstract values, its codes, the contracts of the functions. -/
import Derived.Test.YtcandpnhiboehaaW3
set_option linter.unusedVariables false
set_option linter.unusedSimpArgs false
set_option maxRecDepth 8000
namespace Go.AE
open Go
section
set_option maxHeartbeats 2000000 in
theorem Jtbp {P : Program} {p : Nums} (A : All P p) (SI : SortIOk P p) (f : Func) (ok : OkV f) (hr0 : f.regs ≤ 10000) : Jt4k P p.liveness_Out [f.av] [] fun o _ => o = .ret (.d (listsD (Jtbh f))) := by
 refine A.liveness_Out.run rfl fun R hR => ?_
 have hbl := ok.l.bl
 have hsol := Jtbv A f ok.l
 obtain ⟨fR, hfR⟩ : ∃ x, x = f.blocks.map Block.row := ⟨_, rfl⟩
 obtain ⟨n, hn⟩ : ∃ n, n = f.blocks.length := ⟨_, rfl⟩
 obtain ⟨L, hL⟩ : ∃ L, L = (Jtbh f).map fun x => [intsD x] := ⟨_, rfl⟩
 have lL : L.length = n := by rw [hL, hn]; simp [Jtbh]
 have gL : ∀ (j : Nat) (b : Block), f.blocks[j]? = some b → L[j]? = some [intsD (liveO f b)] := fun j b hb => by
  rw [hL, Jtbh, List.getElem?_map, List.getElem?_map, hb]; rfl
 have lR : fR.length = n := by rw [hfR, hn]; simp
 have gR : ∀ (j : Nat) (b : Block), f.blocks[j]? = some b → fR[j]? = some b.row := fun j b h => by rw [hfR, List.getElem?_map, h]; rfl
 have av : f.av = .agg [AI f.args, AI f.regs, .d (.sl fR)] := by rw [hfR]; rfl
 simp only [listsD, ← hL] at hR
 rw [av, ← hn] at hsol
 rw [← hn] at hbl
 rw [av]
 (simp (maxSteps := 1000000) [Jt9o])
 refine Jt16 (Y := fun _ => .hsl 2 0 1 n) hsol (by rfl) (fun l k hk => ?_) (fun l => ?_) fun l hl => ?_
 ·rcases List.mem_append.1 hk with hk | hk
  ·simp only [List.mem_cons, List.not_mem_nil, or_false] at hk
   rcases hk with rfl | rfl | rfl
   ·exact .dead
   ·exact .mps _
   ·exact .dead
  ·exact TT_cl k hk
 ·simp [AV.ren, back]
 obtain ⟨hJ, hC⟩ := hl
 have el : l.length = n := by rw [hn]; exact hJ.len
 (simp (maxSteps := 1000000) [lR])
 have hTl : (TT l).length = 6 * n := by rw [TT_len, el]
 refine Jtd (fun z : Nat × Nat × List Blk => ⟨[(12, AI z.1), (11, AI (n : Int)), (10, .d (.sl fR)), (3, .hsl 2 0 1 n), (4, outI n z.1 z.2.1)], .dead :: .dead :: .mem ((ruL l).map .mp) :: .dead :: (TT l ++ z.2.2)⟩)
  (fun z => z.1 ≤ n ∧ OutX L z.1 z.2.1 z.2.2) (fun z => n - z.1) (0, 0, []) ⟨Nat.zero_le _, fun h => absurd h (by simp), fun b hb => by simp at hb⟩ ?_ ?_
 ·simp only [outI, List.append_nil]
  refine Wk.of ?_ ?_ (by simp) <;> repeat' (first | exact (ClB.mps _).wk | exact Jt52 | (first | exact True.intro | exact ⟨_, rfl, Jthu rfl⟩ | exact ⟨_, rfl, Jths rfl⟩ | exact ⟨_, rfl, .inl .nild⟩ | exact ⟨_, rfl, .inl .nile⟩ | exact ⟨_, rfl, Jtht⟩ | exact Jthu rfl | exact Jths rfl | exact .inl .nild | exact .inl .nile | exact Jtht | exact WkB.same rfl | exact Jt50 | exact Jt4z | exact .dead _ | exact .iter _ _ | exact .glob _ _ | refine Jt4y ?_ ?_ | refine And.intro ?_ ?_))
 rintro ⟨k, qx, X⟩ ⟨hk, hX⟩ N hN
 simp only at hk hX hN
 (simp (maxSteps := 1000000) [])
 by_cases h2 : k < n
 ·have h2i : (k : Int) < (n : Int) := by omega
  have hw := Jti0 (k := k) (by omega)
  obtain ⟨b, hb⟩ : ∃ b, f.blocks[k]? = some b := ⟨_, List.getElem?_eq_getElem (by omega)⟩
  have gl := gL k b hb
  have hr := gR k b hb
  have hsucc := fun t ht => ok.l.succ b (List.mem_of_getElem? hb) t ht
  obtain ⟨D0, hD0⟩ : ∃ x, x = intsD (liveO f b) := ⟨_, rfl⟩
  rw [← hD0] at gl
  have eT : L.take k ++ [[D0]] = L.take (k + 1) := by rw [List.take_add_one, gl]; rfl
  have hexM : ∀ v, Exits (l.map fun q => q.ks) (succsZ b.term) v ↔ v ∈ liveO f b := fun v => by
   rw [Jtcj ok]
   constructor
   ·rintro ⟨t, ht, lt, h3, h4⟩
    rw [List.getElem?_map, Option.map_eq_some_iff] at h3
    obtain ⟨q2, h5, rfl⟩ := h3
    exact ⟨t, ht, (hJ.done (fun j hj => hC j (by omega)) h5 v).1 h4⟩
   ·rintro ⟨t, ht, h3⟩
    obtain ⟨q2, h5⟩ : ∃ q2, l[t.toNat]? = some q2 := ⟨_, List.getElem?_eq_getElem (by rw [hJ.len]; exact h3.lt)⟩
    exact ⟨t, ht, q2.ks, by rw [List.getElem?_map, h5]; rfl, (hJ.done (fun j hj => hC j (by omega)) h5 v).2 h3⟩
  have hso : ∀ x : Nat × List Int, (x.2.Nodup ∧ ∀ v, v ∈ x.2 ↔ Exits (l.map fun q => q.ks) (succsZ b.term) v) → Jt4k P p.liveness_set_sorted [.mp x.1] [.glob x.1 (mpK x.2)] fun o H' => o = .ret (.d D0) ∧ H' = [.glob x.1 (mpK x.2)] := fun x hx => by
   have e1 : sortI x.2 = liveO f b := Jtc4 hx.1 (Jtbg f b) fun v => by rw [hx.2, hexM]
   have hks : x.2.length ≤ 1000000 := by
    have h1 := congrArg List.length e1
    rw [Jtg1] at h1
    have := Jtbf f b
    omega
   have := Jtbu A SI x.1 x.2 hks
   rw [e1, ← hD0] at this; exact this
  clear hexM hD0
  have hex := fun H2 h1 h2 h3 => Jtbr A b H2 2 n (ruL l) (l.map fun q => q.ks) ⟨h1, by simp, h2, h3⟩ (by simp [el]) (fun t ht => by have := hsucc t ht; rw [Jtfh, el, hn]; exact this)
  obtain ⟨code, kind, ta, to, els⟩ := b
  simp only [Block.row] at hr
  simp only [Block.av] at hex
  obtain ⟨B6, hB6⟩ : ∃ x, x = Blk.mem [AV.d (D.sl (code.map Instr.row)), AV.d (I kind), AV.d (I ta), AV.d (I to), AV.d (I els)] := ⟨_, rfl⟩
  have c6 : ClB B6 := by rw [hB6]; exact ClB.mem fun x hx ρ => by simp only [List.mem_cons, List.not_mem_nil, or_false] at hx; rcases hx with rfl | rfl | rfl | rfl | rfl <;> rfl
  have cAll : ∀ k ∈ (Blk.dead :: .dead :: .mem ((ruL l).map .mp) :: .dead :: (TT l ++ (X ++ [B6]))), ClB k := fun k hk => by
   simp only [List.mem_cons, List.mem_append, List.not_mem_nil, or_false] at hk
   rcases hk with rfl | rfl | rfl | rfl | hk | hk | rfl
   ·exact .dead
   ·exact .dead
   ·exact .mps _
   ·exact .dead
   ·exact TT_cl k hk
   ·exact hX.cl k hk
   ·exact c6
  have hex2 := hex (Blk.dead :: .dead :: .mem ((ruL l).map .mp) :: .dead :: (TT l ++ (X ++ [B6]))) rfl (fun i r ks h1 h2 => by
   rw [List.getElem?_map, Option.map_eq_some_iff] at h2
   obtain ⟨q2, h3, rfl⟩ := h2
   rw [Jtfg h3] at h1; injection h1 with h1; subst h1
   refine ⟨6 * i + 8, ?_⟩
   show (TT l ++ (X ++ [B6]))[6 * i + 4]? = _
   rw [List.getElem?_append_left (List.getElem?_eq_some_iff.1 (TT_u h3)).1]; exact TT_u h3) cAll
  clear hex
  have leaf : ∀ {Y : List Blk} {q2 : Nat} {X2 : List Blk}, OutX L (k + 1) q2 X2 → WkT Y (Blk.dead :: .dead :: .mem ((ruL l).map .mp) :: .dead :: (TT l ++ X2)).length (.hsl (6 * n + 4 + q2) 0 1 (k + 1)) (.hsl (6 * n + 4 + q2) 0 1 (k + 1)) ∧ WkT Y (Blk.dead :: .dead :: .mem ((ruL l).map .mp) :: .dead :: (TT l ++ X2)).length (.hsl 2 0 1 n) (.hsl 2 0 1 n) := by
   intro Y q2 X2 h
   have := (List.getElem?_eq_some_iff.1 (h.out (by omega))).1
   refine ⟨Jthu ?_, Jthu ?_⟩ <;> simp only [AV.ren, List.length_cons, List.length_append, hTl] <;> rw [if_pos (by omega)]
  cases k with
  | zero =>
   simp only [outI]
   (simp (maxSteps := 1000000) [h2, hr])
   simp only [← hB6]
   refine Jt11 (C := fun x : Nat × List Int => [.dead, .glob x.1 (mpK x.2)]) (X := fun x : Nat × List Int => .mp x.1) cAll ?_ hex2 (fun _ _ => rfl) (fun x k hk => ?_) fun x hx => ?_
   ·simp only [renL, AV.ren, List.length_cons]
    rw [Jtac _ 0 2 (by omega) (by omega)]
   ·simp only [List.mem_cons, List.not_mem_nil, or_false] at hk
    rcases hk with rfl | rfl
    ·exact .dead
    ·exact .glob _ _
   (simp (maxSteps := 1000000) [])
   have cZ : ∀ b ∈ [B6, Blk.dead, .glob x.1 (mpK x.2)], ClB b := fun b hb => by
    simp only [List.mem_cons, List.not_mem_nil, or_false] at hb
    rcases hb with rfl | rfl | rfl
    ·exact c6
    ·exact .dead
    ·exact .glob _ _
   have hp : picks (Blk.dead :: .dead :: .mem ((ruL l).map .mp) :: .dead :: (TT l ++ (X ++ [B6, .dead, .glob x.1 (mpK x.2)]))) [6 * n + 4 + (X.length + 2)] = some [.glob x.1 (mpK x.2)] := by
    simp only [picks]
    rw [gX hTl, gN2]
   refine Jt13 [6 * n + 4 + (X.length + 2)] (hso x hx) (by simp) (by rfl) hp (by rfl) (by rfl) (by rfl) (by rfl) ?_
   rw [Jthr _ _ _ hp]
   (simp (maxSteps := 1000000) [])
   have hXZ : OutX L 0 qx (X ++ [B6, .dead, .glob x.1 (mpK x.2)]) := ⟨fun h => absurd h (by simp), fun b hb => (List.mem_append.1 hb).elim (hX.cl b) (cZ b)⟩
   obtain ⟨W, hW⟩ : ∃ W, W = X ++ [B6, .dead, .glob x.1 (mpK x.2)] := ⟨_, rfl⟩
   rw [← hW] at hXZ ⊢
   refine Jt1d (ys := [[D0]]) (.inr (by rfl)) (by rfl) (by simp) (by decide) (by simp) (by simp) (by simp) ?_
   have h3 := hXZ.s2 (Z := []) (by simp) (rows := [[D0]]) (by simpa using eT)
   simp only [List.append_nil] at h3
   have hw1 : IntKind.i64.wrap 1 = 1 := by rw [wrap_i64 (by decide) (by decide)]
   have eI : 6 * n + W.length + 1 + 1 + 1 + 1 = 6 * n + 4 + W.length := by omega
   (simp (maxSteps := 1000000) [hTl, hw1])
   simp only [eI]
   refine hN _ (0 + 1, W.length, W ++ [.mem (Jtf8 [[D0]])]) ⟨h2, h3⟩ ?_ (by simp only; omega)
   simp only [outI]
   refine Wk.of ?_ ?_ (by simp) <;> repeat' (first | exact (ClB.mps _).wk | exact Jt54 TT_cl h3.cl | (first | exact True.intro | exact ⟨_, rfl, Jthu rfl⟩ | exact ⟨_, rfl, Jths rfl⟩ | exact ⟨_, rfl, .inl .nild⟩ | exact ⟨_, rfl, .inl .nile⟩ | exact ⟨_, rfl, Jtht⟩ | exact Jthu rfl | exact Jths rfl | exact .inl .nild | exact .inl .nile | exact Jtht | exact WkB.same rfl | exact Jt50 | exact Jt4z | exact .dead _ | exact .iter _ _ | exact .glob _ _ | refine Jt4y ?_ ?_ | refine And.intro ?_ ?_) | exact ⟨_, rfl, (leaf h3).1⟩ | exact ⟨_, rfl, (leaf h3).2⟩)
  | succ k =>
   have hw2 : IntKind.i64.wrap ((k : Int) + 1 + 1) = (k : Int) + 1 + 1 := wrap_i64 (by omega) (by omega)
   have h2j : (k : Int) + 1 < (n : Int) := by omega
   have h2z : (0 : Int) ≤ (k : Int) + 1 := by omega
   simp only [outI]
   (simp (maxSteps := 1000000) [h2, h2i, h2j, h2z, hr])
   simp only [← hB6]
   refine Jt11 (C := fun x : Nat × List Int => [.dead, .glob x.1 (mpK x.2)]) (X := fun x : Nat × List Int => .mp x.1) cAll ?_ hex2 (fun _ _ => rfl) (fun x k hk => ?_) fun x hx => ?_
   ·simp only [renL, AV.ren, List.length_cons]
    rw [Jtac _ 0 2 (by omega) (by omega)]
   ·simp only [List.mem_cons, List.not_mem_nil, or_false] at hk
    rcases hk with rfl | rfl
    ·exact .dead
    ·exact .glob _ _
   (simp (maxSteps := 1000000) [])
   have cZ : ∀ b ∈ [B6, Blk.dead, .glob x.1 (mpK x.2)], ClB b := fun b hb => by
    simp only [List.mem_cons, List.not_mem_nil, or_false] at hb
    rcases hb with rfl | rfl | rfl
    ·exact c6
    ·exact .dead
    ·exact .glob _ _
   have hp : picks (Blk.dead :: .dead :: .mem ((ruL l).map .mp) :: .dead :: (TT l ++ (X ++ [B6, .dead, .glob x.1 (mpK x.2)]))) [6 * n + 4 + (X.length + 2)] = some [.glob x.1 (mpK x.2)] := by
    simp only [picks]
    rw [gX hTl, gN2]
   refine Jt13 [6 * n + 4 + (X.length + 2)] (hso x hx) (by simp) (by rfl) hp (by rfl) (by rfl) (by rfl) (by rfl) ?_
   rw [Jthr _ _ _ hp]
   (simp (maxSteps := 1000000) [])
   have hXZ : OutX L (k + 1) qx (X ++ [B6, .dead, .glob x.1 (mpK x.2)]) := ⟨fun h => by rw [List.getElem?_append_left (List.getElem?_eq_some_iff.1 (hX.out h)).1]; exact hX.out h, fun b hb => (List.mem_append.1 hb).elim (hX.cl b) (cZ b)⟩
   obtain ⟨W, hW⟩ : ∃ W, W = X ++ [B6, .dead, .glob x.1 (mpK x.2)] := ⟨_, rfl⟩
   rw [← hW] at hXZ ⊢
   refine Jt1e (b := 6 * n + 4 + qx) (rows := L.take (k + 1)) (ys := [[D0]]) (by rfl) ((gX hTl).trans (hXZ.out (by omega))) (by rw [List.length_take]; omega) ?_ (by omega) (by rfl) (by simp) (by decide) (by simp) (by simp; omega) (by simp; omega) ?_ ?_
   ·intro r hr
    have := List.mem_of_mem_take hr
    rw [hL] at this
    obtain ⟨x, _, rfl⟩ := List.mem_map.1 this; rfl
   ·have h3 := hXZ.s1 eT
    simp only [sX hTl]
    obtain ⟨Y, hY⟩ : ∃ Y, Y = W.set qx (.mem (Jtf8 (L.take (k + 1) ++ [[D0]]))) := ⟨_, rfl⟩
    rw [← hY] at h3 ⊢
    (simp (maxSteps := 1000000) [hw2])
    refine hN _ (k + 1 + 1, qx, Y) ⟨h2, h3⟩ ?_ (by simp only; omega)
    simp only [outI]
    refine Wk.of ?_ ?_ (by simp) <;> repeat' (first | exact (ClB.mps _).wk | exact Jt54 TT_cl h3.cl | (first | exact True.intro | exact ⟨_, rfl, Jthu rfl⟩ | exact ⟨_, rfl, Jths rfl⟩ | exact ⟨_, rfl, .inl .nild⟩ | exact ⟨_, rfl, .inl .nile⟩ | exact ⟨_, rfl, Jtht⟩ | exact Jthu rfl | exact Jths rfl | exact .inl .nild | exact .inl .nile | exact Jtht | exact WkB.same rfl | exact Jt50 | exact Jt4z | exact .dead _ | exact .iter _ _ | exact .glob _ _ | refine Jt4y ?_ ?_ | refine And.intro ?_ ?_) | exact ⟨_, rfl, (leaf h3).1⟩ | exact ⟨_, rfl, (leaf h3).2⟩)
   ·have h3 := hXZ.s2 (Z := []) (by simp) eT
    simp only [List.append_nil] at h3
    obtain ⟨Y, hY⟩ : ∃ Y, Y = W ++ [.mem (Jtf8 (L.take (k + 1) ++ [[D0]]))] := ⟨_, rfl⟩
    rw [← hY] at h3
    simp only [List.cons_append, List.append_assoc, ← hY, List.length_cons, List.length_append, hTl]
    have eI : 6 * n + W.length + 1 + 1 + 1 + 1 = 6 * n + 4 + W.length := by omega
    (simp (maxSteps := 1000000) [hw2])
    simp only [eI]
    refine hN _ (k + 1 + 1, W.length, Y) ⟨h2, h3⟩ ?_ (by simp only; omega)
    simp only [outI]
    refine Wk.of ?_ ?_ (by simp) <;> repeat' (first | exact (ClB.mps _).wk | exact Jt54 TT_cl h3.cl | (first | exact True.intro | exact ⟨_, rfl, Jthu rfl⟩ | exact ⟨_, rfl, Jths rfl⟩ | exact ⟨_, rfl, .inl .nild⟩ | exact ⟨_, rfl, .inl .nile⟩ | exact ⟨_, rfl, Jtht⟩ | exact Jthu rfl | exact Jths rfl | exact .inl .nild | exact .inl .nile | exact Jtht | exact WkB.same rfl | exact Jt50 | exact Jt4z | exact .dead _ | exact .iter _ _ | exact .glob _ _ | refine Jt4y ?_ ?_ | refine And.intro ?_ ?_) | exact ⟨_, rfl, (leaf h3).1⟩ | exact ⟨_, rfl, (leaf h3).2⟩)
 ·have ek : k = n := by omega
  subst ek
  cases k with
  | zero =>
   have : L = [] := List.eq_nil_of_length_eq_zero lL
   subst this
   simp only [outI]
   (simp (maxSteps := 1000000) [h2])
   exact hR _ _ (Jt4p _ (.d (.sl [])) rfl (by (exact wkvA)) rfl)
  | succ k =>
   simp only [outI]
   have eT : L.take (k + 1) = L := List.take_of_length_le (by omega)
   have ho := hX.out (by omega)
   rw [eT] at ho
   (simp (maxSteps := 1000000) [h2])
   refine hR _ _ (Jt4o (.hsl (6 * (k + 1) + 4 + qx) 0 1 (k + 1)) (.d (.sl L)) [] (by rfl) ?_ rfl)
   refine Wk.of ⟨⟨_, rfl, Jt5a ((gX hTl).trans ho) (Nat.zero_le _) lL ?_⟩, trivial⟩ trivial (by simp)
   intro r hr
   rw [hL] at hr
   obtain ⟨x, _, rfl⟩ := List.mem_map.1 hr; rfl
end
end Go.AE
set_option maxRecDepth 8000
namespace Go.AE
open Go
section
end
end Go.AE
set_option maxRecDepth 8000
namespace Go.AE
open Go
theorem Jthi {i : Instr} {v regs : Int} (h : Jtep i regs = 0) (hu : useI i v = true) : 0 ≤ v ∧ v < regs := by
 unfold Jtep at h
 split at h
 ·cases h
 split at h
 ·cases h
 rename_i h9
 simp only [bad9, Bool.or_eq_true, Bool.and_eq_true, not_or, not_and, Bool.not_eq_true', Bool.not_eq_false, inZ, decide_eq_true_eq] at h9
 simp only [useI, Bool.or_eq_true, Bool.and_eq_true, beq_iff_eq] at hu
 rcases hu with ⟨h1, h2⟩ | ⟨h1, h2⟩
 ·have := h9.1.2 h1; omega
 ·have := h9.2 h1; omega
theorem Jthn {b : Block} {v regs blocks : Int} (h1 : ∀ i ∈ b.code, Jtep i regs = 0) (h2 : Jteq b.term regs blocks = 0) (hu : usedZ b v = true) : 0 ≤ v ∧ v < regs := by
 unfold usedZ at hu
 rw [Bool.or_eq_true] at hu
 rcases hu with hu | hu
 ·unfold usedC at hu
  rw [List.any_eq_true] at hu
  obtain ⟨j, hj, hu⟩ := hu
  cases hc : b.code[j]? with
  | none => rw [hc] at hu; simp at hu
  | some i =>
   rw [hc] at hu
   simp only [Bool.and_eq_true] at hu
   exact Jthi (h1 i (List.mem_of_getElem? hc)) hu.1
 ·simp only [Bool.and_eq_true, bne_iff_ne, ne_eq, beq_iff_eq] at hu
  obtain ⟨⟨hk, ha⟩, _⟩ := hu
  unfold Jteq at h2
  rw [if_neg hk] at h2
  split at h2
  ·split at h2
   ·cases h2
   ·rename_i h3; simp only [inZ, Bool.not_eq_false, Bool.and_eq_true, decide_eq_true_eq] at h3; omega
  ·split at h2
   ·split at h2
    ·cases h2
    ·rename_i h3; simp only [inZ, Bool.not_eq_false, Bool.and_eq_true, decide_eq_true_eq] at h3; omega
   ·cases h2
theorem Jtgv {t : Term} {regs blocks x : Int} (h : Jteq t regs blocks = 0) (hx : x ∈ succsZ t) : 0 ≤ x ∧ x < blocks := by
 unfold Jteq at h
 unfold succsZ at hx
 split at hx
 ·rename_i h1
  rw [if_pos h1] at h
  split at h
  ·cases h
  ·rename_i h3
   simp only [inZ, Bool.not_eq_false, Bool.and_eq_true, decide_eq_true_eq] at h3
   simp at hx; omega
 ·rename_i h1
  rw [if_neg h1] at h
  split at hx
  ·rename_i h2
   rw [if_pos h2] at h
   split at h
   ·cases h
   ·split at h
    ·cases h
    ·rename_i h3
     simp only [inZ, Bool.not_eq_false, Bool.and_eq_true, decide_eq_true_eq, not_or] at h3
     simp at hx; omega
  ·simp at hx
theorem okV_of {f : Func} (hf : few f = true) (hc : Jteo f = 0) : OkV f := by
 obtain ⟨f1, f2, f3, f4⟩ := Jt7x.1 hf
 obtain ⟨s1, s2, s3, s4⟩ := src_ok hc
 refine ⟨⟨fun b hb t ht => Jtgv (s4 b hb).2 ht, by omega, fun b hb => by have := f3 b hb; omega⟩, fun v j hl => ?_⟩
 exact LiveAt.closed (S := fun _ => 0 ≤ v ∧ v < f.regs) (fun i b hb hu => Jthn (s4 b (List.mem_of_getElem? hb)).1 (s4 b (List.mem_of_getElem? hb)).2 hu) (fun i b t hb ht h _ => h) hl
def lvB : Block := ⟨[⟨5, 1, 1, 0, 0⟩], ⟨3, 1, 0, 0⟩⟩
def lvF : Func := ⟨0, 3, [⟨[⟨1, 0, 0, 0, 0⟩], ⟨1, 0, 1, 0⟩⟩, lvB]⟩
def lvS (v : Int) (i : Nat) : Bool := (v == 1 && (i == 0 || i == 1)) || (v == 0 && i == 1)
theorem Jtc7 {v : Int} (hv : v = 0 ∨ v = 1 ∨ v = 2) {i : Nat} (h : LiveAt lvF v i) : lvS v i = true := by
  refine LiveAt.closed (S := fun i => lvS v i = true) (fun i b hb hu => ?_) (fun i b t hb ht hs hd => ?_) h
  · match i, hb with
    | 0, hb => cases hb; rcases hv with rfl | rfl | rfl <;> revert hu <;> decide
    | 1, hb => cases hb; rcases hv with rfl | rfl | rfl <;> revert hu <;> decide
  · match i, hb with
    | 0, hb => cases hb; have : t = 1 := by simpa [succsZ] using ht
               subst this; rcases hv with rfl | rfl | rfl <;> revert hd hs <;> decide
    | 1, hb => cases hb; simp [succsZ, lvB] at ht
theorem lvF_01 : LiveAt lvF 0 1 := .use 1 lvB rfl (by decide)
theorem lvF_11 : LiveAt lvF 1 1 := .use 1 lvB rfl (by decide)
theorem lvF_10 : LiveAt lvF 1 0 := .next 0 ⟨[⟨1, 0, 0, 0, 0⟩], ⟨1, 0, 1, 0⟩⟩ 1 rfl (by decide) lvF_11 (by decide)
theorem lvF_in : liveIn lvF = [[1], [0, 1]] := by
 have h00 : ¬ LiveAt lvF 0 0 := fun h => absurd (Jtc7 (by simp) h) (by decide)
 have h20 : ¬ LiveAt lvF 2 0 := fun h => absurd (Jtc7 (by simp) h) (by decide)
 have h21 : ¬ LiveAt lvF 2 1 := fun h => absurd (Jtc7 (by simp) h) (by decide)
 have hn : lvF.blocks.length = 2 := rfl
 have hr : lvF.regs.toNat = 3 := rfl
 simp [liveIn, liveS, hn, hr, List.range_succ, List.filter_cons, h00, h20, h21, lvF_01, lvF_11, lvF_10]
theorem Jtc8 : Jtbh lvF = [[0, 1], []] := by
 have h21 : ¬ LiveAt lvF 2 1 := fun h => absurd (Jtc7 (by simp) h) (by decide)
 have hn : lvF.blocks = [⟨[⟨1, 0, 0, 0, 0⟩], ⟨1, 0, 1, 0⟩⟩, lvB] := rfl
 have s0 : succsZ ⟨1, 0, 1, 0⟩ = [1] := rfl
 have s1 : succsZ lvB.term = [] := rfl
 have hr : lvF.regs.toNat = 3 := rfl
 simp [Jtbh, liveO, hn, hr, s0, s1, List.range_succ, List.filter_cons, h21, lvF_01, lvF_11]
theorem Jtc6 : sortI (scanZ lvB).1 = [0, 1] := Jtc4 (by decide) (by decide) (by
 have : (scanZ lvB).1 = [1, 0] := by decide
 intro v; rw [this]; simp; omega)
theorem Jtc5 : sortI (scanZ lvB).2 = [1] := Jtc4 (by decide) (by decide) (by
 have : (scanZ lvB).2 = [1] := by decide
 intro v; rw [this])
section
theorem Jtau {P : Program} {p : Nums} (A : All P p) (SI : SortIOk P p) : Jt4k P p.law23_awake [] [] fun o _ => o = .ret (AB true) := by
 have okf : OkV lvF := okV_of (by decide) (by decide +kernel)
 have h1 := Jtbq A SI lvB (by decide)
 have h2 := Jtbn A SI lvB (by decide)
 have h3 := Jtbo A SI lvF okf (by decide)
 have h4 := Jtbp A SI lvF okf (by decide)
 rw [Jtc6] at h1
 rw [Jtc5] at h2
 rw [lvF_in] at h3
 rw [Jtc8] at h4
 have n1 := Jteh A [0, 1] [0, 1] (by decide) (by decide)
 have n2 := Jteh A [1] [1] (by decide) (by decide)
 have s1 := Jtem A [[1], [0, 1]] [[1], [0, 1]] (by decide) (by decide) (by decide) (by decide)
 have s2 := Jtem A [[0, 1], []] [[0, 1], []] (by decide) (by decide) (by decide) (by decide)
 simp only [lvB, lvF, Block.av, Func.av, Block.row, Instr.row, List.map_cons, List.map_nil] at h1 h2 h3 h4
 simp only [listsD, intsD, intRow, List.map_cons, List.map_nil, decide_true] at h1 h2 h3 h4 n1 n2 s1 s2
 refine A.law23_awake.run rfl fun R hR => ?_
 (simp (maxSteps := 1000000) [Jt9l])
 (refine Jt12 h1 (by rfl) (by rfl) ?_)
 (simp (maxSteps := 1000000) [])
 (refine Jt12 n1 (by rfl) (by rfl) ?_)
 (simp (maxSteps := 1000000) [])
 (refine Jt12 h2 (by rfl) (by rfl) ?_)
 (simp (maxSteps := 1000000) [])
 (refine Jt12 n2 (by rfl) (by rfl) ?_)
 (simp (maxSteps := 1000000) [])
 (refine Jt12 h3 (by rfl) (by rfl) ?_)
 (simp (maxSteps := 1000000) [])
 (refine Jt12 s1 (by rfl) (by rfl) ?_)
 (simp (maxSteps := 1000000) [])
 (refine Jt12 h4 (by rfl) (by rfl) ?_)
 (simp (maxSteps := 1000000) [])
 (refine Jt12 s2 (by rfl) (by rfl) ?_)
 (simp (maxSteps := 1000000) [])
 (first | exact hR _ _ FrA | exact hR _ _ FnA)
end
end Go.AE
set_option linter.unusedSectionVars false
set_option maxRecDepth 8000
namespace Go.AE
open Go
theorem Jtbe (f : Func) : (liveIn f).length = f.blocks.length := by simp [liveIn]
theorem Jtbj (f : Func) : (Jtbh f).length = f.blocks.length := by simp [Jtbh]
theorem Jtbd (f : Func) {i : Nat} (h : i < f.blocks.length) : (liveIn f)[i]? = some (liveS f i) := by simp [liveIn, h]
theorem Jtbi (f : Func) {i : Nat} {b : Block} (h : f.blocks[i]? = some b) : (Jtbh f)[i]? = some (liveO f b) := by simp [Jtbh, h]
theorem Jtgw (t : Term) : (succsZ t).length ≤ 2 := by unfold succsZ; split <;> (try split) <;> simp
section
theorem hasS {P : Program} {p : Nums} (A : All P p) (SI : SortIOk P p) (f : Func) (hr : f.regs ≤ 10000) (j : Nat) (v : Int) : Jt4k P p.ref23_Has [.d (intsD (liveS f j)), AI v] [] fun o _ => o = .ret (AB (decide (v ∈ liveS f j))) :=
 Jtel A _ v (by have := Jtbk f j; omega)
theorem hasO {P : Program} {p : Nums} (A : All P p) (SI : SortIOk P p) (f : Func) (hr : f.regs ≤ 10000) (b : Block) (v : Int) : Jt4k P p.ref23_Has [.d (intsD (liveO f b)), AI v] [] fun o _ => o = .ret (AB (decide (v ∈ liveO f b))) :=
 Jtel A _ v (by have := Jtbf f b; omega)
end
end Go.AE
set_option linter.unusedSectionVars false
set_option maxRecDepth 8000
namespace Go.AE
open Go
noncomputable def anyL (f : Func) (v : Int) (ss : List Int) (j : Nat) : Bool := (ss.take j).any fun t => @decide (v ∈ liveS f t.toNat) inferInstance
theorem Jt5p {f : Func} {v : Int} {ss : List Int} {j : Nat} {t : Int} (h : ss[j]? = some t) : anyL f v ss (j + 1) = (anyL f v ss j || decide (v ∈ liveS f t.toNat)) := by
 simp [anyL, List.take_add_one, h]
theorem Jt5o {f : Func} (ok : OkV f) {v : Int} {b : Block} : anyL f v (succsZ b.term) (succsZ b.term).length = decide (v ∈ liveO f b) := by
 rw [Bool.eq_iff_iff, decide_eq_true_eq, Jtcj ok, anyL, List.take_length, List.any_eq_true]
 simp only [decide_eq_true_eq, Jtck ok]
theorem Jtbm {f : Func} (ok : OkV f) {v : Int} {i : Nat} {b : Block} (hb : f.blocks[i]? = some b) : decide (v ∈ liveS f i) = (usedZ b v || (decide (v ∈ liveO f b) && !defAt b v b.code.length)) := by
 rw [Bool.eq_iff_iff, decide_eq_true_eq, Jtck ok, Bool.or_eq_true, Bool.and_eq_true, decide_eq_true_eq, Jtcj ok, Bool.not_eq_true']
 constructor
 ·intro h
  cases h with
  | use _ b' h hu => rw [hb] at h; cases h; exact .inl hu
  | next _ b' t h ht hl hd => rw [hb] at h; cases h; exact .inr ⟨⟨t, ht, hl⟩, hd⟩
 ·rintro (h | ⟨⟨t, ht, hl⟩, hd⟩)
  ·exact .use i b hb h
  ·exact .next i b t hb ht hl hd
section
set_option maxHeartbeats 2000000 in
theorem Jtat {P : Program} {p : Nums} (A : All P p) (SI : SortIOk P p) (f : Func) : Jt4k P p.law23_LivenessEquations [f.av] [] fun o _ => o = .ret (AB true) := by
 have cw := Jtau A SI
 have cf := Jtef A f
 have cc : few f = true → Jt4k P p.ref07_Check [f.av] [] fun o _ => o = .ret (AI (Jteo f)) := fun h => by
  obtain ⟨f1, f2, f3, f4⟩ := Jt7x.1 h
  exact Jted A f (by omega) (by omega)
 have okv := @okV_of f
 have ci := fun h1 h2 => Jtbo A SI f (okv h1 h2) (by have := (Jt7x.1 h1).2.1; omega)
 have co := fun h1 h2 => Jtbp A SI f (okv h1 h2) (by have := (Jt7x.1 h1).2.1; omega)
 have hh := fun (h1 : few f = true) => hasS A SI f (by have := (Jt7x.1 h1).2.1; omega)
 have ho := fun (h1 : few f = true) => hasO A SI f (by have := (Jt7x.1 h1).2.1; omega)
 have cu := fun (h1 : few f = true) (b : Block) (hb : b ∈ f.blocks) => Jtbq A SI b (by have := (Jt7x.1 h1).2.2.1 b hb; omega)
 have cd := fun (h1 : few f = true) (b : Block) (hb : b ∈ f.blocks) => Jtbn A SI b (by have := (Jt7x.1 h1).2.2.1 b hb; omega)
 have hcl := fun (h : few f = true) => (Jt7x.1 h).2.2.1
 have hreg := fun (h : few f = true) => (Jt7x.1 h).2.1
 have hlen := fun (h : few f = true) => (Jt7x.1 h).1
 have hreg0 := fun (h : Jteo f = 0) => src_ok h
 obtain ⟨fw, hfw⟩ : ∃ x, x = few f := ⟨_, rfl⟩
 obtain ⟨fc, hfc⟩ : ∃ x, x = Jteo f := ⟨_, rfl⟩
 rw [← hfw] at cf cc okv ci co hh ho cu cd hreg hlen hcl
 rw [← hfc] at cc okv ci co hreg0
 obtain ⟨fR, hfR⟩ : ∃ x, x = f.blocks.map Block.row := ⟨_, rfl⟩
 obtain ⟨iR, hiR⟩ : ∃ x, x = (liveIn f).map fun x => [intsD x] := ⟨_, rfl⟩
 obtain ⟨oR, hoR⟩ : ∃ x, x = (Jtbh f).map fun x => [intsD x] := ⟨_, rfl⟩
 obtain ⟨n, hn⟩ : ∃ n, n = f.blocks.length := ⟨_, rfl⟩
 have lR : fR.length = n := by rw [hfR, hn]; simp
 have lI : iR.length = n := by rw [hiR, hn]; simp [Jtbe]
 have lO : oR.length = n := by rw [hoR, hn]; simp [Jtbj]
 have gR : ∀ (j : Nat) (b : Block), f.blocks[j]? = some b → fR[j]? = some b.row := fun j b h => by rw [hfR, List.getElem?_map, h]; rfl
 have gI : ∀ (j : Nat), j < n → iR[j]? = some [intsD (liveS f j)] := fun j h => by rw [hiR, List.getElem?_map, Jtbd f (by omega)]; rfl
 have gO : ∀ (j : Nat) (b : Block), f.blocks[j]? = some b → oR[j]? = some [intsD (liveO f b)] := fun j b h => by rw [hoR, List.getElem?_map, Jtbi f h]; rfl
 have av : f.av = .agg [AI f.args, AI f.regs, .d (.sl fR)] := by rw [hfR]; rfl
 rw [av] at cf cc ci co
 rw [av]
 simp only [listsD, ← hiR] at ci
 simp only [listsD, ← hoR] at co
 rw [← hn] at hlen hreg0
 refine A.law23_LivenessEquations.run rfl fun R hR => ?_
 (simp (maxSteps := 1000000) [Jt9k])
 (refine Jt12 cw (by rfl) (by rfl) ?_)
 (simp (maxSteps := 1000000) [])
 (refine Jt12 cf (by rfl) (by rfl) ?_)
 (simp (maxSteps := 1000000) [])
 ((first | refine Xc (fun h1 => ?_) (fun h1 => ?_) | refine Xo (fun h1 => ?_) (fun h1 => ?_)) <;> (try simp only [Xz, Xy] at h1))
 ·(simp (maxSteps := 1000000) [h1])
  (refine Jt12 cw (by rfl) (by rfl) ?_)
  (simp (maxSteps := 1000000) [])
  (first | exact hR _ _ FrA | exact hR _ _ FnA)
 have hft : fw = true := by simpa using h1
 (simp (maxSteps := 1000000) [h1])
 (refine Jt12 (cc hft) (by rfl) (by rfl) ?_)
 (simp (maxSteps := 1000000) [])
 ((first | refine Xc (fun h3 => ?_) (fun h3 => ?_) | refine Xo (fun h3 => ?_) (fun h3 => ?_)) <;> (try simp only [Xz, Xy] at h3))
 ·(simp (maxSteps := 1000000) [h3])
  (refine Jt12 cw (by rfl) (by rfl) ?_)
  (simp (maxSteps := 1000000) [])
  (first | exact hR _ _ FrA | exact hR _ _ FnA)
 have hfz : fc = 0 := by simpa using h3
 (simp (maxSteps := 1000000) [h3])
 have hr0 := hreg hft
 obtain ⟨s1, s2, s3, s4⟩ := hreg0 hfz
 have hl0 := hlen hft
 (refine Jt12 (ci hft hfz) (by rfl) (by rfl) ?_)
 (simp (maxSteps := 1000000) [])
 (refine Jt12 (co hft hfz) (by rfl) (by rfl) ?_)
 (simp (maxSteps := 1000000) [lI, lO, lR])
 have ok := okv hft hfz
 have hsu := ok.l.succ
 rw [← hn] at hsu
 obtain ⟨rn, hrn⟩ : ∃ m : Nat, f.regs = (m : Int) := ⟨f.regs.toNat, by omega⟩
 refine Jtd (fun k : Nat => ⟨[(5, AI k), (4, .d (.sl oR)), (3, .d (.sl iR)), (1, .ptr 0 0), (2, AB false)], [.mem [AI f.args, AI f.regs, .d (.sl fR)]]⟩) (fun k => k ≤ n) (fun k => n - k) 0 (Nat.zero_le _) (by (exact wkA)) ?_
 intro k hk N hN
 (simp (maxSteps := 1000000) [lR])
 by_cases h5 : k < n
 ·have hb : f.blocks[k]? = some f.blocks[k] := by simp [← hn, h5]
  obtain ⟨b, hbe⟩ : ∃ b, b = f.blocks[k] := ⟨_, rfl⟩
  rw [← hbe] at hb
  have hbm : b ∈ f.blocks := List.mem_of_getElem? hb
  have hrow := gR k b hb
  have hio := gO k b hb
  have hii := gI k h5
  have hw := Jti0 (k := k) (by omega)
  have cu := cu hft b hbm
  have cd := cd hft b hbm
  have hcl := hcl hft b hbm
  have cs := Jtei A b.term
  have hsu := hsu b hbm
  obtain ⟨z1, z2, z3, z4, z5, z6⟩ := Jtfr b
  obtain ⟨us, hus⟩ : ∃ x, x = sortI (scanZ b).1 := ⟨_, rfl⟩
  obtain ⟨ds, hds⟩ : ∃ x, x = sortI (scanZ b).2 := ⟨_, rfl⟩
  have mu : ∀ v, decide (v ∈ us) = usedZ b v := fun v => by rw [Bool.eq_iff_iff, decide_eq_true_eq, hus, Jtg2, z2]
  have md : ∀ v, decide (v ∈ ds) = defAt b v b.code.length := fun v => by rw [Bool.eq_iff_iff, decide_eq_true_eq, hds, Jtg2, z1]
  have lu : us.length < 1000000000 := by rw [hus, Jtg1]; omega
  have ld : ds.length < 1000000000 := by rw [hds, Jtg1]; omega
  rw [← hus] at cu
  rw [← hds] at cd
  have hU := fun v => Jtel A us v lu
  have hD := fun v => Jtel A ds v ld
  simp only [mu] at hU
  simp only [md] at hD
  have hO := ho hft b
  have hS := hh hft
  have E1 := fun v => @Jt5o f ok v b
  have E2 := fun v => @Jtbm f ok v k b hb
  obtain ⟨sR, hsR⟩ : ∃ x, x = (succsZ b.term).map fun x => [I x] := ⟨_, rfl⟩
  obtain ⟨ss, hss⟩ : ∃ x, x = succsZ b.term := ⟨_, rfl⟩
  have hsl : ss.length ≤ 2 := by rw [hss]; exact Jtgw _
  have lS : sR.length = ss.length := by rw [hsR, hss]; simp
  rw [← hsR] at cs
  rw [← hss] at hsR hsu E1
  have gS : ∀ (j : Nat) t, ss[j]? = some t → sR[j]? = some [I t] := fun j t h => by rw [hsR, List.getElem?_map, h]; rfl
  obtain ⟨iO, hiO⟩ : ∃ x, x = liveO f b := ⟨_, rfl⟩
  obtain ⟨u, hu⟩ : ∃ u, u = usedZ b := ⟨_, rfl⟩
  obtain ⟨d, hd⟩ : ∃ u : Int → Bool, u = fun v => defAt b v b.code.length := ⟨_, rfl⟩
  have hd' : ∀ v, defAt b v b.code.length = d v := fun v => by rw [hd]
  simp only [← hiO] at hO E1 E2 hio
  simp only [← hu] at hU E2
  simp only [hd'] at hD E2
  obtain ⟨code, kind, ta, to, els⟩ := b
  simp only [Block.av, Block.row, Term.av] at cu cd cs hrow
  (simp (maxSteps := 1000000) [h5, hrow])
  (refine Jt12 cu (by rfl) (by rfl) ?_)
  (simp (maxSteps := 1000000) [h5, hrow])
  (refine Jt12 cd (by rfl) (by rfl) ?_)
  (simp (maxSteps := 1000000) [h5, hrow])
  (refine Jt12 cs (by rfl) (by rfl) ?_)
  (simp (maxSteps := 1000000) [])
  refine Jtd (fun w : Nat => ⟨[(9, AI w), (8, .d (.sl sR)), (7, .d (intsD ds)), (6, .d (intsD us)), (5, AI k), (4, .d (.sl oR)), (3, .d (.sl iR)), (1, .ptr 0 0), (2, AB false)], [.mem [AI f.args, AI f.regs, .d (.sl fR)]]⟩) (fun w => w ≤ rn) (fun w => rn - w) 0 (Nat.zero_le _) (by (exact wkA)) ?_
  intro w hw1 M hM
  (simp (maxSteps := 1000000) [])
  by_cases h6i : (w : Int) < f.regs
  ·have h6 : w < rn := by omega
   have hw2 := Jti0 (k := w) (by omega)
   (simp (maxSteps := 1000000) [h6i])
   refine Jtd (fun z : Nat × Bool => ⟨[(11, AI z.1), (10, AB z.2), (9, AI w), (8, .d (.sl sR)), (7, .d (intsD ds)), (6, .d (intsD us)), (5, AI k), (4, .d (.sl oR)), (3, .d (.sl iR)), (1, .ptr 0 0), (2, AB false)], [.mem [AI f.args, AI f.regs, .d (.sl fR)]]⟩) (fun z => z.1 ≤ ss.length ∧ z.2 = anyL f w ss z.1) (fun z => ss.length - z.1) (0, false) ⟨Nat.zero_le _, rfl⟩ (by (exact wkA)) ?_
   rintro ⟨j, g⟩ ⟨hj, hg⟩ L hL
   simp only at hj hg hL
   (simp (maxSteps := 1000000) [lS])
   by_cases h7 : j < ss.length
   ·obtain ⟨t, ht⟩ : ∃ t, t = ss[j] := ⟨_, rfl⟩
    have hst : ss[j]? = some t := by rw [ht]; simp [h7]
    have htm : t ∈ ss := List.mem_of_getElem? hst
    obtain ⟨t0, t1⟩ := hsu t htm
    have hg2 := Jt5p (f := f) (v := w) hst
    rw [← hg] at hg2
    obtain ⟨tn, rfl⟩ : ∃ x : Nat, t = (x : Int) := ⟨t.toNat, by omega⟩
    rw [Int.toNat_natCast] at hg2
    have htn : tn < n := by omega
    have hgt := gS j tn hst
    have hit := gI tn htn
    have hht := hS tn w
    have hw3 := Jti0 (k := j) (by omega)
    cases g with
    | true =>
     (simp (maxSteps := 1000000) [h7, hw3])
     exact hL _ (j + 1, true) ⟨h7, by rw [hg2]; rfl⟩ (by (exact wkA)) (by simp only; omega)
    | false =>
     rw [Bool.false_or] at hg2
     obtain ⟨q, hq⟩ : ∃ q, q = decide ((w : Int) ∈ liveS f tn) := ⟨_, rfl⟩
     rw [← hq] at hht hg2
     (simp (maxSteps := 1000000) [h7, hgt, hit])
     (refine Jt12 hht (by rfl) (by rfl) ?_)
     (simp (maxSteps := 1000000) [hw3])
     exact hL _ (j + 1, q) ⟨h7, hg2.symm⟩ (by (exact wkA)) (by simp only; omega)
   ·have hje : j = ss.length := by omega
    rw [hje, E1] at hg
    obtain ⟨x, hx⟩ : ∃ x, x = decide ((w : Int) ∈ liveS f k) := ⟨_, rfl⟩
    have hSk := hS k w
    have hOk := hO w
    have E2 := E2 w
    rw [← hx] at hSk E2
    rw [← hg] at hOk E2
    (simp (maxSteps := 1000000) [h7, hio])
    (refine Jt12 hOk (by rfl) (by rfl) ?_)
    (simp (maxSteps := 1000000) [hii])
    (refine Jt12 hSk (by rfl) (by rfl) ?_)
    (simp (maxSteps := 1000000) [])
    (refine Jt12 (hU w) (by rfl) (by rfl) ?_)
    obtain ⟨uw, huw⟩ : ∃ x, x = u w := ⟨_, rfl⟩
    obtain ⟨dw, hdw⟩ : ∃ x, x = d w := ⟨_, rfl⟩
    have hDw := hD w
    rw [← hdw] at E2 hDw
    simp only [← huw] at E2 ⊢
    cases uw with
    | true =>
     rw [Bool.true_or] at E2
     subst E2
     (simp (maxSteps := 1000000) [hw2])
     exact hM _ (w + 1) h6 (by (exact wkA)) (by omega)
    | false =>
     rw [Bool.false_or] at E2
     cases g with
     | false =>
      rw [Bool.false_and] at E2
      subst E2
      (simp (maxSteps := 1000000) [hw2])
      exact hM _ (w + 1) h6 (by (exact wkA)) (by omega)
     | true =>
      rw [Bool.true_and] at E2
      (simp (maxSteps := 1000000) [])
      (refine Jt12 hDw (by rfl) (by rfl) ?_)
      subst E2
      cases dw <;> (simp (maxSteps := 1000000) [hw2]) <;> exact hM _ (w + 1) h6 (by (exact wkA)) (by omega)
  ·(simp (maxSteps := 1000000) [h6i, hw])
   exact hN _ (k + 1) h5 (by (exact wkA)) (by omega)
 ·(simp (maxSteps := 1000000) [h5])
  (first | exact hR _ _ FrA | exact hR _ _ FnA)
end
end Go.AE
