/- A part of the proof: the evaluator over abstract values, its codes, the contracts of the functions. -/
import Derived.Test.YtagckbahjfhckaaGreatF4
set_option linter.unusedVariables false
set_option linter.unusedSimpArgs false
namespace Go.AE
open Go
def ltCert : List LT := [ltI, ltI, .sl Jtdb, ltI, ltI, ltI, .sl Jtdd, .sl [.sl ltPair]]
theorem Jtdx {rows : List (List D)} (h : ∀ r ∈ rows, HasL Jtdd r) : ∃ l : List MBlock, rows = l.map MBlock.row ∧ ∀ x ∈ l, okM x := by
 induction rows with
 | nil => exact ⟨[], rfl, by simp⟩
 | cons r rows ih =>
  obtain ⟨a, rfl, ha⟩ := Jtdw (h r (by simp))
  obtain ⟨l, rfl, hb⟩ := ih fun r hr => h r (by simp [hr])
  refine ⟨a :: l, rfl, fun n hn => ?_⟩
  rcases List.mem_cons.1 hn with rfl | hn
  ·exact ha
  ·exact hb n hn
theorem Jtfm {r : List D} (h : HasL ltPair r) : ∃ q : Pair, r = q.row ∧ okZ q.l := by
 obtain ⟨_, _, rfl, h0, h⟩ := h.cons_inv
 obtain ⟨_, _, rfl, h1, h⟩ := h.cons_inv
 obtain rfl := h.nil_inv
 obtain ⟨a, rfl, _⟩ := h0.int_inv
 obtain ⟨b, rfl, o1⟩ := Jtcb h1
 exact ⟨⟨a, b⟩, rfl, o1⟩
theorem Jtfn {rows : List (List D)} (h : ∀ r ∈ rows, HasL ltPair r) : ∃ l : List Pair, rows = l.map Pair.row ∧ ∀ x ∈ l, okZ x.l := by
 induction rows with
 | nil => exact ⟨[], rfl, by simp⟩
 | cons r rows ih =>
  obtain ⟨a, rfl, ha⟩ := Jtfm (h r (by simp))
  obtain ⟨l, rfl, hb⟩ := ih fun r hr => h r (by simp [hr])
  refine ⟨a :: l, rfl, fun n hn => ?_⟩
  rcases List.mem_cons.1 hn with rfl | hn
  ·exact ha
  ·exact hb n hn
theorem Jtlo {rows : List (List D)} (h : ∀ r ∈ rows, HasL [.sl ltPair] r) : ∃ w : List (List Pair), rows = w.map (fun l => [pairsD l]) ∧ okW w := by
 induction rows with
 | nil => exact ⟨[], rfl, by intro l hl; simp at hl⟩
 | cons r rows ih =>
  obtain ⟨_, _, rfl, h0, h1⟩ := (h r (by simp)).cons_inv
  obtain rfl := h1.nil_inv
  obtain ⟨rs, rfl, _, hr⟩ := h0.sl_inv
  obtain ⟨l, rfl, hok⟩ := Jtfn hr
  obtain ⟨w, rfl, hb⟩ := ih fun r hr => h r (by simp [hr])
  refine ⟨l :: w, rfl, fun n hn => ?_⟩
  rcases List.mem_cons.1 hn with rfl | hn
  ·exact hok
  ·exact hb n hn
theorem Jt65 {ds : List D} (h : HasL ltCert ds) : ∃ c : Cert, .agg (ds.map AV.d) = c.av ∧ ((∀ b ∈ c.T.blocks, okM b) ∧ okW c.W) := by
 obtain ⟨_, _, rfl, h0, h⟩ := h.cons_inv
 obtain ⟨_, _, rfl, h1, h⟩ := h.cons_inv
 obtain ⟨_, _, rfl, h2, h⟩ := h.cons_inv
 obtain ⟨_, _, rfl, h3, h⟩ := h.cons_inv
 obtain ⟨_, _, rfl, h4, h⟩ := h.cons_inv
 obtain ⟨_, _, rfl, h5, h⟩ := h.cons_inv
 obtain ⟨_, _, rfl, h6, h⟩ := h.cons_inv
 obtain ⟨_, _, rfl, h7, h⟩ := h.cons_inv
 obtain rfl := h.nil_inv
 obtain ⟨sa, rfl, _⟩ := h0.int_inv
 obtain ⟨sr, rfl, _⟩ := h1.int_inv
 obtain ⟨rows, rfl, _, hr⟩ := h2.sl_inv
 obtain ⟨sb, rfl⟩ := Jti9 (fun r hr => Jt5a hr) hr
 obtain ⟨ta, rfl, _⟩ := h3.int_inv
 obtain ⟨tr, rfl, _⟩ := h4.int_inv
 obtain ⟨ts, rfl, _⟩ := h5.int_inv
 obtain ⟨rows, rfl, _, hr⟩ := h6.sl_inv
 obtain ⟨tb, rfl, hm⟩ := Jtdx hr
 obtain ⟨rows, rfl, _, hr⟩ := h7.sl_inv
 obtain ⟨w, rfl, hw⟩ := Jtlo hr
 exact ⟨⟨⟨sa, sr, sb⟩, ⟨ta, tr, ts, tb⟩, w⟩, rfl, hm, hw⟩
end Go.AE
set_option maxRecDepth 4000
namespace Go.AE
open Go
section
theorem Jtgq {P : Program} {p : Nums} (A : All P p) (f : Func) (h0 : f.blocks.length ≤ 1000000) (h1 : codeN f.blocks ≤ 1000000) : Jt3n P p.ref07_Copy [f.av] [] fun o _ => o = .ret f.av := by
 refine A.ref07_Copy.run rfl fun R hR => ?_
 (simp (maxSteps := 1000000) [Jtb9, Func.av])
 obtain ⟨sR, hsR⟩ : ∃ x, x = f.blocks.map Block.row := ⟨_, rfl⟩
 rw [← hsR]
 refine Jt9 (fun k : Nat => ⟨[(4, AI k), (1, .ptr 0 0), (2, .ptr 1 0), (3, .ptr 2 0)], [.mem [AI f.args, AI f.regs, .d (.sl sR)], .mem [AI 0, AI 0, .nils], .mem [AI f.args, AI f.regs, .own 5 (sR.take k)]]⟩)
  (fun k => k ≤ f.blocks.length) (fun k => f.blocks.length - k) 0 (by simp) (by (exact wkA)) ?_
 have hsl : sR.length = f.blocks.length := by rw [hsR]; simp
 intro k hk N hN
 (simp (maxSteps := 1000000) [])
 ((first | refine Xc (fun h2 => ?_) (fun h2 => ?_) | refine Xo (fun h2 => ?_) (fun h2 => ?_)) <;> (try simp only [Xz, Xy] at h2))
 ·have hkl : k < f.blocks.length := by omega
  have hb : f.blocks[k]? = some f.blocks[k] := by simp [hkl]
  have hsk : sR[k]? = some f.blocks[k].row := by rw [hsR, List.getElem?_map, hb]; rfl
  have hw := Jtlx (k := k) (by omega)
  have hcl : f.blocks[k].code.length ≤ 1000000 := by
   have h3 := Jt6m hb
   have h4 := Jt6l f.blocks (k + 1)
   omega
  have hl1 := List.length_take_le k sR
  have ess : sR.take k ++ [f.blocks[k].row] = sR.take (k + 1) := (Jtkr hsk).symm
  simp only [Block.row] at hsk ess
  have hsk' : sR[k]'h2 = [.sl (f.blocks[k].code.map Instr.row), I f.blocks[k].term.kind, I f.blocks[k].term.a, I f.blocks[k].term.to, I f.blocks[k].term.els] := (List.getElem?_eq_some_iff.1 hsk).2
  (simp (maxSteps := 1000000) [h2, hsk'])
  refine Jt14 (by rfl) (by rfl) (Jti8 fun _ => rfl) (by decide) (by simp; omega) (by simp; omega) (fun hn => ?_) fun hn => ?_
  ·have hl : f.blocks[k].code = [] := by simpa using hn
   (simp (maxSteps := 1000000) [h2, hsk'])
   (refine Jt15 (by rfl) (by rfl) (by rfl) ?_ (by decide) ?_ ?_ ?_)
   ·simp
   ·simp; omega
   ·simp; omega
   rw [hl, List.map_nil] at ess
   (simp (maxSteps := 1000000) [ess, hw])
   exact hN _ (k + 1) hkl (by (exact wkA)) (by omega)
  ·(simp (maxSteps := 1000000) [h2, hsk'])
   (refine Jt15 (by rfl) (by rfl) (by rfl) ?_ (by decide) ?_ ?_ ?_)
   ·simp
   ·simp; omega
   ·simp; omega
   (simp (maxSteps := 1000000) [ess, hw])
   exact hN _ (k + 1) hkl (by (exact wkA)) (by omega)
 ·have hk' : k = f.blocks.length := by omega
  subst hk'
  rw [List.take_of_length_le (by omega)]
  (simp (maxSteps := 1000000) [])
  (first | exact hR _ _ FrA | exact hR _ _ FnA | exact hR _ _ (Xf (hq := by simp [AV.erase, AV.unview, hsR, Func.av]; done)))
theorem Jtgu {P : Program} {p : Nums} (A : All P p) (f : MFunc) (h0 : f.blocks.length ≤ 1000000) (h1 : mcodeN f.blocks ≤ 1000000) : Jt3n P p.ref08_Copy [f.av] [] fun o _ => o = .ret f.av := by
 refine A.ref08_Copy.run rfl fun R hR => ?_
 (simp (maxSteps := 1000000) [Jtbd, MFunc.av])
 obtain ⟨sR, hsR⟩ : ∃ x, x = f.blocks.map MBlock.row := ⟨_, rfl⟩
 rw [← hsR]
 refine Jt9 (fun k : Nat => ⟨[(4, AI k), (1, .ptr 0 0), (2, .ptr 1 0), (3, .ptr 2 0)], [.mem [AI f.args, AI f.regs, AI f.slots, .d (.sl sR)], .mem [AI 0, AI 0, AI 0, .nils], .mem [AI f.args, AI f.regs, AI f.slots, .own 5 (sR.take k)]]⟩)
  (fun k => k ≤ f.blocks.length) (fun k => f.blocks.length - k) 0 (by simp) (by (exact wkA)) ?_
 have hsl : sR.length = f.blocks.length := by rw [hsR]; simp
 intro k hk N hN
 (simp (maxSteps := 1000000) [])
 ((first | refine Xc (fun h2 => ?_) (fun h2 => ?_) | refine Xo (fun h2 => ?_) (fun h2 => ?_)) <;> (try simp only [Xz, Xy] at h2))
 ·have hkl : k < f.blocks.length := by omega
  have hb : f.blocks[k]? = some f.blocks[k] := by simp [hkl]
  have hsk : sR[k]? = some f.blocks[k].row := by rw [hsR, List.getElem?_map, hb]; rfl
  have hw := Jtlx (k := k) (by omega)
  have hcl : f.blocks[k].code.length ≤ 1000000 := by
   have h3 := Jte2 hb
   have h4 := Jte1 f.blocks (k + 1)
   omega
  have hl1 := List.length_take_le k sR
  have ess : sR.take k ++ [f.blocks[k].row] = sR.take (k + 1) := (Jtkr hsk).symm
  simp only [MBlock.row] at hsk ess
  have hsk' : sR[k]'h2 = [.sl (f.blocks[k].code.map Mach.row), I f.blocks[k].term.kind, I f.blocks[k].term.a, I f.blocks[k].term.to, I f.blocks[k].term.els] := (List.getElem?_eq_some_iff.1 hsk).2
  (simp (maxSteps := 1000000) [h2, hsk'])
  refine Jt14 (by rfl) (by rfl) (Jti8 fun _ => rfl) (by decide) (by simp; omega) (by simp; omega) (fun hn => ?_) fun hn => ?_
  ·have hl : f.blocks[k].code = [] := by simpa using hn
   (simp (maxSteps := 1000000) [h2, hsk'])
   (refine Jt15 (by rfl) (by rfl) (by rfl) ?_ (by decide) ?_ ?_ ?_)
   ·simp
   ·simp; omega
   ·simp; omega
   rw [hl, List.map_nil] at ess
   (simp (maxSteps := 1000000) [ess, hw])
   exact hN _ (k + 1) hkl (by (exact wkA)) (by omega)
  ·(simp (maxSteps := 1000000) [h2, hsk'])
   (refine Jt15 (by rfl) (by rfl) (by rfl) ?_ (by decide) ?_ ?_ ?_)
   ·simp
   ·simp; omega
   ·simp; omega
   (simp (maxSteps := 1000000) [ess, hw])
   exact hN _ (k + 1) hkl (by (exact wkA)) (by omega)
 ·have hk' : k = f.blocks.length := by omega
  subst hk'
  rw [List.take_of_length_le (by omega)]
  (simp (maxSteps := 1000000) [])
  (first | exact hR _ _ FrA | exact hR _ _ FnA | exact hR _ _ (Xf (hq := by simp [AV.erase, AV.unview, hsR, MFunc.av]; done)))
theorem Jth0 {P : Program} {p : Nums} (A : All P p) (c : Cert) (h0 : c.S.blocks.length ≤ 1000000) (h1 : codeN c.S.blocks ≤ 1000000) (h2 : c.T.blocks.length ≤ 1000000) (h3 : mcodeN c.T.blocks ≤ 1000000) (h4 : c.W.length ≤ 1000000) (h5 : ∀ l ∈ c.W, l.length ≤ 1000000) : Jt3n P p.ref16_Copy [c.av] [] fun o _ => o = .ret c.av := by
 have c1 := Jtgq A c.S h0 h1
 have c2 := Jtgu A c.T h2 h3
 obtain ⟨sR, hsR⟩ : ∃ x, x = c.S.blocks.map Block.row := ⟨_, rfl⟩
 obtain ⟨tR, htR⟩ : ∃ x, x = c.T.blocks.map MBlock.row := ⟨_, rfl⟩
 obtain ⟨wR, hwR⟩ : ∃ x, x = c.W.map fun l => [pairsD l] := ⟨_, rfl⟩
 have hwl : wR.length = c.W.length := by rw [hwR]; simp
 simp only [Func.av, MFunc.av, Cert.av, witD, ← hsR, ← htR, ← hwR] at c1 c2 ⊢
 refine A.ref16_Copy.run rfl fun R hR => ?_
 (simp (maxSteps := 1000000) [Jtbj])
 (refine Jts c1 (by rfl) (by rfl) ?_)
 (simp (maxSteps := 1000000) [])
 (refine Jts c2 (by rfl) (by rfl) ?_)
 (simp (maxSteps := 1000000) [])
 refine Jt9 (fun k : Nat => ⟨[(4, AI k), (1, .ptr 0 0), (2, .ptr 1 0), (3, .ptr 2 0)], [.mem [AI c.S.args, AI c.S.regs, .d (.sl sR), AI c.T.args, AI c.T.regs, AI c.T.slots, .d (.sl tR), .d (.sl wR)], .mem [AI 0, AI 0, .nils, AI 0, AI 0, AI 0, .nils, .nils],
   .mem [AI c.S.args, AI c.S.regs, .d (.sl sR), AI c.T.args, AI c.T.regs, AI c.T.slots, .d (.sl tR), .own 1 (wR.take k)]]⟩)
  (fun k => k ≤ c.W.length) (fun k => c.W.length - k) 0 (by simp) (by (exact wkA)) ?_
 intro k hk N hN
 (simp (maxSteps := 1000000) [hwl])
 ((first | refine Xc (fun h6 => ?_) (fun h6 => ?_) | refine Xo (fun h6 => ?_) (fun h6 => ?_)) <;> (try simp only [Xz, Xy] at h6))
 ·have hkl : k < c.W.length := by omega
  obtain ⟨l, hl⟩ : ∃ l, c.W[k]? = some l := ⟨_, List.getElem?_eq_getElem hkl⟩
  have hll := h5 l (List.mem_of_getElem? hl)
  have hwk : wR[k]? = some [.sl (l.map Pair.row)] := by rw [hwR, List.getElem?_map, hl]; rfl
  have hw := Jtlx (k := k) (by omega)
  have hl1 := List.length_take_le k wR
  have ess : wR.take k ++ [[.sl (l.map Pair.row)]] = wR.take (k + 1) := (Jtkr hwk).symm
  (simp (maxSteps := 1000000) [h6, hwk])
  refine Jt14 (by rfl) (by rfl) (Jti8 fun _ => rfl) (by decide) (by simp; omega) (by simp; omega) (fun hn => ?_) fun hn => ?_
  ·have hln : l = [] := by simpa using hn
   (simp (maxSteps := 1000000) [h6, hwk])
   (refine Jt15 (by rfl) (by rfl) (by rfl) ?_ (by decide) ?_ ?_ ?_)
   ·simp
   ·simp; omega
   ·simp; omega
   rw [hln, List.map_nil] at ess
   (simp (maxSteps := 1000000) [ess, hw])
   exact hN _ (k + 1) hkl (by (exact wkA)) (by omega)
  ·(simp (maxSteps := 1000000) [h6, hwk])
   (refine Jt15 (by rfl) (by rfl) (by rfl) ?_ (by decide) ?_ ?_ ?_)
   ·simp
   ·simp; omega
   ·simp; omega
   (simp (maxSteps := 1000000) [ess, hw])
   exact hN _ (k + 1) hkl (by (exact wkA)) (by omega)
 ·have hk' : k = c.W.length := by omega
  subst hk'
  rw [List.take_of_length_le (by omega)]
  (simp (maxSteps := 1000000) [])
  (first | exact hR _ _ FrA | exact hR _ _ FnA)
end
section
theorem Jtcl {P : Program} {p : Nums} (A : All P p) (S : SortOk P p) (C : ClosOk P p) (c : Cert) (h2 : ∀ b ∈ c.T.blocks, okM b) (hw : okW c.W) : Jt3n P p.law16_CheckerKeeps [c.av] [] fun o _ => o = .ret (AB true) := by
 have cf := Jth1 A c
 have ok := fun hf => Jtf9 (c := c) hf h2 hw
 have q1 := fun hf => Jt6c A c (ok hf)
 have q3 := fun hf => Jt6b A S C c (ok hf) hf
 have hsz : fewC c = true → Jt3n P p.ref16_Copy [c.av] [] (fun o _ => o = .ret c.av) ∧ Jt3n P p.ref16_Same [c.av, c.av] [] (fun o _ => o = .ret (AB true)) := fun h => by
  have o := ok h
  simp only [fewC, few, fewM, fewW, Bool.and_eq_true, decide_eq_true_eq, List.all_eq_true] at h
  obtain ⟨⟨⟨⟨⟨f1, f2⟩, f3⟩, f4⟩, ⟨⟨⟨⟨f5, f6⟩, f7⟩, f8⟩, f9⟩⟩, f10, f11⟩ := h
  refine ⟨Jth0 A c (by omega) (by omega) (by omega) (by omega) (by omega) (fun l hl => by have := f11 l hl; omega), Jth2 A c (by omega) (fun b hb => by have := f3 b hb; omega) (by omega) (fun b hb => by have := f8 b hb; omega) (by omega) (fun l hl => by have := f11 l hl; omega)⟩
 obtain ⟨T, hT⟩ : ∃ T, T = Jths c := ⟨_, rfl⟩
 obtain ⟨v, hv⟩ : ∃ v, v = validZ c := ⟨_, rfl⟩
 obtain ⟨f, hf⟩ : ∃ f, f = fewC c := ⟨_, rfl⟩
 rw [← hf] at cf q1 q3 hsz
 rw [← hT] at q3
 rw [← hv] at q1
 obtain ⟨sR, hsR⟩ : ∃ x, x = c.S.blocks.map Block.row := ⟨_, rfl⟩
 obtain ⟨tR, htR⟩ : ∃ x, x = c.T.blocks.map MBlock.row := ⟨_, rfl⟩
 obtain ⟨wR, hwR⟩ : ∃ x, x = c.W.map fun l => [pairsD l] := ⟨_, rfl⟩
 simp only [Cert.av, witD, ← hsR, ← htR, ← hwR, Rep.av] at cf q1 q3 hsz ⊢
 refine A.law16_CheckerKeeps.run rfl fun R hR => ?_
 (simp (maxSteps := 1000000) [Jtab])
 (refine Jts (Jtcm A S C) (by rfl) (by rfl) ?_)
 (simp (maxSteps := 1000000) [])
 (refine Jts cf (by rfl) (by rfl) ?_)
 (simp (maxSteps := 1000000) [])
 ((first | refine Xc (fun h1 => ?_) (fun h1 => ?_) | refine Xo (fun h1 => ?_) (fun h1 => ?_)) <;> (try simp only [Xz, Xy] at h1))
 ·(simp (maxSteps := 1000000) [])
  (refine Jts (Jtcm A S C) (by rfl) (by rfl) ?_)
  (simp (maxSteps := 1000000) [])
  (first | exact hR _ _ FrA | exact hR _ _ FnA)
 have hft : f = true := by simpa using h1
 obtain ⟨k1, k2⟩ := hsz hft
 (simp (maxSteps := 1000000) [])
 (refine Jts k1 (by rfl) (by rfl) ?_)
 (simp (maxSteps := 1000000) [])
 (refine Jts (q3 hft) (by rfl) (by rfl) ?_)
 (simp (maxSteps := 1000000) [])
 (refine Jts (q1 hft) (by rfl) (by rfl) ?_)
 (simp (maxSteps := 1000000) [])
 (refine Jts k2 (by rfl) (by rfl) ?_)
 (simp (maxSteps := 1000000) [])
 (first | exact hR _ _ FrA | exact hR _ _ FnA)
end
end Go.AE
