/- A part of the proof: the evaluator over abstract values, its codes, the contracts of the functions. -/
import Derived.Test.YtemgahndfjaogaaGreatI4
set_option linter.unusedVariables false
set_option linter.unusedSimpArgs false
namespace Go.AE
open Go
def VS : List Int := (List.range 61).map fun n : Nat => (n : Int)
def LS : List Int := (List.range 122).map fun n : Nat => (n : Int)
theorem mem_VS {x : Int} (h0 : 0 ≤ x) (h1 : x ≤ 60) : x ∈ VS := List.mem_map.2 ⟨x.toNat, List.mem_range.2 (by omega), by omega⟩
theorem mem_LS {x : Int} (h0 : 0 ≤ x) (h1 : x ≤ 121) : x ∈ LS := List.mem_map.2 ⟨x.toNat, List.mem_range.2 (by omega), by omega⟩
theorem VL_few : VS.length * LS.length < 100000 := by decide
theorem src_ok {f : Func} (h : Jtkk f = 0) : 0 ≤ f.args ∧ f.args ≤ f.regs ∧ 0 < f.blocks.length ∧ ∀ b ∈ f.blocks, (∀ i ∈ b.code, Jtkl i f.regs = 0) ∧ Jtkr b.term f.regs f.blocks.length = 0 := by
 unfold Jtkk at h
 split at h
 ·cases h
 split at h
 ·cases h
 split at h
 ·cases h
 split at h
 ·cases h
 refine ⟨by omega, by omega, by omega, fun b hb => ?_⟩
 have h3 := Jt9x h _ (List.mem_map_of_mem hb)
 simp only [Jtkj] at h3
 split at h3
 ·rename_i h5; exact absurd h3 h5
 ·rename_i h5
  exact ⟨fun i hi => Jt9x (es := b.code.map (Jtkl · f.regs)) (by simpa using h5) _ (List.mem_map_of_mem hi), h3⟩
theorem Jtev {i : Instr} {regs : Int} (h : Jtkl i regs = 0) (h0 : 0 ≤ regs) (h1 : regs ≤ 60) : i.d ∈ VS := by
 unfold Jtkl at h
 split at h
 ·cases h
 split at h
 ·cases h
 rename_i h9
 split at h
 ·cases h
 rename_i h12
 cases hu : usesD i.op with
 | true =>
  simp only [bad9, hu, Bool.true_and, Bool.or_eq_true, not_or, Bool.not_eq_true', inZ] at h9
  have := h9.1.1
  simp at this
  exact mem_VS this.1 (by omega)
 | false =>
  simp only [bad12, hu, Bool.not_false, Bool.true_and, Bool.or_eq_true, not_or, bne_iff_ne, ne_eq, Decidable.not_not] at h12
  rw [h12.1.1.1]; exact mem_VS (by omega) (by omega)
theorem Jtpu {t : Term} {regs blocks : Int} (h : Jtkr t regs blocks = 0) : ∀ x ∈ succsZ t, 0 ≤ x ∧ x < blocks := by
 unfold Jtkr at h
 unfold succsZ
 intro x hx
 split at h
 ·rename_i k1
  rw [if_pos k1] at hx
  simp only [List.mem_singleton] at hx
  split at h
  ·cases h
  ·rename_i k2
   subst hx; simpa [inZ] using k2
 ·rename_i k1
  rw [if_neg k1] at hx
  split at h
  ·rename_i k3
   rw [if_pos k3] at hx
   split at h
   ·cases h
   split at h
   ·cases h
   rename_i k4 k5
   simp only [not_or] at k5
   simp only [List.mem_cons, List.not_mem_nil, or_false] at hx
   rcases hx with rfl | rfl
   ·simpa [inZ] using k5.1
   ·simpa [inZ] using k5.2
  ·rename_i k3
   rw [if_neg k3] at hx; simp at hx
theorem mac_ok {f : MFunc} (h : Jtkn f = 0) : 0 ≤ f.args ∧ f.args ≤ f.slots ∧ 0 ≤ f.regs ∧ ∀ b ∈ f.blocks, ∀ x ∈ b.code, Jtko x f.regs f.slots = 0 := by
 unfold Jtkn at h
 split at h
 ·cases h
 split at h
 ·cases h
 split at h
 ·cases h
 split at h
 ·cases h
 split at h
 ·cases h
 refine ⟨by omega, by omega, by omega, fun b hb x hx => ?_⟩
 have h3 := Jt9x h _ (List.mem_map_of_mem hb)
 unfold Jtkm at h3
 split at h3
 ·rename_i h5; exact absurd h3 h5
 ·rename_i h5
  have h6 : mErrs b.code f.regs f.slots = 0 := by simpa using h5
  obtain ⟨k, hk⟩ := List.getElem?_of_mem hx
  have hlt := (List.getElem?_eq_some_iff.1 hk).1
  have h7 := Jt9x h6 (mErr b.code f.regs f.slots k) (List.mem_map.2 ⟨k, List.mem_range.2 hlt, rfl⟩)
  unfold mErr at h7
  rw [hk] at h7
  simp only at h7
  split at h7
  ·rename_i h8; exact absurd h7 h8
  ·rename_i h8; simpa using h8
theorem rng_ok {l r s : Int} (h : rngZ l r s = true) (hr : r ≤ 60) (hs : s ≤ 60) : 0 ≤ l ∧ l ≤ 121 := by
 unfold rngZ at h
 split at h
 ·rename_i h1
  simp only [Bool.and_eq_true, decide_eq_true_eq] at h
  have := Int.tdiv_eq_ediv_of_nonneg (b := 2) h.1
  omega
 ·rename_i h1
  simp only [Bool.and_eq_true, decide_eq_true_eq] at h
  have := Int.tdiv_eq_ediv_of_nonneg (b := 2) h.1
  omega
theorem Jthv {x : Mach} {regs slots : Int} (h : Jtko x regs slots = 0) (h0 : 0 ≤ regs) (h1 : regs ≤ 60) (h2 : slots ≤ 60) : x.dst ∈ LS ∧ regZ x.d ∈ LS := by
 unfold Jtko at h
 have hz : ∀ d : Int, 0 ≤ d → d ≤ 60 → regZ d ∈ LS := by
  intro d k0 k1
  have : regZ d = 2 * d := by unfold regZ; exact wrap_i64 (by omega) (by omega)
  rw [this]; exact mem_LS (by omega) (by omega)
 split at h
 ·cases h
 split at h
 ·split at h
  ·cases h
  rename_i k1
  split at h
  ·cases h
  rename_i k2
  simp only [not_or, Bool.not_eq_false] at k1
  obtain ⟨g0, g1⟩ := rng_ok k1.1 h1 h2
  refine ⟨mem_LS g0 g1, ?_⟩
  have : x.d = 0 := by simp only [not_or, Decidable.not_not, ne_eq] at k2; exact k2.1
  rw [this]; exact hz 0 (by omega) (by omega)
 ·split at h
  ·cases h
  rename_i k1
  have e : x.dst = 0 := by
   rw [h] at k1
   simp only [true_and, not_or, ne_eq, Decidable.not_not] at k1
   exact k1.1
  have hd := Jtev h h0 h1
  obtain ⟨n, hn, hd⟩ := List.mem_map.1 hd
  simp only at hd
  have := List.mem_range.1 hn
  refine ⟨by rw [e]; exact mem_LS (by omega) (by omega), hz _ (by omega) (by omega)⟩
theorem Jtja {l : List Pair} {vregs regs slots : Int} (h : pErrs l vregs regs slots = 0) (hv : vregs ≤ 60) (hr : regs ≤ 60) (hs : slots ≤ 60) : Srt l ∧ ∀ q ∈ l, 0 ≤ q.v ∧ q.v ≤ 60 ∧ 0 ≤ q.l ∧ q.l ≤ 121 := by
 have key : ∀ k (hk : k < l.length), 0 ≤ l[k].v ∧ l[k].v < vregs ∧ rngZ l[k].l regs slots = true ∧ (0 < k → ∀ q0, l[k - 1]? = some q0 → lessP q0 l[k] = true) := by
  intro k hk
  have h7 := Jt9x h (pErr l vregs regs slots k) (List.mem_map.2 ⟨k, List.mem_range.2 hk, rfl⟩)
  rw [Jtj3 hk] at h7
  split at h7
  ·cases h7
  rename_i a1
  split at h7
  ·cases h7
  rename_i a2
  refine ⟨by omega, by omega, by simpa using a2, fun h0 q0 hq0 => ?_⟩
  rw [hq0] at h7
  cases hx : lessP q0 l[k] with
  | true => rfl
  | false =>
   simp only [hx, h0, and_self, if_true] at h7
   cases h7
 refine ⟨Jtof.2 fun k hk => ?_, fun q hq => ?_⟩
 ·exact (key (k + 1) hk).2.2.2 (by omega) l[k] (by simp)
 ·obtain ⟨k, hk⟩ := List.getElem?_of_mem hq
  obtain ⟨hlt, rfl⟩ := List.getElem?_eq_some_iff.1 hk
  obtain ⟨a1, a2, a3, _⟩ := key k hlt
  obtain ⟨a4, a5⟩ := rng_ok a3 hr hs
  exact ⟨a1, by omega, a4, a5⟩
structure Fit (c : Cert) : Prop where
 lenT : c.T.blocks.length = c.S.blocks.length
 lenW : c.W.length = c.S.blocks.length
 pos : 0 < c.S.blocks.length
 few : c.S.blocks.length ≤ 40
 w : ∀ l ∈ c.W, Srt l ∧ l.length ≤ 400 ∧ ∀ q ∈ l, 0 ≤ q.v ∧ q.v ≤ 60 ∧ 0 ≤ q.l ∧ q.l ≤ 121
 vl : ∀ b ∈ c.S.blocks, ∀ m ∈ c.T.blocks, VLOk VS LS b.code m.code
 cs : ∀ b ∈ c.S.blocks, b.code.length ≤ 100
 ct : ∀ m ∈ c.T.blocks, m.code.length ≤ 900
 to : ∀ b ∈ c.S.blocks, ∀ x ∈ succsZ b.term, 0 ≤ x ∧ x < c.S.blocks.length
 ars : 0 ≤ c.S.args ∧ c.S.args ≤ 60
theorem fit_of {c : Cert} (h : validZ c = 0) (hf : fewC c = true) : Fit c := by
 unfold validZ at h
 split at h
 ·rename_i g; exact absurd h g
 rename_i g1
 split at h
 ·rename_i g; exact absurd h g
 rename_i g2
 split at h
 ·cases h
 rename_i g3
 have v1 : Jtkk c.S = 0 := by simpa using g1
 have v2 : Jtkn c.T = 0 := by simpa using g2
 unfold Jt8p at h
 split at h
 ·cases h
 rename_i g4
 split at h
 ·cases h
 rename_i g5
 simp only [fewC, few, fewM, fewW, Bool.and_eq_true, decide_eq_true_eq, List.all_eq_true] at hf
 obtain ⟨⟨⟨⟨⟨f1, f2⟩, f3⟩, f4⟩, ⟨⟨⟨⟨f5, f6⟩, f7⟩, f8⟩, f9⟩⟩, f10, f11⟩ := hf
 obtain ⟨s1, s2, s3, s4⟩ := src_ok v1
 obtain ⟨t1, t2, t3, t4⟩ := mac_ok v2
 exact {
  lenT := by omega
  lenW := by omega
  pos := s3
  few := f1
  w := fun l hl => by
   obtain ⟨p1, p2⟩ := Jtja (Jt9x h _ (List.mem_map_of_mem hl)) f2 f6 f7
   exact ⟨p1, f11 l hl, p2⟩
  vl := fun b hb m hm => ⟨fun i hi => Jtev ((s4 b hb).1 i hi) (by omega) f2, fun x hx => Jthv (t4 m hm x hx) t3 f6 f7⟩
  cs := f3
  ct := fun m hm => Nat.le_trans (f8 m hm) (by decide)
  to := fun b hb x hx => Jtpu (s4 b hb).2 x hx
  ars := ⟨s1, by omega⟩ }
structure Good (r : Res) : Prop where
 srt : Srt r.out
 len : r.out.length < 100000
 steps : r.steps ≤ 1000000000
 lg : r.largest < 100000
theorem Jt7i {V L : List Int} {b : Block} {m : MBlock} {l : List Pair} {most : Int} (hl : ∀ q ∈ l, q.v ∈ V ∧ q.l ∈ L) (hv : VLOk V L b.code m.code) (few : V.length * L.length < 100000) (hl0 : l.length < 100000)
  (hb0 : b.code.length ≤ 1000) (hm0 : m.code.length ≤ 1000) : Over V L (checkZ b m l most).out := by
 have hnil : Over V L [] := ⟨List.Pairwise.nil, fun q hq => by simp at hq⟩
 obtain ⟨a1, a2, a3⟩ := Jt4y b.code m.code
 unfold checkZ
 split
 ·exact hnil
 ·by_cases h2 : (if (alignZ b.code m.code).2.2 = 0 ∧ termsZ b.term m.term = false then 20 else (alignZ b.code m.code).2.2) ≠ 0
  ·simp only [if_pos h2]; exact hnil
  ·simp only [if_neg h2]
   have hover : Over V L (makeP l) := ⟨Jtom l, fun q hq => hl q (Jthl.1 hq)⟩
   have hroom : Room V L ⟨makeP l, 0, l.length⟩ (0 + 1 + needRs (alignZ b.code m.code).1) := by
    refine ⟨hover, few, ?_, by simp only; omega⟩
    have h1 := Jtif a1
    have h2 : (alignZ b.code m.code).1.length * (3 + m.code.length + b.code.length) ≤ 1001 * 2003 := Nat.mul_le_mul (by omega) (by omega)
    simp only
    omega
   have hr := Jtm9 (most := most) hv hroom a1
   generalize runC most b m (alignZ b.code m.code).1 ⟨makeP l, 0, l.length⟩ = r at hr
   obtain ⟨t, e⟩ := r
   simp only
   split
   ·exact hr.over
   ·exact hnil
theorem Fit.good {c : Cert} (h : Fit c) {b : Block} {m : MBlock} {l : List Pair} (hb : b ∈ c.S.blocks) (hm : m ∈ c.T.blocks) (hl : l ∈ c.W) (most : Int) : Good (checkZ b m l most) := by
 obtain ⟨w1, w2, w3⟩ := h.w l hl
 have k1 : ∀ q ∈ l, q.v ∈ VS ∧ q.l ∈ LS := fun q hq => by
  obtain ⟨a1, a2, a3, a4⟩ := w3 q hq
  exact ⟨mem_VS a1 a2, mem_LS a3 a4⟩
 have c1 := h.cs b hb
 have c2 := h.ct m hm
 have o := Jt7i (most := most) k1 (h.vl b hb m hm) VL_few (by omega) (by omega) (by omega)
 obtain ⟨r1, r2⟩ := Jt7h (most := most) k1 (h.vl b hb m hm) VL_few (by omega) (by omega) (by omega)
 have bd := (Jt7f b m l most (Jth5 l)).1
 refine ⟨o.srt, Nat.lt_of_le_of_lt o.len VL_few, ?_, r1⟩
 have : (3 * m.code.length + b.code.length + 1) * ((checkZ b m l most).largest + 1) ≤ 3001 * 100000 := Nat.mul_le_mul (by omega) (by omega)
 omega
theorem fit_w0 {c : Cert} (h : Fit c) : c.W[0]? = some (w0 c) := by
 have := h.lenW; have := h.pos
 unfold w0
 rw [List.getElem?_eq_getElem (by omega)]; rfl
theorem Jta0 {c : Cert} (h : Fit c) : w0 c ∈ c.W := List.mem_of_getElem? (fit_w0 h)
theorem Jti4 {w : List (List Pair)} {k : Nat} {l : List Pair} (h : w[k]? = some l) : mostW (w.take (k + 1)) = max (mostW (w.take k)) l.length := by
 unfold mostW
 rw [List.map_take, List.map_take]
 exact Jti3 (by rw [List.getElem?_map, h]; rfl)
theorem Jti5 {w : List (List Pair)} {n : Nat} (h : ∀ l ∈ w, l.length ≤ n) : mostW w ≤ n := by
 apply Nat.le_of_not_lt
 intro hlt
 obtain ⟨x, hx, hn⟩ := Jti2.1 hlt
 obtain ⟨l, hl, rfl⟩ := List.mem_map.1 hx
 have := h l hl
 omega
def begC (c : Cert) : Rep := { rep0 c with err := if ((w0 c).all fun q => initZ q c.S.args) = true then 0 else 23 }
section
theorem Jt7o {P : Program} {p : Nums} (A : All P p) (c : Cert) (h : Fit c) : Jt3x P p.checker_begin [c.av] [] fun o _ => o = .ret (begC c).av := by
 have hw0 := fit_w0 h
 obtain ⟨z1, z2, z3⟩ := h.w _ (Jta0 h)
 have hlenW := h.lenW
 have hfew := h.few
 have hen := Jt8q A (w0 c) c.S.args (by omega) (fun q hq => by obtain ⟨a1, a2, a3, a4⟩ := z3 q hq; exact ⟨by omega, by omega, by omega, by omega⟩)
 obtain ⟨er, her⟩ : ∃ e, e = (if ((w0 c).all fun q => initZ q c.S.args) = true then (0 : Int) else 23) := ⟨_, rfl⟩
 have hbg : begC c = ⟨er, 0, 0, 0, 0, 1 + (w0 c).length, mostW c.W⟩ := by rw [her]; rfl
 rw [hbg]
 unfold entA at hen
 rw [← her] at hen
 obtain ⟨pr, hpr⟩ : ∃ x, x = ((w0 c).find? fun q => !initZ q c.S.args).getD ⟨0, 0⟩ := ⟨_, rfl⟩
 rw [← hpr] at hen
 obtain ⟨wz, hwz⟩ : ∃ x, x = w0 c := ⟨_, rfl⟩
 rw [← hwz] at hen hw0 z2 ⊢
 obtain ⟨S, T, W⟩ := c
 obtain ⟨sa, sr, sb⟩ := S
 obtain ⟨ta, tr, ts, tb⟩ := T
 simp only at hen hw0 hlenW hfew h ⊢
 obtain ⟨sR, hsR⟩ : ∃ x, x = sb.map Block.row := ⟨_, rfl⟩
 obtain ⟨tR, htR⟩ : ∃ x, x = tb.map MBlock.row := ⟨_, rfl⟩
 refine A.checker_begin.run rfl fun R hR => ?_
 simp only [Cert.av, witD, ← hsR, ← htR]
 have w1 : IntKind.i64.wrap (1 + (wz.length : Int)) = ((1 + wz.length : Nat) : Int) := by rw [wrap_i64 (by omega) (by omega)]; omega
 (simp (maxSteps := 1000000) [Jtcg, hw0, pairsD, w1])
 refine Jtd (fun k : Nat => ⟨[(16, AI k), (15, AI W.length), (14, .d (.sl (W.map fun l => [pairsD l]))), (1, .ptr 0 0), (2, .ptr 1 0), (3, .ptr 2 0)],
  [.mem [AI sa, AI sr, .d (.sl sR), AI ta, AI tr, AI ts, .d (.sl tR), .d (.sl (W.map fun l => [pairsD l]))], .mem [AI 0, AI 0, AI 0, AI 0, AI 0, AI 0, AI 0], .mem [AI 0, AI 0, AI 0, AI 0, AI 0, AI ((1 + wz.length : Nat) : Int), AI (mostW (W.take k))]]⟩)
  (fun k => k ≤ W.length) (fun k => W.length - k) 0 (by simp) (by (exact wkA)) ?_
 intro k hk N hN
 (simp (maxSteps := 1000000) [])
 ((first | refine Xc (fun h2 => ?_) (fun h2 => ?_) | refine Xo (fun h2 => ?_) (fun h2 => ?_)) <;> (try simp only [Xz, Xy] at h2))
 ·have hkl : k < W.length := by simpa using h2
  have hb : W[k]? = some W[k] := by simp
  have hw := Jtr1 (k := k) (by omega)
  have hm := Jti4 hb
  have emx : (if mostW (W.take k) < W[k].length then ((W[k].length : Nat) : Int) else ((mostW (W.take k) : Nat) : Int)) = ((mostW (W.take (k + 1)) : Nat) : Int) := by
   rw [hm]; split <;> omega
  (simp (maxSteps := 1000000) [h2, hb, pairsD, hw, emx])
  exact hN _ (k + 1) hkl (by (exact wkA)) (by omega)
 ·have hk' : k = W.length := by simp at h2; omega
  subst hk'
  (simp (maxSteps := 1000000) [hw0])
  (refine Jtx hen (by rfl) (by rfl) ?_)
  (simp (maxSteps := 1000000) [])
  (first | exact hR _ _ FrA | exact hR _ _ FnA | exact hR _ _ (Xf (hq := by simp [AV.erase, AV.unview, Rep.av, List.take_length]; done)))
end
end Go.AE
set_option maxRecDepth 4000
namespace Go.AE
open Go
structure RepOk (i : Nat) (r : Rep) : Prop where
 blocks : r.blocks ≤ i
 edges : r.edges ≤ 2 * i
 steps : r.steps ≤ 1000 + 2000000000 * i
 lg : r.largest < 100000
def edgeR (w : List (List Pair)) (out : List Pair) (to : Nat) (r : Rep) : Rep := { r with edges := r.edges + 1, steps := r.steps + 1 + out.length + ((w[to]?).getD []).length }
structure RepIn (i k : Nat) (r : Rep) : Prop where
 blocks : r.blocks ≤ i + 1
 edges : r.edges ≤ 2 * i + k
 steps : r.steps ≤ 1000 + 2000000000 * i + 1000000000 + 200000 * k
 lg : r.largest < 100000
theorem RepIn.out {i k : Nat} {r : Rep} (h : RepIn i k r) (hk : k ≤ 2) : RepOk (i + 1) r := ⟨h.blocks, by have := h.edges; omega, by have := h.steps; omega, h.lg⟩
theorem RepIn.edge {w : List (List Pair)} {out wt : List Pair} {i k to : Nat} {r : Rep} (h : RepIn i k r) (ho : out.length < 100000) (hw : w[to]? = some wt) (hwl : wt.length ≤ 400) : RepIn i (k + 1) (edgeR w out to r) := by
 have := h.blocks; have := h.edges; have := h.steps; have := h.lg
 refine ⟨by simpa [edgeR] using h.blocks, by simp only [edgeR]; omega, ?_, by simpa [edgeR] using h.lg⟩
 simp only [edgeR, hw, Option.getD_some]; omega
theorem Jtpi (t : Term) : (succsZ t).length ≤ 2 := by
 unfold succsZ; split
 ·simp
 ·split <;> simp
def Rep.cells (r : Rep) : List AV := [AI r.err, AI r.block, AI r.at_, AI r.blocks, AI r.edges, AI r.steps, AI r.largest]
theorem Jt8w (w : List (List Pair)) (out : List Pair) (i : Nat) (to : Nat) (ts : List Int) (k : Nat) (r : Rep) : edgesC w out i ((to : Int) :: ts) k r =
  if (missP ((w[to]?).getD []) out).isSome = true then ({ edgeR w out to r with err := 22, block := i, at_ := k }, true) else edgesC w out i ts (k + 1) (edgeR w out to r) := rfl
def blockR (x : Res) (r : Rep) : Rep := { r with blocks := r.blocks + 1, steps := r.steps + x.steps, largest := max r.largest x.largest }
theorem Jt6f {c : Cert} {i : Nat} {b : Block} {m : MBlock} {l : List Pair} (hb : c.S.blocks[i]? = some b) (hm : c.T.blocks[i]? = some m) (hl : c.W[i]? = some l) (r : Rep) : blockC c i r =
  if (checkZ b m l 1048576).err ≠ 0 then ({ blockR (checkZ b m l 1048576) r with err := (checkZ b m l 1048576).err, block := i, at_ := (checkZ b m l 1048576).at_ }, true)
  else edgesC c.W (checkZ b m l 1048576).out i (succsZ b.term) 0 (blockR (checkZ b m l 1048576) r) := by
 unfold blockC; rw [hb, hm, hl]; rfl
section
theorem Jt7m {P : Program} {p : Nums} (A : All P p) (S : SortOk P p) (C : ClosOk P p) (c : Cert) (ok : okCert c) (hfit : validZ c = 0 → Fit c) : Jt3x P p.checker_Check [c.av] [] fun o _ => o = .ret (Jtli c).av := by
 obtain ⟨T, hT⟩ : ∃ T, T = Jtli c := ⟨_, rfl⟩
 rw [← hT]
 unfold Jtli at hT
 have cv := Jt7n A c ok
 have cb := Jt7o A c
 obtain ⟨v, hv⟩ : ∃ v, v = validZ c := ⟨_, rfl⟩
 rw [← hv] at cv hT hfit
 obtain ⟨sR, hsR⟩ : ∃ x, x = c.S.blocks.map Block.row := ⟨_, rfl⟩
 obtain ⟨tR, htR⟩ : ∃ x, x = c.T.blocks.map MBlock.row := ⟨_, rfl⟩
 obtain ⟨wR, hwR⟩ : ∃ x, x = c.W.map fun l => [pairsD l] := ⟨_, rfl⟩
 refine A.checker_Check.run rfl fun R hR => ?_
 simp only [Cert.av, witD, ← hsR, ← htR, ← hwR] at cv cb ⊢
 (simp (maxSteps := 1000000) [Jtce])
 (refine Jtx cv (by rfl) (by rfl) ?_)
 (simp (maxSteps := 1000000) [])
 ((first | refine Xc (fun h1 => ?_) (fun h1 => ?_) | refine Xo (fun h1 => ?_) (fun h1 => ?_)) <;> (try simp only [Xz, Xy] at h1))
 ·rw [if_pos h1] at hT
  (simp (maxSteps := 1000000) [h1])
  (first | exact hR _ _ FrA | exact hR _ _ FnA | exact hR _ _ (Xf (hq := by simp [AV.erase, AV.unview, hT, Rep.av]; done)))
 have h1' : v = 0 := by simpa using h1
 have h := hfit h1'
 rw [if_neg (by simpa using h1)] at hT
 (simp (maxSteps := 1000000) [h1])
 (refine Jtx (cb h) (by rfl) (by rfl) ?_)
 obtain ⟨r0, hr0⟩ : ∃ r, r = begC c := ⟨_, rfl⟩
 rw [← hr0]
 (simp (maxSteps := 1000000) [Rep.av])
 ((first | refine Xc (fun h2 => ?_) (fun h2 => ?_) | refine Xo (fun h2 => ?_) (fun h2 => ?_)) <;> (try simp only [Xz, Xy] at h2))
 ·have e : ((w0 c).all fun q => initZ q c.S.args) = false := by
   cases hx : (w0 c).all fun q => initZ q c.S.args with
   | false => rfl
   | true => exfalso; apply h2; rw [hr0]; simp only [begC, hx, if_true]
  have hT2 : T = r0 := by rw [hT, if_pos e, hr0]; simp only [begC, e]; rfl
  (simp (maxSteps := 1000000) [h2])
  (first | exact hR _ _ FrA | exact hR _ _ FnA | exact hR _ _ (Xf (hq := by simp [AV.erase, AV.unview, hT2, Rep.av]; done)))
 have e : ((w0 c).all fun q => initZ q c.S.args) = true := by
  cases hx : (w0 c).all fun q => initZ q c.S.args with
  | true => rfl
  | false => exfalso; rw [hr0] at h2; simp [begC, hx] at h2
 have hr0' : r0 = rep0 c := by rw [hr0]; unfold begC; rw [if_pos e]; rfl
 rw [if_neg (by simp [e]), ← hr0'] at hT
 have hsl : sR.length = c.S.blocks.length := by rw [hsR]; simp
 have htl : tR.length = c.S.blocks.length := by rw [htR]; simp [h.lenT]
 have hwl : wR.length = c.S.blocks.length := by rw [hwR]; simp [h.lenW]
 obtain ⟨z1, z2, z3⟩ := h.w _ (Jta0 h)
 have hrok : RepOk 0 r0 := by
  rw [hr0']
  have := Jti5 (w := c.W) (n := 400) (fun l hl => (h.w l hl).2.1)
  exact ⟨Nat.le_refl _, Nat.le_refl _, by simp only [rep0]; omega, by simp only [rep0]; omega⟩
 have few := h.few
 (simp (maxSteps := 1000000) [hsl])
 obtain ⟨n, hn⟩ : ∃ n, n = c.S.blocks.length := ⟨_, rfl⟩
 rw [← hn] at hsl htl hwl hT few ⊢
 refine Jtd (fun s : Nat × Rep => ⟨[(28, AI s.1), (27, AI n), (26, .d (.sl sR)), (1, .ptr 0 0), (2, .ptr 1 0), (4, .ptr 2 0)],
  [.mem [AI c.S.args, AI c.S.regs, .d (.sl sR), AI c.T.args, AI c.T.regs, AI c.T.slots, .d (.sl tR), .d (.sl wR)], .mem [AI 0, AI 0, AI 0, AI 0, AI 0, AI 0, AI 0], .mem [AI s.2.err, AI s.2.block, AI s.2.at_, AI s.2.blocks, AI s.2.edges, AI s.2.steps, AI s.2.largest]]⟩)
  (fun s => s.1 ≤ n ∧ RepOk s.1 s.2 ∧ T = Jt6o c (n - s.1) s.1 s.2) (fun s => n - s.1) (0, r0) ⟨by omega, hrok, hT⟩ (by (exact wkA)) ?_
 rintro ⟨i, r⟩ ⟨hi, hok, hTi⟩ N hN
 simp only at hi hok hTi hN
 (simp (maxSteps := 1000000) [])
 ((first | refine Xc (fun h3 => ?_) (fun h3 => ?_) | refine Xo (fun h3 => ?_) (fun h3 => ?_)) <;> (try simp only [Xz, Xy] at h3))
 ·have hil : i < n := by omega
  have hb : c.S.blocks[i]? = some c.S.blocks[i] := by simp
  have hm : c.T.blocks[i]? = some (c.T.blocks[i]'(by rw [h.lenT]; omega)) := by simp
  have hl : c.W[i]? = some (c.W[i]'(by rw [h.lenW]; omega)) := by simp
  obtain ⟨b, hbe⟩ : ∃ b, b = c.S.blocks[i] := ⟨_, rfl⟩
  obtain ⟨m, hme⟩ : ∃ m, m = c.T.blocks[i]'(by rw [h.lenT]; omega) := ⟨_, rfl⟩
  obtain ⟨l, hle⟩ : ∃ l, l = c.W[i]'(by rw [h.lenW]; omega) := ⟨_, rfl⟩
  rw [← hbe] at hb
  rw [← hme] at hm
  rw [← hle] at hl
  have mb := List.mem_of_getElem? hb
  have mm := List.mem_of_getElem? hm
  have ml := List.mem_of_getElem? hl
  have hbR : sR[i]? = some b.row := by rw [hsR, List.getElem?_map, hb]; rfl
  have hmR : tR[i]? = some m.row := by rw [htR, List.getElem?_map, hm]; rfl
  have hlR : wR[i]? = some [pairsD l] := by rw [hwR, List.getElem?_map, hl]; rfl
  have gd := h.good mb mm ml 1048576
  obtain ⟨l1, l2, l3⟩ := h.w l ml
  have ck := Jt6h A S C (V := VS) (L := LS) b m l 1048576 (fun q hq => by obtain ⟨a1, a2, a3, a4⟩ := l3 q hq; exact ⟨mem_VS a1 a2, mem_LS a3 a4⟩) (h.vl b mb m mm) VL_few (by omega)
   (by have := h.cs b mb; omega) (by have := h.ct m mm; omega)
  have hbc := Jt6f hb hm hl r
  obtain ⟨x, hx⟩ : ∃ x, x = checkZ b m l 1048576 := ⟨_, rfl⟩
  rw [← hx] at ck gd hbc
  have hTs : T = match blockC c i r with | (r, true) => r | (r, false) => Jt6o c (n - (i + 1)) (i + 1) r := by
   rw [hTi, show n - i = (n - (i + 1)) + 1 by omega]; rfl
  rw [hbc] at hTs
  have hw := Jtr1 (k := i) (by omega)
  have k1 := hok.blocks
  have k2 := hok.edges
  have k3 := hok.steps
  have k4 := hok.lg
  have g1 := gd.len
  have g2 := gd.steps
  have g3 := gd.lg
  obtain ⟨r1, hr1⟩ : ∃ r1, r1 = blockR x r := ⟨_, rfl⟩
  rw [← hr1] at hTs
  have q1 : IntKind.i64.wrap ((r.blocks : Int) + 1) = (r1.blocks : Int) := by rw [hr1]; exact Jtr1 (by omega)
  have q2 : IntKind.i64.wrap ((r.steps : Int) + (x.steps : Int)) = (r1.steps : Int) := by rw [hr1]; exact Jtr0 (by omega)
  have q3 : (if r.largest < x.largest then ((x.largest : Nat) : Int) else ((r.largest : Nat) : Int)) = (r1.largest : Int) := by rw [hr1]; simp only [blockR]; split <;> omega
  have q4 : r1.err = r.err := by rw [hr1]; rfl
  have q5 : r1.block = r.block := by rw [hr1]; rfl
  have q6 : r1.at_ = r.at_ := by rw [hr1]; rfl
  have q7 : r1.edges = r.edges := by rw [hr1]; rfl
  have rin : RepIn i 0 r1 := by
   rw [hr1]
   exact ⟨by simp only [blockR]; omega, by simp only [blockR]; omega, by simp only [blockR]; omega, by simp only [blockR]; omega⟩
  obtain ⟨oR, hoR⟩ : ∃ y, y = x.out.map Pair.row := ⟨_, rfl⟩
  have hol : oR.length = x.out.length := by rw [hoR]; simp
  simp only [pairsD] at hlR
  simp only [Res.av, pairsD, ← hoR] at ck
  (simp (maxSteps := 1000000) [h3, hbR, hmR, hlR, Block.row, MBlock.row])
  (refine Jtx ck (by rfl) (by rfl) ?_)
  (simp (maxSteps := 1000000) [q1, q2, q3])
  ((first | refine Xc (fun h4 => ?_) (fun h4 => ?_) | refine Xo (fun h4 => ?_) (fun h4 => ?_)) <;> (try simp only [Xz, Xy] at h4))
  ·rw [if_pos h4] at hTs
   simp only at hTs
   (simp (maxSteps := 1000000) [])
   (first | exact hR _ _ FrA | exact hR _ _ FnA | exact hR _ _ (Xf (hq := by simp [AV.erase, AV.unview, hTs, Rep.av, q4, q5, q6, q7]; done)))
  rw [if_neg (by simpa using h4)] at hTs
  have cs := Jtnx A b.term
  have hto := h.to b mb
  have htl2 := Jtpi b.term
  obtain ⟨ts, hts⟩ : ∃ t, t = succsZ b.term := ⟨_, rfl⟩
  rw [← hts] at cs hTs hto htl2
  rw [← hn] at hto
  (simp (maxSteps := 1000000) [])
  (refine Jtx cs (by rfl) (by rfl) ?_)
  (simp (maxSteps := 1000000) [])
  refine Jtd (fun s : Nat × Rep => ⟨[(77, AI s.1), (76, AI ts.length), (75, .d (.sl (ts.map fun x => [I x]))), (5, AI i), (7, .ptr 4 0), (28, AI i), (27, AI n), (26, .d (.sl sR)), (1, .ptr 0 0), (2, .ptr 1 0), (4, .ptr 2 0)],
   [.mem [AI c.S.args, AI c.S.regs, .d (.sl sR), AI c.T.args, AI c.T.regs, AI c.T.slots, .d (.sl tR), .d (.sl wR)], .mem [AI 0, AI 0, AI 0, AI 0, AI 0, AI 0, AI 0], .mem [AI s.2.err, AI s.2.block, AI s.2.at_, AI s.2.blocks, AI s.2.edges, AI s.2.steps, AI s.2.largest], .dead, .mem [.d (.sl oR), AI x.err, AI x.at_, AI x.steps, AI x.largest]]⟩)
   (fun s => s.1 ≤ ts.length ∧ RepIn i s.1 s.2 ∧ T = match edgesC c.W x.out i (ts.drop s.1) s.1 s.2 with | (r, true) => r | (r, false) => Jt6o c (n - (i + 1)) (i + 1) r) (fun s => ts.length - s.1) (0, r1) ⟨by omega, rin, hTs⟩ (by simp only [q4, q5, q6, q7]; (exact wkA)) ?_
  rintro ⟨k, t⟩ ⟨hk, hin, hTk⟩ N' hN'
  simp only at hk hin hTk hN'
  (simp (maxSteps := 1000000) [])
  ((first | refine Xc (fun h5 => ?_) (fun h5 => ?_) | refine Xo (fun h5 => ?_) (fun h5 => ?_)) <;> (try simp only [Xz, Xy] at h5))
  ·have hkl : k < ts.length := by simpa using h5
   have ht : ts[k]? = some ts[k] := by simp
   obtain ⟨d1, d2⟩ := hto _ (List.getElem_mem hkl)
   have hdrop : ts.drop k = ts[k] :: ts.drop (k + 1) := List.drop_eq_getElem_cons hkl
   obtain ⟨tn, htn⟩ : ∃ tn : Nat, ts[k] = (tn : Int) := ⟨ts[k].toNat, by omega⟩
   rw [htn] at ht hdrop d2
   have hWt : c.W[tn]? = some (c.W[tn]'(by rw [h.lenW]; omega)) := by simp
   obtain ⟨wt, hwt⟩ : ∃ w, w = c.W[tn]'(by rw [h.lenW]; omega) := ⟨_, rfl⟩
   rw [← hwt] at hWt
   obtain ⟨y1, y2, y3⟩ := h.w wt (List.mem_of_getElem? hWt)
   have hwtR : wR[tn]? = some [.sl (wt.map Pair.row)] := by rw [hwR, List.getElem?_map, hWt]; rfl
   have hgd : (c.W[tn]?).getD [] = wt := by rw [hWt]; rfl
   have ci := Jt8r A x.out wt (by omega) (by omega) gd.srt y1
   rw [hdrop, Jt8w, hgd] at hTk
   have hin2 := hin.edge (out := x.out) (by omega) hWt y2
   obtain ⟨t2, ht2⟩ : ∃ t2, t2 = edgeR c.W x.out tn t := ⟨_, rfl⟩
   rw [← ht2] at hTk hin2
   obtain ⟨b1, hb1⟩ : ∃ b, b = (missP wt x.out).isSome := ⟨_, rfl⟩
   obtain ⟨pr, hpr⟩ : ∃ y, y = (missP wt x.out).getD ⟨0, 0⟩ := ⟨_, rfl⟩
   obtain ⟨mv, hmv⟩ : ∃ y : Int, y = if b1 = true then 22 else 0 := ⟨_, rfl⟩
   simp only [impA, ← hb1, ← hpr, ← hmv, pairsD, ← hoR, Pair.av] at ci
   rw [← hb1] at hTk
   obtain ⟨s1, hs1⟩ : ∃ y, y = t.steps + 1 := ⟨_, rfl⟩
   obtain ⟨s2, hs2⟩ : ∃ y, y = s1 + x.out.length := ⟨_, rfl⟩
   have j1 := hin.edges
   have j2 := hin.steps
   have p1 : IntKind.i64.wrap ((t.edges : Int) + 1) = (t2.edges : Int) := by rw [ht2]; exact Jtr1 (by omega)
   have p2 : IntKind.i64.wrap ((t.steps : Int) + 1) = (s1 : Int) := by rw [hs1]; exact Jtr1 (by omega)
   have p3 : IntKind.i64.wrap ((s1 : Int) + (x.out.length : Int)) = (s2 : Int) := by rw [hs2]; exact Jtr0 (by omega)
   have p4 : IntKind.i64.wrap ((s2 : Int) + (wt.length : Int)) = (t2.steps : Int) := by rw [ht2]; simp only [edgeR, hgd]; rw [hs2, hs1]; exact Jtr0 (by omega)
   have p5 : t2.err = t.err := by rw [ht2]; rfl
   have p6 : t2.block = t.block := by rw [ht2]; rfl
   have p7 : t2.at_ = t.at_ := by rw [ht2]; rfl
   have p8 : t2.blocks = t.blocks := by rw [ht2]; rfl
   have p9 : t2.largest = t.largest := by rw [ht2]; rfl
   have hwk := Jtr1 (k := k) (by omega)
   (simp (maxSteps := 1000000) [h5, ht, htn, hwtR, hol, p1, p2, p3, p4])
   (refine Jtx ci (by rfl) (by rfl) ?_)
   (simp (maxSteps := 1000000) [])
   ((first | refine Xc (fun h6 => ?_) (fun h6 => ?_) | refine Xo (fun h6 => ?_) (fun h6 => ?_)) <;> (try simp only [Xz, Xy] at h6))
   ·have hb1t : b1 = true := by
     cases b1 with
     | true => rfl
     | false => exfalso; apply h6; rw [hmv]; rfl
    rw [hb1t] at hmv hTk
    simp only [if_true] at hmv hTk
    rw [hmv]
    (simp (maxSteps := 1000000) [])
    (first | exact hR _ _ FrA | exact hR _ _ FnA | exact hR _ _ (Xf (hq := by simp [AV.erase, AV.unview, hTk, Rep.av, p5, p6, p7, p8, p9]; done)))
   ·have hb1f : b1 = false := by
     cases b1 with
     | false => rfl
     | true => exfalso; rw [hmv] at h6; simp at h6
    rw [hb1f] at hTk
    simp only [Bool.false_eq_true, if_false] at hTk
    (simp (maxSteps := 1000000) [hwk])
    exact hN' _ (k + 1, t2) ⟨hkl, hin2, hTk⟩ (by simp only [p5, p6, p7, p8, p9]; (exact wkA)) (by simp only; omega)
  ·have hkl : k = ts.length := by simp at h5; omega
   subst hkl
   rw [List.drop_length] at hTk
   have hTk' : T = Jt6o c (n - (i + 1)) (i + 1) t := hTk
   (simp (maxSteps := 1000000) [hw])
   exact hN _ (i + 1, t) ⟨hil, hin.out htl2, hTk'⟩ (by (exact wkA)) (by simp only; omega)
 ·have hk : i = n := by simp at h3; omega
  subst hk
  rw [Nat.sub_self] at hTi
  have hTi' : T = r := hTi
  (simp (maxSteps := 1000000) [])
  (first | exact hR _ _ FrA | exact hR _ _ FnA | exact hR _ _ (Xf (hq := by simp [AV.erase, AV.unview, hTi', Rep.av]; done)))
theorem Jt7l {P : Program} {p : Nums} (A : All P p) (S : SortOk P p) (C : ClosOk P p) (c : Cert) (ok : okCert c) (hf : fewC c = true) : Jt3x P p.checker_Check [c.av] [] fun o _ => o = .ret (Jtli c).av :=
 Jt7m A S C c ok fun h => fit_of h hf
end
end Go.AE
set_option maxRecDepth 4000
namespace Go.AE
open Go
section
end
end Go.AE
set_option maxRecDepth 4000
namespace Go.AE
open Go
def succN (bs : List Block) : Nat := (bs.map fun b => (succsZ b.term).length).sum
theorem Jtpg {bs : List Block} {k : Nat} {b : Block} (h : bs[k]? = some b) : succN (bs.take (k + 1)) = succN (bs.take k) + (succsZ b.term).length := by
 rw [List.take_add_one, h]; simp [succN]
theorem Jtpf (bs : List Block) : succN bs ≤ 2 * bs.length := by
 induction bs with
 | nil => simp [succN]
 | cons b bs ih =>
  have := Jtpi b.term
  simp only [succN, List.map_cons, List.sum_cons, List.length_cons] at *
  omega
theorem Jtph (bs : List Block) (k : Nat) : succN (bs.take k) ≤ 2 * bs.length := by
 have := Jtpf (bs.take k)
 have h2 : (bs.take k).length ≤ bs.length := by simp [List.length_take]; omega
 omega
def boundN (c : Cert) : Nat := codeN c.S.blocks + mcodeN c.T.blocks + c.S.blocks.length + 1 + succN c.S.blocks
theorem Jtiq {c : Cert} (hf : fewC c = true) (h2 : ∀ b ∈ c.T.blocks, okM b) (hw : okW c.W) : okCert c := by
 simp only [fewC, few, fewM, fewW, Bool.and_eq_true, decide_eq_true_eq, List.all_eq_true] at hf
 obtain ⟨⟨⟨⟨⟨f1, f2⟩, f3⟩, f4⟩, ⟨⟨⟨⟨f5, f6⟩, f7⟩, f8⟩, f9⟩⟩, f10, f11⟩ := hf
 have hwt : ∀ w : List (List Pair), (∀ l ∈ w, l.length ≤ 400) → wTotal w ≤ 400 * w.length := by
  intro w
  induction w with
  | nil => intro _; simp [wTotal]
  | cons l w ih =>
   intro h
   have h1 := h l (by simp)
   have h3 := ih fun l hl => h l (by simp [hl])
   simp only [wTotal, List.map_cons, List.sum_cons, List.length_cons] at *
   omega
 have := hwt c.W f11
 exact ⟨by omega, by omega, by omega, by omega, h2, by omega, by omega, hw⟩
def endT : Term := ⟨3, 0, 0, 0⟩
def exC : Cert := ⟨⟨0, 1, [⟨[], endT⟩]⟩, ⟨0, 1, 0, [⟨[], endT⟩]⟩, [[]]⟩
def exD : Cert := ⟨⟨0, 1, [⟨[], endT⟩]⟩, ⟨0, 1, 0, [⟨[], endT⟩]⟩, [[⟨0, 0⟩]]⟩
def exE : Cert := ⟨⟨0, 0, []⟩, ⟨0, 0, 0, []⟩, []⟩
section
theorem Jt7k {P : Program} {p : Nums} (A : All P p) (c : Cert) (g : Nat) (h0 : codeN c.S.blocks ≤ 1000000) (h1 : mcodeN c.T.blocks ≤ 1000000) (h2 : c.S.blocks.length ≤ 1000000) (h3 : c.T.blocks.length ≤ 1000000) (hg : g ≤ 1000000) :
  Jt3x P p.checker_Bound [c.av, AI g] [] fun o _ => o = .ret (AI ((3 * boundN c * (g + 1) : Nat) : Int)) := by
 have c1 := Jtnv A c.S (by omega) (by omega)
 have c2 := Jtgu A c.T (by omega) (by omega)
 obtain ⟨n1, hn1⟩ : ∃ n, n = codeN c.S.blocks := ⟨_, rfl⟩
 obtain ⟨n2, hn2⟩ : ∃ n, n = mcodeN c.T.blocks := ⟨_, rfl⟩
 obtain ⟨K, hK⟩ : ∃ K, K = 3 * boundN c * (g + 1) := ⟨_, rfl⟩
 rw [← hK]
 unfold boundN at hK
 rw [← hn1] at c1 h0 hK
 rw [← hn2] at c2 h1 hK
 obtain ⟨sR, hsR⟩ : ∃ x, x = c.S.blocks.map Block.row := ⟨_, rfl⟩
 obtain ⟨tR, htR⟩ : ∃ x, x = c.T.blocks.map MBlock.row := ⟨_, rfl⟩
 have hsl : sR.length = c.S.blocks.length := by rw [hsR]; simp
 simp only [Func.av, MFunc.av, ← hsR, ← htR] at c1 c2
 obtain ⟨n, hn⟩ : ∃ n, n = c.S.blocks.length := ⟨_, rfl⟩
 rw [← hn] at hsl h2 hK
 obtain ⟨m1, hm1⟩ : ∃ m, m = n1 + n2 := ⟨_, rfl⟩
 obtain ⟨m2, hm2⟩ : ∃ m, m = m1 + n := ⟨_, rfl⟩
 obtain ⟨m3, hm3⟩ : ∃ m, m = m2 + 1 := ⟨_, rfl⟩
 have w1 : IntKind.i64.wrap ((n1 : Int) + (n2 : Int)) = (m1 : Int) := by rw [hm1]; exact Jtr0 (by omega)
 have w2 : IntKind.i64.wrap ((m1 : Int) + (n : Int)) = (m2 : Int) := by rw [hm2]; exact Jtr0 (by omega)
 have w3 : IntKind.i64.wrap ((m2 : Int) + 1) = (m3 : Int) := by rw [hm3]; exact Jtr1 (by omega)
 refine A.checker_Bound.run rfl fun R hR => ?_
 simp only [Cert.av, ← hsR, ← htR]
 (simp (maxSteps := 1000000) [Jtcd])
 (refine Jtx c1 (by rfl) (by rfl) ?_)
 (simp (maxSteps := 1000000) [])
 (refine Jtx c2 (by rfl) (by rfl) ?_)
 (simp (maxSteps := 1000000) [hsl, w1, w2, w3])
 obtain ⟨F, hF⟩ : ∃ F : Nat → Nat, ∀ k, F k = m3 + succN (c.S.blocks.take k) := ⟨_, fun _ => rfl⟩
 have hF0 : F 0 = m3 := by rw [hF]; simp [succN]
 refine Jtd (fun k : Nat => ⟨[(25, AI k), (24, AI n), (23, .d (.sl sR)), (5, AI (F k)), (1, AI g)], []⟩) (fun k => k ≤ n) (fun k => n - k) 0 (by omega) (by rw [hF0]; (exact wkA)) ?_
 intro k hk N hN
 (simp (maxSteps := 1000000) [])
 ((first | refine Xc (fun h4 => ?_) (fun h4 => ?_) | refine Xo (fun h4 => ?_) (fun h4 => ?_)) <;> (try simp only [Xz, Xy] at h4))
 ·have hkl : k < n := by omega
  obtain ⟨b, hb⟩ : ∃ b, c.S.blocks[k]? = some b := ⟨_, List.getElem?_eq_getElem (by omega)⟩
  have hbR : sR[k]? = some b.row := by rw [hsR, List.getElem?_map, hb]; rfl
  have hw := Jtr1 (k := k) (by omega)
  have hs := Jtpg hb
  have hst := Jtph c.S.blocks (k + 1)
  have hsu := Jtpi b.term
  obtain ⟨ts, hts⟩ : ∃ t, t = succsZ b.term := ⟨_, rfl⟩
  have cs := Jtnx A b.term
  rw [← hts] at cs hs hsu
  have hw2 : IntKind.i64.wrap ((F k : Int) + (ts.length : Int)) = (F (k + 1) : Int) := by
   have h7 := hF k
   have h8 := hF (k + 1)
   have : F (k + 1) = F k + ts.length := by omega
   rw [this]; exact Jtr0 (by omega)
  (simp (maxSteps := 1000000) [h4, hbR, Block.row])
  (refine Jtx cs (by rfl) (by rfl) ?_)
  (simp (maxSteps := 1000000) [hw, hw2])
  exact hN _ (k + 1) hkl (by (exact wkA)) (by omega)
 ·have hk' : k = n := by omega
  subst hk'
  have htk : succN (c.S.blocks.take k) = succN c.S.blocks := by rw [hn, List.take_length]
  have hsu := Jtpf c.S.blocks
  obtain ⟨q, hq⟩ : ∃ q, q = F k := ⟨_, rfl⟩
  have hFk := hF k
  rw [htk] at hFk
  obtain ⟨q3, hq3⟩ : ∃ q3, q3 = 3 * q := ⟨_, rfl⟩
  have hK' : K = q3 * (g + 1) := by rw [hK, hq3]; congr 1; omega
  have hqb : q3 * (g + 1) ≤ 20000000 * 1000001 := Nat.mul_le_mul (by omega) (by omega)
  have u1 : IntKind.i64.wrap (3 * (q : Int)) = (q3 : Int) := by rw [hq3, wrap_i64 (by omega) (by omega)]; omega
  have u2 : IntKind.i64.wrap ((g : Int) + 1) = ((g + 1 : Nat) : Int) := Jtr1 (by omega)
  obtain ⟨g1, hg1⟩ : ∃ g1, g1 = g + 1 := ⟨_, rfl⟩
  rw [← hg1] at hK' hqb u2
  have u3 : IntKind.i64.wrap ((q3 : Int) * (g1 : Int)) = (K : Int) := by
   rw [hK', ← Int.natCast_mul]; exact wrap_i64 (by omega) (by omega)
  rw [← hq]
  (simp (maxSteps := 1000000) [u1, u2, u3])
  (first | exact hR _ _ FrA | exact hR _ _ FnA)
end
section
theorem Jtfl {P : Program} {p : Nums} (A : All P p) (S : SortOk P p) (C : ClosOk P p) : Jt3x P p.law16_awake [] [] fun o _ => o = .ret (AB true) := by
 have okm : ∀ b ∈ [(⟨[], endT⟩ : MBlock)], okM b := by intro b hb; simp at hb; subst hb; intro x hx; simp at hx
 have o1 : okCert exC := Jtiq (by decide) okm (by intro l hl; simp [exC] at hl; subst hl; intro q hq; simp at hq)
 have o2 : okCert exD := Jtiq (by decide) okm (by intro l hl; simp [exD] at hl; subst hl; intro q hq; simp at hq; subst hq; constructor <;> decide)
 have o3 : okCert exE := Jtiq (by decide) (by intro b hb; simp [exE] at hb) (by intro l hl; simp [exE] at hl)
 have h1 := Jt7l A S C exC o1 (by decide)
 have h2 := Jt7l A S C exD o2 (by decide)
 have h3 := Jt7l A S C exE o3 (by decide)
 have v1 := Jt7n A exC o1
 have v3 := Jt7n A exE o3
 have b1 := Jt7k A exD 1 (by decide) (by decide) (by decide) (by decide) (by decide)
 have e1 : Jtli exC = ⟨21, 0, 0, 1, 0, 2, 0⟩ := by decide +kernel
 have e2 : Jtli exD = ⟨0, 0, 0, 1, 0, 4, 1⟩ := by decide +kernel
 have e3 : Jtli exE = ⟨14, 0, 0, 0, 0, 0, 0⟩ := by decide +kernel
 have e4 : validZ exC = 0 := by decide +kernel
 have e5 : validZ exE = 14 := by decide +kernel
 have e6 : 3 * boundN exD * (1 + 1) = 12 := by decide +kernel
 rw [e1] at h1
 rw [e2] at h2
 rw [e3] at h3
 rw [e4] at v1
 rw [e5] at v3
 rw [e6] at b1
 simp only [Rep.av] at h1 h2 h3
 refine A.law16_awake.run rfl fun R hR => ?_
 (simp (maxSteps := 1000000) [Jtd2])
 (refine Jtx h1 (by rfl) (by rfl) ?_)
 (simp (maxSteps := 1000000) [])
 (refine Jtx h2 (by rfl) (by rfl) ?_)
 (simp (maxSteps := 1000000) [])
 (refine Jtx v1 (by rfl) (by rfl) ?_)
 (simp (maxSteps := 1000000) [])
 (refine Jty v3 (by rfl) (by (exact wkvA)) (by rfl) ?_)
 (simp (maxSteps := 1000000) [])
 (refine Jtx b1 (by rfl) (by rfl) ?_)
 (simp (maxSteps := 1000000) [])
 (refine Jty h3 (by rfl) (by (exact wkvA)) (by rfl) ?_)
 (simp (maxSteps := 1000000) [])
 (first | exact hR _ _ FrA | exact hR _ _ FnA)
end
end Go.AE
set_option maxRecDepth 4000
namespace Go.AE
open Go
section
end
def ltCert : List LT := [ltI, ltI, .sl Jtgm, ltI, ltI, ltI, .sl Jtgo, .sl [.sl ltPair]]
theorem Jthc {rows : List (List D)} (h : ∀ r ∈ rows, HasL Jtgo r) : ∃ l : List MBlock, rows = l.map MBlock.row ∧ ∀ x ∈ l, okM x := by
 induction rows with
 | nil => exact ⟨[], rfl, by simp⟩
 | cons r rows ih =>
  obtain ⟨a, rfl, ha⟩ := Jthb (h r (by simp))
  obtain ⟨l, rfl, hb⟩ := ih fun r hr => h r (by simp [hr])
  refine ⟨a :: l, rfl, fun n hn => ?_⟩
  rcases List.mem_cons.1 hn with rfl | hn
  ·exact ha
  ·exact hb n hn
theorem Jtj5 {r : List D} (h : HasL ltPair r) : ∃ q : Pair, r = q.row ∧ okZ q.l := by
 obtain ⟨_, _, rfl, h0, h⟩ := h.cons_inv
 obtain ⟨_, _, rfl, h1, h⟩ := h.cons_inv
 obtain rfl := h.nil_inv
 obtain ⟨a, rfl, _⟩ := h0.int_inv
 obtain ⟨b, rfl, o1⟩ := Jtf2 h1
 exact ⟨⟨a, b⟩, rfl, o1⟩
theorem Jtj6 {rows : List (List D)} (h : ∀ r ∈ rows, HasL ltPair r) : ∃ l : List Pair, rows = l.map Pair.row ∧ ∀ x ∈ l, okZ x.l := by
 induction rows with
 | nil => exact ⟨[], rfl, by simp⟩
 | cons r rows ih =>
  obtain ⟨a, rfl, ha⟩ := Jtj5 (h r (by simp))
  obtain ⟨l, rfl, hb⟩ := ih fun r hr => h r (by simp [hr])
  refine ⟨a :: l, rfl, fun n hn => ?_⟩
  rcases List.mem_cons.1 hn with rfl | hn
  ·exact ha
  ·exact hb n hn
theorem Jtqs {rows : List (List D)} (h : ∀ r ∈ rows, HasL [.sl ltPair] r) : ∃ w : List (List Pair), rows = w.map (fun l => [pairsD l]) ∧ okW w := by
 induction rows with
 | nil => exact ⟨[], rfl, by intro l hl; simp at hl⟩
 | cons r rows ih =>
  obtain ⟨_, _, rfl, h0, h1⟩ := (h r (by simp)).cons_inv
  obtain rfl := h1.nil_inv
  obtain ⟨rs, rfl, _, hr⟩ := h0.sl_inv
  obtain ⟨l, rfl, hok⟩ := Jtj6 hr
  obtain ⟨w, rfl, hb⟩ := ih fun r hr => h r (by simp [hr])
  refine ⟨l :: w, rfl, fun n hn => ?_⟩
  rcases List.mem_cons.1 hn with rfl | hn
  ·exact hok
  ·exact hb n hn
theorem Jt7d {ds : List D} (h : HasL ltCert ds) : ∃ c : Cert, .agg (ds.map AV.d) = c.av ∧ ((∀ b ∈ c.T.blocks, okM b) ∧ okW c.W) := by
 obtain ⟨_, _, rfl, h0, h⟩ := h.cons_inv
 obtain ⟨_, _, rfl, h1, h⟩ := h.cons_inv
 obtain ⟨_, _, rfl, h2, h⟩ := h.cons_inv
 obtain ⟨_, _, rfl, h3, h⟩ := h.cons_inv
 obtain ⟨_, _, rfl, h4, h⟩ := h.cons_inv
 obtain ⟨_, _, rfl, h5, h⟩ := h.cons_inv
 obtain ⟨_, _, rfl, h6, h⟩ := h.cons_inv
 obtain ⟨_, _, rfl, h7, h⟩ := h.cons_inv
 obtain rfl := h.nil_inv
 obtain ⟨sa, rfl, _⟩ := h0.int_inv
 obtain ⟨sr, rfl, _⟩ := h1.int_inv
 obtain ⟨rows, rfl, _, hr⟩ := h2.sl_inv
 obtain ⟨sb, rfl⟩ := Jtm5 (fun r hr => Jt6g hr) hr
 obtain ⟨ta, rfl, _⟩ := h3.int_inv
 obtain ⟨tr, rfl, _⟩ := h4.int_inv
 obtain ⟨ts, rfl, _⟩ := h5.int_inv
 obtain ⟨rows, rfl, _, hr⟩ := h6.sl_inv
 obtain ⟨tb, rfl, hm⟩ := Jthc hr
 obtain ⟨rows, rfl, _, hr⟩ := h7.sl_inv
 obtain ⟨w, rfl, hw⟩ := Jtqs hr
 exact ⟨⟨⟨sa, sr, sb⟩, ⟨ta, tr, ts, tb⟩, w⟩, rfl, hm, hw⟩
end Go.AE
set_option maxRecDepth 4000
namespace Go.AE
open Go
structure EdgeT (r : Rep) (n A : Nat) (R : Rep × Bool) : Prop where
 blocks : R.1.blocks = r.blocks
 lg : R.1.largest = r.largest
 edges : R.1.edges ≤ r.edges + n
 steps : R.1.steps ≤ (A + 2 * R.1.edges) * (R.1.largest + 1)
 bad : R.2 = true → R.1.err ≠ 0
 good : R.2 = false → R.1.edges = r.edges + n ∧ R.1.err = 0
def costN (c : Cert) (i : Nat) : Nat := 1 + 3 * mcodeN (c.T.blocks.take i) + codeN (c.S.blocks.take i) + i
structure OnceI (c : Cert) (i : Nat) (r : Rep) : Prop where
 blocks : r.blocks = i
 edges : r.edges = succN (c.S.blocks.take i)
 steps : r.steps ≤ (costN c i + 2 * r.edges) * (r.largest + 1)
 lg : mostW c.W ≤ r.largest
 lg2 : r.largest < 100000
 err : r.err = 0
structure OnceT (c : Cert) (T : Rep) : Prop where
 blocks : T.blocks ≤ c.S.blocks.length
 edges : T.edges ≤ succN c.S.blocks
 steps : T.steps ≤ 3 * boundN c * (T.largest + 1)
 lg : T.largest < 100000
 done : T.err = 0 → T.blocks = c.S.blocks.length ∧ T.edges = succN c.S.blocks
end Go.AE
set_option maxRecDepth 4000
namespace Go.AE
open Go
def N23 (r : CR) : Prop := ∀ e, r.2 = some e → e.1 ≠ 23
theorem N23.same {s : CS} : N23 (s, none) := fun e he => by cases he
theorem N23.then {r : CR} {f : CS → CR} (h : N23 r) (hf : ∀ s, N23 (f s)) : N23 (thenC r f) := by
 obtain ⟨s, e⟩ := r
 cases e with
 | some e => exact h
 | none => exact hf s
theorem N23.become {most : Int} {s : CS} {l : List Pair} {at_ : Int} : N23 (Jt6b most s l at_) := by
 intro e he
 unfold Jt6b at he
 simp only at he
 split at he
 ·injection he with he; subst he; simp
 ·cases he
theorem N23.use {s : CS} {v t at_ : Int} : N23 (useC s v t at_) := by
 intro e he
 unfold useC at he
 simp only at he
 split at he
 ·cases he
 ·injection he with he; subst he; simp
theorem Jt85 {most at_ : Int} : ∀ {l : List Instr} {s : CS}, N23 (copyC most at_ l s) := by
 intro l
 induction l with
 | nil => intro s; exact .same
 | cons i l ih => intro s; exact N23.then .become fun s => ih
theorem Jti9 {most : Int} : ∀ {l : List Mach} {k : Nat} {s : CS}, N23 (moveC most k l s) := by
 intro l
 induction l with
 | nil => intro k s; exact .same
 | cons i l ih => intro k s; exact N23.then .become fun s => ih
theorem Jtes {most : Int} {i : Instr} {x : Mach} {at_ : Int} {s : CS} : N23 (instrC most s i x at_) := by
 unfold instrC
 refine N23.then ?_ fun s => N23.then ?_ fun s => ?_
 ·split
  ·exact .use
  ·exact .same
 ·split
  ·exact .use
  ·exact .same
 ·split
  ·exact .become
  ·exact .same
theorem Jtlo {most : Int} {b : List Instr} {m : List Mach} {r : ARow} {s : CS} : N23 (rowC most b m r s) := by
 unfold rowC
 refine N23.then Jt85 fun s => N23.then Jti9 fun s => ?_
 unfold lastC
 split
 ·split
  ·exact Jtes
  ·exact .same
 ·exact .same
theorem Jtlz {most : Int} {b : List Instr} {m : List Mach} : ∀ {rs : List ARow} {s : CS}, N23 (rowsC most b m rs s) := by
 intro rs
 induction rs with
 | nil => intro s; exact .same
 | cons r rs ih => intro s; exact N23.then Jtlo fun s => ih
theorem Jtm6 {most : Int} {b : Block} {m : MBlock} {rs : List ARow} {s : CS} : N23 (runC most b m rs s) := by
 unfold runC
 refine N23.then Jtlz fun s => ?_
 split
 ·exact .same
 ·exact .use
theorem Jt4t {code : List Instr} {mach : List Mach} : ∀ {f i k : Nat} {rows : List ARow}, (alignS code mach f i k rows).2.2 = 0 ∨ (alignS code mach f i k rows).2.2 = 20 := by
 intro f
 induction f with
 | zero => intro i k rows; exact .inr rfl
 | succ f ih =>
  intro i k rows
  unfold alignS
  split
  ·exact .inl rfl
  ·split
   ·split
    ·exact ih
    ·exact .inr rfl
   ·exact .inr rfl
theorem Jt7e (b : Block) (m : MBlock) (l : List Pair) (most : Int) : (checkZ b m l most).err ≠ 23 := by
 unfold checkZ
 split
 ·show (24 : Int) ≠ 23; decide
 ·have ha : (alignZ b.code m.code).2.2 = 0 ∨ (alignZ b.code m.code).2.2 = 20 := Jt4t
  by_cases h2 : (if (alignZ b.code m.code).2.2 = 0 ∧ termsZ b.term m.term = false then 20 else (alignZ b.code m.code).2.2) ≠ 0
  ·simp only [if_pos h2]
   split
   ·decide
   ·rcases ha with h | h <;> rw [h] <;> decide
  ·simp only [if_neg h2]
   have hr := Jtm6 (most := most) (b := b) (m := m) (rs := (alignZ b.code m.code).1) (s := ⟨makeP l, 0, l.length⟩)
   generalize runC most b m (alignZ b.code m.code).1 ⟨makeP l, 0, l.length⟩ = r at hr
   obtain ⟨t, e⟩ := r
   cases e with
   | none => show (0 : Int) ≠ 23; decide
   | some e => exact hr e rfl
def hasE (w : List (List Pair)) (out : List Pair) (to : Int) : Bool := !(missP ((w[to.toNat]?).getD []) out).isSome
def blkOk (c : Cert) (i : Nat) : Bool := match c.S.blocks[i]?, c.T.blocks[i]?, c.W[i]? with
 | some b, some m, some l => decide ((checkZ b m l 1048576).err = 0) && (succsZ b.term).all (hasE c.W (checkZ b m l 1048576).out)
 | _, _, _ => false
def okTo (c : Cert) (i : Nat) : Bool := (List.range i).all (blkOk c)
theorem Jtis (c : Cert) (i : Nat) : okTo c (i + 1) = (okTo c i && blkOk c i) := by simp [okTo, List.range_succ]
theorem Jtir {c : Cert} {i n : Nat} (h : blkOk c i = false) (hi : i < n) : okTo c n = false := by
 rw [← Bool.not_eq_true]; unfold okTo; rw [List.all_eq_true]
 intro h'
 have := h' i (List.mem_range.2 hi)
 rw [h] at this; cases this
theorem Jt6e {c : Cert} {i : Nat} {b : Block} {m : MBlock} {l : List Pair} (hb : c.S.blocks[i]? = some b) (hm : c.T.blocks[i]? = some m) (hl : c.W[i]? = some l) : blkOk c i = (decide ((checkZ b m l 1048576).err = 0) && (succsZ b.term).all (hasE c.W (checkZ b m l 1048576).out)) := by
 unfold blkOk; rw [hb, hm, hl]
theorem Jt8z {w : List (List Pair)} {out : List Pair} {i : Nat} : ∀ {ts : List Int} {k : Nat} {r : Rep}, (∀ x ∈ ts, 0 ≤ x) → r.err = 0 →
  (edgesC w out i ts k r).2 = !ts.all (hasE w out) ∧ ((edgesC w out i ts k r).2 = true → (edgesC w out i ts k r).1.err = 22) ∧ ((edgesC w out i ts k r).2 = false → (edgesC w out i ts k r).1.err = 0) := by
 intro ts
 induction ts with
 | nil => intro k r _ h; exact ⟨rfl, fun h => (by cases h), fun _ => h⟩
 | cons t ts ih =>
  intro k r h1 h2
  have ht := h1 t (by simp)
  obtain ⟨tn, rfl⟩ : ∃ n : Nat, t = (n : Int) := ⟨t.toNat, by omega⟩
  rw [Jt8w]
  have e : hasE w out (tn : Int) = !(missP ((w[tn]?).getD []) out).isSome := rfl
  rw [List.all_cons, e]
  cases hx : (missP ((w[tn]?).getD []) out).isSome with
  | true => exact ⟨rfl, fun _ => rfl, fun h => (by cases h)⟩
  | false => simpa using ih (k := k + 1) (r := edgeR w out tn r) (fun x hx => h1 x (by simp [hx])) h2
theorem Jt6p {c : Cert} (h : Fit c) : ∀ (n i : Nat) (r : Rep), i + n = c.S.blocks.length → r.err = 0 → okTo c i = true → (Jt6o c n i r).err ≠ 23 ∧ ((Jt6o c n i r).err = 0 ↔ okTo c c.S.blocks.length = true) := by
 intro n
 induction n with
 | zero =>
  intro i r hi hr ho
  have hi' : i = c.S.blocks.length := by omega
  subst hi'
  exact ⟨by show r.err ≠ 23; rw [hr]; decide, fun _ => ho, fun _ => hr⟩
 | succ n ih =>
  intro i r hi hr ho
  have hlT := h.lenT
  have hlW := h.lenW
  obtain ⟨b, hb⟩ : ∃ b, c.S.blocks[i]? = some b := ⟨_, List.getElem?_eq_getElem (by omega)⟩
  obtain ⟨m, hm⟩ : ∃ b, c.T.blocks[i]? = some b := ⟨_, List.getElem?_eq_getElem (by omega)⟩
  obtain ⟨l, hl⟩ : ∃ b, c.W[i]? = some b := ⟨_, List.getElem?_eq_getElem (by omega)⟩
  have hbc := Jt6f hb hm hl r
  have hbo := Jt6e hb hm hl
  have h23 := Jt7e b m l 1048576
  have hto := h.to b (List.mem_of_getElem? hb)
  obtain ⟨x, hx⟩ : ∃ x, x = checkZ b m l 1048576 := ⟨_, rfl⟩
  rw [← hx] at hbc hbo h23
  have hT : Jt6o c (n + 1) i r = match blockC c i r with | (r, true) => r | (r, false) => Jt6o c n (i + 1) r := rfl
  rw [hT, hbc]
  by_cases hxe : x.err ≠ 0
  ·rw [if_pos hxe]
   have hof : okTo c c.S.blocks.length = false := Jtir (i := i) (by rw [hbo]; simp [hxe]) (by omega)
   exact ⟨h23, fun h0 => absurd h0 hxe, fun h0 => by rw [hof] at h0; cases h0⟩
  ·rw [if_neg hxe]
   have hx0 : x.err = 0 := by simpa using hxe
   have et := Jt8z (w := c.W) (out := x.out) (i := i) (ts := succsZ b.term) (k := 0) (r := blockR x r) (fun y hy => (hto y hy).1) hr
   obtain ⟨R, hR⟩ : ∃ R, R = edgesC c.W x.out i (succsZ b.term) 0 (blockR x r) := ⟨_, rfl⟩
   rw [← hR] at et ⊢
   obtain ⟨t, bad⟩ := R
   obtain ⟨t1, t2, t3⟩ := et
   simp only at t1 t2 t3
   cases bad with
   | true =>
    have ha : (succsZ b.term).all (hasE c.W x.out) = false := by rw [← Bool.not_eq_true']; exact t1.symm
    have hof : okTo c c.S.blocks.length = false := Jtir (i := i) (by rw [hbo, ha, Bool.and_false]) (by omega)
    have e22 := t2 rfl
    exact ⟨by show t.err ≠ 23; rw [e22]; decide, fun h0 => (by have : t.err = 0 := h0; rw [e22] at this; cases this), fun h0 => by rw [hof] at h0; cases h0⟩
   | false =>
    have ha : (succsZ b.term).all (hasE c.W x.out) = true := by rw [← Bool.not_eq_false']; exact t1.symm
    exact ih (i + 1) t (by omega) (t3 rfl) (by rw [Jtis, ho, hbo, ha, hx0]; rfl)
theorem Jtgc {c : Cert} (h : Fit c) (hv : validZ c = 0) : ((Jtli c).err = 23 → (Jtli c).blocks = 0) ∧ ((Jtli c).err ≠ 23 → ((Jtli c).err = 0 ↔ okTo c c.S.blocks.length = true)) := by
 unfold Jtli
 rw [if_neg (by simp [hv])]
 by_cases h1 : ((w0 c).all fun q => initZ q c.S.args) = false
 ·rw [if_pos h1]; exact ⟨fun _ => rfl, fun h => absurd rfl h⟩
 ·rw [if_neg h1]
  obtain ⟨a1, a2⟩ := Jt6p h c.S.blocks.length 0 (rep0 c) (by omega) rfl rfl
  exact ⟨fun h => absurd h a1, fun _ => a2⟩
end Go.AE
set_option maxRecDepth 4000
namespace Go.AE
open Go
section
end
structure Nums2 (V L : List Int) (s : CS) (σ τ : Int → Nat) (N : Nat) : Prop where
 over : Over V L s.set
 σb : ∀ v, σ v < N
 τb : ∀ x, τ x < N
 all : ∀ v ∈ V, ∀ x ∈ L, σ v = τ x → (⟨v, x⟩ : Pair) ∈ s.set
def upd (f : Int → Nat) (d : Int) (n : Nat) : Int → Nat := fun x => if x = d then n else f x
theorem Jtqk {f : Int → Nat} {d : Int} {n : Nat} : upd f d n d = n := by simp [upd]
theorem upd_ne {f : Int → Nat} {d x : Int} {n : Nat} (h : x ≠ d) : upd f d n x = f x := by simp [upd, h]
def runCv (σ : Int → Nat) : List Instr → Int → Nat
 | [] => σ
 | i :: is => runCv (upd σ i.d (σ i.a)) is
def runMv (τ : Int → Nat) : List Mach → Int → Nat
 | [] => τ
 | m :: ms => runMv (upd τ m.dst (τ m.src)) ms
theorem Jtmi {τ : Int → Nat} : ∀ {a b : List Mach}, runMv τ (a ++ b) = runMv (runMv τ a) b := by
 intro a
 induction a generalizing τ with
 | nil => intro b; rfl
 | cons m a ih => intro b; exact ih
section
variable {V L : List Int} {most : Int}
theorem fits (few : V.length * L.length < 100000) (hm : 100000 ≤ most) {l : List Pair} (h : Over V L l) : ¬ ((l.length : Int) > most) := by
 have := h.len
 omega
theorem Nums2.copy (few : V.length * L.length < 100000) (hm : 100000 ≤ most) {s : CS} {σ τ : Int → Nat} {N : Nat} (h : Nums2 V L s σ τ N) {d a : Int} (hd : d ∈ V) (ha : a ∈ V) (at_ : Int) :
  ∃ s', Jt6b most (costC s) (copyP s.set d a) at_ = (s', none) ∧ Nums2 V L s' (upd σ d (σ a)) τ N := by
 have ho := h.over.copy (a := a) hd
 refine ⟨_, by unfold Jt6b; rw [if_neg (fits few hm ho)], ⟨ho, fun v => ?_, h.τb, fun v hv x hx hvx => ?_⟩⟩
 ·unfold upd; split
  ·exact h.σb a
  ·exact h.σb v
 ·show (⟨v, x⟩ : Pair) ∈ copyP s.set d a
  rw [Jthj]
  by_cases hvd : v = d
  ·subst hvd
   rw [Jtqk] at hvx
   exact .inr ⟨rfl, h.all a ha x hx hvx⟩
  ·rw [upd_ne hvd] at hvx
   exact .inl ⟨h.all v hv x hx hvx, .inr hvd⟩
theorem Nums2.move (few : V.length * L.length < 100000) (hm : 100000 ≤ most) {s : CS} {σ τ : Int → Nat} {N : Nat} (h : Nums2 V L s σ τ N) {d a : Int} (hd : d ∈ L) (ha : a ∈ L) (at_ : Int) :
  ∃ s', Jt6b most (costC s) (moveP s.set d a) at_ = (s', none) ∧ Nums2 V L s' σ (upd τ d (τ a)) N := by
 have ho := h.over.move (a := a) hd
 refine ⟨_, by unfold Jt6b; rw [if_neg (fits few hm ho)], ⟨ho, h.σb, fun v => ?_, fun v hv x hx hvx => ?_⟩⟩
 ·unfold upd; split
  ·exact h.τb a
  ·exact h.τb v
 ·show (⟨v, x⟩ : Pair) ∈ moveP s.set d a
  rw [Jthn]
  by_cases hxd : x = d
  ·subst hxd
   rw [Jtqk] at hvx
   exact .inr ⟨rfl, h.all v hv a ha hvx⟩
  ·rw [upd_ne hxd] at hvx
   exact .inl ⟨h.all v hv x hx hvx, .inr hxd⟩
theorem Nums2.define (few : V.length * L.length < 100000) (hm : 100000 ≤ most) {s : CS} {σ τ : Int → Nat} {N : Nat} (h : Nums2 V L s σ τ N) {d t : Int} (hd : d ∈ V) (ht : t ∈ L) (at_ : Int) :
  ∃ s', Jt6b most (costC s) (defP s.set d t) at_ = (s', none) ∧ Nums2 V L s' (upd σ d N) (upd τ t N) (N + 1) := by
 have ho := h.over.define hd ht
 refine ⟨_, by unfold Jt6b; rw [if_neg (fits few hm ho)], ⟨ho, fun v => ?_, fun v => ?_, fun v hv x hx hvx => ?_⟩⟩
 ·unfold upd; split
  ·omega
  ·have := h.σb v; omega
 ·unfold upd; split
  ·omega
  ·have := h.τb v; omega
 ·show (⟨v, x⟩ : Pair) ∈ defP s.set d t
  rw [Jthk]
  by_cases hvd : v = d
  ·subst hvd
   rw [Jtqk] at hvx
   by_cases hxt : x = t
   ·subst hxt; exact .inl rfl
   ·rw [upd_ne hxt] at hvx; have := h.τb x; omega
  ·rw [upd_ne hvd] at hvx
   by_cases hxt : x = t
   ·subst hxt; rw [Jtqk] at hvx; have := h.σb v; omega
   ·rw [upd_ne hxt] at hvx
    exact .inr ⟨h.all v hv x hx hvx, hvd, hxt⟩
theorem Nums2.use {s : CS} {σ τ : Int → Nat} {N : Nat} (h : Nums2 V L s σ τ N) {v t : Int} (hv : v ∈ V) (ht : t ∈ L) (he : σ v = τ t) (at_ : Int) : ∃ s', useC s v t at_ = (s', none) ∧ Nums2 V L s' σ τ N :=
 ⟨costC s, by unfold useC; rw [if_pos (h.all v hv t ht he)], ⟨h.over, h.σb, h.τb, h.all⟩⟩
theorem Nums2.copies (few : V.length * L.length < 100000) (hm : 100000 ≤ most) {τ : Int → Nat} {N : Nat} {at_ : Int} : ∀ {l : List Instr}, (∀ i ∈ l, i.d ∈ V ∧ i.a ∈ V) → ∀ {s : CS} {σ : Int → Nat}, Nums2 V L s σ τ N →
  ∃ s', copyC most at_ l s = (s', none) ∧ Nums2 V L s' (runCv σ l) τ N := by
 intro l
 induction l with
 | nil => intro _ s σ h; exact ⟨s, rfl, h⟩
 | cons i l ih =>
  intro hl s σ h
  obtain ⟨s1, e1, h1⟩ := h.copy few hm (hl i (by simp)).1 (hl i (by simp)).2 at_
  obtain ⟨s2, e2, h2⟩ := ih (fun x hx => hl x (by simp [hx])) h1
  exact ⟨s2, by show thenC (Jt6b most (costC s) (copyP s.set i.d i.a) at_) (copyC most at_ l) = _; rw [e1]; exact e2, h2⟩
theorem Nums2.moves (few : V.length * L.length < 100000) (hm : 100000 ≤ most) {σ : Int → Nat} {N : Nat} : ∀ {l : List Mach}, (∀ i ∈ l, i.dst ∈ L ∧ i.src ∈ L) → ∀ {k : Nat} {s : CS} {τ : Int → Nat}, Nums2 V L s σ τ N →
  ∃ s', moveC most k l s = (s', none) ∧ Nums2 V L s' σ (runMv τ l) N := by
 intro l
 induction l with
 | nil => intro _ k s τ h; exact ⟨s, rfl, h⟩
 | cons i l ih =>
  intro hl k s τ h
  obtain ⟨s1, e1, h1⟩ := h.move few hm (hl i (by simp)).1 (hl i (by simp)).2 k
  obtain ⟨s2, e2, h2⟩ := ih (fun x hx => hl x (by simp [hx])) (k := k + 1) h1
  exact ⟨s2, by show thenC (Jt6b most (costC s) (moveP s.set i.dst i.src) k) (moveC most (k + 1) l) = _; rw [e1]; exact e2, h2⟩
end
def Sy (n : Nat) (σ τ : Int → Nat) : Prop := ∀ v : Int, 0 ≤ v → v < n → σ v = τ (2 * v + 1)
theorem Sy.load {n : Nat} {σ τ : Int → Nat} (h : Sy n σ τ) {r : Int} (hr : r = 0 ∨ r = 2) (x : Nat) : Sy n σ (upd τ r x) := by
 intro v h0 h1
 rw [upd_ne (by omega)]; exact h v h0 h1
theorem Sy.store {n : Nat} {σ τ : Int → Nat} (h : Sy n σ τ) {d : Int} (x : Nat) : Sy n (upd σ d x) (upd τ (2 * d + 1) x) := by
 intro v h0 h1
 by_cases hd : v = d
 ·subst hd; rw [Jtqk, Jtqk]
 ·rw [upd_ne hd, upd_ne (by omega)]; exact h v h0 h1
theorem Sy.copies {n : Nat} : ∀ {l : List Instr} {σ τ : Int → Nat}, (∀ i ∈ l, i.op = 2 ∧ (0 ≤ i.a ∧ i.a < n) ∧ slotZ i.a = 2 * i.a + 1 ∧ slotZ i.d = 2 * i.d + 1) → Sy n σ τ → Sy n (runCv σ l) (runMv τ (spCode l)) := by
 intro l
 induction l with
 | nil => intro σ τ _ h; exact h
 | cons i l ih =>
  intro σ τ hl h
  obtain ⟨h1, ⟨h2, h3⟩, h4, h5⟩ := hl i (by simp)
  have e : spCode (i :: l) = [mvM (regZ 0) (slotZ i.a), mvM (slotZ i.d) (regZ 0)] ++ spCode l := by
   simp only [spCode, List.flatMap_cons, Jto3, h1]
   rfl
  rw [e, Jtmi]
  refine ih (fun x hx => hl x (by simp [hx])) ?_
  have r0 : regZ 0 = 0 := by decide
  show Sy n (upd σ i.d (σ i.a)) (upd (upd τ (regZ 0) (τ (slotZ i.a))) (slotZ i.d) (upd τ (regZ 0) (τ (slotZ i.a)) (regZ 0)))
  rw [Jtqk, h4, h5, r0, ← h i.a h2 h3]
  exact (h.load (.inl rfl) _).store _
structure InOk (n : Nat) (i : Instr) : Prop where
 a : usesA i.op = true → (0 ≤ i.a ∧ i.a < n) ∧ slotZ i.a = 2 * i.a + 1
 b : usesB i.op = true → (0 ≤ i.b ∧ i.b < n) ∧ slotZ i.b = 2 * i.b + 1
 d : usesD i.op = true → (0 ≤ i.d ∧ i.d < n) ∧ slotZ i.d = 2 * i.d + 1
theorem Jtnl {v : Int} (h0 : 0 ≤ v) (h1 : v ≤ 1000000) : slotZ v = 2 * v + 1 := by
 have e : IntKind.i64.wrap (2 * v) = 2 * v := wrap_i64 (by omega) (by omega)
 unfold slotZ; rw [e]; exact wrap_i64 (by omega) (by omega)
theorem Jter {i : Instr} {n : Nat} (hn : n ≤ 60) (h : Jtkl i (n : Int) = 0) : (1 ≤ i.op ∧ i.op ≤ 17) ∧ InOk n i := by
 unfold Jtkl at h
 split at h
 ·cases h
 rename_i h8
 split at h
 ·cases h
 rename_i h9
 refine ⟨by omega, ?_⟩
 simp only [bad9, Bool.or_eq_true, Bool.and_eq_true, not_or, not_and, Bool.not_eq_true', Bool.not_eq_false, inZ, decide_eq_true_eq] at h9
 obtain ⟨⟨d, a⟩, b⟩ := h9
 exact ⟨fun h => ⟨a h, Jtnl (a h).1 (by have := (a h).2; omega)⟩, fun h => ⟨b h, Jtnl (b h).1 (by have := (b h).2; omega)⟩, fun h => ⟨d h, Jtnl (d h).1 (by have := (d h).2; omega)⟩⟩
theorem Jtpt {t : Term} {regs blocks : Int} (h : Jtkr t regs blocks = 0) (hk : t.kind ≠ 1) : 0 ≤ t.a ∧ t.a < regs := by
 have key : ¬ (inZ t.a regs = false) → 0 ≤ t.a ∧ t.a < regs := fun h => by simpa [inZ] using h
 unfold Jtkr at h
 rw [if_neg hk] at h
 split at h
 ·split at h
  ·cases h
  ·rename_i h2; exact key h2
 ·split at h
  ·split at h
   ·cases h
   ·rename_i h2; exact key h2
  ·cases h
end Go.AE
set_option maxRecDepth 4000
namespace Go.AE
open Go
end Go.AE
set_option maxRecDepth 4000
namespace Go.AE
open Go
section
end
section
end
@[simp] theorem Jtas {K : ASt → Prop} {st : ASt} {n b off : Nat} {cells : List AV} {v : Opd} {b' o' e' l' : Nat} : goS3 K st n b off cells v (some (.hsl b' o' e' l')) ↔ 1 = n ∧ off + n ≤ cells.length ∧ K ⟨unview st.env, st.H.set b (.mem (spl cells off [.hsl b' o' e' l']))⟩ := by
 cases v <;> simp [goS3, AV.erase, AV.cells, AV.leaf]
@[simp] theorem Jtaw {K : ASt → Prop} {st : ASt} {n b off : Nat} {cells : List AV} {v : Opd} {q : Place} {e : Nat} {rows : List (List D)} : goS3 K st n b off cells v (some (.view q e rows)) ↔ 1 = n ∧ off + n ≤ cells.length ∧ K ⟨unview st.env, st.H.set b (.mem (spl cells off [.d (.sl rows)]))⟩ := by
 cases v <;> simp [goS3, AV.erase, AV.cells, AV.leaf]
def shN (b : Int) : Nat := (IntKind.u64.wrap (bits .and .i64 b 63)).toNat
theorem Jtqe (n : Int) : 0 ≤ IntKind.u64.wrap n := by
 have := IntKind.wrap_u64 n
 omega
def aluB (op a b : Int) : Int :=
 if op = 5 then IntKind.i64.wrap (a + b)
 else if op = 6 then IntKind.i64.wrap (a - b)
 else if op = 7 then IntKind.i64.wrap (a * b)
 else if op = 8 then IntKind.i64.wrap (a.tdiv b)
 else if op = 9 then a.tmod b
 else if op = 10 then bits .and .i64 a b
 else if op = 11 then bits .or .i64 a b
 else if op = 12 then bits .xor .i64 a b
 else if op = 13 then IntKind.i64.wrap (a * 2 ^ min (shN b) 64)
 else if op = 14 then a.fdiv (2 ^ min (shN b) 64)
 else if op = 15 then (if a = b then 1 else 0)
 else if op = 16 then (if a < b then 1 else 0)
 else 0
def aluZ (op a b imm : Int) : Int × Bool :=
 if op = 1 then (imm, true) else if op = 2 then (a, true) else if op = 3 then (IntKind.i64.wrap (0 - a), true) else if op = 4 then (bits .xor .i64 (-1) a, true)
 else if 5 ≤ op ∧ op < 17 then (if (op = 8 ∨ op = 9) ∧ b = 0 then (0, false) else (aluB op a b, true)) else (0, false)
section
theorem Jt5y {P : Program} {p : Nums} (A : All P p) (t : Bool) : Jt3x P p.alu_truth [AB t] [] fun o _ => o = .ret (AI (if t = true then 1 else 0)) := by
 refine A.alu_truth.run rfl fun R hR => ?_
 cases t
 ·(simp (maxSteps := 1000000) [Jtc3])
  (first | exact hR _ _ FrA | exact hR _ _ FnA)
 ·(simp (maxSteps := 1000000) [Jtc3])
  (first | exact hR _ _ FrA | exact hR _ _ FnA)
theorem Jt5p {P : Program} {p : Nums} (A : All P p) (a b : Int) : Jt3x P p.alu_operation_1 [AI a, AI b] [] fun o _ => o = .ret (AI (IntKind.i64.wrap (a + b))) := by
 refine A.alu_operation_1.run rfl fun R hR => ?_
 (simp (maxSteps := 1000000) [Jtbr])
 (first | exact hR _ _ FrA | exact hR _ _ FnA)
theorem Jt5q {P : Program} {p : Nums} (A : All P p) (a b : Int) : Jt3x P p.alu_operation_2 [AI a, AI b] [] fun o _ => o = .ret (AI (IntKind.i64.wrap (a - b))) := by
 refine A.alu_operation_2.run rfl fun R hR => ?_
 (simp (maxSteps := 1000000) [Jtbv])
 (first | exact hR _ _ FrA | exact hR _ _ FnA)
theorem Jt5r {P : Program} {p : Nums} (A : All P p) (a b : Int) : Jt3x P p.alu_operation_3 [AI a, AI b] [] fun o _ => o = .ret (AI (IntKind.i64.wrap (a * b))) := by
 refine A.alu_operation_3.run rfl fun R hR => ?_
 (simp (maxSteps := 1000000) [Jtbw])
 (first | exact hR _ _ FrA | exact hR _ _ FnA)
theorem Jt5s {P : Program} {p : Nums} (A : All P p) (a b : Int) (hb : b ≠ 0) : Jt3x P p.alu_operation_4 [AI a, AI b] [] fun o _ => o = .ret (AI (IntKind.i64.wrap (a.tdiv b))) := by
 refine A.alu_operation_4.run rfl fun R hR => ?_
 (simp (maxSteps := 1000000) [Jtbx, hb])
 (first | exact hR _ _ FrA | exact hR _ _ FnA)
theorem Jt5t {P : Program} {p : Nums} (A : All P p) (a b : Int) (hb : b ≠ 0) : Jt3x P p.alu_operation_5 [AI a, AI b] [] fun o _ => o = .ret (AI (a.tmod b)) := by
 refine A.alu_operation_5.run rfl fun R hR => ?_
 (simp (maxSteps := 1000000) [Jtby, hb])
 (first | exact hR _ _ FrA | exact hR _ _ FnA)
theorem Jt5u {P : Program} {p : Nums} (A : All P p) (a b : Int) : Jt3x P p.alu_operation_6 [AI a, AI b] [] fun o _ => o = .ret (AI (bits .and .i64 a b)) := by
 refine A.alu_operation_6.run rfl fun R hR => ?_
 (simp (maxSteps := 1000000) [Jtbz])
 (first | exact hR _ _ FrA | exact hR _ _ FnA)
theorem Jt5v {P : Program} {p : Nums} (A : All P p) (a b : Int) : Jt3x P p.alu_operation_7 [AI a, AI b] [] fun o _ => o = .ret (AI (bits .or .i64 a b)) := by
 refine A.alu_operation_7.run rfl fun R hR => ?_
 (simp (maxSteps := 1000000) [Jtc0])
 (first | exact hR _ _ FrA | exact hR _ _ FnA)
theorem Jt5w {P : Program} {p : Nums} (A : All P p) (a b : Int) : Jt3x P p.alu_operation_8 [AI a, AI b] [] fun o _ => o = .ret (AI (bits .xor .i64 a b)) := by
 refine A.alu_operation_8.run rfl fun R hR => ?_
 (simp (maxSteps := 1000000) [Jtc1])
 (first | exact hR _ _ FrA | exact hR _ _ FnA)
theorem Jt5x {P : Program} {p : Nums} (A : All P p) (a b : Int) : Jt3x P p.alu_operation_9 [AI a, AI b] [] fun o _ => o = .ret (AI (IntKind.i64.wrap (a * 2 ^ min (shN b) 64))) := by
 refine A.alu_operation_9.run rfl fun R hR => ?_
 have hn : ¬ IntKind.u64.wrap (bits .and .i64 b 63) < 0 := by have := Jtqe (bits .and .i64 b 63); omega
 (simp (maxSteps := 1000000) [Jtc2, hn])
 (first | exact hR _ _ FrA | exact hR _ _ FnA | exact hR _ _ (Xf (hq := by simp [AV.erase, AV.unview, shN]; done)))
theorem Jt5m {P : Program} {p : Nums} (A : All P p) (a b : Int) : Jt3x P p.alu_operation_10 [AI a, AI b] [] fun o _ => o = .ret (AI (a.fdiv (2 ^ min (shN b) 64))) := by
 refine A.alu_operation_10.run rfl fun R hR => ?_
 have hn : ¬ IntKind.u64.wrap (bits .and .i64 b 63) < 0 := by have := Jtqe (bits .and .i64 b 63); omega
 (simp (maxSteps := 1000000) [Jtbs, hn])
 (first | exact hR _ _ FrA | exact hR _ _ FnA | exact hR _ _ (Xf (hq := by simp [AV.erase, AV.unview, shN]; done)))
theorem Jt5n {P : Program} {p : Nums} (A : All P p) (a b : Int) : Jt3x P p.alu_operation_11 [AI a, AI b] [] fun o _ => o = .ret (AI ((if a = b then 1 else 0))) := by
 refine A.alu_operation_11.run rfl fun R hR => ?_
 (simp (maxSteps := 1000000) [Jtbt])
 (refine Jtx (Jt5y A (a == b)) (by rfl) (by rfl) ?_)
 (simp (maxSteps := 1000000) [])
 (first | exact hR _ _ FrA | exact hR _ _ FnA)
theorem Jt5o {P : Program} {p : Nums} (A : All P p) (a b : Int) : Jt3x P p.alu_operation_12 [AI a, AI b] [] fun o _ => o = .ret (AI ((if a < b then 1 else 0))) := by
 refine A.alu_operation_12.run rfl fun R hR => ?_
 (simp (maxSteps := 1000000) [Jtbu])
 (refine Jtx (Jt5y A (decide (a < b))) (by rfl) (by rfl) ?_)
 (simp (maxSteps := 1000000) [])
 (first | exact hR _ _ FrA | exact hR _ _ FnA)
theorem Jt5c {P : Program} {p : Nums} (A : All P p) : Jt3x P p.alu_operation [AI 5] [] fun o _ => o = .ret (.tup [.agg [.fn (.func p.alu_operation_1) [] [], AB false], AB true]) := by
 refine A.alu_operation.run rfl fun R hR => ?_
 (simp (maxSteps := 1000000) [Jtbq])
 (first | exact hR _ _ FrA | exact hR _ _ FnA)
theorem Jt5d {P : Program} {p : Nums} (A : All P p) : Jt3x P p.alu_operation [AI 6] [] fun o _ => o = .ret (.tup [.agg [.fn (.func p.alu_operation_2) [] [], AB false], AB true]) := by
 refine A.alu_operation.run rfl fun R hR => ?_
 (simp (maxSteps := 1000000) [Jtbq])
 (first | exact hR _ _ FrA | exact hR _ _ FnA)
theorem Jt5e {P : Program} {p : Nums} (A : All P p) : Jt3x P p.alu_operation [AI 7] [] fun o _ => o = .ret (.tup [.agg [.fn (.func p.alu_operation_3) [] [], AB false], AB true]) := by
 refine A.alu_operation.run rfl fun R hR => ?_
 (simp (maxSteps := 1000000) [Jtbq])
 (first | exact hR _ _ FrA | exact hR _ _ FnA)
theorem Jt5f {P : Program} {p : Nums} (A : All P p) : Jt3x P p.alu_operation [AI 8] [] fun o _ => o = .ret (.tup [.agg [.fn (.func p.alu_operation_4) [] [], AB true], AB true]) := by
 refine A.alu_operation.run rfl fun R hR => ?_
 (simp (maxSteps := 1000000) [Jtbq])
 (first | exact hR _ _ FrA | exact hR _ _ FnA)
theorem Jt5g {P : Program} {p : Nums} (A : All P p) : Jt3x P p.alu_operation [AI 9] [] fun o _ => o = .ret (.tup [.agg [.fn (.func p.alu_operation_5) [] [], AB true], AB true]) := by
 refine A.alu_operation.run rfl fun R hR => ?_
 (simp (maxSteps := 1000000) [Jtbq])
 (first | exact hR _ _ FrA | exact hR _ _ FnA)
theorem Jt5h {P : Program} {p : Nums} (A : All P p) : Jt3x P p.alu_operation [AI 10] [] fun o _ => o = .ret (.tup [.agg [.fn (.func p.alu_operation_6) [] [], AB false], AB true]) := by
 refine A.alu_operation.run rfl fun R hR => ?_
 (simp (maxSteps := 1000000) [Jtbq])
 (first | exact hR _ _ FrA | exact hR _ _ FnA)
theorem Jt5i {P : Program} {p : Nums} (A : All P p) : Jt3x P p.alu_operation [AI 11] [] fun o _ => o = .ret (.tup [.agg [.fn (.func p.alu_operation_7) [] [], AB false], AB true]) := by
 refine A.alu_operation.run rfl fun R hR => ?_
 (simp (maxSteps := 1000000) [Jtbq])
 (first | exact hR _ _ FrA | exact hR _ _ FnA)
theorem Jt5j {P : Program} {p : Nums} (A : All P p) : Jt3x P p.alu_operation [AI 12] [] fun o _ => o = .ret (.tup [.agg [.fn (.func p.alu_operation_8) [] [], AB false], AB true]) := by
 refine A.alu_operation.run rfl fun R hR => ?_
 (simp (maxSteps := 1000000) [Jtbq])
 (first | exact hR _ _ FrA | exact hR _ _ FnA)
theorem Jt5k {P : Program} {p : Nums} (A : All P p) : Jt3x P p.alu_operation [AI 13] [] fun o _ => o = .ret (.tup [.agg [.fn (.func p.alu_operation_9) [] [], AB false], AB true]) := by
 refine A.alu_operation.run rfl fun R hR => ?_
 (simp (maxSteps := 1000000) [Jtbq])
 (first | exact hR _ _ FrA | exact hR _ _ FnA)
theorem Jt59 {P : Program} {p : Nums} (A : All P p) : Jt3x P p.alu_operation [AI 14] [] fun o _ => o = .ret (.tup [.agg [.fn (.func p.alu_operation_10) [] [], AB false], AB true]) := by
 refine A.alu_operation.run rfl fun R hR => ?_
 (simp (maxSteps := 1000000) [Jtbq])
 (first | exact hR _ _ FrA | exact hR _ _ FnA)
theorem Jt5a {P : Program} {p : Nums} (A : All P p) : Jt3x P p.alu_operation [AI 15] [] fun o _ => o = .ret (.tup [.agg [.fn (.func p.alu_operation_11) [] [], AB false], AB true]) := by
 refine A.alu_operation.run rfl fun R hR => ?_
 (simp (maxSteps := 1000000) [Jtbq])
 (first | exact hR _ _ FrA | exact hR _ _ FnA)
theorem Jt5b {P : Program} {p : Nums} (A : All P p) : Jt3x P p.alu_operation [AI 16] [] fun o _ => o = .ret (.tup [.agg [.fn (.func p.alu_operation_12) [] [], AB false], AB true]) := by
 refine A.alu_operation.run rfl fun R hR => ?_
 (simp (maxSteps := 1000000) [Jtbq])
 (first | exact hR _ _ FrA | exact hR _ _ FnA)
theorem Jt5l {P : Program} {p : Nums} (A : All P p) (op : Int) (h : op < 5 ∨ 17 ≤ op) : Jt3x P p.alu_operation [AI op] [] fun o _ => o = .ret (.tup [.agg [.nilfn, AB false], AB false]) := by
 refine A.alu_operation.run rfl fun R hR => ?_
 (simp (maxSteps := 1000000) [Jtbq])
 ((first | refine Xc (fun h1 => ?_) (fun h1 => ?_) | refine Xo (fun h1 => ?_) (fun h1 => ?_)) <;> (try simp only [Xz, Xy] at h1))
 ·(simp (maxSteps := 1000000) [h1])
  (first | exact hR _ _ FrA | exact hR _ _ FnA)
 ·(simp (maxSteps := 1000000) [h1])
  ((first | refine Xc (fun h2 => ?_) (fun h2 => ?_) | refine Xo (fun h2 => ?_) (fun h2 => ?_)) <;> (try simp only [Xz, Xy] at h2))
  ·(simp (maxSteps := 1000000) [h2])
   (first | exact hR _ _ FrA | exact hR _ _ FnA)
  ·exfalso; omega
end
structure RunZ where (state : Int) (block at_ : Nat) (value : Int) (regs slots trace : List Int) (steps : Nat)
def RunZ.av (r : RunZ) : AV := .agg [AI r.state, AI r.block, AI r.at_, AI r.value, .d (intsD r.regs), .d (intsD r.slots), .d (intsD r.trace), AI r.steps]
def gI (l : List Int) (n : Int) : Int := l.getD n.toNat 0
def setI (l : List Int) (n v : Int) : List Int := l.set n.toNat v
def stepI (i : Instr) (r : RunZ) : RunZ :=
 if i.op = 17 then { r with trace := r.trace ++ [gI r.regs i.a], at_ := r.at_ + 1, steps := r.steps + 1 }
 else if (aluZ i.op (gI r.regs i.a) (gI r.regs i.b) i.imm).2 = true then { r with regs := setI r.regs i.d (aluZ i.op (gI r.regs i.a) (gI r.regs i.b) i.imm).1, at_ := r.at_ + 1, steps := r.steps + 1 }
 else { r with state := 2 }
def stepT (t : Term) (r : RunZ) : RunZ :=
 if t.kind = 3 then { r with steps := r.steps + 1, state := 1, value := gI r.regs t.a }
 else if t.kind = 2 ∧ gI r.regs t.a = 0 then { r with steps := r.steps + 1, block := t.els.toNat, at_ := 0 }
 else { r with steps := r.steps + 1, block := t.to.toNat, at_ := 0 }
def stepS (f : Func) (r : RunZ) : RunZ := match f.blocks[r.block]? with
 | none => r
 | some b => match b.code[r.at_]? with
  | some i => stepI i r
  | none => stepT b.term r
theorem Jtf1 (l : List Int) : ∀ r ∈ l.map intRow, r.length = 1 := Jtm4 fun x => rfl
theorem flatI (l : List Int) : (l.map intRow).flatten = l.map fun x => D.int .i64 x := by
 induction l with
 | nil => rfl
 | cons x l ih => rw [List.map_cons, List.flatten_cons, ih]; rfl
theorem cellI {l : List Int} {n : Int} (h0 : 0 ≤ n) (h1 : n < l.length) : (Jtlr (l.map intRow))[n.toNat]? = some (AI (gI l n)) := by
 have h : n.toNat < l.length := by omega
 unfold Jtlr
 rw [flatI]
 simp [gI, h, List.getD_eq_getElem?_getD]
theorem lenI (l : List Int) : (Jtlr (l.map intRow)).length = l.length := by rw [Jtlw (Jtf1 l)]; simp
theorem Jtmt {l : List Int} {n v : Int} (h0 : 0 ≤ n) (h1 : n < l.length) : spl (Jtlr (l.map intRow)) n.toNat [AI v] = Jtlr ((setI l n v).map intRow) := by
 have := Jto6 (Jtf1 l) (row := [.int .i64 v]) rfl (k := n.toNat) (by simp; omega)
 rw [Nat.mul_one] at this
 unfold setI
 rw [List.map_set]; exact this
theorem Jtmu (l : List Int) (n v : Int) : (setI l n v).length = l.length := by simp [setI]
def stB (f : Func) (r : RunZ) : Blk := .mem [AI r.state, AI r.block, AI r.at_, AI r.value, .hsl 1 0 1 r.regs.length, .nils, .own 1 (r.trace.map intRow), AI r.steps, AI f.args, AI f.regs, .d (.sl (f.blocks.map Block.row))]
def regB (r : RunZ) : Blk := .mem (Jtlr (r.regs.map intRow))
section
theorem Jt58 {P : Program} {p : Nums} (A : All P p) (op a b imm : Int) : Jt3x P p.alu_Eval [AI op, AI a, AI b, AI imm] [] fun o _ => o = .ret (.tup [AI (aluZ op a b imm).1, AB (aluZ op a b imm).2]) := by
 refine A.alu_Eval.run rfl fun R hR => ?_
 by_cases h1 : op = 1
 ·subst h1
  (simp (maxSteps := 1000000) [Jtbp])
  (first | exact hR _ _ FrA | exact hR _ _ FnA | exact hR _ _ (Xf (hq := by simp [AV.erase, AV.unview, aluZ]; done)))
 by_cases h2 : op = 2
 ·subst h2
  (simp (maxSteps := 1000000) [Jtbp])
  (first | exact hR _ _ FrA | exact hR _ _ FnA | exact hR _ _ (Xf (hq := by simp [AV.erase, AV.unview, aluZ]; done)))
 by_cases h3 : op = 3
 ·subst h3
  (simp (maxSteps := 1000000) [Jtbp])
  (first | exact hR _ _ FrA | exact hR _ _ FnA | exact hR _ _ (Xf (hq := by simp [AV.erase, AV.unview, aluZ]; done)))
 by_cases h4 : op = 4
 ·subst h4
  (simp (maxSteps := 1000000) [Jtbp])
  (first | exact hR _ _ FrA | exact hR _ _ FnA | exact hR _ _ (Xf (hq := by simp [AV.erase, AV.unview, aluZ]; done)))
 by_cases h5 : op < 5 ∨ 17 ≤ op
 ·have n1 : (op == 1) = false := by simpa using h1
  have n2 : (op == 2) = false := by simpa using h2
  have n3 : (op == 3) = false := by simpa using h3
  have n4 : (op == 4) = false := by simpa using h4
  have hz : aluZ op a b imm = (0, false) := by unfold aluZ; rw [if_neg h1, if_neg h2, if_neg h3, if_neg h4, if_neg (by omega)]
  (simp (maxSteps := 1000000) [Jtbp, n1, n2, n3, n4])
  (refine Jtx (Jt5l A op h5) (by rfl) (by rfl) ?_)
  (simp (maxSteps := 1000000) [])
  (first | exact hR _ _ FrA | exact hR _ _ FnA | exact hR _ _ (Xf (hq := by simp [AV.erase, AV.unview, hz]; done)))
 have hop : op = 5 ∨ op = 6 ∨ op = 7 ∨ op = 8 ∨ op = 9 ∨ op = 10 ∨ op = 11 ∨ op = 12 ∨ op = 13 ∨ op = 14 ∨ op = 15 ∨ op = 16 := by omega
 rcases hop with rfl | rfl | rfl | rfl | rfl | rfl | rfl | rfl | rfl | rfl | rfl | rfl
 ·(simp (maxSteps := 1000000) [Jtbp])
  (refine Jtx (Jt5c A) (by rfl) (by rfl) ?_)
  (simp (maxSteps := 1000000) [])
  refine ⟨A.alu_operation_1.ok, ?_⟩
  (refine Jtx (Jt5p A a b) (by rfl) (by rfl) ?_)
  (simp (maxSteps := 1000000) [])
  (first | exact hR _ _ FrA | exact hR _ _ FnA | exact hR _ _ (Xf (hq := by simp [AV.erase, AV.unview, aluZ, aluB]; done)))
 ·(simp (maxSteps := 1000000) [Jtbp])
  (refine Jtx (Jt5d A) (by rfl) (by rfl) ?_)
  (simp (maxSteps := 1000000) [])
  refine ⟨A.alu_operation_2.ok, ?_⟩
  (refine Jtx (Jt5q A a b) (by rfl) (by rfl) ?_)
  (simp (maxSteps := 1000000) [])
  (first | exact hR _ _ FrA | exact hR _ _ FnA | exact hR _ _ (Xf (hq := by simp [AV.erase, AV.unview, aluZ, aluB]; done)))
 ·(simp (maxSteps := 1000000) [Jtbp])
  (refine Jtx (Jt5e A) (by rfl) (by rfl) ?_)
  (simp (maxSteps := 1000000) [])
  refine ⟨A.alu_operation_3.ok, ?_⟩
  (refine Jtx (Jt5r A a b) (by rfl) (by rfl) ?_)
  (simp (maxSteps := 1000000) [])
  (first | exact hR _ _ FrA | exact hR _ _ FnA | exact hR _ _ (Xf (hq := by simp [AV.erase, AV.unview, aluZ, aluB]; done)))
 ·by_cases hb : b = 0
  ·subst hb
   (simp (maxSteps := 1000000) [Jtbp])
   (refine Jtx (Jt5f A) (by rfl) (by rfl) ?_)
   (simp (maxSteps := 1000000) [])
   (first | exact hR _ _ FrA | exact hR _ _ FnA | exact hR _ _ (Xf (hq := by simp [AV.erase, AV.unview, aluZ]; done)))
  ·have hbb : (b == 0) = false := by simpa using hb
   (simp (maxSteps := 1000000) [Jtbp])
   (refine Jtx (Jt5f A) (by rfl) (by rfl) ?_)
   (simp (maxSteps := 1000000) [hbb])
   refine ⟨A.alu_operation_4.ok, ?_⟩
   (refine Jtx (Jt5s A a b hb) (by rfl) (by rfl) ?_)
   (simp (maxSteps := 1000000) [])
   (first | exact hR _ _ FrA | exact hR _ _ FnA | exact hR _ _ (Xf (hq := by simp [AV.erase, AV.unview, aluZ, aluB, hb]; done)))
 ·by_cases hb : b = 0
  ·subst hb
   (simp (maxSteps := 1000000) [Jtbp])
   (refine Jtx (Jt5g A) (by rfl) (by rfl) ?_)
   (simp (maxSteps := 1000000) [])
   (first | exact hR _ _ FrA | exact hR _ _ FnA | exact hR _ _ (Xf (hq := by simp [AV.erase, AV.unview, aluZ]; done)))
  ·have hbb : (b == 0) = false := by simpa using hb
   (simp (maxSteps := 1000000) [Jtbp])
   (refine Jtx (Jt5g A) (by rfl) (by rfl) ?_)
   (simp (maxSteps := 1000000) [hbb])
   refine ⟨A.alu_operation_5.ok, ?_⟩
   (refine Jtx (Jt5t A a b hb) (by rfl) (by rfl) ?_)
   (simp (maxSteps := 1000000) [])
   (first | exact hR _ _ FrA | exact hR _ _ FnA | exact hR _ _ (Xf (hq := by simp [AV.erase, AV.unview, aluZ, aluB, hb]; done)))
 ·(simp (maxSteps := 1000000) [Jtbp])
  (refine Jtx (Jt5h A) (by rfl) (by rfl) ?_)
  (simp (maxSteps := 1000000) [])
  refine ⟨A.alu_operation_6.ok, ?_⟩
  (refine Jtx (Jt5u A a b) (by rfl) (by rfl) ?_)
  (simp (maxSteps := 1000000) [])
  (first | exact hR _ _ FrA | exact hR _ _ FnA | exact hR _ _ (Xf (hq := by simp [AV.erase, AV.unview, aluZ, aluB]; done)))
 ·(simp (maxSteps := 1000000) [Jtbp])
  (refine Jtx (Jt5i A) (by rfl) (by rfl) ?_)
  (simp (maxSteps := 1000000) [])
  refine ⟨A.alu_operation_7.ok, ?_⟩
  (refine Jtx (Jt5v A a b) (by rfl) (by rfl) ?_)
  (simp (maxSteps := 1000000) [])
  (first | exact hR _ _ FrA | exact hR _ _ FnA | exact hR _ _ (Xf (hq := by simp [AV.erase, AV.unview, aluZ, aluB]; done)))
 ·(simp (maxSteps := 1000000) [Jtbp])
  (refine Jtx (Jt5j A) (by rfl) (by rfl) ?_)
  (simp (maxSteps := 1000000) [])
  refine ⟨A.alu_operation_8.ok, ?_⟩
  (refine Jtx (Jt5w A a b) (by rfl) (by rfl) ?_)
  (simp (maxSteps := 1000000) [])
  (first | exact hR _ _ FrA | exact hR _ _ FnA | exact hR _ _ (Xf (hq := by simp [AV.erase, AV.unview, aluZ, aluB]; done)))
 ·(simp (maxSteps := 1000000) [Jtbp])
  (refine Jtx (Jt5k A) (by rfl) (by rfl) ?_)
  (simp (maxSteps := 1000000) [])
  refine ⟨A.alu_operation_9.ok, ?_⟩
  (refine Jtx (Jt5x A a b) (by rfl) (by rfl) ?_)
  (simp (maxSteps := 1000000) [])
  (first | exact hR _ _ FrA | exact hR _ _ FnA | exact hR _ _ (Xf (hq := by simp [AV.erase, AV.unview, aluZ, aluB]; done)))
 ·(simp (maxSteps := 1000000) [Jtbp])
  (refine Jtx (Jt59 A) (by rfl) (by rfl) ?_)
  (simp (maxSteps := 1000000) [])
  refine ⟨A.alu_operation_10.ok, ?_⟩
  (refine Jtx (Jt5m A a b) (by rfl) (by rfl) ?_)
  (simp (maxSteps := 1000000) [])
  (first | exact hR _ _ FrA | exact hR _ _ FnA | exact hR _ _ (Xf (hq := by simp [AV.erase, AV.unview, aluZ, aluB]; done)))
 ·(simp (maxSteps := 1000000) [Jtbp])
  (refine Jtx (Jt5a A) (by rfl) (by rfl) ?_)
  (simp (maxSteps := 1000000) [])
  refine ⟨A.alu_operation_11.ok, ?_⟩
  (refine Jtx (Jt5n A a b) (by rfl) (by rfl) ?_)
  (simp (maxSteps := 1000000) [])
  (first | exact hR _ _ FrA | exact hR _ _ FnA | exact hR _ _ (Xf (hq := by simp [AV.erase, AV.unview, aluZ, aluB]; done)))
 ·(simp (maxSteps := 1000000) [Jtbp])
  (refine Jtx (Jt5b A) (by rfl) (by rfl) ?_)
  (simp (maxSteps := 1000000) [])
  refine ⟨A.alu_operation_12.ok, ?_⟩
  (refine Jtx (Jt5o A a b) (by rfl) (by rfl) ?_)
  (simp (maxSteps := 1000000) [])
  (first | exact hR _ _ FrA | exact hR _ _ FnA | exact hR _ _ (Xf (hq := by simp [AV.erase, AV.unview, aluZ, aluB]; done)))
end
end Go.AE
set_option maxRecDepth 4000
namespace Go.AE
open Go
section
theorem Jtf5 {P : Program} {p : Nums} (A : All P p) (f : Func) (i : Instr) (r : RunZ) (ha : 0 ≤ i.a ∧ i.a < r.regs.length) (hb : 0 ≤ i.b ∧ i.b < r.regs.length) (hd : 0 ≤ i.d ∧ i.d < r.regs.length) (h1 : r.at_ < 1000000000) (h2 : r.steps < 1000000000) (h3 : r.trace.length < 1000000000) :
  Jt3x P p.interp_state_instr [.ptr 0 0, i.av] [stB f r, regB r] fun o H' => o = .ret (.tup []) ∧ H' = [stB f (stepI i r), regB (stepI i r)] := by
 obtain ⟨state, block, at_, value, regs, slots, trace, steps⟩ := r
 simp only at ha hb hd h1 h2 h3
 obtain ⟨T, hT⟩ : ∃ T, T = stepI i ⟨state, block, at_, value, regs, slots, trace, steps⟩ := ⟨_, rfl⟩
 rw [← hT]
 unfold stepI at hT
 simp only at hT
 have ca := cellI ha.1 ha.2
 have cb := cellI hb.1 hb.2
 have hl := lenI regs
 have w1 := Jtr1 (k := at_) (by omega)
 have w2 := Jtr1 (k := steps) (by omega)
 have ev := Jt58 A i.op (gI regs i.a) (gI regs i.b) i.imm
 obtain ⟨va, hva⟩ : ∃ v, v = gI regs i.a := ⟨_, rfl⟩
 obtain ⟨vb, hvb⟩ : ∃ v, v = gI regs i.b := ⟨_, rfl⟩
 rw [← hva] at ca ev hT
 rw [← hvb] at cb ev hT
 obtain ⟨⟨x, ok⟩, hx⟩ : ∃ x, x = aluZ i.op va vb i.imm := ⟨_, rfl⟩
 rw [← hx] at ev hT
 have hsp := Jtmt (v := x) hd.1 hd.2
 have hsl := Jtmu regs i.d x
 obtain ⟨n, hn⟩ : ∃ n, n = regs.length := ⟨_, rfl⟩
 rw [← hn] at ha hb hd hl hsl
 obtain ⟨cR, hcR⟩ : ∃ y, y = Jtlr (regs.map intRow) := ⟨_, rfl⟩
 rw [← hcR] at ca cb hl hsp
 obtain ⟨tR, htR⟩ : ∃ y, y = trace.map intRow := ⟨_, rfl⟩
 have htl : tR.length = trace.length := by rw [htR]; simp
 obtain ⟨fR, hfR⟩ : ∃ y, y = f.blocks.map Block.row := ⟨_, rfl⟩
 obtain ⟨op, d, a, b, imm⟩ := i
 simp only at ha hb hd ev hT hsp hsl hx hva hvb ca cb
 have ha3 : a.toNat < n := by omega
 have hb3 : b.toNat < n := by omega
 have hd3 : d.toNat < n := by omega
 have hd4 : d.toNat + 1 ≤ n := by omega
 have ca2 : ∀ h : a.toNat < cR.length, cR[a.toNat]'h = AI va := fun h => (List.getElem?_eq_some_iff.1 ca).2
 have cb2 : ∀ h : b.toNat < cR.length, cR[b.toNat]'h = AI vb := fun h => (List.getElem?_eq_some_iff.1 cb).2
 refine A.interp_state_instr.run rfl fun R hR => ?_
 simp only [stB, regB, ← hn, ← hcR, ← htR, ← hfR]
 by_cases h17 : op = 17
 ·rw [if_pos h17] at hT
  (simp (maxSteps := 1000000) [Jtcy, Instr.av, h17, ha, hl, ca, ca2])
  (refine Jt1b (by rfl) (by rfl) (by rfl) ?_ (by decide) ?_ ?_ ?_)
  ·simp
  ·simp; omega
  ·simp; omega
  (simp (maxSteps := 1000000) [w1, w2])
  refine hR _ _ (Fin_wk (.tup []) (.tup []) [stB f T, regB T] rfl ?_ ⟨rfl, rfl⟩)
  rw [hT]
  simp only [stB, regB, ← hn, ← hcR, ← htR, ← hfR, List.map_append, List.map_cons, List.map_nil]
  subst hcR
  (exact wkA)
 ·rw [if_neg h17] at hT
  have h17b : (op == 17) = false := by simpa using h17
  (simp (maxSteps := 1000000) [Jtcy, Instr.av, h17, h17b, ha, hb, hl, ca, cb, ca2, cb2])
  (refine Jtx ev (by rfl) (by rfl) ?_)
  (simp (maxSteps := 1000000) [])
  cases ok with
  | false =>
   rw [if_neg (by simp)] at hT
   (simp (maxSteps := 1000000) [])
   refine hR _ _ (Jt42 (.tup []) (.tup []) [stB f T, regB T] rfl ?_ ⟨rfl, rfl⟩)
   rw [hT]
   simp only [stB, regB, ← hn, ← hcR, ← htR, ← hfR]
   subst hcR
   (exact wkA)
  | true =>
   rw [if_pos rfl] at hT
   have hl2 : (setI regs d x).length = n := hsl
   obtain ⟨cS, hcS⟩ : ∃ y, y = Jtlr ((setI regs d x).map intRow) := ⟨_, rfl⟩
   rw [← hcS] at hsp
   have hsp2 : List.take d.toNat cR ++ AI x :: List.drop (d.toNat + 1) cR = cS := by rw [← hsp]; simp [spl]
   (simp (maxSteps := 1000000) [hd, hl, hd3, hd4, hsp, hsp2, w1, w2])
   refine hR _ _ (Fin_wk (.tup []) (.tup []) [stB f T, regB T] rfl ?_ ⟨rfl, rfl⟩)
   rw [hT]
   simp only [stB, regB, hl2, ← hcS, ← htR, ← hfR]
   subst hcS
   (exact wkA)
theorem Jtf7 {P : Program} {p : Nums} (A : All P p) (f : Func) (t : Term) (r : RunZ) (ha : t.kind ≠ 1 → 0 ≤ t.a ∧ t.a < r.regs.length) (hto : t.kind = 1 ∨ t.kind = 2 → 0 ≤ t.to) (hel : t.kind = 2 → 0 ≤ t.els) (hk : t.kind = 1 ∨ t.kind = 2 ∨ t.kind = 3) (h2 : r.steps < 1000000000) :
  Jt3x P p.interp_state_term [.ptr 0 0, t.av] [stB f r, regB r] fun o H' => o = .ret (.tup []) ∧ H' = [stB f (stepT t r), regB (stepT t r)] := by
 obtain ⟨state, block, at_, value, regs, slots, trace, steps⟩ := r
 simp only at ha h2
 obtain ⟨T, hT⟩ : ∃ T, T = stepT t ⟨state, block, at_, value, regs, slots, trace, steps⟩ := ⟨_, rfl⟩
 rw [← hT]
 unfold stepT at hT
 simp only at hT
 have ca := fun h => cellI (ha h).1 (ha h).2
 have hl := lenI regs
 have w2 := Jtr1 (k := steps) (by omega)
 obtain ⟨va, hva⟩ : ∃ v, v = gI regs t.a := ⟨_, rfl⟩
 rw [← hva] at ca hT
 obtain ⟨n, hn⟩ : ∃ n, n = regs.length := ⟨_, rfl⟩
 rw [← hn] at ha hl
 obtain ⟨cR, hcR⟩ : ∃ y, y = Jtlr (regs.map intRow) := ⟨_, rfl⟩
 rw [← hcR] at ca hl
 obtain ⟨tR, htR⟩ : ∃ y, y = trace.map intRow := ⟨_, rfl⟩
 obtain ⟨fR, hfR⟩ : ∃ y, y = f.blocks.map Block.row := ⟨_, rfl⟩
 obtain ⟨kind, a, to, els⟩ := t
 simp only at ha hT ca hk hto hel
 have ca2 : kind ≠ 1 → ∀ h : a.toNat < cR.length, cR[a.toNat]'h = AI va := fun h0 h => (List.getElem?_eq_some_iff.1 (ca h0)).2
 refine A.interp_state_term.run rfl fun R hR => ?_
 simp only [stB, regB, ← hn, ← hcR, ← htR, ← hfR]
 rcases hk with rfl | rfl | rfl
 ·rw [if_neg (by decide), if_neg (by rintro ⟨h, _⟩; cases h)] at hT
  have he : ((to.toNat : Nat) : Int) = to := by have := hto (.inl rfl); omega
  (simp (maxSteps := 1000000) [Jtd0, Term.av, w2])
  refine hR _ _ (Fin_wk (.tup []) (.tup []) [stB f T, regB T] rfl ?_ ⟨rfl, rfl⟩)
  rw [hT]
  simp only [stB, regB, ← hn, ← hcR, ← htR, ← hfR, he]
  subst hcR
  (exact wkA)
 ·have ha := ha (by decide)
  have ca := ca (by decide)
  have ca2 := ca2 (by decide)
  by_cases hz : va = 0
  ·rw [if_neg (by decide), if_pos ⟨rfl, hz⟩] at hT
   have he : ((els.toNat : Nat) : Int) = els := by have := hel rfl; omega
   (simp (maxSteps := 1000000) [Jtd0, Term.av, w2, ha, hl, ca, ca2, hz])
   refine hR _ _ (Fin_wk (.tup []) (.tup []) [stB f T, regB T] rfl ?_ ⟨rfl, rfl⟩)
   rw [hT]
   simp only [stB, regB, ← hn, ← hcR, ← htR, ← hfR, he]
   subst hcR
   (exact wkA)
  ·rw [if_neg (by decide), if_neg (fun h => hz h.2)] at hT
   have hzb : (va == 0) = false := by simpa using hz
   have he : ((to.toNat : Nat) : Int) = to := by have := hto (.inr rfl); omega
   (simp (maxSteps := 1000000) [Jtd0, Term.av, w2, ha, hl, ca, ca2, hzb])
   refine hR _ _ (Fin_wk (.tup []) (.tup []) [stB f T, regB T] rfl ?_ ⟨rfl, rfl⟩)
   rw [hT]
   simp only [stB, regB, ← hn, ← hcR, ← htR, ← hfR, he]
   subst hcR
   (exact wkA)
 ·have ha := ha (by decide)
  have ca := ca (by decide)
  have ca2 := ca2 (by decide)
  rw [if_pos rfl] at hT
  (simp (maxSteps := 1000000) [Jtd0, Term.av, w2, ha, hl, ca, ca2])
  refine hR _ _ (Jt42 (.tup []) (.tup []) [stB f T, regB T] rfl ?_ ⟨rfl, rfl⟩)
  rw [hT]
  simp only [stB, regB, ← hn, ← hcR, ← htR, ← hfR]
  subst hcR
  (exact wkA)
end
end Go.AE
set_option maxRecDepth 4000
namespace Go.AE
open Go
structure OkT (t : Term) (n k : Nat) : Prop where
 kind : t.kind = 1 ∨ t.kind = 2 ∨ t.kind = 3
 a : t.kind ≠ 1 → 0 ≤ t.a ∧ t.a < n
 to : t.kind = 1 ∨ t.kind = 2 → 0 ≤ t.to ∧ t.to < k
 els : t.kind = 2 → 0 ≤ t.els ∧ t.els < k
structure OkF (f : Func) (n : Nat) : Prop where
 code : ∀ b ∈ f.blocks, ∀ i ∈ b.code, (0 ≤ i.a ∧ i.a < n) ∧ (0 ≤ i.b ∧ i.b < n) ∧ (0 ≤ i.d ∧ i.d < n)
 term : ∀ b ∈ f.blocks, OkT b.term n f.blocks.length
structure OkR (f : Func) (n : Nat) (r : RunZ) : Prop where
 regs : r.regs.length = n
 block : r.block < f.blocks.length
 at_ : ∀ b, f.blocks[r.block]? = some b → r.at_ ≤ b.code.length
theorem Jtou (i : Instr) (r : RunZ) : (stepI i r).regs.length = r.regs.length := by
 unfold stepI
 split
 ·rfl
 ·split
  ·simp [setI]
  ·rfl
theorem Jtp2 {f : Func} {n : Nat} {r : RunZ} (hf : OkF f n) (h : OkR f n r) : OkR f n (stepS f r) := by
  obtain ⟨b, hb⟩ : ∃ b, f.blocks[r.block]? = some b := ⟨_, List.getElem?_eq_getElem h.block⟩
  have hat := h.at_ b hb
  unfold stepS
  rw [hb]
  simp only
  cases hi : b.code[r.at_]? with
  | some i =>
    simp only
    have hlt := (List.getElem?_eq_some_iff.1 hi).1
    refine ⟨by rw [Jtou]; exact h.regs, ?_, ?_⟩
    · unfold stepI; split
      · exact h.block
      · split
        · exact h.block
        · exact h.block
    · intro b' hb'
      have e : (stepI i r).block = r.block := by unfold stepI; split; · rfl
                                                 split <;> rfl
      rw [e, hb] at hb'; injection hb' with hb'; subst hb'
      unfold stepI; split
      · exact hlt
      · split
        · exact hlt
        · exact hat
  | none =>
    simp only
    have ht := hf.term b (List.mem_of_getElem? hb)
    unfold stepT
    split
    · exact ⟨h.regs, h.block, h.at_⟩
    · rename_i k3
      split
      · rename_i k2
        have := ht.els k2.1
        exact ⟨h.regs, by show b.term.els.toNat < _; omega, fun b' _ => Nat.zero_le _⟩
      · have := ht.to (by have := ht.kind; omega)
        exact ⟨h.regs, by show b.term.to.toNat < _; omega, fun b' _ => Nat.zero_le _⟩
theorem Jtp4 (f : Func) (r : RunZ) : (stepS f r).steps ≤ r.steps + 1 ∧ (stepS f r).at_ ≤ r.at_ + 1 ∧ (stepS f r).trace.length ≤ r.trace.length + 1 ∧ ((stepS f r).state = 0 → r.state = 0 → f.blocks[r.block]? ≠ none → (stepS f r).steps = r.steps + 1) := by
 unfold stepS
 cases hb : f.blocks[r.block]? with
 | none => exact ⟨by simp, by simp, by simp, fun _ _ h => absurd rfl h⟩
 | some b =>
  simp only
  cases hi : b.code[r.at_]? with
  | some i =>
   simp only
   unfold stepI
   split
   ·exact ⟨by simp, by simp, by simp, fun _ _ _ => rfl⟩
   ·split
    ·exact ⟨by simp, by simp, by simp, fun _ _ _ => rfl⟩
    ·exact ⟨by simp, by simp, by simp, fun h => by cases h⟩
  | none =>
   simp only
   unfold stepT
   split
   ·exact ⟨by simp, by simp, by simp, fun h => by cases h⟩
   ·split
    ·exact ⟨by simp, by simp, by simp, fun _ _ _ => rfl⟩
    ·exact ⟨by simp, by simp, by simp, fun _ _ _ => rfl⟩
def runS (f : Func) (lim : Nat) : Nat → RunZ → RunZ
 | 0, r => r
 | k + 1, r => if r.state = 0 ∧ r.steps < lim then runS f lim k (stepS f r) else r
theorem Jtmj {f : Func} {lim : Nat} {r : RunZ} (h : ¬ (r.state = 0 ∧ r.steps < lim)) (k : Nat) : runS f lim k r = r := by
 cases k with
 | zero => rfl
 | succ k => unfold runS; rw [if_neg h]
def run0 (f : Func) (args : List Int) : RunZ := ⟨0, 0, 0, 0, args ++ List.replicate (f.regs.toNat - args.length) 0, [], [], 0⟩
def execS (f : Func) (args : List Int) (lim : Nat) : RunZ := runS f lim (lim + 1) (run0 f args)
theorem Jtl5 {ρ : Nat → Option Nat} (h : ρ 1 = some 1) (f : Func) (r : RunZ) : renB ρ [stB f r, regB r] = some [stB f r, regB r] := by
 have hr : renL ρ (Jtlr (r.regs.map intRow)) = some (Jtlr (r.regs.map intRow)) := renL_d _
 simp only [renB, Blk.ren, stB, regB, renL, AV.ren, h, hr]
section
theorem Jtf6 {P : Program} {p : Nums} (A : All P p) (f : Func) (n : Nat) (r : RunZ) (hf : OkF f n) (h : OkR f n r) (h1 : r.at_ < 1000000) (h2 : r.steps < 1000000000) (h3 : r.trace.length < 1000000000) :
  Jt3x P p.interp_state_step [.ptr 0 0] [stB f r, regB r] fun o H' => o = .ret (.tup []) ∧ H' = [stB f (stepS f r), regB (stepS f r)] := by
 obtain ⟨b, hb⟩ : ∃ b, f.blocks[r.block]? = some b := ⟨_, List.getElem?_eq_getElem h.block⟩
 have hat := h.at_ b hb
 have mb := List.mem_of_getElem? hb
 have hfR : (f.blocks.map Block.row)[r.block]? = some b.row := by rw [List.getElem?_map, hb]; rfl
 obtain ⟨T, hT⟩ : ∃ T, T = stepS f r := ⟨_, rfl⟩
 rw [← hT]
 unfold stepS at hT
 rw [hb] at hT
 simp only at hT
 refine A.interp_state_step.run rfl fun R hR => ?_
 by_cases hlt : r.at_ < b.code.length
 ·have hi : b.code[r.at_]? = some b.code[r.at_] := by simp [hlt]
  obtain ⟨i, hie⟩ : ∃ i, i = b.code[r.at_] := ⟨_, rfl⟩
  rw [← hie] at hi
  rw [hi] at hT
  simp only at hT
  have hiR : (b.code.map Instr.row)[r.at_]? = some i.row := by rw [List.getElem?_map, hi]; rfl
  obtain ⟨ok1, ok2, ok3⟩ := hf.code b mb i (List.mem_of_getElem? hi)
  rw [← h.regs] at ok1 ok2 ok3
  have hc := Jtf5 A f i r ok1 ok2 ok3 (by omega) h2 h3
  rw [← hT] at hc
  simp only [stB, regB, Instr.av]
  (simp (maxSteps := 1000000) [Jtcz, hfR, Block.row, hlt, hiR, Instr.row])
  simp only [← hie]
  refine Jtz [0, 1] hc (by decide) (by rfl) (by rfl) (Jtl5 (by rfl) f r) (Jtl5 (by rfl) f T) (by rfl) (by rfl) ?_
  simp only [stB, regB]
  (simp (maxSteps := 1000000) [])
  refine hR _ _ (Fin_wk (.tup []) (.tup []) [stB f T, regB T] rfl ?_ ⟨rfl, rfl⟩)
  simp only [stB, regB]
  (exact wkA)
 ·have hi : b.code[r.at_]? = none := List.getElem?_eq_none (by omega)
  rw [hi] at hT
  simp only at hT
  have ok := hf.term b mb
  have hc := Jtf7 A f b.term r (fun h0 => by rw [h.regs]; exact ok.a h0) (fun h0 => (ok.to h0).1) (fun h0 => (ok.els h0).1) ok.kind h2
  rw [← hT] at hc
  simp only [stB, regB, Term.av]
  (simp (maxSteps := 1000000) [Jtcz, hfR, Block.row, hlt])
  refine Jtz [0, 1] hc (by decide) (by rfl) (by rfl) (Jtl5 (by rfl) f r) (Jtl5 (by rfl) f T) (by rfl) (by rfl) ?_
  simp only [stB, regB]
  (simp (maxSteps := 1000000) [])
  refine hR _ _ (Fin_wk (.tup []) (.tup []) [stB f T, regB T] rfl ?_ ⟨rfl, rfl⟩)
  simp only [stB, regB]
  (exact wkA)
end
end Go.AE
set_option maxRecDepth 4000
namespace Go.AE
open Go
section
variable {P : Program} {K : ASt → Prop} {QP : AV → ASt → Prop} {dst : Option Nat} {st : ASt}
theorem Jt1n {esz : Nat} {x y : Opd} {b off len : Nat} {ys : List (List D)} {cells : List AV} (h : evr st.env x = some (.hsl b off esz len)) (hy : Jt63 st.env y = some ys) (hr : ∀ r ∈ ys, r.length = esz) (hle : ys.length ≤ len) (hb : st.H[b]? = some (.mem cells)) (hc : off + ys.length * esz ≤ cells.length)
  (h0 : ys = [] → K (put dst (AI 0) st)) (h1 : ys ≠ [] → K (put dst (AI ys.length) ⟨unview st.env, st.H.set b (.mem (spl cells off (ys.flatten.map AV.d)))⟩)) : AWio P false (.cpy esz x y) dst K QP st := by
 refine ⟨rfl, ys, hy, hr, ?_⟩
 rw [h]
 exact ⟨rfl, hle, h0, fun hne => ⟨cells, hb, hc, hr, h1 hne⟩⟩
end
theorem Jtp3 (f : Func) (r : RunZ) : (stepS f r).slots = r.slots := by
 unfold stepS
 split
 ·rfl
 ·split
  ·unfold stepI; split
   ·rfl
   ·split <;> rfl
  ·unfold stepT; split
   ·rfl
   ·split <;> rfl
theorem Jtp5 (f : Func) (r : RunZ) : (stepS f r).trace.length + r.steps ≤ r.trace.length + (stepS f r).steps := by
 unfold stepS
 split
 ·omega
 ·split
  ·unfold stepI; split
   ·simp; omega
   ·split <;> simp
  ·unfold stepT; split
   ·simp
   ·split <;> simp
def stJ (j : Nat) (f : Func) (r : RunZ) : Blk := .mem [AI r.state, AI r.block, AI r.at_, AI r.value, .hsl j 0 1 r.regs.length, .nils, .own 1 (r.trace.map intRow), AI r.steps, AI f.args, AI f.regs, .d (.sl (f.blocks.map Block.row))]
theorem Jtl7 {ρ : Nat → Option Nat} {i j : Nat} (h : ρ i = some j) (f : Func) (r : RunZ) : renB ρ [stJ i f r, regB r] = some [stJ j f r, regB r] := by
 have hr : renL ρ (Jtlr (r.regs.map intRow)) = some (Jtlr (r.regs.map intRow)) := renL_d _
 simp only [renB, Blk.ren, stJ, regB, renL, AV.ren, h, hr]
theorem Jtl6 {ρ : Nat → Option Nat} {i j : Nat} (h : ρ i = some j) (f : Func) (r : RunZ) : renB ρ [.dead, stJ i f r, regB r] = some [.dead, stJ j f r, regB r] := by
 have hr : renL ρ (Jtlr (r.regs.map intRow)) = some (Jtlr (r.regs.map intRow)) := renL_d _
 simp only [renB, Blk.ren, stJ, regB, renL, AV.ren, h, hr]
theorem Jtlh (n : Nat) : List.replicate n [D.int .i64 0] = (List.replicate n (0 : Int)).map intRow := by rw [List.map_replicate]; rfl
theorem Jt7c (args : List Int) (n : Nat) (h : args.length ≤ n) : spl (Jtlr ((List.replicate n (0 : Int)).map intRow)) 0 ((args.map intRow).flatten.map AV.d) = Jtlr ((args ++ List.replicate (n - args.length) 0).map intRow) := by
 have e : ∀ l : List Int, Jtlr (l.map intRow) = l.map fun x => AI x := fun l => by unfold Jtlr; rw [flatI, List.map_map]; rfl
 rw [e, e, flatI, List.map_map]
 unfold spl
 simp only [List.take_zero, List.nil_append, Nat.zero_add, List.length_map]
 rw [List.map_append, List.map_replicate, List.map_replicate, List.drop_replicate]
 rfl
section
theorem Jtf4 {P : Program} {p : Nums} (A : All P p) (f : Func) (args : List Int) (n : Nat) (hn : f.regs = (n : Int)) (h1 : n ≤ 1000000) (h2 : args.length ≤ n) :
  Jt3x P p.interp_begin [f.av, .d (intsD args)] [] fun o H' => o = .ret (.ptr 1 0) ∧ H' = [.dead, stJ 2 f (run0 f args), regB (run0 f args)] := by
 have hrl : (run0 f args).regs.length = n := by unfold run0; simp; omega
 have hnt : f.regs.toNat = n := by omega
 obtain ⟨fR, hfR⟩ : ∃ y, y = f.blocks.map Block.row := ⟨_, rfl⟩
 have hca := Jt7c args n h2
 have hre : (run0 f args).regs = args ++ List.replicate (n - args.length) 0 := by unfold run0; rw [hnt]
 obtain ⟨aR, haR⟩ : ∃ y, y = args.map intRow := ⟨_, rfl⟩
 have har : ∀ r ∈ aR, r.length = 1 := by rw [haR]; exact Jtf1 args
 have hal : aR.length = args.length := by rw [haR]; simp
 rw [← haR] at hca
 obtain ⟨c0, hc0⟩ : ∃ y, y = Jtlr (List.replicate n [D.int .i64 0]) := ⟨_, rfl⟩
 have hc0l : c0.length = n := by rw [hc0, Jtlw (e := 1) (by intro r hr; rw [List.eq_of_mem_replicate hr]; rfl)]; simp
 refine A.interp_begin.run rfl fun R hR => ?_
 simp only [Func.av, intsD, ← hfR, ← haR, hn]
 (simp (maxSteps := 1000000) [Jtcx])
 refine Jt24 (n := n) (by rfl) (by rfl) (by omega) (by omega) (by decide) (by rfl) ?_
 rw [← hc0]
 (simp (maxSteps := 1000000) [])
 have hca2 : spl c0 0 (aR.flatten.map AV.d) = Jtlr ((args ++ List.replicate (n - args.length) 0).map intRow) := by rw [hc0, Jtlh]; exact hca
 refine Jt1n (by rfl) (by rfl) har (by omega) (by rfl) (by omega) (fun hne => ?_) (fun hne => ?_)
 ·have ha0 : args = [] := by rw [hne] at hal; exact List.eq_nil_of_length_eq_zero hal.symm
  have e0 : args ++ List.replicate (n - args.length) 0 = List.replicate n 0 := by rw [ha0]; simp
  (simp (maxSteps := 1000000) [])
  refine hR _ _ (Jt42 (.ptr 1 0) (.ptr 1 0) [.dead, stJ 2 f (run0 f args), regB (run0 f args)] rfl ?_ ⟨rfl, rfl⟩)
  simp only [stJ, regB, hrl, ← hfR]
  simp only [hre, e0]
  simp only [run0, List.map_nil, hn]
  rw [hc0, Jtlh]
  (exact wkA)
 ·obtain ⟨cZ, hcZ⟩ : ∃ y, y = Jtlr ((args ++ List.replicate (n - args.length) 0).map intRow) := ⟨_, rfl⟩
  rw [hca2, ← hcZ]
  (simp (maxSteps := 1000000) [])
  refine hR _ _ (Jt42 (.ptr 1 0) (.ptr 1 0) [.dead, stJ 2 f (run0 f args), regB (run0 f args)] rfl ?_ ⟨rfl, rfl⟩)
  simp only [stJ, regB, hrl, ← hfR]
  simp only [hre, ← hcZ]
  simp only [run0, List.map_nil, hn]
  subst hcZ
  (exact wkA)
theorem Jtf3 {P : Program} {p : Nums} (A : All P p) (f : Func) (args : List Int) (n lim : Nat) (hf : OkF f n) (hn : f.regs = (n : Int)) (h1 : n ≤ 1000000) (h2 : args.length ≤ n) (h3 : f.args = (args.length : Int)) (h4 : 0 < f.blocks.length) (h5 : lim ≤ 1000000) (h6 : ∀ b ∈ f.blocks, b.code.length < 1000000) :
  Jt3x P p.interp_Exec [f.av, .d (intsD args), AI lim] [] fun o _ => o = .ret (.tup [(execS f args lim).av, AI 0]) := by
 have hb := Jtf4 A f args n hn h1 h2
 obtain ⟨T, hT⟩ : ∃ T, T = execS f args lim := ⟨_, rfl⟩
 rw [← hT]
 unfold execS at hT
 have hr0 : OkR f n (run0 f args) := ⟨by unfold run0; simp; omega, h4, fun b _ => Nat.zero_le _⟩
 obtain ⟨r0, hr0e⟩ : ∃ r, r = run0 f args := ⟨_, rfl⟩
 rw [← hr0e] at hb hT hr0
 have hz : r0.slots = [] ∧ r0.trace = [] ∧ r0.steps = 0 := by rw [hr0e]; exact ⟨rfl, rfl, rfl⟩
 obtain ⟨aR, haR⟩ : ∃ y, y = args.map intRow := ⟨_, rfl⟩
 have hal : aR.length = args.length := by rw [haR]; simp
 obtain ⟨fR, hfR⟩ : ∃ y, y = f.blocks.map Block.row := ⟨_, rfl⟩
 refine A.interp_Exec.run rfl fun R hR => ?_
 simp only [Func.av, intsD, ← hfR, ← haR, h3] at hb ⊢
 (simp (maxSteps := 1000000) [Jtcw, hal])
 refine Jt10 [] 3 hb (by decide) (by rfl) (by rfl) (by rfl) (Jtl6 (j := 4) (by rfl) f r0) (by rfl) (by rfl) ?_
 (simp (maxSteps := 1000000) [])
 refine Jtd (fun r : RunZ => ⟨[(8, .ptr 3 0), (2, AI lim), (6, .ptr 1 0), (7, AI 0)], [.dead, .mem [AI 0, AI 0, AI 0, AI 0, .nils, .nils, .nils, AI 0], .dead, stJ 4 f r, regB r]⟩)
  (fun r => OkR f n r ∧ r.slots = [] ∧ r.steps ≤ lim ∧ r.trace.length ≤ r.steps ∧ T = runS f lim (lim + 1 - r.steps) r) (fun r => if r.state = 0 then lim + 1 - r.steps else 0) r0
  ⟨hr0, hz.1, by omega, by rw [hz.2.1]; exact Nat.zero_le _, by rw [hz.2.2]; exact hT⟩ (by simp only [stJ, regB]; (exact wkA)) ?_
 rintro r ⟨k1, k2, k3, k4, k5⟩ N hN
 have hcs := Jtf6 A f n r hf k1 (by have q1 := k1.at_ _ (List.getElem?_eq_getElem k1.block); have q2 := h6 _ (List.getElem_mem k1.block); omega) (by omega) (by omega)
 obtain ⟨bk, hbk⟩ : ∃ b, f.blocks[r.block]? = some b := ⟨_, List.getElem?_eq_getElem k1.block⟩
 have hm : ¬ ((1073741824 : Int) < lim) := by omega
 obtain ⟨s1, s2, s3, s4⟩ := Jtp4 f r
 have hfin : ¬ (r.state = 0 ∧ r.steps < lim) → T = r := fun h => by rw [k5, Jtmj h]
 have hgo : r.state = 0 → r.steps < lim → T = runS f lim (lim - r.steps) (stepS f r) := fun h1 h2 => by
  rw [k5, show lim + 1 - r.steps = (lim - r.steps) + 1 by omega]
  show (if r.state = 0 ∧ r.steps < lim then runS f lim (lim - r.steps) (stepS f r) else r) = _
  rw [if_pos ⟨h1, h2⟩]
 have hav : ∀ H : List Blk, H[4]? = some (regB r) → WkV H 0 (.tup [.agg [AI r.state, AI r.block, AI r.at_, AI r.value, .hsl 4 0 1 r.regs.length, .nils, .d (.sl (r.trace.map intRow)), AI r.steps], AI 0]) (.tup [r.av, AI 0]) := fun H hH => by
  refine Jt4j ⟨Jt4i ⟨.refl _ rfl, .refl _ rfl, .refl _ rfl, .refl _ rfl, ?_, ?_, .refl _ rfl, .refl _ rfl, trivial⟩, .refl _ rfl, trivial⟩
  ·refine .hsl 4 0 1 r.regs.length (Jtlr (r.regs.map intRow)) (r.regs.map intRow) hH (Nat.zero_le _) ?_ (by simp) (Jtf1 _)
   rw [List.drop_zero, Nat.mul_one, ← lenI r.regs, List.take_length]; rfl
  ·rw [k2]; exact .nild
 simp only [stJ, regB]
 (simp (maxSteps := 1000000) [])
 by_cases hs : r.state = 0
 ·have hsb : (r.state == 0) = true := by simpa using hs
  (simp (maxSteps := 1000000) [hsb, hm])
  by_cases hl : r.steps < lim
  ·(simp (maxSteps := 1000000) [hl])
   refine Jtz [3, 4] hcs (by decide) (by rfl) (by rfl) (Jtl7 (i := 4) (j := 1) (by rfl) f r) (Jtl7 (i := 1) (j := 4) (by rfl) f (stepS f r)) (by rfl) (by rfl) ?_
   simp only [stJ, regB]
   (simp (maxSteps := 1000000) [])
   have hT2 := hgo hs hl
   refine hN _ (stepS f r) ⟨Jtp2 hf k1, ?_, by omega, ?_, ?_⟩ (by simp only [stJ, regB]; (exact wkA)) ?_
   ·rw [Jtp3]; exact k2
   ·have := Jtp5 f r; omega
   ·by_cases hs' : (stepS f r).state = 0
    ·rw [s4 hs' hs (by rw [hbk]; simp), hT2]; congr 1; omega
    ·rw [hT2, Jtmj (fun h => hs' h.1), Jtmj (fun h => hs' h.1)]
   ·rw [if_pos hs]
    split
    ·rename_i hs'
     have := s4 hs' hs (by rw [hbk]; simp)
     omega
    ·omega
  ·have hT2 := hfin (fun h => hl h.2)
   (simp (maxSteps := 1000000) [hl])
   refine hR _ _ (Jt43 _ _ rfl (hav _ rfl) ?_)
   rw [hT2]
 ·have hsb : (r.state == 0) = false := by simpa using hs
  have hT2 := hfin (fun h => hs h.1)
  (simp (maxSteps := 1000000) [hsb])
  refine hR _ _ (Jt43 _ _ rfl (hav _ rfl) ?_)
  rw [hT2]
end
end Go.AE
set_option maxRecDepth 4000
namespace Go.AE
open Go
def readL (m : RunZ) (l : Int) : Int := if l.tmod 2 = 1 then gI m.slots (l.tdiv 2) else gI m.regs (l.tdiv 2)
def writeL (m : RunZ) (l v : Int) : RunZ := if l.tmod 2 = 1 then { m with slots := setI m.slots (l.tdiv 2) v } else { m with regs := setI m.regs (l.tdiv 2) v }
def stepMI (x : Mach) (m : RunZ) : RunZ :=
 if x.op = 18 then { writeL m x.dst (readL m x.src) with at_ := m.at_ + 1, steps := m.steps + 1 }
 else if x.op = 17 then { m with trace := m.trace ++ [gI m.regs x.a], at_ := m.at_ + 1, steps := m.steps + 1 }
 else if (aluZ x.op (gI m.regs x.a) (gI m.regs x.b) x.imm).2 = true then { m with regs := setI m.regs x.d (aluZ x.op (gI m.regs x.a) (gI m.regs x.b) x.imm).1, at_ := m.at_ + 1, steps := m.steps + 1 }
 else { m with state := 2 }
def stepMT (t : Term) (r : RunZ) : RunZ :=
 if t.kind = 3 then { r with steps := r.steps + 1, state := 1, value := gI r.regs t.a }
 else if t.kind = 1 then { r with steps := r.steps + 1, block := t.to.toNat, at_ := 0 }
 else if gI r.regs t.a = 0 then { r with steps := r.steps + 1, block := t.els.toNat, at_ := 0 }
 else { r with steps := r.steps + 1, block := t.to.toNat, at_ := 0 }
def stepM (g : MFunc) (m : RunZ) : RunZ := match g.blocks[m.block]? with
 | none => m
 | some b => match b.code[m.at_]? with
  | some x => stepMI x m
  | none => stepMT b.term m
def stM (i j : Nat) (g : MFunc) (r : RunZ) : Blk := .mem [AI r.state, AI r.block, AI r.at_, AI r.value, .hsl i 0 1 r.regs.length, .hsl j 0 1 r.slots.length, .own 1 (r.trace.map intRow), AI r.steps, AI g.args, AI g.regs, AI g.slots, .d (.sl (g.blocks.map MBlock.row))]
def slotB (r : RunZ) : Blk := .mem (Jtlr (r.slots.map intRow))
def locB (l : Int) : Nat := if l.tmod 2 = 1 then 2 else 1
def LocOk (m : RunZ) (l : Int) : Prop := -9223372036854775808 ≤ l ∧ l ≤ 9223372036854775807 ∧ 0 ≤ l.tdiv 2 ∧ (l.tmod 2 = 1 → l.tdiv 2 < m.slots.length) ∧ (l.tmod 2 ≠ 1 → l.tdiv 2 < m.regs.length)
theorem Jtl8 {ρ : Nat → Option Nat} {i j i' j' : Nat} (h : ρ i = some i') (h' : ρ j = some j') (g : MFunc) (r : RunZ) : renB ρ [stM i j g r, regB r, slotB r] = some [stM i' j' g r, regB r, slotB r] := by
 have hr : renL ρ (Jtlr (r.regs.map intRow)) = some (Jtlr (r.regs.map intRow)) := renL_d _
 have hs : renL ρ (Jtlr (r.slots.map intRow)) = some (Jtlr (r.slots.map intRow)) := renL_d _
 simp only [renB, Blk.ren, stM, regB, slotB, renL, AV.ren, h, h', hr, hs]
section
theorem Jt9g {P : Program} {p : Nums} (A : All P p) (g : MFunc) (m : RunZ) (l : Int) (h : LocOk m l) : Jt3x P p.execute_state_at [.ptr 0 0, AI l] [stM 1 2 g m, regB m, slotB m] fun o H' => o = .ret (.ptr (locB l) (l.tdiv 2).toNat) ∧ H' = [stM 1 2 g m, regB m, slotB m] := by
 obtain ⟨h0, h1, h2, h3, h4⟩ := h
 have ci := Jtge A l h0 h1
 refine A.execute_state_at.run rfl fun R hR => ?_
 simp only [stM, regB, slotB]
 (simp (maxSteps := 1000000) [Jtcp])
 (refine Jtx (Jtgf A l) (by rfl) (by rfl) ?_)
 by_cases hs : l.tmod 2 = 1
 ·have hsb : (l.tmod 2 == 1) = true := by simpa using hs
  have h3 := h3 hs
  (simp (maxSteps := 1000000) [hsb])
  (refine Jtx ci (by rfl) (by rfl) ?_)
  (simp (maxSteps := 1000000) [h2, h3])
  refine hR _ _ (Jt42 (.ptr 2 (l.tdiv 2).toNat) (.ptr 2 (l.tdiv 2).toNat) [stM 1 2 g m, regB m, slotB m] rfl ?_ ⟨by unfold locB; rw [if_pos hs], rfl⟩)
  simp only [stM, regB, slotB]
  (exact wkA)
 ·have hsb : (l.tmod 2 == 1) = false := by simpa using hs
  have h4 := h4 hs
  (simp (maxSteps := 1000000) [hsb])
  (refine Jtx ci (by rfl) (by rfl) ?_)
  (simp (maxSteps := 1000000) [h2, h4])
  refine hR _ _ (Jt42 (.ptr 1 (l.tdiv 2).toNat) (.ptr 1 (l.tdiv 2).toNat) [stM 1 2 g m, regB m, slotB m] rfl ?_ ⟨by unfold locB; rw [if_neg hs], rfl⟩)
  simp only [stM, regB, slotB]
  (exact wkA)
theorem Jt9j {P : Program} {p : Nums} (A : All P p) (g : MFunc) (x : Mach) (m : RunZ) (ha : 0 ≤ x.a ∧ x.a < m.regs.length) (h3 : m.trace.length < 1000000000) :
  Jt3x P p.execute_state_emit [.ptr 0 0, x.av] [stM 1 2 g m, regB m, slotB m] fun o H' => o = .ret (AB true) ∧ H' = [stM 1 2 g { m with trace := m.trace ++ [gI m.regs x.a] }, regB m, slotB m] := by
 have ca := cellI ha.1 ha.2
 have hl := lenI m.regs
 obtain ⟨va, hva⟩ : ∃ v, v = gI m.regs x.a := ⟨_, rfl⟩
 rw [← hva] at ca ⊢
 obtain ⟨n, hn⟩ : ∃ n, n = m.regs.length := ⟨_, rfl⟩
 rw [← hn] at ha hl
 obtain ⟨cR, hcR⟩ : ∃ y, y = Jtlr (m.regs.map intRow) := ⟨_, rfl⟩
 rw [← hcR] at ca hl
 obtain ⟨tR, htR⟩ : ∃ y, y = m.trace.map intRow := ⟨_, rfl⟩
 have htl : tR.length = m.trace.length := by rw [htR]; simp
 obtain ⟨op, d, a, b, imm, dst, src⟩ := x
 simp only at ha ca hva
 have ca2 : ∀ h : a.toNat < cR.length, cR[a.toNat]'h = AI va := fun h => (List.getElem?_eq_some_iff.1 ca).2
 have ha3 : a.toNat < n := by omega
 refine A.execute_state_emit.run rfl fun R hR => ?_
 simp only [stM, regB, slotB, ← hn, ← hcR, ← htR]
 (simp (maxSteps := 1000000) [Jtcr, Mach.av, ha, hl, ca, ca2])
 (refine Jt1b (by rfl) (by rfl) (by rfl) ?_ (by decide) ?_ ?_ ?_)
 ·simp
 ·simp; omega
 ·simp; omega
 (simp (maxSteps := 1000000) [])
 refine hR _ _ (Jt42 (AB true) (AB true) [stM 1 2 g { m with trace := m.trace ++ [va] }, regB m, slotB m] rfl ?_ ⟨rfl, by simp only [stM, regB, slotB, ← hn, ← hcR, ← htR]⟩)
 simp only [stM, regB, slotB, ← hn, ← hcR, ← htR, List.map_append, List.map_cons, List.map_nil]
 subst hcR
 (exact wkA)
theorem Jt9i {P : Program} {p : Nums} (A : All P p) (g : MFunc) (x : Mach) (m : RunZ) (ha : 0 ≤ x.a ∧ x.a < m.regs.length) (hb : 0 ≤ x.b ∧ x.b < m.regs.length) (hd : 0 ≤ x.d ∧ x.d < m.regs.length) :
  Jt3x P p.execute_state_compute [.ptr 0 0, x.av] [stM 1 2 g m, regB m, slotB m] fun o H' => o = .ret (AB (aluZ x.op (gI m.regs x.a) (gI m.regs x.b) x.imm).2) ∧
   H' = (if (aluZ x.op (gI m.regs x.a) (gI m.regs x.b) x.imm).2 = true then [stM 1 2 g m, regB { m with regs := setI m.regs x.d (aluZ x.op (gI m.regs x.a) (gI m.regs x.b) x.imm).1 }, slotB m] else [stM 1 2 g m, regB m, slotB m]) := by
 have ca := cellI ha.1 ha.2
 have cb := cellI hb.1 hb.2
 have hl := lenI m.regs
 have ev := Jt58 A x.op (gI m.regs x.a) (gI m.regs x.b) x.imm
 obtain ⟨va, hva⟩ : ∃ v, v = gI m.regs x.a := ⟨_, rfl⟩
 obtain ⟨vb, hvb⟩ : ∃ v, v = gI m.regs x.b := ⟨_, rfl⟩
 rw [← hva] at ca ev ⊢
 rw [← hvb] at cb ev ⊢
 obtain ⟨⟨y, ok⟩, hx⟩ : ∃ y, y = aluZ x.op va vb x.imm := ⟨_, rfl⟩
 rw [← hx] at ev ⊢
 have hsp := Jtmt (v := y) hd.1 hd.2
 obtain ⟨n, hn⟩ : ∃ n, n = m.regs.length := ⟨_, rfl⟩
 rw [← hn] at ha hb hd hl
 obtain ⟨cR, hcR⟩ : ∃ y, y = Jtlr (m.regs.map intRow) := ⟨_, rfl⟩
 rw [← hcR] at ca cb hl hsp
 obtain ⟨op, d, a, b, imm, dst, src⟩ := x
 simp only at ha hb hd ev hsp hx hva hvb ca cb
 have ha3 : a.toNat < n := by omega
 have hb3 : b.toNat < n := by omega
 have hd3 : d.toNat < n := by omega
 have hd4 : d.toNat + 1 ≤ n := by omega
 have ca2 : ∀ h : a.toNat < cR.length, cR[a.toNat]'h = AI va := fun h => (List.getElem?_eq_some_iff.1 ca).2
 have cb2 : ∀ h : b.toNat < cR.length, cR[b.toNat]'h = AI vb := fun h => (List.getElem?_eq_some_iff.1 cb).2
 refine A.execute_state_compute.run rfl fun R hR => ?_
 simp only [stM, regB, slotB, ← hn, ← hcR]
 (simp (maxSteps := 1000000) [Jtcq, Mach.av, ha, hb, hl, ca, cb, ca2, cb2])
 (refine Jtx ev (by rfl) (by rfl) ?_)
 (simp (maxSteps := 1000000) [])
 cases ok with
 | false =>
  (simp (maxSteps := 1000000) [])
  refine hR _ _ (Jt42 (AB false) (AB false) [stM 1 2 g m, regB m, slotB m] rfl ?_ ⟨rfl, by simp [stM, regB, slotB, ← hn, ← hcR]⟩)
  simp only [stM, regB, slotB, ← hn, ← hcR]
  subst hcR
  (exact wkA)
 | true =>
  obtain ⟨cS, hcS⟩ : ∃ z, z = Jtlr ((setI m.regs d y).map intRow) := ⟨_, rfl⟩
  rw [← hcS] at hsp
  have hsp2 : List.take d.toNat cR ++ AI y :: List.drop (d.toNat + 1) cR = cS := by rw [← hsp]; simp [spl]
  (simp (maxSteps := 1000000) [hd, hl, hd3, hd4, hsp, hsp2])
  refine hR _ _ (Jt42 (AB true) (AB true) [stM 1 2 g m, regB { m with regs := setI m.regs d y }, slotB m] rfl ?_ ⟨rfl, by simp [stM, regB, slotB, ← hn, ← hcS]⟩)
  simp only [stM, regB, slotB, ← hn, ← hcS]
  subst hcS
  (exact wkA)
end
end Go.AE
set_option maxRecDepth 4000
namespace Go.AE
open Go
section
theorem Jt9l {P : Program} {p : Nums} (A : All P p) (g : MFunc) (x : Mach) (m : RunZ) (hd : LocOk m x.dst) (hs : LocOk m x.src) :
  Jt3x P p.execute_state_move [.ptr 0 0, x.av] [stM 1 2 g m, regB m, slotB m] fun o H' => o = .ret (AB true) ∧ H' = [stM 1 2 g (writeL m x.dst (readL m x.src)), regB (writeL m x.dst (readL m x.src)), slotB (writeL m x.dst (readL m x.src))] := by
 have cd := Jt9g A g m x.dst hd
 have cs := Jt9g A g m x.src hs
 obtain ⟨d0, d1, d2, d3, d4⟩ := hd
 obtain ⟨s0, s1, s2, s3, s4⟩ := hs
 have lr := lenI m.regs
 have ls := lenI m.slots
 obtain ⟨op, d, a, b, imm, dst, src⟩ := x
 simp only at cd cs d0 d1 d2 d3 d4 s0 s1 s2 s3 s4 ⊢
 obtain ⟨cR, hcR⟩ : ∃ y, y = Jtlr (m.regs.map intRow) := ⟨_, rfl⟩
 obtain ⟨cS, hcS⟩ : ∃ y, y = Jtlr (m.slots.map intRow) := ⟨_, rfl⟩
 rw [← hcR] at lr
 rw [← hcS] at ls
 by_cases hds : dst.tmod 2 = 1
 ·by_cases hss : src.tmod 2 = 1
  ·have e1 : locB dst = 2 := by unfold locB; rw [if_pos hds]
   have e2 : locB src = 2 := by unfold locB; rw [if_pos hss]
   rw [e1] at cd
   rw [e2] at cs
   have hdl := d3 hds
   have hsl := s3 hss
   have cv := cellI s2 hsl
   have er : readL m src = gI m.slots (src.tdiv 2) := by unfold readL; rw [if_pos hss]
   obtain ⟨v, hv⟩ : ∃ v, v = readL m src := ⟨_, rfl⟩
   rw [← er, ← hv, ← hcS] at cv
   have hsp := Jtmt (v := v) d2 hdl
   rw [← hcS] at hsp
   rw [← hv]
   have ew : writeL m dst v = { m with slots := setI m.slots (dst.tdiv 2) v } := by unfold writeL; rw [if_pos hds]
   rw [ew]
   have hwl := Jtmu m.slots (dst.tdiv 2) v
   obtain ⟨cW, hcW⟩ : ∃ z, z = Jtlr ((setI m.slots (dst.tdiv 2) v).map intRow) := ⟨_, rfl⟩
   rw [← hcW] at hsp
   obtain ⟨kd, hkd⟩ : ∃ k, k = (dst.tdiv 2).toNat := ⟨_, rfl⟩
   obtain ⟨ks, hks⟩ : ∃ k, k = (src.tdiv 2).toNat := ⟨_, rfl⟩
   rw [← hkd] at cd hsp
   rw [← hks] at cs cv
   have hkl : kd < m.slots.length := by omega
   have hkl2 : kd + 1 ≤ m.slots.length := by omega
   have hskl : ks < m.slots.length := by omega
   have cv2 : ∀ h : ks < cS.length, cS[ks]'h = AI v := fun h => (List.getElem?_eq_some_iff.1 cv).2
   have hsp2 : List.take kd cS ++ AI v :: List.drop (kd + 1) cS = cW := by rw [← hsp]; simp [spl]
   refine A.execute_state_move.run rfl fun R hR => ?_
   simp only [stM, regB, slotB, ← hcR, ← hcS] at cd cs ⊢
   (simp (maxSteps := 1000000) [Jtct, Mach.av])
   refine ⟨⟨?_, ?_⟩, ?_⟩
   all_goals
    refine Jtz [0, 1, 2] cd (by decide) (by rfl) (by rfl) (by subst hcR hcS; exact Jtl8 (by rfl) (by rfl) g m) (by subst hcR hcS; exact Jtl8 (by rfl) (by rfl) g m) (by rfl) (by rfl) ?_
    simp only [stM, regB, slotB, ← hcR, ← hcS]
    (simp (maxSteps := 1000000) [])
    refine Jtz [0, 1, 2] cs (by decide) (by rfl) (by rfl) (by subst hcR hcS; exact Jtl8 (by rfl) (by rfl) g m) (by subst hcR hcS; exact Jtl8 (by rfl) (by rfl) g m) (by rfl) (by rfl) ?_
    simp only [stM, regB, slotB, ← hcR, ← hcS]
    (simp (maxSteps := 1000000) [lr, ls, cv, cv2, hkl, hkl2, hskl, hsp, hsp2])
    refine hR _ _ (Jt42 (AB true) (AB true) [stM 1 2 g { m with slots := setI m.slots (dst.tdiv 2) v }, regB { m with slots := setI m.slots (dst.tdiv 2) v }, slotB { m with slots := setI m.slots (dst.tdiv 2) v }] rfl ?_ ⟨rfl, by simp only [stM, regB, slotB]⟩)
    simp only [stM, regB, slotB, hwl, ← hcW, ← hcR, ← hcS]
    subst hcW hcR hcS
    (exact wkA)
  ·have e1 : locB dst = 2 := by unfold locB; rw [if_pos hds]
   have e2 : locB src = 1 := by unfold locB; rw [if_neg hss]
   rw [e1] at cd
   rw [e2] at cs
   have hdl := d3 hds
   have hsl := s4 hss
   have cv := cellI s2 hsl
   have er : readL m src = gI m.regs (src.tdiv 2) := by unfold readL; rw [if_neg hss]
   obtain ⟨v, hv⟩ : ∃ v, v = readL m src := ⟨_, rfl⟩
   rw [← er, ← hv, ← hcR] at cv
   have hsp := Jtmt (v := v) d2 hdl
   rw [← hcS] at hsp
   rw [← hv]
   have ew : writeL m dst v = { m with slots := setI m.slots (dst.tdiv 2) v } := by unfold writeL; rw [if_pos hds]
   rw [ew]
   have hwl := Jtmu m.slots (dst.tdiv 2) v
   obtain ⟨cW, hcW⟩ : ∃ z, z = Jtlr ((setI m.slots (dst.tdiv 2) v).map intRow) := ⟨_, rfl⟩
   rw [← hcW] at hsp
   obtain ⟨kd, hkd⟩ : ∃ k, k = (dst.tdiv 2).toNat := ⟨_, rfl⟩
   obtain ⟨ks, hks⟩ : ∃ k, k = (src.tdiv 2).toNat := ⟨_, rfl⟩
   rw [← hkd] at cd hsp
   rw [← hks] at cs cv
   have hkl : kd < m.slots.length := by omega
   have hkl2 : kd + 1 ≤ m.slots.length := by omega
   have hskl : ks < m.regs.length := by omega
   have cv2 : ∀ h : ks < cR.length, cR[ks]'h = AI v := fun h => (List.getElem?_eq_some_iff.1 cv).2
   have hsp2 : List.take kd cS ++ AI v :: List.drop (kd + 1) cS = cW := by rw [← hsp]; simp [spl]
   refine A.execute_state_move.run rfl fun R hR => ?_
   simp only [stM, regB, slotB, ← hcR, ← hcS] at cd cs ⊢
   (simp (maxSteps := 1000000) [Jtct, Mach.av])
   refine ⟨⟨?_, ?_⟩, ?_⟩
   all_goals
    refine Jtz [0, 1, 2] cd (by decide) (by rfl) (by rfl) (by subst hcR hcS; exact Jtl8 (by rfl) (by rfl) g m) (by subst hcR hcS; exact Jtl8 (by rfl) (by rfl) g m) (by rfl) (by rfl) ?_
    simp only [stM, regB, slotB, ← hcR, ← hcS]
    (simp (maxSteps := 1000000) [])
    refine Jtz [0, 1, 2] cs (by decide) (by rfl) (by rfl) (by subst hcR hcS; exact Jtl8 (by rfl) (by rfl) g m) (by subst hcR hcS; exact Jtl8 (by rfl) (by rfl) g m) (by rfl) (by rfl) ?_
    simp only [stM, regB, slotB, ← hcR, ← hcS]
    (simp (maxSteps := 1000000) [lr, ls, cv, cv2, hkl, hkl2, hskl, hsp, hsp2])
    refine hR _ _ (Jt42 (AB true) (AB true) [stM 1 2 g { m with slots := setI m.slots (dst.tdiv 2) v }, regB { m with slots := setI m.slots (dst.tdiv 2) v }, slotB { m with slots := setI m.slots (dst.tdiv 2) v }] rfl ?_ ⟨rfl, by simp only [stM, regB, slotB]⟩)
    simp only [stM, regB, slotB, hwl, ← hcW, ← hcR, ← hcS]
    subst hcW hcR hcS
    (exact wkA)
 ·by_cases hss : src.tmod 2 = 1
  ·have e1 : locB dst = 1 := by unfold locB; rw [if_neg hds]
   have e2 : locB src = 2 := by unfold locB; rw [if_pos hss]
   rw [e1] at cd
   rw [e2] at cs
   have hdl := d4 hds
   have hsl := s3 hss
   have cv := cellI s2 hsl
   have er : readL m src = gI m.slots (src.tdiv 2) := by unfold readL; rw [if_pos hss]
   obtain ⟨v, hv⟩ : ∃ v, v = readL m src := ⟨_, rfl⟩
   rw [← er, ← hv, ← hcS] at cv
   have hsp := Jtmt (v := v) d2 hdl
   rw [← hcR] at hsp
   rw [← hv]
   have ew : writeL m dst v = { m with regs := setI m.regs (dst.tdiv 2) v } := by unfold writeL; rw [if_neg hds]
   rw [ew]
   have hwl := Jtmu m.regs (dst.tdiv 2) v
   obtain ⟨cW, hcW⟩ : ∃ z, z = Jtlr ((setI m.regs (dst.tdiv 2) v).map intRow) := ⟨_, rfl⟩
   rw [← hcW] at hsp
   obtain ⟨kd, hkd⟩ : ∃ k, k = (dst.tdiv 2).toNat := ⟨_, rfl⟩
   obtain ⟨ks, hks⟩ : ∃ k, k = (src.tdiv 2).toNat := ⟨_, rfl⟩
   rw [← hkd] at cd hsp
   rw [← hks] at cs cv
   have hkl : kd < m.regs.length := by omega
   have hkl2 : kd + 1 ≤ m.regs.length := by omega
   have hskl : ks < m.slots.length := by omega
   have cv2 : ∀ h : ks < cS.length, cS[ks]'h = AI v := fun h => (List.getElem?_eq_some_iff.1 cv).2
   have hsp2 : List.take kd cR ++ AI v :: List.drop (kd + 1) cR = cW := by rw [← hsp]; simp [spl]
   refine A.execute_state_move.run rfl fun R hR => ?_
   simp only [stM, regB, slotB, ← hcR, ← hcS] at cd cs ⊢
   (simp (maxSteps := 1000000) [Jtct, Mach.av])
   refine ⟨⟨?_, ?_⟩, ?_⟩
   all_goals
    refine Jtz [0, 1, 2] cd (by decide) (by rfl) (by rfl) (by subst hcR hcS; exact Jtl8 (by rfl) (by rfl) g m) (by subst hcR hcS; exact Jtl8 (by rfl) (by rfl) g m) (by rfl) (by rfl) ?_
    simp only [stM, regB, slotB, ← hcR, ← hcS]
    (simp (maxSteps := 1000000) [])
    refine Jtz [0, 1, 2] cs (by decide) (by rfl) (by rfl) (by subst hcR hcS; exact Jtl8 (by rfl) (by rfl) g m) (by subst hcR hcS; exact Jtl8 (by rfl) (by rfl) g m) (by rfl) (by rfl) ?_
    simp only [stM, regB, slotB, ← hcR, ← hcS]
    (simp (maxSteps := 1000000) [lr, ls, cv, cv2, hkl, hkl2, hskl, hsp, hsp2])
    refine hR _ _ (Jt42 (AB true) (AB true) [stM 1 2 g { m with regs := setI m.regs (dst.tdiv 2) v }, regB { m with regs := setI m.regs (dst.tdiv 2) v }, slotB { m with regs := setI m.regs (dst.tdiv 2) v }] rfl ?_ ⟨rfl, by simp only [stM, regB, slotB]⟩)
    simp only [stM, regB, slotB, hwl, ← hcW, ← hcR, ← hcS]
    subst hcW hcR hcS
    (exact wkA)
  ·have e1 : locB dst = 1 := by unfold locB; rw [if_neg hds]
   have e2 : locB src = 1 := by unfold locB; rw [if_neg hss]
   rw [e1] at cd
   rw [e2] at cs
   have hdl := d4 hds
   have hsl := s4 hss
   have cv := cellI s2 hsl
   have er : readL m src = gI m.regs (src.tdiv 2) := by unfold readL; rw [if_neg hss]
   obtain ⟨v, hv⟩ : ∃ v, v = readL m src := ⟨_, rfl⟩
   rw [← er, ← hv, ← hcR] at cv
   have hsp := Jtmt (v := v) d2 hdl
   rw [← hcR] at hsp
   rw [← hv]
   have ew : writeL m dst v = { m with regs := setI m.regs (dst.tdiv 2) v } := by unfold writeL; rw [if_neg hds]
   rw [ew]
   have hwl := Jtmu m.regs (dst.tdiv 2) v
   obtain ⟨cW, hcW⟩ : ∃ z, z = Jtlr ((setI m.regs (dst.tdiv 2) v).map intRow) := ⟨_, rfl⟩
   rw [← hcW] at hsp
   obtain ⟨kd, hkd⟩ : ∃ k, k = (dst.tdiv 2).toNat := ⟨_, rfl⟩
   obtain ⟨ks, hks⟩ : ∃ k, k = (src.tdiv 2).toNat := ⟨_, rfl⟩
   rw [← hkd] at cd hsp
   rw [← hks] at cs cv
   have hkl : kd < m.regs.length := by omega
   have hkl2 : kd + 1 ≤ m.regs.length := by omega
   have hskl : ks < m.regs.length := by omega
   have cv2 : ∀ h : ks < cR.length, cR[ks]'h = AI v := fun h => (List.getElem?_eq_some_iff.1 cv).2
   have hsp2 : List.take kd cR ++ AI v :: List.drop (kd + 1) cR = cW := by rw [← hsp]; simp [spl]
   refine A.execute_state_move.run rfl fun R hR => ?_
   simp only [stM, regB, slotB, ← hcR, ← hcS] at cd cs ⊢
   (simp (maxSteps := 1000000) [Jtct, Mach.av])
   refine ⟨⟨?_, ?_⟩, ?_⟩
   all_goals
    refine Jtz [0, 1, 2] cd (by decide) (by rfl) (by rfl) (by subst hcR hcS; exact Jtl8 (by rfl) (by rfl) g m) (by subst hcR hcS; exact Jtl8 (by rfl) (by rfl) g m) (by rfl) (by rfl) ?_
    simp only [stM, regB, slotB, ← hcR, ← hcS]
    (simp (maxSteps := 1000000) [])
    refine Jtz [0, 1, 2] cs (by decide) (by rfl) (by rfl) (by subst hcR hcS; exact Jtl8 (by rfl) (by rfl) g m) (by subst hcR hcS; exact Jtl8 (by rfl) (by rfl) g m) (by rfl) (by rfl) ?_
    simp only [stM, regB, slotB, ← hcR, ← hcS]
    (simp (maxSteps := 1000000) [lr, ls, cv, cv2, hkl, hkl2, hskl, hsp, hsp2])
    refine hR _ _ (Jt42 (AB true) (AB true) [stM 1 2 g { m with regs := setI m.regs (dst.tdiv 2) v }, regB { m with regs := setI m.regs (dst.tdiv 2) v }, slotB { m with regs := setI m.regs (dst.tdiv 2) v }] rfl ?_ ⟨rfl, by simp only [stM, regB, slotB]⟩)
    simp only [stM, regB, slotB, hwl, ← hcW, ← hcR, ← hcS]
    subst hcW hcR hcS
    (exact wkA)
end
end Go.AE
set_option maxRecDepth 4000
namespace Go.AE
open Go
structure OkX (m : RunZ) (x : Mach) : Prop where
 mv : x.op = 18 → LocOk m x.dst ∧ LocOk m x.src
 em : x.op = 17 → 0 ≤ x.a ∧ x.a < m.regs.length
 op : x.op ≠ 18 → x.op ≠ 17 → (0 ≤ x.a ∧ x.a < m.regs.length) ∧ (0 ≤ x.b ∧ x.b < m.regs.length) ∧ (0 ≤ x.d ∧ x.d < m.regs.length)
theorem Jtr2 (m : RunZ) (l v : Int) : (writeL m l v).at_ = m.at_ ∧ (writeL m l v).steps = m.steps := by unfold writeL; split <;> exact ⟨rfl, rfl⟩
section
theorem Jt9k {P : Program} {p : Nums} (A : All P p) (g : MFunc) (x : Mach) (m : RunZ) (ok : OkX m x) (h1 : m.at_ < 1000000000) (h2 : m.steps < 1000000000) (h3 : m.trace.length < 1000000000) :
  Jt3x P p.execute_state_instr [.ptr 0 0, x.av] [stM 1 2 g m, regB m, slotB m] fun o H' => o = .ret (.tup []) ∧ H' = [stM 1 2 g (stepMI x m), regB (stepMI x m), slotB (stepMI x m)] := by
 obtain ⟨T, hT⟩ : ∃ T, T = stepMI x m := ⟨_, rfl⟩
 rw [← hT]
 unfold stepMI at hT
 by_cases h18 : x.op = 18
 ·rw [if_pos h18] at hT
  obtain ⟨o1, o2⟩ := ok.mv h18
  have cm := Jt9l A g x m o1 o2
  obtain ⟨W, hW⟩ : ∃ W, W = writeL m x.dst (readL m x.src) := ⟨_, rfl⟩
  obtain ⟨e1, e2⟩ := Jtr2 m x.dst (readL m x.src)
  rw [← hW] at cm hT e1 e2
  rw [← e1, ← e2] at hT
  have w1 := Jtr1 (k := W.at_) (by omega)
  have w2 := Jtr1 (k := W.steps) (by omega)
  have h18b : (x.op == 18) = true := by simpa using h18
  refine A.execute_state_instr.run rfl fun R hR => ?_
  simp only [stM, regB, slotB, Mach.av] at cm ⊢
  (simp (maxSteps := 1000000) [Jtcs, h18b])
  refine ⟨A.execute_state_move.ok, ?_⟩
  refine Jtz [0, 1, 2] cm (by decide) (by rfl) (by rfl) (Jtl8 (by rfl) (by rfl) g m) (Jtl8 (by rfl) (by rfl) g W) (by rfl) (by rfl) ?_
  simp only [stM, regB, slotB]
  (simp (maxSteps := 1000000) [w1, w2])
  refine hR _ _ (Fin_wk (.tup []) (.tup []) [stM 1 2 g T, regB T, slotB T] rfl ?_ ⟨rfl, by simp only [stM, regB, slotB]⟩)
  rw [hT]
  simp only [stM, regB, slotB]
  (exact wkA)
 rw [if_neg h18] at hT
 have h18b : (x.op == 18) = false := by simpa using h18
 have w1 := Jtr1 (k := m.at_) (by omega)
 have w2 := Jtr1 (k := m.steps) (by omega)
 by_cases h17 : x.op = 17
 ·rw [if_pos h17] at hT
  have cm := Jt9j A g x m (ok.em h17) h3
  have h17b : (x.op == 17) = true := by simpa using h17
  obtain ⟨W, hW⟩ : ∃ W : RunZ, W = { m with trace := m.trace ++ [gI m.regs x.a] } := ⟨_, rfl⟩
  have e1 : W.at_ = m.at_ ∧ W.steps = m.steps ∧ W.regs = m.regs ∧ W.slots = m.slots := by rw [hW]; exact ⟨rfl, rfl, rfl, rfl⟩
  have hTW : T = { W with at_ := W.at_ + 1, steps := W.steps + 1 } := by rw [hT, hW]
  have eB : [stM 1 2 g W, regB m, slotB m] = [stM 1 2 g W, regB W, slotB W] := by rw [hW]; rfl
  rw [← hW, eB] at cm
  rw [← e1.1] at w1
  rw [← e1.2.1] at w2
  refine A.execute_state_instr.run rfl fun R hR => ?_
  simp only [stM, regB, slotB, Mach.av] at cm ⊢
  (simp (maxSteps := 1000000) [Jtcs, h18b, h17b])
  refine ⟨A.execute_state_emit.ok, ?_⟩
  refine Jtz [0, 1, 2] cm (by decide) (by rfl) (by rfl) (Jtl8 (by rfl) (by rfl) g m) (Jtl8 (by rfl) (by rfl) g W) (by rfl) (by rfl) ?_
  simp only [stM, regB, slotB]
  (simp (maxSteps := 1000000) [w1, w2])
  refine hR _ _ (Fin_wk (.tup []) (.tup []) [stM 1 2 g T, regB T, slotB T] rfl ?_ ⟨rfl, by simp only [stM, regB, slotB]⟩)
  rw [hTW]
  simp only [stM, regB, slotB]
  (exact wkA)
 ·rw [if_neg h17] at hT
  have h17b : (x.op == 17) = false := by simpa using h17
  obtain ⟨k1, k2, k3⟩ := ok.op h18 h17
  have cm := Jt9i A g x m k1 k2 k3
  obtain ⟨⟨y, b⟩, hx⟩ : ∃ y, y = aluZ x.op (gI m.regs x.a) (gI m.regs x.b) x.imm := ⟨_, rfl⟩
  rw [← hx] at cm hT
  simp only at cm hT
  refine A.execute_state_instr.run rfl fun R hR => ?_
  cases b with
  | false =>
   rw [if_neg (by simp)] at hT
   simp only [Bool.false_eq_true, if_false] at cm
   simp only [stM, regB, slotB, Mach.av] at cm ⊢
   (simp (maxSteps := 1000000) [Jtcs, h18b, h17b])
   refine ⟨A.execute_state_compute.ok, ?_⟩
   refine Jtz [0, 1, 2] cm (by decide) (by rfl) (by rfl) (Jtl8 (by rfl) (by rfl) g m) (Jtl8 (by rfl) (by rfl) g m) (by rfl) (by rfl) ?_
   simp only [stM, regB, slotB]
   (simp (maxSteps := 1000000) [])
   refine hR _ _ (Jt42 (.tup []) (.tup []) [stM 1 2 g T, regB T, slotB T] rfl ?_ ⟨rfl, by simp only [stM, regB, slotB]⟩)
   rw [hT]
   simp only [stM, regB, slotB]
   (exact wkA)
  | true =>
   rw [if_pos rfl] at hT
   simp only [if_true] at cm
   obtain ⟨W, hW⟩ : ∃ W : RunZ, W = { m with regs := setI m.regs x.d y } := ⟨_, rfl⟩
   have hTW : T = { W with at_ := W.at_ + 1, steps := W.steps + 1 } := by rw [hT, hW]
   have e1 : W.at_ = m.at_ ∧ W.steps = m.steps := by rw [hW]; exact ⟨rfl, rfl⟩
   have hsl := Jtmu m.regs x.d y
   have eB : [stM 1 2 g m, regB { m with regs := setI m.regs x.d y }, slotB m] = [stM 1 2 g W, regB W, slotB W] := by rw [hW]; simp only [stM, regB, slotB, hsl]
   rw [eB] at cm
   rw [← e1.1] at w1
   rw [← e1.2] at w2
   simp only [stM, regB, slotB, Mach.av] at cm ⊢
   (simp (maxSteps := 1000000) [Jtcs, h18b, h17b])
   refine ⟨A.execute_state_compute.ok, ?_⟩
   refine Jtz [0, 1, 2] cm (by decide) (by rfl) (by rfl) (Jtl8 (by rfl) (by rfl) g m) (Jtl8 (by rfl) (by rfl) g W) (by rfl) (by rfl) ?_
   simp only [stM, regB, slotB]
   (simp (maxSteps := 1000000) [w1, w2])
   refine hR _ _ (Fin_wk (.tup []) (.tup []) [stM 1 2 g T, regB T, slotB T] rfl ?_ ⟨rfl, by simp only [stM, regB, slotB]⟩)
   rw [hTW]
   simp only [stM, regB, slotB]
   (exact wkA)
theorem Jt9n {P : Program} {p : Nums} (A : All P p) (g : MFunc) (t : Term) (m : RunZ) (ha : t.kind ≠ 1 → 0 ≤ t.a ∧ t.a < m.regs.length) (hto : t.kind = 1 ∨ t.kind = 2 → 0 ≤ t.to) (hel : t.kind = 2 → 0 ≤ t.els) (hk : t.kind = 1 ∨ t.kind = 2 ∨ t.kind = 3) (h2 : m.steps < 1000000000) :
  Jt3x P p.execute_state_term [.ptr 0 0, t.av] [stM 1 2 g m, regB m, slotB m] fun o H' => o = .ret (.tup []) ∧ H' = [stM 1 2 g (stepMT t m), regB (stepMT t m), slotB (stepMT t m)] := by
 obtain ⟨state, block, at_, value, regs, slots, trace, steps⟩ := m
 simp only at ha h2
 obtain ⟨T, hT⟩ : ∃ T, T = stepMT t ⟨state, block, at_, value, regs, slots, trace, steps⟩ := ⟨_, rfl⟩
 rw [← hT]
 unfold stepMT at hT
 simp only at hT
 have ca := fun h => cellI (ha h).1 (ha h).2
 have hl := lenI regs
 have w2 := Jtr1 (k := steps) (by omega)
 obtain ⟨va, hva⟩ : ∃ v, v = gI regs t.a := ⟨_, rfl⟩
 rw [← hva] at ca hT
 obtain ⟨n, hn⟩ : ∃ n, n = regs.length := ⟨_, rfl⟩
 rw [← hn] at ha hl
 obtain ⟨cR, hcR⟩ : ∃ y, y = Jtlr (regs.map intRow) := ⟨_, rfl⟩
 rw [← hcR] at ca hl
 obtain ⟨kind, a, to, els⟩ := t
 simp only at ha hT ca hk hto hel
 have ca2 : kind ≠ 1 → ∀ h : a.toNat < cR.length, cR[a.toNat]'h = AI va := fun h0 h => (List.getElem?_eq_some_iff.1 (ca h0)).2
 refine A.execute_state_term.run rfl fun R hR => ?_
 simp only [stM, regB, slotB, ← hn, ← hcR]
 rcases hk with rfl | rfl | rfl
 ·rw [if_neg (by decide), if_pos rfl] at hT
  have he : ((to.toNat : Nat) : Int) = to := by have := hto (.inl rfl); omega
  (simp (maxSteps := 1000000) [Jtcv, Term.av, w2])
  refine hR _ _ (Fin_wk (.tup []) (.tup []) [stM 1 2 g T, regB T, slotB T] rfl ?_ ⟨rfl, by simp only [stM, regB, slotB]⟩)
  rw [hT]
  simp only [stM, regB, slotB, ← hn, ← hcR, he]
  subst hcR
  (exact wkA)
 ·have ha := ha (by decide)
  have ca := ca (by decide)
  have ca2 := ca2 (by decide)
  rw [if_neg (by decide), if_neg (by decide)] at hT
  by_cases hz : va = 0
  ·rw [if_pos hz] at hT
   have hzb : (va != 0) = false := by simpa using hz
   have he : ((els.toNat : Nat) : Int) = els := by have := hel rfl; omega
   (simp (maxSteps := 1000000) [Jtcv, Term.av, w2, ha, hl, ca, ca2, hzb])
   refine hR _ _ (Fin_wk (.tup []) (.tup []) [stM 1 2 g T, regB T, slotB T] rfl ?_ ⟨rfl, by simp only [stM, regB, slotB]⟩)
   rw [hT]
   simp only [stM, regB, slotB, ← hn, ← hcR, he]
   subst hcR
   (exact wkA)
  ·rw [if_neg hz] at hT
   have hzb : (va != 0) = true := by simpa using hz
   have he : ((to.toNat : Nat) : Int) = to := by have := hto (.inr rfl); omega
   (simp (maxSteps := 1000000) [Jtcv, Term.av, w2, ha, hl, ca, ca2, hzb])
   refine hR _ _ (Fin_wk (.tup []) (.tup []) [stM 1 2 g T, regB T, slotB T] rfl ?_ ⟨rfl, by simp only [stM, regB, slotB]⟩)
   rw [hT]
   simp only [stM, regB, slotB, ← hn, ← hcR, he]
   subst hcR
   (exact wkA)
 ·have ha := ha (by decide)
  have ca := ca (by decide)
  have ca2 := ca2 (by decide)
  rw [if_pos rfl] at hT
  (simp (maxSteps := 1000000) [Jtcv, Term.av, w2, ha, hl, ca, ca2])
  refine hR _ _ (Jt42 (.tup []) (.tup []) [stM 1 2 g T, regB T, slotB T] rfl ?_ ⟨rfl, by simp only [stM, regB, slotB]⟩)
  rw [hT]
  simp only [stM, regB, slotB, ← hn, ← hcR]
  subst hcR
  (exact wkA)
end
end Go.AE
set_option maxRecDepth 4000
namespace Go.AE
open Go
structure OkG (g : MFunc) (n1 n2 : Nat) : Prop where
 code : ∀ b ∈ g.blocks, ∀ x ∈ b.code, ∀ m : RunZ, m.regs.length = n1 → m.slots.length = n2 → OkX m x
 term : ∀ b ∈ g.blocks, OkT b.term n1 g.blocks.length
structure OkRM (g : MFunc) (n1 n2 : Nat) (m : RunZ) : Prop where
 regs : m.regs.length = n1
 slots : m.slots.length = n2
 block : m.block < g.blocks.length
 at_ : ∀ b, g.blocks[m.block]? = some b → m.at_ ≤ b.code.length
theorem Jtr3 (m : RunZ) (l v : Int) : (writeL m l v).regs.length = m.regs.length ∧ (writeL m l v).slots.length = m.slots.length ∧ (writeL m l v).block = m.block ∧ (writeL m l v).state = m.state ∧ (writeL m l v).trace = m.trace := by
 unfold writeL; split
 ·exact ⟨rfl, by simp [setI], rfl, rfl, rfl⟩
 ·exact ⟨by simp [setI], rfl, rfl, rfl, rfl⟩
theorem Jtox (x : Mach) (m : RunZ) : (stepMI x m).regs.length = m.regs.length ∧ (stepMI x m).slots.length = m.slots.length ∧ (stepMI x m).block = m.block ∧ (stepMI x m).at_ ≤ m.at_ + 1 ∧ (stepMI x m).steps ≤ m.steps + 1 ∧ (stepMI x m).trace.length + m.steps ≤ m.trace.length + (stepMI x m).steps ∧
  ((stepMI x m).state = 0 → (stepMI x m).steps = m.steps + 1) := by
 unfold stepMI
 split
 ·obtain ⟨h1, h2, h3, h4, h5⟩ := Jtr3 m x.dst (readL m x.src)
  refine ⟨h1, h2, h3, by simp, by simp, ?_, fun _ => rfl⟩
  show (writeL m x.dst (readL m x.src)).trace.length + m.steps ≤ m.trace.length + (m.steps + 1)
  rw [h5]; omega
 ·split
  ·exact ⟨rfl, rfl, rfl, by simp, by simp, by simp; omega, fun _ => rfl⟩
  ·split
   ·exact ⟨by simp [setI], rfl, rfl, by simp, by simp, by simp, fun _ => rfl⟩
   ·exact ⟨rfl, rfl, rfl, by simp, by simp, by simp, fun h => by cases h⟩
theorem Jtoy (t : Term) (m : RunZ) : (stepMT t m).regs.length = m.regs.length ∧ (stepMT t m).slots.length = m.slots.length ∧ (stepMT t m).at_ ≤ m.at_ + 1 ∧ (stepMT t m).steps = m.steps + 1 ∧ (stepMT t m).trace = m.trace := by
 unfold stepMT
 split
 ·exact ⟨rfl, rfl, by simp, rfl, rfl⟩
 ·split
  ·exact ⟨rfl, rfl, by simp, rfl, rfl⟩
  ·split
   ·exact ⟨rfl, rfl, by simp, rfl, rfl⟩
   ·exact ⟨rfl, rfl, by simp, rfl, rfl⟩
theorem Jtoz (g : MFunc) (m : RunZ) : (stepM g m).steps ≤ m.steps + 1 ∧ (stepM g m).trace.length + m.steps ≤ m.trace.length + (stepM g m).steps ∧ ((stepM g m).state = 0 → g.blocks[m.block]? ≠ none → (stepM g m).steps = m.steps + 1) := by
 unfold stepM
 cases hb : g.blocks[m.block]? with
 | none => exact ⟨by simp, by simp, fun _ h => absurd rfl h⟩
 | some b =>
  simp only
  cases hi : b.code[m.at_]? with
  | some x =>
   simp only
   obtain ⟨h1, h2, h3, h4, h5, h6, h7⟩ := Jtox x m
   exact ⟨h5, h6, fun h _ => h7 h⟩
  | none =>
   simp only
   obtain ⟨h1, h2, h3, h4, h5⟩ := Jtoy b.term m
   exact ⟨by omega, by rw [h5]; omega, fun _ _ => h4⟩
theorem Jtp0 {g : MFunc} {n1 n2 : Nat} {m : RunZ} (hg : OkG g n1 n2) (h : OkRM g n1 n2 m) : OkRM g n1 n2 (stepM g m) := by
 obtain ⟨b, hb⟩ : ∃ b, g.blocks[m.block]? = some b := ⟨_, List.getElem?_eq_getElem h.block⟩
 have hat := h.at_ b hb
 unfold stepM
 rw [hb]
 simp only
 cases hi : b.code[m.at_]? with
 | some x =>
  simp only
  have hlt := (List.getElem?_eq_some_iff.1 hi).1
  obtain ⟨h1, h2, h3, h4, h5, h6, h7⟩ := Jtox x m
  refine ⟨by rw [h1]; exact h.regs, by rw [h2]; exact h.slots, by rw [h3]; exact h.block, fun b' hb' => ?_⟩
  rw [h3, hb] at hb'; injection hb' with hb'; subst hb'; omega
 | none =>
  simp only
  have ht := hg.term b (List.mem_of_getElem? hb)
  unfold stepMT
  split
  ·exact ⟨h.regs, h.slots, h.block, h.at_⟩
  ·rename_i k3
   split
   ·rename_i k1
    have := ht.to (.inl k1)
    exact ⟨h.regs, h.slots, by show b.term.to.toNat < _; omega, fun b' _ => Nat.zero_le _⟩
   ·rename_i k1
    have hk : b.term.kind = 2 := by have := ht.kind; omega
    split
    ·have := ht.els hk
     exact ⟨h.regs, h.slots, by show b.term.els.toNat < _; omega, fun b' _ => Nat.zero_le _⟩
    ·have := ht.to (.inr hk)
     exact ⟨h.regs, h.slots, by show b.term.to.toNat < _; omega, fun b' _ => Nat.zero_le _⟩
def runM (g : MFunc) (lim : Nat) : Nat → RunZ → RunZ
 | 0, m => m
 | k + 1, m => if m.state = 0 ∧ m.steps < lim then runM g lim k (stepM g m) else m
theorem Jtme {g : MFunc} {lim : Nat} {m : RunZ} (h : ¬ (m.state = 0 ∧ m.steps < lim)) (k : Nat) : runM g lim k m = m := by
 cases k with
 | zero => rfl
 | succ k => unfold runM; rw [if_neg h]
def runM0 (g : MFunc) (args : List Int) : RunZ := ⟨0, 0, 0, 0, List.replicate g.regs.toNat 0, args ++ List.replicate (g.slots.toNat - args.length) 0, [], 0⟩
def execM (g : MFunc) (args : List Int) (lim : Nat) : RunZ := runM g lim (lim + 1) (runM0 g args)
section
theorem Jt9m {P : Program} {p : Nums} (A : All P p) (g : MFunc) (n1 n2 : Nat) (m : RunZ) (hg : OkG g n1 n2) (h : OkRM g n1 n2 m) (h1 : m.at_ < 1000000) (h2 : m.steps < 1000000000) (h3 : m.trace.length < 1000000000) :
  Jt3x P p.execute_state_step [.ptr 0 0] [stM 1 2 g m, regB m, slotB m] fun o H' => o = .ret (.tup []) ∧ H' = [stM 1 2 g (stepM g m), regB (stepM g m), slotB (stepM g m)] := by
 obtain ⟨b, hb⟩ : ∃ b, g.blocks[m.block]? = some b := ⟨_, List.getElem?_eq_getElem h.block⟩
 have hat := h.at_ b hb
 have mb := List.mem_of_getElem? hb
 have hfR : (g.blocks.map MBlock.row)[m.block]? = some b.row := by rw [List.getElem?_map, hb]; rfl
 obtain ⟨T, hT⟩ : ∃ T, T = stepM g m := ⟨_, rfl⟩
 rw [← hT]
 unfold stepM at hT
 rw [hb] at hT
 simp only at hT
 refine A.execute_state_step.run rfl fun R hR => ?_
 by_cases hlt : m.at_ < b.code.length
 ·have hi : b.code[m.at_]? = some b.code[m.at_] := by simp [hlt]
  obtain ⟨i, hie⟩ : ∃ i, i = b.code[m.at_] := ⟨_, rfl⟩
  rw [← hie] at hi
  rw [hi] at hT
  simp only at hT
  have hiR : (b.code.map Mach.row)[m.at_]? = some i.row := by rw [List.getElem?_map, hi]; rfl
  have hc := Jt9k A g i m (hg.code b mb i (List.mem_of_getElem? hi) m h.regs h.slots) (by omega) h2 h3
  rw [← hT] at hc
  simp only [stM, regB, slotB]
  (simp (maxSteps := 1000000) [Jtcu, hfR, MBlock.row, hlt, hiR, Mach.row])
  simp only [← hie]
  refine Jtz [0, 1, 2] hc (by decide) (by rfl) (by rfl) (Jtl8 (by rfl) (by rfl) g m) (Jtl8 (by rfl) (by rfl) g T) (by rfl) (by rfl) ?_
  simp only [stM, regB, slotB]
  (simp (maxSteps := 1000000) [])
  refine hR _ _ (Fin_wk (.tup []) (.tup []) [stM 1 2 g T, regB T, slotB T] rfl ?_ ⟨rfl, by simp only [stM, regB, slotB]⟩)
  simp only [stM, regB, slotB]
  (exact wkA)
 ·have hi : b.code[m.at_]? = none := List.getElem?_eq_none (by omega)
  rw [hi] at hT
  simp only at hT
  have ok := hg.term b mb
  have hc := Jt9n A g b.term m (fun h0 => by rw [h.regs]; exact ok.a h0) (fun h0 => (ok.to h0).1) (fun h0 => (ok.els h0).1) ok.kind h2
  rw [← hT] at hc
  simp only [stM, regB, slotB]
  (simp (maxSteps := 1000000) [Jtcu, hfR, MBlock.row, hlt])
  refine Jtz [0, 1, 2] hc (by decide) (by rfl) (by rfl) (Jtl8 (by rfl) (by rfl) g m) (Jtl8 (by rfl) (by rfl) g T) (by rfl) (by rfl) ?_
  simp only [stM, regB, slotB]
  (simp (maxSteps := 1000000) [])
  refine hR _ _ (Fin_wk (.tup []) (.tup []) [stM 1 2 g T, regB T, slotB T] rfl ?_ ⟨rfl, by simp only [stM, regB, slotB]⟩)
  simp only [stM, regB, slotB]
  (exact wkA)
theorem Jt9h {P : Program} {p : Nums} (A : All P p) (g : MFunc) (args : List Int) (n1 n2 : Nat) (hn1 : g.regs = (n1 : Int)) (hn2 : g.slots = (n2 : Int)) (q1 : n1 ≤ 1000000) (q2 : n2 ≤ 1000000) (h2 : args.length ≤ n2) :
    Jt3x P p.execute_begin [g.av, .d (intsD args)] [] fun o H' => o = .ret (.ptr 1 0) ∧ (H' = [.dead, stM 2 3 g (runM0 g args), regB (runM0 g args), slotB (runM0 g args)] ∨ H' = [.dead, stM 3 2 g (runM0 g args), slotB (runM0 g args), regB (runM0 g args)]) := by
  obtain ⟨m0, hm0⟩ : ∃ m, m = runM0 g args := ⟨_, rfl⟩
  have e1 : m0.regs = List.replicate n1 0 := by rw [hm0]; unfold runM0; rw [hn1]; simp
  have e2 : m0.slots = args ++ List.replicate (n2 - args.length) 0 := by rw [hm0]; unfold runM0; rw [hn2]; simp
  have l1 : m0.regs.length = n1 := by rw [e1]; simp
  have l2 : m0.slots.length = n2 := by rw [e2]; simp; omega
  have e3 : m0.state = 0 ∧ m0.block = 0 ∧ m0.at_ = 0 ∧ m0.value = 0 ∧ m0.trace = [] ∧ m0.steps = 0 := by rw [hm0]; exact ⟨rfl, rfl, rfl, rfl, rfl, rfl⟩
  obtain ⟨a1, a2, a3, a4, a5, a6⟩ := e3
  rw [← hm0]
  obtain ⟨fR, hfR⟩ : ∃ y, y = g.blocks.map MBlock.row := ⟨_, rfl⟩
  have hca := Jt7c args n2 h2
  rw [← e2] at hca
  obtain ⟨aR, haR⟩ : ∃ y, y = args.map intRow := ⟨_, rfl⟩
  have har : ∀ r ∈ aR, r.length = 1 := by rw [haR]; exact Jtf1 args
  have hal : aR.length = args.length := by rw [haR]; simp
  rw [← haR] at hca
  obtain ⟨c1, hc1⟩ : ∃ y, y = Jtlr (List.replicate n1 [D.int .i64 0]) := ⟨_, rfl⟩
  obtain ⟨c2, hc2⟩ : ∃ y, y = Jtlr (List.replicate n2 [D.int .i64 0]) := ⟨_, rfl⟩
  have hc2l : c2.length = n2 := by rw [hc2, Jtlw (e := 1) (by intro r hr; rw [List.eq_of_mem_replicate hr]; rfl)]; simp
  have hc1e : c1 = Jtlr (m0.regs.map intRow) := by rw [hc1, Jtlh, e1]
  have hca2 : spl c2 0 (aR.flatten.map AV.d) = Jtlr (m0.slots.map intRow) := by rw [hc2, Jtlh]; exact hca
  have hca0 : aR = [] → c2 = Jtlr (m0.slots.map intRow) := fun h => by
    have ha0 : args = [] := by rw [h] at hal; exact List.eq_nil_of_length_eq_zero hal.symm
    rw [hc2, Jtlh, e2, ha0]; simp
  obtain ⟨cZ, hcZ⟩ : ∃ y, y = Jtlr (m0.slots.map intRow) := ⟨_, rfl⟩
  rw [← hcZ] at hca2 hca0
  refine A.execute_begin.run rfl fun R hR => ?_
  simp only [MFunc.av, intsD, ← hfR, ← haR, hn1, hn2]
  (simp (maxSteps := 1000000) [Jtco])
  repeat' (first
    | (refine Jt24 (n := n1) (by rfl) (by rfl) (by omega) (by omega) (by decide) (by rfl) ?_; rw [← hc1]; (simp (maxSteps := 1000000) []))
    | (refine Jt24 (n := n2) (by rfl) (by rfl) (by omega) (by omega) (by decide) (by rfl) ?_; rw [← hc2]; (simp (maxSteps := 1000000) []))
    | with_reducible refine And.intro ?_ ?_)
  all_goals refine Jt1n (by rfl) (by rfl) har (by omega) (by rfl) (by omega) (fun hne => ?_) (fun hne => ?_)
  all_goals first
    | (rw [hca2]; (simp (maxSteps := 1000000) []))
    | (rw [hca0 hne]; (simp (maxSteps := 1000000) []))
  all_goals
    first
    | (refine hR _ _ (Jt42 (.ptr 1 0) (.ptr 1 0) [.dead, stM 2 3 g m0, regB m0, slotB m0] rfl ?_ ⟨rfl, .inl rfl⟩)
       simp only [stM, regB, slotB, l1, l2, a1, a2, a3, a4, a5, a6, ← hfR, hn1, hn2, List.map_nil]
       subst hcZ
       subst hc1e
       (exact wkA))
    | (refine hR _ _ (Jt42 (.ptr 1 0) (.ptr 1 0) [.dead, stM 3 2 g m0, slotB m0, regB m0] rfl ?_ ⟨rfl, .inr rfl⟩)
       simp only [stM, regB, slotB, l1, l2, a1, a2, a3, a4, a5, a6, ← hfR, hn1, hn2, List.map_nil]
       subst hcZ
       subst hc1e
       (exact wkA))
end
end Go.AE
set_option maxRecDepth 4000
namespace Go.AE
open Go
theorem Jtl9 {ρ : Nat → Option Nat} {i j i' j' : Nat} (h : ρ i = some i') (h' : ρ j = some j') (g : MFunc) (r : RunZ) : renB ρ [.dead, stM i j g r, regB r, slotB r] = some [.dead, stM i' j' g r, regB r, slotB r] ∧ renB ρ [.dead, stM i j g r, slotB r, regB r] = some [.dead, stM i' j' g r, slotB r, regB r] := by
 have hr : renL ρ (Jtlr (r.regs.map intRow)) = some (Jtlr (r.regs.map intRow)) := renL_d _
 have hs : renL ρ (Jtlr (r.slots.map intRow)) = some (Jtlr (r.slots.map intRow)) := renL_d _
 constructor <;> simp only [renB, Blk.ren, stM, regB, slotB, renL, AV.ren, h, h', hr, hs]
theorem Jt14 {P : Program} {K : ASt → Prop} {QP : AV → ASt → Prop} {dst : Option Nat} {st : ASt} {f : Nat} {args cargs : List AV} {H1 H2 Hb1 Hb2 : List Blk} {e : Nat} {x y : AV} (h : Jt3x P f cargs [] fun o H' => o = .ret x ∧ (H' = H1 ∨ H' = H2))
  (ha : renL (idx []) args = some cargs) (hb1 : renB (back [] st.H.length e) H1 = some Hb1) (hb2 : renB (back [] st.H.length e) H2 = some Hb2) (hl1 : H1.length = e) (hl2 : H2.length = e) (hx : x.ren (back [] st.H.length e) = some y)
  (hK1 : K (put dst y ⟨unview st.env, st.H ++ Hb1⟩)) (hK2 : K (put dst y ⟨unview st.env, st.H ++ Hb2⟩)) : AWcall P false f args dst K QP st := by
 refine .inr ⟨rfl, .inr ⟨[], .nil, cargs, [], [], ha, rfl, rfl, h.mono ?_⟩⟩
 rintro o H' ⟨rfl, rfl | rfl⟩
 ·have ht : H'.take (([] : List Nat).length + e) = H' := by rw [List.length_nil, Nat.zero_add, ← hl1, List.take_length]
  refine ⟨e, Hb1, y, by rw [ht]; exact hb1, by rw [List.length_nil]; omega, hx, ?_⟩
  simpa [wback] using hK1
 ·have ht : H'.take (([] : List Nat).length + e) = H' := by rw [List.length_nil, Nat.zero_add, ← hl2, List.take_length]
  refine ⟨e, Hb2, y, by rw [ht]; exact hb2, by rw [List.length_nil]; omega, hx, ?_⟩
  simpa [wback] using hK2
section
theorem Jt9f {P : Program} {p : Nums} (A : All P p) (g : MFunc) (args : List Int) (n1 n2 lim : Nat) (hg : OkG g n1 n2) (hn1 : g.regs = (n1 : Int)) (hn2 : g.slots = (n2 : Int)) (q1 : n1 ≤ 1000000) (q2 : n2 ≤ 1000000) (h2 : args.length ≤ n2) (h3 : g.args = (args.length : Int)) (h4 : 0 < g.blocks.length) (h5 : lim ≤ 1000000) (h6 : ∀ b ∈ g.blocks, b.code.length < 1000000) :
  Jt3x P p.execute_Exec [g.av, .d (intsD args), AI lim] [] fun o _ => o = .ret (.tup [(execM g args lim).av, AI 0]) := by
 have hb := Jt9h A g args n1 n2 hn1 hn2 q1 q2 h2
 obtain ⟨T, hT⟩ : ∃ T, T = execM g args lim := ⟨_, rfl⟩
 rw [← hT]
 unfold execM at hT
 have hr0 : OkRM g n1 n2 (runM0 g args) := ⟨by unfold runM0; simp; omega, by unfold runM0; simp; omega, h4, fun b _ => Nat.zero_le _⟩
 obtain ⟨r0, hr0e⟩ : ∃ r, r = runM0 g args := ⟨_, rfl⟩
 rw [← hr0e] at hb hT hr0
 have hz : r0.trace = [] ∧ r0.steps = 0 := by rw [hr0e]; exact ⟨rfl, rfl⟩
 obtain ⟨aR, haR⟩ : ∃ y, y = args.map intRow := ⟨_, rfl⟩
 have hal : aR.length = args.length := by rw [haR]; simp
 obtain ⟨fR, hfR⟩ : ∃ y, y = g.blocks.map MBlock.row := ⟨_, rfl⟩
 have hm : ¬ ((1073741824 : Int) < lim) := by omega
 refine A.execute_Exec.run rfl fun R hR => ?_
 simp only [MFunc.av, intsD, ← hfR, ← haR, h3] at hb ⊢
 (simp (maxSteps := 1000000) [Jtcn, hal])
 refine Jt14 (e := 4) hb (by rfl) (Jtl9 (i := 2) (j := 3) (i' := 4) (j' := 5) (by rfl) (by rfl) g r0).1 (Jtl9 (i := 3) (j := 2) (i' := 5) (j' := 4) (by rfl) (by rfl) g r0).2 (by rfl) (by rfl) (by rfl) ?_ ?_
 ·(simp (maxSteps := 1000000) [])
  refine Jtd (fun r : RunZ => ⟨[(8, .ptr 3 0), (2, AI lim), (6, .ptr 1 0), (7, AI 0)], [.dead, .mem [AI 0, AI 0, AI 0, AI 0, .nils, .nils, .nils, AI 0], .dead, stM 4 5 g r, regB r, slotB r]⟩)
   (fun r => OkRM g n1 n2 r ∧ r.steps ≤ lim ∧ r.trace.length ≤ r.steps ∧ T = runM g lim (lim + 1 - r.steps) r) (fun r => if r.state = 0 then lim + 1 - r.steps else 0) r0
   ⟨hr0, by omega, by rw [hz.1]; exact Nat.zero_le _, by rw [hz.2]; exact hT⟩ (by simp only [stM, regB, slotB]; (exact wkA)) ?_
  rintro r ⟨k1, k3, k4, k5⟩ N hN
  obtain ⟨bk, hbk⟩ : ∃ b, g.blocks[r.block]? = some b := ⟨_, List.getElem?_eq_getElem k1.block⟩
  have hcs := Jt9m A g n1 n2 r hg k1 (by have := k1.at_ bk hbk; have := h6 bk (List.mem_of_getElem? hbk); omega) (by omega) (by omega)
  obtain ⟨s1, s3, s4⟩ := Jtoz g r
  have hfin : ¬ (r.state = 0 ∧ r.steps < lim) → T = r := fun h => by rw [k5, Jtme h]
  have hgo : r.state = 0 → r.steps < lim → T = runM g lim (lim - r.steps) (stepM g r) := fun h1 h2 => by
   rw [k5, show lim + 1 - r.steps = (lim - r.steps) + 1 by omega]
   show (if r.state = 0 ∧ r.steps < lim then runM g lim (lim - r.steps) (stepM g r) else r) = _
   rw [if_pos ⟨h1, h2⟩]
  have hav : ∀ H : List Blk, H[4]? = some (regB r) → H[5]? = some (slotB r) → WkV H 0 (.tup [.agg [AI r.state, AI r.block, AI r.at_, AI r.value, .hsl 4 0 1 r.regs.length, .hsl 5 0 1 r.slots.length, .d (.sl (r.trace.map intRow)), AI r.steps], AI 0]) (.tup [r.av, AI 0]) := fun H hH hH2 => by
   refine Jt4j ⟨Jt4i ⟨.refl _ rfl, .refl _ rfl, .refl _ rfl, .refl _ rfl, ?_, ?_, .refl _ rfl, .refl _ rfl, trivial⟩, .refl _ rfl, trivial⟩
   ·refine .hsl 4 0 1 r.regs.length (Jtlr (r.regs.map intRow)) (r.regs.map intRow) hH (Nat.zero_le _) ?_ (by simp) (Jtf1 _)
    rw [List.drop_zero, Nat.mul_one, ← lenI r.regs, List.take_length]; rfl
   ·refine .hsl 5 0 1 r.slots.length (Jtlr (r.slots.map intRow)) (r.slots.map intRow) hH2 (Nat.zero_le _) ?_ (by simp) (Jtf1 _)
    rw [List.drop_zero, Nat.mul_one, ← lenI r.slots, List.take_length]; rfl
  simp only [stM, regB, slotB]
  (simp (maxSteps := 1000000) [])
  by_cases hs : r.state = 0
  ·have hsb : (r.state == 0) = true := by simpa using hs
   (simp (maxSteps := 1000000) [hsb, hm])
   by_cases hl : r.steps < lim
   ·(simp (maxSteps := 1000000) [hl])
    refine Jtz [3, 4, 5] hcs (by decide) (by rfl) (by rfl) (Jtl8 (i := 4) (j := 5) (i' := 1) (j' := 2) (by rfl) (by rfl) g r) (Jtl8 (i := 1) (j := 2) (i' := 4) (j' := 5) (by rfl) (by rfl) g (stepM g r)) (by rfl) (by rfl) ?_
    simp only [stM, regB, slotB]
    (simp (maxSteps := 1000000) [])
    have hT2 := hgo hs hl
    refine hN _ (stepM g r) ⟨Jtp0 hg k1, by omega, by omega, ?_⟩ (by simp only [stM, regB, slotB]; (exact wkA)) ?_
    ·by_cases hs' : (stepM g r).state = 0
     ·rw [s4 hs' (by rw [hbk]; simp), hT2]; congr 1; omega
     ·rw [hT2, Jtme (fun h => hs' h.1), Jtme (fun h => hs' h.1)]
    ·rw [if_pos hs]
     split
     ·rename_i hs'
      have := s4 hs' (by rw [hbk]; simp)
      omega
     ·omega
   ·have hT2 := hfin (fun h => hl h.2)
    (simp (maxSteps := 1000000) [hl])
    refine hR _ _ (Jt43 _ _ rfl (hav _ rfl rfl) ?_)
    rw [hT2]
  ·have hsb : (r.state == 0) = false := by simpa using hs
   have hT2 := hfin (fun h => hs h.1)
   (simp (maxSteps := 1000000) [hsb])
   refine hR _ _ (Jt43 _ _ rfl (hav _ rfl rfl) ?_)
   rw [hT2]
 ·(simp (maxSteps := 1000000) [])
  refine Jtd (fun r : RunZ => ⟨[(8, .ptr 3 0), (2, AI lim), (6, .ptr 1 0), (7, AI 0)], [.dead, .mem [AI 0, AI 0, AI 0, AI 0, .nils, .nils, .nils, AI 0], .dead, stM 5 4 g r, slotB r, regB r]⟩)
   (fun r => OkRM g n1 n2 r ∧ r.steps ≤ lim ∧ r.trace.length ≤ r.steps ∧ T = runM g lim (lim + 1 - r.steps) r) (fun r => if r.state = 0 then lim + 1 - r.steps else 0) r0
   ⟨hr0, by omega, by rw [hz.1]; exact Nat.zero_le _, by rw [hz.2]; exact hT⟩ (by simp only [stM, regB, slotB]; (exact wkA)) ?_
  rintro r ⟨k1, k3, k4, k5⟩ N hN
  obtain ⟨bk, hbk⟩ : ∃ b, g.blocks[r.block]? = some b := ⟨_, List.getElem?_eq_getElem k1.block⟩
  have hcs := Jt9m A g n1 n2 r hg k1 (by have := k1.at_ bk hbk; have := h6 bk (List.mem_of_getElem? hbk); omega) (by omega) (by omega)
  obtain ⟨s1, s3, s4⟩ := Jtoz g r
  have hfin : ¬ (r.state = 0 ∧ r.steps < lim) → T = r := fun h => by rw [k5, Jtme h]
  have hgo : r.state = 0 → r.steps < lim → T = runM g lim (lim - r.steps) (stepM g r) := fun h1 h2 => by
   rw [k5, show lim + 1 - r.steps = (lim - r.steps) + 1 by omega]
   show (if r.state = 0 ∧ r.steps < lim then runM g lim (lim - r.steps) (stepM g r) else r) = _
   rw [if_pos ⟨h1, h2⟩]
  have hav : ∀ H : List Blk, H[5]? = some (regB r) → H[4]? = some (slotB r) → WkV H 0 (.tup [.agg [AI r.state, AI r.block, AI r.at_, AI r.value, .hsl 5 0 1 r.regs.length, .hsl 4 0 1 r.slots.length, .d (.sl (r.trace.map intRow)), AI r.steps], AI 0]) (.tup [r.av, AI 0]) := fun H hH hH2 => by
   refine Jt4j ⟨Jt4i ⟨.refl _ rfl, .refl _ rfl, .refl _ rfl, .refl _ rfl, ?_, ?_, .refl _ rfl, .refl _ rfl, trivial⟩, .refl _ rfl, trivial⟩
   ·refine .hsl 5 0 1 r.regs.length (Jtlr (r.regs.map intRow)) (r.regs.map intRow) hH (Nat.zero_le _) ?_ (by simp) (Jtf1 _)
    rw [List.drop_zero, Nat.mul_one, ← lenI r.regs, List.take_length]; rfl
   ·refine .hsl 4 0 1 r.slots.length (Jtlr (r.slots.map intRow)) (r.slots.map intRow) hH2 (Nat.zero_le _) ?_ (by simp) (Jtf1 _)
    rw [List.drop_zero, Nat.mul_one, ← lenI r.slots, List.take_length]; rfl
  simp only [stM, regB, slotB]
  (simp (maxSteps := 1000000) [])
  by_cases hs : r.state = 0
  ·have hsb : (r.state == 0) = true := by simpa using hs
   (simp (maxSteps := 1000000) [hsb, hm])
   by_cases hl : r.steps < lim
   ·(simp (maxSteps := 1000000) [hl])
    refine Jtz [3, 5, 4] hcs (by decide) (by rfl) (by rfl) (Jtl8 (i := 5) (j := 4) (i' := 1) (j' := 2) (by rfl) (by rfl) g r) (Jtl8 (i := 1) (j := 2) (i' := 5) (j' := 4) (by rfl) (by rfl) g (stepM g r)) (by rfl) (by rfl) ?_
    simp only [stM, regB, slotB]
    (simp (maxSteps := 1000000) [])
    have hT2 := hgo hs hl
    refine hN _ (stepM g r) ⟨Jtp0 hg k1, by omega, by omega, ?_⟩ (by simp only [stM, regB, slotB]; (exact wkA)) ?_
    ·by_cases hs' : (stepM g r).state = 0
     ·rw [s4 hs' (by rw [hbk]; simp), hT2]; congr 1; omega
     ·rw [hT2, Jtme (fun h => hs' h.1), Jtme (fun h => hs' h.1)]
    ·rw [if_pos hs]
     split
     ·rename_i hs'
      have := s4 hs' (by rw [hbk]; simp)
      omega
     ·omega
   ·have hT2 := hfin (fun h => hl h.2)
    (simp (maxSteps := 1000000) [hl])
    refine hR _ _ (Jt43 _ _ rfl (hav _ rfl rfl) ?_)
    rw [hT2]
  ·have hsb : (r.state == 0) = false := by simpa using hs
   have hT2 := hfin (fun h => hs h.1)
   (simp (maxSteps := 1000000) [hsb])
   refine hR _ _ (Jt43 _ _ rfl (hav _ rfl rfl) ?_)
   rw [hT2]
end
end Go.AE
set_option maxRecDepth 4000
namespace Go.AE
open Go
def Reach (g : MFunc) : Nat → RunZ → RunZ → Prop
 | 0, m, m' => m = m'
 | j + 1, m, m' => m.state = 0 ∧ Reach g j (stepM g m) m'
theorem Reach.trans {g : MFunc} : ∀ {j k : Nat} {a b c : RunZ}, Reach g j a b → Reach g k b c → Reach g (j + k) a c := by
 intro j
 induction j with
 | zero => intro k a b c h1 h2; unfold Reach at h1; subst h1; rw [Nat.zero_add]; exact h2
 | succ j ih =>
  intro k a b c h1 h2
  rw [Nat.succ_add]
  exact ⟨h1.1, ih h1.2 h2⟩
theorem Jtmf {g : MFunc} {lim K : Nat} : ∀ {j : Nat} {m m' : RunZ}, Reach g j m m' → m.steps + j ≤ lim → runM g lim (j + K) m = runM g lim K m' := by
 intro j
 induction j with
 | zero => intro m m' h _; unfold Reach at h; subst h; rw [Nat.zero_add]
 | succ j ih =>
  intro m m' h hs
  have hst := (Jtoz g m).1
  rw [show j + 1 + K = (j + K) + 1 by omega]
  show (if m.state = 0 ∧ m.steps < lim then runM g lim (j + K) (stepM g m) else m) = _
  rw [if_pos ⟨h.1, by omega⟩]
  exact ih h.2 (by omega)
def foldM : List Mach → RunZ → RunZ
 | [], m => m
 | x :: xs, m => foldM xs (stepMI x m)
def goodM : List Mach → RunZ → Prop
 | [], _ => True
 | x :: xs, m => m.state = 0 ∧ goodM xs (stepMI x m)
theorem Jtow {x : Mach} {m : RunZ} (h : (stepMI x m).state = 0) : (stepMI x m).at_ = m.at_ + 1 := by
 unfold stepMI at h ⊢
 split at h
 ·rename_i h1; rw [if_pos h1]
 ·rename_i h1
  rw [if_neg h1]
  split at h
  ·rename_i h2; rw [if_pos h2]
  ·rename_i h2
   rw [if_neg h2]
   split at h
   ·rename_i h3; rw [if_pos h3]
   ·cases h
theorem Jtk6 {g : MFunc} {b : MBlock} : ∀ {seg pre post : List Mach} {m : RunZ}, g.blocks[m.block]? = some b → b.code = pre ++ seg ++ post → m.at_ = pre.length → goodM seg m → Reach g seg.length m (foldM seg m) := by
 intro seg
 induction seg with
 | nil => intro pre post m _ _ _ _; exact rfl
 | cons x xs ih =>
  intro pre post m hb hc ha hg
  have hx : b.code[m.at_]? = some x := by rw [hc, ha]; simp
  have hs : stepM g m = stepMI x m := by unfold stepM; rw [hb]; simp only; rw [hx]
  refine ⟨hg.1, ?_⟩
  rw [hs]
  obtain ⟨_, _, e3, _⟩ := Jtox x m
  cases xs with
  | nil => exact rfl
  | cons y ys =>
   have hst : (stepMI x m).state = 0 := hg.2.1
   exact ih (pre := pre ++ [x]) (post := post) (m := stepMI x m) (by rw [e3]; exact hb) (by rw [hc]; simp) (by rw [Jtow hst, ha]; simp) hg.2
theorem Jtae {l : List Int} {n v : Int} (h0 : 0 ≤ n) (h1 : n < l.length) : gI (setI l n v) n = v := by
 have h : n.toNat < l.length := by omega
 simp [gI, setI, List.getD_eq_getElem?_getD, h]
theorem Jtad {l : List Int} {n k v : Int} (h0 : 0 ≤ n) (h1 : 0 ≤ k) (hne : n ≠ k) : gI (setI l n v) k = gI l k := by
 have h : n.toNat ≠ k.toNat := by omega
 simp [gI, setI, List.getD_eq_getElem?_getD, List.getElem?_set_ne h]
theorem aluZ_a {op a a' b imm : Int} (h : usesA op = false) (h17 : op ≠ 17) : aluZ op a b imm = aluZ op a' b imm := by
 unfold aluZ
 by_cases h1 : op = 1
 ·rw [if_pos h1, if_pos h1]
 ·have hA : ¬ (2 ≤ op ∧ op ≤ 17) := by
   intro hc
   rw [← Bool.not_eq_true] at h
   apply h
   simp only [usesA, decide_eq_true_eq]
   first | omega | exact hc
  rw [if_neg h1, if_neg h1, if_neg (by omega), if_neg (by omega), if_neg (by omega), if_neg (by omega), if_neg (by omega), if_neg (by omega), if_neg (by omega), if_neg (by omega)]
theorem aluZ_b {op a b b' imm : Int} (h : usesB op = false) : aluZ op a b imm = aluZ op a b' imm := by
 unfold aluZ
 have hB : ¬ (5 ≤ op ∧ op < 17) := by
  intro hc
  rw [← Bool.not_eq_true] at h
  apply h
  simp only [usesB, decide_eq_true_eq]
  omega
 rw [if_neg hB, if_neg hB]
end Go.AE
set_option maxRecDepth 4000
namespace Go.AE
open Go
structure RelS (f : Func) (n : Nat) (r m : RunZ) : Prop where
 run : r.state = 0
 runm : m.state = 0
 block : m.block = r.block
 at_ : ∀ b, f.blocks[r.block]? = some b → m.at_ = (spCode (b.code.take r.at_)).length
 slots : m.slots = r.regs
 trace : m.trace = r.trace
 value : m.value = r.value
 two : m.regs.length = 2
 len : r.regs.length = n
end Go.AE
set_option maxRecDepth 4000
namespace Go.AE
open Go
structure SrcOk (f : Func) (n : Nat) : Prop where
 code : ∀ b ∈ f.blocks, ∀ i ∈ b.code, (1 ≤ i.op ∧ i.op ≤ 17) ∧ InOk n i
 term : ∀ b ∈ f.blocks, OkT b.term n f.blocks.length ∧ (b.term.kind ≠ 1 → slotZ b.term.a = 2 * b.term.a + 1)
theorem Jtov {i : Instr} {r : RunZ} (h : (stepI i r).state = 0) : (stepI i r).at_ = r.at_ + 1 ∧ (stepI i r).block = r.block ∧ (stepI i r).regs.length = r.regs.length ∧ (stepI i r).steps = r.steps + 1 := by
 refine ⟨?_, ?_, Jtou i r, ?_⟩
 all_goals
  unfold stepI at h ⊢
  split at h
  ·rename_i h1; rw [if_pos h1]
  ·rename_i h1
   rw [if_neg h1]
   split at h
   ·rename_i h2; rw [if_pos h2]
   ·cases h
structure EndS (r m : RunZ) : Prop where
 state : m.state = 1
 value : m.value = r.value
 block : m.block = r.block
 slots : m.slots = r.regs
 trace : m.trace = r.trace
end Go.AE
set_option maxRecDepth 4000
namespace Go.AE
open Go
structure JumpF (f : Func) : Prop where
 code : ∀ b ∈ f.blocks, b.code = [] ∧ b.term.kind = 1 ∧ 0 ≤ b.term.to ∧ b.term.to < f.blocks.length
section
variable {P : Program} {K : ASt → Prop} {QP : AV → ASt → Prop} {dst : Option Nat} {st : ASt}
end
section
end
end Go.AE
set_option maxRecDepth 4000
namespace Go.AE
open Go
theorem Jtex {i : Instr} {n : Nat} (h : Jtkl i (n : Int) = 0) (h0 : 0 < n) : (0 ≤ i.a ∧ i.a < n) ∧ (0 ≤ i.b ∧ i.b < n) ∧ (0 ≤ i.d ∧ i.d < n) := by
 unfold Jtkl at h
 split at h
 ·cases h
 split at h
 ·cases h
 rename_i h9
 split at h
 ·cases h
 rename_i h12
 simp only [bad9, Bool.or_eq_true, Bool.and_eq_true, not_or, not_and, Bool.not_eq_true', Bool.not_eq_false, inZ, decide_eq_true_eq] at h9
 simp only [bad12, Bool.or_eq_true, Bool.and_eq_true, not_or, not_and, Bool.not_eq_true', bne_iff_ne, ne_eq, Decidable.not_not] at h12
 obtain ⟨⟨d, a⟩, b⟩ := h9
 obtain ⟨⟨⟨d2, a2⟩, b2⟩, _⟩ := h12
 have one : ∀ (u : Bool) (x : Int), (u = true → 0 ≤ x ∧ x < (n : Int)) → (u = false → x = 0) → 0 ≤ x ∧ x < (n : Int) := by
  intro u x h1 h2
  cases u with
  | true => exact h1 rfl
  | false => rw [h2 rfl]; omega
 exact ⟨one _ _ a a2, one _ _ b b2, one _ _ d d2⟩
theorem okT_of {t : Term} {n k : Nat} (h : Jtkr t (n : Int) (k : Int) = 0) : OkT t n k := by
 have hto := Jtpu h
 refine ⟨?_, fun hk => Jtpt h hk, fun hk => ?_, fun hk => ?_⟩
 ·unfold Jtkr at h
  split at h
  ·rename_i k1; exact .inl k1
  ·split at h
   ·rename_i k2; exact .inr (.inl k2)
   ·split at h
    ·rename_i k3; exact .inr (.inr k3)
    ·cases h
 ·refine hto _ ?_
  unfold succsZ
  rcases hk with k1 | k2
  ·rw [if_pos k1]; simp
  ·rw [if_neg (by omega), if_pos k2]; simp
 ·refine hto _ ?_
  unfold succsZ
  rw [if_neg (by omega), if_pos hk]; simp
theorem Jtgb {m : RunZ} {l : Int} {n1 n2 : Nat} (h : rngZ l (n1 : Int) (n2 : Int) = true) (h1 : m.regs.length = n1) (h2 : m.slots.length = n2) (q1 : n1 ≤ 1000000) (q2 : n2 ≤ 1000000) : LocOk m l := by
 unfold rngZ at h
 split at h
 ·rename_i k
  simp only [Bool.and_eq_true, decide_eq_true_eq] at h
  have e := Int.tdiv_eq_ediv_of_nonneg (b := 2) h.1
  exact ⟨by omega, by omega, by omega, fun _ => by rw [h2]; exact h.2, fun h' => absurd k h'⟩
 ·rename_i k
  simp only [Bool.and_eq_true, decide_eq_true_eq] at h
  have e := Int.tdiv_eq_ediv_of_nonneg (b := 2) h.1
  exact ⟨by omega, by omega, by omega, fun h' => absurd h' k, fun _ => by rw [h1]; exact h.2⟩
theorem okX_of {x : Mach} {n1 n2 : Nat} (h : Jtko x (n1 : Int) (n2 : Int) = 0) (h0 : 0 < n1) (q1 : n1 ≤ 1000000) (q2 : n2 ≤ 1000000) (m : RunZ) (h1 : m.regs.length = n1) (h2 : m.slots.length = n2) : OkX m x := by
 unfold Jtko at h
 split at h
 ·cases h
 split at h
 ·rename_i h18
  split at h
  ·cases h
  rename_i k1
  simp only [not_or, Bool.not_eq_false] at k1
  exact ⟨fun _ => ⟨Jtgb k1.1 h1 h2 q1 q2, Jtgb k1.2.1 h1 h2 q1 q2⟩, fun h => absurd h18 (by omega), fun h => absurd h18 h⟩
 ·rename_i h18
  split at h
  ·cases h
  obtain ⟨a, b, d⟩ := Jtex h h0
  exact ⟨fun h => absurd h h18, fun _ => by rw [h1]; exact a, fun _ _ => by rw [h1]; exact ⟨a, b, d⟩⟩
theorem Jtmk {f : Func} {lim : Nat} : ∀ (k : Nat) (r : RunZ), r.steps ≤ lim → r.trace.length ≤ r.steps → (runS f lim k r).steps ≤ lim ∧ (runS f lim k r).trace.length ≤ (runS f lim k r).steps := by
 intro k
 induction k with
 | zero => intro r h1 h2; exact ⟨h1, h2⟩
 | succ k ih =>
  intro r h1 h2
  unfold runS
  split
  ·rename_i hc
   have a := (Jtp4 f r).1
   have b := Jtp5 f r
   exact ih _ (by omega) (by omega)
  ·exact ⟨h1, h2⟩
section
theorem Jtkg {P : Program} {p : Nums} (A : All P p) (a : List Int) (h0 : a.length < 1000000000) : Jt3x P p.ref09_Values [.d (intsD a), .d (intsD a)] [] fun o _ => o = .ret (AB true) := by
 refine A.ref09_Values.run rfl fun R hR => ?_
 (simp (maxSteps := 1000000) [Jte4, intsD])
 refine Jtd (fun k : Nat => ⟨[(5, AI k), (0, .d (.sl (a.map intRow))), (1, .d (.sl (a.map intRow)))], []⟩) (fun k => k ≤ a.length) (fun k => a.length - k) 0 (by simp) (by (exact wkA)) ?_
 rintro k hk N hN
 (simp (maxSteps := 1000000) [])
 ((first | refine Xc (fun h2 => ?_) (fun h2 => ?_) | refine Xo (fun h2 => ?_) (fun h2 => ?_)) <;> (try simp only [Xz, Xy] at h2))
 ·have hka : k < a.length := by omega
  have hw := Jtr1 (k := k) (by omega)
  (simp (maxSteps := 1000000) [h2, intRow, hka, hw])
  exact hN _ (k + 1) hka (by (exact wkA)) (by omega)
 ·(simp (maxSteps := 1000000) [h2])
  (first | exact hR _ _ FrA | exact hR _ _ FnA)
end
end Go.AE
set_option maxRecDepth 4000
namespace Go.AE
open Go
structure Inv (n n1 n2 : Nat) (s : List Pair) (r m : RunZ) : Prop where
 pos : ∀ q ∈ s, 0 ≤ q.v ∧ 0 ≤ q.l
 val : ∀ q ∈ s, gI r.regs q.v = readL m q.l
 trace : m.trace = r.trace
 block : m.block = r.block
 run : r.state = 0
 runm : m.state = 0
 len : r.regs.length = n
 len1 : m.regs.length = n1
 len2 : m.slots.length = n2
theorem Jtpw {r : CR} {f : CS → CR} {s' : CS} (h : thenC r f = (s', none)) : r.2 = none ∧ f r.1 = (s', none) := by
 unfold thenC at h
 cases hr : r.2 with
 | none => rw [hr] at h; exact ⟨rfl, h⟩
 | some e => rw [hr] at h; cases h
theorem par_eq {a b : Int} (ha : 0 ≤ a) (hb : 0 ≤ b) (h1 : a.tmod 2 = 1 ↔ b.tmod 2 = 1) (h2 : a.tdiv 2 = b.tdiv 2) : a = b := by
 have m1 := Int.tmod_eq_emod_of_nonneg (b := 2) ha
 have m2 := Int.tmod_eq_emod_of_nonneg (b := 2) hb
 have d1 := Int.tdiv_eq_ediv_of_nonneg (b := 2) ha
 have d2 := Int.tdiv_eq_ediv_of_nonneg (b := 2) hb
 omega
theorem Jtpr {a : Int} (ha : 0 ≤ a) : 0 ≤ a.tdiv 2 := by
 have d1 := Int.tdiv_eq_ediv_of_nonneg (b := 2) ha
 omega
theorem Jtk8 {m : RunZ} {d l v : Int} (hd : LocOk m d) (h0 : 0 ≤ d) (hl : 0 ≤ l) : readL (writeL m d v) l = if l = d then v else readL m l := by
 obtain ⟨_, _, d0, d1, d2⟩ := hd
 have l0 := Jtpr hl
 by_cases hs : d.tmod 2 = 1
 ·have e : writeL m d v = { m with slots := setI m.slots (d.tdiv 2) v } := by unfold writeL; rw [if_pos hs]
  rw [e]
  by_cases hs2 : l.tmod 2 = 1
  ·have e1 : readL { m with slots := setI m.slots (d.tdiv 2) v } l = gI (setI m.slots (d.tdiv 2) v) (l.tdiv 2) := by unfold readL; rw [if_pos hs2]
   have e2 : readL m l = gI m.slots (l.tdiv 2) := by unfold readL; rw [if_pos hs2]
   rw [e1, e2]
   by_cases he : l = d
   ·subst he; rw [if_pos rfl]; exact Jtae d0 (d1 hs)
   ·rw [if_neg he]
    exact Jtad d0 l0 fun h => he (par_eq hl h0 (by simp [hs, hs2]) h.symm)
  ·have e1 : readL { m with slots := setI m.slots (d.tdiv 2) v } l = gI m.regs (l.tdiv 2) := by unfold readL; rw [if_neg hs2]
   have e2 : readL m l = gI m.regs (l.tdiv 2) := by unfold readL; rw [if_neg hs2]
   rw [e1, e2, if_neg (by rintro rfl; exact hs2 hs)]
 ·have e : writeL m d v = { m with regs := setI m.regs (d.tdiv 2) v } := by unfold writeL; rw [if_neg hs]
  rw [e]
  by_cases hs2 : l.tmod 2 = 1
  ·have e1 : readL { m with regs := setI m.regs (d.tdiv 2) v } l = gI m.slots (l.tdiv 2) := by unfold readL; rw [if_pos hs2]
   have e2 : readL m l = gI m.slots (l.tdiv 2) := by unfold readL; rw [if_pos hs2]
   rw [e1, e2, if_neg (by rintro rfl; exact hs hs2)]
  ·have e1 : readL { m with regs := setI m.regs (d.tdiv 2) v } l = gI (setI m.regs (d.tdiv 2) v) (l.tdiv 2) := by unfold readL; rw [if_neg hs2]
   have e2 : readL m l = gI m.regs (l.tdiv 2) := by unfold readL; rw [if_neg hs2]
   rw [e1, e2]
   by_cases he : l = d
   ·subst he; rw [if_pos rfl]; exact Jtae d0 (d2 hs)
   ·rw [if_neg he]
    exact Jtad d0 l0 fun h => he (par_eq hl h0 (by simp [hs, hs2]) h.symm)
theorem Jtp6 {i : Instr} {r : RunZ} (hc : i.op = 2) : stepI i r = { r with regs := setI r.regs i.d (gI r.regs i.a), at_ := r.at_ + 1, steps := r.steps + 1 } := by
 unfold stepI
 have hz : ∀ b, aluZ i.op (gI r.regs i.a) b i.imm = (gI r.regs i.a, true) := fun b => by unfold aluZ; rw [hc, if_neg (by decide), if_pos rfl]
 rw [if_neg (by rw [hc]; decide), hz, if_pos rfl]
section
variable {n n1 n2 : Nat} {s : List Pair} {r m : RunZ}
theorem Inv.copy {i : Instr} (h : Inv n n1 n2 s r m) (hc : i.op = 2) (hd : 0 ≤ i.d ∧ i.d < n) (ha : 0 ≤ i.a) : Inv n n1 n2 (copyP s i.d i.a) (stepI i r) m := by
 rw [Jtp6 hc]
 have hl : i.d < (r.regs.length : Int) := by rw [h.len]; exact hd.2
 refine ⟨fun q hq => ?_, fun q hq => ?_, h.trace, h.block, h.run, h.runm, by show (setI _ _ _).length = n; rw [Jtmu]; exact h.len, h.len1, h.len2⟩
 ·rcases Jthj.1 hq with ⟨k1, _⟩ | ⟨k1, k2⟩
  ·exact h.pos q k1
  ·exact ⟨by rw [k1]; exact hd.1, (h.pos _ k2).2⟩
 ·show gI (setI r.regs i.d (gI r.regs i.a)) q.v = readL m q.l
  rcases Jthj.1 hq with ⟨k1, k2⟩ | ⟨k1, k2⟩
  ·have p := h.pos q k1
   rcases k2 with k2 | k2
   ·by_cases he : q.v = i.d
    ·have v := h.val q k1
     rw [he] at v ⊢
     rw [Jtae hd.1 hl, ← k2]; exact v
    ·rw [Jtad hd.1 p.1 (fun h => he h.symm)]; exact h.val q k1
   ·rw [Jtad hd.1 p.1 (fun h => k2 h.symm)]; exact h.val q k1
  ·rw [k1, Jtae hd.1 hl]
   exact h.val _ k2
theorem Inv.move {x : Mach} (h : Inv n n1 n2 s r m) (hc : x.op = 18) (ok : OkX m x) (h0 : 0 ≤ x.dst) : Inv n n1 n2 (moveP s x.dst x.src) r (stepMI x m) := by
 obtain ⟨o1, o2⟩ := ok.mv hc
 have e : stepMI x m = { writeL m x.dst (readL m x.src) with at_ := m.at_ + 1, steps := m.steps + 1 } := by unfold stepMI; rw [if_pos hc]
 obtain ⟨w1, w2, w3, w4, w5⟩ := Jtr3 m x.dst (readL m x.src)
 rw [e]
 have rd : ∀ l : Int, 0 ≤ l → readL { writeL m x.dst (readL m x.src) with at_ := m.at_ + 1, steps := m.steps + 1 } l = if l = x.dst then readL m x.src else readL m l := fun l hl => Jtk8 o1 h0 hl
 refine ⟨fun q hq => ?_, fun q hq => ?_, by show (writeL m _ _).trace = _; rw [w5]; exact h.trace, by show (writeL m _ _).block = _; rw [w3]; exact h.block, h.run, by show (writeL m _ _).state = _; rw [w4]; exact h.runm, h.len,
  by show (writeL m _ _).regs.length = _; rw [w1]; exact h.len1, by show (writeL m _ _).slots.length = _; rw [w2]; exact h.len2⟩
 ·rcases Jthn.1 hq with ⟨k1, _⟩ | ⟨k1, k2⟩
  ·exact h.pos q k1
  ·exact ⟨(h.pos _ k2).1, by rw [k1]; exact h0⟩
 ·rcases Jthn.1 hq with ⟨k1, k2⟩ | ⟨k1, k2⟩
  ·rw [rd _ (h.pos q k1).2]
   by_cases he : q.l = x.dst
   ·rw [if_pos he]
    rcases k2 with k2 | k2
    ·have v := h.val q k1
     rw [v, he, k2]
    ·exact absurd he k2
   ·rw [if_neg he]; exact h.val q k1
  ·rw [rd _ (by rw [k1]; exact h0), if_pos k1]
   exact h.val _ k2
theorem Inv.moves {most : Int} {ok : Mach → Prop} (hok : ∀ x, ok x → x.op = 18 ∧ 0 ≤ x.dst ∧ ∀ m : RunZ, m.regs.length = n1 → m.slots.length = n2 → OkX m x) :
  ∀ {l : List Mach} {k : Nat} {s s' : CS} {m : RunZ}, moveC most k l s = (s', none) → (∀ x ∈ l, ok x) → Inv n n1 n2 s.set r m →
   goodM l m ∧ Inv n n1 n2 s'.set r (foldM l m) ∧ (foldM l m).at_ = m.at_ + l.length ∧ (foldM l m).value = m.value := by
 intro l
 induction l with
 | nil =>
  intro k s s' m h _ hi
  unfold moveC at h
  injection h with h; subst h
  exact ⟨trivial, hi, rfl, rfl⟩
 | cons x l ih =>
  intro k s s' m h hl hi
  unfold moveC at h
  obtain ⟨_, h2⟩ := Jtpw h
  obtain ⟨x1, x2, x3⟩ := hok x (hl x (by simp))
  have hi1 := hi.move x1 (x3 m hi.len1 hi.len2) x2
  obtain ⟨g1, g2, g3, g4⟩ := ih h2 (fun y hy => hl y (by simp [hy])) hi1
  refine ⟨⟨hi.runm, g1⟩, g2, ?_, ?_⟩
  ·show (foldM l (stepMI x m)).at_ = _
   rw [g3, Jtow hi1.runm, List.length_cons]; omega
  ·show (foldM l (stepMI x m)).value = _
   rw [g4]
   unfold stepMI; rw [if_pos x1]
   show (writeL m x.dst (readL m x.src)).value = _
   unfold writeL; split <;> rfl
end
theorem Jtql {s s' : CS} {v t a : Int} (h : useC s v t a = (s', none)) : (⟨v, t⟩ : Pair) ∈ s.set ∧ s'.set = s.set := by
 unfold useC at h
 split at h
 ·rename_i hm; injection h with h1 h2; subst h1; exact ⟨hm, rfl⟩
 ·injection h with h1 h2; cases h2
theorem Jtey {most at_ : Int} {s s' : CS} {i : Instr} {x : Mach} (h : instrC most s i x at_ = (s', none)) :
  (usesA i.op = true → (⟨i.a, regZ x.a⟩ : Pair) ∈ s.set) ∧ (usesB i.op = true → (⟨i.b, regZ x.b⟩ : Pair) ∈ s.set) ∧ s'.set = if usesD i.op = true then defP s.set i.d (regZ x.d) else s.set := by
 unfold instrC at h
 obtain ⟨h1, h⟩ := Jtpw h
 obtain ⟨h2, h⟩ := Jtpw h
 have a1 : (usesA i.op = true → (⟨i.a, regZ x.a⟩ : Pair) ∈ s.set) ∧ (if usesA i.op = true then useC s i.a (regZ x.a) at_ else (s, none)).1.set = s.set := by
  by_cases hu : usesA i.op = true
  ·rw [if_pos hu] at h1 ⊢
   have := Jtql (s' := (useC s i.a (regZ x.a) at_).1) (by rw [← h1])
   exact ⟨fun _ => this.1, this.2⟩
  ·rw [if_neg hu]; exact ⟨fun h => absurd h hu, rfl⟩
 obtain ⟨s1, hs1⟩ : ∃ s1, s1 = (if usesA i.op = true then useC s i.a (regZ x.a) at_ else (s, none)).1 := ⟨_, rfl⟩
 rw [← hs1] at h h2 a1
 have a2 : (usesB i.op = true → (⟨i.b, regZ x.b⟩ : Pair) ∈ s.set) ∧ (if usesB i.op = true then useC s1 i.b (regZ x.b) at_ else (s1, none)).1.set = s.set := by
  by_cases hu : usesB i.op = true
  ·rw [if_pos hu] at h2 ⊢
   have := Jtql (s' := (useC s1 i.b (regZ x.b) at_).1) (by rw [← h2])
   exact ⟨fun _ => by rw [← a1.2]; exact this.1, by rw [this.2, a1.2]⟩
  ·rw [if_neg hu]; exact ⟨fun h => absurd h hu, a1.2⟩
 obtain ⟨s2, hs2⟩ : ∃ s2, s2 = (if usesB i.op = true then useC s1 i.b (regZ x.b) at_ else (s1, none)).1 := ⟨_, rfl⟩
 rw [← hs2] at h a2
 refine ⟨a1.1, a2.1, ?_⟩
 by_cases hu : usesD i.op = true
 ·rw [if_pos hu] at h ⊢
  have : s' = (Jt6b most (costC s2) (defP s2.set i.d (regZ x.d)) at_).1 := by rw [h]
  rw [this, ← a2.2]; rfl
 ·rw [if_neg hu] at h ⊢
  injection h with h; rw [← h]; exact a2.2
theorem Jtkt {v : Int} (h0 : 0 ≤ v) (h1 : v ≤ 1000000) : regZ v = 2 * v := by unfold regZ; exact wrap_i64 (by omega) (by omega)
theorem Jtk7 {m : RunZ} {v : Int} (h0 : 0 ≤ v) (h1 : v ≤ 1000000) : readL m (regZ v) = gI m.regs v := by
 rw [Jtkt h0 h1]
 have m1 := Int.tmod_eq_emod_of_nonneg (a := 2 * v) (b := 2) (by omega)
 have d1 := Int.tdiv_eq_ediv_of_nonneg (a := 2 * v) (b := 2) (by omega)
 unfold readL
 rw [if_neg (by omega), show (2 * v).tdiv 2 = v by omega]
section
variable {n n1 n2 : Nat} {r m : RunZ}
theorem Inv.instr {most at_ : Int} {s s' : CS} {i : Instr} {x : Mach} (h : Inv n n1 n2 s.set r m) (hC : instrC most s i x at_ = (s', none)) (hs : sameI i x = true) (hop : 1 ≤ i.op ∧ i.op ≤ 17) (hd0 : i.op ≠ 17 → 0 ≤ i.d ∧ i.d < n) (ok : OkX m x) (hn1 : n1 ≤ 1000000) :
  (stepI i r).state = 2 ∨ ((stepI i r).state = 0 ∧ goodM [x] m ∧ Inv n n1 n2 s'.set (stepI i r) (stepMI x m) ∧ (stepMI x m).at_ = m.at_ + 1 ∧ (stepMI x m).value = m.value ∧ (stepI i r).value = r.value) := by
 obtain ⟨uA, uB, hset⟩ := Jtey hC
 simp only [sameI, Bool.and_eq_true, beq_iff_eq, bne_iff_ne, ne_eq] at hs
 obtain ⟨⟨⟨so, si⟩, s2⟩, s18⟩ := hs
 have x18 : ¬ x.op = 18 := by rw [← so]; exact s18
 by_cases h17 : i.op = 17
 ·have x17 : x.op = 17 := by rw [← so]; exact h17
  have xa := ok.em x17
  rw [h.len1] at xa
  have va : gI m.regs x.a = gI r.regs i.a := by
   have := h.val _ (uA (by simp [usesA, h17]))
   rw [Jtk7 xa.1 (by omega)] at this; exact this.symm
  have e1 : stepI i r = { r with trace := r.trace ++ [gI r.regs i.a], at_ := r.at_ + 1, steps := r.steps + 1 } := by unfold stepI; rw [if_pos h17]
  have e2 : stepMI x m = { m with trace := m.trace ++ [gI r.regs i.a], at_ := m.at_ + 1, steps := m.steps + 1 } := by unfold stepMI; rw [if_neg x18, if_pos x17, va]
  have hD : ¬ usesD i.op = true := by simp [usesD, h17]
  rw [if_neg hD] at hset
  right
  rw [e1, e2, hset]
  exact ⟨h.run, ⟨h.runm, trivial⟩, ⟨h.pos, h.val, by show m.trace ++ _ = r.trace ++ _; rw [h.trace], h.block, h.run, h.runm, h.len, h.len1, h.len2⟩, rfl, rfl, rfl⟩
 ·have hd := hd0 h17
  have x17 : ¬ x.op = 17 := by rw [← so]; exact h17
  obtain ⟨xa, xb, xd⟩ := ok.op x18 x17
  rw [h.len1] at xa xb xd
  have e : aluZ x.op (gI m.regs x.a) (gI m.regs x.b) x.imm = aluZ i.op (gI r.regs i.a) (gI r.regs i.b) i.imm := by
   rw [← so, ← si]
   have ea : aluZ i.op (gI m.regs x.a) (gI m.regs x.b) i.imm = aluZ i.op (gI r.regs i.a) (gI m.regs x.b) i.imm := by
    cases hA : usesA i.op with
    | true =>
     have := h.val _ (uA hA)
     rw [Jtk7 xa.1 (by omega)] at this; rw [this]
    | false => exact aluZ_a hA h17
   rw [ea]
   cases hB : usesB i.op with
   | true =>
    have := h.val _ (uB hB)
    rw [Jtk7 xb.1 (by omega)] at this; rw [this]
   | false => exact aluZ_b hB
  obtain ⟨z, hz⟩ : ∃ z, z = aluZ i.op (gI r.regs i.a) (gI r.regs i.b) i.imm := ⟨_, rfl⟩
  rw [← hz] at e
  by_cases hok : z.2 = true
  ·right
   have hD : usesD i.op = true := by simp only [usesD, decide_eq_true_eq]; omega
   rw [if_pos hD] at hset
   have e1 : stepI i r = { r with regs := setI r.regs i.d z.1, at_ := r.at_ + 1, steps := r.steps + 1 } := by unfold stepI; rw [← hz, if_neg h17, if_pos hok]
   have e2 : stepMI x m = { m with regs := setI m.regs x.d z.1, at_ := m.at_ + 1, steps := m.steps + 1 } := by unfold stepMI; rw [if_neg x18, if_neg x17, e, if_pos hok]
   have hl : i.d < (r.regs.length : Int) := by rw [h.len]; exact hd.2
   have hl2 : x.d < (m.regs.length : Int) := by rw [h.len1]; exact xd.2
   have rz := Jtkt xd.1 (by omega)
   rw [e1, e2, hset]
   refine ⟨h.run, ⟨h.runm, trivial⟩, ⟨fun q hq => ?_, fun q hq => ?_, h.trace, h.block, h.run, h.runm, by show (setI _ _ _).length = n; rw [Jtmu]; exact h.len, by show (setI _ _ _).length = n1; rw [Jtmu]; exact h.len1, h.len2⟩, rfl, rfl, rfl⟩
   ·rcases Jthk.1 hq with rfl | ⟨k1, _⟩
    ·exact ⟨hd.1, by show 0 ≤ regZ x.d; rw [rz]; omega⟩
    ·exact h.pos q k1
   ·rcases Jthk.1 hq with rfl | ⟨k1, k2, k3⟩
    ·show gI (setI r.regs i.d z.1) i.d = readL _ (regZ x.d)
     rw [Jtk7 xd.1 (by omega), Jtae hd.1 hl]
     exact (Jtae xd.1 hl2).symm
    ·have p := h.pos q k1
     show gI (setI r.regs i.d z.1) q.v = readL { m with regs := setI m.regs x.d z.1, at_ := m.at_ + 1, steps := m.steps + 1 } q.l
     rw [Jtad hd.1 p.1 (fun h => k2 h.symm), h.val q k1]
     unfold readL
     by_cases hp : q.l.tmod 2 = 1
     ·rw [if_pos hp, if_pos hp]
     ·rw [if_neg hp, if_neg hp]
      refine (Jtad xd.1 (Jtpr p.2) fun hne => k3 ?_).symm
      rw [rz]
      have m1 := Int.tmod_eq_emod_of_nonneg (b := 2) p.2
      have d1 := Int.tdiv_eq_ediv_of_nonneg (b := 2) p.2
      omega
  ·left
   unfold stepI; rw [← hz, if_neg h17, if_neg hok]
end
end Go.AE
set_option maxRecDepth 4000
namespace Go.AE
open Go
inductive RowsF (code : List Instr) (mach : List Mach) : Nat → Nat → List ARow → Prop
 | last {i k : Nat} : skipW isCopy code i = code.length → skipW isMove mach k = mach.length → RowsF code mach i k [⟨i, skipW isCopy code i, k, skipW isMove mach k, -1, -1⟩]
 | next {i k : Nat} {x : Instr} {y : Mach} {rest : List ARow} : code[skipW isCopy code i]? = some x → mach[skipW isMove mach k]? = some y → sameI x y = true → RowsF code mach (skipW isCopy code i + 1) (skipW isMove mach k + 1) rest →
   RowsF code mach i k (⟨i, skipW isCopy code i, k, skipW isMove mach k, skipW isCopy code i, skipW isMove mach k⟩ :: rest)
theorem Jt4w {code : List Instr} {mach : List Mach} : ∀ (f i k : Nat) (acc : List ARow), (alignS code mach f i k acc).2.2 = 0 → ∃ rest, (alignS code mach f i k acc).1 = acc ++ rest ∧ RowsF code mach i k rest := by
 intro f
 induction f with
 | zero => intro i k acc h; cases h
 | succ f ih =>
  intro i k acc h
  unfold alignS at h ⊢
  by_cases h1 : skipW isCopy code i = code.length ∧ skipW isMove mach k = mach.length
  ·rw [if_pos h1]
   exact ⟨_, rfl, .last h1.1 h1.2⟩
  ·rw [if_neg h1] at h ⊢
   cases hx : code[skipW isCopy code i]? with
   | none => rw [hx] at h; cases h
   | some x =>
    cases hy : mach[skipW isMove mach k]? with
    | none => rw [hx, hy] at h; cases h
    | some y =>
     rw [hx, hy] at h
     simp only at h ⊢
     by_cases hs : sameI x y = true
     ·rw [if_pos hs] at h ⊢
      obtain ⟨rest, e, hr⟩ := ih _ _ _ h
      exact ⟨_, by rw [e, List.append_assoc]; rfl, .next hx hy hs hr⟩
     ·rw [if_neg hs] at h; cases h
theorem Jt4z {code : List Instr} {mach : List Mach} (h : (alignZ code mach).2.2 = 0) : RowsF code mach 0 0 (alignZ code mach).1 := by
 obtain ⟨rest, e, hr⟩ := Jt4w _ 0 0 [] h
 have : (alignZ code mach).1 = rest := e
 rw [this]; exact hr
theorem Jtnb {α : Type} (f : α → Bool) (l : List α) (i : Nat) : (l.take (skipW f l i)).drop i = (l.drop i).takeWhile f := by
 rw [List.drop_take]
 unfold skipW
 rw [Nat.add_sub_cancel_left]
 exact (List.prefix_iff_eq_take.1 (List.takeWhile_prefix f)).symm
theorem Jtn9 {α : Type} {f : α → Bool} {l : List α} {i : Nat} : ∀ x ∈ (l.take (skipW f l i)).drop i, f x = true ∧ x ∈ l := by
 intro x hx
 rw [Jtnb] at hx
 exact ⟨List.all_eq_true.1 List.all_takeWhile x hx, List.mem_of_mem_drop ((List.takeWhile_prefix f).subset hx)⟩
theorem Jtnd {α : Type} {f : α → Bool} {l : List α} {i : Nat} : l = l.take i ++ (l.take (skipW f l i)).drop i ++ l.drop (skipW f l i) := by
 have h := Jtn6 f l i
 have e : l.take i ++ (l.take (skipW f l i)).drop i = l.take (skipW f l i) := by
  have : l.take i = (l.take (skipW f l i)).take i := by rw [List.take_take, Nat.min_eq_left h]
  rw [this]; exact List.take_append_drop i _
 rw [e, List.take_append_drop]
theorem Jtna {α : Type} {f : α → Bool} {l : List α} {i : Nat} (hi : i ≤ l.length) : ((l.take (skipW f l i)).drop i).length = skipW f l i - i := by
 have := Jtn7 (f := f) hi
 rw [List.length_drop, List.length_take]; omega
theorem Jtgq {f : MFunc} (h : Jtkn f = 0) {b : MBlock} (hb : b ∈ f.blocks) : (∀ x ∈ b.code, Jtko x f.regs f.slots = 0) ∧ (∀ j, j < b.code.length → ¬ 64 < runF (b.code.take (j + 1))) ∧ Jtkr b.term f.regs f.blocks.length = 0 := by
 refine ⟨(mac_ok h).2.2.2 b hb, ?_⟩
 unfold Jtkn at h
 split at h
 ·cases h
 split at h
 ·cases h
 split at h
 ·cases h
 split at h
 ·cases h
 split at h
 ·cases h
 have h3 := Jt9x h _ (List.mem_map_of_mem hb)
 unfold Jtkm at h3
 split at h3
 ·rename_i h5; exact absurd h3 h5
 rename_i h5
 have h6 : mErrs b.code f.regs f.slots = 0 := by simpa using h5
 refine ⟨fun j hj hgt => ?_, h3⟩
 have h7 := Jt9x h6 (mErr b.code f.regs f.slots j) (List.mem_map.2 ⟨j, List.mem_range.2 hj, rfl⟩)
 unfold mErr at h7
 rw [List.getElem?_eq_getElem hj] at h7
 simp only at h7
 split at h7
 ·rename_i h8; exact absurd h7 h8
 rw [if_pos ((Jtic hj).1 hgt)] at h7
 cases h7
theorem Jtnc {mach : List Mach} (h : ∀ j, j < mach.length → ¬ 64 < runF (mach.take (j + 1))) {k : Nat} (hk : k ≤ mach.length) : skipW isMove mach k ≤ k + 64 := by
 rcases Nat.lt_or_ge (k + 64) (skipW isMove mach k) with hgt | hle
 ·exfalso
  have hle := Jtn7 (f := isMove) hk
  refine h (k + 64) (by omega) ?_
  have e : k + 64 + 1 = k + 65 := rfl
  refine (Jtmb (l := mach) (j := k + 64 + 1) (k := 65) (by omega)).2 ⟨by omega, fun i x h1 h2 hx => ?_⟩
  have hlt := (List.getElem?_eq_some_iff.1 hx).1
  have hm : x ∈ (mach.take (skipW isMove mach k)).drop k := by
   refine List.mem_iff_getElem?.2 ⟨i - k, ?_⟩
   rw [List.getElem?_drop, List.getElem?_take, show k + (i - k) = i by omega, if_pos (by omega)]
   exact hx
  have := (Jtn9 x hm).1
  simpa [isMove] using this
 ·exact hle
end Go.AE
set_option maxRecDepth 4000
namespace Go.AE
open Go
theorem Jtpv {r : CR} {f : CS → CR} (h : r.2 = none) : thenC r f = f r.1 := by
 unfold thenC; rw [h]
theorem Jt7g {b : Block} {m : MBlock} {l : List Pair} {most : Int} (hl : Srt l) (h : (checkZ b m l most).err = 0) :
  ∃ s', RowsF b.code m.code 0 0 (alignZ b.code m.code).1 ∧ termsZ b.term m.term = true ∧ runC most b m (alignZ b.code m.code).1 ⟨l, 0, l.length⟩ = (s', none) ∧ (checkZ b m l most).out = s'.set := by
 obtain ⟨a1, a2, a3⟩ := Jt4y b.code m.code
 unfold checkZ at h ⊢
 split at h
 ·cases h
 rename_i h1
 rw [if_neg h1]
 by_cases h2 : (if (alignZ b.code m.code).2.2 = 0 ∧ termsZ b.term m.term = false then 20 else (alignZ b.code m.code).2.2) ≠ 0
 ·simp only [if_pos h2] at h; exact absurd h h2
 ·simp only [if_neg h2] at h ⊢
  have h3 : (alignZ b.code m.code).2.2 = 0 ∧ termsZ b.term m.term = true := by
   split at h2
   ·exact absurd (by decide) h2
   ·rename_i h4
    have e : (alignZ b.code m.code).2.2 = 0 := by simpa using h2
    refine ⟨e, ?_⟩
    cases ht : termsZ b.term m.term with
    | true => rfl
    | false => exact absurd ⟨e, ht⟩ h4
  rw [Jth8 hl] at h ⊢
  have hb := Jtm7 (most := most) (b := b) (m := m) (rs := (alignZ b.code m.code).1) (s := ⟨l, 0, l.length⟩) (Nat.le_refl _) a1
  generalize runC most b m (alignZ b.code m.code).1 ⟨l, 0, l.length⟩ = r at hb h ⊢
  obtain ⟨t, e⟩ := r
  cases e with
  | none => exact ⟨t, Jt4z h3.1, h3.2, rfl, by simp [runE]⟩
  | some e => exact absurd h (hb.fail e rfl).1
structure Acc (c : Cert) (n n1 n2 : Nat) : Prop where
 src : ∀ b ∈ c.S.blocks, ∀ i ∈ b.code, (1 ≤ i.op ∧ i.op ≤ 17) ∧ InOk n i
 sterm : ∀ b ∈ c.S.blocks, OkT b.term n c.S.blocks.length
 mac : OkG c.T n1 n2
 dst : ∀ b ∈ c.T.blocks, ∀ x ∈ b.code, 0 ≤ x.dst
 runs : ∀ b ∈ c.T.blocks, ∀ j, j < b.code.length → ¬ 64 < runF (b.code.take (j + 1))
 small : n1 ≤ 1000000
 lenT : c.T.blocks.length = c.S.blocks.length
 lenW : c.W.length = c.S.blocks.length
 w : ∀ l ∈ c.W, Srt l ∧ ∀ q ∈ l, 0 ≤ q.v ∧ 0 ≤ q.l
 blk : ∀ i, i < c.S.blocks.length → blkOk c i = true
def RelC (c : Cert) (n n1 n2 : Nat) (r m : RunZ) : Prop :=
 ∃ b k rows s s', c.S.blocks[r.block]? = some b ∧ c.T.blocks[r.block]? = some k ∧ termsZ b.term k.term = true ∧ RowsF b.code k.code r.at_ m.at_ rows ∧ runC 1048576 b k rows s = (s', none) ∧
  (∀ to ∈ succsZ b.term, ∀ l, c.W[to.toNat]? = some l → ∀ q ∈ l, q ∈ s'.set) ∧ Inv n n1 n2 s.set r m
theorem Jtkv {c : Cert} {n n1 n2 : Nat} (ac : Acc c n n1 n2) {r m : RunZ} {l : List Pair} (hb : r.block < c.S.blocks.length) (ha : r.at_ = 0) (hma : m.at_ = 0) (hl : c.W[r.block]? = some l) (hi : Inv n n1 n2 l r m) : RelC c n n1 n2 r m := by
 obtain ⟨b, hb'⟩ : ∃ b, c.S.blocks[r.block]? = some b := ⟨_, List.getElem?_eq_getElem hb⟩
 obtain ⟨k, hk⟩ : ∃ k, c.T.blocks[r.block]? = some k := ⟨_, List.getElem?_eq_getElem (by rw [ac.lenT]; exact hb)⟩
 have h := ac.blk r.block hb
 rw [Jt6e hb' hk hl, Bool.and_eq_true, decide_eq_true_eq, List.all_eq_true] at h
 obtain ⟨s', h1, h2, h3, h4⟩ := Jt7g (ac.w l (List.mem_of_getElem? hl)).1 h.1
 refine ⟨b, k, _, _, s', hb', hk, h2, by rw [ha, hma]; exact h1, h3, fun to hto lt hlt q hq => ?_, hi⟩
 have := h.2 to hto
 unfold hasE at this
 rw [hlt, h4] at this
 simp only [Option.getD_some, Bool.not_eq_true', Option.isSome_eq_false_iff, Option.isNone_iff_eq_none, missP, List.find?_eq_none, Bool.not_eq_true', decide_eq_true_eq, Bool.not_eq_false', decide_eq_false_iff_not, Decidable.not_not] at this
 exact this q hq
theorem Jtms {α : Type} {l : List α} {i j : Nat} {x : α} (h : l[i]? = some x) (hj : i < j) : (l.take j).drop i = x :: (l.take j).drop (i + 1) := by
 have hlt := (List.getElem?_eq_some_iff.1 h).1
 have hlt2 : i < (l.take j).length := by rw [List.length_take]; omega
 rw [List.drop_eq_getElem_cons hlt2]
 congr 1
 rw [List.getElem_take]
 exact (List.getElem?_eq_some_iff.1 h).2
theorem Jtm8 {b : Block} {k : MBlock} {i ct kf mt : Nat} {src mach most : Int} {rest : List ARow} {s s' : CS} {x : Instr} (hx : b.code[i]? = some x) (hlt : i < ct) (h : runC most b k (⟨i, ct, kf, mt, src, mach⟩ :: rest) s = (s', none)) :
  runC most b k (⟨i + 1, ct, kf, mt, src, mach⟩ :: rest) (Jt6b most (costC s) (copyP s.set x.d x.a) kf).1 = (s', none) := by
 unfold runC rowsC at h ⊢
 obtain ⟨h1, h2⟩ := Jtpw h
 obtain ⟨h3, h4⟩ := Jtpw (s' := (thenC (rowC most b.code k.code ⟨i, ct, kf, mt, src, mach⟩ s) (rowsC most b.code k.code rest)).1) (by rw [← h1])
 have e : rowC most b.code k.code ⟨i, ct, kf, mt, src, mach⟩ s = rowC most b.code k.code ⟨i + 1, ct, kf, mt, src, mach⟩ (Jt6b most (costC s) (copyP s.set x.d x.a) kf).1 := by
  unfold rowC at h3 ⊢
  simp only at h3 ⊢
  rw [Jtms hx hlt] at h3 ⊢
  obtain ⟨h5, h6⟩ := Jtpw (s' := (thenC (copyC most kf (x :: (b.code.take ct).drop (i + 1)) s) fun s => thenC (moveC most kf ((k.code.take mt).drop kf) s) (lastC most b.code k.code ⟨i, ct, kf, mt, src, mach⟩)).1) (by rw [← h3])
  unfold copyC at h5
  obtain ⟨h7, h8⟩ := Jtpw (s' := (thenC (Jt6b most (costC s) (copyP s.set x.d x.a) kf) (copyC most kf ((b.code.take ct).drop (i + 1)))).1) (by rw [← h5])
  rw [show copyC most kf (x :: (b.code.take ct).drop (i + 1)) s = copyC most kf ((b.code.take ct).drop (i + 1)) (Jt6b most (costC s) (copyP s.set x.d x.a) kf).1 from Jtpv h7]
  rfl
 rw [← e]; exact h
theorem Jtma {b : Block} {k : MBlock} {i kf mt : Nat} {src mach most : Int} {rest : List ARow} {s s' : CS} (h : runC most b k (⟨i, i, kf, mt, src, mach⟩ :: rest) s = (s', none)) :
  ∃ s1 s2, moveC most kf ((k.code.take mt).drop kf) s = (s1, none) ∧ lastC most b.code k.code ⟨i, i, kf, mt, src, mach⟩ s1 = (s2, none) ∧ runC most b k rest s2 = (s', none) := by
 unfold runC rowsC at h
 obtain ⟨h1, h2⟩ := Jtpw h
 obtain ⟨h3, h4⟩ := Jtpw (s' := (thenC (rowC most b.code k.code ⟨i, i, kf, mt, src, mach⟩ s) (rowsC most b.code k.code rest)).1) (by rw [← h1])
 have e1 : (b.code.take i).drop i = [] := List.drop_eq_nil_of_le (by rw [List.length_take]; omega)
 obtain ⟨t, ht⟩ : ∃ t, t = (rowC most b.code k.code ⟨i, i, kf, mt, src, mach⟩ s).1 := ⟨_, rfl⟩
 have h5 : rowC most b.code k.code ⟨i, i, kf, mt, src, mach⟩ s = (t, none) := by rw [← h3, ht]
 unfold rowC at h5
 simp only [e1, copyC, Jtpx] at h5
 obtain ⟨h6, h7⟩ := Jtpw h5
 refine ⟨(moveC most kf ((k.code.take mt).drop kf) s).1, t, by rw [← h6], h7, ?_⟩
 unfold runC
 have h8 : thenC (rowC most b.code k.code ⟨i, i, kf, mt, src, mach⟩ s) (rowsC most b.code k.code rest) = rowsC most b.code k.code rest t := by rw [Jtpv h3, ht]
 rw [h8] at h
 exact h
end Go.AE
set_option maxRecDepth 4000
namespace Go.AE
open Go
theorem Jt88 {n : Nat} {i : Instr} (h : InOk n i) (hc : i.op = 2) : (0 ≤ i.d ∧ i.d < n) ∧ 0 ≤ i.a := by
 have a := (h.a (by simp [usesA, hc])).1
 have d := (h.d (by simp [usesD, hc])).1
 exact ⟨d, a.1⟩
theorem Jtly {c : Cert} {n n1 n2 : Nat} (ac : Acc c n n1 n2) {k : MBlock} (hk : k ∈ c.T.blocks) {r m : RunZ} {s s1 : CS} {kf : Nat} (hkb : c.T.blocks[m.block]? = some k) (hat : m.at_ = kf) (hle : kf ≤ k.code.length)
  (h : moveC 1048576 kf ((k.code.take (skipW isMove k.code kf)).drop kf) s = (s1, none)) (hi : Inv n n1 n2 s.set r m) :
  ∃ m1, Reach c.T (skipW isMove k.code kf - kf) m m1 ∧ Inv n n1 n2 s1.set r m1 ∧ m1.at_ = skipW isMove k.code kf ∧ m1.value = m.value ∧ skipW isMove k.code kf - kf ≤ 64 := by
 have hge := Jtn6 isMove k.code kf
 obtain ⟨g1, g2, g3, g4⟩ := Inv.moves (n := n) (n1 := n1) (n2 := n2) (r := r) (ok := fun x => x.op = 18 ∧ x ∈ k.code) (fun x hx => ⟨hx.1, ac.dst k hk x hx.2, ac.mac.code k hk x hx.2⟩) h
  (fun x hx => ⟨by have := (Jtn9 x hx).1; simpa [isMove] using this, (Jtn9 x hx).2⟩) hi
 have hl := Jtna (f := isMove) (l := k.code) hle
 have hr := Jtk6 (g := c.T) (seg := (k.code.take (skipW isMove k.code kf)).drop kf) (pre := k.code.take kf) (post := k.code.drop (skipW isMove k.code kf)) hkb Jtnd (by rw [hat, List.length_take]; omega) g1
 rw [hl] at hr g3
 have := Jtnc (ac.runs k hk) hle
 exact ⟨_, hr, g2, by rw [g3]; omega, g4, by omega⟩
theorem Jtm3 {code : List Instr} {mach : List Mach} {i k : Nat} {rows : List ARow} (h : RowsF code mach i k rows) : k ≤ mach.length := by
 cases h with
 | last h1 h2 => rw [← h2]; exact Jtn6 _ _ _
 | next h1 h2 _ _ =>
  have := (List.getElem?_eq_some_iff.1 h2).1
  have := Jtn6 isMove mach k
  omega
theorem Jtm2 {code : List Instr} {mach : List Mach} {i k : Nat} {rows : List ARow} {x : Instr} (hx : code[i]? = some x) (hc : isCopy x = true) (h : RowsF code mach i k rows) :
  ∃ ct kf mt src mc rest, rows = ⟨i, ct, kf, mt, src, mc⟩ :: rest ∧ i < ct ∧ RowsF code mach (i + 1) k (⟨i + 1, ct, kf, mt, src, mc⟩ :: rest) := by
 have hlt := (List.getElem?_eq_some_iff.1 hx).1
 have e := Jtn8 (f := isCopy) hlt (by rw [(List.getElem?_eq_some_iff.1 hx).2]; exact hc)
 have hge := Jtn6 isCopy code (i + 1)
 cases h with
 | last h1 h2 =>
  refine ⟨_, _, _, _, _, _, rfl, by omega, ?_⟩
  rw [e] at h1 ⊢
  exact .last h1 h2
 | next h1 h2 h3 h4 =>
  refine ⟨_, _, _, _, _, _, rfl, by omega, ?_⟩
  rw [e] at h1 h4 ⊢
  exact .next h1 h2 h3 h4
structure EndC (r m : RunZ) : Prop where
 state : m.state = 1
 value : m.value = r.value
 trace : m.trace = r.trace
theorem Jtl0 {c : Cert} {n n1 n2 : Nat} (ac : Acc c n n1 n2) {r m : RunZ} (h : RelC c n n1 n2 r m) :
  (stepS c.S r).state = 2 ∨ ((stepS c.S r).state = 0 ∧ (stepS c.S r).steps = r.steps + 1 ∧ ∃ j m', j ≤ 65 ∧ Reach c.T j m m' ∧ RelC c n n1 n2 (stepS c.S r) m') ∨
   ((stepS c.S r).state = 1 ∧ (stepS c.S r).steps = r.steps + 1 ∧ ∃ j m', j ≤ 65 ∧ Reach c.T j m m' ∧ EndC (stepS c.S r) m') := by
 obtain ⟨b, k, rows, s, s', hb, hk, ht, hR, hC, hW, hi⟩ := h
 have mb := List.mem_of_getElem? hb
 have mk := List.mem_of_getElem? hk
 have hkb : c.T.blocks[m.block]? = some k := by rw [hi.block]; exact hk
 have hkl := Jtm3 hR
 by_cases hcp : ∃ x, b.code[r.at_]? = some x ∧ isCopy x = true
 ·obtain ⟨x, hx, hxc⟩ := hcp
  have hS : stepS c.S r = stepI x r := by unfold stepS; rw [hb]; simp only; rw [hx]
  have x2 : x.op = 2 := by simpa [isCopy] using hxc
  obtain ⟨hop, ok⟩ := ac.src b mb x (List.mem_of_getElem? hx)
  obtain ⟨hd, ha⟩ := Jt88 ok x2
  obtain ⟨ct, kf, mt, src, mc, rest, e, hlt, hR2⟩ := Jtm2 hx hxc hR
  subst e
  have hC2 := Jtm8 hx hlt hC
  have hi2 := hi.copy x2 hd ha
  have e2 := Jtp6 (r := r) x2
  rw [hS]
  right; left
  refine ⟨hi2.run, by rw [e2], 0, m, by omega, rfl, b, k, _, _, s', by rw [e2]; exact hb, by rw [e2]; exact hk, ht, by rw [e2]; exact hR2, hC2, hW, hi2⟩
 ·have hsk : r.at_ ≤ b.code.length → skipW isCopy b.code r.at_ = r.at_ := fun hle => by
   rcases Nat.lt_or_ge r.at_ b.code.length with h | h
   ·refine Jtn5 h ?_
    rw [← Bool.not_eq_true]
    exact fun hc => hcp ⟨_, List.getElem?_eq_getElem h, hc⟩
   ·exact Jtn4 h
  generalize hAt : m.at_ = kf at hR hkl
  generalize hIt : r.at_ = it at hR hsk
  cases hR with
  | last h1 h2 =>
   have hge := Jtn6 isCopy b.code it
   have hsk := hsk (by omega)
   rw [hsk] at h1 hC
   obtain ⟨s1, s2, c1, c2, c3⟩ := Jtma hC
   have e12 : s2 = s1 := by
    unfold lastC at c2
    rw [if_neg (by simp only; omega)] at c2
    injection c2 with c2; exact c2.symm
   subst e12
   obtain ⟨m1, q1, q2, q3, q4, q5⟩ := Jtly ac mk hkb hAt hkl c1 hi
   have hS : stepS c.S r = stepT b.term r := by unfold stepS; rw [hb]; simp only; rw [hIt, List.getElem?_eq_none (by omega)]
   have hm1b : m1.block = r.block := q2.block
   have hM : stepM c.T m1 = stepMT k.term m1 := by unfold stepM; rw [hm1b, hk]; simp only; rw [q3, List.getElem?_eq_none (by omega)]
   have hre : Reach c.T (skipW isMove k.code kf - kf + 1) m (stepMT k.term m1) := q1.trans (k := 1) ⟨q2.runm, hM⟩
   have hjl : skipW isMove k.code kf - kf + 1 ≤ 65 := by omega
   simp only [termsZ, Bool.and_eq_true, beq_iff_eq] at ht
   obtain ⟨⟨t1, t2⟩, t3⟩ := ht
   have st := ac.sterm b mb
   have mt := ac.mac.term k mk
   rw [hS]
   unfold runC rowsC at c3
   rw [Jtpx] at c3
   have enter : ∀ (to : Int) (r' m' : RunZ), to ∈ succsZ b.term → 0 ≤ to ∧ to < c.S.blocks.length → (∀ q ∈ s'.set, q ∈ s2.set) → r' = { r with steps := r.steps + 1, block := to.toNat, at_ := 0 } → m' = { m1 with steps := m1.steps + 1, block := to.toNat, at_ := 0 } → RelC c n n1 n2 r' m' := by
    intro to r' m' hto hrg hss er em
    obtain ⟨l, hl⟩ : ∃ l, c.W[to.toNat]? = some l := ⟨_, List.getElem?_eq_getElem (by rw [ac.lenW]; omega)⟩
    subst er em
    refine Jtkv ac (l := l) (by show to.toNat < _; omega) rfl rfl hl ?_
    have hp := (ac.w l (List.mem_of_getElem? hl)).2
    exact ⟨hp, fun q hq => q2.val q (hss q (hW to hto l hl q hq)), q2.trace, rfl, q2.run, q2.runm, q2.len, q2.len1, q2.len2⟩
   by_cases k1 : b.term.kind = 1
   ·rw [if_pos k1] at c3
    injection c3 with c3
    have e1 : stepT b.term r = { r with steps := r.steps + 1, block := b.term.to.toNat, at_ := 0 } := by
     unfold stepT; rw [if_neg (by omega), if_neg (by rintro ⟨h, _⟩; omega)]
    have e2 : stepMT k.term m1 = { m1 with steps := m1.steps + 1, block := b.term.to.toNat, at_ := 0 } := by
     unfold stepMT; rw [if_neg (by omega), if_pos (by omega), ← t2]
    right; left
    refine ⟨by rw [e1]; exact hi.run, by rw [e1], _, _, hjl, hre, enter b.term.to _ _ ?_ (st.to (.inl k1)) (fun q hq => by rw [c3]; exact hq) e1 e2⟩
    unfold succsZ; rw [if_pos k1]; simp
   ·rw [if_neg k1] at c3
    obtain ⟨u1, u2⟩ := Jtql c3
    have a1 := st.a k1
    have a2 := mt.a (by rw [← t1]; exact k1)
    have hv : gI m1.regs k.term.a = gI r.regs b.term.a := by
     have := q2.val _ u1
     rw [Jtk7 a2.1 (by have := ac.small; omega)] at this; exact this.symm
    by_cases k3 : b.term.kind = 3
    ·have e1 : stepT b.term r = { r with steps := r.steps + 1, state := 1, value := gI r.regs b.term.a } := by unfold stepT; rw [if_pos k3]
     have e2 : stepMT k.term m1 = { m1 with steps := m1.steps + 1, state := 1, value := gI m1.regs k.term.a } := by unfold stepMT; rw [if_pos (by omega)]
     right; right
     refine ⟨by rw [e1], by rw [e1], _, _, hjl, hre, ?_⟩
     rw [e1, e2]
     exact ⟨rfl, hv, q2.trace⟩
    ·have k2 : b.term.kind = 2 := by have := st.kind; omega
     by_cases hz : gI r.regs b.term.a = 0
     ·have e1 : stepT b.term r = { r with steps := r.steps + 1, block := b.term.els.toNat, at_ := 0 } := by unfold stepT; rw [if_neg k3, if_pos ⟨k2, hz⟩]
      have e2 : stepMT k.term m1 = { m1 with steps := m1.steps + 1, block := b.term.els.toNat, at_ := 0 } := by unfold stepMT; rw [if_neg (by omega), if_neg (by omega), if_pos (by rw [hv]; exact hz), ← t3]
      right; left
      refine ⟨by rw [e1]; exact hi.run, by rw [e1], _, _, hjl, hre, enter b.term.els _ _ ?_ (st.els k2) (fun q hq => by rw [← u2]; exact hq) e1 e2⟩
      unfold succsZ; rw [if_neg k1, if_pos k2]; simp
     ·have e1 : stepT b.term r = { r with steps := r.steps + 1, block := b.term.to.toNat, at_ := 0 } := by unfold stepT; rw [if_neg k3, if_neg (fun h => hz h.2)]
      have e2 : stepMT k.term m1 = { m1 with steps := m1.steps + 1, block := b.term.to.toNat, at_ := 0 } := by unfold stepMT; rw [if_neg (by omega), if_neg (by omega), if_neg (by rw [hv]; exact hz), ← t2]
      right; left
      refine ⟨by rw [e1]; exact hi.run, by rw [e1], _, _, hjl, hre, enter b.term.to _ _ ?_ (st.to (.inr k2)) (fun q hq => by rw [← u2]; exact hq) e1 e2⟩
      unfold succsZ; rw [if_neg k1, if_pos k2]; simp
  | next h1 h2 h3 h4 =>
   rename_i x y rest
   have hge := Jtn6 isCopy b.code it
   have hlt := (List.getElem?_eq_some_iff.1 h1).1
   have hsk := hsk (by omega)
   rw [hsk] at h1 h4 hC
   obtain ⟨s1, s2, c1, c2, c3⟩ := Jtma hC
   obtain ⟨m1, q1, q2, q3, q4, q5⟩ := Jtly ac mk hkb hAt hkl c1 hi
   have hS : stepS c.S r = stepI x r := by unfold stepS; rw [hb]; simp only; rw [hIt, h1]
   have hm1b : m1.block = r.block := q2.block
   have hM : stepM c.T m1 = stepMI y m1 := by unfold stepM; rw [hm1b, hk]; simp only; rw [q3, h2]
   have hjl : skipW isMove k.code kf - kf + 1 ≤ 65 := by omega
   unfold lastC at c2
   rw [if_pos (by simp only; omega)] at c2
   simp only [Int.toNat_natCast, h1, h2] at c2
   obtain ⟨hop, ok⟩ := ac.src b mb x (List.mem_of_getElem? h1)
   have nc : ¬ isCopy x = true := fun h => hcp ⟨x, by rw [hIt]; exact h1, h⟩
   have okx := ac.mac.code k mk y (List.mem_of_getElem? h2) m1 q2.len1 q2.len2
   rw [hS]
   rcases q2.instr c2 h3 hop (fun h17 => (ok.d (by simp only [usesD, decide_eq_true_eq]; omega)).1) okx ac.small with e | ⟨z1, z2, z3, z4, z5, z6⟩
   ·exact .inl e
   ·right; left
    obtain ⟨w1, w2, w3, w4⟩ := Jtov z1
    exact ⟨z1, w4, _, _, hjl, q1.trans (k := 1) ⟨q2.runm, hM⟩, b, k, rest, s2, s', by rw [w2]; exact hb, by rw [w2]; exact hk, ht, by rw [w1, hIt, z4, q3]; exact h4, c3, hW, z3⟩
end Go.AE
set_option maxRecDepth 4000
namespace Go.AE
open Go
theorem Jtn1 {c : Cert} {n n1 n2 lim : Nat} (ac : Acc c n n1 n2) : ∀ (K : Nat) (r m : RunZ), RelC c n n1 n2 r m → (runS c.S lim K r).state = 2 ∨
  ((runS c.S lim K r).state = 1 ∧ ∃ j m', j + 65 * r.steps ≤ 65 * (runS c.S lim K r).steps ∧ Reach c.T j m m' ∧ EndC (runS c.S lim K r) m') ∨
  ((runS c.S lim K r).state = 0 ∧ ∃ j m', j + 65 * r.steps ≤ 65 * (runS c.S lim K r).steps ∧ Reach c.T j m m' ∧ m'.trace = (runS c.S lim K r).trace) := by
 intro K
 induction K with
 | zero =>
  intro r m h
  obtain ⟨b, k, rows, s, s', _, _, _, _, _, _, hi⟩ := h
  exact .inr (.inr ⟨hi.run, 0, m, by show 0 + 65 * r.steps ≤ 65 * r.steps; omega, rfl, hi.trace⟩)
 | succ K ih =>
  intro r m h
  unfold runS
  by_cases hc : r.state = 0 ∧ r.steps < lim
  ·rw [if_pos hc]
   rcases Jtl0 ac h with e | ⟨e1, e2, j, m1, hj, hre, hrel⟩ | ⟨e1, e2, j, m1, hj, hre, hend⟩
   ·left
    rw [Jtmj (fun h => by rw [e] at h; cases h.1)]; exact e
   ·rcases ih _ _ hrel with f | ⟨f, j2, m2, f1, f2, f3⟩ | ⟨f, j2, m2, f1, f2, f3⟩
    ·exact .inl f
    ·exact .inr (.inl ⟨f, j + j2, m2, by omega, hre.trans f2, f3⟩)
    ·exact .inr (.inr ⟨f, j + j2, m2, by omega, hre.trans f2, f3⟩)
   ·right; left
    rw [Jtmj (fun h => by rw [e1] at h; cases h.1)]
    exact ⟨e1, j, m1, by omega, hre, hend⟩
  ·rw [if_neg hc]
   obtain ⟨b, k, rows, s, s', _, _, _, _, _, _, hi⟩ := h
   exact .inr (.inr ⟨hi.run, 0, m, by omega, rfl, hi.trace⟩)
theorem Jtp1 (g : MFunc) (m : RunZ) : ∃ t, (stepM g m).trace = m.trace ++ t := by
 unfold stepM
 cases g.blocks[m.block]? with
 | none => exact ⟨[], by simp⟩
 | some b =>
  simp only
  cases b.code[m.at_]? with
  | some x =>
   simp only
   unfold stepMI
   split
   ·exact ⟨[], by show (writeL m _ _).trace = _; rw [(Jtr3 m x.dst (readL m x.src)).2.2.2.2, List.append_nil]⟩
   ·split
    ·exact ⟨_, rfl⟩
    ·split <;> exact ⟨[], by simp⟩
  | none => exact ⟨[], by simp only; rw [(Jtoy b.term m).2.2.2.2, List.append_nil]⟩
theorem Jtmh (g : MFunc) (lim : Nat) : ∀ (K : Nat) (m : RunZ), ∃ t, (runM g lim K m).trace = m.trace ++ t := by
 intro K
 induction K with
 | zero => intro m; exact ⟨[], by unfold runM; simp⟩
 | succ K ih =>
  intro m
  unfold runM
  split
  ·obtain ⟨t1, h1⟩ := Jtp1 g m
   obtain ⟨t2, h2⟩ := ih (stepM g m)
   exact ⟨t1 ++ t2, by rw [h2, h1, List.append_assoc]⟩
  ·exact ⟨[], by simp⟩
theorem Jtmg (g : MFunc) (lim : Nat) : ∀ (K : Nat) (m : RunZ), m.steps ≤ lim → (runM g lim K m).steps ≤ lim ∧ (runM g lim K m).trace.length + m.steps ≤ m.trace.length + (runM g lim K m).steps := by
 intro K
 induction K with
 | zero => intro m h; exact ⟨h, by show m.trace.length + m.steps ≤ m.trace.length + m.steps; omega⟩
 | succ K ih =>
  intro m h
  unfold runM
  split
  ·rename_i hc
   obtain ⟨s1, s2, s3⟩ := Jtoz g m
   obtain ⟨k1, k2⟩ := ih (stepM g m) (by omega)
   exact ⟨k1, by omega⟩
  ·exact ⟨h, by omega⟩
theorem gI_pad (l : List Int) (k : Nat) (v : Int) : gI (l ++ List.replicate k 0) v = l.getD v.toNat 0 := by
 unfold gI
 simp only [List.getD_eq_getElem?_getD, List.getElem?_append, List.getElem?_replicate]
 split
 ·rfl
 ·rename_i h
  rw [List.getElem?_eq_none (by omega)]
  split <;> rfl
theorem Jtaf (k : Nat) (v : Int) : gI (List.replicate k 0) v = 0 := by
 have := gI_pad [] k v
 simpa using this
theorem Jtag {l : List Int} {k : Nat} (h : l.length ≤ k) : l.getD k 0 = 0 := by
 rw [List.getD_eq_getElem?_getD, List.getElem?_eq_none h]; rfl
theorem Jtn3 {c : Cert} {n n1 n2 : Nat} {args : List Int} (ac : Acc c n n1 n2) (hn : c.S.regs = (n : Int)) (hn1 : c.T.regs = (n1 : Int)) (hn2 : c.T.slots = (n2 : Int)) (h1 : args.length ≤ n) (h2 : args.length ≤ n2) (ha : c.S.args = (args.length : Int))
  (hb : 0 < c.S.blocks.length) (he : ∀ l, c.W[0]? = some l → ∀ q ∈ l, initZ q c.S.args = true) : RelC c n n1 n2 (run0 c.S args) (runM0 c.T args) := by
 obtain ⟨l, hl⟩ : ∃ l, c.W[0]? = some l := ⟨_, List.getElem?_eq_getElem (by rw [ac.lenW]; exact hb)⟩
 have hp := (ac.w l (List.mem_of_getElem? hl)).2
 refine Jtkv ac (l := l) hb rfl rfl hl ⟨hp, fun q hq => ?_, rfl, rfl, rfl, rfl, ?_, ?_, ?_⟩
 ·have hq0 := hp q hq
  have hi := he l hl q hq
  have e1 : gI (run0 c.S args).regs q.v = args.getD q.v.toNat 0 := gI_pad args _ q.v
  have e2 : ∀ x, gI (runM0 c.T args).slots x = args.getD x.toNat 0 := fun x => gI_pad args _ x
  have e3 : ∀ x, gI (runM0 c.T args).regs x = 0 := fun x => Jtaf _ x
  rw [e1]
  unfold initZ at hi
  rw [ha] at hi
  unfold readL
  by_cases hs : q.l.tmod 2 = 1
  ·rw [if_pos hs, e2]
   split at hi
   ·simp only [Bool.and_eq_true, decide_eq_true_eq] at hi
    rw [hi.2]
   ·rename_i hv
    simp only [hs, decide_true, Bool.not_true, Bool.false_or, decide_eq_true_eq] at hi
    rw [Jtag (by omega), Jtag (by omega)]
  ·rw [if_neg hs, e3]
   split at hi
   ·simp only [Bool.and_eq_true, decide_eq_true_eq] at hi
    exact absurd hi.1 hs
   ·exact Jtag (by omega)
 ·show (args ++ List.replicate (c.S.regs.toNat - args.length) 0).length = n
  rw [List.length_append, List.length_replicate]; omega
 ·show (List.replicate c.T.regs.toNat 0).length = n1
  rw [List.length_replicate]; omega
 ·show (args ++ List.replicate (c.T.slots.toNat - args.length) 0).length = n2
  rw [List.length_append, List.length_replicate]; omega
theorem Jtn2 {c : Cert} {n n1 n2 lim : Nat} {args : List Int} (ac : Acc c n n1 n2) (hr : RelC c n n1 n2 (run0 c.S args) (runM0 c.T args)) :
  (execS c.S args lim).state = 2 ∨
  ((execS c.S args lim).state = 1 ∧ (execM c.T args (65 * (execS c.S args lim).steps)).state = 1 ∧ (execM c.T args (65 * (execS c.S args lim).steps)).value = (execS c.S args lim).value ∧ (execM c.T args (65 * (execS c.S args lim).steps)).trace = (execS c.S args lim).trace) ∨
  ((execS c.S args lim).state = 0 ∧ ∃ t, (execM c.T args (65 * (execS c.S args lim).steps)).trace = (execS c.S args lim).trace ++ t) := by
 have e : execS c.S args lim = runS c.S lim (lim + 1) (run0 c.S args) := rfl
 have hz : (run0 c.S args).steps = 0 := rfl
 have hz2 : (runM0 c.T args).steps = 0 := rfl
 have key := Jtn1 (lim := lim) ac (lim + 1) _ _ hr
 rw [← e, hz] at key
 obtain ⟨S, hS⟩ : ∃ S, S = execS c.S args lim := ⟨_, rfl⟩
 rw [← hS] at key ⊢
 have go : ∀ {j : Nat} {m' : RunZ}, j + 65 * 0 ≤ 65 * S.steps → Reach c.T j (runM0 c.T args) m' → execM c.T args (65 * S.steps) = runM c.T (65 * S.steps) (65 * S.steps + 1 - j) m' := fun {j m'} hj h2 => by
  unfold execM
  rw [show 65 * S.steps + 1 = j + (65 * S.steps + 1 - j) by omega, Jtmf h2 (by omega), show j + (65 * S.steps + 1 - j) - j = 65 * S.steps + 1 - j by omega]
 rcases key with k | ⟨k, j, m', k1, k2, k3⟩ | ⟨k, j, m', k1, k2, k3⟩
 ·exact .inl k
 ·right; left
  rw [go k1 k2, Jtme (fun h => by rw [k3.state] at h; cases h.1)]
  exact ⟨k, k3.state, k3.value, k3.trace⟩
 ·right; right
  rw [go k1 k2]
  obtain ⟨t, ht⟩ := Jtmh c.T (65 * S.steps) (65 * S.steps + 1 - j) m'
  exact ⟨k, t, by rw [ht, k3]⟩
theorem Jt9e (g : MFunc) (args : List Int) (lim : Nat) : (execM g args lim).steps ≤ lim ∧ (execM g args lim).trace.length ≤ lim := by
 obtain ⟨h1, h2⟩ := Jtmg g lim (lim + 1) (runM0 g args) (Nat.zero_le _)
 have e1 : (runM0 g args).steps = 0 := rfl
 have e2 : (runM0 g args).trace.length = 0 := rfl
 have e : execM g args lim = runM g lim (lim + 1) (runM0 g args) := rfl
 rw [e]
 exact ⟨h1, by omega⟩
end Go.AE
set_option maxRecDepth 4000
namespace Go.AE
open Go
theorem Jtez {i : Instr} (h : Jtkl i 0 = 0) : False := by
 unfold Jtkl at h
 split at h
 ·cases h
 rename_i h8
 split at h
 ·cases h
 rename_i h9
 simp only [bad9, Bool.or_eq_true, Bool.and_eq_true, not_or, not_and, Bool.not_eq_true', Bool.not_eq_false, inZ, decide_eq_true_eq] at h9
 obtain ⟨⟨d, a⟩, b⟩ := h9
 by_cases hd : usesD i.op = true
 ·have := d hd; omega
 ·have : usesA i.op = true := by
   simp only [usesD, decide_eq_true_eq] at hd
   simp only [usesA, decide_eq_true_eq]; omega
  have := a this; omega
theorem Jtgr {x : Mach} {s : Int} (h : Jtko x 0 s = 0) : False := by
 unfold Jtko at h
 split at h
 ·cases h
 split at h
 ·split at h
  ·cases h
  rename_i k
  simp only [not_or, Bool.not_eq_false] at k
  obtain ⟨k1, k2, k3⟩ := k
  have one : ∀ l : Int, rngZ l 0 s = true → l.tmod 2 = 1 := fun l hl => by
   unfold rngZ at hl
   split at hl
   ·assumption
   ·simp only [Bool.and_eq_true, decide_eq_true_eq] at hl
    have := Jtpr hl.1
    omega
  exact k3 ⟨one _ k1, one _ k2⟩
 ·split at h
  ·cases h
  exact Jtez h
theorem dst_nn {x : Mach} {r s : Int} (h : Jtko x r s = 0) : 0 ≤ x.dst := by
 unfold Jtko at h
 split at h
 ·cases h
 split at h
 ·split at h
  ·cases h
  rename_i k
  simp only [not_or, Bool.not_eq_false] at k
  have k1 := k.1
  unfold rngZ at k1
  split at k1
  ·simp only [Bool.and_eq_true, decide_eq_true_eq] at k1; exact k1.1
  ·simp only [Bool.and_eq_true, decide_eq_true_eq] at k1; exact k1.1
 ·split at h
  ·cases h
  rename_i k
  rcases Decidable.em (x.dst = 0) with h0 | h0
  ·omega
  ·exact absurd ⟨h, .inl h0⟩ k
theorem Jtlj {c : Cert} (h : (Jtli c).err = 0) : validZ c = 0 ∧ ∀ q ∈ w0 c, initZ q c.S.args = true := by
 unfold Jtli at h
 split at h
 ·rename_i h1; exact absurd h h1
 rename_i h1
 split at h
 ·cases h
 rename_i h2
 exact ⟨by simpa using h1, by simpa using h2⟩
theorem acc_of {c : Cert} (hf : fewC c = true) (hr : (Jtli c).err = 0) : ∃ n n1 n2 : Nat, n ≤ 60 ∧ n1 ≤ 60 ∧ n2 ≤ 60 ∧ c.S.regs = (n : Int) ∧ c.T.regs = (n1 : Int) ∧ c.T.slots = (n2 : Int) ∧ 0 ≤ c.S.args ∧ c.S.args ≤ n ∧ c.S.args ≤ n2 ∧ c.S.args = c.T.args ∧
  Acc c n n1 n2 ∧ 0 < c.S.blocks.length ∧ Jtkk c.S = 0 ∧ Jtkn c.T = 0 ∧ (∀ l, c.W[0]? = some l → ∀ q ∈ l, initZ q c.S.args = true) ∧ (∀ b ∈ c.S.blocks, b.code.length ≤ 100) ∧ (∀ b ∈ c.T.blocks, b.code.length ≤ 300) := by
 obtain ⟨hv, hi⟩ := Jtlj hr
 have ft := fit_of hv hf
 have hall := ((Jtgc ft hv).2 (by rw [hr]; decide)).1 hr
 have hfc := hf
 unfold validZ at hv
 split at hv
 ·rename_i g; exact absurd hv g
 rename_i g1
 split at hv
 ·rename_i g; exact absurd hv g
 rename_i g2
 split at hv
 ·cases hv
 rename_i g3
 have v1 : Jtkk c.S = 0 := by simpa using g1
 have v2 : Jtkn c.T = 0 := by simpa using g2
 simp only [fewC, few, fewM, fewW, Bool.and_eq_true, decide_eq_true_eq, List.all_eq_true] at hf
 obtain ⟨⟨⟨⟨⟨f1, f2⟩, f3⟩, f4⟩, ⟨⟨⟨⟨f5, f6⟩, f7⟩, f8⟩, f9⟩⟩, f10, f11⟩ := hf
 obtain ⟨s1, s2, s3, s4⟩ := src_ok v1
 obtain ⟨t1, t2, t3, t4⟩ := mac_ok v2
 obtain ⟨n, hn⟩ : ∃ n : Nat, c.S.regs = (n : Int) := ⟨c.S.regs.toNat, by omega⟩
 obtain ⟨n1, hn1⟩ : ∃ n : Nat, c.T.regs = (n : Int) := ⟨c.T.regs.toNat, by omega⟩
 obtain ⟨n2, hn2⟩ : ∃ n : Nat, c.T.slots = (n : Int) := ⟨c.T.slots.toNat, by omega⟩
 have ea : c.S.args = c.T.args := Decidable.not_not.1 fun h => g3 (.inr h)
 rw [hn] at s4
 have mb : ∀ b ∈ c.T.blocks, _ := fun b hb => Jtgq v2 hb
 rw [hn1, hn2] at mb
 refine ⟨n, n1, n2, by omega, by omega, by omega, hn, hn1, hn2, s1, by omega, by omega, ea, ?_, s3, v1, v2, fun l hl q hq => hi q ?_, f3, f8⟩
 ·exact {
   src := fun b hb i hi => Jter (by omega) ((s4 b hb).1 i hi)
   sterm := fun b hb => okT_of (s4 b hb).2
   mac := ⟨fun b hb x hx m k1 k2 => by
    have h := (mb b hb).1 x hx
    rcases Nat.eq_zero_or_pos n1 with h0 | h0
    ·subst h0; exact (Jtgr h).elim
    ·exact okX_of h h0 (by omega) (by omega) m k1 k2, fun b hb => okT_of (mb b hb).2.2⟩
   dst := fun b hb x hx => dst_nn ((mb b hb).1 x hx)
   runs := fun b hb => (mb b hb).2.1
   small := by omega
   lenT := ft.lenT
   lenW := ft.lenW
   w := fun l hl => ⟨(ft.w l hl).1, fun q hq => by have := (ft.w l hl).2.2 q hq; omega⟩
   blk := fun i hi => by
    unfold okTo at hall
    rw [List.all_eq_true] at hall
    exact hall i (List.mem_range.2 hi) }
 ·unfold w0; rw [hl]; exact hq
end Go.AE
set_option maxRecDepth 4000
namespace Go.AE
open Go
section
theorem Jtkf {P : Program} {p : Nums} (A : All P p) (a t : List Int) (h0 : a.length + t.length < 1000000000) : Jt3x P p.ref09_Prefix [.d (intsD a), .d (intsD (a ++ t))] [] fun o _ => o = .ret (AB true) := by
 have cv := Jtkg A a (by omega)
 obtain ⟨L, hL⟩ : ∃ L, L = a ++ t := ⟨_, rfl⟩
 have hl0 : a.length ≤ L.length := by rw [hL, List.length_append]; omega
 have ht0 : (L.map intRow).take a.length = a.map intRow := by rw [hL, List.map_append, ← List.length_map (f := intRow), List.take_left]
 rw [← hL]
 have hle : (a.length : Int) ≤ (L.length : Int) := by omega
 refine A.ref09_Prefix.run rfl fun R hR => ?_
 simp only [intsD] at cv ⊢
 (simp (maxSteps := 1000000) [Jte3, hle, hl0, ht0, intRow])
 (refine Jtx cv (by rfl) (by rfl) ?_)
 (simp (maxSteps := 1000000) [])
 (first | exact hR _ _ FrA | exact hR _ _ FnA)
theorem Jtfm {P : Program} {p : Nums} (A : All P p) (c : Cert) (args : List Int) (lim : Nat) (S T : RunZ) (ci : Jt3x P p.interp_Exec [c.S.av, .d (intsD args), AI lim] [] fun o _ => o = .ret (.tup [S.av, AI 0]))
  (cx : Jt3x P p.execute_Exec [c.T.av, .d (intsD args), AI ((65 * S.steps : Nat) : Int)] [] fun o _ => o = .ret (.tup [T.av, AI 0])) (h0 : S.steps ≤ 1000000) (h1 : S.trace.length < 1000000) (h2 : T.trace.length < 100000000) (h3 : T.steps ≤ 65 * S.steps)
  (key : S.state = 2 ∨ (S.state = 1 ∧ T.state = 1 ∧ T.value = S.value ∧ T.trace = S.trace) ∨ (S.state = 0 ∧ ∃ t, T.trace = S.trace ++ t)) : Jt3x P p.law16_simulates [c.av, .d (intsD args), AI lim] [] fun o _ => o = .ret (AB true) := by
 have hw : IntKind.i64.wrap (65 * (S.steps : Int)) = ((65 * S.steps : Nat) : Int) := by rw [wrap_i64 (by omega) (by omega)]; omega
 obtain ⟨s1, s2, s3, s4, s5, s6, s7, s8⟩ := S
 obtain ⟨t1, t2, t3, t4, t5, t6, t7, t8⟩ := T
 simp only at key h0 h1 h2 h3 hw
 have cv := Jtkg A s7 (by omega)
 refine A.law16_simulates.run rfl fun R hR => ?_
 obtain ⟨sR, hsR⟩ : ∃ x, x = c.S.blocks.map Block.row := ⟨_, rfl⟩
 obtain ⟨tR, htR⟩ : ∃ x, x = c.T.blocks.map MBlock.row := ⟨_, rfl⟩
 obtain ⟨wD, hwD⟩ : ∃ x, x = witD c.W := ⟨_, rfl⟩
 simp only [RunZ.av, Cert.av, Func.av, MFunc.av, ← hsR, ← htR, ← hwD] at ci cx cv ⊢
 rcases key with rfl | ⟨rfl, rfl, rfl, rfl⟩ | ⟨rfl, t, rfl⟩
 ·(simp (maxSteps := 1000000) [Jtd3])
  (refine Jtx ci (by rfl) (by rfl) ?_)
  (simp (maxSteps := 1000000) [hw])
  (refine Jtx cx (by rfl) (by rfl) ?_)
  (simp (maxSteps := 1000000) [])
  (first | exact hR _ _ FrA | exact hR _ _ FnA)
 ·have h3 : (t8 : Int) ≤ 65 * (s8 : Int) := by omega
  (simp (maxSteps := 1000000) [Jtd3])
  (refine Jtx ci (by rfl) (by rfl) ?_)
  (simp (maxSteps := 1000000) [hw])
  (refine Jtx cx (by rfl) (by rfl) ?_)
  (simp (maxSteps := 1000000) [])
  (refine Jtx cv (by rfl) (by rfl) ?_)
  (simp (maxSteps := 1000000) [h3])
  (first | exact hR _ _ FrA | exact hR _ _ FnA | exact hR _ _ (Xf (hq := by simp [AV.erase, AV.unview, h3]; done)))
 ·have cp := Jtkf A s7 t (by rw [List.length_append] at h2; omega)
  (simp (maxSteps := 1000000) [Jtd3])
  (refine Jtx ci (by rfl) (by rfl) ?_)
  (simp (maxSteps := 1000000) [hw])
  (refine Jtx cx (by rfl) (by rfl) ?_)
  (simp (maxSteps := 1000000) [])
  (refine Jtx cp (by rfl) (by rfl) ?_)
  (simp (maxSteps := 1000000) [])
  (first | exact hR _ _ FrA | exact hR _ _ FnA)
end
section
set_option maxHeartbeats 1000000 in
theorem Jtfk {P : Program} {p : Nums} (A : All P p) (S : SortOk P p) (C : ClosOk P p) (c : Cert) (args : List Int) (fuel : Int) (h2 : ∀ b ∈ c.T.blocks, okM b) (hw : okW c.W) (hfu : 0 ≤ fuel ∧ fuel < 256) : Jt3x P p.law16_CheckerSound [c.av, .d (intsD args), AU fuel] [] fun o _ => o = .ret (AB true) := by
 have cw := Jtfl A S C
 have cf := Jtki A c
 have ok := fun hf => Jtiq (c := c) hf h2 hw
 have q3 := fun hf => Jt7l A S C c (ok hf) hf
 obtain ⟨lim, hlim⟩ : ∃ n : Nat, fuel = (n : Int) := ⟨fuel.toNat, by omega⟩
 subst hlim
 have hlim : lim < 256 := by omega
 have main : fewC c = true → (Jtli c).err = 0 → c.S.args = (args.length : Int) → Jt3x P p.law16_simulates [c.av, .d (intsD args), AI lim] [] fun o _ => o = .ret (AB true) := fun hf hr ha => by
  obtain ⟨n, n1, n2, b0, b1, b2, hn, hn1, hn2, a0, a1, a2, a3, ac, hpos, v1, v2, hi, l1, l2⟩ := acc_of hf hr
  have hok : OkF c.S n := ⟨fun b hb i hi => by
   have h := ((src_ok v1).2.2.2 b hb).1 i hi
   rw [hn] at h
   rcases Nat.eq_zero_or_pos n with h0 | h0
   ·subst h0; exact (Jtez h).elim
   ·exact Jtex h h0, ac.sterm⟩
  have ax : args.length ≤ n := by omega
  have ax2 : args.length ≤ n2 := by omega
  have ci := Jtf3 A c.S args n lim hok hn (by omega) ax ha hpos (by omega) (fun b hb => by have := l1 b hb; omega)
  have hrel := Jtn3 ac hn hn1 hn2 ax ax2 ha hpos hi
  have key := Jtn2 (lim := lim) ac hrel
  have hst := Jtmk (f := c.S) (lim := lim) (lim + 1) (run0 c.S args) (Nat.zero_le _) (Nat.le_refl _)
  have e0 : execS c.S args lim = runS c.S lim (lim + 1) (run0 c.S args) := rfl
  rw [← e0] at hst
  have cx := Jt9f A c.T args n1 n2 (65 * (execS c.S args lim).steps) ac.mac hn1 hn2 (by omega) (by omega) ax2 (by omega) (by rw [ac.lenT]; exact hpos) (by omega) (fun b hb => by have := l2 b hb; omega)
  have hex := Jt9e c.T args (65 * (execS c.S args lim).steps)
  exact Jtfm A c args lim _ _ ci cx (by omega) (by omega) (by omega) hex.1 key
 obtain ⟨f, hf⟩ : ∃ f, f = fewC c := ⟨_, rfl⟩
 obtain ⟨T, hT⟩ : ∃ T, T = Jtli c := ⟨_, rfl⟩
 rw [← hf] at cf q3 main
 rw [← hT] at q3 main
 obtain ⟨sR, hsR⟩ : ∃ x, x = c.S.blocks.map Block.row := ⟨_, rfl⟩
 obtain ⟨tR, htR⟩ : ∃ x, x = c.T.blocks.map MBlock.row := ⟨_, rfl⟩
 obtain ⟨wD, hwD⟩ : ∃ x, x = witD c.W := ⟨_, rfl⟩
 obtain ⟨aR, haR⟩ : ∃ x, x = args.map intRow := ⟨_, rfl⟩
 have hal : aR.length = args.length := by rw [haR]; simp
 simp only [Cert.av, Func.av, MFunc.av, Rep.av, intsD, ← hsR, ← htR, ← hwD, ← haR] at cf q3 main ⊢
 refine A.law16_CheckerSound.run rfl fun R hR => ?_
 (simp (maxSteps := 1000000) [Jtd1, AU])
 (refine Jtx cw (by rfl) (by rfl) ?_)
 (simp (maxSteps := 1000000) [])
 (refine Jtx cf (by rfl) (by rfl) ?_)
 (simp (maxSteps := 1000000) [])
 cases f with
 | false =>
  (simp (maxSteps := 1000000) [])
  (refine Jtx cw (by rfl) (by rfl) ?_)
  (simp (maxSteps := 1000000) [])
  (first | exact hR _ _ FrA | exact hR _ _ FnA)
 | true =>
  (simp (maxSteps := 1000000) [])
  (refine Jtx (q3 rfl) (by rfl) (by rfl) ?_)
  (simp (maxSteps := 1000000) [])
  by_cases he : T.err = 0
  ·have heb : (T.err != 0) = false := by simpa using he
   by_cases ha : c.S.args = (args.length : Int)
   ·have hab : ((args.length : Int) != c.S.args) = false := by simp [ha]
    have cm := main rfl he ha
    have hw5 : IntKind.i64.wrap (lim : Int) = (lim : Int) := wrap_i64 (by omega) (by omega)
    (simp (maxSteps := 1000000) [heb, hal, hab, hw5])
    (refine Jtx cm (by rfl) (by rfl) ?_)
    (simp (maxSteps := 1000000) [])
    (first | exact hR _ _ FrA | exact hR _ _ FnA)
   ·have hab : ((args.length : Int) != c.S.args) = true := by simp; omega
    (simp (maxSteps := 1000000) [heb, hal, hab])
    (first | exact hR _ _ FrA | exact hR _ _ FnA)
  ·have heb : (T.err != 0) = true := by simpa using he
   (simp (maxSteps := 1000000) [heb])
   (first | exact hR _ _ FrA | exact hR _ _ FnA)
end
end Go.AE
