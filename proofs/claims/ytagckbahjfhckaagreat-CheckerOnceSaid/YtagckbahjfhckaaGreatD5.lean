/- A part of the proof: the evaluator over abstract values, its codes, the contracts of the functions. -/
import Derived.Test.YtagckbahjfhckaaGreatD4
set_option linter.unusedVariables false
set_option linter.unusedSimpArgs false
namespace Go.AE
open Go
def Jtkh (i : Mach) (regs slots : Int) : Int :=
 if (knownZ i.op && i.op != 2) = false then 8
 else if i.op = 18 then (if movZ i regs slots ≠ 0 then movZ i regs slots else if clearM i = false then 12 else 0)
 else (if Jtke i.instr regs ≠ 0 then Jtke i.instr regs else if clearO i = false then 12 else 0)
def sbErr (code : List Mach) (regs slots : Int) (k : Nat) : Int := match code[k]? with
 | none => 0
 | some x => if Jtkh x regs slots ≠ 0 then Jtkh x regs slots else if 64 < runF (code.take (k + 1)) then 15 else 0
def sbErrs (code : List Mach) (regs slots : Int) : Int := Jt8a ((List.range code.length).map (sbErr code regs slots))
def Jtkf (b : MBlock) (regs slots blocks : Int) : Int := if sbErrs b.code regs slots ≠ 0 then sbErrs b.code regs slots else Jtki b.term regs blocks
def Jtkg (f : MFunc) : Int :=
 if f.args < 0 ∨ f.slots < f.args then 10 else if f.regs < 0 then 9 else if 1048576 < f.slots ∨ 1048576 < f.regs then 6 else if f.blocks.length = 0 then 14 else if 1048576 < f.blocks.length ∨ 1048576 < mcodeN f.blocks then 6
 else Jt8a (f.blocks.map fun b => Jtkf b f.regs f.slots f.blocks.length)
theorem Jtj1 (l : List Mach) : ∀ k, k ≤ l.length → runF (l.take k) ≤ k := by
 intro k
 induction k with
 | zero => intro _; simp [runF]
 | succ k ih =>
  intro h
  rw [Jtj2 (by omega)]
  have := ih (by omega)
  unfold runN; split <;> omega
section
theorem Jtdu {P : Program} {p : Nums} (A : All P p) (i : Mach) (regs slots : Int) (g1 : okZ i.dst) (g2 : okZ i.src) : Jt3o P p.machine_Instr [i.av, AI regs, AI slots] [] fun o _ => o = .ret (AI (Jtkh i regs slots)) := by
 refine A.machine_Instr.run rfl fun R hR => ?_
 obtain ⟨T, hT⟩ : ∃ T, T = Jtkh i regs slots := ⟨_, rfl⟩
 rw [← hT] at hR
 unfold Jtkh at hT
 have c := Jtfv A i.op
 obtain ⟨km, hkm⟩ : ∃ b, b = (knownZ i.op && i.op != 2) := ⟨_, rfl⟩
 rw [← hkm] at c hT
 (simp (maxSteps := 1000000) [Jtao, Mach.av])
 (refine Jtt c (by rfl) (by rfl) ?_)
 (simp (maxSteps := 1000000) [])
 ((first | refine Xc (fun h1 => ?_) (fun h1 => ?_) | refine Xo (fun h1 => ?_) (fun h1 => ?_)) <;> (try simp only [Xz, Xy] at h1))
 ·(simp (maxSteps := 1000000) [h1])
  rw [if_pos h1] at hT
  (first | exact hR _ _ FrA | exact hR _ _ FnA | exact hR _ _ (Xf (hq := by simp [AV.erase, AV.unview, hT]; done)))
 rw [if_neg (by simp [h1])] at hT
 (simp (maxSteps := 1000000) [h1])
 (refine Jtt (Jte1 A) (by rfl) (by rfl) ?_)
 (simp (maxSteps := 1000000) [])
 ((first | refine Xc (fun h2 => ?_) (fun h2 => ?_) | refine Xo (fun h2 => ?_) (fun h2 => ?_)) <;> (try simp only [Xz, Xy] at h2))
 ·rw [if_pos h2] at hT
  (simp (maxSteps := 1000000) [])
  (refine Jtt (Jtdy A) (by rfl) (by rfl) ?_)
  (simp (maxSteps := 1000000) [])
  refine ⟨A.machine_moves_1.ok, ?_⟩
  (refine Jtt (Jtdw A i regs slots g1 g2) (by rfl) (by rfl) ?_)
  (simp (maxSteps := 1000000) [])
  ((first | refine Xc (fun h3 => ?_) (fun h3 => ?_) | refine Xo (fun h3 => ?_) (fun h3 => ?_)) <;> (try simp only [Xz, Xy] at h3))
  ·rw [if_pos h3] at hT
   (simp (maxSteps := 1000000) [h3])
   (first | exact hR _ _ FrA | exact hR _ _ FnA | exact hR _ _ (Xf (hq := by simp [AV.erase, AV.unview, hT]; done)))
  rw [if_neg (by simpa using h3)] at hT
  (simp (maxSteps := 1000000) [h3])
  refine ⟨A.machine_moves_2.ok, ?_⟩
  (refine Jtt (Jtdx A i) (by rfl) (by rfl) ?_)
  (simp (maxSteps := 1000000) [])
  ((first | refine Xc (fun h4 => ?_) (fun h4 => ?_) | refine Xo (fun h4 => ?_) (fun h4 => ?_)) <;> (try simp only [Xz, Xy] at h4))
  ·rw [if_pos h4] at hT
   (simp (maxSteps := 1000000) [h4])
   (first | exact hR _ _ FrA | exact hR _ _ FnA | exact hR _ _ (Xf (hq := by simp [AV.erase, AV.unview, hT]; done)))
  rw [if_neg (by simp [h4])] at hT
  (simp (maxSteps := 1000000) [h4])
  (first | exact hR _ _ FrA | exact hR _ _ FnA | exact hR _ _ (Xf (hq := by simp [AV.erase, AV.unview, hT]; done)))
 ·rw [if_neg h2] at hT
  (simp (maxSteps := 1000000) [])
  refine ⟨A.machine_others_1.ok, ?_⟩
  (refine Jtt (Jtdz A i regs slots) (by rfl) (by rfl) ?_)
  (simp (maxSteps := 1000000) [])
  ((first | refine Xc (fun h3 => ?_) (fun h3 => ?_) | refine Xo (fun h3 => ?_) (fun h3 => ?_)) <;> (try simp only [Xz, Xy] at h3))
  ·rw [if_pos h3] at hT
   (simp (maxSteps := 1000000) [h3])
   (first | exact hR _ _ FrA | exact hR _ _ FnA | exact hR _ _ (Xf (hq := by simp [AV.erase, AV.unview, hT]; done)))
  rw [if_neg (by simpa using h3)] at hT
  (simp (maxSteps := 1000000) [h3])
  refine ⟨A.machine_others_2.ok, ?_⟩
  (refine Jtt (Jte0 A i) (by rfl) (by rfl) ?_)
  (simp (maxSteps := 1000000) [])
  ((first | refine Xc (fun h4 => ?_) (fun h4 => ?_) | refine Xo (fun h4 => ?_) (fun h4 => ?_)) <;> (try simp only [Xz, Xy] at h4))
  ·rw [if_pos h4] at hT
   (simp (maxSteps := 1000000) [h4])
   (first | exact hR _ _ FrA | exact hR _ _ FnA | exact hR _ _ (Xf (hq := by simp [AV.erase, AV.unview, hT]; done)))
  rw [if_neg (by simp [h4])] at hT
  (simp (maxSteps := 1000000) [h4])
  (first | exact hR _ _ FrA | exact hR _ _ FnA | exact hR _ _ (Xf (hq := by simp [AV.erase, AV.unview, hT]; done)))
theorem Jtdv {P : Program} {p : Nums} (A : All P p) (f : MFunc) (b : MBlock) (h0 : b.code.length < 1000000000) (hok : okM b) : Jt3o P p.machine_block [f.av, b.av] [] fun o _ => o = .ret (AI (Jtkf b f.regs f.slots f.blocks.length)) := by
 refine A.machine_block.run rfl fun R hR => ?_
 (simp (maxSteps := 1000000) [Jtap, MBlock.av, MFunc.av])
 refine Jt9 (fun k : Nat => ⟨[(12, AI k), (11, AI b.code.length), (10, .d (.sl (b.code.map Mach.row))), (5, AI (runF (b.code.take k))), (2, .ptr 0 0), (3, .ptr 1 0)], [.mem [AI f.args, AI f.regs, AI f.slots, .d (.sl (f.blocks.map MBlock.row))], .mem [.d (.sl (b.code.map Mach.row)), AI b.term.kind, AI b.term.a, AI b.term.to, AI b.term.els]]⟩)
  (fun k => k ≤ b.code.length ∧ ∀ e ∈ ((List.range b.code.length).map (sbErr b.code f.regs f.slots)).take k, e = 0) (fun k => b.code.length - k) 0 (by simp) (by (exact wkA)) ?_
 rintro k ⟨hk, hz⟩ N hN
 (simp (maxSteps := 1000000) [])
 ((first | refine Xc (fun h2 => ?_) (fun h2 => ?_) | refine Xo (fun h2 => ?_) (fun h2 => ?_)) <;> (try simp only [Xz, Xy] at h2))
 ·have hkl : k < b.code.length := by simpa using h2
  have hb : b.code[k]? = some b.code[k] := by simp [hkl]
  have hr : (List.range b.code.length)[k]? = some k := by simp [hkl]
  have hw := Jtml (k := k) (by omega)
  have hle := Jtj1 b.code k (by omega)
  have hw2 := Jtml (k := runF (b.code.take k)) (by omega)
  have hsu := Jtj2 hkl
  obtain ⟨g1, g2⟩ := hok _ (List.getElem_mem hkl)
  (simp (maxSteps := 1000000) [h2, hb, Mach.row])
  (refine Jtt (Jtdu A b.code[k] f.regs f.slots g1 g2) (by rfl) (by rfl) ?_)
  (simp (maxSteps := 1000000) [])
  ((first | refine Xc (fun h3 => ?_) (fun h3 => ?_) | refine Xo (fun h3 => ?_) (fun h3 => ?_)) <;> (try simp only [Xz, Xy] at h3))
  ·(simp (maxSteps := 1000000) [h3])
   have e1 : sbErr b.code f.regs f.slots k = Jtkh b.code[k] f.regs f.slots := by unfold sbErr; rw [hb]; simp only; rw [if_pos h3]
   have e2 : sbErrs b.code f.regs f.slots = Jtkh b.code[k] f.regs f.slots := by rw [← e1]; exact Jt8d hz (by simp [hkl]) (by rw [e1]; exact h3)
   (first | exact hR _ _ FrA | exact hR _ _ FnA | exact hR _ _ (Xf (hq := by simp [AV.erase, AV.unview, Jtkf, e2, h3]; done)))
  ·(simp (maxSteps := 1000000) [h3, hw2])
   have e1 : sbErr b.code f.regs f.slots k = if 64 < runF (b.code.take (k + 1)) then 15 else 0 := by unfold sbErr; rw [hb]; simp only; rw [if_neg (by simpa using h3)]
   ((first | refine Xc (fun h4 => ?_) (fun h4 => ?_) | refine Xo (fun h4 => ?_) (fun h4 => ?_)) <;> (try simp only [Xz, Xy] at h4))
   ·have hrn : runF (b.code.take (k + 1)) = 0 := by rw [hsu]; unfold runN; rw [if_neg (by simpa using h4)]
    rw [hrn] at e1
    (simp (maxSteps := 1000000) [h4, hw])
    exact hN _ (k + 1) ⟨hkl, take_zero hz hr (by rw [e1]; rfl)⟩ (by rw [hrn]; (exact wkA)) (by omega)
   ·have hrn : runF (b.code.take (k + 1)) = runF (b.code.take k) + 1 := by rw [hsu]; unfold runN; rw [if_pos (by simpa using h4)]
    (simp (maxSteps := 1000000) [h4])
    ((first | refine Xc (fun h5 => ?_) (fun h5 => ?_) | refine Xo (fun h5 => ?_) (fun h5 => ?_)) <;> (try simp only [Xz, Xy] at h5))
    ·(simp (maxSteps := 1000000) [h5])
     rw [if_pos (by omega)] at e1
     have e2 : sbErrs b.code f.regs f.slots = 15 := by rw [← e1]; exact Jt8d hz (by simp [hkl]) (by rw [e1]; decide)
     (first | exact hR _ _ FrA | exact hR _ _ FnA | exact hR _ _ (Xf (hq := by simp [AV.erase, AV.unview, Jtkf, e2]; done)))
    ·(simp (maxSteps := 1000000) [h5, hw])
     rw [if_neg (by omega)] at e1
     exact hN _ (k + 1) ⟨hkl, take_zero hz hr e1⟩ (by rw [hrn]; (exact wkA)) (by omega)
 ·have hk' : k = b.code.length := by simp at h2; omega
  subst hk'
  have hfe : sbErrs b.code f.regs f.slots = 0 := Jt8b (by rw [List.take_of_length_le (by simp)] at hz; exact hz)
  (simp (maxSteps := 1000000) [])
  (refine Jtt (Jtk4 A b.term f.regs f.blocks.length) (by rfl) (by rfl) ?_)
  (simp (maxSteps := 1000000) [])
  (first | exact hR _ _ FrA | exact hR _ _ FnA | exact hR _ _ (Xf (hq := by simp [AV.erase, AV.unview, Jtkf, hfe]; done)))
theorem Jtds {P : Program} {p : Nums} (A : All P p) (f : MFunc) (h0 : f.blocks.length < 1000000000) (h1 : mcodeN f.blocks < 1000000000) (hok : ∀ b ∈ f.blocks, okM b) : Jt3o P p.machine_Check [f.av] [] fun o _ => o = .ret (AI (Jtkg f)) := by
 refine A.machine_Check.run rfl fun R hR => ?_
 (simp (maxSteps := 1000000) [Jtam, MFunc.av])
 ((first | refine Xc (fun a1 => ?_) (fun a1 => ?_) | refine Xo (fun a1 => ?_) (fun a1 => ?_)) <;> (try simp only [Xz, Xy] at a1))
 ·(simp (maxSteps := 1000000) [a1])
  have e : Jtkg f = 10 := by unfold Jtkg; repeat (first | rw [if_pos (by omega)] | rw [if_neg (by omega)])
  (first | exact hR _ _ FrA | exact hR _ _ FnA | exact hR _ _ (Xf (hq := by simp [AV.erase, AV.unview, e]; done)))
 (simp (maxSteps := 1000000) [a1])
 ((first | refine Xc (fun a2 => ?_) (fun a2 => ?_) | refine Xo (fun a2 => ?_) (fun a2 => ?_)) <;> (try simp only [Xz, Xy] at a2))
 ·(simp (maxSteps := 1000000) [a2])
  have e : Jtkg f = 10 := by unfold Jtkg; repeat (first | rw [if_pos (by omega)] | rw [if_neg (by omega)])
  (first | exact hR _ _ FrA | exact hR _ _ FnA | exact hR _ _ (Xf (hq := by simp [AV.erase, AV.unview, e]; done)))
 (simp (maxSteps := 1000000) [a2])
 ((first | refine Xc (fun a3 => ?_) (fun a3 => ?_) | refine Xo (fun a3 => ?_) (fun a3 => ?_)) <;> (try simp only [Xz, Xy] at a3))
 ·(simp (maxSteps := 1000000) [a3])
  have e : Jtkg f = 9 := by unfold Jtkg; repeat (first | rw [if_pos (by omega)] | rw [if_neg (by omega)])
  (first | exact hR _ _ FrA | exact hR _ _ FnA | exact hR _ _ (Xf (hq := by simp [AV.erase, AV.unview, e]; done)))
 (simp (maxSteps := 1000000) [a3])
 ((first | refine Xc (fun a4 => ?_) (fun a4 => ?_) | refine Xo (fun a4 => ?_) (fun a4 => ?_)) <;> (try simp only [Xz, Xy] at a4))
 ·(simp (maxSteps := 1000000) [a4])
  have e : Jtkg f = 6 := by unfold Jtkg; repeat (first | rw [if_pos (by omega)] | rw [if_neg (by omega)])
  (first | exact hR _ _ FrA | exact hR _ _ FnA | exact hR _ _ (Xf (hq := by simp [AV.erase, AV.unview, e]; done)))
 (simp (maxSteps := 1000000) [a4])
 ((first | refine Xc (fun a5 => ?_) (fun a5 => ?_) | refine Xo (fun a5 => ?_) (fun a5 => ?_)) <;> (try simp only [Xz, Xy] at a5))
 ·(simp (maxSteps := 1000000) [a5])
  have e : Jtkg f = 6 := by unfold Jtkg; repeat (first | rw [if_pos (by omega)] | rw [if_neg (by omega)])
  (first | exact hR _ _ FrA | exact hR _ _ FnA | exact hR _ _ (Xf (hq := by simp [AV.erase, AV.unview, e]; done)))
 (simp (maxSteps := 1000000) [a5])
 ((first | refine Xc (fun a6 => ?_) (fun a6 => ?_) | refine Xo (fun a6 => ?_) (fun a6 => ?_)) <;> (try simp only [Xz, Xy] at a6))
 ·(simp (maxSteps := 1000000) [a6])
  have e : Jtkg f = 14 := by unfold Jtkg; repeat (first | rw [if_pos (by omega)] | rw [if_neg (by omega)])
  (first | exact hR _ _ FrA | exact hR _ _ FnA | exact hR _ _ (Xf (hq := by simp [AV.erase, AV.unview, e]; done)))
 (simp (maxSteps := 1000000) [a6])
 ((first | refine Xc (fun a7 => ?_) (fun a7 => ?_) | refine Xo (fun a7 => ?_) (fun a7 => ?_)) <;> (try simp only [Xz, Xy] at a7))
 ·(simp (maxSteps := 1000000) [a7])
  have e : Jtkg f = 6 := by unfold Jtkg; repeat (first | rw [if_pos (by omega)] | rw [if_neg (by omega)])
  (first | exact hR _ _ FrA | exact hR _ _ FnA | exact hR _ _ (Xf (hq := by simp [AV.erase, AV.unview, e]; done)))
 (simp (maxSteps := 1000000) [a7])
 (refine Jtt (Jtdt A f h0 h1) (by rfl) (by rfl) ?_)
 (simp (maxSteps := 1000000) [])
 ((first | refine Xc (fun a8 => ?_) (fun a8 => ?_) | refine Xo (fun a8 => ?_) (fun a8 => ?_)) <;> (try simp only [Xz, Xy] at a8))
 ·(simp (maxSteps := 1000000) [a8])
  have e : Jtkg f = 6 := by unfold Jtkg; repeat (first | rw [if_pos (by omega)] | rw [if_neg (by omega)])
  (first | exact hR _ _ FrA | exact hR _ _ FnA | exact hR _ _ (Xf (hq := by simp [AV.erase, AV.unview, e]; done)))
 (simp (maxSteps := 1000000) [a8])
 have e : Jtkg f = Jt8a (f.blocks.map fun b => Jtkf b f.regs f.slots f.blocks.length) := by
  unfold Jtkg; repeat (first | rw [if_pos (by omega)] | rw [if_neg (by omega)])
 refine Jt9 (fun k : Nat => ⟨[(48, AI k), (47, AI f.blocks.length), (46, .d (.sl (f.blocks.map MBlock.row))), (1, .ptr 0 0)], [.mem [AI f.args, AI f.regs, AI f.slots, .d (.sl (f.blocks.map MBlock.row))]]⟩)
  (fun k => k ≤ f.blocks.length ∧ ∀ e ∈ (f.blocks.map fun b => Jtkf b f.regs f.slots f.blocks.length).take k, e = 0) (fun k => f.blocks.length - k) 0 (by simp) (by (exact wkA)) ?_
 rintro k ⟨hk, hz⟩ N hN
 (simp (maxSteps := 1000000) [])
 ((first | refine Xc (fun h2 => ?_) (fun h2 => ?_) | refine Xo (fun h2 => ?_) (fun h2 => ?_)) <;> (try simp only [Xz, Xy] at h2))
 ·have hkl : k < f.blocks.length := by simpa using h2
  have hb : f.blocks[k]? = some f.blocks[k] := by simp [hkl]
  have hw := Jtml (k := k) (by omega)
  have hbl : f.blocks[k].code.length < 1000000000 := by
   have h3 := Jtee hb
   have h4 := Jted f.blocks (k + 1)
   omega
  (simp (maxSteps := 1000000) [h2, hb, MBlock.row])
  (refine Jtt (Jtdv A f f.blocks[k] hbl (hok _ (List.getElem_mem hkl))) (by rfl) (by rfl) ?_)
  (simp (maxSteps := 1000000) [])
  ((first | refine Xc (fun h3 => ?_) (fun h3 => ?_) | refine Xo (fun h3 => ?_) (fun h3 => ?_)) <;> (try simp only [Xz, Xy] at h3))
  ·(simp (maxSteps := 1000000) [h3])
   have e2 : Jt8a (f.blocks.map fun b => Jtkf b f.regs f.slots f.blocks.length) = Jtkf f.blocks[k] f.regs f.slots f.blocks.length := Jt8d hz (by simp [hkl]) h3
   (first | exact hR _ _ FrA | exact hR _ _ FnA | exact hR _ _ (Xf (hq := by simp [AV.erase, AV.unview, e, e2]; done)))
  ·(simp (maxSteps := 1000000) [h3, hw])
   exact hN _ (k + 1) ⟨hkl, take_zero hz hb (by simpa using h3)⟩ (by (exact wkA)) (by omega)
 ·have hk' : k = f.blocks.length := by simp at h2; omega
  subst hk'
  have hfe : Jt8a (f.blocks.map fun b => Jtkf b f.regs f.slots f.blocks.length) = 0 := Jt8b (by rw [List.take_of_length_le (by simp)] at hz; exact hz)
  (simp (maxSteps := 1000000) [])
  (first | exact hR _ _ FrA | exact hR _ _ FnA | exact hR _ _ (Xf (hq := by simp [AV.erase, AV.unview, e, hfe]; done)))
end
theorem Jtg2 {l : List Pair} {vregs regs slots : Int} {k : Nat} (hz : ∀ e ∈ ((List.range l.length).map (pErr l vregs regs slots)).take k, e = 0) (hk : k < l.length) (h : pErr l vregs regs slots k ≠ 0) : pErrs l vregs regs slots = pErr l vregs regs slots k :=
 Jt8d hz (by simp [hk]) h
theorem ibeq (a b : Int) : (a == b) = decide (a = b) := by rw [Bool.eq_iff_iff]; simp
def entA (w : List Pair) (args : Int) : AV := .tup [((w.find? fun q => !initZ q args).getD ⟨0, 0⟩).av, AI (if (w.all fun q => initZ q args) = true then 0 else 23)]
def impA (out w : List Pair) : AV := .tup [((missP w out).getD ⟨0, 0⟩).av, AI (if (missP w out).isSome = true then 22 else 0)]
theorem ent_at {w : List Pair} {args : Int} {k : Nat} (h : k < w.length) (h1 : ∀ q ∈ w.take k, initZ q args = true) (h2 : initZ w[k] args = false) : w.find? (fun q => !initZ q args) = some w[k] ∧ (w.all fun q => initZ q args) = false := by
 constructor
 ·have e : w = w.take k ++ w[k] :: w.drop (k + 1) := by rw [List.getElem_cons_drop, List.take_append_drop]
  have e1 : (w.take k).find? (fun q => !initZ q args) = none := by
   rw [List.find?_eq_none]; intro q hq; simp [h1 q hq]
  have e2 : (w[k] :: w.drop (k + 1)).find? (fun q => !initZ q args) = some w[k] := by
   rw [List.find?_cons_of_pos (by simp [h2])]
  have e3 := congrArg (List.find? fun q => !initZ q args) e
  rw [List.find?_append, e1, e2] at e3
  exact e3
 ·rw [← Bool.not_eq_true, List.all_eq_true]
  intro h'
  have := h' w[k] (List.getElem_mem h)
  rw [h2] at this; cases this
section
theorem Jtk3 {P : Program} {p : Nums} (A : All P p) (t : Term) : Jt3o P p.source_Successors [t.av] [] fun o _ => o = .ret (.d (.sl ((succsZ t).map fun x => [I x]))) := by
 refine A.source_Successors.run rfl fun R hR => ?_
 (simp (maxSteps := 1000000) [Jtc2, Term.av])
 ((first | refine Xc (fun h1 => ?_) (fun h1 => ?_) | refine Xo (fun h1 => ?_) (fun h1 => ?_)) <;> (try simp only [Xz, Xy] at h1))
 ·(simp (maxSteps := 1000000) [h1])
  (first | exact hR _ _ FrA | exact hR _ _ FnA | exact hR _ _ (Xf (hq := by simp [AV.erase, AV.unview, succsZ, h1]; done)))
 (simp (maxSteps := 1000000) [h1])
 ((first | refine Xc (fun h2 => ?_) (fun h2 => ?_) | refine Xo (fun h2 => ?_) (fun h2 => ?_)) <;> (try simp only [Xz, Xy] at h2))
 ·(simp (maxSteps := 1000000) [h2])
  (first | exact hR _ _ FrA | exact hR _ _ FnA | exact hR _ _ (Xf (hq := by simp [AV.erase, AV.unview, succsZ, h1, h2]; done)))
 (simp (maxSteps := 1000000) [h2])
 exact hR _ _ (Jt3t .nils (.d (.sl ((succsZ t).map fun x => [I x]))) [] rfl (by simp only [succsZ, if_neg h1, if_neg h2, List.map_nil]; (exact wkA)) rfl)
theorem Jthe {P : Program} {p : Nums} (A : All P p) (t : Term) : Jt3o P p.ref07_Successors [t.av] [] fun o _ => o = .ret (.d (.sl ((succsZ t).map fun x => [I x]))) := by
 refine A.ref07_Successors.run rfl fun R hR => ?_
 (simp (maxSteps := 1000000) [Jtbk, Term.av])
 ((first | refine Xc (fun h1 => ?_) (fun h1 => ?_) | refine Xo (fun h1 => ?_) (fun h1 => ?_)) <;> (try simp only [Xz, Xy] at h1))
 ·(simp (maxSteps := 1000000) [h1])
  (first | exact hR _ _ FrA | exact hR _ _ FnA | exact hR _ _ (Xf (hq := by simp [AV.erase, AV.unview, succsZ, h1]; done)))
 (simp (maxSteps := 1000000) [h1])
 ((first | refine Xc (fun h2 => ?_) (fun h2 => ?_) | refine Xo (fun h2 => ?_) (fun h2 => ?_)) <;> (try simp only [Xz, Xy] at h2))
 ·(simp (maxSteps := 1000000) [h2])
  (first | exact hR _ _ FrA | exact hR _ _ FnA | exact hR _ _ (Xf (hq := by simp [AV.erase, AV.unview, succsZ, h1, h2]; done)))
 (simp (maxSteps := 1000000) [h2])
 exact hR _ _ (Jt3t .nils (.d (.sl ((succsZ t).map fun x => [I x]))) [] rfl (by simp only [succsZ, if_neg h1, if_neg h2, List.map_nil]; (exact wkA)) rfl)
theorem Jt7h {P : Program} {p : Nums} (A : All P p) (q : Pair) (args : Int) (h0 : 0 ≤ q.l) (h1 : q.l ≤ 9223372036854775807) (h2 : 0 ≤ q.v) (h3 : q.v ≤ 1000000000000000) : Jt3o P p.edge_Initial [q.av, AI args] [] fun o _ => o = .ret (AB (initZ q args)) := by
 have em : q.l.tmod 2 = q.l % 2 := Int.tmod_eq_emod_of_nonneg h0
 have ed : q.l.tdiv 2 = q.l / 2 := Int.tdiv_eq_ediv_of_nonneg h0
 refine A.edge_Initial.run rfl fun R hR => ?_
 (simp (maxSteps := 1000000) [Jtab, Pair.av])
 ((first | refine Xc (fun h4 => ?_) (fun h4 => ?_) | refine Xo (fun h4 => ?_) (fun h4 => ?_)) <;> (try simp only [Xz, Xy] at h4))
 ·(simp (maxSteps := 1000000) [h4])
  (refine Jtt (Jtdi A q.v (by omega) (by omega)) (by rfl) (by rfl) ?_)
  (simp (maxSteps := 1000000) [])
  have e : initZ q args = decide (q.l = 2 * q.v + 1) := by
   unfold initZ; rw [if_pos h4, em, ed, Bool.eq_iff_iff]; simp; omega
  (first | exact hR _ _ FrA | exact hR _ _ FnA | exact hR _ _ (Xf (hq := by simp [AV.erase, AV.unview, e, ibeq]; done)))
 ·(simp (maxSteps := 1000000) [h4])
  (refine Jtt (Jtdg A q.l) (by rfl) (by rfl) ?_)
  (simp (maxSteps := 1000000) [])
  ((first | refine Xc (fun h5 => ?_) (fun h5 => ?_) | refine Xo (fun h5 => ?_) (fun h5 => ?_)) <;> (try simp only [Xz, Xy] at h5))
  ·(simp (maxSteps := 1000000) [h5])
   have e : initZ q args = true := by unfold initZ; rw [if_neg h4]; simp [h5]
   (first | exact hR _ _ FrA | exact hR _ _ FnA | exact hR _ _ (Xf (hq := by simp [AV.erase, AV.unview, e]; done)))
  ·(simp (maxSteps := 1000000) [h5])
   (refine Jtt (Jtdf A q.l (by omega) (by omega)) (by rfl) (by rfl) ?_)
   (simp (maxSteps := 1000000) [])
   have e : initZ q args = decide (args ≤ q.l.tdiv 2) := by unfold initZ; rw [if_neg h4]; simp [h5]
   (first | exact hR _ _ FrA | exact hR _ _ FnA | exact hR _ _ (Xf (hq := by simp [AV.erase, AV.unview, e]; done)))
theorem Jt7f {P : Program} {p : Nums} (A : All P p) (w : List Pair) (args : Int) (h0 : w.length < 1000000) (hw : ∀ q ∈ w, 0 ≤ q.l ∧ q.l ≤ 9223372036854775807 ∧ 0 ≤ q.v ∧ q.v ≤ 1000000000000000) : Jt3o P p.edge_Entry [.d (pairsD w), AI args] [] fun o _ => o = .ret (entA w args) := by
 refine A.edge_Entry.run rfl fun R hR => ?_
 (simp (maxSteps := 1000000) [Jta9, pairsD])
 refine Jt9 (fun k : Nat => ⟨[(10, AI k), (9, AI w.length), (8, .d (.sl (w.map Pair.row))), (5, AI 0), (4, .ptr 0 0), (1, AI args)], [.mem [AI 0, AI 0]]⟩) (fun k => k ≤ w.length ∧ ∀ q ∈ w.take k, initZ q args = true) (fun k => w.length - k) 0 (by simp) (by (exact wkA)) ?_
 rintro k ⟨hk, hz⟩ N hN
 (simp (maxSteps := 1000000) [])
 ((first | refine Xc (fun h2 => ?_) (fun h2 => ?_) | refine Xo (fun h2 => ?_) (fun h2 => ?_)) <;> (try simp only [Xz, Xy] at h2))
 ·have hkl : k < w.length := by simpa using h2
  have hb : w[k]? = some w[k] := by simp
  have hw1 := Jtml (k := k) (by omega)
  obtain ⟨g1, g2, g3, g4⟩ := hw w[k] (List.getElem_mem hkl)
  (simp (maxSteps := 1000000) [h2, hb, Pair.row])
  (refine Jtt (Jt7h A w[k] args g1 g2 g3 g4) (by rfl) (by rfl) ?_)
  (simp (maxSteps := 1000000) [])
  ((first | refine Xc (fun h3 => ?_) (fun h3 => ?_) | refine Xo (fun h3 => ?_) (fun h3 => ?_)) <;> (try simp only [Xz, Xy] at h3))
  ·(simp (maxSteps := 1000000) [h3])
   obtain ⟨e1, e2⟩ := ent_at hkl hz (by simpa using h3)
   (first | exact hR _ _ FrA | exact hR _ _ FnA | exact hR _ _ (Xf (hq := by simp [AV.erase, AV.unview, entA, e1, e2, Pair.av]; done)))
  ·(simp (maxSteps := 1000000) [h3, hw1])
   refine hN _ (k + 1) ⟨hkl, ?_⟩ (by (exact wkA)) (by omega)
   intro q hq
   rw [List.take_add_one, hb] at hq
   rcases List.mem_append.1 hq with hq | hq
   ·exact hz q hq
   ·simp at hq; subst hq; simpa using h3
 ·have hk' : k = w.length := by simp at h2; omega
  subst hk'
  rw [List.take_length] at hz
  have e1 : (w.all fun q => initZ q args) = true := by rw [List.all_eq_true]; exact hz
  have e2 : w.find? (fun q => !initZ q args) = none := by rw [List.find?_eq_none]; intro q hq; simp [hz q hq]
  (simp (maxSteps := 1000000) [])
  (first | exact hR _ _ FrA | exact hR _ _ FnA | exact hR _ _ (Xf (hq := by simp [AV.erase, AV.unview, entA, e1, e2, Pair.av]; done)))
theorem Jt7g {P : Program} {p : Nums} (A : All P p) (out w : List Pair) (h0 : out.length < 1000000) (h1 : w.length < 1000000) (ho : Srt out) (hw : Srt w) : Jt3o P p.edge_Implies [.d (pairsD out), .d (pairsD w)] [] fun o _ => o = .ret (impA out w) := by
 refine A.edge_Implies.run rfl fun R hR => ?_
 (simp (maxSteps := 1000000) [Jtaa])
 (refine Jtt (Jtgk A w out h1 h0 hw ho) (by rfl) (by rfl) ?_)
 (simp (maxSteps := 1000000) [missA, Pair.av])
 ((first | refine Xc (fun h2 => ?_) (fun h2 => ?_) | refine Xo (fun h2 => ?_) (fun h2 => ?_)) <;> (try simp only [Xz, Xy] at h2))
 ·(simp (maxSteps := 1000000) [h2])
  (first | exact hR _ _ FrA | exact hR _ _ FnA | exact hR _ _ (Xf (hq := by simp [AV.erase, AV.unview, impA, h2, Pair.av]; done)))
 ·(simp (maxSteps := 1000000) [h2])
  have e : missP w out = none := by simpa using h2
  (first | exact hR _ _ FrA | exact hR _ _ FnA | exact hR _ _ (Xf (hq := by simp [AV.erase, AV.unview, impA, e, Pair.av]; done)))
end
theorem Jtg1 {l : List Pair} {k : Nat} (hk : k < l.length) (vregs regs slots : Int) : pErr l vregs regs slots k = if l[k].v < 0 ∨ vregs ≤ l[k].v then 9 else if rngZ l[k].l regs slots = false then 10 else if 0 < k ∧ (match l[k - 1]? with | some q0 => lessP q0 l[k] | none => true) = false then 13 else 0 := by
 unfold pErr; rw [List.getElem?_eq_getElem hk]; try rfl
section
theorem Jt7j {P : Program} {p : Nums} (A : All P p) (l : List Pair) (vregs regs slots : Int) (h0 : l.length < 1000000000) (hok : ∀ q ∈ l, okZ q.l) : Jt3o P p.edge_pairs [.d (pairsD l), AI vregs, AI regs, AI slots] [] fun o _ => o = .ret (AI (pErrs l vregs regs slots)) := by
 refine A.edge_pairs.run rfl fun R hR => ?_
 (simp (maxSteps := 1000000) [Jtad, pairsD])
 refine Jt9 (fun k : Nat => ⟨[(13, AI k), (12, AI l.length), (11, .d (.sl (l.map Pair.row))), (0, .d (.sl (l.map Pair.row))), (1, AI vregs), (2, AI regs), (3, AI slots)], []⟩)
  (fun k => k ≤ l.length ∧ ∀ e ∈ ((List.range l.length).map (pErr l vregs regs slots)).take k, e = 0) (fun k => l.length - k) 0 (by simp) (by (exact wkA)) ?_
 rintro k ⟨hk, hz⟩ N hN
 (simp (maxSteps := 1000000) [])
 ((first | refine Xc (fun h2 => ?_) (fun h2 => ?_) | refine Xo (fun h2 => ?_) (fun h2 => ?_)) <;> (try simp only [Xz, Xy] at h2))
 ·have hkl : k < l.length := by simpa using h2
  have hb : l[k]? = some l[k] := by simp
  have hr : (List.range l.length)[k]? = some k := by simp [hkl]
  have hw := Jtml (k := k) (by omega)
  obtain ⟨g1, g2⟩ := hok _ (List.getElem_mem hkl)
  have hv := Jtg1 hkl vregs regs slots
  (simp (maxSteps := 1000000) [h2, hb, Pair.row])
  ((first | refine Xc (fun h3 => ?_) (fun h3 => ?_) | refine Xo (fun h3 => ?_) (fun h3 => ?_)) <;> (try simp only [Xz, Xy] at h3))
  ·(simp (maxSteps := 1000000) [h3])
   rw [if_pos (.inl h3)] at hv
   have e := Jtg2 hz hkl (by rw [hv]; decide)
   (first | exact hR _ _ FrA | exact hR _ _ FnA | exact hR _ _ (Xf (hq := by simp [AV.erase, AV.unview, e, hv]; done)))
  (simp (maxSteps := 1000000) [h3])
  ((first | refine Xc (fun h4 => ?_) (fun h4 => ?_) | refine Xo (fun h4 => ?_) (fun h4 => ?_)) <;> (try simp only [Xz, Xy] at h4))
  ·(simp (maxSteps := 1000000) [h4])
   rw [if_pos (.inr h4)] at hv
   have e := Jtg2 hz hkl (by rw [hv]; decide)
   (first | exact hR _ _ FrA | exact hR _ _ FnA | exact hR _ _ (Xf (hq := by simp [AV.erase, AV.unview, e, hv]; done)))
  (simp (maxSteps := 1000000) [h4])
  rw [if_neg (by omega)] at hv
  (refine Jtt (Jtde A l[k].l regs slots g1 g2) (by rfl) (by rfl) ?_)
  (simp (maxSteps := 1000000) [])
  ((first | refine Xc (fun h5 => ?_) (fun h5 => ?_) | refine Xo (fun h5 => ?_) (fun h5 => ?_)) <;> (try simp only [Xz, Xy] at h5))
  ·(simp (maxSteps := 1000000) [h5])
   rw [if_pos h5] at hv
   have e := Jtg2 hz hkl (by rw [hv]; decide)
   (first | exact hR _ _ FrA | exact hR _ _ FnA | exact hR _ _ (Xf (hq := by simp [AV.erase, AV.unview, e, hv]; done)))
  rw [if_neg (by simp [h5])] at hv
  (simp (maxSteps := 1000000) [h5])
  ((first | refine Xc (fun h6 => ?_) (fun h6 => ?_) | refine Xo (fun h6 => ?_) (fun h6 => ?_)) <;> (try simp only [Xz, Xy] at h6))
  ·obtain ⟨lo, hlo⟩ : ∃ x, x = k - 1 := ⟨_, rfl⟩
   have hk0 : 0 < k := by omega
   have hll : lo < l.length := by omega
   have hbl : l[lo]? = some l[lo] := by simp
   have hwl : IntKind.i64.wrap ((k : Int) - 1) = (lo : Int) := by
    have e1 : (k : Int) - 1 = (lo : Int) := by omega
    rw [e1]; exact wrapN (by omega)
   rw [← hlo, hbl] at hv
   simp only [hk0, true_and] at hv
   have c := Jtgh A l[lo] l[k]
   obtain ⟨b, hbe⟩ : ∃ b, b = lessP l[lo] l[k] := ⟨_, rfl⟩
   rw [← hbe] at hv c
   (simp (maxSteps := 1000000) [h6, hwl, hbl, Pair.row])
   (refine Jtt c (by rfl) (by rfl) ?_)
   (simp (maxSteps := 1000000) [])
   ((first | refine Xc (fun h7 => ?_) (fun h7 => ?_) | refine Xo (fun h7 => ?_) (fun h7 => ?_)) <;> (try simp only [Xz, Xy] at h7))
   ·(simp (maxSteps := 1000000) [h7])
    rw [if_pos h7] at hv
    have e := Jtg2 hz hkl (by rw [hv]; decide)
    (first | exact hR _ _ FrA | exact hR _ _ FnA | exact hR _ _ (Xf (hq := by simp [AV.erase, AV.unview, e, hv]; done)))
   ·rw [if_neg (by simp [h7])] at hv
    (simp (maxSteps := 1000000) [h7, hw])
    exact hN _ (k + 1) ⟨hkl, take_zero hz hr hv⟩ (by (exact wkA)) (by omega)
  ·rw [if_neg (by omega)] at hv
   (simp (maxSteps := 1000000) [h6, hw])
   exact hN _ (k + 1) ⟨hkl, take_zero hz hr hv⟩ (by (exact wkA)) (by omega)
 ·have hk' : k = l.length := by simp at h2; omega
  subst hk'
  have hfe : pErrs l vregs regs slots = 0 := Jt8b (by rw [List.take_of_length_le (by simp)] at hz; exact hz)
  (simp (maxSteps := 1000000) [])
  (first | exact hR _ _ FrA | exact hR _ _ FnA | exact hR _ _ (Xf (hq := by simp [AV.erase, AV.unview, hfe]; done)))
theorem Jt7i {P : Program} {p : Nums} (A : All P p) (w : List (List Pair)) (blocks vregs regs slots : Int) (h0 : w.length < 1000000000) (h1 : wTotal w < 1000000000) (hl : ∀ l ∈ w, l.length < 1000000000) (hok : okW w) :
  Jt3o P p.edge_Valid [.d (witD w), AI blocks, AI vregs, AI regs, AI slots] [] fun o _ => o = .ret (AI (Jt7e w blocks vregs regs slots)) := by
 refine A.edge_Valid.run rfl fun R hR => ?_
 (simp (maxSteps := 1000000) [Jtac, witD])
 ((first | refine Xc (fun a1 => ?_) (fun a1 => ?_) | refine Xo (fun a1 => ?_) (fun a1 => ?_)) <;> (try simp only [Xz, Xy] at a1))
 ·(simp (maxSteps := 1000000) [a1])
  have e : Jt7e w blocks vregs regs slots = 14 := by unfold Jt7e; rw [if_pos a1]
  (first | exact hR _ _ FrA | exact hR _ _ FnA | exact hR _ _ (Xf (hq := by simp [AV.erase, AV.unview, e]; done)))
 (simp (maxSteps := 1000000) [a1])
 (refine Jtt (Jt7k A w h0 h1) (by rfl) (by rfl) ?_)
 (simp (maxSteps := 1000000) [])
 ((first | refine Xc (fun a2 => ?_) (fun a2 => ?_) | refine Xo (fun a2 => ?_) (fun a2 => ?_)) <;> (try simp only [Xz, Xy] at a2))
 ·(simp (maxSteps := 1000000) [a2])
  have e : Jt7e w blocks vregs regs slots = 6 := by unfold Jt7e; rw [if_neg (fun h => h a1), if_pos (by omega)]
  (first | exact hR _ _ FrA | exact hR _ _ FnA | exact hR _ _ (Xf (hq := by simp [AV.erase, AV.unview, e]; done)))
 (simp (maxSteps := 1000000) [a2])
 have e : Jt7e w blocks vregs regs slots = Jt8a (w.map fun l => pErrs l vregs regs slots) := by unfold Jt7e; rw [if_neg (fun h => h a1), if_neg (by omega)]
 refine Jt9 (fun k : Nat => ⟨[(25, AI k), (24, AI w.length), (23, .d (.sl (w.map fun l => [pairsD l]))), (2, AI vregs), (3, AI regs), (4, AI slots)], []⟩)
  (fun k => k ≤ w.length ∧ ∀ e ∈ (w.map fun l => pErrs l vregs regs slots).take k, e = 0) (fun k => w.length - k) 0 (by simp) (by (exact wkA)) ?_
 rintro k ⟨hk, hz⟩ N hN
 (simp (maxSteps := 1000000) [])
 ((first | refine Xc (fun h2 => ?_) (fun h2 => ?_) | refine Xo (fun h2 => ?_) (fun h2 => ?_)) <;> (try simp only [Xz, Xy] at h2))
 ·have hkl : k < w.length := by simpa using h2
  have hb : w[k]? = some w[k] := by simp
  have hw := Jtml (k := k) (by omega)
  (simp (maxSteps := 1000000) [h2, hb])
  (refine Jtt (Jt7j A w[k] vregs regs slots (hl _ (List.getElem_mem hkl)) (hok _ (List.getElem_mem hkl))) (by rfl) (by rfl) ?_)
  (simp (maxSteps := 1000000) [])
  ((first | refine Xc (fun h3 => ?_) (fun h3 => ?_) | refine Xo (fun h3 => ?_) (fun h3 => ?_)) <;> (try simp only [Xz, Xy] at h3))
  ·(simp (maxSteps := 1000000) [h3])
   have e2 : Jt8a (w.map fun l => pErrs l vregs regs slots) = pErrs w[k] vregs regs slots := Jt8d hz (by simp [hkl]) h3
   (first | exact hR _ _ FrA | exact hR _ _ FnA | exact hR _ _ (Xf (hq := by simp [AV.erase, AV.unview, e, e2]; done)))
  ·(simp (maxSteps := 1000000) [h3, hw])
   exact hN _ (k + 1) ⟨hkl, take_zero hz hb (by simpa using h3)⟩ (by (exact wkA)) (by omega)
 ·have hk' : k = w.length := by simp at h2; omega
  subst hk'
  have hfe : Jt8a (w.map fun l => pErrs l vregs regs slots) = 0 := Jt8b (by rw [List.take_of_length_le (by simp)] at hz; exact hz)
  (simp (maxSteps := 1000000) [])
  (first | exact hR _ _ FrA | exact hR _ _ FnA | exact hR _ _ (Xf (hq := by simp [AV.erase, AV.unview, e, hfe]; done)))
theorem Jtho {P : Program} {p : Nums} (A : All P p) (w : List (List Pair)) (blocks vregs regs slots : Int) (h0 : w.length < 1000000000) (h1 : wTotal w < 1000000000) (hl : ∀ l ∈ w, l.length < 1000000000) (hok : okW w) :
  Jt3o P p.ref15_Valid [.d (witD w), AI blocks, AI vregs, AI regs, AI slots] [] fun o _ => o = .ret (AI (Jt7e w blocks vregs regs slots)) := by
 refine A.ref15_Valid.run rfl fun R hR => ?_
 (simp (maxSteps := 1000000) [Jtbu, witD])
 ((first | refine Xc (fun a1 => ?_) (fun a1 => ?_) | refine Xo (fun a1 => ?_) (fun a1 => ?_)) <;> (try simp only [Xz, Xy] at a1))
 ·(simp (maxSteps := 1000000) [a1])
  have e : Jt7e w blocks vregs regs slots = 14 := by unfold Jt7e; rw [if_pos a1]
  (first | exact hR _ _ FrA | exact hR _ _ FnA | exact hR _ _ (Xf (hq := by simp [AV.erase, AV.unview, e]; done)))
 (simp (maxSteps := 1000000) [a1])
 refine Jt9 (fun k : Nat => ⟨[(12, AI k), (11, AI (wTotal (w.take k))), (0, .d (.sl (w.map fun l => [pairsD l]))), (2, AI vregs), (3, AI regs), (4, AI slots)], []⟩) (fun k => k ≤ w.length ∧ wTotal (w.take k) ≤ 1048576) (fun k => w.length - k) 0 (by simp [wTotal]) (by (exact wkA)) ?_
 rintro k ⟨hk, ht⟩ N hN
 (simp (maxSteps := 1000000) [])
 ((first | refine Xc (fun h2 => ?_) (fun h2 => ?_) | refine Xo (fun h2 => ?_) (fun h2 => ?_)) <;> (try simp only [Xz, Xy] at h2))
 ·have hkl : k < w.length := by simpa using h2
  have hb : w[k]? = some w[k] := by simp [hkl]
  have hw := Jtml (k := k) (by omega)
  have hs := Jtm7 hb
  have hle := Jtm6 w (k + 1)
  have hw2 := Jtmk (a := wTotal (w.take k)) (b := w[k].length) (by omega)
  rw [← hs] at hw2
  (simp (maxSteps := 1000000) [h2, hb, pairsD, hw2])
  ((first | refine Xc (fun h3 => ?_) (fun h3 => ?_) | refine Xo (fun h3 => ?_) (fun h3 => ?_)) <;> (try simp only [Xz, Xy] at h3))
  ·(simp (maxSteps := 1000000) [h3])
   have e : Jt7e w blocks vregs regs slots = 6 := by unfold Jt7e; rw [if_neg (fun h => h a1), if_pos (by omega)]
   (first | exact hR _ _ FrA | exact hR _ _ FnA | exact hR _ _ (Xf (hq := by simp [AV.erase, AV.unview, e]; done)))
  ·(simp (maxSteps := 1000000) [h3, hw])
   exact hN _ (k + 1) ⟨hkl, by omega⟩ (by (exact wkA)) (by omega)
 have hk' : k = w.length := by simp at h2; omega
 subst hk'
 rw [List.take_length] at ht
 (simp (maxSteps := 1000000) [])
 have e : Jt7e w blocks vregs regs slots = Jt8a (w.map fun l => pErrs l vregs regs slots) := by unfold Jt7e; rw [if_neg (fun h => h a1), if_neg (by omega)]
 refine Jt9 (fun k : Nat => ⟨[(13, AI k), (0, .d (.sl (w.map fun l => [pairsD l]))), (2, AI vregs), (3, AI regs), (4, AI slots)], []⟩)
  (fun k => k ≤ w.length ∧ ∀ e ∈ (w.map fun l => pErrs l vregs regs slots).take k, e = 0) (fun k => w.length - k) 0 (by simp) (by (exact wkA)) ?_
 rintro k ⟨hk, hz⟩ N hN
 (simp (maxSteps := 1000000) [])
 ((first | refine Xc (fun h2 => ?_) (fun h2 => ?_) | refine Xo (fun h2 => ?_) (fun h2 => ?_)) <;> (try simp only [Xz, Xy] at h2))
 ·have hkl : k < w.length := by simpa using h2
  have hb : w[k]? = some w[k] := by simp
  have hw := Jtml (k := k) (by omega)
  obtain ⟨l, hle⟩ : ∃ l, l = w[k] := ⟨_, rfl⟩
  have hll : l.length < 1000000000 := by rw [hle]; exact hl _ (List.getElem_mem hkl)
  have hokl : ∀ q ∈ l, okZ q.l := by rw [hle]; exact hok _ (List.getElem_mem hkl)
  have hbad : pErrs l vregs regs slots ≠ 0 → Jt8a (w.map fun l => pErrs l vregs regs slots) = pErrs l vregs regs slots := fun h3 => by
   rw [hle] at h3 ⊢; exact Jt8d hz (by simp [hkl]) h3
  rw [← hle] at hb
  (simp (maxSteps := 1000000) [h2])
  refine Jt9 (fun j : Nat => ⟨[(14, AI j), (13, AI k), (0, .d (.sl (w.map fun l => [pairsD l]))), (2, AI vregs), (3, AI regs), (4, AI slots)], []⟩)
   (fun j => j ≤ l.length ∧ ∀ e ∈ ((List.range l.length).map (pErr l vregs regs slots)).take j, e = 0) (fun j => l.length - j) 0 (by simp) (by (exact wkA)) ?_
  rintro j ⟨hj, hy⟩ N' hN'
  (simp (maxSteps := 1000000) [hb, pairsD])
  ((first | refine Xc (fun h3 => ?_) (fun h3 => ?_) | refine Xo (fun h3 => ?_) (fun h3 => ?_)) <;> (try simp only [Xz, Xy] at h3))
  ·have hjl : j < l.length := by simpa using h3
   have hbj : l[j]? = some l[j] := by simp
   have hr : (List.range l.length)[j]? = some j := by simp [hjl]
   have hwj := Jtml (k := j) (by omega)
   obtain ⟨g1, g2⟩ := hokl _ (List.getElem_mem hjl)
   have hv := Jtg1 hjl vregs regs slots
   (simp (maxSteps := 1000000) [h3, hb, hbj, Pair.row, pairsD])
   ((first | refine Xc (fun h4 => ?_) (fun h4 => ?_) | refine Xo (fun h4 => ?_) (fun h4 => ?_)) <;> (try simp only [Xz, Xy] at h4))
   ·(simp (maxSteps := 1000000) [h4])
    rw [if_pos (.inl h4)] at hv
    have e2 := Jtg2 hy hjl (by rw [hv]; decide)
    have e3 := hbad (by rw [e2, hv]; decide)
    (first | exact hR _ _ FrA | exact hR _ _ FnA | exact hR _ _ (Xf (hq := by simp [AV.erase, AV.unview, e, e3, e2, hv]; done)))
   (simp (maxSteps := 1000000) [h4])
   ((first | refine Xc (fun h5 => ?_) (fun h5 => ?_) | refine Xo (fun h5 => ?_) (fun h5 => ?_)) <;> (try simp only [Xz, Xy] at h5))
   ·(simp (maxSteps := 1000000) [h5])
    rw [if_pos (.inr h5)] at hv
    have e2 := Jtg2 hy hjl (by rw [hv]; decide)
    have e3 := hbad (by rw [e2, hv]; decide)
    (first | exact hR _ _ FrA | exact hR _ _ FnA | exact hR _ _ (Xf (hq := by simp [AV.erase, AV.unview, e, e3, e2, hv]; done)))
   (simp (maxSteps := 1000000) [h5])
   rw [if_neg (by omega)] at hv
   (refine Jtt (Jth6 A l[j].l regs slots g1 g2) (by rfl) (by rfl) ?_)
   (simp (maxSteps := 1000000) [])
   ((first | refine Xc (fun h6 => ?_) (fun h6 => ?_) | refine Xo (fun h6 => ?_) (fun h6 => ?_)) <;> (try simp only [Xz, Xy] at h6))
   ·(simp (maxSteps := 1000000) [h6])
    rw [if_pos h6] at hv
    have e2 := Jtg2 hy hjl (by rw [hv]; decide)
    have e3 := hbad (by rw [e2, hv]; decide)
    (first | exact hR _ _ FrA | exact hR _ _ FnA | exact hR _ _ (Xf (hq := by simp [AV.erase, AV.unview, e, e3, e2, hv]; done)))
   rw [if_neg (by simp [h6])] at hv
   (simp (maxSteps := 1000000) [h6])
   ((first | refine Xc (fun h7 => ?_) (fun h7 => ?_) | refine Xo (fun h7 => ?_) (fun h7 => ?_)) <;> (try simp only [Xz, Xy] at h7))
   ·obtain ⟨lo, hlo⟩ : ∃ x, x = j - 1 := ⟨_, rfl⟩
    have hk0 : 0 < j := by omega
    have hlol : lo < l.length := by omega
    have hbl : l[lo]? = some l[lo] := by simp
    have hwl : IntKind.i64.wrap ((j : Int) - 1) = (lo : Int) := by
     have e1 : (j : Int) - 1 = (lo : Int) := by omega
     rw [e1]; exact wrapN (by omega)
    rw [← hlo, hbl] at hv
    simp only [hk0, true_and] at hv
    have c := Jthm A l[lo] l[j]
    obtain ⟨b, hbe⟩ : ∃ b, b = lessP l[lo] l[j] := ⟨_, rfl⟩
    rw [← hbe] at hv c
    (simp (maxSteps := 1000000) [h7, hwl, hb, hbl, Pair.row, pairsD])
    (refine Jtt c (by rfl) (by rfl) ?_)
    (simp (maxSteps := 1000000) [])
    ((first | refine Xc (fun h8 => ?_) (fun h8 => ?_) | refine Xo (fun h8 => ?_) (fun h8 => ?_)) <;> (try simp only [Xz, Xy] at h8))
    ·(simp (maxSteps := 1000000) [h8])
     rw [if_pos h8] at hv
     have e2 := Jtg2 hy hjl (by rw [hv]; decide)
     have e3 := hbad (by rw [e2, hv]; decide)
     (first | exact hR _ _ FrA | exact hR _ _ FnA | exact hR _ _ (Xf (hq := by simp [AV.erase, AV.unview, e, e3, e2, hv]; done)))
    ·rw [if_neg (by simp [h8])] at hv
     (simp (maxSteps := 1000000) [h8, hwj])
     exact hN' _ (j + 1) ⟨hjl, take_zero hy hr hv⟩ (by (exact wkA)) (by omega)
   ·rw [if_neg (by omega)] at hv
    (simp (maxSteps := 1000000) [h7, hwj])
    exact hN' _ (j + 1) ⟨hjl, take_zero hy hr hv⟩ (by (exact wkA)) (by omega)
  ·have hj' : j = l.length := by simp at h3; omega
   subst hj'
   have hfe : pErrs l vregs regs slots = 0 := Jt8b (by rw [List.take_of_length_le (by simp)] at hy; exact hy)
   (simp (maxSteps := 1000000) [hw])
   exact hN _ (k + 1) ⟨hkl, take_zero hz hb hfe⟩ (by (exact wkA)) (by omega)
 ·have hk' : k = w.length := by simp at h2; omega
  subst hk'
  have hfe : Jt8a (w.map fun l => pErrs l vregs regs slots) = 0 := Jt8b (by rw [List.take_of_length_le (by simp)] at hz; exact hz)
  (simp (maxSteps := 1000000) [])
  (first | exact hR _ _ FrA | exact hR _ _ FnA | exact hR _ _ (Xf (hq := by simp [AV.erase, AV.unview, e, hfe]; done)))
end
theorem Jter (i : Mach) (regs slots : Int) : Jtkh i regs slots = Jthw i regs slots := by
 have hk : (knownZ i.op && i.op != 2) = false ↔ (i.op < 1 ∨ 18 < i.op ∨ i.op = 2) := by
  rw [← Bool.not_eq_true, Bool.and_eq_true]
  simp only [knownZ, decide_eq_true_eq, bne_iff_ne, ne_eq]
  omega
 unfold Jtkh Jthw
 by_cases h1 : i.op < 1 ∨ 18 < i.op ∨ i.op = 2
 ·rw [if_pos (hk.2 h1), if_pos h1]
 ·rw [if_neg (fun h => h1 (hk.1 h)), if_neg h1]
  by_cases h2 : i.op = 18
  ·rw [if_pos h2, if_pos h2]
   have hc : clearM i = false ↔ (i.d ≠ 0 ∨ i.a ≠ 0 ∨ i.b ≠ 0 ∨ i.imm ≠ 0) := by
    rw [← Bool.not_eq_true]; unfold clearM; simp only [Bool.and_eq_true, beq_iff_eq]; omega
   by_cases hA : rngZ i.dst regs slots = false ∨ rngZ i.src regs slots = false ∨ (i.dst.tmod 2 = 1 ∧ i.src.tmod 2 = 1)
   ·have e : movZ i regs slots = 10 := by
     unfold movZ
     rw [if_pos]
     rcases hA with h | h | h
     ·exact .inr (.inl h)
     ·exact .inr (.inr h)
     ·exact .inl h
    rw [e, if_pos (by decide), if_pos hA]
   ·have e : movZ i regs slots = 0 := by
     unfold movZ
     rw [if_neg]
     rintro (h | h | h)
     ·exact hA (.inr (.inr h))
     ·exact hA (.inl h)
     ·exact hA (.inr (.inl h))
    rw [e, if_neg (by decide), if_neg hA]
    by_cases hd : clearM i = false
    ·rw [if_pos hd, if_pos (hc.1 hd)]
    ·rw [if_neg hd, if_neg (fun h => hd (hc.2 h))]
  ·rw [if_neg h2, if_neg h2, Jtck]
   have hc : clearO i = false ↔ (i.dst ≠ 0 ∨ i.src ≠ 0) := by
    rw [← Bool.not_eq_true]; unfold clearO; simp only [Bool.and_eq_true, beq_iff_eq]; omega
   show (if Jtht i.instr regs ≠ 0 then Jtht i.instr regs else if clearO i = false then 12 else 0) = if Jtht i.instr regs = 0 ∧ (i.dst ≠ 0 ∨ i.src ≠ 0) then 12 else Jtht i.instr regs
   by_cases he : Jtht i.instr regs = 0
   ·rw [if_neg (fun h => h he)]
    by_cases hd : clearO i = false
    ·rw [if_pos hd, if_pos ⟨he, hc.1 hd⟩]
    ·rw [if_neg hd, if_neg (fun h => hd (hc.2 h.2)), he]
   ·rw [if_pos he, if_neg (fun h => he h.1)]
theorem sb_eq (code : List Mach) (regs slots : Int) (k : Nat) : sbErr code regs slots k = mErr code regs slots k := by
 unfold sbErr mErr
 cases hk : code[k]? with
 | none => rfl
 | some x =>
  have hlt := (List.getElem?_eq_some_iff.1 hk).1
  simp only [Jter]
  by_cases h : 64 < runF (code.take (k + 1))
  ·rw [if_pos h, if_pos ((Jtf8 hlt).1 h)]
  ·rw [if_neg h, if_neg (fun h' => h ((Jtf8 hlt).2 h'))]
theorem Jtea (f : MFunc) : Jtkg f = Jthv f := by
 have e : ∀ b : MBlock, Jtkf b f.regs f.slots f.blocks.length = Jthu b f.regs f.slots f.blocks.length := by
  intro b
  have e1 : sbErr b.code f.regs f.slots = mErr b.code f.regs f.slots := funext (sb_eq _ _ _)
  unfold Jtkf Jthu sbErrs mErrs
  rw [e1, Jtlj]
 simp only [Jtkg, Jthv, e]
structure okCert (c : Cert) : Prop where
 s0 : c.S.blocks.length < 1000000000
 s1 : codeN c.S.blocks < 1000000000
 t0 : c.T.blocks.length < 1000000000
 t1 : mcodeN c.T.blocks < 1000000000
 t2 : ∀ b ∈ c.T.blocks, okM b
 w0 : c.W.length < 1000000000
 w1 : wTotal c.W < 1000000000
 w2 : okW c.W
theorem okCert.w3 {c : Cert} (h : okCert c) : ∀ l ∈ c.W, l.length < 1000000000 := by
 intro l hl
 obtain ⟨k, hk⟩ := List.getElem?_of_mem hl
 have h1 := Jtm7 hk
 have h2 := Jtm6 c.W (k + 1)
 have := h.w1
 omega
section
theorem Jthq {P : Program} {p : Nums} (A : All P p) (c : Cert) (ok : okCert c) : Jt3o P p.ref16_Valid [c.av] [] fun o _ => o = .ret (AI (validZ c)) := by
 obtain ⟨T, hT⟩ : ∃ T, T = validZ c := ⟨_, rfl⟩
 refine A.ref16_Valid.run rfl fun R hR => ?_
 rw [← hT] at hR
 unfold validZ at hT
 have c1 := Jtha A c.S ok.s0 ok.s1
 have c2 := Jthh A c.T ok.t0 ok.t1 ok.t2
 have c3 := Jtho A c.W c.S.blocks.length c.S.regs c.T.regs c.T.slots ok.w0 ok.w1 ok.w3 ok.w2
 obtain ⟨e1, he1⟩ : ∃ e, e = Jths c.S := ⟨_, rfl⟩
 obtain ⟨e2, he2⟩ : ∃ e, e = Jthv c.T := ⟨_, rfl⟩
 obtain ⟨e3, he3⟩ : ∃ e, e = Jt7e c.W c.S.blocks.length c.S.regs c.T.regs c.T.slots := ⟨_, rfl⟩
 rw [← he1] at hT c1
 rw [← he2] at hT c2
 rw [← he3] at hT c3
 (simp (maxSteps := 1000000) [Jtbw, Cert.av])
 (refine Jtt c1 (by rfl) (by rfl) ?_)
 (simp (maxSteps := 1000000) [])
 ((first | refine Xc (fun h1 => ?_) (fun h1 => ?_) | refine Xo (fun h1 => ?_) (fun h1 => ?_)) <;> (try simp only [Xz, Xy] at h1))
 ·rw [if_pos h1] at hT
  (simp (maxSteps := 1000000) [h1])
  (first | exact hR _ _ FrA | exact hR _ _ FnA | exact hR _ _ (Xf (hq := by simp [AV.erase, AV.unview, hT]; done)))
 rw [if_neg (by simpa using h1)] at hT
 (simp (maxSteps := 1000000) [h1])
 (refine Jtt c2 (by rfl) (by rfl) ?_)
 (simp (maxSteps := 1000000) [])
 ((first | refine Xc (fun h2 => ?_) (fun h2 => ?_) | refine Xo (fun h2 => ?_) (fun h2 => ?_)) <;> (try simp only [Xz, Xy] at h2))
 ·rw [if_pos h2] at hT
  (simp (maxSteps := 1000000) [h2])
  (first | exact hR _ _ FrA | exact hR _ _ FnA | exact hR _ _ (Xf (hq := by simp [AV.erase, AV.unview, hT]; done)))
 rw [if_neg (by simpa using h2)] at hT
 (simp (maxSteps := 1000000) [h2])
 ((first | refine Xc (fun h3 => ?_) (fun h3 => ?_) | refine Xo (fun h3 => ?_) (fun h3 => ?_)) <;> (try simp only [Xz, Xy] at h3))
 ·rw [if_pos (.inl (by omega))] at hT
  (simp (maxSteps := 1000000) [h3])
  (first | exact hR _ _ FrA | exact hR _ _ FnA | exact hR _ _ (Xf (hq := by simp [AV.erase, AV.unview, hT]; done)))
 (simp (maxSteps := 1000000) [h3])
 ((first | refine Xc (fun h4 => ?_) (fun h4 => ?_) | refine Xo (fun h4 => ?_) (fun h4 => ?_)) <;> (try simp only [Xz, Xy] at h4))
 ·rw [if_pos (.inr h4)] at hT
  (simp (maxSteps := 1000000) [h4])
  (first | exact hR _ _ FrA | exact hR _ _ FnA | exact hR _ _ (Xf (hq := by simp [AV.erase, AV.unview, hT]; done)))
 rw [if_neg (by omega)] at hT
 (simp (maxSteps := 1000000) [h4])
 (refine Jtt c3 (by rfl) (by rfl) ?_)
 (simp (maxSteps := 1000000) [])
 (first | exact hR _ _ FrA | exact hR _ _ FnA | exact hR _ _ (Xf (hq := by simp [AV.erase, AV.unview, hT]; done)))
theorem Jt6d {P : Program} {p : Nums} (A : All P p) (c : Cert) (ok : okCert c) : Jt3o P p.checker_Valid [c.av] [] fun o _ => o = .ret (AI (validZ c)) := by
 obtain ⟨T, hT⟩ : ∃ T, T = validZ c := ⟨_, rfl⟩
 refine A.checker_Valid.run rfl fun R hR => ?_
 rw [← hT] at hR
 unfold validZ at hT
 have c1 := Jtk0 A c.S ok.s0 ok.s1
 have c2 := Jtds A c.T ok.t0 ok.t1 ok.t2
 have c3 := Jt7i A c.W c.S.blocks.length c.S.regs c.T.regs c.T.slots ok.w0 ok.w1 ok.w3 ok.w2
 rw [Jt6a] at c1
 rw [Jtea] at c2
 obtain ⟨e1, he1⟩ : ∃ e, e = Jths c.S := ⟨_, rfl⟩
 obtain ⟨e2, he2⟩ : ∃ e, e = Jthv c.T := ⟨_, rfl⟩
 obtain ⟨e3, he3⟩ : ∃ e, e = Jt7e c.W c.S.blocks.length c.S.regs c.T.regs c.T.slots := ⟨_, rfl⟩
 rw [← he1] at hT c1
 rw [← he2] at hT c2
 rw [← he3] at hT c3
 (simp (maxSteps := 1000000) [Jta7, Cert.av])
 (refine Jtt c1 (by rfl) (by rfl) ?_)
 (simp (maxSteps := 1000000) [])
 ((first | refine Xc (fun h1 => ?_) (fun h1 => ?_) | refine Xo (fun h1 => ?_) (fun h1 => ?_)) <;> (try simp only [Xz, Xy] at h1))
 ·rw [if_pos h1] at hT
  (simp (maxSteps := 1000000) [h1])
  (first | exact hR _ _ FrA | exact hR _ _ FnA | exact hR _ _ (Xf (hq := by simp [AV.erase, AV.unview, hT]; done)))
 rw [if_neg (by simpa using h1)] at hT
 (simp (maxSteps := 1000000) [h1])
 (refine Jtt c2 (by rfl) (by rfl) ?_)
 (simp (maxSteps := 1000000) [])
 ((first | refine Xc (fun h2 => ?_) (fun h2 => ?_) | refine Xo (fun h2 => ?_) (fun h2 => ?_)) <;> (try simp only [Xz, Xy] at h2))
 ·rw [if_pos h2] at hT
  (simp (maxSteps := 1000000) [h2])
  (first | exact hR _ _ FrA | exact hR _ _ FnA | exact hR _ _ (Xf (hq := by simp [AV.erase, AV.unview, hT]; done)))
 rw [if_neg (by simpa using h2)] at hT
 (simp (maxSteps := 1000000) [h2])
 ((first | refine Xc (fun h3 => ?_) (fun h3 => ?_) | refine Xo (fun h3 => ?_) (fun h3 => ?_)) <;> (try simp only [Xz, Xy] at h3))
 ·rw [if_pos (.inl (by omega))] at hT
  (simp (maxSteps := 1000000) [h3])
  (first | exact hR _ _ FrA | exact hR _ _ FnA | exact hR _ _ (Xf (hq := by simp [AV.erase, AV.unview, hT]; done)))
 (simp (maxSteps := 1000000) [h3])
 ((first | refine Xc (fun h4 => ?_) (fun h4 => ?_) | refine Xo (fun h4 => ?_) (fun h4 => ?_)) <;> (try simp only [Xz, Xy] at h4))
 ·rw [if_pos (.inr h4)] at hT
  (simp (maxSteps := 1000000) [h4])
  (first | exact hR _ _ FrA | exact hR _ _ FnA | exact hR _ _ (Xf (hq := by simp [AV.erase, AV.unview, hT]; done)))
 rw [if_neg (by omega)] at hT
 (simp (maxSteps := 1000000) [h4])
 (refine Jtt c3 (by rfl) (by rfl) ?_)
 (simp (maxSteps := 1000000) [])
 (first | exact hR _ _ FrA | exact hR _ _ FnA | exact hR _ _ (Xf (hq := by simp [AV.erase, AV.unview, hT]; done)))
end
def VS : List Int := (List.range 61).map fun n : Nat => (n : Int)
def LS : List Int := (List.range 122).map fun n : Nat => (n : Int)
theorem mem_VS {x : Int} (h0 : 0 ≤ x) (h1 : x ≤ 60) : x ∈ VS := List.mem_map.2 ⟨x.toNat, List.mem_range.2 (by omega), by omega⟩
theorem mem_LS {x : Int} (h0 : 0 ≤ x) (h1 : x ≤ 121) : x ∈ LS := List.mem_map.2 ⟨x.toNat, List.mem_range.2 (by omega), by omega⟩
theorem VL_few : VS.length * LS.length < 100000 := by decide
theorem src_ok {f : Func} (h : Jths f = 0) : 0 ≤ f.args ∧ f.args ≤ f.regs ∧ 0 < f.blocks.length ∧ ∀ b ∈ f.blocks, (∀ i ∈ b.code, Jtht i f.regs = 0) ∧ Jthz b.term f.regs f.blocks.length = 0 := by
 unfold Jths at h
 split at h
 ·cases h
 split at h
 ·cases h
 split at h
 ·cases h
 split at h
 ·cases h
 refine ⟨by omega, by omega, by omega, fun b hb => ?_⟩
 have h3 := Jt8c h _ (List.mem_map_of_mem hb)
 simp only [Jthr] at h3
 split at h3
 ·rename_i h5; exact absurd h3 h5
 ·rename_i h5
  exact ⟨fun i hi => Jt8c (es := b.code.map (Jtht · f.regs)) (by simpa using h5) _ (List.mem_map_of_mem hi), h3⟩
theorem Jtcj {i : Instr} {regs : Int} (h : Jtht i regs = 0) (h0 : 0 ≤ regs) (h1 : regs ≤ 60) : i.d ∈ VS := by
 unfold Jtht at h
 split at h
 ·cases h
 split at h
 ·cases h
 rename_i h9
 split at h
 ·cases h
 rename_i h12
 cases hu : usesD i.op with
 | true =>
  simp only [bad9, hu, Bool.true_and, Bool.or_eq_true, not_or, Bool.not_eq_true', inZ] at h9
  have := h9.1.1
  simp at this
  exact mem_VS this.1 (by omega)
 | false =>
  simp only [bad12, hu, Bool.not_false, Bool.true_and, Bool.or_eq_true, not_or, bne_iff_ne, ne_eq, Decidable.not_not] at h12
  rw [h12.1.1.1]; exact mem_VS (by omega) (by omega)
theorem Jtlk {t : Term} {regs blocks : Int} (h : Jthz t regs blocks = 0) : ∀ x ∈ succsZ t, 0 ≤ x ∧ x < blocks := by
 unfold Jthz at h
 unfold succsZ
 intro x hx
 split at h
 ·rename_i k1
  rw [if_pos k1] at hx
  simp only [List.mem_singleton] at hx
  split at h
  ·cases h
  ·rename_i k2
   subst hx; simpa [inZ] using k2
 ·rename_i k1
  rw [if_neg k1] at hx
  split at h
  ·rename_i k3
   rw [if_pos k3] at hx
   split at h
   ·cases h
   split at h
   ·cases h
   rename_i k4 k5
   simp only [not_or] at k5
   simp only [List.mem_cons, List.not_mem_nil, or_false] at hx
   rcases hx with rfl | rfl
   ·simpa [inZ] using k5.1
   ·simpa [inZ] using k5.2
  ·rename_i k3
   rw [if_neg k3] at hx; simp at hx
theorem mac_ok {f : MFunc} (h : Jthv f = 0) : 0 ≤ f.args ∧ f.args ≤ f.slots ∧ 0 ≤ f.regs ∧ ∀ b ∈ f.blocks, ∀ x ∈ b.code, Jthw x f.regs f.slots = 0 := by
 unfold Jthv at h
 split at h
 ·cases h
 split at h
 ·cases h
 split at h
 ·cases h
 split at h
 ·cases h
 split at h
 ·cases h
 refine ⟨by omega, by omega, by omega, fun b hb x hx => ?_⟩
 have h3 := Jt8c h _ (List.mem_map_of_mem hb)
 unfold Jthu at h3
 split at h3
 ·rename_i h5; exact absurd h3 h5
 ·rename_i h5
  have h6 : mErrs b.code f.regs f.slots = 0 := by simpa using h5
  obtain ⟨k, hk⟩ := List.getElem?_of_mem hx
  have hlt := (List.getElem?_eq_some_iff.1 hk).1
  have h7 := Jt8c h6 (mErr b.code f.regs f.slots k) (List.mem_map.2 ⟨k, List.mem_range.2 hlt, rfl⟩)
  unfold mErr at h7
  rw [hk] at h7
  simp only at h7
  split at h7
  ·rename_i h8; exact absurd h7 h8
  ·rename_i h8; simpa using h8
theorem rng_ok {l r s : Int} (h : rngZ l r s = true) (hr : r ≤ 60) (hs : s ≤ 60) : 0 ≤ l ∧ l ≤ 121 := by
 unfold rngZ at h
 split at h
 ·rename_i h1
  simp only [Bool.and_eq_true, decide_eq_true_eq] at h
  have := Int.tdiv_eq_ediv_of_nonneg (b := 2) h.1
  omega
 ·rename_i h1
  simp only [Bool.and_eq_true, decide_eq_true_eq] at h
  have := Int.tdiv_eq_ediv_of_nonneg (b := 2) h.1
  omega
theorem Jtes {x : Mach} {regs slots : Int} (h : Jthw x regs slots = 0) (h0 : 0 ≤ regs) (h1 : regs ≤ 60) (h2 : slots ≤ 60) : x.dst ∈ LS ∧ regZ x.d ∈ LS := by
 unfold Jthw at h
 have hz : ∀ d : Int, 0 ≤ d → d ≤ 60 → regZ d ∈ LS := by
  intro d k0 k1
  have : regZ d = 2 * d := by unfold regZ; exact wrap_i64 (by omega) (by omega)
  rw [this]; exact mem_LS (by omega) (by omega)
 split at h
 ·cases h
 split at h
 ·split at h
  ·cases h
  rename_i k1
  split at h
  ·cases h
  rename_i k2
  simp only [not_or, Bool.not_eq_false] at k1
  obtain ⟨g0, g1⟩ := rng_ok k1.1 h1 h2
  refine ⟨mem_LS g0 g1, ?_⟩
  have : x.d = 0 := by simp only [not_or, Decidable.not_not, ne_eq] at k2; exact k2.1
  rw [this]; exact hz 0 (by omega) (by omega)
 ·split at h
  ·cases h
  rename_i k1
  have e : x.dst = 0 := by
   rw [h] at k1
   simp only [true_and, not_or, ne_eq, Decidable.not_not] at k1
   exact k1.1
  have hd := Jtcj h h0 h1
  obtain ⟨n, hn, hd⟩ := List.mem_map.1 hd
  simp only at hd
  have := List.mem_range.1 hn
  refine ⟨by rw [e]; exact mem_LS (by omega) (by omega), hz _ (by omega) (by omega)⟩
theorem Jtg8 {l : List Pair} {vregs regs slots : Int} (h : pErrs l vregs regs slots = 0) (hv : vregs ≤ 60) (hr : regs ≤ 60) (hs : slots ≤ 60) : Srt l ∧ ∀ q ∈ l, 0 ≤ q.v ∧ q.v ≤ 60 ∧ 0 ≤ q.l ∧ q.l ≤ 121 := by
 have key : ∀ k (hk : k < l.length), 0 ≤ l[k].v ∧ l[k].v < vregs ∧ rngZ l[k].l regs slots = true ∧ (0 < k → ∀ q0, l[k - 1]? = some q0 → lessP q0 l[k] = true) := by
  intro k hk
  have h7 := Jt8c h (pErr l vregs regs slots k) (List.mem_map.2 ⟨k, List.mem_range.2 hk, rfl⟩)
  rw [Jtg1 hk] at h7
  split at h7
  ·cases h7
  rename_i a1
  split at h7
  ·cases h7
  rename_i a2
  refine ⟨by omega, by omega, by simpa using a2, fun h0 q0 hq0 => ?_⟩
  rw [hq0] at h7
  cases hx : lessP q0 l[k] with
  | true => rfl
  | false =>
   simp only [hx, h0, and_self, if_true] at h7
   cases h7
 refine ⟨Jtkk.2 fun k hk => ?_, fun q hq => ?_⟩
 ·exact (key (k + 1) hk).2.2.2 (by omega) l[k] (by simp)
 ·obtain ⟨k, hk⟩ := List.getElem?_of_mem hq
  obtain ⟨hlt, rfl⟩ := List.getElem?_eq_some_iff.1 hk
  obtain ⟨a1, a2, a3, _⟩ := key k hlt
  obtain ⟨a4, a5⟩ := rng_ok a3 hr hs
  exact ⟨a1, by omega, a4, a5⟩
structure Fit (c : Cert) : Prop where
 lenT : c.T.blocks.length = c.S.blocks.length
 lenW : c.W.length = c.S.blocks.length
 pos : 0 < c.S.blocks.length
 few : c.S.blocks.length ≤ 40
 w : ∀ l ∈ c.W, Srt l ∧ l.length ≤ 400 ∧ ∀ q ∈ l, 0 ≤ q.v ∧ q.v ≤ 60 ∧ 0 ≤ q.l ∧ q.l ≤ 121
 vl : ∀ b ∈ c.S.blocks, ∀ m ∈ c.T.blocks, VLOk VS LS b.code m.code
 cs : ∀ b ∈ c.S.blocks, b.code.length ≤ 100
 ct : ∀ m ∈ c.T.blocks, m.code.length ≤ 300
 to : ∀ b ∈ c.S.blocks, ∀ x ∈ succsZ b.term, 0 ≤ x ∧ x < c.S.blocks.length
 ars : 0 ≤ c.S.args ∧ c.S.args ≤ 60
theorem fit_of {c : Cert} (h : validZ c = 0) (hf : fewC c = true) : Fit c := by
 unfold validZ at h
 split at h
 ·rename_i g; exact absurd h g
 rename_i g1
 split at h
 ·rename_i g; exact absurd h g
 rename_i g2
 split at h
 ·cases h
 rename_i g3
 have v1 : Jths c.S = 0 := by simpa using g1
 have v2 : Jthv c.T = 0 := by simpa using g2
 unfold Jt7e at h
 split at h
 ·cases h
 rename_i g4
 split at h
 ·cases h
 rename_i g5
 simp only [fewC, few, fewM, fewW, Bool.and_eq_true, decide_eq_true_eq, List.all_eq_true] at hf
 obtain ⟨⟨⟨⟨⟨f1, f2⟩, f3⟩, f4⟩, ⟨⟨⟨⟨f5, f6⟩, f7⟩, f8⟩, f9⟩⟩, f10, f11⟩ := hf
 obtain ⟨s1, s2, s3, s4⟩ := src_ok v1
 obtain ⟨t1, t2, t3, t4⟩ := mac_ok v2
 exact {
  lenT := by omega
  lenW := by omega
  pos := s3
  few := f1
  w := fun l hl => by
   obtain ⟨p1, p2⟩ := Jtg8 (Jt8c h _ (List.mem_map_of_mem hl)) f2 f6 f7
   exact ⟨p1, f11 l hl, p2⟩
  vl := fun b hb m hm => ⟨fun i hi => Jtcj ((s4 b hb).1 i hi) (by omega) f2, fun x hx => Jtes (t4 m hm x hx) t3 f6 f7⟩
  cs := f3
  ct := f8
  to := fun b hb x hx => Jtlk (s4 b hb).2 x hx
  ars := ⟨s1, by omega⟩ }
structure Good (r : Res) : Prop where
 srt : Srt r.out
 len : r.out.length < 100000
 steps : r.steps ≤ 1000000000
 lg : r.largest < 100000
theorem Jt69 {V L : List Int} {b : Block} {m : MBlock} {l : List Pair} {most : Int} (hl : ∀ q ∈ l, q.v ∈ V ∧ q.l ∈ L) (hv : VLOk V L b.code m.code) (few : V.length * L.length < 100000) (hl0 : l.length < 100000)
  (hb0 : b.code.length ≤ 1000) (hm0 : m.code.length ≤ 1000) : Over V L (checkZ b m l most).out := by
 have hnil : Over V L [] := ⟨List.Pairwise.nil, fun q hq => by simp at hq⟩
 obtain ⟨a1, a2, a3⟩ := Jt4n b.code m.code
 unfold checkZ
 split
 ·exact hnil
 ·by_cases h2 : (if (alignZ b.code m.code).2.2 = 0 ∧ termsZ b.term m.term = false then 20 else (alignZ b.code m.code).2.2) ≠ 0
  ·simp only [if_pos h2]; exact hnil
  ·simp only [if_neg h2]
   have hover : Over V L (makeP l) := ⟨Jtkr l, fun q hq => hl q (Jtei.1 hq)⟩
   have hroom : Room V L ⟨makeP l, 0, l.length⟩ (0 + 1 + needRs (alignZ b.code m.code).1) := by
    refine ⟨hover, few, ?_, by simp only; omega⟩
    have h1 := Jtfd a1
    have h2 : (alignZ b.code m.code).1.length * (3 + m.code.length + b.code.length) ≤ 1001 * 2003 := Nat.mul_le_mul (by omega) (by omega)
    simp only
    omega
   have hr := Jtiz (most := most) hv hroom a1
   generalize runC most b m (alignZ b.code m.code).1 ⟨makeP l, 0, l.length⟩ = r at hr
   obtain ⟨t, e⟩ := r
   simp only
   split
   ·exact hr.over
   ·exact hnil
theorem Fit.good {c : Cert} (h : Fit c) {b : Block} {m : MBlock} {l : List Pair} (hb : b ∈ c.S.blocks) (hm : m ∈ c.T.blocks) (hl : l ∈ c.W) (most : Int) : Good (checkZ b m l most) := by
 obtain ⟨w1, w2, w3⟩ := h.w l hl
 have k1 : ∀ q ∈ l, q.v ∈ VS ∧ q.l ∈ LS := fun q hq => by
  obtain ⟨a1, a2, a3, a4⟩ := w3 q hq
  exact ⟨mem_VS a1 a2, mem_LS a3 a4⟩
 have c1 := h.cs b hb
 have c2 := h.ct m hm
 have o := Jt69 (most := most) k1 (h.vl b hb m hm) VL_few (by omega) (by omega) (by omega)
 obtain ⟨r1, r2⟩ := Jt68 (most := most) k1 (h.vl b hb m hm) VL_few (by omega) (by omega) (by omega)
 have bd := (Jt67 b m l most (Jte4 l)).1
 refine ⟨o.srt, Nat.lt_of_le_of_lt o.len VL_few, ?_, r1⟩
 have : (3 * m.code.length + b.code.length + 1) * ((checkZ b m l most).largest + 1) ≤ 1001 * 100000 := Nat.mul_le_mul (by omega) (by omega)
 omega
theorem fit_w0 {c : Cert} (h : Fit c) : c.W[0]? = some (w0 c) := by
 have := h.lenW; have := h.pos
 unfold w0
 rw [List.getElem?_eq_getElem (by omega)]; rfl
theorem Jt8f {c : Cert} (h : Fit c) : w0 c ∈ c.W := List.mem_of_getElem? (fit_w0 h)
theorem Jtf0 {w : List (List Pair)} {k : Nat} {l : List Pair} (h : w[k]? = some l) : mostW (w.take (k + 1)) = max (mostW (w.take k)) l.length := by
 unfold mostW
 rw [List.map_take, List.map_take]
 exact Jtez (by rw [List.getElem?_map, h]; rfl)
theorem Jtf2 {w : List (List Pair)} {n : Nat} (h : ∀ l ∈ w, l.length ≤ n) : mostW w ≤ n := by
 apply Nat.le_of_not_lt
 intro hlt
 obtain ⟨x, hx, hn⟩ := Jtey.1 hlt
 obtain ⟨l, hl, rfl⟩ := List.mem_map.1 hx
 have := h l hl
 omega
def begC (c : Cert) : Rep := { rep0 c with err := if ((w0 c).all fun q => initZ q c.S.args) = true then 0 else 23 }
section
theorem Jt6e {P : Program} {p : Nums} (A : All P p) (c : Cert) (h : Fit c) : Jt3o P p.checker_begin [c.av] [] fun o _ => o = .ret (begC c).av := by
 have hw0 := fit_w0 h
 obtain ⟨z1, z2, z3⟩ := h.w _ (Jt8f h)
 have hlenW := h.lenW
 have hfew := h.few
 have hen := Jt7f A (w0 c) c.S.args (by omega) (fun q hq => by obtain ⟨a1, a2, a3, a4⟩ := z3 q hq; exact ⟨by omega, by omega, by omega, by omega⟩)
 obtain ⟨er, her⟩ : ∃ e, e = (if ((w0 c).all fun q => initZ q c.S.args) = true then (0 : Int) else 23) := ⟨_, rfl⟩
 have hbg : begC c = ⟨er, 0, 0, 0, 0, 1 + (w0 c).length, mostW c.W⟩ := by rw [her]; rfl
 rw [hbg]
 unfold entA at hen
 rw [← her] at hen
 obtain ⟨pr, hpr⟩ : ∃ x, x = ((w0 c).find? fun q => !initZ q c.S.args).getD ⟨0, 0⟩ := ⟨_, rfl⟩
 rw [← hpr] at hen
 obtain ⟨wz, hwz⟩ : ∃ x, x = w0 c := ⟨_, rfl⟩
 rw [← hwz] at hen hw0 z2 ⊢
 obtain ⟨S, T, W⟩ := c
 obtain ⟨sa, sr, sb⟩ := S
 obtain ⟨ta, tr, ts, tb⟩ := T
 simp only at hen hw0 hlenW hfew h ⊢
 obtain ⟨sR, hsR⟩ : ∃ x, x = sb.map Block.row := ⟨_, rfl⟩
 obtain ⟨tR, htR⟩ : ∃ x, x = tb.map MBlock.row := ⟨_, rfl⟩
 refine A.checker_begin.run rfl fun R hR => ?_
 simp only [Cert.av, witD, ← hsR, ← htR]
 have w1 : IntKind.i64.wrap (1 + (wz.length : Int)) = ((1 + wz.length : Nat) : Int) := by rw [wrap_i64 (by omega) (by omega)]; omega
 (simp (maxSteps := 1000000) [Jta8, hw0, pairsD, w1])
 refine Jt9 (fun k : Nat => ⟨[(16, AI k), (15, AI W.length), (14, .d (.sl (W.map fun l => [pairsD l]))), (1, .ptr 0 0), (2, .ptr 1 0), (3, .ptr 2 0)],
  [.mem [AI sa, AI sr, .d (.sl sR), AI ta, AI tr, AI ts, .d (.sl tR), .d (.sl (W.map fun l => [pairsD l]))], .mem [AI 0, AI 0, AI 0, AI 0, AI 0, AI 0, AI 0], .mem [AI 0, AI 0, AI 0, AI 0, AI 0, AI ((1 + wz.length : Nat) : Int), AI (mostW (W.take k))]]⟩)
  (fun k => k ≤ W.length) (fun k => W.length - k) 0 (by simp) (by (exact wkA)) ?_
 intro k hk N hN
 (simp (maxSteps := 1000000) [])
 ((first | refine Xc (fun h2 => ?_) (fun h2 => ?_) | refine Xo (fun h2 => ?_) (fun h2 => ?_)) <;> (try simp only [Xz, Xy] at h2))
 ·have hkl : k < W.length := by simpa using h2
  have hb : W[k]? = some W[k] := by simp
  have hw := Jtml (k := k) (by omega)
  have hm := Jtf0 hb
  have emx : (if mostW (W.take k) < W[k].length then ((W[k].length : Nat) : Int) else ((mostW (W.take k) : Nat) : Int)) = ((mostW (W.take (k + 1)) : Nat) : Int) := by
   rw [hm]; split <;> omega
  (simp (maxSteps := 1000000) [h2, hb, pairsD, hw, emx])
  exact hN _ (k + 1) hkl (by (exact wkA)) (by omega)
 ·have hk' : k = W.length := by simp at h2; omega
  subst hk'
  (simp (maxSteps := 1000000) [hw0])
  (refine Jtt hen (by rfl) (by rfl) ?_)
  (simp (maxSteps := 1000000) [])
  (first | exact hR _ _ FrA | exact hR _ _ FnA | exact hR _ _ (Xf (hq := by simp [AV.erase, AV.unview, Rep.av, List.take_length]; done)))
end
end Go.AE
set_option maxRecDepth 4000
namespace Go.AE
open Go
structure RepOk (i : Nat) (r : Rep) : Prop where
 blocks : r.blocks ≤ i
 edges : r.edges ≤ 2 * i
 steps : r.steps ≤ 1000 + 2000000000 * i
 lg : r.largest < 100000
def edgeR (w : List (List Pair)) (out : List Pair) (to : Nat) (r : Rep) : Rep := { r with edges := r.edges + 1, steps := r.steps + 1 + out.length + ((w[to]?).getD []).length }
structure RepIn (i k : Nat) (r : Rep) : Prop where
 blocks : r.blocks ≤ i + 1
 edges : r.edges ≤ 2 * i + k
 steps : r.steps ≤ 1000 + 2000000000 * i + 1000000000 + 200000 * k
 lg : r.largest < 100000
theorem RepIn.out {i k : Nat} {r : Rep} (h : RepIn i k r) (hk : k ≤ 2) : RepOk (i + 1) r := ⟨h.blocks, by have := h.edges; omega, by have := h.steps; omega, h.lg⟩
theorem RepIn.edge {w : List (List Pair)} {out wt : List Pair} {i k to : Nat} {r : Rep} (h : RepIn i k r) (ho : out.length < 100000) (hw : w[to]? = some wt) (hwl : wt.length ≤ 400) : RepIn i (k + 1) (edgeR w out to r) := by
 have := h.blocks; have := h.edges; have := h.steps; have := h.lg
 refine ⟨by simpa [edgeR] using h.blocks, by simp only [edgeR]; omega, ?_, by simpa [edgeR] using h.lg⟩
 simp only [edgeR, hw, Option.getD_some]; omega
theorem Jtlb (t : Term) : (succsZ t).length ≤ 2 := by
 unfold succsZ; split
 ·simp
 ·split <;> simp
def Rep.cells (r : Rep) : List AV := [AI r.err, AI r.block, AI r.at_, AI r.blocks, AI r.edges, AI r.steps, AI r.largest]
theorem Jt7l (w : List (List Pair)) (out : List Pair) (i : Nat) (to : Nat) (ts : List Int) (k : Nat) (r : Rep) : edgesC w out i ((to : Int) :: ts) k r =
  if (missP ((w[to]?).getD []) out).isSome = true then ({ edgeR w out to r with err := 22, block := i, at_ := k }, true) else edgesC w out i ts (k + 1) (edgeR w out to r) := rfl
def blockR (x : Res) (r : Rep) : Rep := { r with blocks := r.blocks + 1, steps := r.steps + x.steps, largest := max r.largest x.largest }
theorem Jt5a {c : Cert} {i : Nat} {b : Block} {m : MBlock} {l : List Pair} (hb : c.S.blocks[i]? = some b) (hm : c.T.blocks[i]? = some m) (hl : c.W[i]? = some l) (r : Rep) : blockC c i r =
  if (checkZ b m l 1048576).err ≠ 0 then ({ blockR (checkZ b m l 1048576) r with err := (checkZ b m l 1048576).err, block := i, at_ := (checkZ b m l 1048576).at_ }, true)
  else edgesC c.W (checkZ b m l 1048576).out i (succsZ b.term) 0 (blockR (checkZ b m l 1048576) r) := by
 unfold blockC; rw [hb, hm, hl]; rfl
section
theorem Jt6c {P : Program} {p : Nums} (A : All P p) (S : SortOk P p) (C : ClosOk P p) (c : Cert) (ok : okCert c) (hf : fewC c = true) : Jt3o P p.checker_Check [c.av] [] fun o _ => o = .ret (Jtig c).av := by
 obtain ⟨T, hT⟩ : ∃ T, T = Jtig c := ⟨_, rfl⟩
 rw [← hT]
 unfold Jtig at hT
 have cv := Jt6d A c ok
 have cb := Jt6e A c
 have hfit := fun h => fit_of (c := c) h hf
 obtain ⟨v, hv⟩ : ∃ v, v = validZ c := ⟨_, rfl⟩
 rw [← hv] at cv hT hfit
 obtain ⟨sR, hsR⟩ : ∃ x, x = c.S.blocks.map Block.row := ⟨_, rfl⟩
 obtain ⟨tR, htR⟩ : ∃ x, x = c.T.blocks.map MBlock.row := ⟨_, rfl⟩
 obtain ⟨wR, hwR⟩ : ∃ x, x = c.W.map fun l => [pairsD l] := ⟨_, rfl⟩
 refine A.checker_Check.run rfl fun R hR => ?_
 simp only [Cert.av, witD, ← hsR, ← htR, ← hwR] at cv cb ⊢
 (simp (maxSteps := 1000000) [Jta6])
 (refine Jtt cv (by rfl) (by rfl) ?_)
 (simp (maxSteps := 1000000) [])
 ((first | refine Xc (fun h1 => ?_) (fun h1 => ?_) | refine Xo (fun h1 => ?_) (fun h1 => ?_)) <;> (try simp only [Xz, Xy] at h1))
 ·rw [if_pos h1] at hT
  (simp (maxSteps := 1000000) [h1])
  (first | exact hR _ _ FrA | exact hR _ _ FnA | exact hR _ _ (Xf (hq := by simp [AV.erase, AV.unview, hT, Rep.av]; done)))
 have h1' : v = 0 := by simpa using h1
 have h := hfit h1'
 rw [if_neg (by simpa using h1)] at hT
 (simp (maxSteps := 1000000) [h1])
 (refine Jtt (cb h) (by rfl) (by rfl) ?_)
 obtain ⟨r0, hr0⟩ : ∃ r, r = begC c := ⟨_, rfl⟩
 rw [← hr0]
 (simp (maxSteps := 1000000) [Rep.av])
 ((first | refine Xc (fun h2 => ?_) (fun h2 => ?_) | refine Xo (fun h2 => ?_) (fun h2 => ?_)) <;> (try simp only [Xz, Xy] at h2))
 ·have e : ((w0 c).all fun q => initZ q c.S.args) = false := by
   cases hx : (w0 c).all fun q => initZ q c.S.args with
   | false => rfl
   | true => exfalso; apply h2; rw [hr0]; simp only [begC, hx, if_true]
  have hT2 : T = r0 := by rw [hT, if_pos e, hr0]; simp only [begC, e]; rfl
  (simp (maxSteps := 1000000) [h2])
  (first | exact hR _ _ FrA | exact hR _ _ FnA | exact hR _ _ (Xf (hq := by simp [AV.erase, AV.unview, hT2, Rep.av]; done)))
 have e : ((w0 c).all fun q => initZ q c.S.args) = true := by
  cases hx : (w0 c).all fun q => initZ q c.S.args with
  | true => rfl
  | false => exfalso; rw [hr0] at h2; simp [begC, hx] at h2
 have hr0' : r0 = rep0 c := by rw [hr0]; unfold begC; rw [if_pos e]; rfl
 rw [if_neg (by simp [e]), ← hr0'] at hT
 have hsl : sR.length = c.S.blocks.length := by rw [hsR]; simp
 have htl : tR.length = c.S.blocks.length := by rw [htR]; simp [h.lenT]
 have hwl : wR.length = c.S.blocks.length := by rw [hwR]; simp [h.lenW]
 obtain ⟨z1, z2, z3⟩ := h.w _ (Jt8f h)
 have hrok : RepOk 0 r0 := by
  rw [hr0']
  have := Jtf2 (w := c.W) (n := 400) (fun l hl => (h.w l hl).2.1)
  exact ⟨Nat.le_refl _, Nat.le_refl _, by simp only [rep0]; omega, by simp only [rep0]; omega⟩
 have few := h.few
 (simp (maxSteps := 1000000) [hsl])
 obtain ⟨n, hn⟩ : ∃ n, n = c.S.blocks.length := ⟨_, rfl⟩
 rw [← hn] at hsl htl hwl hT few ⊢
 refine Jt9 (fun s : Nat × Rep => ⟨[(28, AI s.1), (27, AI n), (26, .d (.sl sR)), (1, .ptr 0 0), (2, .ptr 1 0), (4, .ptr 2 0)],
  [.mem [AI c.S.args, AI c.S.regs, .d (.sl sR), AI c.T.args, AI c.T.regs, AI c.T.slots, .d (.sl tR), .d (.sl wR)], .mem [AI 0, AI 0, AI 0, AI 0, AI 0, AI 0, AI 0], .mem [AI s.2.err, AI s.2.block, AI s.2.at_, AI s.2.blocks, AI s.2.edges, AI s.2.steps, AI s.2.largest]]⟩)
  (fun s => s.1 ≤ n ∧ RepOk s.1 s.2 ∧ T = Jt5j c (n - s.1) s.1 s.2) (fun s => n - s.1) (0, r0) ⟨by omega, hrok, hT⟩ (by (exact wkA)) ?_
 rintro ⟨i, r⟩ ⟨hi, hok, hTi⟩ N hN
 simp only at hi hok hTi hN
 (simp (maxSteps := 1000000) [])
 ((first | refine Xc (fun h3 => ?_) (fun h3 => ?_) | refine Xo (fun h3 => ?_) (fun h3 => ?_)) <;> (try simp only [Xz, Xy] at h3))
 ·have hil : i < n := by omega
  have hb : c.S.blocks[i]? = some c.S.blocks[i] := by simp
  have hm : c.T.blocks[i]? = some (c.T.blocks[i]'(by rw [h.lenT]; omega)) := by simp
  have hl : c.W[i]? = some (c.W[i]'(by rw [h.lenW]; omega)) := by simp
  obtain ⟨b, hbe⟩ : ∃ b, b = c.S.blocks[i] := ⟨_, rfl⟩
  obtain ⟨m, hme⟩ : ∃ m, m = c.T.blocks[i]'(by rw [h.lenT]; omega) := ⟨_, rfl⟩
  obtain ⟨l, hle⟩ : ∃ l, l = c.W[i]'(by rw [h.lenW]; omega) := ⟨_, rfl⟩
  rw [← hbe] at hb
  rw [← hme] at hm
  rw [← hle] at hl
  have mb := List.mem_of_getElem? hb
  have mm := List.mem_of_getElem? hm
  have ml := List.mem_of_getElem? hl
  have hbR : sR[i]? = some b.row := by rw [hsR, List.getElem?_map, hb]; rfl
  have hmR : tR[i]? = some m.row := by rw [htR, List.getElem?_map, hm]; rfl
  have hlR : wR[i]? = some [pairsD l] := by rw [hwR, List.getElem?_map, hl]; rfl
  have gd := h.good mb mm ml 1048576
  obtain ⟨l1, l2, l3⟩ := h.w l ml
  have ck := Jt5c A S C (V := VS) (L := LS) b m l 1048576 (fun q hq => by obtain ⟨a1, a2, a3, a4⟩ := l3 q hq; exact ⟨mem_VS a1 a2, mem_LS a3 a4⟩) (h.vl b mb m mm) VL_few (by omega)
   (by have := h.cs b mb; omega) (by have := h.ct m mm; omega)
  have hbc := Jt5a hb hm hl r
  obtain ⟨x, hx⟩ : ∃ x, x = checkZ b m l 1048576 := ⟨_, rfl⟩
  rw [← hx] at ck gd hbc
  have hTs : T = match blockC c i r with | (r, true) => r | (r, false) => Jt5j c (n - (i + 1)) (i + 1) r := by
   rw [hTi, show n - i = (n - (i + 1)) + 1 by omega]; rfl
  rw [hbc] at hTs
  have hw := Jtml (k := i) (by omega)
  have k1 := hok.blocks
  have k2 := hok.edges
  have k3 := hok.steps
  have k4 := hok.lg
  have g1 := gd.len
  have g2 := gd.steps
  have g3 := gd.lg
  obtain ⟨r1, hr1⟩ : ∃ r1, r1 = blockR x r := ⟨_, rfl⟩
  rw [← hr1] at hTs
  have q1 : IntKind.i64.wrap ((r.blocks : Int) + 1) = (r1.blocks : Int) := by rw [hr1]; exact Jtml (by omega)
  have q2 : IntKind.i64.wrap ((r.steps : Int) + (x.steps : Int)) = (r1.steps : Int) := by rw [hr1]; exact Jtmk (by omega)
  have q3 : (if r.largest < x.largest then ((x.largest : Nat) : Int) else ((r.largest : Nat) : Int)) = (r1.largest : Int) := by rw [hr1]; simp only [blockR]; split <;> omega
  have q4 : r1.err = r.err := by rw [hr1]; rfl
  have q5 : r1.block = r.block := by rw [hr1]; rfl
  have q6 : r1.at_ = r.at_ := by rw [hr1]; rfl
  have q7 : r1.edges = r.edges := by rw [hr1]; rfl
  have rin : RepIn i 0 r1 := by
   rw [hr1]
   exact ⟨by simp only [blockR]; omega, by simp only [blockR]; omega, by simp only [blockR]; omega, by simp only [blockR]; omega⟩
  obtain ⟨oR, hoR⟩ : ∃ y, y = x.out.map Pair.row := ⟨_, rfl⟩
  have hol : oR.length = x.out.length := by rw [hoR]; simp
  simp only [pairsD] at hlR
  simp only [Res.av, pairsD, ← hoR] at ck
  (simp (maxSteps := 1000000) [h3, hbR, hmR, hlR, Block.row, MBlock.row])
  (refine Jtt ck (by rfl) (by rfl) ?_)
  (simp (maxSteps := 1000000) [q1, q2, q3])
  ((first | refine Xc (fun h4 => ?_) (fun h4 => ?_) | refine Xo (fun h4 => ?_) (fun h4 => ?_)) <;> (try simp only [Xz, Xy] at h4))
  ·rw [if_pos h4] at hTs
   simp only at hTs
   (simp (maxSteps := 1000000) [])
   (first | exact hR _ _ FrA | exact hR _ _ FnA | exact hR _ _ (Xf (hq := by simp [AV.erase, AV.unview, hTs, Rep.av, q4, q5, q6, q7]; done)))
  rw [if_neg (by simpa using h4)] at hTs
  have cs := Jtk3 A b.term
  have hto := h.to b mb
  have htl2 := Jtlb b.term
  obtain ⟨ts, hts⟩ : ∃ t, t = succsZ b.term := ⟨_, rfl⟩
  rw [← hts] at cs hTs hto htl2
  rw [← hn] at hto
  (simp (maxSteps := 1000000) [])
  (refine Jtt cs (by rfl) (by rfl) ?_)
  (simp (maxSteps := 1000000) [])
  refine Jt9 (fun s : Nat × Rep => ⟨[(77, AI s.1), (76, AI ts.length), (75, .d (.sl (ts.map fun x => [I x]))), (5, AI i), (7, .ptr 4 0), (28, AI i), (27, AI n), (26, .d (.sl sR)), (1, .ptr 0 0), (2, .ptr 1 0), (4, .ptr 2 0)],
   [.mem [AI c.S.args, AI c.S.regs, .d (.sl sR), AI c.T.args, AI c.T.regs, AI c.T.slots, .d (.sl tR), .d (.sl wR)], .mem [AI 0, AI 0, AI 0, AI 0, AI 0, AI 0, AI 0], .mem [AI s.2.err, AI s.2.block, AI s.2.at_, AI s.2.blocks, AI s.2.edges, AI s.2.steps, AI s.2.largest], .dead, .mem [.d (.sl oR), AI x.err, AI x.at_, AI x.steps, AI x.largest]]⟩)
   (fun s => s.1 ≤ ts.length ∧ RepIn i s.1 s.2 ∧ T = match edgesC c.W x.out i (ts.drop s.1) s.1 s.2 with | (r, true) => r | (r, false) => Jt5j c (n - (i + 1)) (i + 1) r) (fun s => ts.length - s.1) (0, r1) ⟨by omega, rin, hTs⟩ (by simp only [q4, q5, q6, q7]; (exact wkA)) ?_
  rintro ⟨k, t⟩ ⟨hk, hin, hTk⟩ N' hN'
  simp only at hk hin hTk hN'
  (simp (maxSteps := 1000000) [])
  ((first | refine Xc (fun h5 => ?_) (fun h5 => ?_) | refine Xo (fun h5 => ?_) (fun h5 => ?_)) <;> (try simp only [Xz, Xy] at h5))
  ·have hkl : k < ts.length := by simpa using h5
   have ht : ts[k]? = some ts[k] := by simp
   obtain ⟨d1, d2⟩ := hto _ (List.getElem_mem hkl)
   have hdrop : ts.drop k = ts[k] :: ts.drop (k + 1) := List.drop_eq_getElem_cons hkl
   obtain ⟨tn, htn⟩ : ∃ tn : Nat, ts[k] = (tn : Int) := ⟨ts[k].toNat, by omega⟩
   rw [htn] at ht hdrop d2
   have hWt : c.W[tn]? = some (c.W[tn]'(by rw [h.lenW]; omega)) := by simp
   obtain ⟨wt, hwt⟩ : ∃ w, w = c.W[tn]'(by rw [h.lenW]; omega) := ⟨_, rfl⟩
   rw [← hwt] at hWt
   obtain ⟨y1, y2, y3⟩ := h.w wt (List.mem_of_getElem? hWt)
   have hwtR : wR[tn]? = some [.sl (wt.map Pair.row)] := by rw [hwR, List.getElem?_map, hWt]; rfl
   have hgd : (c.W[tn]?).getD [] = wt := by rw [hWt]; rfl
   have ci := Jt7g A x.out wt (by omega) (by omega) gd.srt y1
   rw [hdrop, Jt7l, hgd] at hTk
   have hin2 := hin.edge (out := x.out) (by omega) hWt y2
   obtain ⟨t2, ht2⟩ : ∃ t2, t2 = edgeR c.W x.out tn t := ⟨_, rfl⟩
   rw [← ht2] at hTk hin2
   obtain ⟨b1, hb1⟩ : ∃ b, b = (missP wt x.out).isSome := ⟨_, rfl⟩
   obtain ⟨pr, hpr⟩ : ∃ y, y = (missP wt x.out).getD ⟨0, 0⟩ := ⟨_, rfl⟩
   obtain ⟨mv, hmv⟩ : ∃ y : Int, y = if b1 = true then 22 else 0 := ⟨_, rfl⟩
   simp only [impA, ← hb1, ← hpr, ← hmv, pairsD, ← hoR, Pair.av] at ci
   rw [← hb1] at hTk
   obtain ⟨s1, hs1⟩ : ∃ y, y = t.steps + 1 := ⟨_, rfl⟩
   obtain ⟨s2, hs2⟩ : ∃ y, y = s1 + x.out.length := ⟨_, rfl⟩
   have j1 := hin.edges
   have j2 := hin.steps
   have p1 : IntKind.i64.wrap ((t.edges : Int) + 1) = (t2.edges : Int) := by rw [ht2]; exact Jtml (by omega)
   have p2 : IntKind.i64.wrap ((t.steps : Int) + 1) = (s1 : Int) := by rw [hs1]; exact Jtml (by omega)
   have p3 : IntKind.i64.wrap ((s1 : Int) + (x.out.length : Int)) = (s2 : Int) := by rw [hs2]; exact Jtmk (by omega)
   have p4 : IntKind.i64.wrap ((s2 : Int) + (wt.length : Int)) = (t2.steps : Int) := by rw [ht2]; simp only [edgeR, hgd]; rw [hs2, hs1]; exact Jtmk (by omega)
   have p5 : t2.err = t.err := by rw [ht2]; rfl
   have p6 : t2.block = t.block := by rw [ht2]; rfl
   have p7 : t2.at_ = t.at_ := by rw [ht2]; rfl
   have p8 : t2.blocks = t.blocks := by rw [ht2]; rfl
   have p9 : t2.largest = t.largest := by rw [ht2]; rfl
   have hwk := Jtml (k := k) (by omega)
   (simp (maxSteps := 1000000) [h5, ht, htn, hwtR, hol, p1, p2, p3, p4])
   (refine Jtt ci (by rfl) (by rfl) ?_)
   (simp (maxSteps := 1000000) [])
   ((first | refine Xc (fun h6 => ?_) (fun h6 => ?_) | refine Xo (fun h6 => ?_) (fun h6 => ?_)) <;> (try simp only [Xz, Xy] at h6))
   ·have hb1t : b1 = true := by
     cases b1 with
     | true => rfl
     | false => exfalso; apply h6; rw [hmv]; rfl
    rw [hb1t] at hmv hTk
    simp only [if_true] at hmv hTk
    rw [hmv]
    (simp (maxSteps := 1000000) [])
    (first | exact hR _ _ FrA | exact hR _ _ FnA | exact hR _ _ (Xf (hq := by simp [AV.erase, AV.unview, hTk, Rep.av, p5, p6, p7, p8, p9]; done)))
   ·have hb1f : b1 = false := by
     cases b1 with
     | false => rfl
     | true => exfalso; rw [hmv] at h6; simp at h6
    rw [hb1f] at hTk
    simp only [Bool.false_eq_true, if_false] at hTk
    (simp (maxSteps := 1000000) [hwk])
    exact hN' _ (k + 1, t2) ⟨hkl, hin2, hTk⟩ (by simp only [p5, p6, p7, p8, p9]; (exact wkA)) (by simp only; omega)
  ·have hkl : k = ts.length := by simp at h5; omega
   subst hkl
   rw [List.drop_length] at hTk
   have hTk' : T = Jt5j c (n - (i + 1)) (i + 1) t := hTk
   (simp (maxSteps := 1000000) [hw])
   exact hN _ (i + 1, t) ⟨hil, hin.out htl2, hTk'⟩ (by (exact wkA)) (by simp only; omega)
 ·have hk : i = n := by simp at h3; omega
  subst hk
  rw [Nat.sub_self] at hTi
  have hTi' : T = r := hTi
  (simp (maxSteps := 1000000) [])
  (first | exact hR _ _ FrA | exact hR _ _ FnA | exact hR _ _ (Xf (hq := by simp [AV.erase, AV.unview, hTi', Rep.av]; done)))
end
end Go.AE
set_option maxRecDepth 4000
namespace Go.AE
open Go
section
end
end Go.AE
set_option maxRecDepth 4000
namespace Go.AE
open Go
def succN (bs : List Block) : Nat := (bs.map fun b => (succsZ b.term).length).sum
theorem Jtl9 {bs : List Block} {k : Nat} {b : Block} (h : bs[k]? = some b) : succN (bs.take (k + 1)) = succN (bs.take k) + (succsZ b.term).length := by
 rw [List.take_add_one, h]; simp [succN]
theorem Jtl8 (bs : List Block) : succN bs ≤ 2 * bs.length := by
 induction bs with
 | nil => simp [succN]
 | cons b bs ih =>
  have := Jtlb b.term
  simp only [succN, List.map_cons, List.sum_cons, List.length_cons] at *
  omega
theorem Jtla (bs : List Block) (k : Nat) : succN (bs.take k) ≤ 2 * bs.length := by
 have := Jtl8 (bs.take k)
 have h2 : (bs.take k).length ≤ bs.length := by simp [List.length_take]; omega
 omega
def boundN (c : Cert) : Nat := codeN c.S.blocks + mcodeN c.T.blocks + c.S.blocks.length + 1 + succN c.S.blocks
theorem Jtfo {c : Cert} (hf : fewC c = true) (h2 : ∀ b ∈ c.T.blocks, okM b) (hw : okW c.W) : okCert c := by
 simp only [fewC, few, fewM, fewW, Bool.and_eq_true, decide_eq_true_eq, List.all_eq_true] at hf
 obtain ⟨⟨⟨⟨⟨f1, f2⟩, f3⟩, f4⟩, ⟨⟨⟨⟨f5, f6⟩, f7⟩, f8⟩, f9⟩⟩, f10, f11⟩ := hf
 have hwt : ∀ w : List (List Pair), (∀ l ∈ w, l.length ≤ 400) → wTotal w ≤ 400 * w.length := by
  intro w
  induction w with
  | nil => intro _; simp [wTotal]
  | cons l w ih =>
   intro h
   have h1 := h l (by simp)
   have h3 := ih fun l hl => h l (by simp [hl])
   simp only [wTotal, List.map_cons, List.sum_cons, List.length_cons] at *
   omega
 have := hwt c.W f11
 exact ⟨by omega, by omega, by omega, by omega, h2, by omega, by omega, hw⟩
def endT : Term := ⟨3, 0, 0, 0⟩
def exC : Cert := ⟨⟨0, 1, [⟨[], endT⟩]⟩, ⟨0, 1, 0, [⟨[], endT⟩]⟩, [[]]⟩
def exD : Cert := ⟨⟨0, 1, [⟨[], endT⟩]⟩, ⟨0, 1, 0, [⟨[], endT⟩]⟩, [[⟨0, 0⟩]]⟩
def exE : Cert := ⟨⟨0, 0, []⟩, ⟨0, 0, 0, []⟩, []⟩
section
theorem Jt6b {P : Program} {p : Nums} (A : All P p) (c : Cert) (g : Nat) (h0 : codeN c.S.blocks ≤ 1000000) (h1 : mcodeN c.T.blocks ≤ 1000000) (h2 : c.S.blocks.length ≤ 1000000) (h3 : c.T.blocks.length ≤ 1000000) (hg : g ≤ 1000000) :
  Jt3o P p.checker_Bound [c.av, AI g] [] fun o _ => o = .ret (AI ((3 * boundN c * (g + 1) : Nat) : Int)) := by
 have c1 := Jtk1 A c.S (by omega) (by omega)
 have c2 := Jtdt A c.T (by omega) (by omega)
 obtain ⟨n1, hn1⟩ : ∃ n, n = codeN c.S.blocks := ⟨_, rfl⟩
 obtain ⟨n2, hn2⟩ : ∃ n, n = mcodeN c.T.blocks := ⟨_, rfl⟩
 obtain ⟨K, hK⟩ : ∃ K, K = 3 * boundN c * (g + 1) := ⟨_, rfl⟩
 rw [← hK]
 unfold boundN at hK
 rw [← hn1] at c1 h0 hK
 rw [← hn2] at c2 h1 hK
 obtain ⟨sR, hsR⟩ : ∃ x, x = c.S.blocks.map Block.row := ⟨_, rfl⟩
 obtain ⟨tR, htR⟩ : ∃ x, x = c.T.blocks.map MBlock.row := ⟨_, rfl⟩
 have hsl : sR.length = c.S.blocks.length := by rw [hsR]; simp
 simp only [Func.av, MFunc.av, ← hsR, ← htR] at c1 c2
 obtain ⟨n, hn⟩ : ∃ n, n = c.S.blocks.length := ⟨_, rfl⟩
 rw [← hn] at hsl h2 hK
 obtain ⟨m1, hm1⟩ : ∃ m, m = n1 + n2 := ⟨_, rfl⟩
 obtain ⟨m2, hm2⟩ : ∃ m, m = m1 + n := ⟨_, rfl⟩
 obtain ⟨m3, hm3⟩ : ∃ m, m = m2 + 1 := ⟨_, rfl⟩
 have w1 : IntKind.i64.wrap ((n1 : Int) + (n2 : Int)) = (m1 : Int) := by rw [hm1]; exact Jtmk (by omega)
 have w2 : IntKind.i64.wrap ((m1 : Int) + (n : Int)) = (m2 : Int) := by rw [hm2]; exact Jtmk (by omega)
 have w3 : IntKind.i64.wrap ((m2 : Int) + 1) = (m3 : Int) := by rw [hm3]; exact Jtml (by omega)
 refine A.checker_Bound.run rfl fun R hR => ?_
 simp only [Cert.av, ← hsR, ← htR]
 (simp (maxSteps := 1000000) [Jta5])
 (refine Jtt c1 (by rfl) (by rfl) ?_)
 (simp (maxSteps := 1000000) [])
 (refine Jtt c2 (by rfl) (by rfl) ?_)
 (simp (maxSteps := 1000000) [hsl, w1, w2, w3])
 obtain ⟨F, hF⟩ : ∃ F : Nat → Nat, ∀ k, F k = m3 + succN (c.S.blocks.take k) := ⟨_, fun _ => rfl⟩
 have hF0 : F 0 = m3 := by rw [hF]; simp [succN]
 refine Jt9 (fun k : Nat => ⟨[(25, AI k), (24, AI n), (23, .d (.sl sR)), (5, AI (F k)), (1, AI g)], []⟩) (fun k => k ≤ n) (fun k => n - k) 0 (by omega) (by rw [hF0]; (exact wkA)) ?_
 intro k hk N hN
 (simp (maxSteps := 1000000) [])
 ((first | refine Xc (fun h4 => ?_) (fun h4 => ?_) | refine Xo (fun h4 => ?_) (fun h4 => ?_)) <;> (try simp only [Xz, Xy] at h4))
 ·have hkl : k < n := by omega
  obtain ⟨b, hb⟩ : ∃ b, c.S.blocks[k]? = some b := ⟨_, List.getElem?_eq_getElem (by omega)⟩
  have hbR : sR[k]? = some b.row := by rw [hsR, List.getElem?_map, hb]; rfl
  have hw := Jtml (k := k) (by omega)
  have hs := Jtl9 hb
  have hst := Jtla c.S.blocks (k + 1)
  have hsu := Jtlb b.term
  obtain ⟨ts, hts⟩ : ∃ t, t = succsZ b.term := ⟨_, rfl⟩
  have cs := Jtk3 A b.term
  rw [← hts] at cs hs hsu
  have hw2 : IntKind.i64.wrap ((F k : Int) + (ts.length : Int)) = (F (k + 1) : Int) := by
   have h7 := hF k
   have h8 := hF (k + 1)
   have : F (k + 1) = F k + ts.length := by omega
   rw [this]; exact Jtmk (by omega)
  (simp (maxSteps := 1000000) [h4, hbR, Block.row])
  (refine Jtt cs (by rfl) (by rfl) ?_)
  (simp (maxSteps := 1000000) [hw, hw2])
  exact hN _ (k + 1) hkl (by (exact wkA)) (by omega)
 ·have hk' : k = n := by omega
  subst hk'
  have htk : succN (c.S.blocks.take k) = succN c.S.blocks := by rw [hn, List.take_length]
  have hsu := Jtl8 c.S.blocks
  obtain ⟨q, hq⟩ : ∃ q, q = F k := ⟨_, rfl⟩
  have hFk := hF k
  rw [htk] at hFk
  obtain ⟨q3, hq3⟩ : ∃ q3, q3 = 3 * q := ⟨_, rfl⟩
  have hK' : K = q3 * (g + 1) := by rw [hK, hq3]; congr 1; omega
  have hqb : q3 * (g + 1) ≤ 20000000 * 1000001 := Nat.mul_le_mul (by omega) (by omega)
  have u1 : IntKind.i64.wrap (3 * (q : Int)) = (q3 : Int) := by rw [hq3, wrap_i64 (by omega) (by omega)]; omega
  have u2 : IntKind.i64.wrap ((g : Int) + 1) = ((g + 1 : Nat) : Int) := Jtml (by omega)
  obtain ⟨g1, hg1⟩ : ∃ g1, g1 = g + 1 := ⟨_, rfl⟩
  rw [← hg1] at hK' hqb u2
  have u3 : IntKind.i64.wrap ((q3 : Int) * (g1 : Int)) = (K : Int) := by
   rw [hK', ← Int.natCast_mul]; exact wrap_i64 (by omega) (by omega)
  rw [← hq]
  (simp (maxSteps := 1000000) [u1, u2, u3])
  (first | exact hR _ _ FrA | exact hR _ _ FnA)
end
section
theorem Jtcx {P : Program} {p : Nums} (A : All P p) (S : SortOk P p) (C : ClosOk P p) : Jt3o P p.law16_awake [] [] fun o _ => o = .ret (AB true) := by
 have okm : ∀ b ∈ [(⟨[], endT⟩ : MBlock)], okM b := by intro b hb; simp at hb; subst hb; intro x hx; simp at hx
 have o1 : okCert exC := Jtfo (by decide) okm (by intro l hl; simp [exC] at hl; subst hl; intro q hq; simp at hq)
 have o2 : okCert exD := Jtfo (by decide) okm (by intro l hl; simp [exD] at hl; subst hl; intro q hq; simp at hq; subst hq; constructor <;> decide)
 have o3 : okCert exE := Jtfo (by decide) (by intro b hb; simp [exE] at hb) (by intro l hl; simp [exE] at hl)
 have h1 := Jt6c A S C exC o1 (by decide)
 have h2 := Jt6c A S C exD o2 (by decide)
 have h3 := Jt6c A S C exE o3 (by decide)
 have v1 := Jt6d A exC o1
 have v3 := Jt6d A exE o3
 have b1 := Jt6b A exD 1 (by decide) (by decide) (by decide) (by decide) (by decide)
 have e1 : Jtig exC = ⟨21, 0, 0, 1, 0, 2, 0⟩ := by decide +kernel
 have e2 : Jtig exD = ⟨0, 0, 0, 1, 0, 4, 1⟩ := by decide +kernel
 have e3 : Jtig exE = ⟨14, 0, 0, 0, 0, 0, 0⟩ := by decide +kernel
 have e4 : validZ exC = 0 := by decide +kernel
 have e5 : validZ exE = 14 := by decide +kernel
 have e6 : 3 * boundN exD * (1 + 1) = 12 := by decide +kernel
 rw [e1] at h1
 rw [e2] at h2
 rw [e3] at h3
 rw [e4] at v1
 rw [e5] at v3
 rw [e6] at b1
 simp only [Rep.av] at h1 h2 h3
 refine A.law16_awake.run rfl fun R hR => ?_
 (simp (maxSteps := 1000000) [Jtag])
 (refine Jtt h1 (by rfl) (by rfl) ?_)
 (simp (maxSteps := 1000000) [])
 (refine Jtt h2 (by rfl) (by rfl) ?_)
 (simp (maxSteps := 1000000) [])
 (refine Jtt v1 (by rfl) (by rfl) ?_)
 (simp (maxSteps := 1000000) [])
 (refine Jtu v3 (by rfl) (by (exact wkvA)) (by rfl) ?_)
 (simp (maxSteps := 1000000) [])
 (refine Jtt b1 (by rfl) (by rfl) ?_)
 (simp (maxSteps := 1000000) [])
 (refine Jtu h3 (by rfl) (by (exact wkvA)) (by rfl) ?_)
 (simp (maxSteps := 1000000) [])
 (first | exact hR _ _ FrA | exact hR _ _ FnA)
end
end Go.AE
set_option maxRecDepth 4000
namespace Go.AE
open Go
section
end
def ltCert : List LT := [ltI, ltI, .sl Jtdn, ltI, ltI, ltI, .sl Jtdp, .sl [.sl ltPair]]
theorem Jte9 {rows : List (List D)} (h : ∀ r ∈ rows, HasL Jtdp r) : ∃ l : List MBlock, rows = l.map MBlock.row ∧ ∀ x ∈ l, okM x := by
 induction rows with
 | nil => exact ⟨[], rfl, by simp⟩
 | cons r rows ih =>
  obtain ⟨a, rfl, ha⟩ := Jte8 (h r (by simp))
  obtain ⟨l, rfl, hb⟩ := ih fun r hr => h r (by simp [hr])
  refine ⟨a :: l, rfl, fun n hn => ?_⟩
  rcases List.mem_cons.1 hn with rfl | hn
  ·exact ha
  ·exact hb n hn
theorem Jtg3 {r : List D} (h : HasL ltPair r) : ∃ q : Pair, r = q.row ∧ okZ q.l := by
 obtain ⟨_, _, rfl, h0, h⟩ := h.cons_inv
 obtain ⟨_, _, rfl, h1, h⟩ := h.cons_inv
 obtain rfl := h.nil_inv
 obtain ⟨a, rfl, _⟩ := h0.int_inv
 obtain ⟨b, rfl, o1⟩ := Jtcm h1
 exact ⟨⟨a, b⟩, rfl, o1⟩
theorem Jtg4 {rows : List (List D)} (h : ∀ r ∈ rows, HasL ltPair r) : ∃ l : List Pair, rows = l.map Pair.row ∧ ∀ x ∈ l, okZ x.l := by
 induction rows with
 | nil => exact ⟨[], rfl, by simp⟩
 | cons r rows ih =>
  obtain ⟨a, rfl, ha⟩ := Jtg3 (h r (by simp))
  obtain ⟨l, rfl, hb⟩ := ih fun r hr => h r (by simp [hr])
  refine ⟨a :: l, rfl, fun n hn => ?_⟩
  rcases List.mem_cons.1 hn with rfl | hn
  ·exact ha
  ·exact hb n hn
theorem Jtmc {rows : List (List D)} (h : ∀ r ∈ rows, HasL [.sl ltPair] r) : ∃ w : List (List Pair), rows = w.map (fun l => [pairsD l]) ∧ okW w := by
 induction rows with
 | nil => exact ⟨[], rfl, by intro l hl; simp at hl⟩
 | cons r rows ih =>
  obtain ⟨_, _, rfl, h0, h1⟩ := (h r (by simp)).cons_inv
  obtain rfl := h1.nil_inv
  obtain ⟨rs, rfl, _, hr⟩ := h0.sl_inv
  obtain ⟨l, rfl, hok⟩ := Jtg4 hr
  obtain ⟨w, rfl, hb⟩ := ih fun r hr => h r (by simp [hr])
  refine ⟨l :: w, rfl, fun n hn => ?_⟩
  rcases List.mem_cons.1 hn with rfl | hn
  ·exact hok
  ·exact hb n hn
theorem Jt66 {ds : List D} (h : HasL ltCert ds) : ∃ c : Cert, .agg (ds.map AV.d) = c.av ∧ ((∀ b ∈ c.T.blocks, okM b) ∧ okW c.W) := by
 obtain ⟨_, _, rfl, h0, h⟩ := h.cons_inv
 obtain ⟨_, _, rfl, h1, h⟩ := h.cons_inv
 obtain ⟨_, _, rfl, h2, h⟩ := h.cons_inv
 obtain ⟨_, _, rfl, h3, h⟩ := h.cons_inv
 obtain ⟨_, _, rfl, h4, h⟩ := h.cons_inv
 obtain ⟨_, _, rfl, h5, h⟩ := h.cons_inv
 obtain ⟨_, _, rfl, h6, h⟩ := h.cons_inv
 obtain ⟨_, _, rfl, h7, h⟩ := h.cons_inv
 obtain rfl := h.nil_inv
 obtain ⟨sa, rfl, _⟩ := h0.int_inv
 obtain ⟨sr, rfl, _⟩ := h1.int_inv
 obtain ⟨rows, rfl, _, hr⟩ := h2.sl_inv
 obtain ⟨sb, rfl⟩ := Jtix (fun r hr => Jt5b hr) hr
 obtain ⟨ta, rfl, _⟩ := h3.int_inv
 obtain ⟨tr, rfl, _⟩ := h4.int_inv
 obtain ⟨ts, rfl, _⟩ := h5.int_inv
 obtain ⟨rows, rfl, _, hr⟩ := h6.sl_inv
 obtain ⟨tb, rfl, hm⟩ := Jte9 hr
 obtain ⟨rows, rfl, _, hr⟩ := h7.sl_inv
 obtain ⟨w, rfl, hw⟩ := Jtmc hr
 exact ⟨⟨⟨sa, sr, sb⟩, ⟨ta, tr, ts, tb⟩, w⟩, rfl, hm, hw⟩
end Go.AE
set_option maxRecDepth 4000
namespace Go.AE
open Go
theorem Jtf1 {w : List (List Pair)} {l : List Pair} (h : l ∈ w) : l.length ≤ mostW w := by
 apply Nat.le_of_not_lt
 intro hlt
 have := (Jtey (l := w.map List.length) (k := mostW w)).2 ⟨_, List.mem_map_of_mem h, hlt⟩
 exact Nat.lt_irrefl _ this
structure EdgeT (r : Rep) (n A : Nat) (R : Rep × Bool) : Prop where
 blocks : R.1.blocks = r.blocks
 lg : R.1.largest = r.largest
 edges : R.1.edges ≤ r.edges + n
 steps : R.1.steps ≤ (A + 2 * R.1.edges) * (R.1.largest + 1)
 bad : R.2 = true → R.1.err ≠ 0
 good : R.2 = false → R.1.edges = r.edges + n ∧ R.1.err = 0
theorem Jt7o {w : List (List Pair)} {out : List Pair} {i : Nat} (A : Nat) : ∀ {ts : List Int} {k : Nat} {r : Rep}, (∀ x ∈ ts, 0 ≤ x) → out.length ≤ r.largest → mostW w ≤ r.largest → r.steps ≤ (A + 2 * r.edges) * (r.largest + 1) → r.err = 0 →
  EdgeT r ts.length A (edgesC w out i ts k r) := by
 intro ts
 induction ts with
 | nil => intro k r _ _ _ h4 h5; exact ⟨rfl, rfl, Nat.le_refl _, h4, fun h => by simp [edgesC] at h, fun _ => ⟨rfl, h5⟩⟩
 | cons t ts ih =>
  intro k r h1 h2 h3 h4 h5
  have ht := h1 t (by simp)
  obtain ⟨tn, rfl⟩ : ∃ n : Nat, t = (n : Int) := ⟨t.toNat, by omega⟩
  rw [Jt7l]
  have hwl : ((w[tn]?).getD []).length ≤ r.largest := by
   cases hx : w[tn]? with
   | none => simp
   | some l => have := Jtf1 (List.mem_of_getElem? hx); simp only [Option.getD_some]; omega
  have e1 : (edgeR w out tn r).blocks = r.blocks := rfl
  have e2 : (edgeR w out tn r).largest = r.largest := rfl
  have e3 : (edgeR w out tn r).edges = r.edges + 1 := rfl
  have e5 : (edgeR w out tn r).err = r.err := rfl
  have e4 : (edgeR w out tn r).steps ≤ (A + 2 * (r.edges + 1)) * (r.largest + 1) := by
   have : (edgeR w out tn r).steps = r.steps + 1 + out.length + ((w[tn]?).getD []).length := rfl
   rw [this, show A + 2 * (r.edges + 1) = (A + 2 * r.edges) + 2 by omega, Nat.add_mul]
   omega
  split
  ·refine ⟨e1, e2, ?_, ?_, fun _ => by simp, fun h => by cases h⟩
   ·show (edgeR w out tn r).edges ≤ _
    rw [e3, List.length_cons]; omega
   ·show (edgeR w out tn r).steps ≤ (A + 2 * (edgeR w out tn r).edges) * ((edgeR w out tn r).largest + 1)
    rw [e3, e2]; exact e4
  ·have g := ih (k := k + 1) (r := edgeR w out tn r) (fun x hx => h1 x (by simp [hx])) (by rw [e2]; exact h2) (by rw [e2]; exact h3) (by rw [e3, e2]; exact e4) (by rw [e5]; exact h5)
   refine ⟨g.blocks, g.lg, ?_, g.steps, g.bad, fun h => ?_⟩
   ·have := g.edges; rw [e3] at this; rw [List.length_cons]; omega
   ·obtain ⟨a1, a2⟩ := g.good h; rw [e3] at a1; rw [List.length_cons]; exact ⟨by omega, a2⟩
def costN (c : Cert) (i : Nat) : Nat := 1 + 3 * mcodeN (c.T.blocks.take i) + codeN (c.S.blocks.take i) + i
structure OnceI (c : Cert) (i : Nat) (r : Rep) : Prop where
 blocks : r.blocks = i
 edges : r.edges = succN (c.S.blocks.take i)
 steps : r.steps ≤ (costN c i + 2 * r.edges) * (r.largest + 1)
 lg : mostW c.W ≤ r.largest
 lg2 : r.largest < 100000
 err : r.err = 0
structure OnceT (c : Cert) (T : Rep) : Prop where
 blocks : T.blocks ≤ c.S.blocks.length
 edges : T.edges ≤ succN c.S.blocks
 steps : T.steps ≤ 3 * boundN c * (T.largest + 1)
 lg : T.largest < 100000
 done : T.err = 0 → T.blocks = c.S.blocks.length ∧ T.edges = succN c.S.blocks
theorem Jtl7 (bs : List Block) (k : Nat) : succN (bs.take k) ≤ succN bs := by
 have h : succN (bs.take k) + succN (bs.drop k) = succN bs := by
  unfold succN
  rw [← List.sum_append, ← List.map_append, List.take_append_drop]
 omega
theorem Jt6y (c : Cert) (i : Nat) (hi : i ≤ c.S.blocks.length) : costN c i + 2 * succN c.S.blocks ≤ 3 * boundN c := by
 have h1 := Jted c.T.blocks i
 have h2 := Jt6m c.S.blocks i
 unfold costN boundN
 omega
theorem Jt89 {c : Cert} {i : Nat} (hi : i ≤ c.S.blocks.length) {s e l : Nat} (h : s ≤ (costN c i + 2 * e) * (l + 1)) (he : e ≤ succN c.S.blocks) : s ≤ 3 * boundN c * (l + 1) :=
 Nat.le_trans h (Nat.mul_le_mul_right _ (by have := Jt6y c i hi; omega))
theorem Jtfp {c : Cert} (h : Fit c) : ∀ (n i : Nat) (r : Rep), i + n = c.S.blocks.length → OnceI c i r → OnceT c (Jt5j c n i r) := by
 intro n
 induction n with
 | zero =>
  intro i r hi hr
  have hi' : i = c.S.blocks.length := by omega
  subst hi'
  have e : r.edges = succN c.S.blocks := by rw [hr.edges, List.take_length]
  exact ⟨by rw [show Jt5j c 0 c.S.blocks.length r = r from rfl, hr.blocks]; exact Nat.le_refl _, by rw [show Jt5j c 0 c.S.blocks.length r = r from rfl, e]; exact Nat.le_refl _, Jt89 (Nat.le_refl _) hr.steps (by rw [e]; exact Nat.le_refl _), hr.lg2, fun _ => ⟨hr.blocks, e⟩⟩
 | succ n ih =>
  intro i r hi hr
  have hlT := h.lenT
  have hlW := h.lenW
  obtain ⟨b, hb⟩ : ∃ b, c.S.blocks[i]? = some b := ⟨_, List.getElem?_eq_getElem (by omega)⟩
  obtain ⟨m, hm⟩ : ∃ b, c.T.blocks[i]? = some b := ⟨_, List.getElem?_eq_getElem (by omega)⟩
  obtain ⟨l, hl⟩ : ∃ b, c.W[i]? = some b := ⟨_, List.getElem?_eq_getElem (by omega)⟩
  have mb := List.mem_of_getElem? hb
  have gd := h.good mb (List.mem_of_getElem? hm) (List.mem_of_getElem? hl) 1048576
  obtain ⟨d1, d2, d3, _⟩ := Jt67 b m l 1048576 (Jte4 l)
  have hbc := Jt5a hb hm hl r
  obtain ⟨x, hx⟩ : ∃ x, x = checkZ b m l 1048576 := ⟨_, rfl⟩
  rw [← hx] at gd d1 d2 d3 hbc
  have hT : Jt5j c (n + 1) i r = match blockC c i r with | (r, true) => r | (r, false) => Jt5j c n (i + 1) r := rfl
  rw [hT, hbc]
  have c1 : costN c (i + 1) = costN c i + (3 * m.code.length + b.code.length + 1) := by
   unfold costN; rw [Jtee hm, Jt6n hb]; omega
  have c2 := Jtl9 hb
  have c3 := Jtl7 c.S.blocks (i + 1)
  have g3 := gd.lg
  have r1 := hr.lg
  have r2 := hr.lg2
  have r3 := hr.edges
  have k0 : (blockR x r).blocks = i + 1 := by show r.blocks + 1 = _; rw [hr.blocks]
  have k1 : (blockR x r).edges = r.edges := rfl
  have k2 : (blockR x r).largest = max r.largest x.largest := rfl
  have k4 : (blockR x r).err = 0 := hr.err
  have k3 : (blockR x r).steps ≤ (costN c (i + 1) + 2 * r.edges) * (max r.largest x.largest + 1) := by
   show r.steps + x.steps ≤ _
   have s1 : r.steps ≤ (costN c i + 2 * r.edges) * (max r.largest x.largest + 1) := Nat.le_trans hr.steps (Nat.mul_le_mul_left _ (by omega))
   have s2 : x.steps ≤ (3 * m.code.length + b.code.length + 1) * (max r.largest x.largest + 1) := Nat.le_trans d1 (Nat.mul_le_mul_left _ (by omega))
   rw [c1, show costN c i + (3 * m.code.length + b.code.length + 1) + 2 * r.edges = (costN c i + 2 * r.edges) + (3 * m.code.length + b.code.length + 1) by omega, Nat.add_mul]
   omega
  have hil : i + 1 ≤ c.S.blocks.length := by omega
  by_cases hxe : x.err ≠ 0
  ·rw [if_pos hxe]
   refine ⟨?_, ?_, ?_, ?_, fun h0 => absurd h0 hxe⟩
   ·show (blockR x r).blocks ≤ _; omega
   ·show (blockR x r).edges ≤ _; omega
   ·show (blockR x r).steps ≤ 3 * boundN c * ((blockR x r).largest + 1)
    rw [k2]; exact Jt89 hil k3 (by omega)
   ·show (blockR x r).largest < _; omega
  ·rw [if_neg hxe]
   have et := Jt7o (w := c.W) (out := x.out) (i := i) (costN c (i + 1)) (ts := succsZ b.term) (k := 0) (r := blockR x r) (fun y hy => (h.to b mb y hy).1) (by rw [k2]; omega) (by rw [k2]; omega) (by rw [k1, k2]; exact k3) k4
   obtain ⟨R, hR⟩ : ∃ R, R = edgesC c.W x.out i (succsZ b.term) 0 (blockR x r) := ⟨_, rfl⟩
   rw [← hR] at et ⊢
   obtain ⟨t, bad⟩ := R
   obtain ⟨t1, t2, t3, t4, t5, t6⟩ := et
   simp only at t1 t2 t3 t4 t5 t6
   rw [k1] at t3 t6
   rw [k2] at t2
   cases bad with
   | true =>
    refine ⟨?_, ?_, ?_, ?_, fun h0 => absurd h0 (t5 rfl)⟩
    ·show t.blocks ≤ _; omega
    ·show t.edges ≤ _; omega
    ·exact Jt89 hil t4 (by omega)
    ·show t.largest < _; omega
   | false =>
    obtain ⟨u1, u2⟩ := t6 rfl
    exact ih (i + 1) t (by omega) ⟨by omega, by omega, t4, by omega, by omega, u2⟩
theorem Jtfq {c : Cert} (h : Fit c) (hv : validZ c = 0) : OnceT c (Jtig c) := by
 have m400 := Jtf2 (w := c.W) (n := 400) (fun l hl => (h.w l hl).2.1)
 have hw0 := Jtf1 (Jt8f h)
 have s0 : 1 + (w0 c).length ≤ 1 * (mostW c.W + 1) := by omega
 unfold Jtig
 rw [if_neg (by simp [hv])]
 by_cases h1 : ((w0 c).all fun q => initZ q c.S.args) = false
 ·rw [if_pos h1]
  refine ⟨Nat.zero_le _, Nat.zero_le _, ?_, ?_, fun h0 => by simp at h0⟩
  ·show 1 + (w0 c).length ≤ 3 * boundN c * (mostW c.W + 1)
   exact Nat.le_trans s0 (Nat.mul_le_mul_right _ (by unfold boundN; omega))
  ·show mostW c.W < _; omega
 ·rw [if_neg h1]
  refine Jtfp h _ _ _ (by omega) ⟨rfl, by simp [rep0, succN], ?_, Nat.le_refl _, by show mostW c.W < _; omega, rfl⟩
  show 1 + (w0 c).length ≤ (costN c 0 + 2 * 0) * (mostW c.W + 1)
  exact Nat.le_trans s0 (Nat.mul_le_mul_right _ (by unfold costN; omega))
end Go.AE
set_option maxRecDepth 4000
namespace Go.AE
open Go
section
theorem Jtcw {P : Program} {p : Nums} (A : All P p) (S : SortOk P p) (C : ClosOk P p) (c : Cert) (h2 : ∀ b ∈ c.T.blocks, okM b) (hw : okW c.W) : Jt3o P p.law16_CheckerOnce [c.av] [] fun o _ => o = .ret (AB true) := by
 have cf := Jthp A c
 have ok := fun hf => Jtfo (c := c) hf h2 hw
 have q2 := fun hf => Jthq A c (ok hf)
 have q3 := fun hf => Jt6c A S C c (ok hf) hf
 have hfit := fun h hf => fit_of (c := c) h hf
 have hon := fun h hf => Jtfq (c := c) (hfit h hf) h
 have hTv : validZ c ≠ 0 → Jtig c = ⟨validZ c, 0, 0, 0, 0, 0, 0⟩ := fun h => by unfold Jtig; rw [if_pos h]
 obtain ⟨T, hT⟩ : ∃ T, T = Jtig c := ⟨_, rfl⟩
 obtain ⟨v, hv⟩ : ∃ v, v = validZ c := ⟨_, rfl⟩
 obtain ⟨f, hf⟩ : ∃ f, f = fewC c := ⟨_, rfl⟩
 have hsz : f = true → codeN c.S.blocks ≤ 1000000 ∧ mcodeN c.T.blocks ≤ 1000000 ∧ c.S.blocks.length ≤ 1000000 ∧ c.T.blocks.length ≤ 1000000 := fun h => by
  rw [hf] at h
  have o := ok h
  simp only [fewC, few, fewM, fewW, Bool.and_eq_true, decide_eq_true_eq, List.all_eq_true] at h
  obtain ⟨⟨⟨⟨⟨f1, f2⟩, f3⟩, f4⟩, ⟨⟨⟨⟨f5, f6⟩, f7⟩, f8⟩, f9⟩⟩, f10, f11⟩ := h
  omega
 rw [← hf] at cf q2 q3 hfit hon
 rw [← hT] at q3 hon hTv
 rw [← hv] at q2 hfit hon hTv
 have cbd := fun h1 h2 h3 h4 h5 => Jt6b A c T.largest h1 h2 h3 h4 h5
 obtain ⟨K, hK⟩ : ∃ K, K = 3 * boundN c * (T.largest + 1) := ⟨_, rfl⟩
 rw [← hK] at cbd
 obtain ⟨sR, hsR⟩ : ∃ x, x = c.S.blocks.map Block.row := ⟨_, rfl⟩
 obtain ⟨tR, htR⟩ : ∃ x, x = c.T.blocks.map MBlock.row := ⟨_, rfl⟩
 obtain ⟨wR, hwR⟩ : ∃ x, x = c.W.map fun l => [pairsD l] := ⟨_, rfl⟩
 have hsl : sR.length = c.S.blocks.length := by rw [hsR]; simp
 simp only [Cert.av, witD, ← hsR, ← htR, ← hwR, Rep.av] at cf q2 q3 cbd ⊢
 obtain ⟨n, hn⟩ : ∃ n, n = c.S.blocks.length := ⟨_, rfl⟩
 rw [← hn] at hsl
 refine A.law16_CheckerOnce.run rfl fun R hR => ?_
 (simp (maxSteps := 1000000) [Jtaf])
 (refine Jtt (Jtcx A S C) (by rfl) (by rfl) ?_)
 (simp (maxSteps := 1000000) [])
 (refine Jtt cf (by rfl) (by rfl) ?_)
 (simp (maxSteps := 1000000) [])
 ((first | refine Xc (fun h1 => ?_) (fun h1 => ?_) | refine Xo (fun h1 => ?_) (fun h1 => ?_)) <;> (try simp only [Xz, Xy] at h1))
 ·(simp (maxSteps := 1000000) [])
  (refine Jtt (Jtcx A S C) (by rfl) (by rfl) ?_)
  (simp (maxSteps := 1000000) [])
  (first | exact hR _ _ FrA | exact hR _ _ FnA)
 have hft : f = true := by simpa using h1
 obtain ⟨z1, z2, z3, z4⟩ := hsz hft
 (simp (maxSteps := 1000000) [])
 (refine Jtt (q3 hft) (by rfl) (by rfl) ?_)
 (simp (maxSteps := 1000000) [])
 (refine Jtt (q2 hft) (by rfl) (by rfl) ?_)
 (simp (maxSteps := 1000000) [])
 ((first | refine Xc (fun h3 => ?_) (fun h3 => ?_) | refine Xo (fun h3 => ?_) (fun h3 => ?_)) <;> (try simp only [Xz, Xy] at h3))
 ·have hTe := hTv h3
  (simp (maxSteps := 1000000) [hTe])
  (first | exact hR _ _ FrA | exact hR _ _ FnA | exact hR _ _ (Xf (hq := by simp [AV.erase, AV.unview, h3]; done)))
 have hv0 : v = 0 := by simpa using h3
 have fit := hfit hv0 hft
 have once := hon hv0 hft
 have few := fit.few
 rw [← hn] at few z3
 have o1 := once.blocks
 have o2 := once.edges
 have o3 := once.steps
 have o4 := once.lg
 have o5 := once.done
 rw [← hn] at o1 o5
 rw [← hK] at o3
 (simp (maxSteps := 1000000) [])
 refine Jt9 (fun k : Nat => ⟨[(5, AI k), (4, AI (succN (c.S.blocks.take k))), (1, .ptr 0 0), (3, .ptr 1 0)],
  [.mem [AI c.S.args, AI c.S.regs, .d (.sl sR), AI c.T.args, AI c.T.regs, AI c.T.slots, .d (.sl tR), .d (.sl wR)], .mem [AI T.err, AI T.block, AI T.at_, AI T.blocks, AI T.edges, AI T.steps, AI T.largest]]⟩) (fun k => k ≤ n) (fun k => n - k) 0 (by omega) (by (exact wkA)) ?_
 intro k hk N hN
 (simp (maxSteps := 1000000) [hsl])
 ((first | refine Xc (fun h4 => ?_) (fun h4 => ?_) | refine Xo (fun h4 => ?_) (fun h4 => ?_)) <;> (try simp only [Xz, Xy] at h4))
 ·have hkl : k < n := by omega
  obtain ⟨b, hb⟩ : ∃ b, c.S.blocks[k]? = some b := ⟨_, List.getElem?_eq_getElem (by omega)⟩
  have hbR : sR[k]? = some b.row := by rw [hsR, List.getElem?_map, hb]; rfl
  have hwk := Jtml (k := k) (by omega)
  have hs := Jtl9 hb
  have hst := Jtla c.S.blocks (k + 1)
  have cs := Jthe A b.term
  obtain ⟨ts, hts⟩ : ∃ t, t = succsZ b.term := ⟨_, rfl⟩
  rw [← hts] at cs hs
  have hw2 := Jtmk (a := succN (c.S.blocks.take k)) (b := ts.length) (by omega)
  rw [← hs] at hw2
  (simp (maxSteps := 1000000) [h4, hbR, Block.row])
  (refine Jtt cs (by rfl) (by rfl) ?_)
  (simp (maxSteps := 1000000) [hwk, hw2])
  exact hN _ (k + 1) hkl (by (exact wkA)) (by omega)
 have hk' : k = n := by omega
 subst hk'
 clear hN
 have htk : succN (c.S.blocks.take k) = succN c.S.blocks := by rw [hn, List.take_length]
 obtain ⟨E, hE⟩ : ∃ E, E = succN (c.S.blocks.take k) := ⟨_, rfl⟩
 rw [← hE] at htk
 rw [← hE]
 (simp (maxSteps := 1000000) [hsl])
 ((first | refine Xc (fun h5 => ?_) (fun h5 => ?_) | refine Xo (fun h5 => ?_) (fun h5 => ?_)) <;> (try simp only [Xz, Xy] at h5))
 ·exfalso; omega
 (simp (maxSteps := 1000000) [h5])
 ((first | refine Xc (fun h6 => ?_) (fun h6 => ?_) | refine Xo (fun h6 => ?_) (fun h6 => ?_)) <;> (try simp only [Xz, Xy] at h6))
 ·exfalso; omega
 (simp (maxSteps := 1000000) [h6])
 (refine Jtt (cbd z1 z2 (by omega) z4 (by omega)) (by rfl) (by rfl) ?_)
 (simp (maxSteps := 1000000) [])
 ((first | refine Xc (fun h7 => ?_) (fun h7 => ?_) | refine Xo (fun h7 => ?_) (fun h7 => ?_)) <;> (try simp only [Xz, Xy] at h7))
 ·exfalso; omega
 (simp (maxSteps := 1000000) [h7])
 ((first | refine Xc (fun h8 => ?_) (fun h8 => ?_) | refine Xo (fun h8 => ?_) (fun h8 => ?_)) <;> (try simp only [Xz, Xy] at h8))
 ·(simp (maxSteps := 1000000) [h8])
  (first | exact hR _ _ FrA | exact hR _ _ FnA | exact hR _ _ (Xf (hq := by simp [AV.erase, AV.unview, h8]; done)))
 obtain ⟨y1, y2⟩ := o5 (by simpa using h8)
 (simp (maxSteps := 1000000) [h8, hsl])
 ((first | refine Xc (fun h9 => ?_) (fun h9 => ?_) | refine Xo (fun h9 => ?_) (fun h9 => ?_)) <;> (try simp only [Xz, Xy] at h9))
 ·(simp (maxSteps := 1000000) [h9])
  have y3 : T.edges = E := by omega
  (first | exact hR _ _ FrA | exact hR _ _ FnA | exact hR _ _ (Xf (hq := by simp [AV.erase, AV.unview, y3]; done)))
 ·exfalso; apply h9; omega
end
end Go.AE
