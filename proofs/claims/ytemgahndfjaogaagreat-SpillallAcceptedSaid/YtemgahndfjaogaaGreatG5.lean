/- A part of the proof: the evaluator over abstract values, its codes, the contracts of the functions. -/
import Derived.Test.YtemgahndfjaogaaGreatG4
set_option linter.unusedVariables false
set_option linter.unusedSimpArgs false
namespace Go.AE
open Go
def Jtmf (i : Mach) (regs slots : Int) : Int :=
 if (knownZ i.op && i.op != 2) = false then 8
 else if i.op = 18 then (if movZ i regs slots ≠ 0 then movZ i regs slots else if clearM i = false then 12 else 0)
 else (if Jtmc i.instr regs ≠ 0 then Jtmc i.instr regs else if clearO i = false then 12 else 0)
def sbErr (code : List Mach) (regs slots : Int) (k : Nat) : Int := match code[k]? with
 | none => 0
 | some x => if Jtmf x regs slots ≠ 0 then Jtmf x regs slots else if 64 < runF (code.take (k + 1)) then 15 else 0
def sbErrs (code : List Mach) (regs slots : Int) : Int := Jt8o ((List.range code.length).map (sbErr code regs slots))
def Jtmd (b : MBlock) (regs slots blocks : Int) : Int := if sbErrs b.code regs slots ≠ 0 then sbErrs b.code regs slots else Jtmg b.term regs blocks
def Jtme (f : MFunc) : Int :=
 if f.args < 0 ∨ f.slots < f.args then 10 else if f.regs < 0 then 9 else if 1048576 < f.slots ∨ 1048576 < f.regs then 6 else if f.blocks.length = 0 then 14 else if 1048576 < f.blocks.length ∨ 1048576 < mcodeN f.blocks then 6
 else Jt8o (f.blocks.map fun b => Jtmd b f.regs f.slots f.blocks.length)
theorem Jtjq (l : List Mach) : ∀ k, k ≤ l.length → runF (l.take k) ≤ k := by
 intro k
 induction k with
 | zero => intro _; simp [runF]
 | succ k ih =>
  intro h
  rw [Jtjr (by omega)]
  have := ih (by omega)
  unfold runN; split <;> omega
section
theorem Jteg {P : Program} {p : Nums} (A : All P p) (i : Mach) (regs slots : Int) (g1 : okZ i.dst) (g2 : okZ i.src) : Jt3p P p.machine_Instr [i.av, AI regs, AI slots] [] fun o _ => o = .ret (AI (Jtmf i regs slots)) := by
 refine A.machine_Instr.run rfl fun R hR => ?_
 obtain ⟨T, hT⟩ : ∃ T, T = Jtmf i regs slots := ⟨_, rfl⟩
 rw [← hT] at hR
 unfold Jtmf at hT
 have c := Jtgm A i.op
 obtain ⟨km, hkm⟩ : ∃ b, b = (knownZ i.op && i.op != 2) := ⟨_, rfl⟩
 rw [← hkm] at c hT
 (simp (maxSteps := 1000000) [Jtb2, Mach.av])
 (refine Jtt c (by rfl) (by rfl) ?_)
 (simp (maxSteps := 1000000) [])
 ((first | refine Xc (fun h1 => ?_) (fun h1 => ?_) | refine Xo (fun h1 => ?_) (fun h1 => ?_)) <;> (try simp only [Xz, Xy] at h1))
 ·(simp (maxSteps := 1000000) [h1])
  rw [if_pos h1] at hT
  (first | exact hR _ _ FrA | exact hR _ _ FnA | exact hR _ _ (Xf (hq := by simp [AV.erase, AV.unview, hT]; done)))
 rw [if_neg (by simp [h1])] at hT
 (simp (maxSteps := 1000000) [h1])
 (refine Jtt (Jten A) (by rfl) (by rfl) ?_)
 (simp (maxSteps := 1000000) [])
 ((first | refine Xc (fun h2 => ?_) (fun h2 => ?_) | refine Xo (fun h2 => ?_) (fun h2 => ?_)) <;> (try simp only [Xz, Xy] at h2))
 ·rw [if_pos h2] at hT
  (simp (maxSteps := 1000000) [])
  (refine Jtt (Jtek A) (by rfl) (by rfl) ?_)
  (simp (maxSteps := 1000000) [])
  refine ⟨A.machine_moves_1.ok, ?_⟩
  (refine Jtt (Jtei A i regs slots g1 g2) (by rfl) (by rfl) ?_)
  (simp (maxSteps := 1000000) [])
  ((first | refine Xc (fun h3 => ?_) (fun h3 => ?_) | refine Xo (fun h3 => ?_) (fun h3 => ?_)) <;> (try simp only [Xz, Xy] at h3))
  ·rw [if_pos h3] at hT
   (simp (maxSteps := 1000000) [h3])
   (first | exact hR _ _ FrA | exact hR _ _ FnA | exact hR _ _ (Xf (hq := by simp [AV.erase, AV.unview, hT]; done)))
  rw [if_neg (by simpa using h3)] at hT
  (simp (maxSteps := 1000000) [h3])
  refine ⟨A.machine_moves_2.ok, ?_⟩
  (refine Jtt (Jtej A i) (by rfl) (by rfl) ?_)
  (simp (maxSteps := 1000000) [])
  ((first | refine Xc (fun h4 => ?_) (fun h4 => ?_) | refine Xo (fun h4 => ?_) (fun h4 => ?_)) <;> (try simp only [Xz, Xy] at h4))
  ·rw [if_pos h4] at hT
   (simp (maxSteps := 1000000) [h4])
   (first | exact hR _ _ FrA | exact hR _ _ FnA | exact hR _ _ (Xf (hq := by simp [AV.erase, AV.unview, hT]; done)))
  rw [if_neg (by simp [h4])] at hT
  (simp (maxSteps := 1000000) [h4])
  (first | exact hR _ _ FrA | exact hR _ _ FnA | exact hR _ _ (Xf (hq := by simp [AV.erase, AV.unview, hT]; done)))
 ·rw [if_neg h2] at hT
  (simp (maxSteps := 1000000) [])
  refine ⟨A.machine_others_1.ok, ?_⟩
  (refine Jtt (Jtel A i regs slots) (by rfl) (by rfl) ?_)
  (simp (maxSteps := 1000000) [])
  ((first | refine Xc (fun h3 => ?_) (fun h3 => ?_) | refine Xo (fun h3 => ?_) (fun h3 => ?_)) <;> (try simp only [Xz, Xy] at h3))
  ·rw [if_pos h3] at hT
   (simp (maxSteps := 1000000) [h3])
   (first | exact hR _ _ FrA | exact hR _ _ FnA | exact hR _ _ (Xf (hq := by simp [AV.erase, AV.unview, hT]; done)))
  rw [if_neg (by simpa using h3)] at hT
  (simp (maxSteps := 1000000) [h3])
  refine ⟨A.machine_others_2.ok, ?_⟩
  (refine Jtt (Jtem A i) (by rfl) (by rfl) ?_)
  (simp (maxSteps := 1000000) [])
  ((first | refine Xc (fun h4 => ?_) (fun h4 => ?_) | refine Xo (fun h4 => ?_) (fun h4 => ?_)) <;> (try simp only [Xz, Xy] at h4))
  ·rw [if_pos h4] at hT
   (simp (maxSteps := 1000000) [h4])
   (first | exact hR _ _ FrA | exact hR _ _ FnA | exact hR _ _ (Xf (hq := by simp [AV.erase, AV.unview, hT]; done)))
  rw [if_neg (by simp [h4])] at hT
  (simp (maxSteps := 1000000) [h4])
  (first | exact hR _ _ FrA | exact hR _ _ FnA | exact hR _ _ (Xf (hq := by simp [AV.erase, AV.unview, hT]; done)))
theorem Jteh {P : Program} {p : Nums} (A : All P p) (f : MFunc) (b : MBlock) (h0 : b.code.length < 1000000000) (hok : okM b) : Jt3p P p.machine_block [f.av, b.av] [] fun o _ => o = .ret (AI (Jtmd b f.regs f.slots f.blocks.length)) := by
 refine A.machine_block.run rfl fun R hR => ?_
 (simp (maxSteps := 1000000) [Jtb3, MBlock.av, MFunc.av])
 refine Jt9 (fun k : Nat => ⟨[(12, AI k), (11, AI b.code.length), (10, .d (.sl (b.code.map Mach.row))), (5, AI (runF (b.code.take k))), (2, .ptr 0 0), (3, .ptr 1 0)], [.mem [AI f.args, AI f.regs, AI f.slots, .d (.sl (f.blocks.map MBlock.row))], .mem [.d (.sl (b.code.map Mach.row)), AI b.term.kind, AI b.term.a, AI b.term.to, AI b.term.els]]⟩)
  (fun k => k ≤ b.code.length ∧ ∀ e ∈ ((List.range b.code.length).map (sbErr b.code f.regs f.slots)).take k, e = 0) (fun k => b.code.length - k) 0 (by simp) (by (exact wkA)) ?_
 rintro k ⟨hk, hz⟩ N hN
 (simp (maxSteps := 1000000) [])
 ((first | refine Xc (fun h2 => ?_) (fun h2 => ?_) | refine Xo (fun h2 => ?_) (fun h2 => ?_)) <;> (try simp only [Xz, Xy] at h2))
 ·have hkl : k < b.code.length := by simpa using h2
  have hb : b.code[k]? = some b.code[k] := by simp [hkl]
  have hr : (List.range b.code.length)[k]? = some k := by simp [hkl]
  have hw := Jtom (k := k) (by omega)
  have hle := Jtjq b.code k (by omega)
  have hw2 := Jtom (k := runF (b.code.take k)) (by omega)
  have hsu := Jtjr hkl
  obtain ⟨g1, g2⟩ := hok _ (List.getElem_mem hkl)
  (simp (maxSteps := 1000000) [h2, hb, Mach.row])
  (refine Jtt (Jteg A b.code[k] f.regs f.slots g1 g2) (by rfl) (by rfl) ?_)
  (simp (maxSteps := 1000000) [])
  ((first | refine Xc (fun h3 => ?_) (fun h3 => ?_) | refine Xo (fun h3 => ?_) (fun h3 => ?_)) <;> (try simp only [Xz, Xy] at h3))
  ·(simp (maxSteps := 1000000) [h3])
   have e1 : sbErr b.code f.regs f.slots k = Jtmf b.code[k] f.regs f.slots := by unfold sbErr; rw [hb]; simp only; rw [if_pos h3]
   have e2 : sbErrs b.code f.regs f.slots = Jtmf b.code[k] f.regs f.slots := by rw [← e1]; exact Jt8r hz (by simp [hkl]) (by rw [e1]; exact h3)
   (first | exact hR _ _ FrA | exact hR _ _ FnA | exact hR _ _ (Xf (hq := by simp [AV.erase, AV.unview, Jtmd, e2, h3]; done)))
  ·(simp (maxSteps := 1000000) [h3, hw2])
   have e1 : sbErr b.code f.regs f.slots k = if 64 < runF (b.code.take (k + 1)) then 15 else 0 := by unfold sbErr; rw [hb]; simp only; rw [if_neg (by simpa using h3)]
   ((first | refine Xc (fun h4 => ?_) (fun h4 => ?_) | refine Xo (fun h4 => ?_) (fun h4 => ?_)) <;> (try simp only [Xz, Xy] at h4))
   ·have hrn : runF (b.code.take (k + 1)) = 0 := by rw [hsu]; unfold runN; rw [if_neg (by simpa using h4)]
    rw [hrn] at e1
    (simp (maxSteps := 1000000) [h4, hw])
    exact hN _ (k + 1) ⟨hkl, take_zero hz hr (by rw [e1]; rfl)⟩ (by rw [hrn]; (exact wkA)) (by omega)
   ·have hrn : runF (b.code.take (k + 1)) = runF (b.code.take k) + 1 := by rw [hsu]; unfold runN; rw [if_pos (by simpa using h4)]
    (simp (maxSteps := 1000000) [h4])
    ((first | refine Xc (fun h5 => ?_) (fun h5 => ?_) | refine Xo (fun h5 => ?_) (fun h5 => ?_)) <;> (try simp only [Xz, Xy] at h5))
    ·(simp (maxSteps := 1000000) [h5])
     rw [if_pos (by omega)] at e1
     have e2 : sbErrs b.code f.regs f.slots = 15 := by rw [← e1]; exact Jt8r hz (by simp [hkl]) (by rw [e1]; decide)
     (first | exact hR _ _ FrA | exact hR _ _ FnA | exact hR _ _ (Xf (hq := by simp [AV.erase, AV.unview, Jtmd, e2]; done)))
    ·(simp (maxSteps := 1000000) [h5, hw])
     rw [if_neg (by omega)] at e1
     exact hN _ (k + 1) ⟨hkl, take_zero hz hr e1⟩ (by rw [hrn]; (exact wkA)) (by omega)
 ·have hk' : k = b.code.length := by simp at h2; omega
  subst hk'
  have hfe : sbErrs b.code f.regs f.slots = 0 := Jt8p (by rw [List.take_of_length_le (by simp)] at hz; exact hz)
  (simp (maxSteps := 1000000) [])
  (refine Jtt (Jtl4 A b.term f.regs f.blocks.length) (by rfl) (by rfl) ?_)
  (simp (maxSteps := 1000000) [])
  (first | exact hR _ _ FrA | exact hR _ _ FnA | exact hR _ _ (Xf (hq := by simp [AV.erase, AV.unview, Jtmd, hfe]; done)))
theorem Jtee {P : Program} {p : Nums} (A : All P p) (f : MFunc) (h0 : f.blocks.length < 1000000000) (h1 : mcodeN f.blocks < 1000000000) (hok : ∀ b ∈ f.blocks, okM b) : Jt3p P p.machine_Check [f.av] [] fun o _ => o = .ret (AI (Jtme f)) := by
 refine A.machine_Check.run rfl fun R hR => ?_
 (simp (maxSteps := 1000000) [Jtb0, MFunc.av])
 ((first | refine Xc (fun a1 => ?_) (fun a1 => ?_) | refine Xo (fun a1 => ?_) (fun a1 => ?_)) <;> (try simp only [Xz, Xy] at a1))
 ·(simp (maxSteps := 1000000) [a1])
  have e : Jtme f = 10 := by unfold Jtme; repeat (first | rw [if_pos (by omega)] | rw [if_neg (by omega)])
  (first | exact hR _ _ FrA | exact hR _ _ FnA | exact hR _ _ (Xf (hq := by simp [AV.erase, AV.unview, e]; done)))
 (simp (maxSteps := 1000000) [a1])
 ((first | refine Xc (fun a2 => ?_) (fun a2 => ?_) | refine Xo (fun a2 => ?_) (fun a2 => ?_)) <;> (try simp only [Xz, Xy] at a2))
 ·(simp (maxSteps := 1000000) [a2])
  have e : Jtme f = 10 := by unfold Jtme; repeat (first | rw [if_pos (by omega)] | rw [if_neg (by omega)])
  (first | exact hR _ _ FrA | exact hR _ _ FnA | exact hR _ _ (Xf (hq := by simp [AV.erase, AV.unview, e]; done)))
 (simp (maxSteps := 1000000) [a2])
 ((first | refine Xc (fun a3 => ?_) (fun a3 => ?_) | refine Xo (fun a3 => ?_) (fun a3 => ?_)) <;> (try simp only [Xz, Xy] at a3))
 ·(simp (maxSteps := 1000000) [a3])
  have e : Jtme f = 9 := by unfold Jtme; repeat (first | rw [if_pos (by omega)] | rw [if_neg (by omega)])
  (first | exact hR _ _ FrA | exact hR _ _ FnA | exact hR _ _ (Xf (hq := by simp [AV.erase, AV.unview, e]; done)))
 (simp (maxSteps := 1000000) [a3])
 ((first | refine Xc (fun a4 => ?_) (fun a4 => ?_) | refine Xo (fun a4 => ?_) (fun a4 => ?_)) <;> (try simp only [Xz, Xy] at a4))
 ·(simp (maxSteps := 1000000) [a4])
  have e : Jtme f = 6 := by unfold Jtme; repeat (first | rw [if_pos (by omega)] | rw [if_neg (by omega)])
  (first | exact hR _ _ FrA | exact hR _ _ FnA | exact hR _ _ (Xf (hq := by simp [AV.erase, AV.unview, e]; done)))
 (simp (maxSteps := 1000000) [a4])
 ((first | refine Xc (fun a5 => ?_) (fun a5 => ?_) | refine Xo (fun a5 => ?_) (fun a5 => ?_)) <;> (try simp only [Xz, Xy] at a5))
 ·(simp (maxSteps := 1000000) [a5])
  have e : Jtme f = 6 := by unfold Jtme; repeat (first | rw [if_pos (by omega)] | rw [if_neg (by omega)])
  (first | exact hR _ _ FrA | exact hR _ _ FnA | exact hR _ _ (Xf (hq := by simp [AV.erase, AV.unview, e]; done)))
 (simp (maxSteps := 1000000) [a5])
 ((first | refine Xc (fun a6 => ?_) (fun a6 => ?_) | refine Xo (fun a6 => ?_) (fun a6 => ?_)) <;> (try simp only [Xz, Xy] at a6))
 ·(simp (maxSteps := 1000000) [a6])
  have e : Jtme f = 14 := by unfold Jtme; repeat (first | rw [if_pos (by omega)] | rw [if_neg (by omega)])
  (first | exact hR _ _ FrA | exact hR _ _ FnA | exact hR _ _ (Xf (hq := by simp [AV.erase, AV.unview, e]; done)))
 (simp (maxSteps := 1000000) [a6])
 ((first | refine Xc (fun a7 => ?_) (fun a7 => ?_) | refine Xo (fun a7 => ?_) (fun a7 => ?_)) <;> (try simp only [Xz, Xy] at a7))
 ·(simp (maxSteps := 1000000) [a7])
  have e : Jtme f = 6 := by unfold Jtme; repeat (first | rw [if_pos (by omega)] | rw [if_neg (by omega)])
  (first | exact hR _ _ FrA | exact hR _ _ FnA | exact hR _ _ (Xf (hq := by simp [AV.erase, AV.unview, e]; done)))
 (simp (maxSteps := 1000000) [a7])
 (refine Jtt (Jtef A f h0 h1) (by rfl) (by rfl) ?_)
 (simp (maxSteps := 1000000) [])
 ((first | refine Xc (fun a8 => ?_) (fun a8 => ?_) | refine Xo (fun a8 => ?_) (fun a8 => ?_)) <;> (try simp only [Xz, Xy] at a8))
 ·(simp (maxSteps := 1000000) [a8])
  have e : Jtme f = 6 := by unfold Jtme; repeat (first | rw [if_pos (by omega)] | rw [if_neg (by omega)])
  (first | exact hR _ _ FrA | exact hR _ _ FnA | exact hR _ _ (Xf (hq := by simp [AV.erase, AV.unview, e]; done)))
 (simp (maxSteps := 1000000) [a8])
 have e : Jtme f = Jt8o (f.blocks.map fun b => Jtmd b f.regs f.slots f.blocks.length) := by
  unfold Jtme; repeat (first | rw [if_pos (by omega)] | rw [if_neg (by omega)])
 refine Jt9 (fun k : Nat => ⟨[(48, AI k), (47, AI f.blocks.length), (46, .d (.sl (f.blocks.map MBlock.row))), (1, .ptr 0 0)], [.mem [AI f.args, AI f.regs, AI f.slots, .d (.sl (f.blocks.map MBlock.row))]]⟩)
  (fun k => k ≤ f.blocks.length ∧ ∀ e ∈ (f.blocks.map fun b => Jtmd b f.regs f.slots f.blocks.length).take k, e = 0) (fun k => f.blocks.length - k) 0 (by simp) (by (exact wkA)) ?_
 rintro k ⟨hk, hz⟩ N hN
 (simp (maxSteps := 1000000) [])
 ((first | refine Xc (fun h2 => ?_) (fun h2 => ?_) | refine Xo (fun h2 => ?_) (fun h2 => ?_)) <;> (try simp only [Xz, Xy] at h2))
 ·have hkl : k < f.blocks.length := by simpa using h2
  have hb : f.blocks[k]? = some f.blocks[k] := by simp [hkl]
  have hw := Jtom (k := k) (by omega)
  have hbl : f.blocks[k].code.length < 1000000000 := by
   have h3 := Jtex hb
   have h4 := Jtev f.blocks (k + 1)
   omega
  (simp (maxSteps := 1000000) [h2, hb, MBlock.row])
  (refine Jtt (Jteh A f f.blocks[k] hbl (hok _ (List.getElem_mem hkl))) (by rfl) (by rfl) ?_)
  (simp (maxSteps := 1000000) [])
  ((first | refine Xc (fun h3 => ?_) (fun h3 => ?_) | refine Xo (fun h3 => ?_) (fun h3 => ?_)) <;> (try simp only [Xz, Xy] at h3))
  ·(simp (maxSteps := 1000000) [h3])
   have e2 : Jt8o (f.blocks.map fun b => Jtmd b f.regs f.slots f.blocks.length) = Jtmd f.blocks[k] f.regs f.slots f.blocks.length := Jt8r hz (by simp [hkl]) h3
   (first | exact hR _ _ FrA | exact hR _ _ FnA | exact hR _ _ (Xf (hq := by simp [AV.erase, AV.unview, e, e2]; done)))
  ·(simp (maxSteps := 1000000) [h3, hw])
   exact hN _ (k + 1) ⟨hkl, take_zero hz hb (by simpa using h3)⟩ (by (exact wkA)) (by omega)
 ·have hk' : k = f.blocks.length := by simp at h2; omega
  subst hk'
  have hfe : Jt8o (f.blocks.map fun b => Jtmd b f.regs f.slots f.blocks.length) = 0 := Jt8p (by rw [List.take_of_length_le (by simp)] at hz; exact hz)
  (simp (maxSteps := 1000000) [])
  (first | exact hR _ _ FrA | exact hR _ _ FnA | exact hR _ _ (Xf (hq := by simp [AV.erase, AV.unview, e, hfe]; done)))
end
theorem Jtgt {l : List Pair} {vregs regs slots : Int} {k : Nat} (hz : ∀ e ∈ ((List.range l.length).map (pErr l vregs regs slots)).take k, e = 0) (hk : k < l.length) (h : pErr l vregs regs slots k ≠ 0) : pErrs l vregs regs slots = pErr l vregs regs slots k :=
 Jt8r hz (by simp [hk]) h
theorem ibeq (a b : Int) : (a == b) = decide (a = b) := by rw [Bool.eq_iff_iff]; simp
def entA (w : List Pair) (args : Int) : AV := .tup [((w.find? fun q => !initZ q args).getD ⟨0, 0⟩).av, AI (if (w.all fun q => initZ q args) = true then 0 else 23)]
def impA (out w : List Pair) : AV := .tup [((missP w out).getD ⟨0, 0⟩).av, AI (if (missP w out).isSome = true then 22 else 0)]
theorem ent_at {w : List Pair} {args : Int} {k : Nat} (h : k < w.length) (h1 : ∀ q ∈ w.take k, initZ q args = true) (h2 : initZ w[k] args = false) : w.find? (fun q => !initZ q args) = some w[k] ∧ (w.all fun q => initZ q args) = false := by
 constructor
 ·have e : w = w.take k ++ w[k] :: w.drop (k + 1) := by rw [List.getElem_cons_drop, List.take_append_drop]
  have e1 : (w.take k).find? (fun q => !initZ q args) = none := by
   rw [List.find?_eq_none]; intro q hq; simp [h1 q hq]
  have e2 : (w[k] :: w.drop (k + 1)).find? (fun q => !initZ q args) = some w[k] := by
   rw [List.find?_cons_of_pos (by simp [h2])]
  have e3 := congrArg (List.find? fun q => !initZ q args) e
  rw [List.find?_append, e1, e2] at e3
  exact e3
 ·rw [← Bool.not_eq_true, List.all_eq_true]
  intro h'
  have := h' w[k] (List.getElem_mem h)
  rw [h2] at this; cases this
section
theorem Jtl3 {P : Program} {p : Nums} (A : All P p) (t : Term) : Jt3p P p.source_Successors [t.av] [] fun o _ => o = .ret (.d (.sl ((succsZ t).map fun x => [I x]))) := by
 refine A.source_Successors.run rfl fun R hR => ?_
 (simp (maxSteps := 1000000) [Jtca, Term.av])
 ((first | refine Xc (fun h1 => ?_) (fun h1 => ?_) | refine Xo (fun h1 => ?_) (fun h1 => ?_)) <;> (try simp only [Xz, Xy] at h1))
 ·(simp (maxSteps := 1000000) [h1])
  (first | exact hR _ _ FrA | exact hR _ _ FnA | exact hR _ _ (Xf (hq := by simp [AV.erase, AV.unview, succsZ, h1]; done)))
 (simp (maxSteps := 1000000) [h1])
 ((first | refine Xc (fun h2 => ?_) (fun h2 => ?_) | refine Xo (fun h2 => ?_) (fun h2 => ?_)) <;> (try simp only [Xz, Xy] at h2))
 ·(simp (maxSteps := 1000000) [h2])
  (first | exact hR _ _ FrA | exact hR _ _ FnA | exact hR _ _ (Xf (hq := by simp [AV.erase, AV.unview, succsZ, h1, h2]; done)))
 (simp (maxSteps := 1000000) [h2])
 exact hR _ _ (Jt3u .nils (.d (.sl ((succsZ t).map fun x => [I x]))) [] rfl (by simp only [succsZ, if_neg h1, if_neg h2, List.map_nil]; (exact wkA)) rfl)
theorem Jt7t {P : Program} {p : Nums} (A : All P p) (q : Pair) (args : Int) (h0 : 0 ≤ q.l) (h1 : q.l ≤ 9223372036854775807) (h2 : 0 ≤ q.v) (h3 : q.v ≤ 1000000000000000) : Jt3p P p.edge_Initial [q.av, AI args] [] fun o _ => o = .ret (AB (initZ q args)) := by
 have em : q.l.tmod 2 = q.l % 2 := Int.tmod_eq_emod_of_nonneg h0
 have ed : q.l.tdiv 2 = q.l / 2 := Int.tdiv_eq_ediv_of_nonneg h0
 refine A.edge_Initial.run rfl fun R hR => ?_
 (simp (maxSteps := 1000000) [Jtap, Pair.av])
 ((first | refine Xc (fun h4 => ?_) (fun h4 => ?_) | refine Xo (fun h4 => ?_) (fun h4 => ?_)) <;> (try simp only [Xz, Xy] at h4))
 ·(simp (maxSteps := 1000000) [h4])
  (refine Jtt (Jte6 A q.v (by omega) (by omega)) (by rfl) (by rfl) ?_)
  (simp (maxSteps := 1000000) [])
  have e : initZ q args = decide (q.l = 2 * q.v + 1) := by
   unfold initZ; rw [if_pos h4, em, ed, Bool.eq_iff_iff]; simp; omega
  (first | exact hR _ _ FrA | exact hR _ _ FnA | exact hR _ _ (Xf (hq := by simp [AV.erase, AV.unview, e, ibeq]; done)))
 ·(simp (maxSteps := 1000000) [h4])
  (refine Jtt (Jte3 A q.l) (by rfl) (by rfl) ?_)
  (simp (maxSteps := 1000000) [])
  ((first | refine Xc (fun h5 => ?_) (fun h5 => ?_) | refine Xo (fun h5 => ?_) (fun h5 => ?_)) <;> (try simp only [Xz, Xy] at h5))
  ·(simp (maxSteps := 1000000) [h5])
   have e : initZ q args = true := by unfold initZ; rw [if_neg h4]; simp [h5]
   (first | exact hR _ _ FrA | exact hR _ _ FnA | exact hR _ _ (Xf (hq := by simp [AV.erase, AV.unview, e]; done)))
  ·(simp (maxSteps := 1000000) [h5])
   (refine Jtt (Jte2 A q.l (by omega) (by omega)) (by rfl) (by rfl) ?_)
   (simp (maxSteps := 1000000) [])
   have e : initZ q args = decide (args ≤ q.l.tdiv 2) := by unfold initZ; rw [if_neg h4]; simp [h5]
   (first | exact hR _ _ FrA | exact hR _ _ FnA | exact hR _ _ (Xf (hq := by simp [AV.erase, AV.unview, e]; done)))
theorem Jt7r {P : Program} {p : Nums} (A : All P p) (w : List Pair) (args : Int) (h0 : w.length < 1000000) (hw : ∀ q ∈ w, 0 ≤ q.l ∧ q.l ≤ 9223372036854775807 ∧ 0 ≤ q.v ∧ q.v ≤ 1000000000000000) : Jt3p P p.edge_Entry [.d (pairsD w), AI args] [] fun o _ => o = .ret (entA w args) := by
 refine A.edge_Entry.run rfl fun R hR => ?_
 (simp (maxSteps := 1000000) [Jtan, pairsD])
 refine Jt9 (fun k : Nat => ⟨[(10, AI k), (9, AI w.length), (8, .d (.sl (w.map Pair.row))), (5, AI 0), (4, .ptr 0 0), (1, AI args)], [.mem [AI 0, AI 0]]⟩) (fun k => k ≤ w.length ∧ ∀ q ∈ w.take k, initZ q args = true) (fun k => w.length - k) 0 (by simp) (by (exact wkA)) ?_
 rintro k ⟨hk, hz⟩ N hN
 (simp (maxSteps := 1000000) [])
 ((first | refine Xc (fun h2 => ?_) (fun h2 => ?_) | refine Xo (fun h2 => ?_) (fun h2 => ?_)) <;> (try simp only [Xz, Xy] at h2))
 ·have hkl : k < w.length := by simpa using h2
  have hb : w[k]? = some w[k] := by simp
  have hw1 := Jtom (k := k) (by omega)
  obtain ⟨g1, g2, g3, g4⟩ := hw w[k] (List.getElem_mem hkl)
  (simp (maxSteps := 1000000) [h2, hb, Pair.row])
  (refine Jtt (Jt7t A w[k] args g1 g2 g3 g4) (by rfl) (by rfl) ?_)
  (simp (maxSteps := 1000000) [])
  ((first | refine Xc (fun h3 => ?_) (fun h3 => ?_) | refine Xo (fun h3 => ?_) (fun h3 => ?_)) <;> (try simp only [Xz, Xy] at h3))
  ·(simp (maxSteps := 1000000) [h3])
   obtain ⟨e1, e2⟩ := ent_at hkl hz (by simpa using h3)
   (first | exact hR _ _ FrA | exact hR _ _ FnA | exact hR _ _ (Xf (hq := by simp [AV.erase, AV.unview, entA, e1, e2, Pair.av]; done)))
  ·(simp (maxSteps := 1000000) [h3, hw1])
   refine hN _ (k + 1) ⟨hkl, ?_⟩ (by (exact wkA)) (by omega)
   intro q hq
   rw [List.take_add_one, hb] at hq
   rcases List.mem_append.1 hq with hq | hq
   ·exact hz q hq
   ·simp at hq; subst hq; simpa using h3
 ·have hk' : k = w.length := by simp at h2; omega
  subst hk'
  rw [List.take_length] at hz
  have e1 : (w.all fun q => initZ q args) = true := by rw [List.all_eq_true]; exact hz
  have e2 : w.find? (fun q => !initZ q args) = none := by rw [List.find?_eq_none]; intro q hq; simp [hz q hq]
  (simp (maxSteps := 1000000) [])
  (first | exact hR _ _ FrA | exact hR _ _ FnA | exact hR _ _ (Xf (hq := by simp [AV.erase, AV.unview, entA, e1, e2, Pair.av]; done)))
theorem Jt7s {P : Program} {p : Nums} (A : All P p) (out w : List Pair) (h0 : out.length < 1000000) (h1 : w.length < 1000000) (ho : Srt out) (hw : Srt w) : Jt3p P p.edge_Implies [.d (pairsD out), .d (pairsD w)] [] fun o _ => o = .ret (impA out w) := by
 refine A.edge_Implies.run rfl fun R hR => ?_
 (simp (maxSteps := 1000000) [Jtao])
 (refine Jtt (Jth8 A w out h1 h0 hw ho) (by rfl) (by rfl) ?_)
 (simp (maxSteps := 1000000) [missA, Pair.av])
 ((first | refine Xc (fun h2 => ?_) (fun h2 => ?_) | refine Xo (fun h2 => ?_) (fun h2 => ?_)) <;> (try simp only [Xz, Xy] at h2))
 ·(simp (maxSteps := 1000000) [h2])
  (first | exact hR _ _ FrA | exact hR _ _ FnA | exact hR _ _ (Xf (hq := by simp [AV.erase, AV.unview, impA, h2, Pair.av]; done)))
 ·(simp (maxSteps := 1000000) [h2])
  have e : missP w out = none := by simpa using h2
  (first | exact hR _ _ FrA | exact hR _ _ FnA | exact hR _ _ (Xf (hq := by simp [AV.erase, AV.unview, impA, e, Pair.av]; done)))
end
theorem Jtgs {l : List Pair} {k : Nat} (hk : k < l.length) (vregs regs slots : Int) : pErr l vregs regs slots k = if l[k].v < 0 ∨ vregs ≤ l[k].v then 9 else if rngZ l[k].l regs slots = false then 10 else if 0 < k ∧ (match l[k - 1]? with | some q0 => lessP q0 l[k] | none => true) = false then 13 else 0 := by
 unfold pErr; rw [List.getElem?_eq_getElem hk]; try rfl
section
theorem Jt7v {P : Program} {p : Nums} (A : All P p) (l : List Pair) (vregs regs slots : Int) (h0 : l.length < 1000000000) (hok : ∀ q ∈ l, okZ q.l) : Jt3p P p.edge_pairs [.d (pairsD l), AI vregs, AI regs, AI slots] [] fun o _ => o = .ret (AI (pErrs l vregs regs slots)) := by
 refine A.edge_pairs.run rfl fun R hR => ?_
 (simp (maxSteps := 1000000) [Jtar, pairsD])
 refine Jt9 (fun k : Nat => ⟨[(13, AI k), (12, AI l.length), (11, .d (.sl (l.map Pair.row))), (0, .d (.sl (l.map Pair.row))), (1, AI vregs), (2, AI regs), (3, AI slots)], []⟩)
  (fun k => k ≤ l.length ∧ ∀ e ∈ ((List.range l.length).map (pErr l vregs regs slots)).take k, e = 0) (fun k => l.length - k) 0 (by simp) (by (exact wkA)) ?_
 rintro k ⟨hk, hz⟩ N hN
 (simp (maxSteps := 1000000) [])
 ((first | refine Xc (fun h2 => ?_) (fun h2 => ?_) | refine Xo (fun h2 => ?_) (fun h2 => ?_)) <;> (try simp only [Xz, Xy] at h2))
 ·have hkl : k < l.length := by simpa using h2
  have hb : l[k]? = some l[k] := by simp
  have hr : (List.range l.length)[k]? = some k := by simp [hkl]
  have hw := Jtom (k := k) (by omega)
  obtain ⟨g1, g2⟩ := hok _ (List.getElem_mem hkl)
  have hv := Jtgs hkl vregs regs slots
  (simp (maxSteps := 1000000) [h2, hb, Pair.row])
  ((first | refine Xc (fun h3 => ?_) (fun h3 => ?_) | refine Xo (fun h3 => ?_) (fun h3 => ?_)) <;> (try simp only [Xz, Xy] at h3))
  ·(simp (maxSteps := 1000000) [h3])
   rw [if_pos (.inl h3)] at hv
   have e := Jtgt hz hkl (by rw [hv]; decide)
   (first | exact hR _ _ FrA | exact hR _ _ FnA | exact hR _ _ (Xf (hq := by simp [AV.erase, AV.unview, e, hv]; done)))
  (simp (maxSteps := 1000000) [h3])
  ((first | refine Xc (fun h4 => ?_) (fun h4 => ?_) | refine Xo (fun h4 => ?_) (fun h4 => ?_)) <;> (try simp only [Xz, Xy] at h4))
  ·(simp (maxSteps := 1000000) [h4])
   rw [if_pos (.inr h4)] at hv
   have e := Jtgt hz hkl (by rw [hv]; decide)
   (first | exact hR _ _ FrA | exact hR _ _ FnA | exact hR _ _ (Xf (hq := by simp [AV.erase, AV.unview, e, hv]; done)))
  (simp (maxSteps := 1000000) [h4])
  rw [if_neg (by omega)] at hv
  (refine Jtt (Jte1 A l[k].l regs slots g1 g2) (by rfl) (by rfl) ?_)
  (simp (maxSteps := 1000000) [])
  ((first | refine Xc (fun h5 => ?_) (fun h5 => ?_) | refine Xo (fun h5 => ?_) (fun h5 => ?_)) <;> (try simp only [Xz, Xy] at h5))
  ·(simp (maxSteps := 1000000) [h5])
   rw [if_pos h5] at hv
   have e := Jtgt hz hkl (by rw [hv]; decide)
   (first | exact hR _ _ FrA | exact hR _ _ FnA | exact hR _ _ (Xf (hq := by simp [AV.erase, AV.unview, e, hv]; done)))
  rw [if_neg (by simp [h5])] at hv
  (simp (maxSteps := 1000000) [h5])
  ((first | refine Xc (fun h6 => ?_) (fun h6 => ?_) | refine Xo (fun h6 => ?_) (fun h6 => ?_)) <;> (try simp only [Xz, Xy] at h6))
  ·obtain ⟨lo, hlo⟩ : ∃ x, x = k - 1 := ⟨_, rfl⟩
   have hk0 : 0 < k := by omega
   have hll : lo < l.length := by omega
   have hbl : l[lo]? = some l[lo] := by simp
   have hwl : IntKind.i64.wrap ((k : Int) - 1) = (lo : Int) := by
    have e1 : (k : Int) - 1 = (lo : Int) := by omega
    rw [e1]; exact wrapN (by omega)
   rw [← hlo, hbl] at hv
   simp only [hk0, true_and] at hv
   have c := Jth5 A l[lo] l[k]
   obtain ⟨b, hbe⟩ : ∃ b, b = lessP l[lo] l[k] := ⟨_, rfl⟩
   rw [← hbe] at hv c
   (simp (maxSteps := 1000000) [h6, hwl, hbl, Pair.row])
   (refine Jtt c (by rfl) (by rfl) ?_)
   (simp (maxSteps := 1000000) [])
   ((first | refine Xc (fun h7 => ?_) (fun h7 => ?_) | refine Xo (fun h7 => ?_) (fun h7 => ?_)) <;> (try simp only [Xz, Xy] at h7))
   ·(simp (maxSteps := 1000000) [h7])
    rw [if_pos h7] at hv
    have e := Jtgt hz hkl (by rw [hv]; decide)
    (first | exact hR _ _ FrA | exact hR _ _ FnA | exact hR _ _ (Xf (hq := by simp [AV.erase, AV.unview, e, hv]; done)))
   ·rw [if_neg (by simp [h7])] at hv
    (simp (maxSteps := 1000000) [h7, hw])
    exact hN _ (k + 1) ⟨hkl, take_zero hz hr hv⟩ (by (exact wkA)) (by omega)
  ·rw [if_neg (by omega)] at hv
   (simp (maxSteps := 1000000) [h6, hw])
   exact hN _ (k + 1) ⟨hkl, take_zero hz hr hv⟩ (by (exact wkA)) (by omega)
 ·have hk' : k = l.length := by simp at h2; omega
  subst hk'
  have hfe : pErrs l vregs regs slots = 0 := Jt8p (by rw [List.take_of_length_le (by simp)] at hz; exact hz)
  (simp (maxSteps := 1000000) [])
  (first | exact hR _ _ FrA | exact hR _ _ FnA | exact hR _ _ (Xf (hq := by simp [AV.erase, AV.unview, hfe]; done)))
theorem Jt7u {P : Program} {p : Nums} (A : All P p) (w : List (List Pair)) (blocks vregs regs slots : Int) (h0 : w.length < 1000000000) (h1 : wTotal w < 1000000000) (hl : ∀ l ∈ w, l.length < 1000000000) (hok : okW w) :
  Jt3p P p.edge_Valid [.d (witD w), AI blocks, AI vregs, AI regs, AI slots] [] fun o _ => o = .ret (AI (Jt7q w blocks vregs regs slots)) := by
 refine A.edge_Valid.run rfl fun R hR => ?_
 (simp (maxSteps := 1000000) [Jtaq, witD])
 ((first | refine Xc (fun a1 => ?_) (fun a1 => ?_) | refine Xo (fun a1 => ?_) (fun a1 => ?_)) <;> (try simp only [Xz, Xy] at a1))
 ·(simp (maxSteps := 1000000) [a1])
  have e : Jt7q w blocks vregs regs slots = 14 := by unfold Jt7q; rw [if_pos a1]
  (first | exact hR _ _ FrA | exact hR _ _ FnA | exact hR _ _ (Xf (hq := by simp [AV.erase, AV.unview, e]; done)))
 (simp (maxSteps := 1000000) [a1])
 (refine Jtt (Jt7w A w h0 h1) (by rfl) (by rfl) ?_)
 (simp (maxSteps := 1000000) [])
 ((first | refine Xc (fun a2 => ?_) (fun a2 => ?_) | refine Xo (fun a2 => ?_) (fun a2 => ?_)) <;> (try simp only [Xz, Xy] at a2))
 ·(simp (maxSteps := 1000000) [a2])
  have e : Jt7q w blocks vregs regs slots = 6 := by unfold Jt7q; rw [if_neg (fun h => h a1), if_pos (by omega)]
  (first | exact hR _ _ FrA | exact hR _ _ FnA | exact hR _ _ (Xf (hq := by simp [AV.erase, AV.unview, e]; done)))
 (simp (maxSteps := 1000000) [a2])
 have e : Jt7q w blocks vregs regs slots = Jt8o (w.map fun l => pErrs l vregs regs slots) := by unfold Jt7q; rw [if_neg (fun h => h a1), if_neg (by omega)]
 refine Jt9 (fun k : Nat => ⟨[(25, AI k), (24, AI w.length), (23, .d (.sl (w.map fun l => [pairsD l]))), (2, AI vregs), (3, AI regs), (4, AI slots)], []⟩)
  (fun k => k ≤ w.length ∧ ∀ e ∈ (w.map fun l => pErrs l vregs regs slots).take k, e = 0) (fun k => w.length - k) 0 (by simp) (by (exact wkA)) ?_
 rintro k ⟨hk, hz⟩ N hN
 (simp (maxSteps := 1000000) [])
 ((first | refine Xc (fun h2 => ?_) (fun h2 => ?_) | refine Xo (fun h2 => ?_) (fun h2 => ?_)) <;> (try simp only [Xz, Xy] at h2))
 ·have hkl : k < w.length := by simpa using h2
  have hb : w[k]? = some w[k] := by simp
  have hw := Jtom (k := k) (by omega)
  (simp (maxSteps := 1000000) [h2, hb])
  (refine Jtt (Jt7v A w[k] vregs regs slots (hl _ (List.getElem_mem hkl)) (hok _ (List.getElem_mem hkl))) (by rfl) (by rfl) ?_)
  (simp (maxSteps := 1000000) [])
  ((first | refine Xc (fun h3 => ?_) (fun h3 => ?_) | refine Xo (fun h3 => ?_) (fun h3 => ?_)) <;> (try simp only [Xz, Xy] at h3))
  ·(simp (maxSteps := 1000000) [h3])
   have e2 : Jt8o (w.map fun l => pErrs l vregs regs slots) = pErrs w[k] vregs regs slots := Jt8r hz (by simp [hkl]) h3
   (first | exact hR _ _ FrA | exact hR _ _ FnA | exact hR _ _ (Xf (hq := by simp [AV.erase, AV.unview, e, e2]; done)))
  ·(simp (maxSteps := 1000000) [h3, hw])
   exact hN _ (k + 1) ⟨hkl, take_zero hz hb (by simpa using h3)⟩ (by (exact wkA)) (by omega)
 ·have hk' : k = w.length := by simp at h2; omega
  subst hk'
  have hfe : Jt8o (w.map fun l => pErrs l vregs regs slots) = 0 := Jt8p (by rw [List.take_of_length_le (by simp)] at hz; exact hz)
  (simp (maxSteps := 1000000) [])
  (first | exact hR _ _ FrA | exact hR _ _ FnA | exact hR _ _ (Xf (hq := by simp [AV.erase, AV.unview, e, hfe]; done)))
end
theorem Jtfd (i : Mach) (regs slots : Int) : Jtmf i regs slots = Jtid i regs slots := by
 have hk : (knownZ i.op && i.op != 2) = false ↔ (i.op < 1 ∨ 18 < i.op ∨ i.op = 2) := by
  rw [← Bool.not_eq_true, Bool.and_eq_true]
  simp only [knownZ, decide_eq_true_eq, bne_iff_ne, ne_eq]
  omega
 unfold Jtmf Jtid
 by_cases h1 : i.op < 1 ∨ 18 < i.op ∨ i.op = 2
 ·rw [if_pos (hk.2 h1), if_pos h1]
 ·rw [if_neg (fun h => h1 (hk.1 h)), if_neg h1]
  by_cases h2 : i.op = 18
  ·rw [if_pos h2, if_pos h2]
   have hc : clearM i = false ↔ (i.d ≠ 0 ∨ i.a ≠ 0 ∨ i.b ≠ 0 ∨ i.imm ≠ 0) := by
    rw [← Bool.not_eq_true]; unfold clearM; simp only [Bool.and_eq_true, beq_iff_eq]; omega
   by_cases hA : rngZ i.dst regs slots = false ∨ rngZ i.src regs slots = false ∨ (i.dst.tmod 2 = 1 ∧ i.src.tmod 2 = 1)
   ·have e : movZ i regs slots = 10 := by
     unfold movZ
     rw [if_pos]
     rcases hA with h | h | h
     ·exact .inr (.inl h)
     ·exact .inr (.inr h)
     ·exact .inl h
    rw [e, if_pos (by decide), if_pos hA]
   ·have e : movZ i regs slots = 0 := by
     unfold movZ
     rw [if_neg]
     rintro (h | h | h)
     ·exact hA (.inr (.inr h))
     ·exact hA (.inl h)
     ·exact hA (.inr (.inl h))
    rw [e, if_neg (by decide), if_neg hA]
    by_cases hd : clearM i = false
    ·rw [if_pos hd, if_pos (hc.1 hd)]
    ·rw [if_neg hd, if_neg (fun h => hd (hc.2 h))]
  ·rw [if_neg h2, if_neg h2, Jtd2]
   have hc : clearO i = false ↔ (i.dst ≠ 0 ∨ i.src ≠ 0) := by
    rw [← Bool.not_eq_true]; unfold clearO; simp only [Bool.and_eq_true, beq_iff_eq]; omega
   show (if Jtia i.instr regs ≠ 0 then Jtia i.instr regs else if clearO i = false then 12 else 0) = if Jtia i.instr regs = 0 ∧ (i.dst ≠ 0 ∨ i.src ≠ 0) then 12 else Jtia i.instr regs
   by_cases he : Jtia i.instr regs = 0
   ·rw [if_neg (fun h => h he)]
    by_cases hd : clearO i = false
    ·rw [if_pos hd, if_pos ⟨he, hc.1 hd⟩]
    ·rw [if_neg hd, if_neg (fun h => hd (hc.2 h.2)), he]
   ·rw [if_pos he, if_neg (fun h => he h.1)]
theorem sb_eq (code : List Mach) (regs slots : Int) (k : Nat) : sbErr code regs slots k = mErr code regs slots k := by
 unfold sbErr mErr
 cases hk : code[k]? with
 | none => rfl
 | some x =>
  have hlt := (List.getElem?_eq_some_iff.1 hk).1
  simp only [Jtfd]
  by_cases h : 64 < runF (code.take (k + 1))
  ·rw [if_pos h, if_pos ((Jtfw hlt).1 h)]
  ·rw [if_neg h, if_neg (fun h' => h ((Jtfw hlt).2 h'))]
theorem Jtet (f : MFunc) : Jtme f = Jtic f := by
 have e : ∀ b : MBlock, Jtmd b f.regs f.slots f.blocks.length = Jtib b f.regs f.slots f.blocks.length := by
  intro b
  have e1 : sbErr b.code f.regs f.slots = mErr b.code f.regs f.slots := funext (sb_eq _ _ _)
  unfold Jtmd Jtib sbErrs mErrs
  rw [e1, Jtnh]
 simp only [Jtme, Jtic, e]
structure okCert (c : Cert) : Prop where
 s0 : c.S.blocks.length < 1000000000
 s1 : codeN c.S.blocks < 1000000000
 t0 : c.T.blocks.length < 1000000000
 t1 : mcodeN c.T.blocks < 1000000000
 t2 : ∀ b ∈ c.T.blocks, okM b
 w0 : c.W.length < 1000000000
 w1 : wTotal c.W < 1000000000
 w2 : okW c.W
theorem okCert.w3 {c : Cert} (h : okCert c) : ∀ l ∈ c.W, l.length < 1000000000 := by
 intro l hl
 obtain ⟨k, hk⟩ := List.getElem?_of_mem hl
 have h1 := Jto8 hk
 have h2 := Jto6 c.W (k + 1)
 have := h.w1
 omega
section
theorem Jt6m {P : Program} {p : Nums} (A : All P p) (c : Cert) (ok : okCert c) : Jt3p P p.checker_Valid [c.av] [] fun o _ => o = .ret (AI (validZ c)) := by
 obtain ⟨T, hT⟩ : ∃ T, T = validZ c := ⟨_, rfl⟩
 refine A.checker_Valid.run rfl fun R hR => ?_
 rw [← hT] at hR
 unfold validZ at hT
 have c1 := Jtl0 A c.S ok.s0 ok.s1
 have c2 := Jtee A c.T ok.t0 ok.t1 ok.t2
 have c3 := Jt7u A c.W c.S.blocks.length c.S.regs c.T.regs c.T.slots ok.w0 ok.w1 ok.w3 ok.w2
 rw [Jt6k] at c1
 rw [Jtet] at c2
 obtain ⟨e1, he1⟩ : ∃ e, e = Jti9 c.S := ⟨_, rfl⟩
 obtain ⟨e2, he2⟩ : ∃ e, e = Jtic c.T := ⟨_, rfl⟩
 obtain ⟨e3, he3⟩ : ∃ e, e = Jt7q c.W c.S.blocks.length c.S.regs c.T.regs c.T.slots := ⟨_, rfl⟩
 rw [← he1] at hT c1
 rw [← he2] at hT c2
 rw [← he3] at hT c3
 (simp (maxSteps := 1000000) [Jtal, Cert.av])
 (refine Jtt c1 (by rfl) (by rfl) ?_)
 (simp (maxSteps := 1000000) [])
 ((first | refine Xc (fun h1 => ?_) (fun h1 => ?_) | refine Xo (fun h1 => ?_) (fun h1 => ?_)) <;> (try simp only [Xz, Xy] at h1))
 ·rw [if_pos h1] at hT
  (simp (maxSteps := 1000000) [h1])
  (first | exact hR _ _ FrA | exact hR _ _ FnA | exact hR _ _ (Xf (hq := by simp [AV.erase, AV.unview, hT]; done)))
 rw [if_neg (by simpa using h1)] at hT
 (simp (maxSteps := 1000000) [h1])
 (refine Jtt c2 (by rfl) (by rfl) ?_)
 (simp (maxSteps := 1000000) [])
 ((first | refine Xc (fun h2 => ?_) (fun h2 => ?_) | refine Xo (fun h2 => ?_) (fun h2 => ?_)) <;> (try simp only [Xz, Xy] at h2))
 ·rw [if_pos h2] at hT
  (simp (maxSteps := 1000000) [h2])
  (first | exact hR _ _ FrA | exact hR _ _ FnA | exact hR _ _ (Xf (hq := by simp [AV.erase, AV.unview, hT]; done)))
 rw [if_neg (by simpa using h2)] at hT
 (simp (maxSteps := 1000000) [h2])
 ((first | refine Xc (fun h3 => ?_) (fun h3 => ?_) | refine Xo (fun h3 => ?_) (fun h3 => ?_)) <;> (try simp only [Xz, Xy] at h3))
 ·rw [if_pos (.inl (by omega))] at hT
  (simp (maxSteps := 1000000) [h3])
  (first | exact hR _ _ FrA | exact hR _ _ FnA | exact hR _ _ (Xf (hq := by simp [AV.erase, AV.unview, hT]; done)))
 (simp (maxSteps := 1000000) [h3])
 ((first | refine Xc (fun h4 => ?_) (fun h4 => ?_) | refine Xo (fun h4 => ?_) (fun h4 => ?_)) <;> (try simp only [Xz, Xy] at h4))
 ·rw [if_pos (.inr h4)] at hT
  (simp (maxSteps := 1000000) [h4])
  (first | exact hR _ _ FrA | exact hR _ _ FnA | exact hR _ _ (Xf (hq := by simp [AV.erase, AV.unview, hT]; done)))
 rw [if_neg (by omega)] at hT
 (simp (maxSteps := 1000000) [h4])
 (refine Jtt c3 (by rfl) (by rfl) ?_)
 (simp (maxSteps := 1000000) [])
 (first | exact hR _ _ FrA | exact hR _ _ FnA | exact hR _ _ (Xf (hq := by simp [AV.erase, AV.unview, hT]; done)))
end
def VS : List Int := (List.range 61).map fun n : Nat => (n : Int)
def LS : List Int := (List.range 122).map fun n : Nat => (n : Int)
theorem mem_VS {x : Int} (h0 : 0 ≤ x) (h1 : x ≤ 60) : x ∈ VS := List.mem_map.2 ⟨x.toNat, List.mem_range.2 (by omega), by omega⟩
theorem mem_LS {x : Int} (h0 : 0 ≤ x) (h1 : x ≤ 121) : x ∈ LS := List.mem_map.2 ⟨x.toNat, List.mem_range.2 (by omega), by omega⟩
theorem VL_few : VS.length * LS.length < 100000 := by decide
theorem src_ok {f : Func} (h : Jti9 f = 0) : 0 ≤ f.args ∧ f.args ≤ f.regs ∧ 0 < f.blocks.length ∧ ∀ b ∈ f.blocks, (∀ i ∈ b.code, Jtia i f.regs = 0) ∧ Jtig b.term f.regs f.blocks.length = 0 := by
 unfold Jti9 at h
 split at h
 ·cases h
 split at h
 ·cases h
 split at h
 ·cases h
 split at h
 ·cases h
 refine ⟨by omega, by omega, by omega, fun b hb => ?_⟩
 have h3 := Jt8q h _ (List.mem_map_of_mem hb)
 simp only [Jti8] at h3
 split at h3
 ·rename_i h5; exact absurd h3 h5
 ·rename_i h5
  exact ⟨fun i hi => Jt8q (es := b.code.map (Jtia · f.regs)) (by simpa using h5) _ (List.mem_map_of_mem hi), h3⟩
theorem Jtd1 {i : Instr} {regs : Int} (h : Jtia i regs = 0) (h0 : 0 ≤ regs) (h1 : regs ≤ 60) : i.d ∈ VS := by
 unfold Jtia at h
 split at h
 ·cases h
 split at h
 ·cases h
 rename_i h9
 split at h
 ·cases h
 rename_i h12
 cases hu : usesD i.op with
 | true =>
  simp only [bad9, hu, Bool.true_and, Bool.or_eq_true, not_or, Bool.not_eq_true', inZ] at h9
  have := h9.1.1
  simp at this
  exact mem_VS this.1 (by omega)
 | false =>
  simp only [bad12, hu, Bool.not_false, Bool.true_and, Bool.or_eq_true, not_or, bne_iff_ne, ne_eq, Decidable.not_not] at h12
  rw [h12.1.1.1]; exact mem_VS (by omega) (by omega)
theorem Jtnj {t : Term} {regs blocks : Int} (h : Jtig t regs blocks = 0) : ∀ x ∈ succsZ t, 0 ≤ x ∧ x < blocks := by
 unfold Jtig at h
 unfold succsZ
 intro x hx
 split at h
 ·rename_i k1
  rw [if_pos k1] at hx
  simp only [List.mem_singleton] at hx
  split at h
  ·cases h
  ·rename_i k2
   subst hx; simpa [inZ] using k2
 ·rename_i k1
  rw [if_neg k1] at hx
  split at h
  ·rename_i k3
   rw [if_pos k3] at hx
   split at h
   ·cases h
   split at h
   ·cases h
   rename_i k4 k5
   simp only [not_or] at k5
   simp only [List.mem_cons, List.not_mem_nil, or_false] at hx
   rcases hx with rfl | rfl
   ·simpa [inZ] using k5.1
   ·simpa [inZ] using k5.2
  ·rename_i k3
   rw [if_neg k3] at hx; simp at hx
theorem mac_ok {f : MFunc} (h : Jtic f = 0) : 0 ≤ f.args ∧ f.args ≤ f.slots ∧ 0 ≤ f.regs ∧ ∀ b ∈ f.blocks, ∀ x ∈ b.code, Jtid x f.regs f.slots = 0 := by
 unfold Jtic at h
 split at h
 ·cases h
 split at h
 ·cases h
 split at h
 ·cases h
 split at h
 ·cases h
 split at h
 ·cases h
 refine ⟨by omega, by omega, by omega, fun b hb x hx => ?_⟩
 have h3 := Jt8q h _ (List.mem_map_of_mem hb)
 unfold Jtib at h3
 split at h3
 ·rename_i h5; exact absurd h3 h5
 ·rename_i h5
  have h6 : mErrs b.code f.regs f.slots = 0 := by simpa using h5
  obtain ⟨k, hk⟩ := List.getElem?_of_mem hx
  have hlt := (List.getElem?_eq_some_iff.1 hk).1
  have h7 := Jt8q h6 (mErr b.code f.regs f.slots k) (List.mem_map.2 ⟨k, List.mem_range.2 hlt, rfl⟩)
  unfold mErr at h7
  rw [hk] at h7
  simp only at h7
  split at h7
  ·rename_i h8; exact absurd h7 h8
  ·rename_i h8; simpa using h8
theorem rng_ok {l r s : Int} (h : rngZ l r s = true) (hr : r ≤ 60) (hs : s ≤ 60) : 0 ≤ l ∧ l ≤ 121 := by
 unfold rngZ at h
 split at h
 ·rename_i h1
  simp only [Bool.and_eq_true, decide_eq_true_eq] at h
  have := Int.tdiv_eq_ediv_of_nonneg (b := 2) h.1
  omega
 ·rename_i h1
  simp only [Bool.and_eq_true, decide_eq_true_eq] at h
  have := Int.tdiv_eq_ediv_of_nonneg (b := 2) h.1
  omega
theorem Jtfe {x : Mach} {regs slots : Int} (h : Jtid x regs slots = 0) (h0 : 0 ≤ regs) (h1 : regs ≤ 60) (h2 : slots ≤ 60) : x.dst ∈ LS ∧ regZ x.d ∈ LS := by
 unfold Jtid at h
 have hz : ∀ d : Int, 0 ≤ d → d ≤ 60 → regZ d ∈ LS := by
  intro d k0 k1
  have : regZ d = 2 * d := by unfold regZ; exact wrap_i64 (by omega) (by omega)
  rw [this]; exact mem_LS (by omega) (by omega)
 split at h
 ·cases h
 split at h
 ·split at h
  ·cases h
  rename_i k1
  split at h
  ·cases h
  rename_i k2
  simp only [not_or, Bool.not_eq_false] at k1
  obtain ⟨g0, g1⟩ := rng_ok k1.1 h1 h2
  refine ⟨mem_LS g0 g1, ?_⟩
  have : x.d = 0 := by simp only [not_or, Decidable.not_not, ne_eq] at k2; exact k2.1
  rw [this]; exact hz 0 (by omega) (by omega)
 ·split at h
  ·cases h
  rename_i k1
  have e : x.dst = 0 := by
   rw [h] at k1
   simp only [true_and, not_or, ne_eq, Decidable.not_not] at k1
   exact k1.1
  have hd := Jtd1 h h0 h1
  obtain ⟨n, hn, hd⟩ := List.mem_map.1 hd
  simp only at hd
  have := List.mem_range.1 hn
  refine ⟨by rw [e]; exact mem_LS (by omega) (by omega), hz _ (by omega) (by omega)⟩
structure Fit (c : Cert) : Prop where
 lenT : c.T.blocks.length = c.S.blocks.length
 lenW : c.W.length = c.S.blocks.length
 pos : 0 < c.S.blocks.length
 few : c.S.blocks.length ≤ 40
 w : ∀ l ∈ c.W, Srt l ∧ l.length ≤ 400 ∧ ∀ q ∈ l, 0 ≤ q.v ∧ q.v ≤ 60 ∧ 0 ≤ q.l ∧ q.l ≤ 121
 vl : ∀ b ∈ c.S.blocks, ∀ m ∈ c.T.blocks, VLOk VS LS b.code m.code
 cs : ∀ b ∈ c.S.blocks, b.code.length ≤ 100
 ct : ∀ m ∈ c.T.blocks, m.code.length ≤ 900
 to : ∀ b ∈ c.S.blocks, ∀ x ∈ succsZ b.term, 0 ≤ x ∧ x < c.S.blocks.length
 ars : 0 ≤ c.S.args ∧ c.S.args ≤ 60
structure Good (r : Res) : Prop where
 srt : Srt r.out
 len : r.out.length < 100000
 steps : r.steps ≤ 1000000000
 lg : r.largest < 100000
theorem Jt6j {V L : List Int} {b : Block} {m : MBlock} {l : List Pair} {most : Int} (hl : ∀ q ∈ l, q.v ∈ V ∧ q.l ∈ L) (hv : VLOk V L b.code m.code) (few : V.length * L.length < 100000) (hl0 : l.length < 100000)
  (hb0 : b.code.length ≤ 1000) (hm0 : m.code.length ≤ 1000) : Over V L (checkZ b m l most).out := by
 have hnil : Over V L [] := ⟨List.Pairwise.nil, fun q hq => by simp at hq⟩
 obtain ⟨a1, a2, a3⟩ := Jt4p b.code m.code
 unfold checkZ
 split
 ·exact hnil
 ·by_cases h2 : (if (alignZ b.code m.code).2.2 = 0 ∧ termsZ b.term m.term = false then 20 else (alignZ b.code m.code).2.2) ≠ 0
  ·simp only [if_pos h2]; exact hnil
  ·simp only [if_neg h2]
   have hover : Over V L (makeP l) := ⟨Jtmp l, fun q hq => hl q (Jtf1.1 hq)⟩
   have hroom : Room V L ⟨makeP l, 0, l.length⟩ (0 + 1 + needRs (alignZ b.code m.code).1) := by
    refine ⟨hover, few, ?_, by simp only; omega⟩
    have h1 := Jtg0 a1
    have h2 : (alignZ b.code m.code).1.length * (3 + m.code.length + b.code.length) ≤ 1001 * 2003 := Nat.mul_le_mul (by omega) (by omega)
    simp only
    omega
   have hr := Jtjn (most := most) hv hroom a1
   generalize runC most b m (alignZ b.code m.code).1 ⟨makeP l, 0, l.length⟩ = r at hr
   obtain ⟨t, e⟩ := r
   simp only
   split
   ·exact hr.over
   ·exact hnil
theorem Fit.good {c : Cert} (h : Fit c) {b : Block} {m : MBlock} {l : List Pair} (hb : b ∈ c.S.blocks) (hm : m ∈ c.T.blocks) (hl : l ∈ c.W) (most : Int) : Good (checkZ b m l most) := by
 obtain ⟨w1, w2, w3⟩ := h.w l hl
 have k1 : ∀ q ∈ l, q.v ∈ VS ∧ q.l ∈ LS := fun q hq => by
  obtain ⟨a1, a2, a3, a4⟩ := w3 q hq
  exact ⟨mem_VS a1 a2, mem_LS a3 a4⟩
 have c1 := h.cs b hb
 have c2 := h.ct m hm
 have o := Jt6j (most := most) k1 (h.vl b hb m hm) VL_few (by omega) (by omega) (by omega)
 obtain ⟨r1, r2⟩ := Jt6i (most := most) k1 (h.vl b hb m hm) VL_few (by omega) (by omega) (by omega)
 have bd := (Jt6h b m l most (Jtep l)).1
 refine ⟨o.srt, Nat.lt_of_le_of_lt o.len VL_few, ?_, r1⟩
 have : (3 * m.code.length + b.code.length + 1) * ((checkZ b m l most).largest + 1) ≤ 3001 * 100000 := Nat.mul_le_mul (by omega) (by omega)
 omega
theorem fit_w0 {c : Cert} (h : Fit c) : c.W[0]? = some (w0 c) := by
 have := h.lenW; have := h.pos
 unfold w0
 rw [List.getElem?_eq_getElem (by omega)]; rfl
theorem Jt8t {c : Cert} (h : Fit c) : w0 c ∈ c.W := List.mem_of_getElem? (fit_w0 h)
theorem Jtfn {w : List (List Pair)} {k : Nat} {l : List Pair} (h : w[k]? = some l) : mostW (w.take (k + 1)) = max (mostW (w.take k)) l.length := by
 unfold mostW
 rw [List.map_take, List.map_take]
 exact Jtfm (by rw [List.getElem?_map, h]; rfl)
theorem Jtfp {w : List (List Pair)} {n : Nat} (h : ∀ l ∈ w, l.length ≤ n) : mostW w ≤ n := by
 apply Nat.le_of_not_lt
 intro hlt
 obtain ⟨x, hx, hn⟩ := Jtfl.1 hlt
 obtain ⟨l, hl, rfl⟩ := List.mem_map.1 hx
 have := h l hl
 omega
def begC (c : Cert) : Rep := { rep0 c with err := if ((w0 c).all fun q => initZ q c.S.args) = true then 0 else 23 }
section
theorem Jt6n {P : Program} {p : Nums} (A : All P p) (c : Cert) (h : Fit c) : Jt3p P p.checker_begin [c.av] [] fun o _ => o = .ret (begC c).av := by
 have hw0 := fit_w0 h
 obtain ⟨z1, z2, z3⟩ := h.w _ (Jt8t h)
 have hlenW := h.lenW
 have hfew := h.few
 have hen := Jt7r A (w0 c) c.S.args (by omega) (fun q hq => by obtain ⟨a1, a2, a3, a4⟩ := z3 q hq; exact ⟨by omega, by omega, by omega, by omega⟩)
 obtain ⟨er, her⟩ : ∃ e, e = (if ((w0 c).all fun q => initZ q c.S.args) = true then (0 : Int) else 23) := ⟨_, rfl⟩
 have hbg : begC c = ⟨er, 0, 0, 0, 0, 1 + (w0 c).length, mostW c.W⟩ := by rw [her]; rfl
 rw [hbg]
 unfold entA at hen
 rw [← her] at hen
 obtain ⟨pr, hpr⟩ : ∃ x, x = ((w0 c).find? fun q => !initZ q c.S.args).getD ⟨0, 0⟩ := ⟨_, rfl⟩
 rw [← hpr] at hen
 obtain ⟨wz, hwz⟩ : ∃ x, x = w0 c := ⟨_, rfl⟩
 rw [← hwz] at hen hw0 z2 ⊢
 obtain ⟨S, T, W⟩ := c
 obtain ⟨sa, sr, sb⟩ := S
 obtain ⟨ta, tr, ts, tb⟩ := T
 simp only at hen hw0 hlenW hfew h ⊢
 obtain ⟨sR, hsR⟩ : ∃ x, x = sb.map Block.row := ⟨_, rfl⟩
 obtain ⟨tR, htR⟩ : ∃ x, x = tb.map MBlock.row := ⟨_, rfl⟩
 refine A.checker_begin.run rfl fun R hR => ?_
 simp only [Cert.av, witD, ← hsR, ← htR]
 have w1 : IntKind.i64.wrap (1 + (wz.length : Int)) = ((1 + wz.length : Nat) : Int) := by rw [wrap_i64 (by omega) (by omega)]; omega
 (simp (maxSteps := 1000000) [Jtam, hw0, pairsD, w1])
 refine Jt9 (fun k : Nat => ⟨[(16, AI k), (15, AI W.length), (14, .d (.sl (W.map fun l => [pairsD l]))), (1, .ptr 0 0), (2, .ptr 1 0), (3, .ptr 2 0)],
  [.mem [AI sa, AI sr, .d (.sl sR), AI ta, AI tr, AI ts, .d (.sl tR), .d (.sl (W.map fun l => [pairsD l]))], .mem [AI 0, AI 0, AI 0, AI 0, AI 0, AI 0, AI 0], .mem [AI 0, AI 0, AI 0, AI 0, AI 0, AI ((1 + wz.length : Nat) : Int), AI (mostW (W.take k))]]⟩)
  (fun k => k ≤ W.length) (fun k => W.length - k) 0 (by simp) (by (exact wkA)) ?_
 intro k hk N hN
 (simp (maxSteps := 1000000) [])
 ((first | refine Xc (fun h2 => ?_) (fun h2 => ?_) | refine Xo (fun h2 => ?_) (fun h2 => ?_)) <;> (try simp only [Xz, Xy] at h2))
 ·have hkl : k < W.length := by simpa using h2
  have hb : W[k]? = some W[k] := by simp
  have hw := Jtom (k := k) (by omega)
  have hm := Jtfn hb
  have emx : (if mostW (W.take k) < W[k].length then ((W[k].length : Nat) : Int) else ((mostW (W.take k) : Nat) : Int)) = ((mostW (W.take (k + 1)) : Nat) : Int) := by
   rw [hm]; split <;> omega
  (simp (maxSteps := 1000000) [h2, hb, pairsD, hw, emx])
  exact hN _ (k + 1) hkl (by (exact wkA)) (by omega)
 ·have hk' : k = W.length := by simp at h2; omega
  subst hk'
  (simp (maxSteps := 1000000) [hw0])
  (refine Jtt hen (by rfl) (by rfl) ?_)
  (simp (maxSteps := 1000000) [])
  (first | exact hR _ _ FrA | exact hR _ _ FnA | exact hR _ _ (Xf (hq := by simp [AV.erase, AV.unview, Rep.av, List.take_length]; done)))
end
end Go.AE
set_option maxRecDepth 4000
namespace Go.AE
open Go
structure RepOk (i : Nat) (r : Rep) : Prop where
 blocks : r.blocks ≤ i
 edges : r.edges ≤ 2 * i
 steps : r.steps ≤ 1000 + 2000000000 * i
 lg : r.largest < 100000
def edgeR (w : List (List Pair)) (out : List Pair) (to : Nat) (r : Rep) : Rep := { r with edges := r.edges + 1, steps := r.steps + 1 + out.length + ((w[to]?).getD []).length }
structure RepIn (i k : Nat) (r : Rep) : Prop where
 blocks : r.blocks ≤ i + 1
 edges : r.edges ≤ 2 * i + k
 steps : r.steps ≤ 1000 + 2000000000 * i + 1000000000 + 200000 * k
 lg : r.largest < 100000
theorem RepIn.out {i k : Nat} {r : Rep} (h : RepIn i k r) (hk : k ≤ 2) : RepOk (i + 1) r := ⟨h.blocks, by have := h.edges; omega, by have := h.steps; omega, h.lg⟩
theorem RepIn.edge {w : List (List Pair)} {out wt : List Pair} {i k to : Nat} {r : Rep} (h : RepIn i k r) (ho : out.length < 100000) (hw : w[to]? = some wt) (hwl : wt.length ≤ 400) : RepIn i (k + 1) (edgeR w out to r) := by
 have := h.blocks; have := h.edges; have := h.steps; have := h.lg
 refine ⟨by simpa [edgeR] using h.blocks, by simp only [edgeR]; omega, ?_, by simpa [edgeR] using h.lg⟩
 simp only [edgeR, hw, Option.getD_some]; omega
theorem Jtn8 (t : Term) : (succsZ t).length ≤ 2 := by
 unfold succsZ; split
 ·simp
 ·split <;> simp
def Rep.cells (r : Rep) : List AV := [AI r.err, AI r.block, AI r.at_, AI r.blocks, AI r.edges, AI r.steps, AI r.largest]
theorem Jt7x (w : List (List Pair)) (out : List Pair) (i : Nat) (to : Nat) (ts : List Int) (k : Nat) (r : Rep) : edgesC w out i ((to : Int) :: ts) k r =
  if (missP ((w[to]?).getD []) out).isSome = true then ({ edgeR w out to r with err := 22, block := i, at_ := k }, true) else edgesC w out i ts (k + 1) (edgeR w out to r) := rfl
def blockR (x : Res) (r : Rep) : Rep := { r with blocks := r.blocks + 1, steps := r.steps + x.steps, largest := max r.largest x.largest }
theorem Jt5g {c : Cert} {i : Nat} {b : Block} {m : MBlock} {l : List Pair} (hb : c.S.blocks[i]? = some b) (hm : c.T.blocks[i]? = some m) (hl : c.W[i]? = some l) (r : Rep) : blockC c i r =
  if (checkZ b m l 1048576).err ≠ 0 then ({ blockR (checkZ b m l 1048576) r with err := (checkZ b m l 1048576).err, block := i, at_ := (checkZ b m l 1048576).at_ }, true)
  else edgesC c.W (checkZ b m l 1048576).out i (succsZ b.term) 0 (blockR (checkZ b m l 1048576) r) := by
 unfold blockC; rw [hb, hm, hl]; rfl
section
theorem Jt6l {P : Program} {p : Nums} (A : All P p) (S : SortOk P p) (C : ClosOk P p) (c : Cert) (ok : okCert c) (hfit : validZ c = 0 → Fit c) : Jt3p P p.checker_Check [c.av] [] fun o _ => o = .ret (Jtiz c).av := by
 obtain ⟨T, hT⟩ : ∃ T, T = Jtiz c := ⟨_, rfl⟩
 rw [← hT]
 unfold Jtiz at hT
 have cv := Jt6m A c ok
 have cb := Jt6n A c
 obtain ⟨v, hv⟩ : ∃ v, v = validZ c := ⟨_, rfl⟩
 rw [← hv] at cv hT hfit
 obtain ⟨sR, hsR⟩ : ∃ x, x = c.S.blocks.map Block.row := ⟨_, rfl⟩
 obtain ⟨tR, htR⟩ : ∃ x, x = c.T.blocks.map MBlock.row := ⟨_, rfl⟩
 obtain ⟨wR, hwR⟩ : ∃ x, x = c.W.map fun l => [pairsD l] := ⟨_, rfl⟩
 refine A.checker_Check.run rfl fun R hR => ?_
 simp only [Cert.av, witD, ← hsR, ← htR, ← hwR] at cv cb ⊢
 (simp (maxSteps := 1000000) [Jtak])
 (refine Jtt cv (by rfl) (by rfl) ?_)
 (simp (maxSteps := 1000000) [])
 ((first | refine Xc (fun h1 => ?_) (fun h1 => ?_) | refine Xo (fun h1 => ?_) (fun h1 => ?_)) <;> (try simp only [Xz, Xy] at h1))
 ·rw [if_pos h1] at hT
  (simp (maxSteps := 1000000) [h1])
  (first | exact hR _ _ FrA | exact hR _ _ FnA | exact hR _ _ (Xf (hq := by simp [AV.erase, AV.unview, hT, Rep.av]; done)))
 have h1' : v = 0 := by simpa using h1
 have h := hfit h1'
 rw [if_neg (by simpa using h1)] at hT
 (simp (maxSteps := 1000000) [h1])
 (refine Jtt (cb h) (by rfl) (by rfl) ?_)
 obtain ⟨r0, hr0⟩ : ∃ r, r = begC c := ⟨_, rfl⟩
 rw [← hr0]
 (simp (maxSteps := 1000000) [Rep.av])
 ((first | refine Xc (fun h2 => ?_) (fun h2 => ?_) | refine Xo (fun h2 => ?_) (fun h2 => ?_)) <;> (try simp only [Xz, Xy] at h2))
 ·have e : ((w0 c).all fun q => initZ q c.S.args) = false := by
   cases hx : (w0 c).all fun q => initZ q c.S.args with
   | false => rfl
   | true => exfalso; apply h2; rw [hr0]; simp only [begC, hx, if_true]
  have hT2 : T = r0 := by rw [hT, if_pos e, hr0]; simp only [begC, e]; rfl
  (simp (maxSteps := 1000000) [h2])
  (first | exact hR _ _ FrA | exact hR _ _ FnA | exact hR _ _ (Xf (hq := by simp [AV.erase, AV.unview, hT2, Rep.av]; done)))
 have e : ((w0 c).all fun q => initZ q c.S.args) = true := by
  cases hx : (w0 c).all fun q => initZ q c.S.args with
  | true => rfl
  | false => exfalso; rw [hr0] at h2; simp [begC, hx] at h2
 have hr0' : r0 = rep0 c := by rw [hr0]; unfold begC; rw [if_pos e]; rfl
 rw [if_neg (by simp [e]), ← hr0'] at hT
 have hsl : sR.length = c.S.blocks.length := by rw [hsR]; simp
 have htl : tR.length = c.S.blocks.length := by rw [htR]; simp [h.lenT]
 have hwl : wR.length = c.S.blocks.length := by rw [hwR]; simp [h.lenW]
 obtain ⟨z1, z2, z3⟩ := h.w _ (Jt8t h)
 have hrok : RepOk 0 r0 := by
  rw [hr0']
  have := Jtfp (w := c.W) (n := 400) (fun l hl => (h.w l hl).2.1)
  exact ⟨Nat.le_refl _, Nat.le_refl _, by simp only [rep0]; omega, by simp only [rep0]; omega⟩
 have few := h.few
 (simp (maxSteps := 1000000) [hsl])
 obtain ⟨n, hn⟩ : ∃ n, n = c.S.blocks.length := ⟨_, rfl⟩
 rw [← hn] at hsl htl hwl hT few ⊢
 refine Jt9 (fun s : Nat × Rep => ⟨[(28, AI s.1), (27, AI n), (26, .d (.sl sR)), (1, .ptr 0 0), (2, .ptr 1 0), (4, .ptr 2 0)],
  [.mem [AI c.S.args, AI c.S.regs, .d (.sl sR), AI c.T.args, AI c.T.regs, AI c.T.slots, .d (.sl tR), .d (.sl wR)], .mem [AI 0, AI 0, AI 0, AI 0, AI 0, AI 0, AI 0], .mem [AI s.2.err, AI s.2.block, AI s.2.at_, AI s.2.blocks, AI s.2.edges, AI s.2.steps, AI s.2.largest]]⟩)
  (fun s => s.1 ≤ n ∧ RepOk s.1 s.2 ∧ T = Jt5p c (n - s.1) s.1 s.2) (fun s => n - s.1) (0, r0) ⟨by omega, hrok, hT⟩ (by (exact wkA)) ?_
 rintro ⟨i, r⟩ ⟨hi, hok, hTi⟩ N hN
 simp only at hi hok hTi hN
 (simp (maxSteps := 1000000) [])
 ((first | refine Xc (fun h3 => ?_) (fun h3 => ?_) | refine Xo (fun h3 => ?_) (fun h3 => ?_)) <;> (try simp only [Xz, Xy] at h3))
 ·have hil : i < n := by omega
  have hb : c.S.blocks[i]? = some c.S.blocks[i] := by simp
  have hm : c.T.blocks[i]? = some (c.T.blocks[i]'(by rw [h.lenT]; omega)) := by simp
  have hl : c.W[i]? = some (c.W[i]'(by rw [h.lenW]; omega)) := by simp
  obtain ⟨b, hbe⟩ : ∃ b, b = c.S.blocks[i] := ⟨_, rfl⟩
  obtain ⟨m, hme⟩ : ∃ m, m = c.T.blocks[i]'(by rw [h.lenT]; omega) := ⟨_, rfl⟩
  obtain ⟨l, hle⟩ : ∃ l, l = c.W[i]'(by rw [h.lenW]; omega) := ⟨_, rfl⟩
  rw [← hbe] at hb
  rw [← hme] at hm
  rw [← hle] at hl
  have mb := List.mem_of_getElem? hb
  have mm := List.mem_of_getElem? hm
  have ml := List.mem_of_getElem? hl
  have hbR : sR[i]? = some b.row := by rw [hsR, List.getElem?_map, hb]; rfl
  have hmR : tR[i]? = some m.row := by rw [htR, List.getElem?_map, hm]; rfl
  have hlR : wR[i]? = some [pairsD l] := by rw [hwR, List.getElem?_map, hl]; rfl
  have gd := h.good mb mm ml 1048576
  obtain ⟨l1, l2, l3⟩ := h.w l ml
  have ck := Jt5i A S C (V := VS) (L := LS) b m l 1048576 (fun q hq => by obtain ⟨a1, a2, a3, a4⟩ := l3 q hq; exact ⟨mem_VS a1 a2, mem_LS a3 a4⟩) (h.vl b mb m mm) VL_few (by omega)
   (by have := h.cs b mb; omega) (by have := h.ct m mm; omega)
  have hbc := Jt5g hb hm hl r
  obtain ⟨x, hx⟩ : ∃ x, x = checkZ b m l 1048576 := ⟨_, rfl⟩
  rw [← hx] at ck gd hbc
  have hTs : T = match blockC c i r with | (r, true) => r | (r, false) => Jt5p c (n - (i + 1)) (i + 1) r := by
   rw [hTi, show n - i = (n - (i + 1)) + 1 by omega]; rfl
  rw [hbc] at hTs
  have hw := Jtom (k := i) (by omega)
  have k1 := hok.blocks
  have k2 := hok.edges
  have k3 := hok.steps
  have k4 := hok.lg
  have g1 := gd.len
  have g2 := gd.steps
  have g3 := gd.lg
  obtain ⟨r1, hr1⟩ : ∃ r1, r1 = blockR x r := ⟨_, rfl⟩
  rw [← hr1] at hTs
  have q1 : IntKind.i64.wrap ((r.blocks : Int) + 1) = (r1.blocks : Int) := by rw [hr1]; exact Jtom (by omega)
  have q2 : IntKind.i64.wrap ((r.steps : Int) + (x.steps : Int)) = (r1.steps : Int) := by rw [hr1]; exact Jtok (by omega)
  have q3 : (if r.largest < x.largest then ((x.largest : Nat) : Int) else ((r.largest : Nat) : Int)) = (r1.largest : Int) := by rw [hr1]; simp only [blockR]; split <;> omega
  have q4 : r1.err = r.err := by rw [hr1]; rfl
  have q5 : r1.block = r.block := by rw [hr1]; rfl
  have q6 : r1.at_ = r.at_ := by rw [hr1]; rfl
  have q7 : r1.edges = r.edges := by rw [hr1]; rfl
  have rin : RepIn i 0 r1 := by
   rw [hr1]
   exact ⟨by simp only [blockR]; omega, by simp only [blockR]; omega, by simp only [blockR]; omega, by simp only [blockR]; omega⟩
  obtain ⟨oR, hoR⟩ : ∃ y, y = x.out.map Pair.row := ⟨_, rfl⟩
  have hol : oR.length = x.out.length := by rw [hoR]; simp
  simp only [pairsD] at hlR
  simp only [Res.av, pairsD, ← hoR] at ck
  (simp (maxSteps := 1000000) [h3, hbR, hmR, hlR, Block.row, MBlock.row])
  (refine Jtt ck (by rfl) (by rfl) ?_)
  (simp (maxSteps := 1000000) [q1, q2, q3])
  ((first | refine Xc (fun h4 => ?_) (fun h4 => ?_) | refine Xo (fun h4 => ?_) (fun h4 => ?_)) <;> (try simp only [Xz, Xy] at h4))
  ·rw [if_pos h4] at hTs
   simp only at hTs
   (simp (maxSteps := 1000000) [])
   (first | exact hR _ _ FrA | exact hR _ _ FnA | exact hR _ _ (Xf (hq := by simp [AV.erase, AV.unview, hTs, Rep.av, q4, q5, q6, q7]; done)))
  rw [if_neg (by simpa using h4)] at hTs
  have cs := Jtl3 A b.term
  have hto := h.to b mb
  have htl2 := Jtn8 b.term
  obtain ⟨ts, hts⟩ : ∃ t, t = succsZ b.term := ⟨_, rfl⟩
  rw [← hts] at cs hTs hto htl2
  rw [← hn] at hto
  (simp (maxSteps := 1000000) [])
  (refine Jtt cs (by rfl) (by rfl) ?_)
  (simp (maxSteps := 1000000) [])
  refine Jt9 (fun s : Nat × Rep => ⟨[(77, AI s.1), (76, AI ts.length), (75, .d (.sl (ts.map fun x => [I x]))), (5, AI i), (7, .ptr 4 0), (28, AI i), (27, AI n), (26, .d (.sl sR)), (1, .ptr 0 0), (2, .ptr 1 0), (4, .ptr 2 0)],
   [.mem [AI c.S.args, AI c.S.regs, .d (.sl sR), AI c.T.args, AI c.T.regs, AI c.T.slots, .d (.sl tR), .d (.sl wR)], .mem [AI 0, AI 0, AI 0, AI 0, AI 0, AI 0, AI 0], .mem [AI s.2.err, AI s.2.block, AI s.2.at_, AI s.2.blocks, AI s.2.edges, AI s.2.steps, AI s.2.largest], .dead, .mem [.d (.sl oR), AI x.err, AI x.at_, AI x.steps, AI x.largest]]⟩)
   (fun s => s.1 ≤ ts.length ∧ RepIn i s.1 s.2 ∧ T = match edgesC c.W x.out i (ts.drop s.1) s.1 s.2 with | (r, true) => r | (r, false) => Jt5p c (n - (i + 1)) (i + 1) r) (fun s => ts.length - s.1) (0, r1) ⟨by omega, rin, hTs⟩ (by simp only [q4, q5, q6, q7]; (exact wkA)) ?_
  rintro ⟨k, t⟩ ⟨hk, hin, hTk⟩ N' hN'
  simp only at hk hin hTk hN'
  (simp (maxSteps := 1000000) [])
  ((first | refine Xc (fun h5 => ?_) (fun h5 => ?_) | refine Xo (fun h5 => ?_) (fun h5 => ?_)) <;> (try simp only [Xz, Xy] at h5))
  ·have hkl : k < ts.length := by simpa using h5
   have ht : ts[k]? = some ts[k] := by simp
   obtain ⟨d1, d2⟩ := hto _ (List.getElem_mem hkl)
   have hdrop : ts.drop k = ts[k] :: ts.drop (k + 1) := List.drop_eq_getElem_cons hkl
   obtain ⟨tn, htn⟩ : ∃ tn : Nat, ts[k] = (tn : Int) := ⟨ts[k].toNat, by omega⟩
   rw [htn] at ht hdrop d2
   have hWt : c.W[tn]? = some (c.W[tn]'(by rw [h.lenW]; omega)) := by simp
   obtain ⟨wt, hwt⟩ : ∃ w, w = c.W[tn]'(by rw [h.lenW]; omega) := ⟨_, rfl⟩
   rw [← hwt] at hWt
   obtain ⟨y1, y2, y3⟩ := h.w wt (List.mem_of_getElem? hWt)
   have hwtR : wR[tn]? = some [.sl (wt.map Pair.row)] := by rw [hwR, List.getElem?_map, hWt]; rfl
   have hgd : (c.W[tn]?).getD [] = wt := by rw [hWt]; rfl
   have ci := Jt7s A x.out wt (by omega) (by omega) gd.srt y1
   rw [hdrop, Jt7x, hgd] at hTk
   have hin2 := hin.edge (out := x.out) (by omega) hWt y2
   obtain ⟨t2, ht2⟩ : ∃ t2, t2 = edgeR c.W x.out tn t := ⟨_, rfl⟩
   rw [← ht2] at hTk hin2
   obtain ⟨b1, hb1⟩ : ∃ b, b = (missP wt x.out).isSome := ⟨_, rfl⟩
   obtain ⟨pr, hpr⟩ : ∃ y, y = (missP wt x.out).getD ⟨0, 0⟩ := ⟨_, rfl⟩
   obtain ⟨mv, hmv⟩ : ∃ y : Int, y = if b1 = true then 22 else 0 := ⟨_, rfl⟩
   simp only [impA, ← hb1, ← hpr, ← hmv, pairsD, ← hoR, Pair.av] at ci
   rw [← hb1] at hTk
   obtain ⟨s1, hs1⟩ : ∃ y, y = t.steps + 1 := ⟨_, rfl⟩
   obtain ⟨s2, hs2⟩ : ∃ y, y = s1 + x.out.length := ⟨_, rfl⟩
   have j1 := hin.edges
   have j2 := hin.steps
   have p1 : IntKind.i64.wrap ((t.edges : Int) + 1) = (t2.edges : Int) := by rw [ht2]; exact Jtom (by omega)
   have p2 : IntKind.i64.wrap ((t.steps : Int) + 1) = (s1 : Int) := by rw [hs1]; exact Jtom (by omega)
   have p3 : IntKind.i64.wrap ((s1 : Int) + (x.out.length : Int)) = (s2 : Int) := by rw [hs2]; exact Jtok (by omega)
   have p4 : IntKind.i64.wrap ((s2 : Int) + (wt.length : Int)) = (t2.steps : Int) := by rw [ht2]; simp only [edgeR, hgd]; rw [hs2, hs1]; exact Jtok (by omega)
   have p5 : t2.err = t.err := by rw [ht2]; rfl
   have p6 : t2.block = t.block := by rw [ht2]; rfl
   have p7 : t2.at_ = t.at_ := by rw [ht2]; rfl
   have p8 : t2.blocks = t.blocks := by rw [ht2]; rfl
   have p9 : t2.largest = t.largest := by rw [ht2]; rfl
   have hwk := Jtom (k := k) (by omega)
   (simp (maxSteps := 1000000) [h5, ht, htn, hwtR, hol, p1, p2, p3, p4])
   (refine Jtt ci (by rfl) (by rfl) ?_)
   (simp (maxSteps := 1000000) [])
   ((first | refine Xc (fun h6 => ?_) (fun h6 => ?_) | refine Xo (fun h6 => ?_) (fun h6 => ?_)) <;> (try simp only [Xz, Xy] at h6))
   ·have hb1t : b1 = true := by
     cases b1 with
     | true => rfl
     | false => exfalso; apply h6; rw [hmv]; rfl
    rw [hb1t] at hmv hTk
    simp only [if_true] at hmv hTk
    rw [hmv]
    (simp (maxSteps := 1000000) [])
    (first | exact hR _ _ FrA | exact hR _ _ FnA | exact hR _ _ (Xf (hq := by simp [AV.erase, AV.unview, hTk, Rep.av, p5, p6, p7, p8, p9]; done)))
   ·have hb1f : b1 = false := by
     cases b1 with
     | false => rfl
     | true => exfalso; rw [hmv] at h6; simp at h6
    rw [hb1f] at hTk
    simp only [Bool.false_eq_true, if_false] at hTk
    (simp (maxSteps := 1000000) [hwk])
    exact hN' _ (k + 1, t2) ⟨hkl, hin2, hTk⟩ (by simp only [p5, p6, p7, p8, p9]; (exact wkA)) (by simp only; omega)
  ·have hkl : k = ts.length := by simp at h5; omega
   subst hkl
   rw [List.drop_length] at hTk
   have hTk' : T = Jt5p c (n - (i + 1)) (i + 1) t := hTk
   (simp (maxSteps := 1000000) [hw])
   exact hN _ (i + 1, t) ⟨hil, hin.out htl2, hTk'⟩ (by (exact wkA)) (by simp only; omega)
 ·have hk : i = n := by simp at h3; omega
  subst hk
  rw [Nat.sub_self] at hTi
  have hTi' : T = r := hTi
  (simp (maxSteps := 1000000) [])
  (first | exact hR _ _ FrA | exact hR _ _ FnA | exact hR _ _ (Xf (hq := by simp [AV.erase, AV.unview, hTi', Rep.av]; done)))
end
end Go.AE
set_option maxRecDepth 4000
namespace Go.AE
open Go
section
end
end Go.AE
set_option maxRecDepth 4000
namespace Go.AE
open Go
def succN (bs : List Block) : Nat := (bs.map fun b => (succsZ b.term).length).sum
theorem Jtn7 {bs : List Block} {k : Nat} {b : Block} (h : bs[k]? = some b) : succN (bs.take (k + 1)) = succN (bs.take k) + (succsZ b.term).length := by
 rw [List.take_add_one, h]; simp [succN]
def boundN (c : Cert) : Nat := codeN c.S.blocks + mcodeN c.T.blocks + c.S.blocks.length + 1 + succN c.S.blocks
section
end
section
end
end Go.AE
set_option maxRecDepth 4000
namespace Go.AE
open Go
section
end
end Go.AE
set_option maxRecDepth 4000
namespace Go.AE
open Go
theorem Jtfo {w : List (List Pair)} {l : List Pair} (h : l ∈ w) : l.length ≤ mostW w := by
 apply Nat.le_of_not_lt
 intro hlt
 have := (Jtfl (l := w.map List.length) (k := mostW w)).2 ⟨_, List.mem_map_of_mem h, hlt⟩
 exact Nat.lt_irrefl _ this
structure EdgeT (r : Rep) (n A : Nat) (R : Rep × Bool) : Prop where
 blocks : R.1.blocks = r.blocks
 lg : R.1.largest = r.largest
 edges : R.1.edges ≤ r.edges + n
 steps : R.1.steps ≤ (A + 2 * R.1.edges) * (R.1.largest + 1)
 bad : R.2 = true → R.1.err ≠ 0
 good : R.2 = false → R.1.edges = r.edges + n ∧ R.1.err = 0
theorem Jt81 {w : List (List Pair)} {out : List Pair} {i : Nat} (A : Nat) : ∀ {ts : List Int} {k : Nat} {r : Rep}, (∀ x ∈ ts, 0 ≤ x) → out.length ≤ r.largest → mostW w ≤ r.largest → r.steps ≤ (A + 2 * r.edges) * (r.largest + 1) → r.err = 0 →
  EdgeT r ts.length A (edgesC w out i ts k r) := by
 intro ts
 induction ts with
 | nil => intro k r _ _ _ h4 h5; exact ⟨rfl, rfl, Nat.le_refl _, h4, fun h => by simp [edgesC] at h, fun _ => ⟨rfl, h5⟩⟩
 | cons t ts ih =>
  intro k r h1 h2 h3 h4 h5
  have ht := h1 t (by simp)
  obtain ⟨tn, rfl⟩ : ∃ n : Nat, t = (n : Int) := ⟨t.toNat, by omega⟩
  rw [Jt7x]
  have hwl : ((w[tn]?).getD []).length ≤ r.largest := by
   cases hx : w[tn]? with
   | none => simp
   | some l => have := Jtfo (List.mem_of_getElem? hx); simp only [Option.getD_some]; omega
  have e1 : (edgeR w out tn r).blocks = r.blocks := rfl
  have e2 : (edgeR w out tn r).largest = r.largest := rfl
  have e3 : (edgeR w out tn r).edges = r.edges + 1 := rfl
  have e5 : (edgeR w out tn r).err = r.err := rfl
  have e4 : (edgeR w out tn r).steps ≤ (A + 2 * (r.edges + 1)) * (r.largest + 1) := by
   have : (edgeR w out tn r).steps = r.steps + 1 + out.length + ((w[tn]?).getD []).length := rfl
   rw [this, show A + 2 * (r.edges + 1) = (A + 2 * r.edges) + 2 by omega, Nat.add_mul]
   omega
  split
  ·refine ⟨e1, e2, ?_, ?_, fun _ => by simp, fun h => by cases h⟩
   ·show (edgeR w out tn r).edges ≤ _
    rw [e3, List.length_cons]; omega
   ·show (edgeR w out tn r).steps ≤ (A + 2 * (edgeR w out tn r).edges) * ((edgeR w out tn r).largest + 1)
    rw [e3, e2]; exact e4
  ·have g := ih (k := k + 1) (r := edgeR w out tn r) (fun x hx => h1 x (by simp [hx])) (by rw [e2]; exact h2) (by rw [e2]; exact h3) (by rw [e3, e2]; exact e4) (by rw [e5]; exact h5)
   refine ⟨g.blocks, g.lg, ?_, g.steps, g.bad, fun h => ?_⟩
   ·have := g.edges; rw [e3] at this; rw [List.length_cons]; omega
   ·obtain ⟨a1, a2⟩ := g.good h; rw [e3] at a1; rw [List.length_cons]; exact ⟨by omega, a2⟩
def costN (c : Cert) (i : Nat) : Nat := 1 + 3 * mcodeN (c.T.blocks.take i) + codeN (c.S.blocks.take i) + i
structure OnceI (c : Cert) (i : Nat) (r : Rep) : Prop where
 blocks : r.blocks = i
 edges : r.edges = succN (c.S.blocks.take i)
 steps : r.steps ≤ (costN c i + 2 * r.edges) * (r.largest + 1)
 lg : mostW c.W ≤ r.largest
 lg2 : r.largest < 100000
 err : r.err = 0
structure OnceT (c : Cert) (T : Rep) : Prop where
 blocks : T.blocks ≤ c.S.blocks.length
 edges : T.edges ≤ succN c.S.blocks
 steps : T.steps ≤ 3 * boundN c * (T.largest + 1)
 lg : T.largest < 100000
 done : T.err = 0 → T.blocks = c.S.blocks.length ∧ T.edges = succN c.S.blocks
theorem Jtn6 (bs : List Block) (k : Nat) : succN (bs.take k) ≤ succN bs := by
 have h : succN (bs.take k) + succN (bs.drop k) = succN bs := by
  unfold succN
  rw [← List.sum_append, ← List.map_append, List.take_append_drop]
 omega
theorem Jt7a (c : Cert) (i : Nat) (hi : i ≤ c.S.blocks.length) : costN c i + 2 * succN c.S.blocks ≤ 3 * boundN c := by
 have h1 := Jtev c.T.blocks i
 have h2 := Jt6v c.S.blocks i
 unfold costN boundN
 omega
theorem Jt8n {c : Cert} {i : Nat} (hi : i ≤ c.S.blocks.length) {s e l : Nat} (h : s ≤ (costN c i + 2 * e) * (l + 1)) (he : e ≤ succN c.S.blocks) : s ≤ 3 * boundN c * (l + 1) :=
 Nat.le_trans h (Nat.mul_le_mul_right _ (by have := Jt7a c i hi; omega))
theorem Jtge {c : Cert} (h : Fit c) : ∀ (n i : Nat) (r : Rep), i + n = c.S.blocks.length → OnceI c i r → OnceT c (Jt5p c n i r) := by
 intro n
 induction n with
 | zero =>
  intro i r hi hr
  have hi' : i = c.S.blocks.length := by omega
  subst hi'
  have e : r.edges = succN c.S.blocks := by rw [hr.edges, List.take_length]
  exact ⟨by rw [show Jt5p c 0 c.S.blocks.length r = r from rfl, hr.blocks]; exact Nat.le_refl _, by rw [show Jt5p c 0 c.S.blocks.length r = r from rfl, e]; exact Nat.le_refl _, Jt8n (Nat.le_refl _) hr.steps (by rw [e]; exact Nat.le_refl _), hr.lg2, fun _ => ⟨hr.blocks, e⟩⟩
 | succ n ih =>
  intro i r hi hr
  have hlT := h.lenT
  have hlW := h.lenW
  obtain ⟨b, hb⟩ : ∃ b, c.S.blocks[i]? = some b := ⟨_, List.getElem?_eq_getElem (by omega)⟩
  obtain ⟨m, hm⟩ : ∃ b, c.T.blocks[i]? = some b := ⟨_, List.getElem?_eq_getElem (by omega)⟩
  obtain ⟨l, hl⟩ : ∃ b, c.W[i]? = some b := ⟨_, List.getElem?_eq_getElem (by omega)⟩
  have mb := List.mem_of_getElem? hb
  have gd := h.good mb (List.mem_of_getElem? hm) (List.mem_of_getElem? hl) 1048576
  obtain ⟨d1, d2, d3, _⟩ := Jt6h b m l 1048576 (Jtep l)
  have hbc := Jt5g hb hm hl r
  obtain ⟨x, hx⟩ : ∃ x, x = checkZ b m l 1048576 := ⟨_, rfl⟩
  rw [← hx] at gd d1 d2 d3 hbc
  have hT : Jt5p c (n + 1) i r = match blockC c i r with | (r, true) => r | (r, false) => Jt5p c n (i + 1) r := rfl
  rw [hT, hbc]
  have c1 : costN c (i + 1) = costN c i + (3 * m.code.length + b.code.length + 1) := by
   unfold costN; rw [Jtex hm, Jt6w hb]; omega
  have c2 := Jtn7 hb
  have c3 := Jtn6 c.S.blocks (i + 1)
  have g3 := gd.lg
  have r1 := hr.lg
  have r2 := hr.lg2
  have r3 := hr.edges
  have k0 : (blockR x r).blocks = i + 1 := by show r.blocks + 1 = _; rw [hr.blocks]
  have k1 : (blockR x r).edges = r.edges := rfl
  have k2 : (blockR x r).largest = max r.largest x.largest := rfl
  have k4 : (blockR x r).err = 0 := hr.err
  have k3 : (blockR x r).steps ≤ (costN c (i + 1) + 2 * r.edges) * (max r.largest x.largest + 1) := by
   show r.steps + x.steps ≤ _
   have s1 : r.steps ≤ (costN c i + 2 * r.edges) * (max r.largest x.largest + 1) := Nat.le_trans hr.steps (Nat.mul_le_mul_left _ (by omega))
   have s2 : x.steps ≤ (3 * m.code.length + b.code.length + 1) * (max r.largest x.largest + 1) := Nat.le_trans d1 (Nat.mul_le_mul_left _ (by omega))
   rw [c1, show costN c i + (3 * m.code.length + b.code.length + 1) + 2 * r.edges = (costN c i + 2 * r.edges) + (3 * m.code.length + b.code.length + 1) by omega, Nat.add_mul]
   omega
  have hil : i + 1 ≤ c.S.blocks.length := by omega
  by_cases hxe : x.err ≠ 0
  ·rw [if_pos hxe]
   refine ⟨?_, ?_, ?_, ?_, fun h0 => absurd h0 hxe⟩
   ·show (blockR x r).blocks ≤ _; omega
   ·show (blockR x r).edges ≤ _; omega
   ·show (blockR x r).steps ≤ 3 * boundN c * ((blockR x r).largest + 1)
    rw [k2]; exact Jt8n hil k3 (by omega)
   ·show (blockR x r).largest < _; omega
  ·rw [if_neg hxe]
   have et := Jt81 (w := c.W) (out := x.out) (i := i) (costN c (i + 1)) (ts := succsZ b.term) (k := 0) (r := blockR x r) (fun y hy => (h.to b mb y hy).1) (by rw [k2]; omega) (by rw [k2]; omega) (by rw [k1, k2]; exact k3) k4
   obtain ⟨R, hR⟩ : ∃ R, R = edgesC c.W x.out i (succsZ b.term) 0 (blockR x r) := ⟨_, rfl⟩
   rw [← hR] at et ⊢
   obtain ⟨t, bad⟩ := R
   obtain ⟨t1, t2, t3, t4, t5, t6⟩ := et
   simp only at t1 t2 t3 t4 t5 t6
   rw [k1] at t3 t6
   rw [k2] at t2
   cases bad with
   | true =>
    refine ⟨?_, ?_, ?_, ?_, fun h0 => absurd h0 (t5 rfl)⟩
    ·show t.blocks ≤ _; omega
    ·show t.edges ≤ _; omega
    ·exact Jt8n hil t4 (by omega)
    ·show t.largest < _; omega
   | false =>
    obtain ⟨u1, u2⟩ := t6 rfl
    exact ih (i + 1) t (by omega) ⟨by omega, by omega, t4, by omega, by omega, u2⟩
theorem Jtgf {c : Cert} (h : Fit c) (hv : validZ c = 0) : OnceT c (Jtiz c) := by
 have m400 := Jtfp (w := c.W) (n := 400) (fun l hl => (h.w l hl).2.1)
 have hw0 := Jtfo (Jt8t h)
 have s0 : 1 + (w0 c).length ≤ 1 * (mostW c.W + 1) := by omega
 unfold Jtiz
 rw [if_neg (by simp [hv])]
 by_cases h1 : ((w0 c).all fun q => initZ q c.S.args) = false
 ·rw [if_pos h1]
  refine ⟨Nat.zero_le _, Nat.zero_le _, ?_, ?_, fun h0 => by simp at h0⟩
  ·show 1 + (w0 c).length ≤ 3 * boundN c * (mostW c.W + 1)
   exact Nat.le_trans s0 (Nat.mul_le_mul_right _ (by unfold boundN; omega))
  ·show mostW c.W < _; omega
 ·rw [if_neg h1]
  refine Jtge h _ _ _ (by omega) ⟨rfl, by simp [rep0, succN], ?_, Nat.le_refl _, by show mostW c.W < _; omega, rfl⟩
  show 1 + (w0 c).length ≤ (costN c 0 + 2 * 0) * (mostW c.W + 1)
  exact Nat.le_trans s0 (Nat.mul_le_mul_right _ (by unfold costN; omega))
end Go.AE
set_option maxRecDepth 4000
namespace Go.AE
open Go
def N23 (r : CR) : Prop := ∀ e, r.2 = some e → e.1 ≠ 23
theorem N23.same {s : CS} : N23 (s, none) := fun e he => by cases he
theorem N23.then {r : CR} {f : CS → CR} (h : N23 r) (hf : ∀ s, N23 (f s)) : N23 (thenC r f) := by
 obtain ⟨s, e⟩ := r
 cases e with
 | some e => exact h
 | none => exact hf s
theorem N23.become {most : Int} {s : CS} {l : List Pair} {at_ : Int} : N23 (Jt5c most s l at_) := by
 intro e he
 unfold Jt5c at he
 simp only at he
 split at he
 ·injection he with he; subst he; simp
 ·cases he
theorem N23.use {s : CS} {v t at_ : Int} : N23 (useC s v t at_) := by
 intro e he
 unfold useC at he
 simp only at he
 split at he
 ·cases he
 ·injection he with he; subst he; simp
theorem Jt75 {most at_ : Int} : ∀ {l : List Instr} {s : CS}, N23 (copyC most at_ l s) := by
 intro l
 induction l with
 | nil => intro s; exact .same
 | cons i l ih => intro s; exact N23.then .become fun s => ih
theorem Jtft {most : Int} : ∀ {l : List Mach} {k : Nat} {s : CS}, N23 (moveC most k l s) := by
 intro l
 induction l with
 | nil => intro k s; exact .same
 | cons i l ih => intro k s; exact N23.then .become fun s => ih
theorem Jtcy {most : Int} {i : Instr} {x : Mach} {at_ : Int} {s : CS} : N23 (instrC most s i x at_) := by
 unfold instrC
 refine N23.then ?_ fun s => N23.then ?_ fun s => ?_
 ·split
  ·exact .use
  ·exact .same
 ·split
  ·exact .use
  ·exact .same
 ·split
  ·exact .become
  ·exact .same
theorem Jtj6 {most : Int} {b : List Instr} {m : List Mach} {r : ARow} {s : CS} : N23 (rowC most b m r s) := by
 unfold rowC
 refine N23.then Jt75 fun s => N23.then Jtft fun s => ?_
 unfold lastC
 split
 ·split
  ·exact Jtcy
  ·exact .same
 ·exact .same
theorem Jtjg {most : Int} {b : List Instr} {m : List Mach} : ∀ {rs : List ARow} {s : CS}, N23 (rowsC most b m rs s) := by
 intro rs
 induction rs with
 | nil => intro s; exact .same
 | cons r rs ih => intro s; exact N23.then Jtj6 fun s => ih
theorem Jtjl {most : Int} {b : Block} {m : MBlock} {rs : List ARow} {s : CS} : N23 (runC most b m rs s) := by
 unfold runC
 refine N23.then Jtjg fun s => ?_
 split
 ·exact .same
 ·exact .use
theorem Jt4l {code : List Instr} {mach : List Mach} : ∀ {f i k : Nat} {rows : List ARow}, (alignS code mach f i k rows).2.2 = 0 ∨ (alignS code mach f i k rows).2.2 = 20 := by
 intro f
 induction f with
 | zero => intro i k rows; exact .inr rfl
 | succ f ih =>
  intro i k rows
  unfold alignS
  split
  ·exact .inl rfl
  ·split
   ·split
    ·exact ih
    ·exact .inr rfl
   ·exact .inr rfl
theorem Jt6g (b : Block) (m : MBlock) (l : List Pair) (most : Int) : (checkZ b m l most).err ≠ 23 := by
 unfold checkZ
 split
 ·show (24 : Int) ≠ 23; decide
 ·have ha : (alignZ b.code m.code).2.2 = 0 ∨ (alignZ b.code m.code).2.2 = 20 := Jt4l
  by_cases h2 : (if (alignZ b.code m.code).2.2 = 0 ∧ termsZ b.term m.term = false then 20 else (alignZ b.code m.code).2.2) ≠ 0
  ·simp only [if_pos h2]
   split
   ·decide
   ·rcases ha with h | h <;> rw [h] <;> decide
  ·simp only [if_neg h2]
   have hr := Jtjl (most := most) (b := b) (m := m) (rs := (alignZ b.code m.code).1) (s := ⟨makeP l, 0, l.length⟩)
   generalize runC most b m (alignZ b.code m.code).1 ⟨makeP l, 0, l.length⟩ = r at hr
   obtain ⟨t, e⟩ := r
   cases e with
   | none => show (0 : Int) ≠ 23; decide
   | some e => exact hr e rfl
def hasE (w : List (List Pair)) (out : List Pair) (to : Int) : Bool := !(missP ((w[to.toNat]?).getD []) out).isSome
def blkOk (c : Cert) (i : Nat) : Bool := match c.S.blocks[i]?, c.T.blocks[i]?, c.W[i]? with
 | some b, some m, some l => decide ((checkZ b m l 1048576).err = 0) && (succsZ b.term).all (hasE c.W (checkZ b m l 1048576).out)
 | _, _, _ => false
def okTo (c : Cert) (i : Nat) : Bool := (List.range i).all (blkOk c)
theorem Jtgd (c : Cert) (i : Nat) : okTo c (i + 1) = (okTo c i && blkOk c i) := by simp [okTo, List.range_succ]
theorem Jtgc {c : Cert} {i n : Nat} (h : blkOk c i = false) (hi : i < n) : okTo c n = false := by
 rw [← Bool.not_eq_true]; unfold okTo; rw [List.all_eq_true]
 intro h'
 have := h' i (List.mem_range.2 hi)
 rw [h] at this; cases this
theorem Jt5f {c : Cert} {i : Nat} {b : Block} {m : MBlock} {l : List Pair} (hb : c.S.blocks[i]? = some b) (hm : c.T.blocks[i]? = some m) (hl : c.W[i]? = some l) : blkOk c i = (decide ((checkZ b m l 1048576).err = 0) && (succsZ b.term).all (hasE c.W (checkZ b m l 1048576).out)) := by
 unfold blkOk; rw [hb, hm, hl]
theorem Jt80 {w : List (List Pair)} {out : List Pair} {i : Nat} : ∀ {ts : List Int} {k : Nat} {r : Rep}, (∀ x ∈ ts, 0 ≤ x) → r.err = 0 →
  (edgesC w out i ts k r).2 = !ts.all (hasE w out) ∧ ((edgesC w out i ts k r).2 = true → (edgesC w out i ts k r).1.err = 22) ∧ ((edgesC w out i ts k r).2 = false → (edgesC w out i ts k r).1.err = 0) := by
 intro ts
 induction ts with
 | nil => intro k r _ h; exact ⟨rfl, fun h => (by cases h), fun _ => h⟩
 | cons t ts ih =>
  intro k r h1 h2
  have ht := h1 t (by simp)
  obtain ⟨tn, rfl⟩ : ∃ n : Nat, t = (n : Int) := ⟨t.toNat, by omega⟩
  rw [Jt7x]
  have e : hasE w out (tn : Int) = !(missP ((w[tn]?).getD []) out).isSome := rfl
  rw [List.all_cons, e]
  cases hx : (missP ((w[tn]?).getD []) out).isSome with
  | true => exact ⟨rfl, fun _ => rfl, fun h => (by cases h)⟩
  | false => simpa using ih (k := k + 1) (r := edgeR w out tn r) (fun x hx => h1 x (by simp [hx])) h2
theorem Jt5q {c : Cert} (h : Fit c) : ∀ (n i : Nat) (r : Rep), i + n = c.S.blocks.length → r.err = 0 → okTo c i = true → (Jt5p c n i r).err ≠ 23 ∧ ((Jt5p c n i r).err = 0 ↔ okTo c c.S.blocks.length = true) := by
 intro n
 induction n with
 | zero =>
  intro i r hi hr ho
  have hi' : i = c.S.blocks.length := by omega
  subst hi'
  exact ⟨by show r.err ≠ 23; rw [hr]; decide, fun _ => ho, fun _ => hr⟩
 | succ n ih =>
  intro i r hi hr ho
  have hlT := h.lenT
  have hlW := h.lenW
  obtain ⟨b, hb⟩ : ∃ b, c.S.blocks[i]? = some b := ⟨_, List.getElem?_eq_getElem (by omega)⟩
  obtain ⟨m, hm⟩ : ∃ b, c.T.blocks[i]? = some b := ⟨_, List.getElem?_eq_getElem (by omega)⟩
  obtain ⟨l, hl⟩ : ∃ b, c.W[i]? = some b := ⟨_, List.getElem?_eq_getElem (by omega)⟩
  have hbc := Jt5g hb hm hl r
  have hbo := Jt5f hb hm hl
  have h23 := Jt6g b m l 1048576
  have hto := h.to b (List.mem_of_getElem? hb)
  obtain ⟨x, hx⟩ : ∃ x, x = checkZ b m l 1048576 := ⟨_, rfl⟩
  rw [← hx] at hbc hbo h23
  have hT : Jt5p c (n + 1) i r = match blockC c i r with | (r, true) => r | (r, false) => Jt5p c n (i + 1) r := rfl
  rw [hT, hbc]
  by_cases hxe : x.err ≠ 0
  ·rw [if_pos hxe]
   have hof : okTo c c.S.blocks.length = false := Jtgc (i := i) (by rw [hbo]; simp [hxe]) (by omega)
   exact ⟨h23, fun h0 => absurd h0 hxe, fun h0 => by rw [hof] at h0; cases h0⟩
  ·rw [if_neg hxe]
   have hx0 : x.err = 0 := by simpa using hxe
   have et := Jt80 (w := c.W) (out := x.out) (i := i) (ts := succsZ b.term) (k := 0) (r := blockR x r) (fun y hy => (hto y hy).1) hr
   obtain ⟨R, hR⟩ : ∃ R, R = edgesC c.W x.out i (succsZ b.term) 0 (blockR x r) := ⟨_, rfl⟩
   rw [← hR] at et ⊢
   obtain ⟨t, bad⟩ := R
   obtain ⟨t1, t2, t3⟩ := et
   simp only at t1 t2 t3
   cases bad with
   | true =>
    have ha : (succsZ b.term).all (hasE c.W x.out) = false := by rw [← Bool.not_eq_true']; exact t1.symm
    have hof : okTo c c.S.blocks.length = false := Jtgc (i := i) (by rw [hbo, ha, Bool.and_false]) (by omega)
    have e22 := t2 rfl
    exact ⟨by show t.err ≠ 23; rw [e22]; decide, fun h0 => (by have : t.err = 0 := h0; rw [e22] at this; cases this), fun h0 => by rw [hof] at h0; cases h0⟩
   | false =>
    have ha : (succsZ b.term).all (hasE c.W x.out) = true := by rw [← Bool.not_eq_false']; exact t1.symm
    exact ih (i + 1) t (by omega) (t3 rfl) (by rw [Jtgd, ho, hbo, ha, hx0]; rfl)
structure Nums2 (V L : List Int) (s : CS) (σ τ : Int → Nat) (N : Nat) : Prop where
 over : Over V L s.set
 σb : ∀ v, σ v < N
 τb : ∀ x, τ x < N
 all : ∀ v ∈ V, ∀ x ∈ L, σ v = τ x → (⟨v, x⟩ : Pair) ∈ s.set
def upd (f : Int → Nat) (d : Int) (n : Nat) : Int → Nat := fun x => if x = d then n else f x
theorem Jto5 {f : Int → Nat} {d : Int} {n : Nat} : upd f d n d = n := by simp [upd]
theorem upd_ne {f : Int → Nat} {d x : Int} {n : Nat} (h : x ≠ d) : upd f d n x = f x := by simp [upd, h]
def runCv (σ : Int → Nat) : List Instr → Int → Nat
 | [] => σ
 | i :: is => runCv (upd σ i.d (σ i.a)) is
def runMv (τ : Int → Nat) : List Mach → Int → Nat
 | [] => τ
 | m :: ms => runMv (upd τ m.dst (τ m.src)) ms
theorem Jtjv {τ : Int → Nat} : ∀ {a b : List Mach}, runMv τ (a ++ b) = runMv (runMv τ a) b := by
 intro a
 induction a generalizing τ with
 | nil => intro b; rfl
 | cons m a ih => intro b; exact ih
section
variable {V L : List Int} {most : Int}
theorem fits (few : V.length * L.length < 100000) (hm : 100000 ≤ most) {l : List Pair} (h : Over V L l) : ¬ ((l.length : Int) > most) := by
 have := h.len
 omega
theorem Nums2.copy (few : V.length * L.length < 100000) (hm : 100000 ≤ most) {s : CS} {σ τ : Int → Nat} {N : Nat} (h : Nums2 V L s σ τ N) {d a : Int} (hd : d ∈ V) (ha : a ∈ V) (at_ : Int) :
  ∃ s', Jt5c most (costC s) (copyP s.set d a) at_ = (s', none) ∧ Nums2 V L s' (upd σ d (σ a)) τ N := by
 have ho := h.over.copy (a := a) hd
 refine ⟨_, by unfold Jt5c; rw [if_neg (fits few hm ho)], ⟨ho, fun v => ?_, h.τb, fun v hv x hx hvx => ?_⟩⟩
 ·unfold upd; split
  ·exact h.σb a
  ·exact h.σb v
 ·show (⟨v, x⟩ : Pair) ∈ copyP s.set d a
  rw [Jtez]
  by_cases hvd : v = d
  ·subst hvd
   rw [Jto5] at hvx
   exact .inr ⟨rfl, h.all a ha x hx hvx⟩
  ·rw [upd_ne hvd] at hvx
   exact .inl ⟨h.all v hv x hx hvx, .inr hvd⟩
theorem Nums2.move (few : V.length * L.length < 100000) (hm : 100000 ≤ most) {s : CS} {σ τ : Int → Nat} {N : Nat} (h : Nums2 V L s σ τ N) {d a : Int} (hd : d ∈ L) (ha : a ∈ L) (at_ : Int) :
  ∃ s', Jt5c most (costC s) (moveP s.set d a) at_ = (s', none) ∧ Nums2 V L s' σ (upd τ d (τ a)) N := by
 have ho := h.over.move (a := a) hd
 refine ⟨_, by unfold Jt5c; rw [if_neg (fits few hm ho)], ⟨ho, h.σb, fun v => ?_, fun v hv x hx hvx => ?_⟩⟩
 ·unfold upd; split
  ·exact h.τb a
  ·exact h.τb v
 ·show (⟨v, x⟩ : Pair) ∈ moveP s.set d a
  rw [Jtf3]
  by_cases hxd : x = d
  ·subst hxd
   rw [Jto5] at hvx
   exact .inr ⟨rfl, h.all v hv a ha hvx⟩
  ·rw [upd_ne hxd] at hvx
   exact .inl ⟨h.all v hv x hx hvx, .inr hxd⟩
theorem Nums2.define (few : V.length * L.length < 100000) (hm : 100000 ≤ most) {s : CS} {σ τ : Int → Nat} {N : Nat} (h : Nums2 V L s σ τ N) {d t : Int} (hd : d ∈ V) (ht : t ∈ L) (at_ : Int) :
  ∃ s', Jt5c most (costC s) (defP s.set d t) at_ = (s', none) ∧ Nums2 V L s' (upd σ d N) (upd τ t N) (N + 1) := by
 have ho := h.over.define hd ht
 refine ⟨_, by unfold Jt5c; rw [if_neg (fits few hm ho)], ⟨ho, fun v => ?_, fun v => ?_, fun v hv x hx hvx => ?_⟩⟩
 ·unfold upd; split
  ·omega
  ·have := h.σb v; omega
 ·unfold upd; split
  ·omega
  ·have := h.τb v; omega
 ·show (⟨v, x⟩ : Pair) ∈ defP s.set d t
  rw [Jtf0]
  by_cases hvd : v = d
  ·subst hvd
   rw [Jto5] at hvx
   by_cases hxt : x = t
   ·subst hxt; exact .inl rfl
   ·rw [upd_ne hxt] at hvx; have := h.τb x; omega
  ·rw [upd_ne hvd] at hvx
   by_cases hxt : x = t
   ·subst hxt; rw [Jto5] at hvx; have := h.σb v; omega
   ·rw [upd_ne hxt] at hvx
    exact .inr ⟨h.all v hv x hx hvx, hvd, hxt⟩
theorem Nums2.use {s : CS} {σ τ : Int → Nat} {N : Nat} (h : Nums2 V L s σ τ N) {v t : Int} (hv : v ∈ V) (ht : t ∈ L) (he : σ v = τ t) (at_ : Int) : ∃ s', useC s v t at_ = (s', none) ∧ Nums2 V L s' σ τ N :=
 ⟨costC s, by unfold useC; rw [if_pos (h.all v hv t ht he)], ⟨h.over, h.σb, h.τb, h.all⟩⟩
theorem Nums2.copies (few : V.length * L.length < 100000) (hm : 100000 ≤ most) {τ : Int → Nat} {N : Nat} {at_ : Int} : ∀ {l : List Instr}, (∀ i ∈ l, i.d ∈ V ∧ i.a ∈ V) → ∀ {s : CS} {σ : Int → Nat}, Nums2 V L s σ τ N →
  ∃ s', copyC most at_ l s = (s', none) ∧ Nums2 V L s' (runCv σ l) τ N := by
 intro l
 induction l with
 | nil => intro _ s σ h; exact ⟨s, rfl, h⟩
 | cons i l ih =>
  intro hl s σ h
  obtain ⟨s1, e1, h1⟩ := h.copy few hm (hl i (by simp)).1 (hl i (by simp)).2 at_
  obtain ⟨s2, e2, h2⟩ := ih (fun x hx => hl x (by simp [hx])) h1
  exact ⟨s2, by show thenC (Jt5c most (costC s) (copyP s.set i.d i.a) at_) (copyC most at_ l) = _; rw [e1]; exact e2, h2⟩
theorem Nums2.moves (few : V.length * L.length < 100000) (hm : 100000 ≤ most) {σ : Int → Nat} {N : Nat} : ∀ {l : List Mach}, (∀ i ∈ l, i.dst ∈ L ∧ i.src ∈ L) → ∀ {k : Nat} {s : CS} {τ : Int → Nat}, Nums2 V L s σ τ N →
  ∃ s', moveC most k l s = (s', none) ∧ Nums2 V L s' σ (runMv τ l) N := by
 intro l
 induction l with
 | nil => intro _ k s τ h; exact ⟨s, rfl, h⟩
 | cons i l ih =>
  intro hl k s τ h
  obtain ⟨s1, e1, h1⟩ := h.move few hm (hl i (by simp)).1 (hl i (by simp)).2 k
  obtain ⟨s2, e2, h2⟩ := ih (fun x hx => hl x (by simp [hx])) (k := k + 1) h1
  exact ⟨s2, by show thenC (Jt5c most (costC s) (moveP s.set i.dst i.src) k) (moveC most (k + 1) l) = _; rw [e1]; exact e2, h2⟩
end
def spV (n : Nat) : List Int := (List.range n).map fun v : Nat => (v : Int)
def spL (n : Nat) : List Int := 0 :: 2 :: (List.range n).map fun v : Nat => 2 * (v : Int) + 1
theorem Jtfb {n : Nat} {x : Int} : x ∈ spV n ↔ 0 ≤ x ∧ x < n := by
 unfold spV
 constructor
 ·intro h; obtain ⟨v, h1, rfl⟩ := List.mem_map.1 h; have := List.mem_range.1 h1; omega
 ·rintro ⟨h1, h2⟩; exact List.mem_map.2 ⟨x.toNat, List.mem_range.2 (by omega), by omega⟩
theorem Jtfa {n : Nat} {x : Int} : x ∈ spL n ↔ x = 0 ∨ x = 2 ∨ ∃ v : Int, 0 ≤ v ∧ v < n ∧ x = 2 * v + 1 := by
 unfold spL
 simp only [List.mem_cons, List.mem_map, List.mem_range]
 constructor
 ·rintro (h | h | ⟨v, h1, h2⟩)
  ·exact .inl h
  ·exact .inr (.inl h)
  ·exact .inr (.inr ⟨v, by omega, by omega, h2.symm⟩)
 ·rintro (h | h | ⟨v, h1, h2, h3⟩)
  ·exact .inl h
  ·exact .inr (.inl h)
  ·exact .inr (.inr ⟨v.toNat, by omega, by omega⟩)
def Sy (n : Nat) (σ τ : Int → Nat) : Prop := ∀ v : Int, 0 ≤ v → v < n → σ v = τ (2 * v + 1)
theorem Sy.load {n : Nat} {σ τ : Int → Nat} (h : Sy n σ τ) {r : Int} (hr : r = 0 ∨ r = 2) (x : Nat) : Sy n σ (upd τ r x) := by
 intro v h0 h1
 rw [upd_ne (by omega)]; exact h v h0 h1
theorem Sy.store {n : Nat} {σ τ : Int → Nat} (h : Sy n σ τ) {d : Int} (x : Nat) : Sy n (upd σ d x) (upd τ (2 * d + 1) x) := by
 intro v h0 h1
 by_cases hd : v = d
 ·subst hd; rw [Jto5, Jto5]
 ·rw [upd_ne hd, upd_ne (by omega)]; exact h v h0 h1
theorem Sy.copies {n : Nat} : ∀ {l : List Instr} {σ τ : Int → Nat}, (∀ i ∈ l, i.op = 2 ∧ (0 ≤ i.a ∧ i.a < n) ∧ slotZ i.a = 2 * i.a + 1 ∧ slotZ i.d = 2 * i.d + 1) → Sy n σ τ → Sy n (runCv σ l) (runMv τ (spCode l)) := by
 intro l
 induction l with
 | nil => intro σ τ _ h; exact h
 | cons i l ih =>
  intro σ τ hl h
  obtain ⟨h1, ⟨h2, h3⟩, h4, h5⟩ := hl i (by simp)
  have e : spCode (i :: l) = [mvM (regZ 0) (slotZ i.a), mvM (slotZ i.d) (regZ 0)] ++ spCode l := by
   simp only [spCode, List.flatMap_cons, Jtlf, h1]
   rfl
  rw [e, Jtjv]
  refine ih (fun x hx => hl x (by simp [hx])) ?_
  have r0 : regZ 0 = 0 := by decide
  show Sy n (upd σ i.d (σ i.a)) (upd (upd τ (regZ 0) (τ (slotZ i.a))) (slotZ i.d) (upd τ (regZ 0) (τ (slotZ i.a)) (regZ 0)))
  rw [Jto5, h4, h5, r0, ← h i.a h2 h3]
  exact (h.load (.inl rfl) _).store _
def ldA (i : Instr) : List Mach := if usesA i.op = true then [mvM (regZ 0) (slotZ i.a)] else []
def ldB (i : Instr) : List Mach := if usesB i.op = true then [mvM (regZ 1) (slotZ i.b)] else []
def stD (i : Instr) : List Mach := if usesD i.op = true then [mvM (slotZ i.d) (regZ 0)] else []
def opX (i : Instr) : Mach := if usesB i.op = true then opM i 1 else opM i 0
theorem Jtli {i : Instr} (h1 : 1 ≤ i.op) (h2 : i.op ≤ 17) (h3 : i.op ≠ 2) : Jtlf i = ldA i ++ ldB i ++ (opX i :: stD i) := by
 obtain ⟨hD, hA, hB, _⟩ := Jtk8 h1 h2
 unfold Jtlf ldA ldB stD opX
 rw [hD, hA, hB]
 cases usesB i.op <;> simp [h3]
structure InOk (n : Nat) (i : Instr) : Prop where
 a : usesA i.op = true → (0 ≤ i.a ∧ i.a < n) ∧ slotZ i.a = 2 * i.a + 1
 b : usesB i.op = true → (0 ≤ i.b ∧ i.b < n) ∧ slotZ i.b = 2 * i.b + 1
 d : usesD i.op = true → (0 ≤ i.d ∧ i.d < n) ∧ slotZ i.d = 2 * i.d + 1
theorem r0e : regZ 0 = 0 := by decide
theorem r1e : regZ 1 = 2 := by decide
theorem Jte0 {n : Nat} {i : Instr} (ok : InOk n i) {σ τ : Int → Nat} (h : Sy n σ τ) : Sy n σ (runMv τ (ldA i ++ ldB i)) ∧ (usesA i.op = true → runMv τ (ldA i ++ ldB i) 0 = σ i.a) ∧ (usesB i.op = true → runMv τ (ldA i ++ ldB i) 2 = σ i.b) := by
 rw [Jtjv]
 have h1 : Sy n σ (runMv τ (ldA i)) ∧ (usesA i.op = true → runMv τ (ldA i) 0 = σ i.a) := by
  unfold ldA
  cases hA : usesA i.op with
  | false => exact ⟨h, fun h => by cases h⟩
  | true =>
   obtain ⟨⟨a0, a1⟩, a2⟩ := ok.a hA
   have e : runMv τ [mvM (regZ 0) (slotZ i.a)] = upd τ 0 (τ (2 * i.a + 1)) := by
    show upd τ (regZ 0) (τ (slotZ i.a)) = _; rw [r0e, a2]
   rw [if_pos rfl, e]
   exact ⟨h.load (.inl rfl) _, fun _ => by rw [Jto5]; exact (h i.a a0 a1).symm⟩
 obtain ⟨s1, s2⟩ := h1
 obtain ⟨t, ht⟩ : ∃ t, t = runMv τ (ldA i) := ⟨_, rfl⟩
 rw [← ht] at s1 s2 ⊢
 unfold ldB
 cases hB : usesB i.op with
 | false => exact ⟨s1, s2, fun h => by cases h⟩
 | true =>
  obtain ⟨⟨a0, a1⟩, a2⟩ := ok.b hB
  have e : runMv t [mvM (regZ 1) (slotZ i.b)] = upd t 2 (t (2 * i.b + 1)) := by
   show upd t (regZ 1) (t (slotZ i.b)) = _; rw [r1e, a2]
  rw [if_pos rfl, e]
  exact ⟨s1.load (.inr rfl) _, fun hA => by rw [upd_ne (by decide)]; exact s2 hA, fun _ => by rw [Jto5]; exact (s1 i.b a0 a1).symm⟩
theorem Jtgk (i : Instr) : regZ (opX i).a = 0 ∧ regZ (opX i).d = 0 ∧ (usesB i.op = true → regZ (opX i).b = 2) := by
 unfold opX
 cases usesB i.op with
 | false => exact ⟨r0e, r0e, fun h => by cases h⟩
 | true => exact ⟨r0e, r0e, fun _ => r1e⟩
theorem Jtd3 {n : Nat} {most : Int} (few : (spV n).length * (spL n).length < 100000) (hm : 100000 ≤ most) {i : Instr} (ok : InOk n i) {s : CS} {σ τ : Int → Nat} {N : Nat} (h : Nums2 (spV n) (spL n) s σ τ N) (hs : Sy n σ τ)
  (hA : usesA i.op = true → τ 0 = σ i.a) (hB : usesB i.op = true → τ 2 = σ i.b) (at_ : Int) :
  ∃ s' σ' τ' N', instrC most s i (opX i) at_ = (s', none) ∧ Nums2 (spV n) (spL n) s' σ' τ' N' ∧ Sy n σ' (runMv τ' (stD i)) := by
 obtain ⟨x1, x2, x3⟩ := Jtgk i
 have l0 : (0 : Int) ∈ spL n := Jtfa.2 (.inl rfl)
 have l2 : (2 : Int) ∈ spL n := Jtfa.2 (.inr (.inl rfl))
 have u1 : ∃ s1, (if usesA i.op = true then useC s i.a (regZ (opX i).a) at_ else (s, none)) = (s1, none) ∧ Nums2 (spV n) (spL n) s1 σ τ N := by
  by_cases ha : usesA i.op = true
  ·rw [if_pos ha, x1]; exact h.use (Jtfb.2 (ok.a ha).1) l0 (hA ha).symm at_
  ·rw [if_neg ha]; exact ⟨s, rfl, h⟩
 obtain ⟨s1, e1, h1⟩ := u1
 have u2 : ∃ s2, (if usesB i.op = true then useC s1 i.b (regZ (opX i).b) at_ else (s1, none)) = (s2, none) ∧ Nums2 (spV n) (spL n) s2 σ τ N := by
  by_cases ha : usesB i.op = true
  ·rw [if_pos ha, x3 ha]; exact h1.use (Jtfb.2 (ok.b ha).1) l2 (hB ha).symm at_
  ·rw [if_neg ha]; exact ⟨s1, rfl, h1⟩
 obtain ⟨s2, e2, h2⟩ := u2
 unfold instrC
 rw [e1, Jtnk, e2, Jtnk, x2]
 by_cases hd : usesD i.op = true
 ·obtain ⟨d1, d2⟩ := ok.d hd
  obtain ⟨s3, e3, h3⟩ := h2.define few hm (Jtfb.2 d1) l0 at_
  refine ⟨s3, _, _, _, by rw [if_pos hd]; exact e3, h3, ?_⟩
  have e : runMv (upd τ 0 N) (stD i) = upd (upd τ 0 N) (2 * i.d + 1) N := by
   unfold stD; rw [if_pos hd]
   show upd (upd τ 0 N) (slotZ i.d) (upd τ 0 N (regZ 0)) = _
   rw [r0e, Jto5, d2]
  rw [e]
  exact (hs.load (.inl rfl) _).store _
 ·refine ⟨s2, σ, τ, N, by rw [if_neg hd], h2, ?_⟩
  unfold stD; rw [if_neg hd]; exact hs
theorem Jtkh {α : Type} {f : α → Bool} {l a : List α} {i : Nat} (h : l.drop i = a) (ha : ∀ x ∈ a, f x = true) (hi : i ≤ l.length) : skipW f l i = l.length := by
 have e : a.takeWhile f = a := by
  induction a generalizing i with
  | nil => rfl
  | cons x a ih =>
   rw [List.takeWhile_cons, if_pos (ha x (by simp))]
   have h2 : l.drop (i + 1) = a := by rw [← List.drop_drop, h]; rfl
   have hlt : i < l.length := by
    apply Nat.lt_of_not_le
    intro hle
    rw [List.drop_eq_nil_of_le hle] at h; cases h
   rw [ih h2 (fun y hy => ha y (by simp [hy])) hlt]
 unfold skipW
 rw [h, e]
 have := congrArg List.length h
 rw [List.length_drop] at this
 omega
theorem Jtkg {α : Type} {f : α → Bool} {l a b : List α} {x : α} {i : Nat} (h : l.drop i = a ++ x :: b) (ha : ∀ y ∈ a, f y = true) (hx : f x = false) :
  skipW f l i = i + a.length ∧ l[i + a.length]? = some x ∧ l.drop (i + a.length + 1) = b ∧ (l.take (i + a.length)).drop i = a ∧ i + a.length < l.length := by
 have e : ∀ a : List α, (∀ y ∈ a, f y = true) → (a ++ x :: b).takeWhile f = a := by
  intro a
  induction a with
  | nil => intro _; rw [List.nil_append, List.takeWhile_cons, if_neg (by simp [hx])]
  | cons y a ih =>
   intro ha
   rw [List.cons_append, List.takeWhile_cons, if_pos (ha y (by simp)), ih fun z hz => ha z (by simp [hz])]
 have hl := congrArg List.length h
 rw [List.length_drop, List.length_append, List.length_cons] at hl
 have hg : l[i + a.length]? = some x := by
  rw [← List.getElem?_drop, h, List.getElem?_append_right (Nat.le_refl _)]; simp
 refine ⟨by unfold skipW; rw [h, e a ha], hg, ?_, ?_, by omega⟩
 ·rw [Nat.add_assoc, ← List.drop_drop, h, ← List.drop_drop, List.drop_left]; rfl
 ·rw [List.drop_take, h, show i + a.length - i = a.length by omega, List.take_left]
def MvOk (n : Nat) (m : Mach) : Prop := isMove m = true ∧ m.dst ∈ spL n ∧ m.src ∈ spL n
theorem Jtm8 (cs : List Instr) : (∀ x ∈ cs, isCopy x = true) ∨ ∃ a x b, cs = a ++ x :: b ∧ (∀ y ∈ a, isCopy y = true) ∧ isCopy x = false := by
 induction cs with
 | nil => exact .inl (by simp)
 | cons x cs ih =>
  cases hx : isCopy x with
  | false => exact .inr ⟨[], x, cs, rfl, by simp, hx⟩
  | true =>
   rcases ih with h | ⟨a, y, b, rfl, h1, h2⟩
   ·exact .inl fun z hz => (List.mem_cons.1 hz).elim (fun e => e ▸ hx) (h z)
   ·exact .inr ⟨x :: a, y, b, rfl, fun z hz => (List.mem_cons.1 hz).elim (fun e => e ▸ hx) (h1 z), h2⟩
theorem Jt78 {n : Nat} {i : Instr} (h : isCopy i = true) (ok : InOk n i) : (0 ≤ i.a ∧ i.a < n) ∧ (0 ≤ i.d ∧ i.d < n) ∧ slotZ i.a = 2 * i.a + 1 ∧ slotZ i.d = 2 * i.d + 1 ∧ i.op = 2 := by
 have h2 : i.op = 2 := by simpa [isCopy] using h
 obtain ⟨a1, a2⟩ := ok.a (by rw [h2]; rfl)
 obtain ⟨d1, d2⟩ := ok.d (by rw [h2]; rfl)
 exact ⟨a1, d1, a2, d2, h2⟩
theorem Jtkq {n : Nat} {v : Int} (h : 0 ≤ v ∧ v < n) (hs : slotZ v = 2 * v + 1) : slotZ v ∈ spL n := Jtfa.2 (.inr (.inr ⟨v, h.1, h.2, hs⟩))
theorem Jtih {n : Nat} : regZ 0 ∈ spL n := Jtfa.2 (.inl r0e)
theorem Jtii {n : Nat} : regZ 1 ∈ spL n := Jtfa.2 (.inr (.inl r1e))
theorem Jt72 {n : Nat} {l : List Instr} (h : ∀ x ∈ l, isCopy x = true) (ok : ∀ x ∈ l, InOk n x) : ∀ m ∈ spCode l, MvOk n m := by
 intro m hm
 unfold spCode at hm
 obtain ⟨i, hi, hm⟩ := List.mem_flatMap.1 hm
 obtain ⟨a1, d1, a2, d2, h2⟩ := Jt78 (h i hi) (ok i hi)
 have e : Jtlf i = [mvM (regZ 0) (slotZ i.a), mvM (slotZ i.d) (regZ 0)] := by simp only [Jtlf, h2]; rfl
 rw [e] at hm
 simp only [List.mem_cons, List.not_mem_nil, or_false] at hm
 rcases hm with rfl | rfl
 ·exact ⟨rfl, Jtih, Jtkq a1 a2⟩
 ·exact ⟨rfl, Jtkq d1 d2, Jtih⟩
theorem Jtdz {n : Nat} {i : Instr} (ok : InOk n i) : ∀ m ∈ ldA i ++ ldB i, MvOk n m := by
 intro m hm
 rcases List.mem_append.1 hm with hm | hm
 ·unfold ldA at hm
  split at hm
  ·rename_i h; simp at hm; subst hm; exact ⟨rfl, Jtih, Jtkq (ok.a h).1 (ok.a h).2⟩
  ·simp at hm
 ·unfold ldB at hm
  split at hm
  ·rename_i h; simp at hm; subst hm; exact ⟨rfl, Jtii, Jtkq (ok.b h).1 (ok.b h).2⟩
  ·simp at hm
theorem Jtn0 {n : Nat} {i : Instr} (ok : InOk n i) : ∀ m ∈ stD i, MvOk n m := by
 intro m hm
 unfold stD at hm
 split at hm
 ·rename_i h; simp at hm; subst hm; exact ⟨rfl, Jtkq (ok.d h).1 (ok.d h).2, Jtih⟩
 ·simp at hm
theorem Jtlw {n : Nat} {most : Int} (few : (spV n).length * (spL n).length < 100000) (hm : 100000 ≤ most) {code : List Instr} {mach tl : List Mach} (hc : ∀ x ∈ code, (1 ≤ x.op ∧ x.op ≤ 17) ∧ InOk n x) (htl : ∀ m ∈ tl, MvOk n m) :
  ∀ (c : Nat) (cs : List Instr) (pre : List Mach) (i k f : Nat) (rows : List ARow), cs.length = c → code.drop i = cs → mach.drop k = pre ++ spCode cs ++ tl → (∀ m ∈ pre, MvOk n m) → i ≤ code.length → k ≤ mach.length → cs.length < f →
  ∀ (s : CS) (σ τ : Int → Nat) (N : Nat), Nums2 (spV n) (spL n) s σ τ N → Sy n σ (runMv τ pre) →
  ∃ rs k', alignS code mach f i k rows = (rows ++ rs, k', 0) ∧ ∃ s' σ' τ0 N', rowsC most code mach rs s = (s', none) ∧ Nums2 (spV n) (spL n) s' σ' (runMv τ0 tl) N' ∧ Sy n σ' τ0 := by
 intro c
 induction c using Nat.strongRecOn with
 | _ c ih =>
  intro cs pre i k f rows hlen hi hk hpre hil hkl hf s σ τ N hN hS
  have hcs : ∀ x ∈ cs, (1 ≤ x.op ∧ x.op ≤ 17) ∧ InOk n x := fun x hx => hc x (by rw [← hi] at hx; exact List.mem_of_mem_drop hx)
  obtain ⟨f, rfl⟩ : ∃ f', f = f' + 1 := ⟨f - 1, by omega⟩
  rcases Jtm8 cs with hall | ⟨a, x, b, rfl, ha, hx⟩
  ·have hmv := Jt72 hall fun y hy => (hcs y hy).2
   have e1 := Jtkh hi hall hil
   have hmall : ∀ m ∈ pre ++ spCode cs ++ tl, MvOk n m := fun m hm => by
    rcases List.mem_append.1 hm with hm | hm
    ·rcases List.mem_append.1 hm with hm | hm
     ·exact hpre m hm
     ·exact hmv m hm
    ·exact htl m hm
   have e2 := Jtkh hk (fun m hm => (hmall m hm).1) hkl
   refine ⟨[⟨i, code.length, k, mach.length, -1, -1⟩], mach.length, by unfold alignS; rw [e1, e2, if_pos ⟨rfl, rfl⟩], ?_⟩
   obtain ⟨s1, c1, n1⟩ := hN.copies few hm (at_ := k) (l := cs) fun y hy => by
    obtain ⟨a1, d1, _⟩ := Jt78 (hall y hy) (hcs y hy).2
    exact ⟨Jtfb.2 d1, Jtfb.2 a1⟩
   obtain ⟨s2, c2, n2⟩ := n1.moves few hm (l := pre ++ spCode cs ++ tl) (fun m hm => (hmall m hm).2) (k := k)
   have hsy := Sy.copies (l := cs) (fun y hy => by
    obtain ⟨a1, d1, a2, d2, h2⟩ := Jt78 (hall y hy) (hcs y hy).2
    exact ⟨h2, a1, a2, d2⟩) hS
   refine ⟨s2, runCv σ cs, runMv (runMv τ pre) (spCode cs), N, ?_, ?_, hsy⟩
   ·show thenC (rowC most code mach ⟨i, code.length, k, mach.length, -1, -1⟩ s) (rowsC most code mach []) = _
    have er : rowC most code mach ⟨i, code.length, k, mach.length, -1, -1⟩ s = (s2, none) := by
     unfold rowC
     simp only
     rw [List.take_length, List.take_length, hi, hk, c1, Jtnk, c2, Jtnk]
     rfl
    rw [er]; rfl
   ·rw [← Jtjv, ← Jtjv]
    rw [List.append_assoc] at n2
    exact n2
  ·obtain ⟨⟨x1, x2⟩, xok⟩ := hcs x (by simp)
   have xne : x.op ≠ 2 := by simpa [isCopy] using hx
   have hmv := Jt72 ha fun y hy => (hcs y (by simp [hy])).2
   have esp : spCode (a ++ x :: b) = spCode a ++ (ldA x ++ ldB x ++ (opX x :: stD x)) ++ spCode b := by
    unfold spCode
    rw [List.flatMap_append, List.flatMap_cons, Jtli x1 x2 xne]; simp only [List.append_assoc]
   obtain ⟨mv, hmvd⟩ : ∃ y, y = pre ++ spCode a ++ (ldA x ++ ldB x) := ⟨_, rfl⟩
   have hk2 : mach.drop k = mv ++ opX x :: (stD x ++ spCode b ++ tl) := by rw [hk, esp, hmvd]; simp [List.append_assoc]
   have hmall : ∀ m ∈ mv, MvOk n m := fun m hm => by
    rw [hmvd] at hm
    rcases List.mem_append.1 hm with hm | hm
    ·rcases List.mem_append.1 hm with hm | hm
     ·exact hpre m hm
     ·exact hmv m hm
    ·exact Jtdz xok m hm
   have eop : (opX x).op = x.op ∧ (opX x).imm = x.imm := by unfold opX; split <;> exact ⟨rfl, rfl⟩
   have hno : isMove (opX x) = false := by unfold isMove; rw [eop.1]; simp; omega
   obtain ⟨p1, p2, p3, p4, p5⟩ := Jtkg hi ha hx
   obtain ⟨q1, q2, q3, q4, q5⟩ := Jtkg hk2 (fun m hm => (hmall m hm).1) hno
   have hsame : sameI x (opX x) = true := by
    unfold sameI; rw [eop.1, eop.2]; simp [xne]; omega
   have hlenb : b.length < c := by rw [← hlen]; simp; omega
   obtain ⟨ni, hni⟩ : ∃ y, y = i + a.length := ⟨_, rfl⟩
   obtain ⟨nk, hnk⟩ : ∃ y, y = k + mv.length := ⟨_, rfl⟩
   rw [← hni] at p1 p2 p3 p4 p5
   rw [← hnk] at q1 q2 q3 q4 q5
   obtain ⟨s1, c1, n1⟩ := hN.copies few hm (at_ := k) (l := a) fun y hy => by
    obtain ⟨a1, d1, _⟩ := Jt78 (ha y hy) (hcs y (by simp [hy])).2
    exact ⟨Jtfb.2 d1, Jtfb.2 a1⟩
   obtain ⟨s2, c2, n2⟩ := n1.moves few hm (l := mv) (fun m hm => (hmall m hm).2) (k := k)
   have hsy := Sy.copies (l := a) (fun y hy => by
    obtain ⟨a1, d1, a2, d2, h2⟩ := Jt78 (ha y hy) (hcs y (by simp [hy])).2
    exact ⟨h2, a1, a2, d2⟩) hS
   obtain ⟨l1, l2, l3⟩ := Jte0 xok hsy
   have em : runMv τ mv = runMv (runMv (runMv τ pre) (spCode a)) (ldA x ++ ldB x) := by rw [hmvd, Jtjv (a := pre ++ spCode a), Jtjv (a := pre)]
   rw [← em] at l1 l2 l3
   have hao : usesA x.op = true → runCv σ a x.a = runCv σ a x.a := fun _ => rfl
   obtain ⟨s3, σ3, τ3, N3, c3, n3, y3⟩ := Jtd3 few hm xok n2 l1 l2 l3 (nk : Int)
   obtain ⟨rs, k', e4, s', σ', τ0, N', c4, n4, y4⟩ := ih b.length hlenb b (stD x) (ni + 1) (nk + 1) f (rows ++ [⟨i, ni, k, nk, ni, nk⟩]) rfl p3 q3 (Jtn0 xok) p5 q5 (by rw [List.length_append, List.length_cons] at hf; omega) s3 σ3 τ3 N3 n3 y3
   refine ⟨⟨i, ni, k, nk, ni, nk⟩ :: rs, k', ?_, s', σ', τ0, N', ?_, n4, y4⟩
   ·unfold alignS
    rw [p1, q1, if_neg (fun h => by omega), p2, q2]
    simp only
    rw [if_pos hsame, e4, List.append_assoc]; rfl
   ·show thenC (rowC most code mach ⟨i, ni, k, nk, ni, nk⟩ s) (rowsC most code mach rs) = _
    have er : rowC most code mach ⟨i, ni, k, nk, ni, nk⟩ s = (s3, none) := by
     unfold rowC
     simp only
     rw [p4, q4, c1, Jtnk, c2, Jtnk]
     unfold lastC
     simp only [Int.toNat_natCast, p2, q2]
     rw [if_pos (by omega)]; exact c3
    rw [er]; exact c4
theorem Jtkr {v : Int} (h0 : 0 ≤ v) (h1 : v ≤ 1000000) : slotZ v = 2 * v + 1 := by
 have e : IntKind.i64.wrap (2 * v) = 2 * v := wrap_i64 (by omega) (by omega)
 unfold slotZ; rw [e]; exact wrap_i64 (by omega) (by omega)
theorem Jtcx {i : Instr} {n : Nat} (hn : n ≤ 60) (h : Jtia i (n : Int) = 0) : (1 ≤ i.op ∧ i.op ≤ 17) ∧ InOk n i := by
 unfold Jtia at h
 split at h
 ·cases h
 rename_i h8
 split at h
 ·cases h
 rename_i h9
 refine ⟨by omega, ?_⟩
 simp only [bad9, Bool.or_eq_true, Bool.and_eq_true, not_or, not_and, Bool.not_eq_true', Bool.not_eq_false, inZ, decide_eq_true_eq] at h9
 obtain ⟨⟨d, a⟩, b⟩ := h9
 exact ⟨fun h => ⟨a h, Jtkr (a h).1 (by have := (a h).2; omega)⟩, fun h => ⟨b h, Jtkr (b h).1 (by have := (b h).2; omega)⟩, fun h => ⟨d h, Jtkr (d h).1 (by have := (d h).2; omega)⟩⟩
def sig0 (n : Nat) (v : Int) : Nat := if 0 ≤ v ∧ v < n then v.toNat else n
def tau0 (n : Nat) (x : Int) : Nat := if x % 2 = 1 ∧ 0 ≤ x ∧ x < 2 * n + 1 then ((x - 1) / 2).toNat else n + 1
theorem Jtf9 {n : Nat} (hn : n ≤ 60) {q : Pair} : q ∈ spInv n ↔ (0 ≤ q.v ∧ q.v < n) ∧ q.l = 2 * q.v + 1 := by
 unfold spInv
 rw [List.mem_map]
 constructor
 ·rintro ⟨v, h1, rfl⟩
  have := List.mem_range.1 h1
  exact ⟨⟨by simp only; omega, by simp only; omega⟩, Jtkr (by omega) (by omega)⟩
 ·rintro ⟨⟨h1, h2⟩, h3⟩
  refine ⟨q.v.toNat, List.mem_range.2 (by omega), ?_⟩
  have e : ((q.v.toNat : Nat) : Int) = q.v := by omega
  obtain ⟨v, l⟩ := q
  simp only at e h1 h2 h3 ⊢
  rw [e, Jtkr (by omega) (by omega), h3]
theorem Jtll (n : Nat) : (spInv n).length = n := by simp [spInv]
theorem Jtlr (n : Nat) : (spV n).length = n := by simp [spV]
theorem Jtlo (n : Nat) : (spL n).length = n + 2 := by simp [spL]
theorem sp_few {n : Nat} (hn : n ≤ 60) : (spV n).length * (spL n).length < 100000 := by
 rw [Jtlr, Jtlo]
 exact Nat.lt_of_le_of_lt (Nat.mul_le_mul hn (Nat.add_le_add_right hn 2)) (by decide)
theorem Jtlk {n : Nat} (hn : n ≤ 60) : ∀ q ∈ spInv n, q.v ∈ spV n ∧ q.l ∈ spL n := fun q hq => by
 obtain ⟨h1, h2⟩ := (Jtf9 hn).1 hq
 exact ⟨Jtfb.2 h1, Jtfa.2 (.inr (.inr ⟨q.v, h1.1, h1.2, h2⟩))⟩
theorem Jtg6 {n : Nat} (hn : n ≤ 60) (k l : Nat) : Nums2 (spV n) (spL n) ⟨makeP (spInv n), k, l⟩ (sig0 n) (tau0 n) (n + 2) ∧ Sy n (sig0 n) (tau0 n) := by
 refine ⟨⟨⟨Jtmp _, fun q hq => Jtlk hn q (Jtf1.1 hq)⟩, fun v => ?_, fun x => ?_, fun v hv x hx h => ?_⟩, fun v h0 h1 => ?_⟩
 ·unfold sig0; split <;> omega
 ·unfold tau0; split <;> omega
 ·have hv := Jtfb.1 hv
  refine Jtf1.2 ((Jtf9 hn).2 ⟨hv, ?_⟩)
  simp only
  unfold sig0 at h
  rw [if_pos hv] at h
  unfold tau0 at h
  rcases Jtfa.1 hx with rfl | rfl | ⟨u, h1, h2, rfl⟩
  ·rw [if_neg (by omega)] at h; omega
  ·rw [if_neg (by omega)] at h; omega
  ·rw [if_pos (by omega)] at h; omega
 ·unfold sig0 tau0
  rw [if_pos ⟨h0, h1⟩, if_pos (by omega)]; omega
theorem Jtni {t : Term} {regs blocks : Int} (h : Jtig t regs blocks = 0) (hk : t.kind ≠ 1) : 0 ≤ t.a ∧ t.a < regs := by
 have key : ¬ (inZ t.a regs = false) → 0 ≤ t.a ∧ t.a < regs := fun h => by simpa [inZ] using h
 unfold Jtig at h
 rw [if_neg hk] at h
 split at h
 ·split at h
  ·cases h
  ·rename_i h2; exact key h2
 ·split at h
  ·split at h
   ·cases h
   ·rename_i h2; exact key h2
  ·cases h
theorem Jtlt {n : Nat} (hn : n ≤ 60) {b : Block} {blocks : Int} (hc : ∀ i ∈ b.code, Jtia i (n : Int) = 0) (ht : Jtig b.term (n : Int) blocks = 0) :
  (checkZ b (Jtl9 b) (spInv n) 1048576).err = 0 ∧ ∀ q ∈ spInv n, q ∈ (checkZ b (Jtl9 b) (spInv n) 1048576).out := by
 have few := sp_few hn
 obtain ⟨tl, htl⟩ : ∃ y, y = if b.term.kind = 1 then [] else [mvM (regZ 0) (slotZ b.term.a)] := ⟨_, rfl⟩
 have hmc : (Jtl9 b).code = spCode b.code ++ tl := by rw [htl]; rfl
 have hta : b.term.kind ≠ 1 → (0 ≤ b.term.a ∧ b.term.a < n) ∧ slotZ b.term.a = 2 * b.term.a + 1 := fun hk => by
  have h1 := Jtni ht hk
  exact ⟨h1, Jtkr h1.1 (by omega)⟩
 have htv : ∀ m ∈ tl, MvOk n m := fun m hm => by
  rw [htl] at hm
  split at hm
  ·simp at hm
  ·rename_i hk
   simp only [List.mem_singleton] at hm
   subst hm
   exact ⟨rfl, Jtih, Jtkq (hta hk).1 (hta hk).2⟩
 obtain ⟨n1, y1⟩ := Jtg6 hn 0 (spInv n).length
 obtain ⟨rs, k', e1, s', σ', τ0, N', e2, n2, y2⟩ := Jtlw few (by decide) (most := 1048576) (code := b.code) (mach := (Jtl9 b).code) (tl := tl) (fun x hx => Jtcx hn (hc x hx)) htv b.code.length b.code [] 0 0 (b.code.length + 1) [] rfl rfl (by rw [hmc]; rfl) (by simp) (Nat.zero_le _) (Nat.zero_le _) (Nat.lt_succ_self _) ⟨makeP (spInv n), 0, (spInv n).length⟩ (sig0 n) (tau0 n) (n + 2) n1 y1
 have ea : alignZ b.code (Jtl9 b).code = (rs, k', 0) := e1
 have etm : termsZ b.term (Jtl9 b).term = true := by
  show termsZ b.term { b.term with a := 0 } = true
  simp [termsZ]
 have et0 : (Jtl9 b).term.a = 0 := rfl
 have hsy : Sy n σ' (runMv τ0 tl) ∧ (b.term.kind ≠ 1 → runMv τ0 tl 0 = σ' b.term.a) := by
  rw [htl]
  by_cases hk : b.term.kind = 1
  ·rw [if_pos hk]; exact ⟨y2, fun h => absurd hk h⟩
  ·rw [if_neg hk]
   obtain ⟨h1, h2⟩ := hta hk
   have e : runMv τ0 [mvM (regZ 0) (slotZ b.term.a)] = upd τ0 0 (τ0 (2 * b.term.a + 1)) := by
    show upd τ0 (regZ 0) (τ0 (slotZ b.term.a)) = _; rw [r0e, h2]
   rw [e]
   exact ⟨y2.load (.inl rfl) _, fun _ => by rw [Jto5]; exact (y2 _ h1.1 h1.2).symm⟩
 obtain ⟨y3, y4⟩ := hsy
 have hrun : ∃ s2, runC 1048576 b (Jtl9 b) rs ⟨makeP (spInv n), 0, (spInv n).length⟩ = (s2, none) ∧ Nums2 (spV n) (spL n) s2 σ' (runMv τ0 tl) N' := by
  unfold runC
  rw [e2, Jtnk]
  by_cases hk : b.term.kind = 1
  ·rw [if_pos hk]; exact ⟨s', rfl, n2⟩
  ·rw [if_neg hk, et0, r0e]
   exact n2.use (Jtfb.2 (hta hk).1) (Jtfa.2 (.inl rfl)) (y4 hk).symm _
 obtain ⟨s2, e3, n3⟩ := hrun
 have hl : ¬ (((spInv n).length : Int) > 1048576) := by rw [Jtll]; omega
 have ec : checkZ b (Jtl9 b) (spInv n) 1048576 = ⟨s2.set, 0, (Jtl9 b).code.length, s2.steps, s2.largest⟩ := by
  unfold checkZ
  rw [if_neg hl, ea]
  simp only [etm, Bool.true_eq_false, and_false, if_false, ne_eq, not_true_eq_false, e3]
  rfl
 rw [ec]
 refine ⟨rfl, fun q hq => ?_⟩
 obtain ⟨h1, h2⟩ := (Jtf9 hn).1 hq
 have := n3.all q.v (Jtfb.2 h1) q.l (Jtlk hn q hq).2 (by rw [h2]; exact y3 _ h1.1 h1.2)
 exact this
theorem run_bd : ∀ (l : List Mach) (a n : Nat), n ≤ a → l.foldl runN n ≤ (l.foldl Jtjw (a, n)).1 ∧ a ≤ (l.foldl Jtjw (a, n)).1 := by
 intro l
 induction l with
 | nil => intro a n h; exact ⟨h, Nat.le_refl _⟩
 | cons m l ih =>
  intro a n h
  have e : Jtjw (a, n) m = (max a (runN n m), runN n m) := by
   unfold Jtjw runN
   by_cases h18 : m.op = 18 <;> simp [h18]
  rw [List.foldl_cons, List.foldl_cons, e]
  obtain ⟨h1, h2⟩ := ih (max a (runN n m)) (runN n m) (by omega)
  exact ⟨h1, by omega⟩
theorem Jtjz : ∀ (l : List Mach) (s : Nat × Nat), s.1 ≤ (l.foldl Jtjw s).1 := by
 intro l
 induction l with
 | nil => intro s; exact Nat.le_refl _
 | cons m l ih =>
  intro s
  have h1 := ih (Jtjw s m)
  have h2 : s.1 ≤ (Jtjw s m).1 := by unfold Jtjw; simp only; omega
  rw [List.foldl_cons]; omega
theorem Jtjo (l : List Mach) (k : Nat) : runF (l.take k) ≤ (Jtjs l).1 := by
 have h1 := (run_bd (l.take k) 0 0 (Nat.le_refl _)).1
 have h2 := Jtjz (l.drop k) ((l.take k).foldl Jtjw (0, 0))
 rw [← List.foldl_append, List.take_append_drop] at h2
 unfold runF Jtjs; omega
theorem Jtfk {l : List Nat} {x : Nat} (h : x ∈ l) : x ≤ mostN l := by
 apply Nat.le_of_not_lt
 intro hlt
 exact Nat.lt_irrefl _ (Jtfl.2 ⟨x, h, hlt⟩)
theorem Jtj4 {s : Int} : rngZ 0 2 s = true ∧ rngZ 2 2 s = true := by unfold rngZ; exact ⟨rfl, rfl⟩
theorem Jtj5 {v r s : Int} (h0 : 0 ≤ v) (h1 : v < s) : rngZ (2 * v + 1) r s = true ∧ (2 * v + 1).tmod 2 = 1 ∧ (2 * v + 1).tdiv 2 = v := by
 have e1 : (2 * v + 1).tmod 2 = 1 := by rw [Int.tmod_eq_emod_of_nonneg (by omega)]; omega
 have e2 : (2 * v + 1).tdiv 2 = v := by rw [Int.tdiv_eq_ediv_of_nonneg (by omega)]; omega
 refine ⟨?_, e1, e2⟩
 unfold rngZ
 rw [if_pos e1, e2]
 simp only [Bool.and_eq_true, decide_eq_true_eq]
 omega
theorem Jtfx {n : Nat} {m : Mach} {d s : Int} (hm : m = mvM d s) (hd : rngZ d 2 (n : Int) = true) (hs : rngZ s 2 (n : Int) = true) (h : ¬ (d.tmod 2 = 1 ∧ s.tmod 2 = 1)) : Jtid m 2 (n : Int) = 0 := by
 subst hm
 unfold Jtid mvM
 simp only [hd, hs]
 rw [if_neg (by decide), if_pos trivial, if_neg (by simp; simpa using h), if_neg (by simp)]
theorem Jtgl {n : Nat} {i : Instr} (h : Jtia i (n : Int) = 0) (h2 : i.op ≠ 2) : Jtid (opX i) 2 (n : Int) = 0 := by
 have hop : 1 ≤ i.op ∧ i.op ≤ 17 := by
  unfold Jtia at h
  split at h
  ·cases h
  ·omega
 have him : i.op = 1 ∨ i.imm = 0 := by
  unfold Jtia at h
  rw [if_neg (by omega)] at h
  split at h
  ·cases h
  split at h
  ·cases h
  rename_i h12
  simp only [bad12, Bool.or_eq_true, Bool.and_eq_true, not_or, not_and, bne_iff_ne, ne_eq, Decidable.not_not] at h12
  by_cases h1 : i.op = 1
  ·exact .inl h1
  ·exact .inr (h12.2 h1)
 obtain ⟨bb, hbb, hbe⟩ : ∃ bb : Int, opX i = opM i bb ∧ ((usesB i.op = true ∧ bb = 1) ∨ (usesB i.op = false ∧ bb = 0)) := by
  unfold opX
  cases hB : usesB i.op with
  | true => exact ⟨1, rfl, .inl ⟨rfl, rfl⟩⟩
  | false => exact ⟨0, rfl, .inr ⟨rfl, rfl⟩⟩
 have e0 : Jtia ⟨i.op, 0, 0, bb, i.imm⟩ 2 = 0 := by
  unfold Jtia
  have b9 : bad9 ⟨i.op, 0, 0, bb, i.imm⟩ 2 = false := by
   unfold bad9
   have i0 : inZ 0 2 = true := by decide
   have i1 : inZ bb 2 = true := by rcases hbe with ⟨_, rfl⟩ | ⟨_, rfl⟩ <;> decide
   simp [i0, i1]
  have b12 : bad12 ⟨i.op, 0, 0, bb, i.imm⟩ = false := by
   have e1 : (!usesB i.op && bb != 0) = false := by
    rcases hbe with ⟨hb, rfl⟩ | ⟨hb, rfl⟩
    ·rw [hb]; rfl
    ·rw [hb]; rfl
   have e2 : (i.op != 1 && i.imm != 0) = false := by
    rcases him with h1 | h1
    ·rw [h1]; rfl
    ·rw [h1]; simp
   unfold bad12
   simp only [e1, e2]
   simp
  simp only [b9, b12]
  rw [if_neg (by omega), if_neg (by simp), if_neg (by simp)]
 rw [hbb]
 unfold Jtid opM
 simp only [e0]
 rw [if_neg (by omega), if_neg (by omega), if_neg (by simp)]
theorem Jtlj {n : Nat} (hn : n ≤ 60) {i : Instr} (h : Jtia i (n : Int) = 0) : ∀ m ∈ Jtlf i, Jtid m 2 (n : Int) = 0 := by
 obtain ⟨hop, ok⟩ := Jtcx hn h
 have ld : ∀ (r x : Int), (r = 0 ∨ r = 2) → ((0 ≤ x ∧ x < n) ∧ slotZ x = 2 * x + 1) → ∀ m, m = mvM r (slotZ x) → Jtid m 2 (n : Int) = 0 := by
  intro r x hr hx m hm
  obtain ⟨q1, q2, q3⟩ := Jtj5 (r := 2) hx.1.1 hx.1.2
  refine Jtfx hm ?_ (by rw [hx.2]; exact q1) ?_
  ·rcases hr with rfl | rfl
   ·exact Jtj4.1
   ·exact Jtj4.2
  ·rintro ⟨h1, _⟩
   rcases hr with rfl | rfl <;> simp at h1
 have st : ∀ (x : Int), ((0 ≤ x ∧ x < n) ∧ slotZ x = 2 * x + 1) → ∀ m, m = mvM (slotZ x) 0 → Jtid m 2 (n : Int) = 0 := by
  intro x hx m hm
  obtain ⟨q1, q2, q3⟩ := Jtj5 (r := 2) hx.1.1 hx.1.2
  exact Jtfx hm (by rw [hx.2]; exact q1) Jtj4.1 (by rintro ⟨_, h1⟩; simp at h1)
 intro m hm
 by_cases h2 : i.op = 2
 ·have e : Jtlf i = [mvM (regZ 0) (slotZ i.a), mvM (slotZ i.d) (regZ 0)] := by simp only [Jtlf, h2]; rfl
  rw [e, r0e] at hm
  simp only [List.mem_cons, List.not_mem_nil, or_false] at hm
  rcases hm with hm | hm
  ·exact ld 0 i.a (.inl rfl) (ok.a (by rw [h2]; rfl)) m hm
  ·exact st i.d (ok.d (by rw [h2]; rfl)) m hm
 ·rw [Jtli hop.1 hop.2 h2] at hm
  rcases List.mem_append.1 hm with hm | hm
  ·rcases List.mem_append.1 hm with hm | hm
   ·unfold ldA at hm
    split at hm
    ·rename_i hu
     simp only [List.mem_singleton, r0e] at hm
     exact ld 0 i.a (.inl rfl) (ok.a hu) m hm
    ·simp at hm
   ·unfold ldB at hm
    split at hm
    ·rename_i hu
     simp only [List.mem_singleton, r1e] at hm
     exact ld 2 i.b (.inr rfl) (ok.b hu) m hm
    ·simp at hm
  ·rcases List.mem_cons.1 hm with rfl | hm
   ·exact Jtgl h h2
   ·unfold stD at hm
    split at hm
    ·rename_i hu
     simp only [List.mem_singleton, r0e] at hm
     exact st i.d (ok.d hu) m hm
    ·simp at hm
theorem Jtlc {n : Nat} (hn : n ≤ 60) {b : Block} {blocks : Int} (hc : ∀ i ∈ b.code, Jtia i (n : Int) = 0) (ht : Jtig b.term (n : Int) blocks = 0) (hr : Jtlp b ≤ 64) : Jtib (Jtl9 b) 2 (n : Int) blocks = 0 := by
 have hi : ∀ x ∈ (Jtl9 b).code, Jtid x 2 (n : Int) = 0 := by
  intro x hx
  have hx : x ∈ spCode b.code ++ (if b.term.kind = 1 then [] else [mvM (regZ 0) (slotZ b.term.a)]) := hx
  rcases List.mem_append.1 hx with hx | hx
  ·unfold spCode at hx
   obtain ⟨i, hi, hx⟩ := List.mem_flatMap.1 hx
   exact Jtlj hn (hc i hi) x hx
  ·split at hx
   ·simp at hx
   ·rename_i hk
    simp only [List.mem_singleton, r0e] at hx
    have h1 := Jtni ht hk
    obtain ⟨q1, q2, q3⟩ := Jtj5 (r := 2) h1.1 h1.2
    exact Jtfx hx Jtj4.1 (by rw [Jtkr h1.1 (by omega)]; exact q1) (by rintro ⟨h, _⟩; simp at h)
 have he : mErrs (Jtl9 b).code 2 (n : Int) = 0 := by
  unfold mErrs
  refine Jt8p fun e he => ?_
  obtain ⟨j, hj, rfl⟩ := List.mem_map.1 he
  have hj := List.mem_range.1 hj
  have hx : (Jtl9 b).code[j]? = some (Jtl9 b).code[j] := by simp [hj]
  unfold mErr
  rw [hx]
  simp only
  rw [hi _ (List.getElem_mem hj), if_neg (by simp), if_neg]
  intro h
  have h1 := (Jtfw hj).2 h
  have h2 := Jtjo (Jtl9 b).code (j + 1)
  unfold Jtlp at hr
  omega
 unfold Jtib
 rw [he, if_neg (by simp)]
 show Jtig { b.term with a := 0 } 2 blocks = 0
 unfold Jtig at ht ⊢
 have i0 : ¬ (inZ 0 2 = false) := by decide
 simp only
 split at ht
 ·rename_i k1
  rw [if_pos k1]
  split at ht
  ·cases ht
  rename_i k2
  rw [if_neg k2]
  split at ht
  ·cases ht
  rename_i k3
  exact if_neg (fun h => k3 (h.elim (fun h => absurd rfl h) .inr))
 rename_i k1
 rw [if_neg k1]
 split at ht
 ·rename_i k2
  rw [if_pos k2]
  split at ht
  ·cases ht
  split at ht
  ·cases ht
  rename_i k4 k5
  rw [if_neg i0, if_neg k5]
 rename_i k2
 rw [if_neg k2]
 split at ht
 ·rename_i k3
  rw [if_pos k3]
  split at ht
  ·cases ht
  split at ht
  ·cases ht
  rename_i k4 k5
  rw [if_neg i0, if_neg k5]
 ·cases ht
theorem Jtlm {n : Nat} (hn : n ≤ 60) : Srt (spInv n) := by
 refine Jtmi.2 fun k hk => ?_
 have hk' : k + 1 < n := by rwa [Jtll] at hk
 have e : ∀ (j : Nat) (hj : j < (spInv n).length), (spInv n)[j] = ⟨(j : Int), slotZ j⟩ := by
  intro j hj; simp [spInv]
 rw [e, e, Jtdr]
 left; simp only; omega
theorem Jtln {n : Nat} (hn : n ≤ 60) : pErrs (spInv n) (n : Int) 2 (n : Int) = 0 := by
 unfold pErrs
 refine Jt8p fun e he => ?_
 obtain ⟨k, hk, rfl⟩ := List.mem_map.1 he
 have hk := List.mem_range.1 hk
 obtain ⟨h1, h2⟩ := (Jtf9 hn).1 (List.getElem_mem hk)
 rw [Jtgs hk, if_neg (by omega), if_neg (by rw [h2, (Jtj5 h1.1 h1.2).1]; simp), if_neg]
 rintro ⟨h0, h3⟩
 have e : (spInv n)[k - 1]? = some ((spInv n)[k - 1]'(by omega)) := by rw [List.getElem?_eq_getElem]
 rw [e] at h3
 simp only at h3
 have := Jtmo (Jtlm hn) (i := k - 1) (j := k) (by omega) hk
 rw [h3] at this; cases this
theorem Jtlq {f : Func} (h : spRun f ≤ 64) : ∀ b ∈ f.blocks, Jtlp b ≤ 64 := fun b hb =>
 Nat.le_trans (Jtfk (List.mem_map_of_mem hb)) h
theorem Jto7 (l : List Pair) (k : Nat) : wTotal (List.replicate k l) = k * l.length := by
 induction k with
 | zero => simp [wTotal]
 | succ k ih =>
  have : wTotal (l :: List.replicate k l) = l.length + wTotal (List.replicate k l) := by simp [wTotal]
  rw [List.replicate_succ, this, ih, Nat.add_mul]; omega
theorem Jtlx {f : Func} (hv : Jti9 f = 0) (hf : few f = true) (hr : spRun f ≤ 64) : validZ (spCert f) = 0 := by
 obtain ⟨f1, f2, f3, f4⟩ := Jt8j.1 hf
 obtain ⟨s1, s2, s3, s4⟩ := src_ok hv
 obtain ⟨n, hn⟩ : ∃ n : Nat, f.regs = (n : Int) := ⟨f.regs.toNat, by omega⟩
 have hnt : f.regs.toNat = n := by omega
 have hn60 : n ≤ 60 := by omega
 have hmc := Jtew f.blocks
 have hm : Jtic (spCert f).T = 0 := by
  show Jtic ⟨f.args, 2, f.regs, f.blocks.map Jtl9⟩ = 0
  unfold Jtic
  simp only [List.length_map]
  rw [if_neg (by omega), if_neg (by omega), if_neg (by omega), if_neg (by omega), if_neg (by omega)]
  refine Jt8p fun e he => ?_
  rw [List.map_map] at he
  obtain ⟨b, hb, rfl⟩ := List.mem_map.1 he
  obtain ⟨h1, h2⟩ := s4 b hb
  show Jtib (Jtl9 b) 2 f.regs f.blocks.length = 0
  rw [hn] at h1 h2 ⊢
  exact Jtlc hn60 h1 h2 (Jtlq hr b hb)
 have hS : (spCert f).S = f := rfl
 have hW : (spCert f).W = List.replicate f.blocks.length (spInv n) := by rw [← hnt]; rfl
 have hT : (spCert f).T = ⟨f.args, 2, f.regs, f.blocks.map Jtl9⟩ := rfl
 unfold validZ
 rw [hm, hS, hv, if_neg (by simp), if_neg (by simp), hT]
 rw [if_neg (by simp), hW]
 unfold Jt7q
 rw [if_neg (by simp), if_neg (by
  rw [Jto7, Jtll]
  have : f.blocks.length * n ≤ 40 * 60 := Nat.mul_le_mul f1 hn60
  omega)]
 refine Jt8p fun e he => ?_
 obtain ⟨l, hl, rfl⟩ := List.mem_map.1 he
 rw [List.eq_of_mem_replicate hl]
 simp only
 rw [hn]
 exact Jtln hn60
end Go.AE
set_option maxRecDepth 4000
namespace Go.AE
open Go
theorem sp_fit {f : Func} (hv : Jti9 f = 0) (hf : few f = true) (hr : spRun f ≤ 64) : Fit (spCert f) := by
 have h := Jtlx hv hf hr
 obtain ⟨f1, f2, f3, f4⟩ := Jt8j.1 hf
 obtain ⟨s1, s2, s3, s4⟩ := src_ok hv
 obtain ⟨n, hn⟩ : ∃ n : Nat, f.regs = (n : Int) := ⟨f.regs.toNat, by omega⟩
 have hnt : f.regs.toNat = n := by omega
 have hn60 : n ≤ 60 := by omega
 have hW : (spCert f).W = List.replicate f.blocks.length (spInv n) := by rw [← hnt]; rfl
 have hT : (spCert f).T = ⟨f.args, 2, f.regs, f.blocks.map Jtl9⟩ := rfl
 have hm : Jtic (spCert f).T = 0 := by
  unfold validZ at h
  split at h
  ·rename_i g; exact absurd h g
  split at h
  ·rename_i g; exact absurd h g
  rename_i g2
  simpa using g2
 obtain ⟨t1, t2, t3, t4⟩ := mac_ok hm
 exact {
  lenT := by rw [hT]; simp; rfl
  lenW := by rw [hW]; simp; rfl
  pos := s3
  few := f1
  w := fun l hl => by
   rw [hW] at hl
   rw [List.eq_of_mem_replicate hl]
   refine ⟨Jtlm hn60, by rw [Jtll]; omega, fun q hq => ?_⟩
   obtain ⟨h1, h2⟩ := (Jtf9 hn60).1 hq
   omega
  vl := fun b hb m hm => ⟨fun i hi => Jtd1 ((s4 b hb).1 i hi) (by omega) f2, fun x hx => Jtfe (t4 m hm x hx) t3 (by rw [hT]; show (2 : Int) ≤ 60; decide) (by rw [hT]; exact f2)⟩
  cs := f3
  ct := fun m hm => by
   rw [hT] at hm
   obtain ⟨b, hb, rfl⟩ := List.mem_map.1 hm
   have h1 := Jtla b
   have h2 := f3 b hb
   omega
  to := fun b hb x hx => Jtnj (s4 b hb).2 x hx
  ars := ⟨s1, by show f.args ≤ 60; omega⟩ }
theorem Jtlu {n : Nat} (hn : n ≤ 60) (args : Int) : ((spInv n).all fun q => initZ q args) = true := by
 rw [List.all_eq_true]
 intro q hq
 obtain ⟨h1, h2⟩ := (Jtf9 hn).1 hq
 obtain ⟨q1, q2, q3⟩ := Jtj5 (r := 0) h1.1 h1.2
 unfold initZ
 rw [h2, q2, q3]
 split
 ·simp
 ·simp; omega
theorem sp_blk {f : Func} (hv : Jti9 f = 0) (hf : few f = true) {i : Nat} (hi : i < f.blocks.length) : blkOk (spCert f) i = true := by
 obtain ⟨f1, f2, f3, f4⟩ := Jt8j.1 hf
 obtain ⟨s1, s2, s3, s4⟩ := src_ok hv
 obtain ⟨n, hn⟩ : ∃ n : Nat, f.regs = (n : Int) := ⟨f.regs.toNat, by omega⟩
 have hnt : f.regs.toNat = n := by omega
 have hn60 : n ≤ 60 := by omega
 have hW : (spCert f).W = List.replicate f.blocks.length (spInv n) := by rw [← hnt]; rfl
 have hb : (spCert f).S.blocks[i]? = some f.blocks[i] := by show f.blocks[i]? = _; simp [hi]
 have hm : (spCert f).T.blocks[i]? = some (Jtl9 f.blocks[i]) := by show (f.blocks.map Jtl9)[i]? = _; simp [hi]
 have hl : (spCert f).W[i]? = some (spInv n) := by rw [hW]; simp [hi]
 obtain ⟨h1, h2⟩ := s4 f.blocks[i] (List.getElem_mem hi)
 rw [hn] at h1 h2
 obtain ⟨e1, e2⟩ := Jtlt hn60 h1 h2
 rw [Jt5f hb hm hl, e1]
 simp only [decide_true, Bool.true_and, List.all_eq_true]
 intro x hx
 unfold hasE
 have : (missP (((spCert f).W[x.toNat]?).getD []) (checkZ f.blocks[i] (Jtl9 f.blocks[i]) (spInv n) 1048576).out) = none := by
  refine Jtfg fun q hq => e2 q ?_
  rw [hW, List.getElem?_replicate] at hq
  split at hq
  ·exact hq
  ·simp at hq
 rw [this]; rfl
theorem Jtlv {f : Func} (hv : Jti9 f = 0) (hf : few f = true) (hr : spRun f ≤ 64) : (Jtiz (spCert f)).err = 0 ∧ (Jtiz (spCert f)).blocks = f.blocks.length := by
 have h := sp_fit hv hf hr
 have hz := Jtlx hv hf hr
 have e : (Jtiz (spCert f)).err = 0 := by
  obtain ⟨f1, f2, f3, f4⟩ := Jt8j.1 hf
  obtain ⟨s1, s2, s3, s4⟩ := src_ok hv
  have hok : okTo (spCert f) (spCert f).S.blocks.length = true := by
   unfold okTo
   rw [List.all_eq_true]
   intro i hi
   exact sp_blk hv hf (List.mem_range.1 hi)
  have hw : ((w0 (spCert f)).all fun q => initZ q (spCert f).S.args) = true := by
   have hm := Jt8t h
   have hW : (spCert f).W = List.replicate f.blocks.length (spInv f.regs.toNat) := rfl
   rw [hW] at hm
   rw [List.eq_of_mem_replicate hm]
   exact Jtlu (by omega) _
  unfold Jtiz
  rw [if_neg (by simp [hz]), if_neg (by simp [hw])]
  exact (Jt5q h (spCert f).S.blocks.length 0 (rep0 (spCert f)) (by omega) rfl rfl).2.2 hok
 exact ⟨e, ((Jtgf h hz).done e).1⟩
theorem Jtol (x : Int) : okZ (IntKind.i64.wrap x) := by
 unfold okZ
 rw [IntKind.wrap_i64]; omega
theorem Jtlh (i : Instr) : ∀ m ∈ Jtlf i, okZ m.dst ∧ okZ m.src := by
 have h0 : okZ 0 := by constructor <;> decide
 have hr : ∀ x, okZ (regZ x) := fun x => Jtol _
 have hs : ∀ x, okZ (slotZ x) := fun x => Jtol _
 intro m hm
 unfold Jtlf at hm
 rcases List.mem_append.1 hm with hm | hm
 ·split at hm
  ·simp only [List.mem_singleton] at hm; subst hm; exact ⟨hr 0, hs i.a⟩
  ·simp at hm
 ·rcases List.mem_append.1 hm with hm | hm
  ·split at hm
   ·split at hm
    ·simp only [List.mem_cons, List.not_mem_nil, or_false] at hm
     rcases hm with rfl | rfl
     ·exact ⟨hr 1, hs i.b⟩
     ·exact ⟨h0, h0⟩
    ·simp only [List.mem_singleton] at hm; subst hm; exact ⟨h0, h0⟩
   ·simp at hm
  ·split at hm
   ·simp only [List.mem_singleton] at hm; subst hm; exact ⟨hs i.d, hr 0⟩
   ·simp at hm
theorem Jtlb (b : Block) : okM (Jtl9 b) := by
 have hr : ∀ x, okZ (regZ x) := fun x => Jtol _
 have hs : ∀ x, okZ (slotZ x) := fun x => Jtol _
 intro x hx
 have hx : x ∈ spCode b.code ++ (if b.term.kind = 1 then [] else [mvM (regZ 0) (slotZ b.term.a)]) := hx
 rcases List.mem_append.1 hx with hx | hx
 ·unfold spCode at hx
  obtain ⟨i, hi, hx⟩ := List.mem_flatMap.1 hx
  exact Jtlh i x hx
 ·split at hx
  ·simp at hx
  ·simp only [List.mem_singleton] at hx; subst hx; exact ⟨hr 0, hs b.term.a⟩
theorem sp_okc {f : Func} (hf : few f = true) : okCert (spCert f) := by
 obtain ⟨f1, f2, f3, f4⟩ := Jt8j.1 hf
 have hmc := Jtew f.blocks
 refine ⟨by show f.blocks.length < _; omega, by show codeN f.blocks < _; omega, by show (f.blocks.map Jtl9).length < _; rw [List.length_map]; omega, by show mcodeN (f.blocks.map Jtl9) < _; omega, ?_, by show (List.replicate f.blocks.length (spInv f.regs.toNat)).length < _; rw [List.length_replicate]; omega, ?_, ?_⟩
 ·intro m hm
  obtain ⟨b, hb, rfl⟩ := List.mem_map.1 hm
  exact Jtlb b
 ·show wTotal (List.replicate f.blocks.length (spInv f.regs.toNat)) < _
  rw [Jto7, Jtll]
  have : f.blocks.length * f.regs.toNat ≤ 40 * 60 := Nat.mul_le_mul f1 (by omega)
  omega
 ·intro l hl q hq
  have hl := List.eq_of_mem_replicate hl
  subst hl
  obtain ⟨h1, h2⟩ := (Jtf9 (n := f.regs.toNat) (by omega)).1 hq
  constructor <;> omega
end Go.AE
set_option maxRecDepth 4000
namespace Go.AE
open Go
def awakeB : Block := ⟨[⟨5, 0, 1, 2, 0⟩], ⟨1, 0, 0, 0⟩⟩
def awakeM : MBlock := ⟨[⟨18, 0, 0, 0, 0, 0, 3⟩, ⟨18, 0, 0, 0, 0, 2, 5⟩, ⟨5, 0, 0, 1, 0, 0, 0⟩, ⟨18, 0, 0, 0, 0, 1, 0⟩], ⟨1, 0, 0, 0⟩⟩
theorem Jt58 : Jtl9 awakeB = awakeM := by rfl
theorem Jt57 : Jtld ⟨0, 0, []⟩ = (Jt6f, 14) := by rfl
theorem Jt59 : Jtlp awakeB = 2 := by rfl
theorem Jtls {f : Func} (hv : Jti9 f = 0) (hf : few f = true) : (spRun f ≤ 64 ∧ Jtld f = (spCert f, 0)) ∨ Jtld f = (Jt6f, 15) := by
 obtain ⟨f1, f2, f3, f4⟩ := Jt8j.1 hf
 obtain ⟨s1, s2, s3, s4⟩ := src_ok hv
 have hmc := Jtew f.blocks
 have hp : ¬ (prodZ f > 1048576) := by
  unfold prodZ
  have h1 : (0 : Int) ≤ f.blocks.length * f.regs := Int.mul_nonneg (by omega) (by omega)
  have h2 : (f.blocks.length : Int) * f.regs ≤ 40 * 60 := Int.mul_le_mul (by omega) f2 (by omega) (by omega)
  rw [wrap_i64 (by omega) (by omega)]; omega
 unfold Jtld
 rw [Jt6k, if_neg (by simpa using hv), if_neg hp, if_neg (by omega)]
 by_cases h : spRun f > 64
 ·rw [if_pos h]; exact .inr rfl
 ·rw [if_neg h]; exact .inl ⟨by omega, rfl⟩
section
theorem Jtdj {P : Program} {p : Nums} (A : All P p) : Jt3p P p.law22_awake [] [] fun o _ => o = .ret (AB true) := by
 refine A.law22_awake.run rfl fun R hR => ?_
 (simp (maxSteps := 1000000) [Jtau])
 have h1 := Jtly A awakeB (by decide)
 rw [Jt58] at h1
 (refine Jtt h1 (by rfl) (by rfl) ?_)
 (simp (maxSteps := 1000000) [awakeM, MBlock.av, Mach.row])
 have h2 := Jtlz A ⟨0, 0, []⟩ (by decide) (by decide)
 rw [Jt57] at h2
 (refine Jtu h2 (by rfl) (by (exact wkvA)) (by rfl) ?_)
 (simp (maxSteps := 1000000) [Cert.av, Jt6f, witD])
 have h3 := Jtm0 A awakeB (by decide)
 rw [Jt59] at h3
 (refine Jtt h3 (by rfl) (by rfl) ?_)
 (simp (maxSteps := 1000000) [])
 (first | exact hR _ _ FrA | exact hR _ _ FnA)
end
section
theorem Jtdi {P : Program} {p : Nums} (A : All P p) (S : SortOk P p) (C : ClosOk P p) (f : Func) : Jt3p P p.law22_SpillallAccepted [f.av] [] fun o _ => o = .ret (AB true) := by
 have cw := Jtdj A
 have cf := Jthz A f
 have cc : few f = true → Jt3p P p.ref07_Check [f.av] [] fun o _ => o = .ret (AI (Jti9 f)) := fun h => by
  obtain ⟨f1, f2, f3, f4⟩ := Jt8j.1 h
  exact Jthx A f (by omega) (by omega)
 have ce : few f = true → Jt3p P p.spillall_Cert [f.av] [] fun o _ => o = .ret (.tup [(Jtld f).1.av, AI (Jtld f).2]) := fun h => by
  obtain ⟨f1, f2, f3, f4⟩ := Jt8j.1 h
  exact Jtlz A f (by omega) (by omega)
 have cs : few f = true → Jt3p P p.ref07_Same [f.av, f.av] [] fun o _ => o = .ret (AB true) := fun h => by
  obtain ⟨f1, f2, f3, f4⟩ := Jt8j.1 h
  exact Jti1 A f (by omega) (fun b hb => by have := f3 b hb; omega)
 have cz := Jti7 A Jt6f (by decide) (by intro b hb; simp [Jt6f] at hb) (by decide) (by intro b hb; simp [Jt6f] at hb) (by decide) (by intro b hb; simp [Jt6f] at hb)
 have key := fun (hv : Jti9 f = 0) (hf : few f = true) => Jtls hv hf
 have k1 := fun (hv : Jti9 f = 0) (hf : few f = true) (hr : spRun f ≤ 64) => Jtlv hv hf hr
 have k2 : ∀ (hv : Jti9 f = 0) (hf : few f = true) (hr : spRun f ≤ 64), Jt3p P p.checker_Check [(spCert f).av] [] fun o _ => o = .ret (Jtiz (spCert f)).av := fun hv hf hr =>
  Jt6l A S C (spCert f) (sp_okc hf) fun _ => sp_fit hv hf hr
 have k3 : ∀ (hv : Jti9 f = 0) (hf : few f = true) (hr : spRun f ≤ 64), Jt3p P p.checker_Valid [(spCert f).av] [] fun o _ => o = .ret (AI 0) := fun hv hf hr => by
  have h := Jt6m A (spCert f) (sp_okc hf)
  rwa [Jtlx hv hf hr] at h
 obtain ⟨T, hT⟩ : ∃ T, T = Jtiz (spCert f) := ⟨_, rfl⟩
 rw [← hT] at k1 k2
 obtain ⟨d, hd⟩ : ∃ d, d = spCert f := ⟨_, rfl⟩
 have hdS : d.S = f := by rw [hd]; rfl
 rw [← hd] at k2 k3 key
 obtain ⟨rc, hrc⟩ : ∃ r, r = Jti9 f := ⟨_, rfl⟩
 rw [← hrc] at cc key k1 k2 k3
 obtain ⟨fw, hfw⟩ : ∃ b, b = few f := ⟨_, rfl⟩
 rw [← hfw] at cf cc ce cs key k1 k2 k3
 obtain ⟨z, hz⟩ : ∃ z, z = Jtld f := ⟨_, rfl⟩
 rw [← hz] at ce key
 obtain ⟨rn, hrn⟩ : ∃ z, z = spRun f := ⟨_, rfl⟩
 rw [← hrn] at key k1 k2 k3
 obtain ⟨dS, dT, dW⟩ := d
 simp only at hdS
 subst hdS
 obtain ⟨sR, hsR⟩ : ∃ x, x = dS.blocks.map Block.row := ⟨_, rfl⟩
 obtain ⟨tR, htR⟩ : ∃ x, x = dT.blocks.map MBlock.row := ⟨_, rfl⟩
 obtain ⟨wR, hwR⟩ : ∃ x, x = dW.map fun l => [pairsD l] := ⟨_, rfl⟩
 have hsl : sR.length = dS.blocks.length := by rw [hsR]; simp
 simp only [Func.av, Cert.av, witD, ← hsR, ← htR, ← hwR, Rep.av] at cf cc ce cs cz k2 k3 ⊢
 refine A.law22_SpillallAccepted.run rfl fun R hR => ?_
 (simp (maxSteps := 1000000) [Jtat])
 (refine Jtt cw (by rfl) (by rfl) ?_)
 (simp (maxSteps := 1000000) [])
 (refine Jtt cf (by rfl) (by rfl) ?_)
 cases fw with
 | false =>
  (simp (maxSteps := 1000000) [])
  (refine Jtt cw (by rfl) (by rfl) ?_)
  (simp (maxSteps := 1000000) [])
  (first | exact hR _ _ FrA | exact hR _ _ FnA)
 | true =>
  (simp (maxSteps := 1000000) [])
  (refine Jtt (cc rfl) (by rfl) (by rfl) ?_)
  (simp (maxSteps := 1000000) [])
  ((first | refine Xc (fun h1 => ?_) (fun h1 => ?_) | refine Xo (fun h1 => ?_) (fun h1 => ?_)) <;> (try simp only [Xz, Xy] at h1))
  ·(simp (maxSteps := 1000000) [])
   (refine Jtt cw (by rfl) (by rfl) ?_)
   (simp (maxSteps := 1000000) [])
   (first | exact hR _ _ FrA | exact hR _ _ FnA)
  have hv : rc = 0 := by simpa using h1
  have ce := ce rfl
  have cs := cs rfl
  rcases key hv rfl with ⟨hr, e⟩ | e
  ·have k1 := k1 hv rfl hr
   have k2 := k2 hv rfl hr
   have k3 := k3 hv rfl hr
   rw [e] at ce
   simp only [Cert.av, Func.av, MFunc.av, witD, ← hsR, ← htR, ← hwR] at ce
   obtain ⟨t1, t2, t3, t4, t5, t6, t7⟩ := T
   simp only at k1 k2
   obtain ⟨e1, e2⟩ := k1
   subst e1 e2
   (simp (maxSteps := 1000000) [])
   (refine Jtt ce (by rfl) (by rfl) ?_)
   (simp (maxSteps := 1000000) [])
   (refine Jtt k2 (by rfl) (by rfl) ?_)
   (simp (maxSteps := 1000000) [])
   (refine Jtt k3 (by rfl) (by rfl) ?_)
   (simp (maxSteps := 1000000) [hsl])
   (refine Jtt cs (by rfl) (by rfl) ?_)
   (simp (maxSteps := 1000000) [])
   (first | exact hR _ _ FrA | exact hR _ _ FnA)
  ·rw [e] at ce
   simp only [Cert.av, Func.av, MFunc.av, witD, Jt6f, List.map_nil] at ce cz
   (simp (maxSteps := 1000000) [])
   (refine Jtt ce (by rfl) (by rfl) ?_)
   (simp (maxSteps := 1000000) [])
   (refine Jtu cz (by rfl) (by (exact wkvA)) (by rfl) ?_)
   (simp (maxSteps := 1000000) [])
   (first | exact hR _ _ FrA | exact hR _ _ FnA)
end
end Go.AE
