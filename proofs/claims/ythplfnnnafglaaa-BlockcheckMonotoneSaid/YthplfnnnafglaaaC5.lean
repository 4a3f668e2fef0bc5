/- A part of the proof: the evaluator over abstract values, its codes, the contracts of the functions. -/
import Derived.Test.YthplfnnnafglaaaC4
set_option linter.unusedVariables false
set_option linter.unusedSimpArgs false
/- The reference's check of machine functions: the function. -/
set_option linter.unusedVariables false
namespace Go.AE
open Go
def mErr (code : List Mach) (regs slots : Int) (j : Nat) : Int := match code[j]? with
  | none => 0
  | some x => if refMInstrZ x regs slots ≠ 0 then refMInstrZ x regs slots else if 64 ≤ j ∧ 64 < refMoves ((code.take (j + 1)).drop (j - 64)) then 15 else 0
def mErrs (code : List Mach) (regs slots : Int) : Int := firstErr ((List.range code.length).map (mErr code regs slots))
def refMBlockZ (b : MBlock) (regs slots blocks : Int) : Int := if mErrs b.code regs slots ≠ 0 then mErrs b.code regs slots else refTermZ b.term regs blocks
def refMCheckZ (f : MFunc) : Int :=
  if f.args < 0 ∨ f.slots < f.args then 10 else if f.regs < 0 then 9 else if 1048576 < f.slots ∨ 1048576 < f.regs then 6 else if f.blocks.length = 0 then 14 else if 1048576 < f.blocks.length ∨ 1048576 < mcodeN f.blocks then 6
  else firstErr (f.blocks.map fun b => refMBlockZ b f.regs f.slots f.blocks.length)
def okM (b : MBlock) : Prop := ∀ x ∈ b.code, okZ x.dst ∧ okZ x.src
section
theorem ref08_Check_calls {P : Program} {p : Nums} (A : All P p) (f : MFunc) (h0 : f.blocks.length < 1000000000) (h1 : mcodeN f.blocks < 1000000000) (hok : ∀ b ∈ f.blocks, okM b) : CallsTo P p.ref08_Check [f.av] [] fun o _ => o = .ret (AI (refMCheckZ f)) := by
  refine A.ref08_Check.run rfl fun R hR => ?_
  (simp (maxSteps := 1000000) [ic_ref08_Check, MFunc.av])
  ((first | refine AW_cond_split _ (by rfl) (fun a1 => ?_) (fun a1 => ?_) | refine AWop_split _ (by rfl) (fun a1 => ?_) (fun a1 => ?_)) <;> (try simp only [yy1, yy2, yy3, yy4, yy5, yy6, beq_iff_eq, bne_iff_ne, ne_eq, beq_eq_false_iff_ne, bne_eq_false_iff_eq] at a1))
  · (simp (maxSteps := 1000000) [a1])
    have e : refMCheckZ f = 10 := by unfold refMCheckZ; repeat (first | rw [if_pos (by omega)] | rw [if_neg (by omega)])
    (first | exact hR _ _ FrA | exact hR _ _ FnA | exact hR _ _ (Fin_ret _ rfl rfl (by simp [AV.erase, AV.unview, e]; done)) | exact hR _ _ (Fin_normal _ rfl rfl (by simp [AV.erase, AV.unview, e]; done)) | fail "no end")
  (simp (maxSteps := 1000000) [a1])
  ((first | refine AW_cond_split _ (by rfl) (fun a2 => ?_) (fun a2 => ?_) | refine AWop_split _ (by rfl) (fun a2 => ?_) (fun a2 => ?_)) <;> (try simp only [yy1, yy2, yy3, yy4, yy5, yy6, beq_iff_eq, bne_iff_ne, ne_eq, beq_eq_false_iff_ne, bne_eq_false_iff_eq] at a2))
  · (simp (maxSteps := 1000000) [a2])
    have e : refMCheckZ f = 10 := by unfold refMCheckZ; repeat (first | rw [if_pos (by omega)] | rw [if_neg (by omega)])
    (first | exact hR _ _ FrA | exact hR _ _ FnA | exact hR _ _ (Fin_ret _ rfl rfl (by simp [AV.erase, AV.unview, e]; done)) | exact hR _ _ (Fin_normal _ rfl rfl (by simp [AV.erase, AV.unview, e]; done)) | fail "no end")
  (simp (maxSteps := 1000000) [a2])
  ((first | refine AW_cond_split _ (by rfl) (fun a3 => ?_) (fun a3 => ?_) | refine AWop_split _ (by rfl) (fun a3 => ?_) (fun a3 => ?_)) <;> (try simp only [yy1, yy2, yy3, yy4, yy5, yy6, beq_iff_eq, bne_iff_ne, ne_eq, beq_eq_false_iff_ne, bne_eq_false_iff_eq] at a3))
  · (simp (maxSteps := 1000000) [a3])
    have e : refMCheckZ f = 9 := by unfold refMCheckZ; repeat (first | rw [if_pos (by omega)] | rw [if_neg (by omega)])
    (first | exact hR _ _ FrA | exact hR _ _ FnA | exact hR _ _ (Fin_ret _ rfl rfl (by simp [AV.erase, AV.unview, e]; done)) | exact hR _ _ (Fin_normal _ rfl rfl (by simp [AV.erase, AV.unview, e]; done)) | fail "no end")
  (simp (maxSteps := 1000000) [a3])
  ((first | refine AW_cond_split _ (by rfl) (fun a4 => ?_) (fun a4 => ?_) | refine AWop_split _ (by rfl) (fun a4 => ?_) (fun a4 => ?_)) <;> (try simp only [yy1, yy2, yy3, yy4, yy5, yy6, beq_iff_eq, bne_iff_ne, ne_eq, beq_eq_false_iff_ne, bne_eq_false_iff_eq] at a4))
  · (simp (maxSteps := 1000000) [a4])
    have e : refMCheckZ f = 6 := by unfold refMCheckZ; repeat (first | rw [if_pos (by omega)] | rw [if_neg (by omega)])
    (first | exact hR _ _ FrA | exact hR _ _ FnA | exact hR _ _ (Fin_ret _ rfl rfl (by simp [AV.erase, AV.unview, e]; done)) | exact hR _ _ (Fin_normal _ rfl rfl (by simp [AV.erase, AV.unview, e]; done)) | fail "no end")
  (simp (maxSteps := 1000000) [a4])
  ((first | refine AW_cond_split _ (by rfl) (fun a5 => ?_) (fun a5 => ?_) | refine AWop_split _ (by rfl) (fun a5 => ?_) (fun a5 => ?_)) <;> (try simp only [yy1, yy2, yy3, yy4, yy5, yy6, beq_iff_eq, bne_iff_ne, ne_eq, beq_eq_false_iff_ne, bne_eq_false_iff_eq] at a5))
  · (simp (maxSteps := 1000000) [a5])
    have e : refMCheckZ f = 6 := by unfold refMCheckZ; repeat (first | rw [if_pos (by omega)] | rw [if_neg (by omega)])
    (first | exact hR _ _ FrA | exact hR _ _ FnA | exact hR _ _ (Fin_ret _ rfl rfl (by simp [AV.erase, AV.unview, e]; done)) | exact hR _ _ (Fin_normal _ rfl rfl (by simp [AV.erase, AV.unview, e]; done)) | fail "no end")
  (simp (maxSteps := 1000000) [a5])
  ((first | refine AW_cond_split _ (by rfl) (fun a6 => ?_) (fun a6 => ?_) | refine AWop_split _ (by rfl) (fun a6 => ?_) (fun a6 => ?_)) <;> (try simp only [yy1, yy2, yy3, yy4, yy5, yy6, beq_iff_eq, bne_iff_ne, ne_eq, beq_eq_false_iff_ne, bne_eq_false_iff_eq] at a6))
  · (simp (maxSteps := 1000000) [a6])
    have e : refMCheckZ f = 14 := by unfold refMCheckZ; repeat (first | rw [if_pos (by omega)] | rw [if_neg (by omega)])
    (first | exact hR _ _ FrA | exact hR _ _ FnA | exact hR _ _ (Fin_ret _ rfl rfl (by simp [AV.erase, AV.unview, e]; done)) | exact hR _ _ (Fin_normal _ rfl rfl (by simp [AV.erase, AV.unview, e]; done)) | fail "no end")
  (simp (maxSteps := 1000000) [a6])
  ((first | refine AW_cond_split _ (by rfl) (fun a7 => ?_) (fun a7 => ?_) | refine AWop_split _ (by rfl) (fun a7 => ?_) (fun a7 => ?_)) <;> (try simp only [yy1, yy2, yy3, yy4, yy5, yy6, beq_iff_eq, bne_iff_ne, ne_eq, beq_eq_false_iff_ne, bne_eq_false_iff_eq] at a7))
  · (simp (maxSteps := 1000000) [a7])
    have e : refMCheckZ f = 6 := by unfold refMCheckZ; repeat (first | rw [if_pos (by omega)] | rw [if_neg (by omega)])
    (first | exact hR _ _ FrA | exact hR _ _ FnA | exact hR _ _ (Fin_ret _ rfl rfl (by simp [AV.erase, AV.unview, e]; done)) | exact hR _ _ (Fin_normal _ rfl rfl (by simp [AV.erase, AV.unview, e]; done)) | fail "no end")
  (simp (maxSteps := 1000000) [a7])
  (refine AWcall_det (ref08_Code_calls A f h0 h1) (by rfl) (by rfl) ?_)
  (simp (maxSteps := 1000000) [])
  ((first | refine AW_cond_split _ (by rfl) (fun a8 => ?_) (fun a8 => ?_) | refine AWop_split _ (by rfl) (fun a8 => ?_) (fun a8 => ?_)) <;> (try simp only [yy1, yy2, yy3, yy4, yy5, yy6, beq_iff_eq, bne_iff_ne, ne_eq, beq_eq_false_iff_ne, bne_eq_false_iff_eq] at a8))
  · (simp (maxSteps := 1000000) [a8])
    have e : refMCheckZ f = 6 := by unfold refMCheckZ; repeat (first | rw [if_pos (by omega)] | rw [if_neg (by omega)])
    (first | exact hR _ _ FrA | exact hR _ _ FnA | exact hR _ _ (Fin_ret _ rfl rfl (by simp [AV.erase, AV.unview, e]; done)) | exact hR _ _ (Fin_normal _ rfl rfl (by simp [AV.erase, AV.unview, e]; done)) | fail "no end")
  (simp (maxSteps := 1000000) [a8])
  have e : refMCheckZ f = firstErr (f.blocks.map fun b => refMBlockZ b f.regs f.slots f.blocks.length) := by
    unfold refMCheckZ; repeat (first | rw [if_pos (by omega)] | rw [if_neg (by omega)])
  refine AW_loop (fun k : Nat => ⟨[(3, AI k), (2, AI 0), (1, .ptr 0 0)], [.mem [AI f.args, AI f.regs, AI f.slots, .d (.sl (f.blocks.map MBlock.row))]]⟩)
    (fun k => k ≤ f.blocks.length ∧ ∀ e ∈ (f.blocks.map fun b => refMBlockZ b f.regs f.slots f.blocks.length).take k, e = 0) (fun k => f.blocks.length - k) 0 (by simp) (by (exact wkA)) ?_
  rintro k ⟨hk, hz⟩ N hN
  (simp (maxSteps := 1000000) [])
  ((first | refine AW_cond_split _ (by rfl) (fun h2 => ?_) (fun h2 => ?_) | refine AWop_split _ (by rfl) (fun h2 => ?_) (fun h2 => ?_)) <;> (try simp only [yy1, yy2, yy3, yy4, yy5, yy6, beq_iff_eq, bne_iff_ne, ne_eq, beq_eq_false_iff_ne, bne_eq_false_iff_eq] at h2))
  · have hkl : k < f.blocks.length := by simpa using h2
    have hb : f.blocks[k]? = some f.blocks[k] := by simp [hkl]
    have hw := wrap_succ (k := k) (by omega)
    have hokb := hok _ (List.getElem_mem hkl)
    have hbl : f.blocks[k].code.length < 1000000000 := by
      have h3 := mcodeN_succ hb
      have h4 := mcodeN_le f.blocks (k + 1)
      omega
    (simp (maxSteps := 1000000) [h2, hb, MBlock.row])
    refine AW_loop (fun j : Nat => ⟨[(5, AI j), (4, .ptr 1 0), (3, AI k), (2, AI 0), (1, .ptr 0 0)], [.mem [AI f.args, AI f.regs, AI f.slots, .d (.sl (f.blocks.map MBlock.row))], .mem [.d (.sl (f.blocks[k].code.map Mach.row)), AI f.blocks[k].term.kind, AI f.blocks[k].term.a, AI f.blocks[k].term.to, AI f.blocks[k].term.els]]⟩)
      (fun j => j ≤ f.blocks[k].code.length ∧ ∀ e ∈ ((List.range f.blocks[k].code.length).map (mErr f.blocks[k].code f.regs f.slots)).take j, e = 0) (fun j => f.blocks[k].code.length - j) 0 (by simp) (by (exact wkA)) ?_
    rintro j ⟨hj, hy⟩ N' hN'
    (simp (maxSteps := 1000000) [])
    ((first | refine AW_cond_split _ (by rfl) (fun h3 => ?_) (fun h3 => ?_) | refine AWop_split _ (by rfl) (fun h3 => ?_) (fun h3 => ?_)) <;> (try simp only [yy1, yy2, yy3, yy4, yy5, yy6, beq_iff_eq, bne_iff_ne, ne_eq, beq_eq_false_iff_ne, bne_eq_false_iff_eq] at h3))
    · have hjl : j < f.blocks[k].code.length := by simpa using h3
      have hbj : f.blocks[k].code[j]? = some f.blocks[k].code[j] := by simp [hjl]
      have hrj : (List.range f.blocks[k].code.length)[j]? = some j := by simp [hjl]
      have hokj := hokb _ (List.getElem_mem hjl)
      obtain ⟨up, hup⟩ : ∃ u, u = j + 1 := ⟨_, rfl⟩
      have hwj : IntKind.i64.wrap ((j : Int) + 1) = (up : Int) := by rw [hup]; exact wrap_succ (by omega)
      (simp (maxSteps := 1000000) [h3, hbj, Mach.row])
      (refine AWcall_det (ref08_Instr_calls A f.blocks[k].code[j] f.regs f.slots hokj.1 hokj.2) (by rfl) (by rfl) ?_)
      (simp (maxSteps := 1000000) [])
      ((first | refine AW_cond_split _ (by rfl) (fun h4 => ?_) (fun h4 => ?_) | refine AWop_split _ (by rfl) (fun h4 => ?_) (fun h4 => ?_)) <;> (try simp only [yy1, yy2, yy3, yy4, yy5, yy6, beq_iff_eq, bne_iff_ne, ne_eq, beq_eq_false_iff_ne, bne_eq_false_iff_eq] at h4))
      · (simp (maxSteps := 1000000) [h4])
        have e2 : mErr f.blocks[k].code f.regs f.slots j = refMInstrZ f.blocks[k].code[j] f.regs f.slots := by unfold mErr; rw [hbj]; simp only; rw [if_pos h4]
        have e3 : mErrs f.blocks[k].code f.regs f.slots = mErr f.blocks[k].code f.regs f.slots j := firstErr_at hy (by simp [hjl]) (by rw [e2]; exact h4)
        have e4 : refMBlockZ f.blocks[k] f.regs f.slots f.blocks.length = refMInstrZ f.blocks[k].code[j] f.regs f.slots := by unfold refMBlockZ; rw [e3, e2, if_pos h4]
        have e5 : firstErr (f.blocks.map fun b => refMBlockZ b f.regs f.slots f.blocks.length) = refMBlockZ f.blocks[k] f.regs f.slots f.blocks.length := firstErr_at hz (by simp [hkl]) (by rw [e4]; exact h4)
        (first | exact hR _ _ FrA | exact hR _ _ FnA | exact hR _ _ (Fin_ret _ rfl rfl (by simp [AV.erase, AV.unview, e, e5, e4]; done)) | exact hR _ _ (Fin_normal _ rfl rfl (by simp [AV.erase, AV.unview, e, e5, e4]; done)) | fail "no end")
      · have h4' : refMInstrZ f.blocks[k].code[j] f.regs f.slots = 0 := by simpa using h4
        (simp (maxSteps := 1000000) [h4])
        ((first | refine AW_cond_split _ (by rfl) (fun h5 => ?_) (fun h5 => ?_) | refine AWop_split _ (by rfl) (fun h5 => ?_) (fun h5 => ?_)) <;> (try simp only [yy1, yy2, yy3, yy4, yy5, yy6, beq_iff_eq, bne_iff_ne, ne_eq, beq_eq_false_iff_ne, bne_eq_false_iff_eq] at h5))
        · obtain ⟨lo, hlo⟩ : ∃ u, u = j - 64 := ⟨_, rfl⟩
          have hj64 : 64 ≤ j := by omega
          have hwl : IntKind.i64.wrap ((j : Int) - 64) = (lo : Int) := by
            have e1 : (j : Int) - 64 = (lo : Int) := by omega
            rw [e1]; exact wrapN (by omega)
          have i1 : (lo : Int) ≤ (up : Int) := by omega
          have i2 : (up : Int) ≤ (f.blocks[k].code.length : Int) := by omega
          obtain ⟨sl, hsl⟩ : ∃ x, x = (f.blocks[k].code.take up).drop lo := ⟨_, rfl⟩
          have hsll : sl.length < 1000000000 := by rw [hsl]; simp; omega
          have hrows : ((f.blocks[k].code.map Mach.row).take up).drop lo = sl.map Mach.row := by rw [hsl, List.map_drop, List.map_take]
          have hmv := ref08_Moves_calls A sl hsll
          obtain ⟨mv, hmve⟩ : ∃ x, x = refMoves sl := ⟨_, rfl⟩
          rw [← hmve] at hmv
          rw [hsl] at hmve
          (simp (maxSteps := 1000000) [h5, hwl, hwj, i1, i2, hrows, mrow_len])
          (refine AWcall_det hmv (by rfl) (by rfl) ?_)
          (simp (maxSteps := 1000000) [])
          ((first | refine AW_cond_split _ (by rfl) (fun h6 => ?_) (fun h6 => ?_) | refine AWop_split _ (by rfl) (fun h6 => ?_) (fun h6 => ?_)) <;> (try simp only [yy1, yy2, yy3, yy4, yy5, yy6, beq_iff_eq, bne_iff_ne, ne_eq, beq_eq_false_iff_ne, bne_eq_false_iff_eq] at h6))
          · have e2 : mErr f.blocks[k].code f.regs f.slots j = 15 := by unfold mErr; rw [hbj]; simp only; rw [if_neg (by simpa using h4'), ← hlo, ← hup, ← hmve, if_pos ⟨hj64, by omega⟩]
            have e3 : mErrs f.blocks[k].code f.regs f.slots = mErr f.blocks[k].code f.regs f.slots j := firstErr_at hy (by simp [hjl]) (by rw [e2]; decide)
            have e4 : refMBlockZ f.blocks[k] f.regs f.slots f.blocks.length = 15 := by unfold refMBlockZ; rw [e3, e2]; rfl
            have e5 : firstErr (f.blocks.map fun b => refMBlockZ b f.regs f.slots f.blocks.length) = refMBlockZ f.blocks[k] f.regs f.slots f.blocks.length := firstErr_at hz (by simp [hkl]) (by rw [e4]; decide)
            (simp (maxSteps := 1000000) [h6])
            (first | exact hR _ _ FrA | exact hR _ _ FnA | exact hR _ _ (Fin_ret _ rfl rfl (by simp [AV.erase, AV.unview, e, e5, e4]; done)) | exact hR _ _ (Fin_normal _ rfl rfl (by simp [AV.erase, AV.unview, e, e5, e4]; done)) | fail "no end")
          · have e2 : mErr f.blocks[k].code f.regs f.slots j = 0 := by unfold mErr; rw [hbj]; simp only; rw [if_neg (by simpa using h4'), ← hlo, ← hup, ← hmve, if_neg (fun h => h6 (by omega))]
            (simp (maxSteps := 1000000) [h6, hwj])
            exact hN' _ up ⟨by omega, by rw [hup]; exact take_zero hy hrj e2⟩ (by (exact wkA)) (by omega)
        · have e2 : mErr f.blocks[k].code f.regs f.slots j = 0 := by unfold mErr; rw [hbj]; simp only; rw [if_neg (by simpa using h4'), if_neg (fun h => h5 (by omega))]
          (simp (maxSteps := 1000000) [h5, hwj])
          exact hN' _ up ⟨by omega, by rw [hup]; exact take_zero hy hrj e2⟩ (by (exact wkA)) (by omega)
    · have hj' : j = f.blocks[k].code.length := by simp at h3; omega
      subst hj'
      have hfe : mErrs f.blocks[k].code f.regs f.slots = 0 := firstErr_all (by rw [List.take_of_length_le (by simp)] at hy; exact hy)
      have e3 : refMBlockZ f.blocks[k] f.regs f.slots f.blocks.length = refTermZ f.blocks[k].term f.regs f.blocks.length := by simp [refMBlockZ, hfe]
      (simp (maxSteps := 1000000) [])
      (refine AWcall_det (ref07_Term_calls A f.blocks[k].term f.regs f.blocks.length) (by rfl) (by rfl) ?_)
      (simp (maxSteps := 1000000) [])
      ((first | refine AW_cond_split _ (by rfl) (fun h5 => ?_) (fun h5 => ?_) | refine AWop_split _ (by rfl) (fun h5 => ?_) (fun h5 => ?_)) <;> (try simp only [yy1, yy2, yy3, yy4, yy5, yy6, beq_iff_eq, bne_iff_ne, ne_eq, beq_eq_false_iff_ne, bne_eq_false_iff_eq] at h5))
      · (simp (maxSteps := 1000000) [h5])
        have e4 : firstErr (f.blocks.map fun b => refMBlockZ b f.regs f.slots f.blocks.length) = refMBlockZ f.blocks[k] f.regs f.slots f.blocks.length := firstErr_at hz (by simp [hkl]) (by rw [e3]; exact h5)
        (first | exact hR _ _ FrA | exact hR _ _ FnA | exact hR _ _ (Fin_ret _ rfl rfl (by simp [AV.erase, AV.unview, e, e4, e3]; done)) | exact hR _ _ (Fin_normal _ rfl rfl (by simp [AV.erase, AV.unview, e, e4, e3]; done)) | fail "no end")
      · (simp (maxSteps := 1000000) [h5, hw])
        exact hN _ (k + 1) ⟨hkl, take_zero hz hb (by rw [e3]; simpa using h5)⟩ (by (exact wkA)) (by omega)
  · have hk' : k = f.blocks.length := by simp at h2; omega
    subst hk'
    have hfe : firstErr (f.blocks.map fun b => refMBlockZ b f.regs f.slots f.blocks.length) = 0 := firstErr_all (by rw [List.take_of_length_le (by simp)] at hz; exact hz)
    (simp (maxSteps := 1000000) [])
    (first | exact hR _ _ FrA | exact hR _ _ FnA | exact hR _ _ (Fin_ret _ rfl rfl (by simp [AV.erase, AV.unview, e, hfe]; done)) | exact hR _ _ (Fin_normal _ rfl rfl (by simp [AV.erase, AV.unview, e, hfe]; done)) | fail "no end")
end
end Go.AE

/- Checking a block: what is true of the result's numbers. -/
set_option linter.unusedVariables false
namespace Go.AE
open Go
/-- n costs at most; the places of failures lie within m instructions. -/
structure Bd (most : Int) (m n : Nat) (s : CS) (r : CR) : Prop where
  steps : r.1.steps ≤ s.steps + n * (r.1.largest + 1)
  lg : s.largest ≤ r.1.largest
  set : r.1.set.length ≤ r.1.largest
  most : r.2 = none → (s.largest : Int) ≤ most → (r.1.largest : Int) ≤ most
  fail : ∀ e, r.2 = some e → e.1 ≠ 0 ∧ 0 ≤ e.2 ∧ e.2 ≤ m
section
variable {most : Int} {m : Nat} {s : CS}
theorem Bd.refl (h : s.set.length ≤ s.largest) : Bd most m 0 s (s, none) := ⟨by simp, Nat.le_refl _, h, fun _ h => h, fun e h => by cases h⟩
theorem Bd.mono {n n' : Nat} {r : CR} (h : Bd most m n s r) (hn : n ≤ n') : Bd most m n' s r :=
  ⟨Nat.le_trans h.steps (Nat.add_le_add_left (Nat.mul_le_mul_right _ hn) _), h.lg, h.set, h.most, h.fail⟩
theorem Bd.then {n1 n2 : Nat} {r : CR} {f : CS → CR} (h : Bd most m n1 s r) (hf : ∀ s1, r = (s1, none) → Bd most m n2 s1 (f s1)) : Bd most m (n1 + n2) s (thenC r f) := by
  obtain ⟨s1, e⟩ := r
  cases e with
  | some e => rw [thenC_some]; exact h.mono (by omega)
  | none =>
    rw [thenC_none]
    have h2 := hf s1 rfl
    refine ⟨?_, Nat.le_trans h.lg h2.lg, h2.set, fun hn hm => h2.most hn (h.most rfl hm), h2.fail⟩
    have k1 := h.steps
    have k2 := h2.steps
    have k3 := h2.lg
    simp only at k1 k3
    have k4 : n1 * (s1.largest + 1) ≤ n1 * ((f s1).1.largest + 1) := Nat.mul_le_mul_left _ (by omega)
    rw [Nat.add_mul]
    omega
theorem Bd.use {v t at_ : Int} (h : s.set.length ≤ s.largest) (h0 : 0 ≤ at_) (h1 : at_ ≤ m) : Bd most m 1 s (useC s v t at_) := by
  refine ⟨?_, Nat.le_refl _, h, fun _ h => h, fun e he => ?_⟩
  · simp only [useC, costC]; omega
  · simp only [useC] at he
    split at he
    · cases he
    · injection he with he; subst he; exact ⟨by simp, h0, h1⟩
theorem Bd.step {l : List Pair} {at_ : Int} (h : s.set.length ≤ s.largest) (h0 : 0 ≤ at_) (h1 : at_ ≤ m) : Bd most m 1 s (becomeC most (costC s) l at_) := by
  refine ⟨?_, ?_, ?_, fun hn hm => ?_, fun e he => ?_⟩
  · simp only [becomeC, costC]; omega
  · simp only [becomeC, costC]; omega
  · simp only [becomeC, costC]; omega
  · simp only [becomeC, costC] at hn ⊢
    split at hn
    · cases hn
    · omega
  · simp only [becomeC] at he
    split at he
    · injection he with he; subst he; exact ⟨by simp, h0, h1⟩
    · cases he
theorem copyC_bd {at_ : Int} (h0 : 0 ≤ at_) (h1 : at_ ≤ m) : ∀ {l : List Instr} {s : CS}, s.set.length ≤ s.largest → Bd most m l.length s (copyC most at_ l s) := by
  intro l
  induction l with
  | nil => intro s h; exact .refl h
  | cons i l ih =>
    intro s h
    simp only [copyC, List.length_cons]
    rw [Nat.add_comm]
    refine (Bd.step h h0 h1).then fun s1 hs1 => ih ?_
    have := (Bd.step (most := most) (m := m) (l := copyP s.set i.d i.a) h h0 h1).set
    rw [hs1] at this; exact this
theorem moveC_bd : ∀ {l : List Mach} {k : Nat} {s : CS}, k + l.length ≤ m → s.set.length ≤ s.largest → Bd most m l.length s (moveC most k l s) := by
  intro l
  induction l with
  | nil => intro k s _ h; exact .refl h
  | cons i l ih =>
    intro k s hk h
    simp only [moveC, List.length_cons] at hk ⊢
    rw [Nat.add_comm l.length 1]
    have hst := Bd.step (most := most) (m := m) (l := moveP s.set i.dst i.src) (at_ := k) h (by omega) (by omega)
    refine hst.then fun s1 hs1 => ih (by omega) ?_
    have := hst.set
    rw [hs1] at this; exact this
theorem instrC_bd {i : Instr} {x : Mach} {at_ : Int} (h : s.set.length ≤ s.largest) (h0 : 0 ≤ at_) (h1 : at_ ≤ m) : Bd most m 3 s (instrC most s i x at_) := by
  unfold instrC
  refine Bd.then (n1 := 1) (n2 := 2) ?_ fun s1 hs1 => Bd.then (n1 := 1) (n2 := 1) ?_ fun s2 hs2 => ?_
  · split
    · exact .use h h0 h1
    · exact (Bd.refl h).mono (by omega)
  · have k1 : s1.set.length ≤ s1.largest := by
      split at hs1
      · have := (Bd.use (most := most) (m := m) (v := i.a) (t := regZ x.a) h h0 h1).set; rw [hs1] at this; exact this
      · injection hs1 with hs1; subst hs1; exact h
    split
    · exact .use k1 h0 h1
    · exact (Bd.refl k1).mono (by omega)
  · have k1 : s1.set.length ≤ s1.largest := by
      split at hs1
      · have := (Bd.use (most := most) (m := m) (v := i.a) (t := regZ x.a) h h0 h1).set; rw [hs1] at this; exact this
      · injection hs1 with hs1; subst hs1; exact h
    have k2 : s2.set.length ≤ s2.largest := by
      split at hs2
      · have := (Bd.use (most := most) (m := m) (v := i.b) (t := regZ x.b) k1 h0 h1).set; rw [hs2] at this; exact this
      · injection hs2 with hs2; subst hs2; exact k1
    split
    · exact .step k2 h0 h1
    · exact (Bd.refl k2).mono (by omega)
end
/-- The costs of a row. -/
def costR (r : ARow) : Nat := (r.ct - r.cf) + (r.mt - r.mf) + if 0 ≤ r.src then 3 else 0
theorem rowC_bd {most : Int} {b : List Instr} {mc : List Mach} {r : ARow} {s : CS} (h : s.set.length ≤ s.largest) (hr : RowOk b mc r) : Bd most mc.length (costR r) s (rowC most b mc r s) := by
  unfold rowC costR
  have hl1 : ((b.take r.ct).drop r.cf).length = r.ct - r.cf := by have := hr.hc; simp; omega
  have hl2 : ((mc.take r.mt).drop r.mf).length = r.mt - r.mf := by have := hr.hm; simp; omega
  have b1 := copyC_bd (most := most) (m := mc.length) (at_ := r.mf) (by omega) (by have := hr.hm; omega) (l := (b.take r.ct).drop r.cf) h
  rw [hl1] at b1
  rw [Nat.add_assoc]
  refine b1.then fun s1 hs1 => ?_
  have k1 := b1.set
  rw [hs1] at k1
  have b2 := moveC_bd (most := most) (m := mc.length) (k := r.mf) (l := (mc.take r.mt).drop r.mf) (s := s1) (by have := hr.hm; rw [hl2]; omega) k1
  rw [hl2] at b2
  refine b2.then fun s2 hs2 => ?_
  have k2 := b2.set
  rw [hs2] at k2
  unfold lastC
  split
  · rename_i h0
    obtain ⟨q1, q2, q3⟩ := hr.hs h0
    split
    · exact instrC_bd k2 q2 (by omega)
    · exact (Bd.refl k2).mono (by omega)
  · exact (Bd.refl k2).mono (by omega)
def costRs (rs : List ARow) : Nat := (rs.map costR).sum
theorem rowsC_bd {most : Int} {b : List Instr} {mc : List Mach} : ∀ {rs : List ARow} {s : CS}, s.set.length ≤ s.largest → (∀ r ∈ rs, RowOk b mc r) → Bd most mc.length (costRs rs) s (rowsC most b mc rs s) := by
  intro rs
  induction rs with
  | nil => intro s h _; exact .refl h
  | cons r rs ih =>
    intro s h hr
    have b1 := rowC_bd (most := most) h (hr r (by simp))
    have e : costRs (r :: rs) = costR r + costRs rs := by simp [costRs]
    rw [e]
    refine b1.then fun s1 hs1 => ih ?_ fun r hr' => hr r (by simp [hr'])
    have := b1.set
    rw [hs1] at this; exact this
theorem runC_bd {most : Int} {b : Block} {m : MBlock} {rs : List ARow} {s : CS} (h : s.set.length ≤ s.largest) (hr : ∀ r ∈ rs, RowOk b.code m.code r) : Bd most m.code.length (costRs rs + 1) s (runC most b m rs s) := by
  unfold runC
  have b1 := rowsC_bd (most := most) h hr
  refine b1.then fun s1 hs1 => ?_
  have k1 := b1.set
  rw [hs1] at k1
  split
  · exact (Bd.refl k1).mono (by omega)
  · exact .use k1 (by omega) (by omega)
theorem costRs_append (a b : List ARow) : costRs (a ++ b) = costRs a + costRs b := by simp [costRs]
theorem alignS_cost {code : List Instr} {mach : List Mach} : ∀ (f i k : Nat) (rows : List ARow), i ≤ code.length → k ≤ mach.length → costRs rows ≤ i + 3 * k →
    costRs (alignS code mach f i k rows).1 ≤ code.length + 3 * mach.length := by
  intro f
  induction f with
  | zero => intro i k rows hi hk h; simp [alignS, costRs]
  | succ f ih =>
    intro i k rows hi hk h
    have h1 := skipW_le (f := isCopy) hi
    have h2 := skipW_le (f := isMove) hk
    have h3 := skipW_ge isCopy code i
    have h4 := skipW_ge isMove mach k
    simp only [alignS]
    split
    · rename_i hc
      rw [costRs_append]
      simp only [costRs, List.map_cons, List.map_nil, List.sum_cons, List.sum_nil, costR] at h ⊢
      rw [if_neg (by omega)]
      omega
    · split
      · rename_i x y hx hy
        have hx' := (List.getElem?_eq_some_iff.1 hx).1
        have hy' := (List.getElem?_eq_some_iff.1 hy).1
        split
        · refine ih _ _ _ hx' hy' ?_
          rw [costRs_append]
          simp only [costRs, List.map_cons, List.map_nil, List.sum_cons, List.sum_nil, costR] at h ⊢
          rw [if_pos (by omega)]
          omega
        · simp [costRs]
      · simp [costRs]
theorem alignZ_cost (code : List Instr) (mach : List Mach) : costRs (alignZ code mach).1 ≤ code.length + 3 * mach.length := alignS_cost _ 0 0 [] (Nat.zero_le _) (Nat.zero_le _) (by simp [costRs])
/-- The numbers of a result. -/
theorem checkZ_bd (b : Block) (m : MBlock) (l : List Pair) (most : Int) (hl : (makeP l).length ≤ l.length) : (checkZ b m l most).steps ≤ (3 * m.code.length + b.code.length + 1) * ((checkZ b m l most).largest + 1) ∧ l.length ≤ (checkZ b m l most).largest ∧
    (checkZ b m l most).out.length ≤ (checkZ b m l most).largest ∧ ((checkZ b m l most).err = 0 → ((checkZ b m l most).largest : Int) ≤ most) ∧ 0 ≤ (checkZ b m l most).at_ ∧ (checkZ b m l most).at_ ≤ m.code.length := by
  obtain ⟨a1, a2, a3⟩ := alignZ_ok b.code m.code
  have hc := alignZ_cost b.code m.code
  unfold checkZ
  split
  · exact ⟨Nat.zero_le _, Nat.le_refl _, Nat.zero_le _, fun h => by simp at h, by simp, by simp⟩
  · rename_i h1
    by_cases h2 : (if (alignZ b.code m.code).2.2 = 0 ∧ termsZ b.term m.term = false then 20 else (alignZ b.code m.code).2.2) ≠ 0
    · simp only [if_pos h2]
      exact ⟨Nat.zero_le _, Nat.le_refl _, Nat.zero_le _, fun h => absurd h h2, by simp, by simpa using a3⟩
    · simp only [if_neg h2]
      have hb := runC_bd (most := most) (b := b) (m := m) (rs := (alignZ b.code m.code).1) (s := ⟨makeP l, 0, l.length⟩) hl a1
      generalize runC most b m (alignZ b.code m.code).1 ⟨makeP l, 0, l.length⟩ = r at hb
      obtain ⟨t, e⟩ := r
      obtain ⟨k1, k2, k3, k4, k5⟩ := hb
      simp only at k1 k2 k3 k4 k5 ⊢
      refine ⟨?_, k2, ?_, fun h => ?_, ?_, ?_⟩
      · have : (costRs (alignZ b.code m.code).1 + 1) * (t.largest + 1) ≤ (3 * m.code.length + b.code.length + 1) * (t.largest + 1) := Nat.mul_le_mul_right _ (by omega)
        omega
      · split
        · exact k3
        · simp
      · cases e with
        | none => exact k4 rfl (by omega)
        | some e => exact absurd h (k5 e rfl).1
      · cases e with
        | none => simp [runE]
        | some e => exact (k5 e rfl).2.1
      · cases e with
        | none => simp [runE]
        | some e => exact (k5 e rfl).2.2
end Go.AE

/- The blocks of the law are those of small valid functions. -/
set_option linter.unusedVariables false
namespace Go.AE
open Go
def zrow : List D := [.sl [], I 0, I 0, I 0, I 0]
def rrow : List D := [.sl [], I 3, I 0, I 0, I 0]
def retB : Block := ⟨[], ⟨3, 0, 0, 0⟩⟩
def retM : MBlock := ⟨[], ⟨3, 0, 0, 0⟩⟩
def fRow (k : Nat) : List (List D) := List.replicate k rrow ++ List.replicate (31 - k) zrow
theorem fRow_len (k : Nat) : ∀ r ∈ fRow k, r.length = 5 := by
  intro r hr
  rcases List.mem_append.1 hr with h | h <;> rw [(List.mem_replicate.1 h).2] <;> rfl
theorem fRow_set {k : Nat} (h : k < 31) : (fRow k).set k rrow = fRow (k + 1) := by
  unfold fRow
  rw [show 31 - k = (31 - (k + 1)) + 1 by omega, List.replicate_succ (n := 31 - (k + 1)), List.set_append, if_neg (by simp), List.length_replicate, Nat.sub_self, List.set_cons_zero, List.replicate_succ' (n := k), List.append_assoc]; rfl
theorem fRow_size {k : Nat} (h : k ≤ 31) : (fRow k).length = 31 := by simp [fRow]; omega
theorem WkB_app {H : List Blk} {n : Nat} {a b c d : List AV} (h1 : WkB H n (.mem a) (.mem b)) (h2 : WkB H n (.mem c) (.mem d)) : WkB H n (.mem (a ++ c)) (.mem (b ++ d)) := by
  cases h1 with
  | mem _ _ hl h1 =>
    cases h2 with
    | mem _ _ hl2 h2 =>
      refine .mem _ _ (by simp [hl, hl2]) fun j x y hx hy => ?_
      by_cases hj : j < a.length
      · rw [List.getElem?_append_left hj] at hx
        rw [List.getElem?_append_left (by omega)] at hy
        exact h1 j x y hx hy
      · rw [List.getElem?_append_right (by omega)] at hx
        rw [List.getElem?_append_right (by omega), ← hl] at hy
        exact h2 _ x y hx hy
theorem WkB_ds2 {H : List Blk} {n : Nat} (ds : List D) : WkB H n (.mem (ds.map AV.d)) (.mem (ds.map AV.d)) := .same (renL_d _)
/-- A row whose first cell is nil is told as a row that holds no code. -/
theorem WkB_row0 {H : List Blk} {n k : Nat} {xs : List D} {rows : List (List D)} (hl : ∀ r ∈ rows, r.length = xs.length + 1) (hk : k < rows.length) :
    WkB H n (.mem (List.take (k * (xs.length + 1)) (rowCells rows) ++ (.nils :: xs.map AV.d) ++ List.drop (k * (xs.length + 1) + (xs.length + 1)) (rowCells rows))) (.mem (rowCells (rows.set k (.sl [] :: xs)))) := by
  have h := spl_row (rows := rows) (e := xs.length + 1) (row := .sl [] :: xs) hl (by simp) hk
  rw [← h]
  simp only [spl, List.map_cons, List.length_cons, List.length_map]
  have e1 : List.take (k * (xs.length + 1)) (rowCells rows) = (rows.flatten.take (k * (xs.length + 1))).map AV.d := by simp [rowCells, List.map_take]
  have e2 : List.drop (k * (xs.length + 1) + (xs.length + 1)) (rowCells rows) = (rows.flatten.drop (k * (xs.length + 1) + (xs.length + 1))).map AV.d := by simp [rowCells, List.map_drop]
  rw [e1, e2]
  exact WkB_app (WkB_app (WkB_ds2 _) (WkB_cons (.inl .nild) (WkB_ds2 _))) (WkB_ds2 _)
theorem WkT_rows {H : List Blk} {b m n e : Nat} {rows : List (List D)} (hb : H[b]? = some (.mem (rowCells rows))) (hm : m ≤ b) (hl : rows.length = n) (he : ∀ r ∈ rows, r.length = e) : WkT H m (.hsl b 0 e n) (.d (.sl rows)) := by
  refine .inl (.hsl b 0 e n (rowCells rows) rows hb hm ?_ hl he)
  rw [List.drop_zero, List.take_of_length_le (by rw [rowCells_len he, hl]; exact Nat.le_refl _)]; rfl
def smallZ (b : Block) (m : MBlock) (regs slots : Int) : Prop :=
  ¬ (60 : Int) < (b.code.length : Int) ∧ ¬ (200 : Int) < (m.code.length : Int) ∧ ¬ 20 < regs ∧ ¬ 20 < slots ∧ ¬ 30 < b.term.to ∧ ¬ 30 < b.term.els ∧ ¬ 30 < m.term.to ∧ ¬ 30 < m.term.els ∧ ¬ b.term.to < 0 ∧ ¬ b.term.els < 0
instance (b : Block) (m : MBlock) (regs slots : Int) : Decidable (smallZ b m regs slots) := by unfold smallZ; infer_instance
def fnB (b : Block) : Func := ⟨0, 20, b :: List.replicate 30 retB⟩
def fnM (m : MBlock) (regs slots : Int) : MFunc := ⟨0, regs, slots, m :: List.replicate 30 retM⟩
def rightZ (b : Block) (m : MBlock) (regs slots : Int) : Bool :=
  if smallZ b m regs slots then (if refCheckZ (fnB b) ≠ 0 then false else refMCheckZ (fnM m regs slots) == 0) else false
theorem fnB_rows (b : Block) : (fnB b).blocks.map Block.row = (fRow 31).set 0 b.row := by
  simp [fnB, fRow, retB, Block.row, rrow, List.replicate_succ]
theorem fnM_rows (m : MBlock) (regs slots : Int) : (fnM m regs slots).blocks.map MBlock.row = (fRow 31).set 0 m.row := by
  simp [fnM, fRow, retM, MBlock.row, rrow, List.replicate_succ]
end Go.AE

/- The blocks of the law are those of small valid functions: the function. -/
set_option linter.unusedVariables false
namespace Go.AE
open Go
section
theorem law14_right_calls {P : Program} {p : Nums} (A : All P p) (b : Block) (m : MBlock) (regs slots : Int) (hok : okM m) : CallsTo P p.law14_right [b.av, m.av, AI regs, AI slots] [] fun o _ => o = .ret (AB (rightZ b m regs slots)) := by
  refine A.law14_right.run rfl fun R hR => ?_
  obtain ⟨T, hT⟩ : ∃ T, T = rightZ b m regs slots := ⟨_, rfl⟩
  have hs := hT
  unfold rightZ at hs
  rw [← hT] at hR
  have h7 : b.code.length ≤ 60 → CallsTo P p.ref07_Check [(fnB b).av] [] fun o _ => o = .ret (AI (refCheckZ (fnB b))) := fun h => ref07_Check_calls A (fnB b) (by simp [fnB]) (by simp [fnB, codeN, retB]; omega)
  have h8 : m.code.length ≤ 200 → CallsTo P p.ref08_Check [(fnM m regs slots).av] [] fun o _ => o = .ret (AI (refMCheckZ (fnM m regs slots))) := fun h => ref08_Check_calls A (fnM m regs slots) (by simp [fnM]) (by simp [fnM, mcodeN, retM]; omega)
    (fun x hx => by
      simp only [fnM, List.mem_cons] at hx
      rcases hx with rfl | hx
      · exact hok
      · rw [(List.mem_replicate.1 hx).2]; intro y hy; simp [retM] at hy)
  have r7 := fnB_rows b
  have r8 := fnM_rows m regs slots
  unfold Func.av at h7
  unfold MFunc.av at h8
  rw [r7] at h7
  rw [r8] at h8
  obtain ⟨e7, he7⟩ : ∃ x, x = refCheckZ (fnB b) := ⟨_, rfl⟩
  obtain ⟨e8, he8⟩ : ∃ x, x = refMCheckZ (fnM m regs slots) := ⟨_, rfl⟩
  rw [← he7] at h7 hs
  rw [← he8] at h8 hs
  simp only [fnB, fnM] at h7 h8
  obtain ⟨rb, hrb⟩ : ∃ x, x = b.row := ⟨_, rfl⟩
  obtain ⟨rm, hrm⟩ : ∃ x, x = m.row := ⟨_, rfl⟩
  rw [← hrb] at h7
  rw [← hrm] at h8
  obtain ⟨code, kind, ta, to, els⟩ := b
  obtain ⟨mcode, mkind, mta, mto, mels⟩ := m
  simp only [Block.row] at hrb
  simp only [MBlock.row] at hrm
  (simp (maxSteps := 1000000) [ic_law14_right, Block.av, MBlock.av])
  by_cases g1 : (60 : Int) < (code.length : Int)
  · rw [if_neg (fun h => h.1 g1)] at hs
    (simp (maxSteps := 1000000) [g1])
    (first | exact hR _ _ FrA | exact hR _ _ FnA | exact hR _ _ (Fin_ret _ rfl rfl (by simp [AV.erase, AV.unview, hs]; done)) | exact hR _ _ (Fin_normal _ rfl rfl (by simp [AV.erase, AV.unview, hs]; done)) | fail "no end")
  (simp (maxSteps := 1000000) [g1])
  by_cases g2 : (200 : Int) < (mcode.length : Int)
  · rw [if_neg (fun h => h.2.1 g2)] at hs
    (simp (maxSteps := 1000000) [g2])
    (first | exact hR _ _ FrA | exact hR _ _ FnA | exact hR _ _ (Fin_ret _ rfl rfl (by simp [AV.erase, AV.unview, hs]; done)) | exact hR _ _ (Fin_normal _ rfl rfl (by simp [AV.erase, AV.unview, hs]; done)) | fail "no end")
  (simp (maxSteps := 1000000) [g2])
  by_cases g3 : 20 < regs
  · rw [if_neg (fun h => h.2.2.1 g3)] at hs
    (simp (maxSteps := 1000000) [g3])
    (first | exact hR _ _ FrA | exact hR _ _ FnA | exact hR _ _ (Fin_ret _ rfl rfl (by simp [AV.erase, AV.unview, hs]; done)) | exact hR _ _ (Fin_normal _ rfl rfl (by simp [AV.erase, AV.unview, hs]; done)) | fail "no end")
  (simp (maxSteps := 1000000) [g3])
  by_cases g4 : 20 < slots
  · rw [if_neg (fun h => h.2.2.2.1 g4)] at hs
    (simp (maxSteps := 1000000) [g4])
    (first | exact hR _ _ FrA | exact hR _ _ FnA | exact hR _ _ (Fin_ret _ rfl rfl (by simp [AV.erase, AV.unview, hs]; done)) | exact hR _ _ (Fin_normal _ rfl rfl (by simp [AV.erase, AV.unview, hs]; done)) | fail "no end")
  (simp (maxSteps := 1000000) [g4])
  by_cases g5 : 30 < to
  · rw [if_neg (fun h => h.2.2.2.2.1 g5)] at hs
    (simp (maxSteps := 1000000) [g5])
    (first | exact hR _ _ FrA | exact hR _ _ FnA | exact hR _ _ (Fin_ret _ rfl rfl (by simp [AV.erase, AV.unview, hs]; done)) | exact hR _ _ (Fin_normal _ rfl rfl (by simp [AV.erase, AV.unview, hs]; done)) | fail "no end")
  (simp (maxSteps := 1000000) [g5])
  by_cases g6 : 30 < els
  · rw [if_neg (fun h => h.2.2.2.2.2.1 g6)] at hs
    (simp (maxSteps := 1000000) [g6])
    (first | exact hR _ _ FrA | exact hR _ _ FnA | exact hR _ _ (Fin_ret _ rfl rfl (by simp [AV.erase, AV.unview, hs]; done)) | exact hR _ _ (Fin_normal _ rfl rfl (by simp [AV.erase, AV.unview, hs]; done)) | fail "no end")
  (simp (maxSteps := 1000000) [g6])
  by_cases g7 : 30 < mto
  · rw [if_neg (fun h => h.2.2.2.2.2.2.1 g7)] at hs
    (simp (maxSteps := 1000000) [g7])
    (first | exact hR _ _ FrA | exact hR _ _ FnA | exact hR _ _ (Fin_ret _ rfl rfl (by simp [AV.erase, AV.unview, hs]; done)) | exact hR _ _ (Fin_normal _ rfl rfl (by simp [AV.erase, AV.unview, hs]; done)) | fail "no end")
  (simp (maxSteps := 1000000) [g7])
  by_cases g8 : 30 < mels
  · rw [if_neg (fun h => h.2.2.2.2.2.2.2.1 g8)] at hs
    (simp (maxSteps := 1000000) [g8])
    (first | exact hR _ _ FrA | exact hR _ _ FnA | exact hR _ _ (Fin_ret _ rfl rfl (by simp [AV.erase, AV.unview, hs]; done)) | exact hR _ _ (Fin_normal _ rfl rfl (by simp [AV.erase, AV.unview, hs]; done)) | fail "no end")
  (simp (maxSteps := 1000000) [g8])
  by_cases g9 : to < 0
  · rw [if_neg (fun h => h.2.2.2.2.2.2.2.2.1 g9)] at hs
    (simp (maxSteps := 1000000) [g9])
    (first | exact hR _ _ FrA | exact hR _ _ FnA | exact hR _ _ (Fin_ret _ rfl rfl (by simp [AV.erase, AV.unview, hs]; done)) | exact hR _ _ (Fin_normal _ rfl rfl (by simp [AV.erase, AV.unview, hs]; done)) | fail "no end")
  (simp (maxSteps := 1000000) [g9])
  by_cases g10 : els < 0
  · rw [if_neg (fun h => h.2.2.2.2.2.2.2.2.2 g10)] at hs
    (simp (maxSteps := 1000000) [g10])
    (first | exact hR _ _ FrA | exact hR _ _ FnA | exact hR _ _ (Fin_ret _ rfl rfl (by simp [AV.erase, AV.unview, hs]; done)) | exact hR _ _ (Fin_normal _ rfl rfl (by simp [AV.erase, AV.unview, hs]; done)) | fail "no end")
  (simp (maxSteps := 1000000) [g10])
  rw [if_pos ⟨g1, g2, g3, g4, g5, g6, g7, g8, g9, g10⟩] at hs
  have h7 := h7 (by simp only; omega)
  have h8 := h8 (by simp only; omega)
  refine AWio_mks (n := 31) (by rfl) (by rfl) (by decide) (by decide) (by decide) (by rfl) ?_
  have hz : List.replicate 31 [D.sl [], D.int .i64 0, D.int .i64 0, D.int .i64 0, D.int .i64 0] = fRow 0 := rfl
  rw [hz]
  obtain ⟨B, hB⟩ : ∃ B : Nat → List AV, B = fun k => rowCells (fRow k) := ⟨_, rfl⟩
  have hB0 : rowCells (fRow 0) = B 0 := by rw [hB]
  have hBl : ∀ k, k ≤ 31 → (B k).length = 155 := fun k hk => by rw [hB]; simp only; rw [rowCells_len (fRow_len k), fRow_size hk]
  have hBw : ∀ {H : List Blk} {n k : Nat}, k < 31 → WkB H n (.mem (List.take (k * 5) (B k) ++ AV.nils :: AI 3 :: AI 0 :: AI 0 :: AI 0 :: List.drop (k * 5 + 5) (B k))) (.mem (B (k + 1))) := by
    intro H n k hk
    have := WkB_row0 (H := H) (n := n) (k := k) (xs := [I 3, I 0, I 0, I 0]) (rows := fRow k) (fRow_len k) (by rw [fRow_size (by omega)]; exact hk)
    rw [show (D.sl [] :: [I 3, I 0, I 0, I 0]) = rrow from rfl, fRow_set hk] at this
    rw [hB]; simpa using this
  have hBs : ∀ {H : List Blk} {n k : Nat}, WkB H n (.mem (B k)) (.mem (B k)) := by intro H n k; rw [hB]; exact WkB_ds2 _
  rw [hB0]
  (simp (maxSteps := 1000000) [])
  refine AW_loop (fun k : Nat => ⟨[(10, AI k), (9, .hsl 2 0 5 31), (5, .ptr 1 0), (4, .ptr 0 0), (2, AI regs), (3, AI slots)],
    [.mem [.d (.sl (code.map Instr.row)), AI kind, AI ta, AI to, AI els], .mem [.d (.sl (mcode.map Mach.row)), AI mkind, AI mta, AI mto, AI mels], .mem (B k)]⟩) (fun k => k ≤ 31) (fun k => 31 - k) 0 (by simp) ?_ ?_
  · refine Wk.of ?_ ?_ (by simp) <;> repeat' (first | exact hBs | (first | exact True.intro | exact ⟨_, rfl, wkt_same rfl⟩ | exact ⟨_, rfl, wkt_erase rfl⟩ | exact ⟨_, rfl, .inl .nild⟩ | exact ⟨_, rfl, .inl .nile⟩ | exact ⟨_, rfl, wkt_nils⟩ | exact wkt_same rfl | exact wkt_erase rfl | exact .inl .nild | exact .inl .nile | exact wkt_nils | exact WkB.same rfl | exact WkB_rows | exact WkB_nil | exact .dead _ | exact .iter _ _ | exact .glob _ _ | refine WkB_cons ?_ ?_ | refine And.intro ?_ ?_))
  intro k hk N hN
  (simp (maxSteps := 1000000) [])
  ((first | refine AW_cond_split _ (by rfl) (fun h2 => ?_) (fun h2 => ?_) | refine AWop_split _ (by rfl) (fun h2 => ?_) (fun h2 => ?_)) <;> (try simp only [yy1, yy2, yy3, yy4, yy5, yy6, beq_iff_eq, bne_iff_ne, ne_eq, beq_eq_false_iff_ne, bne_eq_false_iff_eq] at h2))
  · have hkl : k < 31 := by omega
    have hw := wrap_succ (k := k) (by omega)
    have hfit : k * 5 + 5 ≤ (B k).length := by rw [hBl k hk]; omega
    (simp (maxSteps := 1000000) [h2, hfit, hw])
    exact hN _ (k + 1) hkl (by refine Wk.of ?_ ?_ (by simp) <;> repeat' (first | exact hBw hkl | (first | exact True.intro | exact ⟨_, rfl, wkt_same rfl⟩ | exact ⟨_, rfl, wkt_erase rfl⟩ | exact ⟨_, rfl, .inl .nild⟩ | exact ⟨_, rfl, .inl .nile⟩ | exact ⟨_, rfl, wkt_nils⟩ | exact wkt_same rfl | exact wkt_erase rfl | exact .inl .nild | exact .inl .nile | exact wkt_nils | exact WkB.same rfl | exact WkB_rows | exact WkB_nil | exact .dead _ | exact .iter _ _ | exact .glob _ _ | refine WkB_cons ?_ ?_ | refine And.intro ?_ ?_))) (by omega)
  · have hkl : k = 31 := by omega
    subst hkl
    (simp (maxSteps := 1000000) [h2])
    rw [law14_right_m18_eq]
    have h31 : ∀ r ∈ (fRow 31).set 0 rb, r.length = 5 := by
      intro r hr
      rcases List.mem_or_eq_of_mem_set hr with h | h
      · exact fRow_len 31 r h
      · rw [h, hrb]; rfl
    have h31m : ∀ r ∈ (fRow 31).set 0 rm, r.length = 5 := by
      intro r hr
      rcases List.mem_or_eq_of_mem_set hr with h | h
      · exact fRow_len 31 r h
      · rw [h, hrm]; rfl
    have hl31 : ((fRow 31).set 0 rb).length = 31 := by simp [fRow]
    have hl31m : ((fRow 31).set 0 rm).length = 31 := by simp [fRow]
    have hBr : List.take 0 (B 31) ++ [AV.d (.sl (code.map Instr.row)), AI kind, AI ta, AI to, AI els] ++ List.drop 5 (B 31) = rowCells ((fRow 31).set 0 rb) := by
      have := spl_row (rows := fRow 31) (e := 5) (k := 0) (row := rb) (fRow_len 31) (by rw [hrb]; rfl) (by rw [fRow_size (Nat.le_refl _)]; decide)
      rw [← this, hB, hrb]; rfl
    have hBm : List.take 0 (B 31) ++ [AV.d (.sl (mcode.map Mach.row)), AI mkind, AI mta, AI mto, AI mels] ++ List.drop 5 (B 31) = rowCells ((fRow 31).set 0 rm) := by
      have := spl_row (rows := fRow 31) (e := 5) (k := 0) (row := rm) (fRow_len 31) (by rw [hrm]; rfl) (by rw [fRow_size (Nat.le_refl _)]; decide)
      rw [← this, hB, hrm]; rfl
    obtain ⟨F7, hF7⟩ : ∃ x, x = (fRow 31).set 0 rb := ⟨_, rfl⟩
    obtain ⟨F8, hF8⟩ : ∃ x, x = (fRow 31).set 0 rm := ⟨_, rfl⟩
    rw [← hF7] at h7 hBr h31 hl31
    rw [← hF8] at h8 hBm h31m hl31m
    have hfit : 5 ≤ (B 31).length := by rw [hBl 31 (Nat.le_refl _)]; decide
    refine AW_merge ⟨[(9, .d (.sl F7)), (5, .ptr 1 0), (2, AI regs), (3, AI slots)], [.mem [.d (.sl (code.map Instr.row)), AI kind, AI ta, AI to, AI els], .mem [.d (.sl (mcode.map Mach.row)), AI mkind, AI mta, AI mto, AI mels]]⟩ (fun N hN => ?_) ?_
    · (simp (maxSteps := 1000000) [hfit])
      have hBr' : (AV.d (.sl (code.map Instr.row)) :: AI kind :: AI ta :: AI to :: AI els :: List.drop 5 (B 31)) = rowCells F7 := by simpa using hBr
      rw [hBr']
      exact hN _ (by refine Wk.of ?_ ?_ (by simp) <;> repeat' (first | exact ⟨_, rfl, WkT_rows rfl (Nat.le_refl _) hl31 h31⟩ | (first | exact True.intro | exact ⟨_, rfl, wkt_same rfl⟩ | exact ⟨_, rfl, wkt_erase rfl⟩ | exact ⟨_, rfl, .inl .nild⟩ | exact ⟨_, rfl, .inl .nile⟩ | exact ⟨_, rfl, wkt_nils⟩ | exact wkt_same rfl | exact wkt_erase rfl | exact .inl .nild | exact .inl .nile | exact wkt_nils | exact WkB.same rfl | exact WkB_rows | exact WkB_nil | exact .dead _ | exact .iter _ _ | exact .glob _ _ | refine WkB_cons ?_ ?_ | refine And.intro ?_ ?_)))
    (simp (maxSteps := 1000000) [])
    (refine AWcall_det h7 (by rfl) (by rfl) ?_)
    by_cases z7 : e7 = 0
    · rw [if_neg (by simpa using z7)] at hs
      (simp (maxSteps := 1000000) [z7])
      refine AWio_mks (n := 31) (by rfl) (by rfl) (by decide) (by decide) (by decide) (by rfl) ?_
      rw [hz, hB0]
      (simp (maxSteps := 1000000) [])
      refine AW_loop (fun k : Nat => ⟨[(12, AI k), (11, .hsl 2 0 5 31), (5, .ptr 1 0), (2, AI regs), (3, AI slots)],
        [.mem [.d (.sl (code.map Instr.row)), AI kind, AI ta, AI to, AI els], .mem [.d (.sl (mcode.map Mach.row)), AI mkind, AI mta, AI mto, AI mels], .mem (B k)]⟩) (fun k => k ≤ 31) (fun k => 31 - k) 0 (by simp) ?_ ?_
      · refine Wk.of ?_ ?_ (by simp) <;> repeat' (first | exact hBs | (first | exact True.intro | exact ⟨_, rfl, wkt_same rfl⟩ | exact ⟨_, rfl, wkt_erase rfl⟩ | exact ⟨_, rfl, .inl .nild⟩ | exact ⟨_, rfl, .inl .nile⟩ | exact ⟨_, rfl, wkt_nils⟩ | exact wkt_same rfl | exact wkt_erase rfl | exact .inl .nild | exact .inl .nile | exact wkt_nils | exact WkB.same rfl | exact WkB_rows | exact WkB_nil | exact .dead _ | exact .iter _ _ | exact .glob _ _ | refine WkB_cons ?_ ?_ | refine And.intro ?_ ?_))
      intro k hk N hN
      (simp (maxSteps := 1000000) [])
      ((first | refine AW_cond_split _ (by rfl) (fun h2 => ?_) (fun h2 => ?_) | refine AWop_split _ (by rfl) (fun h2 => ?_) (fun h2 => ?_)) <;> (try simp only [yy1, yy2, yy3, yy4, yy5, yy6, beq_iff_eq, bne_iff_ne, ne_eq, beq_eq_false_iff_ne, bne_eq_false_iff_eq] at h2))
      · have hkl : k < 31 := by omega
        have hw := wrap_succ (k := k) (by omega)
        have hfit : k * 5 + 5 ≤ (B k).length := by rw [hBl k hk]; omega
        (simp (maxSteps := 1000000) [h2, hfit, hw])
        exact hN _ (k + 1) hkl (by refine Wk.of ?_ ?_ (by simp) <;> repeat' (first | exact hBw hkl | (first | exact True.intro | exact ⟨_, rfl, wkt_same rfl⟩ | exact ⟨_, rfl, wkt_erase rfl⟩ | exact ⟨_, rfl, .inl .nild⟩ | exact ⟨_, rfl, .inl .nile⟩ | exact ⟨_, rfl, wkt_nils⟩ | exact wkt_same rfl | exact wkt_erase rfl | exact .inl .nild | exact .inl .nile | exact wkt_nils | exact WkB.same rfl | exact WkB_rows | exact WkB_nil | exact .dead _ | exact .iter _ _ | exact .glob _ _ | refine WkB_cons ?_ ?_ | refine And.intro ?_ ?_))) (by omega)
      · have hkl : k = 31 := by omega
        subst hkl
        (simp (maxSteps := 1000000) [h2])
        rw [law14_right_m17_eq]
        refine AW_merge ⟨[(11, .d (.sl F8)), (2, AI regs), (3, AI slots)], []⟩ (fun N hN => ?_) ?_
        · (simp (maxSteps := 1000000) [hfit])
          have hBr' : (AV.d (.sl (mcode.map Mach.row)) :: AI mkind :: AI mta :: AI mto :: AI mels :: List.drop 5 (B 31)) = rowCells F8 := by simpa using hBm
          rw [hBr']
          exact hN _ (by refine Wk.of ?_ ?_ (by simp) <;> repeat' (first | exact ⟨_, rfl, WkT_rows rfl (Nat.zero_le _) hl31m h31m⟩ | (first | exact True.intro | exact ⟨_, rfl, wkt_same rfl⟩ | exact ⟨_, rfl, wkt_erase rfl⟩ | exact ⟨_, rfl, .inl .nild⟩ | exact ⟨_, rfl, .inl .nile⟩ | exact ⟨_, rfl, wkt_nils⟩ | exact wkt_same rfl | exact wkt_erase rfl | exact .inl .nild | exact .inl .nile | exact wkt_nils | exact WkB.same rfl | exact WkB_rows | exact WkB_nil | exact .dead _ | exact .iter _ _ | exact .glob _ _ | refine WkB_cons ?_ ?_ | refine And.intro ?_ ?_)))
        (simp (maxSteps := 1000000) [])
        (refine AWcall_det h8 (by rfl) (by rfl) ?_)
        (simp (maxSteps := 1000000) [])
        (first | exact hR _ _ FrA | exact hR _ _ FnA | exact hR _ _ (Fin_ret _ rfl rfl (by simp [AV.erase, AV.unview, hs]; done)) | exact hR _ _ (Fin_normal _ rfl rfl (by simp [AV.erase, AV.unview, hs]; done)) | fail "no end")
    · rw [if_pos z7] at hs
      have zb : (e7 == 0) = false := by simpa using z7
      (simp (maxSteps := 1000000) [z7, zb])
      (first | exact hR _ _ FrA | exact hR _ _ FnA | exact hR _ _ (Fin_ret _ rfl rfl (by simp [AV.erase, AV.unview, hs]; done)) | exact hR _ _ (Fin_normal _ rfl rfl (by simp [AV.erase, AV.unview, hs]; done)) | fail "no end")
end
end Go.AE

/- The alignment of the reference. -/
set_option linter.unusedVariables false
namespace Go.AE
open Go
/-- The places of the elements that do not hold, from place i on. -/
def idxF {α : Type} (f : α → Bool) (l : List α) : Nat → Nat → List Nat
  | 0, _ => []
  | n + 1, i => match l[i]? with
    | some x => if f x = true then idxF f l n (i + 1) else i :: idxF f l n (i + 1)
    | none => []
def idxA {α : Type} (f : α → Bool) (l : List α) (i : Nat) : List Nat := idxF f l (l.length - i) i
theorem idxA_end {α : Type} {f : α → Bool} {l : List α} {i : Nat} (h : l.length ≤ i) : idxA f l i = [] := by
  unfold idxA; rw [show l.length - i = 0 by omega]; rfl
theorem idxA_t {α : Type} {f : α → Bool} {l : List α} {i : Nat} (h : i < l.length) (hf : f l[i] = true) : idxA f l i = idxA f l (i + 1) := by
  unfold idxA
  rw [show l.length - i = (l.length - (i + 1)) + 1 by omega]
  simp only [idxF, List.getElem?_eq_getElem h, hf, if_true]
theorem idxA_f {α : Type} {f : α → Bool} {l : List α} {i : Nat} (h : i < l.length) (hf : f l[i] = false) : idxA f l i = i :: idxA f l (i + 1) := by
  unfold idxA
  rw [show l.length - i = (l.length - (i + 1)) + 1 by omega]
  simp only [idxF, List.getElem?_eq_getElem h, hf, Bool.false_eq_true, if_false]
theorem idxA_skip {α : Type} {f : α → Bool} {l : List α} : ∀ {n i : Nat}, l.length - i = n → i ≤ l.length → (skipW f l i < l.length ∧ idxA f l i = skipW f l i :: idxA f l (skipW f l i + 1)) ∨ (skipW f l i = l.length ∧ idxA f l i = []) := by
  intro n
  induction n with
  | zero =>
    intro i hn hi
    have : i = l.length := by omega
    subst this
    exact .inr ⟨skipW_end (Nat.le_refl _), idxA_end (Nat.le_refl _)⟩
  | succ n ih =>
    intro i hn hi
    have hil : i < l.length := by omega
    cases hf : f l[i] with
    | true =>
      rw [skipW_t hil hf, idxA_t hil hf]
      exact ih (by omega) (by omega)
    | false =>
      rw [skipW_f hil hf]
      exact .inl ⟨hil, idxA_f hil hf⟩
theorem idxA_len {α : Type} {f : α → Bool} {l : List α} : ∀ {n i : Nat}, l.length - i = n → (idxA f l i).length ≤ n := by
  intro n
  induction n with
  | zero => intro i hn; rw [idxA_end (by omega)]; simp
  | succ n ih =>
    intro i hn
    have hil : i < l.length := by omega
    have := ih (i := i + 1) (by omega)
    cases hf : f l[i] with
    | true => rw [idxA_t hil hf]; omega
    | false => rw [idxA_f hil hf]; simp only [List.length_cons]; omega
def natsD (l : List Nat) : List (List D) := l.map fun (n : Nat) => [D.int .i64 (n : Int)]
section
theorem ref13_Same_calls {P : Program} {p : Nums} (A : All P p) (i : Instr) (m : Mach) : CallsTo P p.ref13_Same [i.av, m.av] [] fun o _ => o = .ret (AB (sameI i m)) := by
  refine A.ref13_Same.run rfl fun R hR => ?_
  have hs : sameI i m = sameI i m := rfl
  conv at hs => rhs; unfold sameI
  cases h1 : i.op == m.op <;> cases h2 : i.imm == m.imm <;> cases h3 : i.op != 2 <;> cases h4 : i.op != 18 <;> simp only [h1, h2, h3, h4, Bool.and_true, Bool.and_false, Bool.false_and, Bool.and_self] at hs <;>
    (simp (maxSteps := 1000000) [ic_ref13_Same, Instr.av, Mach.av, h1, h2, h3, h4]) <;> (first | exact hR _ _ FrA | exact hR _ _ FnA | exact hR _ _ (Fin_ret _ rfl rfl (by simp [AV.erase, AV.unview, hs]; done)) | exact hR _ _ (Fin_normal _ rfl rfl (by simp [AV.erase, AV.unview, hs]; done)) | fail "no end")
theorem ref13_Terms_calls {P : Program} {p : Nums} (A : All P p) (a b : Term) : CallsTo P p.ref13_Terms [a.av, b.av] [] fun o _ => o = .ret (AB (termsZ a b)) := by
  refine A.ref13_Terms.run rfl fun R hR => ?_
  have hs : termsZ a b = termsZ a b := rfl
  conv at hs => rhs; unfold termsZ
  cases h1 : a.kind == b.kind <;> cases h2 : a.to == b.to <;> cases h3 : a.els == b.els <;> simp only [h1, h2, h3, Bool.and_true, Bool.and_false, Bool.false_and, Bool.and_self] at hs <;>
    (simp (maxSteps := 1000000) [ic_ref13_Terms, Term.av, h1, h2, h3, eqD]) <;> (first | exact hR _ _ FrA | exact hR _ _ FnA | exact hR _ _ (Fin_ret _ rfl rfl (by simp [AV.erase, AV.unview, hs]; done)) | exact hR _ _ (Fin_normal _ rfl rfl (by simp [AV.erase, AV.unview, hs]; done)) | fail "no end")
theorem ref13_Operations_calls {P : Program} {p : Nums} (A : All P p) (l : List Instr) (h0 : l.length < 1000000) : CallsTo P p.ref13_Operations [.d (.sl (l.map Instr.row))] [] fun o _ => o = .ret (.d (.sl (natsD (idxA isCopy l 0)))) := by
  refine A.ref13_Operations.run rfl fun R hR => ?_
  obtain ⟨T, hT⟩ : ∃ T, T = idxA isCopy l 0 := ⟨_, rfl⟩
  rw [← hT] at hR
  (simp (maxSteps := 1000000) [ic_ref13_Operations])
  refine AW_loop (fun x : Nat × List Nat => ⟨[(4, AI x.1), (3, .own 1 (natsD x.2)), (0, .d (.sl (l.map Instr.row)))], []⟩) (fun x => x.1 ≤ l.length ∧ x.2 ++ idxA isCopy l x.1 = T ∧ x.2.length ≤ x.1) (fun x => l.length - x.1) (0, []) (by simp [hT]) (by simp only [natsD, List.map_nil]; (exact wkA)) ?_
  rintro ⟨k, acc⟩ ⟨hk, hs, hl⟩ N hN
  simp only at hk hs hl
  (simp (maxSteps := 1000000) [])
  ((first | refine AW_cond_split _ (by rfl) (fun h2 => ?_) (fun h2 => ?_) | refine AWop_split _ (by rfl) (fun h2 => ?_) (fun h2 => ?_)) <;> (try simp only [yy1, yy2, yy3, yy4, yy5, yy6, beq_iff_eq, bne_iff_ne, ne_eq, beq_eq_false_iff_ne, bne_eq_false_iff_eq] at h2))
  · have hkl : k < l.length := by simpa using h2
    have hki : l[k]? = some l[k] := by simp [hkl]
    have hw := wrap_succ (k := k) (by omega)
    obtain ⟨F, hF⟩ : ∃ F, F = natsD acc := ⟨_, rfl⟩
    have hFl : F.length = acc.length := by rw [hF]; simp [natsD]
    rw [← hF]
    by_cases hc : l[k].op = 2
    · have hcc : isCopy l[k] = true := by simp [isCopy, hc]
      rw [idxA_t hkl hcc] at hs
      (simp (maxSteps := 1000000) [h2, List.getElem?_map, hki, Instr.row, hc, hw])
      exact hN _ (k + 1, acc) ⟨hkl, hs, by simp only; omega⟩ (by simp only [← hF]; (exact wkA)) (by simp only; omega)
    · have hcc : isCopy l[k] = false := by simp [isCopy, hc]
      rw [idxA_f hkl hcc] at hs
      (simp (maxSteps := 1000000) [h2, List.getElem?_map, hki, Instr.row, hc])
      (refine AWio_app_own (by rfl) (by rfl) (by rfl) ?_ (by decide) ?_ ?_ ?_)
      · simp
      · simp; omega
      · simp; omega
      (simp (maxSteps := 1000000) [hw])
      exact hN _ (k + 1, acc ++ [k]) ⟨hkl, by simpa using hs, by simp only [List.length_append, List.length_singleton]; omega⟩ (by simp only [natsD, List.map_append, List.map_cons, List.map_nil]; simp only [natsD] at hF; rw [← hF]; (exact wkA)) (by simp only; omega)
  · have hkl : l.length ≤ k := by simpa using h2
    rw [idxA_end hkl, List.append_nil] at hs
    (simp (maxSteps := 1000000) [h2])
    refine hR _ _ (Fin_wkv _ _ rfl (by (exact wkvA)) ?_)
    rw [hs]; rfl
theorem ref13_Others_calls {P : Program} {p : Nums} (A : All P p) (l : List Mach) (h0 : l.length < 1000000) : CallsTo P p.ref13_Others [.d (.sl (l.map Mach.row))] [] fun o _ => o = .ret (.d (.sl (natsD (idxA isMove l 0)))) := by
  refine A.ref13_Others.run rfl fun R hR => ?_
  obtain ⟨T, hT⟩ : ∃ T, T = idxA isMove l 0 := ⟨_, rfl⟩
  rw [← hT] at hR
  (simp (maxSteps := 1000000) [ic_ref13_Others])
  refine AW_loop (fun x : Nat × List Nat => ⟨[(4, AI x.1), (3, .own 1 (natsD x.2)), (0, .d (.sl (l.map Mach.row)))], []⟩) (fun x => x.1 ≤ l.length ∧ x.2 ++ idxA isMove l x.1 = T ∧ x.2.length ≤ x.1) (fun x => l.length - x.1) (0, []) (by simp [hT]) (by simp only [natsD, List.map_nil]; (exact wkA)) ?_
  rintro ⟨k, acc⟩ ⟨hk, hs, hl⟩ N hN
  simp only at hk hs hl
  (simp (maxSteps := 1000000) [])
  ((first | refine AW_cond_split _ (by rfl) (fun h2 => ?_) (fun h2 => ?_) | refine AWop_split _ (by rfl) (fun h2 => ?_) (fun h2 => ?_)) <;> (try simp only [yy1, yy2, yy3, yy4, yy5, yy6, beq_iff_eq, bne_iff_ne, ne_eq, beq_eq_false_iff_ne, bne_eq_false_iff_eq] at h2))
  · have hkl : k < l.length := by simpa using h2
    have hki : l[k]? = some l[k] := by simp [hkl]
    have hw := wrap_succ (k := k) (by omega)
    obtain ⟨F, hF⟩ : ∃ F, F = natsD acc := ⟨_, rfl⟩
    have hFl : F.length = acc.length := by rw [hF]; simp [natsD]
    rw [← hF]
    by_cases hc : l[k].op = 18
    · have hcc : isMove l[k] = true := by simp [isMove, hc]
      rw [idxA_t hkl hcc] at hs
      (simp (maxSteps := 1000000) [h2, List.getElem?_map, hki, Mach.row, hc, hw])
      exact hN _ (k + 1, acc) ⟨hkl, hs, by simp only; omega⟩ (by simp only [← hF]; (exact wkA)) (by simp only; omega)
    · have hcc : isMove l[k] = false := by simp [isMove, hc]
      rw [idxA_f hkl hcc] at hs
      (simp (maxSteps := 1000000) [h2, List.getElem?_map, hki, Mach.row, hc])
      (refine AWio_app_own (by rfl) (by rfl) (by rfl) ?_ (by decide) ?_ ?_ ?_)
      · simp
      · simp; omega
      · simp; omega
      (simp (maxSteps := 1000000) [hw])
      exact hN _ (k + 1, acc ++ [k]) ⟨hkl, by simpa using hs, by simp only [List.length_append, List.length_singleton]; omega⟩ (by simp only [natsD, List.map_append, List.map_cons, List.map_nil]; simp only [natsD] at hF; rw [← hF]; (exact wkA)) (by simp only; omega)
  · have hkl : l.length ≤ k := by simpa using h2
    rw [idxA_end hkl, List.append_nil] at hs
    (simp (maxSteps := 1000000) [h2])
    refine hR _ _ (Fin_wkv _ _ rfl (by (exact wkvA)) ?_)
    rw [hs]; rfl
end
end Go.AE

/- The alignment of the reference: the function. -/
set_option linter.unusedVariables false
namespace Go.AE
open Go
theorem natsD_get {l : List Nat} {n : Nat} (h : n < l.length) : (natsD l)[n]? = some [D.int .i64 (l[n] : Int)] := by simp [natsD, h]
section
set_option maxHeartbeats 2000000 in
theorem ref13_Code_calls {P : Program} {p : Nums} (A : All P p) (code : List Instr) (mach : List Mach) (h0 : code.length < 500000) (h1 : mach.length < 500000) : CallsTo P p.ref13_Code [.d (.sl (code.map Instr.row)), .d (.sl (mach.map Mach.row))] []
    fun o _ => o = .ret (.tup [.d (.sl ((alignZ code mach).1.map ARow.row)), AI (alignZ code mach).2.1, AI (alignZ code mach).2.2]) := by
  refine A.ref13_Code.run rfl fun R hR => ?_
  obtain ⟨T, hT⟩ : ∃ T, T = alignZ code mach := ⟨_, rfl⟩
  rw [← hT] at hR
  have ho := ref13_Operations_calls A code (by omega)
  have ht := ref13_Others_calls A mach (by omega)
  have hal := idxA_len (f := isCopy) (l := code) (n := code.length) (i := 0) (by omega)
  have hbl := idxA_len (f := isMove) (l := mach) (n := mach.length) (i := 0) (by omega)
  obtain ⟨a, ha⟩ : ∃ a, a = idxA isCopy code 0 := ⟨_, rfl⟩
  obtain ⟨b, hb⟩ : ∃ b, b = idxA isMove mach 0 := ⟨_, rfl⟩
  rw [← ha] at ho hal
  rw [← hb] at ht hbl
  have hlenA : (natsD a).length = a.length := by simp [natsD]
  have hlenB : (natsD b).length = b.length := by simp [natsD]
  (simp (maxSteps := 1000000) [ic_ref13_Code])
  (refine AWcall_det ho (by rfl) (by rfl) ?_)
  (simp (maxSteps := 1000000) [])
  (refine AWcall_det ht (by rfl) (by rfl) ?_)
  (simp (maxSteps := 1000000) [])
  refine AW_loop (fun x : Nat × Nat × Nat × List ARow => ⟨[(12, AI x.1), (10, AI x.2.1), (11, AI x.2.2.1), (9, .own 6 (x.2.2.2.map ARow.row)), (7, .d (.sl (natsD a))), (8, .d (.sl (natsD b))), (0, .d (.sl (code.map Instr.row))), (1, .d (.sl (mach.map Mach.row)))], []⟩)
    (fun x => x.1 ≤ b.length ∧ x.1 ≤ x.2.1 ∧ x.2.1 ≤ code.length ∧ x.2.2.1 ≤ mach.length ∧ a.drop x.1 = idxA isCopy code x.2.1 ∧ b.drop x.1 = idxA isMove mach x.2.2.1 ∧ x.2.2.2.length = x.1 ∧ alignS code mach (code.length - x.1 + 1) x.2.1 x.2.2.1 x.2.2.2 = T)
    (fun x => b.length - x.1) (0, 0, 0, []) (by simp [hT, alignZ, ha, hb]) (by simp only [List.map_nil]; (exact wkA)) ?_
  rintro ⟨n, i, k, rows⟩ ⟨hnb, hni, hi, hk, hda, hdb, hrl, hS⟩ N hN
  simp only at hnb hni hi hk hda hdb hrl hS
  have hsa := idxA_skip (f := isCopy) (l := code) rfl hi
  have hsb := idxA_skip (f := isMove) (l := mach) rfl hk
  rw [← hda] at hsa
  rw [← hdb] at hsb
  simp only [alignS] at hS
  obtain ⟨si, hsi⟩ : ∃ x, x = skipW isCopy code i := ⟨_, rfl⟩
  obtain ⟨sk, hsk⟩ : ∃ x, x = skipW isMove mach k := ⟨_, rfl⟩
  have hige := skipW_ge isCopy code i
  rw [← hsi] at hsa hS hige
  rw [← hsk] at hsb hS
  obtain ⟨F, hF⟩ : ∃ F, F = rows.map ARow.row := ⟨_, rfl⟩
  have hFl : F.length = rows.length := by rw [hF]; simp
  rw [← hF]
  (simp (maxSteps := 1000000) [hlenB])
  ((first | refine AW_cond_split _ (by rfl) (fun h2 => ?_) (fun h2 => ?_) | refine AWop_split _ (by rfl) (fun h2 => ?_) (fun h2 => ?_)) <;> (try simp only [yy1, yy2, yy3, yy4, yy5, yy6, beq_iff_eq, bne_iff_ne, ne_eq, beq_eq_false_iff_ne, bne_eq_false_iff_eq] at h2))
  · have hnl : n < b.length := by simpa using h2
    have hbn := natsD_get hnl
    have hdn := drop_get hnl
    obtain ⟨hskl, hskc⟩ := hsb.resolve_right (fun h => by have := h.2; rw [hdn] at this; cases this)
    rw [hdn] at hskc
    injection hskc with hbe hdb'
    have hki : mach[sk]? = some mach[sk] := by simp [hskl]
    rw [if_neg (by omega)] at hS
    (simp (maxSteps := 1000000) [h2, hlenA])
    rcases hsa with ⟨hsil, hsic⟩ | ⟨hsie, hsin⟩
    · have hnal : n < a.length := by
        have := congrArg List.length hsic
        simp at this; omega
      have hna : ¬ (a.length : Int) ≤ (n : Int) := by omega
      have hnaN : ¬ a.length ≤ n := by omega
      have han := natsD_get hnal
      rw [drop_get hnal] at hsic
      injection hsic with hae hda'
      have hci : code[si]? = some code[si] := by simp [hsil]
      rw [hci, hki] at hS
      simp only at hS
      rw [hae] at han
      rw [hbe] at hbn
      have hbn' : (natsD b)[n] = [D.int .i64 (sk : Int)] := by
        have := hbn; rw [List.getElem?_eq_some_iff] at this; exact this.2
      have hw1 := wrap_succ (k := si) (by omega)
      have hw2 := wrap_succ (k := sk) (by omega)
      have hw3 := wrap_succ (k := n) (by omega)
      (simp (maxSteps := 1000000) [hna, hnaN, hlenA, hlenB, han, hbn, List.getElem?_map, hci, hki, Instr.row, Mach.row])
      (refine AWcall_det (ref13_Same_calls A code[si] mach[sk]) (by rfl) (by rfl) ?_)
      cases hs : sameI code[si] mach[sk] with
      | false =>
        rw [hs] at hS
        simp only [Bool.false_eq_true, if_false] at hS
        (simp (maxSteps := 1000000) [hs, hbn])
        refine hR _ _ (Fin_wkv (.tup [.nils, AI sk, AI 20]) (.tup [.d (.sl []), AI sk, AI 20]) rfl (by (exact wkvA)) ?_)
        rw [← hS]; rfl
      | true =>
        rw [hs, if_pos rfl] at hS
        (simp (maxSteps := 1000000) [hs, han, hbn])
        (refine AWio_app_own (by rfl) (by rfl) (by rfl) ?_ (by decide) ?_ ?_ ?_)
        · simp
        · simp; omega
        · simp; omega
        (simp (maxSteps := 1000000) [han, hbn, hw1, hw2, hw3])
        refine hN _ (n + 1, si + 1, sk + 1, rows ++ [⟨i, si, k, sk, si, sk⟩]) ⟨hnl, by simp only; omega, hsil, hskl, hda', hdb', by simp [hrl], ?_⟩ (by simp only [List.map_append, List.map_cons, List.map_nil, ← hF, ARow.row]; (exact wkA)) (by simp only; omega)
        simp only
        rw [show code.length - (n + 1) + 1 = code.length - n by omega]; exact hS
    · have hnal : a.length ≤ n := by
        have := congrArg List.length hsin
        simp at this; omega
      have hna : (a.length : Int) ≤ (n : Int) := by omega
      have hnaN : a.length ≤ n := by omega
      have hc : code[si]? = none := List.getElem?_eq_none (by omega)
      rw [hc] at hS
      simp only at hS
      rw [hbe] at hbn
      (simp (maxSteps := 1000000) [hna, hnaN, hlenA, hbn])
      refine hR _ _ (Fin_wkv (.tup [.nils, AI sk, AI 20]) (.tup [.d (.sl []), AI sk, AI 20]) rfl (by (exact wkvA)) ?_)
      rw [← hS]; rfl
  · have hnl : n = b.length := by simp at h2; omega
    have hske : sk = mach.length := by
      rcases hsb with ⟨_, h⟩ | ⟨h, _⟩
      · rw [hnl, List.drop_length] at h; cases h
      · exact h
    (simp (maxSteps := 1000000) [h2, hlenA, hlenB])
    rcases hsa with ⟨hsil, hsic⟩ | ⟨hsie, hsin⟩
    · have hnal : n < a.length := by
        have := congrArg List.length hsic
        simp at this; omega
      have hba : b.length < a.length := by omega
      have hci : code[si]? = some code[si] := by simp [hsil]
      have hc : mach[sk]? = none := List.getElem?_eq_none (by omega)
      rw [if_neg (by omega), hci, hc] at hS
      simp only at hS
      (simp (maxSteps := 1000000) [hba])
      refine hR _ _ (Fin_wkv (.tup [.nils, AI mach.length, AI 20]) (.tup [.d (.sl []), AI mach.length, AI 20]) rfl (by (exact wkvA)) ?_)
      rw [← hS, hske]; rfl
    · have hnal : a.length ≤ n := by
        have := congrArg List.length hsin
        simp at this; omega
      have hba : ¬ b.length < a.length := by omega
      rw [if_pos ⟨hsie, hske⟩] at hS
      (simp (maxSteps := 1000000) [hba])
      (refine AWio_app_own (by rfl) (by rfl) (by rfl) ?_ (by decide) ?_ ?_ ?_)
      · simp
      · simp; omega
      · simp; omega
      (simp (maxSteps := 1000000) [])
      refine hR _ _ (Fin_wkv _ _ rfl (by (exact wkvA)) ?_)
      rw [← hS]
      simp [hF, ARow.row, hsie, hske]
end
/-! #### The state of the reference's check -/
def resR (r : CR) : List AV := match r.2 with
  | none => [.d (pairsD r.1.set), AI 0, AI 0, AI r.1.steps, AI r.1.largest]
  | some e => [.d (.sl []), AI e.1, AI e.2, AI r.1.steps, AI r.1.largest]
section
theorem ref14_fail_calls {P : Program} {p : Nums} (A : All P p) (l : D) (a b c d e x : Int) : CallsTo P p.ref14_fail [.agg [.d l, AI a, AI b, AI c, AI d], AI e, AI x] [] fun o _ => o = .ret (.agg [.d (.sl []), AI e, AI x, AI c, AI d]) := by
  refine A.ref14_fail.run rfl fun R hR => ?_
  (simp (maxSteps := 1000000) [ic_ref14_fail])
  exact hR _ _ (Fin_wkv (.agg [.nils, AI e, AI x, AI c, AI d]) _ rfl (by (exact wkvA)) rfl)
theorem ref14_grow_calls {P : Program} {p : Nums} (A : All P p) (s : CS) (l : List Pair) (most at_ : Int) (h0 : s.set.length < 100000) (h1 : s.steps < 1000000000000000000) (h2 : l.length < 100000) (h3 : s.largest < 100000) :
    CallsTo P p.ref14_grow [.agg (resR (s, none)), .d (pairsD l), AI most, AI at_] [] fun o _ => o = .ret (.agg (resR (becomeC most (costC s) l at_))) := by
  refine A.ref14_grow.run rfl fun R hR => ?_
  obtain ⟨u, n, g⟩ := s
  simp only at h0 h1 h3
  have e1 : IntKind.i64.wrap ((n : Int) + 1) = ((n + 1 : Nat) : Int) := wrap_succ (by omega)
  have e2 : IntKind.i64.wrap ((n : Int) + 1 + (u.length : Int)) = ((n + 1 + u.length : Nat) : Int) := by have := wrap_add (a := n + 1) (b := u.length) (by omega); simpa using this
  obtain ⟨T, hT⟩ : ∃ T, T = becomeC most (costC ⟨u, n, g⟩) l at_ := ⟨_, rfl⟩
  rw [← hT] at hR
  simp only [becomeC, costC] at hT
  obtain ⟨st, hst⟩ : ∃ st, st = n + 1 + u.length := ⟨_, rfl⟩
  rw [← hst] at e2 hT
  have hf := fun (g' : Nat) => ref14_fail_calls A (pairsD l) 0 0 (st : Int) (g' : Int) 24 at_
  simp only [pairsD] at hf
  (simp (maxSteps := 1000000) [ic_ref14_grow, resR, pairsD, e1, e2])
  by_cases hg : g < l.length
  · have hg' : g < l.length := by omega
    have hmx : max g l.length = l.length := by omega
    rw [hmx] at hT
    by_cases hm : most < (l.length : Int)
    · rw [if_pos hm] at hT
      (simp (maxSteps := 1000000) [hg', hm])
      (refine AWcall_det (hf l.length) (by rfl) (by rfl) ?_)
      (simp (maxSteps := 1000000) [])
      refine hR _ _ (Fin_wkv _ _ rfl (by (exact wkvA)) ?_)
      rw [hT]; rfl
    · rw [if_neg hm] at hT
      (simp (maxSteps := 1000000) [hg', hm])
      refine hR _ _ (Fin_wkv _ _ rfl (by (exact wkvA)) ?_)
      rw [hT]; rfl
  · have hg' : ¬ g < l.length := by omega
    have hmx : max g l.length = g := by omega
    rw [hmx] at hT
    by_cases hm : most < (l.length : Int)
    · rw [if_pos hm] at hT
      (simp (maxSteps := 1000000) [hg', hm])
      (refine AWcall_det (hf g) (by rfl) (by rfl) ?_)
      (simp (maxSteps := 1000000) [])
      refine hR _ _ (Fin_wkv _ _ rfl (by (exact wkvA)) ?_)
      rw [hT]; rfl
    · rw [if_neg hm] at hT
      (simp (maxSteps := 1000000) [hg', hm])
      refine hR _ _ (Fin_wkv _ _ rfl (by (exact wkvA)) ?_)
      rw [hT]; rfl
theorem ref14_use_calls {P : Program} {p : Nums} (A : All P p) (s : CS) (v reg at_ : Int) (h0 : s.set.length < 100000) (h1 : s.steps < 1000000000000000000) :
    CallsTo P p.ref14_use [.agg (resR (s, none)), AI v, AI reg, AI at_] [] fun o _ => o = .ret (.agg (resR (useC s v (regZ reg) at_))) := by
  refine A.ref14_use.run rfl fun R hR => ?_
  obtain ⟨u, n, g⟩ := s
  simp only at h0 h1
  have e1 : IntKind.i64.wrap ((n : Int) + 1) = ((n + 1 : Nat) : Int) := wrap_succ (by omega)
  have e2 : IntKind.i64.wrap ((n : Int) + 1 + (u.length : Int)) = ((n + 1 + u.length : Nat) : Int) := by have := wrap_add (a := n + 1) (b := u.length) (by omega); simpa using this
  obtain ⟨T, hT⟩ : ∃ T, T = useC ⟨u, n, g⟩ v (regZ reg) at_ := ⟨_, rfl⟩
  rw [← hT] at hR
  simp only [useC, costC] at hT
  obtain ⟨st, hst⟩ : ∃ st, st = n + 1 + u.length := ⟨_, rfl⟩
  rw [← hst] at e2 hT
  have hf := ref14_fail_calls A (pairsD u) 0 0 (st : Int) (g : Int) 21 at_
  simp only [pairsD] at hf
  have hh := ref11_Has_calls A u ⟨v, regZ reg⟩ (by omega)
  simp only [pairsD, Pair.av, regZ] at hh
  (simp (maxSteps := 1000000) [ic_ref14_use, resR, pairsD, e1, e2])
  (refine AWcall_det hh (by rfl) (by rfl) ?_)
  by_cases hm : (⟨v, regZ reg⟩ : Pair) ∈ u
  · rw [if_pos hm] at hT
    simp only [regZ] at hm
    (simp (maxSteps := 1000000) [hm])
    refine hR _ _ (Fin_wkv _ _ rfl (by (exact wkvA)) ?_)
    rw [hT]; rfl
  · rw [if_neg hm] at hT
    simp only [regZ] at hm
    (simp (maxSteps := 1000000) [hm])
    (refine AWcall_det hf (by rfl) (by rfl) ?_)
    (simp (maxSteps := 1000000) [])
    refine hR _ _ (Fin_wkv _ _ rfl (by (exact wkvA)) ?_)
    rw [hT]; rfl
end
end Go.AE

/- The reference's check of a block. -/
set_option linter.unusedVariables false
namespace Go.AE
open Go
theorem thenC_assoc (r : CR) (f g : CS → CR) : thenC (thenC r f) g = thenC r fun s => thenC (f s) g := by
  obtain ⟨s, e⟩ := r
  cases e <;> rfl
theorem thenC_id (r : CR) : thenC r (fun s => (s, none)) = r := by
  obtain ⟨s, e⟩ := r
  cases e <;> rfl
/-- A failure has a reason. -/
def okC (r : CR) : Prop := ∀ e, r.2 = some e → e.1 ≠ 0
theorem okC_none (s : CS) : okC (s, none) := fun e h => by cases h
theorem okC.then {r : CR} {f : CS → CR} (h : okC r) (hf : ∀ s, okC (f s)) : okC (thenC r f) := by
  obtain ⟨s, e⟩ := r
  cases e with
  | none => exact hf s
  | some e => exact h
theorem okC_become (most : Int) (s : CS) (l : List Pair) (at_ : Int) : okC (becomeC most s l at_) := by
  intro e he
  simp only [becomeC] at he
  split at he
  · injection he with he; subst he; simp
  · cases he
theorem okC_use (s : CS) (v t at_ : Int) : okC (useC s v t at_) := by
  intro e he
  simp only [useC] at he
  split at he
  · cases he
  · injection he with he; subst he; simp
theorem okC_copy (most at_ : Int) : ∀ (l : List Instr) (s : CS), okC (copyC most at_ l s) := by
  intro l
  induction l with
  | nil => intro s; exact okC_none s
  | cons i l ih => intro s; exact (okC_become _ _ _ _).then fun s => ih s
theorem okC_move (most : Int) : ∀ (l : List Mach) (k : Nat) (s : CS), okC (moveC most k l s) := by
  intro l
  induction l with
  | nil => intro k s; exact okC_none s
  | cons i l ih => intro k s; exact (okC_become _ _ _ _).then fun s => ih _ s
theorem okC_instr (most : Int) (s : CS) (i : Instr) (m : Mach) (at_ : Int) : okC (instrC most s i m at_) := by
  unfold instrC
  refine okC.then ?_ fun s => okC.then ?_ fun s => ?_
  · split
    · exact okC_use _ _ _ _
    · exact okC_none _
  · split
    · exact okC_use _ _ _ _
    · exact okC_none _
  · split
    · exact okC_become _ _ _ _
    · exact okC_none _
theorem okC_last (most : Int) (b : List Instr) (m : List Mach) (r : ARow) (s : CS) : okC (lastC most b m r s) := by
  unfold lastC
  split
  · split
    · exact okC_instr _ _ _ _ _
    · exact okC_none _
  · exact okC_none _
theorem okC_row (most : Int) (b : List Instr) (m : List Mach) (r : ARow) (s : CS) : okC (rowC most b m r s) := (okC_copy _ _ _ _).then fun s => (okC_move _ _ _ _).then fun s => okC_last _ _ _ _ _
theorem alignZ_err (code : List Instr) (mach : List Mach) : (alignZ code mach).2.2 = 0 ∨ (alignZ code mach).2.2 = 20 := by
  have : ∀ (f i k : Nat) (rows : List ARow), (alignS code mach f i k rows).2.2 = 0 ∨ (alignS code mach f i k rows).2.2 = 20 := by
    intro f
    induction f with
    | zero => intro i k rows; exact .inr rfl
    | succ f ih =>
      intro i k rows
      simp only [alignS]
      split
      · exact .inl rfl
      · split
        · split
          · exact ih _ _ _
          · exact .inr rfl
        · exact .inr rfl
  exact this _ _ _ _
theorem alignS_end {code : List Instr} {mach : List Mach} : ∀ (f i k : Nat) (rows : List ARow), (alignS code mach f i k rows).2.2 = 0 → (alignS code mach f i k rows).2.1 = mach.length := by
  intro f
  induction f with
  | zero => intro i k rows h; simp [alignS] at h
  | succ f ih =>
    intro i k rows
    simp only [alignS]
    split
    · rename_i h; intro _; exact h.2
    · split
      · split
        · exact ih _ _ _
        · intro h; simp at h
      · intro h; simp at h
def F14 (code : List Instr) (kind ta to els : Int) (mcode : List Mach) (mkind mta mto mels most : Int) (rows : List ARow) (x : Nat × CR) : ASt :=
  ⟨[(14, AI x.1), (13, AI mcode.length), (10, .d (.sl (rows.map ARow.row))), (9, .ptr 3 0), (8, .ptr 2 0), (5, .ptr 1 0), (4, .ptr 0 0), (3, AI most)],
    [.mem [.d (.sl (code.map Instr.row)), AI kind, AI ta, AI to, AI els], .mem [.d (.sl (mcode.map Mach.row)), AI mkind, AI mta, AI mto, AI mels], .mem [.nils, AI 0, AI 0, AI 0, AI 0], .mem (resR x.2)]⟩
structure Inv14 (V L : List Int) (most : Int) (code : List Instr) (mcode : List Mach) (rows : List ARow) (T : CR) (x : Nat × CR) : Prop where
  le : x.1 ≤ rows.length
  eq : thenC x.2 (rowsC most code mcode (rows.drop x.1)) = T
  ok : okC x.2
  room : x.2.2 = none → Room V L x.2.1 (1 + needRs (rows.drop x.1))
theorem bne0 {e : Int} (h : e ≠ 0) : (e == 0) = false := by simpa using h
section
set_option maxHeartbeats 4000000 in
theorem ref14_round {P : Program} {p : Nums} (A : All P p) {V L : List Int} (code : List Instr) (kind ta to els : Int) (mcode : List Mach) (mkind mta mto mels most : Int) (rows : List ARow) (T : CR) (hv : VLOk V L code mcode) (hr : ∀ r ∈ rows, RowOk code mcode r)
    (hb0 : code.length ≤ 1000) (hm0 : mcode.length ≤ 1000) (hrl : rows.length < 1000000) (Q : AExit → ASt → Prop)
    (hQ : okC T → (T.2 = none → Room V L T.1 1) → Q (.exit 0) ⟨(61, AB false) :: (60, AI rows.length) :: (59, .d (.sl (rows.map ARow.row))) :: (58, AI rows.length) :: (F14 code kind ta to els mcode mkind mta mto mels most rows (rows.length, T)).env, (F14 code kind ta to els mcode mkind mta mto mels most rows (rows.length, T)).H⟩) (x : Nat × CR) (hx : Inv14 V L most code mcode rows T x) (N : ASt → Prop)
    (hN : ∀ (st' : ASt) (s' : Nat × CR), Inv14 V L most code mcode rows T s' → Wk 0 st' (F14 code kind ta to els mcode mkind mta mto mels most rows s') → rows.length - s'.1 < rows.length - x.1 → N st') :
    AW P 0 (ref14_Check_c33 p) (AExit.then N Q) (F14 code kind ta to els mcode mkind mta mto mels most rows x) := by
  obtain ⟨j, r⟩ := x
  obtain ⟨hj, hT, hok, hR1⟩ := hx
  simp only at hj hT hok hR1
  simp only [F14] at hQ ⊢
  (simp (maxSteps := 1000000) [])
  ((first | refine AW_cond_split _ (by rfl) (fun h2 => ?_) (fun h2 => ?_) | refine AWop_split _ (by rfl) (fun h2 => ?_) (fun h2 => ?_)) <;> (try simp only [yy1, yy2, yy3, yy4, yy5, yy6, beq_iff_eq, bne_iff_ne, ne_eq, beq_eq_false_iff_ne, bne_eq_false_iff_eq] at h2))
  · have hjl : j < rows.length := by simpa using h2
    have hji : rows[j]? = some rows[j] := by simp [hjl]
    have hw := wrap_succ (k := j) (by omega)
    rw [drop_get hjl] at hT hR1
    rw [needRs_cons] at hR1
    simp only [rowsC] at hT
    have hro := hr _ (List.getElem_mem hjl)
    obtain ⟨row, hrow⟩ : ∃ row, row = rows[j] := ⟨_, rfl⟩
    rw [← hrow] at hT hR1 hro hji
    -- the state behind the row
    obtain ⟨r3, hr3⟩ : ∃ r3, r3 = thenC r (rowC most code mcode row) := ⟨_, rfl⟩
    have hI3 : Inv14 V L most code mcode rows T (j + 1, r3) := by
      refine ⟨hjl, ?_, ?_, ?_⟩
      · rw [hr3, thenC_assoc]; exact hT
      · rw [hr3]; exact hok.then fun s => okC_row _ _ _ _ s
      · intro hn
        rw [hr3] at hn ⊢
        obtain ⟨s, e⟩ := r
        cases e with
        | some e => cases hn
        | none =>
          have hl1 : ((mcode.take row.mt).drop row.mf).length = row.mt - row.mf := by have := hro.hm; simp; omega
          have hl2 : ((code.take row.ct).drop row.cf).length = row.ct - row.cf := by have := hro.hc; simp; omega
          exact rowC_room (n := 1 + needRs (rows.drop (j + 1))) (most := most) (r := row) ((hR1 rfl).mono (by rw [hl1, hl2]; unfold needR; omega)) hv
    have hend : ∀ st', Wk 0 st' (F14 code kind ta to els mcode mkind mta mto mels most rows (j + 1, r3)) → N st' := fun st' h => hN st' _ hI3 h (by simp only; omega)
    obtain ⟨cf, ct, mf, mt, src, mach⟩ := row
    obtain ⟨⟨hc1, hc2⟩, ⟨hm1, hm2⟩, hsr⟩ := hro
    simp only at hc1 hc2 hm1 hm2 hsr
    simp only [F14] at hend
    obtain ⟨sub, hsub⟩ : ∃ l, l = (code.take ct).drop cf := ⟨_, rfl⟩
    obtain ⟨msub, hmsub⟩ : ∃ l, l = (mcode.take mt).drop mf := ⟨_, rfl⟩
    have hsl : sub.length = ct - cf := by rw [hsub]; simp; omega
    have hml : msub.length = mt - mf := by rw [hmsub]; simp; omega
    obtain ⟨T1, hT1⟩ : ∃ T1, T1 = thenC r (copyC most mf sub) := ⟨_, rfl⟩
    have hspec : r3 = thenC T1 fun s => thenC (moveC most mf msub s) (lastC most code mcode ⟨cf, ct, mf, mt, src, mach⟩) := by rw [hr3, hT1, thenC_assoc, hsub, hmsub]; rfl
    have hR1' : r.2 = none → Room V L r.1 (3 + (mt - mf) + (ct - cf)) := fun h => (hR1 h).mono (by simp only [needR]; omega)
    clear hT hR1 hr3 hI3 hN
    have hlen6 : ∀ x : ARow, x.row.length = 6 := fun x => rfl
    have hrow' := hrow.symm
    (simp (maxSteps := 1000000) [h2, List.getElem?_map, hji, hrow', ARow.row])
    refine AW_loop (fun x : Nat × CR => ⟨[(16, AI x.1), (15, .ptr 4 0), (14, AI j), (13, AI mcode.length), (10, .d (.sl (rows.map ARow.row))), (9, .ptr 3 0), (8, .ptr 2 0), (5, .ptr 1 0), (4, .ptr 0 0), (3, AI most)],
      [.mem [.d (.sl (code.map Instr.row)), AI kind, AI ta, AI to, AI els], .mem [.d (.sl (mcode.map Mach.row)), AI mkind, AI mta, AI mto, AI mels], .mem [.nils, AI 0, AI 0, AI 0, AI 0], .mem (resR x.2), .mem [AI cf, AI ct, AI mf, AI mt, AI src, AI mach]]⟩)
      (fun x => cf ≤ x.1 ∧ x.1 ≤ ct ∧ thenC x.2 (copyC most mf (sub.drop (x.1 - cf))) = T1 ∧ okC x.2 ∧ (x.2.2 = none → Room V L x.2.1 (3 + (mt - mf) + (ct - x.1)))) (fun x => ct - x.1) (cf, r) ?_ ?_ ?_
    · refine ⟨Nat.le_refl _, hc1, ?_, hok, hR1'⟩
      simp [hT1]
    · obtain ⟨s, e⟩ := r
      cases e <;> (simp only [resR, pairsD]; (exact wkA))
    rintro ⟨i, u⟩ ⟨hi0, hi1, hTi, hoki, hRi⟩ N2 hN2
    simp only at hi0 hi1 hTi hoki hRi
    obtain ⟨s, e⟩ := u
    cases e with
    | some e =>
      rw [thenC_some] at hTi
      rw [← hTi, thenC_some] at hspec
      have he : e.1 ≠ 0 := hoki e rfl
      have heb := bne0 he
      simp only [resR]
      (simp (maxSteps := 1000000) [])
      by_cases hi : i < ct
      all_goals (
        (simp (maxSteps := 1000000) [hi, he, heb])
        refine AW_loop (fun k : Nat => ⟨[(17, AI k), (15, .ptr 4 0), (14, AI j), (13, AI mcode.length), (10, .d (.sl (rows.map ARow.row))), (9, .ptr 3 0), (8, .ptr 2 0), (5, .ptr 1 0), (4, .ptr 0 0), (3, AI most)],
          [.mem [.d (.sl (code.map Instr.row)), AI kind, AI ta, AI to, AI els], .mem [.d (.sl (mcode.map Mach.row)), AI mkind, AI mta, AI mto, AI mels], .mem [.nils, AI 0, AI 0, AI 0, AI 0], .mem [.d (.sl []), AI e.1, AI e.2, AI s.steps, AI s.largest], .mem [AI cf, AI ct, AI mf, AI mt, AI src, AI mach]]⟩)
          (fun k => k = mf) (fun k => 0) mf rfl (by (exact wkA)) ?_
        rintro k rfl N3 hN3
        have hclose : ∀ st', Wk 0 st' ⟨[(14, AI ((j + 1 : Nat) : Int)), (13, AI mcode.length), (10, .d (.sl (rows.map ARow.row))), (9, .ptr 3 0), (8, .ptr 2 0), (5, .ptr 1 0), (4, .ptr 0 0), (3, AI most)],
          [.mem [.d (.sl (code.map Instr.row)), AI kind, AI ta, AI to, AI els], .mem [.d (.sl (mcode.map Mach.row)), AI mkind, AI mta, AI mto, AI mels], .mem [.nils, AI 0, AI 0, AI 0, AI 0], .mem [.d (.sl []), AI e.1, AI e.2, AI s.steps, AI s.largest]]⟩ → N st' := by
          intro st' h; exact hend st' (by rw [hspec]; exact h)
        (simp (maxSteps := 1000000) [])
        by_cases hk : k < mt
        all_goals (
          (simp (maxSteps := 1000000) [hk, he, heb])
          by_cases hs0 : src < 0
          · (simp (maxSteps := 1000000) [hs0, hw]); exact hclose _ (by (exact wkA))
          · (simp (maxSteps := 1000000) [hs0, he, heb, hw]); exact hclose _ (by (exact wkA))))
    | none =>
      rw [thenC_none] at hTi
      have hRi : Room V L s (3 + (mt - mf) + (ct - i)) := hRi rfl
      simp only [resR]
      (simp (maxSteps := 1000000) [])
      by_cases hi : i < ct
      · have hwi := wrap_succ (k := i) (by omega)
        have hicl : i < code.length := by omega
        have hci : code[i]? = some code[i] := by simp [hicl]
        have hjl2 : i - cf < sub.length := by omega
        have hmj : sub[i - cf] = code[i] := by simp [hsub]; congr 1; omega
        rw [drop_get hjl2, hmj] at hTi
        simp only [copyC] at hTi
        rw [show i - cf + 1 = i + 1 - cf by omega] at hTi
        have hxv : code[i].d ∈ V := hv.v _ (List.getElem_mem hicl)
        rw [show ct - i = (ct - (i + 1)) + 1 by omega, ← Nat.add_assoc] at hRi
        have hR2 := hRi.copyStep hxv most mf (a := code[i].a)
        have hok2 := okC_become most (costC s) (copyP s.set code[i].d code[i].a) mf
        have hl0 := hRi.len
        have hst := hRi.steps
        have hlg := hRi.lg
        have hol := Nat.lt_of_le_of_lt (hRi.over.copy hxv (a := code[i].a)).len hRi.few
        have hcp := ref12_Copy_calls A s.set code[i].d code[i].a hl0
        rw [rcopyP_eq hRi.over.srt] at hcp
        obtain ⟨cl, hcl⟩ : ∃ cl, cl = copyP s.set code[i].d code[i].a := ⟨_, rfl⟩
        rw [← hcl] at hTi hR2 hcp hol hok2
        have hg := ref14_grow_calls A s cl most mf hl0 (by omega) hol hlg
        obtain ⟨⟨t2, e2⟩, h2r⟩ : ∃ r, r = becomeC most (costC s) cl mf := ⟨_, rfl⟩
        rw [← h2r] at hg hTi hR2 hok2
        (simp (maxSteps := 1000000) [hi, List.getElem?_map, hci, Instr.row])
        (refine AWcall_det hcp (by rfl) (by rfl) ?_)
        (simp (maxSteps := 1000000) [])
        cases e2 with
        | none =>
          simp only [resR] at hg
          (refine AWcall_det hg (by rfl) (by rfl) ?_)
          (simp (maxSteps := 1000000) [hwi])
          exact hN2 _ (i + 1, (t2, none)) ⟨by simp only; omega, hi, hTi, hok2, fun _ => hR2⟩ (by simp only [resR]; (exact wkA)) (by simp only; omega)
        | some e =>
          simp only [resR] at hg
          (refine AWcall_det hg (by rfl) (by rfl) ?_)
          (simp (maxSteps := 1000000) [hwi])
          exact hN2 _ (i + 1, (t2, some e)) ⟨by simp only; omega, hi, hTi, hok2, fun h => by cases h⟩ (by simp only [resR]; (exact wkA)) (by simp only; omega)
      · have hie : i = ct := by omega
        subst hie
        have hT1e : T1 = (s, none) := by rw [← hTi, List.drop_eq_nil_of_le (by omega)]; rfl
        rw [hT1e, thenC_none] at hspec
        rw [Nat.sub_self, Nat.add_zero] at hRi
        obtain ⟨T2, hT2⟩ : ∃ T2, T2 = moveC most mf msub s := ⟨_, rfl⟩
        rw [← hT2] at hspec
        (simp (maxSteps := 1000000) [hi])
        refine AW_loop (fun x : Nat × CR => ⟨[(17, AI x.1), (15, .ptr 4 0), (14, AI j), (13, AI mcode.length), (10, .d (.sl (rows.map ARow.row))), (9, .ptr 3 0), (8, .ptr 2 0), (5, .ptr 1 0), (4, .ptr 0 0), (3, AI most)],
          [.mem [.d (.sl (code.map Instr.row)), AI kind, AI ta, AI to, AI els], .mem [.d (.sl (mcode.map Mach.row)), AI mkind, AI mta, AI mto, AI mels], .mem [.nils, AI 0, AI 0, AI 0, AI 0], .mem (resR x.2), .mem [AI cf, AI i, AI mf, AI mt, AI src, AI mach]]⟩)
          (fun x => mf ≤ x.1 ∧ x.1 ≤ mt ∧ thenC x.2 (moveC most x.1 (msub.drop (x.1 - mf))) = T2 ∧ okC x.2 ∧ (x.2.2 = none → Room V L x.2.1 (3 + (mt - x.1)))) (fun x => mt - x.1) (mf, (s, none)) ?_ (by simp only [resR]; (exact wkA)) ?_
        · refine ⟨Nat.le_refl _, hm1, ?_, okC_none s, fun _ => hRi⟩
          simp [hT2, thenC_none]
        rintro ⟨k, u⟩ ⟨hk0, hk1, hTk, hokk, hRk⟩ N3 hN3
        simp only at hk0 hk1 hTk hokk hRk
        obtain ⟨s', e⟩ := u
        cases e with
        | some e =>
          rw [thenC_some] at hTk
          rw [← hTk, thenC_some] at hspec
          have he : e.1 ≠ 0 := hokk e rfl
          have heb := bne0 he
          have hclose : ∀ st', Wk 0 st' ⟨[(14, AI ((j + 1 : Nat) : Int)), (13, AI mcode.length), (10, .d (.sl (rows.map ARow.row))), (9, .ptr 3 0), (8, .ptr 2 0), (5, .ptr 1 0), (4, .ptr 0 0), (3, AI most)],
              [.mem [.d (.sl (code.map Instr.row)), AI kind, AI ta, AI to, AI els], .mem [.d (.sl (mcode.map Mach.row)), AI mkind, AI mta, AI mto, AI mels], .mem [.nils, AI 0, AI 0, AI 0, AI 0], .mem [.d (.sl []), AI e.1, AI e.2, AI s'.steps, AI s'.largest]]⟩ → N st' := by
            intro st' h; exact hend st' (by rw [hspec]; exact h)
          simp only [resR]
          (simp (maxSteps := 1000000) [])
          by_cases hk : k < mt
          all_goals (
            (simp (maxSteps := 1000000) [hk, he, heb])
            by_cases hs0 : src < 0
            · (simp (maxSteps := 1000000) [hs0, hw]); exact hclose _ (by (exact wkA))
            · (simp (maxSteps := 1000000) [hs0, he, heb, hw]); exact hclose _ (by (exact wkA)))
        | none =>
          rw [thenC_none] at hTk
          have hRk : Room V L s' (3 + (mt - k)) := hRk rfl
          simp only [resR]
          (simp (maxSteps := 1000000) [])
          by_cases hk : k < mt
          · have hwk := wrap_succ (k := k) (by omega)
            have hkm : k < mcode.length := by omega
            have hjl3 : k - mf < msub.length := by omega
            have hmj : msub[k - mf] = mcode[k] := by simp [hmsub]; congr 1; omega
            have hmi : mcode[k]? = some mcode[k] := by simp [hkm]
            rw [drop_get hjl3, hmj] at hTk
            simp only [moveC] at hTk
            rw [show k - mf + 1 = k + 1 - mf by omega] at hTk
            have hxv : mcode[k].dst ∈ L := (hv.l _ (List.getElem_mem hkm)).1
            rw [show mt - k = (mt - (k + 1)) + 1 by omega, ← Nat.add_assoc] at hRk
            have hR3 := hRk.moveStep hxv most k (a := mcode[k].src)
            have hok2 := okC_become most (costC s') (moveP s'.set mcode[k].dst mcode[k].src) k
            have hl0 := hRk.len
            have hst := hRk.steps
            have hlg := hRk.lg
            have hol := Nat.lt_of_le_of_lt (hRk.over.move hxv (a := mcode[k].src)).len hRk.few
            have hcp := ref12_Move_calls A s'.set mcode[k].dst mcode[k].src hl0
            rw [rmoveP_eq hRk.over.srt] at hcp
            obtain ⟨cl, hcl⟩ : ∃ cl, cl = moveP s'.set mcode[k].dst mcode[k].src := ⟨_, rfl⟩
            rw [← hcl] at hTk hR3 hcp hol hok2
            have hg := ref14_grow_calls A s' cl most k hl0 (by omega) hol hlg
            obtain ⟨⟨t2, e2⟩, h2r⟩ : ∃ r, r = becomeC most (costC s') cl k := ⟨_, rfl⟩
            rw [← h2r] at hg hTk hR3 hok2
            (simp (maxSteps := 1000000) [hk, List.getElem?_map, hmi, Mach.row])
            (refine AWcall_det hcp (by rfl) (by rfl) ?_)
            (simp (maxSteps := 1000000) [])
            cases e2 with
            | none =>
              simp only [resR] at hg
              (refine AWcall_det hg (by rfl) (by rfl) ?_)
              (simp (maxSteps := 1000000) [hwk])
              exact hN3 _ (k + 1, (t2, none)) ⟨by simp only; omega, hk, hTk, hok2, fun _ => hR3⟩ (by simp only [resR]; (exact wkA)) (by simp only; omega)
            | some e =>
              simp only [resR] at hg
              (refine AWcall_det hg (by rfl) (by rfl) ?_)
              (simp (maxSteps := 1000000) [hwk])
              exact hN3 _ (k + 1, (t2, some e)) ⟨by simp only; omega, hk, hTk, hok2, fun h => by cases h⟩ (by simp only [resR]; (exact wkA)) (by simp only; omega)
          · have hke : k = mt := by omega
            subst hke
            have hT2e : T2 = (s', none) := by rw [← hTk, List.drop_eq_nil_of_le (by omega)]; rfl
            rw [hT2e, thenC_none] at hspec
            rw [Nat.sub_self, Nat.add_zero] at hRk
            have hclose : ∀ (u : CR), r3 = u → ∀ st', Wk 0 st' ⟨[(14, AI ((j + 1 : Nat) : Int)), (13, AI mcode.length), (10, .d (.sl (rows.map ARow.row))), (9, .ptr 3 0), (8, .ptr 2 0), (5, .ptr 1 0), (4, .ptr 0 0), (3, AI most)],
              [.mem [.d (.sl (code.map Instr.row)), AI kind, AI ta, AI to, AI els], .mem [.d (.sl (mcode.map Mach.row)), AI mkind, AI mta, AI mto, AI mels], .mem [.nils, AI 0, AI 0, AI 0, AI 0], .mem (resR u)]⟩ → N st' := by
              intro u hu st' h; exact hend st' (by rw [hu]; exact h)
            by_cases hs0 : src < 0
            · rw [show lastC most code mcode ⟨cf, i, mf, k, src, mach⟩ s' = (s', none) by unfold lastC; rw [if_neg (by simp only; omega)]] at hspec
              (simp (maxSteps := 1000000) [hk, hs0, hw])
              exact hclose _ hspec _ (by simp only [resR]; (exact wkA))
            · obtain ⟨h5, h6, h7⟩ := hsr (by omega)
              have hi1 : src.toNat < code.length := by omega
              have hi2 : mach.toNat < mcode.length := by omega
              have hci : code[src.toNat]? = some code[src.toNat] := by simp [hi1]
              have hmi : mcode[mach.toNat]? = some mcode[mach.toNat] := by simp [hi2]
              have h0s : 0 ≤ src := by omega
              have hl : lastC most code mcode ⟨cf, i, mf, k, src, mach⟩ s' = instrC most s' code[src.toNat] mcode[mach.toNat] mach := by
                simp only [lastC, h0s, if_true, hci, hmi]
              rw [hl] at hspec
              have hVd := hv.v _ (List.getElem_mem hi1)
              have hLd := (hv.l _ (List.getElem_mem hi2)).2
              (simp (maxSteps := 1000000) [hk, hs0, h0s, h6, List.getElem?_map, hci, hmi, Instr.row, Mach.row])
              obtain ⟨ci, hcie⟩ : ∃ x, x = code[src.toNat] := ⟨_, rfl⟩
              obtain ⟨mi, hmie⟩ : ∃ x, x = mcode[mach.toNat] := ⟨_, rfl⟩
              rw [← hcie] at hspec hVd
              rw [← hmie] at hspec hLd
              simp only [← hcie, ← hmie]
              obtain ⟨ua, hua⟩ : ∃ x, x = usesA ci.op := ⟨_, rfl⟩
              obtain ⟨ub, hub⟩ : ∃ x, x = usesB ci.op := ⟨_, rfl⟩
              obtain ⟨ud, hud⟩ : ∃ x, x = usesD ci.op := ⟨_, rfl⟩
              have hspec2 := hspec
              unfold instrC at hspec2
              rw [← hua, ← hub, ← hud] at hspec2
              (refine AWcall_det (ref05_UsesA_calls A ci.op) (by rfl) (by rfl) ?_)
              rw [← hua]
              cases huav : ua with
              | false =>
                rw [huav, if_neg (by simp), thenC_none] at hspec2
                (simp (maxSteps := 1000000) [])
                (refine AWcall_det (ref05_UsesB_calls A ci.op) (by rfl) (by rfl) ?_)
                rw [← hub]
                cases hubv : ub with
                | false =>
                  rw [hubv, if_neg (by simp), thenC_none] at hspec2
                  (simp (maxSteps := 1000000) [])
                  (refine AWcall_det (ref05_UsesD_calls A ci.op) (by rfl) (by rfl) ?_)
                  rw [← hud]
                  cases hudv : ud with
                  | false =>
                    rw [hudv, if_neg (by simp)] at hspec2
                    (simp (maxSteps := 1000000) [hw])
                    exact hclose _ hspec2 _ (by simp only [resR]; (exact wkA))
                  | true =>
                    rw [hudv, if_pos rfl] at hspec2
                    have hl0 := hRk.len
                    have hst := hRk.steps
                    have hlg := hRk.lg
                    have hol := Nat.lt_of_le_of_lt (hRk.over.define hVd hLd).len hRk.few
                    have hdf := ref12_Define_calls A s'.set ci.d (regZ mi.d) hl0
                    rw [rdefP_eq hRk.over.srt] at hdf
                    obtain ⟨cl, hcl⟩ : ∃ cl, cl = defP s'.set ci.d (regZ mi.d) := ⟨_, rfl⟩
                    rw [← hcl] at hspec2 hdf hol
                    simp only [regZ] at hdf
                    have hg := ref14_grow_calls A s' cl most mach hl0 (by omega) hol hlg
                    obtain ⟨⟨t9, e9⟩, h9r⟩ : ∃ r, r = becomeC most (costC s') cl mach := ⟨_, rfl⟩
                    rw [← h9r] at hg hspec2
                    (simp (maxSteps := 1000000) [])
                    (refine AWcall_det hdf (by rfl) (by rfl) ?_)
                    (simp (maxSteps := 1000000) [])
                    cases e9 with
                    | none =>
                      simp only [resR] at hg
                      (refine AWcall_det hg (by rfl) (by rfl) ?_)
                      (simp (maxSteps := 1000000) [hw])
                      exact hclose _ hspec2 _ (by simp only [resR]; (exact wkA))
                    | some e =>
                      simp only [resR] at hg
                      (refine AWcall_det hg (by rfl) (by rfl) ?_)
                      (simp (maxSteps := 1000000) [hw])
                      exact hclose _ hspec2 _ (by simp only [resR]; (exact wkA))
                | true =>
                  rw [hubv, if_pos rfl] at hspec2
                  have hl0 := hRk.len
                  have hst := hRk.steps
                  have hu := ref14_use_calls A s' ci.b mi.b mach hl0 (by omega)
                  have hok1 := okC_use s' ci.b (regZ mi.b) mach
                  have hR5 : Room V L (useC s' ci.b (regZ mi.b) mach).1 1 := Room.use (n := 1) (hRk.mono (by omega)) _ _ _
                  obtain ⟨⟨t5, e1⟩, h1r⟩ : ∃ r, r = useC s' ci.b (regZ mi.b) mach := ⟨_, rfl⟩
                  rw [← h1r] at hu hspec2 hR5 hok1
                  cases e1 with
                  | none =>
                    rw [thenC_none] at hspec2
                    have hR5 : Room V L t5 1 := hR5
                    simp only [resR] at hu
                    (simp (maxSteps := 1000000) [])
                    (refine AWcall_det hu (by rfl) (by rfl) ?_)
                    (simp (maxSteps := 1000000) [])
                    (refine AWcall_det (ref05_UsesD_calls A ci.op) (by rfl) (by rfl) ?_)
                    rw [← hud]
                    cases hudv : ud with
                    | false =>
                      rw [hudv, if_neg (by simp)] at hspec2
                      (simp (maxSteps := 1000000) [hw])
                      exact hclose _ hspec2 _ (by simp only [resR]; (exact wkA))
                    | true =>
                      rw [hudv, if_pos rfl] at hspec2
                      have hl0 := hR5.len
                      have hst := hR5.steps
                      have hlg := hR5.lg
                      have hol := Nat.lt_of_le_of_lt (hR5.over.define hVd hLd).len hR5.few
                      have hdf := ref12_Define_calls A t5.set ci.d (regZ mi.d) hl0
                      rw [rdefP_eq hR5.over.srt] at hdf
                      obtain ⟨cl, hcl⟩ : ∃ cl, cl = defP t5.set ci.d (regZ mi.d) := ⟨_, rfl⟩
                      rw [← hcl] at hspec2 hdf hol
                      simp only [regZ] at hdf
                      have hg := ref14_grow_calls A t5 cl most mach hl0 (by omega) hol hlg
                      obtain ⟨⟨t9, e9⟩, h9r⟩ : ∃ r, r = becomeC most (costC t5) cl mach := ⟨_, rfl⟩
                      rw [← h9r] at hg hspec2
                      (simp (maxSteps := 1000000) [])
                      (refine AWcall_det hdf (by rfl) (by rfl) ?_)
                      (simp (maxSteps := 1000000) [])
                      cases e9 with
                      | none =>
                        simp only [resR] at hg
                        (refine AWcall_det hg (by rfl) (by rfl) ?_)
                        (simp (maxSteps := 1000000) [hw])
                        exact hclose _ hspec2 _ (by simp only [resR]; (exact wkA))
                      | some e =>
                        simp only [resR] at hg
                        (refine AWcall_det hg (by rfl) (by rfl) ?_)
                        (simp (maxSteps := 1000000) [hw])
                        exact hclose _ hspec2 _ (by simp only [resR]; (exact wkA))
                  | some e =>
                    rw [thenC_some] at hspec2
                    have he : e.1 ≠ 0 := hok1 e rfl
                    have heb := bne0 he
                    simp only [resR] at hu
                    (simp (maxSteps := 1000000) [])
                    (refine AWcall_det hu (by rfl) (by rfl) ?_)
                    (simp (maxSteps := 1000000) [])
                    (refine AWcall_det (ref05_UsesD_calls A ci.op) (by rfl) (by rfl) ?_)
                    rw [← hud]
                    cases hudv : ud with
                    | false =>
                      (simp (maxSteps := 1000000) [he, heb, hw])
                      exact hclose _ hspec2 _ (by simp only [resR]; (exact wkA))
                    | true =>
                      (simp (maxSteps := 1000000) [he, heb, hw])
                      exact hclose _ hspec2 _ (by simp only [resR]; (exact wkA))
              | true =>
                rw [huav, if_pos rfl] at hspec2
                have hl0 := hRk.len
                have hst := hRk.steps
                have hu := ref14_use_calls A s' ci.a mi.a mach hl0 (by omega)
                have hok1 := okC_use s' ci.a (regZ mi.a) mach
                have hR4 : Room V L (useC s' ci.a (regZ mi.a) mach).1 2 := Room.use (n := 2) (hRk.mono (by omega)) _ _ _
                obtain ⟨⟨t4, e1⟩, h1r⟩ : ∃ r, r = useC s' ci.a (regZ mi.a) mach := ⟨_, rfl⟩
                rw [← h1r] at hu hspec2 hR4 hok1
                cases e1 with
                | none =>
                  rw [thenC_none] at hspec2
                  have hR4 : Room V L t4 2 := hR4
                  simp only [resR] at hu
                  (simp (maxSteps := 1000000) [])
                  (refine AWcall_det hu (by rfl) (by rfl) ?_)
                  (simp (maxSteps := 1000000) [])
                  (refine AWcall_det (ref05_UsesB_calls A ci.op) (by rfl) (by rfl) ?_)
                  rw [← hub]
                  cases hubv : ub with
                  | false =>
                    rw [hubv, if_neg (by simp), thenC_none] at hspec2
                    (simp (maxSteps := 1000000) [])
                    (refine AWcall_det (ref05_UsesD_calls A ci.op) (by rfl) (by rfl) ?_)
                    rw [← hud]
                    cases hudv : ud with
                    | false =>
                      rw [hudv, if_neg (by simp)] at hspec2
                      (simp (maxSteps := 1000000) [hw])
                      exact hclose _ hspec2 _ (by simp only [resR]; (exact wkA))
                    | true =>
                      rw [hudv, if_pos rfl] at hspec2
                      have hl0 := hR4.len
                      have hst := hR4.steps
                      have hlg := hR4.lg
                      have hol := Nat.lt_of_le_of_lt (hR4.over.define hVd hLd).len hR4.few
                      have hdf := ref12_Define_calls A t4.set ci.d (regZ mi.d) hl0
                      rw [rdefP_eq hR4.over.srt] at hdf
                      obtain ⟨cl, hcl⟩ : ∃ cl, cl = defP t4.set ci.d (regZ mi.d) := ⟨_, rfl⟩
                      rw [← hcl] at hspec2 hdf hol
                      simp only [regZ] at hdf
                      have hg := ref14_grow_calls A t4 cl most mach hl0 (by omega) hol hlg
                      obtain ⟨⟨t9, e9⟩, h9r⟩ : ∃ r, r = becomeC most (costC t4) cl mach := ⟨_, rfl⟩
                      rw [← h9r] at hg hspec2
                      (simp (maxSteps := 1000000) [])
                      (refine AWcall_det hdf (by rfl) (by rfl) ?_)
                      (simp (maxSteps := 1000000) [])
                      cases e9 with
                      | none =>
                        simp only [resR] at hg
                        (refine AWcall_det hg (by rfl) (by rfl) ?_)
                        (simp (maxSteps := 1000000) [hw])
                        exact hclose _ hspec2 _ (by simp only [resR]; (exact wkA))
                      | some e =>
                        simp only [resR] at hg
                        (refine AWcall_det hg (by rfl) (by rfl) ?_)
                        (simp (maxSteps := 1000000) [hw])
                        exact hclose _ hspec2 _ (by simp only [resR]; (exact wkA))
                  | true =>
                    rw [hubv, if_pos rfl] at hspec2
                    have hl0 := hR4.len
                    have hst := hR4.steps
                    have hu := ref14_use_calls A t4 ci.b mi.b mach hl0 (by omega)
                    have hok1 := okC_use t4 ci.b (regZ mi.b) mach
                    have hR5 : Room V L (useC t4 ci.b (regZ mi.b) mach).1 1 := Room.use (n := 1) (hR4.mono (by omega)) _ _ _
                    obtain ⟨⟨t5, e1⟩, h1r⟩ : ∃ r, r = useC t4 ci.b (regZ mi.b) mach := ⟨_, rfl⟩
                    rw [← h1r] at hu hspec2 hR5 hok1
                    cases e1 with
                    | none =>
                      rw [thenC_none] at hspec2
                      have hR5 : Room V L t5 1 := hR5
                      simp only [resR] at hu
                      (simp (maxSteps := 1000000) [])
                      (refine AWcall_det hu (by rfl) (by rfl) ?_)
                      (simp (maxSteps := 1000000) [])
                      (refine AWcall_det (ref05_UsesD_calls A ci.op) (by rfl) (by rfl) ?_)
                      rw [← hud]
                      cases hudv : ud with
                      | false =>
                        rw [hudv, if_neg (by simp)] at hspec2
                        (simp (maxSteps := 1000000) [hw])
                        exact hclose _ hspec2 _ (by simp only [resR]; (exact wkA))
                      | true =>
                        rw [hudv, if_pos rfl] at hspec2
                        have hl0 := hR5.len
                        have hst := hR5.steps
                        have hlg := hR5.lg
                        have hol := Nat.lt_of_le_of_lt (hR5.over.define hVd hLd).len hR5.few
                        have hdf := ref12_Define_calls A t5.set ci.d (regZ mi.d) hl0
                        rw [rdefP_eq hR5.over.srt] at hdf
                        obtain ⟨cl, hcl⟩ : ∃ cl, cl = defP t5.set ci.d (regZ mi.d) := ⟨_, rfl⟩
                        rw [← hcl] at hspec2 hdf hol
                        simp only [regZ] at hdf
                        have hg := ref14_grow_calls A t5 cl most mach hl0 (by omega) hol hlg
                        obtain ⟨⟨t9, e9⟩, h9r⟩ : ∃ r, r = becomeC most (costC t5) cl mach := ⟨_, rfl⟩
                        rw [← h9r] at hg hspec2
                        (simp (maxSteps := 1000000) [])
                        (refine AWcall_det hdf (by rfl) (by rfl) ?_)
                        (simp (maxSteps := 1000000) [])
                        cases e9 with
                        | none =>
                          simp only [resR] at hg
                          (refine AWcall_det hg (by rfl) (by rfl) ?_)
                          (simp (maxSteps := 1000000) [hw])
                          exact hclose _ hspec2 _ (by simp only [resR]; (exact wkA))
                        | some e =>
                          simp only [resR] at hg
                          (refine AWcall_det hg (by rfl) (by rfl) ?_)
                          (simp (maxSteps := 1000000) [hw])
                          exact hclose _ hspec2 _ (by simp only [resR]; (exact wkA))
                    | some e =>
                      rw [thenC_some] at hspec2
                      have he : e.1 ≠ 0 := hok1 e rfl
                      have heb := bne0 he
                      simp only [resR] at hu
                      (simp (maxSteps := 1000000) [])
                      (refine AWcall_det hu (by rfl) (by rfl) ?_)
                      (simp (maxSteps := 1000000) [])
                      (refine AWcall_det (ref05_UsesD_calls A ci.op) (by rfl) (by rfl) ?_)
                      rw [← hud]
                      cases hudv : ud with
                      | false =>
                        (simp (maxSteps := 1000000) [he, heb, hw])
                        exact hclose _ hspec2 _ (by simp only [resR]; (exact wkA))
                      | true =>
                        (simp (maxSteps := 1000000) [he, heb, hw])
                        exact hclose _ hspec2 _ (by simp only [resR]; (exact wkA))
                | some e =>
                  rw [thenC_some] at hspec2
                  have he : e.1 ≠ 0 := hok1 e rfl
                  have heb := bne0 he
                  simp only [resR] at hu
                  (simp (maxSteps := 1000000) [])
                  (refine AWcall_det hu (by rfl) (by rfl) ?_)
                  (simp (maxSteps := 1000000) [])
                  (refine AWcall_det (ref05_UsesB_calls A ci.op) (by rfl) (by rfl) ?_)
                  rw [← hub]
                  cases hubv : ub with
                  | false =>
                    (simp (maxSteps := 1000000) [he, heb])
                    (refine AWcall_det (ref05_UsesD_calls A ci.op) (by rfl) (by rfl) ?_)
                    rw [← hud]
                    cases hudv : ud with
                    | false =>
                      (simp (maxSteps := 1000000) [he, heb, hw])
                      exact hclose _ hspec2 _ (by simp only [resR]; (exact wkA))
                    | true =>
                      (simp (maxSteps := 1000000) [he, heb, hw])
                      exact hclose _ hspec2 _ (by simp only [resR]; (exact wkA))
                  | true =>
                    (simp (maxSteps := 1000000) [he, heb])
                    (refine AWcall_det (ref05_UsesD_calls A ci.op) (by rfl) (by rfl) ?_)
                    rw [← hud]
                    cases hudv : ud with
                    | false =>
                      (simp (maxSteps := 1000000) [he, heb, hw])
                      exact hclose _ hspec2 _ (by simp only [resR]; (exact wkA))
                    | true =>
                      (simp (maxSteps := 1000000) [he, heb, hw])
                      exact hclose _ hspec2 _ (by simp only [resR]; (exact wkA))
  · have hjl : j = rows.length := by simp at h2; omega
    subst hjl
    rw [List.drop_length] at hT hR1
    have hT' : r = T := by rw [← hT]; exact (thenC_id r).symm
    subst hT'
    (simp (maxSteps := 1000000) [h2])
    exact hQ hok (fun h => by simpa [needRs] using hR1 h)
end
end Go.AE

/- The reference's check of a block: the function. -/
set_option linter.unusedVariables false
namespace Go.AE
open Go
section
set_option maxHeartbeats 1000000 in
theorem ref14_final {P : Program} {p : Nums} (A : All P p) {V L : List Int} (code : List Instr) (kind ta to els : Int) (mcode : List Mach) (mkind mta mto mels most : Int) (rows : List ARow) (T1 : CR) (T : Res)
    (hspec : T = ⟨if (runE ⟨mcode, mkind, mta, mto, mels⟩ (thenC T1 fun s => if kind = 1 then (s, none) else useC s ta (regZ mta) mcode.length).2).1 = 0 then (thenC T1 fun s => if kind = 1 then (s, none) else useC s ta (regZ mta) mcode.length).1.set else [],
      (runE ⟨mcode, mkind, mta, mto, mels⟩ (thenC T1 fun s => if kind = 1 then (s, none) else useC s ta (regZ mta) mcode.length).2).1, (runE ⟨mcode, mkind, mta, mto, mels⟩ (thenC T1 fun s => if kind = 1 then (s, none) else useC s ta (regZ mta) mcode.length).2).2,
      (thenC T1 fun s => if kind = 1 then (s, none) else useC s ta (regZ mta) mcode.length).1.steps, (thenC T1 fun s => if kind = 1 then (s, none) else useC s ta (regZ mta) mcode.length).1.largest⟩)
    (hok : okC T1) (hrm : T1.2 = none → Room V L T1.1 1) (R : AExit → ASt → Prop) (hR : ∀ (e : AExit) (st : ASt), Fin [RV.cell 8 (some 5)] 0 (fun o x => o = AOut.ret T.av) e st → R e st)
    :
    AW P 0 (.seq (.seq (ref14_Check_c34 p) (.cond (.t 209) (ref14_Check_c35 p) .skip)) (.seq (.seq (ref14_Check_c36 p) (.cond (.t 221) (ref14_Check_c37 p) .skip)) (.seq (.region [⟨some 224, .load (some 5) (.t 9), none, false⟩, ⟨none, .store 5 (.t 8) (.t 224), none, false⟩] []) .ret))) R
      ⟨(61, AB false) :: (60, AI rows.length) :: (59, .d (.sl (rows.map ARow.row))) :: (58, AI rows.length) :: (F14 code kind ta to els mcode mkind mta mto mels most rows (rows.length, T1)).env, (F14 code kind ta to els mcode mkind mta mto mels most rows (rows.length, T1)).H⟩ := by
  simp only [F14]
  obtain ⟨t, e⟩ := T1
  cases e with
  | some e =>
    rw [thenC_some] at hspec
    have he : e.1 ≠ 0 := hok e rfl
    have heb := bne0 he
    simp only [resR]
    by_cases hk : kind = 1
    all_goals (
      (simp (maxSteps := 1000000) [hk, he, heb])
      refine hR _ _ (Fin_wkv _ _ rfl (by (exact wkvA)) ?_)
      rw [hspec]
      simp [Res.av, runE, he, pairsD, AV.erase])
  | none =>
    rw [thenC_none] at hspec
    have hrm : Room V L t 1 := hrm rfl
    simp only [resR]
    by_cases hk : kind = 1
    · rw [if_pos hk] at hspec
      (simp (maxSteps := 1000000) [hk])
      refine hR _ _ (Fin_wkv _ _ rfl (by (exact wkvA)) ?_)
      rw [hspec]
      simp [Res.av, runE, pairsD, AV.erase]
    · rw [if_neg hk] at hspec
      have hkb : (kind == 1) = false := by simpa using hk
      have hl1 := hrm.len
      have hst := hrm.steps
      have hu := ref14_use_calls A t ta mta mcode.length hl1 (by omega)
      have hok1 := okC_use t ta (regZ mta) mcode.length
      obtain ⟨⟨t4, e1⟩, h1r⟩ : ∃ r, r = useC t ta (regZ mta) mcode.length := ⟨_, rfl⟩
      rw [← h1r] at hu hspec hok1
      cases e1 with
      | none =>
        simp only [resR] at hu
        (simp (maxSteps := 1000000) [hk, hkb])
        (refine AWcall_det hu (by rfl) (by rfl) ?_)
        (simp (maxSteps := 1000000) [])
        refine hR _ _ (Fin_wkv _ _ rfl (by (exact wkvA)) ?_)
        rw [hspec]
        simp [Res.av, runE, pairsD, AV.erase]
      | some e =>
        have he : e.1 ≠ 0 := hok1 e rfl
        have heb := bne0 he
        simp only [resR] at hu
        (simp (maxSteps := 1000000) [hk, hkb])
        (refine AWcall_det hu (by rfl) (by rfl) ?_)
        (simp (maxSteps := 1000000) [he, heb])
        refine hR _ _ (Fin_wkv _ _ rfl (by (exact wkvA)) ?_)
        rw [hspec]
        simp [Res.av, runE, he, pairsD, AV.erase]

set_option maxHeartbeats 4000000 in
theorem ref14_Check_calls {P : Program} {p : Nums} (A : All P p) {V L : List Int} (b : Block) (m : MBlock) (l : List Pair) (most : Int) (hsr0 : Srt l) (hl : ∀ q ∈ l, q.v ∈ V ∧ q.l ∈ L) (hv : VLOk V L b.code m.code) (few : V.length * L.length < 100000) (hl0 : l.length < 100000)
    (hb0 : b.code.length ≤ 1000) (hm0 : m.code.length ≤ 1000) : CallsTo P p.ref14_Check [b.av, m.av, .d (pairsD l), AI most] [] fun o _ => o = .ret (checkZ b m l most).av := by
  refine A.ref14_Check.run rfl fun R hR => ?_
  obtain ⟨T, hT⟩ : ∃ T, T = checkZ b m l most := ⟨_, rfl⟩
  rw [← hT] at hR
  have hspec : T = checkZ b m l most := hT
  unfold checkZ at hspec
  obtain ⟨ha1, ha2, ha3⟩ := alignZ_ok b.code m.code
  have ha4 := alignZ_err b.code m.code
  have ha5 : (alignZ b.code m.code).2.2 = 0 → (alignZ b.code m.code).2.1 = m.code.length := alignS_end _ _ _ _
  have hal := ref13_Code_calls A b.code m.code (by omega) (by omega)
  have htm := ref13_Terms_calls A b.term m.term
  rw [makeP_srt hsr0] at hspec
  have hover : Over V L l := ⟨hsr0, fun q hq => hl q hq⟩
  have hroom : Room V L ⟨l, 0, l.length⟩ (1 + needRs (alignZ b.code m.code).1) := by
    refine ⟨hover, few, ?_, by simp only; omega⟩
    have h1 := needRs_le ha1
    have h2 : (alignZ b.code m.code).1.length * (3 + m.code.length + b.code.length) ≤ 1001 * 2003 := Nat.mul_le_mul (by omega) (by omega)
    simp only
    omega
  obtain ⟨al, hale⟩ : ∃ a, a = alignZ b.code m.code := ⟨_, rfl⟩
  rw [← hale] at hal hspec ha1 ha2 ha3 ha4 ha5 hroom
  obtain ⟨rows, at_, why⟩ := al
  simp only at hal hspec ha1 ha2 ha3 ha4 ha5 hroom
  obtain ⟨tz, htz⟩ : ∃ x, x = termsZ b.term m.term := ⟨_, rfl⟩
  rw [← htz] at htm hspec
  obtain ⟨code, kind, ta, to, els⟩ := b
  obtain ⟨mcode, mkind, mta, mto, mels⟩ := m
  simp only [Block.av, MBlock.av, Term.av] at hal htm ha1 ha2 ha3 hb0 hm0 hv ha5 ⊢
  have hf := fun (e x : Int) => ref14_fail_calls A (pairsD l) 0 0 0 (l.length : Int) e x
  simp only [pairsD] at hf
  have hpl : ∀ r ∈ l.map Pair.row, r.length = 2 := rows_len fun x => rfl
  have hpl0 : (l.map Pair.row).length = l.length := by simp
  obtain ⟨F, hF⟩ : ∃ F, F = l.map Pair.row := ⟨_, rfl⟩
  rw [← hF] at hpl hpl0 hf
  (simp (maxSteps := 1000000) [ic_ref14_Check, pairsD])
  rw [← hF]
  refine AWio_app_nile (by rfl) (by rfl) hpl (by decide) (by omega) (by omega) (fun hn => ?_) (fun hn => ?_)
  all_goals (
    try rw [hn] at hf
    (simp (maxSteps := 1000000) [hpl0])
    by_cases h1 : most < (l.length : Int)
    · rw [if_pos h1] at hspec
      (simp (maxSteps := 1000000) [h1])
      (refine AWcall_detw (hf 24 0) (by rfl) (by (exact wkvA)) (by rfl) ?_)
      (simp (maxSteps := 1000000) [])
      refine hR _ _ (Fin_wkv _ _ rfl (by (exact wkvA)) ?_)
      rw [hspec]; rfl
    · rw [if_neg h1] at hspec
      (simp (maxSteps := 1000000) [h1])
      (refine AWcall_det hal (by rfl) (by rfl) ?_)
      by_cases hw : why = 0
      · subst hw
        have hat : at_ = mcode.length := ha5 rfl
        (simp (maxSteps := 1000000) [])
        (refine AWcall_det htm (by rfl) (by rfl) ?_)
        cases tz with
        | false =>
          simp only [and_self, if_true, ne_eq, not_false_eq_true, Int.reduceEq] at hspec
          (simp (maxSteps := 1000000) [])
          (refine AWcall_detw (hf 20 mcode.length) (by rfl) (by (exact wkvA)) (by rfl) ?_)
          (simp (maxSteps := 1000000) [])
          refine hR _ _ (Fin_wkv _ _ rfl (by (exact wkvA)) ?_)
          rw [hspec, hat]; rfl
        | true =>
          simp only [Bool.true_eq_false, and_false, if_false, ne_eq, not_true_eq_false] at hspec
          obtain ⟨T1, hT1⟩ : ∃ T1, T1 = rowsC most code mcode rows ⟨l, 0, l.length⟩ := ⟨_, rfl⟩
          have hrun : runC most ⟨code, kind, ta, to, els⟩ ⟨mcode, mkind, mta, mto, mels⟩ rows ⟨l, 0, l.length⟩ = thenC T1 fun s => if kind = 1 then (s, none) else useC s ta (regZ mta) mcode.length := by rw [hT1]; rfl
          rw [hrun] at hspec
          (simp (maxSteps := 1000000) [])
          refine AW_loop (F14 code kind ta to els mcode mkind mta mto mels most rows) (Inv14 V L most code mcode rows T1) (fun x => rows.length - x.1) (0, (⟨l, 0, l.length⟩, none)) ?_ ?_
            (fun s hs N hN => ref14_round A code kind ta to els mcode mkind mta mto mels most rows T1 hv ha1 hb0 hm0 (by omega) _ ?_ s hs N hN)
          · exact ⟨Nat.zero_le _, by rw [thenC_none]; exact hT1.symm, okC_none _, fun _ => hroom⟩
          · simp only [F14, resR, pairsD, ← hF]
            (try simp only [hn])
            (exact wkA)
          · intro hok hrm
            simp only [inBlock_exit, if_true, then_normal]
            exact ref14_final A code kind ta to els mcode mkind mta mto mels most rows T1 T hspec hok hrm R hR
      · have hw2 : why = 20 := ha4.resolve_left hw
        subst hw2
        simp only [Int.reduceEq, false_and, if_false, ne_eq, not_false_eq_true, if_true] at hspec
        (simp (maxSteps := 1000000) [])
        (refine AWcall_detw (hf 20 at_) (by rfl) (by (exact wkvA)) (by rfl) ?_)
        (simp (maxSteps := 1000000) [])
        refine hR _ _ (Fin_wkv _ _ rfl (by (exact wkvA)) ?_)
        rw [hspec]; rfl)
end
end Go.AE

/- The law of the numbers of a check. -/
set_option linter.unusedVariables false
namespace Go.AE
open Go
def vOf (b : Block) (l : List Pair) : List Int := l.map Pair.v ++ b.code.map Instr.d
def lOf (m : MBlock) (l : List Pair) : List Int := l.map Pair.l ++ (m.code.map Mach.dst ++ m.code.map fun x => regZ x.d)
theorem vlOf_ok (b : Block) (m : MBlock) (l : List Pair) : VLOk (vOf b l) (lOf m l) b.code m.code :=
  ⟨fun i hi => List.mem_append_right _ (List.mem_map_of_mem hi), fun x hx => ⟨List.mem_append_right _ (List.mem_append_left _ (List.mem_map_of_mem hx)), List.mem_append_right _ (List.mem_append_right _ (List.mem_map.2 ⟨x, hx, rfl⟩))⟩⟩
theorem vlOf_few {b : Block} {m : MBlock} {l : List Pair} (hl : l.length ≤ 80) (hb : b.code.length ≤ 60) (hm : m.code.length ≤ 200) : (vOf b l).length * (lOf m l).length < 100000 := by
  have h1 : (vOf b l).length ≤ 140 := by simp [vOf]; omega
  have h2 : (lOf m l).length ≤ 480 := by simp [lOf]; omega
  have := Nat.mul_le_mul h1 h2
  omega
theorem rowsC_room {V L : List Int} {most : Int} {b : List Instr} {m : List Mach} (hv : VLOk V L b m) : ∀ {rs : List ARow} {s : CS} {n : Nat}, Room V L s (n + needRs rs) → (∀ r ∈ rs, RowOk b m r) → Room V L (rowsC most b m rs s).1 n := by
  intro rs
  induction rs with
  | nil => intro s n h _; simpa [needRs, rowsC] using h
  | cons r rs ih =>
    intro s n h hr
    rw [needRs_cons] at h
    have hro := hr r (by simp)
    have hl1 : ((m.take r.mt).drop r.mf).length = r.mt - r.mf := by have := hro.hm; simp; omega
    have hl2 : ((b.take r.ct).drop r.cf).length = r.ct - r.cf := by have := hro.hc; simp; omega
    have h1 := rowC_room (n := n + needRs rs) (most := most) (r := r) (h.mono (by rw [hl1, hl2]; unfold needR; omega)) hv
    simp only [rowsC]
    generalize rowC most b m r s = q at h1
    obtain ⟨s1, e⟩ := q
    cases e with
    | some e => rw [thenC_some]; exact h1.mono (by omega)
    | none => rw [thenC_none]; exact ih h1 fun r hr' => hr r (by simp [hr'])
theorem runC_room {V L : List Int} {most : Int} {b : Block} {m : MBlock} (hv : VLOk V L b.code m.code) {rs : List ARow} {s : CS} {n : Nat} (h : Room V L s (n + 1 + needRs rs)) (hr : ∀ r ∈ rs, RowOk b.code m.code r) : Room V L (runC most b m rs s).1 n := by
  unfold runC
  have h1 := rowsC_room (most := most) hv h hr
  generalize rowsC most b.code m.code rs s = q at h1
  obtain ⟨s1, e⟩ := q
  cases e with
  | some e => rw [thenC_some]; exact h1.mono (by omega)
  | none =>
    rw [thenC_none]
    split
    · exact h1.mono (by omega)
    · exact h1.use _ _ _
theorem checkZ_room {V L : List Int} {b : Block} {m : MBlock} {l : List Pair} {most : Int} (hl : ∀ q ∈ l, q.v ∈ V ∧ q.l ∈ L) (hv : VLOk V L b.code m.code) (few : V.length * L.length < 100000) (hl0 : l.length < 100000)
    (hb0 : b.code.length ≤ 1000) (hm0 : m.code.length ≤ 1000) : (checkZ b m l most).largest < 100000 ∧ ∀ q ∈ (checkZ b m l most).out, q.v ∈ V ∧ q.l ∈ L := by
  obtain ⟨a1, a2, a3⟩ := alignZ_ok b.code m.code
  unfold checkZ
  split
  · exact ⟨hl0, fun q hq => by simp at hq⟩
  · by_cases h2 : (if (alignZ b.code m.code).2.2 = 0 ∧ termsZ b.term m.term = false then 20 else (alignZ b.code m.code).2.2) ≠ 0
    · simp only [if_pos h2]; exact ⟨hl0, fun q hq => by simp at hq⟩
    · simp only [if_neg h2]
      have hover : Over V L (makeP l) := ⟨srt_makeP l, fun q hq => hl q (mem_makeP.1 hq)⟩
      have hroom : Room V L ⟨makeP l, 0, l.length⟩ (0 + 1 + needRs (alignZ b.code m.code).1) := by
        refine ⟨hover, few, ?_, by simp only; omega⟩
        have h1 := needRs_le a1
        have h2 : (alignZ b.code m.code).1.length * (3 + m.code.length + b.code.length) ≤ 1001 * 2003 := Nat.mul_le_mul (by omega) (by omega)
        simp only
        omega
      have hr := runC_room (most := most) hv hroom a1
      generalize runC most b m (alignZ b.code m.code).1 ⟨makeP l, 0, l.length⟩ = r at hr
      obtain ⟨t, e⟩ := r
      refine ⟨hr.lg, fun q hq => ?_⟩
      simp only at hq
      split at hq
      · exact hr.over.mem q hq
      · simp at hq
section
theorem check_small {P : Program} {p : Nums} (A : All P p) (S : SortOk P p) (C : ClosOk P p) (b : Block) (m : MBlock) (l : List Pair) (most : Int) (hl : l.length ≤ 80) (hb : b.code.length ≤ 60) (hm : m.code.length ≤ 200) : CallsTo P p.blockcheck_Check [b.av, m.av, .d (pairsD l), AI most] [] fun o _ => o = .ret (checkZ b m l most).av :=
  blockcheck_Check_calls A S C b m l most (fun q hq => ⟨List.mem_append_left _ (List.mem_map_of_mem hq), List.mem_append_left _ (List.mem_map_of_mem hq)⟩) (vlOf_ok b m l) (vlOf_few hl hb hm) (by omega) (by omega) (by omega)
end
theorem checkZ_lg {b : Block} {m : MBlock} {l : List Pair} {most : Int} (hl : l.length ≤ 80) (hb : b.code.length ≤ 60) (hm : m.code.length ≤ 200) : (checkZ b m l most).largest < 100000 :=
  (checkZ_room (fun q hq => ⟨List.mem_append_left _ (List.mem_map_of_mem hq), List.mem_append_left _ (List.mem_map_of_mem hq)⟩) (vlOf_ok b m l) (vlOf_few hl hb hm) (by omega) (by omega) (by omega)).1
theorem rightZ_small {b : Block} {m : MBlock} {regs slots : Int} (h : rightZ b m regs slots = true) : b.code.length ≤ 60 ∧ m.code.length ≤ 200 := by
  unfold rightZ at h
  split at h
  · rename_i hs; obtain ⟨h1, h2, _⟩ := hs; omega
  · cases h
/-! #### The documented examples -/
def exB : Block := ⟨[⟨17, 0, 0, 0, 0⟩], ⟨1, 0, 0, 0⟩⟩
def exM : MBlock := ⟨[⟨18, 0, 0, 0, 0, 2, 1⟩, ⟨17, 0, 1, 0, 0, 0, 0⟩], ⟨1, 0, 0, 0⟩⟩
def exN : MBlock := ⟨[⟨17, 0, 1, 0, 0, 0, 0⟩], ⟨1, 0, 0, 0⟩⟩
section
set_option maxRecDepth 10000 in
theorem law14_awake_calls {P : Program} {p : Nums} (A : All P p) (S : SortOk P p) (C : ClosOk P p) : CallsTo P p.law14_awake [] [] fun o _ => o = .ret (AB true) := by
  refine A.law14_awake.run rfl fun R hR => ?_
  have h1 := check_small A S C exB exM [⟨0, 1⟩] 9 (by decide) (by decide) (by decide)
  have h2 := check_small A S C exB exN [⟨0, 1⟩] 9 (by decide) (by decide) (by decide)
  have h3 := check_small A S C exB exM [⟨0, 1⟩] 1 (by decide) (by decide) (by decide)
  have e1 : checkZ exB exM [⟨0, 1⟩] 9 = ⟨[⟨0, 1⟩, ⟨0, 2⟩], 0, 2, 5, 2⟩ := by decide +kernel
  have e2 : checkZ exB exN [⟨0, 1⟩] 9 = ⟨[], 21, 0, 2, 1⟩ := by decide +kernel
  have e3 : checkZ exB exM [⟨0, 1⟩] 1 = ⟨[], 24, 0, 2, 2⟩ := by decide +kernel
  rw [e1] at h1
  rw [e2] at h2
  rw [e3] at h3
  simp only [Res.av] at h1 h2 h3
  have hm := ref11_Same_calls A [⟨0, 1⟩, ⟨0, 2⟩] [⟨0, 1⟩, ⟨0, 2⟩] (by decide) (by decide)
  rw [decide_eq_true rfl] at hm
  (simp (maxSteps := 1000000) [ic_law14_awake])
  (refine AWcall_det h1 (by rfl) (by rfl) ?_)
  (simp (maxSteps := 1000000) [])
  (refine AWcall_det h2 (by rfl) (by rfl) ?_)
  (simp (maxSteps := 1000000) [])
  (refine AWcall_det h3 (by rfl) (by rfl) ?_)
  (simp (maxSteps := 1000000) [])
  (refine AWcall_det hm (by rfl) (by rfl) ?_)
  (simp (maxSteps := 1000000) [pairsD])
  (first | exact hR _ _ FrA | exact hR _ _ FnA | fail "no end")
end
end Go.AE

/- A larger invariant. -/
set_option linter.unusedVariables false
namespace Go.AE
open Go
/-- Less is known, and less was done. -/
structure Le (s t : CS) : Prop where
  srt : Srt s.set
  sub : ∀ q ∈ s.set, q ∈ t.set
  steps : s.steps ≤ t.steps
  lg : s.largest ≤ t.largest
theorem Le.len {s t : CS} (h : Le s t) : s.set.length ≤ t.set.length := nodup_le (srt_nodup h.srt) h.sub
def LeG (V L : List Int) (r r2 : CR) : Prop := r.2 = none → r2.2 = none ∧ Le r.1 r2.1 ∧ Over V L r2.1.set
def Er (V L : List Int) (r : CR) : Prop := (∀ e, r.2 = some e → e.1 = 21) ∧ Over V L r.1.set
theorem LeG.then {V L : List Int} {r r2 : CR} {f g : CS → CR} (h : LeG V L r r2) (hf : ∀ s t, Le s t → Over V L t.set → LeG V L (f s) (g t)) : LeG V L (thenC r f) (thenC r2 g) := by
  obtain ⟨s, e⟩ := r
  obtain ⟨t, e2⟩ := r2
  cases e with
  | some e => intro h; cases h
  | none =>
    obtain ⟨h1, h2, h3⟩ := h rfl
    simp only at h1 h2 h3
    subst h1
    exact hf s t h2 h3
theorem LeG.same {V L : List Int} {s t : CS} (h : Le s t) (ho : Over V L t.set) : LeG V L (s, none) (t, none) := fun _ => ⟨rfl, h, ho⟩
theorem Er.then {V L : List Int} {r : CR} {f : CS → CR} (h : Er V L r) (hf : ∀ s, Over V L s.set → Er V L (f s)) : Er V L (thenC r f) := by
  obtain ⟨s, e⟩ := r
  cases e with
  | some e => exact h
  | none => exact hf s h.2
theorem Er.same {V L : List Int} {s : CS} (h : Over V L s.set) : Er V L (s, none) := ⟨fun e he => (by cases he), h⟩
theorem LeG.become {V L : List Int} {most : Int} (few : V.length * L.length < 100000) (hm : 100000 ≤ most) {s t : CS} {l l2 : List Pair} {at_ : Int} (h : Le s t) (hs : Srt l) (hsub : ∀ q ∈ l, q ∈ l2) (ho : Over V L l2) : LeG V L (becomeC most (costC s) l at_) (becomeC most (costC t) l2 at_) := by
  intro _
  have h1 := nodup_le (srt_nodup hs) hsub
  have h2 := h.len
  have h3 := Nat.lt_of_le_of_lt ho.len few
  refine ⟨?_, ⟨hs, hsub, ?_, ?_⟩, ho⟩
  · simp only [becomeC]; rw [if_neg (by omega)]
  · have := h.steps; simp only [becomeC, costC]; omega
  · have := h.lg; simp only [becomeC, costC]; omega
theorem Er.become {V L : List Int} {most : Int} (few : V.length * L.length < 100000) (hm : 100000 ≤ most) {s : CS} {l2 : List Pair} {at_ : Int} (ho : Over V L l2) : Er V L (becomeC most (costC s) l2 at_) := by
  have h3 := Nat.lt_of_le_of_lt ho.len few
  refine ⟨fun e he => ?_, ho⟩
  simp only [becomeC] at he
  rw [if_neg (by omega)] at he
  cases he
theorem LeG.use {V L : List Int} {s t : CS} {v x at_ : Int} (h : Le s t) (ho : Over V L t.set) : LeG V L (useC s v x at_) (useC t v x at_) := by
  intro he
  have h2 := h.len
  simp only [useC] at he ⊢
  split at he
  · rename_i hq
    rw [if_pos (h.sub _ hq)]
    exact ⟨rfl, ⟨h.srt, h.sub, by have := h.steps; simp only [costC]; omega, h.lg⟩, ho⟩
  · cases he
theorem Er.use {V L : List Int} {s : CS} {v x at_ : Int} (ho : Over V L s.set) : Er V L (useC s v x at_) := by
  refine ⟨fun e he => ?_, ho⟩
  simp only [useC] at he
  split at he
  · cases he
  · injection he with he; subst he; rfl
theorem copyC_le {V L : List Int} {most : Int} (few : V.length * L.length < 100000) (hm : 100000 ≤ most) {at_ : Int} : ∀ {l : List Instr}, (∀ i ∈ l, i.d ∈ V) → ∀ {s t : CS}, Le s t → Over V L t.set → LeG V L (copyC most at_ l s) (copyC most at_ l t) := by
  intro l
  induction l with
  | nil => intro _ s t h ho; exact .same h ho
  | cons i l ih =>
    intro hv s t h ho
    exact (LeG.become few hm h (srt_copyP h.srt) (copyP_mono h.sub) (ho.copy (hv i (by simp)))).then fun s t h ho => ih (fun j hj => hv j (by simp [hj])) h ho
theorem copyC_er {V L : List Int} {most : Int} (few : V.length * L.length < 100000) (hm : 100000 ≤ most) {at_ : Int} : ∀ {l : List Instr}, (∀ i ∈ l, i.d ∈ V) → ∀ {s : CS}, Over V L s.set → Er V L (copyC most at_ l s) := by
  intro l
  induction l with
  | nil => intro _ s ho; exact .same ho
  | cons i l ih =>
    intro hv s ho
    exact (Er.become few hm (ho.copy (hv i (by simp)))).then fun s ho => ih (fun j hj => hv j (by simp [hj])) ho
theorem moveC_le {V L : List Int} {most : Int} (few : V.length * L.length < 100000) (hm : 100000 ≤ most) : ∀ {l : List Mach}, (∀ i ∈ l, i.dst ∈ L) → ∀ {k : Nat} {s t : CS}, Le s t → Over V L t.set → LeG V L (moveC most k l s) (moveC most k l t) := by
  intro l
  induction l with
  | nil => intro _ k s t h ho; exact .same h ho
  | cons i l ih =>
    intro hv k s t h ho
    exact (LeG.become few hm h (srt_moveP h.srt) (moveP_mono h.sub) (ho.move (hv i (by simp)))).then fun s t h ho => ih (fun j hj => hv j (by simp [hj])) h ho
theorem moveC_er {V L : List Int} {most : Int} (few : V.length * L.length < 100000) (hm : 100000 ≤ most) : ∀ {l : List Mach}, (∀ i ∈ l, i.dst ∈ L) → ∀ {k : Nat} {s : CS}, Over V L s.set → Er V L (moveC most k l s) := by
  intro l
  induction l with
  | nil => intro _ k s ho; exact .same ho
  | cons i l ih =>
    intro hv k s ho
    exact (Er.become few hm (ho.move (hv i (by simp)))).then fun s ho => ih (fun j hj => hv j (by simp [hj])) ho
theorem instrC_le {V L : List Int} {most : Int} (few : V.length * L.length < 100000) (hm : 100000 ≤ most) {i : Instr} {x : Mach} {at_ : Int} (hd : i.d ∈ V) (ht : regZ x.d ∈ L) {s t : CS} (h : Le s t) (ho : Over V L t.set) : LeG V L (instrC most s i x at_) (instrC most t i x at_) := by
  unfold instrC
  refine LeG.then ?_ fun s t h ho => LeG.then ?_ fun s t h ho => ?_
  · split
    · exact .use h ho
    · exact .same h ho
  · split
    · exact .use h ho
    · exact .same h ho
  · split
    · exact .become few hm h (srt_defP h.srt) (defP_mono h.sub) (ho.define hd ht)
    · exact .same h ho
theorem instrC_er {V L : List Int} {most : Int} (few : V.length * L.length < 100000) (hm : 100000 ≤ most) {i : Instr} {x : Mach} {at_ : Int} (hd : i.d ∈ V) (ht : regZ x.d ∈ L) {s : CS} (ho : Over V L s.set) : Er V L (instrC most s i x at_) := by
  unfold instrC
  refine Er.then ?_ fun s ho => Er.then ?_ fun s ho => ?_
  · split
    · exact .use ho
    · exact .same ho
  · split
    · exact .use ho
    · exact .same ho
  · split
    · exact .become few hm (ho.define hd ht)
    · exact .same ho
theorem rowC_le {V L : List Int} {most : Int} (few : V.length * L.length < 100000) (hm : 100000 ≤ most) {b : List Instr} {m : List Mach} (hv : VLOk V L b m) {r : ARow} {s t : CS} (h : Le s t) (ho : Over V L t.set) : LeG V L (rowC most b m r s) (rowC most b m r t) := by
  unfold rowC
  refine (copyC_le few hm (fun i hi => hv.v i (List.mem_of_mem_take (List.mem_of_mem_drop hi))) h ho).then fun s t h ho => (moveC_le few hm (fun i hi => (hv.l i (List.mem_of_mem_take (List.mem_of_mem_drop hi))).1) h ho).then fun s t h ho => ?_
  unfold lastC
  split
  · split
    · rename_i i x h1 h2
      exact instrC_le few hm (hv.v i (List.mem_of_getElem? h1)) (hv.l x (List.mem_of_getElem? h2)).2 h ho
    · exact .same h ho
  · exact .same h ho
theorem rowC_er {V L : List Int} {most : Int} (few : V.length * L.length < 100000) (hm : 100000 ≤ most) {b : List Instr} {m : List Mach} (hv : VLOk V L b m) {r : ARow} {s : CS} (ho : Over V L s.set) : Er V L (rowC most b m r s) := by
  unfold rowC
  refine (copyC_er few hm (fun i hi => hv.v i (List.mem_of_mem_take (List.mem_of_mem_drop hi))) ho).then fun s ho => (moveC_er few hm (fun i hi => (hv.l i (List.mem_of_mem_take (List.mem_of_mem_drop hi))).1) ho).then fun s ho => ?_
  unfold lastC
  split
  · split
    · rename_i i x h1 h2
      exact instrC_er few hm (hv.v i (List.mem_of_getElem? h1)) (hv.l x (List.mem_of_getElem? h2)).2 ho
    · exact .same ho
  · exact .same ho
theorem rowsC_le {V L : List Int} {most : Int} (few : V.length * L.length < 100000) (hm : 100000 ≤ most) {b : List Instr} {m : List Mach} (hv : VLOk V L b m) : ∀ {rs : List ARow} {s t : CS}, Le s t → Over V L t.set → LeG V L (rowsC most b m rs s) (rowsC most b m rs t) := by
  intro rs
  induction rs with
  | nil => intro s t h ho; exact .same h ho
  | cons r rs ih => intro s t h ho; exact (rowC_le few hm hv h ho).then fun s t h ho => ih h ho
theorem rowsC_er {V L : List Int} {most : Int} (few : V.length * L.length < 100000) (hm : 100000 ≤ most) {b : List Instr} {m : List Mach} (hv : VLOk V L b m) : ∀ {rs : List ARow} {s : CS}, Over V L s.set → Er V L (rowsC most b m rs s) := by
  intro rs
  induction rs with
  | nil => intro s ho; exact .same ho
  | cons r rs ih => intro s ho; exact (rowC_er few hm hv ho).then fun s ho => ih ho
theorem runC_le {V L : List Int} {most : Int} (few : V.length * L.length < 100000) (hm : 100000 ≤ most) {b : Block} {m : MBlock} (hv : VLOk V L b.code m.code) {rs : List ARow} {s t : CS} (h : Le s t) (ho : Over V L t.set) : LeG V L (runC most b m rs s) (runC most b m rs t) := by
  unfold runC
  refine (rowsC_le few hm hv h ho).then fun s t h ho => ?_
  split
  · exact .same h ho
  · exact .use h ho
theorem runC_er {V L : List Int} {most : Int} (few : V.length * L.length < 100000) (hm : 100000 ≤ most) {b : Block} {m : MBlock} (hv : VLOk V L b.code m.code) {rs : List ARow} {s : CS} (ho : Over V L s.set) : Er V L (runC most b m rs s) := by
  unfold runC
  refine (rowsC_er few hm hv ho).then fun s ho => ?_
  split
  · exact .same ho
  · exact .use ho
/-- A larger invariant is accepted with a larger result. -/
theorem checkZ_mono {V L : List Int} {b : Block} {m : MBlock} {x y : List Pair} {most : Int} (hx : Srt x) (hy : Over V L y) (hsub : ∀ q ∈ x, q ∈ y) (hv : VLOk V L b.code m.code) (few : V.length * L.length < 100000) (hm : 100000 ≤ most) :
    ((checkZ b m x most).err ≠ 0 → (checkZ b m x most).err = (checkZ b m y most).err ∨ (checkZ b m x most).err = 21) ∧
    ((checkZ b m x most).err = 0 → (checkZ b m y most).err = 0 ∧ (∀ q ∈ (checkZ b m x most).out, q ∈ (checkZ b m y most).out) ∧ (checkZ b m x most).largest ≤ (checkZ b m y most).largest ∧ (checkZ b m x most).steps ≤ (checkZ b m y most).steps) := by
  have hylen := Nat.lt_of_le_of_lt hy.len few
  have hxy := nodup_le (srt_nodup hx) hsub
  have hox : Over V L x := ⟨hx, fun q hq => hy.mem q (hsub q hq)⟩
  unfold checkZ
  have x0 : ¬ ((x.length : Int) > most) := by omega
  have y0 : ¬ ((y.length : Int) > most) := by omega
  rw [if_neg x0, if_neg y0, makeP_srt hx, makeP_srt hy.srt]
  by_cases h2 : (if (alignZ b.code m.code).2.2 = 0 ∧ termsZ b.term m.term = false then 20 else (alignZ b.code m.code).2.2) ≠ 0
  · simp only [if_pos h2]
    exact ⟨fun _ => .inl trivial, fun h => absurd h h2⟩
  · simp only [if_neg h2]
    have h := runC_le few hm (most := most) (b := b) (m := m) hv (rs := (alignZ b.code m.code).1) (s := ⟨x, 0, x.length⟩) (t := ⟨y, 0, y.length⟩) ⟨hx, hsub, Nat.le_refl _, hxy⟩ hy
    have he := runC_er few hm (most := most) (b := b) (m := m) hv (rs := (alignZ b.code m.code).1) (s := ⟨x, 0, x.length⟩) hox
    generalize runC most b m (alignZ b.code m.code).1 ⟨x, 0, x.length⟩ = r at h he
    generalize runC most b m (alignZ b.code m.code).1 ⟨y, 0, y.length⟩ = r2 at h
    obtain ⟨s, e⟩ := r
    obtain ⟨t, e2⟩ := r2
    cases e with
    | some e =>
      have h21 := he.1 e rfl
      exact ⟨fun _ => .inr h21, fun h => by simp only [runE] at h; rw [h21] at h; simp at h⟩
    | none =>
      obtain ⟨h1, h3, h4⟩ := h rfl
      simp only at h1 h3 h4
      subst h1
      refine ⟨fun h => absurd rfl h, fun _ => ⟨rfl, ?_, h3.lg, h3.steps⟩⟩
      simpa [runE] using h3.sub
section
theorem law14_BlockcheckMonotone_calls {P : Program} {p : Nums} (A : All P p) (S : SortOk P p) (C : ClosOk P p) (b : Block) (m : MBlock) (l more : List Pair) (regs slots : Int) (hok : okM m) : CallsTo P p.law14_BlockcheckMonotone [b.av, m.av, .d (pairsD l), .d (pairsD more), AI regs, AI slots] [] fun o _ => o = .ret (AB true) := by
  refine A.law14_BlockcheckMonotone.run rfl fun R hR => ?_
  have hr := law14_right_calls A b m regs slots hok
  have hsm := rightZ_small (b := b) (m := m) (regs := regs) (slots := slots)
  obtain ⟨rt, hrt⟩ : ∃ x, x = rightZ b m regs slots := ⟨_, rfl⟩
  rw [← hrt] at hr hsm
  have hmk := ref11_Make_calls A l
  have hmk2 := ref11_Make_calls A (l ++ more)
  have hml := makeP_len l
  have hml2 := makeP_len (l ++ more)
  rw [List.length_append] at hml2
  have hsx := srt_makeP l
  have hsy := srt_makeP (l ++ more)
  have hsub : ∀ q ∈ makeP l, q ∈ makeP (l ++ more) := fun q hq => mem_makeP.2 (List.mem_append_left _ (mem_makeP.1 hq))
  obtain ⟨x, hx⟩ : ∃ x, x = makeP l := ⟨_, rfl⟩
  obtain ⟨y, hy⟩ : ∃ x, x = makeP (l ++ more) := ⟨_, rfl⟩
  rw [← hx] at hmk hml hsx hsub
  rw [← hy] at hmk2 hml2 hsy hsub
  have hck := check_small A S C b m x 1000000
  have hck2 := check_small A S C b m y 1000000
  have hmono : y.length ≤ 80 → b.code.length ≤ 60 → m.code.length ≤ 200 → _ := fun h1 h2 h3 => checkZ_mono (b := b) (m := m) (x := x) (y := y) (most := 1000000) hsx ⟨hsy, fun q hq => ⟨List.mem_append_left _ (List.mem_map_of_mem hq), List.mem_append_left _ (List.mem_map_of_mem hq)⟩⟩ hsub (vlOf_ok b m y) (vlOf_few h1 h2 h3) (by decide)
  have hbd1 := checkZ_bd b m x 1000000 (makeP_len x)
  have hbd2 := checkZ_bd b m y 1000000 (makeP_len y)
  have hlg1 := checkZ_lg (b := b) (m := m) (l := x) (most := 1000000)
  have hlg2 := checkZ_lg (b := b) (m := m) (l := y) (most := 1000000)
  obtain ⟨T, hT⟩ : ∃ T, T = checkZ b m x 1000000 := ⟨_, rfl⟩
  obtain ⟨U, hU⟩ : ∃ T, T = checkZ b m y 1000000 := ⟨_, rfl⟩
  rw [← hT] at hck hmono hlg1 hbd1
  rw [← hU] at hck2 hmono hlg2 hbd2
  obtain ⟨code, kind, ta, to, els⟩ := b
  obtain ⟨mcode, mkind, mta, mto, mels⟩ := m
  obtain ⟨out, err, at_, st, lg⟩ := T
  obtain ⟨out2, err2, at2, st2, lg2⟩ := U
  simp only [Block.av, MBlock.av, Res.av] at hr hck hck2 hsm hmono hlg1 hlg2 hbd1 hbd2
  obtain ⟨F, hF⟩ : ∃ F, F = l.map Pair.row := ⟨_, rfl⟩
  obtain ⟨G, hG⟩ : ∃ F, F = more.map Pair.row := ⟨_, rfl⟩
  have hFl : F.length = l.length := by rw [hF]; simp
  have hGl : G.length = more.length := by rw [hG]; simp
  have hFr : ∀ r ∈ F, r.length = 2 := by rw [hF]; exact rows_len fun x => rfl
  have hGr : ∀ r ∈ G, r.length = 2 := by rw [hG]; exact rows_len fun x => rfl
  simp only [pairsD, List.map_append] at hmk hmk2
  rw [← hF] at hmk hmk2
  rw [← hG] at hmk2
  (simp (maxSteps := 1000000) [ic_law14_BlockcheckMonotone, Block.av, MBlock.av, pairsD])
  rw [← hF, ← hG]
  (refine AWcall_det (law14_awake_calls A S C) (by rfl) (by rfl) ?_)
  (simp (maxSteps := 1000000) [])
  ((first | refine AW_cond_split _ (by rfl) (fun h2 => ?_) (fun h2 => ?_) | refine AWop_split _ (by rfl) (fun h2 => ?_) (fun h2 => ?_)) <;> (try simp only [yy1, yy2, yy3, yy4, yy5, yy6, beq_iff_eq, bne_iff_ne, ne_eq, beq_eq_false_iff_ne, bne_eq_false_iff_eq] at h2))
  · (simp (maxSteps := 1000000) [h2])
    (refine AWcall_det (law14_awake_calls A S C) (by rfl) (by rfl) ?_)
    (simp (maxSteps := 1000000) [])
    (first | exact hR _ _ FrA | exact hR _ _ FnA | fail "no end")
  (simp (maxSteps := 1000000) [h2])
  ((first | refine AW_cond_split _ (by rfl) (fun h3 => ?_) (fun h3 => ?_) | refine AWop_split _ (by rfl) (fun h3 => ?_) (fun h3 => ?_)) <;> (try simp only [yy1, yy2, yy3, yy4, yy5, yy6, beq_iff_eq, bne_iff_ne, ne_eq, beq_eq_false_iff_ne, bne_eq_false_iff_eq] at h3))
  · (simp (maxSteps := 1000000) [h3])
    (refine AWcall_det (law14_awake_calls A S C) (by rfl) (by rfl) ?_)
    (simp (maxSteps := 1000000) [])
    (first | exact hR _ _ FrA | exact hR _ _ FnA | fail "no end")
  (simp (maxSteps := 1000000) [h3])
  (refine AWcall_det hr (by rfl) (by rfl) ?_)
  cases rt with
  | false =>
    (simp (maxSteps := 1000000) [])
    (refine AWcall_det (law14_awake_calls A S C) (by rfl) (by rfl) ?_)
    (simp (maxSteps := 1000000) [])
    (first | exact hR _ _ FrA | exact hR _ _ FnA | fail "no end")
  | true =>
    obtain ⟨q1, q2⟩ := hsm rfl
    have hmono := hmono (by omega) q1 q2
    (simp (maxSteps := 1000000) [])
    (refine AWcall_det (hmk (by omega)) (by rfl) (by rfl) ?_)
    (simp (maxSteps := 1000000) [pairsD])
    have hmk2 := hmk2 (by rw [List.length_append]; omega)
    refine AWio_app_nile (by rfl) (by rfl) hFr (by decide) (by omega) (by omega) (fun hn => ?_) (fun hn => ?_)
    · (simp (maxSteps := 1000000) [])
      refine AWio_app_nile (by rfl) (by rfl) hGr (by decide) (by omega) (by omega) (fun hn2 => ?_) (fun hn2 => ?_)
      · rw [hn, hn2] at hmk2
        (simp (maxSteps := 1000000) [])
        (refine AWcall_detw hmk2 (by rfl) (by (exact wkvA)) (by rfl) ?_)
        (simp (maxSteps := 1000000) [pairsD])
        (refine AWcall_det (hck (by omega) q1 q2) (by rfl) (by rfl) ?_)
        (simp (maxSteps := 1000000) [])
        (refine AWcall_det (hck2 (by omega) q1 q2) (by rfl) (by rfl) ?_)
        obtain ⟨m1, m2⟩ := hmono
        by_cases he : err = 0
        · obtain ⟨n1, n2, n3, n4⟩ := m2 he
          have hms := ref11_Missing_calls A out out2 (by have := hbd1.2.2.1; have := hlg1 (by omega) q1 q2; omega) (by have := hbd2.2.2.1; have := hlg2 (by omega) q1 q2; omega)
          rw [missA, missP_none n2] at hms
          have n3' : (lg : Int) ≤ (lg2 : Int) := by omega
          have n4' : (st : Int) ≤ (st2 : Int) := by omega
          (simp (maxSteps := 1000000) [he])
          (refine AWcall_det hms (by rfl) (by rfl) ?_)
          (simp (maxSteps := 1000000) [Pair.av, n1, n3, n4, n3', n4'])
          (first | exact hR _ _ FrA | exact hR _ _ FnA | fail "no end")
        · have heb := bne0 he
          rcases m1 he with hx1 | hx1
          · (simp (maxSteps := 1000000) [he, heb, ← hx1])
            (first | exact hR _ _ FrA | exact hR _ _ FnA | fail "no end")
          · by_cases h12 : err = err2
            · (simp (maxSteps := 1000000) [he, heb, ← h12])
              (first | exact hR _ _ FrA | exact hR _ _ FnA | fail "no end")
            · have h12b : (err == err2) = false := by simpa using h12
              (simp (maxSteps := 1000000) [he, heb, h12, h12b, hx1])
              (try (simp only [hx1] at h12 h12b; (simp (maxSteps := 1000000) [h12, h12b])))
              (first | exact hR _ _ FrA | exact hR _ _ FnA | fail "no end")
      · rw [hn] at hmk2
        (simp (maxSteps := 1000000) [])
        (refine AWcall_detw hmk2 (by rfl) (by (exact wkvA)) (by rfl) ?_)
        (simp (maxSteps := 1000000) [pairsD])
        (refine AWcall_det (hck (by omega) q1 q2) (by rfl) (by rfl) ?_)
        (simp (maxSteps := 1000000) [])
        (refine AWcall_det (hck2 (by omega) q1 q2) (by rfl) (by rfl) ?_)
        obtain ⟨m1, m2⟩ := hmono
        by_cases he : err = 0
        · obtain ⟨n1, n2, n3, n4⟩ := m2 he
          have hms := ref11_Missing_calls A out out2 (by have := hbd1.2.2.1; have := hlg1 (by omega) q1 q2; omega) (by have := hbd2.2.2.1; have := hlg2 (by omega) q1 q2; omega)
          rw [missA, missP_none n2] at hms
          have n3' : (lg : Int) ≤ (lg2 : Int) := by omega
          have n4' : (st : Int) ≤ (st2 : Int) := by omega
          (simp (maxSteps := 1000000) [he])
          (refine AWcall_det hms (by rfl) (by rfl) ?_)
          (simp (maxSteps := 1000000) [Pair.av, n1, n3, n4, n3', n4'])
          (first | exact hR _ _ FrA | exact hR _ _ FnA | fail "no end")
        · have heb := bne0 he
          rcases m1 he with hx1 | hx1
          · (simp (maxSteps := 1000000) [he, heb, ← hx1])
            (first | exact hR _ _ FrA | exact hR _ _ FnA | fail "no end")
          · by_cases h12 : err = err2
            · (simp (maxSteps := 1000000) [he, heb, ← h12])
              (first | exact hR _ _ FrA | exact hR _ _ FnA | fail "no end")
            · have h12b : (err == err2) = false := by simpa using h12
              (simp (maxSteps := 1000000) [he, heb, h12, h12b, hx1])
              (try (simp only [hx1] at h12 h12b; (simp (maxSteps := 1000000) [h12, h12b])))
              (first | exact hR _ _ FrA | exact hR _ _ FnA | fail "no end")
    · (simp (maxSteps := 1000000) [])
      (refine AWio_app_own (by rfl) (by rfl) (by rfl) ?_ (by decide) ?_ ?_ ?_)
      · exact hGr
      · omega
      · omega
      (simp (maxSteps := 1000000) [])
      (refine AWcall_detw hmk2 (by rfl) (by (exact wkvA)) (by rfl) ?_)
      (simp (maxSteps := 1000000) [pairsD])
      (refine AWcall_det (hck (by omega) q1 q2) (by rfl) (by rfl) ?_)
      (simp (maxSteps := 1000000) [])
      (refine AWcall_det (hck2 (by omega) q1 q2) (by rfl) (by rfl) ?_)
      obtain ⟨m1, m2⟩ := hmono
      by_cases he : err = 0
      · obtain ⟨n1, n2, n3, n4⟩ := m2 he
        have hms := ref11_Missing_calls A out out2 (by have := hbd1.2.2.1; have := hlg1 (by omega) q1 q2; omega) (by have := hbd2.2.2.1; have := hlg2 (by omega) q1 q2; omega)
        rw [missA, missP_none n2] at hms
        have n3' : (lg : Int) ≤ (lg2 : Int) := by omega
        have n4' : (st : Int) ≤ (st2 : Int) := by omega
        (simp (maxSteps := 1000000) [he])
        (refine AWcall_det hms (by rfl) (by rfl) ?_)
        (simp (maxSteps := 1000000) [Pair.av, n1, n3, n4, n3', n4'])
        (first | exact hR _ _ FrA | exact hR _ _ FnA | fail "no end")
      · have heb := bne0 he
        rcases m1 he with hx1 | hx1
        · (simp (maxSteps := 1000000) [he, heb, ← hx1])
          (first | exact hR _ _ FrA | exact hR _ _ FnA | fail "no end")
        · by_cases h12 : err = err2
          · (simp (maxSteps := 1000000) [he, heb, ← h12])
            (first | exact hR _ _ FrA | exact hR _ _ FnA | fail "no end")
          · have h12b : (err == err2) = false := by simpa using h12
            (simp (maxSteps := 1000000) [he, heb, h12, h12b, hx1])
            (try (simp only [hx1] at h12 h12b; (simp (maxSteps := 1000000) [h12, h12b])))
            (first | exact hR _ _ FrA | exact hR _ _ FnA | fail "no end")
end
end Go.AE

/- The law of the reference, of a check. -/
set_option linter.unusedVariables false
namespace Go.AE
open Go
section
theorem law14_result_calls {P : Program} {p : Nums} (A : All P p) (r : Res) : CallsTo P p.law14_result [r.av] [] fun o _ => o = .ret r.av := by
  refine A.law14_result.run rfl fun R hR => ?_
  obtain ⟨out, err, at_, st, lg⟩ := r
  (simp (maxSteps := 1000000) [ic_law14_result, Res.av])
  exact hR _ _ (Fin_wkv _ _ rfl (by (exact wkvA)) rfl)
theorem ref14_Same_calls {P : Program} {p : Nums} (A : All P p) (r : Res) (h0 : r.out.length < 100000) : CallsTo P p.ref14_Same [r.av, r.av] [] fun o _ => o = .ret (AB true) := by
  refine A.ref14_Same.run rfl fun R hR => ?_
  obtain ⟨out, err, at_, st, lg⟩ := r
  have hm := ref11_Same_calls A out out (by simp only at h0; omega) (by simp only at h0; omega)
  rw [decide_eq_true rfl] at hm
  (simp (maxSteps := 1000000) [ic_ref14_Same, Res.av])
  (refine AWcall_det hm (by rfl) (by rfl) ?_)
  (simp (maxSteps := 1000000) [])
  (first | exact hR _ _ FrA | exact hR _ _ FnA | fail "no end")
theorem ref14_small {P : Program} {p : Nums} (A : All P p) (b : Block) (m : MBlock) (l : List Pair) (most : Int) (hs : Srt l) (hl : l.length ≤ 80) (hb : b.code.length ≤ 60) (hm : m.code.length ≤ 200) : CallsTo P p.ref14_Check [b.av, m.av, .d (pairsD l), AI most] [] fun o _ => o = .ret (checkZ b m l most).av :=
  ref14_Check_calls A b m l most hs (fun q hq => ⟨List.mem_append_left _ (List.mem_map_of_mem hq), List.mem_append_left _ (List.mem_map_of_mem hq)⟩) (vlOf_ok b m l) (vlOf_few hl hb hm) (by omega) (by omega) (by omega)
end
section
theorem law14_BlockcheckMatchesReference_calls {P : Program} {p : Nums} (A : All P p) (S : SortOk P p) (C : ClosOk P p) (b : Block) (m : MBlock) (l : List Pair) (most regs slots : Int) (hok : okM m) : CallsTo P p.law14_BlockcheckMatchesReference [b.av, m.av, .d (pairsD l), AI most, AI regs, AI slots] [] fun o _ => o = .ret (AB true) := by
  refine A.law14_BlockcheckMatchesReference.run rfl fun R hR => ?_
  have hr := law14_right_calls A b m regs slots hok
  have hsm := rightZ_small (b := b) (m := m) (regs := regs) (slots := slots)
  obtain ⟨rt, hrt⟩ : ∃ x, x = rightZ b m regs slots := ⟨_, rfl⟩
  rw [← hrt] at hr hsm
  have hmk := ref11_Make_calls A l
  have hml := makeP_len l
  have hsr := srt_makeP l
  obtain ⟨x, hx⟩ : ∃ x, x = makeP l := ⟨_, rfl⟩
  rw [← hx] at hmk hml hsr
  have hck := check_small A S C b m x most
  have hcr := ref14_small A b m x most hsr
  have hbd := checkZ_bd b m x most (makeP_len x)
  have hlg := checkZ_lg (b := b) (m := m) (l := x) (most := most)
  obtain ⟨T, hT⟩ : ∃ T, T = checkZ b m x most := ⟨_, rfl⟩
  rw [← hT] at hck hcr hbd hlg
  have hre := law14_result_calls A T
  have hsa := ref14_Same_calls A T
  obtain ⟨code, kind, ta, to, els⟩ := b
  obtain ⟨mcode, mkind, mta, mto, mels⟩ := m
  obtain ⟨out, err, at_, st, lg⟩ := T
  simp only [Block.av, MBlock.av, Res.av] at hr hck hcr hsm hre hsa hbd hlg
  (simp (maxSteps := 1000000) [ic_law14_BlockcheckMatchesReference, Block.av, MBlock.av, pairsD])
  (refine AWcall_det (law14_awake_calls A S C) (by rfl) (by rfl) ?_)
  (simp (maxSteps := 1000000) [])
  ((first | refine AW_cond_split _ (by rfl) (fun h2 => ?_) (fun h2 => ?_) | refine AWop_split _ (by rfl) (fun h2 => ?_) (fun h2 => ?_)) <;> (try simp only [yy1, yy2, yy3, yy4, yy5, yy6, beq_iff_eq, bne_iff_ne, ne_eq, beq_eq_false_iff_ne, bne_eq_false_iff_eq] at h2))
  · (simp (maxSteps := 1000000) [h2])
    (refine AWcall_det (law14_awake_calls A S C) (by rfl) (by rfl) ?_)
    (simp (maxSteps := 1000000) [])
    (first | exact hR _ _ FrA | exact hR _ _ FnA | fail "no end")
  (simp (maxSteps := 1000000) [h2])
  (refine AWcall_det hr (by rfl) (by rfl) ?_)
  cases rt with
  | false =>
    (simp (maxSteps := 1000000) [])
    (refine AWcall_det (law14_awake_calls A S C) (by rfl) (by rfl) ?_)
    (simp (maxSteps := 1000000) [])
    (first | exact hR _ _ FrA | exact hR _ _ FnA | fail "no end")
  | true =>
    obtain ⟨q1, q2⟩ := hsm rfl
    have b7 := hlg (by omega) q1 q2
    have b3 := hbd.2.2.1
    (simp (maxSteps := 1000000) [])
    (refine AWcall_det (hmk (by omega)) (by rfl) (by rfl) ?_)
    (simp (maxSteps := 1000000) [pairsD])
    (refine AWcall_det (hck (by omega) q1 q2) (by rfl) (by rfl) ?_)
    (simp (maxSteps := 1000000) [])
    (refine AWcall_det hre (by rfl) (by rfl) ?_)
    (simp (maxSteps := 1000000) [])
    (refine AWcall_det (hcr (by omega) q1 q2) (by rfl) (by rfl) ?_)
    (simp (maxSteps := 1000000) [])
    (refine AWcall_det (hsa (by omega)) (by rfl) (by rfl) ?_)
    (simp (maxSteps := 1000000) [])
    (first | exact hR _ _ FrA | exact hR _ _ FnA | fail "no end")
end
end Go.AE

/- The readings of the program's own types. -/
set_option linter.unusedVariables false
namespace Go.AE
open Go
def ltInstr : List LT := [ltI, ltI, ltI, ltI, ltI]
def ltBlock : List LT := [.sl ltInstr, ltI, ltI, ltI, ltI]
theorem instr_of {r : List D} (h : HasL ltInstr r) : ∃ i : Instr, r = i.row := by
  obtain ⟨_, _, rfl, h0, h⟩ := h.cons_inv
  obtain ⟨_, _, rfl, h1, h⟩ := h.cons_inv
  obtain ⟨_, _, rfl, h2, h⟩ := h.cons_inv
  obtain ⟨_, _, rfl, h3, h⟩ := h.cons_inv
  obtain ⟨_, _, rfl, h4, h⟩ := h.cons_inv
  obtain rfl := h.nil_inv
  obtain ⟨a, rfl, _⟩ := h0.int_inv
  obtain ⟨b, rfl, _⟩ := h1.int_inv
  obtain ⟨c, rfl, _⟩ := h2.int_inv
  obtain ⟨d, rfl, _⟩ := h3.int_inv
  obtain ⟨e, rfl, _⟩ := h4.int_inv
  exact ⟨⟨a, b, c, d, e⟩, rfl⟩
theorem block_of {r : List D} (h : HasL ltBlock r) : ∃ b : Block, r = b.row := by
  obtain ⟨_, _, rfl, h0, h⟩ := h.cons_inv
  obtain ⟨_, _, rfl, h1, h⟩ := h.cons_inv
  obtain ⟨_, _, rfl, h2, h⟩ := h.cons_inv
  obtain ⟨_, _, rfl, h3, h⟩ := h.cons_inv
  obtain ⟨_, _, rfl, h4, h⟩ := h.cons_inv
  obtain rfl := h.nil_inv
  obtain ⟨rows, rfl, _, hr⟩ := h0.sl_inv
  obtain ⟨code, rfl⟩ := rows_of (fun r hr => instr_of hr) hr
  obtain ⟨b, rfl, _⟩ := h1.int_inv
  obtain ⟨c, rfl, _⟩ := h2.int_inv
  obtain ⟨d, rfl, _⟩ := h3.int_inv
  obtain ⟨e, rfl, _⟩ := h4.int_inv
  exact ⟨⟨code, ⟨b, c, d, e⟩⟩, rfl⟩
end Go.AE

/- The readings of blocks. -/
set_option linter.unusedVariables false
namespace Go.AE
open Go
def ltMach : List LT := [ltI, ltI, ltI, ltI, ltI, ltI, ltI]
def ltMBlock : List LT := [.sl ltMach, ltI, ltI, ltI, ltI]
theorem int_inv2 {d : D} (h : HasT ltI d) : ∃ n, d = I n ∧ okZ n := by
  obtain ⟨n, rfl, hw⟩ := h.int_inv
  refine ⟨n, rfl, ?_⟩
  simp [Lit.wf, IntKind.min, IntKind.max, IntKind.signed, IntKind.bits] at hw
  exact ⟨by omega, by omega⟩
theorem mach_of {r : List D} (h : HasL ltMach r) : ∃ i : Mach, r = i.row ∧ okZ i.dst ∧ okZ i.src := by
  obtain ⟨_, _, rfl, h0, h⟩ := h.cons_inv
  obtain ⟨_, _, rfl, h1, h⟩ := h.cons_inv
  obtain ⟨_, _, rfl, h2, h⟩ := h.cons_inv
  obtain ⟨_, _, rfl, h3, h⟩ := h.cons_inv
  obtain ⟨_, _, rfl, h4, h⟩ := h.cons_inv
  obtain ⟨_, _, rfl, h5, h⟩ := h.cons_inv
  obtain ⟨_, _, rfl, h6, h⟩ := h.cons_inv
  obtain rfl := h.nil_inv
  obtain ⟨a, rfl, _⟩ := h0.int_inv
  obtain ⟨b, rfl, _⟩ := h1.int_inv
  obtain ⟨c, rfl, _⟩ := h2.int_inv
  obtain ⟨d, rfl, _⟩ := h3.int_inv
  obtain ⟨e, rfl, _⟩ := h4.int_inv
  obtain ⟨f, rfl, o5⟩ := int_inv2 h5
  obtain ⟨g, rfl, o6⟩ := int_inv2 h6
  exact ⟨⟨a, b, c, d, e, f, g⟩, rfl, o5, o6⟩
theorem machs_of {rows : List (List D)} (h : ∀ r ∈ rows, HasL ltMach r) : ∃ l : List Mach, rows = l.map Mach.row ∧ ∀ x ∈ l, okZ x.dst ∧ okZ x.src := by
  induction rows with
  | nil => exact ⟨[], rfl, by simp⟩
  | cons r rows ih =>
    obtain ⟨a, rfl, ha⟩ := mach_of (h r (by simp))
    obtain ⟨l, rfl, hb⟩ := ih fun r hr => h r (by simp [hr])
    refine ⟨a :: l, rfl, fun n hn => ?_⟩
    rcases List.mem_cons.1 hn with rfl | hn
    · exact ha
    · exact hb n hn
theorem mblock_row_of {r : List D} (h : HasL ltMBlock r) : ∃ b : MBlock, r = b.row ∧ okM b := by
  obtain ⟨_, _, rfl, h0, h⟩ := h.cons_inv
  obtain ⟨_, _, rfl, h1, h⟩ := h.cons_inv
  obtain ⟨_, _, rfl, h2, h⟩ := h.cons_inv
  obtain ⟨_, _, rfl, h3, h⟩ := h.cons_inv
  obtain ⟨_, _, rfl, h4, h⟩ := h.cons_inv
  obtain rfl := h.nil_inv
  obtain ⟨rows, rfl, _, hr⟩ := h0.sl_inv
  obtain ⟨code, rfl, hok⟩ := machs_of hr
  obtain ⟨b, rfl, _⟩ := h1.int_inv
  obtain ⟨c, rfl, _⟩ := h2.int_inv
  obtain ⟨d, rfl, _⟩ := h3.int_inv
  obtain ⟨e, rfl, _⟩ := h4.int_inv
  exact ⟨⟨code, ⟨b, c, d, e⟩⟩, rfl, hok⟩
theorem mblockA_of {ds : List D} (h : HasL ltMBlock ds) : ∃ b : MBlock, .agg (ds.map AV.d) = b.av ∧ okM b := by
  obtain ⟨b, rfl, hb⟩ := mblock_row_of h
  exact ⟨b, rfl, hb⟩
theorem blockA_of {ds : List D} (h : HasL ltBlock ds) : ∃ b : Block, .agg (ds.map AV.d) = b.av := by
  obtain ⟨b, rfl⟩ := block_of h
  exact ⟨b, rfl⟩
end Go.AE
