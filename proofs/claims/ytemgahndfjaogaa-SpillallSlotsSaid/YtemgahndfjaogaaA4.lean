/- A part of the proof: the evaluator over abstract values, its codes, the contracts of the functions. -/
import Derived.Test.YtemgahndfjaogaaA3
set_option linter.unusedVariables false
set_option linter.unusedSimpArgs false
namespace Go.AE
open Go
theorem Jt4q {code : List Instr} {mach : List Mach} : ∀ (f i k : Nat) (rows : List ARow), i ≤ code.length → k ≤ mach.length → (∀ r ∈ rows, RowOk code mach r) → rows.length ≤ i →
  (∀ r ∈ (alignS code mach f i k rows).1, RowOk code mach r) ∧ (alignS code mach f i k rows).1.length ≤ code.length + 1 ∧ (alignS code mach f i k rows).2.1 ≤ mach.length := by
 intro f
 induction f with
 | zero => intro i k rows hi hk h hl; exact ⟨fun r hr => by simp [alignS] at hr, by simp [alignS], by simpa [alignS] using hk⟩
 | succ f ih =>
  intro i k rows hi hk h hl
  have h1 := Jti2 (f := isCopy) hi
  have h2 := Jti2 (f := isMove) hk
  have h3 := Jti1 isCopy code i
  have h4 := Jti1 isMove mach k
  simp only [alignS]
  split
  ·refine ⟨fun r hr => ?_, by simp; omega, h2⟩
   rcases List.mem_append.1 hr with hr | hr
   ·exact h r hr
   ·simp only [List.mem_singleton] at hr
    subst hr
    exact ⟨⟨h3, h1⟩, ⟨h4, h2⟩, fun h => by simp at h⟩
  ·split
   ·rename_i x y hx hy
    have hx' := (List.getElem?_eq_some_iff.1 hx).1
    have hy' := (List.getElem?_eq_some_iff.1 hy).1
    split
    ·refine ih _ _ _ hx' hy' (fun r hr => ?_) (by simp only [List.length_append, List.length_singleton]; omega)
     rcases List.mem_append.1 hr with hr | hr
     ·exact h r hr
     ·simp only [List.mem_singleton] at hr
      subst hr
      exact ⟨⟨h3, h1⟩, ⟨h4, h2⟩, fun _ => ⟨by simp; omega, by simp, by simp; omega⟩⟩
    ·exact ⟨fun r hr => by simp at hr, by simp, h2⟩
   ·exact ⟨fun r hr => by simp at hr, by simp, h2⟩
theorem Jt4s (code : List Instr) (mach : List Mach) : (∀ r ∈ (alignZ code mach).1, RowOk code mach r) ∧ (alignZ code mach).1.length ≤ code.length + 1 ∧ (alignZ code mach).2.1 ≤ mach.length :=
 Jt4q _ 0 0 [] (Nat.zero_le _) (Nat.zero_le _) (fun r hr => by simp at hr) (Nat.le_refl _)
theorem Jtet {code : List Instr} {mach : List Mach} {rows : List ARow} (h : ∀ r ∈ rows, RowOk code mach r) : needRs rows ≤ rows.length * (3 + mach.length + code.length) := by
 induction rows with
 | nil => simp [needRs]
 | cons r rows ih =>
  have h1 := h r (by simp)
  have h2 := ih fun r hr => h r (by simp [hr])
  rw [Jtes, List.length_cons, Nat.add_mul, Nat.one_mul]
  have := h1.hc
  have := h1.hm
  unfold needR; omega
structure Res where (out : List Pair) (err at_ : Int) (steps largest : Nat)
 deriving DecidableEq
def Res.av (r : Res) : AV := .agg [.d (pairsD r.out), AI r.err, AI r.at_, AI r.steps, AI r.largest]
def checkZ (b : Block) (m : MBlock) (l : List Pair) (most : Int) : Res :=
 if (l.length : Int) > most then ⟨[], 24, 0, 0, l.length⟩
 else
  let a := alignZ b.code m.code
  let why := if a.2.2 = 0 ∧ termsZ b.term m.term = false then 20 else a.2.2
  if why ≠ 0 then ⟨[], why, a.2.1, 0, l.length⟩
  else
   let r := runC most b m a.1 ⟨makeP l, 0, l.length⟩
   ⟨if (runE m r.2).1 = 0 then r.1.set else [], (runE m r.2).1, (runE m r.2).2, r.1.steps, r.1.largest⟩
section
end
def okZ (n : Int) : Prop := -9223372036854775808 ≤ n ∧ n ≤ 9223372036854775807
def Jtgd (i : Mach) (regs slots : Int) : Int :=
 if i.op < 1 ∨ 18 < i.op ∨ i.op = 2 then 8
 else if i.op = 18 then
  if rngZ i.dst regs slots = false ∨ rngZ i.src regs slots = false ∨ (i.dst.tmod 2 = 1 ∧ i.src.tmod 2 = 1) then 10
  else if i.d ≠ 0 ∨ i.a ≠ 0 ∨ i.b ≠ 0 ∨ i.imm ≠ 0 then 12 else 0
 else if Jtga ⟨i.op, i.d, i.a, i.b, i.imm⟩ regs = 0 ∧ (i.dst ≠ 0 ∨ i.src ≠ 0) then 12 else Jtga ⟨i.op, i.d, i.a, i.b, i.imm⟩ regs
section
end
def mErr (code : List Mach) (regs slots : Int) (j : Nat) : Int := match code[j]? with
 | none => 0
 | some x => if Jtgd x regs slots ≠ 0 then Jtgd x regs slots else if 64 ≤ j ∧ 64 < Jtge ((code.take (j + 1)).drop (j - 64)) then 15 else 0
def mErrs (code : List Mach) (regs slots : Int) : Int := Jt8f ((List.range code.length).map (mErr code regs slots))
def Jtgb (b : MBlock) (regs slots blocks : Int) : Int := if mErrs b.code regs slots ≠ 0 then mErrs b.code regs slots else Jtgg b.term regs blocks
def Jtgc (f : MFunc) : Int :=
 if f.args < 0 ∨ f.slots < f.args then 10 else if f.regs < 0 then 9 else if 1048576 < f.slots ∨ 1048576 < f.regs then 6 else if f.blocks.length = 0 then 14 else if 1048576 < f.blocks.length ∨ 1048576 < mcodeN f.blocks then 6
 else Jt8f (f.blocks.map fun b => Jtgb b f.regs f.slots f.blocks.length)
def okM (b : MBlock) : Prop := ∀ x ∈ b.code, okZ x.dst ∧ okZ x.src
section
end
structure Bd (most : Int) (m n : Nat) (s : CS) (r : CR) : Prop where
 steps : r.1.steps ≤ s.steps + n * (r.1.largest + 1)
 lg : s.largest ≤ r.1.largest
 set : r.1.set.length ≤ r.1.largest
 most : r.2 = none → (s.largest : Int) ≤ most → (r.1.largest : Int) ≤ most
 fail : ∀ e, r.2 = some e → e.1 ≠ 0 ∧ 0 ≤ e.2 ∧ e.2 ≤ m
section
variable {most : Int} {m : Nat} {s : CS}
theorem Bd.refl (h : s.set.length ≤ s.largest) : Bd most m 0 s (s, none) := ⟨by simp, Nat.le_refl _, h, fun _ h => h, fun e h => by cases h⟩
theorem Bd.mono {n n' : Nat} {r : CR} (h : Bd most m n s r) (hn : n ≤ n') : Bd most m n' s r :=
 ⟨Nat.le_trans h.steps (Nat.add_le_add_left (Nat.mul_le_mul_right _ hn) _), h.lg, h.set, h.most, h.fail⟩
theorem Bd.then {n1 n2 : Nat} {r : CR} {f : CS → CR} (h : Bd most m n1 s r) (hf : ∀ s1, r = (s1, none) → Bd most m n2 s1 (f s1)) : Bd most m (n1 + n2) s (thenC r f) := by
 obtain ⟨s1, e⟩ := r
 cases e with
 | some e => rw [Jtky]; exact h.mono (by omega)
 | none =>
  rw [Jtkx]
  have h2 := hf s1 rfl
  refine ⟨?_, Nat.le_trans h.lg h2.lg, h2.set, fun hn hm => h2.most hn (h.most rfl hm), h2.fail⟩
  have k1 := h.steps
  have k2 := h2.steps
  have k3 := h2.lg
  simp only at k1 k3
  have k4 : n1 * (s1.largest + 1) ≤ n1 * ((f s1).1.largest + 1) := Nat.mul_le_mul_left _ (by omega)
  rw [Nat.add_mul]
  omega
theorem Bd.use {v t at_ : Int} (h : s.set.length ≤ s.largest) (h0 : 0 ≤ at_) (h1 : at_ ≤ m) : Bd most m 1 s (useC s v t at_) := by
 refine ⟨?_, Nat.le_refl _, h, fun _ h => h, fun e he => ?_⟩
 ·simp only [useC, costC]; omega
 ·simp only [useC] at he
  split at he
  ·cases he
  ·injection he with he; subst he; exact ⟨by simp, h0, h1⟩
theorem Bd.step {l : List Pair} {at_ : Int} (h : s.set.length ≤ s.largest) (h0 : 0 ≤ at_) (h1 : at_ ≤ m) : Bd most m 1 s (Jt60 most (costC s) l at_) := by
 refine ⟨?_, ?_, ?_, fun hn hm => ?_, fun e he => ?_⟩
 ·simp only [Jt60, costC]; omega
 ·simp only [Jt60, costC]; omega
 ·simp only [Jt60, costC]; omega
 ·simp only [Jt60, costC] at hn ⊢
  split at hn
  ·cases hn
  ·omega
 ·simp only [Jt60] at he
  split at he
  ·injection he with he; subst he; exact ⟨by simp, h0, h1⟩
  ·cases he
theorem Jt78 {at_ : Int} (h0 : 0 ≤ at_) (h1 : at_ ≤ m) : ∀ {l : List Instr} {s : CS}, s.set.length ≤ s.largest → Bd most m l.length s (copyC most at_ l s) := by
 intro l
 induction l with
 | nil => intro s h; exact .refl h
 | cons i l ih =>
  intro s h
  simp only [copyC, List.length_cons]
  rw [Nat.add_comm]
  refine (Bd.step h h0 h1).then fun s1 hs1 => ih ?_
  have := (Bd.step (most := most) (m := m) (l := copyP s.set i.d i.a) h h0 h1).set
  rw [hs1] at this; exact this
theorem Jten : ∀ {l : List Mach} {k : Nat} {s : CS}, k + l.length ≤ m → s.set.length ≤ s.largest → Bd most m l.length s (moveC most k l s) := by
 intro l
 induction l with
 | nil => intro k s _ h; exact .refl h
 | cons i l ih =>
  intro k s hk h
  simp only [moveC, List.length_cons] at hk ⊢
  rw [Nat.add_comm l.length 1]
  have hst := Bd.step (most := most) (m := m) (l := moveP s.set i.dst i.src) (at_ := k) h (by omega) (by omega)
  refine hst.then fun s1 hs1 => ih (by omega) ?_
  have := hst.set
  rw [hs1] at this; exact this
theorem Jtc0 {i : Instr} {x : Mach} {at_ : Int} (h : s.set.length ≤ s.largest) (h0 : 0 ≤ at_) (h1 : at_ ≤ m) : Bd most m 3 s (instrC most s i x at_) := by
 unfold instrC
 refine Bd.then (n1 := 1) (n2 := 2) ?_ fun s1 hs1 => Bd.then (n1 := 1) (n2 := 1) ?_ fun s2 hs2 => ?_
 ·split
  ·exact .use h h0 h1
  ·exact (Bd.refl h).mono (by omega)
 ·have k1 : s1.set.length ≤ s1.largest := by
   split at hs1
   ·have := (Bd.use (most := most) (m := m) (v := i.a) (t := regZ x.a) h h0 h1).set; rw [hs1] at this; exact this
   ·injection hs1 with hs1; subst hs1; exact h
  split
  ·exact .use k1 h0 h1
  ·exact (Bd.refl k1).mono (by omega)
 ·have k1 : s1.set.length ≤ s1.largest := by
   split at hs1
   ·have := (Bd.use (most := most) (m := m) (v := i.a) (t := regZ x.a) h h0 h1).set; rw [hs1] at this; exact this
   ·injection hs1 with hs1; subst hs1; exact h
  have k2 : s2.set.length ≤ s2.largest := by
   split at hs2
   ·have := (Bd.use (most := most) (m := m) (v := i.b) (t := regZ x.b) k1 h0 h1).set; rw [hs2] at this; exact this
   ·injection hs2 with hs2; subst hs2; exact k1
  split
  ·exact .step k2 h0 h1
  ·exact (Bd.refl k2).mono (by omega)
end
def costR (r : ARow) : Nat := (r.ct - r.cf) + (r.mt - r.mf) + if 0 ≤ r.src then 3 else 0
theorem Jth3 {most : Int} {b : List Instr} {mc : List Mach} {r : ARow} {s : CS} (h : s.set.length ≤ s.largest) (hr : RowOk b mc r) : Bd most mc.length (costR r) s (rowC most b mc r s) := by
 unfold rowC costR
 have hl1 : ((b.take r.ct).drop r.cf).length = r.ct - r.cf := by have := hr.hc; simp; omega
 have hl2 : ((mc.take r.mt).drop r.mf).length = r.mt - r.mf := by have := hr.hm; simp; omega
 have b1 := Jt78 (most := most) (m := mc.length) (at_ := r.mf) (by omega) (by have := hr.hm; omega) (l := (b.take r.ct).drop r.cf) h
 rw [hl1] at b1
 rw [Nat.add_assoc]
 refine b1.then fun s1 hs1 => ?_
 have k1 := b1.set
 rw [hs1] at k1
 have b2 := Jten (most := most) (m := mc.length) (k := r.mf) (l := (mc.take r.mt).drop r.mf) (s := s1) (by have := hr.hm; rw [hl2]; omega) k1
 rw [hl2] at b2
 refine b2.then fun s2 hs2 => ?_
 have k2 := b2.set
 rw [hs2] at k2
 unfold lastC
 split
 ·rename_i h0
  obtain ⟨q1, q2, q3⟩ := hr.hs h0
  split
  ·exact Jtc0 k2 q2 (by omega)
  ·exact (Bd.refl k2).mono (by omega)
 ·exact (Bd.refl k2).mono (by omega)
def costRs (rs : List ARow) : Nat := (rs.map costR).sum
theorem Jth7 {most : Int} {b : List Instr} {mc : List Mach} : ∀ {rs : List ARow} {s : CS}, s.set.length ≤ s.largest → (∀ r ∈ rs, RowOk b mc r) → Bd most mc.length (costRs rs) s (rowsC most b mc rs s) := by
 intro rs
 induction rs with
 | nil => intro s h _; exact .refl h
 | cons r rs ih =>
  intro s h hr
  have b1 := Jth3 (most := most) h (hr r (by simp))
  have e : costRs (r :: rs) = costR r + costRs rs := by simp [costRs]
  rw [e]
  refine b1.then fun s1 hs1 => ih ?_ fun r hr' => hr r (by simp [hr'])
  have := b1.set
  rw [hs1] at this; exact this
theorem Jthb {most : Int} {b : Block} {m : MBlock} {rs : List ARow} {s : CS} (h : s.set.length ≤ s.largest) (hr : ∀ r ∈ rs, RowOk b.code m.code r) : Bd most m.code.length (costRs rs + 1) s (runC most b m rs s) := by
 unfold runC
 have b1 := Jth7 (most := most) h hr
 refine b1.then fun s1 hs1 => ?_
 have k1 := b1.set
 rw [hs1] at k1
 split
 ·exact (Bd.refl k1).mono (by omega)
 ·exact .use k1 (by omega) (by omega)
theorem Jt7a (a b : List ARow) : costRs (a ++ b) = costRs a + costRs b := by simp [costRs]
theorem Jt4p {code : List Instr} {mach : List Mach} : ∀ (f i k : Nat) (rows : List ARow), i ≤ code.length → k ≤ mach.length → costRs rows ≤ i + 3 * k →
  costRs (alignS code mach f i k rows).1 ≤ code.length + 3 * mach.length := by
 intro f
 induction f with
 | zero => intro i k rows hi hk h; simp [alignS, costRs]
 | succ f ih =>
  intro i k rows hi hk h
  have h1 := Jti2 (f := isCopy) hi
  have h2 := Jti2 (f := isMove) hk
  have h3 := Jti1 isCopy code i
  have h4 := Jti1 isMove mach k
  simp only [alignS]
  split
  ·rename_i hc
   rw [Jt7a]
   simp only [costRs, List.map_cons, List.map_nil, List.sum_cons, List.sum_nil, costR] at h ⊢
   rw [if_neg (by omega)]
   omega
  ·split
   ·rename_i x y hx hy
    have hx' := (List.getElem?_eq_some_iff.1 hx).1
    have hy' := (List.getElem?_eq_some_iff.1 hy).1
    split
    ·refine ih _ _ _ hx' hy' ?_
     rw [Jt7a]
     simp only [costRs, List.map_cons, List.map_nil, List.sum_cons, List.sum_nil, costR] at h ⊢
     rw [if_pos (by omega)]
     omega
    ·simp [costRs]
   ·simp [costRs]
theorem Jt4r (code : List Instr) (mach : List Mach) : costRs (alignZ code mach).1 ≤ code.length + 3 * mach.length := Jt4p _ 0 0 [] (Nat.zero_le _) (Nat.zero_le _) (by simp [costRs])
theorem Jt6s (b : Block) (m : MBlock) (l : List Pair) (most : Int) (hl : (makeP l).length ≤ l.length) : (checkZ b m l most).steps ≤ (3 * m.code.length + b.code.length + 1) * ((checkZ b m l most).largest + 1) ∧ l.length ≤ (checkZ b m l most).largest ∧
  (checkZ b m l most).out.length ≤ (checkZ b m l most).largest ∧ ((checkZ b m l most).err = 0 → ((checkZ b m l most).largest : Int) ≤ most) ∧ 0 ≤ (checkZ b m l most).at_ ∧ (checkZ b m l most).at_ ≤ m.code.length := by
 obtain ⟨a1, a2, a3⟩ := Jt4s b.code m.code
 have hc := Jt4r b.code m.code
 unfold checkZ
 split
 ·exact ⟨Nat.zero_le _, Nat.le_refl _, Nat.zero_le _, fun h => by simp at h, by simp, by simp⟩
 ·rename_i h1
  by_cases h2 : (if (alignZ b.code m.code).2.2 = 0 ∧ termsZ b.term m.term = false then 20 else (alignZ b.code m.code).2.2) ≠ 0
  ·simp only [if_pos h2]
   exact ⟨Nat.zero_le _, Nat.le_refl _, Nat.zero_le _, fun h => absurd h h2, by simp, by simpa using a3⟩
  ·simp only [if_neg h2]
   have hb := Jthb (most := most) (b := b) (m := m) (rs := (alignZ b.code m.code).1) (s := ⟨makeP l, 0, l.length⟩) hl a1
   generalize runC most b m (alignZ b.code m.code).1 ⟨makeP l, 0, l.length⟩ = r at hb
   obtain ⟨t, e⟩ := r
   obtain ⟨k1, k2, k3, k4, k5⟩ := hb
   simp only at k1 k2 k3 k4 k5 ⊢
   refine ⟨?_, k2, ?_, fun h => ?_, ?_, ?_⟩
   ·have : (costRs (alignZ b.code m.code).1 + 1) * (t.largest + 1) ≤ (3 * m.code.length + b.code.length + 1) * (t.largest + 1) := Nat.mul_le_mul_right _ (by omega)
    omega
   ·split
    ·exact k3
    ·simp
   ·cases e with
    | none => exact k4 rfl (by omega)
    | some e => exact absurd h (k5 e rfl).1
   ·cases e with
    | none => simp [runE]
    | some e => exact (k5 e rfl).2.1
   ·cases e with
    | none => simp [runE]
    | some e => exact (k5 e rfl).2.2
def smallZ (b : Block) (m : MBlock) (regs slots : Int) : Prop :=
 ¬ (60 : Int) < (b.code.length : Int) ∧ ¬ (200 : Int) < (m.code.length : Int) ∧ ¬ 20 < regs ∧ ¬ 20 < slots ∧ ¬ 30 < b.term.to ∧ ¬ 30 < b.term.els ∧ ¬ 30 < m.term.to ∧ ¬ 30 < m.term.els ∧ ¬ b.term.to < 0 ∧ ¬ b.term.els < 0
instance (b : Block) (m : MBlock) (regs slots : Int) : Decidable (smallZ b m regs slots) := by unfold smallZ; infer_instance
section
end
section
end
section
end
section
end
def okC (r : CR) : Prop := ∀ e, r.2 = some e → e.1 ≠ 0
theorem okC.then {r : CR} {f : CS → CR} (h : okC r) (hf : ∀ s, okC (f s)) : okC (thenC r f) := by
 obtain ⟨s, e⟩ := r
 cases e with
 | none => exact hf s
 | some e => exact h
structure Inv14 (V L : List Int) (most : Int) (code : List Instr) (mcode : List Mach) (rows : List ARow) (T : CR) (x : Nat × CR) : Prop where
 le : x.1 ≤ rows.length
 eq : thenC x.2 (rowsC most code mcode (rows.drop x.1)) = T
 ok : okC x.2
 room : x.2.2 = none → Room V L x.2.1 (1 + needRs (rows.drop x.1))
section
end
section
end
theorem Jth8 {V L : List Int} {most : Int} {b : List Instr} {m : List Mach} (hv : VLOk V L b m) : ∀ {rs : List ARow} {s : CS} {n : Nat}, Room V L s (n + needRs rs) → (∀ r ∈ rs, RowOk b m r) → Room V L (rowsC most b m rs s).1 n := by
 intro rs
 induction rs with
 | nil => intro s n h _; simpa [needRs, rowsC] using h
 | cons r rs ih =>
  intro s n h hr
  rw [Jtes] at h
  have hro := hr r (by simp)
  have hl1 : ((m.take r.mt).drop r.mf).length = r.mt - r.mf := by have := hro.hm; simp; omega
  have hl2 : ((b.take r.ct).drop r.cf).length = r.ct - r.cf := by have := hro.hc; simp; omega
  have h1 := Jth4 (n := n + needRs rs) (most := most) (r := r) (h.mono (by rw [hl1, hl2]; unfold needR; omega)) hv
  simp only [rowsC]
  generalize rowC most b m r s = q at h1
  obtain ⟨s1, e⟩ := q
  cases e with
  | some e => rw [Jtky]; exact h1.mono (by omega)
  | none => rw [Jtkx]; exact ih h1 fun r hr' => hr r (by simp [hr'])
theorem Jthc {V L : List Int} {most : Int} {b : Block} {m : MBlock} (hv : VLOk V L b.code m.code) {rs : List ARow} {s : CS} {n : Nat} (h : Room V L s (n + 1 + needRs rs)) (hr : ∀ r ∈ rs, RowOk b.code m.code r) : Room V L (runC most b m rs s).1 n := by
 unfold runC
 have h1 := Jth8 (most := most) hv h hr
 generalize rowsC most b.code m.code rs s = q at h1
 obtain ⟨s1, e⟩ := q
 cases e with
 | some e => rw [Jtky]; exact h1.mono (by omega)
 | none =>
  rw [Jtkx]
  split
  ·exact h1.mono (by omega)
  ·exact h1.use _ _ _
theorem Jt6t {V L : List Int} {b : Block} {m : MBlock} {l : List Pair} {most : Int} (hl : ∀ q ∈ l, q.v ∈ V ∧ q.l ∈ L) (hv : VLOk V L b.code m.code) (few : V.length * L.length < 100000) (hl0 : l.length < 100000)
  (hb0 : b.code.length ≤ 1000) (hm0 : m.code.length ≤ 1000) : (checkZ b m l most).largest < 100000 ∧ ∀ q ∈ (checkZ b m l most).out, q.v ∈ V ∧ q.l ∈ L := by
 obtain ⟨a1, a2, a3⟩ := Jt4s b.code m.code
 unfold checkZ
 split
 ·exact ⟨hl0, fun q hq => by simp at hq⟩
 ·by_cases h2 : (if (alignZ b.code m.code).2.2 = 0 ∧ termsZ b.term m.term = false then 20 else (alignZ b.code m.code).2.2) ≠ 0
  ·simp only [if_pos h2]; exact ⟨hl0, fun q hq => by simp at hq⟩
  ·simp only [if_neg h2]
   have hover : Over V L (makeP l) := ⟨Jtjo l, fun q hq => hl q (Jte8.1 hq)⟩
   have hroom : Room V L ⟨makeP l, 0, l.length⟩ (0 + 1 + needRs (alignZ b.code m.code).1) := by
    refine ⟨hover, few, ?_, by simp only; omega⟩
    have h1 := Jtet a1
    have h2 : (alignZ b.code m.code).1.length * (3 + m.code.length + b.code.length) ≤ 1001 * 2003 := Nat.mul_le_mul (by omega) (by omega)
    simp only
    omega
   have hr := Jthc (most := most) hv hroom a1
   generalize runC most b m (alignZ b.code m.code).1 ⟨makeP l, 0, l.length⟩ = r at hr
   obtain ⟨t, e⟩ := r
   refine ⟨hr.lg, fun q hq => ?_⟩
   simp only at hq
   split at hq
   ·exact hr.over.mem q hq
   ·simp at hq
section
end
section
end
def Jtdu : List LT := [ltI, ltI, ltI, ltI, ltI]
def Jtdt : List LT := [.sl Jtdu, ltI, ltI, ltI, ltI]
def ltFunc : List LT := [ltI, ltI, .sl Jtdt]
theorem Jtc4 {r : List D} (h : HasL Jtdu r) : ∃ i : Instr, r = i.row := by
 obtain ⟨_, _, rfl, h0, h⟩ := h.cons_inv
 obtain ⟨_, _, rfl, h1, h⟩ := h.cons_inv
 obtain ⟨_, _, rfl, h2, h⟩ := h.cons_inv
 obtain ⟨_, _, rfl, h3, h⟩ := h.cons_inv
 obtain ⟨_, _, rfl, h4, h⟩ := h.cons_inv
 obtain rfl := h.nil_inv
 obtain ⟨a, rfl, _⟩ := h0.int_inv
 obtain ⟨b, rfl, _⟩ := h1.int_inv
 obtain ⟨c, rfl, _⟩ := h2.int_inv
 obtain ⟨d, rfl, _⟩ := h3.int_inv
 obtain ⟨e, rfl, _⟩ := h4.int_inv
 exact ⟨⟨a, b, c, d, e⟩, rfl⟩
theorem Jt63 {r : List D} (h : HasL Jtdt r) : ∃ b : Block, r = b.row := by
 obtain ⟨_, _, rfl, h0, h⟩ := h.cons_inv
 obtain ⟨_, _, rfl, h1, h⟩ := h.cons_inv
 obtain ⟨_, _, rfl, h2, h⟩ := h.cons_inv
 obtain ⟨_, _, rfl, h3, h⟩ := h.cons_inv
 obtain ⟨_, _, rfl, h4, h⟩ := h.cons_inv
 obtain rfl := h.nil_inv
 obtain ⟨rows, rfl, _, hr⟩ := h0.sl_inv
 obtain ⟨code, rfl⟩ := Jtha (fun r hr => Jtc4 hr) hr
 obtain ⟨b, rfl, _⟩ := h1.int_inv
 obtain ⟨c, rfl, _⟩ := h2.int_inv
 obtain ⟨d, rfl, _⟩ := h3.int_inv
 obtain ⟨e, rfl, _⟩ := h4.int_inv
 exact ⟨⟨code, ⟨b, c, d, e⟩⟩, rfl⟩
theorem Jt8v {ds : List D} (h : HasL ltFunc ds) : ∃ f : Func, .agg (ds.map AV.d) = f.av := by
 obtain ⟨_, _, rfl, h0, h⟩ := h.cons_inv
 obtain ⟨_, _, rfl, h1, h⟩ := h.cons_inv
 obtain ⟨_, _, rfl, h2, h⟩ := h.cons_inv
 obtain rfl := h.nil_inv
 obtain ⟨a, rfl, _⟩ := h0.int_inv
 obtain ⟨b, rfl, _⟩ := h1.int_inv
 obtain ⟨rows, rfl, _, hr⟩ := h2.sl_inv
 obtain ⟨bs, rfl⟩ := Jtha (fun r hr => Jt63 hr) hr
 exact ⟨⟨a, b, bs⟩, rfl⟩
theorem Jthy {x : Int} (h1 : 1 ≤ x) (h2 : x ≤ 17) : (shapeZ x).D = usesD x ∧ (shapeZ x).A = usesA x ∧ (shapeZ x).B = usesB x ∧ (shapeZ x).Imm = (x == 1) := by
 have : x = 1 ∨ x = 2 ∨ x = 3 ∨ x = 4 ∨ x = 5 ∨ x = 6 ∨ x = 7 ∨ x = 8 ∨ x = 9 ∨ x = 10 ∨ x = 11 ∨ x = 12 ∨ x = 13 ∨ x = 14 ∨ x = 15 ∨ x = 16 ∨ x = 17 := by omega
 rcases this with h | h | h | h | h | h | h | h | h | h | h | h | h | h | h | h | h <;> subst h <;> decide
theorem Jtig (x : Int) : Jti9 x = decide (1 ≤ x ∧ x ≤ 17) := by
 rw [Bool.eq_iff_iff]; simp only [Jti9, knownZ, Bool.and_eq_true, decide_eq_true_eq, bne_iff_ne, ne_eq]; omega
theorem out_eq (u : Bool) (v n : Int) : (u && (decide (v < 0) || decide (n ≤ v))) = (u && !inZ v n) := by
 cases u
 ·rfl
 ·rw [Bool.eq_iff_iff]; simp [inZ]
theorem Jtc2 (i : Instr) (regs : Int) : Jtjd i regs = Jtga i regs := by
 unfold Jtjd Jtga
 by_cases h : i.op < 1 ∨ 17 < i.op
 ·rw [if_pos h, if_pos (by rw [Jtig]; simp only [decide_eq_false_iff_not]; omega)]
 ·obtain ⟨hD, hA, hB, hI⟩ := Jthy (x := i.op) (by omega) (by omega)
  rw [if_neg h, if_neg (by rw [Jtig]; simp only [decide_eq_false_iff_not]; omega)]
  have e1 : Jtlk (flds i regs) = !bad9 i regs := by
   simp only [Jtlk, flds, bad9, List.any_cons, List.any_nil, Field.bad, hD, hA, hB, out_eq, Bool.or_false, Bool.or_assoc]
  have e2 : blankZ (flds i regs) = !(!usesD i.op && i.d != 0 || !usesA i.op && i.a != 0 || !usesB i.op && i.b != 0) := by
   simp only [blankZ, flds, List.any_cons, List.any_nil, Field.odd, hD, hA, hB, Bool.or_false, Bool.or_assoc]
  have e3 : bad12 i = ((!usesD i.op && i.d != 0 || !usesA i.op && i.a != 0 || !usesB i.op && i.b != 0) || i.op != 1 && i.imm != 0) := rfl
  rw [e1, e2, e3, hI]
  generalize bad9 i regs = p1
  generalize (!usesD i.op && i.d != 0 || !usesA i.op && i.a != 0 || !usesB i.op && i.b != 0) = p2
  cases p1
  ·cases p2
   ·by_cases c1 : i.op = 1 <;> by_cases c2 : i.imm = 0 <;> simp [c1, c2]
   ·simp
  ·simp
theorem Jtku (t : Term) (regs blocks : Int) : Jtje t regs blocks = Jtgg t regs blocks := by
 unfold Jtje Jtgg
 by_cases h : t.kind < 1 ∨ 3 < t.kind
 ·rw [if_pos h, if_neg (by omega), if_neg (by omega), if_neg (by omega)]
 ·rw [if_neg h]
  have hk : t.kind = 1 ∨ t.kind = 2 ∨ t.kind = 3 := by omega
  have e1 : Jtlk ((fldsT t regs blocks).take 1) = !((t.kind != 1) && !inZ t.a regs) := by
   simp only [Jtlk, fldsT, List.take_succ_cons, List.take_zero, List.any_cons, List.any_nil, Field.bad, out_eq, Bool.or_false]
  have e2 : Jtlk ((fldsT t regs blocks).drop 1) = !((t.kind != 3) && !inZ t.to blocks || (t.kind == 2) && !inZ t.els blocks) := by
   simp only [Jtlk, fldsT, List.drop_succ_cons, List.drop_zero, List.any_cons, List.any_nil, Field.bad, out_eq, Bool.or_false]
  have e3 : blankZ (fldsT t regs blocks) = !((!(t.kind != 1) && t.a != 0) || (!(t.kind != 3) && t.to != 0) || (!(t.kind == 2) && t.els != 0)) := by
   simp only [blankZ, fldsT, List.any_cons, List.any_nil, Field.odd, Bool.or_false, Bool.or_assoc]
  rw [e1, e2, e3]
  rcases hk with hk | hk | hk <;> rw [hk] <;> cases inZ t.a regs <;> cases inZ t.to blocks <;> cases inZ t.els blocks <;> by_cases ca : t.a = 0 <;> by_cases ct : t.to = 0 <;> by_cases ce : t.els = 0 <;> simp [ca, ct, ce]
theorem Jt6v (f : Func) : Jtjb f = Jtg9 f := by
 have e : ∀ b : Block, Jtja b f.regs f.blocks.length = Jtg8 b f.regs f.blocks.length := by
  intro b
  simp only [Jtja, Jtg8, Jtc2, Jtku]
 simp only [Jtjb, Jtg9, e]
section
variable {P : Program} {q : Bool} {K : ASt → Prop} {QP : AV → ASt → Prop} {dst : Option Nat} {st : ASt}
@[simp] def goCV (K : ASt → Prop) (dst : Option Nat) (st : ASt) (P : Program) (q : Bool) (QP : AV → ASt → Prop) : Option AV → Option (List AV) → Prop
 | some (.fn (.func f) xs bs), some cs => okFn P f = true ∧ AWcall P q f (xs ++ cs ++ bs) dst K QP st
 | _, _ => False
@[simp] theorem Jt1j {x : Opd} {args : List Opd} : AWio P q (.callv x args) dst K QP st ↔ goCV K dst st P q QP (evr st.env x) (evs st.env args) := by
 constructor
 ·rintro ⟨f, xs, bs, cs, h1, h2, h3, h4⟩; rw [h1, h3]; exact ⟨h2, h4⟩
 ·intro h
  unfold goCV at h
  split at h
  ·rename_i f xs bs cs h1 h3; exact ⟨f, xs, bs, cs, h1, h.1, h3, h.2⟩
  ·exact h.elim
end
def runN (n : Nat) (m : Mach) : Nat := if m.op = 18 then n + 1 else 0
def runF (l : List Mach) : Nat := l.foldl runN 0
theorem Jthf {l : List Mach} {j : Nat} (h : j < l.length) : runF (l.take (j + 1)) = runN (runF (l.take j)) l[j] := by
 unfold runF
 rw [List.take_succ_eq_append_getElem h, List.foldl_append]
 rfl
theorem Jthe {l : List Mach} : ∀ {j k : Nat}, j ≤ l.length → (k ≤ runF (l.take j) ↔ k ≤ j ∧ ∀ i x, j - k ≤ i → i < j → l[i]? = some x → x.op = 18) := by
 intro j
 induction j with
 | zero =>
  intro k _
  simp only [List.take_zero, runF, List.foldl_nil]
  constructor
  ·intro h; exact ⟨h, fun i x _ h2 => by omega⟩
  ·intro h; exact h.1
 | succ j ih =>
  intro k hj
  have hjl : j < l.length := by omega
  have hji : l[j]? = some l[j] := by simp [hjl]
  rw [Jthf hjl]
  unfold runN
  by_cases h18 : l[j].op = 18
  ·rw [if_pos h18]
   cases k with
   | zero => simp only [Nat.zero_le, true_and, true_iff]; intro i x h1 h2; omega
   | succ k =>
    have := ih (k := k) (by omega)
    constructor
    ·intro h
     obtain ⟨e1, e2⟩ := this.1 (by omega)
     refine ⟨by omega, fun i x h1 h2 hx => ?_⟩
     by_cases hi : i = j
     ·subst hi; rw [hji] at hx; injection hx with hx; subst hx; exact h18
     ·exact e2 i x (by omega) (by omega) hx
    ·rintro ⟨e1, e2⟩
     have := this.2 ⟨by omega, fun i x h1 h2 hx => e2 i x (by omega) (by omega) hx⟩
     omega
  ·rw [if_neg h18]
   cases k with
   | zero => simp only [Nat.le_refl, Nat.zero_le, true_and, true_iff]; intro i x h1 h2; omega
   | succ k =>
    constructor
    ·intro h; omega
    ·rintro ⟨e1, e2⟩
     exact absurd (e2 j _ (by omega) (by omega) hji) h18
theorem Jtcy {w : List Mach} : w.length ≤ lead w ↔ ∀ x ∈ w, x.op = 18 := by
 induction w with
 | nil => simp [lead]
 | cons m w ih =>
  simp only [lead, List.length_cons, List.mem_cons, forall_eq_or_imp]
  by_cases h : m.op = 18
  ·simp only [h, beq_self_eq_true, if_true, true_and]
   rw [← ih]; omega
  ·have hb : (m.op == 18) = false := by simpa using h
   simp only [hb, Bool.false_eq_true, if_false, h, false_and, iff_false]; omega
theorem Jtek {l : List Nat} {k : Nat} : k < mostN l ↔ ∃ x ∈ l, k < x := by
 have key : ∀ (l : List Nat) (n : Nat), k < l.foldl max n ↔ k < n ∨ ∃ x ∈ l, k < x := by
  intro l
  induction l with
  | nil => intro n; simp
  | cons x l ih =>
   intro n
   simp only [List.foldl_cons, ih, List.mem_cons, exists_eq_or_imp]
   constructor
   ·rintro (h | h)
    ·by_cases hx : k < x
     ·exact .inr (.inl hx)
     ·exact .inl (by omega)
    ·exact .inr (.inr h)
   ·rintro (h | h | h)
    ·exact .inl (by omega)
    ·exact .inl (by omega)
    ·exact .inr h
 have := key l 0
 unfold mostN
 rw [this]; simp
theorem Jtgf {w : List Mach} (hw : w.length = 65) : 64 < Jtge w ↔ ∀ x ∈ w, x.op = 18 := by
 rw [← Jtcy]
 unfold Jtge
 rw [Jtek]
 constructor
 ·rintro ⟨x, hx, h⟩
  rw [List.mem_map] at hx
  obtain ⟨i, hi, rfl⟩ := hx
  have h1 := Jtcz (w.drop i)
  rw [List.length_drop] at h1
  have hi0 : i = 0 := by omega
  subst hi0
  rw [List.drop_zero] at h
  omega
 ·intro h
  exact ⟨lead (w.drop 0), List.mem_map.2 ⟨0, by simp; omega, rfl⟩, by rw [List.drop_zero]; omega⟩
theorem Jtep {l : List Mach} {j : Nat} (h : j < l.length) : 64 < runF (l.take (j + 1)) ↔ (64 ≤ j ∧ 64 < Jtge ((l.take (j + 1)).drop (j - 64))) := by
 have h1 := Jthe (l := l) (j := j + 1) (k := 65) (by omega)
 constructor
 ·intro h2
  obtain ⟨e1, e2⟩ := h1.1 h2
  have hw : ((l.take (j + 1)).drop (j - 64)).length = 65 := by rw [List.length_drop, List.length_take]; omega
  refine ⟨by omega, (Jtgf hw).2 fun x hx => ?_⟩
  obtain ⟨i, hi⟩ := List.getElem?_of_mem hx
  rw [List.getElem?_drop, List.getElem?_take] at hi
  split at hi
  ·exact e2 _ x (by omega) (by omega) hi
  ·cases hi
 ·rintro ⟨e1, e2⟩
  have hw : ((l.take (j + 1)).drop (j - 64)).length = 65 := by rw [List.length_drop, List.length_take]; omega
  have e3 := (Jtgf hw).1 e2
  have := h1.2 ⟨by omega, fun i x k1 k2 hx => e3 x (List.mem_iff_getElem?.2 ⟨i - (j - 64), by rw [List.getElem?_drop, List.getElem?_take, if_pos (by omega), show j - 64 + (i - (j - 64)) = i by omega]; exact hx⟩)⟩
  omega
def wTotal (w : List (List Pair)) : Nat := (w.map List.length).sum
def pErr (l : List Pair) (vregs regs slots : Int) (k : Nat) : Int := match l[k]? with
 | none => 0
 | some q => if q.v < 0 ∨ vregs ≤ q.v then 9 else if rngZ q.l regs slots = false then 10 else if 0 < k ∧ (match l[k - 1]? with | some q0 => lessP q0 q | none => true) = false then 13 else 0
def pErrs (l : List Pair) (vregs regs slots : Int) : Int := Jt8f ((List.range l.length).map (pErr l vregs regs slots))
def Jt7j (w : List (List Pair)) (blocks vregs regs slots : Int) : Int := if (w.length : Int) ≠ blocks then 14 else if 1048576 < wTotal w then 6 else Jt8f (w.map fun l => pErrs l vregs regs slots)
def okW (w : List (List Pair)) : Prop := ∀ l ∈ w, ∀ q ∈ l, okZ q.l
def validZ (c : Cert) : Int := if Jtg9 c.S ≠ 0 then Jtg9 c.S else if Jtgc c.T ≠ 0 then Jtgc c.T else if c.S.blocks.length ≠ c.T.blocks.length ∨ c.S.args ≠ c.T.args then 14 else Jt7j c.W c.S.blocks.length c.S.regs c.T.regs c.T.slots
def succsZ (t : Term) : List Int := if t.kind = 1 then [t.to] else if t.kind = 2 then [t.to, t.els] else []
structure Rep where (err block at_ : Int) (blocks edges steps largest : Nat)
 deriving DecidableEq
def Rep.av (r : Rep) : AV := .agg [AI r.err, AI r.block, AI r.at_, AI r.blocks, AI r.edges, AI r.steps, AI r.largest]
def mostW (w : List (List Pair)) : Nat := mostN (w.map List.length)
def w0 (c : Cert) : List Pair := (c.W[0]?).getD []
theorem Jtlg {w : List (List Pair)} {k : Nat} {l : List Pair} (h : w[k]? = some l) : wTotal (w.take (k + 1)) = wTotal (w.take k) + l.length := by
 rw [List.take_add_one, h]; simp [wTotal]
theorem Jtle (w : List (List Pair)) (k : Nat) : wTotal (w.take k) ≤ wTotal w := by
 have h : wTotal (w.take k) + wTotal (w.drop k) = wTotal w := by
  unfold wTotal
  rw [← List.sum_append, ← List.map_append, List.take_append_drop]
 omega
section
end
section
end
section
end
section
end
theorem Jtfe {l : List Pair} {k : Nat} (hk : k < l.length) (vregs regs slots : Int) : pErr l vregs regs slots k = if l[k].v < 0 ∨ vregs ≤ l[k].v then 9 else if rngZ l[k].l regs slots = false then 10 else if 0 < k ∧ (match l[k - 1]? with | some q0 => lessP q0 l[k] | none => true) = false then 13 else 0 := by
 unfold pErr; rw [List.getElem?_eq_getElem hk]; try rfl
section
end
structure okCert (c : Cert) : Prop where
 s0 : c.S.blocks.length < 1000000000
 s1 : codeN c.S.blocks < 1000000000
 t0 : c.T.blocks.length < 1000000000
 t1 : mcodeN c.T.blocks < 1000000000
 t2 : ∀ b ∈ c.T.blocks, okM b
 w0 : c.W.length < 1000000000
 w1 : wTotal c.W < 1000000000
 w2 : okW c.W
theorem okCert.w3 {c : Cert} (h : okCert c) : ∀ l ∈ c.W, l.length < 1000000000 := by
 intro l hl
 obtain ⟨k, hk⟩ := List.getElem?_of_mem hl
 have h1 := Jtlg hk
 have h2 := Jtle c.W (k + 1)
 have := h.w1
 omega
section
end
def VS : List Int := (List.range 61).map fun n : Nat => (n : Int)
def LS : List Int := (List.range 122).map fun n : Nat => (n : Int)
theorem mem_VS {x : Int} (h0 : 0 ≤ x) (h1 : x ≤ 60) : x ∈ VS := List.mem_map.2 ⟨x.toNat, List.mem_range.2 (by omega), by omega⟩
theorem mem_LS {x : Int} (h0 : 0 ≤ x) (h1 : x ≤ 121) : x ∈ LS := List.mem_map.2 ⟨x.toNat, List.mem_range.2 (by omega), by omega⟩
theorem VL_few : VS.length * LS.length < 100000 := by decide
theorem src_ok {f : Func} (h : Jtg9 f = 0) : 0 ≤ f.args ∧ f.args ≤ f.regs ∧ 0 < f.blocks.length ∧ ∀ b ∈ f.blocks, (∀ i ∈ b.code, Jtga i f.regs = 0) ∧ Jtgg b.term f.regs f.blocks.length = 0 := by
 unfold Jtg9 at h
 split at h
 ·cases h
 split at h
 ·cases h
 split at h
 ·cases h
 split at h
 ·cases h
 refine ⟨by omega, by omega, by omega, fun b hb => ?_⟩
 have h3 := Jt8h h _ (List.mem_map_of_mem hb)
 simp only [Jtg8] at h3
 split at h3
 ·rename_i h5; exact absurd h3 h5
 ·rename_i h5
  exact ⟨fun i hi => Jt8h (es := b.code.map (Jtga · f.regs)) (by simpa using h5) _ (List.mem_map_of_mem hi), h3⟩
theorem Jtkw {t : Term} {regs blocks : Int} (h : Jtgg t regs blocks = 0) : ∀ x ∈ succsZ t, 0 ≤ x ∧ x < blocks := by
 unfold Jtgg at h
 unfold succsZ
 intro x hx
 split at h
 ·rename_i k1
  rw [if_pos k1] at hx
  simp only [List.mem_singleton] at hx
  split at h
  ·cases h
  ·rename_i k2
   subst hx; simpa [inZ] using k2
 ·rename_i k1
  rw [if_neg k1] at hx
  split at h
  ·rename_i k3
   rw [if_pos k3] at hx
   split at h
   ·cases h
   split at h
   ·cases h
   rename_i k4 k5
   simp only [not_or] at k5
   simp only [List.mem_cons, List.not_mem_nil, or_false] at hx
   rcases hx with rfl | rfl
   ·simpa [inZ] using k5.1
   ·simpa [inZ] using k5.2
  ·rename_i k3
   rw [if_neg k3] at hx; simp at hx
theorem mac_ok {f : MFunc} (h : Jtgc f = 0) : 0 ≤ f.args ∧ f.args ≤ f.slots ∧ 0 ≤ f.regs ∧ ∀ b ∈ f.blocks, ∀ x ∈ b.code, Jtgd x f.regs f.slots = 0 := by
 unfold Jtgc at h
 split at h
 ·cases h
 split at h
 ·cases h
 split at h
 ·cases h
 split at h
 ·cases h
 split at h
 ·cases h
 refine ⟨by omega, by omega, by omega, fun b hb x hx => ?_⟩
 have h3 := Jt8h h _ (List.mem_map_of_mem hb)
 unfold Jtgb at h3
 split at h3
 ·rename_i h5; exact absurd h3 h5
 ·rename_i h5
  have h6 : mErrs b.code f.regs f.slots = 0 := by simpa using h5
  obtain ⟨k, hk⟩ := List.getElem?_of_mem hx
  have hlt := (List.getElem?_eq_some_iff.1 hk).1
  have h7 := Jt8h h6 (mErr b.code f.regs f.slots k) (List.mem_map.2 ⟨k, List.mem_range.2 hlt, rfl⟩)
  unfold mErr at h7
  rw [hk] at h7
  simp only at h7
  split at h7
  ·rename_i h8; exact absurd h7 h8
  ·rename_i h8; simpa using h8
structure Fit (c : Cert) : Prop where
 lenT : c.T.blocks.length = c.S.blocks.length
 lenW : c.W.length = c.S.blocks.length
 pos : 0 < c.S.blocks.length
 few : c.S.blocks.length ≤ 40
 w : ∀ l ∈ c.W, Srt l ∧ l.length ≤ 400 ∧ ∀ q ∈ l, 0 ≤ q.v ∧ q.v ≤ 60 ∧ 0 ≤ q.l ∧ q.l ≤ 121
 vl : ∀ b ∈ c.S.blocks, ∀ m ∈ c.T.blocks, VLOk VS LS b.code m.code
 cs : ∀ b ∈ c.S.blocks, b.code.length ≤ 100
 ct : ∀ m ∈ c.T.blocks, m.code.length ≤ 900
 to : ∀ b ∈ c.S.blocks, ∀ x ∈ succsZ b.term, 0 ≤ x ∧ x < c.S.blocks.length
 ars : 0 ≤ c.S.args ∧ c.S.args ≤ 60
structure Good (r : Res) : Prop where
 srt : Srt r.out
 len : r.out.length < 100000
 steps : r.steps ≤ 1000000000
 lg : r.largest < 100000
theorem Jt6u {V L : List Int} {b : Block} {m : MBlock} {l : List Pair} {most : Int} (hl : ∀ q ∈ l, q.v ∈ V ∧ q.l ∈ L) (hv : VLOk V L b.code m.code) (few : V.length * L.length < 100000) (hl0 : l.length < 100000)
  (hb0 : b.code.length ≤ 1000) (hm0 : m.code.length ≤ 1000) : Over V L (checkZ b m l most).out := by
 have hnil : Over V L [] := ⟨List.Pairwise.nil, fun q hq => by simp at hq⟩
 obtain ⟨a1, a2, a3⟩ := Jt4s b.code m.code
 unfold checkZ
 split
 ·exact hnil
 ·by_cases h2 : (if (alignZ b.code m.code).2.2 = 0 ∧ termsZ b.term m.term = false then 20 else (alignZ b.code m.code).2.2) ≠ 0
  ·simp only [if_pos h2]; exact hnil
  ·simp only [if_neg h2]
   have hover : Over V L (makeP l) := ⟨Jtjo l, fun q hq => hl q (Jte8.1 hq)⟩
   have hroom : Room V L ⟨makeP l, 0, l.length⟩ (0 + 1 + needRs (alignZ b.code m.code).1) := by
    refine ⟨hover, few, ?_, by simp only; omega⟩
    have h1 := Jtet a1
    have h2 : (alignZ b.code m.code).1.length * (3 + m.code.length + b.code.length) ≤ 1001 * 2003 := Nat.mul_le_mul (by omega) (by omega)
    simp only
    omega
   have hr := Jthc (most := most) hv hroom a1
   generalize runC most b m (alignZ b.code m.code).1 ⟨makeP l, 0, l.length⟩ = r at hr
   obtain ⟨t, e⟩ := r
   simp only
   split
   ·exact hr.over
   ·exact hnil
theorem Fit.good {c : Cert} (h : Fit c) {b : Block} {m : MBlock} {l : List Pair} (hb : b ∈ c.S.blocks) (hm : m ∈ c.T.blocks) (hl : l ∈ c.W) (most : Int) : Good (checkZ b m l most) := by
 obtain ⟨w1, w2, w3⟩ := h.w l hl
 have k1 : ∀ q ∈ l, q.v ∈ VS ∧ q.l ∈ LS := fun q hq => by
  obtain ⟨a1, a2, a3, a4⟩ := w3 q hq
  exact ⟨mem_VS a1 a2, mem_LS a3 a4⟩
 have c1 := h.cs b hb
 have c2 := h.ct m hm
 have o := Jt6u (most := most) k1 (h.vl b hb m hm) VL_few (by omega) (by omega) (by omega)
 obtain ⟨r1, r2⟩ := Jt6t (most := most) k1 (h.vl b hb m hm) VL_few (by omega) (by omega) (by omega)
 have bd := (Jt6s b m l most (Jtdw l)).1
 refine ⟨o.srt, Nat.lt_of_le_of_lt o.len VL_few, ?_, r1⟩
 have : (3 * m.code.length + b.code.length + 1) * ((checkZ b m l most).largest + 1) ≤ 3001 * 100000 := Nat.mul_le_mul (by omega) (by omega)
 omega
section
end
end Go.AE
set_option maxRecDepth 4000
namespace Go.AE
open Go
structure RepOk (i : Nat) (r : Rep) : Prop where
 blocks : r.blocks ≤ i
 edges : r.edges ≤ 2 * i
 steps : r.steps ≤ 1000 + 2000000000 * i
 lg : r.largest < 100000
def edgeR (w : List (List Pair)) (out : List Pair) (to : Nat) (r : Rep) : Rep := { r with edges := r.edges + 1, steps := r.steps + 1 + out.length + ((w[to]?).getD []).length }
structure RepIn (i k : Nat) (r : Rep) : Prop where
 blocks : r.blocks ≤ i + 1
 edges : r.edges ≤ 2 * i + k
 steps : r.steps ≤ 1000 + 2000000000 * i + 1000000000 + 200000 * k
 lg : r.largest < 100000
theorem RepIn.out {i k : Nat} {r : Rep} (h : RepIn i k r) (hk : k ≤ 2) : RepOk (i + 1) r := ⟨h.blocks, by have := h.edges; omega, by have := h.steps; omega, h.lg⟩
theorem RepIn.edge {w : List (List Pair)} {out wt : List Pair} {i k to : Nat} {r : Rep} (h : RepIn i k r) (ho : out.length < 100000) (hw : w[to]? = some wt) (hwl : wt.length ≤ 400) : RepIn i (k + 1) (edgeR w out to r) := by
 have := h.blocks; have := h.edges; have := h.steps; have := h.lg
 refine ⟨by simpa [edgeR] using h.blocks, by simp only [edgeR]; omega, ?_, by simpa [edgeR] using h.lg⟩
 simp only [edgeR, hw, Option.getD_some]; omega
def Rep.cells (r : Rep) : List AV := [AI r.err, AI r.block, AI r.at_, AI r.blocks, AI r.edges, AI r.steps, AI r.largest]
section
end
end Go.AE
set_option maxRecDepth 4000
namespace Go.AE
open Go
section
end
end Go.AE
set_option maxRecDepth 4000
namespace Go.AE
open Go
def succN (bs : List Block) : Nat := (bs.map fun b => (succsZ b.term).length).sum
def boundN (c : Cert) : Nat := codeN c.S.blocks + mcodeN c.T.blocks + c.S.blocks.length + 1 + succN c.S.blocks
section
end
section
end
end Go.AE
set_option maxRecDepth 4000
namespace Go.AE
open Go
section
end
end Go.AE
set_option maxRecDepth 4000
namespace Go.AE
open Go
structure EdgeT (r : Rep) (n A : Nat) (R : Rep × Bool) : Prop where
 blocks : R.1.blocks = r.blocks
 lg : R.1.largest = r.largest
 edges : R.1.edges ≤ r.edges + n
 steps : R.1.steps ≤ (A + 2 * R.1.edges) * (R.1.largest + 1)
 bad : R.2 = true → R.1.err ≠ 0
 good : R.2 = false → R.1.edges = r.edges + n ∧ R.1.err = 0
def costN (c : Cert) (i : Nat) : Nat := 1 + 3 * mcodeN (c.T.blocks.take i) + codeN (c.S.blocks.take i) + i
structure OnceI (c : Cert) (i : Nat) (r : Rep) : Prop where
 blocks : r.blocks = i
 edges : r.edges = succN (c.S.blocks.take i)
 steps : r.steps ≤ (costN c i + 2 * r.edges) * (r.largest + 1)
 lg : mostW c.W ≤ r.largest
 lg2 : r.largest < 100000
 err : r.err = 0
structure OnceT (c : Cert) (T : Rep) : Prop where
 blocks : T.blocks ≤ c.S.blocks.length
 edges : T.edges ≤ succN c.S.blocks
 steps : T.steps ≤ 3 * boundN c * (T.largest + 1)
 lg : T.largest < 100000
 done : T.err = 0 → T.blocks = c.S.blocks.length ∧ T.edges = succN c.S.blocks
end Go.AE
set_option maxRecDepth 4000
namespace Go.AE
open Go
def N23 (r : CR) : Prop := ∀ e, r.2 = some e → e.1 ≠ 23
theorem N23.same {s : CS} : N23 (s, none) := fun e he => by cases he
theorem N23.then {r : CR} {f : CS → CR} (h : N23 r) (hf : ∀ s, N23 (f s)) : N23 (thenC r f) := by
 obtain ⟨s, e⟩ := r
 cases e with
 | some e => exact h
 | none => exact hf s
theorem N23.become {most : Int} {s : CS} {l : List Pair} {at_ : Int} : N23 (Jt60 most s l at_) := by
 intro e he
 unfold Jt60 at he
 simp only at he
 split at he
 ·injection he with he; subst he; simp
 ·cases he
theorem N23.use {s : CS} {v t at_ : Int} : N23 (useC s v t at_) := by
 intro e he
 unfold useC at he
 simp only at he
 split at he
 ·cases he
 ·injection he with he; subst he; simp
structure Nums2 (V L : List Int) (s : CS) (σ τ : Int → Nat) (N : Nat) : Prop where
 over : Over V L s.set
 σb : ∀ v, σ v < N
 τb : ∀ x, τ x < N
 all : ∀ v ∈ V, ∀ x ∈ L, σ v = τ x → (⟨v, x⟩ : Pair) ∈ s.set
def upd (f : Int → Nat) (d : Int) (n : Nat) : Int → Nat := fun x => if x = d then n else f x
theorem Jtld {f : Int → Nat} {d : Int} {n : Nat} : upd f d n d = n := by simp [upd]
theorem upd_ne {f : Int → Nat} {d x : Int} {n : Nat} (h : x ≠ d) : upd f d n x = f x := by simp [upd, h]
def runCv (σ : Int → Nat) : List Instr → Int → Nat
 | [] => σ
 | i :: is => runCv (upd σ i.d (σ i.a)) is
def runMv (τ : Int → Nat) : List Mach → Int → Nat
 | [] => τ
 | m :: ms => runMv (upd τ m.dst (τ m.src)) ms
theorem Jthl {τ : Int → Nat} : ∀ {a b : List Mach}, runMv τ (a ++ b) = runMv (runMv τ a) b := by
 intro a
 induction a generalizing τ with
 | nil => intro b; rfl
 | cons m a ih => intro b; exact ih
section
variable {V L : List Int} {most : Int}
theorem fits (few : V.length * L.length < 100000) (hm : 100000 ≤ most) {l : List Pair} (h : Over V L l) : ¬ ((l.length : Int) > most) := by
 have := h.len
 omega
theorem Nums2.copy (few : V.length * L.length < 100000) (hm : 100000 ≤ most) {s : CS} {σ τ : Int → Nat} {N : Nat} (h : Nums2 V L s σ τ N) {d a : Int} (hd : d ∈ V) (ha : a ∈ V) (at_ : Int) :
  ∃ s', Jt60 most (costC s) (copyP s.set d a) at_ = (s', none) ∧ Nums2 V L s' (upd σ d (σ a)) τ N := by
 have ho := h.over.copy (a := a) hd
 refine ⟨_, by unfold Jt60; rw [if_neg (fits few hm ho)], ⟨ho, fun v => ?_, h.τb, fun v hv x hx hvx => ?_⟩⟩
 ·unfold upd; split
  ·exact h.σb a
  ·exact h.σb v
 ·show (⟨v, x⟩ : Pair) ∈ copyP s.set d a
  rw [Jte6]
  by_cases hvd : v = d
  ·subst hvd
   rw [Jtld] at hvx
   exact .inr ⟨rfl, h.all a ha x hx hvx⟩
  ·rw [upd_ne hvd] at hvx
   exact .inl ⟨h.all v hv x hx hvx, .inr hvd⟩
theorem Nums2.move (few : V.length * L.length < 100000) (hm : 100000 ≤ most) {s : CS} {σ τ : Int → Nat} {N : Nat} (h : Nums2 V L s σ τ N) {d a : Int} (hd : d ∈ L) (ha : a ∈ L) (at_ : Int) :
  ∃ s', Jt60 most (costC s) (moveP s.set d a) at_ = (s', none) ∧ Nums2 V L s' σ (upd τ d (τ a)) N := by
 have ho := h.over.move (a := a) hd
 refine ⟨_, by unfold Jt60; rw [if_neg (fits few hm ho)], ⟨ho, h.σb, fun v => ?_, fun v hv x hx hvx => ?_⟩⟩
 ·unfold upd; split
  ·exact h.τb a
  ·exact h.τb v
 ·show (⟨v, x⟩ : Pair) ∈ moveP s.set d a
  rw [Jtea]
  by_cases hxd : x = d
  ·subst hxd
   rw [Jtld] at hvx
   exact .inr ⟨rfl, h.all v hv a ha hvx⟩
  ·rw [upd_ne hxd] at hvx
   exact .inl ⟨h.all v hv x hx hvx, .inr hxd⟩
theorem Nums2.define (few : V.length * L.length < 100000) (hm : 100000 ≤ most) {s : CS} {σ τ : Int → Nat} {N : Nat} (h : Nums2 V L s σ τ N) {d t : Int} (hd : d ∈ V) (ht : t ∈ L) (at_ : Int) :
  ∃ s', Jt60 most (costC s) (defP s.set d t) at_ = (s', none) ∧ Nums2 V L s' (upd σ d N) (upd τ t N) (N + 1) := by
 have ho := h.over.define hd ht
 refine ⟨_, by unfold Jt60; rw [if_neg (fits few hm ho)], ⟨ho, fun v => ?_, fun v => ?_, fun v hv x hx hvx => ?_⟩⟩
 ·unfold upd; split
  ·omega
  ·have := h.σb v; omega
 ·unfold upd; split
  ·omega
  ·have := h.τb v; omega
 ·show (⟨v, x⟩ : Pair) ∈ defP s.set d t
  rw [Jte7]
  by_cases hvd : v = d
  ·subst hvd
   rw [Jtld] at hvx
   by_cases hxt : x = t
   ·subst hxt; exact .inl rfl
   ·rw [upd_ne hxt] at hvx; have := h.τb x; omega
  ·rw [upd_ne hvd] at hvx
   by_cases hxt : x = t
   ·subst hxt; rw [Jtld] at hvx; have := h.σb v; omega
   ·rw [upd_ne hxt] at hvx
    exact .inr ⟨h.all v hv x hx hvx, hvd, hxt⟩
theorem Nums2.use {s : CS} {σ τ : Int → Nat} {N : Nat} (h : Nums2 V L s σ τ N) {v t : Int} (hv : v ∈ V) (ht : t ∈ L) (he : σ v = τ t) (at_ : Int) : ∃ s', useC s v t at_ = (s', none) ∧ Nums2 V L s' σ τ N :=
 ⟨costC s, by unfold useC; rw [if_pos (h.all v hv t ht he)], ⟨h.over, h.σb, h.τb, h.all⟩⟩
theorem Nums2.copies (few : V.length * L.length < 100000) (hm : 100000 ≤ most) {τ : Int → Nat} {N : Nat} {at_ : Int} : ∀ {l : List Instr}, (∀ i ∈ l, i.d ∈ V ∧ i.a ∈ V) → ∀ {s : CS} {σ : Int → Nat}, Nums2 V L s σ τ N →
  ∃ s', copyC most at_ l s = (s', none) ∧ Nums2 V L s' (runCv σ l) τ N := by
 intro l
 induction l with
 | nil => intro _ s σ h; exact ⟨s, rfl, h⟩
 | cons i l ih =>
  intro hl s σ h
  obtain ⟨s1, e1, h1⟩ := h.copy few hm (hl i (by simp)).1 (hl i (by simp)).2 at_
  obtain ⟨s2, e2, h2⟩ := ih (fun x hx => hl x (by simp [hx])) h1
  exact ⟨s2, by show thenC (Jt60 most (costC s) (copyP s.set i.d i.a) at_) (copyC most at_ l) = _; rw [e1]; exact e2, h2⟩
theorem Nums2.moves (few : V.length * L.length < 100000) (hm : 100000 ≤ most) {σ : Int → Nat} {N : Nat} : ∀ {l : List Mach}, (∀ i ∈ l, i.dst ∈ L ∧ i.src ∈ L) → ∀ {k : Nat} {s : CS} {τ : Int → Nat}, Nums2 V L s σ τ N →
  ∃ s', moveC most k l s = (s', none) ∧ Nums2 V L s' σ (runMv τ l) N := by
 intro l
 induction l with
 | nil => intro _ k s τ h; exact ⟨s, rfl, h⟩
 | cons i l ih =>
  intro hl k s τ h
  obtain ⟨s1, e1, h1⟩ := h.move few hm (hl i (by simp)).1 (hl i (by simp)).2 k
  obtain ⟨s2, e2, h2⟩ := ih (fun x hx => hl x (by simp [hx])) (k := k + 1) h1
  exact ⟨s2, by show thenC (Jt60 most (costC s) (moveP s.set i.dst i.src) k) (moveC most (k + 1) l) = _; rw [e1]; exact e2, h2⟩
end
def Sy (n : Nat) (σ τ : Int → Nat) : Prop := ∀ v : Int, 0 ≤ v → v < n → σ v = τ (2 * v + 1)
theorem Sy.load {n : Nat} {σ τ : Int → Nat} (h : Sy n σ τ) {r : Int} (hr : r = 0 ∨ r = 2) (x : Nat) : Sy n σ (upd τ r x) := by
 intro v h0 h1
 rw [upd_ne (by omega)]; exact h v h0 h1
theorem Sy.store {n : Nat} {σ τ : Int → Nat} (h : Sy n σ τ) {d : Int} (x : Nat) : Sy n (upd σ d x) (upd τ (2 * d + 1) x) := by
 intro v h0 h1
 by_cases hd : v = d
 ·subst hd; rw [Jtld, Jtld]
 ·rw [upd_ne hd, upd_ne (by omega)]; exact h v h0 h1
theorem Sy.copies {n : Nat} : ∀ {l : List Instr} {σ τ : Int → Nat}, (∀ i ∈ l, i.op = 2 ∧ (0 ≤ i.a ∧ i.a < n) ∧ slotZ i.a = 2 * i.a + 1 ∧ slotZ i.d = 2 * i.d + 1) → Sy n σ τ → Sy n (runCv σ l) (runMv τ (spCode l)) := by
 intro l
 induction l with
 | nil => intro σ τ _ h; exact h
 | cons i l ih =>
  intro σ τ hl h
  obtain ⟨h1, ⟨h2, h3⟩, h4, h5⟩ := hl i (by simp)
  have e : spCode (i :: l) = [mvM (regZ 0) (slotZ i.a), mvM (slotZ i.d) (regZ 0)] ++ spCode l := by
   simp only [spCode, List.flatMap_cons, Jtip, h1]
   rfl
  rw [e, Jthl]
  refine ih (fun x hx => hl x (by simp [hx])) ?_
  have r0 : regZ 0 = 0 := by decide
  show Sy n (upd σ i.d (σ i.a)) (upd (upd τ (regZ 0) (τ (slotZ i.a))) (slotZ i.d) (upd τ (regZ 0) (τ (slotZ i.a)) (regZ 0)))
  rw [Jtld, h4, h5, r0, ← h i.a h2 h3]
  exact (h.load (.inl rfl) _).store _
def ldA (i : Instr) : List Mach := if usesA i.op = true then [mvM (regZ 0) (slotZ i.a)] else []
def ldB (i : Instr) : List Mach := if usesB i.op = true then [mvM (regZ 1) (slotZ i.b)] else []
def stD (i : Instr) : List Mach := if usesD i.op = true then [mvM (slotZ i.d) (regZ 0)] else []
def opX (i : Instr) : Mach := if usesB i.op = true then opM i 1 else opM i 0
theorem Jtir {i : Instr} (h1 : 1 ≤ i.op) (h2 : i.op ≤ 17) (h3 : i.op ≠ 2) : Jtip i = ldA i ++ ldB i ++ (opX i :: stD i) := by
 obtain ⟨hD, hA, hB, _⟩ := Jthy h1 h2
 unfold Jtip ldA ldB stD opX
 rw [hD, hA, hB]
 cases usesB i.op <;> simp [h3]
structure InOk (n : Nat) (i : Instr) : Prop where
 a : usesA i.op = true → (0 ≤ i.a ∧ i.a < n) ∧ slotZ i.a = 2 * i.a + 1
 b : usesB i.op = true → (0 ≤ i.b ∧ i.b < n) ∧ slotZ i.b = 2 * i.b + 1
 d : usesD i.op = true → (0 ≤ i.d ∧ i.d < n) ∧ slotZ i.d = 2 * i.d + 1
theorem r0e : regZ 0 = 0 := by decide
theorem r1e : regZ 1 = 2 := by decide
theorem Jti8 {v : Int} (h0 : 0 ≤ v) (h1 : v ≤ 1000000) : slotZ v = 2 * v + 1 := by
 have e : IntKind.i64.wrap (2 * v) = 2 * v := wrap_i64 (by omega) (by omega)
 unfold slotZ; rw [e]; exact wrap_i64 (by omega) (by omega)
theorem Jtbz {i : Instr} {n : Nat} (hn : n ≤ 60) (h : Jtga i (n : Int) = 0) : (1 ≤ i.op ∧ i.op ≤ 17) ∧ InOk n i := by
 unfold Jtga at h
 split at h
 ·cases h
 rename_i h8
 split at h
 ·cases h
 rename_i h9
 refine ⟨by omega, ?_⟩
 simp only [bad9, Bool.or_eq_true, Bool.and_eq_true, not_or, not_and, Bool.not_eq_true', Bool.not_eq_false, inZ, decide_eq_true_eq] at h9
 obtain ⟨⟨d, a⟩, b⟩ := h9
 exact ⟨fun h => ⟨a h, Jti8 (a h).1 (by have := (a h).2; omega)⟩, fun h => ⟨b h, Jti8 (b h).1 (by have := (b h).2; omega)⟩, fun h => ⟨d h, Jti8 (d h).1 (by have := (d h).2; omega)⟩⟩
theorem Jtee {n : Nat} (hn : n ≤ 60) {q : Pair} : q ∈ spInv n ↔ (0 ≤ q.v ∧ q.v < n) ∧ q.l = 2 * q.v + 1 := by
 unfold spInv
 rw [List.mem_map]
 constructor
 ·rintro ⟨v, h1, rfl⟩
  have := List.mem_range.1 h1
  exact ⟨⟨by simp only; omega, by simp only; omega⟩, Jti8 (by omega) (by omega)⟩
 ·rintro ⟨⟨h1, h2⟩, h3⟩
  refine ⟨q.v.toNat, List.mem_range.2 (by omega), ?_⟩
  have e : ((q.v.toNat : Nat) : Int) = q.v := by omega
  obtain ⟨v, l⟩ := q
  simp only at e h1 h2 h3 ⊢
  rw [e, Jti8 (by omega) (by omega), h3]
theorem Jtit (n : Nat) : (spInv n).length = n := by simp [spInv]
theorem Jtkv {t : Term} {regs blocks : Int} (h : Jtgg t regs blocks = 0) (hk : t.kind ≠ 1) : 0 ≤ t.a ∧ t.a < regs := by
 have key : ¬ (inZ t.a regs = false) → 0 ≤ t.a ∧ t.a < regs := fun h => by simpa [inZ] using h
 unfold Jtgg at h
 rw [if_neg hk] at h
 split at h
 ·split at h
  ·cases h
  ·rename_i h2; exact key h2
 ·split at h
  ·split at h
   ·cases h
   ·rename_i h2; exact key h2
  ·cases h
theorem run_bd : ∀ (l : List Mach) (a n : Nat), n ≤ a → l.foldl runN n ≤ (l.foldl Jthp (a, n)).1 ∧ a ≤ (l.foldl Jthp (a, n)).1 := by
 intro l
 induction l with
 | nil => intro a n h; exact ⟨h, Nat.le_refl _⟩
 | cons m l ih =>
  intro a n h
  have e : Jthp (a, n) m = (max a (runN n m), runN n m) := by
   unfold Jthp runN
   by_cases h18 : m.op = 18 <;> simp [h18]
  rw [List.foldl_cons, List.foldl_cons, e]
  obtain ⟨h1, h2⟩ := ih (max a (runN n m)) (runN n m) (by omega)
  exact ⟨h1, by omega⟩
theorem Jtht : ∀ (l : List Mach) (s : Nat × Nat), s.1 ≤ (l.foldl Jthp s).1 := by
 intro l
 induction l with
 | nil => intro s; exact Nat.le_refl _
 | cons m l ih =>
  intro s
  have h1 := ih (Jthp s m)
  have h2 : s.1 ≤ (Jthp s m).1 := by unfold Jthp; simp only; omega
  rw [List.foldl_cons]; omega
theorem Jthd (l : List Mach) (k : Nat) : runF (l.take k) ≤ (Jthi l).1 := by
 have h1 := (run_bd (l.take k) 0 0 (Nat.le_refl _)).1
 have h2 := Jtht (l.drop k) ((l.take k).foldl Jthp (0, 0))
 rw [← List.foldl_append, List.take_append_drop] at h2
 unfold runF Jthi; omega
theorem Jtej {l : List Nat} {x : Nat} (h : x ∈ l) : x ≤ mostN l := by
 apply Nat.le_of_not_lt
 intro hlt
 exact Nat.lt_irrefl _ (Jtek.2 ⟨x, h, hlt⟩)
theorem Jth1 {s : Int} : rngZ 0 2 s = true ∧ rngZ 2 2 s = true := by unfold rngZ; exact ⟨rfl, rfl⟩
theorem Jth2 {v r s : Int} (h0 : 0 ≤ v) (h1 : v < s) : rngZ (2 * v + 1) r s = true ∧ (2 * v + 1).tmod 2 = 1 ∧ (2 * v + 1).tdiv 2 = v := by
 have e1 : (2 * v + 1).tmod 2 = 1 := by rw [Int.tmod_eq_emod_of_nonneg (by omega)]; omega
 have e2 : (2 * v + 1).tdiv 2 = v := by rw [Int.tdiv_eq_ediv_of_nonneg (by omega)]; omega
 refine ⟨?_, e1, e2⟩
 unfold rngZ
 rw [if_pos e1, e2]
 simp only [Bool.and_eq_true, decide_eq_true_eq]
 omega
theorem Jteq {n : Nat} {m : Mach} {d s : Int} (hm : m = mvM d s) (hd : rngZ d 2 (n : Int) = true) (hs : rngZ s 2 (n : Int) = true) (h : ¬ (d.tmod 2 = 1 ∧ s.tmod 2 = 1)) : Jtgd m 2 (n : Int) = 0 := by
 subst hm
 unfold Jtgd mvM
 simp only [hd, hs]
 rw [if_neg (by decide), if_pos trivial, if_neg (by simp; simpa using h), if_neg (by simp)]
theorem Jtf8 {n : Nat} {i : Instr} (h : Jtga i (n : Int) = 0) (h2 : i.op ≠ 2) : Jtgd (opX i) 2 (n : Int) = 0 := by
 have hop : 1 ≤ i.op ∧ i.op ≤ 17 := by
  unfold Jtga at h
  split at h
  ·cases h
  ·omega
 have him : i.op = 1 ∨ i.imm = 0 := by
  unfold Jtga at h
  rw [if_neg (by omega)] at h
  split at h
  ·cases h
  split at h
  ·cases h
  rename_i h12
  simp only [bad12, Bool.or_eq_true, Bool.and_eq_true, not_or, not_and, bne_iff_ne, ne_eq, Decidable.not_not] at h12
  by_cases h1 : i.op = 1
  ·exact .inl h1
  ·exact .inr (h12.2 h1)
 obtain ⟨bb, hbb, hbe⟩ : ∃ bb : Int, opX i = opM i bb ∧ ((usesB i.op = true ∧ bb = 1) ∨ (usesB i.op = false ∧ bb = 0)) := by
  unfold opX
  cases hB : usesB i.op with
  | true => exact ⟨1, rfl, .inl ⟨rfl, rfl⟩⟩
  | false => exact ⟨0, rfl, .inr ⟨rfl, rfl⟩⟩
 have e0 : Jtga ⟨i.op, 0, 0, bb, i.imm⟩ 2 = 0 := by
  unfold Jtga
  have b9 : bad9 ⟨i.op, 0, 0, bb, i.imm⟩ 2 = false := by
   unfold bad9
   have i0 : inZ 0 2 = true := by decide
   have i1 : inZ bb 2 = true := by rcases hbe with ⟨_, rfl⟩ | ⟨_, rfl⟩ <;> decide
   simp [i0, i1]
  have b12 : bad12 ⟨i.op, 0, 0, bb, i.imm⟩ = false := by
   have e1 : (!usesB i.op && bb != 0) = false := by
    rcases hbe with ⟨hb, rfl⟩ | ⟨hb, rfl⟩
    ·rw [hb]; rfl
    ·rw [hb]; rfl
   have e2 : (i.op != 1 && i.imm != 0) = false := by
    rcases him with h1 | h1
    ·rw [h1]; rfl
    ·rw [h1]; simp
   unfold bad12
   simp only [e1, e2]
   simp
  simp only [b9, b12]
  rw [if_neg (by omega), if_neg (by simp), if_neg (by simp)]
 rw [hbb]
 unfold Jtgd opM
 simp only [e0]
 rw [if_neg (by omega), if_neg (by omega), if_neg (by simp)]
theorem Jtis {n : Nat} (hn : n ≤ 60) {i : Instr} (h : Jtga i (n : Int) = 0) : ∀ m ∈ Jtip i, Jtgd m 2 (n : Int) = 0 := by
 obtain ⟨hop, ok⟩ := Jtbz hn h
 have ld : ∀ (r x : Int), (r = 0 ∨ r = 2) → ((0 ≤ x ∧ x < n) ∧ slotZ x = 2 * x + 1) → ∀ m, m = mvM r (slotZ x) → Jtgd m 2 (n : Int) = 0 := by
  intro r x hr hx m hm
  obtain ⟨q1, q2, q3⟩ := Jth2 (r := 2) hx.1.1 hx.1.2
  refine Jteq hm ?_ (by rw [hx.2]; exact q1) ?_
  ·rcases hr with rfl | rfl
   ·exact Jth1.1
   ·exact Jth1.2
  ·rintro ⟨h1, _⟩
   rcases hr with rfl | rfl <;> simp at h1
 have st : ∀ (x : Int), ((0 ≤ x ∧ x < n) ∧ slotZ x = 2 * x + 1) → ∀ m, m = mvM (slotZ x) 0 → Jtgd m 2 (n : Int) = 0 := by
  intro x hx m hm
  obtain ⟨q1, q2, q3⟩ := Jth2 (r := 2) hx.1.1 hx.1.2
  exact Jteq hm (by rw [hx.2]; exact q1) Jth1.1 (by rintro ⟨_, h1⟩; simp at h1)
 intro m hm
 by_cases h2 : i.op = 2
 ·have e : Jtip i = [mvM (regZ 0) (slotZ i.a), mvM (slotZ i.d) (regZ 0)] := by simp only [Jtip, h2]; rfl
  rw [e, r0e] at hm
  simp only [List.mem_cons, List.not_mem_nil, or_false] at hm
  rcases hm with hm | hm
  ·exact ld 0 i.a (.inl rfl) (ok.a (by rw [h2]; rfl)) m hm
  ·exact st i.d (ok.d (by rw [h2]; rfl)) m hm
 ·rw [Jtir hop.1 hop.2 h2] at hm
  rcases List.mem_append.1 hm with hm | hm
  ·rcases List.mem_append.1 hm with hm | hm
   ·unfold ldA at hm
    split at hm
    ·rename_i hu
     simp only [List.mem_singleton, r0e] at hm
     exact ld 0 i.a (.inl rfl) (ok.a hu) m hm
    ·simp at hm
   ·unfold ldB at hm
    split at hm
    ·rename_i hu
     simp only [List.mem_singleton, r1e] at hm
     exact ld 2 i.b (.inr rfl) (ok.b hu) m hm
    ·simp at hm
  ·rcases List.mem_cons.1 hm with rfl | hm
   ·exact Jtf8 h h2
   ·unfold stD at hm
    split at hm
    ·rename_i hu
     simp only [List.mem_singleton, r0e] at hm
     exact st i.d (ok.d hu) m hm
    ·simp at hm
theorem Jtik {n : Nat} (hn : n ≤ 60) {b : Block} {blocks : Int} (hc : ∀ i ∈ b.code, Jtga i (n : Int) = 0) (ht : Jtgg b.term (n : Int) blocks = 0) (hr : Jtiw b ≤ 64) : Jtgb (Jtii b) 2 (n : Int) blocks = 0 := by
 have hi : ∀ x ∈ (Jtii b).code, Jtgd x 2 (n : Int) = 0 := by
  intro x hx
  have hx : x ∈ spCode b.code ++ (if b.term.kind = 1 then [] else [mvM (regZ 0) (slotZ b.term.a)]) := hx
  rcases List.mem_append.1 hx with hx | hx
  ·unfold spCode at hx
   obtain ⟨i, hi, hx⟩ := List.mem_flatMap.1 hx
   exact Jtis hn (hc i hi) x hx
  ·split at hx
   ·simp at hx
   ·rename_i hk
    simp only [List.mem_singleton, r0e] at hx
    have h1 := Jtkv ht hk
    obtain ⟨q1, q2, q3⟩ := Jth2 (r := 2) h1.1 h1.2
    exact Jteq hx Jth1.1 (by rw [Jti8 h1.1 (by omega)]; exact q1) (by rintro ⟨h, _⟩; simp at h)
 have he : mErrs (Jtii b).code 2 (n : Int) = 0 := by
  unfold mErrs
  refine Jt8g fun e he => ?_
  obtain ⟨j, hj, rfl⟩ := List.mem_map.1 he
  have hj := List.mem_range.1 hj
  have hx : (Jtii b).code[j]? = some (Jtii b).code[j] := by simp [hj]
  unfold mErr
  rw [hx]
  simp only
  rw [hi _ (List.getElem_mem hj), if_neg (by simp), if_neg]
  intro h
  have h1 := (Jtep hj).2 h
  have h2 := Jthd (Jtii b).code (j + 1)
  unfold Jtiw at hr
  omega
 unfold Jtgb
 rw [he, if_neg (by simp)]
 show Jtgg { b.term with a := 0 } 2 blocks = 0
 unfold Jtgg at ht ⊢
 have i0 : ¬ (inZ 0 2 = false) := by decide
 simp only
 split at ht
 ·rename_i k1
  rw [if_pos k1]
  split at ht
  ·cases ht
  rename_i k2
  rw [if_neg k2]
  split at ht
  ·cases ht
  rename_i k3
  exact if_neg (fun h => k3 (h.elim (fun h => absurd rfl h) .inr))
 rename_i k1
 rw [if_neg k1]
 split at ht
 ·rename_i k2
  rw [if_pos k2]
  split at ht
  ·cases ht
  split at ht
  ·cases ht
  rename_i k4 k5
  rw [if_neg i0, if_neg k5]
 rename_i k2
 rw [if_neg k2]
 split at ht
 ·rename_i k3
  rw [if_pos k3]
  split at ht
  ·cases ht
  split at ht
  ·cases ht
  rename_i k4 k5
  rw [if_neg i0, if_neg k5]
 ·cases ht
theorem Jtiu {n : Nat} (hn : n ≤ 60) : Srt (spInv n) := by
 refine Jtji.2 fun k hk => ?_
 have hk' : k + 1 < n := by rwa [Jtit] at hk
 have e : ∀ (j : Nat) (hj : j < (spInv n).length), (spInv n)[j] = ⟨(j : Int), slotZ j⟩ := by
  intro j hj; simp [spInv]
 rw [e, e, Jtd3]
 left; simp only; omega
theorem Jtiv {n : Nat} (hn : n ≤ 60) : pErrs (spInv n) (n : Int) 2 (n : Int) = 0 := by
 unfold pErrs
 refine Jt8g fun e he => ?_
 obtain ⟨k, hk, rfl⟩ := List.mem_map.1 he
 have hk := List.mem_range.1 hk
 obtain ⟨h1, h2⟩ := (Jtee hn).1 (List.getElem_mem hk)
 rw [Jtfe hk, if_neg (by omega), if_neg (by rw [h2, (Jth2 h1.1 h1.2).1]; simp), if_neg]
 rintro ⟨h0, h3⟩
 have e : (spInv n)[k - 1]? = some ((spInv n)[k - 1]'(by omega)) := by rw [List.getElem?_eq_getElem]
 rw [e] at h3
 simp only at h3
 have := Jtjn (Jtiu hn) (i := k - 1) (j := k) (by omega) hk
 rw [h3] at this; cases this
theorem Jtix {f : Func} (h : spRun f ≤ 64) : ∀ b ∈ f.blocks, Jtiw b ≤ 64 := fun b hb =>
 Nat.le_trans (Jtej (List.mem_map_of_mem hb)) h
theorem Jtlf (l : List Pair) (k : Nat) : wTotal (List.replicate k l) = k * l.length := by
 induction k with
 | zero => simp [wTotal]
 | succ k ih =>
  have : wTotal (l :: List.replicate k l) = l.length + wTotal (List.replicate k l) := by simp [wTotal]
  rw [List.replicate_succ, this, ih, Nat.add_mul]; omega
theorem Jtiz {f : Func} (hv : Jtg9 f = 0) (hf : few f = true) (hr : spRun f ≤ 64) : validZ (spCert f) = 0 := by
 obtain ⟨f1, f2, f3, f4⟩ := Jt8d.1 hf
 obtain ⟨s1, s2, s3, s4⟩ := src_ok hv
 obtain ⟨n, hn⟩ : ∃ n : Nat, f.regs = (n : Int) := ⟨f.regs.toNat, by omega⟩
 have hnt : f.regs.toNat = n := by omega
 have hn60 : n ≤ 60 := by omega
 have hmc := Jte3 f.blocks
 have hm : Jtgc (spCert f).T = 0 := by
  show Jtgc ⟨f.args, 2, f.regs, f.blocks.map Jtii⟩ = 0
  unfold Jtgc
  simp only [List.length_map]
  rw [if_neg (by omega), if_neg (by omega), if_neg (by omega), if_neg (by omega), if_neg (by omega)]
  refine Jt8g fun e he => ?_
  rw [List.map_map] at he
  obtain ⟨b, hb, rfl⟩ := List.mem_map.1 he
  obtain ⟨h1, h2⟩ := s4 b hb
  show Jtgb (Jtii b) 2 f.regs f.blocks.length = 0
  rw [hn] at h1 h2 ⊢
  exact Jtik hn60 h1 h2 (Jtix hr b hb)
 have hS : (spCert f).S = f := rfl
 have hW : (spCert f).W = List.replicate f.blocks.length (spInv n) := by rw [← hnt]; rfl
 have hT : (spCert f).T = ⟨f.args, 2, f.regs, f.blocks.map Jtii⟩ := rfl
 unfold validZ
 rw [hm, hS, hv, if_neg (by simp), if_neg (by simp), hT]
 rw [if_neg (by simp), hW]
 unfold Jt7j
 rw [if_neg (by simp), if_neg (by
  rw [Jtlf, Jtit]
  have : f.blocks.length * n ≤ 40 * 60 := Nat.mul_le_mul f1 hn60
  omega)]
 refine Jt8g fun e he => ?_
 obtain ⟨l, hl, rfl⟩ := List.mem_map.1 he
 rw [List.eq_of_mem_replicate hl]
 simp only
 rw [hn]
 exact Jtiv hn60
end Go.AE
set_option maxRecDepth 4000
namespace Go.AE
open Go
end Go.AE
set_option maxRecDepth 4000
namespace Go.AE
open Go
def awakeB : Block := ⟨[⟨5, 0, 1, 2, 0⟩], ⟨1, 0, 0, 0⟩⟩
def awakeM : MBlock := ⟨[⟨18, 0, 0, 0, 0, 0, 3⟩, ⟨18, 0, 0, 0, 0, 2, 5⟩, ⟨5, 0, 0, 1, 0, 0, 0⟩, ⟨18, 0, 0, 0, 0, 1, 0⟩], ⟨1, 0, 0, 0⟩⟩
theorem Jt5w : Jtii awakeB = awakeM := by rfl
theorem Jt5v : Jtil ⟨0, 0, []⟩ = (Jt6r, 14) := by rfl
theorem Jt5x : Jtiw awakeB = 2 := by rfl
theorem Jtiy {f : Func} (hv : Jtg9 f = 0) (hf : few f = true) : (spRun f ≤ 64 ∧ Jtil f = (spCert f, 0)) ∨ Jtil f = (Jt6r, 15) := by
 obtain ⟨f1, f2, f3, f4⟩ := Jt8d.1 hf
 obtain ⟨s1, s2, s3, s4⟩ := src_ok hv
 have hmc := Jte3 f.blocks
 have hp : ¬ (prodZ f > 1048576) := by
  unfold prodZ
  have h1 : (0 : Int) ≤ f.blocks.length * f.regs := Int.mul_nonneg (by omega) (by omega)
  have h2 : (f.blocks.length : Int) * f.regs ≤ 40 * 60 := Int.mul_le_mul (by omega) f2 (by omega) (by omega)
  rw [wrap_i64 (by omega) (by omega)]; omega
 unfold Jtil
 rw [Jt6v, if_neg (by simpa using hv), if_neg hp, if_neg (by omega)]
 by_cases h : spRun f > 64
 ·rw [if_pos h]; exact .inr rfl
 ·rw [if_neg h]; exact .inl ⟨by omega, rfl⟩
section
theorem Jtcw {P : Program} {p : Nums} (A : All P p) : Jt3w P p.law22_awake [] [] fun o _ => o = .ret (AB true) := by
 refine A.law22_awake.run rfl fun R hR => ?_
 (simp (maxSteps := 1000000) [Jtau])
 have h1 := Jtj0 A awakeB (by decide)
 rw [Jt5w] at h1
 (refine Jty h1 (by rfl) (by rfl) ?_)
 (simp (maxSteps := 1000000) [awakeM, MBlock.av, Mach.row])
 have h2 := Jtj1 A ⟨0, 0, []⟩ (by decide) (by decide)
 rw [Jt5v] at h2
 (refine Jtz h2 (by rfl) (by (exact wkvA)) (by rfl) ?_)
 (simp (maxSteps := 1000000) [Cert.av, Jt6r, witD])
 have h3 := Jtj2 A awakeB (by decide)
 rw [Jt5x] at h3
 (refine Jty h3 (by rfl) (by rfl) ?_)
 (simp (maxSteps := 1000000) [])
 (first | exact hR _ _ FrA | exact hR _ _ FnA)
end
section
end
@[simp] theorem Jt99 {K : ASt → Prop} {st : ASt} {n b off : Nat} {cells : List AV} {v : Opd} {b' o' e' l' : Nat} : goS3 K st n b off cells v (some (.hsl b' o' e' l')) ↔ 1 = n ∧ off + n ≤ cells.length ∧ K ⟨unview st.env, st.H.set b (.mem (spl cells off [.hsl b' o' e' l']))⟩ := by
 cases v <;> simp [goS3, AV.erase, AV.cells, AV.leaf]
@[simp] theorem Jt9d {K : ASt → Prop} {st : ASt} {n b off : Nat} {cells : List AV} {v : Opd} {q : Place} {e : Nat} {rows : List (List D)} : goS3 K st n b off cells v (some (.view q e rows)) ↔ 1 = n ∧ off + n ≤ cells.length ∧ K ⟨unview st.env, st.H.set b (.mem (spl cells off [.d (.sl rows)]))⟩ := by
 cases v <;> simp [goS3, AV.erase, AV.cells, AV.leaf]
def shN (b : Int) : Nat := (IntKind.u64.wrap (bits .and .i64 b 63)).toNat
theorem Jtl7 (n : Int) : 0 ≤ IntKind.u64.wrap n := by
 have := IntKind.wrap_u64 n
 omega
def aluB (op a b : Int) : Int :=
 if op = 5 then IntKind.i64.wrap (a + b)
 else if op = 6 then IntKind.i64.wrap (a - b)
 else if op = 7 then IntKind.i64.wrap (a * b)
 else if op = 8 then IntKind.i64.wrap (a.tdiv b)
 else if op = 9 then a.tmod b
 else if op = 10 then bits .and .i64 a b
 else if op = 11 then bits .or .i64 a b
 else if op = 12 then bits .xor .i64 a b
 else if op = 13 then IntKind.i64.wrap (a * 2 ^ min (shN b) 64)
 else if op = 14 then a.fdiv (2 ^ min (shN b) 64)
 else if op = 15 then (if a = b then 1 else 0)
 else if op = 16 then (if a < b then 1 else 0)
 else 0
def aluZ (op a b imm : Int) : Int × Bool :=
 if op = 1 then (imm, true) else if op = 2 then (a, true) else if op = 3 then (IntKind.i64.wrap (0 - a), true) else if op = 4 then (bits .xor .i64 (-1) a, true)
 else if 5 ≤ op ∧ op < 17 then (if (op = 8 ∨ op = 9) ∧ b = 0 then (0, false) else (aluB op a b, true)) else (0, false)
section
theorem Jt5k {P : Program} {p : Nums} (A : All P p) (t : Bool) : Jt3w P p.alu_truth [AB t] [] fun o _ => o = .ret (AI (if t = true then 1 else 0)) := by
 refine A.alu_truth.run rfl fun R hR => ?_
 cases t
 ·(simp (maxSteps := 1000000) [Jtae])
  (first | exact hR _ _ FrA | exact hR _ _ FnA)
 ·(simp (maxSteps := 1000000) [Jtae])
  (first | exact hR _ _ FrA | exact hR _ _ FnA)
theorem Jt5b {P : Program} {p : Nums} (A : All P p) (a b : Int) : Jt3w P p.alu_operation_1 [AI a, AI b] [] fun o _ => o = .ret (AI (IntKind.i64.wrap (a + b))) := by
 refine A.alu_operation_1.run rfl fun R hR => ?_
 (simp (maxSteps := 1000000) [Jta2])
 (first | exact hR _ _ FrA | exact hR _ _ FnA)
theorem Jt5c {P : Program} {p : Nums} (A : All P p) (a b : Int) : Jt3w P p.alu_operation_2 [AI a, AI b] [] fun o _ => o = .ret (AI (IntKind.i64.wrap (a - b))) := by
 refine A.alu_operation_2.run rfl fun R hR => ?_
 (simp (maxSteps := 1000000) [Jta6])
 (first | exact hR _ _ FrA | exact hR _ _ FnA)
theorem Jt5d {P : Program} {p : Nums} (A : All P p) (a b : Int) : Jt3w P p.alu_operation_3 [AI a, AI b] [] fun o _ => o = .ret (AI (IntKind.i64.wrap (a * b))) := by
 refine A.alu_operation_3.run rfl fun R hR => ?_
 (simp (maxSteps := 1000000) [Jta7])
 (first | exact hR _ _ FrA | exact hR _ _ FnA)
theorem Jt5e {P : Program} {p : Nums} (A : All P p) (a b : Int) (hb : b ≠ 0) : Jt3w P p.alu_operation_4 [AI a, AI b] [] fun o _ => o = .ret (AI (IntKind.i64.wrap (a.tdiv b))) := by
 refine A.alu_operation_4.run rfl fun R hR => ?_
 (simp (maxSteps := 1000000) [Jta8, hb])
 (first | exact hR _ _ FrA | exact hR _ _ FnA)
theorem Jt5f {P : Program} {p : Nums} (A : All P p) (a b : Int) (hb : b ≠ 0) : Jt3w P p.alu_operation_5 [AI a, AI b] [] fun o _ => o = .ret (AI (a.tmod b)) := by
 refine A.alu_operation_5.run rfl fun R hR => ?_
 (simp (maxSteps := 1000000) [Jta9, hb])
 (first | exact hR _ _ FrA | exact hR _ _ FnA)
theorem Jt5g {P : Program} {p : Nums} (A : All P p) (a b : Int) : Jt3w P p.alu_operation_6 [AI a, AI b] [] fun o _ => o = .ret (AI (bits .and .i64 a b)) := by
 refine A.alu_operation_6.run rfl fun R hR => ?_
 (simp (maxSteps := 1000000) [Jtaa])
 (first | exact hR _ _ FrA | exact hR _ _ FnA)
theorem Jt5h {P : Program} {p : Nums} (A : All P p) (a b : Int) : Jt3w P p.alu_operation_7 [AI a, AI b] [] fun o _ => o = .ret (AI (bits .or .i64 a b)) := by
 refine A.alu_operation_7.run rfl fun R hR => ?_
 (simp (maxSteps := 1000000) [Jtab])
 (first | exact hR _ _ FrA | exact hR _ _ FnA)
theorem Jt5i {P : Program} {p : Nums} (A : All P p) (a b : Int) : Jt3w P p.alu_operation_8 [AI a, AI b] [] fun o _ => o = .ret (AI (bits .xor .i64 a b)) := by
 refine A.alu_operation_8.run rfl fun R hR => ?_
 (simp (maxSteps := 1000000) [Jtac])
 (first | exact hR _ _ FrA | exact hR _ _ FnA)
theorem Jt5j {P : Program} {p : Nums} (A : All P p) (a b : Int) : Jt3w P p.alu_operation_9 [AI a, AI b] [] fun o _ => o = .ret (AI (IntKind.i64.wrap (a * 2 ^ min (shN b) 64))) := by
 refine A.alu_operation_9.run rfl fun R hR => ?_
 have hn : ¬ IntKind.u64.wrap (bits .and .i64 b 63) < 0 := by have := Jtl7 (bits .and .i64 b 63); omega
 (simp (maxSteps := 1000000) [Jtad, hn])
 (first | exact hR _ _ FrA | exact hR _ _ FnA | exact hR _ _ (Xf (hq := by simp [AV.erase, AV.unview, shN]; done)))
theorem Jt58 {P : Program} {p : Nums} (A : All P p) (a b : Int) : Jt3w P p.alu_operation_10 [AI a, AI b] [] fun o _ => o = .ret (AI (a.fdiv (2 ^ min (shN b) 64))) := by
 refine A.alu_operation_10.run rfl fun R hR => ?_
 have hn : ¬ IntKind.u64.wrap (bits .and .i64 b 63) < 0 := by have := Jtl7 (bits .and .i64 b 63); omega
 (simp (maxSteps := 1000000) [Jta3, hn])
 (first | exact hR _ _ FrA | exact hR _ _ FnA | exact hR _ _ (Xf (hq := by simp [AV.erase, AV.unview, shN]; done)))
theorem Jt59 {P : Program} {p : Nums} (A : All P p) (a b : Int) : Jt3w P p.alu_operation_11 [AI a, AI b] [] fun o _ => o = .ret (AI ((if a = b then 1 else 0))) := by
 refine A.alu_operation_11.run rfl fun R hR => ?_
 (simp (maxSteps := 1000000) [Jta4])
 (refine Jty (Jt5k A (a == b)) (by rfl) (by rfl) ?_)
 (simp (maxSteps := 1000000) [])
 (first | exact hR _ _ FrA | exact hR _ _ FnA)
theorem Jt5a {P : Program} {p : Nums} (A : All P p) (a b : Int) : Jt3w P p.alu_operation_12 [AI a, AI b] [] fun o _ => o = .ret (AI ((if a < b then 1 else 0))) := by
 refine A.alu_operation_12.run rfl fun R hR => ?_
 (simp (maxSteps := 1000000) [Jta5])
 (refine Jty (Jt5k A (decide (a < b))) (by rfl) (by rfl) ?_)
 (simp (maxSteps := 1000000) [])
 (first | exact hR _ _ FrA | exact hR _ _ FnA)
theorem Jt4y {P : Program} {p : Nums} (A : All P p) : Jt3w P p.alu_operation [AI 5] [] fun o _ => o = .ret (.tup [.agg [.fn (.func p.alu_operation_1) [] [], AB false], AB true]) := by
 refine A.alu_operation.run rfl fun R hR => ?_
 (simp (maxSteps := 1000000) [Jta1])
 (first | exact hR _ _ FrA | exact hR _ _ FnA)
theorem Jt4z {P : Program} {p : Nums} (A : All P p) : Jt3w P p.alu_operation [AI 6] [] fun o _ => o = .ret (.tup [.agg [.fn (.func p.alu_operation_2) [] [], AB false], AB true]) := by
 refine A.alu_operation.run rfl fun R hR => ?_
 (simp (maxSteps := 1000000) [Jta1])
 (first | exact hR _ _ FrA | exact hR _ _ FnA)
theorem Jt50 {P : Program} {p : Nums} (A : All P p) : Jt3w P p.alu_operation [AI 7] [] fun o _ => o = .ret (.tup [.agg [.fn (.func p.alu_operation_3) [] [], AB false], AB true]) := by
 refine A.alu_operation.run rfl fun R hR => ?_
 (simp (maxSteps := 1000000) [Jta1])
 (first | exact hR _ _ FrA | exact hR _ _ FnA)
theorem Jt51 {P : Program} {p : Nums} (A : All P p) : Jt3w P p.alu_operation [AI 8] [] fun o _ => o = .ret (.tup [.agg [.fn (.func p.alu_operation_4) [] [], AB true], AB true]) := by
 refine A.alu_operation.run rfl fun R hR => ?_
 (simp (maxSteps := 1000000) [Jta1])
 (first | exact hR _ _ FrA | exact hR _ _ FnA)
theorem Jt52 {P : Program} {p : Nums} (A : All P p) : Jt3w P p.alu_operation [AI 9] [] fun o _ => o = .ret (.tup [.agg [.fn (.func p.alu_operation_5) [] [], AB true], AB true]) := by
 refine A.alu_operation.run rfl fun R hR => ?_
 (simp (maxSteps := 1000000) [Jta1])
 (first | exact hR _ _ FrA | exact hR _ _ FnA)
theorem Jt53 {P : Program} {p : Nums} (A : All P p) : Jt3w P p.alu_operation [AI 10] [] fun o _ => o = .ret (.tup [.agg [.fn (.func p.alu_operation_6) [] [], AB false], AB true]) := by
 refine A.alu_operation.run rfl fun R hR => ?_
 (simp (maxSteps := 1000000) [Jta1])
 (first | exact hR _ _ FrA | exact hR _ _ FnA)
theorem Jt54 {P : Program} {p : Nums} (A : All P p) : Jt3w P p.alu_operation [AI 11] [] fun o _ => o = .ret (.tup [.agg [.fn (.func p.alu_operation_7) [] [], AB false], AB true]) := by
 refine A.alu_operation.run rfl fun R hR => ?_
 (simp (maxSteps := 1000000) [Jta1])
 (first | exact hR _ _ FrA | exact hR _ _ FnA)
theorem Jt55 {P : Program} {p : Nums} (A : All P p) : Jt3w P p.alu_operation [AI 12] [] fun o _ => o = .ret (.tup [.agg [.fn (.func p.alu_operation_8) [] [], AB false], AB true]) := by
 refine A.alu_operation.run rfl fun R hR => ?_
 (simp (maxSteps := 1000000) [Jta1])
 (first | exact hR _ _ FrA | exact hR _ _ FnA)
theorem Jt56 {P : Program} {p : Nums} (A : All P p) : Jt3w P p.alu_operation [AI 13] [] fun o _ => o = .ret (.tup [.agg [.fn (.func p.alu_operation_9) [] [], AB false], AB true]) := by
 refine A.alu_operation.run rfl fun R hR => ?_
 (simp (maxSteps := 1000000) [Jta1])
 (first | exact hR _ _ FrA | exact hR _ _ FnA)
theorem Jt4v {P : Program} {p : Nums} (A : All P p) : Jt3w P p.alu_operation [AI 14] [] fun o _ => o = .ret (.tup [.agg [.fn (.func p.alu_operation_10) [] [], AB false], AB true]) := by
 refine A.alu_operation.run rfl fun R hR => ?_
 (simp (maxSteps := 1000000) [Jta1])
 (first | exact hR _ _ FrA | exact hR _ _ FnA)
theorem Jt4w {P : Program} {p : Nums} (A : All P p) : Jt3w P p.alu_operation [AI 15] [] fun o _ => o = .ret (.tup [.agg [.fn (.func p.alu_operation_11) [] [], AB false], AB true]) := by
 refine A.alu_operation.run rfl fun R hR => ?_
 (simp (maxSteps := 1000000) [Jta1])
 (first | exact hR _ _ FrA | exact hR _ _ FnA)
theorem Jt4x {P : Program} {p : Nums} (A : All P p) : Jt3w P p.alu_operation [AI 16] [] fun o _ => o = .ret (.tup [.agg [.fn (.func p.alu_operation_12) [] [], AB false], AB true]) := by
 refine A.alu_operation.run rfl fun R hR => ?_
 (simp (maxSteps := 1000000) [Jta1])
 (first | exact hR _ _ FrA | exact hR _ _ FnA)
theorem Jt57 {P : Program} {p : Nums} (A : All P p) (op : Int) (h : op < 5 ∨ 17 ≤ op) : Jt3w P p.alu_operation [AI op] [] fun o _ => o = .ret (.tup [.agg [.nilfn, AB false], AB false]) := by
 refine A.alu_operation.run rfl fun R hR => ?_
 (simp (maxSteps := 1000000) [Jta1])
 ((first | refine Xc (fun h1 => ?_) (fun h1 => ?_) | refine Xo (fun h1 => ?_) (fun h1 => ?_)) <;> (try simp only [Xz, Xy] at h1))
 ·(simp (maxSteps := 1000000) [h1])
  (first | exact hR _ _ FrA | exact hR _ _ FnA)
 ·(simp (maxSteps := 1000000) [h1])
  ((first | refine Xc (fun h2 => ?_) (fun h2 => ?_) | refine Xo (fun h2 => ?_) (fun h2 => ?_)) <;> (try simp only [Xz, Xy] at h2))
  ·(simp (maxSteps := 1000000) [h2])
   (first | exact hR _ _ FrA | exact hR _ _ FnA)
  ·exfalso; omega
end
structure RunZ where (state : Int) (block at_ : Nat) (value : Int) (regs slots trace : List Int) (steps : Nat)
def RunZ.av (r : RunZ) : AV := .agg [AI r.state, AI r.block, AI r.at_, AI r.value, .d (intsD r.regs), .d (intsD r.slots), .d (intsD r.trace), AI r.steps]
def gI (l : List Int) (n : Int) : Int := l.getD n.toNat 0
def setI (l : List Int) (n v : Int) : List Int := l.set n.toNat v
def stepI (i : Instr) (r : RunZ) : RunZ :=
 if i.op = 17 then { r with trace := r.trace ++ [gI r.regs i.a], at_ := r.at_ + 1, steps := r.steps + 1 }
 else if (aluZ i.op (gI r.regs i.a) (gI r.regs i.b) i.imm).2 = true then { r with regs := setI r.regs i.d (aluZ i.op (gI r.regs i.a) (gI r.regs i.b) i.imm).1, at_ := r.at_ + 1, steps := r.steps + 1 }
 else { r with state := 2 }
def stepT (t : Term) (r : RunZ) : RunZ :=
 if t.kind = 3 then { r with steps := r.steps + 1, state := 1, value := gI r.regs t.a }
 else if t.kind = 2 ∧ gI r.regs t.a = 0 then { r with steps := r.steps + 1, block := t.els.toNat, at_ := 0 }
 else { r with steps := r.steps + 1, block := t.to.toNat, at_ := 0 }
def stepS (f : Func) (r : RunZ) : RunZ := match f.blocks[r.block]? with
 | none => r
 | some b => match b.code[r.at_]? with
  | some i => stepI i r
  | none => stepT b.term r
theorem Jtc6 (l : List Int) : ∀ r ∈ l.map intRow, r.length = 1 := Jth9 fun x => rfl
theorem flatI (l : List Int) : (l.map intRow).flatten = l.map fun x => D.int .i64 x := by
 induction l with
 | nil => rfl
 | cons x l ih => rw [List.map_cons, List.flatten_cons, ih]; rfl
theorem cellI {l : List Int} {n : Int} (h0 : 0 ≤ n) (h1 : n < l.length) : (Jth5 (l.map intRow))[n.toNat]? = some (AI (gI l n)) := by
 have h : n.toNat < l.length := by omega
 unfold Jth5
 rw [flatI]
 simp [gI, h, List.getD_eq_getElem?_getD]
theorem lenI (l : List Int) : (Jth5 (l.map intRow)).length = l.length := by rw [Jth6 (Jtc6 l)]; simp
theorem Jthw {l : List Int} {n v : Int} (h0 : 0 ≤ n) (h1 : n < l.length) : spl (Jth5 (l.map intRow)) n.toNat [AI v] = Jth5 ((setI l n v).map intRow) := by
 have := Jtj9 (Jtc6 l) (row := [.int .i64 v]) rfl (k := n.toNat) (by simp; omega)
 rw [Nat.mul_one] at this
 unfold setI
 rw [List.map_set]; exact this
theorem Jthx (l : List Int) (n v : Int) : (setI l n v).length = l.length := by simp [setI]
def stB (f : Func) (r : RunZ) : Blk := .mem [AI r.state, AI r.block, AI r.at_, AI r.value, .hsl 1 0 1 r.regs.length, .nils, .own 1 (r.trace.map intRow), AI r.steps, AI f.args, AI f.regs, .d (.sl (f.blocks.map Block.row))]
def regB (r : RunZ) : Blk := .mem (Jth5 (r.regs.map intRow))
section
theorem Jt4u {P : Program} {p : Nums} (A : All P p) (op a b imm : Int) : Jt3w P p.alu_Eval [AI op, AI a, AI b, AI imm] [] fun o _ => o = .ret (.tup [AI (aluZ op a b imm).1, AB (aluZ op a b imm).2]) := by
 refine A.alu_Eval.run rfl fun R hR => ?_
 by_cases h1 : op = 1
 ·subst h1
  (simp (maxSteps := 1000000) [Jta0])
  (first | exact hR _ _ FrA | exact hR _ _ FnA | exact hR _ _ (Xf (hq := by simp [AV.erase, AV.unview, aluZ]; done)))
 by_cases h2 : op = 2
 ·subst h2
  (simp (maxSteps := 1000000) [Jta0])
  (first | exact hR _ _ FrA | exact hR _ _ FnA | exact hR _ _ (Xf (hq := by simp [AV.erase, AV.unview, aluZ]; done)))
 by_cases h3 : op = 3
 ·subst h3
  (simp (maxSteps := 1000000) [Jta0])
  (first | exact hR _ _ FrA | exact hR _ _ FnA | exact hR _ _ (Xf (hq := by simp [AV.erase, AV.unview, aluZ]; done)))
 by_cases h4 : op = 4
 ·subst h4
  (simp (maxSteps := 1000000) [Jta0])
  (first | exact hR _ _ FrA | exact hR _ _ FnA | exact hR _ _ (Xf (hq := by simp [AV.erase, AV.unview, aluZ]; done)))
 by_cases h5 : op < 5 ∨ 17 ≤ op
 ·have n1 : (op == 1) = false := by simpa using h1
  have n2 : (op == 2) = false := by simpa using h2
  have n3 : (op == 3) = false := by simpa using h3
  have n4 : (op == 4) = false := by simpa using h4
  have hz : aluZ op a b imm = (0, false) := by unfold aluZ; rw [if_neg h1, if_neg h2, if_neg h3, if_neg h4, if_neg (by omega)]
  (simp (maxSteps := 1000000) [Jta0, n1, n2, n3, n4])
  (refine Jty (Jt57 A op h5) (by rfl) (by rfl) ?_)
  (simp (maxSteps := 1000000) [])
  (first | exact hR _ _ FrA | exact hR _ _ FnA | exact hR _ _ (Xf (hq := by simp [AV.erase, AV.unview, hz]; done)))
 have hop : op = 5 ∨ op = 6 ∨ op = 7 ∨ op = 8 ∨ op = 9 ∨ op = 10 ∨ op = 11 ∨ op = 12 ∨ op = 13 ∨ op = 14 ∨ op = 15 ∨ op = 16 := by omega
 rcases hop with rfl | rfl | rfl | rfl | rfl | rfl | rfl | rfl | rfl | rfl | rfl | rfl
 ·(simp (maxSteps := 1000000) [Jta0])
  (refine Jty (Jt4y A) (by rfl) (by rfl) ?_)
  (simp (maxSteps := 1000000) [])
  refine ⟨A.alu_operation_1.ok, ?_⟩
  (refine Jty (Jt5b A a b) (by rfl) (by rfl) ?_)
  (simp (maxSteps := 1000000) [])
  (first | exact hR _ _ FrA | exact hR _ _ FnA | exact hR _ _ (Xf (hq := by simp [AV.erase, AV.unview, aluZ, aluB]; done)))
 ·(simp (maxSteps := 1000000) [Jta0])
  (refine Jty (Jt4z A) (by rfl) (by rfl) ?_)
  (simp (maxSteps := 1000000) [])
  refine ⟨A.alu_operation_2.ok, ?_⟩
  (refine Jty (Jt5c A a b) (by rfl) (by rfl) ?_)
  (simp (maxSteps := 1000000) [])
  (first | exact hR _ _ FrA | exact hR _ _ FnA | exact hR _ _ (Xf (hq := by simp [AV.erase, AV.unview, aluZ, aluB]; done)))
 ·(simp (maxSteps := 1000000) [Jta0])
  (refine Jty (Jt50 A) (by rfl) (by rfl) ?_)
  (simp (maxSteps := 1000000) [])
  refine ⟨A.alu_operation_3.ok, ?_⟩
  (refine Jty (Jt5d A a b) (by rfl) (by rfl) ?_)
  (simp (maxSteps := 1000000) [])
  (first | exact hR _ _ FrA | exact hR _ _ FnA | exact hR _ _ (Xf (hq := by simp [AV.erase, AV.unview, aluZ, aluB]; done)))
 ·by_cases hb : b = 0
  ·subst hb
   (simp (maxSteps := 1000000) [Jta0])
   (refine Jty (Jt51 A) (by rfl) (by rfl) ?_)
   (simp (maxSteps := 1000000) [])
   (first | exact hR _ _ FrA | exact hR _ _ FnA | exact hR _ _ (Xf (hq := by simp [AV.erase, AV.unview, aluZ]; done)))
  ·have hbb : (b == 0) = false := by simpa using hb
   (simp (maxSteps := 1000000) [Jta0])
   (refine Jty (Jt51 A) (by rfl) (by rfl) ?_)
   (simp (maxSteps := 1000000) [hbb])
   refine ⟨A.alu_operation_4.ok, ?_⟩
   (refine Jty (Jt5e A a b hb) (by rfl) (by rfl) ?_)
   (simp (maxSteps := 1000000) [])
   (first | exact hR _ _ FrA | exact hR _ _ FnA | exact hR _ _ (Xf (hq := by simp [AV.erase, AV.unview, aluZ, aluB, hb]; done)))
 ·by_cases hb : b = 0
  ·subst hb
   (simp (maxSteps := 1000000) [Jta0])
   (refine Jty (Jt52 A) (by rfl) (by rfl) ?_)
   (simp (maxSteps := 1000000) [])
   (first | exact hR _ _ FrA | exact hR _ _ FnA | exact hR _ _ (Xf (hq := by simp [AV.erase, AV.unview, aluZ]; done)))
  ·have hbb : (b == 0) = false := by simpa using hb
   (simp (maxSteps := 1000000) [Jta0])
   (refine Jty (Jt52 A) (by rfl) (by rfl) ?_)
   (simp (maxSteps := 1000000) [hbb])
   refine ⟨A.alu_operation_5.ok, ?_⟩
   (refine Jty (Jt5f A a b hb) (by rfl) (by rfl) ?_)
   (simp (maxSteps := 1000000) [])
   (first | exact hR _ _ FrA | exact hR _ _ FnA | exact hR _ _ (Xf (hq := by simp [AV.erase, AV.unview, aluZ, aluB, hb]; done)))
 ·(simp (maxSteps := 1000000) [Jta0])
  (refine Jty (Jt53 A) (by rfl) (by rfl) ?_)
  (simp (maxSteps := 1000000) [])
  refine ⟨A.alu_operation_6.ok, ?_⟩
  (refine Jty (Jt5g A a b) (by rfl) (by rfl) ?_)
  (simp (maxSteps := 1000000) [])
  (first | exact hR _ _ FrA | exact hR _ _ FnA | exact hR _ _ (Xf (hq := by simp [AV.erase, AV.unview, aluZ, aluB]; done)))
 ·(simp (maxSteps := 1000000) [Jta0])
  (refine Jty (Jt54 A) (by rfl) (by rfl) ?_)
  (simp (maxSteps := 1000000) [])
  refine ⟨A.alu_operation_7.ok, ?_⟩
  (refine Jty (Jt5h A a b) (by rfl) (by rfl) ?_)
  (simp (maxSteps := 1000000) [])
  (first | exact hR _ _ FrA | exact hR _ _ FnA | exact hR _ _ (Xf (hq := by simp [AV.erase, AV.unview, aluZ, aluB]; done)))
 ·(simp (maxSteps := 1000000) [Jta0])
  (refine Jty (Jt55 A) (by rfl) (by rfl) ?_)
  (simp (maxSteps := 1000000) [])
  refine ⟨A.alu_operation_8.ok, ?_⟩
  (refine Jty (Jt5i A a b) (by rfl) (by rfl) ?_)
  (simp (maxSteps := 1000000) [])
  (first | exact hR _ _ FrA | exact hR _ _ FnA | exact hR _ _ (Xf (hq := by simp [AV.erase, AV.unview, aluZ, aluB]; done)))
 ·(simp (maxSteps := 1000000) [Jta0])
  (refine Jty (Jt56 A) (by rfl) (by rfl) ?_)
  (simp (maxSteps := 1000000) [])
  refine ⟨A.alu_operation_9.ok, ?_⟩
  (refine Jty (Jt5j A a b) (by rfl) (by rfl) ?_)
  (simp (maxSteps := 1000000) [])
  (first | exact hR _ _ FrA | exact hR _ _ FnA | exact hR _ _ (Xf (hq := by simp [AV.erase, AV.unview, aluZ, aluB]; done)))
 ·(simp (maxSteps := 1000000) [Jta0])
  (refine Jty (Jt4v A) (by rfl) (by rfl) ?_)
  (simp (maxSteps := 1000000) [])
  refine ⟨A.alu_operation_10.ok, ?_⟩
  (refine Jty (Jt58 A a b) (by rfl) (by rfl) ?_)
  (simp (maxSteps := 1000000) [])
  (first | exact hR _ _ FrA | exact hR _ _ FnA | exact hR _ _ (Xf (hq := by simp [AV.erase, AV.unview, aluZ, aluB]; done)))
 ·(simp (maxSteps := 1000000) [Jta0])
  (refine Jty (Jt4w A) (by rfl) (by rfl) ?_)
  (simp (maxSteps := 1000000) [])
  refine ⟨A.alu_operation_11.ok, ?_⟩
  (refine Jty (Jt59 A a b) (by rfl) (by rfl) ?_)
  (simp (maxSteps := 1000000) [])
  (first | exact hR _ _ FrA | exact hR _ _ FnA | exact hR _ _ (Xf (hq := by simp [AV.erase, AV.unview, aluZ, aluB]; done)))
 ·(simp (maxSteps := 1000000) [Jta0])
  (refine Jty (Jt4x A) (by rfl) (by rfl) ?_)
  (simp (maxSteps := 1000000) [])
  refine ⟨A.alu_operation_12.ok, ?_⟩
  (refine Jty (Jt5a A a b) (by rfl) (by rfl) ?_)
  (simp (maxSteps := 1000000) [])
  (first | exact hR _ _ FrA | exact hR _ _ FnA | exact hR _ _ (Xf (hq := by simp [AV.erase, AV.unview, aluZ, aluB]; done)))
end
end Go.AE
set_option maxRecDepth 4000
namespace Go.AE
open Go
section
theorem Jtcb {P : Program} {p : Nums} (A : All P p) (f : Func) (i : Instr) (r : RunZ) (ha : 0 ≤ i.a ∧ i.a < r.regs.length) (hb : 0 ≤ i.b ∧ i.b < r.regs.length) (hd : 0 ≤ i.d ∧ i.d < r.regs.length) (h1 : r.at_ < 1000000000) (h2 : r.steps < 1000000000) (h3 : r.trace.length < 1000000000) :
  Jt3w P p.interp_state_instr [.ptr 0 0, i.av] [stB f r, regB r] fun o H' => o = .ret (.tup []) ∧ H' = [stB f (stepI i r), regB (stepI i r)] := by
 obtain ⟨state, block, at_, value, regs, slots, trace, steps⟩ := r
 simp only at ha hb hd h1 h2 h3
 obtain ⟨T, hT⟩ : ∃ T, T = stepI i ⟨state, block, at_, value, regs, slots, trace, steps⟩ := ⟨_, rfl⟩
 rw [← hT]
 unfold stepI at hT
 simp only at hT
 have ca := cellI ha.1 ha.2
 have cb := cellI hb.1 hb.2
 have hl := lenI regs
 have w1 := Jtlt (k := at_) (by omega)
 have w2 := Jtlt (k := steps) (by omega)
 have ev := Jt4u A i.op (gI regs i.a) (gI regs i.b) i.imm
 obtain ⟨va, hva⟩ : ∃ v, v = gI regs i.a := ⟨_, rfl⟩
 obtain ⟨vb, hvb⟩ : ∃ v, v = gI regs i.b := ⟨_, rfl⟩
 rw [← hva] at ca ev hT
 rw [← hvb] at cb ev hT
 obtain ⟨⟨x, ok⟩, hx⟩ : ∃ x, x = aluZ i.op va vb i.imm := ⟨_, rfl⟩
 rw [← hx] at ev hT
 have hsp := Jthw (v := x) hd.1 hd.2
 have hsl := Jthx regs i.d x
 obtain ⟨n, hn⟩ : ∃ n, n = regs.length := ⟨_, rfl⟩
 rw [← hn] at ha hb hd hl hsl
 obtain ⟨cR, hcR⟩ : ∃ y, y = Jth5 (regs.map intRow) := ⟨_, rfl⟩
 rw [← hcR] at ca cb hl hsp
 obtain ⟨tR, htR⟩ : ∃ y, y = trace.map intRow := ⟨_, rfl⟩
 have htl : tR.length = trace.length := by rw [htR]; simp
 obtain ⟨fR, hfR⟩ : ∃ y, y = f.blocks.map Block.row := ⟨_, rfl⟩
 obtain ⟨op, d, a, b, imm⟩ := i
 simp only at ha hb hd ev hT hsp hsl hx hva hvb ca cb
 have ha3 : a.toNat < n := by omega
 have hb3 : b.toNat < n := by omega
 have hd3 : d.toNat < n := by omega
 have hd4 : d.toNat + 1 ≤ n := by omega
 have ca2 : ∀ h : a.toNat < cR.length, cR[a.toNat]'h = AI va := fun h => (List.getElem?_eq_some_iff.1 ca).2
 have cb2 : ∀ h : b.toNat < cR.length, cR[b.toNat]'h = AI vb := fun h => (List.getElem?_eq_some_iff.1 cb).2
 refine A.interp_state_instr.run rfl fun R hR => ?_
 simp only [stB, regB, ← hn, ← hcR, ← htR, ← hfR]
 by_cases h17 : op = 17
 ·rw [if_pos h17] at hT
  (simp (maxSteps := 1000000) [Jtaq, Instr.av, h17, ha, hl, ca, ca2])
  (refine Jt1a (by rfl) (by rfl) (by rfl) ?_ (by decide) ?_ ?_ ?_)
  ·simp
  ·simp; omega
  ·simp; omega
  (simp (maxSteps := 1000000) [w1, w2])
  refine hR _ _ (Fin_wk (.tup []) (.tup []) [stB f T, regB T] rfl ?_ ⟨rfl, rfl⟩)
  rw [hT]
  simp only [stB, regB, ← hn, ← hcR, ← htR, ← hfR, List.map_append, List.map_cons, List.map_nil]
  subst hcR
  (exact wkA)
 ·rw [if_neg h17] at hT
  have h17b : (op == 17) = false := by simpa using h17
  (simp (maxSteps := 1000000) [Jtaq, Instr.av, h17, h17b, ha, hb, hl, ca, cb, ca2, cb2])
  (refine Jty ev (by rfl) (by rfl) ?_)
  (simp (maxSteps := 1000000) [])
  cases ok with
  | false =>
   rw [if_neg (by simp)] at hT
   (simp (maxSteps := 1000000) [])
   refine hR _ _ (Jt3z (.tup []) (.tup []) [stB f T, regB T] rfl ?_ ⟨rfl, rfl⟩)
   rw [hT]
   simp only [stB, regB, ← hn, ← hcR, ← htR, ← hfR]
   subst hcR
   (exact wkA)
  | true =>
   rw [if_pos rfl] at hT
   have hl2 : (setI regs d x).length = n := hsl
   obtain ⟨cS, hcS⟩ : ∃ y, y = Jth5 ((setI regs d x).map intRow) := ⟨_, rfl⟩
   rw [← hcS] at hsp
   have hsp2 : List.take d.toNat cR ++ AI x :: List.drop (d.toNat + 1) cR = cS := by rw [← hsp]; simp [spl]
   (simp (maxSteps := 1000000) [hd, hl, hd3, hd4, hsp, hsp2, w1, w2])
   refine hR _ _ (Fin_wk (.tup []) (.tup []) [stB f T, regB T] rfl ?_ ⟨rfl, rfl⟩)
   rw [hT]
   simp only [stB, regB, hl2, ← hcS, ← htR, ← hfR]
   subst hcS
   (exact wkA)
theorem Jtce {P : Program} {p : Nums} (A : All P p) (f : Func) (t : Term) (r : RunZ) (ha : t.kind ≠ 1 → 0 ≤ t.a ∧ t.a < r.regs.length) (hto : t.kind = 1 ∨ t.kind = 2 → 0 ≤ t.to) (hel : t.kind = 2 → 0 ≤ t.els) (hk : t.kind = 1 ∨ t.kind = 2 ∨ t.kind = 3) (h2 : r.steps < 1000000000) :
  Jt3w P p.interp_state_term [.ptr 0 0, t.av] [stB f r, regB r] fun o H' => o = .ret (.tup []) ∧ H' = [stB f (stepT t r), regB (stepT t r)] := by
 obtain ⟨state, block, at_, value, regs, slots, trace, steps⟩ := r
 simp only at ha h2
 obtain ⟨T, hT⟩ : ∃ T, T = stepT t ⟨state, block, at_, value, regs, slots, trace, steps⟩ := ⟨_, rfl⟩
 rw [← hT]
 unfold stepT at hT
 simp only at hT
 have ca := fun h => cellI (ha h).1 (ha h).2
 have hl := lenI regs
 have w2 := Jtlt (k := steps) (by omega)
 obtain ⟨va, hva⟩ : ∃ v, v = gI regs t.a := ⟨_, rfl⟩
 rw [← hva] at ca hT
 obtain ⟨n, hn⟩ : ∃ n, n = regs.length := ⟨_, rfl⟩
 rw [← hn] at ha hl
 obtain ⟨cR, hcR⟩ : ∃ y, y = Jth5 (regs.map intRow) := ⟨_, rfl⟩
 rw [← hcR] at ca hl
 obtain ⟨tR, htR⟩ : ∃ y, y = trace.map intRow := ⟨_, rfl⟩
 obtain ⟨fR, hfR⟩ : ∃ y, y = f.blocks.map Block.row := ⟨_, rfl⟩
 obtain ⟨kind, a, to, els⟩ := t
 simp only at ha hT ca hk hto hel
 have ca2 : kind ≠ 1 → ∀ h : a.toNat < cR.length, cR[a.toNat]'h = AI va := fun h0 h => (List.getElem?_eq_some_iff.1 (ca h0)).2
 refine A.interp_state_term.run rfl fun R hR => ?_
 simp only [stB, regB, ← hn, ← hcR, ← htR, ← hfR]
 rcases hk with rfl | rfl | rfl
 ·rw [if_neg (by decide), if_neg (by rintro ⟨h, _⟩; cases h)] at hT
  have he : ((to.toNat : Nat) : Int) = to := by have := hto (.inl rfl); omega
  (simp (maxSteps := 1000000) [Jtas, Term.av, w2])
  refine hR _ _ (Fin_wk (.tup []) (.tup []) [stB f T, regB T] rfl ?_ ⟨rfl, rfl⟩)
  rw [hT]
  simp only [stB, regB, ← hn, ← hcR, ← htR, ← hfR, he]
  subst hcR
  (exact wkA)
 ·have ha := ha (by decide)
  have ca := ca (by decide)
  have ca2 := ca2 (by decide)
  by_cases hz : va = 0
  ·rw [if_neg (by decide), if_pos ⟨rfl, hz⟩] at hT
   have he : ((els.toNat : Nat) : Int) = els := by have := hel rfl; omega
   (simp (maxSteps := 1000000) [Jtas, Term.av, w2, ha, hl, ca, ca2, hz])
   refine hR _ _ (Fin_wk (.tup []) (.tup []) [stB f T, regB T] rfl ?_ ⟨rfl, rfl⟩)
   rw [hT]
   simp only [stB, regB, ← hn, ← hcR, ← htR, ← hfR, he]
   subst hcR
   (exact wkA)
  ·rw [if_neg (by decide), if_neg (fun h => hz h.2)] at hT
   have hzb : (va == 0) = false := by simpa using hz
   have he : ((to.toNat : Nat) : Int) = to := by have := hto (.inr rfl); omega
   (simp (maxSteps := 1000000) [Jtas, Term.av, w2, ha, hl, ca, ca2, hzb])
   refine hR _ _ (Fin_wk (.tup []) (.tup []) [stB f T, regB T] rfl ?_ ⟨rfl, rfl⟩)
   rw [hT]
   simp only [stB, regB, ← hn, ← hcR, ← htR, ← hfR, he]
   subst hcR
   (exact wkA)
 ·have ha := ha (by decide)
  have ca := ca (by decide)
  have ca2 := ca2 (by decide)
  rw [if_pos rfl] at hT
  (simp (maxSteps := 1000000) [Jtas, Term.av, w2, ha, hl, ca, ca2])
  refine hR _ _ (Jt3z (.tup []) (.tup []) [stB f T, regB T] rfl ?_ ⟨rfl, rfl⟩)
  rw [hT]
  simp only [stB, regB, ← hn, ← hcR, ← htR, ← hfR]
  subst hcR
  (exact wkA)
end
end Go.AE
set_option maxRecDepth 4000
namespace Go.AE
open Go
structure OkT (t : Term) (n k : Nat) : Prop where
 kind : t.kind = 1 ∨ t.kind = 2 ∨ t.kind = 3
 a : t.kind ≠ 1 → 0 ≤ t.a ∧ t.a < n
 to : t.kind = 1 ∨ t.kind = 2 → 0 ≤ t.to ∧ t.to < k
 els : t.kind = 2 → 0 ≤ t.els ∧ t.els < k
structure OkF (f : Func) (n : Nat) : Prop where
 code : ∀ b ∈ f.blocks, ∀ i ∈ b.code, (0 ≤ i.a ∧ i.a < n) ∧ (0 ≤ i.b ∧ i.b < n) ∧ (0 ≤ i.d ∧ i.d < n)
 term : ∀ b ∈ f.blocks, OkT b.term n f.blocks.length
structure OkR (f : Func) (n : Nat) (r : RunZ) : Prop where
 regs : r.regs.length = n
 block : r.block < f.blocks.length
 at_ : ∀ b, f.blocks[r.block]? = some b → r.at_ ≤ b.code.length
theorem Jtjw (i : Instr) (r : RunZ) : (stepI i r).regs.length = r.regs.length := by
 unfold stepI
 split
 ·rfl
 ·split
  ·simp [setI]
  ·rfl
theorem Jtk4 {f : Func} {n : Nat} {r : RunZ} (hf : OkF f n) (h : OkR f n r) : OkR f n (stepS f r) := by
  obtain ⟨b, hb⟩ : ∃ b, f.blocks[r.block]? = some b := ⟨_, List.getElem?_eq_getElem h.block⟩
  have hat := h.at_ b hb
  unfold stepS
  rw [hb]
  simp only
  cases hi : b.code[r.at_]? with
  | some i =>
    simp only
    have hlt := (List.getElem?_eq_some_iff.1 hi).1
    refine ⟨by rw [Jtjw]; exact h.regs, ?_, ?_⟩
    · unfold stepI; split
      · exact h.block
      · split
        · exact h.block
        · exact h.block
    · intro b' hb'
      have e : (stepI i r).block = r.block := by unfold stepI; split; · rfl
                                                 split <;> rfl
      rw [e, hb] at hb'; injection hb' with hb'; subst hb'
      unfold stepI; split
      · exact hlt
      · split
        · exact hlt
        · exact hat
  | none =>
    simp only
    have ht := hf.term b (List.mem_of_getElem? hb)
    unfold stepT
    split
    · exact ⟨h.regs, h.block, h.at_⟩
    · rename_i k3
      split
      · rename_i k2
        have := ht.els k2.1
        exact ⟨h.regs, by show b.term.els.toNat < _; omega, fun b' _ => Nat.zero_le _⟩
      · have := ht.to (by have := ht.kind; omega)
        exact ⟨h.regs, by show b.term.to.toNat < _; omega, fun b' _ => Nat.zero_le _⟩
theorem Jtk6 (f : Func) (r : RunZ) : (stepS f r).steps ≤ r.steps + 1 ∧ (stepS f r).at_ ≤ r.at_ + 1 ∧ (stepS f r).trace.length ≤ r.trace.length + 1 ∧ ((stepS f r).state = 0 → r.state = 0 → f.blocks[r.block]? ≠ none → (stepS f r).steps = r.steps + 1) := by
 unfold stepS
 cases hb : f.blocks[r.block]? with
 | none => exact ⟨by simp, by simp, by simp, fun _ _ h => absurd rfl h⟩
 | some b =>
  simp only
  cases hi : b.code[r.at_]? with
  | some i =>
   simp only
   unfold stepI
   split
   ·exact ⟨by simp, by simp, by simp, fun _ _ _ => rfl⟩
   ·split
    ·exact ⟨by simp, by simp, by simp, fun _ _ _ => rfl⟩
    ·exact ⟨by simp, by simp, by simp, fun h => by cases h⟩
  | none =>
   simp only
   unfold stepT
   split
   ·exact ⟨by simp, by simp, by simp, fun h => by cases h⟩
   ·split
    ·exact ⟨by simp, by simp, by simp, fun _ _ _ => rfl⟩
    ·exact ⟨by simp, by simp, by simp, fun _ _ _ => rfl⟩
def runS (f : Func) (lim : Nat) : Nat → RunZ → RunZ
 | 0, r => r
 | k + 1, r => if r.state = 0 ∧ r.steps < lim then runS f lim k (stepS f r) else r
theorem Jthm {f : Func} {lim : Nat} {r : RunZ} (h : ¬ (r.state = 0 ∧ r.steps < lim)) (k : Nat) : runS f lim k r = r := by
 cases k with
 | zero => rfl
 | succ k => unfold runS; rw [if_neg h]
def run0 (f : Func) (args : List Int) : RunZ := ⟨0, 0, 0, 0, args ++ List.replicate (f.regs.toNat - args.length) 0, [], [], 0⟩
def execS (f : Func) (args : List Int) (lim : Nat) : RunZ := runS f lim (lim + 1) (run0 f args)
theorem Jtgm {ρ : Nat → Option Nat} (h : ρ 1 = some 1) (f : Func) (r : RunZ) : renB ρ [stB f r, regB r] = some [stB f r, regB r] := by
 have hr : renL ρ (Jth5 (r.regs.map intRow)) = some (Jth5 (r.regs.map intRow)) := renL_d _
 simp only [renB, Blk.ren, stB, regB, renL, AV.ren, h, hr]
section
theorem Jtcc {P : Program} {p : Nums} (A : All P p) (f : Func) (n : Nat) (r : RunZ) (hf : OkF f n) (h : OkR f n r) (h1 : r.at_ < 1000000) (h2 : r.steps < 1000000000) (h3 : r.trace.length < 1000000000) :
  Jt3w P p.interp_state_step [.ptr 0 0] [stB f r, regB r] fun o H' => o = .ret (.tup []) ∧ H' = [stB f (stepS f r), regB (stepS f r)] := by
 obtain ⟨b, hb⟩ : ∃ b, f.blocks[r.block]? = some b := ⟨_, List.getElem?_eq_getElem h.block⟩
 have hat := h.at_ b hb
 have mb := List.mem_of_getElem? hb
 have hfR : (f.blocks.map Block.row)[r.block]? = some b.row := by rw [List.getElem?_map, hb]; rfl
 obtain ⟨T, hT⟩ : ∃ T, T = stepS f r := ⟨_, rfl⟩
 rw [← hT]
 unfold stepS at hT
 rw [hb] at hT
 simp only at hT
 refine A.interp_state_step.run rfl fun R hR => ?_
 by_cases hlt : r.at_ < b.code.length
 ·have hi : b.code[r.at_]? = some b.code[r.at_] := by simp [hlt]
  obtain ⟨i, hie⟩ : ∃ i, i = b.code[r.at_] := ⟨_, rfl⟩
  rw [← hie] at hi
  rw [hi] at hT
  simp only at hT
  have hiR : (b.code.map Instr.row)[r.at_]? = some i.row := by rw [List.getElem?_map, hi]; rfl
  obtain ⟨ok1, ok2, ok3⟩ := hf.code b mb i (List.mem_of_getElem? hi)
  rw [← h.regs] at ok1 ok2 ok3
  have hc := Jtcb A f i r ok1 ok2 ok3 (by omega) h2 h3
  rw [← hT] at hc
  simp only [stB, regB, Instr.av]
  (simp (maxSteps := 1000000) [Jtar, hfR, Block.row, hlt, hiR, Instr.row])
  simp only [← hie]
  refine Jt10 [0, 1] hc (by decide) (by rfl) (by rfl) (Jtgm (by rfl) f r) (Jtgm (by rfl) f T) (by rfl) (by rfl) ?_
  simp only [stB, regB]
  (simp (maxSteps := 1000000) [])
  refine hR _ _ (Fin_wk (.tup []) (.tup []) [stB f T, regB T] rfl ?_ ⟨rfl, rfl⟩)
  simp only [stB, regB]
  (exact wkA)
 ·have hi : b.code[r.at_]? = none := List.getElem?_eq_none (by omega)
  rw [hi] at hT
  simp only at hT
  have ok := hf.term b mb
  have hc := Jtce A f b.term r (fun h0 => by rw [h.regs]; exact ok.a h0) (fun h0 => (ok.to h0).1) (fun h0 => (ok.els h0).1) ok.kind h2
  rw [← hT] at hc
  simp only [stB, regB, Term.av]
  (simp (maxSteps := 1000000) [Jtar, hfR, Block.row, hlt])
  refine Jt10 [0, 1] hc (by decide) (by rfl) (by rfl) (Jtgm (by rfl) f r) (Jtgm (by rfl) f T) (by rfl) (by rfl) ?_
  simp only [stB, regB]
  (simp (maxSteps := 1000000) [])
  refine hR _ _ (Fin_wk (.tup []) (.tup []) [stB f T, regB T] rfl ?_ ⟨rfl, rfl⟩)
  simp only [stB, regB]
  (exact wkA)
end
end Go.AE
set_option maxRecDepth 4000
namespace Go.AE
open Go
section
variable {P : Program} {K : ASt → Prop} {QP : AV → ASt → Prop} {dst : Option Nat} {st : ASt}
theorem Jt1l {esz : Nat} {x y : Opd} {b off len : Nat} {ys : List (List D)} {cells : List AV} (h : evr st.env x = some (.hsl b off esz len)) (hy : Jt5p st.env y = some ys) (hr : ∀ r ∈ ys, r.length = esz) (hle : ys.length ≤ len) (hb : st.H[b]? = some (.mem cells)) (hc : off + ys.length * esz ≤ cells.length)
  (h0 : ys = [] → K (put dst (AI 0) st)) (h1 : ys ≠ [] → K (put dst (AI ys.length) ⟨unview st.env, st.H.set b (.mem (spl cells off (ys.flatten.map AV.d)))⟩)) : AWio P false (.cpy esz x y) dst K QP st := by
 refine ⟨rfl, ys, hy, hr, ?_⟩
 rw [h]
 exact ⟨rfl, hle, h0, fun hne => ⟨cells, hb, hc, hr, h1 hne⟩⟩
end
theorem Jtk5 (f : Func) (r : RunZ) : (stepS f r).slots = r.slots := by
 unfold stepS
 split
 ·rfl
 ·split
  ·unfold stepI; split
   ·rfl
   ·split <;> rfl
  ·unfold stepT; split
   ·rfl
   ·split <;> rfl
theorem Jtk8 (f : Func) (r : RunZ) : (stepS f r).trace.length + r.steps ≤ r.trace.length + (stepS f r).steps := by
 unfold stepS
 split
 ·omega
 ·split
  ·unfold stepI; split
   ·simp; omega
   ·split <;> simp
  ·unfold stepT; split
   ·simp
   ·split <;> simp
def stJ (j : Nat) (f : Func) (r : RunZ) : Blk := .mem [AI r.state, AI r.block, AI r.at_, AI r.value, .hsl j 0 1 r.regs.length, .nils, .own 1 (r.trace.map intRow), AI r.steps, AI f.args, AI f.regs, .d (.sl (f.blocks.map Block.row))]
theorem Jtgo {ρ : Nat → Option Nat} {i j : Nat} (h : ρ i = some j) (f : Func) (r : RunZ) : renB ρ [stJ i f r, regB r] = some [stJ j f r, regB r] := by
 have hr : renL ρ (Jth5 (r.regs.map intRow)) = some (Jth5 (r.regs.map intRow)) := renL_d _
 simp only [renB, Blk.ren, stJ, regB, renL, AV.ren, h, hr]
theorem Jtgn {ρ : Nat → Option Nat} {i j : Nat} (h : ρ i = some j) (f : Func) (r : RunZ) : renB ρ [.dead, stJ i f r, regB r] = some [.dead, stJ j f r, regB r] := by
 have hr : renL ρ (Jth5 (r.regs.map intRow)) = some (Jth5 (r.regs.map intRow)) := renL_d _
 simp only [renB, Blk.ren, stJ, regB, renL, AV.ren, h, hr]
theorem Jtgw (n : Nat) : List.replicate n [D.int .i64 0] = (List.replicate n (0 : Int)).map intRow := by rw [List.map_replicate]; rfl
theorem Jt6q (args : List Int) (n : Nat) (h : args.length ≤ n) : spl (Jth5 ((List.replicate n (0 : Int)).map intRow)) 0 ((args.map intRow).flatten.map AV.d) = Jth5 ((args ++ List.replicate (n - args.length) 0).map intRow) := by
 have e : ∀ l : List Int, Jth5 (l.map intRow) = l.map fun x => AI x := fun l => by unfold Jth5; rw [flatI, List.map_map]; rfl
 rw [e, e, flatI, List.map_map]
 unfold spl
 simp only [List.take_zero, List.nil_append, Nat.zero_add, List.length_map]
 rw [List.map_append, List.map_replicate, List.map_replicate, List.drop_replicate]
 rfl
section
theorem Jtc9 {P : Program} {p : Nums} (A : All P p) (f : Func) (args : List Int) (n : Nat) (hn : f.regs = (n : Int)) (h0 : 0 < n) (h1 : n ≤ 1000000) (h2 : args.length ≤ n) :
  Jt3w P p.interp_begin [f.av, .d (intsD args)] [] fun o H' => o = .ret (.ptr 1 0) ∧ H' = [.dead, stJ 2 f (run0 f args), regB (run0 f args)] := by
 have hrl : (run0 f args).regs.length = n := by unfold run0; simp; omega
 have hnt : f.regs.toNat = n := by omega
 obtain ⟨fR, hfR⟩ : ∃ y, y = f.blocks.map Block.row := ⟨_, rfl⟩
 have hca := Jt6q args n h2
 have hre : (run0 f args).regs = args ++ List.replicate (n - args.length) 0 := by unfold run0; rw [hnt]
 obtain ⟨aR, haR⟩ : ∃ y, y = args.map intRow := ⟨_, rfl⟩
 have har : ∀ r ∈ aR, r.length = 1 := by rw [haR]; exact Jtc6 args
 have hal : aR.length = args.length := by rw [haR]; simp
 rw [← haR] at hca
 obtain ⟨c0, hc0⟩ : ∃ y, y = Jth5 (List.replicate n [D.int .i64 0]) := ⟨_, rfl⟩
 have hc0l : c0.length = n := by rw [hc0, Jth6 (e := 1) (by intro r hr; rw [List.eq_of_mem_replicate hr]; rfl)]; simp
 refine A.interp_begin.run rfl fun R hR => ?_
 simp only [Func.av, intsD, ← hfR, ← haR, hn]
 (simp (maxSteps := 1000000) [Jtap])
 refine Jt23 (n := n) (by rfl) (by rfl) (by omega) (by omega) (by decide) (by rfl) ?_
 rw [← hc0]
 (simp (maxSteps := 1000000) [])
 have hca2 : spl c0 0 (aR.flatten.map AV.d) = Jth5 ((args ++ List.replicate (n - args.length) 0).map intRow) := by rw [hc0, Jtgw]; exact hca
 refine Jt1l (by rfl) (by rfl) har (by omega) (by rfl) (by omega) (fun hne => ?_) (fun hne => ?_)
 ·have ha0 : args = [] := by rw [hne] at hal; exact List.eq_nil_of_length_eq_zero hal.symm
  have e0 : args ++ List.replicate (n - args.length) 0 = List.replicate n 0 := by rw [ha0]; simp
  (simp (maxSteps := 1000000) [])
  refine hR _ _ (Jt3z (.ptr 1 0) (.ptr 1 0) [.dead, stJ 2 f (run0 f args), regB (run0 f args)] rfl ?_ ⟨rfl, rfl⟩)
  simp only [stJ, regB, hrl, ← hfR]
  simp only [hre, e0]
  simp only [run0, List.map_nil, hn]
  rw [hc0, Jtgw]
  (exact wkA)
 ·obtain ⟨cZ, hcZ⟩ : ∃ y, y = Jth5 ((args ++ List.replicate (n - args.length) 0).map intRow) := ⟨_, rfl⟩
  rw [hca2, ← hcZ]
  (simp (maxSteps := 1000000) [])
  refine hR _ _ (Jt3z (.ptr 1 0) (.ptr 1 0) [.dead, stJ 2 f (run0 f args), regB (run0 f args)] rfl ?_ ⟨rfl, rfl⟩)
  simp only [stJ, regB, hrl, ← hfR]
  simp only [hre, ← hcZ]
  simp only [run0, List.map_nil, hn]
  subst hcZ
  (exact wkA)
theorem Jtc7 {P : Program} {p : Nums} (A : All P p) (f : Func) (args : List Int) (n lim : Nat) (hf : OkF f n) (hn : f.regs = (n : Int)) (h0 : 0 < n) (h1 : n ≤ 1000000) (h2 : args.length ≤ n) (h3 : f.args = (args.length : Int)) (h4 : 0 < f.blocks.length) (h5 : lim ≤ 1000000) (h6 : ∀ b ∈ f.blocks, b.code.length < 1000000) :
  Jt3w P p.interp_Exec [f.av, .d (intsD args), AI lim] [] fun o _ => o = .ret (.tup [(execS f args lim).av, AI 0]) := by
 have hb := Jtc9 A f args n hn h0 h1 h2
 obtain ⟨T, hT⟩ : ∃ T, T = execS f args lim := ⟨_, rfl⟩
 rw [← hT]
 unfold execS at hT
 have hr0 : OkR f n (run0 f args) := ⟨by unfold run0; simp; omega, h4, fun b _ => Nat.zero_le _⟩
 obtain ⟨r0, hr0e⟩ : ∃ r, r = run0 f args := ⟨_, rfl⟩
 rw [← hr0e] at hb hT hr0
 have hz : r0.slots = [] ∧ r0.trace = [] ∧ r0.steps = 0 := by rw [hr0e]; exact ⟨rfl, rfl, rfl⟩
 obtain ⟨aR, haR⟩ : ∃ y, y = args.map intRow := ⟨_, rfl⟩
 have hal : aR.length = args.length := by rw [haR]; simp
 obtain ⟨fR, hfR⟩ : ∃ y, y = f.blocks.map Block.row := ⟨_, rfl⟩
 refine A.interp_Exec.run rfl fun R hR => ?_
 simp only [Func.av, intsD, ← hfR, ← haR, h3] at hb ⊢
 (simp (maxSteps := 1000000) [Jtao, hal])
 refine Jt11 [] 3 hb (by decide) (by rfl) (by rfl) (by rfl) (Jtgn (j := 4) (by rfl) f r0) (by rfl) (by rfl) ?_
 (simp (maxSteps := 1000000) [])
 refine Jtd (fun r : RunZ => ⟨[(8, .ptr 3 0), (2, AI lim), (6, .ptr 1 0), (7, AI 0)], [.dead, .mem [AI 0, AI 0, AI 0, AI 0, .nils, .nils, .nils, AI 0], .dead, stJ 4 f r, regB r]⟩)
  (fun r => OkR f n r ∧ r.slots = [] ∧ r.steps ≤ lim ∧ r.trace.length ≤ r.steps ∧ T = runS f lim (lim + 1 - r.steps) r) (fun r => if r.state = 0 then lim + 1 - r.steps else 0) r0
  ⟨hr0, hz.1, by omega, by rw [hz.2.1]; exact Nat.zero_le _, by rw [hz.2.2]; exact hT⟩ (by simp only [stJ, regB]; (exact wkA)) ?_
 rintro r ⟨k1, k2, k3, k4, k5⟩ N hN
 have hcs := Jtcc A f n r hf k1 (by have q1 := k1.at_ _ (List.getElem?_eq_getElem k1.block); have q2 := h6 _ (List.getElem_mem k1.block); omega) (by omega) (by omega)
 obtain ⟨bk, hbk⟩ : ∃ b, f.blocks[r.block]? = some b := ⟨_, List.getElem?_eq_getElem k1.block⟩
 have hm : ¬ ((1073741824 : Int) < lim) := by omega
 obtain ⟨s1, s2, s3, s4⟩ := Jtk6 f r
 have hfin : ¬ (r.state = 0 ∧ r.steps < lim) → T = r := fun h => by rw [k5, Jthm h]
 have hgo : r.state = 0 → r.steps < lim → T = runS f lim (lim - r.steps) (stepS f r) := fun h1 h2 => by
  rw [k5, show lim + 1 - r.steps = (lim - r.steps) + 1 by omega]
  show (if r.state = 0 ∧ r.steps < lim then runS f lim (lim - r.steps) (stepS f r) else r) = _
  rw [if_pos ⟨h1, h2⟩]
 have hav : ∀ H : List Blk, H[4]? = some (regB r) → WkV H 0 (.tup [.agg [AI r.state, AI r.block, AI r.at_, AI r.value, .hsl 4 0 1 r.regs.length, .nils, .d (.sl (r.trace.map intRow)), AI r.steps], AI 0]) (.tup [r.av, AI 0]) := fun H hH => by
  refine Jt4g ⟨Jt4f ⟨.refl _ rfl, .refl _ rfl, .refl _ rfl, .refl _ rfl, ?_, ?_, .refl _ rfl, .refl _ rfl, trivial⟩, .refl _ rfl, trivial⟩
  ·refine .hsl 4 0 1 r.regs.length (Jth5 (r.regs.map intRow)) (r.regs.map intRow) hH (Nat.zero_le _) ?_ (by simp) (Jtc6 _)
   rw [List.drop_zero, Nat.mul_one, ← lenI r.regs, List.take_length]; rfl
  ·rw [k2]; exact .nild
 simp only [stJ, regB]
 (simp (maxSteps := 1000000) [])
 by_cases hs : r.state = 0
 ·have hsb : (r.state == 0) = true := by simpa using hs
  (simp (maxSteps := 1000000) [hsb, hm])
  by_cases hl : r.steps < lim
  ·(simp (maxSteps := 1000000) [hl])
   refine Jt10 [3, 4] hcs (by decide) (by rfl) (by rfl) (Jtgo (i := 4) (j := 1) (by rfl) f r) (Jtgo (i := 1) (j := 4) (by rfl) f (stepS f r)) (by rfl) (by rfl) ?_
   simp only [stJ, regB]
   (simp (maxSteps := 1000000) [])
   have hT2 := hgo hs hl
   refine hN _ (stepS f r) ⟨Jtk4 hf k1, ?_, by omega, ?_, ?_⟩ (by simp only [stJ, regB]; (exact wkA)) ?_
   ·rw [Jtk5]; exact k2
   ·have := Jtk8 f r; omega
   ·by_cases hs' : (stepS f r).state = 0
    ·rw [s4 hs' hs (by rw [hbk]; simp), hT2]; congr 1; omega
    ·rw [hT2, Jthm (fun h => hs' h.1), Jthm (fun h => hs' h.1)]
   ·rw [if_pos hs]
    split
    ·rename_i hs'
     have := s4 hs' hs (by rw [hbk]; simp)
     omega
    ·omega
  ·have hT2 := hfin (fun h => hl h.2)
   (simp (maxSteps := 1000000) [hl])
   refine hR _ _ (Jt40 _ _ rfl (hav _ rfl) ?_)
   rw [hT2]
 ·have hsb : (r.state == 0) = false := by simpa using hs
  have hT2 := hfin (fun h => hs h.1)
  (simp (maxSteps := 1000000) [hsb])
  refine hR _ _ (Jt40 _ _ rfl (hav _ rfl) ?_)
  rw [hT2]
end
end Go.AE
set_option maxRecDepth 4000
namespace Go.AE
open Go
def readL (m : RunZ) (l : Int) : Int := if l.tmod 2 = 1 then gI m.slots (l.tdiv 2) else gI m.regs (l.tdiv 2)
def writeL (m : RunZ) (l v : Int) : RunZ := if l.tmod 2 = 1 then { m with slots := setI m.slots (l.tdiv 2) v } else { m with regs := setI m.regs (l.tdiv 2) v }
def stepMI (x : Mach) (m : RunZ) : RunZ :=
 if x.op = 18 then { writeL m x.dst (readL m x.src) with at_ := m.at_ + 1, steps := m.steps + 1 }
 else if x.op = 17 then { m with trace := m.trace ++ [gI m.regs x.a], at_ := m.at_ + 1, steps := m.steps + 1 }
 else if (aluZ x.op (gI m.regs x.a) (gI m.regs x.b) x.imm).2 = true then { m with regs := setI m.regs x.d (aluZ x.op (gI m.regs x.a) (gI m.regs x.b) x.imm).1, at_ := m.at_ + 1, steps := m.steps + 1 }
 else { m with state := 2 }
def stepMT (t : Term) (r : RunZ) : RunZ :=
 if t.kind = 3 then { r with steps := r.steps + 1, state := 1, value := gI r.regs t.a }
 else if t.kind = 1 then { r with steps := r.steps + 1, block := t.to.toNat, at_ := 0 }
 else if gI r.regs t.a = 0 then { r with steps := r.steps + 1, block := t.els.toNat, at_ := 0 }
 else { r with steps := r.steps + 1, block := t.to.toNat, at_ := 0 }
def stepM (g : MFunc) (m : RunZ) : RunZ := match g.blocks[m.block]? with
 | none => m
 | some b => match b.code[m.at_]? with
  | some x => stepMI x m
  | none => stepMT b.term m
def stM (i j : Nat) (g : MFunc) (r : RunZ) : Blk := .mem [AI r.state, AI r.block, AI r.at_, AI r.value, .hsl i 0 1 r.regs.length, .hsl j 0 1 r.slots.length, .own 1 (r.trace.map intRow), AI r.steps, AI g.args, AI g.regs, AI g.slots, .d (.sl (g.blocks.map MBlock.row))]
def slotB (r : RunZ) : Blk := .mem (Jth5 (r.slots.map intRow))
def locB (l : Int) : Nat := if l.tmod 2 = 1 then 2 else 1
def LocOk (m : RunZ) (l : Int) : Prop := -9223372036854775808 ≤ l ∧ l ≤ 9223372036854775807 ∧ 0 ≤ l.tdiv 2 ∧ (l.tmod 2 = 1 → l.tdiv 2 < m.slots.length) ∧ (l.tmod 2 ≠ 1 → l.tdiv 2 < m.regs.length)
theorem Jtgp {ρ : Nat → Option Nat} {i j i' j' : Nat} (h : ρ i = some i') (h' : ρ j = some j') (g : MFunc) (r : RunZ) : renB ρ [stM i j g r, regB r, slotB r] = some [stM i' j' g r, regB r, slotB r] := by
 have hr : renL ρ (Jth5 (r.regs.map intRow)) = some (Jth5 (r.regs.map intRow)) := renL_d _
 have hs : renL ρ (Jth5 (r.slots.map intRow)) = some (Jth5 (r.slots.map intRow)) := renL_d _
 simp only [renB, Blk.ren, stM, regB, slotB, renL, AV.ren, h, h', hr, hs]
section
theorem Jt81 {P : Program} {p : Nums} (A : All P p) (g : MFunc) (m : RunZ) (l : Int) (h : LocOk m l) : Jt3w P p.execute_state_at [.ptr 0 0, AI l] [stM 1 2 g m, regB m, slotB m] fun o H' => o = .ret (.ptr (locB l) (l.tdiv 2).toNat) ∧ H' = [stM 1 2 g m, regB m, slotB m] := by
 obtain ⟨h0, h1, h2, h3, h4⟩ := h
 have ci := Jtdl A l h0 h1
 refine A.execute_state_at.run rfl fun R hR => ?_
 simp only [stM, regB, slotB]
 (simp (maxSteps := 1000000) [Jtah])
 (refine Jty (Jtdm A l) (by rfl) (by rfl) ?_)
 by_cases hs : l.tmod 2 = 1
 ·have hsb : (l.tmod 2 == 1) = true := by simpa using hs
  have h3 := h3 hs
  (simp (maxSteps := 1000000) [hsb])
  (refine Jty ci (by rfl) (by rfl) ?_)
  (simp (maxSteps := 1000000) [h2, h3])
  refine hR _ _ (Jt3z (.ptr 2 (l.tdiv 2).toNat) (.ptr 2 (l.tdiv 2).toNat) [stM 1 2 g m, regB m, slotB m] rfl ?_ ⟨by unfold locB; rw [if_pos hs], rfl⟩)
  simp only [stM, regB, slotB]
  (exact wkA)
 ·have hsb : (l.tmod 2 == 1) = false := by simpa using hs
  have h4 := h4 hs
  (simp (maxSteps := 1000000) [hsb])
  (refine Jty ci (by rfl) (by rfl) ?_)
  (simp (maxSteps := 1000000) [h2, h4])
  refine hR _ _ (Jt3z (.ptr 1 (l.tdiv 2).toNat) (.ptr 1 (l.tdiv 2).toNat) [stM 1 2 g m, regB m, slotB m] rfl ?_ ⟨by unfold locB; rw [if_neg hs], rfl⟩)
  simp only [stM, regB, slotB]
  (exact wkA)
theorem Jt84 {P : Program} {p : Nums} (A : All P p) (g : MFunc) (x : Mach) (m : RunZ) (ha : 0 ≤ x.a ∧ x.a < m.regs.length) (h3 : m.trace.length < 1000000000) :
  Jt3w P p.execute_state_emit [.ptr 0 0, x.av] [stM 1 2 g m, regB m, slotB m] fun o H' => o = .ret (AB true) ∧ H' = [stM 1 2 g { m with trace := m.trace ++ [gI m.regs x.a] }, regB m, slotB m] := by
 have ca := cellI ha.1 ha.2
 have hl := lenI m.regs
 obtain ⟨va, hva⟩ : ∃ v, v = gI m.regs x.a := ⟨_, rfl⟩
 rw [← hva] at ca ⊢
 obtain ⟨n, hn⟩ : ∃ n, n = m.regs.length := ⟨_, rfl⟩
 rw [← hn] at ha hl
 obtain ⟨cR, hcR⟩ : ∃ y, y = Jth5 (m.regs.map intRow) := ⟨_, rfl⟩
 rw [← hcR] at ca hl
 obtain ⟨tR, htR⟩ : ∃ y, y = m.trace.map intRow := ⟨_, rfl⟩
 have htl : tR.length = m.trace.length := by rw [htR]; simp
 obtain ⟨op, d, a, b, imm, dst, src⟩ := x
 simp only at ha ca hva
 have ca2 : ∀ h : a.toNat < cR.length, cR[a.toNat]'h = AI va := fun h => (List.getElem?_eq_some_iff.1 ca).2
 have ha3 : a.toNat < n := by omega
 refine A.execute_state_emit.run rfl fun R hR => ?_
 simp only [stM, regB, slotB, ← hn, ← hcR, ← htR]
 (simp (maxSteps := 1000000) [Jtaj, Mach.av, ha, hl, ca, ca2])
 (refine Jt1a (by rfl) (by rfl) (by rfl) ?_ (by decide) ?_ ?_ ?_)
 ·simp
 ·simp; omega
 ·simp; omega
 (simp (maxSteps := 1000000) [])
 refine hR _ _ (Jt3z (AB true) (AB true) [stM 1 2 g { m with trace := m.trace ++ [va] }, regB m, slotB m] rfl ?_ ⟨rfl, by simp only [stM, regB, slotB, ← hn, ← hcR, ← htR]⟩)
 simp only [stM, regB, slotB, ← hn, ← hcR, ← htR, List.map_append, List.map_cons, List.map_nil]
 subst hcR
 (exact wkA)
theorem Jt83 {P : Program} {p : Nums} (A : All P p) (g : MFunc) (x : Mach) (m : RunZ) (ha : 0 ≤ x.a ∧ x.a < m.regs.length) (hb : 0 ≤ x.b ∧ x.b < m.regs.length) (hd : 0 ≤ x.d ∧ x.d < m.regs.length) :
  Jt3w P p.execute_state_compute [.ptr 0 0, x.av] [stM 1 2 g m, regB m, slotB m] fun o H' => o = .ret (AB (aluZ x.op (gI m.regs x.a) (gI m.regs x.b) x.imm).2) ∧
   H' = (if (aluZ x.op (gI m.regs x.a) (gI m.regs x.b) x.imm).2 = true then [stM 1 2 g m, regB { m with regs := setI m.regs x.d (aluZ x.op (gI m.regs x.a) (gI m.regs x.b) x.imm).1 }, slotB m] else [stM 1 2 g m, regB m, slotB m]) := by
 have ca := cellI ha.1 ha.2
 have cb := cellI hb.1 hb.2
 have hl := lenI m.regs
 have ev := Jt4u A x.op (gI m.regs x.a) (gI m.regs x.b) x.imm
 obtain ⟨va, hva⟩ : ∃ v, v = gI m.regs x.a := ⟨_, rfl⟩
 obtain ⟨vb, hvb⟩ : ∃ v, v = gI m.regs x.b := ⟨_, rfl⟩
 rw [← hva] at ca ev ⊢
 rw [← hvb] at cb ev ⊢
 obtain ⟨⟨y, ok⟩, hx⟩ : ∃ y, y = aluZ x.op va vb x.imm := ⟨_, rfl⟩
 rw [← hx] at ev ⊢
 have hsp := Jthw (v := y) hd.1 hd.2
 obtain ⟨n, hn⟩ : ∃ n, n = m.regs.length := ⟨_, rfl⟩
 rw [← hn] at ha hb hd hl
 obtain ⟨cR, hcR⟩ : ∃ y, y = Jth5 (m.regs.map intRow) := ⟨_, rfl⟩
 rw [← hcR] at ca cb hl hsp
 obtain ⟨op, d, a, b, imm, dst, src⟩ := x
 simp only at ha hb hd ev hsp hx hva hvb ca cb
 have ha3 : a.toNat < n := by omega
 have hb3 : b.toNat < n := by omega
 have hd3 : d.toNat < n := by omega
 have hd4 : d.toNat + 1 ≤ n := by omega
 have ca2 : ∀ h : a.toNat < cR.length, cR[a.toNat]'h = AI va := fun h => (List.getElem?_eq_some_iff.1 ca).2
 have cb2 : ∀ h : b.toNat < cR.length, cR[b.toNat]'h = AI vb := fun h => (List.getElem?_eq_some_iff.1 cb).2
 refine A.execute_state_compute.run rfl fun R hR => ?_
 simp only [stM, regB, slotB, ← hn, ← hcR]
 (simp (maxSteps := 1000000) [Jtai, Mach.av, ha, hb, hl, ca, cb, ca2, cb2])
 (refine Jty ev (by rfl) (by rfl) ?_)
 (simp (maxSteps := 1000000) [])
 cases ok with
 | false =>
  (simp (maxSteps := 1000000) [])
  refine hR _ _ (Jt3z (AB false) (AB false) [stM 1 2 g m, regB m, slotB m] rfl ?_ ⟨rfl, by simp [stM, regB, slotB, ← hn, ← hcR]⟩)
  simp only [stM, regB, slotB, ← hn, ← hcR]
  subst hcR
  (exact wkA)
 | true =>
  obtain ⟨cS, hcS⟩ : ∃ z, z = Jth5 ((setI m.regs d y).map intRow) := ⟨_, rfl⟩
  rw [← hcS] at hsp
  have hsp2 : List.take d.toNat cR ++ AI y :: List.drop (d.toNat + 1) cR = cS := by rw [← hsp]; simp [spl]
  (simp (maxSteps := 1000000) [hd, hl, hd3, hd4, hsp, hsp2])
  refine hR _ _ (Jt3z (AB true) (AB true) [stM 1 2 g m, regB { m with regs := setI m.regs d y }, slotB m] rfl ?_ ⟨rfl, by simp [stM, regB, slotB, ← hn, ← hcS]⟩)
  simp only [stM, regB, slotB, ← hn, ← hcS]
  subst hcS
  (exact wkA)
end
end Go.AE
set_option maxRecDepth 4000
namespace Go.AE
open Go
section
theorem Jt86 {P : Program} {p : Nums} (A : All P p) (g : MFunc) (x : Mach) (m : RunZ) (hd : LocOk m x.dst) (hs : LocOk m x.src) :
  Jt3w P p.execute_state_move [.ptr 0 0, x.av] [stM 1 2 g m, regB m, slotB m] fun o H' => o = .ret (AB true) ∧ H' = [stM 1 2 g (writeL m x.dst (readL m x.src)), regB (writeL m x.dst (readL m x.src)), slotB (writeL m x.dst (readL m x.src))] := by
 have cd := Jt81 A g m x.dst hd
 have cs := Jt81 A g m x.src hs
 obtain ⟨d0, d1, d2, d3, d4⟩ := hd
 obtain ⟨s0, s1, s2, s3, s4⟩ := hs
 have lr := lenI m.regs
 have ls := lenI m.slots
 obtain ⟨op, d, a, b, imm, dst, src⟩ := x
 simp only at cd cs d0 d1 d2 d3 d4 s0 s1 s2 s3 s4 ⊢
 obtain ⟨cR, hcR⟩ : ∃ y, y = Jth5 (m.regs.map intRow) := ⟨_, rfl⟩
 obtain ⟨cS, hcS⟩ : ∃ y, y = Jth5 (m.slots.map intRow) := ⟨_, rfl⟩
 rw [← hcR] at lr
 rw [← hcS] at ls
 by_cases hds : dst.tmod 2 = 1
 ·by_cases hss : src.tmod 2 = 1
  ·have e1 : locB dst = 2 := by unfold locB; rw [if_pos hds]
   have e2 : locB src = 2 := by unfold locB; rw [if_pos hss]
   rw [e1] at cd
   rw [e2] at cs
   have hdl := d3 hds
   have hsl := s3 hss
   have cv := cellI s2 hsl
   have er : readL m src = gI m.slots (src.tdiv 2) := by unfold readL; rw [if_pos hss]
   obtain ⟨v, hv⟩ : ∃ v, v = readL m src := ⟨_, rfl⟩
   rw [← er, ← hv, ← hcS] at cv
   have hsp := Jthw (v := v) d2 hdl
   rw [← hcS] at hsp
   rw [← hv]
   have ew : writeL m dst v = { m with slots := setI m.slots (dst.tdiv 2) v } := by unfold writeL; rw [if_pos hds]
   rw [ew]
   have hwl := Jthx m.slots (dst.tdiv 2) v
   obtain ⟨cW, hcW⟩ : ∃ z, z = Jth5 ((setI m.slots (dst.tdiv 2) v).map intRow) := ⟨_, rfl⟩
   rw [← hcW] at hsp
   obtain ⟨kd, hkd⟩ : ∃ k, k = (dst.tdiv 2).toNat := ⟨_, rfl⟩
   obtain ⟨ks, hks⟩ : ∃ k, k = (src.tdiv 2).toNat := ⟨_, rfl⟩
   rw [← hkd] at cd hsp
   rw [← hks] at cs cv
   have hkl : kd < m.slots.length := by omega
   have hkl2 : kd + 1 ≤ m.slots.length := by omega
   have hskl : ks < m.slots.length := by omega
   have cv2 : ∀ h : ks < cS.length, cS[ks]'h = AI v := fun h => (List.getElem?_eq_some_iff.1 cv).2
   have hsp2 : List.take kd cS ++ AI v :: List.drop (kd + 1) cS = cW := by rw [← hsp]; simp [spl]
   refine A.execute_state_move.run rfl fun R hR => ?_
   simp only [stM, regB, slotB, ← hcR, ← hcS] at cd cs ⊢
   (simp (maxSteps := 1000000) [Jtal, Mach.av])
   refine ⟨⟨?_, ?_⟩, ?_⟩
   all_goals
    refine Jt10 [0, 1, 2] cd (by decide) (by rfl) (by rfl) (by subst hcR hcS; exact Jtgp (by rfl) (by rfl) g m) (by subst hcR hcS; exact Jtgp (by rfl) (by rfl) g m) (by rfl) (by rfl) ?_
    simp only [stM, regB, slotB, ← hcR, ← hcS]
    (simp (maxSteps := 1000000) [])
    refine Jt10 [0, 1, 2] cs (by decide) (by rfl) (by rfl) (by subst hcR hcS; exact Jtgp (by rfl) (by rfl) g m) (by subst hcR hcS; exact Jtgp (by rfl) (by rfl) g m) (by rfl) (by rfl) ?_
    simp only [stM, regB, slotB, ← hcR, ← hcS]
    (simp (maxSteps := 1000000) [lr, ls, cv, cv2, hkl, hkl2, hskl, hsp, hsp2])
    refine hR _ _ (Jt3z (AB true) (AB true) [stM 1 2 g { m with slots := setI m.slots (dst.tdiv 2) v }, regB { m with slots := setI m.slots (dst.tdiv 2) v }, slotB { m with slots := setI m.slots (dst.tdiv 2) v }] rfl ?_ ⟨rfl, by simp only [stM, regB, slotB]⟩)
    simp only [stM, regB, slotB, hwl, ← hcW, ← hcR, ← hcS]
    subst hcW hcR hcS
    (exact wkA)
  ·have e1 : locB dst = 2 := by unfold locB; rw [if_pos hds]
   have e2 : locB src = 1 := by unfold locB; rw [if_neg hss]
   rw [e1] at cd
   rw [e2] at cs
   have hdl := d3 hds
   have hsl := s4 hss
   have cv := cellI s2 hsl
   have er : readL m src = gI m.regs (src.tdiv 2) := by unfold readL; rw [if_neg hss]
   obtain ⟨v, hv⟩ : ∃ v, v = readL m src := ⟨_, rfl⟩
   rw [← er, ← hv, ← hcR] at cv
   have hsp := Jthw (v := v) d2 hdl
   rw [← hcS] at hsp
   rw [← hv]
   have ew : writeL m dst v = { m with slots := setI m.slots (dst.tdiv 2) v } := by unfold writeL; rw [if_pos hds]
   rw [ew]
   have hwl := Jthx m.slots (dst.tdiv 2) v
   obtain ⟨cW, hcW⟩ : ∃ z, z = Jth5 ((setI m.slots (dst.tdiv 2) v).map intRow) := ⟨_, rfl⟩
   rw [← hcW] at hsp
   obtain ⟨kd, hkd⟩ : ∃ k, k = (dst.tdiv 2).toNat := ⟨_, rfl⟩
   obtain ⟨ks, hks⟩ : ∃ k, k = (src.tdiv 2).toNat := ⟨_, rfl⟩
   rw [← hkd] at cd hsp
   rw [← hks] at cs cv
   have hkl : kd < m.slots.length := by omega
   have hkl2 : kd + 1 ≤ m.slots.length := by omega
   have hskl : ks < m.regs.length := by omega
   have cv2 : ∀ h : ks < cR.length, cR[ks]'h = AI v := fun h => (List.getElem?_eq_some_iff.1 cv).2
   have hsp2 : List.take kd cS ++ AI v :: List.drop (kd + 1) cS = cW := by rw [← hsp]; simp [spl]
   refine A.execute_state_move.run rfl fun R hR => ?_
   simp only [stM, regB, slotB, ← hcR, ← hcS] at cd cs ⊢
   (simp (maxSteps := 1000000) [Jtal, Mach.av])
   refine ⟨⟨?_, ?_⟩, ?_⟩
   all_goals
    refine Jt10 [0, 1, 2] cd (by decide) (by rfl) (by rfl) (by subst hcR hcS; exact Jtgp (by rfl) (by rfl) g m) (by subst hcR hcS; exact Jtgp (by rfl) (by rfl) g m) (by rfl) (by rfl) ?_
    simp only [stM, regB, slotB, ← hcR, ← hcS]
    (simp (maxSteps := 1000000) [])
    refine Jt10 [0, 1, 2] cs (by decide) (by rfl) (by rfl) (by subst hcR hcS; exact Jtgp (by rfl) (by rfl) g m) (by subst hcR hcS; exact Jtgp (by rfl) (by rfl) g m) (by rfl) (by rfl) ?_
    simp only [stM, regB, slotB, ← hcR, ← hcS]
    (simp (maxSteps := 1000000) [lr, ls, cv, cv2, hkl, hkl2, hskl, hsp, hsp2])
    refine hR _ _ (Jt3z (AB true) (AB true) [stM 1 2 g { m with slots := setI m.slots (dst.tdiv 2) v }, regB { m with slots := setI m.slots (dst.tdiv 2) v }, slotB { m with slots := setI m.slots (dst.tdiv 2) v }] rfl ?_ ⟨rfl, by simp only [stM, regB, slotB]⟩)
    simp only [stM, regB, slotB, hwl, ← hcW, ← hcR, ← hcS]
    subst hcW hcR hcS
    (exact wkA)
 ·by_cases hss : src.tmod 2 = 1
  ·have e1 : locB dst = 1 := by unfold locB; rw [if_neg hds]
   have e2 : locB src = 2 := by unfold locB; rw [if_pos hss]
   rw [e1] at cd
   rw [e2] at cs
   have hdl := d4 hds
   have hsl := s3 hss
   have cv := cellI s2 hsl
   have er : readL m src = gI m.slots (src.tdiv 2) := by unfold readL; rw [if_pos hss]
   obtain ⟨v, hv⟩ : ∃ v, v = readL m src := ⟨_, rfl⟩
   rw [← er, ← hv, ← hcS] at cv
   have hsp := Jthw (v := v) d2 hdl
   rw [← hcR] at hsp
   rw [← hv]
   have ew : writeL m dst v = { m with regs := setI m.regs (dst.tdiv 2) v } := by unfold writeL; rw [if_neg hds]
   rw [ew]
   have hwl := Jthx m.regs (dst.tdiv 2) v
   obtain ⟨cW, hcW⟩ : ∃ z, z = Jth5 ((setI m.regs (dst.tdiv 2) v).map intRow) := ⟨_, rfl⟩
   rw [← hcW] at hsp
   obtain ⟨kd, hkd⟩ : ∃ k, k = (dst.tdiv 2).toNat := ⟨_, rfl⟩
   obtain ⟨ks, hks⟩ : ∃ k, k = (src.tdiv 2).toNat := ⟨_, rfl⟩
   rw [← hkd] at cd hsp
   rw [← hks] at cs cv
   have hkl : kd < m.regs.length := by omega
   have hkl2 : kd + 1 ≤ m.regs.length := by omega
   have hskl : ks < m.slots.length := by omega
   have cv2 : ∀ h : ks < cS.length, cS[ks]'h = AI v := fun h => (List.getElem?_eq_some_iff.1 cv).2
   have hsp2 : List.take kd cR ++ AI v :: List.drop (kd + 1) cR = cW := by rw [← hsp]; simp [spl]
   refine A.execute_state_move.run rfl fun R hR => ?_
   simp only [stM, regB, slotB, ← hcR, ← hcS] at cd cs ⊢
   (simp (maxSteps := 1000000) [Jtal, Mach.av])
   refine ⟨⟨?_, ?_⟩, ?_⟩
   all_goals
    refine Jt10 [0, 1, 2] cd (by decide) (by rfl) (by rfl) (by subst hcR hcS; exact Jtgp (by rfl) (by rfl) g m) (by subst hcR hcS; exact Jtgp (by rfl) (by rfl) g m) (by rfl) (by rfl) ?_
    simp only [stM, regB, slotB, ← hcR, ← hcS]
    (simp (maxSteps := 1000000) [])
    refine Jt10 [0, 1, 2] cs (by decide) (by rfl) (by rfl) (by subst hcR hcS; exact Jtgp (by rfl) (by rfl) g m) (by subst hcR hcS; exact Jtgp (by rfl) (by rfl) g m) (by rfl) (by rfl) ?_
    simp only [stM, regB, slotB, ← hcR, ← hcS]
    (simp (maxSteps := 1000000) [lr, ls, cv, cv2, hkl, hkl2, hskl, hsp, hsp2])
    refine hR _ _ (Jt3z (AB true) (AB true) [stM 1 2 g { m with regs := setI m.regs (dst.tdiv 2) v }, regB { m with regs := setI m.regs (dst.tdiv 2) v }, slotB { m with regs := setI m.regs (dst.tdiv 2) v }] rfl ?_ ⟨rfl, by simp only [stM, regB, slotB]⟩)
    simp only [stM, regB, slotB, hwl, ← hcW, ← hcR, ← hcS]
    subst hcW hcR hcS
    (exact wkA)
  ·have e1 : locB dst = 1 := by unfold locB; rw [if_neg hds]
   have e2 : locB src = 1 := by unfold locB; rw [if_neg hss]
   rw [e1] at cd
   rw [e2] at cs
   have hdl := d4 hds
   have hsl := s4 hss
   have cv := cellI s2 hsl
   have er : readL m src = gI m.regs (src.tdiv 2) := by unfold readL; rw [if_neg hss]
   obtain ⟨v, hv⟩ : ∃ v, v = readL m src := ⟨_, rfl⟩
   rw [← er, ← hv, ← hcR] at cv
   have hsp := Jthw (v := v) d2 hdl
   rw [← hcR] at hsp
   rw [← hv]
   have ew : writeL m dst v = { m with regs := setI m.regs (dst.tdiv 2) v } := by unfold writeL; rw [if_neg hds]
   rw [ew]
   have hwl := Jthx m.regs (dst.tdiv 2) v
   obtain ⟨cW, hcW⟩ : ∃ z, z = Jth5 ((setI m.regs (dst.tdiv 2) v).map intRow) := ⟨_, rfl⟩
   rw [← hcW] at hsp
   obtain ⟨kd, hkd⟩ : ∃ k, k = (dst.tdiv 2).toNat := ⟨_, rfl⟩
   obtain ⟨ks, hks⟩ : ∃ k, k = (src.tdiv 2).toNat := ⟨_, rfl⟩
   rw [← hkd] at cd hsp
   rw [← hks] at cs cv
   have hkl : kd < m.regs.length := by omega
   have hkl2 : kd + 1 ≤ m.regs.length := by omega
   have hskl : ks < m.regs.length := by omega
   have cv2 : ∀ h : ks < cR.length, cR[ks]'h = AI v := fun h => (List.getElem?_eq_some_iff.1 cv).2
   have hsp2 : List.take kd cR ++ AI v :: List.drop (kd + 1) cR = cW := by rw [← hsp]; simp [spl]
   refine A.execute_state_move.run rfl fun R hR => ?_
   simp only [stM, regB, slotB, ← hcR, ← hcS] at cd cs ⊢
   (simp (maxSteps := 1000000) [Jtal, Mach.av])
   refine ⟨⟨?_, ?_⟩, ?_⟩
   all_goals
    refine Jt10 [0, 1, 2] cd (by decide) (by rfl) (by rfl) (by subst hcR hcS; exact Jtgp (by rfl) (by rfl) g m) (by subst hcR hcS; exact Jtgp (by rfl) (by rfl) g m) (by rfl) (by rfl) ?_
    simp only [stM, regB, slotB, ← hcR, ← hcS]
    (simp (maxSteps := 1000000) [])
    refine Jt10 [0, 1, 2] cs (by decide) (by rfl) (by rfl) (by subst hcR hcS; exact Jtgp (by rfl) (by rfl) g m) (by subst hcR hcS; exact Jtgp (by rfl) (by rfl) g m) (by rfl) (by rfl) ?_
    simp only [stM, regB, slotB, ← hcR, ← hcS]
    (simp (maxSteps := 1000000) [lr, ls, cv, cv2, hkl, hkl2, hskl, hsp, hsp2])
    refine hR _ _ (Jt3z (AB true) (AB true) [stM 1 2 g { m with regs := setI m.regs (dst.tdiv 2) v }, regB { m with regs := setI m.regs (dst.tdiv 2) v }, slotB { m with regs := setI m.regs (dst.tdiv 2) v }] rfl ?_ ⟨rfl, by simp only [stM, regB, slotB]⟩)
    simp only [stM, regB, slotB, hwl, ← hcW, ← hcR, ← hcS]
    subst hcW hcR hcS
    (exact wkA)
end
end Go.AE
set_option maxRecDepth 4000
namespace Go.AE
open Go
structure OkX (m : RunZ) (x : Mach) : Prop where
 mv : x.op = 18 → LocOk m x.dst ∧ LocOk m x.src
 em : x.op = 17 → 0 ≤ x.a ∧ x.a < m.regs.length
 op : x.op ≠ 18 → x.op ≠ 17 → (0 ≤ x.a ∧ x.a < m.regs.length) ∧ (0 ≤ x.b ∧ x.b < m.regs.length) ∧ (0 ≤ x.d ∧ x.d < m.regs.length)
theorem Jtlu (m : RunZ) (l v : Int) : (writeL m l v).at_ = m.at_ ∧ (writeL m l v).steps = m.steps := by unfold writeL; split <;> exact ⟨rfl, rfl⟩
section
theorem Jt85 {P : Program} {p : Nums} (A : All P p) (g : MFunc) (x : Mach) (m : RunZ) (ok : OkX m x) (h1 : m.at_ < 1000000000) (h2 : m.steps < 1000000000) (h3 : m.trace.length < 1000000000) :
  Jt3w P p.execute_state_instr [.ptr 0 0, x.av] [stM 1 2 g m, regB m, slotB m] fun o H' => o = .ret (.tup []) ∧ H' = [stM 1 2 g (stepMI x m), regB (stepMI x m), slotB (stepMI x m)] := by
 obtain ⟨T, hT⟩ : ∃ T, T = stepMI x m := ⟨_, rfl⟩
 rw [← hT]
 unfold stepMI at hT
 by_cases h18 : x.op = 18
 ·rw [if_pos h18] at hT
  obtain ⟨o1, o2⟩ := ok.mv h18
  have cm := Jt86 A g x m o1 o2
  obtain ⟨W, hW⟩ : ∃ W, W = writeL m x.dst (readL m x.src) := ⟨_, rfl⟩
  obtain ⟨e1, e2⟩ := Jtlu m x.dst (readL m x.src)
  rw [← hW] at cm hT e1 e2
  rw [← e1, ← e2] at hT
  have w1 := Jtlt (k := W.at_) (by omega)
  have w2 := Jtlt (k := W.steps) (by omega)
  have h18b : (x.op == 18) = true := by simpa using h18
  refine A.execute_state_instr.run rfl fun R hR => ?_
  simp only [stM, regB, slotB, Mach.av] at cm ⊢
  (simp (maxSteps := 1000000) [Jtak, h18b])
  refine ⟨A.execute_state_move.ok, ?_⟩
  refine Jt10 [0, 1, 2] cm (by decide) (by rfl) (by rfl) (Jtgp (by rfl) (by rfl) g m) (Jtgp (by rfl) (by rfl) g W) (by rfl) (by rfl) ?_
  simp only [stM, regB, slotB]
  (simp (maxSteps := 1000000) [w1, w2])
  refine hR _ _ (Fin_wk (.tup []) (.tup []) [stM 1 2 g T, regB T, slotB T] rfl ?_ ⟨rfl, by simp only [stM, regB, slotB]⟩)
  rw [hT]
  simp only [stM, regB, slotB]
  (exact wkA)
 rw [if_neg h18] at hT
 have h18b : (x.op == 18) = false := by simpa using h18
 have w1 := Jtlt (k := m.at_) (by omega)
 have w2 := Jtlt (k := m.steps) (by omega)
 by_cases h17 : x.op = 17
 ·rw [if_pos h17] at hT
  have cm := Jt84 A g x m (ok.em h17) h3
  have h17b : (x.op == 17) = true := by simpa using h17
  obtain ⟨W, hW⟩ : ∃ W : RunZ, W = { m with trace := m.trace ++ [gI m.regs x.a] } := ⟨_, rfl⟩
  have e1 : W.at_ = m.at_ ∧ W.steps = m.steps ∧ W.regs = m.regs ∧ W.slots = m.slots := by rw [hW]; exact ⟨rfl, rfl, rfl, rfl⟩
  have hTW : T = { W with at_ := W.at_ + 1, steps := W.steps + 1 } := by rw [hT, hW]
  have eB : [stM 1 2 g W, regB m, slotB m] = [stM 1 2 g W, regB W, slotB W] := by rw [hW]; rfl
  rw [← hW, eB] at cm
  rw [← e1.1] at w1
  rw [← e1.2.1] at w2
  refine A.execute_state_instr.run rfl fun R hR => ?_
  simp only [stM, regB, slotB, Mach.av] at cm ⊢
  (simp (maxSteps := 1000000) [Jtak, h18b, h17b])
  refine ⟨A.execute_state_emit.ok, ?_⟩
  refine Jt10 [0, 1, 2] cm (by decide) (by rfl) (by rfl) (Jtgp (by rfl) (by rfl) g m) (Jtgp (by rfl) (by rfl) g W) (by rfl) (by rfl) ?_
  simp only [stM, regB, slotB]
  (simp (maxSteps := 1000000) [w1, w2])
  refine hR _ _ (Fin_wk (.tup []) (.tup []) [stM 1 2 g T, regB T, slotB T] rfl ?_ ⟨rfl, by simp only [stM, regB, slotB]⟩)
  rw [hTW]
  simp only [stM, regB, slotB]
  (exact wkA)
 ·rw [if_neg h17] at hT
  have h17b : (x.op == 17) = false := by simpa using h17
  obtain ⟨k1, k2, k3⟩ := ok.op h18 h17
  have cm := Jt83 A g x m k1 k2 k3
  obtain ⟨⟨y, b⟩, hx⟩ : ∃ y, y = aluZ x.op (gI m.regs x.a) (gI m.regs x.b) x.imm := ⟨_, rfl⟩
  rw [← hx] at cm hT
  simp only at cm hT
  refine A.execute_state_instr.run rfl fun R hR => ?_
  cases b with
  | false =>
   rw [if_neg (by simp)] at hT
   simp only [Bool.false_eq_true, if_false] at cm
   simp only [stM, regB, slotB, Mach.av] at cm ⊢
   (simp (maxSteps := 1000000) [Jtak, h18b, h17b])
   refine ⟨A.execute_state_compute.ok, ?_⟩
   refine Jt10 [0, 1, 2] cm (by decide) (by rfl) (by rfl) (Jtgp (by rfl) (by rfl) g m) (Jtgp (by rfl) (by rfl) g m) (by rfl) (by rfl) ?_
   simp only [stM, regB, slotB]
   (simp (maxSteps := 1000000) [])
   refine hR _ _ (Jt3z (.tup []) (.tup []) [stM 1 2 g T, regB T, slotB T] rfl ?_ ⟨rfl, by simp only [stM, regB, slotB]⟩)
   rw [hT]
   simp only [stM, regB, slotB]
   (exact wkA)
  | true =>
   rw [if_pos rfl] at hT
   simp only [if_true] at cm
   obtain ⟨W, hW⟩ : ∃ W : RunZ, W = { m with regs := setI m.regs x.d y } := ⟨_, rfl⟩
   have hTW : T = { W with at_ := W.at_ + 1, steps := W.steps + 1 } := by rw [hT, hW]
   have e1 : W.at_ = m.at_ ∧ W.steps = m.steps := by rw [hW]; exact ⟨rfl, rfl⟩
   have hsl := Jthx m.regs x.d y
   have eB : [stM 1 2 g m, regB { m with regs := setI m.regs x.d y }, slotB m] = [stM 1 2 g W, regB W, slotB W] := by rw [hW]; simp only [stM, regB, slotB, hsl]
   rw [eB] at cm
   rw [← e1.1] at w1
   rw [← e1.2] at w2
   simp only [stM, regB, slotB, Mach.av] at cm ⊢
   (simp (maxSteps := 1000000) [Jtak, h18b, h17b])
   refine ⟨A.execute_state_compute.ok, ?_⟩
   refine Jt10 [0, 1, 2] cm (by decide) (by rfl) (by rfl) (Jtgp (by rfl) (by rfl) g m) (Jtgp (by rfl) (by rfl) g W) (by rfl) (by rfl) ?_
   simp only [stM, regB, slotB]
   (simp (maxSteps := 1000000) [w1, w2])
   refine hR _ _ (Fin_wk (.tup []) (.tup []) [stM 1 2 g T, regB T, slotB T] rfl ?_ ⟨rfl, by simp only [stM, regB, slotB]⟩)
   rw [hTW]
   simp only [stM, regB, slotB]
   (exact wkA)
theorem Jt88 {P : Program} {p : Nums} (A : All P p) (g : MFunc) (t : Term) (m : RunZ) (ha : t.kind ≠ 1 → 0 ≤ t.a ∧ t.a < m.regs.length) (hto : t.kind = 1 ∨ t.kind = 2 → 0 ≤ t.to) (hel : t.kind = 2 → 0 ≤ t.els) (hk : t.kind = 1 ∨ t.kind = 2 ∨ t.kind = 3) (h2 : m.steps < 1000000000) :
  Jt3w P p.execute_state_term [.ptr 0 0, t.av] [stM 1 2 g m, regB m, slotB m] fun o H' => o = .ret (.tup []) ∧ H' = [stM 1 2 g (stepMT t m), regB (stepMT t m), slotB (stepMT t m)] := by
 obtain ⟨state, block, at_, value, regs, slots, trace, steps⟩ := m
 simp only at ha h2
 obtain ⟨T, hT⟩ : ∃ T, T = stepMT t ⟨state, block, at_, value, regs, slots, trace, steps⟩ := ⟨_, rfl⟩
 rw [← hT]
 unfold stepMT at hT
 simp only at hT
 have ca := fun h => cellI (ha h).1 (ha h).2
 have hl := lenI regs
 have w2 := Jtlt (k := steps) (by omega)
 obtain ⟨va, hva⟩ : ∃ v, v = gI regs t.a := ⟨_, rfl⟩
 rw [← hva] at ca hT
 obtain ⟨n, hn⟩ : ∃ n, n = regs.length := ⟨_, rfl⟩
 rw [← hn] at ha hl
 obtain ⟨cR, hcR⟩ : ∃ y, y = Jth5 (regs.map intRow) := ⟨_, rfl⟩
 rw [← hcR] at ca hl
 obtain ⟨kind, a, to, els⟩ := t
 simp only at ha hT ca hk hto hel
 have ca2 : kind ≠ 1 → ∀ h : a.toNat < cR.length, cR[a.toNat]'h = AI va := fun h0 h => (List.getElem?_eq_some_iff.1 (ca h0)).2
 refine A.execute_state_term.run rfl fun R hR => ?_
 simp only [stM, regB, slotB, ← hn, ← hcR]
 rcases hk with rfl | rfl | rfl
 ·rw [if_neg (by decide), if_pos rfl] at hT
  have he : ((to.toNat : Nat) : Int) = to := by have := hto (.inl rfl); omega
  (simp (maxSteps := 1000000) [Jtan, Term.av, w2])
  refine hR _ _ (Fin_wk (.tup []) (.tup []) [stM 1 2 g T, regB T, slotB T] rfl ?_ ⟨rfl, by simp only [stM, regB, slotB]⟩)
  rw [hT]
  simp only [stM, regB, slotB, ← hn, ← hcR, he]
  subst hcR
  (exact wkA)
 ·have ha := ha (by decide)
  have ca := ca (by decide)
  have ca2 := ca2 (by decide)
  rw [if_neg (by decide), if_neg (by decide)] at hT
  by_cases hz : va = 0
  ·rw [if_pos hz] at hT
   have hzb : (va != 0) = false := by simpa using hz
   have he : ((els.toNat : Nat) : Int) = els := by have := hel rfl; omega
   (simp (maxSteps := 1000000) [Jtan, Term.av, w2, ha, hl, ca, ca2, hzb])
   refine hR _ _ (Fin_wk (.tup []) (.tup []) [stM 1 2 g T, regB T, slotB T] rfl ?_ ⟨rfl, by simp only [stM, regB, slotB]⟩)
   rw [hT]
   simp only [stM, regB, slotB, ← hn, ← hcR, he]
   subst hcR
   (exact wkA)
  ·rw [if_neg hz] at hT
   have hzb : (va != 0) = true := by simpa using hz
   have he : ((to.toNat : Nat) : Int) = to := by have := hto (.inr rfl); omega
   (simp (maxSteps := 1000000) [Jtan, Term.av, w2, ha, hl, ca, ca2, hzb])
   refine hR _ _ (Fin_wk (.tup []) (.tup []) [stM 1 2 g T, regB T, slotB T] rfl ?_ ⟨rfl, by simp only [stM, regB, slotB]⟩)
   rw [hT]
   simp only [stM, regB, slotB, ← hn, ← hcR, he]
   subst hcR
   (exact wkA)
 ·have ha := ha (by decide)
  have ca := ca (by decide)
  have ca2 := ca2 (by decide)
  rw [if_pos rfl] at hT
  (simp (maxSteps := 1000000) [Jtan, Term.av, w2, ha, hl, ca, ca2])
  refine hR _ _ (Jt3z (.tup []) (.tup []) [stM 1 2 g T, regB T, slotB T] rfl ?_ ⟨rfl, by simp only [stM, regB, slotB]⟩)
  rw [hT]
  simp only [stM, regB, slotB, ← hn, ← hcR]
  subst hcR
  (exact wkA)
end
end Go.AE
set_option maxRecDepth 4000
namespace Go.AE
open Go
structure OkG (g : MFunc) (n1 n2 : Nat) : Prop where
 code : ∀ b ∈ g.blocks, ∀ x ∈ b.code, ∀ m : RunZ, m.regs.length = n1 → m.slots.length = n2 → OkX m x
 term : ∀ b ∈ g.blocks, OkT b.term n1 g.blocks.length
structure OkRM (g : MFunc) (n1 n2 : Nat) (m : RunZ) : Prop where
 regs : m.regs.length = n1
 slots : m.slots.length = n2
 block : m.block < g.blocks.length
 at_ : ∀ b, g.blocks[m.block]? = some b → m.at_ ≤ b.code.length
theorem Jtlv (m : RunZ) (l v : Int) : (writeL m l v).regs.length = m.regs.length ∧ (writeL m l v).slots.length = m.slots.length ∧ (writeL m l v).block = m.block ∧ (writeL m l v).state = m.state ∧ (writeL m l v).trace = m.trace := by
 unfold writeL; split
 ·exact ⟨rfl, by simp [setI], rfl, rfl, rfl⟩
 ·exact ⟨by simp [setI], rfl, rfl, rfl, rfl⟩
theorem Jtk0 (x : Mach) (m : RunZ) : (stepMI x m).regs.length = m.regs.length ∧ (stepMI x m).slots.length = m.slots.length ∧ (stepMI x m).block = m.block ∧ (stepMI x m).at_ ≤ m.at_ + 1 ∧ (stepMI x m).steps ≤ m.steps + 1 ∧ (stepMI x m).trace.length + m.steps ≤ m.trace.length + (stepMI x m).steps ∧
  ((stepMI x m).state = 0 → (stepMI x m).steps = m.steps + 1) := by
 unfold stepMI
 split
 ·obtain ⟨h1, h2, h3, h4, h5⟩ := Jtlv m x.dst (readL m x.src)
  refine ⟨h1, h2, h3, by simp, by simp, ?_, fun _ => rfl⟩
  show (writeL m x.dst (readL m x.src)).trace.length + m.steps ≤ m.trace.length + (m.steps + 1)
  rw [h5]; omega
 ·split
  ·exact ⟨rfl, rfl, rfl, by simp, by simp, by simp; omega, fun _ => rfl⟩
  ·split
   ·exact ⟨by simp [setI], rfl, rfl, by simp, by simp, by simp, fun _ => rfl⟩
   ·exact ⟨rfl, rfl, rfl, by simp, by simp, by simp, fun h => by cases h⟩
theorem Jtk1 (t : Term) (m : RunZ) : (stepMT t m).regs.length = m.regs.length ∧ (stepMT t m).slots.length = m.slots.length ∧ (stepMT t m).at_ ≤ m.at_ + 1 ∧ (stepMT t m).steps = m.steps + 1 ∧ (stepMT t m).trace = m.trace := by
 unfold stepMT
 split
 ·exact ⟨rfl, rfl, by simp, rfl, rfl⟩
 ·split
  ·exact ⟨rfl, rfl, by simp, rfl, rfl⟩
  ·split
   ·exact ⟨rfl, rfl, by simp, rfl, rfl⟩
   ·exact ⟨rfl, rfl, by simp, rfl, rfl⟩
theorem Jtk2 (g : MFunc) (m : RunZ) : (stepM g m).steps ≤ m.steps + 1 ∧ (stepM g m).trace.length + m.steps ≤ m.trace.length + (stepM g m).steps ∧ ((stepM g m).state = 0 → g.blocks[m.block]? ≠ none → (stepM g m).steps = m.steps + 1) := by
 unfold stepM
 cases hb : g.blocks[m.block]? with
 | none => exact ⟨by simp, by simp, fun _ h => absurd rfl h⟩
 | some b =>
  simp only
  cases hi : b.code[m.at_]? with
  | some x =>
   simp only
   obtain ⟨h1, h2, h3, h4, h5, h6, h7⟩ := Jtk0 x m
   exact ⟨h5, h6, fun h _ => h7 h⟩
  | none =>
   simp only
   obtain ⟨h1, h2, h3, h4, h5⟩ := Jtk1 b.term m
   exact ⟨by omega, by rw [h5]; omega, fun _ _ => h4⟩
theorem Jtk3 {g : MFunc} {n1 n2 : Nat} {m : RunZ} (hg : OkG g n1 n2) (h : OkRM g n1 n2 m) : OkRM g n1 n2 (stepM g m) := by
 obtain ⟨b, hb⟩ : ∃ b, g.blocks[m.block]? = some b := ⟨_, List.getElem?_eq_getElem h.block⟩
 have hat := h.at_ b hb
 unfold stepM
 rw [hb]
 simp only
 cases hi : b.code[m.at_]? with
 | some x =>
  simp only
  have hlt := (List.getElem?_eq_some_iff.1 hi).1
  obtain ⟨h1, h2, h3, h4, h5, h6, h7⟩ := Jtk0 x m
  refine ⟨by rw [h1]; exact h.regs, by rw [h2]; exact h.slots, by rw [h3]; exact h.block, fun b' hb' => ?_⟩
  rw [h3, hb] at hb'; injection hb' with hb'; subst hb'; omega
 | none =>
  simp only
  have ht := hg.term b (List.mem_of_getElem? hb)
  unfold stepMT
  split
  ·exact ⟨h.regs, h.slots, h.block, h.at_⟩
  ·rename_i k3
   split
   ·rename_i k1
    have := ht.to (.inl k1)
    exact ⟨h.regs, h.slots, by show b.term.to.toNat < _; omega, fun b' _ => Nat.zero_le _⟩
   ·rename_i k1
    have hk : b.term.kind = 2 := by have := ht.kind; omega
    split
    ·have := ht.els hk
     exact ⟨h.regs, h.slots, by show b.term.els.toNat < _; omega, fun b' _ => Nat.zero_le _⟩
    ·have := ht.to (.inr hk)
     exact ⟨h.regs, h.slots, by show b.term.to.toNat < _; omega, fun b' _ => Nat.zero_le _⟩
def runM (g : MFunc) (lim : Nat) : Nat → RunZ → RunZ
 | 0, m => m
 | k + 1, m => if m.state = 0 ∧ m.steps < lim then runM g lim k (stepM g m) else m
theorem Jthg {g : MFunc} {lim : Nat} {m : RunZ} (h : ¬ (m.state = 0 ∧ m.steps < lim)) (k : Nat) : runM g lim k m = m := by
 cases k with
 | zero => rfl
 | succ k => unfold runM; rw [if_neg h]
def runM0 (g : MFunc) (args : List Int) : RunZ := ⟨0, 0, 0, 0, List.replicate g.regs.toNat 0, args ++ List.replicate (g.slots.toNat - args.length) 0, [], 0⟩
def execM (g : MFunc) (args : List Int) (lim : Nat) : RunZ := runM g lim (lim + 1) (runM0 g args)
section
theorem Jt87 {P : Program} {p : Nums} (A : All P p) (g : MFunc) (n1 n2 : Nat) (m : RunZ) (hg : OkG g n1 n2) (h : OkRM g n1 n2 m) (h1 : m.at_ < 1000000) (h2 : m.steps < 1000000000) (h3 : m.trace.length < 1000000000) :
  Jt3w P p.execute_state_step [.ptr 0 0] [stM 1 2 g m, regB m, slotB m] fun o H' => o = .ret (.tup []) ∧ H' = [stM 1 2 g (stepM g m), regB (stepM g m), slotB (stepM g m)] := by
 obtain ⟨b, hb⟩ : ∃ b, g.blocks[m.block]? = some b := ⟨_, List.getElem?_eq_getElem h.block⟩
 have hat := h.at_ b hb
 have mb := List.mem_of_getElem? hb
 have hfR : (g.blocks.map MBlock.row)[m.block]? = some b.row := by rw [List.getElem?_map, hb]; rfl
 obtain ⟨T, hT⟩ : ∃ T, T = stepM g m := ⟨_, rfl⟩
 rw [← hT]
 unfold stepM at hT
 rw [hb] at hT
 simp only at hT
 refine A.execute_state_step.run rfl fun R hR => ?_
 by_cases hlt : m.at_ < b.code.length
 ·have hi : b.code[m.at_]? = some b.code[m.at_] := by simp [hlt]
  obtain ⟨i, hie⟩ : ∃ i, i = b.code[m.at_] := ⟨_, rfl⟩
  rw [← hie] at hi
  rw [hi] at hT
  simp only at hT
  have hiR : (b.code.map Mach.row)[m.at_]? = some i.row := by rw [List.getElem?_map, hi]; rfl
  have hc := Jt85 A g i m (hg.code b mb i (List.mem_of_getElem? hi) m h.regs h.slots) (by omega) h2 h3
  rw [← hT] at hc
  simp only [stM, regB, slotB]
  (simp (maxSteps := 1000000) [Jtam, hfR, MBlock.row, hlt, hiR, Mach.row])
  simp only [← hie]
  refine Jt10 [0, 1, 2] hc (by decide) (by rfl) (by rfl) (Jtgp (by rfl) (by rfl) g m) (Jtgp (by rfl) (by rfl) g T) (by rfl) (by rfl) ?_
  simp only [stM, regB, slotB]
  (simp (maxSteps := 1000000) [])
  refine hR _ _ (Fin_wk (.tup []) (.tup []) [stM 1 2 g T, regB T, slotB T] rfl ?_ ⟨rfl, by simp only [stM, regB, slotB]⟩)
  simp only [stM, regB, slotB]
  (exact wkA)
 ·have hi : b.code[m.at_]? = none := List.getElem?_eq_none (by omega)
  rw [hi] at hT
  simp only at hT
  have ok := hg.term b mb
  have hc := Jt88 A g b.term m (fun h0 => by rw [h.regs]; exact ok.a h0) (fun h0 => (ok.to h0).1) (fun h0 => (ok.els h0).1) ok.kind h2
  rw [← hT] at hc
  simp only [stM, regB, slotB]
  (simp (maxSteps := 1000000) [Jtam, hfR, MBlock.row, hlt])
  refine Jt10 [0, 1, 2] hc (by decide) (by rfl) (by rfl) (Jtgp (by rfl) (by rfl) g m) (Jtgp (by rfl) (by rfl) g T) (by rfl) (by rfl) ?_
  simp only [stM, regB, slotB]
  (simp (maxSteps := 1000000) [])
  refine hR _ _ (Fin_wk (.tup []) (.tup []) [stM 1 2 g T, regB T, slotB T] rfl ?_ ⟨rfl, by simp only [stM, regB, slotB]⟩)
  simp only [stM, regB, slotB]
  (exact wkA)
theorem Jt82 {P : Program} {p : Nums} (A : All P p) (g : MFunc) (args : List Int) (n1 n2 : Nat) (hn1 : g.regs = (n1 : Int)) (hn2 : g.slots = (n2 : Int)) (p1 : 0 < n1) (p2 : 0 < n2) (q1 : n1 ≤ 1000000) (q2 : n2 ≤ 1000000) (h2 : args.length ≤ n2) :
    Jt3w P p.execute_begin [g.av, .d (intsD args)] [] fun o H' => o = .ret (.ptr 1 0) ∧ (H' = [.dead, stM 2 3 g (runM0 g args), regB (runM0 g args), slotB (runM0 g args)] ∨ H' = [.dead, stM 3 2 g (runM0 g args), slotB (runM0 g args), regB (runM0 g args)]) := by
  obtain ⟨m0, hm0⟩ : ∃ m, m = runM0 g args := ⟨_, rfl⟩
  have e1 : m0.regs = List.replicate n1 0 := by rw [hm0]; unfold runM0; rw [hn1]; simp
  have e2 : m0.slots = args ++ List.replicate (n2 - args.length) 0 := by rw [hm0]; unfold runM0; rw [hn2]; simp
  have l1 : m0.regs.length = n1 := by rw [e1]; simp
  have l2 : m0.slots.length = n2 := by rw [e2]; simp; omega
  have e3 : m0.state = 0 ∧ m0.block = 0 ∧ m0.at_ = 0 ∧ m0.value = 0 ∧ m0.trace = [] ∧ m0.steps = 0 := by rw [hm0]; exact ⟨rfl, rfl, rfl, rfl, rfl, rfl⟩
  obtain ⟨a1, a2, a3, a4, a5, a6⟩ := e3
  rw [← hm0]
  obtain ⟨fR, hfR⟩ : ∃ y, y = g.blocks.map MBlock.row := ⟨_, rfl⟩
  have hca := Jt6q args n2 h2
  rw [← e2] at hca
  obtain ⟨aR, haR⟩ : ∃ y, y = args.map intRow := ⟨_, rfl⟩
  have har : ∀ r ∈ aR, r.length = 1 := by rw [haR]; exact Jtc6 args
  have hal : aR.length = args.length := by rw [haR]; simp
  rw [← haR] at hca
  obtain ⟨c1, hc1⟩ : ∃ y, y = Jth5 (List.replicate n1 [D.int .i64 0]) := ⟨_, rfl⟩
  obtain ⟨c2, hc2⟩ : ∃ y, y = Jth5 (List.replicate n2 [D.int .i64 0]) := ⟨_, rfl⟩
  have hc2l : c2.length = n2 := by rw [hc2, Jth6 (e := 1) (by intro r hr; rw [List.eq_of_mem_replicate hr]; rfl)]; simp
  have hc1e : c1 = Jth5 (m0.regs.map intRow) := by rw [hc1, Jtgw, e1]
  have hca2 : spl c2 0 (aR.flatten.map AV.d) = Jth5 (m0.slots.map intRow) := by rw [hc2, Jtgw]; exact hca
  have hca0 : aR = [] → c2 = Jth5 (m0.slots.map intRow) := fun h => by
    have ha0 : args = [] := by rw [h] at hal; exact List.eq_nil_of_length_eq_zero hal.symm
    rw [hc2, Jtgw, e2, ha0]; simp
  obtain ⟨cZ, hcZ⟩ : ∃ y, y = Jth5 (m0.slots.map intRow) := ⟨_, rfl⟩
  rw [← hcZ] at hca2 hca0
  refine A.execute_begin.run rfl fun R hR => ?_
  simp only [MFunc.av, intsD, ← hfR, ← haR, hn1, hn2]
  (simp (maxSteps := 1000000) [Jtag])
  repeat' (first
    | (refine Jt23 (n := n1) (by rfl) (by rfl) (by omega) (by omega) (by decide) (by rfl) ?_; rw [← hc1]; (simp (maxSteps := 1000000) []))
    | (refine Jt23 (n := n2) (by rfl) (by rfl) (by omega) (by omega) (by decide) (by rfl) ?_; rw [← hc2]; (simp (maxSteps := 1000000) []))
    | with_reducible refine And.intro ?_ ?_)
  all_goals refine Jt1l (by rfl) (by rfl) har (by omega) (by rfl) (by omega) (fun hne => ?_) (fun hne => ?_)
  all_goals first
    | (rw [hca2]; (simp (maxSteps := 1000000) []))
    | (rw [hca0 hne]; (simp (maxSteps := 1000000) []))
  all_goals
    first
    | (refine hR _ _ (Jt3z (.ptr 1 0) (.ptr 1 0) [.dead, stM 2 3 g m0, regB m0, slotB m0] rfl ?_ ⟨rfl, .inl rfl⟩)
       simp only [stM, regB, slotB, l1, l2, a1, a2, a3, a4, a5, a6, ← hfR, hn1, hn2, List.map_nil]
       subst hcZ
       subst hc1e
       (exact wkA))
    | (refine hR _ _ (Jt3z (.ptr 1 0) (.ptr 1 0) [.dead, stM 3 2 g m0, slotB m0, regB m0] rfl ?_ ⟨rfl, .inr rfl⟩)
       simp only [stM, regB, slotB, l1, l2, a1, a2, a3, a4, a5, a6, ← hfR, hn1, hn2, List.map_nil]
       subst hcZ
       subst hc1e
       (exact wkA))
end
end Go.AE
set_option maxRecDepth 4000
namespace Go.AE
open Go
theorem Jtgq {ρ : Nat → Option Nat} {i j i' j' : Nat} (h : ρ i = some i') (h' : ρ j = some j') (g : MFunc) (r : RunZ) : renB ρ [.dead, stM i j g r, regB r, slotB r] = some [.dead, stM i' j' g r, regB r, slotB r] ∧ renB ρ [.dead, stM i j g r, slotB r, regB r] = some [.dead, stM i' j' g r, slotB r, regB r] := by
 have hr : renL ρ (Jth5 (r.regs.map intRow)) = some (Jth5 (r.regs.map intRow)) := renL_d _
 have hs : renL ρ (Jth5 (r.slots.map intRow)) = some (Jth5 (r.slots.map intRow)) := renL_d _
 constructor <;> simp only [renB, Blk.ren, stM, regB, slotB, renL, AV.ren, h, h', hr, hs]
theorem Jt14 {P : Program} {K : ASt → Prop} {QP : AV → ASt → Prop} {dst : Option Nat} {st : ASt} {f : Nat} {args cargs : List AV} {H1 H2 Hb1 Hb2 : List Blk} {e : Nat} {x y : AV} (h : Jt3w P f cargs [] fun o H' => o = .ret x ∧ (H' = H1 ∨ H' = H2))
  (ha : renL (idx []) args = some cargs) (hb1 : renB (back [] st.H.length e) H1 = some Hb1) (hb2 : renB (back [] st.H.length e) H2 = some Hb2) (hl1 : H1.length = e) (hl2 : H2.length = e) (hx : x.ren (back [] st.H.length e) = some y)
  (hK1 : K (put dst y ⟨unview st.env, st.H ++ Hb1⟩)) (hK2 : K (put dst y ⟨unview st.env, st.H ++ Hb2⟩)) : AWcall P false f args dst K QP st := by
 refine .inr ⟨rfl, .inr ⟨[], .nil, cargs, [], [], ha, rfl, rfl, h.mono ?_⟩⟩
 rintro o H' ⟨rfl, rfl | rfl⟩
 ·have ht : H'.take (([] : List Nat).length + e) = H' := by rw [List.length_nil, Nat.zero_add, ← hl1, List.take_length]
  refine ⟨e, Hb1, y, by rw [ht]; exact hb1, by rw [List.length_nil]; omega, hx, ?_⟩
  simpa [wback] using hK1
 ·have ht : H'.take (([] : List Nat).length + e) = H' := by rw [List.length_nil, Nat.zero_add, ← hl2, List.take_length]
  refine ⟨e, Hb2, y, by rw [ht]; exact hb2, by rw [List.length_nil]; omega, hx, ?_⟩
  simpa [wback] using hK2
section
theorem Jt80 {P : Program} {p : Nums} (A : All P p) (g : MFunc) (args : List Int) (n1 n2 lim : Nat) (hg : OkG g n1 n2) (hn1 : g.regs = (n1 : Int)) (hn2 : g.slots = (n2 : Int)) (p1 : 0 < n1) (p2 : 0 < n2) (q1 : n1 ≤ 1000000) (q2 : n2 ≤ 1000000) (h2 : args.length ≤ n2) (h3 : g.args = (args.length : Int)) (h4 : 0 < g.blocks.length) (h5 : lim ≤ 1000000) (h6 : ∀ b ∈ g.blocks, b.code.length < 1000000) :
  Jt3w P p.execute_Exec [g.av, .d (intsD args), AI lim] [] fun o _ => o = .ret (.tup [(execM g args lim).av, AI 0]) := by
 have hb := Jt82 A g args n1 n2 hn1 hn2 p1 p2 q1 q2 h2
 obtain ⟨T, hT⟩ : ∃ T, T = execM g args lim := ⟨_, rfl⟩
 rw [← hT]
 unfold execM at hT
 have hr0 : OkRM g n1 n2 (runM0 g args) := ⟨by unfold runM0; simp; omega, by unfold runM0; simp; omega, h4, fun b _ => Nat.zero_le _⟩
 obtain ⟨r0, hr0e⟩ : ∃ r, r = runM0 g args := ⟨_, rfl⟩
 rw [← hr0e] at hb hT hr0
 have hz : r0.trace = [] ∧ r0.steps = 0 := by rw [hr0e]; exact ⟨rfl, rfl⟩
 obtain ⟨aR, haR⟩ : ∃ y, y = args.map intRow := ⟨_, rfl⟩
 have hal : aR.length = args.length := by rw [haR]; simp
 obtain ⟨fR, hfR⟩ : ∃ y, y = g.blocks.map MBlock.row := ⟨_, rfl⟩
 have hm : ¬ ((1073741824 : Int) < lim) := by omega
 refine A.execute_Exec.run rfl fun R hR => ?_
 simp only [MFunc.av, intsD, ← hfR, ← haR, h3] at hb ⊢
 (simp (maxSteps := 1000000) [Jtaf, hal])
 refine Jt14 (e := 4) hb (by rfl) (Jtgq (i := 2) (j := 3) (i' := 4) (j' := 5) (by rfl) (by rfl) g r0).1 (Jtgq (i := 3) (j := 2) (i' := 5) (j' := 4) (by rfl) (by rfl) g r0).2 (by rfl) (by rfl) (by rfl) ?_ ?_
 ·(simp (maxSteps := 1000000) [])
  refine Jtd (fun r : RunZ => ⟨[(8, .ptr 3 0), (2, AI lim), (6, .ptr 1 0), (7, AI 0)], [.dead, .mem [AI 0, AI 0, AI 0, AI 0, .nils, .nils, .nils, AI 0], .dead, stM 4 5 g r, regB r, slotB r]⟩)
   (fun r => OkRM g n1 n2 r ∧ r.steps ≤ lim ∧ r.trace.length ≤ r.steps ∧ T = runM g lim (lim + 1 - r.steps) r) (fun r => if r.state = 0 then lim + 1 - r.steps else 0) r0
   ⟨hr0, by omega, by rw [hz.1]; exact Nat.zero_le _, by rw [hz.2]; exact hT⟩ (by simp only [stM, regB, slotB]; (exact wkA)) ?_
  rintro r ⟨k1, k3, k4, k5⟩ N hN
  obtain ⟨bk, hbk⟩ : ∃ b, g.blocks[r.block]? = some b := ⟨_, List.getElem?_eq_getElem k1.block⟩
  have hcs := Jt87 A g n1 n2 r hg k1 (by have := k1.at_ bk hbk; have := h6 bk (List.mem_of_getElem? hbk); omega) (by omega) (by omega)
  obtain ⟨s1, s3, s4⟩ := Jtk2 g r
  have hfin : ¬ (r.state = 0 ∧ r.steps < lim) → T = r := fun h => by rw [k5, Jthg h]
  have hgo : r.state = 0 → r.steps < lim → T = runM g lim (lim - r.steps) (stepM g r) := fun h1 h2 => by
   rw [k5, show lim + 1 - r.steps = (lim - r.steps) + 1 by omega]
   show (if r.state = 0 ∧ r.steps < lim then runM g lim (lim - r.steps) (stepM g r) else r) = _
   rw [if_pos ⟨h1, h2⟩]
  have hav : ∀ H : List Blk, H[4]? = some (regB r) → H[5]? = some (slotB r) → WkV H 0 (.tup [.agg [AI r.state, AI r.block, AI r.at_, AI r.value, .hsl 4 0 1 r.regs.length, .hsl 5 0 1 r.slots.length, .d (.sl (r.trace.map intRow)), AI r.steps], AI 0]) (.tup [r.av, AI 0]) := fun H hH hH2 => by
   refine Jt4g ⟨Jt4f ⟨.refl _ rfl, .refl _ rfl, .refl _ rfl, .refl _ rfl, ?_, ?_, .refl _ rfl, .refl _ rfl, trivial⟩, .refl _ rfl, trivial⟩
   ·refine .hsl 4 0 1 r.regs.length (Jth5 (r.regs.map intRow)) (r.regs.map intRow) hH (Nat.zero_le _) ?_ (by simp) (Jtc6 _)
    rw [List.drop_zero, Nat.mul_one, ← lenI r.regs, List.take_length]; rfl
   ·refine .hsl 5 0 1 r.slots.length (Jth5 (r.slots.map intRow)) (r.slots.map intRow) hH2 (Nat.zero_le _) ?_ (by simp) (Jtc6 _)
    rw [List.drop_zero, Nat.mul_one, ← lenI r.slots, List.take_length]; rfl
  simp only [stM, regB, slotB]
  (simp (maxSteps := 1000000) [])
  by_cases hs : r.state = 0
  ·have hsb : (r.state == 0) = true := by simpa using hs
   (simp (maxSteps := 1000000) [hsb, hm])
   by_cases hl : r.steps < lim
   ·(simp (maxSteps := 1000000) [hl])
    refine Jt10 [3, 4, 5] hcs (by decide) (by rfl) (by rfl) (Jtgp (i := 4) (j := 5) (i' := 1) (j' := 2) (by rfl) (by rfl) g r) (Jtgp (i := 1) (j := 2) (i' := 4) (j' := 5) (by rfl) (by rfl) g (stepM g r)) (by rfl) (by rfl) ?_
    simp only [stM, regB, slotB]
    (simp (maxSteps := 1000000) [])
    have hT2 := hgo hs hl
    refine hN _ (stepM g r) ⟨Jtk3 hg k1, by omega, by omega, ?_⟩ (by simp only [stM, regB, slotB]; (exact wkA)) ?_
    ·by_cases hs' : (stepM g r).state = 0
     ·rw [s4 hs' (by rw [hbk]; simp), hT2]; congr 1; omega
     ·rw [hT2, Jthg (fun h => hs' h.1), Jthg (fun h => hs' h.1)]
    ·rw [if_pos hs]
     split
     ·rename_i hs'
      have := s4 hs' (by rw [hbk]; simp)
      omega
     ·omega
   ·have hT2 := hfin (fun h => hl h.2)
    (simp (maxSteps := 1000000) [hl])
    refine hR _ _ (Jt40 _ _ rfl (hav _ rfl rfl) ?_)
    rw [hT2]
  ·have hsb : (r.state == 0) = false := by simpa using hs
   have hT2 := hfin (fun h => hs h.1)
   (simp (maxSteps := 1000000) [hsb])
   refine hR _ _ (Jt40 _ _ rfl (hav _ rfl rfl) ?_)
   rw [hT2]
 ·(simp (maxSteps := 1000000) [])
  refine Jtd (fun r : RunZ => ⟨[(8, .ptr 3 0), (2, AI lim), (6, .ptr 1 0), (7, AI 0)], [.dead, .mem [AI 0, AI 0, AI 0, AI 0, .nils, .nils, .nils, AI 0], .dead, stM 5 4 g r, slotB r, regB r]⟩)
   (fun r => OkRM g n1 n2 r ∧ r.steps ≤ lim ∧ r.trace.length ≤ r.steps ∧ T = runM g lim (lim + 1 - r.steps) r) (fun r => if r.state = 0 then lim + 1 - r.steps else 0) r0
   ⟨hr0, by omega, by rw [hz.1]; exact Nat.zero_le _, by rw [hz.2]; exact hT⟩ (by simp only [stM, regB, slotB]; (exact wkA)) ?_
  rintro r ⟨k1, k3, k4, k5⟩ N hN
  obtain ⟨bk, hbk⟩ : ∃ b, g.blocks[r.block]? = some b := ⟨_, List.getElem?_eq_getElem k1.block⟩
  have hcs := Jt87 A g n1 n2 r hg k1 (by have := k1.at_ bk hbk; have := h6 bk (List.mem_of_getElem? hbk); omega) (by omega) (by omega)
  obtain ⟨s1, s3, s4⟩ := Jtk2 g r
  have hfin : ¬ (r.state = 0 ∧ r.steps < lim) → T = r := fun h => by rw [k5, Jthg h]
  have hgo : r.state = 0 → r.steps < lim → T = runM g lim (lim - r.steps) (stepM g r) := fun h1 h2 => by
   rw [k5, show lim + 1 - r.steps = (lim - r.steps) + 1 by omega]
   show (if r.state = 0 ∧ r.steps < lim then runM g lim (lim - r.steps) (stepM g r) else r) = _
   rw [if_pos ⟨h1, h2⟩]
  have hav : ∀ H : List Blk, H[5]? = some (regB r) → H[4]? = some (slotB r) → WkV H 0 (.tup [.agg [AI r.state, AI r.block, AI r.at_, AI r.value, .hsl 5 0 1 r.regs.length, .hsl 4 0 1 r.slots.length, .d (.sl (r.trace.map intRow)), AI r.steps], AI 0]) (.tup [r.av, AI 0]) := fun H hH hH2 => by
   refine Jt4g ⟨Jt4f ⟨.refl _ rfl, .refl _ rfl, .refl _ rfl, .refl _ rfl, ?_, ?_, .refl _ rfl, .refl _ rfl, trivial⟩, .refl _ rfl, trivial⟩
   ·refine .hsl 5 0 1 r.regs.length (Jth5 (r.regs.map intRow)) (r.regs.map intRow) hH (Nat.zero_le _) ?_ (by simp) (Jtc6 _)
    rw [List.drop_zero, Nat.mul_one, ← lenI r.regs, List.take_length]; rfl
   ·refine .hsl 4 0 1 r.slots.length (Jth5 (r.slots.map intRow)) (r.slots.map intRow) hH2 (Nat.zero_le _) ?_ (by simp) (Jtc6 _)
    rw [List.drop_zero, Nat.mul_one, ← lenI r.slots, List.take_length]; rfl
  simp only [stM, regB, slotB]
  (simp (maxSteps := 1000000) [])
  by_cases hs : r.state = 0
  ·have hsb : (r.state == 0) = true := by simpa using hs
   (simp (maxSteps := 1000000) [hsb, hm])
   by_cases hl : r.steps < lim
   ·(simp (maxSteps := 1000000) [hl])
    refine Jt10 [3, 5, 4] hcs (by decide) (by rfl) (by rfl) (Jtgp (i := 5) (j := 4) (i' := 1) (j' := 2) (by rfl) (by rfl) g r) (Jtgp (i := 1) (j := 2) (i' := 5) (j' := 4) (by rfl) (by rfl) g (stepM g r)) (by rfl) (by rfl) ?_
    simp only [stM, regB, slotB]
    (simp (maxSteps := 1000000) [])
    have hT2 := hgo hs hl
    refine hN _ (stepM g r) ⟨Jtk3 hg k1, by omega, by omega, ?_⟩ (by simp only [stM, regB, slotB]; (exact wkA)) ?_
    ·by_cases hs' : (stepM g r).state = 0
     ·rw [s4 hs' (by rw [hbk]; simp), hT2]; congr 1; omega
     ·rw [hT2, Jthg (fun h => hs' h.1), Jthg (fun h => hs' h.1)]
    ·rw [if_pos hs]
     split
     ·rename_i hs'
      have := s4 hs' (by rw [hbk]; simp)
      omega
     ·omega
   ·have hT2 := hfin (fun h => hl h.2)
    (simp (maxSteps := 1000000) [hl])
    refine hR _ _ (Jt40 _ _ rfl (hav _ rfl rfl) ?_)
    rw [hT2]
  ·have hsb : (r.state == 0) = false := by simpa using hs
   have hT2 := hfin (fun h => hs h.1)
   (simp (maxSteps := 1000000) [hsb])
   refine hR _ _ (Jt40 _ _ rfl (hav _ rfl rfl) ?_)
   rw [hT2]
end
end Go.AE
set_option maxRecDepth 4000
namespace Go.AE
open Go
def Reach (g : MFunc) : Nat → RunZ → RunZ → Prop
 | 0, m, m' => m = m'
 | j + 1, m, m' => m.state = 0 ∧ Reach g j (stepM g m) m'
theorem Reach.trans {g : MFunc} : ∀ {j k : Nat} {a b c : RunZ}, Reach g j a b → Reach g k b c → Reach g (j + k) a c := by
 intro j
 induction j with
 | zero => intro k a b c h1 h2; unfold Reach at h1; subst h1; rw [Nat.zero_add]; exact h2
 | succ j ih =>
  intro k a b c h1 h2
  rw [Nat.succ_add]
  exact ⟨h1.1, ih h1.2 h2⟩
theorem Jthh {g : MFunc} {lim K : Nat} : ∀ {j : Nat} {m m' : RunZ}, Reach g j m m' → m.steps + j ≤ lim → runM g lim (j + K) m = runM g lim K m' := by
 intro j
 induction j with
 | zero => intro m m' h _; unfold Reach at h; subst h; rw [Nat.zero_add]
 | succ j ih =>
  intro m m' h hs
  have hst := (Jtk2 g m).1
  rw [show j + 1 + K = (j + K) + 1 by omega]
  show (if m.state = 0 ∧ m.steps < lim then runM g lim (j + K) (stepM g m) else m) = _
  rw [if_pos ⟨h.1, by omega⟩]
  exact ih h.2 (by omega)
def foldM : List Mach → RunZ → RunZ
 | [], m => m
 | x :: xs, m => foldM xs (stepMI x m)
def goodM : List Mach → RunZ → Prop
 | [], _ => True
 | x :: xs, m => m.state = 0 ∧ goodM xs (stepMI x m)
theorem Jtjz {x : Mach} {m : RunZ} (h : (stepMI x m).state = 0) : (stepMI x m).at_ = m.at_ + 1 := by
 unfold stepMI at h ⊢
 split at h
 ·rename_i h1; rw [if_pos h1]
 ·rename_i h1
  rw [if_neg h1]
  split at h
  ·rename_i h2; rw [if_pos h2]
  ·rename_i h2
   rw [if_neg h2]
   split at h
   ·rename_i h3; rw [if_pos h3]
   ·cases h
theorem Jtfs {g : MFunc} {b : MBlock} : ∀ {seg pre post : List Mach} {m : RunZ}, g.blocks[m.block]? = some b → b.code = pre ++ seg ++ post → m.at_ = pre.length → goodM seg m → Reach g seg.length m (foldM seg m) := by
 intro seg
 induction seg with
 | nil => intro pre post m _ _ _ _; exact rfl
 | cons x xs ih =>
  intro pre post m hb hc ha hg
  have hx : b.code[m.at_]? = some x := by rw [hc, ha]; simp
  have hs : stepM g m = stepMI x m := by unfold stepM; rw [hb]; simp only; rw [hx]
  refine ⟨hg.1, ?_⟩
  rw [hs]
  obtain ⟨_, _, e3, _⟩ := Jtk0 x m
  cases xs with
  | nil => exact rfl
  | cons y ys =>
   have hst : (stepMI x m).state = 0 := hg.2.1
   exact ih (pre := pre ++ [x]) (post := post) (m := stepMI x m) (by rw [e3]; exact hb) (by rw [hc]; simp) (by rw [Jtjz hst, ha]; simp) hg.2
theorem Jt8x {l : List Int} {n v : Int} (h0 : 0 ≤ n) (h1 : n < l.length) : gI (setI l n v) n = v := by
 have h : n.toNat < l.length := by omega
 simp [gI, setI, List.getD_eq_getElem?_getD, h]
theorem Jt8w {l : List Int} {n k v : Int} (h0 : 0 ≤ n) (h1 : 0 ≤ k) (hne : n ≠ k) : gI (setI l n v) k = gI l k := by
 have h : n.toNat ≠ k.toNat := by omega
 simp [gI, setI, List.getD_eq_getElem?_getD, List.getElem?_set_ne h]
theorem Jtkb (d s : Int) (m : RunZ) : stepMI (mvM d s) m = { writeL m d (readL m s) with at_ := m.at_ + 1, steps := m.steps + 1 } := by unfold stepMI; rw [if_pos (show (mvM d s).op = 18 from rfl)]; rfl
theorem Jti7 {v : Int} (h0 : 0 ≤ v) : (2 * v + 1).tmod 2 = 1 ∧ (2 * v + 1).tdiv 2 = v := by
 obtain ⟨_, q2, q3⟩ := Jth2 (v := v) (r := 0) (s := v + 1) h0 (by omega)
 exact ⟨q2, q3⟩
theorem Jtfu {m : RunZ} {v : Int} (h0 : 0 ≤ v) : readL m (2 * v + 1) = gI m.slots v := by
 obtain ⟨q2, q3⟩ := Jti7 h0
 unfold readL; rw [if_pos q2, q3]
theorem Jtft (m : RunZ) : readL m 0 = gI m.regs 0 := rfl
theorem Jtly {m : RunZ} {v x : Int} (h0 : 0 ≤ v) : writeL m (2 * v + 1) x = { m with slots := setI m.slots v x } := by
 obtain ⟨q2, q3⟩ := Jti7 h0
 unfold writeL; rw [if_pos q2, q3]
theorem Jtlw (m : RunZ) (x : Int) : writeL m 0 x = { m with regs := setI m.regs 0 x } := rfl
theorem Jtlx (m : RunZ) (x : Int) : writeL m 2 x = { m with regs := setI m.regs 1 x } := rfl
theorem Jtk9 {m : RunZ} {v : Int} (h0 : 0 ≤ v) (hs : slotZ v = 2 * v + 1) : stepMI (mvM (regZ 0) (slotZ v)) m = { m with regs := setI m.regs 0 (gI m.slots v), at_ := m.at_ + 1, steps := m.steps + 1 } := by
 rw [Jtkb, hs, r0e, Jtfu h0, Jtlw]
theorem Jtka {m : RunZ} {v : Int} (h0 : 0 ≤ v) (hs : slotZ v = 2 * v + 1) : stepMI (mvM (regZ 1) (slotZ v)) m = { m with regs := setI m.regs 1 (gI m.slots v), at_ := m.at_ + 1, steps := m.steps + 1 } := by
 rw [Jtkb, hs, r1e, Jtfu h0, Jtlx]
theorem Jtke {m : RunZ} {v : Int} (h0 : 0 ≤ v) (hs : slotZ v = 2 * v + 1) : stepMI (mvM (slotZ v) (regZ 0)) m = { m with slots := setI m.slots v (gI m.regs 0), at_ := m.at_ + 1, steps := m.steps + 1 } := by
 rw [Jtkb, hs, r0e, Jtft, Jtly h0]
theorem aluZ_a {op a a' b imm : Int} (h : usesA op = false) (h17 : op ≠ 17) : aluZ op a b imm = aluZ op a' b imm := by
 unfold aluZ
 by_cases h1 : op = 1
 ·rw [if_pos h1, if_pos h1]
 ·have hA : ¬ (2 ≤ op ∧ op ≤ 17) := by
   intro hc
   rw [← Bool.not_eq_true] at h
   apply h
   simp only [usesA, decide_eq_true_eq]
   first | omega | exact hc
  rw [if_neg h1, if_neg h1, if_neg (by omega), if_neg (by omega), if_neg (by omega), if_neg (by omega), if_neg (by omega), if_neg (by omega), if_neg (by omega), if_neg (by omega)]
theorem aluZ_b {op a b b' imm : Int} (h : usesB op = false) : aluZ op a b imm = aluZ op a b' imm := by
 unfold aluZ
 have hB : ¬ (5 ≤ op ∧ op < 17) := by
  intro hc
  rw [← Bool.not_eq_true] at h
  apply h
  simp only [usesB, decide_eq_true_eq]
  omega
 rw [if_neg hB, if_neg hB]
end Go.AE
set_option maxRecDepth 4000
namespace Go.AE
open Go
structure RelS (f : Func) (n : Nat) (r m : RunZ) : Prop where
 run : r.state = 0
 runm : m.state = 0
 block : m.block = r.block
 at_ : ∀ b, f.blocks[r.block]? = some b → m.at_ = (spCode (b.code.take r.at_)).length
 slots : m.slots = r.regs
 trace : m.trace = r.trace
 value : m.value = r.value
 two : m.regs.length = 2
 len : r.regs.length = n
def gS (f : Func) : MFunc := ⟨f.args, 2, f.regs, f.blocks.map Jtii⟩
theorem Jtkc {i : Instr} {m : RunZ} {va vb : Int} (h1 : 1 ≤ i.op) (h2 : i.op ≤ 17) (hne : i.op ≠ 2) (ha : usesA i.op = true → gI m.regs 0 = va) (hb : usesB i.op = true → gI m.regs 1 = vb) :
  stepMI (opX i) m = if i.op = 17 then { m with trace := m.trace ++ [va], at_ := m.at_ + 1, steps := m.steps + 1 }
   else if (aluZ i.op va vb i.imm).2 = true then { m with regs := setI m.regs 0 (aluZ i.op va vb i.imm).1, at_ := m.at_ + 1, steps := m.steps + 1 } else { m with state := 2 } := by
 obtain ⟨bb, hbb, hbe⟩ : ∃ bb : Int, opX i = opM i bb ∧ (usesB i.op = true → bb = 1) := by
  unfold opX
  cases hB : usesB i.op with
  | true => exact ⟨1, rfl, fun _ => rfl⟩
  | false => exact ⟨0, rfl, fun h => by cases h⟩
 rw [hbb]
 unfold stepMI opM
 simp only
 rw [if_neg (by omega)]
 by_cases h17 : i.op = 17
 ·rw [if_pos h17, if_pos h17, ha (by simp [usesA, h17])]
 ·rw [if_neg h17, if_neg h17]
  have e : aluZ i.op (gI m.regs 0) (gI m.regs bb) i.imm = aluZ i.op va vb i.imm := by
   have ea : aluZ i.op (gI m.regs 0) (gI m.regs bb) i.imm = aluZ i.op va (gI m.regs bb) i.imm := by
    cases hA : usesA i.op with
    | true => rw [ha hA]
    | false => exact aluZ_a hA h17
   rw [ea]
   cases hB : usesB i.op with
   | true => rw [hbe hB, hb hB]
   | false => exact aluZ_b hB
  rw [e]
theorem Jtdj {n : Nat} {i : Instr} {m : RunZ} (ok : InOk n i) (h2 : m.regs.length = 2) (hs : m.state = 0) :
  ∃ m', foldM (ldA i ++ ldB i) m = m' ∧ goodM (ldA i ++ ldB i) m ∧ m'.state = 0 ∧ m'.block = m.block ∧ m'.slots = m.slots ∧ m'.trace = m.trace ∧ m'.value = m.value ∧ m'.regs.length = 2 ∧ m'.at_ = m.at_ + (ldA i ++ ldB i).length ∧
   (usesA i.op = true → gI m'.regs 0 = gI m.slots i.a) ∧ (usesB i.op = true → gI m'.regs 1 = gI m.slots i.b) := by
 unfold ldA ldB
 cases hA : usesA i.op with
 | false =>
  cases hB : usesB i.op with
  | false => exact ⟨m, rfl, trivial, hs, rfl, rfl, rfl, rfl, h2, rfl, fun h => (by cases h), fun h => (by cases h)⟩
  | true =>
   exfalso
   simp only [usesA, decide_eq_false_iff_not] at hA
   simp only [usesB, decide_eq_true_eq] at hB
   omega
 | true =>
  obtain ⟨⟨a0, a1⟩, a2⟩ := ok.a hA
  have e1 := Jtk9 (m := m) a0 a2
  cases hB : usesB i.op with
  | false =>
   refine ⟨_, rfl, ⟨hs, trivial⟩, ?_⟩
   show (stepMI (mvM (regZ 0) (slotZ i.a)) m).state = 0 ∧ _
   simp only [if_true, Bool.false_eq_true, if_false, List.append_nil, foldM, e1, List.length_singleton]
   exact ⟨hs, by trivial, by trivial, by trivial, by trivial, by rw [Jthx]; exact h2, by trivial, fun _ => Jt8x (by decide) (by omega), fun h => (by cases h)⟩
  | true =>
   obtain ⟨⟨b0, b1⟩, b2⟩ := ok.b hB
   obtain ⟨m1, hm1⟩ : ∃ y, y = stepMI (mvM (regZ 0) (slotZ i.a)) m := ⟨_, rfl⟩
   have e2 := Jtka (m := m1) b0 b2
   have hm1' := hm1
   rw [e1] at hm1'
   refine ⟨_, rfl, ⟨hs, by show (stepMI (mvM (regZ 0) (slotZ i.a)) m).state = 0; rw [e1]; exact hs, trivial⟩, ?_⟩
   show (stepMI (mvM (regZ 1) (slotZ i.b)) (stepMI (mvM (regZ 0) (slotZ i.a)) m)).state = 0 ∧ _
   simp only [if_true, List.cons_append, List.nil_append, foldM, ← hm1, e2]
   rw [hm1']
   simp only
   exact ⟨hs, by trivial, by trivial, by trivial, by trivial, by rw [Jthx, Jthx]; exact h2, by first | rfl | trivial, fun _ => by rw [Jt8w (by decide) (by decide) (by decide)]; exact Jt8x (by decide) (by omega), fun _ => Jt8x (by decide) (by rw [Jthx]; omega)⟩
theorem Jtin (l : List Instr) (k : Nat) (h : k < l.length) : spCode l = spCode (l.take k) ++ Jtip l[k] ++ spCode (l.drop (k + 1)) := by
 have e : l = l.take k ++ l[k] :: l.drop (k + 1) := by rw [List.getElem_cons_drop, List.take_append_drop]
 conv => lhs; rw [e]
 unfold spCode
 rw [List.flatMap_append, List.flatMap_cons, List.append_assoc]
theorem Jtio (l : List Instr) (k : Nat) (h : k < l.length) : spCode (l.take (k + 1)) = spCode (l.take k) ++ Jtip l[k] := by
 rw [List.take_succ_eq_append_getElem h]
 unfold spCode
 rw [List.flatMap_append, List.flatMap_cons, List.flatMap_nil, List.append_nil]
theorem Jt8r (a b : List Mach) (m : RunZ) : foldM (a ++ b) m = foldM b (foldM a m) := by
 induction a generalizing m with
 | nil => rfl
 | cons x a ih => exact ih _
theorem Jt9f {a b : List Mach} {m : RunZ} (h1 : goodM a m) (h2 : goodM b (foldM a m)) : goodM (a ++ b) m := by
 induction a generalizing m with
 | nil => exact h2
 | cons x a ih => exact ⟨h1.1, ih h1.2 h2⟩
theorem Jtc5 {n : Nat} {i : Instr} {r m : RunZ} (hop : 1 ≤ i.op ∧ i.op ≤ 17) (ok : InOk n i) (hr : r.state = 0) (hm : m.state = 0) (hsl : m.slots = r.regs) (htr : m.trace = r.trace) (hva : m.value = r.value) (h2 : m.regs.length = 2) (hn : r.regs.length = n) (hnx : (stepI i r).state = 0) :
  goodM (Jtip i) m ∧ (foldM (Jtip i) m).state = 0 ∧ (foldM (Jtip i) m).block = m.block ∧ (foldM (Jtip i) m).at_ = m.at_ + (Jtip i).length ∧ (foldM (Jtip i) m).slots = (stepI i r).regs ∧ (foldM (Jtip i) m).trace = (stepI i r).trace ∧
   (foldM (Jtip i) m).value = (stepI i r).value ∧ (foldM (Jtip i) m).regs.length = 2 := by
 by_cases hc : i.op = 2
 ·obtain ⟨⟨a0, a1⟩, a2⟩ := ok.a (by simp [usesA, hc])
  obtain ⟨⟨d0, d1⟩, d2⟩ := ok.d (by simp [usesD, hc])
  have e : Jtip i = [mvM (regZ 0) (slotZ i.a), mvM (slotZ i.d) (regZ 0)] := by simp only [Jtip, hc]; rfl
  obtain ⟨m1, hm1⟩ : ∃ y, y = stepMI (mvM (regZ 0) (slotZ i.a)) m := ⟨_, rfl⟩
  have hm1' := hm1
  rw [Jtk9 a0 a2] at hm1'
  have e2 := Jtke (m := m1) d0 d2
  have hst : stepI i r = { r with regs := setI r.regs i.d (gI r.regs i.a), at_ := r.at_ + 1, steps := r.steps + 1 } := by
   unfold stepI
   have hz : ∀ b, aluZ i.op (gI r.regs i.a) b i.imm = (gI r.regs i.a, true) := fun b => by unfold aluZ; rw [hc, if_neg (by decide), if_pos rfl]
   rw [if_neg (by rw [hc]; decide), hz, if_pos rfl]
  have hg : gI m1.regs 0 = gI r.regs i.a := by rw [hm1', ← hsl]; exact Jt8x (by decide) (by omega)
  have hf : foldM [mvM (regZ 0) (slotZ i.a), mvM (slotZ i.d) (regZ 0)] m = { m1 with slots := setI m1.slots i.d (gI r.regs i.a), at_ := m1.at_ + 1, steps := m1.steps + 1 } := by
   show stepMI (mvM (slotZ i.d) (regZ 0)) (stepMI (mvM (regZ 0) (slotZ i.a)) m) = _
   rw [← hm1, e2, hg]
  rw [e, hf, hst]
  refine ⟨⟨hm, by rw [← hm1, hm1']; exact hm, trivial⟩, by rw [hm1']; exact hm, by rw [hm1'], by rw [hm1']; rfl, by rw [hm1', ← hsl], by rw [hm1']; exact htr, by rw [hm1']; exact hva, by rw [hm1']; show (setI m.regs 0 _).length = 2; rw [Jthx]; exact h2⟩
 ·rw [Jtir hop.1 hop.2 hc]
  obtain ⟨m1, f1, g1, s1, b1, sl1, t1, v1, r1, at1, ga, gb⟩ := Jtdj (i := i) ok h2 hm
  have ha : usesA i.op = true → gI m1.regs 0 = gI r.regs i.a := fun h => by rw [ga h, hsl]
  have hb : usesB i.op = true → gI m1.regs 1 = gI r.regs i.b := fun h => by rw [gb h, hsl]
  have eo := Jtkc (m := m1) hop.1 hop.2 hc ha hb
  obtain ⟨z, hz⟩ : ∃ z, z = aluZ i.op (gI r.regs i.a) (gI r.regs i.b) i.imm := ⟨_, rfl⟩
  rw [← hz] at eo
  unfold stepI at hnx
  rw [← hz] at hnx
  have hst : stepI i r = if i.op = 17 then { r with trace := r.trace ++ [gI r.regs i.a], at_ := r.at_ + 1, steps := r.steps + 1 } else if z.2 = true then { r with regs := setI r.regs i.d z.1, at_ := r.at_ + 1, steps := r.steps + 1 } else { r with state := 2 } := by
   unfold stepI; rw [← hz]
  rw [hst]
  rw [Jt8r, f1]
  have hlen : (ldA i ++ ldB i ++ (opX i :: stD i)).length = (ldA i ++ ldB i).length + 1 + (stD i).length := by simp [List.length_append]; omega
  rw [hlen]
  by_cases h17 : i.op = 17
  ·rw [if_pos h17] at eo ⊢
   have hd : stD i = [] := by unfold stD; rw [if_neg (by simp [usesD, h17])]
   rw [hd]
   have hf : foldM [opX i] m1 = { m1 with trace := m1.trace ++ [gI r.regs i.a], at_ := m1.at_ + 1, steps := m1.steps + 1 } := eo
   rw [hf]
   exact ⟨Jt9f g1 (by rw [f1]; exact ⟨s1, trivial⟩), s1, b1, by show m1.at_ + 1 = _; rw [at1]; rfl, by rw [← hsl]; exact sl1, by show m1.trace ++ _ = _; rw [t1, htr], by rw [← hva]; exact v1, r1⟩
  ·rw [if_neg h17] at eo hnx ⊢
   by_cases hok : z.2 = true
   ·rw [if_pos hok] at eo hnx ⊢
    have hD : usesD i.op = true := by simp only [usesD, decide_eq_true_eq]; omega
    obtain ⟨⟨d0, d1⟩, d2⟩ := ok.d hD
    have hd : stD i = [mvM (slotZ i.d) (regZ 0)] := by unfold stD; rw [if_pos hD]
    rw [hd]
    obtain ⟨m2, hm2⟩ : ∃ y, y = stepMI (opX i) m1 := ⟨_, rfl⟩
    have hm2' := hm2
    rw [eo] at hm2'
    have e3 := Jtke (m := m2) d0 d2
    have hg : gI m2.regs 0 = z.1 := by rw [hm2']; exact Jt8x (by decide) (by omega)
    have hf : foldM [opX i, mvM (slotZ i.d) (regZ 0)] m1 = { m2 with slots := setI m2.slots i.d z.1, at_ := m2.at_ + 1, steps := m2.steps + 1 } := by
     show stepMI (mvM (slotZ i.d) (regZ 0)) (stepMI (opX i) m1) = _
     rw [← hm2, e3, hg]
    rw [hf]
    have s2 : m2.state = 0 := by rw [hm2']; exact s1
    refine ⟨Jt9f g1 (by rw [f1]; exact ⟨s1, by rw [← hm2]; exact s2, trivial⟩), s2, by rw [hm2']; exact b1, ?_, ?_, by rw [hm2']; show m1.trace = _; rw [t1]; exact htr, by rw [hm2']; show m1.value = _; rw [v1]; exact hva, by rw [hm2']; show (setI m1.regs 0 _).length = 2; rw [Jthx]; exact r1⟩
    ·rw [hm2']; show m1.at_ + 1 + 1 = _; rw [at1]; rfl
    ·rw [hm2']; show setI m1.slots i.d z.1 = setI r.regs i.d z.1; rw [sl1, hsl]
   ·rw [if_neg hok] at hnx
    cases hnx
end Go.AE
set_option maxRecDepth 4000
namespace Go.AE
open Go
structure SrcOk (f : Func) (n : Nat) : Prop where
 code : ∀ b ∈ f.blocks, ∀ i ∈ b.code, (1 ≤ i.op ∧ i.op ≤ 17) ∧ InOk n i
 term : ∀ b ∈ f.blocks, OkT b.term n f.blocks.length ∧ (b.term.kind ≠ 1 → slotZ b.term.a = 2 * b.term.a + 1)
theorem Jtjy {i : Instr} {r : RunZ} (h : (stepI i r).state = 0) : (stepI i r).at_ = r.at_ + 1 ∧ (stepI i r).block = r.block ∧ (stepI i r).regs.length = r.regs.length ∧ (stepI i r).steps = r.steps + 1 := by
 refine ⟨?_, ?_, Jtjw i r, ?_⟩
 all_goals
  unfold stepI at h ⊢
  split at h
  ·rename_i h1; rw [if_pos h1]
  ·rename_i h1
   rw [if_neg h1]
   split at h
   ·rename_i h2; rw [if_pos h2]
   ·cases h
theorem Jtjx (i : Instr) (r : RunZ) (h : r.state = 0) : (stepI i r).state ≠ 1 := by
 unfold stepI
 split
 ·show r.state ≠ 1; rw [h]; decide
 ·split
  ·show r.state ≠ 1; rw [h]; decide
  ·show (2 : Int) ≠ 1; decide
structure EndS (r m : RunZ) : Prop where
 state : m.state = 1
 value : m.value = r.value
 block : m.block = r.block
 slots : m.slots = r.regs
 trace : m.trace = r.trace
theorem Jtkd {f : Func} {n : Nat} {r m : RunZ} (hf : SrcOk f n) (ho : OkR f n r) (h : RelS f n r m) :
  ((stepS f r).state = 0 → ∃ j m', j ≤ 4 ∧ Reach (gS f) j m m' ∧ RelS f n (stepS f r) m') ∧ ((stepS f r).state = 1 → ∃ j m', j ≤ 4 ∧ Reach (gS f) j m m' ∧ EndS (stepS f r) m') := by
 obtain ⟨b, hb⟩ : ∃ b, f.blocks[r.block]? = some b := ⟨_, List.getElem?_eq_getElem ho.block⟩
 have mb := List.mem_of_getElem? hb
 have hat := ho.at_ b hb
 have hma := h.at_ b hb
 have hgb : (gS f).blocks[m.block]? = some (Jtii b) := by
  show (f.blocks.map Jtii)[m.block]? = _
  rw [h.block, List.getElem?_map, hb]; rfl
 obtain ⟨tl, htl⟩ : ∃ y, y = if b.term.kind = 1 then [] else [mvM (regZ 0) (slotZ b.term.a)] := ⟨_, rfl⟩
 have hmc : (Jtii b).code = spCode b.code ++ tl := by rw [htl]; rfl
 have hmt : (Jtii b).term = { b.term with a := 0 } := rfl
 by_cases hlt : r.at_ < b.code.length
 ·have hi : b.code[r.at_]? = some b.code[r.at_] := by simp [hlt]
  have hsp := Jtin b.code r.at_ hlt
  have htk := Jtio b.code r.at_ hlt
  obtain ⟨i, hie⟩ : ∃ i, i = b.code[r.at_] := ⟨_, rfl⟩
  rw [← hie] at hi hsp htk
  have hS : stepS f r = stepI i r := by unfold stepS; rw [hb]; simp only; rw [hi]
  rw [hS]
  obtain ⟨hop, ok⟩ := hf.code b mb i (List.mem_of_getElem? hi)
  refine ⟨fun hs => ?_, fun hs => absurd hs (Jtjx i r h.run)⟩
  obtain ⟨g1, g2, g3, g4, g5, g6, g7, g8⟩ := Jtc5 hop ok h.run h.runm h.slots h.trace h.value h.two h.len hs
  obtain ⟨e1, e2, e3, e4⟩ := Jtjy hs
  refine ⟨(Jtip i).length, foldM (Jtip i) m, Jtiq i, Jtfs (b := Jtii b) (pre := spCode (b.code.take r.at_)) (post := spCode (b.code.drop (r.at_ + 1)) ++ tl) hgb (by rw [hmc, hsp]; simp only [List.append_assoc]) hma g1, ?_⟩
  refine ⟨hs, g2, by rw [g3, h.block, e2], fun b' hb' => ?_, g5, g6, g7, g8, by rw [e3]; exact h.len⟩
  rw [e2, hb] at hb'; injection hb' with hb'; subst hb'
  rw [g4, e1, htk, List.length_append, hma]
 ·have hi : b.code[r.at_]? = none := List.getElem?_eq_none (by omega)
  have hS : stepS f r = stepT b.term r := by unfold stepS; rw [hb]; simp only; rw [hi]
  rw [hS]
  have hlen : r.at_ = b.code.length := by omega
  rw [hlen, List.take_length] at hma
  obtain ⟨ht, hsl⟩ := hf.term b mb
  by_cases k1 : b.term.kind = 1
  ·rw [if_pos k1] at htl
   have hcl : (Jtii b).code[m.at_]? = none := by rw [hmc, htl, List.append_nil, hma]; exact List.getElem?_eq_none (Nat.le_refl _)
   have hstep : stepM (gS f) m = stepMT { b.term with a := 0 } m := by unfold stepM; rw [hgb]; simp only; rw [hcl]; rfl
   have e1 : stepT b.term r = { r with steps := r.steps + 1, block := b.term.to.toNat, at_ := 0 } := by
    unfold stepT; rw [if_neg (by omega), if_neg (by rintro ⟨h, _⟩; omega)]
   have e2 : stepMT { b.term with a := 0 } m = { m with steps := m.steps + 1, block := b.term.to.toNat, at_ := 0 } := by
    unfold stepMT; simp only; rw [if_neg (by omega), if_pos k1]
   rw [e1]
   refine ⟨fun _ => ⟨1, stepM (gS f) m, by decide, ⟨h.runm, rfl⟩, ?_⟩, fun hs => by have : r.state = 1 := hs; rw [h.run] at this; cases this⟩
   rw [hstep, e2]
   exact ⟨h.run, h.runm, rfl, fun b' _ => rfl, h.slots, h.trace, h.value, h.two, h.len⟩
  ·rw [if_neg k1] at htl
   obtain ⟨a0, a1⟩ := ht.a k1
   have hs2 := hsl k1
   have hld := Jtk9 (m := m) a0 hs2
   have hre := Jtfs (g := gS f) (b := Jtii b) (seg := tl) (pre := spCode b.code) (post := []) (m := m) hgb (by rw [hmc, List.append_nil]) hma (by rw [htl]; exact ⟨h.runm, trivial⟩)
   have hfo : foldM tl m = { m with regs := setI m.regs 0 (gI m.slots b.term.a), at_ := m.at_ + 1, steps := m.steps + 1 } := by rw [htl]; exact hld
   rw [hfo] at hre
   have htl1 : tl.length = 1 := by rw [htl]; rfl
   rw [htl1] at hre
   obtain ⟨m1, hm1⟩ : ∃ y : RunZ, y = { m with regs := setI m.regs 0 (gI m.slots b.term.a), at_ := m.at_ + 1, steps := m.steps + 1 } := ⟨_, rfl⟩
   rw [← hm1] at hre
   have q1 : m1.state = 0 := by rw [hm1]; exact h.runm
   have q2 : m1.block = m.block := by rw [hm1]
   have q3 : m1.slots = r.regs := by rw [hm1]; exact h.slots
   have q4 : m1.trace = r.trace := by rw [hm1]; exact h.trace
   have q5 : m1.value = r.value := by rw [hm1]; exact h.value
   have q6 : gI m1.regs 0 = gI r.regs b.term.a := by rw [hm1, ← h.slots]; exact Jt8x (by decide) (by rw [h.two]; decide)
   have q7 : m1.regs.length = 2 := by rw [hm1]; show (setI m.regs 0 _).length = 2; rw [Jthx]; exact h.two
   have hcl : (Jtii b).code[m1.at_]? = none := by
    rw [hmc, hm1]; show (spCode b.code ++ tl)[m.at_ + 1]? = none
    exact List.getElem?_eq_none (by rw [List.length_append, htl1, hma]; omega)
   have hstep : stepM (gS f) m1 = stepMT { b.term with a := 0 } m1 := by unfold stepM; rw [q2, hgb]; simp only; rw [hcl]; rfl
   have hr2 : Reach (gS f) 2 m (stepMT { b.term with a := 0 } m1) := by
    rw [← hstep]; exact hre.trans (k := 1) ⟨q1, rfl⟩
   by_cases k3 : b.term.kind = 3
   ·have e1 : stepT b.term r = { r with steps := r.steps + 1, state := 1, value := gI r.regs b.term.a } := by unfold stepT; rw [if_pos k3]
    have e2 : stepMT { b.term with a := 0 } m1 = { m1 with steps := m1.steps + 1, state := 1, value := gI m1.regs 0 } := by unfold stepMT; simp only; rw [if_pos k3]
    rw [e1]
    refine ⟨fun hs => (by have : (1 : Int) = 0 := hs; cases this), fun _ => ⟨2, _, by decide, hr2, ?_⟩⟩
    rw [e2]
    exact ⟨rfl, q6, by show m1.block = r.block; rw [q2, h.block], q3, q4⟩
   ·have k2 : b.term.kind = 2 := by have := ht.kind; omega
    by_cases hz : gI r.regs b.term.a = 0
    ·have e1 : stepT b.term r = { r with steps := r.steps + 1, block := b.term.els.toNat, at_ := 0 } := by unfold stepT; rw [if_neg k3, if_pos ⟨k2, hz⟩]
     have e2 : stepMT { b.term with a := 0 } m1 = { m1 with steps := m1.steps + 1, block := b.term.els.toNat, at_ := 0 } := by unfold stepMT; simp only; rw [if_neg k3, if_neg k1, if_pos (by rw [q6]; exact hz)]
     rw [e1]
     refine ⟨fun _ => ⟨2, _, by decide, hr2, ?_⟩, fun hs => by have : r.state = 1 := hs; rw [h.run] at this; cases this⟩
     rw [e2]
     exact ⟨h.run, q1, rfl, fun b' _ => rfl, q3, q4, q5, q7, h.len⟩
    ·have e1 : stepT b.term r = { r with steps := r.steps + 1, block := b.term.to.toNat, at_ := 0 } := by unfold stepT; rw [if_neg k3, if_neg (fun h => hz h.2)]
     have e2 : stepMT { b.term with a := 0 } m1 = { m1 with steps := m1.steps + 1, block := b.term.to.toNat, at_ := 0 } := by unfold stepMT; simp only; rw [if_neg k3, if_neg k1, if_neg (by rw [q6]; exact hz)]
     rw [e1]
     refine ⟨fun _ => ⟨2, _, by decide, hr2, ?_⟩, fun hs => by have : r.state = 1 := hs; rw [h.run] at this; cases this⟩
     rw [e2]
     exact ⟨h.run, q1, rfl, fun b' _ => rfl, q3, q4, q5, q7, h.len⟩
theorem Jtk7 {f : Func} {n : Nat} {r : RunZ} (ho : OkR f n r) (hr : r.state = 0) (h : (stepS f r).state = 0 ∨ (stepS f r).state = 1) : (stepS f r).steps = r.steps + 1 := by
 obtain ⟨b, hb⟩ : ∃ b, f.blocks[r.block]? = some b := ⟨_, List.getElem?_eq_getElem ho.block⟩
 unfold stepS at h ⊢
 rw [hb] at h ⊢
 simp only at h ⊢
 cases hi : b.code[r.at_]? with
 | some i =>
  rw [hi] at h
  simp only at h ⊢
  rcases h with h | h
  ·exact (Jtjy h).2.2.2
  ·exact absurd h (Jtjx i r hr)
 | none =>
  simp only
  unfold stepT
  split
  ·rfl
  ·split <;> rfl
theorem Jthq {f : Func} {n lim : Nat} (hf : SrcOk f n) (hok : OkF f n) : ∀ (k : Nat) (r m : RunZ), OkR f n r → RelS f n r m → (runS f lim k r).state = 1 → ∃ j m', j + 4 * r.steps ≤ 4 * (runS f lim k r).steps ∧ Reach (gS f) j m m' ∧ EndS (runS f lim k r) m' := by
 intro k
 induction k with
 | zero => intro r m ho h hs; have : r.state = 1 := hs; rw [h.run] at this; cases this
 | succ k ih =>
  intro r m ho h hs
  unfold runS at hs ⊢
  by_cases hc : r.state = 0 ∧ r.steps < lim
  ·rw [if_pos hc] at hs ⊢
   obtain ⟨s1, s2⟩ := Jtkd hf ho h
   have ho1 := Jtk4 hok ho
   by_cases h0 : (stepS f r).state = 0
   ·obtain ⟨j, m1, j4, r1, rel1⟩ := s1 h0
    obtain ⟨j2, m2, q1, q2, q3⟩ := ih _ m1 ho1 rel1 hs
    have := Jtk7 ho h.run (.inl h0)
    exact ⟨j + j2, m2, by omega, r1.trans q2, q3⟩
   ·rw [Jthm (fun h => h0 h.1)] at hs ⊢
    obtain ⟨j, m1, j4, r1, e1⟩ := s2 hs
    have := Jtk7 ho h.run (.inr hs)
    exact ⟨j, m1, by omega, r1, e1⟩
  ·rw [if_neg hc] at hs
   rw [h.run] at hs; cases hs
theorem Jt7z {f : Func} {n lim : Nat} {args : List Int} (hf : SrcOk f n) (hok : OkF f n) (hn : f.regs = (n : Int)) (ha : args.length ≤ n) (hb : 0 < f.blocks.length) (hs : (execS f args lim).state = 1) :
  EndS (execS f args lim) (execM (gS f) args (65 * (execS f args lim).steps)) := by
 have hnt : f.regs.toNat = n := by omega
 have ho : OkR f n (run0 f args) := ⟨by unfold run0; simp; omega, hb, fun b _ => Nat.zero_le _⟩
 have hrel : RelS f n (run0 f args) (runM0 (gS f) args) := by
  refine ⟨rfl, rfl, rfl, fun b _ => rfl, ?_, rfl, rfl, ?_, ho.regs⟩
  ·show args ++ List.replicate (f.regs.toNat - args.length) 0 = args ++ List.replicate (f.regs.toNat - args.length) 0; rfl
  ·show (List.replicate (2 : Int).toNat 0).length = 2; rfl
 obtain ⟨j, m', h1, h2, h3⟩ := Jthq hf hok (lim + 1) (run0 f args) (runM0 (gS f) args) ho hrel hs
 have e : execS f args lim = runS f lim (lim + 1) (run0 f args) := rfl
 rw [← e] at h1 h3
 have hz : (run0 f args).steps = 0 := rfl
 obtain ⟨S, hS⟩ : ∃ S, S = (execS f args lim).steps := ⟨_, rfl⟩
 rw [← hS] at h1 ⊢
 have hj : j ≤ 65 * S := by omega
 have e2 : execM (gS f) args (65 * S) = m' := by
  unfold execM
  rw [show 65 * S + 1 = j + (65 * S + 1 - j) by omega, Jthh h2 (by show (runM0 (gS f) args).steps + j ≤ _; have : (runM0 (gS f) args).steps = 0 := rfl; omega)]
  exact Jthg (fun h => by rw [h3.state] at h; cases h.1) _
 rw [e2]; exact h3
end Go.AE
set_option maxRecDepth 4000
namespace Go.AE
open Go
def stZ (f : Func) (b s : Nat) : Blk := .mem [AI 0, AI b, AI 0, AI 0, .own 1 [], .nils, .nils, AI s, AI f.args, AI f.regs, .d (.sl (f.blocks.map Block.row))]
def jB (f : Func) (b : Nat) : Nat := match f.blocks[b]? with
 | some k => k.term.to.toNat
 | none => 0
def jIt (f : Func) : Nat → Nat
 | 0 => 0
 | s + 1 => jB f (jIt f s)
structure JumpF (f : Func) : Prop where
 code : ∀ b ∈ f.blocks, b.code = [] ∧ b.term.kind = 1 ∧ 0 ≤ b.term.to ∧ b.term.to < f.blocks.length
section
variable {P : Program} {K : ASt → Prop} {QP : AV → ASt → Prop} {dst : Option Nat} {st : ASt}
theorem Jt1m {esz : Nat} {x y : Opd} {ys : List (List D)} (h : evr st.env x = some (.d (.sl []))) (hy : Jt5p st.env y = some ys) (hr : ∀ r ∈ ys, r.length = esz) (hK : K (put dst (AI 0) st)) : AWio P false (.cpy esz x y) dst K QP st := by
 refine ⟨rfl, ys, hy, hr, ?_⟩
 rw [h]; exact hK
end
section
theorem Jtcf {P : Program} {p : Nums} (A : All P p) (f : Func) (t : Term) (b s : Nat) (hk : t.kind = 1) (ht : 0 ≤ t.to) (h2 : s < 1000000000) :
  Jt3w P p.interp_state_term [.ptr 0 0, t.av] [stZ f b s] fun o H' => o = .ret (.tup []) ∧ H' = [stZ f t.to.toNat (s + 1)] := by
 have w2 := Jtlt (k := s) (by omega)
 obtain ⟨fR, hfR⟩ : ∃ y, y = f.blocks.map Block.row := ⟨_, rfl⟩
 obtain ⟨kind, a, to, els⟩ := t
 simp only at hk ht
 subst hk
 have he : ((to.toNat : Nat) : Int) = to := by omega
 refine A.interp_state_term.run rfl fun R hR => ?_
 simp only [stZ, ← hfR]
 (simp (maxSteps := 1000000) [Jtas, Term.av, w2])
 refine hR _ _ (Fin_wk (.tup []) (.tup []) [stZ f to.toNat (s + 1)] rfl ?_ ⟨rfl, rfl⟩)
 simp only [stZ, ← hfR, he]
 (exact wkA)
theorem Jtcd {P : Program} {p : Nums} (A : All P p) (f : Func) (hj : JumpF f) (b s : Nat) (hb : b < f.blocks.length) (h2 : s < 1000000000) :
  jB f b < f.blocks.length ∧ Jt3w P p.interp_state_step [.ptr 0 0] [stZ f b s] fun o H' => o = .ret (.tup []) ∧ H' = [stZ f (jB f b) (s + 1)] := by
 obtain ⟨k, hk⟩ : ∃ k, f.blocks[b]? = some k := ⟨_, List.getElem?_eq_getElem hb⟩
 obtain ⟨j1, j2, j3, j4⟩ := hj.code k (List.mem_of_getElem? hk)
 obtain ⟨b', hb'⟩ : ∃ b', b' = k.term.to.toNat := ⟨_, rfl⟩
 have hjb : jB f b = b' := by unfold jB; rw [hk]; exact hb'.symm
 rw [hjb]
 refine ⟨by omega, ?_⟩
 have hfR : (f.blocks.map Block.row)[b]? = some k.row := by rw [List.getElem?_map, hk]; rfl
 have hc := Jtcf A f k.term b s j2 j3 h2
 rw [← hb'] at hc
 refine A.interp_state_step.run rfl fun R hR => ?_
 simp only [stZ]
 (simp (maxSteps := 1000000) [Jtar, hfR, Block.row, j1])
 refine Jt10 [0] hc (by decide) (by rfl) (by rfl) (by rfl) (by rfl) (by rfl) (by rfl) ?_
 simp only [stZ]
 (simp (maxSteps := 1000000) [])
 refine hR _ _ (Fin_wk (.tup []) (.tup []) [stZ f b' (s + 1)] rfl ?_ ⟨rfl, rfl⟩)
 simp only [stZ]
 (exact wkA)
theorem Jtca {P : Program} {p : Nums} (A : All P p) (f : Func) (hn : f.regs = 0) : Jt3w P p.interp_begin [f.av, .d (intsD [])] [] fun o H' => o = .ret (.ptr 1 0) ∧ H' = [.dead, stZ f 0 0] := by
 obtain ⟨fR, hfR⟩ : ∃ y, y = f.blocks.map Block.row := ⟨_, rfl⟩
 refine A.interp_begin.run rfl fun R hR => ?_
 simp only [Func.av, intsD, ← hfR, hn]
 (simp (maxSteps := 1000000) [Jtap])
 refine Jt24 (n := 0) (by rfl) (by rfl) (by omega) (by omega) (by decide) (by rfl) ?_
 (simp (maxSteps := 1000000) [])
 refine Jt1m (by rfl) (by rfl) (by simp) ?_
 (simp (maxSteps := 1000000) [])
 refine hR _ _ (Jt3z (.ptr 1 0) (.ptr 1 0) [.dead, stZ f 0 0] rfl ?_ ⟨rfl, rfl⟩)
 simp only [stZ, ← hfR, hn]
 (exact wkA)
theorem Jtc8 {P : Program} {p : Nums} (A : All P p) (f : Func) (lim : Nat) (hj : JumpF f) (hn : f.regs = 0) (h3 : f.args = 0) (h4 : 0 < f.blocks.length) (h5 : lim ≤ 1000000) :
  Jt3w P p.interp_Exec [f.av, .d (intsD []), AI lim] [] fun o _ => o = .ret (.tup [.agg [AI 0, AI (jIt f lim), AI 0, AI 0, .d (.sl []), .d (.sl []), .d (.sl []), AI lim], AI 0]) := by
 have hb := Jtca A f hn
 obtain ⟨fR, hfR⟩ : ∃ y, y = f.blocks.map Block.row := ⟨_, rfl⟩
 have hm : ¬ ((1073741824 : Int) < lim) := by omega
 refine A.interp_Exec.run rfl fun R hR => ?_
 simp only [Func.av, intsD, ← hfR, h3, List.map_nil] at hb ⊢
 (simp (maxSteps := 1000000) [Jtao])
 refine Jt11 [] 2 hb (by decide) (by rfl) (by rfl) (by rfl) (by rfl) (by rfl) (by rfl) ?_
 (simp (maxSteps := 1000000) [])
 refine Jtd (fun s : Nat => ⟨[(8, .ptr 3 0), (2, AI lim), (6, .ptr 1 0), (7, AI 0)], [.dead, .mem [AI 0, AI 0, AI 0, AI 0, .nils, .nils, .nils, AI 0], .dead, stZ f (jIt f s) s]⟩)
  (fun s => jIt f s < f.blocks.length ∧ s ≤ lim) (fun s => lim - s) 0 ⟨h4, Nat.zero_le _⟩ (by simp only [stZ]; (exact wkA)) ?_
 rintro s ⟨k1, k2⟩ N hN
 obtain ⟨k3, hcs⟩ := Jtcd A f hj (jIt f s) s k1 (by omega)
 simp only [stZ]
 (simp (maxSteps := 1000000) [hm])
 by_cases hl : s < lim
 ·(simp (maxSteps := 1000000) [hl])
  refine Jt10 [3] hcs (by decide) (by rfl) (by rfl) (by rfl) (by rfl) (by rfl) (by rfl) ?_
  simp only [stZ]
  (simp (maxSteps := 1000000) [])
  exact hN _ (s + 1) ⟨k3, by omega⟩ (by simp only [stZ, jIt]; (exact wkA)) (by omega)
 ·have hsl : s = lim := by omega
  (simp (maxSteps := 1000000) [hl])
  exact hR _ _ (Jt40 _ (.tup [.agg [AI 0, AI (jIt f lim), AI 0, AI 0, .d (.sl []), .d (.sl []), .d (.sl []), AI lim], AI 0]) rfl (by rw [← hsl]; (exact wkvA)) rfl)
end
end Go.AE
set_option maxRecDepth 4000
namespace Go.AE
open Go
theorem Jtc3 {i : Instr} {n : Nat} (h : Jtga i (n : Int) = 0) (h0 : 0 < n) : (0 ≤ i.a ∧ i.a < n) ∧ (0 ≤ i.b ∧ i.b < n) ∧ (0 ≤ i.d ∧ i.d < n) := by
 unfold Jtga at h
 split at h
 ·cases h
 split at h
 ·cases h
 rename_i h9
 split at h
 ·cases h
 rename_i h12
 simp only [bad9, Bool.or_eq_true, Bool.and_eq_true, not_or, not_and, Bool.not_eq_true', Bool.not_eq_false, inZ, decide_eq_true_eq] at h9
 simp only [bad12, Bool.or_eq_true, Bool.and_eq_true, not_or, not_and, Bool.not_eq_true', bne_iff_ne, ne_eq, Decidable.not_not] at h12
 obtain ⟨⟨d, a⟩, b⟩ := h9
 obtain ⟨⟨⟨d2, a2⟩, b2⟩, _⟩ := h12
 have one : ∀ (u : Bool) (x : Int), (u = true → 0 ≤ x ∧ x < (n : Int)) → (u = false → x = 0) → 0 ≤ x ∧ x < (n : Int) := by
  intro u x h1 h2
  cases u with
  | true => exact h1 rfl
  | false => rw [h2 rfl]; omega
 exact ⟨one _ _ a a2, one _ _ b b2, one _ _ d d2⟩
theorem okT_of {t : Term} {n k : Nat} (h : Jtgg t (n : Int) (k : Int) = 0) : OkT t n k := by
 have hto := Jtkw h
 refine ⟨?_, fun hk => Jtkv h hk, fun hk => ?_, fun hk => ?_⟩
 ·unfold Jtgg at h
  split at h
  ·rename_i k1; exact .inl k1
  ·split at h
   ·rename_i k2; exact .inr (.inl k2)
   ·split at h
    ·rename_i k3; exact .inr (.inr k3)
    ·cases h
 ·refine hto _ ?_
  unfold succsZ
  rcases hk with k1 | k2
  ·rw [if_pos k1]; simp
  ·rw [if_neg (by omega), if_pos k2]; simp
 ·refine hto _ ?_
  unfold succsZ
  rw [if_neg (by omega), if_pos hk]; simp
theorem Jtjf {f : Func} {n : Nat} (hv : Jtg9 f = 0) (hn : f.regs = (n : Int)) (h0 : 0 < n) (h1 : n ≤ 60) : SrcOk f n ∧ OkF f n := by
 obtain ⟨s1, s2, s3, s4⟩ := src_ok hv
 rw [hn] at s4
 refine ⟨⟨fun b hb i hi => Jtbz h1 ((s4 b hb).1 i hi), fun b hb => ⟨okT_of (s4 b hb).2, fun hk => ?_⟩⟩, ⟨fun b hb i hi => Jtc3 ((s4 b hb).1 i hi) h0, fun b hb => okT_of (s4 b hb).2⟩⟩
 have := Jtkv (s4 b hb).2 hk
 exact Jti8 this.1 (by omega)
theorem Jtjg {f : Func} (hv : Jtg9 f = 0) (hn : f.regs = 0) : JumpF f := by
 obtain ⟨s1, s2, s3, s4⟩ := src_ok hv
 rw [hn] at s4
 refine ⟨fun b hb => ?_⟩
 obtain ⟨h1, h2⟩ := s4 b hb
 have ht : OkT b.term 0 f.blocks.length := okT_of h2
 have hk : b.term.kind = 1 := by
  rcases Decidable.em (b.term.kind = 1) with h | h
  ·exact h
  ·have := ht.a h; omega
 refine ⟨?_, hk, ht.to (.inl hk)⟩
 cases hc : b.code with
 | nil => rfl
 | cons i l =>
  exfalso
  have hi := h1 i (by rw [hc]; simp)
  unfold Jtga at hi
  split at hi
  ·cases hi
  rename_i h8
  split at hi
  ·cases hi
  rename_i h9
  simp only [bad9, Bool.or_eq_true, Bool.and_eq_true, not_or, not_and, Bool.not_eq_true', Bool.not_eq_false, inZ, decide_eq_true_eq] at h9
  obtain ⟨⟨d, a⟩, b⟩ := h9
  by_cases hd : usesD i.op = true
  ·have := d hd; omega
  ·have : usesA i.op = true := by
    simp only [usesD, decide_eq_true_eq] at hd
    simp only [usesA, decide_eq_true_eq]; omega
   have := a this; omega
theorem Jtdk {m : RunZ} {l : Int} {n1 n2 : Nat} (h : rngZ l (n1 : Int) (n2 : Int) = true) (h1 : m.regs.length = n1) (h2 : m.slots.length = n2) (q1 : n1 ≤ 1000000) (q2 : n2 ≤ 1000000) : LocOk m l := by
 unfold rngZ at h
 split at h
 ·rename_i k
  simp only [Bool.and_eq_true, decide_eq_true_eq] at h
  have e := Int.tdiv_eq_ediv_of_nonneg (b := 2) h.1
  exact ⟨by omega, by omega, by omega, fun _ => by rw [h2]; exact h.2, fun h' => absurd k h'⟩
 ·rename_i k
  simp only [Bool.and_eq_true, decide_eq_true_eq] at h
  have e := Int.tdiv_eq_ediv_of_nonneg (b := 2) h.1
  exact ⟨by omega, by omega, by omega, fun h' => absurd h' k, fun _ => by rw [h1]; exact h.2⟩
theorem okX_of {x : Mach} {n1 n2 : Nat} (h : Jtgd x (n1 : Int) (n2 : Int) = 0) (h0 : 0 < n1) (q1 : n1 ≤ 1000000) (q2 : n2 ≤ 1000000) (m : RunZ) (h1 : m.regs.length = n1) (h2 : m.slots.length = n2) : OkX m x := by
 unfold Jtgd at h
 split at h
 ·cases h
 split at h
 ·rename_i h18
  split at h
  ·cases h
  rename_i k1
  simp only [not_or, Bool.not_eq_false] at k1
  exact ⟨fun _ => ⟨Jtdk k1.1 h1 h2 q1 q2, Jtdk k1.2.1 h1 h2 q1 q2⟩, fun h => absurd h18 (by omega), fun h => absurd h18 h⟩
 ·rename_i h18
  split at h
  ·cases h
  obtain ⟨a, b, d⟩ := Jtc3 h h0
  exact ⟨fun h => absurd h h18, fun _ => by rw [h1]; exact a, fun _ _ => by rw [h1]; exact ⟨a, b, d⟩⟩
theorem gS_ok {f : Func} {n : Nat} (hv : Jtg9 f = 0) (hf : few f = true) (hr : spRun f ≤ 64) (hn : f.regs = (n : Int)) (h1 : n ≤ 60) : OkG (gS f) 2 n := by
 have h := Jtiz hv hf hr
 have hm : Jtgc (spCert f).T = 0 := by
  unfold validZ at h
  split at h
  ·rename_i g; exact absurd h g
  split at h
  ·rename_i g; exact absurd h g
  rename_i g2
  simpa using g2
 obtain ⟨t1, t2, t3, t4⟩ := mac_ok hm
 obtain ⟨s1, s2, s3, s4⟩ := src_ok hv
 rw [hn] at s4
 refine ⟨fun b hb x hx m k1 k2 => ?_, fun b hb => ?_⟩
 ·have h4 : Jtgd x 2 f.regs = 0 := t4 b hb x hx
  rw [hn] at h4
  exact okX_of (n1 := 2) (n2 := n) h4 (by decide) (by decide) (by omega) m k1 k2
 ·have hb : b ∈ f.blocks.map Jtii := hb
  obtain ⟨b0, hb0, rfl⟩ := List.mem_map.1 hb
  have ht := okT_of (s4 b0 hb0).2
  have hl : (gS f).blocks.length = f.blocks.length := by show (f.blocks.map Jtii).length = _; simp
  rw [hl]
  exact ⟨ht.kind, fun _ => by show (0 : Int) ≤ 0 ∧ (0 : Int) < (2 : Nat); omega, ht.to, ht.els⟩
theorem Jtho {f : Func} {lim : Nat} : ∀ (k : Nat) (r : RunZ), r.steps ≤ lim → r.trace.length ≤ r.steps → (runS f lim k r).steps ≤ lim ∧ (runS f lim k r).trace.length ≤ (runS f lim k r).steps := by
 intro k
 induction k with
 | zero => intro r h1 h2; exact ⟨h1, h2⟩
 | succ k ih =>
  intro r h1 h2
  unfold runS
  split
  ·rename_i hc
   have a := (Jtk6 f r).1
   have b := Jtk8 f r
   exact ih _ (by omega) (by omega)
  ·exact ⟨h1, h2⟩
theorem Jthn {f : Func} {n lim : Nat} (hok : OkF f n) : ∀ (k : Nat) (r : RunZ), OkR f n r → (runS f lim k r).regs.length = n := by
 intro k
 induction k with
 | zero => intro r h; exact h.regs
 | succ k ih =>
  intro r h
  unfold runS
  split
  ·exact ih _ (Jtk4 hok h)
  ·exact h.regs
section
theorem Jtg7 {P : Program} {p : Nums} (A : All P p) (a : List Int) (h0 : a.length < 1000000000) : Jt3w P p.ref09_Values [.d (intsD a), .d (intsD a)] [] fun o _ => o = .ret (AB true) := by
 refine A.ref09_Values.run rfl fun R hR => ?_
 (simp (maxSteps := 1000000) [Jtbc, intsD])
 refine Jtd (fun k : Nat => ⟨[(5, AI k), (0, .d (.sl (a.map intRow))), (1, .d (.sl (a.map intRow)))], []⟩) (fun k => k ≤ a.length) (fun k => a.length - k) 0 (by simp) (by (exact wkA)) ?_
 rintro k hk N hN
 (simp (maxSteps := 1000000) [])
 ((first | refine Xc (fun h2 => ?_) (fun h2 => ?_) | refine Xo (fun h2 => ?_) (fun h2 => ?_)) <;> (try simp only [Xz, Xy] at h2))
 ·have hka : k < a.length := by omega
  have hw := Jtlt (k := k) (by omega)
  (simp (maxSteps := 1000000) [h2, intRow, hka, hw])
  exact hN _ (k + 1) hka (by (exact wkA)) (by omega)
 ·(simp (maxSteps := 1000000) [h2])
  (first | exact hR _ _ FrA | exact hR _ _ FnA)
theorem Jtg6 {P : Program} {p : Nums} (A : All P p) (f : Func) (args : List Int) (k : Int) : Jt3w P p.ref09_Right [f.av, .d (intsD args), AI k] [] fun o _ => o = .ret (AB (few f && decide (Jtg9 f = 0) && decide (k ≤ 400) && decide (args.length ≤ 100))) := by
 have cf := Jtg2 A f
 have cc : few f = true → Jt3w P p.ref07_Check [f.av] [] fun o _ => o = .ret (AI (Jtg9 f)) := fun h => by
  obtain ⟨f1, f2, f3, f4⟩ := Jt8d.1 h
  exact Jtg0 A f (by omega) (by omega)
 obtain ⟨rc, hrc⟩ : ∃ r, r = Jtg9 f := ⟨_, rfl⟩
 rw [← hrc] at cc ⊢
 obtain ⟨fw, hfw⟩ : ∃ b, b = few f := ⟨_, rfl⟩
 rw [← hfw] at cf cc ⊢
 obtain ⟨sR, hsR⟩ : ∃ x, x = f.blocks.map Block.row := ⟨_, rfl⟩
 obtain ⟨aR, haR⟩ : ∃ x, x = args.map intRow := ⟨_, rfl⟩
 have hal : aR.length = args.length := by rw [haR]; simp
 simp only [Func.av, intsD, ← hsR, ← haR] at cf cc ⊢
 refine A.ref09_Right.run rfl fun R hR => ?_
 (simp (maxSteps := 1000000) [Jtbb])
 (refine Jty cf (by rfl) (by rfl) ?_)
 cases fw with
 | false =>
  (simp (maxSteps := 1000000) [])
  (first | exact hR _ _ FrA | exact hR _ _ FnA)
 | true =>
  (simp (maxSteps := 1000000) [])
  (refine Jty (cc rfl) (by rfl) (by rfl) ?_)
  (simp (maxSteps := 1000000) [])
  by_cases h1 : rc = 0
  ·subst h1
   by_cases h2 : k ≤ 400
   ·have hcast : decide ((args.length : Int) ≤ 100) = decide (args.length ≤ 100) := by
     apply decide_eq_decide.2; omega
    (simp (maxSteps := 1000000) [h2, hal, hcast])
    (first | exact hR _ _ FrA | exact hR _ _ FnA | exact hR _ _ (Xf (hq := by simp [AV.erase, AV.unview, h2, hcast]; done)))
   ·(simp (maxSteps := 1000000) [h2])
    (first | exact hR _ _ FrA | exact hR _ _ FnA | exact hR _ _ (Xf (hq := by simp [AV.erase, AV.unview, h2]; done)))
  ·have h1b : (rc == 0) = false := by simpa using h1
   (simp (maxSteps := 1000000) [h1, h1b])
   (first | exact hR _ _ FrA | exact hR _ _ FnA | exact hR _ _ (Xf (hq := by simp [AV.erase, AV.unview, h1]; done)))
end
end Go.AE
set_option maxRecDepth 4000
namespace Go.AE
open Go
section
set_option maxHeartbeats 1000000 in
theorem Jtcv {P : Program} {p : Nums} (A : All P p) (f : Func) (args : List Int) (fuel : Int) (hfu : 0 ≤ fuel ∧ fuel < 256) : Jt3w P p.law22_SpillallSlots [f.av, .d (intsD args), AU fuel] [] fun o _ => o = .ret (AB true) := by
 have cw := Jtcw A
 have cr := Jtg6 A f args 0
 obtain ⟨lim, hlim⟩ : ∃ n : Nat, fuel = (n : Int) := ⟨fuel.toNat, by omega⟩
 subst hlim
 have hlim : lim < 256 := by omega
 obtain ⟨rt, hrt⟩ : ∃ b, b = (few f && decide (Jtg9 f = 0) && decide ((0 : Int) ≤ 400) && decide (args.length ≤ 100)) := ⟨_, rfl⟩
 rw [← hrt] at cr
 have hR1 : rt = true → few f = true ∧ Jtg9 f = 0 ∧ args.length ≤ 100 := fun h => by
  rw [h] at hrt
  have := hrt.symm
  simp only [Bool.and_eq_true, decide_eq_true_eq] at this
  exact ⟨this.1.1.1, this.1.1.2, this.2⟩
 have ce : rt = true → Jt3w P p.spillall_Cert [f.av] [] fun o _ => o = .ret (.tup [(Jtil f).1.av, AI (Jtil f).2]) := fun h => by
  obtain ⟨f1, f2, f3, f4⟩ := Jt8d.1 (hR1 h).1
  exact Jtj1 A f (by omega) (by omega)
 have key := fun h => Jtiy (hR1 h).2.1 (hR1 h).1
 obtain ⟨aR, haR⟩ : ∃ x, x = args.map intRow := ⟨_, rfl⟩
 have hal : aR.length = args.length := by rw [haR]; simp
 have main : rt = true → f.args = (args.length : Int) → spRun f ≤ 64 →
   (∃ s : RunZ, s.state ≠ 1 ∧ Jt3w P p.interp_Exec [f.av, .d (intsD args), AI lim] [] fun o _ => o = .ret (.tup [s.av, AI 0])) ∨
   (∃ b s : Nat, Jt3w P p.interp_Exec [f.av, .d (intsD args), AI lim] [] fun o _ => o = .ret (.tup [.agg [AI 0, AI b, AI 0, AI 0, .d (.sl []), .d (.sl []), .d (.sl []), AI s], AI 0])) ∨
   (∃ s t : RunZ, s.state = 1 ∧ t.state = 1 ∧ t.value = s.value ∧ t.block = s.block ∧ t.slots = s.regs ∧ t.trace = s.trace ∧ s.steps ≤ 255 ∧ s.regs.length ≤ 60 ∧ s.trace.length ≤ 255 ∧
    (Jt3w P p.interp_Exec [f.av, .d (intsD args), AI lim] [] fun o _ => o = .ret (.tup [s.av, AI 0])) ∧ Jt3w P p.execute_Exec [(gS f).av, .d (intsD args), AI ((65 * s.steps : Nat) : Int)] [] fun o _ => o = .ret (.tup [t.av, AI 0])) := fun h ha hr => by
  obtain ⟨hf, hv, hl⟩ := hR1 h
  obtain ⟨f1, f2, f3, f4⟩ := Jt8d.1 hf
  obtain ⟨s1, s2, s3, s4⟩ := src_ok hv
  obtain ⟨n, hn⟩ : ∃ n : Nat, f.regs = (n : Int) := ⟨f.regs.toNat, by omega⟩
  have hn60 : n ≤ 60 := by omega
  by_cases h0 : n = 0
  ·have hz : f.regs = 0 := by omega
   have ha0 : args = [] := List.eq_nil_of_length_eq_zero (by omega)
   right; left
   rw [ha0]
   exact ⟨_, _, Jtc8 A f lim (Jtjg hv hz) hz (by omega) s3 (by omega)⟩
  ·have hpos : 0 < n := by omega
   obtain ⟨hso, hok⟩ := Jtjf hv hn hpos hn60
   have hax : args.length ≤ n := by omega
   have ci := Jtc7 A f args n lim hok hn hpos (by omega) hax ha s3 (by omega) (fun b hb => by have := f3 b hb; omega)
   by_cases hs : (execS f args lim).state = 1
   ·have he := Jt7z hso hok hn hax s3 hs
    have hst := Jtho (f := f) (lim := lim) (lim + 1) (run0 f args) (Nat.zero_le _) (Nat.le_refl _)
    have hln := Jthn (lim := lim) hok (lim + 1) (run0 f args) ⟨by unfold run0; simp; omega, s3, fun b _ => Nat.zero_le _⟩
    have e0 : execS f args lim = runS f lim (lim + 1) (run0 f args) := rfl
    rw [← e0] at hst hln
    have hgl : (gS f).blocks.length = f.blocks.length := by show (f.blocks.map Jtii).length = _; simp
    have cx := Jt80 A (gS f) args 2 n (65 * (execS f args lim).steps) (gS_ok hv hf hr hn hn60) rfl hn (by decide) hpos (by decide) (by omega) hax ha (by rw [hgl]; exact s3) (by omega) (fun b hb => by
     have hb : b ∈ f.blocks.map Jtii := hb
     obtain ⟨b0, hb0, rfl⟩ := List.mem_map.1 hb
     have k1 := Jtij b0
     have k2 := f3 b0 hb0
     omega)
    right; right
    exact ⟨_, _, hs, he.state, he.value, he.block, he.slots, he.trace, by omega, by omega, by omega, ci, cx⟩
   ·left; exact ⟨_, hs, ci⟩
 obtain ⟨z, hz⟩ : ∃ z, z = Jtil f := ⟨_, rfl⟩
 rw [← hz] at ce key
 obtain ⟨rn, hrn⟩ : ∃ z, z = spRun f := ⟨_, rfl⟩
 rw [← hrn] at key main
 have hSp : (spCert f).av = .agg [AI f.args, AI f.regs, .d (.sl (f.blocks.map Block.row)), AI f.args, AI 2, AI f.regs, .d (.sl ((f.blocks.map Jtii).map MBlock.row)), .d (witD (spCert f).W)] := rfl
 obtain ⟨wD, hwD⟩ : ∃ x, x = witD (spCert f).W := ⟨_, rfl⟩
 rw [← hwD] at hSp
 obtain ⟨sR, hsR⟩ : ∃ x, x = f.blocks.map Block.row := ⟨_, rfl⟩
 obtain ⟨tR, htR⟩ : ∃ x, x = (f.blocks.map Jtii).map MBlock.row := ⟨_, rfl⟩
 rw [← hsR, ← htR] at hSp
 refine A.law22_SpillallSlots.run rfl fun R hR => ?_
 simp only [Func.av, MFunc.av, gS, intsD, AU, ← hsR, ← htR, ← haR] at cr ce main ⊢
 (simp (maxSteps := 1000000) [Jtat])
 (refine Jty cw (by rfl) (by rfl) ?_)
 (simp (maxSteps := 1000000) [])
 (refine Jty cr (by rfl) (by rfl) ?_)
 cases rt with
 | false =>
  (simp (maxSteps := 1000000) [])
  (refine Jty cw (by rfl) (by rfl) ?_)
  (simp (maxSteps := 1000000) [])
  (first | exact hR _ _ FrA | exact hR _ _ FnA)
 | true =>
  (simp (maxSteps := 1000000) [hal])
  by_cases ha : f.args = (args.length : Int)
  ·have hab : ((args.length : Int) != f.args) = false := by simp [ha]
   have ce := ce rfl
   (simp (maxSteps := 1000000) [hab])
   rcases key rfl with ⟨hr, e⟩ | e
   ·rw [e] at ce
    simp only [hSp] at ce
    (refine Jty ce (by rfl) (by rfl) ?_)
    (simp (maxSteps := 1000000) [])
    have hw5 : IntKind.i64.wrap (lim : Int) = (lim : Int) := wrap_i64 (by omega) (by omega)
    rcases main rfl ha hr with ⟨s, hs, ci⟩ | ⟨bz, sz, ci⟩ | ⟨s, t, hs, ht, e1, e2, e3, e4, l1, l2, l3, ci, cx⟩
    ·have hsb : (s.state != 1) = true := by simpa using hs
     simp only [RunZ.av, intsD] at ci
     (simp (maxSteps := 1000000) [hw5])
     (refine Jty ci (by rfl) (by rfl) ?_)
     (simp (maxSteps := 1000000) [hsb])
     (first | exact hR _ _ FrA | exact hR _ _ FnA)
    ·(simp (maxSteps := 1000000) [hw5])
     (refine Jty ci (by rfl) (by rfl) ?_)
     (simp (maxSteps := 1000000) [])
     (first | exact hR _ _ FrA | exact hR _ _ FnA)
    ·have hw6 : IntKind.i64.wrap (65 * (s.steps : Int)) = ((65 * s.steps : Nat) : Int) := by rw [wrap_i64 (by omega) (by omega)]; omega
     have cv1 := Jtg7 A s.regs (by omega)
     have cv2 := Jtg7 A s.trace (by omega)
     obtain ⟨t1, t2, t3, t4, t5, t6, t7, t8⟩ := t
     simp only at ht e1 e2 e3 e4
     subst ht e1 e2 e3 e4
     simp only [RunZ.av, intsD] at ci cx cv1 cv2
     (simp (maxSteps := 1000000) [hw5])
     (refine Jty ci (by rfl) (by rfl) ?_)
     (simp (maxSteps := 1000000) [hs, hw6])
     (refine Jty cx (by rfl) (by rfl) ?_)
     (simp (maxSteps := 1000000) [])
     (refine Jty cv1 (by rfl) (by rfl) ?_)
     (simp (maxSteps := 1000000) [])
     (refine Jty cv2 (by rfl) (by rfl) ?_)
     (simp (maxSteps := 1000000) [])
     (first | exact hR _ _ FrA | exact hR _ _ FnA)
   ·rw [e] at ce
    simp only [Cert.av, Func.av, MFunc.av, witD, Jt6r, List.map_nil] at ce
    (refine Jty ce (by rfl) (by rfl) ?_)
    (simp (maxSteps := 1000000) [])
    (first | exact hR _ _ FrA | exact hR _ _ FnA)
  ·have hab : ((args.length : Int) != f.args) = true := by simp; omega
   (simp (maxSteps := 1000000) [hab])
   (refine Jty cw (by rfl) (by rfl) ?_)
   (simp (maxSteps := 1000000) [])
   (first | exact hR _ _ FrA | exact hR _ _ FnA)
end
end Go.AE
