/- A part of the proof: the evaluator over abstract values, its codes, the contracts of the functions. -/
import Derived.Test.YtagckbahjfhckaaGreatE4
set_option linter.unusedVariables false
set_option linter.unusedSimpArgs false
namespace Go.AE
open Go
def rowsC (most : Int) (b : List Instr) (m : List Mach) : List ARow → CS → CR
 | [], s => (s, none)
 | r :: rs, s => thenC (rowC most b m r s) (rowsC most b m rs)
def runC (most : Int) (b : Block) (m : MBlock) (rows : List ARow) (s : CS) : CR :=
 thenC (rowsC most b.code m.code rows s) fun s => if b.term.kind = 1 then (s, none) else useC s b.term.a (regZ m.term.a) m.code.length
def runE (m : MBlock) : Option (Int × Int) → Int × Int
 | none => (0, m.code.length)
 | some e => e
def needR (r : ARow) : Nat := 3 + (r.mt - r.mf) + (r.ct - r.cf)
def needRs (rs : List ARow) : Nat := (rs.map needR).sum
section
variable {P : Program} {p : Nums}
theorem Jtl7 {s : CS} {most : Int} {e : Int × Int} {b m : List AV} {E : List (Nat × AV)} (h8 : get E 8 = some (.ptr 3 0)) (h9 : get E 9 = some (.ptr 4 0)) {Q : AOut → List Blk → Prop} (hQ : Q (.ret (.tup [AI e.1, AI e.2])) [ckB most s]) :
  FinD P [.cell 8 none, .cell 9 none] 1 (Jtab p) [8, 9] 5 2 [.ptr 3 0, .ptr 4 0] Q (.panic (failV p e)) ⟨E, [ckB most s, .mem b, .mem m, .mem [AI 0], .mem [AI 0]]⟩ := by
 refine ⟨fun j c hj => ?_, ?_⟩
 ·match j with
  | 0 => simp at hj; subst hj; exact h8
  | 1 => simp at hj; subst hj; exact h9
  | j + 2 => simp at hj
 ·obtain ⟨c, hc⟩ : ∃ c, c = ckB most s := ⟨_, rfl⟩
  have hcm : c = .mem [.d (pairsD s.set), AI most, AI s.steps, AI s.largest] := hc
  rw [← hc] at hQ ⊢
  (simp (maxSteps := 1000000) [Jtab, panV, failV])
  exact ⟨_, rfl, .tup [AI e.1, AI e.2], [c], by rw [hcm]; (exact wkA), hQ⟩
theorem Jtl8 {x0 : Blk} {s : CS} {most : Int} {e : Int × Int} {b m : List AV} {E : List (Nat × AV)} (h8 : get E 8 = some (.ptr 3 0)) (h9 : get E 9 = some (.ptr 4 0)) {Q : AOut → List Blk → Prop} (hQ : Q (.ret (.tup [AI e.1, AI e.2])) [ckB most s]) :
  FinD P [.cell 8 none, .cell 9 none] 1 (Jtab p) [8, 9] 5 2 [.ptr 3 0, .ptr 4 0] Q (.panic (failV p e)) ⟨E, [ckB most s, .mem b, .mem m, .mem [AI 0], .mem [AI 0], x0]⟩ := by
 refine ⟨fun j c hj => ?_, ?_⟩
 ·match j with
  | 0 => simp at hj; subst hj; exact h8
  | 1 => simp at hj; subst hj; exact h9
  | j + 2 => simp at hj
 ·obtain ⟨c, hc⟩ : ∃ c, c = ckB most s := ⟨_, rfl⟩
  have hcm : c = .mem [.d (pairsD s.set), AI most, AI s.steps, AI s.largest] := hc
  rw [← hc] at hQ ⊢
  (simp (maxSteps := 1000000) [Jtab, panV, failV])
  exact ⟨_, rfl, .tup [AI e.1, AI e.2], [c], by rw [hcm]; (exact wkA), hQ⟩
theorem Jtla {s : CS} {most : Int} {e : Int × Int} {b m : List AV} {E : List (Nat × AV)} (h8 : get E 8 = some (.ptr 3 0)) (h9 : get E 9 = some (.ptr 4 0)) {Q : AOut → List Blk → Prop} (hQ : Q (.ret (.tup [AI e.1, AI e.2])) [ckB most s]) :
  FinD P [.cell 8 none, .cell 9 none] 1 (Jtab p) [8, 9] 5 2 [.ptr 3 0, .ptr 4 0] Q .ret ⟨E, [ckB most s, .mem b, .mem m, .mem [AI e.1], .mem [AI e.2]]⟩ := by
 refine ⟨fun j c hj => ?_, ?_⟩
 ·match j with
  | 0 => simp at hj; subst hj; exact h8
  | 1 => simp at hj; subst hj; exact h9
  | j + 2 => simp at hj
 ·obtain ⟨c, hc⟩ : ∃ c, c = ckB most s := ⟨_, rfl⟩
  have hcm : c = .mem [.d (pairsD s.set), AI most, AI s.steps, AI s.largest] := hc
  rw [← hc] at hQ ⊢
  (simp (maxSteps := 1000000) [Jtab, panV])
  exact ⟨_, rfl, .tup [AI e.1, AI e.2], [c], by rw [hcm]; (exact wkA), hQ⟩
end
theorem Jtg8 (r : ARow) (rs : List ARow) : needRs (r :: rs) = needR r + needRs rs := by simp [needRs]
section
theorem Jt5l {P : Program} {p : Nums} (A : All P p) (S : SortOk P p) (C : ClosOk P p) {V L : List Int} (s : CS) (most : Int) (b : Block) (m : MBlock) (rows : List ARow) (h : Room V L s (needRs rows + 1)) (hv : VLOk V L b.code m.code) (hr : ∀ r ∈ rows, RowOk b.code m.code r)
  (hb0 : b.code.length < 1000000) (hm0 : m.code.length < 1000000) (hrl : rows.length < 1000000) :
  Jt3o P p.blockcheck_checker_run [.ptr 0 0, b.av, m.av, .d (.sl (rows.map ARow.row))] [ckB most s]
   fun o H' => o = .ret (.tup [AI (runE m (runC most b m rows s).2).1, AI (runE m (runC most b m rows s).2).2]) ∧ H' = [ckB most (runC most b m rows s).1] := by
 obtain ⟨Q, hQ⟩ : ∃ Q : AOut → List Blk → Prop, Q = fun o H' => o = .ret (.tup [AI (runE m (runC most b m rows s).2).1, AI (runE m (runC most b m rows s).2).2]) ∧ H' = [ckB most (runC most b m rows s).1] := ⟨_, rfl⟩
 rw [← hQ]
 refine A.blockcheck_checker_run.calls rfl ?_
 obtain ⟨code, kind, ta, to, els⟩ := b
 obtain ⟨mcode, mkind, mta, mto, mels⟩ := m
 obtain ⟨total, htot⟩ : ∃ T, T = runC most ⟨code, kind, ta, to, els⟩ ⟨mcode, mkind, mta, mto, mels⟩ rows s := ⟨_, rfl⟩
 rw [← htot] at hQ
 have fin : ∀ s' e, total = (s', e) → Q (.ret (.tup [AI (runE ⟨mcode, mkind, mta, mto, mels⟩ e).1, AI (runE ⟨mcode, mkind, mta, mto, mels⟩ e).2])) [ckB most s'] := by
  intro s' e he
  rw [hQ, he]; exact ⟨rfl, rfl⟩
 obtain ⟨T1, hT1⟩ : ∃ T, T = rowsC most code mcode rows s := ⟨_, rfl⟩
 have hspec : total = thenC T1 fun s => if kind = 1 then (s, none) else useC s ta (regZ mta) mcode.length := by rw [htot, hT1]; rfl
 simp only at hb0 hm0 hv hr
 (simp (maxSteps := 1000000) [Jtaa, Block.av, MBlock.av])
 refine ⟨[.ptr 3 0, .ptr 4 0], rfl, fun j c hj => ?_, fun x hx => by simp at hx; rcases hx with rfl | rfl <;> rfl, ?_⟩
 ·match j with
  | 0 => simp at hj; subst hj; rfl
  | 1 => simp at hj; subst hj; rfl
  | j + 2 => simp at hj
 (simp (maxSteps := 1000000) [Jtac])
 refine Jt9 (fun x : Nat × CS => ⟨[(15, AI x.1), (14, AI rows.length), (13, .d (.sl (rows.map ARow.row))), (9, .ptr 4 0), (8, .ptr 3 0), (6, .ptr 2 0), (5, .ptr 1 0), (0, .ptr 0 0)],
  [ckB most x.2, .mem [.d (.sl (code.map Instr.row)), AI kind, AI ta, AI to, AI els], .mem [.d (.sl (mcode.map Mach.row)), AI mkind, AI mta, AI mto, AI mels], .mem [AI 0], .mem [AI 0]]⟩)
  (fun x => x.1 ≤ rows.length ∧ rowsC most code mcode (rows.drop x.1) x.2 = T1 ∧ Room V L x.2 (needRs (rows.drop x.1) + 1)) (fun x => rows.length - x.1) (0, s) (by simp [hT1]; exact h) (by simp only [ckB]; (exact wkA)) ?_
 rintro ⟨j, t⟩ ⟨hj, hT, hR1⟩ N hN
 simp only at hj hT hR1
 (simp (maxSteps := 1000000) [])
 ((first | refine Xc (fun h2 => ?_) (fun h2 => ?_) | refine Xo (fun h2 => ?_) (fun h2 => ?_)) <;> (try simp only [Xz, Xy] at h2))
 ·have hjl : j < rows.length := by simpa using h2
  have hji : rows[j]? = some rows[j] := by simp [hjl]
  have hw := Jtoq (k := j) (by omega)
  rw [Jt7j hjl] at hT hR1
  rw [Jtg8] at hR1
  simp only [rowsC] at hT
  have hro := hr _ (List.getElem_mem hjl)
  have hrow := Jt5k A S C t most ⟨code, kind, ta, to, els⟩ ⟨mcode, mkind, mta, mto, mels⟩ rows[j] (n1 := rows[j].ct - rows[j].cf) (n2 := rows[j].mt - rows[j].mf) rfl rfl (hR1.mono (by unfold needR; omega)) hv hro hb0 hm0
  have hl1 : ((mcode.take rows[j].mt).drop rows[j].mf).length = rows[j].mt - rows[j].mf := by have := hro.hm; simp; omega
  have hl2 : ((code.take rows[j].ct).drop rows[j].cf).length = rows[j].ct - rows[j].cf := by have := hro.hc; simp; omega
  have hR2 := Jtkm (n := needRs (rows.drop (j + 1)) + 1) (most := most) (r := rows[j]) (hR1.mono (by rw [hl1, hl2]; unfold needR; omega)) hv
  simp only at hrow
  obtain ⟨⟨t2, e2⟩, h2r⟩ : ∃ r, r = rowC most code mcode rows[j] t := ⟨_, rfl⟩
  rw [← h2r] at hrow hT hR2
  (simp (maxSteps := 1000000) [h2, List.getElem?_map, hji, ARow.row, hw])
  cases e2 with
  | none =>
   rw [Jtnq] at hT
   refine Jtv [0] (x := .tup []) hrow (by decide) (by rfl) (by rfl) (by rfl) (by rfl) (by rfl) (by rfl) ?_
   (simp (maxSteps := 1000000) [ckB, hw])
   exact hN _ (j + 1, t2) ⟨hjl, hT, hR2⟩ (by simp only [ckB]; (exact wkA)) (by simp only; omega)
  | some e =>
   rw [Jtnr] at hT
   refine Jtx [0] (x := failV p e) hrow (by decide) (by rfl) (by rfl) (by rfl) (by rfl) (by rfl) (by rfl) ?_
   rw [← hT, Jtnr] at hspec
   have hq := fin _ _ hspec
   (simp (maxSteps := 1000000) [])
   exact Jtl8 (s := t2) (e := e) rfl rfl hq
 ·have hjl : j = rows.length := by simp at h2; omega
  subst hjl
  have hT' : T1 = (t, none) := by rw [← hT, List.drop_length]; rfl
  rw [hT', Jtnq] at hspec
  rw [List.drop_length] at hR1
  (simp (maxSteps := 1000000) [])
  ((first | refine Xc (fun h3 => ?_) (fun h3 => ?_) | refine Xo (fun h3 => ?_) (fun h3 => ?_)) <;> (try simp only [Xz, Xy] at h3))
  ·rw [if_neg h3] at hspec
   have hl0 := hR1.len
   have hst : t.steps < 1000000000000000000 := Nat.lt_of_le_of_lt (Nat.le_add_right _ _) hR1.steps
   have hu := Jt5m A t most ta mta mcode.length hl0 hst hR1.over.srt
   obtain ⟨⟨t2, e2⟩, h2r⟩ : ∃ r, r = useC t ta (regZ mta) mcode.length := ⟨_, rfl⟩
   rw [← h2r] at hu hspec
   have hq := fin _ _ hspec
   (simp (maxSteps := 1000000) [h3])
   cases e2 with
   | none =>
    refine Jtv [0] (x := .tup []) hu (by decide) (by rfl) (by rfl) (by rfl) (by rfl) (by rfl) (by rfl) ?_
    (simp (maxSteps := 1000000) [ckB])
    exact Jtla (s := t2) (e := (0, mcode.length)) rfl rfl hq
   | some e =>
    refine Jtx [0] (x := failV p e) hu (by decide) (by rfl) (by rfl) (by rfl) (by rfl) (by rfl) (by rfl) ?_
    (simp (maxSteps := 1000000) [])
    exact Jtl7 (s := t2) (e := e) rfl rfl hq
  ·have h3' : kind = 1 := by simpa using h3
   rw [if_pos h3'] at hspec
   have hq := fin _ _ hspec
   (simp (maxSteps := 1000000) [h3])
   exact Jtla (e := (0, mcode.length)) rfl rfl hq
end
def isCopy (i : Instr) : Bool := i.op == 2
def isMove (m : Mach) : Bool := m.op == 18
def skipW {α : Type} (f : α → Bool) (l : List α) (i : Nat) : Nat := i + ((l.drop i).takeWhile f).length
theorem Jtlk {α : Type} (f : α → Bool) (l : List α) (i : Nat) : i ≤ skipW f l i := Nat.le_add_right _ _
theorem Jtll {α : Type} {f : α → Bool} {l : List α} {i : Nat} (h : i ≤ l.length) : skipW f l i ≤ l.length := by
 have := (List.takeWhile_prefix f (l := l.drop i)).length_le
 rw [List.length_drop] at this
 unfold skipW; omega
theorem Jtlm {α : Type} {f : α → Bool} {l : List α} {i : Nat} (h : i < l.length) (hf : f l[i] = true) : skipW f l i = skipW f l (i + 1) := by
 unfold skipW
 rw [List.drop_eq_getElem_cons h, List.takeWhile_cons, if_pos hf, List.length_cons]; omega
theorem Jtlj {α : Type} {f : α → Bool} {l : List α} {i : Nat} (h : i < l.length) (hf : f l[i] = false) : skipW f l i = i := by
 unfold skipW
 rw [List.drop_eq_getElem_cons h, List.takeWhile_cons, hf]; simp
theorem Jtli {α : Type} {f : α → Bool} {l : List α} {i : Nat} (h : l.length ≤ i) : skipW f l i = i := by
 unfold skipW
 rw [List.drop_eq_nil_of_le h]; simp
def sameI (i : Instr) (m : Mach) : Bool := i.op == m.op && i.imm == m.imm && i.op != 2 && i.op != 18
def termsZ (a b : Term) : Bool := a.kind == b.kind && a.to == b.to && a.els == b.els
def alignS (code : List Instr) (mach : List Mach) : Nat → Nat → Nat → List ARow → List ARow × Nat × Int
 | 0, _, k, _ => ([], k, 20)
 | f + 1, i, k, rows =>
  if skipW isCopy code i = code.length ∧ skipW isMove mach k = mach.length then (rows ++ [⟨i, skipW isCopy code i, k, skipW isMove mach k, -1, -1⟩], skipW isMove mach k, 0)
  else match code[skipW isCopy code i]?, mach[skipW isMove mach k]? with
   | some x, some y => if sameI x y = true then alignS code mach f (skipW isCopy code i + 1) (skipW isMove mach k + 1) (rows ++ [⟨i, skipW isCopy code i, k, skipW isMove mach k, skipW isCopy code i, skipW isMove mach k⟩]) else ([], skipW isMove mach k, 20)
   | _, _ => ([], skipW isMove mach k, 20)
def alignZ (code : List Instr) (mach : List Mach) : List ARow × Nat × Int := alignS code mach (code.length + 1) 0 0 []
section
theorem Jt4u {P : Program} {p : Nums} (A : All P p) (i : Instr) : Jt3o P p.align_copied [i.av] [] fun o _ => o = .ret (AB (isCopy i)) := by
 refine A.align_copied.run rfl fun R hR => ?_
 (simp (maxSteps := 1000000) [Jta1, Instr.av])
 (first | exact hR _ _ FrA | exact hR _ _ FnA | exact hR _ _ (Xf (hq := by simp [AV.erase, AV.unview, isCopy]; done)))
theorem Jt4v {P : Program} {p : Nums} (A : All P p) (m : Mach) : Jt3o P p.align_moved [m.av] [] fun o _ => o = .ret (AB (isMove m)) := by
 refine A.align_moved.run rfl fun R hR => ?_
 (simp (maxSteps := 1000000) [Jta2, Mach.av])
 (first | exact hR _ _ FrA | exact hR _ _ FnA | exact hR _ _ (Xf (hq := by simp [AV.erase, AV.unview, isMove]; done)))
theorem Jt4s {P : Program} {p : Nums} (A : All P p) (i : Instr) (m : Mach) : Jt3o P p.align_Same [i.av, m.av] [] fun o _ => o = .ret (AB (sameI i m)) := by
 refine A.align_Same.run rfl fun R hR => ?_
 have hs : sameI i m = sameI i m := rfl
 conv at hs => rhs; unfold sameI
 cases h1 : i.op == m.op <;> cases h2 : i.imm == m.imm <;> cases h3 : i.op != 2 <;> cases h4 : i.op != 18 <;> simp only [h1, h2, h3, h4, Bool.and_true, Bool.and_false, Bool.false_and, Bool.and_self] at hs <;>
  (simp (maxSteps := 1000000) [Jt9z, Instr.av, Mach.av, h1, h2, h3, h4]) <;> (first | exact hR _ _ FrA | exact hR _ _ FnA | exact hR _ _ (Xf (hq := by simp [AV.erase, AV.unview, hs]; done)))
theorem Jt4t {P : Program} {p : Nums} (A : All P p) (a b : Term) : Jt3o P p.align_Terms [a.av, b.av] [] fun o _ => o = .ret (AB (termsZ a b)) := by
 refine A.align_Terms.run rfl fun R hR => ?_
 have hs : termsZ a b = termsZ a b := rfl
 conv at hs => rhs; unfold termsZ
 cases h1 : a.kind == b.kind <;> cases h2 : a.to == b.to <;> cases h3 : a.els == b.els <;> simp only [h1, h2, h3, Bool.and_true, Bool.and_false, Bool.false_and, Bool.and_self] at hs <;>
  (simp (maxSteps := 1000000) [Jta0, Term.av, h1, h2, h3]) <;> (first | exact hR _ _ FrA | exact hR _ _ FnA | exact hR _ _ (Xf (hq := by simp [AV.erase, AV.unview, hs]; done)))
theorem Jt4w {P : Program} {p : Nums} (A : All P p) (l : List Instr) (i : Nat) (h0 : l.length < 1000000) (h1 : i < 1000000) : Jt3o P p.align_skip_Instr [.d (.sl (l.map Instr.row)), AI i, .fn (.func p.align_copied) [] []] [] fun o _ => o = .ret (AI (skipW isCopy l i)) := by
 refine A.align_skip_Instr.run rfl fun R hR => ?_
 (simp (maxSteps := 1000000) [Jta3])
 refine Jt9 (fun k : Nat => ⟨[(1, AI k), (2, .fn (.func p.align_copied) [] []), (0, .d (.sl (l.map Instr.row)))], []⟩) (fun k => k < 1000000 + l.length ∧ skipW isCopy l k = skipW isCopy l i) (fun k => l.length - k) i (by simp; omega) (by (exact wkA)) ?_
 rintro k ⟨hk, hs⟩ N hN
 (simp (maxSteps := 1000000) [])
 ((first | refine Xc (fun h2 => ?_) (fun h2 => ?_) | refine Xo (fun h2 => ?_) (fun h2 => ?_)) <;> (try simp only [Xz, Xy] at h2))
 ·have hkl : k < l.length := by simpa using h2
  have hki : l[k]? = some l[k] := by simp [hkl]
  have hw := Jtoq (k := k) (by omega)
  (simp (maxSteps := 1000000) [h2, List.getElem?_map, hki, Instr.row])
  refine ⟨_, [], [], _, rfl, A.align_copied.ok, rfl, ?_⟩
  (refine Jtt (Jt4u A l[k]) (by rfl) (by rfl) ?_)
  cases hc : isCopy l[k] with
  | true =>
   (simp (maxSteps := 1000000) [h2, hc, hw])
   exact hN _ (k + 1) ⟨by omega, by rw [← Jtlm hkl hc]; exact hs⟩ (by (exact wkA)) (by omega)
  | false =>
   rw [Jtlj hkl hc] at hs
   (simp (maxSteps := 1000000) [h2, hc])
   (first | exact hR _ _ FrA | exact hR _ _ FnA | exact hR _ _ (Xf (hq := by simp [AV.erase, AV.unview, hs]; done)))
 ·have hkl : l.length ≤ k := by simpa using h2
  rw [Jtli hkl] at hs
  (simp (maxSteps := 1000000) [h2])
  (first | exact hR _ _ FrA | exact hR _ _ FnA | exact hR _ _ (Xf (hq := by simp [AV.erase, AV.unview, hs]; done)))
theorem Jt4x {P : Program} {p : Nums} (A : All P p) (l : List Mach) (i : Nat) (h0 : l.length < 1000000) (h1 : i < 1000000) : Jt3o P p.align_skip_Mach [.d (.sl (l.map Mach.row)), AI i, .fn (.func p.align_moved) [] []] [] fun o _ => o = .ret (AI (skipW isMove l i)) := by
 refine A.align_skip_Mach.run rfl fun R hR => ?_
 (simp (maxSteps := 1000000) [Jta4])
 refine Jt9 (fun k : Nat => ⟨[(1, AI k), (2, .fn (.func p.align_moved) [] []), (0, .d (.sl (l.map Mach.row)))], []⟩) (fun k => k < 1000000 + l.length ∧ skipW isMove l k = skipW isMove l i) (fun k => l.length - k) i (by simp; omega) (by (exact wkA)) ?_
 rintro k ⟨hk, hs⟩ N hN
 (simp (maxSteps := 1000000) [])
 ((first | refine Xc (fun h2 => ?_) (fun h2 => ?_) | refine Xo (fun h2 => ?_) (fun h2 => ?_)) <;> (try simp only [Xz, Xy] at h2))
 ·have hkl : k < l.length := by simpa using h2
  have hki : l[k]? = some l[k] := by simp [hkl]
  have hw := Jtoq (k := k) (by omega)
  (simp (maxSteps := 1000000) [h2, List.getElem?_map, hki, Mach.row])
  refine ⟨_, [], [], _, rfl, A.align_moved.ok, rfl, ?_⟩
  (refine Jtt (Jt4v A l[k]) (by rfl) (by rfl) ?_)
  cases hc : isMove l[k] with
  | true =>
   (simp (maxSteps := 1000000) [h2, hc, hw])
   exact hN _ (k + 1) ⟨by omega, by rw [← Jtlm hkl hc]; exact hs⟩ (by (exact wkA)) (by omega)
  | false =>
   rw [Jtlj hkl hc] at hs
   (simp (maxSteps := 1000000) [h2, hc])
   (first | exact hR _ _ FrA | exact hR _ _ FnA | exact hR _ _ (Xf (hq := by simp [AV.erase, AV.unview, hs]; done)))
 ·have hkl : l.length ≤ k := by simpa using h2
  rw [Jtli hkl] at hs
  (simp (maxSteps := 1000000) [h2])
  (first | exact hR _ _ FrA | exact hR _ _ FnA | exact hR _ _ (Xf (hq := by simp [AV.erase, AV.unview, hs]; done)))
end
section
theorem Jt4r {P : Program} {p : Nums} (A : All P p) (code : List Instr) (mach : List Mach) (h0 : code.length < 500000) (h1 : mach.length < 500000) : Jt3o P p.align_Code [.d (.sl (code.map Instr.row)), .d (.sl (mach.map Mach.row))] []
  fun o _ => o = .ret (.tup [.d (.sl ((alignZ code mach).1.map ARow.row)), AI (alignZ code mach).2.1, AI (alignZ code mach).2.2]) := by
 refine A.align_Code.run rfl fun R hR => ?_
 obtain ⟨T, hT⟩ : ∃ T, T = alignZ code mach := ⟨_, rfl⟩
 rw [← hT] at hR
 (simp (maxSteps := 1000000) [Jt9y])
 refine Jt9 (fun x : Nat × Nat × Nat × List ARow => ⟨[(7, .own 6 (x.2.2.2.map ARow.row)), (8, AI x.2.1), (9, AI x.2.2.1), (0, .d (.sl (code.map Instr.row))), (1, .d (.sl (mach.map Mach.row)))], []⟩)
  (fun x => x.2.1 ≤ code.length ∧ x.2.2.1 ≤ mach.length ∧ code.length + 1 ≤ x.1 + x.2.1 ∧ x.2.2.2.length ≤ x.2.1 ∧ alignS code mach x.1 x.2.1 x.2.2.1 x.2.2.2 = T) (fun x => code.length + 1 - x.2.1) (code.length + 1, 0, 0, []) (by simp [hT, alignZ]) (by simp only [List.map_nil]; (exact wkA)) ?_
 rintro ⟨f, i, k, rows⟩ ⟨hi, hk, hf, hrl, hal⟩ N hN
 simp only at hi hk hf hrl hal
 obtain ⟨f, rfl⟩ : ∃ g, f = g + 1 := ⟨f - 1, by omega⟩
 have hsi := Jt4w A code i (by omega) (by omega)
 have hsk := Jt4x A mach k (by omega) (by omega)
 have hile := Jtll (f := isCopy) hi
 have hkle := Jtll (f := isMove) hk
 have hige := Jtlk isCopy code i
 simp only [alignS] at hal
 obtain ⟨si, hsie⟩ : ∃ x, x = skipW isCopy code i := ⟨_, rfl⟩
 obtain ⟨sk, hske⟩ : ∃ x, x = skipW isMove mach k := ⟨_, rfl⟩
 rw [← hsie] at hsi hal hile hige
 rw [← hske] at hsk hal hkle
 (simp (maxSteps := 1000000) [])
 (refine Jtt hsi (by rfl) (by rfl) ?_)
 (simp (maxSteps := 1000000) [])
 (refine Jtt hsk (by rfl) (by rfl) ?_)
 obtain ⟨F, hF⟩ : ∃ F, F = rows.map ARow.row := ⟨_, rfl⟩
 have hFl : F.length = rows.length := by rw [hF]; simp
 rw [← hF]
 by_cases h2 : si = code.length
 ·by_cases h3 : sk = mach.length
  ·rw [if_pos ⟨h2, h3⟩] at hal
   (simp (maxSteps := 1000000) [h2, h3])
   (refine Jt16 (by rfl) (by rfl) (by rfl) ?_ (by decide) ?_ ?_ ?_)
   ·simp
   ·simp; omega
   ·simp; omega
   (simp (maxSteps := 1000000) [])
   refine hR _ _ (Jt3u _ _ rfl (by (exact wkvA)) ?_)
   rw [← hal]
   simp [hF, ARow.row, h2, h3]
  ·rw [if_neg (fun h => h3 h.2)] at hal
   have hb3 : ((sk : Int) == (mach.length : Int)) = false := by simp; omega
   have hc : code[si]? = none := List.getElem?_eq_none (by omega)
   rw [hc] at hal
   simp only at hal
   (simp (maxSteps := 1000000) [h2, h3, hb3])
   refine hR _ _ (Jt3u (.tup [.nils, AI sk, AI 20]) (.tup [.d (.sl []), AI sk, AI 20]) rfl (by (exact wkvA)) ?_)
   rw [← hal]; rfl
 ·have hb2 : ((si : Int) == (code.length : Int)) = false := by simp; omega
  rw [if_neg (fun h => h2 h.1)] at hal
  have hcl : si < code.length := by omega
  have hci : code[si]? = some code[si] := by simp [hcl]
  by_cases h3 : sk = mach.length
  ·have hc : mach[sk]? = none := List.getElem?_eq_none (by omega)
   rw [hci, hc] at hal
   simp only at hal
   (simp (maxSteps := 1000000) [h2, h3, hb2])
   refine hR _ _ (Jt3u (.tup [.nils, AI mach.length, AI 20]) (.tup [.d (.sl []), AI mach.length, AI 20]) rfl (by (exact wkvA)) ?_)
   rw [← hal]; simp [h3]
  ·have hkl : sk < mach.length := by omega
   have hki : mach[sk]? = some mach[sk] := by simp [hkl]
   rw [hci, hki] at hal
   simp only at hal
   have hb3 : ((sk : Int) == (mach.length : Int)) = false := by simp; omega
   (simp (maxSteps := 1000000) [h2, h3, hb2, hb3, List.getElem?_map, hci, hki, Instr.row, Mach.row])
   (refine Jtt (Jt4s A code[si] mach[sk]) (by rfl) (by rfl) ?_)
   cases hs : sameI code[si] mach[sk] with
   | false =>
    rw [hs] at hal
    simp only [Bool.false_eq_true, if_false] at hal
    (simp (maxSteps := 1000000) [hs])
    refine hR _ _ (Jt3u (.tup [.nils, AI sk, AI 20]) (.tup [.d (.sl []), AI sk, AI 20]) rfl (by (exact wkvA)) ?_)
    rw [← hal]; rfl
   | true =>
    rw [hs, if_pos rfl] at hal
    have hw1 := Jtoq (k := si) (by omega)
    have hw2 := Jtoq (k := sk) (by omega)
    (simp (maxSteps := 1000000) [hs])
    (refine Jt16 (by rfl) (by rfl) (by rfl) ?_ (by decide) ?_ ?_ ?_)
    ·simp
    ·simp; omega
    ·simp; omega
    (simp (maxSteps := 1000000) [hw1, hw2])
    exact hN _ (f, si + 1, sk + 1, rows ++ [⟨i, si, k, sk, si, sk⟩]) ⟨hcl, hkl, by simp only; omega, by simp only [List.length_append, List.length_singleton]; omega, hal⟩ (by simp only [List.map_append, List.map_cons, List.map_nil, ← hF, ARow.row]; (exact wkA)) (by simp only; omega)
end
theorem Jt4n {code : List Instr} {mach : List Mach} : ∀ (f i k : Nat) (rows : List ARow), i ≤ code.length → k ≤ mach.length → (∀ r ∈ rows, RowOk code mach r) → rows.length ≤ i →
  (∀ r ∈ (alignS code mach f i k rows).1, RowOk code mach r) ∧ (alignS code mach f i k rows).1.length ≤ code.length + 1 ∧ (alignS code mach f i k rows).2.1 ≤ mach.length := by
 intro f
 induction f with
 | zero => intro i k rows hi hk h hl; exact ⟨fun r hr => by simp [alignS] at hr, by simp [alignS], by simpa [alignS] using hk⟩
 | succ f ih =>
  intro i k rows hi hk h hl
  have h1 := Jtll (f := isCopy) hi
  have h2 := Jtll (f := isMove) hk
  have h3 := Jtlk isCopy code i
  have h4 := Jtlk isMove mach k
  simp only [alignS]
  split
  ·refine ⟨fun r hr => ?_, by simp; omega, h2⟩
   rcases List.mem_append.1 hr with hr | hr
   ·exact h r hr
   ·simp only [List.mem_singleton] at hr
    subst hr
    exact ⟨⟨h3, h1⟩, ⟨h4, h2⟩, fun h => by simp at h⟩
  ·split
   ·rename_i x y hx hy
    have hx' := (List.getElem?_eq_some_iff.1 hx).1
    have hy' := (List.getElem?_eq_some_iff.1 hy).1
    split
    ·refine ih _ _ _ hx' hy' (fun r hr => ?_) (by simp only [List.length_append, List.length_singleton]; omega)
     rcases List.mem_append.1 hr with hr | hr
     ·exact h r hr
     ·simp only [List.mem_singleton] at hr
      subst hr
      exact ⟨⟨h3, h1⟩, ⟨h4, h2⟩, fun _ => ⟨by simp; omega, by simp, by simp; omega⟩⟩
    ·exact ⟨fun r hr => by simp at hr, by simp, h2⟩
   ·exact ⟨fun r hr => by simp at hr, by simp, h2⟩
theorem Jt4q (code : List Instr) (mach : List Mach) : (∀ r ∈ (alignZ code mach).1, RowOk code mach r) ∧ (alignZ code mach).1.length ≤ code.length + 1 ∧ (alignZ code mach).2.1 ≤ mach.length :=
 Jt4n _ 0 0 [] (Nat.zero_le _) (Nat.zero_le _) (fun r hr => by simp at hr) (Nat.le_refl _)
theorem Jtg9 {code : List Instr} {mach : List Mach} {rows : List ARow} (h : ∀ r ∈ rows, RowOk code mach r) : needRs rows ≤ rows.length * (3 + mach.length + code.length) := by
 induction rows with
 | nil => simp [needRs]
 | cons r rows ih =>
  have h1 := h r (by simp)
  have h2 := ih fun r hr => h r (by simp [hr])
  rw [Jtg8, List.length_cons, Nat.add_mul, Nat.one_mul]
  have := h1.hc
  have := h1.hm
  unfold needR; omega
structure Res where (out : List Pair) (err at_ : Int) (steps largest : Nat)
 deriving DecidableEq
def Res.av (r : Res) : AV := .agg [.d (pairsD r.out), AI r.err, AI r.at_, AI r.steps, AI r.largest]
def checkZ (b : Block) (m : MBlock) (l : List Pair) (most : Int) : Res :=
 if (l.length : Int) > most then ⟨[], 24, 0, 0, l.length⟩
 else
  let a := alignZ b.code m.code
  let why := if a.2.2 = 0 ∧ termsZ b.term m.term = false then 20 else a.2.2
  if why ≠ 0 then ⟨[], why, a.2.1, 0, l.length⟩
  else
   let r := runC most b m a.1 ⟨makeP l, 0, l.length⟩
   ⟨if (runE m r.2).1 = 0 then r.1.set else [], (runE m r.2).1, (runE m r.2).2, r.1.steps, r.1.largest⟩
section
theorem Jt5g {P : Program} {p : Nums} (A : All P p) (S : SortOk P p) (C : ClosOk P p) {V L : List Int} (b : Block) (m : MBlock) (l : List Pair) (most : Int) (hl : ∀ q ∈ l, q.v ∈ V ∧ q.l ∈ L) (hv : VLOk V L b.code m.code) (few : V.length * L.length < 100000) (hl0 : l.length < 100000)
  (hb0 : b.code.length ≤ 1000) (hm0 : m.code.length ≤ 1000) : Jt3o P p.blockcheck_Check [b.av, m.av, .d (pairsD l), AI most] [] fun o _ => o = .ret (checkZ b m l most).av := by
 refine A.blockcheck_Check.run rfl fun R hR => ?_
 obtain ⟨T, hT⟩ : ∃ T, T = checkZ b m l most := ⟨_, rfl⟩
 rw [← hT] at hR
 have hspec : T = checkZ b m l most := hT
 unfold checkZ at hspec
 obtain ⟨ha1, ha2, ha3⟩ := Jt4q b.code m.code
 have hal := Jt4r A b.code m.code (by omega) (by omega)
 have htm := Jt4t A b.term m.term
 have hmk := Jthm A S l (by omega)
 have hover : Over V L (makeP l) := ⟨Jtmu l, fun q hq => hl q (Jtfd.1 hq)⟩
 have hroom : Room V L ⟨makeP l, 0, l.length⟩ (needRs (alignZ b.code m.code).1 + 1) := by
  refine ⟨hover, few, ?_, by simp only; omega⟩
  have h1 := Jtg9 ha1
  have h2 : (alignZ b.code m.code).1.length * (3 + m.code.length + b.code.length) ≤ 1001 * 2003 := Nat.mul_le_mul (by omega) (by omega)
  simp only
  omega
 have hrun := Jt5l A S C ⟨makeP l, 0, l.length⟩ most b m (alignZ b.code m.code).1 hroom hv ha1 (by omega) (by omega) (by omega)
 obtain ⟨al, hale⟩ : ∃ a, a = alignZ b.code m.code := ⟨_, rfl⟩
 rw [← hale] at hal hrun hspec
 obtain ⟨rows, at_, why⟩ := al
 obtain ⟨⟨t, e⟩, hre⟩ : ∃ r, r = runC most b m rows ⟨makeP l, 0, l.length⟩ := ⟨_, rfl⟩
 simp only at hal hrun hspec
 rw [← hre] at hrun hspec
 obtain ⟨re, hree⟩ : ∃ x, x = runE m e := ⟨_, rfl⟩
 simp only at hrun hspec
 rw [← hree] at hrun hspec
 obtain ⟨mk, hmke⟩ : ∃ x, x = makeP l := ⟨_, rfl⟩
 rw [← hmke] at hmk hrun
 obtain ⟨tz, htz⟩ : ∃ x, x = termsZ b.term m.term := ⟨_, rfl⟩
 rw [← htz] at htm hspec
 obtain ⟨code, kind, ta, to, els⟩ := b
 obtain ⟨mcode, mkind, mta, mto, mels⟩ := m
 simp only [Block.av, MBlock.av, Term.av] at hal hrun htm ⊢
 by_cases h1 : most < (l.length : Int)
 ·rw [if_pos h1] at hspec
  (simp (maxSteps := 1000000) [Jta5, pairsD, h1])
  refine hR _ _ (Jt3u (.agg [.nils, AI 24, AI 0, AI 0, AI l.length]) (.agg [.d (.sl []), AI 24, AI 0, AI 0, AI l.length]) rfl (by (exact wkvA)) ?_)
  rw [hspec]; rfl
 ·rw [if_neg h1] at hspec
  (simp (maxSteps := 1000000) [Jta5, pairsD, h1])
  (refine Jtt hal (by rfl) (by rfl) ?_)
  by_cases hw : why = 0
  ·subst hw
   (simp (maxSteps := 1000000) [])
   (refine Jtt htm (by rfl) (by rfl) ?_)
   cases tz with
   | false =>
    simp only [and_self, if_true, ne_eq, reduceCtorEq, not_false_eq_true, Int.reduceEq] at hspec
    (simp (maxSteps := 1000000) [])
    refine hR _ _ (Jt3u (.agg [.nils, AI 20, AI at_, AI 0, AI l.length]) (.agg [.d (.sl []), AI 20, AI at_, AI 0, AI l.length]) rfl (by (exact wkvA)) ?_)
    rw [hspec]; rfl
   | true =>
    simp only [Bool.true_eq_false, and_false, if_false, ne_eq, not_true_eq_false] at hspec
    (simp (maxSteps := 1000000) [pairsD])
    (refine Jtt hmk (by rfl) (by rfl) ?_)
    (simp (maxSteps := 1000000) [pairsD])
    refine Jtv [3] hrun (by decide) (by rfl) (by rfl) (by rfl) (by rfl) (by rfl) (by rfl) ?_
    (simp (maxSteps := 1000000) [ckB])
    by_cases hz : re.1 = 0
    ·rw [if_pos hz] at hspec
     (simp (maxSteps := 1000000) [hz, pairsD])
     refine hR _ _ (Jt3u (.agg [.d (.sl (t.set.map Pair.row)), AI 0, AI re.2, AI t.steps, AI t.largest]) _ rfl (by (exact wkvA)) ?_)
     rw [hspec, hz]; rfl
    ·rw [if_neg hz] at hspec
     have hzb : (re.1 == 0) = false := by simpa using hz
     (simp (maxSteps := 1000000) [hz, hzb, pairsD])
     refine hR _ _ (Jt3u (.agg [.nils, AI re.1, AI re.2, AI t.steps, AI t.largest]) (.agg [.d (.sl []), AI re.1, AI re.2, AI t.steps, AI t.largest]) rfl (by (exact wkvA)) ?_)
     rw [hspec]; rfl
  ·have hwb : (why == 0) = false := by simpa using hw
   simp only [hw, false_and, if_false, ne_eq, not_false_eq_true, if_true] at hspec
   (simp (maxSteps := 1000000) [hw, hwb])
   refine hR _ _ (Jt3u (.agg [.nils, AI why, AI at_, AI 0, AI l.length]) (.agg [.d (.sl []), AI why, AI at_, AI 0, AI l.length]) rfl (by (exact wkvA)) ?_)
   rw [hspec]; rfl
end
def okZ (n : Int) : Prop := -9223372036854775808 ≤ n ∧ n ≤ 9223372036854775807
def Jtjp (i : Mach) (regs slots : Int) : Int :=
 if i.op < 1 ∨ 18 < i.op ∨ i.op = 2 then 8
 else if i.op = 18 then
  if rngZ i.dst regs slots = false ∨ rngZ i.src regs slots = false ∨ (i.dst.tmod 2 = 1 ∧ i.src.tmod 2 = 1) then 10
  else if i.d ≠ 0 ∨ i.a ≠ 0 ∨ i.b ≠ 0 ∨ i.imm ≠ 0 then 12 else 0
 else if Jtjm ⟨i.op, i.d, i.a, i.b, i.imm⟩ regs = 0 ∧ (i.dst ≠ 0 ∨ i.src ≠ 0) then 12 else Jtjm ⟨i.op, i.d, i.a, i.b, i.imm⟩ regs
section
theorem Jtiw {P : Program} {p : Nums} (A : All P p) (i : Mach) (regs slots : Int) (h1 : okZ i.dst) (h2 : okZ i.src) : Jt3o P p.ref08_Instr [i.av, AI regs, AI slots] [] fun o _ => o = .ret (AI (Jtjp i regs slots)) := by
 refine A.ref08_Instr.run rfl fun R hR => ?_
 obtain ⟨T, hT⟩ : ∃ T, T = Jtjp i regs slots := ⟨_, rfl⟩
 have hs := hT
 unfold Jtjp at hs
 rw [← hT] at hR
 obtain ⟨op, d, a, b, imm, dst, src⟩ := i
 simp only at hs h1 h2
 have c1 := Jtii A dst regs slots h1.1 h1.2
 have c2 := Jtii A src regs slots h2.1 h2.2
 have c3 := Jtip A ⟨op, d, a, b, imm⟩ regs
 obtain ⟨r1, hr1⟩ : ∃ r, r = rngZ dst regs slots := ⟨_, rfl⟩
 obtain ⟨r2, hr2⟩ : ∃ r, r = rngZ src regs slots := ⟨_, rfl⟩
 obtain ⟨e, he⟩ : ∃ r, r = Jtjm ⟨op, d, a, b, imm⟩ regs := ⟨_, rfl⟩
 rw [← hr1] at c1 hs
 rw [← hr2] at c2 hs
 rw [← he] at c3 hs
 simp only [Instr.av] at c3
 by_cases o1 : op < 1
 ·rw [if_pos (.inl o1)] at hs
  (simp (maxSteps := 1000000) [Jtbz, Mach.av, o1])
  (first | exact hR _ _ FrA | exact hR _ _ FnA | exact hR _ _ (Xf (hq := by simp [AV.erase, AV.unview, hs]; done)))
 by_cases o2 : 18 < op
 ·rw [if_pos (.inr (.inl o2))] at hs
  (simp (maxSteps := 1000000) [Jtbz, Mach.av, o1, o2])
  (first | exact hR _ _ FrA | exact hR _ _ FnA | exact hR _ _ (Xf (hq := by simp [AV.erase, AV.unview, hs]; done)))
 by_cases o3 : op = 2
 ·rw [if_pos (.inr (.inr o3))] at hs
  subst o3
  (simp (maxSteps := 1000000) [Jtbz, Mach.av])
  (first | exact hR _ _ FrA | exact hR _ _ FnA | exact hR _ _ (Xf (hq := by simp [AV.erase, AV.unview, hs]; done)))
 have b3 : (op == 2) = false := by simpa using o3
 rw [if_neg (by omega)] at hs
 by_cases o4 : op = 18
 ·subst o4
  rw [if_pos rfl] at hs
  (simp (maxSteps := 1000000) [Jtbz, Mach.av])
  (refine Jtt c1 (by rfl) (by rfl) ?_)
  cases r1 with
  | false =>
   rw [if_pos (.inl rfl)] at hs
   (simp (maxSteps := 1000000) [])
   (first | exact hR _ _ FrA | exact hR _ _ FnA | exact hR _ _ (Xf (hq := by simp [AV.erase, AV.unview, hs]; done)))
  | true =>
   (simp (maxSteps := 1000000) [])
   (refine Jtt c2 (by rfl) (by rfl) ?_)
   cases r2 with
   | false =>
    rw [if_pos (.inr (.inl rfl))] at hs
    (simp (maxSteps := 1000000) [])
    (first | exact hR _ _ FrA | exact hR _ _ FnA | exact hR _ _ (Xf (hq := by simp [AV.erase, AV.unview, hs]; done)))
   | true =>
    by_cases d1 : dst.tmod 2 = 1
    ·by_cases d2 : src.tmod 2 = 1
     ·rw [if_pos (.inr (.inr ⟨d1, d2⟩))] at hs
      (simp (maxSteps := 1000000) [d1, d2])
      (first | exact hR _ _ FrA | exact hR _ _ FnA | exact hR _ _ (Xf (hq := by simp [AV.erase, AV.unview, hs]; done)))
     ·have bd2 : (src.tmod 2 == 1) = false := by simpa using d2
      rw [if_neg (by simp [d2])] at hs
      by_cases q1 : d = 0
      ·by_cases q2 : a = 0
       ·by_cases q3 : b = 0
        ·by_cases q4 : imm = 0
         ·rw [if_neg (by omega)] at hs
          (simp (maxSteps := 1000000) [d1, d2, bd2, q1, q2, q3, q4])
          (first | exact hR _ _ FrA | exact hR _ _ FnA | exact hR _ _ (Xf (hq := by simp [AV.erase, AV.unview, hs]; done)))
         ·have w : (imm == 0) = false := by simpa using q4
          rw [if_pos (by omega)] at hs
          (simp (maxSteps := 1000000) [d1, d2, bd2, q1, q2, q3, q4, w])
          (first | exact hR _ _ FrA | exact hR _ _ FnA | exact hR _ _ (Xf (hq := by simp [AV.erase, AV.unview, hs]; done)))
        ·have w : (b == 0) = false := by simpa using q3
         rw [if_pos (by omega)] at hs
         (simp (maxSteps := 1000000) [d1, d2, bd2, q1, q2, q3, w])
         (first | exact hR _ _ FrA | exact hR _ _ FnA | exact hR _ _ (Xf (hq := by simp [AV.erase, AV.unview, hs]; done)))
       ·have w : (a == 0) = false := by simpa using q2
        rw [if_pos (by omega)] at hs
        (simp (maxSteps := 1000000) [d1, d2, bd2, q1, q2, w])
        (first | exact hR _ _ FrA | exact hR _ _ FnA | exact hR _ _ (Xf (hq := by simp [AV.erase, AV.unview, hs]; done)))
      ·have w : (d == 0) = false := by simpa using q1
       rw [if_pos (by omega)] at hs
       (simp (maxSteps := 1000000) [d1, d2, bd2, q1, w])
       (first | exact hR _ _ FrA | exact hR _ _ FnA | exact hR _ _ (Xf (hq := by simp [AV.erase, AV.unview, hs]; done)))
    ·have bd1 : (dst.tmod 2 == 1) = false := by simpa using d1
     rw [if_neg (by simp [d1])] at hs
     by_cases q1 : d = 0
     ·by_cases q2 : a = 0
      ·by_cases q3 : b = 0
       ·by_cases q4 : imm = 0
        ·rw [if_neg (by omega)] at hs
         (simp (maxSteps := 1000000) [d1, bd1, q1, q2, q3, q4])
         (first | exact hR _ _ FrA | exact hR _ _ FnA | exact hR _ _ (Xf (hq := by simp [AV.erase, AV.unview, hs]; done)))
        ·have w : (imm == 0) = false := by simpa using q4
         rw [if_pos (by omega)] at hs
         (simp (maxSteps := 1000000) [d1, bd1, q1, q2, q3, q4, w])
         (first | exact hR _ _ FrA | exact hR _ _ FnA | exact hR _ _ (Xf (hq := by simp [AV.erase, AV.unview, hs]; done)))
       ·have w : (b == 0) = false := by simpa using q3
        rw [if_pos (by omega)] at hs
        (simp (maxSteps := 1000000) [d1, bd1, q1, q2, q3, w])
        (first | exact hR _ _ FrA | exact hR _ _ FnA | exact hR _ _ (Xf (hq := by simp [AV.erase, AV.unview, hs]; done)))
      ·have w : (a == 0) = false := by simpa using q2
       rw [if_pos (by omega)] at hs
       (simp (maxSteps := 1000000) [d1, bd1, q1, q2, w])
       (first | exact hR _ _ FrA | exact hR _ _ FnA | exact hR _ _ (Xf (hq := by simp [AV.erase, AV.unview, hs]; done)))
     ·have w : (d == 0) = false := by simpa using q1
      rw [if_pos (by omega)] at hs
      (simp (maxSteps := 1000000) [d1, bd1, q1, w])
      (first | exact hR _ _ FrA | exact hR _ _ FnA | exact hR _ _ (Xf (hq := by simp [AV.erase, AV.unview, hs]; done)))
 ·have b4 : (op == 18) = false := by simpa using o4
  rw [if_neg o4] at hs
  (simp (maxSteps := 1000000) [Jtbz, Mach.av, o1, o2, b3, b4])
  (refine Jtt c3 (by rfl) (by rfl) ?_)
  by_cases he0 : e = 0
  ·subst he0
   by_cases q1 : dst = 0
   ·by_cases q2 : src = 0
    ·rw [if_neg (by omega)] at hs
     (simp (maxSteps := 1000000) [q1, q2])
     (first | exact hR _ _ FrA | exact hR _ _ FnA | exact hR _ _ (Xf (hq := by simp [AV.erase, AV.unview, hs]; done)))
    ·have b2 : (src == 0) = false := by simpa using q2
     rw [if_pos ⟨rfl, .inr q2⟩] at hs
     (simp (maxSteps := 1000000) [q1, q2, b2])
     (first | exact hR _ _ FrA | exact hR _ _ FnA | exact hR _ _ (Xf (hq := by simp [AV.erase, AV.unview, hs]; done)))
   ·have b1 : (dst == 0) = false := by simpa using q1
    rw [if_pos ⟨rfl, .inl q1⟩] at hs
    (simp (maxSteps := 1000000) [q1, b1])
    (first | exact hR _ _ FrA | exact hR _ _ FnA | exact hR _ _ (Xf (hq := by simp [AV.erase, AV.unview, hs]; done)))
  ·have b0 : (e == 0) = false := by simpa using he0
   rw [if_neg (fun h => he0 h.1)] at hs
   (simp (maxSteps := 1000000) [he0, b0])
   (first | exact hR _ _ FrA | exact hR _ _ FnA | exact hR _ _ (Xf (hq := by simp [AV.erase, AV.unview, hs]; done)))
end
def mErr (code : List Mach) (regs slots : Int) (j : Nat) : Int := match code[j]? with
 | none => 0
 | some x => if Jtjp x regs slots ≠ 0 then Jtjp x regs slots else if 64 ≤ j ∧ 64 < Jtjq ((code.take (j + 1)).drop (j - 64)) then 15 else 0
def mErrs (code : List Mach) (regs slots : Int) : Int := Jt8f ((List.range code.length).map (mErr code regs slots))
def Jtjn (b : MBlock) (regs slots blocks : Int) : Int := if mErrs b.code regs slots ≠ 0 then mErrs b.code regs slots else Jtjs b.term regs blocks
def Jtjo (f : MFunc) : Int :=
 if f.args < 0 ∨ f.slots < f.args then 10 else if f.regs < 0 then 9 else if 1048576 < f.slots ∨ 1048576 < f.regs then 6 else if f.blocks.length = 0 then 14 else if 1048576 < f.blocks.length ∨ 1048576 < mcodeN f.blocks then 6
 else Jt8f (f.blocks.map fun b => Jtjn b f.regs f.slots f.blocks.length)
def okM (b : MBlock) : Prop := ∀ x ∈ b.code, okZ x.dst ∧ okZ x.src
section
theorem Jtit {P : Program} {p : Nums} (A : All P p) (f : MFunc) (h0 : f.blocks.length < 1000000000) (h1 : mcodeN f.blocks < 1000000000) (hok : ∀ b ∈ f.blocks, okM b) : Jt3o P p.ref08_Check [f.av] [] fun o _ => o = .ret (AI (Jtjo f)) := by
 refine A.ref08_Check.run rfl fun R hR => ?_
 (simp (maxSteps := 1000000) [Jtbw, MFunc.av])
 ((first | refine Xc (fun a1 => ?_) (fun a1 => ?_) | refine Xo (fun a1 => ?_) (fun a1 => ?_)) <;> (try simp only [Xz, Xy] at a1))
 ·(simp (maxSteps := 1000000) [a1])
  have e : Jtjo f = 10 := by unfold Jtjo; repeat (first | rw [if_pos (by omega)] | rw [if_neg (by omega)])
  (first | exact hR _ _ FrA | exact hR _ _ FnA | exact hR _ _ (Xf (hq := by simp [AV.erase, AV.unview, e]; done)))
 (simp (maxSteps := 1000000) [a1])
 ((first | refine Xc (fun a2 => ?_) (fun a2 => ?_) | refine Xo (fun a2 => ?_) (fun a2 => ?_)) <;> (try simp only [Xz, Xy] at a2))
 ·(simp (maxSteps := 1000000) [a2])
  have e : Jtjo f = 10 := by unfold Jtjo; repeat (first | rw [if_pos (by omega)] | rw [if_neg (by omega)])
  (first | exact hR _ _ FrA | exact hR _ _ FnA | exact hR _ _ (Xf (hq := by simp [AV.erase, AV.unview, e]; done)))
 (simp (maxSteps := 1000000) [a2])
 ((first | refine Xc (fun a3 => ?_) (fun a3 => ?_) | refine Xo (fun a3 => ?_) (fun a3 => ?_)) <;> (try simp only [Xz, Xy] at a3))
 ·(simp (maxSteps := 1000000) [a3])
  have e : Jtjo f = 9 := by unfold Jtjo; repeat (first | rw [if_pos (by omega)] | rw [if_neg (by omega)])
  (first | exact hR _ _ FrA | exact hR _ _ FnA | exact hR _ _ (Xf (hq := by simp [AV.erase, AV.unview, e]; done)))
 (simp (maxSteps := 1000000) [a3])
 ((first | refine Xc (fun a4 => ?_) (fun a4 => ?_) | refine Xo (fun a4 => ?_) (fun a4 => ?_)) <;> (try simp only [Xz, Xy] at a4))
 ·(simp (maxSteps := 1000000) [a4])
  have e : Jtjo f = 6 := by unfold Jtjo; repeat (first | rw [if_pos (by omega)] | rw [if_neg (by omega)])
  (first | exact hR _ _ FrA | exact hR _ _ FnA | exact hR _ _ (Xf (hq := by simp [AV.erase, AV.unview, e]; done)))
 (simp (maxSteps := 1000000) [a4])
 ((first | refine Xc (fun a5 => ?_) (fun a5 => ?_) | refine Xo (fun a5 => ?_) (fun a5 => ?_)) <;> (try simp only [Xz, Xy] at a5))
 ·(simp (maxSteps := 1000000) [a5])
  have e : Jtjo f = 6 := by unfold Jtjo; repeat (first | rw [if_pos (by omega)] | rw [if_neg (by omega)])
  (first | exact hR _ _ FrA | exact hR _ _ FnA | exact hR _ _ (Xf (hq := by simp [AV.erase, AV.unview, e]; done)))
 (simp (maxSteps := 1000000) [a5])
 ((first | refine Xc (fun a6 => ?_) (fun a6 => ?_) | refine Xo (fun a6 => ?_) (fun a6 => ?_)) <;> (try simp only [Xz, Xy] at a6))
 ·(simp (maxSteps := 1000000) [a6])
  have e : Jtjo f = 14 := by unfold Jtjo; repeat (first | rw [if_pos (by omega)] | rw [if_neg (by omega)])
  (first | exact hR _ _ FrA | exact hR _ _ FnA | exact hR _ _ (Xf (hq := by simp [AV.erase, AV.unview, e]; done)))
 (simp (maxSteps := 1000000) [a6])
 ((first | refine Xc (fun a7 => ?_) (fun a7 => ?_) | refine Xo (fun a7 => ?_) (fun a7 => ?_)) <;> (try simp only [Xz, Xy] at a7))
 ·(simp (maxSteps := 1000000) [a7])
  have e : Jtjo f = 6 := by unfold Jtjo; repeat (first | rw [if_pos (by omega)] | rw [if_neg (by omega)])
  (first | exact hR _ _ FrA | exact hR _ _ FnA | exact hR _ _ (Xf (hq := by simp [AV.erase, AV.unview, e]; done)))
 (simp (maxSteps := 1000000) [a7])
 (refine Jtt (Jtiu A f h0 h1) (by rfl) (by rfl) ?_)
 (simp (maxSteps := 1000000) [])
 ((first | refine Xc (fun a8 => ?_) (fun a8 => ?_) | refine Xo (fun a8 => ?_) (fun a8 => ?_)) <;> (try simp only [Xz, Xy] at a8))
 ·(simp (maxSteps := 1000000) [a8])
  have e : Jtjo f = 6 := by unfold Jtjo; repeat (first | rw [if_pos (by omega)] | rw [if_neg (by omega)])
  (first | exact hR _ _ FrA | exact hR _ _ FnA | exact hR _ _ (Xf (hq := by simp [AV.erase, AV.unview, e]; done)))
 (simp (maxSteps := 1000000) [a8])
 have e : Jtjo f = Jt8f (f.blocks.map fun b => Jtjn b f.regs f.slots f.blocks.length) := by
  unfold Jtjo; repeat (first | rw [if_pos (by omega)] | rw [if_neg (by omega)])
 refine Jt9 (fun k : Nat => ⟨[(3, AI k), (2, AI 0), (1, .ptr 0 0)], [.mem [AI f.args, AI f.regs, AI f.slots, .d (.sl (f.blocks.map MBlock.row))]]⟩)
  (fun k => k ≤ f.blocks.length ∧ ∀ e ∈ (f.blocks.map fun b => Jtjn b f.regs f.slots f.blocks.length).take k, e = 0) (fun k => f.blocks.length - k) 0 (by simp) (by (exact wkA)) ?_
 rintro k ⟨hk, hz⟩ N hN
 (simp (maxSteps := 1000000) [])
 ((first | refine Xc (fun h2 => ?_) (fun h2 => ?_) | refine Xo (fun h2 => ?_) (fun h2 => ?_)) <;> (try simp only [Xz, Xy] at h2))
 ·have hkl : k < f.blocks.length := by simpa using h2
  have hb : f.blocks[k]? = some f.blocks[k] := by simp [hkl]
  have hw := Jtoq (k := k) (by omega)
  have hokb := hok _ (List.getElem_mem hkl)
  have hbl : f.blocks[k].code.length < 1000000000 := by
   have h3 := Jtf8 hb
   have h4 := Jtf7 f.blocks (k + 1)
   omega
  (simp (maxSteps := 1000000) [h2, hb, MBlock.row])
  refine Jt9 (fun j : Nat => ⟨[(5, AI j), (4, .ptr 1 0), (3, AI k), (2, AI 0), (1, .ptr 0 0)], [.mem [AI f.args, AI f.regs, AI f.slots, .d (.sl (f.blocks.map MBlock.row))], .mem [.d (.sl (f.blocks[k].code.map Mach.row)), AI f.blocks[k].term.kind, AI f.blocks[k].term.a, AI f.blocks[k].term.to, AI f.blocks[k].term.els]]⟩)
   (fun j => j ≤ f.blocks[k].code.length ∧ ∀ e ∈ ((List.range f.blocks[k].code.length).map (mErr f.blocks[k].code f.regs f.slots)).take j, e = 0) (fun j => f.blocks[k].code.length - j) 0 (by simp) (by (exact wkA)) ?_
  rintro j ⟨hj, hy⟩ N' hN'
  (simp (maxSteps := 1000000) [])
  ((first | refine Xc (fun h3 => ?_) (fun h3 => ?_) | refine Xo (fun h3 => ?_) (fun h3 => ?_)) <;> (try simp only [Xz, Xy] at h3))
  ·have hjl : j < f.blocks[k].code.length := by simpa using h3
   have hbj : f.blocks[k].code[j]? = some f.blocks[k].code[j] := by simp [hjl]
   have hrj : (List.range f.blocks[k].code.length)[j]? = some j := by simp [hjl]
   have hokj := hokb _ (List.getElem_mem hjl)
   obtain ⟨up, hup⟩ : ∃ u, u = j + 1 := ⟨_, rfl⟩
   have hwj : IntKind.i64.wrap ((j : Int) + 1) = (up : Int) := by rw [hup]; exact Jtoq (by omega)
   (simp (maxSteps := 1000000) [h3, hbj, Mach.row])
   (refine Jtt (Jtiw A f.blocks[k].code[j] f.regs f.slots hokj.1 hokj.2) (by rfl) (by rfl) ?_)
   (simp (maxSteps := 1000000) [])
   ((first | refine Xc (fun h4 => ?_) (fun h4 => ?_) | refine Xo (fun h4 => ?_) (fun h4 => ?_)) <;> (try simp only [Xz, Xy] at h4))
   ·(simp (maxSteps := 1000000) [h4])
    have e2 : mErr f.blocks[k].code f.regs f.slots j = Jtjp f.blocks[k].code[j] f.regs f.slots := by unfold mErr; rw [hbj]; simp only; rw [if_pos h4]
    have e3 : mErrs f.blocks[k].code f.regs f.slots = mErr f.blocks[k].code f.regs f.slots j := Jt8i hy (by simp [hjl]) (by rw [e2]; exact h4)
    have e4 : Jtjn f.blocks[k] f.regs f.slots f.blocks.length = Jtjp f.blocks[k].code[j] f.regs f.slots := by unfold Jtjn; rw [e3, e2, if_pos h4]
    have e5 : Jt8f (f.blocks.map fun b => Jtjn b f.regs f.slots f.blocks.length) = Jtjn f.blocks[k] f.regs f.slots f.blocks.length := Jt8i hz (by simp [hkl]) (by rw [e4]; exact h4)
    (first | exact hR _ _ FrA | exact hR _ _ FnA | exact hR _ _ (Xf (hq := by simp [AV.erase, AV.unview, e, e5, e4]; done)))
   ·have h4' : Jtjp f.blocks[k].code[j] f.regs f.slots = 0 := by simpa using h4
    (simp (maxSteps := 1000000) [h4])
    ((first | refine Xc (fun h5 => ?_) (fun h5 => ?_) | refine Xo (fun h5 => ?_) (fun h5 => ?_)) <;> (try simp only [Xz, Xy] at h5))
    ·obtain ⟨lo, hlo⟩ : ∃ u, u = j - 64 := ⟨_, rfl⟩
     have hj64 : 64 ≤ j := by omega
     have hwl : IntKind.i64.wrap ((j : Int) - 64) = (lo : Int) := by
      have e1 : (j : Int) - 64 = (lo : Int) := by omega
      rw [e1]; exact wrapN (by omega)
     have i1 : (lo : Int) ≤ (up : Int) := by omega
     have i2 : (up : Int) ≤ (f.blocks[k].code.length : Int) := by omega
     obtain ⟨sl, hsl⟩ : ∃ x, x = (f.blocks[k].code.take up).drop lo := ⟨_, rfl⟩
     have hsll : sl.length < 1000000000 := by rw [hsl]; simp; omega
     have hrows : ((f.blocks[k].code.map Mach.row).take up).drop lo = sl.map Mach.row := by rw [hsl, List.map_drop, List.map_take]
     have hmv := Jtix A sl hsll
     obtain ⟨mv, hmve⟩ : ∃ x, x = Jtjq sl := ⟨_, rfl⟩
     rw [← hmve] at hmv
     rw [hsl] at hmve
     (simp (maxSteps := 1000000) [h5, hwl, hwj, i1, i2, hrows, Jtg4])
     (refine Jtt hmv (by rfl) (by rfl) ?_)
     (simp (maxSteps := 1000000) [])
     ((first | refine Xc (fun h6 => ?_) (fun h6 => ?_) | refine Xo (fun h6 => ?_) (fun h6 => ?_)) <;> (try simp only [Xz, Xy] at h6))
     ·have e2 : mErr f.blocks[k].code f.regs f.slots j = 15 := by unfold mErr; rw [hbj]; simp only; rw [if_neg (by simpa using h4'), ← hlo, ← hup, ← hmve, if_pos ⟨hj64, by omega⟩]
      have e3 : mErrs f.blocks[k].code f.regs f.slots = mErr f.blocks[k].code f.regs f.slots j := Jt8i hy (by simp [hjl]) (by rw [e2]; decide)
      have e4 : Jtjn f.blocks[k] f.regs f.slots f.blocks.length = 15 := by unfold Jtjn; rw [e3, e2]; rfl
      have e5 : Jt8f (f.blocks.map fun b => Jtjn b f.regs f.slots f.blocks.length) = Jtjn f.blocks[k] f.regs f.slots f.blocks.length := Jt8i hz (by simp [hkl]) (by rw [e4]; decide)
      (simp (maxSteps := 1000000) [h6])
      (first | exact hR _ _ FrA | exact hR _ _ FnA | exact hR _ _ (Xf (hq := by simp [AV.erase, AV.unview, e, e5, e4]; done)))
     ·have e2 : mErr f.blocks[k].code f.regs f.slots j = 0 := by unfold mErr; rw [hbj]; simp only; rw [if_neg (by simpa using h4'), ← hlo, ← hup, ← hmve, if_neg (fun h => h6 (by omega))]
      (simp (maxSteps := 1000000) [h6, hwj])
      exact hN' _ up ⟨by omega, by rw [hup]; exact take_zero hy hrj e2⟩ (by (exact wkA)) (by omega)
    ·have e2 : mErr f.blocks[k].code f.regs f.slots j = 0 := by unfold mErr; rw [hbj]; simp only; rw [if_neg (by simpa using h4'), if_neg (fun h => h5 (by omega))]
     (simp (maxSteps := 1000000) [h5, hwj])
     exact hN' _ up ⟨by omega, by rw [hup]; exact take_zero hy hrj e2⟩ (by (exact wkA)) (by omega)
  ·have hj' : j = f.blocks[k].code.length := by simp at h3; omega
   subst hj'
   have hfe : mErrs f.blocks[k].code f.regs f.slots = 0 := Jt8g (by rw [List.take_of_length_le (by simp)] at hy; exact hy)
   have e3 : Jtjn f.blocks[k] f.regs f.slots f.blocks.length = Jtjs f.blocks[k].term f.regs f.blocks.length := by simp [Jtjn, hfe]
   (simp (maxSteps := 1000000) [])
   (refine Jtt (Jtir A f.blocks[k].term f.regs f.blocks.length) (by rfl) (by rfl) ?_)
   (simp (maxSteps := 1000000) [])
   ((first | refine Xc (fun h5 => ?_) (fun h5 => ?_) | refine Xo (fun h5 => ?_) (fun h5 => ?_)) <;> (try simp only [Xz, Xy] at h5))
   ·(simp (maxSteps := 1000000) [h5])
    have e4 : Jt8f (f.blocks.map fun b => Jtjn b f.regs f.slots f.blocks.length) = Jtjn f.blocks[k] f.regs f.slots f.blocks.length := Jt8i hz (by simp [hkl]) (by rw [e3]; exact h5)
    (first | exact hR _ _ FrA | exact hR _ _ FnA | exact hR _ _ (Xf (hq := by simp [AV.erase, AV.unview, e, e4, e3]; done)))
   ·(simp (maxSteps := 1000000) [h5, hw])
    exact hN _ (k + 1) ⟨hkl, take_zero hz hb (by rw [e3]; simpa using h5)⟩ (by (exact wkA)) (by omega)
 ·have hk' : k = f.blocks.length := by simp at h2; omega
  subst hk'
  have hfe : Jt8f (f.blocks.map fun b => Jtjn b f.regs f.slots f.blocks.length) = 0 := Jt8g (by rw [List.take_of_length_le (by simp)] at hz; exact hz)
  (simp (maxSteps := 1000000) [])
  (first | exact hR _ _ FrA | exact hR _ _ FnA | exact hR _ _ (Xf (hq := by simp [AV.erase, AV.unview, e, hfe]; done)))
end
structure Bd (most : Int) (m n : Nat) (s : CS) (r : CR) : Prop where
 steps : r.1.steps ≤ s.steps + n * (r.1.largest + 1)
 lg : s.largest ≤ r.1.largest
 set : r.1.set.length ≤ r.1.largest
 most : r.2 = none → (s.largest : Int) ≤ most → (r.1.largest : Int) ≤ most
 fail : ∀ e, r.2 = some e → e.1 ≠ 0 ∧ 0 ≤ e.2 ∧ e.2 ≤ m
section
variable {most : Int} {m : Nat} {s : CS}
theorem Bd.refl (h : s.set.length ≤ s.largest) : Bd most m 0 s (s, none) := ⟨by simp, Nat.le_refl _, h, fun _ h => h, fun e h => by cases h⟩
theorem Bd.mono {n n' : Nat} {r : CR} (h : Bd most m n s r) (hn : n ≤ n') : Bd most m n' s r :=
 ⟨Nat.le_trans h.steps (Nat.add_le_add_left (Nat.mul_le_mul_right _ hn) _), h.lg, h.set, h.most, h.fail⟩
theorem Bd.then {n1 n2 : Nat} {r : CR} {f : CS → CR} (h : Bd most m n1 s r) (hf : ∀ s1, r = (s1, none) → Bd most m n2 s1 (f s1)) : Bd most m (n1 + n2) s (thenC r f) := by
 obtain ⟨s1, e⟩ := r
 cases e with
 | some e => rw [Jtnr]; exact h.mono (by omega)
 | none =>
  rw [Jtnq]
  have h2 := hf s1 rfl
  refine ⟨?_, Nat.le_trans h.lg h2.lg, h2.set, fun hn hm => h2.most hn (h.most rfl hm), h2.fail⟩
  have k1 := h.steps
  have k2 := h2.steps
  have k3 := h2.lg
  simp only at k1 k3
  have k4 : n1 * (s1.largest + 1) ≤ n1 * ((f s1).1.largest + 1) := Nat.mul_le_mul_left _ (by omega)
  rw [Nat.add_mul]
  omega
theorem Bd.use {v t at_ : Int} (h : s.set.length ≤ s.largest) (h0 : 0 ≤ at_) (h1 : at_ ≤ m) : Bd most m 1 s (useC s v t at_) := by
 refine ⟨?_, Nat.le_refl _, h, fun _ h => h, fun e he => ?_⟩
 ·simp only [useC, costC]; omega
 ·simp only [useC] at he
  split at he
  ·cases he
  ·injection he with he; subst he; exact ⟨by simp, h0, h1⟩
theorem Bd.step {l : List Pair} {at_ : Int} (h : s.set.length ≤ s.largest) (h0 : 0 ≤ at_) (h1 : at_ ≤ m) : Bd most m 1 s (Jt5a most (costC s) l at_) := by
 refine ⟨?_, ?_, ?_, fun hn hm => ?_, fun e he => ?_⟩
 ·simp only [Jt5a, costC]; omega
 ·simp only [Jt5a, costC]; omega
 ·simp only [Jt5a, costC]; omega
 ·simp only [Jt5a, costC] at hn ⊢
  split at hn
  ·cases hn
  ·omega
 ·simp only [Jt5a] at he
  split at he
  ·injection he with he; subst he; exact ⟨by simp, h0, h1⟩
  ·cases he
theorem Jt72 {at_ : Int} (h0 : 0 ≤ at_) (h1 : at_ ≤ m) : ∀ {l : List Instr} {s : CS}, s.set.length ≤ s.largest → Bd most m l.length s (copyC most at_ l s) := by
 intro l
 induction l with
 | nil => intro s h; exact .refl h
 | cons i l ih =>
  intro s h
  simp only [copyC, List.length_cons]
  rw [Nat.add_comm]
  refine (Bd.step h h0 h1).then fun s1 hs1 => ih ?_
  have := (Bd.step (most := most) (m := m) (l := copyP s.set i.d i.a) h h0 h1).set
  rw [hs1] at this; exact this
theorem Jtg1 : ∀ {l : List Mach} {k : Nat} {s : CS}, k + l.length ≤ m → s.set.length ≤ s.largest → Bd most m l.length s (moveC most k l s) := by
 intro l
 induction l with
 | nil => intro k s _ h; exact .refl h
 | cons i l ih =>
  intro k s hk h
  simp only [moveC, List.length_cons] at hk ⊢
  rw [Nat.add_comm l.length 1]
  have hst := Bd.step (most := most) (m := m) (l := moveP s.set i.dst i.src) (at_ := k) h (by omega) (by omega)
  refine hst.then fun s1 hs1 => ih (by omega) ?_
  have := hst.set
  rw [hs1] at this; exact this
theorem Jtd9 {i : Instr} {x : Mach} {at_ : Int} (h : s.set.length ≤ s.largest) (h0 : 0 ≤ at_) (h1 : at_ ≤ m) : Bd most m 3 s (instrC most s i x at_) := by
 unfold instrC
 refine Bd.then (n1 := 1) (n2 := 2) ?_ fun s1 hs1 => Bd.then (n1 := 1) (n2 := 1) ?_ fun s2 hs2 => ?_
 ·split
  ·exact .use h h0 h1
  ·exact (Bd.refl h).mono (by omega)
 ·have k1 : s1.set.length ≤ s1.largest := by
   split at hs1
   ·have := (Bd.use (most := most) (m := m) (v := i.a) (t := regZ x.a) h h0 h1).set; rw [hs1] at this; exact this
   ·injection hs1 with hs1; subst hs1; exact h
  split
  ·exact .use k1 h0 h1
  ·exact (Bd.refl k1).mono (by omega)
 ·have k1 : s1.set.length ≤ s1.largest := by
   split at hs1
   ·have := (Bd.use (most := most) (m := m) (v := i.a) (t := regZ x.a) h h0 h1).set; rw [hs1] at this; exact this
   ·injection hs1 with hs1; subst hs1; exact h
  have k2 : s2.set.length ≤ s2.largest := by
   split at hs2
   ·have := (Bd.use (most := most) (m := m) (v := i.b) (t := regZ x.b) k1 h0 h1).set; rw [hs2] at this; exact this
   ·injection hs2 with hs2; subst hs2; exact k1
  split
  ·exact .step k2 h0 h1
  ·exact (Bd.refl k2).mono (by omega)
end
def costR (r : ARow) : Nat := (r.ct - r.cf) + (r.mt - r.mf) + if 0 ≤ r.src then 3 else 0
theorem Jtkl {most : Int} {b : List Instr} {mc : List Mach} {r : ARow} {s : CS} (h : s.set.length ≤ s.largest) (hr : RowOk b mc r) : Bd most mc.length (costR r) s (rowC most b mc r s) := by
 unfold rowC costR
 have hl1 : ((b.take r.ct).drop r.cf).length = r.ct - r.cf := by have := hr.hc; simp; omega
 have hl2 : ((mc.take r.mt).drop r.mf).length = r.mt - r.mf := by have := hr.hm; simp; omega
 have b1 := Jt72 (most := most) (m := mc.length) (at_ := r.mf) (by omega) (by have := hr.hm; omega) (l := (b.take r.ct).drop r.cf) h
 rw [hl1] at b1
 rw [Nat.add_assoc]
 refine b1.then fun s1 hs1 => ?_
 have k1 := b1.set
 rw [hs1] at k1
 have b2 := Jtg1 (most := most) (m := mc.length) (k := r.mf) (l := (mc.take r.mt).drop r.mf) (s := s1) (by have := hr.hm; rw [hl2]; omega) k1
 rw [hl2] at b2
 refine b2.then fun s2 hs2 => ?_
 have k2 := b2.set
 rw [hs2] at k2
 unfold lastC
 split
 ·rename_i h0
  obtain ⟨q1, q2, q3⟩ := hr.hs h0
  split
  ·exact Jtd9 k2 q2 (by omega)
  ·exact (Bd.refl k2).mono (by omega)
 ·exact (Bd.refl k2).mono (by omega)
def costRs (rs : List ARow) : Nat := (rs.map costR).sum
theorem Jtkv {most : Int} {b : List Instr} {mc : List Mach} : ∀ {rs : List ARow} {s : CS}, s.set.length ≤ s.largest → (∀ r ∈ rs, RowOk b mc r) → Bd most mc.length (costRs rs) s (rowsC most b mc rs s) := by
 intro rs
 induction rs with
 | nil => intro s h _; exact .refl h
 | cons r rs ih =>
  intro s h hr
  have b1 := Jtkl (most := most) h (hr r (by simp))
  have e : costRs (r :: rs) = costR r + costRs rs := by simp [costRs]
  rw [e]
  refine b1.then fun s1 hs1 => ih ?_ fun r hr' => hr r (by simp [hr'])
  have := b1.set
  rw [hs1] at this; exact this
theorem Jtl0 {most : Int} {b : Block} {m : MBlock} {rs : List ARow} {s : CS} (h : s.set.length ≤ s.largest) (hr : ∀ r ∈ rs, RowOk b.code m.code r) : Bd most m.code.length (costRs rs + 1) s (runC most b m rs s) := by
 unfold runC
 have b1 := Jtkv (most := most) h hr
 refine b1.then fun s1 hs1 => ?_
 have k1 := b1.set
 rw [hs1] at k1
 split
 ·exact (Bd.refl k1).mono (by omega)
 ·exact .use k1 (by omega) (by omega)
theorem Jt74 (a b : List ARow) : costRs (a ++ b) = costRs a + costRs b := by simp [costRs]
theorem Jt4l {code : List Instr} {mach : List Mach} : ∀ (f i k : Nat) (rows : List ARow), i ≤ code.length → k ≤ mach.length → costRs rows ≤ i + 3 * k →
  costRs (alignS code mach f i k rows).1 ≤ code.length + 3 * mach.length := by
 intro f
 induction f with
 | zero => intro i k rows hi hk h; simp [alignS, costRs]
 | succ f ih =>
  intro i k rows hi hk h
  have h1 := Jtll (f := isCopy) hi
  have h2 := Jtll (f := isMove) hk
  have h3 := Jtlk isCopy code i
  have h4 := Jtlk isMove mach k
  simp only [alignS]
  split
  ·rename_i hc
   rw [Jt74]
   simp only [costRs, List.map_cons, List.map_nil, List.sum_cons, List.sum_nil, costR] at h ⊢
   rw [if_neg (by omega)]
   omega
  ·split
   ·rename_i x y hx hy
    have hx' := (List.getElem?_eq_some_iff.1 hx).1
    have hy' := (List.getElem?_eq_some_iff.1 hy).1
    split
    ·refine ih _ _ _ hx' hy' ?_
     rw [Jt74]
     simp only [costRs, List.map_cons, List.map_nil, List.sum_cons, List.sum_nil, costR] at h ⊢
     rw [if_pos (by omega)]
     omega
    ·simp [costRs]
   ·simp [costRs]
theorem Jt4o (code : List Instr) (mach : List Mach) : costRs (alignZ code mach).1 ≤ code.length + 3 * mach.length := Jt4l _ 0 0 [] (Nat.zero_le _) (Nat.zero_le _) (by simp [costRs])
theorem Jt6d (b : Block) (m : MBlock) (l : List Pair) (most : Int) (hl : (makeP l).length ≤ l.length) : (checkZ b m l most).steps ≤ (3 * m.code.length + b.code.length + 1) * ((checkZ b m l most).largest + 1) ∧ l.length ≤ (checkZ b m l most).largest ∧
  (checkZ b m l most).out.length ≤ (checkZ b m l most).largest ∧ ((checkZ b m l most).err = 0 → ((checkZ b m l most).largest : Int) ≤ most) ∧ 0 ≤ (checkZ b m l most).at_ ∧ (checkZ b m l most).at_ ≤ m.code.length := by
 obtain ⟨a1, a2, a3⟩ := Jt4q b.code m.code
 have hc := Jt4o b.code m.code
 unfold checkZ
 split
 ·exact ⟨Nat.zero_le _, Nat.le_refl _, Nat.zero_le _, fun h => by simp at h, by simp, by simp⟩
 ·rename_i h1
  by_cases h2 : (if (alignZ b.code m.code).2.2 = 0 ∧ termsZ b.term m.term = false then 20 else (alignZ b.code m.code).2.2) ≠ 0
  ·simp only [if_pos h2]
   exact ⟨Nat.zero_le _, Nat.le_refl _, Nat.zero_le _, fun h => absurd h h2, by simp, by simpa using a3⟩
  ·simp only [if_neg h2]
   have hb := Jtl0 (most := most) (b := b) (m := m) (rs := (alignZ b.code m.code).1) (s := ⟨makeP l, 0, l.length⟩) hl a1
   generalize runC most b m (alignZ b.code m.code).1 ⟨makeP l, 0, l.length⟩ = r at hb
   obtain ⟨t, e⟩ := r
   obtain ⟨k1, k2, k3, k4, k5⟩ := hb
   simp only at k1 k2 k3 k4 k5 ⊢
   refine ⟨?_, k2, ?_, fun h => ?_, ?_, ?_⟩
   ·have : (costRs (alignZ b.code m.code).1 + 1) * (t.largest + 1) ≤ (3 * m.code.length + b.code.length + 1) * (t.largest + 1) := Nat.mul_le_mul_right _ (by omega)
    omega
   ·split
    ·exact k3
    ·simp
   ·cases e with
    | none => exact k4 rfl (by omega)
    | some e => exact absurd h (k5 e rfl).1
   ·cases e with
    | none => simp [runE]
    | some e => exact (k5 e rfl).2.1
   ·cases e with
    | none => simp [runE]
    | some e => exact (k5 e rfl).2.2
def smallZ (b : Block) (m : MBlock) (regs slots : Int) : Prop :=
 ¬ (60 : Int) < (b.code.length : Int) ∧ ¬ (200 : Int) < (m.code.length : Int) ∧ ¬ 20 < regs ∧ ¬ 20 < slots ∧ ¬ 30 < b.term.to ∧ ¬ 30 < b.term.els ∧ ¬ 30 < m.term.to ∧ ¬ 30 < m.term.els ∧ ¬ b.term.to < 0 ∧ ¬ b.term.els < 0
instance (b : Block) (m : MBlock) (regs slots : Int) : Decidable (smallZ b m regs slots) := by unfold smallZ; infer_instance
section
end
def idxF {α : Type} (f : α → Bool) (l : List α) : Nat → Nat → List Nat
 | 0, _ => []
 | n + 1, i => match l[i]? with
  | some x => if f x = true then idxF f l n (i + 1) else i :: idxF f l n (i + 1)
  | none => []
def idxA {α : Type} (f : α → Bool) (l : List α) (i : Nat) : List Nat := idxF f l (l.length - i) i
theorem Jtcz {α : Type} {f : α → Bool} {l : List α} {i : Nat} (h : l.length ≤ i) : idxA f l i = [] := by
 unfold idxA; rw [show l.length - i = 0 by omega]; rfl
theorem idxA_t {α : Type} {f : α → Bool} {l : List α} {i : Nat} (h : i < l.length) (hf : f l[i] = true) : idxA f l i = idxA f l (i + 1) := by
 unfold idxA
 rw [show l.length - i = (l.length - (i + 1)) + 1 by omega]
 simp only [idxF, List.getElem?_eq_getElem h, hf, if_true]
theorem idxA_f {α : Type} {f : α → Bool} {l : List α} {i : Nat} (h : i < l.length) (hf : f l[i] = false) : idxA f l i = i :: idxA f l (i + 1) := by
 unfold idxA
 rw [show l.length - i = (l.length - (i + 1)) + 1 by omega]
 simp only [idxF, List.getElem?_eq_getElem h, hf, Bool.false_eq_true, if_false]
theorem Jtd1 {α : Type} {f : α → Bool} {l : List α} : ∀ {n i : Nat}, l.length - i = n → i ≤ l.length → (skipW f l i < l.length ∧ idxA f l i = skipW f l i :: idxA f l (skipW f l i + 1)) ∨ (skipW f l i = l.length ∧ idxA f l i = []) := by
 intro n
 induction n with
 | zero =>
  intro i hn hi
  have : i = l.length := by omega
  subst this
  exact .inr ⟨Jtli (Nat.le_refl _), Jtcz (Nat.le_refl _)⟩
 | succ n ih =>
  intro i hn hi
  have hil : i < l.length := by omega
  cases hf : f l[i] with
  | true =>
   rw [Jtlm hil hf, idxA_t hil hf]
   exact ih (by omega) (by omega)
  | false =>
   rw [Jtlj hil hf]
   exact .inl ⟨hil, idxA_f hil hf⟩
theorem Jtd0 {α : Type} {f : α → Bool} {l : List α} : ∀ {n i : Nat}, l.length - i = n → (idxA f l i).length ≤ n := by
 intro n
 induction n with
 | zero => intro i hn; rw [Jtcz (by omega)]; simp
 | succ n ih =>
  intro i hn
  have hil : i < l.length := by omega
  have := ih (i := i + 1) (by omega)
  cases hf : f l[i] with
  | true => rw [idxA_t hil hf]; omega
  | false => rw [idxA_f hil hf]; simp only [List.length_cons]; omega
def natsD (l : List Nat) : List (List D) := l.map fun (n : Nat) => [D.int .i64 (n : Int)]
section
theorem Jtj8 {P : Program} {p : Nums} (A : All P p) (i : Instr) (m : Mach) : Jt3o P p.ref13_Same [i.av, m.av] [] fun o _ => o = .ret (AB (sameI i m)) := by
 refine A.ref13_Same.run rfl fun R hR => ?_
 have hs : sameI i m = sameI i m := rfl
 conv at hs => rhs; unfold sameI
 cases h1 : i.op == m.op <;> cases h2 : i.imm == m.imm <;> cases h3 : i.op != 2 <;> cases h4 : i.op != 18 <;> simp only [h1, h2, h3, h4, Bool.and_true, Bool.and_false, Bool.false_and, Bool.and_self] at hs <;>
  (simp (maxSteps := 1000000) [Jtcb, Instr.av, Mach.av, h1, h2, h3, h4]) <;> (first | exact hR _ _ FrA | exact hR _ _ FnA | exact hR _ _ (Xf (hq := by simp [AV.erase, AV.unview, hs]; done)))
theorem Jtj9 {P : Program} {p : Nums} (A : All P p) (a b : Term) : Jt3o P p.ref13_Terms [a.av, b.av] [] fun o _ => o = .ret (AB (termsZ a b)) := by
 refine A.ref13_Terms.run rfl fun R hR => ?_
 have hs : termsZ a b = termsZ a b := rfl
 conv at hs => rhs; unfold termsZ
 cases h1 : a.kind == b.kind <;> cases h2 : a.to == b.to <;> cases h3 : a.els == b.els <;> simp only [h1, h2, h3, Bool.and_true, Bool.and_false, Bool.false_and, Bool.and_self] at hs <;>
  (simp (maxSteps := 1000000) [Jtcc, Term.av, h1, h2, h3, eqD]) <;> (first | exact hR _ _ FrA | exact hR _ _ FnA | exact hR _ _ (Xf (hq := by simp [AV.erase, AV.unview, hs]; done)))
theorem Jtj6 {P : Program} {p : Nums} (A : All P p) (l : List Instr) (h0 : l.length < 1000000) : Jt3o P p.ref13_Operations [.d (.sl (l.map Instr.row))] [] fun o _ => o = .ret (.d (.sl (natsD (idxA isCopy l 0)))) := by
 refine A.ref13_Operations.run rfl fun R hR => ?_
 obtain ⟨T, hT⟩ : ∃ T, T = idxA isCopy l 0 := ⟨_, rfl⟩
 rw [← hT] at hR
 (simp (maxSteps := 1000000) [Jtc9])
 refine Jt9 (fun x : Nat × List Nat => ⟨[(4, AI x.1), (3, .own 1 (natsD x.2)), (0, .d (.sl (l.map Instr.row)))], []⟩) (fun x => x.1 ≤ l.length ∧ x.2 ++ idxA isCopy l x.1 = T ∧ x.2.length ≤ x.1) (fun x => l.length - x.1) (0, []) (by simp [hT]) (by simp only [natsD, List.map_nil]; (exact wkA)) ?_
 rintro ⟨k, acc⟩ ⟨hk, hs, hl⟩ N hN
 simp only at hk hs hl
 (simp (maxSteps := 1000000) [])
 ((first | refine Xc (fun h2 => ?_) (fun h2 => ?_) | refine Xo (fun h2 => ?_) (fun h2 => ?_)) <;> (try simp only [Xz, Xy] at h2))
 ·have hkl : k < l.length := by simpa using h2
  have hki : l[k]? = some l[k] := by simp [hkl]
  have hw := Jtoq (k := k) (by omega)
  obtain ⟨F, hF⟩ : ∃ F, F = natsD acc := ⟨_, rfl⟩
  have hFl : F.length = acc.length := by rw [hF]; simp [natsD]
  rw [← hF]
  by_cases hc : l[k].op = 2
  ·have hcc : isCopy l[k] = true := by simp [isCopy, hc]
   rw [idxA_t hkl hcc] at hs
   (simp (maxSteps := 1000000) [h2, List.getElem?_map, hki, Instr.row, hc, hw])
   exact hN _ (k + 1, acc) ⟨hkl, hs, by simp only; omega⟩ (by simp only [← hF]; (exact wkA)) (by simp only; omega)
  ·have hcc : isCopy l[k] = false := by simp [isCopy, hc]
   rw [idxA_f hkl hcc] at hs
   (simp (maxSteps := 1000000) [h2, List.getElem?_map, hki, Instr.row, hc])
   (refine Jt16 (by rfl) (by rfl) (by rfl) ?_ (by decide) ?_ ?_ ?_)
   ·simp
   ·simp; omega
   ·simp; omega
   (simp (maxSteps := 1000000) [hw])
   exact hN _ (k + 1, acc ++ [k]) ⟨hkl, by simpa using hs, by simp only [List.length_append, List.length_singleton]; omega⟩ (by simp only [natsD, List.map_append, List.map_cons, List.map_nil]; simp only [natsD] at hF; rw [← hF]; (exact wkA)) (by simp only; omega)
 ·have hkl : l.length ≤ k := by simpa using h2
  rw [Jtcz hkl, List.append_nil] at hs
  (simp (maxSteps := 1000000) [h2])
  refine hR _ _ (Jt3u _ _ rfl (by (exact wkvA)) ?_)
  rw [hs]; rfl
theorem Jtj7 {P : Program} {p : Nums} (A : All P p) (l : List Mach) (h0 : l.length < 1000000) : Jt3o P p.ref13_Others [.d (.sl (l.map Mach.row))] [] fun o _ => o = .ret (.d (.sl (natsD (idxA isMove l 0)))) := by
 refine A.ref13_Others.run rfl fun R hR => ?_
 obtain ⟨T, hT⟩ : ∃ T, T = idxA isMove l 0 := ⟨_, rfl⟩
 rw [← hT] at hR
 (simp (maxSteps := 1000000) [Jtca])
 refine Jt9 (fun x : Nat × List Nat => ⟨[(4, AI x.1), (3, .own 1 (natsD x.2)), (0, .d (.sl (l.map Mach.row)))], []⟩) (fun x => x.1 ≤ l.length ∧ x.2 ++ idxA isMove l x.1 = T ∧ x.2.length ≤ x.1) (fun x => l.length - x.1) (0, []) (by simp [hT]) (by simp only [natsD, List.map_nil]; (exact wkA)) ?_
 rintro ⟨k, acc⟩ ⟨hk, hs, hl⟩ N hN
 simp only at hk hs hl
 (simp (maxSteps := 1000000) [])
 ((first | refine Xc (fun h2 => ?_) (fun h2 => ?_) | refine Xo (fun h2 => ?_) (fun h2 => ?_)) <;> (try simp only [Xz, Xy] at h2))
 ·have hkl : k < l.length := by simpa using h2
  have hki : l[k]? = some l[k] := by simp [hkl]
  have hw := Jtoq (k := k) (by omega)
  obtain ⟨F, hF⟩ : ∃ F, F = natsD acc := ⟨_, rfl⟩
  have hFl : F.length = acc.length := by rw [hF]; simp [natsD]
  rw [← hF]
  by_cases hc : l[k].op = 18
  ·have hcc : isMove l[k] = true := by simp [isMove, hc]
   rw [idxA_t hkl hcc] at hs
   (simp (maxSteps := 1000000) [h2, List.getElem?_map, hki, Mach.row, hc, hw])
   exact hN _ (k + 1, acc) ⟨hkl, hs, by simp only; omega⟩ (by simp only [← hF]; (exact wkA)) (by simp only; omega)
  ·have hcc : isMove l[k] = false := by simp [isMove, hc]
   rw [idxA_f hkl hcc] at hs
   (simp (maxSteps := 1000000) [h2, List.getElem?_map, hki, Mach.row, hc])
   (refine Jt16 (by rfl) (by rfl) (by rfl) ?_ (by decide) ?_ ?_ ?_)
   ·simp
   ·simp; omega
   ·simp; omega
   (simp (maxSteps := 1000000) [hw])
   exact hN _ (k + 1, acc ++ [k]) ⟨hkl, by simpa using hs, by simp only [List.length_append, List.length_singleton]; omega⟩ (by simp only [natsD, List.map_append, List.map_cons, List.map_nil]; simp only [natsD] at hF; rw [← hF]; (exact wkA)) (by simp only; omega)
 ·have hkl : l.length ≤ k := by simpa using h2
  rw [Jtcz hkl, List.append_nil] at hs
  (simp (maxSteps := 1000000) [h2])
  refine hR _ _ (Jt3u _ _ rfl (by (exact wkvA)) ?_)
  rw [hs]; rfl
end
theorem Jtg7 {l : List Nat} {n : Nat} (h : n < l.length) : (natsD l)[n]? = some [D.int .i64 (l[n] : Int)] := by simp [natsD, h]
section
set_option maxHeartbeats 2000000 in
theorem Jtj5 {P : Program} {p : Nums} (A : All P p) (code : List Instr) (mach : List Mach) (h0 : code.length < 500000) (h1 : mach.length < 500000) : Jt3o P p.ref13_Code [.d (.sl (code.map Instr.row)), .d (.sl (mach.map Mach.row))] []
  fun o _ => o = .ret (.tup [.d (.sl ((alignZ code mach).1.map ARow.row)), AI (alignZ code mach).2.1, AI (alignZ code mach).2.2]) := by
 refine A.ref13_Code.run rfl fun R hR => ?_
 obtain ⟨T, hT⟩ : ∃ T, T = alignZ code mach := ⟨_, rfl⟩
 rw [← hT] at hR
 have ho := Jtj6 A code (by omega)
 have ht := Jtj7 A mach (by omega)
 have hal := Jtd0 (f := isCopy) (l := code) (n := code.length) (i := 0) (by omega)
 have hbl := Jtd0 (f := isMove) (l := mach) (n := mach.length) (i := 0) (by omega)
 obtain ⟨a, ha⟩ : ∃ a, a = idxA isCopy code 0 := ⟨_, rfl⟩
 obtain ⟨b, hb⟩ : ∃ b, b = idxA isMove mach 0 := ⟨_, rfl⟩
 rw [← ha] at ho hal
 rw [← hb] at ht hbl
 have hlenA : (natsD a).length = a.length := by simp [natsD]
 have hlenB : (natsD b).length = b.length := by simp [natsD]
 (simp (maxSteps := 1000000) [Jtc8])
 (refine Jtt ho (by rfl) (by rfl) ?_)
 (simp (maxSteps := 1000000) [])
 (refine Jtt ht (by rfl) (by rfl) ?_)
 (simp (maxSteps := 1000000) [])
 refine Jt9 (fun x : Nat × Nat × Nat × List ARow => ⟨[(12, AI x.1), (10, AI x.2.1), (11, AI x.2.2.1), (9, .own 6 (x.2.2.2.map ARow.row)), (7, .d (.sl (natsD a))), (8, .d (.sl (natsD b))), (0, .d (.sl (code.map Instr.row))), (1, .d (.sl (mach.map Mach.row)))], []⟩)
  (fun x => x.1 ≤ b.length ∧ x.1 ≤ x.2.1 ∧ x.2.1 ≤ code.length ∧ x.2.2.1 ≤ mach.length ∧ a.drop x.1 = idxA isCopy code x.2.1 ∧ b.drop x.1 = idxA isMove mach x.2.2.1 ∧ x.2.2.2.length = x.1 ∧ alignS code mach (code.length - x.1 + 1) x.2.1 x.2.2.1 x.2.2.2 = T)
  (fun x => b.length - x.1) (0, 0, 0, []) (by simp [hT, alignZ, ha, hb]) (by simp only [List.map_nil]; (exact wkA)) ?_
 rintro ⟨n, i, k, rows⟩ ⟨hnb, hni, hi, hk, hda, hdb, hrl, hS⟩ N hN
 simp only at hnb hni hi hk hda hdb hrl hS
 have hsa := Jtd1 (f := isCopy) (l := code) rfl hi
 have hsb := Jtd1 (f := isMove) (l := mach) rfl hk
 rw [← hda] at hsa
 rw [← hdb] at hsb
 simp only [alignS] at hS
 obtain ⟨si, hsi⟩ : ∃ x, x = skipW isCopy code i := ⟨_, rfl⟩
 obtain ⟨sk, hsk⟩ : ∃ x, x = skipW isMove mach k := ⟨_, rfl⟩
 have hige := Jtlk isCopy code i
 rw [← hsi] at hsa hS hige
 rw [← hsk] at hsb hS
 obtain ⟨F, hF⟩ : ∃ F, F = rows.map ARow.row := ⟨_, rfl⟩
 have hFl : F.length = rows.length := by rw [hF]; simp
 rw [← hF]
 (simp (maxSteps := 1000000) [hlenB])
 ((first | refine Xc (fun h2 => ?_) (fun h2 => ?_) | refine Xo (fun h2 => ?_) (fun h2 => ?_)) <;> (try simp only [Xz, Xy] at h2))
 ·have hnl : n < b.length := by simpa using h2
  have hbn := Jtg7 hnl
  have hdn := Jt7j hnl
  obtain ⟨hskl, hskc⟩ := hsb.resolve_right (fun h => by have := h.2; rw [hdn] at this; cases this)
  rw [hdn] at hskc
  injection hskc with hbe hdb'
  have hki : mach[sk]? = some mach[sk] := by simp [hskl]
  rw [if_neg (by omega)] at hS
  (simp (maxSteps := 1000000) [h2, hlenA])
  rcases hsa with ⟨hsil, hsic⟩ | ⟨hsie, hsin⟩
  ·have hnal : n < a.length := by
    have := congrArg List.length hsic
    simp at this; omega
   have hna : ¬ (a.length : Int) ≤ (n : Int) := by omega
   have hnaN : ¬ a.length ≤ n := by omega
   have han := Jtg7 hnal
   rw [Jt7j hnal] at hsic
   injection hsic with hae hda'
   have hci : code[si]? = some code[si] := by simp [hsil]
   rw [hci, hki] at hS
   simp only at hS
   rw [hae] at han
   rw [hbe] at hbn
   have hbn' : (natsD b)[n] = [D.int .i64 (sk : Int)] := by
    have := hbn; rw [List.getElem?_eq_some_iff] at this; exact this.2
   have hw1 := Jtoq (k := si) (by omega)
   have hw2 := Jtoq (k := sk) (by omega)
   have hw3 := Jtoq (k := n) (by omega)
   (simp (maxSteps := 1000000) [hna, hnaN, hlenA, hlenB, han, hbn, List.getElem?_map, hci, hki, Instr.row, Mach.row])
   (refine Jtt (Jtj8 A code[si] mach[sk]) (by rfl) (by rfl) ?_)
   cases hs : sameI code[si] mach[sk] with
   | false =>
    rw [hs] at hS
    simp only [Bool.false_eq_true, if_false] at hS
    (simp (maxSteps := 1000000) [hs, hbn])
    refine hR _ _ (Jt3u (.tup [.nils, AI sk, AI 20]) (.tup [.d (.sl []), AI sk, AI 20]) rfl (by (exact wkvA)) ?_)
    rw [← hS]; rfl
   | true =>
    rw [hs, if_pos rfl] at hS
    (simp (maxSteps := 1000000) [hs, han, hbn])
    (refine Jt16 (by rfl) (by rfl) (by rfl) ?_ (by decide) ?_ ?_ ?_)
    ·simp
    ·simp; omega
    ·simp; omega
    (simp (maxSteps := 1000000) [han, hbn, hw1, hw2, hw3])
    refine hN _ (n + 1, si + 1, sk + 1, rows ++ [⟨i, si, k, sk, si, sk⟩]) ⟨hnl, by simp only; omega, hsil, hskl, hda', hdb', by simp [hrl], ?_⟩ (by simp only [List.map_append, List.map_cons, List.map_nil, ← hF, ARow.row]; (exact wkA)) (by simp only; omega)
    simp only
    rw [show code.length - (n + 1) + 1 = code.length - n by omega]; exact hS
  ·have hnal : a.length ≤ n := by
    have := congrArg List.length hsin
    simp at this; omega
   have hna : (a.length : Int) ≤ (n : Int) := by omega
   have hnaN : a.length ≤ n := by omega
   have hc : code[si]? = none := List.getElem?_eq_none (by omega)
   rw [hc] at hS
   simp only at hS
   rw [hbe] at hbn
   (simp (maxSteps := 1000000) [hna, hnaN, hlenA, hbn])
   refine hR _ _ (Jt3u (.tup [.nils, AI sk, AI 20]) (.tup [.d (.sl []), AI sk, AI 20]) rfl (by (exact wkvA)) ?_)
   rw [← hS]; rfl
 ·have hnl : n = b.length := by simp at h2; omega
  have hske : sk = mach.length := by
   rcases hsb with ⟨_, h⟩ | ⟨h, _⟩
   ·rw [hnl, List.drop_length] at h; cases h
   ·exact h
  (simp (maxSteps := 1000000) [h2, hlenA, hlenB])
  rcases hsa with ⟨hsil, hsic⟩ | ⟨hsie, hsin⟩
  ·have hnal : n < a.length := by
    have := congrArg List.length hsic
    simp at this; omega
   have hba : b.length < a.length := by omega
   have hci : code[si]? = some code[si] := by simp [hsil]
   have hc : mach[sk]? = none := List.getElem?_eq_none (by omega)
   rw [if_neg (by omega), hci, hc] at hS
   simp only at hS
   (simp (maxSteps := 1000000) [hba])
   refine hR _ _ (Jt3u (.tup [.nils, AI mach.length, AI 20]) (.tup [.d (.sl []), AI mach.length, AI 20]) rfl (by (exact wkvA)) ?_)
   rw [← hS, hske]; rfl
  ·have hnal : a.length ≤ n := by
    have := congrArg List.length hsin
    simp at this; omega
   have hba : ¬ b.length < a.length := by omega
   rw [if_pos ⟨hsie, hske⟩] at hS
   (simp (maxSteps := 1000000) [hba])
   (refine Jt16 (by rfl) (by rfl) (by rfl) ?_ (by decide) ?_ ?_ ?_)
   ·simp
   ·simp; omega
   ·simp; omega
   (simp (maxSteps := 1000000) [])
   refine hR _ _ (Jt3u _ _ rfl (by (exact wkvA)) ?_)
   rw [← hS]
   simp [hF, ARow.row, hsie, hske]
end
def resR (r : CR) : List AV := match r.2 with
 | none => [.d (pairsD r.1.set), AI 0, AI 0, AI r.1.steps, AI r.1.largest]
 | some e => [.d (.sl []), AI e.1, AI e.2, AI r.1.steps, AI r.1.largest]
section
theorem Jtjb {P : Program} {p : Nums} (A : All P p) (l : D) (a b c d e x : Int) : Jt3o P p.ref14_fail [.agg [.d l, AI a, AI b, AI c, AI d], AI e, AI x] [] fun o _ => o = .ret (.agg [.d (.sl []), AI e, AI x, AI c, AI d]) := by
 refine A.ref14_fail.run rfl fun R hR => ?_
 (simp (maxSteps := 1000000) [Jtce])
 exact hR _ _ (Jt3u (.agg [.nils, AI e, AI x, AI c, AI d]) _ rfl (by (exact wkvA)) rfl)
theorem Jtjd {P : Program} {p : Nums} (A : All P p) (s : CS) (l : List Pair) (most at_ : Int) (h0 : s.set.length < 100000) (h1 : s.steps < 1000000000000000000) (h2 : l.length < 100000) (h3 : s.largest < 100000) :
  Jt3o P p.ref14_grow [.agg (resR (s, none)), .d (pairsD l), AI most, AI at_] [] fun o _ => o = .ret (.agg (resR (Jt5a most (costC s) l at_))) := by
 refine A.ref14_grow.run rfl fun R hR => ?_
 obtain ⟨u, n, g⟩ := s
 simp only at h0 h1 h3
 have e1 : IntKind.i64.wrap ((n : Int) + 1) = ((n + 1 : Nat) : Int) := Jtoq (by omega)
 have e2 : IntKind.i64.wrap ((n : Int) + 1 + (u.length : Int)) = ((n + 1 + u.length : Nat) : Int) := by have := Jtop (a := n + 1) (b := u.length) (by omega); simpa using this
 obtain ⟨T, hT⟩ : ∃ T, T = Jt5a most (costC ⟨u, n, g⟩) l at_ := ⟨_, rfl⟩
 rw [← hT] at hR
 simp only [Jt5a, costC] at hT
 obtain ⟨st, hst⟩ : ∃ st, st = n + 1 + u.length := ⟨_, rfl⟩
 rw [← hst] at e2 hT
 have hf := fun (g' : Nat) => Jtjb A (pairsD l) 0 0 (st : Int) (g' : Int) 24 at_
 simp only [pairsD] at hf
 (simp (maxSteps := 1000000) [Jtcf, resR, pairsD, e1, e2])
 by_cases hg : g < l.length
 ·have hg' : g < l.length := by omega
  have hmx : max g l.length = l.length := by omega
  rw [hmx] at hT
  by_cases hm : most < (l.length : Int)
  ·rw [if_pos hm] at hT
   (simp (maxSteps := 1000000) [hg', hm])
   (refine Jtt (hf l.length) (by rfl) (by rfl) ?_)
   (simp (maxSteps := 1000000) [])
   refine hR _ _ (Jt3u _ _ rfl (by (exact wkvA)) ?_)
   rw [hT]; rfl
  ·rw [if_neg hm] at hT
   (simp (maxSteps := 1000000) [hg', hm])
   refine hR _ _ (Jt3u _ _ rfl (by (exact wkvA)) ?_)
   rw [hT]; rfl
 ·have hg' : ¬ g < l.length := by omega
  have hmx : max g l.length = g := by omega
  rw [hmx] at hT
  by_cases hm : most < (l.length : Int)
  ·rw [if_pos hm] at hT
   (simp (maxSteps := 1000000) [hg', hm])
   (refine Jtt (hf g) (by rfl) (by rfl) ?_)
   (simp (maxSteps := 1000000) [])
   refine hR _ _ (Jt3u _ _ rfl (by (exact wkvA)) ?_)
   rw [hT]; rfl
  ·rw [if_neg hm] at hT
   (simp (maxSteps := 1000000) [hg', hm])
   refine hR _ _ (Jt3u _ _ rfl (by (exact wkvA)) ?_)
   rw [hT]; rfl
theorem Jtjf {P : Program} {p : Nums} (A : All P p) (s : CS) (v reg at_ : Int) (h0 : s.set.length < 100000) (h1 : s.steps < 1000000000000000000) :
  Jt3o P p.ref14_use [.agg (resR (s, none)), AI v, AI reg, AI at_] [] fun o _ => o = .ret (.agg (resR (useC s v (regZ reg) at_))) := by
 refine A.ref14_use.run rfl fun R hR => ?_
 obtain ⟨u, n, g⟩ := s
 simp only at h0 h1
 have e1 : IntKind.i64.wrap ((n : Int) + 1) = ((n + 1 : Nat) : Int) := Jtoq (by omega)
 have e2 : IntKind.i64.wrap ((n : Int) + 1 + (u.length : Int)) = ((n + 1 + u.length : Nat) : Int) := by have := Jtop (a := n + 1) (b := u.length) (by omega); simpa using this
 obtain ⟨T, hT⟩ : ∃ T, T = useC ⟨u, n, g⟩ v (regZ reg) at_ := ⟨_, rfl⟩
 rw [← hT] at hR
 simp only [useC, costC] at hT
 obtain ⟨st, hst⟩ : ∃ st, st = n + 1 + u.length := ⟨_, rfl⟩
 rw [← hst] at e2 hT
 have hf := Jtjb A (pairsD u) 0 0 (st : Int) (g : Int) 21 at_
 simp only [pairsD] at hf
 have hh := Jtiz A u ⟨v, regZ reg⟩ (by omega)
 simp only [pairsD, Pair.av, regZ] at hh
 (simp (maxSteps := 1000000) [Jtcg, resR, pairsD, e1, e2])
 (refine Jtt hh (by rfl) (by rfl) ?_)
 by_cases hm : (⟨v, regZ reg⟩ : Pair) ∈ u
 ·rw [if_pos hm] at hT
  simp only [regZ] at hm
  (simp (maxSteps := 1000000) [hm])
  refine hR _ _ (Jt3u _ _ rfl (by (exact wkvA)) ?_)
  rw [hT]; rfl
 ·rw [if_neg hm] at hT
  simp only [regZ] at hm
  (simp (maxSteps := 1000000) [hm])
  (refine Jtt hf (by rfl) (by rfl) ?_)
  (simp (maxSteps := 1000000) [])
  refine hR _ _ (Jt3u _ _ rfl (by (exact wkvA)) ?_)
  rw [hT]; rfl
end
theorem Jtno (r : CR) (f g : CS → CR) : thenC (thenC r f) g = thenC r fun s => thenC (f s) g := by
 obtain ⟨s, e⟩ := r
 cases e <;> rfl
theorem Jtnp (r : CR) : thenC r (fun s => (s, none)) = r := by
 obtain ⟨s, e⟩ := r
 cases e <;> rfl
def okC (r : CR) : Prop := ∀ e, r.2 = some e → e.1 ≠ 0
theorem Jtgp (s : CS) : okC (s, none) := fun e h => by cases h
theorem okC.then {r : CR} {f : CS → CR} (h : okC r) (hf : ∀ s, okC (f s)) : okC (thenC r f) := by
 obtain ⟨s, e⟩ := r
 cases e with
 | none => exact hf s
 | some e => exact h
theorem Jtgk (most : Int) (s : CS) (l : List Pair) (at_ : Int) : okC (Jt5a most s l at_) := by
 intro e he
 simp only [Jt5a] at he
 split at he
 ·injection he with he; subst he; simp
 ·cases he
theorem Jtgr (s : CS) (v t at_ : Int) : okC (useC s v t at_) := by
 intro e he
 simp only [useC] at he
 split at he
 ·cases he
 ·injection he with he; subst he; simp
theorem Jtgl (most at_ : Int) : ∀ (l : List Instr) (s : CS), okC (copyC most at_ l s) := by
 intro l
 induction l with
 | nil => intro s; exact Jtgp s
 | cons i l ih => intro s; exact (Jtgk _ _ _ _).then fun s => ih s
theorem Jtgo (most : Int) : ∀ (l : List Mach) (k : Nat) (s : CS), okC (moveC most k l s) := by
 intro l
 induction l with
 | nil => intro k s; exact Jtgp s
 | cons i l ih => intro k s; exact (Jtgk _ _ _ _).then fun s => ih _ s
theorem Jtgm (most : Int) (s : CS) (i : Instr) (m : Mach) (at_ : Int) : okC (instrC most s i m at_) := by
 unfold instrC
 refine okC.then ?_ fun s => okC.then ?_ fun s => ?_
 ·split
  ·exact Jtgr _ _ _ _
  ·exact Jtgp _
 ·split
  ·exact Jtgr _ _ _ _
  ·exact Jtgp _
 ·split
  ·exact Jtgk _ _ _ _
  ·exact Jtgp _
theorem Jtgn (most : Int) (b : List Instr) (m : List Mach) (r : ARow) (s : CS) : okC (lastC most b m r s) := by
 unfold lastC
 split
 ·split
  ·exact Jtgm _ _ _ _ _
  ·exact Jtgp _
 ·exact Jtgp _
theorem Jtgq (most : Int) (b : List Instr) (m : List Mach) (r : ARow) (s : CS) : okC (rowC most b m r s) := (Jtgl _ _ _ _).then fun s => (Jtgo _ _ _ _).then fun s => Jtgn _ _ _ _ _
theorem Jt4p (code : List Instr) (mach : List Mach) : (alignZ code mach).2.2 = 0 ∨ (alignZ code mach).2.2 = 20 := by
 have : ∀ (f i k : Nat) (rows : List ARow), (alignS code mach f i k rows).2.2 = 0 ∨ (alignS code mach f i k rows).2.2 = 20 := by
  intro f
  induction f with
  | zero => intro i k rows; exact .inr rfl
  | succ f ih =>
   intro i k rows
   simp only [alignS]
   split
   ·exact .inl rfl
   ·split
    ·split
     ·exact ih _ _ _
     ·exact .inr rfl
    ·exact .inr rfl
 exact this _ _ _ _
theorem Jt4m {code : List Instr} {mach : List Mach} : ∀ (f i k : Nat) (rows : List ARow), (alignS code mach f i k rows).2.2 = 0 → (alignS code mach f i k rows).2.1 = mach.length := by
 intro f
 induction f with
 | zero => intro i k rows h; simp [alignS] at h
 | succ f ih =>
  intro i k rows
  simp only [alignS]
  split
  ·rename_i h; intro _; exact h.2
  ·split
   ·split
    ·exact ih _ _ _
    ·intro h; simp at h
   ·intro h; simp at h
def F14 (code : List Instr) (kind ta to els : Int) (mcode : List Mach) (mkind mta mto mels most : Int) (rows : List ARow) (x : Nat × CR) : ASt :=
 ⟨[(14, AI x.1), (13, AI mcode.length), (10, .d (.sl (rows.map ARow.row))), (9, .ptr 3 0), (8, .ptr 2 0), (5, .ptr 1 0), (4, .ptr 0 0), (3, AI most)],
  [.mem [.d (.sl (code.map Instr.row)), AI kind, AI ta, AI to, AI els], .mem [.d (.sl (mcode.map Mach.row)), AI mkind, AI mta, AI mto, AI mels], .mem [.nils, AI 0, AI 0, AI 0, AI 0], .mem (resR x.2)]⟩
structure Inv14 (V L : List Int) (most : Int) (code : List Instr) (mcode : List Mach) (rows : List ARow) (T : CR) (x : Nat × CR) : Prop where
 le : x.1 ≤ rows.length
 eq : thenC x.2 (rowsC most code mcode (rows.drop x.1)) = T
 ok : okC x.2
 room : x.2.2 = none → Room V L x.2.1 (1 + needRs (rows.drop x.1))
theorem bne0 {e : Int} (h : e ≠ 0) : (e == 0) = false := by simpa using h
section
set_option maxHeartbeats 4000000 in
theorem Jtje {P : Program} {p : Nums} (A : All P p) {V L : List Int} (code : List Instr) (kind ta to els : Int) (mcode : List Mach) (mkind mta mto mels most : Int) (rows : List ARow) (T : CR) (hv : VLOk V L code mcode) (hr : ∀ r ∈ rows, RowOk code mcode r)
  (hb0 : code.length ≤ 1000) (hm0 : mcode.length ≤ 1000) (hrl : rows.length < 1000000) (Q : AExit → ASt → Prop)
  (hQ : okC T → (T.2 = none → Room V L T.1 1) → Q (.exit 0) ⟨(61, AB false) :: (60, AI rows.length) :: (59, .d (.sl (rows.map ARow.row))) :: (58, AI rows.length) :: (F14 code kind ta to els mcode mkind mta mto mels most rows (rows.length, T)).env, (F14 code kind ta to els mcode mkind mta mto mels most rows (rows.length, T)).H⟩) (x : Nat × CR) (hx : Inv14 V L most code mcode rows T x) (N : ASt → Prop)
  (hN : ∀ (st' : ASt) (s' : Nat × CR), Inv14 V L most code mcode rows T s' → Wk 0 st' (F14 code kind ta to els mcode mkind mta mto mels most rows s') → rows.length - s'.1 < rows.length - x.1 → N st') :
  AW P 0 (Jqpo p) (AExit.then N Q) (F14 code kind ta to els mcode mkind mta mto mels most rows x) := by
 obtain ⟨j, r⟩ := x
 obtain ⟨hj, hT, hok, hR1⟩ := hx
 simp only at hj hT hok hR1
 simp only [F14] at hQ ⊢
 (simp (maxSteps := 1000000) [])
 ((first | refine Xc (fun h2 => ?_) (fun h2 => ?_) | refine Xo (fun h2 => ?_) (fun h2 => ?_)) <;> (try simp only [Xz, Xy] at h2))
 ·have hjl : j < rows.length := by simpa using h2
  have hji : rows[j]? = some rows[j] := by simp [hjl]
  have hw := Jtoq (k := j) (by omega)
  rw [Jt7j hjl] at hT hR1
  rw [Jtg8] at hR1
  simp only [rowsC] at hT
  have hro := hr _ (List.getElem_mem hjl)
  obtain ⟨row, hrow⟩ : ∃ row, row = rows[j] := ⟨_, rfl⟩
  rw [← hrow] at hT hR1 hro hji
  obtain ⟨r3, hr3⟩ : ∃ r3, r3 = thenC r (rowC most code mcode row) := ⟨_, rfl⟩
  have hI3 : Inv14 V L most code mcode rows T (j + 1, r3) := by
   refine ⟨hjl, ?_, ?_, ?_⟩
   ·rw [hr3, Jtno]; exact hT
   ·rw [hr3]; exact hok.then fun s => Jtgq _ _ _ _ s
   ·intro hn
    rw [hr3] at hn ⊢
    obtain ⟨s, e⟩ := r
    cases e with
    | some e => cases hn
    | none =>
     have hl1 : ((mcode.take row.mt).drop row.mf).length = row.mt - row.mf := by have := hro.hm; simp; omega
     have hl2 : ((code.take row.ct).drop row.cf).length = row.ct - row.cf := by have := hro.hc; simp; omega
     exact Jtkm (n := 1 + needRs (rows.drop (j + 1))) (most := most) (r := row) ((hR1 rfl).mono (by rw [hl1, hl2]; unfold needR; omega)) hv
  have hend : ∀ st', Wk 0 st' (F14 code kind ta to els mcode mkind mta mto mels most rows (j + 1, r3)) → N st' := fun st' h => hN st' _ hI3 h (by simp only; omega)
  obtain ⟨cf, ct, mf, mt, src, mach⟩ := row
  obtain ⟨⟨hc1, hc2⟩, ⟨hm1, hm2⟩, hsr⟩ := hro
  simp only at hc1 hc2 hm1 hm2 hsr
  simp only [F14] at hend
  obtain ⟨sub, hsub⟩ : ∃ l, l = (code.take ct).drop cf := ⟨_, rfl⟩
  obtain ⟨msub, hmsub⟩ : ∃ l, l = (mcode.take mt).drop mf := ⟨_, rfl⟩
  have hsl : sub.length = ct - cf := by rw [hsub]; simp; omega
  have hml : msub.length = mt - mf := by rw [hmsub]; simp; omega
  obtain ⟨T1, hT1⟩ : ∃ T1, T1 = thenC r (copyC most mf sub) := ⟨_, rfl⟩
  have hspec : r3 = thenC T1 fun s => thenC (moveC most mf msub s) (lastC most code mcode ⟨cf, ct, mf, mt, src, mach⟩) := by rw [hr3, hT1, Jtno, hsub, hmsub]; rfl
  have hR1' : r.2 = none → Room V L r.1 (3 + (mt - mf) + (ct - cf)) := fun h => (hR1 h).mono (by simp only [needR]; omega)
  clear hT hR1 hr3 hI3 hN
  have hlen6 : ∀ x : ARow, x.row.length = 6 := fun x => rfl
  have hrow' := hrow.symm
  (simp (maxSteps := 1000000) [h2, List.getElem?_map, hji, hrow', ARow.row])
  refine Jt9 (fun x : Nat × CR => ⟨[(16, AI x.1), (15, .ptr 4 0), (14, AI j), (13, AI mcode.length), (10, .d (.sl (rows.map ARow.row))), (9, .ptr 3 0), (8, .ptr 2 0), (5, .ptr 1 0), (4, .ptr 0 0), (3, AI most)],
   [.mem [.d (.sl (code.map Instr.row)), AI kind, AI ta, AI to, AI els], .mem [.d (.sl (mcode.map Mach.row)), AI mkind, AI mta, AI mto, AI mels], .mem [.nils, AI 0, AI 0, AI 0, AI 0], .mem (resR x.2), .mem [AI cf, AI ct, AI mf, AI mt, AI src, AI mach]]⟩)
   (fun x => cf ≤ x.1 ∧ x.1 ≤ ct ∧ thenC x.2 (copyC most mf (sub.drop (x.1 - cf))) = T1 ∧ okC x.2 ∧ (x.2.2 = none → Room V L x.2.1 (3 + (mt - mf) + (ct - x.1)))) (fun x => ct - x.1) (cf, r) ?_ ?_ ?_
  ·refine ⟨Nat.le_refl _, hc1, ?_, hok, hR1'⟩
   simp [hT1]
  ·obtain ⟨s, e⟩ := r
   cases e <;> (simp only [resR, pairsD]; (exact wkA))
  rintro ⟨i, u⟩ ⟨hi0, hi1, hTi, hoki, hRi⟩ N2 hN2
  simp only at hi0 hi1 hTi hoki hRi
  obtain ⟨s, e⟩ := u
  cases e with
  | some e =>
   rw [Jtnr] at hTi
   rw [← hTi, Jtnr] at hspec
   have he : e.1 ≠ 0 := hoki e rfl
   have heb := bne0 he
   simp only [resR]
   (simp (maxSteps := 1000000) [])
   by_cases hi : i < ct
   all_goals (
    (simp (maxSteps := 1000000) [hi, he, heb])
    refine Jt9 (fun k : Nat => ⟨[(17, AI k), (15, .ptr 4 0), (14, AI j), (13, AI mcode.length), (10, .d (.sl (rows.map ARow.row))), (9, .ptr 3 0), (8, .ptr 2 0), (5, .ptr 1 0), (4, .ptr 0 0), (3, AI most)],
     [.mem [.d (.sl (code.map Instr.row)), AI kind, AI ta, AI to, AI els], .mem [.d (.sl (mcode.map Mach.row)), AI mkind, AI mta, AI mto, AI mels], .mem [.nils, AI 0, AI 0, AI 0, AI 0], .mem [.d (.sl []), AI e.1, AI e.2, AI s.steps, AI s.largest], .mem [AI cf, AI ct, AI mf, AI mt, AI src, AI mach]]⟩)
     (fun k => k = mf) (fun k => 0) mf rfl (by (exact wkA)) ?_
    rintro k rfl N3 hN3
    have hclose : ∀ st', Wk 0 st' ⟨[(14, AI ((j + 1 : Nat) : Int)), (13, AI mcode.length), (10, .d (.sl (rows.map ARow.row))), (9, .ptr 3 0), (8, .ptr 2 0), (5, .ptr 1 0), (4, .ptr 0 0), (3, AI most)],
     [.mem [.d (.sl (code.map Instr.row)), AI kind, AI ta, AI to, AI els], .mem [.d (.sl (mcode.map Mach.row)), AI mkind, AI mta, AI mto, AI mels], .mem [.nils, AI 0, AI 0, AI 0, AI 0], .mem [.d (.sl []), AI e.1, AI e.2, AI s.steps, AI s.largest]]⟩ → N st' := by
     intro st' h; exact hend st' (by rw [hspec]; exact h)
    (simp (maxSteps := 1000000) [])
    by_cases hk : k < mt
    all_goals (
     (simp (maxSteps := 1000000) [hk, he, heb])
     by_cases hs0 : src < 0
     ·(simp (maxSteps := 1000000) [hs0, hw]); exact hclose _ (by (exact wkA))
     ·(simp (maxSteps := 1000000) [hs0, he, heb, hw]); exact hclose _ (by (exact wkA))))
  | none =>
   rw [Jtnq] at hTi
   have hRi : Room V L s (3 + (mt - mf) + (ct - i)) := hRi rfl
   simp only [resR]
   (simp (maxSteps := 1000000) [])
   by_cases hi : i < ct
   ·have hwi := Jtoq (k := i) (by omega)
    have hicl : i < code.length := by omega
    have hci : code[i]? = some code[i] := by simp [hicl]
    have hjl2 : i - cf < sub.length := by omega
    have hmj : sub[i - cf] = code[i] := by simp [hsub]; congr 1; omega
    rw [Jt7j hjl2, hmj] at hTi
    simp only [copyC] at hTi
    rw [show i - cf + 1 = i + 1 - cf by omega] at hTi
    have hxv : code[i].d ∈ V := hv.v _ (List.getElem_mem hicl)
    rw [show ct - i = (ct - (i + 1)) + 1 by omega, ← Nat.add_assoc] at hRi
    have hR2 := hRi.copyStep hxv most mf (a := code[i].a)
    have hok2 := Jtgk most (costC s) (copyP s.set code[i].d code[i].a) mf
    have hl0 := hRi.len
    have hst := hRi.steps
    have hlg := hRi.lg
    have hol := Nat.lt_of_le_of_lt (hRi.over.copy hxv (a := code[i].a)).len hRi.few
    have hcp := Jtj2 A s.set code[i].d code[i].a hl0
    rw [Jtid hRi.over.srt] at hcp
    obtain ⟨cl, hcl⟩ : ∃ cl, cl = copyP s.set code[i].d code[i].a := ⟨_, rfl⟩
    rw [← hcl] at hTi hR2 hcp hol hok2
    have hg := Jtjd A s cl most mf hl0 (by omega) hol hlg
    obtain ⟨⟨t2, e2⟩, h2r⟩ : ∃ r, r = Jt5a most (costC s) cl mf := ⟨_, rfl⟩
    rw [← h2r] at hg hTi hR2 hok2
    (simp (maxSteps := 1000000) [hi, List.getElem?_map, hci, Instr.row])
    (refine Jtt hcp (by rfl) (by rfl) ?_)
    (simp (maxSteps := 1000000) [])
    cases e2 with
    | none =>
     simp only [resR] at hg
     (refine Jtt hg (by rfl) (by rfl) ?_)
     (simp (maxSteps := 1000000) [hwi])
     exact hN2 _ (i + 1, (t2, none)) ⟨by simp only; omega, hi, hTi, hok2, fun _ => hR2⟩ (by simp only [resR]; (exact wkA)) (by simp only; omega)
    | some e =>
     simp only [resR] at hg
     (refine Jtt hg (by rfl) (by rfl) ?_)
     (simp (maxSteps := 1000000) [hwi])
     exact hN2 _ (i + 1, (t2, some e)) ⟨by simp only; omega, hi, hTi, hok2, fun h => by cases h⟩ (by simp only [resR]; (exact wkA)) (by simp only; omega)
   ·have hie : i = ct := by omega
    subst hie
    have hT1e : T1 = (s, none) := by rw [← hTi, List.drop_eq_nil_of_le (by omega)]; rfl
    rw [hT1e, Jtnq] at hspec
    rw [Nat.sub_self, Nat.add_zero] at hRi
    obtain ⟨T2, hT2⟩ : ∃ T2, T2 = moveC most mf msub s := ⟨_, rfl⟩
    rw [← hT2] at hspec
    (simp (maxSteps := 1000000) [hi])
    refine Jt9 (fun x : Nat × CR => ⟨[(17, AI x.1), (15, .ptr 4 0), (14, AI j), (13, AI mcode.length), (10, .d (.sl (rows.map ARow.row))), (9, .ptr 3 0), (8, .ptr 2 0), (5, .ptr 1 0), (4, .ptr 0 0), (3, AI most)],
     [.mem [.d (.sl (code.map Instr.row)), AI kind, AI ta, AI to, AI els], .mem [.d (.sl (mcode.map Mach.row)), AI mkind, AI mta, AI mto, AI mels], .mem [.nils, AI 0, AI 0, AI 0, AI 0], .mem (resR x.2), .mem [AI cf, AI i, AI mf, AI mt, AI src, AI mach]]⟩)
     (fun x => mf ≤ x.1 ∧ x.1 ≤ mt ∧ thenC x.2 (moveC most x.1 (msub.drop (x.1 - mf))) = T2 ∧ okC x.2 ∧ (x.2.2 = none → Room V L x.2.1 (3 + (mt - x.1)))) (fun x => mt - x.1) (mf, (s, none)) ?_ (by simp only [resR]; (exact wkA)) ?_
    ·refine ⟨Nat.le_refl _, hm1, ?_, Jtgp s, fun _ => hRi⟩
     simp [hT2, Jtnq]
    rintro ⟨k, u⟩ ⟨hk0, hk1, hTk, hokk, hRk⟩ N3 hN3
    simp only at hk0 hk1 hTk hokk hRk
    obtain ⟨s', e⟩ := u
    cases e with
    | some e =>
     rw [Jtnr] at hTk
     rw [← hTk, Jtnr] at hspec
     have he : e.1 ≠ 0 := hokk e rfl
     have heb := bne0 he
     have hclose : ∀ st', Wk 0 st' ⟨[(14, AI ((j + 1 : Nat) : Int)), (13, AI mcode.length), (10, .d (.sl (rows.map ARow.row))), (9, .ptr 3 0), (8, .ptr 2 0), (5, .ptr 1 0), (4, .ptr 0 0), (3, AI most)],
       [.mem [.d (.sl (code.map Instr.row)), AI kind, AI ta, AI to, AI els], .mem [.d (.sl (mcode.map Mach.row)), AI mkind, AI mta, AI mto, AI mels], .mem [.nils, AI 0, AI 0, AI 0, AI 0], .mem [.d (.sl []), AI e.1, AI e.2, AI s'.steps, AI s'.largest]]⟩ → N st' := by
      intro st' h; exact hend st' (by rw [hspec]; exact h)
     simp only [resR]
     (simp (maxSteps := 1000000) [])
     by_cases hk : k < mt
     all_goals (
      (simp (maxSteps := 1000000) [hk, he, heb])
      by_cases hs0 : src < 0
      ·(simp (maxSteps := 1000000) [hs0, hw]); exact hclose _ (by (exact wkA))
      ·(simp (maxSteps := 1000000) [hs0, he, heb, hw]); exact hclose _ (by (exact wkA)))
    | none =>
     rw [Jtnq] at hTk
     have hRk : Room V L s' (3 + (mt - k)) := hRk rfl
     simp only [resR]
     (simp (maxSteps := 1000000) [])
     by_cases hk : k < mt
     ·have hwk := Jtoq (k := k) (by omega)
      have hkm : k < mcode.length := by omega
      have hjl3 : k - mf < msub.length := by omega
      have hmj : msub[k - mf] = mcode[k] := by simp [hmsub]; congr 1; omega
      have hmi : mcode[k]? = some mcode[k] := by simp [hkm]
      rw [Jt7j hjl3, hmj] at hTk
      simp only [moveC] at hTk
      rw [show k - mf + 1 = k + 1 - mf by omega] at hTk
      have hxv : mcode[k].dst ∈ L := (hv.l _ (List.getElem_mem hkm)).1
      rw [show mt - k = (mt - (k + 1)) + 1 by omega, ← Nat.add_assoc] at hRk
      have hR3 := hRk.moveStep hxv most k (a := mcode[k].src)
      have hok2 := Jtgk most (costC s') (moveP s'.set mcode[k].dst mcode[k].src) k
      have hl0 := hRk.len
      have hst := hRk.steps
      have hlg := hRk.lg
      have hol := Nat.lt_of_le_of_lt (hRk.over.move hxv (a := mcode[k].src)).len hRk.few
      have hcp := Jtj4 A s'.set mcode[k].dst mcode[k].src hl0
      rw [Jtkj hRk.over.srt] at hcp
      obtain ⟨cl, hcl⟩ : ∃ cl, cl = moveP s'.set mcode[k].dst mcode[k].src := ⟨_, rfl⟩
      rw [← hcl] at hTk hR3 hcp hol hok2
      have hg := Jtjd A s' cl most k hl0 (by omega) hol hlg
      obtain ⟨⟨t2, e2⟩, h2r⟩ : ∃ r, r = Jt5a most (costC s') cl k := ⟨_, rfl⟩
      rw [← h2r] at hg hTk hR3 hok2
      (simp (maxSteps := 1000000) [hk, List.getElem?_map, hmi, Mach.row])
      (refine Jtt hcp (by rfl) (by rfl) ?_)
      (simp (maxSteps := 1000000) [])
      cases e2 with
      | none =>
       simp only [resR] at hg
       (refine Jtt hg (by rfl) (by rfl) ?_)
       (simp (maxSteps := 1000000) [hwk])
       exact hN3 _ (k + 1, (t2, none)) ⟨by simp only; omega, hk, hTk, hok2, fun _ => hR3⟩ (by simp only [resR]; (exact wkA)) (by simp only; omega)
      | some e =>
       simp only [resR] at hg
       (refine Jtt hg (by rfl) (by rfl) ?_)
       (simp (maxSteps := 1000000) [hwk])
       exact hN3 _ (k + 1, (t2, some e)) ⟨by simp only; omega, hk, hTk, hok2, fun h => by cases h⟩ (by simp only [resR]; (exact wkA)) (by simp only; omega)
     ·have hke : k = mt := by omega
      subst hke
      have hT2e : T2 = (s', none) := by rw [← hTk, List.drop_eq_nil_of_le (by omega)]; rfl
      rw [hT2e, Jtnq] at hspec
      rw [Nat.sub_self, Nat.add_zero] at hRk
      have hclose : ∀ (u : CR), r3 = u → ∀ st', Wk 0 st' ⟨[(14, AI ((j + 1 : Nat) : Int)), (13, AI mcode.length), (10, .d (.sl (rows.map ARow.row))), (9, .ptr 3 0), (8, .ptr 2 0), (5, .ptr 1 0), (4, .ptr 0 0), (3, AI most)],
       [.mem [.d (.sl (code.map Instr.row)), AI kind, AI ta, AI to, AI els], .mem [.d (.sl (mcode.map Mach.row)), AI mkind, AI mta, AI mto, AI mels], .mem [.nils, AI 0, AI 0, AI 0, AI 0], .mem (resR u)]⟩ → N st' := by
       intro u hu st' h; exact hend st' (by rw [hu]; exact h)
      by_cases hs0 : src < 0
      ·rw [show lastC most code mcode ⟨cf, i, mf, k, src, mach⟩ s' = (s', none) by unfold lastC; rw [if_neg (by simp only; omega)]] at hspec
       (simp (maxSteps := 1000000) [hk, hs0, hw])
       exact hclose _ hspec _ (by simp only [resR]; (exact wkA))
      ·obtain ⟨h5, h6, h7⟩ := hsr (by omega)
       have hi1 : src.toNat < code.length := by omega
       have hi2 : mach.toNat < mcode.length := by omega
       have hci : code[src.toNat]? = some code[src.toNat] := by simp [hi1]
       have hmi : mcode[mach.toNat]? = some mcode[mach.toNat] := by simp [hi2]
       have h0s : 0 ≤ src := by omega
       have hl : lastC most code mcode ⟨cf, i, mf, k, src, mach⟩ s' = instrC most s' code[src.toNat] mcode[mach.toNat] mach := by
        simp only [lastC, h0s, if_true, hci, hmi]
       rw [hl] at hspec
       have hVd := hv.v _ (List.getElem_mem hi1)
       have hLd := (hv.l _ (List.getElem_mem hi2)).2
       (simp (maxSteps := 1000000) [hk, hs0, h0s, h6, List.getElem?_map, hci, hmi, Instr.row, Mach.row])
       obtain ⟨ci, hcie⟩ : ∃ x, x = code[src.toNat] := ⟨_, rfl⟩
       obtain ⟨mi, hmie⟩ : ∃ x, x = mcode[mach.toNat] := ⟨_, rfl⟩
       rw [← hcie] at hspec hVd
       rw [← hmie] at hspec hLd
       simp only [← hcie, ← hmie]
       obtain ⟨ua, hua⟩ : ∃ x, x = usesA ci.op := ⟨_, rfl⟩
       obtain ⟨ub, hub⟩ : ∃ x, x = usesB ci.op := ⟨_, rfl⟩
       obtain ⟨ud, hud⟩ : ∃ x, x = usesD ci.op := ⟨_, rfl⟩
       have hspec2 := hspec
       unfold instrC at hspec2
       rw [← hua, ← hub, ← hud] at hspec2
       (refine Jtt (Jtij A ci.op) (by rfl) (by rfl) ?_)
       rw [← hua]
       cases huav : ua with
       | false =>
        rw [huav, if_neg (by simp), Jtnq] at hspec2
        (simp (maxSteps := 1000000) [])
        (refine Jtt (Jtik A ci.op) (by rfl) (by rfl) ?_)
        rw [← hub]
        cases hubv : ub with
        | false =>
         rw [hubv, if_neg (by simp), Jtnq] at hspec2
         (simp (maxSteps := 1000000) [])
         (refine Jtt (Jtil A ci.op) (by rfl) (by rfl) ?_)
         rw [← hud]
         cases hudv : ud with
         | false =>
          rw [hudv, if_neg (by simp)] at hspec2
          (simp (maxSteps := 1000000) [hw])
          exact hclose _ hspec2 _ (by simp only [resR]; (exact wkA))
         | true =>
          rw [hudv, if_pos rfl] at hspec2
          have hl0 := hRk.len
          have hst := hRk.steps
          have hlg := hRk.lg
          have hol := Nat.lt_of_le_of_lt (hRk.over.define hVd hLd).len hRk.few
          have hdf := Jtj3 A s'.set ci.d (regZ mi.d) hl0
          rw [Jtif hRk.over.srt] at hdf
          obtain ⟨cl, hcl⟩ : ∃ cl, cl = defP s'.set ci.d (regZ mi.d) := ⟨_, rfl⟩
          rw [← hcl] at hspec2 hdf hol
          simp only [regZ] at hdf
          have hg := Jtjd A s' cl most mach hl0 (by omega) hol hlg
          obtain ⟨⟨t9, e9⟩, h9r⟩ : ∃ r, r = Jt5a most (costC s') cl mach := ⟨_, rfl⟩
          rw [← h9r] at hg hspec2
          (simp (maxSteps := 1000000) [])
          (refine Jtt hdf (by rfl) (by rfl) ?_)
          (simp (maxSteps := 1000000) [])
          cases e9 with
          | none =>
           simp only [resR] at hg
           (refine Jtt hg (by rfl) (by rfl) ?_)
           (simp (maxSteps := 1000000) [hw])
           exact hclose _ hspec2 _ (by simp only [resR]; (exact wkA))
          | some e =>
           simp only [resR] at hg
           (refine Jtt hg (by rfl) (by rfl) ?_)
           (simp (maxSteps := 1000000) [hw])
           exact hclose _ hspec2 _ (by simp only [resR]; (exact wkA))
        | true =>
         rw [hubv, if_pos rfl] at hspec2
         have hl0 := hRk.len
         have hst := hRk.steps
         have hu := Jtjf A s' ci.b mi.b mach hl0 (by omega)
         have hok1 := Jtgr s' ci.b (regZ mi.b) mach
         have hR5 : Room V L (useC s' ci.b (regZ mi.b) mach).1 1 := Room.use (n := 1) (hRk.mono (by omega)) _ _ _
         obtain ⟨⟨t5, e1⟩, h1r⟩ : ∃ r, r = useC s' ci.b (regZ mi.b) mach := ⟨_, rfl⟩
         rw [← h1r] at hu hspec2 hR5 hok1
         cases e1 with
         | none =>
          rw [Jtnq] at hspec2
          have hR5 : Room V L t5 1 := hR5
          simp only [resR] at hu
          (simp (maxSteps := 1000000) [])
          (refine Jtt hu (by rfl) (by rfl) ?_)
          (simp (maxSteps := 1000000) [])
          (refine Jtt (Jtil A ci.op) (by rfl) (by rfl) ?_)
          rw [← hud]
          cases hudv : ud with
          | false =>
           rw [hudv, if_neg (by simp)] at hspec2
           (simp (maxSteps := 1000000) [hw])
           exact hclose _ hspec2 _ (by simp only [resR]; (exact wkA))
          | true =>
           rw [hudv, if_pos rfl] at hspec2
           have hl0 := hR5.len
           have hst := hR5.steps
           have hlg := hR5.lg
           have hol := Nat.lt_of_le_of_lt (hR5.over.define hVd hLd).len hR5.few
           have hdf := Jtj3 A t5.set ci.d (regZ mi.d) hl0
           rw [Jtif hR5.over.srt] at hdf
           obtain ⟨cl, hcl⟩ : ∃ cl, cl = defP t5.set ci.d (regZ mi.d) := ⟨_, rfl⟩
           rw [← hcl] at hspec2 hdf hol
           simp only [regZ] at hdf
           have hg := Jtjd A t5 cl most mach hl0 (by omega) hol hlg
           obtain ⟨⟨t9, e9⟩, h9r⟩ : ∃ r, r = Jt5a most (costC t5) cl mach := ⟨_, rfl⟩
           rw [← h9r] at hg hspec2
           (simp (maxSteps := 1000000) [])
           (refine Jtt hdf (by rfl) (by rfl) ?_)
           (simp (maxSteps := 1000000) [])
           cases e9 with
           | none =>
            simp only [resR] at hg
            (refine Jtt hg (by rfl) (by rfl) ?_)
            (simp (maxSteps := 1000000) [hw])
            exact hclose _ hspec2 _ (by simp only [resR]; (exact wkA))
           | some e =>
            simp only [resR] at hg
            (refine Jtt hg (by rfl) (by rfl) ?_)
            (simp (maxSteps := 1000000) [hw])
            exact hclose _ hspec2 _ (by simp only [resR]; (exact wkA))
         | some e =>
          rw [Jtnr] at hspec2
          have he : e.1 ≠ 0 := hok1 e rfl
          have heb := bne0 he
          simp only [resR] at hu
          (simp (maxSteps := 1000000) [])
          (refine Jtt hu (by rfl) (by rfl) ?_)
          (simp (maxSteps := 1000000) [])
          (refine Jtt (Jtil A ci.op) (by rfl) (by rfl) ?_)
          rw [← hud]
          cases hudv : ud with
          | false =>
           (simp (maxSteps := 1000000) [he, heb, hw])
           exact hclose _ hspec2 _ (by simp only [resR]; (exact wkA))
          | true =>
           (simp (maxSteps := 1000000) [he, heb, hw])
           exact hclose _ hspec2 _ (by simp only [resR]; (exact wkA))
       | true =>
        rw [huav, if_pos rfl] at hspec2
        have hl0 := hRk.len
        have hst := hRk.steps
        have hu := Jtjf A s' ci.a mi.a mach hl0 (by omega)
        have hok1 := Jtgr s' ci.a (regZ mi.a) mach
        have hR4 : Room V L (useC s' ci.a (regZ mi.a) mach).1 2 := Room.use (n := 2) (hRk.mono (by omega)) _ _ _
        obtain ⟨⟨t4, e1⟩, h1r⟩ : ∃ r, r = useC s' ci.a (regZ mi.a) mach := ⟨_, rfl⟩
        rw [← h1r] at hu hspec2 hR4 hok1
        cases e1 with
        | none =>
         rw [Jtnq] at hspec2
         have hR4 : Room V L t4 2 := hR4
         simp only [resR] at hu
         (simp (maxSteps := 1000000) [])
         (refine Jtt hu (by rfl) (by rfl) ?_)
         (simp (maxSteps := 1000000) [])
         (refine Jtt (Jtik A ci.op) (by rfl) (by rfl) ?_)
         rw [← hub]
         cases hubv : ub with
         | false =>
          rw [hubv, if_neg (by simp), Jtnq] at hspec2
          (simp (maxSteps := 1000000) [])
          (refine Jtt (Jtil A ci.op) (by rfl) (by rfl) ?_)
          rw [← hud]
          cases hudv : ud with
          | false =>
           rw [hudv, if_neg (by simp)] at hspec2
           (simp (maxSteps := 1000000) [hw])
           exact hclose _ hspec2 _ (by simp only [resR]; (exact wkA))
          | true =>
           rw [hudv, if_pos rfl] at hspec2
           have hl0 := hR4.len
           have hst := hR4.steps
           have hlg := hR4.lg
           have hol := Nat.lt_of_le_of_lt (hR4.over.define hVd hLd).len hR4.few
           have hdf := Jtj3 A t4.set ci.d (regZ mi.d) hl0
           rw [Jtif hR4.over.srt] at hdf
           obtain ⟨cl, hcl⟩ : ∃ cl, cl = defP t4.set ci.d (regZ mi.d) := ⟨_, rfl⟩
           rw [← hcl] at hspec2 hdf hol
           simp only [regZ] at hdf
           have hg := Jtjd A t4 cl most mach hl0 (by omega) hol hlg
           obtain ⟨⟨t9, e9⟩, h9r⟩ : ∃ r, r = Jt5a most (costC t4) cl mach := ⟨_, rfl⟩
           rw [← h9r] at hg hspec2
           (simp (maxSteps := 1000000) [])
           (refine Jtt hdf (by rfl) (by rfl) ?_)
           (simp (maxSteps := 1000000) [])
           cases e9 with
           | none =>
            simp only [resR] at hg
            (refine Jtt hg (by rfl) (by rfl) ?_)
            (simp (maxSteps := 1000000) [hw])
            exact hclose _ hspec2 _ (by simp only [resR]; (exact wkA))
           | some e =>
            simp only [resR] at hg
            (refine Jtt hg (by rfl) (by rfl) ?_)
            (simp (maxSteps := 1000000) [hw])
            exact hclose _ hspec2 _ (by simp only [resR]; (exact wkA))
         | true =>
          rw [hubv, if_pos rfl] at hspec2
          have hl0 := hR4.len
          have hst := hR4.steps
          have hu := Jtjf A t4 ci.b mi.b mach hl0 (by omega)
          have hok1 := Jtgr t4 ci.b (regZ mi.b) mach
          have hR5 : Room V L (useC t4 ci.b (regZ mi.b) mach).1 1 := Room.use (n := 1) (hR4.mono (by omega)) _ _ _
          obtain ⟨⟨t5, e1⟩, h1r⟩ : ∃ r, r = useC t4 ci.b (regZ mi.b) mach := ⟨_, rfl⟩
          rw [← h1r] at hu hspec2 hR5 hok1
          cases e1 with
          | none =>
           rw [Jtnq] at hspec2
           have hR5 : Room V L t5 1 := hR5
           simp only [resR] at hu
           (simp (maxSteps := 1000000) [])
           (refine Jtt hu (by rfl) (by rfl) ?_)
           (simp (maxSteps := 1000000) [])
           (refine Jtt (Jtil A ci.op) (by rfl) (by rfl) ?_)
           rw [← hud]
           cases hudv : ud with
           | false =>
            rw [hudv, if_neg (by simp)] at hspec2
            (simp (maxSteps := 1000000) [hw])
            exact hclose _ hspec2 _ (by simp only [resR]; (exact wkA))
           | true =>
            rw [hudv, if_pos rfl] at hspec2
            have hl0 := hR5.len
            have hst := hR5.steps
            have hlg := hR5.lg
            have hol := Nat.lt_of_le_of_lt (hR5.over.define hVd hLd).len hR5.few
            have hdf := Jtj3 A t5.set ci.d (regZ mi.d) hl0
            rw [Jtif hR5.over.srt] at hdf
            obtain ⟨cl, hcl⟩ : ∃ cl, cl = defP t5.set ci.d (regZ mi.d) := ⟨_, rfl⟩
            rw [← hcl] at hspec2 hdf hol
            simp only [regZ] at hdf
            have hg := Jtjd A t5 cl most mach hl0 (by omega) hol hlg
            obtain ⟨⟨t9, e9⟩, h9r⟩ : ∃ r, r = Jt5a most (costC t5) cl mach := ⟨_, rfl⟩
            rw [← h9r] at hg hspec2
            (simp (maxSteps := 1000000) [])
            (refine Jtt hdf (by rfl) (by rfl) ?_)
            (simp (maxSteps := 1000000) [])
            cases e9 with
            | none =>
             simp only [resR] at hg
             (refine Jtt hg (by rfl) (by rfl) ?_)
             (simp (maxSteps := 1000000) [hw])
             exact hclose _ hspec2 _ (by simp only [resR]; (exact wkA))
            | some e =>
             simp only [resR] at hg
             (refine Jtt hg (by rfl) (by rfl) ?_)
             (simp (maxSteps := 1000000) [hw])
             exact hclose _ hspec2 _ (by simp only [resR]; (exact wkA))
          | some e =>
           rw [Jtnr] at hspec2
           have he : e.1 ≠ 0 := hok1 e rfl
           have heb := bne0 he
           simp only [resR] at hu
           (simp (maxSteps := 1000000) [])
           (refine Jtt hu (by rfl) (by rfl) ?_)
           (simp (maxSteps := 1000000) [])
           (refine Jtt (Jtil A ci.op) (by rfl) (by rfl) ?_)
           rw [← hud]
           cases hudv : ud with
           | false =>
            (simp (maxSteps := 1000000) [he, heb, hw])
            exact hclose _ hspec2 _ (by simp only [resR]; (exact wkA))
           | true =>
            (simp (maxSteps := 1000000) [he, heb, hw])
            exact hclose _ hspec2 _ (by simp only [resR]; (exact wkA))
        | some e =>
         rw [Jtnr] at hspec2
         have he : e.1 ≠ 0 := hok1 e rfl
         have heb := bne0 he
         simp only [resR] at hu
         (simp (maxSteps := 1000000) [])
         (refine Jtt hu (by rfl) (by rfl) ?_)
         (simp (maxSteps := 1000000) [])
         (refine Jtt (Jtik A ci.op) (by rfl) (by rfl) ?_)
         rw [← hub]
         cases hubv : ub with
         | false =>
          (simp (maxSteps := 1000000) [he, heb])
          (refine Jtt (Jtil A ci.op) (by rfl) (by rfl) ?_)
          rw [← hud]
          cases hudv : ud with
          | false =>
           (simp (maxSteps := 1000000) [he, heb, hw])
           exact hclose _ hspec2 _ (by simp only [resR]; (exact wkA))
          | true =>
           (simp (maxSteps := 1000000) [he, heb, hw])
           exact hclose _ hspec2 _ (by simp only [resR]; (exact wkA))
         | true =>
          (simp (maxSteps := 1000000) [he, heb])
          (refine Jtt (Jtil A ci.op) (by rfl) (by rfl) ?_)
          rw [← hud]
          cases hudv : ud with
          | false =>
           (simp (maxSteps := 1000000) [he, heb, hw])
           exact hclose _ hspec2 _ (by simp only [resR]; (exact wkA))
          | true =>
           (simp (maxSteps := 1000000) [he, heb, hw])
           exact hclose _ hspec2 _ (by simp only [resR]; (exact wkA))
 ·have hjl : j = rows.length := by simp at h2; omega
  subst hjl
  rw [List.drop_length] at hT hR1
  have hT' : r = T := by rw [← hT]; exact (Jtnp r).symm
  subst hT'
  (simp (maxSteps := 1000000) [h2])
  exact hQ hok (fun h => by simpa [needRs] using hR1 h)
end
section
set_option maxHeartbeats 1000000 in
theorem Jtjc {P : Program} {p : Nums} (A : All P p) {V L : List Int} (code : List Instr) (kind ta to els : Int) (mcode : List Mach) (mkind mta mto mels most : Int) (rows : List ARow) (T1 : CR) (T : Res)
  (hspec : T = ⟨if (runE ⟨mcode, mkind, mta, mto, mels⟩ (thenC T1 fun s => if kind = 1 then (s, none) else useC s ta (regZ mta) mcode.length).2).1 = 0 then (thenC T1 fun s => if kind = 1 then (s, none) else useC s ta (regZ mta) mcode.length).1.set else [],
   (runE ⟨mcode, mkind, mta, mto, mels⟩ (thenC T1 fun s => if kind = 1 then (s, none) else useC s ta (regZ mta) mcode.length).2).1, (runE ⟨mcode, mkind, mta, mto, mels⟩ (thenC T1 fun s => if kind = 1 then (s, none) else useC s ta (regZ mta) mcode.length).2).2,
   (thenC T1 fun s => if kind = 1 then (s, none) else useC s ta (regZ mta) mcode.length).1.steps, (thenC T1 fun s => if kind = 1 then (s, none) else useC s ta (regZ mta) mcode.length).1.largest⟩)
  (hok : okC T1) (hrm : T1.2 = none → Room V L T1.1 1) (R : AExit → ASt → Prop) (hR : ∀ (e : AExit) (st : ASt), Fin [RV.cell 8 (some 5)] 0 (fun o x => o = AOut.ret T.av) e st → R e st)
  :
  AW P 0 (.seq (.seq (Jqpp p) (.cond (.t 209) (Jqpq p) .skip)) (.seq (.seq (Jqpr p) (.cond (.t 221) (Jqps p) .skip)) (.seq (.region [⟨some 224, .load (some 5) (.t 9), none, false⟩, ⟨none, .store 5 (.t 8) (.t 224), none, false⟩] []) .ret))) R
   ⟨(61, AB false) :: (60, AI rows.length) :: (59, .d (.sl (rows.map ARow.row))) :: (58, AI rows.length) :: (F14 code kind ta to els mcode mkind mta mto mels most rows (rows.length, T1)).env, (F14 code kind ta to els mcode mkind mta mto mels most rows (rows.length, T1)).H⟩ := by
 simp only [F14]
 obtain ⟨t, e⟩ := T1
 cases e with
 | some e =>
  rw [Jtnr] at hspec
  have he : e.1 ≠ 0 := hok e rfl
  have heb := bne0 he
  simp only [resR]
  by_cases hk : kind = 1
  all_goals (
   (simp (maxSteps := 1000000) [hk, he, heb])
   refine hR _ _ (Jt3u _ _ rfl (by (exact wkvA)) ?_)
   rw [hspec]
   simp [Res.av, runE, he, pairsD, AV.erase])
 | none =>
  rw [Jtnq] at hspec
  have hrm : Room V L t 1 := hrm rfl
  simp only [resR]
  by_cases hk : kind = 1
  ·rw [if_pos hk] at hspec
   (simp (maxSteps := 1000000) [hk])
   refine hR _ _ (Jt3u _ _ rfl (by (exact wkvA)) ?_)
   rw [hspec]
   simp [Res.av, runE, pairsD, AV.erase]
  ·rw [if_neg hk] at hspec
   have hkb : (kind == 1) = false := by simpa using hk
   have hl1 := hrm.len
   have hst := hrm.steps
   have hu := Jtjf A t ta mta mcode.length hl1 (by omega)
   have hok1 := Jtgr t ta (regZ mta) mcode.length
   obtain ⟨⟨t4, e1⟩, h1r⟩ : ∃ r, r = useC t ta (regZ mta) mcode.length := ⟨_, rfl⟩
   rw [← h1r] at hu hspec hok1
   cases e1 with
   | none =>
    simp only [resR] at hu
    (simp (maxSteps := 1000000) [hk, hkb])
    (refine Jtt hu (by rfl) (by rfl) ?_)
    (simp (maxSteps := 1000000) [])
    refine hR _ _ (Jt3u _ _ rfl (by (exact wkvA)) ?_)
    rw [hspec]
    simp [Res.av, runE, pairsD, AV.erase]
   | some e =>
    have he : e.1 ≠ 0 := hok1 e rfl
    have heb := bne0 he
    simp only [resR] at hu
    (simp (maxSteps := 1000000) [hk, hkb])
    (refine Jtt hu (by rfl) (by rfl) ?_)
    (simp (maxSteps := 1000000) [he, heb])
    refine hR _ _ (Jt3u _ _ rfl (by (exact wkvA)) ?_)
    rw [hspec]
    simp [Res.av, runE, he, pairsD, AV.erase]
set_option maxHeartbeats 4000000 in
theorem Jtja {P : Program} {p : Nums} (A : All P p) {V L : List Int} (b : Block) (m : MBlock) (l : List Pair) (most : Int) (hsr0 : Srt l) (hl : ∀ q ∈ l, q.v ∈ V ∧ q.l ∈ L) (hv : VLOk V L b.code m.code) (few : V.length * L.length < 100000) (hl0 : l.length < 100000)
  (hb0 : b.code.length ≤ 1000) (hm0 : m.code.length ≤ 1000) : Jt3o P p.ref14_Check [b.av, m.av, .d (pairsD l), AI most] [] fun o _ => o = .ret (checkZ b m l most).av := by
 refine A.ref14_Check.run rfl fun R hR => ?_
 obtain ⟨T, hT⟩ : ∃ T, T = checkZ b m l most := ⟨_, rfl⟩
 rw [← hT] at hR
 have hspec : T = checkZ b m l most := hT
 unfold checkZ at hspec
 obtain ⟨ha1, ha2, ha3⟩ := Jt4q b.code m.code
 have ha4 := Jt4p b.code m.code
 have ha5 : (alignZ b.code m.code).2.2 = 0 → (alignZ b.code m.code).2.1 = m.code.length := Jt4m _ _ _ _
 have hal := Jtj5 A b.code m.code (by omega) (by omega)
 have htm := Jtj9 A b.term m.term
 rw [Jtf0 hsr0] at hspec
 have hover : Over V L l := ⟨hsr0, fun q hq => hl q hq⟩
 have hroom : Room V L ⟨l, 0, l.length⟩ (1 + needRs (alignZ b.code m.code).1) := by
  refine ⟨hover, few, ?_, by simp only; omega⟩
  have h1 := Jtg9 ha1
  have h2 : (alignZ b.code m.code).1.length * (3 + m.code.length + b.code.length) ≤ 1001 * 2003 := Nat.mul_le_mul (by omega) (by omega)
  simp only
  omega
 obtain ⟨al, hale⟩ : ∃ a, a = alignZ b.code m.code := ⟨_, rfl⟩
 rw [← hale] at hal hspec ha1 ha2 ha3 ha4 ha5 hroom
 obtain ⟨rows, at_, why⟩ := al
 simp only at hal hspec ha1 ha2 ha3 ha4 ha5 hroom
 obtain ⟨tz, htz⟩ : ∃ x, x = termsZ b.term m.term := ⟨_, rfl⟩
 rw [← htz] at htm hspec
 obtain ⟨code, kind, ta, to, els⟩ := b
 obtain ⟨mcode, mkind, mta, mto, mels⟩ := m
 simp only [Block.av, MBlock.av, Term.av] at hal htm ha1 ha2 ha3 hb0 hm0 hv ha5 ⊢
 have hf := fun (e x : Int) => Jtjb A (pairsD l) 0 0 0 (l.length : Int) e x
 simp only [pairsD] at hf
 have hpl : ∀ r ∈ l.map Pair.row, r.length = 2 := Jtkx fun x => rfl
 have hpl0 : (l.map Pair.row).length = l.length := by simp
 obtain ⟨F, hF⟩ : ∃ F, F = l.map Pair.row := ⟨_, rfl⟩
 rw [← hF] at hpl hpl0 hf
 (simp (maxSteps := 1000000) [Jtcd, pairsD])
 rw [← hF]
 refine Jt15 (by rfl) (by rfl) hpl (by decide) (by omega) (by omega) (fun hn => ?_) (fun hn => ?_)
 all_goals (
  try rw [hn] at hf
  (simp (maxSteps := 1000000) [hpl0])
  by_cases h1 : most < (l.length : Int)
  ·rw [if_pos h1] at hspec
   (simp (maxSteps := 1000000) [h1])
   (refine Jtu (hf 24 0) (by rfl) (by (exact wkvA)) (by rfl) ?_)
   (simp (maxSteps := 1000000) [])
   refine hR _ _ (Jt3u _ _ rfl (by (exact wkvA)) ?_)
   rw [hspec]; rfl
  ·rw [if_neg h1] at hspec
   (simp (maxSteps := 1000000) [h1])
   (refine Jtt hal (by rfl) (by rfl) ?_)
   by_cases hw : why = 0
   ·subst hw
    have hat : at_ = mcode.length := ha5 rfl
    (simp (maxSteps := 1000000) [])
    (refine Jtt htm (by rfl) (by rfl) ?_)
    cases tz with
    | false =>
     simp only [and_self, if_true, ne_eq, not_false_eq_true, Int.reduceEq] at hspec
     (simp (maxSteps := 1000000) [])
     (refine Jtu (hf 20 mcode.length) (by rfl) (by (exact wkvA)) (by rfl) ?_)
     (simp (maxSteps := 1000000) [])
     refine hR _ _ (Jt3u _ _ rfl (by (exact wkvA)) ?_)
     rw [hspec, hat]; rfl
    | true =>
     simp only [Bool.true_eq_false, and_false, if_false, ne_eq, not_true_eq_false] at hspec
     obtain ⟨T1, hT1⟩ : ∃ T1, T1 = rowsC most code mcode rows ⟨l, 0, l.length⟩ := ⟨_, rfl⟩
     have hrun : runC most ⟨code, kind, ta, to, els⟩ ⟨mcode, mkind, mta, mto, mels⟩ rows ⟨l, 0, l.length⟩ = thenC T1 fun s => if kind = 1 then (s, none) else useC s ta (regZ mta) mcode.length := by rw [hT1]; rfl
     rw [hrun] at hspec
     (simp (maxSteps := 1000000) [])
     refine Jt9 (F14 code kind ta to els mcode mkind mta mto mels most rows) (Inv14 V L most code mcode rows T1) (fun x => rows.length - x.1) (0, (⟨l, 0, l.length⟩, none)) ?_ ?_
      (fun s hs N hN => Jtje A code kind ta to els mcode mkind mta mto mels most rows T1 hv ha1 hb0 hm0 (by omega) _ ?_ s hs N hN)
     ·exact ⟨Nat.zero_le _, by rw [Jtnq]; exact hT1.symm, Jtgp _, fun _ => hroom⟩
     ·simp only [F14, resR, pairsD, ← hF]
      (try simp only [hn])
      (exact wkA)
     ·intro hok hrm
      simp only [Jtd4, if_true, Jtnt]
      exact Jtjc A code kind ta to els mcode mkind mta mto mels most rows T1 T hspec hok hrm R hR
   ·have hw2 : why = 20 := ha4.resolve_left hw
    subst hw2
    simp only [Int.reduceEq, false_and, if_false, ne_eq, not_false_eq_true, if_true] at hspec
    (simp (maxSteps := 1000000) [])
    (refine Jtu (hf 20 at_) (by rfl) (by (exact wkvA)) (by rfl) ?_)
    (simp (maxSteps := 1000000) [])
    refine hR _ _ (Jt3u _ _ rfl (by (exact wkvA)) ?_)
    rw [hspec]; rfl)
end
theorem Jtkw {V L : List Int} {most : Int} {b : List Instr} {m : List Mach} (hv : VLOk V L b m) : ∀ {rs : List ARow} {s : CS} {n : Nat}, Room V L s (n + needRs rs) → (∀ r ∈ rs, RowOk b m r) → Room V L (rowsC most b m rs s).1 n := by
 intro rs
 induction rs with
 | nil => intro s n h _; simpa [needRs, rowsC] using h
 | cons r rs ih =>
  intro s n h hr
  rw [Jtg8] at h
  have hro := hr r (by simp)
  have hl1 : ((m.take r.mt).drop r.mf).length = r.mt - r.mf := by have := hro.hm; simp; omega
  have hl2 : ((b.take r.ct).drop r.cf).length = r.ct - r.cf := by have := hro.hc; simp; omega
  have h1 := Jtkm (n := n + needRs rs) (most := most) (r := r) (h.mono (by rw [hl1, hl2]; unfold needR; omega)) hv
  simp only [rowsC]
  generalize rowC most b m r s = q at h1
  obtain ⟨s1, e⟩ := q
  cases e with
  | some e => rw [Jtnr]; exact h1.mono (by omega)
  | none => rw [Jtnq]; exact ih h1 fun r hr' => hr r (by simp [hr'])
theorem Jtl1 {V L : List Int} {most : Int} {b : Block} {m : MBlock} (hv : VLOk V L b.code m.code) {rs : List ARow} {s : CS} {n : Nat} (h : Room V L s (n + 1 + needRs rs)) (hr : ∀ r ∈ rs, RowOk b.code m.code r) : Room V L (runC most b m rs s).1 n := by
 unfold runC
 have h1 := Jtkw (most := most) hv h hr
 generalize rowsC most b.code m.code rs s = q at h1
 obtain ⟨s1, e⟩ := q
 cases e with
 | some e => rw [Jtnr]; exact h1.mono (by omega)
 | none =>
  rw [Jtnq]
  split
  ·exact h1.mono (by omega)
  ·exact h1.use _ _ _
theorem Jt6e {V L : List Int} {b : Block} {m : MBlock} {l : List Pair} {most : Int} (hl : ∀ q ∈ l, q.v ∈ V ∧ q.l ∈ L) (hv : VLOk V L b.code m.code) (few : V.length * L.length < 100000) (hl0 : l.length < 100000)
  (hb0 : b.code.length ≤ 1000) (hm0 : m.code.length ≤ 1000) : (checkZ b m l most).largest < 100000 ∧ ∀ q ∈ (checkZ b m l most).out, q.v ∈ V ∧ q.l ∈ L := by
 obtain ⟨a1, a2, a3⟩ := Jt4q b.code m.code
 unfold checkZ
 split
 ·exact ⟨hl0, fun q hq => by simp at hq⟩
 ·by_cases h2 : (if (alignZ b.code m.code).2.2 = 0 ∧ termsZ b.term m.term = false then 20 else (alignZ b.code m.code).2.2) ≠ 0
  ·simp only [if_pos h2]; exact ⟨hl0, fun q hq => by simp at hq⟩
  ·simp only [if_neg h2]
   have hover : Over V L (makeP l) := ⟨Jtmu l, fun q hq => hl q (Jtfd.1 hq)⟩
   have hroom : Room V L ⟨makeP l, 0, l.length⟩ (0 + 1 + needRs (alignZ b.code m.code).1) := by
    refine ⟨hover, few, ?_, by simp only; omega⟩
    have h1 := Jtg9 a1
    have h2 : (alignZ b.code m.code).1.length * (3 + m.code.length + b.code.length) ≤ 1001 * 2003 := Nat.mul_le_mul (by omega) (by omega)
    simp only
    omega
   have hr := Jtl1 (most := most) hv hroom a1
   generalize runC most b m (alignZ b.code m.code).1 ⟨makeP l, 0, l.length⟩ = r at hr
   obtain ⟨t, e⟩ := r
   refine ⟨hr.lg, fun q hq => ?_⟩
   simp only at hq
   split at hq
   ·exact hr.over.mem q hq
   ·simp at hq
section
end
section
end
def Jteh : List LT := [ltI, ltI, ltI, ltI, ltI]
def Jteg : List LT := [.sl Jteh, ltI, ltI, ltI, ltI]
theorem Jtdd {r : List D} (h : HasL Jteh r) : ∃ i : Instr, r = i.row := by
 obtain ⟨_, _, rfl, h0, h⟩ := h.cons_inv
 obtain ⟨_, _, rfl, h1, h⟩ := h.cons_inv
 obtain ⟨_, _, rfl, h2, h⟩ := h.cons_inv
 obtain ⟨_, _, rfl, h3, h⟩ := h.cons_inv
 obtain ⟨_, _, rfl, h4, h⟩ := h.cons_inv
 obtain rfl := h.nil_inv
 obtain ⟨a, rfl, _⟩ := h0.int_inv
 obtain ⟨b, rfl, _⟩ := h1.int_inv
 obtain ⟨c, rfl, _⟩ := h2.int_inv
 obtain ⟨d, rfl, _⟩ := h3.int_inv
 obtain ⟨e, rfl, _⟩ := h4.int_inv
 exact ⟨⟨a, b, c, d, e⟩, rfl⟩
theorem Jt5f {r : List D} (h : HasL Jteg r) : ∃ b : Block, r = b.row := by
 obtain ⟨_, _, rfl, h0, h⟩ := h.cons_inv
 obtain ⟨_, _, rfl, h1, h⟩ := h.cons_inv
 obtain ⟨_, _, rfl, h2, h⟩ := h.cons_inv
 obtain ⟨_, _, rfl, h3, h⟩ := h.cons_inv
 obtain ⟨_, _, rfl, h4, h⟩ := h.cons_inv
 obtain rfl := h.nil_inv
 obtain ⟨rows, rfl, _, hr⟩ := h0.sl_inv
 obtain ⟨code, rfl⟩ := Jtky (fun r hr => Jtdd hr) hr
 obtain ⟨b, rfl, _⟩ := h1.int_inv
 obtain ⟨c, rfl, _⟩ := h2.int_inv
 obtain ⟨d, rfl, _⟩ := h3.int_inv
 obtain ⟨e, rfl, _⟩ := h4.int_inv
 exact ⟨⟨code, ⟨b, c, d, e⟩⟩, rfl⟩
def ltMach : List LT := [ltI, ltI, ltI, ltI, ltI, ltI, ltI]
def Jtei : List LT := [.sl ltMach, ltI, ltI, ltI, ltI]
theorem Jtde {d : D} (h : HasT ltI d) : ∃ n, d = I n ∧ okZ n := by
 obtain ⟨n, rfl, hw⟩ := h.int_inv
 refine ⟨n, rfl, ?_⟩
 simp [Lit.wf, IntKind.min, IntKind.max, IntKind.signed, IntKind.bits] at hw
 exact ⟨by omega, by omega⟩
theorem Jtek {r : List D} (h : HasL ltMach r) : ∃ i : Mach, r = i.row ∧ okZ i.dst ∧ okZ i.src := by
 obtain ⟨_, _, rfl, h0, h⟩ := h.cons_inv
 obtain ⟨_, _, rfl, h1, h⟩ := h.cons_inv
 obtain ⟨_, _, rfl, h2, h⟩ := h.cons_inv
 obtain ⟨_, _, rfl, h3, h⟩ := h.cons_inv
 obtain ⟨_, _, rfl, h4, h⟩ := h.cons_inv
 obtain ⟨_, _, rfl, h5, h⟩ := h.cons_inv
 obtain ⟨_, _, rfl, h6, h⟩ := h.cons_inv
 obtain rfl := h.nil_inv
 obtain ⟨a, rfl, _⟩ := h0.int_inv
 obtain ⟨b, rfl, _⟩ := h1.int_inv
 obtain ⟨c, rfl, _⟩ := h2.int_inv
 obtain ⟨d, rfl, _⟩ := h3.int_inv
 obtain ⟨e, rfl, _⟩ := h4.int_inv
 obtain ⟨f, rfl, o5⟩ := Jtde h5
 obtain ⟨g, rfl, o6⟩ := Jtde h6
 exact ⟨⟨a, b, c, d, e, f, g⟩, rfl, o5, o6⟩
theorem Jtev {rows : List (List D)} (h : ∀ r ∈ rows, HasL ltMach r) : ∃ l : List Mach, rows = l.map Mach.row ∧ ∀ x ∈ l, okZ x.dst ∧ okZ x.src := by
 induction rows with
 | nil => exact ⟨[], rfl, by simp⟩
 | cons r rows ih =>
  obtain ⟨a, rfl, ha⟩ := Jtek (h r (by simp))
  obtain ⟨l, rfl, hb⟩ := ih fun r hr => h r (by simp [hr])
  refine ⟨a :: l, rfl, fun n hn => ?_⟩
  rcases List.mem_cons.1 hn with rfl | hn
  ·exact ha
  ·exact hb n hn
theorem Jtf2 {r : List D} (h : HasL Jtei r) : ∃ b : MBlock, r = b.row ∧ okM b := by
 obtain ⟨_, _, rfl, h0, h⟩ := h.cons_inv
 obtain ⟨_, _, rfl, h1, h⟩ := h.cons_inv
 obtain ⟨_, _, rfl, h2, h⟩ := h.cons_inv
 obtain ⟨_, _, rfl, h3, h⟩ := h.cons_inv
 obtain ⟨_, _, rfl, h4, h⟩ := h.cons_inv
 obtain rfl := h.nil_inv
 obtain ⟨rows, rfl, _, hr⟩ := h0.sl_inv
 obtain ⟨code, rfl, hok⟩ := Jtev hr
 obtain ⟨b, rfl, _⟩ := h1.int_inv
 obtain ⟨c, rfl, _⟩ := h2.int_inv
 obtain ⟨d, rfl, _⟩ := h3.int_inv
 obtain ⟨e, rfl, _⟩ := h4.int_inv
 exact ⟨⟨code, ⟨b, c, d, e⟩⟩, rfl, hok⟩
theorem Jtlf {x : Int} (h1 : 1 ≤ x) (h2 : x ≤ 17) : (shapeZ x).D = usesD x ∧ (shapeZ x).A = usesA x ∧ (shapeZ x).B = usesB x ∧ (shapeZ x).Imm = (x == 1) := by
 have : x = 1 ∨ x = 2 ∨ x = 3 ∨ x = 4 ∨ x = 5 ∨ x = 6 ∨ x = 7 ∨ x = 8 ∨ x = 9 ∨ x = 10 ∨ x = 11 ∨ x = 12 ∨ x = 13 ∨ x = 14 ∨ x = 15 ∨ x = 16 ∨ x = 17 := by omega
 rcases this with h | h | h | h | h | h | h | h | h | h | h | h | h | h | h | h | h <;> subst h <;> decide
theorem Jtm9 (x : Int) : Jtm1 x = decide (1 ≤ x ∧ x ≤ 17) := by
 rw [Bool.eq_iff_iff]; simp only [Jtm1, knownZ, Bool.and_eq_true, decide_eq_true_eq, bne_iff_ne, ne_eq]; omega
theorem out_eq (u : Bool) (v n : Int) : (u && (decide (v < 0) || decide (n ≤ v))) = (u && !inZ v n) := by
 cases u
 ·rfl
 ·rw [Bool.eq_iff_iff]; simp [inZ]
theorem Jtdc (i : Instr) (regs : Int) : Jtmg i regs = Jtjm i regs := by
 unfold Jtmg Jtjm
 by_cases h : i.op < 1 ∨ 17 < i.op
 ·rw [if_pos h, if_pos (by rw [Jtm9]; simp only [decide_eq_false_iff_not]; omega)]
 ·obtain ⟨hD, hA, hB, hI⟩ := Jtlf (x := i.op) (by omega) (by omega)
  rw [if_neg h, if_neg (by rw [Jtm9]; simp only [decide_eq_false_iff_not]; omega)]
  have e1 : Jtog (flds i regs) = !bad9 i regs := by
   simp only [Jtog, flds, bad9, List.any_cons, List.any_nil, Field.bad, hD, hA, hB, out_eq, Bool.or_false, Bool.or_assoc]
  have e2 : blankZ (flds i regs) = !(!usesD i.op && i.d != 0 || !usesA i.op && i.a != 0 || !usesB i.op && i.b != 0) := by
   simp only [blankZ, flds, List.any_cons, List.any_nil, Field.odd, hD, hA, hB, Bool.or_false, Bool.or_assoc]
  have e3 : bad12 i = ((!usesD i.op && i.d != 0 || !usesA i.op && i.a != 0 || !usesB i.op && i.b != 0) || i.op != 1 && i.imm != 0) := rfl
  rw [e1, e2, e3, hI]
  generalize bad9 i regs = p1
  generalize (!usesD i.op && i.d != 0 || !usesA i.op && i.a != 0 || !usesB i.op && i.b != 0) = p2
  cases p1
  ·cases p2
   ·by_cases c1 : i.op = 1 <;> by_cases c2 : i.imm = 0 <;> simp [c1, c2]
   ·simp
  ·simp
theorem Jtnm (t : Term) (regs blocks : Int) : Jtmk t regs blocks = Jtjs t regs blocks := by
 unfold Jtmk Jtjs
 by_cases h : t.kind < 1 ∨ 3 < t.kind
 ·rw [if_pos h, if_neg (by omega), if_neg (by omega), if_neg (by omega)]
 ·rw [if_neg h]
  have hk : t.kind = 1 ∨ t.kind = 2 ∨ t.kind = 3 := by omega
  have e1 : Jtog ((fldsT t regs blocks).take 1) = !((t.kind != 1) && !inZ t.a regs) := by
   simp only [Jtog, fldsT, List.take_succ_cons, List.take_zero, List.any_cons, List.any_nil, Field.bad, out_eq, Bool.or_false]
  have e2 : Jtog ((fldsT t regs blocks).drop 1) = !((t.kind != 3) && !inZ t.to blocks || (t.kind == 2) && !inZ t.els blocks) := by
   simp only [Jtog, fldsT, List.drop_succ_cons, List.drop_zero, List.any_cons, List.any_nil, Field.bad, out_eq, Bool.or_false]
  have e3 : blankZ (fldsT t regs blocks) = !((!(t.kind != 1) && t.a != 0) || (!(t.kind != 3) && t.to != 0) || (!(t.kind == 2) && t.els != 0)) := by
   simp only [blankZ, fldsT, List.any_cons, List.any_nil, Field.odd, Bool.or_false, Bool.or_assoc]
  rw [e1, e2, e3]
  rcases hk with hk | hk | hk <;> rw [hk] <;> cases inZ t.a regs <;> cases inZ t.to blocks <;> cases inZ t.els blocks <;> by_cases ca : t.a = 0 <;> by_cases ct : t.to = 0 <;> by_cases ce : t.els = 0 <;> simp [ca, ct, ce]
theorem Jt6g (f : Func) : Jtmf f = Jtjl f := by
 have e : ∀ b : Block, Jtme b f.regs f.blocks.length = Jtjk b f.regs f.blocks.length := by
  intro b
  simp only [Jtme, Jtjk, Jtdc, Jtnm]
 simp only [Jtmf, Jtjl, e]
section
variable {P : Program} {q : Bool} {K : ASt → Prop} {QP : AV → ASt → Prop} {dst : Option Nat} {st : ASt}
@[simp] def goCV (K : ASt → Prop) (dst : Option Nat) (st : ASt) (P : Program) (q : Bool) (QP : AV → ASt → Prop) : Option AV → Option (List AV) → Prop
 | some (.fn (.func f) xs bs), some cs => okFn P f = true ∧ AWcall P q f (xs ++ cs ++ bs) dst K QP st
 | _, _ => False
@[simp] theorem Jt1f {x : Opd} {args : List Opd} : AWio P q (.callv x args) dst K QP st ↔ goCV K dst st P q QP (evr st.env x) (evs st.env args) := by
 constructor
 ·rintro ⟨f, xs, bs, cs, h1, h2, h3, h4⟩; rw [h1, h3]; exact ⟨h2, h4⟩
 ·intro h
  unfold goCV at h
  split at h
  ·rename_i f xs bs cs h1 h3; exact ⟨f, xs, bs, cs, h1, h.1, h3, h.2⟩
  ·exact h.elim
end
def runN (n : Nat) (m : Mach) : Nat := if m.op = 18 then n + 1 else 0
def runF (l : List Mach) : Nat := l.foldl runN 0
theorem Jtl4 {l : List Mach} {j : Nat} (h : j < l.length) : runF (l.take (j + 1)) = runN (runF (l.take j)) l[j] := by
 unfold runF
 rw [List.take_succ_eq_append_getElem h, List.foldl_append]
 rfl
theorem Jtl2 {l : List Mach} : ∀ {j k : Nat}, j ≤ l.length → (k ≤ runF (l.take j) ↔ k ≤ j ∧ ∀ i x, j - k ≤ i → i < j → l[i]? = some x → x.op = 18) := by
 intro j
 induction j with
 | zero =>
  intro k _
  simp only [List.take_zero, runF, List.foldl_nil]
  constructor
  ·intro h; exact ⟨h, fun i x _ h2 => by omega⟩
  ·intro h; exact h.1
 | succ j ih =>
  intro k hj
  have hjl : j < l.length := by omega
  have hji : l[j]? = some l[j] := by simp [hjl]
  rw [Jtl4 hjl]
  unfold runN
  by_cases h18 : l[j].op = 18
  ·rw [if_pos h18]
   cases k with
   | zero => simp only [Nat.zero_le, true_and, true_iff]; intro i x h1 h2; omega
   | succ k =>
    have := ih (k := k) (by omega)
    constructor
    ·intro h
     obtain ⟨e1, e2⟩ := this.1 (by omega)
     refine ⟨by omega, fun i x h1 h2 hx => ?_⟩
     by_cases hi : i = j
     ·subst hi; rw [hji] at hx; injection hx with hx; subst hx; exact h18
     ·exact e2 i x (by omega) (by omega) hx
    ·rintro ⟨e1, e2⟩
     have := this.2 ⟨by omega, fun i x h1 h2 hx => e2 i x (by omega) (by omega) hx⟩
     omega
  ·rw [if_neg h18]
   cases k with
   | zero => simp only [Nat.le_refl, Nat.zero_le, true_and, true_iff]; intro i x h1 h2; omega
   | succ k =>
    constructor
    ·intro h; omega
    ·rintro ⟨e1, e2⟩
     exact absurd (e2 j _ (by omega) (by omega) hji) h18
theorem Jtdr {w : List Mach} : w.length ≤ lead w ↔ ∀ x ∈ w, x.op = 18 := by
 induction w with
 | nil => simp [lead]
 | cons m w ih =>
  simp only [lead, List.length_cons, List.mem_cons, forall_eq_or_imp]
  by_cases h : m.op = 18
  ·simp only [h, beq_self_eq_true, if_true, true_and]
   rw [← ih]; omega
  ·have hb : (m.op == 18) = false := by simpa using h
   simp only [hb, Bool.false_eq_true, if_false, h, false_and, iff_false]; omega
theorem Jtft {l : List Nat} {k : Nat} : k < mostN l ↔ ∃ x ∈ l, k < x := by
 have key : ∀ (l : List Nat) (n : Nat), k < l.foldl max n ↔ k < n ∨ ∃ x ∈ l, k < x := by
  intro l
  induction l with
  | nil => intro n; simp
  | cons x l ih =>
   intro n
   simp only [List.foldl_cons, ih, List.mem_cons, exists_eq_or_imp]
   constructor
   ·rintro (h | h)
    ·by_cases hx : k < x
     ·exact .inr (.inl hx)
     ·exact .inl (by omega)
    ·exact .inr (.inr h)
   ·rintro (h | h | h)
    ·exact .inl (by omega)
    ·exact .inl (by omega)
    ·exact .inr h
 have := key l 0
 unfold mostN
 rw [this]; simp
theorem Jtjr {w : List Mach} (hw : w.length = 65) : 64 < Jtjq w ↔ ∀ x ∈ w, x.op = 18 := by
 rw [← Jtdr]
 unfold Jtjq
 rw [Jtft]
 constructor
 ·rintro ⟨x, hx, h⟩
  rw [List.mem_map] at hx
  obtain ⟨i, hi, rfl⟩ := hx
  have h1 := Jtdt (w.drop i)
  rw [List.length_drop] at h1
  have hi0 : i = 0 := by omega
  subst hi0
  rw [List.drop_zero] at h
  omega
 ·intro h
  exact ⟨lead (w.drop 0), List.mem_map.2 ⟨0, by simp; omega, rfl⟩, by rw [List.drop_zero]; omega⟩
theorem Jtg3 {l : List Mach} {j : Nat} (h : j < l.length) : 64 < runF (l.take (j + 1)) ↔ (64 ≤ j ∧ 64 < Jtjq ((l.take (j + 1)).drop (j - 64))) := by
 have h1 := Jtl2 (l := l) (j := j + 1) (k := 65) (by omega)
 constructor
 ·intro h2
  obtain ⟨e1, e2⟩ := h1.1 h2
  have hw : ((l.take (j + 1)).drop (j - 64)).length = 65 := by rw [List.length_drop, List.length_take]; omega
  refine ⟨by omega, (Jtjr hw).2 fun x hx => ?_⟩
  obtain ⟨i, hi⟩ := List.getElem?_of_mem hx
  rw [List.getElem?_drop, List.getElem?_take] at hi
  split at hi
  ·exact e2 _ x (by omega) (by omega) hi
  ·cases hi
 ·rintro ⟨e1, e2⟩
  have hw : ((l.take (j + 1)).drop (j - 64)).length = 65 := by rw [List.length_drop, List.length_take]; omega
  have e3 := (Jtjr hw).1 e2
  have := h1.2 ⟨by omega, fun i x k1 k2 hx => e3 x (List.mem_iff_getElem?.2 ⟨i - (j - 64), by rw [List.getElem?_drop, List.getElem?_take, if_pos (by omega), show j - 64 + (i - (j - 64)) = i by omega]; exact hx⟩)⟩
  omega
def wTotal (w : List (List Pair)) : Nat := (w.map List.length).sum
def pErr (l : List Pair) (vregs regs slots : Int) (k : Nat) : Int := match l[k]? with
 | none => 0
 | some q => if q.v < 0 ∨ vregs ≤ q.v then 9 else if rngZ q.l regs slots = false then 10 else if 0 < k ∧ (match l[k - 1]? with | some q0 => lessP q0 q | none => true) = false then 13 else 0
def pErrs (l : List Pair) (vregs regs slots : Int) : Int := Jt8f ((List.range l.length).map (pErr l vregs regs slots))
def Jt7k (w : List (List Pair)) (blocks vregs regs slots : Int) : Int := if (w.length : Int) ≠ blocks then 14 else if 1048576 < wTotal w then 6 else Jt8f (w.map fun l => pErrs l vregs regs slots)
def okW (w : List (List Pair)) : Prop := ∀ l ∈ w, ∀ q ∈ l, okZ q.l
def validZ (c : Cert) : Int := if Jtjl c.S ≠ 0 then Jtjl c.S else if Jtjo c.T ≠ 0 then Jtjo c.T else if c.S.blocks.length ≠ c.T.blocks.length ∨ c.S.args ≠ c.T.args then 14 else Jt7k c.W c.S.blocks.length c.S.regs c.T.regs c.T.slots
def fewM (f : MFunc) : Bool := decide (f.blocks.length ≤ 40) && decide (f.regs ≤ 60) && decide (f.slots ≤ 60) && f.blocks.all (fun b => decide (b.code.length ≤ 300)) && decide (mcodeN f.blocks ≤ 900)
def fewW (w : List (List Pair)) : Bool := decide (w.length ≤ 40) && w.all (fun l => decide (l.length ≤ 400))
def fewC (c : Cert) : Bool := few c.S && fewM c.T && fewW c.W
def succsZ (t : Term) : List Int := if t.kind = 1 then [t.to] else if t.kind = 2 then [t.to, t.els] else []
def initZ (q : Pair) (args : Int) : Bool := if q.v < args then decide (q.l.tmod 2 = 1) && decide (q.l.tdiv 2 = q.v) else !decide (q.l.tmod 2 = 1) || decide (args ≤ q.l.tdiv 2)
structure Rep where (err block at_ : Int) (blocks edges steps largest : Nat)
 deriving DecidableEq
def Rep.av (r : Rep) : AV := .agg [AI r.err, AI r.block, AI r.at_, AI r.blocks, AI r.edges, AI r.steps, AI r.largest]
def edgesC (w : List (List Pair)) (out : List Pair) (i : Nat) : List Int → Nat → Rep → Rep × Bool
 | [], _, r => (r, false)
 | to :: ts, k, r =>
  if (missP ((w[to.toNat]?).getD []) out).isSome = true then ({ r with edges := r.edges + 1, steps := r.steps + 1 + out.length + ((w[to.toNat]?).getD []).length, err := 22, block := i, at_ := k }, true)
  else edgesC w out i ts (k + 1) { r with edges := r.edges + 1, steps := r.steps + 1 + out.length + ((w[to.toNat]?).getD []).length }
def blockC (c : Cert) (i : Nat) (r : Rep) : Rep × Bool := match c.S.blocks[i]?, c.T.blocks[i]?, c.W[i]? with
 | some b, some m, some l =>
  if (checkZ b m l 1048576).err ≠ 0 then ({ r with blocks := r.blocks + 1, steps := r.steps + (checkZ b m l 1048576).steps, largest := max r.largest (checkZ b m l 1048576).largest, err := (checkZ b m l 1048576).err, block := i, at_ := (checkZ b m l 1048576).at_ }, true)
  else edgesC c.W (checkZ b m l 1048576).out i (succsZ b.term) 0 { r with blocks := r.blocks + 1, steps := r.steps + (checkZ b m l 1048576).steps, largest := max r.largest (checkZ b m l 1048576).largest }
 | _, _, _ => (r, true)
def Jt5n (c : Cert) : Nat → Nat → Rep → Rep
 | 0, _, r => r
 | n + 1, i, r => match blockC c i r with
  | (r, true) => r
  | (r, false) => Jt5n c n (i + 1) r
def mostW (w : List (List Pair)) : Nat := mostN (w.map List.length)
def w0 (c : Cert) : List Pair := (c.W[0]?).getD []
def rep0 (c : Cert) : Rep := ⟨0, 0, 0, 0, 0, 1 + (w0 c).length, mostW c.W⟩
def Jtk9 (c : Cert) : Rep := if validZ c ≠ 0 then ⟨validZ c, 0, 0, 0, 0, 0, 0⟩ else if ((w0 c).all fun q => initZ q c.S.args) = false then { rep0 c with err := 23 } else Jt5n c c.S.blocks.length 0 (rep0 c)
theorem Jtf6 {bs : List MBlock} (h : ∀ b ∈ bs, b.code.length ≤ 300) : mcodeN bs ≤ 300 * bs.length := by
 induction bs with
 | nil => simp [mcodeN]
 | cons b bs ih =>
  have h1 := h b (by simp)
  have h2 := ih fun b hb => h b (by simp [hb])
  simp only [mcodeN, List.map_cons, List.sum_cons, List.length_cons] at *
  omega
theorem Jtoc {w : List (List Pair)} {k : Nat} {l : List Pair} (h : w[k]? = some l) : wTotal (w.take (k + 1)) = wTotal (w.take k) + l.length := by
 rw [List.take_add_one, h]; simp [wTotal]
theorem Jtob (w : List (List Pair)) (k : Nat) : wTotal (w.take k) ≤ wTotal w := by
 have h : wTotal (w.take k) + wTotal (w.drop k) = wTotal w := by
  unfold wTotal
  rw [← List.sum_append, ← List.map_append, List.take_append_drop]
 omega
section
theorem Jtiv {P : Program} {p : Nums} (A : All P p) (f : MFunc) : Jt3o P p.ref08_Few [f.av] [] fun o _ => o = .ret (AB (fewM f)) := by
 refine A.ref08_Few.run rfl fun R hR => ?_
 (simp (maxSteps := 1000000) [Jtby, MFunc.av])
 ((first | refine Xc (fun a1 => ?_) (fun a1 => ?_) | refine Xo (fun a1 => ?_) (fun a1 => ?_)) <;> (try simp only [Xz, Xy] at a1))
 ·(simp (maxSteps := 1000000) [a1])
  have e : fewM f = false := by simp [fewM]; omega
  (first | exact hR _ _ FrA | exact hR _ _ FnA | exact hR _ _ (Xf (hq := by simp [AV.erase, AV.unview, e]; done)))
 (simp (maxSteps := 1000000) [a1])
 ((first | refine Xc (fun a2 => ?_) (fun a2 => ?_) | refine Xo (fun a2 => ?_) (fun a2 => ?_)) <;> (try simp only [Xz, Xy] at a2))
 ·(simp (maxSteps := 1000000) [a2])
  have e : fewM f = false := by simp [fewM]; omega
  (first | exact hR _ _ FrA | exact hR _ _ FnA | exact hR _ _ (Xf (hq := by simp [AV.erase, AV.unview, e]; done)))
 (simp (maxSteps := 1000000) [a2])
 ((first | refine Xc (fun a3 => ?_) (fun a3 => ?_) | refine Xo (fun a3 => ?_) (fun a3 => ?_)) <;> (try simp only [Xz, Xy] at a3))
 ·(simp (maxSteps := 1000000) [a3])
  have e : fewM f = false := by simp [fewM]; omega
  (first | exact hR _ _ FrA | exact hR _ _ FnA | exact hR _ _ (Xf (hq := by simp [AV.erase, AV.unview, e]; done)))
 (simp (maxSteps := 1000000) [a3])
 refine Jt9 (fun k : Nat => ⟨[(3, AI k), (1, .ptr 0 0)], [.mem [AI f.args, AI f.regs, AI f.slots, .d (.sl (f.blocks.map MBlock.row))]]⟩)
  (fun k => k ≤ f.blocks.length ∧ ∀ b ∈ f.blocks.take k, b.code.length ≤ 300) (fun k => f.blocks.length - k) 0 (by simp) (by (exact wkA)) ?_
 rintro k ⟨hk, hz⟩ N hN
 (simp (maxSteps := 1000000) [])
 ((first | refine Xc (fun h2 => ?_) (fun h2 => ?_) | refine Xo (fun h2 => ?_) (fun h2 => ?_)) <;> (try simp only [Xz, Xy] at h2))
 ·have hkl : k < f.blocks.length := by simpa using h2
  have hb : f.blocks[k]? = some f.blocks[k] := by simp [hkl]
  have hw := Jtoq (k := k) (by omega)
  (simp (maxSteps := 1000000) [h2, hb, MBlock.row])
  ((first | refine Xc (fun h3 => ?_) (fun h3 => ?_) | refine Xo (fun h3 => ?_) (fun h3 => ?_)) <;> (try simp only [Xz, Xy] at h3))
  ·(simp (maxSteps := 1000000) [h3])
   have e : fewM f = false := by
    have : ¬ (∀ b ∈ f.blocks, b.code.length ≤ 300) := fun h => by have := h f.blocks[k] (by simp); omega
    simp [fewM]; intro _ _ _ h; exact absurd h this
   (first | exact hR _ _ FrA | exact hR _ _ FnA | exact hR _ _ (Xf (hq := by simp [AV.erase, AV.unview, e]; done)))
  ·(simp (maxSteps := 1000000) [h3, hw])
   refine hN _ (k + 1) ⟨hkl, ?_⟩ (by (exact wkA)) (by omega)
   intro b hb'
   rw [List.take_add_one, hb, List.mem_append] at hb'
   rcases hb' with hb' | hb'
   ·exact hz b hb'
   ·simp at hb'; subst hb'; omega
 ·have hk' : k = f.blocks.length := by simp at h2; omega
  subst hk'
  (simp (maxSteps := 1000000) [])
  have hcb : mcodeN f.blocks ≤ 300 * f.blocks.length := Jtf6 (by rw [List.take_length] at hz; exact hz)
  (refine Jtt (Jtiu A f (by omega) (by omega)) (by rfl) (by rfl) ?_)
  (simp (maxSteps := 1000000) [])
  have e : fewM f = decide ((mcodeN f.blocks : Int) ≤ 900) := by
   rw [List.take_length] at hz
   have e1 : f.blocks.all (fun b => decide (b.code.length ≤ 300)) = true := by simpa using hz
   have e2 : decide (f.blocks.length ≤ 40) = true := by simp; omega
   have e3 : decide (f.regs ≤ 60) = true := by simp; omega
   have e4 : decide (f.slots ≤ 60) = true := by simp; omega
   simp only [fewM, e1, e2, e3, e4, Bool.true_and]
   congr 1; simp; omega
  (first | exact hR _ _ FrA | exact hR _ _ FnA | exact hR _ _ (Xf (hq := by simp [AV.erase, AV.unview, e]; done)))
theorem Jtjg {P : Program} {p : Nums} (A : All P p) (w : List (List Pair)) : Jt3o P p.ref15_Few [.d (witD w)] [] fun o _ => o = .ret (AB (fewW w)) := by
 refine A.ref15_Few.run rfl fun R hR => ?_
 (simp (maxSteps := 1000000) [Jtch, witD])
 refine Jt9 (fun k : Nat => ⟨[(3, AI k), (0, .d (.sl (w.map fun l => [pairsD l])))], []⟩)
  (fun k => k ≤ w.length ∧ k ≤ 41 ∧ ∀ l ∈ w.take k, l.length ≤ 400) (fun k => w.length - k) 0 (by simp) (by (exact wkA)) ?_
 rintro k ⟨hk, hk41, hz⟩ N hN
 (simp (maxSteps := 1000000) [])
 ((first | refine Xc (fun h2 => ?_) (fun h2 => ?_) | refine Xo (fun h2 => ?_) (fun h2 => ?_)) <;> (try simp only [Xz, Xy] at h2))
 ·have hkl : k < w.length := by simpa using h2
  have hb : w[k]? = some w[k] := by simp [hkl]
  have hw := Jtoq (k := k) (by omega)
  (simp (maxSteps := 1000000) [h2, hb])
  ((first | refine Xc (fun h3 => ?_) (fun h3 => ?_) | refine Xo (fun h3 => ?_) (fun h3 => ?_)) <;> (try simp only [Xz, Xy] at h3))
  ·(simp (maxSteps := 1000000) [h3, hb, pairsD])
   ((first | refine Xc (fun h4 => ?_) (fun h4 => ?_) | refine Xo (fun h4 => ?_) (fun h4 => ?_)) <;> (try simp only [Xz, Xy] at h4))
   ·(simp (maxSteps := 1000000) [h4])
    have e : fewW w = false := by
     simp [fewW]; intro _; exact ⟨w[k], List.getElem_mem hkl, by omega⟩
    (first | exact hR _ _ FrA | exact hR _ _ FnA | exact hR _ _ (Xf (hq := by simp [AV.erase, AV.unview, e]; done)))
   ·(simp (maxSteps := 1000000) [h4, hw])
    refine hN _ (k + 1) ⟨hkl, by omega, ?_⟩ (by (exact wkA)) (by omega)
    intro l hl
    rw [List.take_add_one, hb, List.mem_append] at hl
    rcases hl with hl | hl
    ·exact hz l hl
    ·simp at hl; subst hl; omega
  ·(simp (maxSteps := 1000000) [h3])
   have e : fewW w = false := by simp [fewW]; intro h; omega
   have e2 : 40 < (w.length : Int) := by omega
   (first | exact hR _ _ FrA | exact hR _ _ FnA | exact hR _ _ (Xf (hq := by simp [AV.erase, AV.unview, e, e2]; done)))
 ·have hk' : k = w.length := by simp at h2; omega
  subst hk'
  (simp (maxSteps := 1000000) [])
  have e : fewW w = decide ((w.length : Int) ≤ 40) := by
   rw [List.take_length] at hz
   have e1 : w.all (fun l => decide (l.length ≤ 400)) = true := by simpa using hz
   simp only [fewW, e1, Bool.and_true]
   congr 1; simp; omega
  (first | exact hR _ _ FrA | exact hR _ _ FnA | exact hR _ _ (Xf (hq := by simp [AV.erase, AV.unview, e]; done)))
theorem Jtji {P : Program} {p : Nums} (A : All P p) (c : Cert) : Jt3o P p.ref16_Few [c.av] [] fun o _ => o = .ret (AB (fewC c)) := by
 refine A.ref16_Few.run rfl fun R hR => ?_
 (simp (maxSteps := 1000000) [Jtcj, Cert.av])
 (refine Jtt (Jtio A c.S) (by rfl) (by rfl) ?_)
 (simp (maxSteps := 1000000) [])
 ((first | refine Xc (fun h1 => ?_) (fun h1 => ?_) | refine Xo (fun h1 => ?_) (fun h1 => ?_)) <;> (try simp only [Xz, Xy] at h1))
 ·(simp (maxSteps := 1000000) [h1])
  (refine Jtt (Jtiv A c.T) (by rfl) (by rfl) ?_)
  (simp (maxSteps := 1000000) [])
  ((first | refine Xc (fun h2 => ?_) (fun h2 => ?_) | refine Xo (fun h2 => ?_) (fun h2 => ?_)) <;> (try simp only [Xz, Xy] at h2))
  ·(simp (maxSteps := 1000000) [h2])
   (refine Jtt (Jtjg A c.W) (by rfl) (by rfl) ?_)
   (simp (maxSteps := 1000000) [])
   (first | exact hR _ _ FrA | exact hR _ _ FnA | exact hR _ _ (Xf (hq := by simp [AV.erase, AV.unview, fewC, h1, h2]; done)))
  ·(simp (maxSteps := 1000000) [h2])
   (first | exact hR _ _ FrA | exact hR _ _ FnA | exact hR _ _ (Xf (hq := by simp [AV.erase, AV.unview, fewC, h1, h2]; done)))
 ·(simp (maxSteps := 1000000) [h1])
  (first | exact hR _ _ FrA | exact hR _ _ FnA | exact hR _ _ (Xf (hq := by simp [AV.erase, AV.unview, fewC, h1]; done)))
theorem Jtem {P : Program} {p : Nums} (A : All P p) (f : MFunc) (h0 : f.blocks.length < 1000000000) (h1 : mcodeN f.blocks < 1000000000) : Jt3o P p.machine_Code [f.av] [] fun o _ => o = .ret (AI (mcodeN f.blocks)) := by
 refine A.machine_Code.run rfl fun R hR => ?_
 (simp (maxSteps := 1000000) [Jtaw, MFunc.av])
 refine Jt9 (fun k : Nat => ⟨[(9, AI k), (8, AI f.blocks.length), (7, .d (.sl (f.blocks.map MBlock.row))), (3, AI (mcodeN (f.blocks.take k)))], []⟩) (fun k => k ≤ f.blocks.length) (fun k => f.blocks.length - k) 0 (by simp) (by (exact wkA)) ?_
 intro k hk N hN
 (simp (maxSteps := 1000000) [])
 ((first | refine Xc (fun h2 => ?_) (fun h2 => ?_) | refine Xo (fun h2 => ?_) (fun h2 => ?_)) <;> (try simp only [Xz, Xy] at h2))
 ·have hkl : k < f.blocks.length := by simpa using h2
  have hb : f.blocks[k]? = some f.blocks[k] := by simp [hkl]
  have hw := Jtoq (k := k) (by omega)
  have hs := Jtf8 hb
  have hle := Jtf7 f.blocks (k + 1)
  have hw2 := Jtop (a := mcodeN (f.blocks.take k)) (b := f.blocks[k].code.length) (by omega)
  rw [← hs] at hw2
  (simp (maxSteps := 1000000) [h2, List.getElem?_map, hb, MBlock.row, hw, hw2])
  exact hN _ (k + 1) hkl (by (exact wkA)) (by omega)
 ·have hk' : k = f.blocks.length := by simp at h2; omega
  subst hk'
  (simp (maxSteps := 1000000) [])
  (first | exact hR _ _ FrA | exact hR _ _ FnA | exact hR _ _ (Xf (hq := by simp [AV.erase, AV.unview, List.take_length]; done)))
theorem Jt7q {P : Program} {p : Nums} (A : All P p) (w : List (List Pair)) (h0 : w.length < 1000000000) (h1 : wTotal w < 1000000000) : Jt3o P p.edge_total [.d (witD w)] [] fun o _ => o = .ret (AI (wTotal w)) := by
 refine A.edge_total.run rfl fun R hR => ?_
 (simp (maxSteps := 1000000) [Jtan, witD])
 refine Jt9 (fun k : Nat => ⟨[(8, AI k), (7, AI w.length), (6, .d (.sl (w.map fun l => [pairsD l]))), (3, AI (wTotal (w.take k)))], []⟩) (fun k => k ≤ w.length) (fun k => w.length - k) 0 (by simp) (by (exact wkA)) ?_
 intro k hk N hN
 (simp (maxSteps := 1000000) [])
 ((first | refine Xc (fun h2 => ?_) (fun h2 => ?_) | refine Xo (fun h2 => ?_) (fun h2 => ?_)) <;> (try simp only [Xz, Xy] at h2))
 ·have hkl : k < w.length := by simpa using h2
  have hb : w[k]? = some w[k] := by simp [hkl]
  have hw := Jtoq (k := k) (by omega)
  have hs := Jtoc hb
  have hle := Jtob w (k + 1)
  have hw2 := Jtop (a := wTotal (w.take k)) (b := w[k].length) (by omega)
  rw [← hs] at hw2
  (simp (maxSteps := 1000000) [h2, hb, pairsD, hw, hw2])
  exact hN _ (k + 1) hkl (by (exact wkA)) (by omega)
 ·have hk' : k = w.length := by simp at h2; omega
  subst hk'
  (simp (maxSteps := 1000000) [])
  (first | exact hR _ _ FrA | exact hR _ _ FnA | exact hR _ _ (Xf (hq := by simp [AV.erase, AV.unview, List.take_length]; done)))
theorem Jtgz {P : Program} {p : Nums} (A : All P p) (x : Int) : Jt3o P p.opcode_Machine [AI x] [] fun o _ => o = .ret (AB (knownZ x && x != 2)) := by
 refine A.opcode_Machine.run rfl fun R hR => ?_
 (simp (maxSteps := 1000000) [Jtb5])
 (refine Jtt (Jth2 A x) (by rfl) (by rfl) ?_)
 (simp (maxSteps := 1000000) [])
 ((first | refine Xc (fun h1 => ?_) (fun h1 => ?_) | refine Xo (fun h1 => ?_) (fun h1 => ?_)) <;> (try simp only [Xz, Xy] at h1))
 ·(simp (maxSteps := 1000000) [h1])
  (first | exact hR _ _ FrA | exact hR _ _ FnA | exact hR _ _ (Xf (hq := by simp [AV.erase, AV.unview, h1, bne]; done)))
 ·(simp (maxSteps := 1000000) [h1])
  (first | exact hR _ _ FrA | exact hR _ _ FnA | exact hR _ _ (Xf (hq := by simp [AV.erase, AV.unview, h1]; done)))
end
def clearM (i : Mach) : Bool := (i.d == 0) && (i.a == 0) && (i.b == 0) && (i.imm == 0)
def clearO (i : Mach) : Bool := (i.dst == 0) && (i.src == 0)
def movZ (i : Mach) (regs slots : Int) : Int := if (i.dst.tmod 2 = 1 ∧ i.src.tmod 2 = 1) ∨ rngZ i.dst regs slots = false ∨ rngZ i.src regs slots = false then 10 else 0
def Mach.instr (i : Mach) : Instr := ⟨i.op, i.d, i.a, i.b, i.imm⟩
section
theorem Jtes {P : Program} {p : Nums} (A : All P p) (i : Mach) (regs slots : Int) : Jt3o P p.machine_others_1 [i.av, AI regs, AI slots] [] fun o _ => o = .ret (AI (Jtmg i.instr regs)) := by
 refine A.machine_others_1.run rfl fun R hR => ?_
 (simp (maxSteps := 1000000) [Jtb3, Mach.av])
 (refine Jtt (Jtm4 A i.instr regs) (by rfl) (by rfl) ?_)
 (simp (maxSteps := 1000000) [])
 (first | exact hR _ _ FrA | exact hR _ _ FnA)
theorem Jtet {P : Program} {p : Nums} (A : All P p) (i : Mach) : Jt3o P p.machine_others_2 [i.av] [] fun o _ => o = .ret (AB (clearO i)) := by
 refine A.machine_others_2.run rfl fun R hR => ?_
 (simp (maxSteps := 1000000) [Jtb4, Mach.av])
 ((first | refine Xc (fun h1 => ?_) (fun h1 => ?_) | refine Xo (fun h1 => ?_) (fun h1 => ?_)) <;> (try simp only [Xz, Xy] at h1))
 ·(simp (maxSteps := 1000000) [h1])
  (first | exact hR _ _ FrA | exact hR _ _ FnA | exact hR _ _ (Xf (hq := by simp [AV.erase, AV.unview, clearO, h1]; done)))
 ·(simp (maxSteps := 1000000) [h1])
  (first | exact hR _ _ FrA | exact hR _ _ FnA | exact hR _ _ (Xf (hq := by simp [AV.erase, AV.unview, clearO, h1]; done)))
theorem Jteq {P : Program} {p : Nums} (A : All P p) (i : Mach) : Jt3o P p.machine_moves_2 [i.av] [] fun o _ => o = .ret (AB (clearM i)) := by
 refine A.machine_moves_2.run rfl fun R hR => ?_
 (simp (maxSteps := 1000000) [Jtb1, Mach.av])
 ((first | refine Xc (fun h1 => ?_) (fun h1 => ?_) | refine Xo (fun h1 => ?_) (fun h1 => ?_)) <;> (try simp only [Xz, Xy] at h1))
 ·(simp (maxSteps := 1000000) [h1])
  ((first | refine Xc (fun h2 => ?_) (fun h2 => ?_) | refine Xo (fun h2 => ?_) (fun h2 => ?_)) <;> (try simp only [Xz, Xy] at h2))
  ·(simp (maxSteps := 1000000) [h2])
   ((first | refine Xc (fun h3 => ?_) (fun h3 => ?_) | refine Xo (fun h3 => ?_) (fun h3 => ?_)) <;> (try simp only [Xz, Xy] at h3))
   ·(simp (maxSteps := 1000000) [h3])
    (first | exact hR _ _ FrA | exact hR _ _ FnA | exact hR _ _ (Xf (hq := by simp [AV.erase, AV.unview, clearM, h1, h2, h3]; done)))
   ·(simp (maxSteps := 1000000) [h3])
    (first | exact hR _ _ FrA | exact hR _ _ FnA | exact hR _ _ (Xf (hq := by simp [AV.erase, AV.unview, clearM, h1, h2, h3]; done)))
  ·(simp (maxSteps := 1000000) [h2])
   (first | exact hR _ _ FrA | exact hR _ _ FnA | exact hR _ _ (Xf (hq := by simp [AV.erase, AV.unview, clearM, h1, h2]; done)))
 ·(simp (maxSteps := 1000000) [h1])
  (first | exact hR _ _ FrA | exact hR _ _ FnA | exact hR _ _ (Xf (hq := by simp [AV.erase, AV.unview, clearM, h1]; done)))
theorem Jtep {P : Program} {p : Nums} (A : All P p) (i : Mach) (regs slots : Int) (g1 : okZ i.dst) (g2 : okZ i.src) : Jt3o P p.machine_moves_1 [i.av, AI regs, AI slots] [] fun o _ => o = .ret (AI (movZ i regs slots)) := by
 refine A.machine_moves_1.run rfl fun R hR => ?_
 (simp (maxSteps := 1000000) [Jtb0, Mach.av])
 (refine Jtt (Jte9 A i.dst) (by rfl) (by rfl) ?_)
 (simp (maxSteps := 1000000) [])
 have rest : ∀ both : Bool, both = decide (i.dst.tmod 2 = 1 ∧ i.src.tmod 2 = 1) → movZ i regs slots = if both = true then 10 else if rngZ i.dst regs slots = false then 10 else if rngZ i.src regs slots = false then 10 else 0 := by
  intro both hb
  subst hb
  unfold movZ
  by_cases c1 : i.dst.tmod 2 = 1 ∧ i.src.tmod 2 = 1 <;> cases rngZ i.dst regs slots <;> cases rngZ i.src regs slots <;> simp [c1]
 ((first | refine Xc (fun h1 => ?_) (fun h1 => ?_) | refine Xo (fun h1 => ?_) (fun h1 => ?_)) <;> (try simp only [Xz, Xy] at h1))
 ·(simp (maxSteps := 1000000) [h1])
  (refine Jtt (Jte9 A i.src) (by rfl) (by rfl) ?_)
  (simp (maxSteps := 1000000) [])
  ((first | refine Xc (fun h2 => ?_) (fun h2 => ?_) | refine Xo (fun h2 => ?_) (fun h2 => ?_)) <;> (try simp only [Xz, Xy] at h2))
  ·(simp (maxSteps := 1000000) [h2])
   have e := rest true (by simp [h1, h2])
   (first | exact hR _ _ FrA | exact hR _ _ FnA | exact hR _ _ (Xf (hq := by simp [AV.erase, AV.unview, e]; done)))
  ·have b2 : (i.src.tmod 2 == 1) = false := by simp [h2]
   (simp (maxSteps := 1000000) [h2, b2])
   have e := rest false (by simp [h1, h2])
   (refine Jtt (Jte7 A i.dst regs slots g1.1 g1.2) (by rfl) (by rfl) ?_)
   (simp (maxSteps := 1000000) [])
   ((first | refine Xc (fun h3 => ?_) (fun h3 => ?_) | refine Xo (fun h3 => ?_) (fun h3 => ?_)) <;> (try simp only [Xz, Xy] at h3))
   ·(simp (maxSteps := 1000000) [h3])
    (first | exact hR _ _ FrA | exact hR _ _ FnA | exact hR _ _ (Xf (hq := by simp [AV.erase, AV.unview, e, h3]; done)))
   (simp (maxSteps := 1000000) [h3])
   (refine Jtt (Jte7 A i.src regs slots g2.1 g2.2) (by rfl) (by rfl) ?_)
   (simp (maxSteps := 1000000) [])
   ((first | refine Xc (fun h4 => ?_) (fun h4 => ?_) | refine Xo (fun h4 => ?_) (fun h4 => ?_)) <;> (try simp only [Xz, Xy] at h4))
   ·(simp (maxSteps := 1000000) [h4])
    (first | exact hR _ _ FrA | exact hR _ _ FnA | exact hR _ _ (Xf (hq := by simp [AV.erase, AV.unview, e, h3, h4]; done)))
   (simp (maxSteps := 1000000) [h4])
   (first | exact hR _ _ FrA | exact hR _ _ FnA | exact hR _ _ (Xf (hq := by simp [AV.erase, AV.unview, e, h3, h4]; done)))
 ·have b1 : (i.dst.tmod 2 == 1) = false := by simp [h1]
  (simp (maxSteps := 1000000) [h1, b1])
  have e := rest false (by simp [h1])
  (refine Jtt (Jte7 A i.dst regs slots g1.1 g1.2) (by rfl) (by rfl) ?_)
  (simp (maxSteps := 1000000) [])
  ((first | refine Xc (fun h3 => ?_) (fun h3 => ?_) | refine Xo (fun h3 => ?_) (fun h3 => ?_)) <;> (try simp only [Xz, Xy] at h3))
  ·(simp (maxSteps := 1000000) [h3])
   (first | exact hR _ _ FrA | exact hR _ _ FnA | exact hR _ _ (Xf (hq := by simp [AV.erase, AV.unview, e, h3]; done)))
  (simp (maxSteps := 1000000) [h3])
  (refine Jtt (Jte7 A i.src regs slots g2.1 g2.2) (by rfl) (by rfl) ?_)
  (simp (maxSteps := 1000000) [])
  ((first | refine Xc (fun h4 => ?_) (fun h4 => ?_) | refine Xo (fun h4 => ?_) (fun h4 => ?_)) <;> (try simp only [Xz, Xy] at h4))
  ·(simp (maxSteps := 1000000) [h4])
   (first | exact hR _ _ FrA | exact hR _ _ FnA | exact hR _ _ (Xf (hq := by simp [AV.erase, AV.unview, e, h3, h4]; done)))
  (simp (maxSteps := 1000000) [h4])
  (first | exact hR _ _ FrA | exact hR _ _ FnA | exact hR _ _ (Xf (hq := by simp [AV.erase, AV.unview, e, h3, h4]; done)))
theorem Jteu {P : Program} {p : Nums} (A : All P p) : Jt3o P p.machine_others [] [] fun o _ => o = .ret (.agg [.fn (.func p.machine_others_1) [] [], .fn (.func p.machine_others_2) [] []]) := by
 refine A.machine_others.run rfl fun R hR => ?_
 (simp (maxSteps := 1000000) [Jtb2])
 (first | exact hR _ _ FrA | exact hR _ _ FnA)
theorem Jter {P : Program} {p : Nums} (A : All P p) : Jt3o P p.machine_moves [] [] fun o _ => o = .ret (.agg [.fn (.func p.machine_moves_1) [] [], .fn (.func p.machine_moves_2) [] []]) := by
 refine A.machine_moves.run rfl fun R hR => ?_
 (simp (maxSteps := 1000000) [Jtaz])
 (first | exact hR _ _ FrA | exact hR _ _ FnA)
end
def Jtmj (i : Mach) (regs slots : Int) : Int :=
 if (knownZ i.op && i.op != 2) = false then 8
 else if i.op = 18 then (if movZ i regs slots ≠ 0 then movZ i regs slots else if clearM i = false then 12 else 0)
 else (if Jtmg i.instr regs ≠ 0 then Jtmg i.instr regs else if clearO i = false then 12 else 0)
def sbErr (code : List Mach) (regs slots : Int) (k : Nat) : Int := match code[k]? with
 | none => 0
 | some x => if Jtmj x regs slots ≠ 0 then Jtmj x regs slots else if 64 < runF (code.take (k + 1)) then 15 else 0
def sbErrs (code : List Mach) (regs slots : Int) : Int := Jt8f ((List.range code.length).map (sbErr code regs slots))
def Jtmh (b : MBlock) (regs slots blocks : Int) : Int := if sbErrs b.code regs slots ≠ 0 then sbErrs b.code regs slots else Jtmk b.term regs blocks
def Jtmi (f : MFunc) : Int :=
 if f.args < 0 ∨ f.slots < f.args then 10 else if f.regs < 0 then 9 else if 1048576 < f.slots ∨ 1048576 < f.regs then 6 else if f.blocks.length = 0 then 14 else if 1048576 < f.blocks.length ∨ 1048576 < mcodeN f.blocks then 6
 else Jt8f (f.blocks.map fun b => Jtmh b f.regs f.slots f.blocks.length)
theorem Jtl3 (l : List Mach) : ∀ k, k ≤ l.length → runF (l.take k) ≤ k := by
 intro k
 induction k with
 | zero => intro _; simp [runF]
 | succ k ih =>
  intro h
  rw [Jtl4 (by omega)]
  have := ih (by omega)
  unfold runN; split <;> omega
section
theorem Jten {P : Program} {p : Nums} (A : All P p) (i : Mach) (regs slots : Int) (g1 : okZ i.dst) (g2 : okZ i.src) : Jt3o P p.machine_Instr [i.av, AI regs, AI slots] [] fun o _ => o = .ret (AI (Jtmj i regs slots)) := by
 refine A.machine_Instr.run rfl fun R hR => ?_
 obtain ⟨T, hT⟩ : ∃ T, T = Jtmj i regs slots := ⟨_, rfl⟩
 rw [← hT] at hR
 unfold Jtmj at hT
 have c := Jtgz A i.op
 obtain ⟨km, hkm⟩ : ∃ b, b = (knownZ i.op && i.op != 2) := ⟨_, rfl⟩
 rw [← hkm] at c hT
 (simp (maxSteps := 1000000) [Jtax, Mach.av])
 (refine Jtt c (by rfl) (by rfl) ?_)
 (simp (maxSteps := 1000000) [])
 ((first | refine Xc (fun h1 => ?_) (fun h1 => ?_) | refine Xo (fun h1 => ?_) (fun h1 => ?_)) <;> (try simp only [Xz, Xy] at h1))
 ·(simp (maxSteps := 1000000) [h1])
  rw [if_pos h1] at hT
  (first | exact hR _ _ FrA | exact hR _ _ FnA | exact hR _ _ (Xf (hq := by simp [AV.erase, AV.unview, hT]; done)))
 rw [if_neg (by simp [h1])] at hT
 (simp (maxSteps := 1000000) [h1])
 (refine Jtt (Jteu A) (by rfl) (by rfl) ?_)
 (simp (maxSteps := 1000000) [])
 ((first | refine Xc (fun h2 => ?_) (fun h2 => ?_) | refine Xo (fun h2 => ?_) (fun h2 => ?_)) <;> (try simp only [Xz, Xy] at h2))
 ·rw [if_pos h2] at hT
  (simp (maxSteps := 1000000) [])
  (refine Jtt (Jter A) (by rfl) (by rfl) ?_)
  (simp (maxSteps := 1000000) [])
  refine ⟨A.machine_moves_1.ok, ?_⟩
  (refine Jtt (Jtep A i regs slots g1 g2) (by rfl) (by rfl) ?_)
  (simp (maxSteps := 1000000) [])
  ((first | refine Xc (fun h3 => ?_) (fun h3 => ?_) | refine Xo (fun h3 => ?_) (fun h3 => ?_)) <;> (try simp only [Xz, Xy] at h3))
  ·rw [if_pos h3] at hT
   (simp (maxSteps := 1000000) [h3])
   (first | exact hR _ _ FrA | exact hR _ _ FnA | exact hR _ _ (Xf (hq := by simp [AV.erase, AV.unview, hT]; done)))
  rw [if_neg (by simpa using h3)] at hT
  (simp (maxSteps := 1000000) [h3])
  refine ⟨A.machine_moves_2.ok, ?_⟩
  (refine Jtt (Jteq A i) (by rfl) (by rfl) ?_)
  (simp (maxSteps := 1000000) [])
  ((first | refine Xc (fun h4 => ?_) (fun h4 => ?_) | refine Xo (fun h4 => ?_) (fun h4 => ?_)) <;> (try simp only [Xz, Xy] at h4))
  ·rw [if_pos h4] at hT
   (simp (maxSteps := 1000000) [h4])
   (first | exact hR _ _ FrA | exact hR _ _ FnA | exact hR _ _ (Xf (hq := by simp [AV.erase, AV.unview, hT]; done)))
  rw [if_neg (by simp [h4])] at hT
  (simp (maxSteps := 1000000) [h4])
  (first | exact hR _ _ FrA | exact hR _ _ FnA | exact hR _ _ (Xf (hq := by simp [AV.erase, AV.unview, hT]; done)))
 ·rw [if_neg h2] at hT
  (simp (maxSteps := 1000000) [])
  refine ⟨A.machine_others_1.ok, ?_⟩
  (refine Jtt (Jtes A i regs slots) (by rfl) (by rfl) ?_)
  (simp (maxSteps := 1000000) [])
  ((first | refine Xc (fun h3 => ?_) (fun h3 => ?_) | refine Xo (fun h3 => ?_) (fun h3 => ?_)) <;> (try simp only [Xz, Xy] at h3))
  ·rw [if_pos h3] at hT
   (simp (maxSteps := 1000000) [h3])
   (first | exact hR _ _ FrA | exact hR _ _ FnA | exact hR _ _ (Xf (hq := by simp [AV.erase, AV.unview, hT]; done)))
  rw [if_neg (by simpa using h3)] at hT
  (simp (maxSteps := 1000000) [h3])
  refine ⟨A.machine_others_2.ok, ?_⟩
  (refine Jtt (Jtet A i) (by rfl) (by rfl) ?_)
  (simp (maxSteps := 1000000) [])
  ((first | refine Xc (fun h4 => ?_) (fun h4 => ?_) | refine Xo (fun h4 => ?_) (fun h4 => ?_)) <;> (try simp only [Xz, Xy] at h4))
  ·rw [if_pos h4] at hT
   (simp (maxSteps := 1000000) [h4])
   (first | exact hR _ _ FrA | exact hR _ _ FnA | exact hR _ _ (Xf (hq := by simp [AV.erase, AV.unview, hT]; done)))
  rw [if_neg (by simp [h4])] at hT
  (simp (maxSteps := 1000000) [h4])
  (first | exact hR _ _ FrA | exact hR _ _ FnA | exact hR _ _ (Xf (hq := by simp [AV.erase, AV.unview, hT]; done)))
theorem Jteo {P : Program} {p : Nums} (A : All P p) (f : MFunc) (b : MBlock) (h0 : b.code.length < 1000000000) (hok : okM b) : Jt3o P p.machine_block [f.av, b.av] [] fun o _ => o = .ret (AI (Jtmh b f.regs f.slots f.blocks.length)) := by
 refine A.machine_block.run rfl fun R hR => ?_
 (simp (maxSteps := 1000000) [Jtay, MBlock.av, MFunc.av])
 refine Jt9 (fun k : Nat => ⟨[(12, AI k), (11, AI b.code.length), (10, .d (.sl (b.code.map Mach.row))), (5, AI (runF (b.code.take k))), (2, .ptr 0 0), (3, .ptr 1 0)], [.mem [AI f.args, AI f.regs, AI f.slots, .d (.sl (f.blocks.map MBlock.row))], .mem [.d (.sl (b.code.map Mach.row)), AI b.term.kind, AI b.term.a, AI b.term.to, AI b.term.els]]⟩)
  (fun k => k ≤ b.code.length ∧ ∀ e ∈ ((List.range b.code.length).map (sbErr b.code f.regs f.slots)).take k, e = 0) (fun k => b.code.length - k) 0 (by simp) (by (exact wkA)) ?_
 rintro k ⟨hk, hz⟩ N hN
 (simp (maxSteps := 1000000) [])
 ((first | refine Xc (fun h2 => ?_) (fun h2 => ?_) | refine Xo (fun h2 => ?_) (fun h2 => ?_)) <;> (try simp only [Xz, Xy] at h2))
 ·have hkl : k < b.code.length := by simpa using h2
  have hb : b.code[k]? = some b.code[k] := by simp [hkl]
  have hr : (List.range b.code.length)[k]? = some k := by simp [hkl]
  have hw := Jtoq (k := k) (by omega)
  have hle := Jtl3 b.code k (by omega)
  have hw2 := Jtoq (k := runF (b.code.take k)) (by omega)
  have hsu := Jtl4 hkl
  obtain ⟨g1, g2⟩ := hok _ (List.getElem_mem hkl)
  (simp (maxSteps := 1000000) [h2, hb, Mach.row])
  (refine Jtt (Jten A b.code[k] f.regs f.slots g1 g2) (by rfl) (by rfl) ?_)
  (simp (maxSteps := 1000000) [])
  ((first | refine Xc (fun h3 => ?_) (fun h3 => ?_) | refine Xo (fun h3 => ?_) (fun h3 => ?_)) <;> (try simp only [Xz, Xy] at h3))
  ·(simp (maxSteps := 1000000) [h3])
   have e1 : sbErr b.code f.regs f.slots k = Jtmj b.code[k] f.regs f.slots := by unfold sbErr; rw [hb]; simp only; rw [if_pos h3]
   have e2 : sbErrs b.code f.regs f.slots = Jtmj b.code[k] f.regs f.slots := by rw [← e1]; exact Jt8i hz (by simp [hkl]) (by rw [e1]; exact h3)
   (first | exact hR _ _ FrA | exact hR _ _ FnA | exact hR _ _ (Xf (hq := by simp [AV.erase, AV.unview, Jtmh, e2, h3]; done)))
  ·(simp (maxSteps := 1000000) [h3, hw2])
   have e1 : sbErr b.code f.regs f.slots k = if 64 < runF (b.code.take (k + 1)) then 15 else 0 := by unfold sbErr; rw [hb]; simp only; rw [if_neg (by simpa using h3)]
   ((first | refine Xc (fun h4 => ?_) (fun h4 => ?_) | refine Xo (fun h4 => ?_) (fun h4 => ?_)) <;> (try simp only [Xz, Xy] at h4))
   ·have hrn : runF (b.code.take (k + 1)) = 0 := by rw [hsu]; unfold runN; rw [if_neg (by simpa using h4)]
    rw [hrn] at e1
    (simp (maxSteps := 1000000) [h4, hw])
    exact hN _ (k + 1) ⟨hkl, take_zero hz hr (by rw [e1]; rfl)⟩ (by rw [hrn]; (exact wkA)) (by omega)
   ·have hrn : runF (b.code.take (k + 1)) = runF (b.code.take k) + 1 := by rw [hsu]; unfold runN; rw [if_pos (by simpa using h4)]
    (simp (maxSteps := 1000000) [h4])
    ((first | refine Xc (fun h5 => ?_) (fun h5 => ?_) | refine Xo (fun h5 => ?_) (fun h5 => ?_)) <;> (try simp only [Xz, Xy] at h5))
    ·(simp (maxSteps := 1000000) [h5])
     rw [if_pos (by omega)] at e1
     have e2 : sbErrs b.code f.regs f.slots = 15 := by rw [← e1]; exact Jt8i hz (by simp [hkl]) (by rw [e1]; decide)
     (first | exact hR _ _ FrA | exact hR _ _ FnA | exact hR _ _ (Xf (hq := by simp [AV.erase, AV.unview, Jtmh, e2]; done)))
    ·(simp (maxSteps := 1000000) [h5, hw])
     rw [if_neg (by omega)] at e1
     exact hN _ (k + 1) ⟨hkl, take_zero hz hr e1⟩ (by rw [hrn]; (exact wkA)) (by omega)
 ·have hk' : k = b.code.length := by simp at h2; omega
  subst hk'
  have hfe : sbErrs b.code f.regs f.slots = 0 := Jt8g (by rw [List.take_of_length_le (by simp)] at hz; exact hz)
  (simp (maxSteps := 1000000) [])
  (refine Jtt (Jtm6 A b.term f.regs f.blocks.length) (by rfl) (by rfl) ?_)
  (simp (maxSteps := 1000000) [])
  (first | exact hR _ _ FrA | exact hR _ _ FnA | exact hR _ _ (Xf (hq := by simp [AV.erase, AV.unview, Jtmh, hfe]; done)))
theorem Jtel {P : Program} {p : Nums} (A : All P p) (f : MFunc) (h0 : f.blocks.length < 1000000000) (h1 : mcodeN f.blocks < 1000000000) (hok : ∀ b ∈ f.blocks, okM b) : Jt3o P p.machine_Check [f.av] [] fun o _ => o = .ret (AI (Jtmi f)) := by
 refine A.machine_Check.run rfl fun R hR => ?_
 (simp (maxSteps := 1000000) [Jtav, MFunc.av])
 ((first | refine Xc (fun a1 => ?_) (fun a1 => ?_) | refine Xo (fun a1 => ?_) (fun a1 => ?_)) <;> (try simp only [Xz, Xy] at a1))
 ·(simp (maxSteps := 1000000) [a1])
  have e : Jtmi f = 10 := by unfold Jtmi; repeat (first | rw [if_pos (by omega)] | rw [if_neg (by omega)])
  (first | exact hR _ _ FrA | exact hR _ _ FnA | exact hR _ _ (Xf (hq := by simp [AV.erase, AV.unview, e]; done)))
 (simp (maxSteps := 1000000) [a1])
 ((first | refine Xc (fun a2 => ?_) (fun a2 => ?_) | refine Xo (fun a2 => ?_) (fun a2 => ?_)) <;> (try simp only [Xz, Xy] at a2))
 ·(simp (maxSteps := 1000000) [a2])
  have e : Jtmi f = 10 := by unfold Jtmi; repeat (first | rw [if_pos (by omega)] | rw [if_neg (by omega)])
  (first | exact hR _ _ FrA | exact hR _ _ FnA | exact hR _ _ (Xf (hq := by simp [AV.erase, AV.unview, e]; done)))
 (simp (maxSteps := 1000000) [a2])
 ((first | refine Xc (fun a3 => ?_) (fun a3 => ?_) | refine Xo (fun a3 => ?_) (fun a3 => ?_)) <;> (try simp only [Xz, Xy] at a3))
 ·(simp (maxSteps := 1000000) [a3])
  have e : Jtmi f = 9 := by unfold Jtmi; repeat (first | rw [if_pos (by omega)] | rw [if_neg (by omega)])
  (first | exact hR _ _ FrA | exact hR _ _ FnA | exact hR _ _ (Xf (hq := by simp [AV.erase, AV.unview, e]; done)))
 (simp (maxSteps := 1000000) [a3])
 ((first | refine Xc (fun a4 => ?_) (fun a4 => ?_) | refine Xo (fun a4 => ?_) (fun a4 => ?_)) <;> (try simp only [Xz, Xy] at a4))
 ·(simp (maxSteps := 1000000) [a4])
  have e : Jtmi f = 6 := by unfold Jtmi; repeat (first | rw [if_pos (by omega)] | rw [if_neg (by omega)])
  (first | exact hR _ _ FrA | exact hR _ _ FnA | exact hR _ _ (Xf (hq := by simp [AV.erase, AV.unview, e]; done)))
 (simp (maxSteps := 1000000) [a4])
 ((first | refine Xc (fun a5 => ?_) (fun a5 => ?_) | refine Xo (fun a5 => ?_) (fun a5 => ?_)) <;> (try simp only [Xz, Xy] at a5))
 ·(simp (maxSteps := 1000000) [a5])
  have e : Jtmi f = 6 := by unfold Jtmi; repeat (first | rw [if_pos (by omega)] | rw [if_neg (by omega)])
  (first | exact hR _ _ FrA | exact hR _ _ FnA | exact hR _ _ (Xf (hq := by simp [AV.erase, AV.unview, e]; done)))
 (simp (maxSteps := 1000000) [a5])
 ((first | refine Xc (fun a6 => ?_) (fun a6 => ?_) | refine Xo (fun a6 => ?_) (fun a6 => ?_)) <;> (try simp only [Xz, Xy] at a6))
 ·(simp (maxSteps := 1000000) [a6])
  have e : Jtmi f = 14 := by unfold Jtmi; repeat (first | rw [if_pos (by omega)] | rw [if_neg (by omega)])
  (first | exact hR _ _ FrA | exact hR _ _ FnA | exact hR _ _ (Xf (hq := by simp [AV.erase, AV.unview, e]; done)))
 (simp (maxSteps := 1000000) [a6])
 ((first | refine Xc (fun a7 => ?_) (fun a7 => ?_) | refine Xo (fun a7 => ?_) (fun a7 => ?_)) <;> (try simp only [Xz, Xy] at a7))
 ·(simp (maxSteps := 1000000) [a7])
  have e : Jtmi f = 6 := by unfold Jtmi; repeat (first | rw [if_pos (by omega)] | rw [if_neg (by omega)])
  (first | exact hR _ _ FrA | exact hR _ _ FnA | exact hR _ _ (Xf (hq := by simp [AV.erase, AV.unview, e]; done)))
 (simp (maxSteps := 1000000) [a7])
 (refine Jtt (Jtem A f h0 h1) (by rfl) (by rfl) ?_)
 (simp (maxSteps := 1000000) [])
 ((first | refine Xc (fun a8 => ?_) (fun a8 => ?_) | refine Xo (fun a8 => ?_) (fun a8 => ?_)) <;> (try simp only [Xz, Xy] at a8))
 ·(simp (maxSteps := 1000000) [a8])
  have e : Jtmi f = 6 := by unfold Jtmi; repeat (first | rw [if_pos (by omega)] | rw [if_neg (by omega)])
  (first | exact hR _ _ FrA | exact hR _ _ FnA | exact hR _ _ (Xf (hq := by simp [AV.erase, AV.unview, e]; done)))
 (simp (maxSteps := 1000000) [a8])
 have e : Jtmi f = Jt8f (f.blocks.map fun b => Jtmh b f.regs f.slots f.blocks.length) := by
  unfold Jtmi; repeat (first | rw [if_pos (by omega)] | rw [if_neg (by omega)])
 refine Jt9 (fun k : Nat => ⟨[(48, AI k), (47, AI f.blocks.length), (46, .d (.sl (f.blocks.map MBlock.row))), (1, .ptr 0 0)], [.mem [AI f.args, AI f.regs, AI f.slots, .d (.sl (f.blocks.map MBlock.row))]]⟩)
  (fun k => k ≤ f.blocks.length ∧ ∀ e ∈ (f.blocks.map fun b => Jtmh b f.regs f.slots f.blocks.length).take k, e = 0) (fun k => f.blocks.length - k) 0 (by simp) (by (exact wkA)) ?_
 rintro k ⟨hk, hz⟩ N hN
 (simp (maxSteps := 1000000) [])
 ((first | refine Xc (fun h2 => ?_) (fun h2 => ?_) | refine Xo (fun h2 => ?_) (fun h2 => ?_)) <;> (try simp only [Xz, Xy] at h2))
 ·have hkl : k < f.blocks.length := by simpa using h2
  have hb : f.blocks[k]? = some f.blocks[k] := by simp [hkl]
  have hw := Jtoq (k := k) (by omega)
  have hbl : f.blocks[k].code.length < 1000000000 := by
   have h3 := Jtf8 hb
   have h4 := Jtf7 f.blocks (k + 1)
   omega
  (simp (maxSteps := 1000000) [h2, hb, MBlock.row])
  (refine Jtt (Jteo A f f.blocks[k] hbl (hok _ (List.getElem_mem hkl))) (by rfl) (by rfl) ?_)
  (simp (maxSteps := 1000000) [])
  ((first | refine Xc (fun h3 => ?_) (fun h3 => ?_) | refine Xo (fun h3 => ?_) (fun h3 => ?_)) <;> (try simp only [Xz, Xy] at h3))
  ·(simp (maxSteps := 1000000) [h3])
   have e2 : Jt8f (f.blocks.map fun b => Jtmh b f.regs f.slots f.blocks.length) = Jtmh f.blocks[k] f.regs f.slots f.blocks.length := Jt8i hz (by simp [hkl]) h3
   (first | exact hR _ _ FrA | exact hR _ _ FnA | exact hR _ _ (Xf (hq := by simp [AV.erase, AV.unview, e, e2]; done)))
  ·(simp (maxSteps := 1000000) [h3, hw])
   exact hN _ (k + 1) ⟨hkl, take_zero hz hb (by simpa using h3)⟩ (by (exact wkA)) (by omega)
 ·have hk' : k = f.blocks.length := by simp at h2; omega
  subst hk'
  have hfe : Jt8f (f.blocks.map fun b => Jtmh b f.regs f.slots f.blocks.length) = 0 := Jt8g (by rw [List.take_of_length_le (by simp)] at hz; exact hz)
  (simp (maxSteps := 1000000) [])
  (first | exact hR _ _ FrA | exact hR _ _ FnA | exact hR _ _ (Xf (hq := by simp [AV.erase, AV.unview, e, hfe]; done)))
end
theorem Jth6 {l : List Pair} {vregs regs slots : Int} {k : Nat} (hz : ∀ e ∈ ((List.range l.length).map (pErr l vregs regs slots)).take k, e = 0) (hk : k < l.length) (h : pErr l vregs regs slots k ≠ 0) : pErrs l vregs regs slots = pErr l vregs regs slots k :=
 Jt8i hz (by simp [hk]) h
theorem ibeq (a b : Int) : (a == b) = decide (a = b) := by rw [Bool.eq_iff_iff]; simp
def entA (w : List Pair) (args : Int) : AV := .tup [((w.find? fun q => !initZ q args).getD ⟨0, 0⟩).av, AI (if (w.all fun q => initZ q args) = true then 0 else 23)]
def impA (out w : List Pair) : AV := .tup [((missP w out).getD ⟨0, 0⟩).av, AI (if (missP w out).isSome = true then 22 else 0)]
theorem ent_at {w : List Pair} {args : Int} {k : Nat} (h : k < w.length) (h1 : ∀ q ∈ w.take k, initZ q args = true) (h2 : initZ w[k] args = false) : w.find? (fun q => !initZ q args) = some w[k] ∧ (w.all fun q => initZ q args) = false := by
 constructor
 ·have e : w = w.take k ++ w[k] :: w.drop (k + 1) := by rw [List.getElem_cons_drop, List.take_append_drop]
  have e1 : (w.take k).find? (fun q => !initZ q args) = none := by
   rw [List.find?_eq_none]; intro q hq; simp [h1 q hq]
  have e2 : (w[k] :: w.drop (k + 1)).find? (fun q => !initZ q args) = some w[k] := by
   rw [List.find?_cons_of_pos (by simp [h2])]
  have e3 := congrArg (List.find? fun q => !initZ q args) e
  rw [List.find?_append, e1, e2] at e3
  exact e3
 ·rw [← Bool.not_eq_true, List.all_eq_true]
  intro h'
  have := h' w[k] (List.getElem_mem h)
  rw [h2] at this; cases this
section
theorem Jtm5 {P : Program} {p : Nums} (A : All P p) (t : Term) : Jt3o P p.source_Successors [t.av] [] fun o _ => o = .ret (.d (.sl ((succsZ t).map fun x => [I x]))) := by
 refine A.source_Successors.run rfl fun R hR => ?_
 (simp (maxSteps := 1000000) [Jtcq, Term.av])
 ((first | refine Xc (fun h1 => ?_) (fun h1 => ?_) | refine Xo (fun h1 => ?_) (fun h1 => ?_)) <;> (try simp only [Xz, Xy] at h1))
 ·(simp (maxSteps := 1000000) [h1])
  (first | exact hR _ _ FrA | exact hR _ _ FnA | exact hR _ _ (Xf (hq := by simp [AV.erase, AV.unview, succsZ, h1]; done)))
 (simp (maxSteps := 1000000) [h1])
 ((first | refine Xc (fun h2 => ?_) (fun h2 => ?_) | refine Xo (fun h2 => ?_) (fun h2 => ?_)) <;> (try simp only [Xz, Xy] at h2))
 ·(simp (maxSteps := 1000000) [h2])
  (first | exact hR _ _ FrA | exact hR _ _ FnA | exact hR _ _ (Xf (hq := by simp [AV.erase, AV.unview, succsZ, h1, h2]; done)))
 (simp (maxSteps := 1000000) [h2])
 exact hR _ _ (Jt3t .nils (.d (.sl ((succsZ t).map fun x => [I x]))) [] rfl (by simp only [succsZ, if_neg h1, if_neg h2, List.map_nil]; (exact wkA)) rfl)
theorem Jtiq {P : Program} {p : Nums} (A : All P p) (t : Term) : Jt3o P p.ref07_Successors [t.av] [] fun o _ => o = .ret (.d (.sl ((succsZ t).map fun x => [I x]))) := by
 refine A.ref07_Successors.run rfl fun R hR => ?_
 (simp (maxSteps := 1000000) [Jtbt, Term.av])
 ((first | refine Xc (fun h1 => ?_) (fun h1 => ?_) | refine Xo (fun h1 => ?_) (fun h1 => ?_)) <;> (try simp only [Xz, Xy] at h1))
 ·(simp (maxSteps := 1000000) [h1])
  (first | exact hR _ _ FrA | exact hR _ _ FnA | exact hR _ _ (Xf (hq := by simp [AV.erase, AV.unview, succsZ, h1]; done)))
 (simp (maxSteps := 1000000) [h1])
 ((first | refine Xc (fun h2 => ?_) (fun h2 => ?_) | refine Xo (fun h2 => ?_) (fun h2 => ?_)) <;> (try simp only [Xz, Xy] at h2))
 ·(simp (maxSteps := 1000000) [h2])
  (first | exact hR _ _ FrA | exact hR _ _ FnA | exact hR _ _ (Xf (hq := by simp [AV.erase, AV.unview, succsZ, h1, h2]; done)))
 (simp (maxSteps := 1000000) [h2])
 exact hR _ _ (Jt3t .nils (.d (.sl ((succsZ t).map fun x => [I x]))) [] rfl (by simp only [succsZ, if_neg h1, if_neg h2, List.map_nil]; (exact wkA)) rfl)
theorem Jt7n {P : Program} {p : Nums} (A : All P p) (q : Pair) (args : Int) (h0 : 0 ≤ q.l) (h1 : q.l ≤ 9223372036854775807) (h2 : 0 ≤ q.v) (h3 : q.v ≤ 1000000000000000) : Jt3o P p.edge_Initial [q.av, AI args] [] fun o _ => o = .ret (AB (initZ q args)) := by
 have em : q.l.tmod 2 = q.l % 2 := Int.tmod_eq_emod_of_nonneg h0
 have ed : q.l.tdiv 2 = q.l / 2 := Int.tdiv_eq_ediv_of_nonneg h0
 refine A.edge_Initial.run rfl fun R hR => ?_
 (simp (maxSteps := 1000000) [Jtak, Pair.av])
 ((first | refine Xc (fun h4 => ?_) (fun h4 => ?_) | refine Xo (fun h4 => ?_) (fun h4 => ?_)) <;> (try simp only [Xz, Xy] at h4))
 ·(simp (maxSteps := 1000000) [h4])
  (refine Jtt (Jteb A q.v (by omega) (by omega)) (by rfl) (by rfl) ?_)
  (simp (maxSteps := 1000000) [])
  have e : initZ q args = decide (q.l = 2 * q.v + 1) := by
   unfold initZ; rw [if_pos h4, em, ed, Bool.eq_iff_iff]; simp; omega
  (first | exact hR _ _ FrA | exact hR _ _ FnA | exact hR _ _ (Xf (hq := by simp [AV.erase, AV.unview, e, ibeq]; done)))
 ·(simp (maxSteps := 1000000) [h4])
  (refine Jtt (Jte9 A q.l) (by rfl) (by rfl) ?_)
  (simp (maxSteps := 1000000) [])
  ((first | refine Xc (fun h5 => ?_) (fun h5 => ?_) | refine Xo (fun h5 => ?_) (fun h5 => ?_)) <;> (try simp only [Xz, Xy] at h5))
  ·(simp (maxSteps := 1000000) [h5])
   have e : initZ q args = true := by unfold initZ; rw [if_neg h4]; simp [h5]
   (first | exact hR _ _ FrA | exact hR _ _ FnA | exact hR _ _ (Xf (hq := by simp [AV.erase, AV.unview, e]; done)))
  ·(simp (maxSteps := 1000000) [h5])
   (refine Jtt (Jte8 A q.l (by omega) (by omega)) (by rfl) (by rfl) ?_)
   (simp (maxSteps := 1000000) [])
   have e : initZ q args = decide (args ≤ q.l.tdiv 2) := by unfold initZ; rw [if_neg h4]; simp [h5]
   (first | exact hR _ _ FrA | exact hR _ _ FnA | exact hR _ _ (Xf (hq := by simp [AV.erase, AV.unview, e]; done)))
theorem Jt7l {P : Program} {p : Nums} (A : All P p) (w : List Pair) (args : Int) (h0 : w.length < 1000000) (hw : ∀ q ∈ w, 0 ≤ q.l ∧ q.l ≤ 9223372036854775807 ∧ 0 ≤ q.v ∧ q.v ≤ 1000000000000000) : Jt3o P p.edge_Entry [.d (pairsD w), AI args] [] fun o _ => o = .ret (entA w args) := by
 refine A.edge_Entry.run rfl fun R hR => ?_
 (simp (maxSteps := 1000000) [Jtai, pairsD])
 refine Jt9 (fun k : Nat => ⟨[(10, AI k), (9, AI w.length), (8, .d (.sl (w.map Pair.row))), (5, AI 0), (4, .ptr 0 0), (1, AI args)], [.mem [AI 0, AI 0]]⟩) (fun k => k ≤ w.length ∧ ∀ q ∈ w.take k, initZ q args = true) (fun k => w.length - k) 0 (by simp) (by (exact wkA)) ?_
 rintro k ⟨hk, hz⟩ N hN
 (simp (maxSteps := 1000000) [])
 ((first | refine Xc (fun h2 => ?_) (fun h2 => ?_) | refine Xo (fun h2 => ?_) (fun h2 => ?_)) <;> (try simp only [Xz, Xy] at h2))
 ·have hkl : k < w.length := by simpa using h2
  have hb : w[k]? = some w[k] := by simp
  have hw1 := Jtoq (k := k) (by omega)
  obtain ⟨g1, g2, g3, g4⟩ := hw w[k] (List.getElem_mem hkl)
  (simp (maxSteps := 1000000) [h2, hb, Pair.row])
  (refine Jtt (Jt7n A w[k] args g1 g2 g3 g4) (by rfl) (by rfl) ?_)
  (simp (maxSteps := 1000000) [])
  ((first | refine Xc (fun h3 => ?_) (fun h3 => ?_) | refine Xo (fun h3 => ?_) (fun h3 => ?_)) <;> (try simp only [Xz, Xy] at h3))
  ·(simp (maxSteps := 1000000) [h3])
   obtain ⟨e1, e2⟩ := ent_at hkl hz (by simpa using h3)
   (first | exact hR _ _ FrA | exact hR _ _ FnA | exact hR _ _ (Xf (hq := by simp [AV.erase, AV.unview, entA, e1, e2, Pair.av]; done)))
  ·(simp (maxSteps := 1000000) [h3, hw1])
   refine hN _ (k + 1) ⟨hkl, ?_⟩ (by (exact wkA)) (by omega)
   intro q hq
   rw [List.take_add_one, hb] at hq
   rcases List.mem_append.1 hq with hq | hq
   ·exact hz q hq
   ·simp at hq; subst hq; simpa using h3
 ·have hk' : k = w.length := by simp at h2; omega
  subst hk'
  rw [List.take_length] at hz
  have e1 : (w.all fun q => initZ q args) = true := by rw [List.all_eq_true]; exact hz
  have e2 : w.find? (fun q => !initZ q args) = none := by rw [List.find?_eq_none]; intro q hq; simp [hz q hq]
  (simp (maxSteps := 1000000) [])
  (first | exact hR _ _ FrA | exact hR _ _ FnA | exact hR _ _ (Xf (hq := by simp [AV.erase, AV.unview, entA, e1, e2, Pair.av]; done)))
theorem Jt7m {P : Program} {p : Nums} (A : All P p) (out w : List Pair) (h0 : out.length < 1000000) (h1 : w.length < 1000000) (ho : Srt out) (hw : Srt w) : Jt3o P p.edge_Implies [.d (pairsD out), .d (pairsD w)] [] fun o _ => o = .ret (impA out w) := by
 refine A.edge_Implies.run rfl fun R hR => ?_
 (simp (maxSteps := 1000000) [Jtaj])
 (refine Jtt (Jtho A w out h1 h0 hw ho) (by rfl) (by rfl) ?_)
 (simp (maxSteps := 1000000) [missA, Pair.av])
 ((first | refine Xc (fun h2 => ?_) (fun h2 => ?_) | refine Xo (fun h2 => ?_) (fun h2 => ?_)) <;> (try simp only [Xz, Xy] at h2))
 ·(simp (maxSteps := 1000000) [h2])
  (first | exact hR _ _ FrA | exact hR _ _ FnA | exact hR _ _ (Xf (hq := by simp [AV.erase, AV.unview, impA, h2, Pair.av]; done)))
 ·(simp (maxSteps := 1000000) [h2])
  have e : missP w out = none := by simpa using h2
  (first | exact hR _ _ FrA | exact hR _ _ FnA | exact hR _ _ (Xf (hq := by simp [AV.erase, AV.unview, impA, e, Pair.av]; done)))
end
theorem Jth5 {l : List Pair} {k : Nat} (hk : k < l.length) (vregs regs slots : Int) : pErr l vregs regs slots k = if l[k].v < 0 ∨ vregs ≤ l[k].v then 9 else if rngZ l[k].l regs slots = false then 10 else if 0 < k ∧ (match l[k - 1]? with | some q0 => lessP q0 l[k] | none => true) = false then 13 else 0 := by
 unfold pErr; rw [List.getElem?_eq_getElem hk]; try rfl
section
theorem Jt7p {P : Program} {p : Nums} (A : All P p) (l : List Pair) (vregs regs slots : Int) (h0 : l.length < 1000000000) (hok : ∀ q ∈ l, okZ q.l) : Jt3o P p.edge_pairs [.d (pairsD l), AI vregs, AI regs, AI slots] [] fun o _ => o = .ret (AI (pErrs l vregs regs slots)) := by
 refine A.edge_pairs.run rfl fun R hR => ?_
 (simp (maxSteps := 1000000) [Jtam, pairsD])
 refine Jt9 (fun k : Nat => ⟨[(13, AI k), (12, AI l.length), (11, .d (.sl (l.map Pair.row))), (0, .d (.sl (l.map Pair.row))), (1, AI vregs), (2, AI regs), (3, AI slots)], []⟩)
  (fun k => k ≤ l.length ∧ ∀ e ∈ ((List.range l.length).map (pErr l vregs regs slots)).take k, e = 0) (fun k => l.length - k) 0 (by simp) (by (exact wkA)) ?_
 rintro k ⟨hk, hz⟩ N hN
 (simp (maxSteps := 1000000) [])
 ((first | refine Xc (fun h2 => ?_) (fun h2 => ?_) | refine Xo (fun h2 => ?_) (fun h2 => ?_)) <;> (try simp only [Xz, Xy] at h2))
 ·have hkl : k < l.length := by simpa using h2
  have hb : l[k]? = some l[k] := by simp
  have hr : (List.range l.length)[k]? = some k := by simp [hkl]
  have hw := Jtoq (k := k) (by omega)
  obtain ⟨g1, g2⟩ := hok _ (List.getElem_mem hkl)
  have hv := Jth5 hkl vregs regs slots
  (simp (maxSteps := 1000000) [h2, hb, Pair.row])
  ((first | refine Xc (fun h3 => ?_) (fun h3 => ?_) | refine Xo (fun h3 => ?_) (fun h3 => ?_)) <;> (try simp only [Xz, Xy] at h3))
  ·(simp (maxSteps := 1000000) [h3])
   rw [if_pos (.inl h3)] at hv
   have e := Jth6 hz hkl (by rw [hv]; decide)
   (first | exact hR _ _ FrA | exact hR _ _ FnA | exact hR _ _ (Xf (hq := by simp [AV.erase, AV.unview, e, hv]; done)))
  (simp (maxSteps := 1000000) [h3])
  ((first | refine Xc (fun h4 => ?_) (fun h4 => ?_) | refine Xo (fun h4 => ?_) (fun h4 => ?_)) <;> (try simp only [Xz, Xy] at h4))
  ·(simp (maxSteps := 1000000) [h4])
   rw [if_pos (.inr h4)] at hv
   have e := Jth6 hz hkl (by rw [hv]; decide)
   (first | exact hR _ _ FrA | exact hR _ _ FnA | exact hR _ _ (Xf (hq := by simp [AV.erase, AV.unview, e, hv]; done)))
  (simp (maxSteps := 1000000) [h4])
  rw [if_neg (by omega)] at hv
  (refine Jtt (Jte7 A l[k].l regs slots g1 g2) (by rfl) (by rfl) ?_)
  (simp (maxSteps := 1000000) [])
  ((first | refine Xc (fun h5 => ?_) (fun h5 => ?_) | refine Xo (fun h5 => ?_) (fun h5 => ?_)) <;> (try simp only [Xz, Xy] at h5))
  ·(simp (maxSteps := 1000000) [h5])
   rw [if_pos h5] at hv
   have e := Jth6 hz hkl (by rw [hv]; decide)
   (first | exact hR _ _ FrA | exact hR _ _ FnA | exact hR _ _ (Xf (hq := by simp [AV.erase, AV.unview, e, hv]; done)))
  rw [if_neg (by simp [h5])] at hv
  (simp (maxSteps := 1000000) [h5])
  ((first | refine Xc (fun h6 => ?_) (fun h6 => ?_) | refine Xo (fun h6 => ?_) (fun h6 => ?_)) <;> (try simp only [Xz, Xy] at h6))
  ·obtain ⟨lo, hlo⟩ : ∃ x, x = k - 1 := ⟨_, rfl⟩
   have hk0 : 0 < k := by omega
   have hll : lo < l.length := by omega
   have hbl : l[lo]? = some l[lo] := by simp
   have hwl : IntKind.i64.wrap ((k : Int) - 1) = (lo : Int) := by
    have e1 : (k : Int) - 1 = (lo : Int) := by omega
    rw [e1]; exact wrapN (by omega)
   rw [← hlo, hbl] at hv
   simp only [hk0, true_and] at hv
   have c := Jthl A l[lo] l[k]
   obtain ⟨b, hbe⟩ : ∃ b, b = lessP l[lo] l[k] := ⟨_, rfl⟩
   rw [← hbe] at hv c
   (simp (maxSteps := 1000000) [h6, hwl, hbl, Pair.row])
   (refine Jtt c (by rfl) (by rfl) ?_)
   (simp (maxSteps := 1000000) [])
   ((first | refine Xc (fun h7 => ?_) (fun h7 => ?_) | refine Xo (fun h7 => ?_) (fun h7 => ?_)) <;> (try simp only [Xz, Xy] at h7))
   ·(simp (maxSteps := 1000000) [h7])
    rw [if_pos h7] at hv
    have e := Jth6 hz hkl (by rw [hv]; decide)
    (first | exact hR _ _ FrA | exact hR _ _ FnA | exact hR _ _ (Xf (hq := by simp [AV.erase, AV.unview, e, hv]; done)))
   ·rw [if_neg (by simp [h7])] at hv
    (simp (maxSteps := 1000000) [h7, hw])
    exact hN _ (k + 1) ⟨hkl, take_zero hz hr hv⟩ (by (exact wkA)) (by omega)
  ·rw [if_neg (by omega)] at hv
   (simp (maxSteps := 1000000) [h6, hw])
   exact hN _ (k + 1) ⟨hkl, take_zero hz hr hv⟩ (by (exact wkA)) (by omega)
 ·have hk' : k = l.length := by simp at h2; omega
  subst hk'
  have hfe : pErrs l vregs regs slots = 0 := Jt8g (by rw [List.take_of_length_le (by simp)] at hz; exact hz)
  (simp (maxSteps := 1000000) [])
  (first | exact hR _ _ FrA | exact hR _ _ FnA | exact hR _ _ (Xf (hq := by simp [AV.erase, AV.unview, hfe]; done)))
theorem Jt7o {P : Program} {p : Nums} (A : All P p) (w : List (List Pair)) (blocks vregs regs slots : Int) (h0 : w.length < 1000000000) (h1 : wTotal w < 1000000000) (hl : ∀ l ∈ w, l.length < 1000000000) (hok : okW w) :
  Jt3o P p.edge_Valid [.d (witD w), AI blocks, AI vregs, AI regs, AI slots] [] fun o _ => o = .ret (AI (Jt7k w blocks vregs regs slots)) := by
 refine A.edge_Valid.run rfl fun R hR => ?_
 (simp (maxSteps := 1000000) [Jtal, witD])
 ((first | refine Xc (fun a1 => ?_) (fun a1 => ?_) | refine Xo (fun a1 => ?_) (fun a1 => ?_)) <;> (try simp only [Xz, Xy] at a1))
 ·(simp (maxSteps := 1000000) [a1])
  have e : Jt7k w blocks vregs regs slots = 14 := by unfold Jt7k; rw [if_pos a1]
  (first | exact hR _ _ FrA | exact hR _ _ FnA | exact hR _ _ (Xf (hq := by simp [AV.erase, AV.unview, e]; done)))
 (simp (maxSteps := 1000000) [a1])
 (refine Jtt (Jt7q A w h0 h1) (by rfl) (by rfl) ?_)
 (simp (maxSteps := 1000000) [])
 ((first | refine Xc (fun a2 => ?_) (fun a2 => ?_) | refine Xo (fun a2 => ?_) (fun a2 => ?_)) <;> (try simp only [Xz, Xy] at a2))
 ·(simp (maxSteps := 1000000) [a2])
  have e : Jt7k w blocks vregs regs slots = 6 := by unfold Jt7k; rw [if_neg (fun h => h a1), if_pos (by omega)]
  (first | exact hR _ _ FrA | exact hR _ _ FnA | exact hR _ _ (Xf (hq := by simp [AV.erase, AV.unview, e]; done)))
 (simp (maxSteps := 1000000) [a2])
 have e : Jt7k w blocks vregs regs slots = Jt8f (w.map fun l => pErrs l vregs regs slots) := by unfold Jt7k; rw [if_neg (fun h => h a1), if_neg (by omega)]
 refine Jt9 (fun k : Nat => ⟨[(25, AI k), (24, AI w.length), (23, .d (.sl (w.map fun l => [pairsD l]))), (2, AI vregs), (3, AI regs), (4, AI slots)], []⟩)
  (fun k => k ≤ w.length ∧ ∀ e ∈ (w.map fun l => pErrs l vregs regs slots).take k, e = 0) (fun k => w.length - k) 0 (by simp) (by (exact wkA)) ?_
 rintro k ⟨hk, hz⟩ N hN
 (simp (maxSteps := 1000000) [])
 ((first | refine Xc (fun h2 => ?_) (fun h2 => ?_) | refine Xo (fun h2 => ?_) (fun h2 => ?_)) <;> (try simp only [Xz, Xy] at h2))
 ·have hkl : k < w.length := by simpa using h2
  have hb : w[k]? = some w[k] := by simp
  have hw := Jtoq (k := k) (by omega)
  (simp (maxSteps := 1000000) [h2, hb])
  (refine Jtt (Jt7p A w[k] vregs regs slots (hl _ (List.getElem_mem hkl)) (hok _ (List.getElem_mem hkl))) (by rfl) (by rfl) ?_)
  (simp (maxSteps := 1000000) [])
  ((first | refine Xc (fun h3 => ?_) (fun h3 => ?_) | refine Xo (fun h3 => ?_) (fun h3 => ?_)) <;> (try simp only [Xz, Xy] at h3))
  ·(simp (maxSteps := 1000000) [h3])
   have e2 : Jt8f (w.map fun l => pErrs l vregs regs slots) = pErrs w[k] vregs regs slots := Jt8i hz (by simp [hkl]) h3
   (first | exact hR _ _ FrA | exact hR _ _ FnA | exact hR _ _ (Xf (hq := by simp [AV.erase, AV.unview, e, e2]; done)))
  ·(simp (maxSteps := 1000000) [h3, hw])
   exact hN _ (k + 1) ⟨hkl, take_zero hz hb (by simpa using h3)⟩ (by (exact wkA)) (by omega)
 ·have hk' : k = w.length := by simp at h2; omega
  subst hk'
  have hfe : Jt8f (w.map fun l => pErrs l vregs regs slots) = 0 := Jt8g (by rw [List.take_of_length_le (by simp)] at hz; exact hz)
  (simp (maxSteps := 1000000) [])
  (first | exact hR _ _ FrA | exact hR _ _ FnA | exact hR _ _ (Xf (hq := by simp [AV.erase, AV.unview, e, hfe]; done)))
theorem Jtjh {P : Program} {p : Nums} (A : All P p) (w : List (List Pair)) (blocks vregs regs slots : Int) (h0 : w.length < 1000000000) (h1 : wTotal w < 1000000000) (hl : ∀ l ∈ w, l.length < 1000000000) (hok : okW w) :
  Jt3o P p.ref15_Valid [.d (witD w), AI blocks, AI vregs, AI regs, AI slots] [] fun o _ => o = .ret (AI (Jt7k w blocks vregs regs slots)) := by
 refine A.ref15_Valid.run rfl fun R hR => ?_
 (simp (maxSteps := 1000000) [Jtci, witD])
 ((first | refine Xc (fun a1 => ?_) (fun a1 => ?_) | refine Xo (fun a1 => ?_) (fun a1 => ?_)) <;> (try simp only [Xz, Xy] at a1))
 ·(simp (maxSteps := 1000000) [a1])
  have e : Jt7k w blocks vregs regs slots = 14 := by unfold Jt7k; rw [if_pos a1]
  (first | exact hR _ _ FrA | exact hR _ _ FnA | exact hR _ _ (Xf (hq := by simp [AV.erase, AV.unview, e]; done)))
 (simp (maxSteps := 1000000) [a1])
 refine Jt9 (fun k : Nat => ⟨[(12, AI k), (11, AI (wTotal (w.take k))), (0, .d (.sl (w.map fun l => [pairsD l]))), (2, AI vregs), (3, AI regs), (4, AI slots)], []⟩) (fun k => k ≤ w.length ∧ wTotal (w.take k) ≤ 1048576) (fun k => w.length - k) 0 (by simp [wTotal]) (by (exact wkA)) ?_
 rintro k ⟨hk, ht⟩ N hN
 (simp (maxSteps := 1000000) [])
 ((first | refine Xc (fun h2 => ?_) (fun h2 => ?_) | refine Xo (fun h2 => ?_) (fun h2 => ?_)) <;> (try simp only [Xz, Xy] at h2))
 ·have hkl : k < w.length := by simpa using h2
  have hb : w[k]? = some w[k] := by simp [hkl]
  have hw := Jtoq (k := k) (by omega)
  have hs := Jtoc hb
  have hle := Jtob w (k + 1)
  have hw2 := Jtop (a := wTotal (w.take k)) (b := w[k].length) (by omega)
  rw [← hs] at hw2
  (simp (maxSteps := 1000000) [h2, hb, pairsD, hw2])
  ((first | refine Xc (fun h3 => ?_) (fun h3 => ?_) | refine Xo (fun h3 => ?_) (fun h3 => ?_)) <;> (try simp only [Xz, Xy] at h3))
  ·(simp (maxSteps := 1000000) [h3])
   have e : Jt7k w blocks vregs regs slots = 6 := by unfold Jt7k; rw [if_neg (fun h => h a1), if_pos (by omega)]
   (first | exact hR _ _ FrA | exact hR _ _ FnA | exact hR _ _ (Xf (hq := by simp [AV.erase, AV.unview, e]; done)))
  ·(simp (maxSteps := 1000000) [h3, hw])
   exact hN _ (k + 1) ⟨hkl, by omega⟩ (by (exact wkA)) (by omega)
 have hk' : k = w.length := by simp at h2; omega
 subst hk'
 rw [List.take_length] at ht
 (simp (maxSteps := 1000000) [])
 have e : Jt7k w blocks vregs regs slots = Jt8f (w.map fun l => pErrs l vregs regs slots) := by unfold Jt7k; rw [if_neg (fun h => h a1), if_neg (by omega)]
 refine Jt9 (fun k : Nat => ⟨[(13, AI k), (0, .d (.sl (w.map fun l => [pairsD l]))), (2, AI vregs), (3, AI regs), (4, AI slots)], []⟩)
  (fun k => k ≤ w.length ∧ ∀ e ∈ (w.map fun l => pErrs l vregs regs slots).take k, e = 0) (fun k => w.length - k) 0 (by simp) (by (exact wkA)) ?_
 rintro k ⟨hk, hz⟩ N hN
 (simp (maxSteps := 1000000) [])
 ((first | refine Xc (fun h2 => ?_) (fun h2 => ?_) | refine Xo (fun h2 => ?_) (fun h2 => ?_)) <;> (try simp only [Xz, Xy] at h2))
 ·have hkl : k < w.length := by simpa using h2
  have hb : w[k]? = some w[k] := by simp
  have hw := Jtoq (k := k) (by omega)
  obtain ⟨l, hle⟩ : ∃ l, l = w[k] := ⟨_, rfl⟩
  have hll : l.length < 1000000000 := by rw [hle]; exact hl _ (List.getElem_mem hkl)
  have hokl : ∀ q ∈ l, okZ q.l := by rw [hle]; exact hok _ (List.getElem_mem hkl)
  have hbad : pErrs l vregs regs slots ≠ 0 → Jt8f (w.map fun l => pErrs l vregs regs slots) = pErrs l vregs regs slots := fun h3 => by
   rw [hle] at h3 ⊢; exact Jt8i hz (by simp [hkl]) h3
  rw [← hle] at hb
  (simp (maxSteps := 1000000) [h2])
  refine Jt9 (fun j : Nat => ⟨[(14, AI j), (13, AI k), (0, .d (.sl (w.map fun l => [pairsD l]))), (2, AI vregs), (3, AI regs), (4, AI slots)], []⟩)
   (fun j => j ≤ l.length ∧ ∀ e ∈ ((List.range l.length).map (pErr l vregs regs slots)).take j, e = 0) (fun j => l.length - j) 0 (by simp) (by (exact wkA)) ?_
  rintro j ⟨hj, hy⟩ N' hN'
  (simp (maxSteps := 1000000) [hb, pairsD])
  ((first | refine Xc (fun h3 => ?_) (fun h3 => ?_) | refine Xo (fun h3 => ?_) (fun h3 => ?_)) <;> (try simp only [Xz, Xy] at h3))
  ·have hjl : j < l.length := by simpa using h3
   have hbj : l[j]? = some l[j] := by simp
   have hr : (List.range l.length)[j]? = some j := by simp [hjl]
   have hwj := Jtoq (k := j) (by omega)
   obtain ⟨g1, g2⟩ := hokl _ (List.getElem_mem hjl)
   have hv := Jth5 hjl vregs regs slots
   (simp (maxSteps := 1000000) [h3, hb, hbj, Pair.row, pairsD])
   ((first | refine Xc (fun h4 => ?_) (fun h4 => ?_) | refine Xo (fun h4 => ?_) (fun h4 => ?_)) <;> (try simp only [Xz, Xy] at h4))
   ·(simp (maxSteps := 1000000) [h4])
    rw [if_pos (.inl h4)] at hv
    have e2 := Jth6 hy hjl (by rw [hv]; decide)
    have e3 := hbad (by rw [e2, hv]; decide)
    (first | exact hR _ _ FrA | exact hR _ _ FnA | exact hR _ _ (Xf (hq := by simp [AV.erase, AV.unview, e, e3, e2, hv]; done)))
   (simp (maxSteps := 1000000) [h4])
   ((first | refine Xc (fun h5 => ?_) (fun h5 => ?_) | refine Xo (fun h5 => ?_) (fun h5 => ?_)) <;> (try simp only [Xz, Xy] at h5))
   ·(simp (maxSteps := 1000000) [h5])
    rw [if_pos (.inr h5)] at hv
    have e2 := Jth6 hy hjl (by rw [hv]; decide)
    have e3 := hbad (by rw [e2, hv]; decide)
    (first | exact hR _ _ FrA | exact hR _ _ FnA | exact hR _ _ (Xf (hq := by simp [AV.erase, AV.unview, e, e3, e2, hv]; done)))
   (simp (maxSteps := 1000000) [h5])
   rw [if_neg (by omega)] at hv
   (refine Jtt (Jtii A l[j].l regs slots g1 g2) (by rfl) (by rfl) ?_)
   (simp (maxSteps := 1000000) [])
   ((first | refine Xc (fun h6 => ?_) (fun h6 => ?_) | refine Xo (fun h6 => ?_) (fun h6 => ?_)) <;> (try simp only [Xz, Xy] at h6))
   ·(simp (maxSteps := 1000000) [h6])
    rw [if_pos h6] at hv
    have e2 := Jth6 hy hjl (by rw [hv]; decide)
    have e3 := hbad (by rw [e2, hv]; decide)
    (first | exact hR _ _ FrA | exact hR _ _ FnA | exact hR _ _ (Xf (hq := by simp [AV.erase, AV.unview, e, e3, e2, hv]; done)))
   rw [if_neg (by simp [h6])] at hv
   (simp (maxSteps := 1000000) [h6])
   ((first | refine Xc (fun h7 => ?_) (fun h7 => ?_) | refine Xo (fun h7 => ?_) (fun h7 => ?_)) <;> (try simp only [Xz, Xy] at h7))
   ·obtain ⟨lo, hlo⟩ : ∃ x, x = j - 1 := ⟨_, rfl⟩
    have hk0 : 0 < j := by omega
    have hlol : lo < l.length := by omega
    have hbl : l[lo]? = some l[lo] := by simp
    have hwl : IntKind.i64.wrap ((j : Int) - 1) = (lo : Int) := by
     have e1 : (j : Int) - 1 = (lo : Int) := by omega
     rw [e1]; exact wrapN (by omega)
    rw [← hlo, hbl] at hv
    simp only [hk0, true_and] at hv
    have c := Jtj0 A l[lo] l[j]
    obtain ⟨b, hbe⟩ : ∃ b, b = lessP l[lo] l[j] := ⟨_, rfl⟩
    rw [← hbe] at hv c
    (simp (maxSteps := 1000000) [h7, hwl, hb, hbl, Pair.row, pairsD])
    (refine Jtt c (by rfl) (by rfl) ?_)
    (simp (maxSteps := 1000000) [])
    ((first | refine Xc (fun h8 => ?_) (fun h8 => ?_) | refine Xo (fun h8 => ?_) (fun h8 => ?_)) <;> (try simp only [Xz, Xy] at h8))
    ·(simp (maxSteps := 1000000) [h8])
     rw [if_pos h8] at hv
     have e2 := Jth6 hy hjl (by rw [hv]; decide)
     have e3 := hbad (by rw [e2, hv]; decide)
     (first | exact hR _ _ FrA | exact hR _ _ FnA | exact hR _ _ (Xf (hq := by simp [AV.erase, AV.unview, e, e3, e2, hv]; done)))
    ·rw [if_neg (by simp [h8])] at hv
     (simp (maxSteps := 1000000) [h8, hwj])
     exact hN' _ (j + 1) ⟨hjl, take_zero hy hr hv⟩ (by (exact wkA)) (by omega)
   ·rw [if_neg (by omega)] at hv
    (simp (maxSteps := 1000000) [h7, hwj])
    exact hN' _ (j + 1) ⟨hjl, take_zero hy hr hv⟩ (by (exact wkA)) (by omega)
  ·have hj' : j = l.length := by simp at h3; omega
   subst hj'
   have hfe : pErrs l vregs regs slots = 0 := Jt8g (by rw [List.take_of_length_le (by simp)] at hy; exact hy)
   (simp (maxSteps := 1000000) [hw])
   exact hN _ (k + 1) ⟨hkl, take_zero hz hb hfe⟩ (by (exact wkA)) (by omega)
 ·have hk' : k = w.length := by simp at h2; omega
  subst hk'
  have hfe : Jt8f (w.map fun l => pErrs l vregs regs slots) = 0 := Jt8g (by rw [List.take_of_length_le (by simp)] at hz; exact hz)
  (simp (maxSteps := 1000000) [])
  (first | exact hR _ _ FrA | exact hR _ _ FnA | exact hR _ _ (Xf (hq := by simp [AV.erase, AV.unview, e, hfe]; done)))
end
theorem Jtfm (i : Mach) (regs slots : Int) : Jtmj i regs slots = Jtjp i regs slots := by
 have hk : (knownZ i.op && i.op != 2) = false ↔ (i.op < 1 ∨ 18 < i.op ∨ i.op = 2) := by
  rw [← Bool.not_eq_true, Bool.and_eq_true]
  simp only [knownZ, decide_eq_true_eq, bne_iff_ne, ne_eq]
  omega
 unfold Jtmj Jtjp
 by_cases h1 : i.op < 1 ∨ 18 < i.op ∨ i.op = 2
 ·rw [if_pos (hk.2 h1), if_pos h1]
 ·rw [if_neg (fun h => h1 (hk.1 h)), if_neg h1]
  by_cases h2 : i.op = 18
  ·rw [if_pos h2, if_pos h2]
   have hc : clearM i = false ↔ (i.d ≠ 0 ∨ i.a ≠ 0 ∨ i.b ≠ 0 ∨ i.imm ≠ 0) := by
    rw [← Bool.not_eq_true]; unfold clearM; simp only [Bool.and_eq_true, beq_iff_eq]; omega
   by_cases hA : rngZ i.dst regs slots = false ∨ rngZ i.src regs slots = false ∨ (i.dst.tmod 2 = 1 ∧ i.src.tmod 2 = 1)
   ·have e : movZ i regs slots = 10 := by
     unfold movZ
     rw [if_pos]
     rcases hA with h | h | h
     ·exact .inr (.inl h)
     ·exact .inr (.inr h)
     ·exact .inl h
    rw [e, if_pos (by decide), if_pos hA]
   ·have e : movZ i regs slots = 0 := by
     unfold movZ
     rw [if_neg]
     rintro (h | h | h)
     ·exact hA (.inr (.inr h))
     ·exact hA (.inl h)
     ·exact hA (.inr (.inl h))
    rw [e, if_neg (by decide), if_neg hA]
    by_cases hd : clearM i = false
    ·rw [if_pos hd, if_pos (hc.1 hd)]
    ·rw [if_neg hd, if_neg (fun h => hd (hc.2 h))]
  ·rw [if_neg h2, if_neg h2, Jtdc]
   have hc : clearO i = false ↔ (i.dst ≠ 0 ∨ i.src ≠ 0) := by
    rw [← Bool.not_eq_true]; unfold clearO; simp only [Bool.and_eq_true, beq_iff_eq]; omega
   show (if Jtjm i.instr regs ≠ 0 then Jtjm i.instr regs else if clearO i = false then 12 else 0) = if Jtjm i.instr regs = 0 ∧ (i.dst ≠ 0 ∨ i.src ≠ 0) then 12 else Jtjm i.instr regs
   by_cases he : Jtjm i.instr regs = 0
   ·rw [if_neg (fun h => h he)]
    by_cases hd : clearO i = false
    ·rw [if_pos hd, if_pos ⟨he, hc.1 hd⟩]
    ·rw [if_neg hd, if_neg (fun h => hd (hc.2 h.2)), he]
   ·rw [if_pos he, if_neg (fun h => he h.1)]
theorem sb_eq (code : List Mach) (regs slots : Int) (k : Nat) : sbErr code regs slots k = mErr code regs slots k := by
 unfold sbErr mErr
 cases hk : code[k]? with
 | none => rfl
 | some x =>
  have hlt := (List.getElem?_eq_some_iff.1 hk).1
  simp only [Jtfm]
  by_cases h : 64 < runF (code.take (k + 1))
  ·rw [if_pos h, if_pos ((Jtg3 hlt).1 h)]
  ·rw [if_neg h, if_neg (fun h' => h ((Jtg3 hlt).2 h'))]
theorem Jtf4 (f : MFunc) : Jtmi f = Jtjo f := by
 have e : ∀ b : MBlock, Jtmh b f.regs f.slots f.blocks.length = Jtjn b f.regs f.slots f.blocks.length := by
  intro b
  have e1 : sbErr b.code f.regs f.slots = mErr b.code f.regs f.slots := funext (sb_eq _ _ _)
  unfold Jtmh Jtjn sbErrs mErrs
  rw [e1, Jtnm]
 simp only [Jtmi, Jtjo, e]
structure okCert (c : Cert) : Prop where
 s0 : c.S.blocks.length < 1000000000
 s1 : codeN c.S.blocks < 1000000000
 t0 : c.T.blocks.length < 1000000000
 t1 : mcodeN c.T.blocks < 1000000000
 t2 : ∀ b ∈ c.T.blocks, okM b
 w0 : c.W.length < 1000000000
 w1 : wTotal c.W < 1000000000
 w2 : okW c.W
theorem okCert.w3 {c : Cert} (h : okCert c) : ∀ l ∈ c.W, l.length < 1000000000 := by
 intro l hl
 obtain ⟨k, hk⟩ := List.getElem?_of_mem hl
 have h1 := Jtoc hk
 have h2 := Jtob c.W (k + 1)
 have := h.w1
 omega
section
theorem Jtjj {P : Program} {p : Nums} (A : All P p) (c : Cert) (ok : okCert c) : Jt3o P p.ref16_Valid [c.av] [] fun o _ => o = .ret (AI (validZ c)) := by
 obtain ⟨T, hT⟩ : ∃ T, T = validZ c := ⟨_, rfl⟩
 refine A.ref16_Valid.run rfl fun R hR => ?_
 rw [← hT] at hR
 unfold validZ at hT
 have c1 := Jtim A c.S ok.s0 ok.s1
 have c2 := Jtit A c.T ok.t0 ok.t1 ok.t2
 have c3 := Jtjh A c.W c.S.blocks.length c.S.regs c.T.regs c.T.slots ok.w0 ok.w1 ok.w3 ok.w2
 obtain ⟨e1, he1⟩ : ∃ e, e = Jtjl c.S := ⟨_, rfl⟩
 obtain ⟨e2, he2⟩ : ∃ e, e = Jtjo c.T := ⟨_, rfl⟩
 obtain ⟨e3, he3⟩ : ∃ e, e = Jt7k c.W c.S.blocks.length c.S.regs c.T.regs c.T.slots := ⟨_, rfl⟩
 rw [← he1] at hT c1
 rw [← he2] at hT c2
 rw [← he3] at hT c3
 (simp (maxSteps := 1000000) [Jtck, Cert.av])
 (refine Jtt c1 (by rfl) (by rfl) ?_)
 (simp (maxSteps := 1000000) [])
 ((first | refine Xc (fun h1 => ?_) (fun h1 => ?_) | refine Xo (fun h1 => ?_) (fun h1 => ?_)) <;> (try simp only [Xz, Xy] at h1))
 ·rw [if_pos h1] at hT
  (simp (maxSteps := 1000000) [h1])
  (first | exact hR _ _ FrA | exact hR _ _ FnA | exact hR _ _ (Xf (hq := by simp [AV.erase, AV.unview, hT]; done)))
 rw [if_neg (by simpa using h1)] at hT
 (simp (maxSteps := 1000000) [h1])
 (refine Jtt c2 (by rfl) (by rfl) ?_)
 (simp (maxSteps := 1000000) [])
 ((first | refine Xc (fun h2 => ?_) (fun h2 => ?_) | refine Xo (fun h2 => ?_) (fun h2 => ?_)) <;> (try simp only [Xz, Xy] at h2))
 ·rw [if_pos h2] at hT
  (simp (maxSteps := 1000000) [h2])
  (first | exact hR _ _ FrA | exact hR _ _ FnA | exact hR _ _ (Xf (hq := by simp [AV.erase, AV.unview, hT]; done)))
 rw [if_neg (by simpa using h2)] at hT
 (simp (maxSteps := 1000000) [h2])
 ((first | refine Xc (fun h3 => ?_) (fun h3 => ?_) | refine Xo (fun h3 => ?_) (fun h3 => ?_)) <;> (try simp only [Xz, Xy] at h3))
 ·rw [if_pos (.inl (by omega))] at hT
  (simp (maxSteps := 1000000) [h3])
  (first | exact hR _ _ FrA | exact hR _ _ FnA | exact hR _ _ (Xf (hq := by simp [AV.erase, AV.unview, hT]; done)))
 (simp (maxSteps := 1000000) [h3])
 ((first | refine Xc (fun h4 => ?_) (fun h4 => ?_) | refine Xo (fun h4 => ?_) (fun h4 => ?_)) <;> (try simp only [Xz, Xy] at h4))
 ·rw [if_pos (.inr h4)] at hT
  (simp (maxSteps := 1000000) [h4])
  (first | exact hR _ _ FrA | exact hR _ _ FnA | exact hR _ _ (Xf (hq := by simp [AV.erase, AV.unview, hT]; done)))
 rw [if_neg (by omega)] at hT
 (simp (maxSteps := 1000000) [h4])
 (refine Jtt c3 (by rfl) (by rfl) ?_)
 (simp (maxSteps := 1000000) [])
 (first | exact hR _ _ FrA | exact hR _ _ FnA | exact hR _ _ (Xf (hq := by simp [AV.erase, AV.unview, hT]; done)))
theorem Jt6j {P : Program} {p : Nums} (A : All P p) (c : Cert) (ok : okCert c) : Jt3o P p.checker_Valid [c.av] [] fun o _ => o = .ret (AI (validZ c)) := by
 obtain ⟨T, hT⟩ : ∃ T, T = validZ c := ⟨_, rfl⟩
 refine A.checker_Valid.run rfl fun R hR => ?_
 rw [← hT] at hR
 unfold validZ at hT
 have c1 := Jtm2 A c.S ok.s0 ok.s1
 have c2 := Jtel A c.T ok.t0 ok.t1 ok.t2
 have c3 := Jt7o A c.W c.S.blocks.length c.S.regs c.T.regs c.T.slots ok.w0 ok.w1 ok.w3 ok.w2
 rw [Jt6g] at c1
 rw [Jtf4] at c2
 obtain ⟨e1, he1⟩ : ∃ e, e = Jtjl c.S := ⟨_, rfl⟩
 obtain ⟨e2, he2⟩ : ∃ e, e = Jtjo c.T := ⟨_, rfl⟩
 obtain ⟨e3, he3⟩ : ∃ e, e = Jt7k c.W c.S.blocks.length c.S.regs c.T.regs c.T.slots := ⟨_, rfl⟩
 rw [← he1] at hT c1
 rw [← he2] at hT c2
 rw [← he3] at hT c3
 (simp (maxSteps := 1000000) [Jtag, Cert.av])
 (refine Jtt c1 (by rfl) (by rfl) ?_)
 (simp (maxSteps := 1000000) [])
 ((first | refine Xc (fun h1 => ?_) (fun h1 => ?_) | refine Xo (fun h1 => ?_) (fun h1 => ?_)) <;> (try simp only [Xz, Xy] at h1))
 ·rw [if_pos h1] at hT
  (simp (maxSteps := 1000000) [h1])
  (first | exact hR _ _ FrA | exact hR _ _ FnA | exact hR _ _ (Xf (hq := by simp [AV.erase, AV.unview, hT]; done)))
 rw [if_neg (by simpa using h1)] at hT
 (simp (maxSteps := 1000000) [h1])
 (refine Jtt c2 (by rfl) (by rfl) ?_)
 (simp (maxSteps := 1000000) [])
 ((first | refine Xc (fun h2 => ?_) (fun h2 => ?_) | refine Xo (fun h2 => ?_) (fun h2 => ?_)) <;> (try simp only [Xz, Xy] at h2))
 ·rw [if_pos h2] at hT
  (simp (maxSteps := 1000000) [h2])
  (first | exact hR _ _ FrA | exact hR _ _ FnA | exact hR _ _ (Xf (hq := by simp [AV.erase, AV.unview, hT]; done)))
 rw [if_neg (by simpa using h2)] at hT
 (simp (maxSteps := 1000000) [h2])
 ((first | refine Xc (fun h3 => ?_) (fun h3 => ?_) | refine Xo (fun h3 => ?_) (fun h3 => ?_)) <;> (try simp only [Xz, Xy] at h3))
 ·rw [if_pos (.inl (by omega))] at hT
  (simp (maxSteps := 1000000) [h3])
  (first | exact hR _ _ FrA | exact hR _ _ FnA | exact hR _ _ (Xf (hq := by simp [AV.erase, AV.unview, hT]; done)))
 (simp (maxSteps := 1000000) [h3])
 ((first | refine Xc (fun h4 => ?_) (fun h4 => ?_) | refine Xo (fun h4 => ?_) (fun h4 => ?_)) <;> (try simp only [Xz, Xy] at h4))
 ·rw [if_pos (.inr h4)] at hT
  (simp (maxSteps := 1000000) [h4])
  (first | exact hR _ _ FrA | exact hR _ _ FnA | exact hR _ _ (Xf (hq := by simp [AV.erase, AV.unview, hT]; done)))
 rw [if_neg (by omega)] at hT
 (simp (maxSteps := 1000000) [h4])
 (refine Jtt c3 (by rfl) (by rfl) ?_)
 (simp (maxSteps := 1000000) [])
 (first | exact hR _ _ FrA | exact hR _ _ FnA | exact hR _ _ (Xf (hq := by simp [AV.erase, AV.unview, hT]; done)))
end
def VS : List Int := (List.range 61).map fun n : Nat => (n : Int)
def LS : List Int := (List.range 122).map fun n : Nat => (n : Int)
theorem mem_VS {x : Int} (h0 : 0 ≤ x) (h1 : x ≤ 60) : x ∈ VS := List.mem_map.2 ⟨x.toNat, List.mem_range.2 (by omega), by omega⟩
theorem mem_LS {x : Int} (h0 : 0 ≤ x) (h1 : x ≤ 121) : x ∈ LS := List.mem_map.2 ⟨x.toNat, List.mem_range.2 (by omega), by omega⟩
theorem VL_few : VS.length * LS.length < 100000 := by decide
theorem src_ok {f : Func} (h : Jtjl f = 0) : 0 ≤ f.args ∧ f.args ≤ f.regs ∧ 0 < f.blocks.length ∧ ∀ b ∈ f.blocks, (∀ i ∈ b.code, Jtjm i f.regs = 0) ∧ Jtjs b.term f.regs f.blocks.length = 0 := by
 unfold Jtjl at h
 split at h
 ·cases h
 split at h
 ·cases h
 split at h
 ·cases h
 split at h
 ·cases h
 refine ⟨by omega, by omega, by omega, fun b hb => ?_⟩
 have h3 := Jt8h h _ (List.mem_map_of_mem hb)
 simp only [Jtjk] at h3
 split at h3
 ·rename_i h5; exact absurd h3 h5
 ·rename_i h5
  exact ⟨fun i hi => Jt8h (es := b.code.map (Jtjm · f.regs)) (by simpa using h5) _ (List.mem_map_of_mem hi), h3⟩
theorem Jtdb {i : Instr} {regs : Int} (h : Jtjm i regs = 0) (h0 : 0 ≤ regs) (h1 : regs ≤ 60) : i.d ∈ VS := by
 unfold Jtjm at h
 split at h
 ·cases h
 split at h
 ·cases h
 rename_i h9
 split at h
 ·cases h
 rename_i h12
 cases hu : usesD i.op with
 | true =>
  simp only [bad9, hu, Bool.true_and, Bool.or_eq_true, not_or, Bool.not_eq_true', inZ] at h9
  have := h9.1.1
  simp at this
  exact mem_VS this.1 (by omega)
 | false =>
  simp only [bad12, hu, Bool.not_false, Bool.true_and, Bool.or_eq_true, not_or, bne_iff_ne, ne_eq, Decidable.not_not] at h12
  rw [h12.1.1.1]; exact mem_VS (by omega) (by omega)
theorem Jtnn {t : Term} {regs blocks : Int} (h : Jtjs t regs blocks = 0) : ∀ x ∈ succsZ t, 0 ≤ x ∧ x < blocks := by
 unfold Jtjs at h
 unfold succsZ
 intro x hx
 split at h
 ·rename_i k1
  rw [if_pos k1] at hx
  simp only [List.mem_singleton] at hx
  split at h
  ·cases h
  ·rename_i k2
   subst hx; simpa [inZ] using k2
 ·rename_i k1
  rw [if_neg k1] at hx
  split at h
  ·rename_i k3
   rw [if_pos k3] at hx
   split at h
   ·cases h
   split at h
   ·cases h
   rename_i k4 k5
   simp only [not_or] at k5
   simp only [List.mem_cons, List.not_mem_nil, or_false] at hx
   rcases hx with rfl | rfl
   ·simpa [inZ] using k5.1
   ·simpa [inZ] using k5.2
  ·rename_i k3
   rw [if_neg k3] at hx; simp at hx
theorem mac_ok {f : MFunc} (h : Jtjo f = 0) : 0 ≤ f.args ∧ f.args ≤ f.slots ∧ 0 ≤ f.regs ∧ ∀ b ∈ f.blocks, ∀ x ∈ b.code, Jtjp x f.regs f.slots = 0 := by
 unfold Jtjo at h
 split at h
 ·cases h
 split at h
 ·cases h
 split at h
 ·cases h
 split at h
 ·cases h
 split at h
 ·cases h
 refine ⟨by omega, by omega, by omega, fun b hb x hx => ?_⟩
 have h3 := Jt8h h _ (List.mem_map_of_mem hb)
 unfold Jtjn at h3
 split at h3
 ·rename_i h5; exact absurd h3 h5
 ·rename_i h5
  have h6 : mErrs b.code f.regs f.slots = 0 := by simpa using h5
  obtain ⟨k, hk⟩ := List.getElem?_of_mem hx
  have hlt := (List.getElem?_eq_some_iff.1 hk).1
  have h7 := Jt8h h6 (mErr b.code f.regs f.slots k) (List.mem_map.2 ⟨k, List.mem_range.2 hlt, rfl⟩)
  unfold mErr at h7
  rw [hk] at h7
  simp only at h7
  split at h7
  ·rename_i h8; exact absurd h7 h8
  ·rename_i h8; simpa using h8
theorem rng_ok {l r s : Int} (h : rngZ l r s = true) (hr : r ≤ 60) (hs : s ≤ 60) : 0 ≤ l ∧ l ≤ 121 := by
 unfold rngZ at h
 split at h
 ·rename_i h1
  simp only [Bool.and_eq_true, decide_eq_true_eq] at h
  have := Int.tdiv_eq_ediv_of_nonneg (b := 2) h.1
  omega
 ·rename_i h1
  simp only [Bool.and_eq_true, decide_eq_true_eq] at h
  have := Int.tdiv_eq_ediv_of_nonneg (b := 2) h.1
  omega
theorem Jtfn {x : Mach} {regs slots : Int} (h : Jtjp x regs slots = 0) (h0 : 0 ≤ regs) (h1 : regs ≤ 60) (h2 : slots ≤ 60) : x.dst ∈ LS ∧ regZ x.d ∈ LS := by
 unfold Jtjp at h
 have hz : ∀ d : Int, 0 ≤ d → d ≤ 60 → regZ d ∈ LS := by
  intro d k0 k1
  have : regZ d = 2 * d := by unfold regZ; exact wrap_i64 (by omega) (by omega)
  rw [this]; exact mem_LS (by omega) (by omega)
 split at h
 ·cases h
 split at h
 ·split at h
  ·cases h
  rename_i k1
  split at h
  ·cases h
  rename_i k2
  simp only [not_or, Bool.not_eq_false] at k1
  obtain ⟨g0, g1⟩ := rng_ok k1.1 h1 h2
  refine ⟨mem_LS g0 g1, ?_⟩
  have : x.d = 0 := by simp only [not_or, Decidable.not_not, ne_eq] at k2; exact k2.1
  rw [this]; exact hz 0 (by omega) (by omega)
 ·split at h
  ·cases h
  rename_i k1
  have e : x.dst = 0 := by
   rw [h] at k1
   simp only [true_and, not_or, ne_eq, Decidable.not_not] at k1
   exact k1.1
  have hd := Jtdb h h0 h1
  obtain ⟨n, hn, hd⟩ := List.mem_map.1 hd
  simp only at hd
  have := List.mem_range.1 hn
  refine ⟨by rw [e]; exact mem_LS (by omega) (by omega), hz _ (by omega) (by omega)⟩
theorem Jthc {l : List Pair} {vregs regs slots : Int} (h : pErrs l vregs regs slots = 0) (hv : vregs ≤ 60) (hr : regs ≤ 60) (hs : slots ≤ 60) : Srt l ∧ ∀ q ∈ l, 0 ≤ q.v ∧ q.v ≤ 60 ∧ 0 ≤ q.l ∧ q.l ≤ 121 := by
 have key : ∀ k (hk : k < l.length), 0 ≤ l[k].v ∧ l[k].v < vregs ∧ rngZ l[k].l regs slots = true ∧ (0 < k → ∀ q0, l[k - 1]? = some q0 → lessP q0 l[k] = true) := by
  intro k hk
  have h7 := Jt8h h (pErr l vregs regs slots k) (List.mem_map.2 ⟨k, List.mem_range.2 hk, rfl⟩)
  rw [Jth5 hk] at h7
  split at h7
  ·cases h7
  rename_i a1
  split at h7
  ·cases h7
  rename_i a2
  refine ⟨by omega, by omega, by simpa using a2, fun h0 q0 hq0 => ?_⟩
  rw [hq0] at h7
  cases hx : lessP q0 l[k] with
  | true => rfl
  | false =>
   simp only [hx, h0, and_self, if_true] at h7
   cases h7
 refine ⟨Jtmm.2 fun k hk => ?_, fun q hq => ?_⟩
 ·exact (key (k + 1) hk).2.2.2 (by omega) l[k] (by simp)
 ·obtain ⟨k, hk⟩ := List.getElem?_of_mem hq
  obtain ⟨hlt, rfl⟩ := List.getElem?_eq_some_iff.1 hk
  obtain ⟨a1, a2, a3, _⟩ := key k hlt
  obtain ⟨a4, a5⟩ := rng_ok a3 hr hs
  exact ⟨a1, by omega, a4, a5⟩
structure Fit (c : Cert) : Prop where
 lenT : c.T.blocks.length = c.S.blocks.length
 lenW : c.W.length = c.S.blocks.length
 pos : 0 < c.S.blocks.length
 few : c.S.blocks.length ≤ 40
 w : ∀ l ∈ c.W, Srt l ∧ l.length ≤ 400 ∧ ∀ q ∈ l, 0 ≤ q.v ∧ q.v ≤ 60 ∧ 0 ≤ q.l ∧ q.l ≤ 121
 vl : ∀ b ∈ c.S.blocks, ∀ m ∈ c.T.blocks, VLOk VS LS b.code m.code
 cs : ∀ b ∈ c.S.blocks, b.code.length ≤ 100
 ct : ∀ m ∈ c.T.blocks, m.code.length ≤ 300
 to : ∀ b ∈ c.S.blocks, ∀ x ∈ succsZ b.term, 0 ≤ x ∧ x < c.S.blocks.length
 ars : 0 ≤ c.S.args ∧ c.S.args ≤ 60
theorem fit_of {c : Cert} (h : validZ c = 0) (hf : fewC c = true) : Fit c := by
 unfold validZ at h
 split at h
 ·rename_i g; exact absurd h g
 rename_i g1
 split at h
 ·rename_i g; exact absurd h g
 rename_i g2
 split at h
 ·cases h
 rename_i g3
 have v1 : Jtjl c.S = 0 := by simpa using g1
 have v2 : Jtjo c.T = 0 := by simpa using g2
 unfold Jt7k at h
 split at h
 ·cases h
 rename_i g4
 split at h
 ·cases h
 rename_i g5
 simp only [fewC, few, fewM, fewW, Bool.and_eq_true, decide_eq_true_eq, List.all_eq_true] at hf
 obtain ⟨⟨⟨⟨⟨f1, f2⟩, f3⟩, f4⟩, ⟨⟨⟨⟨f5, f6⟩, f7⟩, f8⟩, f9⟩⟩, f10, f11⟩ := hf
 obtain ⟨s1, s2, s3, s4⟩ := src_ok v1
 obtain ⟨t1, t2, t3, t4⟩ := mac_ok v2
 exact {
  lenT := by omega
  lenW := by omega
  pos := s3
  few := f1
  w := fun l hl => by
   obtain ⟨p1, p2⟩ := Jthc (Jt8h h _ (List.mem_map_of_mem hl)) f2 f6 f7
   exact ⟨p1, f11 l hl, p2⟩
  vl := fun b hb m hm => ⟨fun i hi => Jtdb ((s4 b hb).1 i hi) (by omega) f2, fun x hx => Jtfn (t4 m hm x hx) t3 f6 f7⟩
  cs := f3
  ct := f8
  to := fun b hb x hx => Jtnn (s4 b hb).2 x hx
  ars := ⟨s1, by omega⟩ }
structure Good (r : Res) : Prop where
 srt : Srt r.out
 len : r.out.length < 100000
 steps : r.steps ≤ 1000000000
 lg : r.largest < 100000
theorem Jt6f {V L : List Int} {b : Block} {m : MBlock} {l : List Pair} {most : Int} (hl : ∀ q ∈ l, q.v ∈ V ∧ q.l ∈ L) (hv : VLOk V L b.code m.code) (few : V.length * L.length < 100000) (hl0 : l.length < 100000)
  (hb0 : b.code.length ≤ 1000) (hm0 : m.code.length ≤ 1000) : Over V L (checkZ b m l most).out := by
 have hnil : Over V L [] := ⟨List.Pairwise.nil, fun q hq => by simp at hq⟩
 obtain ⟨a1, a2, a3⟩ := Jt4q b.code m.code
 unfold checkZ
 split
 ·exact hnil
 ·by_cases h2 : (if (alignZ b.code m.code).2.2 = 0 ∧ termsZ b.term m.term = false then 20 else (alignZ b.code m.code).2.2) ≠ 0
  ·simp only [if_pos h2]; exact hnil
  ·simp only [if_neg h2]
   have hover : Over V L (makeP l) := ⟨Jtmu l, fun q hq => hl q (Jtfd.1 hq)⟩
   have hroom : Room V L ⟨makeP l, 0, l.length⟩ (0 + 1 + needRs (alignZ b.code m.code).1) := by
    refine ⟨hover, few, ?_, by simp only; omega⟩
    have h1 := Jtg9 a1
    have h2 : (alignZ b.code m.code).1.length * (3 + m.code.length + b.code.length) ≤ 1001 * 2003 := Nat.mul_le_mul (by omega) (by omega)
    simp only
    omega
   have hr := Jtl1 (most := most) hv hroom a1
   generalize runC most b m (alignZ b.code m.code).1 ⟨makeP l, 0, l.length⟩ = r at hr
   obtain ⟨t, e⟩ := r
   simp only
   split
   ·exact hr.over
   ·exact hnil
theorem Fit.good {c : Cert} (h : Fit c) {b : Block} {m : MBlock} {l : List Pair} (hb : b ∈ c.S.blocks) (hm : m ∈ c.T.blocks) (hl : l ∈ c.W) (most : Int) : Good (checkZ b m l most) := by
 obtain ⟨w1, w2, w3⟩ := h.w l hl
 have k1 : ∀ q ∈ l, q.v ∈ VS ∧ q.l ∈ LS := fun q hq => by
  obtain ⟨a1, a2, a3, a4⟩ := w3 q hq
  exact ⟨mem_VS a1 a2, mem_LS a3 a4⟩
 have c1 := h.cs b hb
 have c2 := h.ct m hm
 have o := Jt6f (most := most) k1 (h.vl b hb m hm) VL_few (by omega) (by omega) (by omega)
 obtain ⟨r1, r2⟩ := Jt6e (most := most) k1 (h.vl b hb m hm) VL_few (by omega) (by omega) (by omega)
 have bd := (Jt6d b m l most (Jtex l)).1
 refine ⟨o.srt, Nat.lt_of_le_of_lt o.len VL_few, ?_, r1⟩
 have : (3 * m.code.length + b.code.length + 1) * ((checkZ b m l most).largest + 1) ≤ 1001 * 100000 := Nat.mul_le_mul (by omega) (by omega)
 omega
theorem fit_w0 {c : Cert} (h : Fit c) : c.W[0]? = some (w0 c) := by
 have := h.lenW; have := h.pos
 unfold w0
 rw [List.getElem?_eq_getElem (by omega)]; rfl
theorem Jt8k {c : Cert} (h : Fit c) : w0 c ∈ c.W := List.mem_of_getElem? (fit_w0 h)
theorem Jtfv {w : List (List Pair)} {k : Nat} {l : List Pair} (h : w[k]? = some l) : mostW (w.take (k + 1)) = max (mostW (w.take k)) l.length := by
 unfold mostW
 rw [List.map_take, List.map_take]
 exact Jtfu (by rw [List.getElem?_map, h]; rfl)
theorem Jtfw {w : List (List Pair)} {n : Nat} (h : ∀ l ∈ w, l.length ≤ n) : mostW w ≤ n := by
 apply Nat.le_of_not_lt
 intro hlt
 obtain ⟨x, hx, hn⟩ := Jtft.1 hlt
 obtain ⟨l, hl, rfl⟩ := List.mem_map.1 hx
 have := h l hl
 omega
def begC (c : Cert) : Rep := { rep0 c with err := if ((w0 c).all fun q => initZ q c.S.args) = true then 0 else 23 }
section
theorem Jt6k {P : Program} {p : Nums} (A : All P p) (c : Cert) (h : Fit c) : Jt3o P p.checker_begin [c.av] [] fun o _ => o = .ret (begC c).av := by
 have hw0 := fit_w0 h
 obtain ⟨z1, z2, z3⟩ := h.w _ (Jt8k h)
 have hlenW := h.lenW
 have hfew := h.few
 have hen := Jt7l A (w0 c) c.S.args (by omega) (fun q hq => by obtain ⟨a1, a2, a3, a4⟩ := z3 q hq; exact ⟨by omega, by omega, by omega, by omega⟩)
 obtain ⟨er, her⟩ : ∃ e, e = (if ((w0 c).all fun q => initZ q c.S.args) = true then (0 : Int) else 23) := ⟨_, rfl⟩
 have hbg : begC c = ⟨er, 0, 0, 0, 0, 1 + (w0 c).length, mostW c.W⟩ := by rw [her]; rfl
 rw [hbg]
 unfold entA at hen
 rw [← her] at hen
 obtain ⟨pr, hpr⟩ : ∃ x, x = ((w0 c).find? fun q => !initZ q c.S.args).getD ⟨0, 0⟩ := ⟨_, rfl⟩
 rw [← hpr] at hen
 obtain ⟨wz, hwz⟩ : ∃ x, x = w0 c := ⟨_, rfl⟩
 rw [← hwz] at hen hw0 z2 ⊢
 obtain ⟨S, T, W⟩ := c
 obtain ⟨sa, sr, sb⟩ := S
 obtain ⟨ta, tr, ts, tb⟩ := T
 simp only at hen hw0 hlenW hfew h ⊢
 obtain ⟨sR, hsR⟩ : ∃ x, x = sb.map Block.row := ⟨_, rfl⟩
 obtain ⟨tR, htR⟩ : ∃ x, x = tb.map MBlock.row := ⟨_, rfl⟩
 refine A.checker_begin.run rfl fun R hR => ?_
 simp only [Cert.av, witD, ← hsR, ← htR]
 have w1 : IntKind.i64.wrap (1 + (wz.length : Int)) = ((1 + wz.length : Nat) : Int) := by rw [wrap_i64 (by omega) (by omega)]; omega
 (simp (maxSteps := 1000000) [Jtah, hw0, pairsD, w1])
 refine Jt9 (fun k : Nat => ⟨[(16, AI k), (15, AI W.length), (14, .d (.sl (W.map fun l => [pairsD l]))), (1, .ptr 0 0), (2, .ptr 1 0), (3, .ptr 2 0)],
  [.mem [AI sa, AI sr, .d (.sl sR), AI ta, AI tr, AI ts, .d (.sl tR), .d (.sl (W.map fun l => [pairsD l]))], .mem [AI 0, AI 0, AI 0, AI 0, AI 0, AI 0, AI 0], .mem [AI 0, AI 0, AI 0, AI 0, AI 0, AI ((1 + wz.length : Nat) : Int), AI (mostW (W.take k))]]⟩)
  (fun k => k ≤ W.length) (fun k => W.length - k) 0 (by simp) (by (exact wkA)) ?_
 intro k hk N hN
 (simp (maxSteps := 1000000) [])
 ((first | refine Xc (fun h2 => ?_) (fun h2 => ?_) | refine Xo (fun h2 => ?_) (fun h2 => ?_)) <;> (try simp only [Xz, Xy] at h2))
 ·have hkl : k < W.length := by simpa using h2
  have hb : W[k]? = some W[k] := by simp
  have hw := Jtoq (k := k) (by omega)
  have hm := Jtfv hb
  have emx : (if mostW (W.take k) < W[k].length then ((W[k].length : Nat) : Int) else ((mostW (W.take k) : Nat) : Int)) = ((mostW (W.take (k + 1)) : Nat) : Int) := by
   rw [hm]; split <;> omega
  (simp (maxSteps := 1000000) [h2, hb, pairsD, hw, emx])
  exact hN _ (k + 1) hkl (by (exact wkA)) (by omega)
 ·have hk' : k = W.length := by simp at h2; omega
  subst hk'
  (simp (maxSteps := 1000000) [hw0])
  (refine Jtt hen (by rfl) (by rfl) ?_)
  (simp (maxSteps := 1000000) [])
  (first | exact hR _ _ FrA | exact hR _ _ FnA | exact hR _ _ (Xf (hq := by simp [AV.erase, AV.unview, Rep.av, List.take_length]; done)))
end
end Go.AE
set_option maxRecDepth 4000
namespace Go.AE
open Go
structure RepOk (i : Nat) (r : Rep) : Prop where
 blocks : r.blocks ≤ i
 edges : r.edges ≤ 2 * i
 steps : r.steps ≤ 1000 + 2000000000 * i
 lg : r.largest < 100000
def edgeR (w : List (List Pair)) (out : List Pair) (to : Nat) (r : Rep) : Rep := { r with edges := r.edges + 1, steps := r.steps + 1 + out.length + ((w[to]?).getD []).length }
structure RepIn (i k : Nat) (r : Rep) : Prop where
 blocks : r.blocks ≤ i + 1
 edges : r.edges ≤ 2 * i + k
 steps : r.steps ≤ 1000 + 2000000000 * i + 1000000000 + 200000 * k
 lg : r.largest < 100000
theorem RepIn.out {i k : Nat} {r : Rep} (h : RepIn i k r) (hk : k ≤ 2) : RepOk (i + 1) r := ⟨h.blocks, by have := h.edges; omega, by have := h.steps; omega, h.lg⟩
theorem RepIn.edge {w : List (List Pair)} {out wt : List Pair} {i k to : Nat} {r : Rep} (h : RepIn i k r) (ho : out.length < 100000) (hw : w[to]? = some wt) (hwl : wt.length ≤ 400) : RepIn i (k + 1) (edgeR w out to r) := by
 have := h.blocks; have := h.edges; have := h.steps; have := h.lg
 refine ⟨by simpa [edgeR] using h.blocks, by simp only [edgeR]; omega, ?_, by simpa [edgeR] using h.lg⟩
 simp only [edgeR, hw, Option.getD_some]; omega
theorem Jtne (t : Term) : (succsZ t).length ≤ 2 := by
 unfold succsZ; split
 ·simp
 ·split <;> simp
def Rep.cells (r : Rep) : List AV := [AI r.err, AI r.block, AI r.at_, AI r.blocks, AI r.edges, AI r.steps, AI r.largest]
theorem Jt7r (w : List (List Pair)) (out : List Pair) (i : Nat) (to : Nat) (ts : List Int) (k : Nat) (r : Rep) : edgesC w out i ((to : Int) :: ts) k r =
  if (missP ((w[to]?).getD []) out).isSome = true then ({ edgeR w out to r with err := 22, block := i, at_ := k }, true) else edgesC w out i ts (k + 1) (edgeR w out to r) := rfl
def blockR (x : Res) (r : Rep) : Rep := { r with blocks := r.blocks + 1, steps := r.steps + x.steps, largest := max r.largest x.largest }
theorem Jt5e {c : Cert} {i : Nat} {b : Block} {m : MBlock} {l : List Pair} (hb : c.S.blocks[i]? = some b) (hm : c.T.blocks[i]? = some m) (hl : c.W[i]? = some l) (r : Rep) : blockC c i r =
  if (checkZ b m l 1048576).err ≠ 0 then ({ blockR (checkZ b m l 1048576) r with err := (checkZ b m l 1048576).err, block := i, at_ := (checkZ b m l 1048576).at_ }, true)
  else edgesC c.W (checkZ b m l 1048576).out i (succsZ b.term) 0 (blockR (checkZ b m l 1048576) r) := by
 unfold blockC; rw [hb, hm, hl]; rfl
section
theorem Jt6i {P : Program} {p : Nums} (A : All P p) (S : SortOk P p) (C : ClosOk P p) (c : Cert) (ok : okCert c) (hf : fewC c = true) : Jt3o P p.checker_Check [c.av] [] fun o _ => o = .ret (Jtk9 c).av := by
 obtain ⟨T, hT⟩ : ∃ T, T = Jtk9 c := ⟨_, rfl⟩
 rw [← hT]
 unfold Jtk9 at hT
 have cv := Jt6j A c ok
 have cb := Jt6k A c
 have hfit := fun h => fit_of (c := c) h hf
 obtain ⟨v, hv⟩ : ∃ v, v = validZ c := ⟨_, rfl⟩
 rw [← hv] at cv hT hfit
 obtain ⟨sR, hsR⟩ : ∃ x, x = c.S.blocks.map Block.row := ⟨_, rfl⟩
 obtain ⟨tR, htR⟩ : ∃ x, x = c.T.blocks.map MBlock.row := ⟨_, rfl⟩
 obtain ⟨wR, hwR⟩ : ∃ x, x = c.W.map fun l => [pairsD l] := ⟨_, rfl⟩
 refine A.checker_Check.run rfl fun R hR => ?_
 simp only [Cert.av, witD, ← hsR, ← htR, ← hwR] at cv cb ⊢
 (simp (maxSteps := 1000000) [Jtaf])
 (refine Jtt cv (by rfl) (by rfl) ?_)
 (simp (maxSteps := 1000000) [])
 ((first | refine Xc (fun h1 => ?_) (fun h1 => ?_) | refine Xo (fun h1 => ?_) (fun h1 => ?_)) <;> (try simp only [Xz, Xy] at h1))
 ·rw [if_pos h1] at hT
  (simp (maxSteps := 1000000) [h1])
  (first | exact hR _ _ FrA | exact hR _ _ FnA | exact hR _ _ (Xf (hq := by simp [AV.erase, AV.unview, hT, Rep.av]; done)))
 have h1' : v = 0 := by simpa using h1
 have h := hfit h1'
 rw [if_neg (by simpa using h1)] at hT
 (simp (maxSteps := 1000000) [h1])
 (refine Jtt (cb h) (by rfl) (by rfl) ?_)
 obtain ⟨r0, hr0⟩ : ∃ r, r = begC c := ⟨_, rfl⟩
 rw [← hr0]
 (simp (maxSteps := 1000000) [Rep.av])
 ((first | refine Xc (fun h2 => ?_) (fun h2 => ?_) | refine Xo (fun h2 => ?_) (fun h2 => ?_)) <;> (try simp only [Xz, Xy] at h2))
 ·have e : ((w0 c).all fun q => initZ q c.S.args) = false := by
   cases hx : (w0 c).all fun q => initZ q c.S.args with
   | false => rfl
   | true => exfalso; apply h2; rw [hr0]; simp only [begC, hx, if_true]
  have hT2 : T = r0 := by rw [hT, if_pos e, hr0]; simp only [begC, e]; rfl
  (simp (maxSteps := 1000000) [h2])
  (first | exact hR _ _ FrA | exact hR _ _ FnA | exact hR _ _ (Xf (hq := by simp [AV.erase, AV.unview, hT2, Rep.av]; done)))
 have e : ((w0 c).all fun q => initZ q c.S.args) = true := by
  cases hx : (w0 c).all fun q => initZ q c.S.args with
  | true => rfl
  | false => exfalso; rw [hr0] at h2; simp [begC, hx] at h2
 have hr0' : r0 = rep0 c := by rw [hr0]; unfold begC; rw [if_pos e]; rfl
 rw [if_neg (by simp [e]), ← hr0'] at hT
 have hsl : sR.length = c.S.blocks.length := by rw [hsR]; simp
 have htl : tR.length = c.S.blocks.length := by rw [htR]; simp [h.lenT]
 have hwl : wR.length = c.S.blocks.length := by rw [hwR]; simp [h.lenW]
 obtain ⟨z1, z2, z3⟩ := h.w _ (Jt8k h)
 have hrok : RepOk 0 r0 := by
  rw [hr0']
  have := Jtfw (w := c.W) (n := 400) (fun l hl => (h.w l hl).2.1)
  exact ⟨Nat.le_refl _, Nat.le_refl _, by simp only [rep0]; omega, by simp only [rep0]; omega⟩
 have few := h.few
 (simp (maxSteps := 1000000) [hsl])
 obtain ⟨n, hn⟩ : ∃ n, n = c.S.blocks.length := ⟨_, rfl⟩
 rw [← hn] at hsl htl hwl hT few ⊢
 refine Jt9 (fun s : Nat × Rep => ⟨[(28, AI s.1), (27, AI n), (26, .d (.sl sR)), (1, .ptr 0 0), (2, .ptr 1 0), (4, .ptr 2 0)],
  [.mem [AI c.S.args, AI c.S.regs, .d (.sl sR), AI c.T.args, AI c.T.regs, AI c.T.slots, .d (.sl tR), .d (.sl wR)], .mem [AI 0, AI 0, AI 0, AI 0, AI 0, AI 0, AI 0], .mem [AI s.2.err, AI s.2.block, AI s.2.at_, AI s.2.blocks, AI s.2.edges, AI s.2.steps, AI s.2.largest]]⟩)
  (fun s => s.1 ≤ n ∧ RepOk s.1 s.2 ∧ T = Jt5n c (n - s.1) s.1 s.2) (fun s => n - s.1) (0, r0) ⟨by omega, hrok, hT⟩ (by (exact wkA)) ?_
 rintro ⟨i, r⟩ ⟨hi, hok, hTi⟩ N hN
 simp only at hi hok hTi hN
 (simp (maxSteps := 1000000) [])
 ((first | refine Xc (fun h3 => ?_) (fun h3 => ?_) | refine Xo (fun h3 => ?_) (fun h3 => ?_)) <;> (try simp only [Xz, Xy] at h3))
 ·have hil : i < n := by omega
  have hb : c.S.blocks[i]? = some c.S.blocks[i] := by simp
  have hm : c.T.blocks[i]? = some (c.T.blocks[i]'(by rw [h.lenT]; omega)) := by simp
  have hl : c.W[i]? = some (c.W[i]'(by rw [h.lenW]; omega)) := by simp
  obtain ⟨b, hbe⟩ : ∃ b, b = c.S.blocks[i] := ⟨_, rfl⟩
  obtain ⟨m, hme⟩ : ∃ m, m = c.T.blocks[i]'(by rw [h.lenT]; omega) := ⟨_, rfl⟩
  obtain ⟨l, hle⟩ : ∃ l, l = c.W[i]'(by rw [h.lenW]; omega) := ⟨_, rfl⟩
  rw [← hbe] at hb
  rw [← hme] at hm
  rw [← hle] at hl
  have mb := List.mem_of_getElem? hb
  have mm := List.mem_of_getElem? hm
  have ml := List.mem_of_getElem? hl
  have hbR : sR[i]? = some b.row := by rw [hsR, List.getElem?_map, hb]; rfl
  have hmR : tR[i]? = some m.row := by rw [htR, List.getElem?_map, hm]; rfl
  have hlR : wR[i]? = some [pairsD l] := by rw [hwR, List.getElem?_map, hl]; rfl
  have gd := h.good mb mm ml 1048576
  obtain ⟨l1, l2, l3⟩ := h.w l ml
  have ck := Jt5g A S C (V := VS) (L := LS) b m l 1048576 (fun q hq => by obtain ⟨a1, a2, a3, a4⟩ := l3 q hq; exact ⟨mem_VS a1 a2, mem_LS a3 a4⟩) (h.vl b mb m mm) VL_few (by omega)
   (by have := h.cs b mb; omega) (by have := h.ct m mm; omega)
  have hbc := Jt5e hb hm hl r
  obtain ⟨x, hx⟩ : ∃ x, x = checkZ b m l 1048576 := ⟨_, rfl⟩
  rw [← hx] at ck gd hbc
  have hTs : T = match blockC c i r with | (r, true) => r | (r, false) => Jt5n c (n - (i + 1)) (i + 1) r := by
   rw [hTi, show n - i = (n - (i + 1)) + 1 by omega]; rfl
  rw [hbc] at hTs
  have hw := Jtoq (k := i) (by omega)
  have k1 := hok.blocks
  have k2 := hok.edges
  have k3 := hok.steps
  have k4 := hok.lg
  have g1 := gd.len
  have g2 := gd.steps
  have g3 := gd.lg
  obtain ⟨r1, hr1⟩ : ∃ r1, r1 = blockR x r := ⟨_, rfl⟩
  rw [← hr1] at hTs
  have q1 : IntKind.i64.wrap ((r.blocks : Int) + 1) = (r1.blocks : Int) := by rw [hr1]; exact Jtoq (by omega)
  have q2 : IntKind.i64.wrap ((r.steps : Int) + (x.steps : Int)) = (r1.steps : Int) := by rw [hr1]; exact Jtop (by omega)
  have q3 : (if r.largest < x.largest then ((x.largest : Nat) : Int) else ((r.largest : Nat) : Int)) = (r1.largest : Int) := by rw [hr1]; simp only [blockR]; split <;> omega
  have q4 : r1.err = r.err := by rw [hr1]; rfl
  have q5 : r1.block = r.block := by rw [hr1]; rfl
  have q6 : r1.at_ = r.at_ := by rw [hr1]; rfl
  have q7 : r1.edges = r.edges := by rw [hr1]; rfl
  have rin : RepIn i 0 r1 := by
   rw [hr1]
   exact ⟨by simp only [blockR]; omega, by simp only [blockR]; omega, by simp only [blockR]; omega, by simp only [blockR]; omega⟩
  obtain ⟨oR, hoR⟩ : ∃ y, y = x.out.map Pair.row := ⟨_, rfl⟩
  have hol : oR.length = x.out.length := by rw [hoR]; simp
  simp only [pairsD] at hlR
  simp only [Res.av, pairsD, ← hoR] at ck
  (simp (maxSteps := 1000000) [h3, hbR, hmR, hlR, Block.row, MBlock.row])
  (refine Jtt ck (by rfl) (by rfl) ?_)
  (simp (maxSteps := 1000000) [q1, q2, q3])
  ((first | refine Xc (fun h4 => ?_) (fun h4 => ?_) | refine Xo (fun h4 => ?_) (fun h4 => ?_)) <;> (try simp only [Xz, Xy] at h4))
  ·rw [if_pos h4] at hTs
   simp only at hTs
   (simp (maxSteps := 1000000) [])
   (first | exact hR _ _ FrA | exact hR _ _ FnA | exact hR _ _ (Xf (hq := by simp [AV.erase, AV.unview, hTs, Rep.av, q4, q5, q6, q7]; done)))
  rw [if_neg (by simpa using h4)] at hTs
  have cs := Jtm5 A b.term
  have hto := h.to b mb
  have htl2 := Jtne b.term
  obtain ⟨ts, hts⟩ : ∃ t, t = succsZ b.term := ⟨_, rfl⟩
  rw [← hts] at cs hTs hto htl2
  rw [← hn] at hto
  (simp (maxSteps := 1000000) [])
  (refine Jtt cs (by rfl) (by rfl) ?_)
  (simp (maxSteps := 1000000) [])
  refine Jt9 (fun s : Nat × Rep => ⟨[(77, AI s.1), (76, AI ts.length), (75, .d (.sl (ts.map fun x => [I x]))), (5, AI i), (7, .ptr 4 0), (28, AI i), (27, AI n), (26, .d (.sl sR)), (1, .ptr 0 0), (2, .ptr 1 0), (4, .ptr 2 0)],
   [.mem [AI c.S.args, AI c.S.regs, .d (.sl sR), AI c.T.args, AI c.T.regs, AI c.T.slots, .d (.sl tR), .d (.sl wR)], .mem [AI 0, AI 0, AI 0, AI 0, AI 0, AI 0, AI 0], .mem [AI s.2.err, AI s.2.block, AI s.2.at_, AI s.2.blocks, AI s.2.edges, AI s.2.steps, AI s.2.largest], .dead, .mem [.d (.sl oR), AI x.err, AI x.at_, AI x.steps, AI x.largest]]⟩)
   (fun s => s.1 ≤ ts.length ∧ RepIn i s.1 s.2 ∧ T = match edgesC c.W x.out i (ts.drop s.1) s.1 s.2 with | (r, true) => r | (r, false) => Jt5n c (n - (i + 1)) (i + 1) r) (fun s => ts.length - s.1) (0, r1) ⟨by omega, rin, hTs⟩ (by simp only [q4, q5, q6, q7]; (exact wkA)) ?_
  rintro ⟨k, t⟩ ⟨hk, hin, hTk⟩ N' hN'
  simp only at hk hin hTk hN'
  (simp (maxSteps := 1000000) [])
  ((first | refine Xc (fun h5 => ?_) (fun h5 => ?_) | refine Xo (fun h5 => ?_) (fun h5 => ?_)) <;> (try simp only [Xz, Xy] at h5))
  ·have hkl : k < ts.length := by simpa using h5
   have ht : ts[k]? = some ts[k] := by simp
   obtain ⟨d1, d2⟩ := hto _ (List.getElem_mem hkl)
   have hdrop : ts.drop k = ts[k] :: ts.drop (k + 1) := List.drop_eq_getElem_cons hkl
   obtain ⟨tn, htn⟩ : ∃ tn : Nat, ts[k] = (tn : Int) := ⟨ts[k].toNat, by omega⟩
   rw [htn] at ht hdrop d2
   have hWt : c.W[tn]? = some (c.W[tn]'(by rw [h.lenW]; omega)) := by simp
   obtain ⟨wt, hwt⟩ : ∃ w, w = c.W[tn]'(by rw [h.lenW]; omega) := ⟨_, rfl⟩
   rw [← hwt] at hWt
   obtain ⟨y1, y2, y3⟩ := h.w wt (List.mem_of_getElem? hWt)
   have hwtR : wR[tn]? = some [.sl (wt.map Pair.row)] := by rw [hwR, List.getElem?_map, hWt]; rfl
   have hgd : (c.W[tn]?).getD [] = wt := by rw [hWt]; rfl
   have ci := Jt7m A x.out wt (by omega) (by omega) gd.srt y1
   rw [hdrop, Jt7r, hgd] at hTk
   have hin2 := hin.edge (out := x.out) (by omega) hWt y2
   obtain ⟨t2, ht2⟩ : ∃ t2, t2 = edgeR c.W x.out tn t := ⟨_, rfl⟩
   rw [← ht2] at hTk hin2
   obtain ⟨b1, hb1⟩ : ∃ b, b = (missP wt x.out).isSome := ⟨_, rfl⟩
   obtain ⟨pr, hpr⟩ : ∃ y, y = (missP wt x.out).getD ⟨0, 0⟩ := ⟨_, rfl⟩
   obtain ⟨mv, hmv⟩ : ∃ y : Int, y = if b1 = true then 22 else 0 := ⟨_, rfl⟩
   simp only [impA, ← hb1, ← hpr, ← hmv, pairsD, ← hoR, Pair.av] at ci
   rw [← hb1] at hTk
   obtain ⟨s1, hs1⟩ : ∃ y, y = t.steps + 1 := ⟨_, rfl⟩
   obtain ⟨s2, hs2⟩ : ∃ y, y = s1 + x.out.length := ⟨_, rfl⟩
   have j1 := hin.edges
   have j2 := hin.steps
   have p1 : IntKind.i64.wrap ((t.edges : Int) + 1) = (t2.edges : Int) := by rw [ht2]; exact Jtoq (by omega)
   have p2 : IntKind.i64.wrap ((t.steps : Int) + 1) = (s1 : Int) := by rw [hs1]; exact Jtoq (by omega)
   have p3 : IntKind.i64.wrap ((s1 : Int) + (x.out.length : Int)) = (s2 : Int) := by rw [hs2]; exact Jtop (by omega)
   have p4 : IntKind.i64.wrap ((s2 : Int) + (wt.length : Int)) = (t2.steps : Int) := by rw [ht2]; simp only [edgeR, hgd]; rw [hs2, hs1]; exact Jtop (by omega)
   have p5 : t2.err = t.err := by rw [ht2]; rfl
   have p6 : t2.block = t.block := by rw [ht2]; rfl
   have p7 : t2.at_ = t.at_ := by rw [ht2]; rfl
   have p8 : t2.blocks = t.blocks := by rw [ht2]; rfl
   have p9 : t2.largest = t.largest := by rw [ht2]; rfl
   have hwk := Jtoq (k := k) (by omega)
   (simp (maxSteps := 1000000) [h5, ht, htn, hwtR, hol, p1, p2, p3, p4])
   (refine Jtt ci (by rfl) (by rfl) ?_)
   (simp (maxSteps := 1000000) [])
   ((first | refine Xc (fun h6 => ?_) (fun h6 => ?_) | refine Xo (fun h6 => ?_) (fun h6 => ?_)) <;> (try simp only [Xz, Xy] at h6))
   ·have hb1t : b1 = true := by
     cases b1 with
     | true => rfl
     | false => exfalso; apply h6; rw [hmv]; rfl
    rw [hb1t] at hmv hTk
    simp only [if_true] at hmv hTk
    rw [hmv]
    (simp (maxSteps := 1000000) [])
    (first | exact hR _ _ FrA | exact hR _ _ FnA | exact hR _ _ (Xf (hq := by simp [AV.erase, AV.unview, hTk, Rep.av, p5, p6, p7, p8, p9]; done)))
   ·have hb1f : b1 = false := by
     cases b1 with
     | false => rfl
     | true => exfalso; rw [hmv] at h6; simp at h6
    rw [hb1f] at hTk
    simp only [Bool.false_eq_true, if_false] at hTk
    (simp (maxSteps := 1000000) [hwk])
    exact hN' _ (k + 1, t2) ⟨hkl, hin2, hTk⟩ (by simp only [p5, p6, p7, p8, p9]; (exact wkA)) (by simp only; omega)
  ·have hkl : k = ts.length := by simp at h5; omega
   subst hkl
   rw [List.drop_length] at hTk
   have hTk' : T = Jt5n c (n - (i + 1)) (i + 1) t := hTk
   (simp (maxSteps := 1000000) [hw])
   exact hN _ (i + 1, t) ⟨hil, hin.out htl2, hTk'⟩ (by (exact wkA)) (by simp only; omega)
 ·have hk : i = n := by simp at h3; omega
  subst hk
  rw [Nat.sub_self] at hTi
  have hTi' : T = r := hTi
  (simp (maxSteps := 1000000) [])
  (first | exact hR _ _ FrA | exact hR _ _ FnA | exact hR _ _ (Xf (hq := by simp [AV.erase, AV.unview, hTi', Rep.av]; done)))
end
end Go.AE
set_option maxRecDepth 4000
namespace Go.AE
open Go
section
end
end Go.AE
set_option maxRecDepth 4000
namespace Go.AE
open Go
def succN (bs : List Block) : Nat := (bs.map fun b => (succsZ b.term).length).sum
theorem Jtnc {bs : List Block} {k : Nat} {b : Block} (h : bs[k]? = some b) : succN (bs.take (k + 1)) = succN (bs.take k) + (succsZ b.term).length := by
 rw [List.take_add_one, h]; simp [succN]
theorem Jtnb (bs : List Block) : succN bs ≤ 2 * bs.length := by
 induction bs with
 | nil => simp [succN]
 | cons b bs ih =>
  have := Jtne b.term
  simp only [succN, List.map_cons, List.sum_cons, List.length_cons] at *
  omega
theorem Jtnd (bs : List Block) (k : Nat) : succN (bs.take k) ≤ 2 * bs.length := by
 have := Jtnb (bs.take k)
 have h2 : (bs.take k).length ≤ bs.length := by simp [List.length_take]; omega
 omega
def boundN (c : Cert) : Nat := codeN c.S.blocks + mcodeN c.T.blocks + c.S.blocks.length + 1 + succN c.S.blocks
theorem Jtgs {c : Cert} (hf : fewC c = true) (h2 : ∀ b ∈ c.T.blocks, okM b) (hw : okW c.W) : okCert c := by
 simp only [fewC, few, fewM, fewW, Bool.and_eq_true, decide_eq_true_eq, List.all_eq_true] at hf
 obtain ⟨⟨⟨⟨⟨f1, f2⟩, f3⟩, f4⟩, ⟨⟨⟨⟨f5, f6⟩, f7⟩, f8⟩, f9⟩⟩, f10, f11⟩ := hf
 have hwt : ∀ w : List (List Pair), (∀ l ∈ w, l.length ≤ 400) → wTotal w ≤ 400 * w.length := by
  intro w
  induction w with
  | nil => intro _; simp [wTotal]
  | cons l w ih =>
   intro h
   have h1 := h l (by simp)
   have h3 := ih fun l hl => h l (by simp [hl])
   simp only [wTotal, List.map_cons, List.sum_cons, List.length_cons] at *
   omega
 have := hwt c.W f11
 exact ⟨by omega, by omega, by omega, by omega, h2, by omega, by omega, hw⟩
def endT : Term := ⟨3, 0, 0, 0⟩
def exC : Cert := ⟨⟨0, 1, [⟨[], endT⟩]⟩, ⟨0, 1, 0, [⟨[], endT⟩]⟩, [[]]⟩
def exD : Cert := ⟨⟨0, 1, [⟨[], endT⟩]⟩, ⟨0, 1, 0, [⟨[], endT⟩]⟩, [[⟨0, 0⟩]]⟩
def exE : Cert := ⟨⟨0, 0, []⟩, ⟨0, 0, 0, []⟩, []⟩
section
theorem Jt6h {P : Program} {p : Nums} (A : All P p) (c : Cert) (g : Nat) (h0 : codeN c.S.blocks ≤ 1000000) (h1 : mcodeN c.T.blocks ≤ 1000000) (h2 : c.S.blocks.length ≤ 1000000) (h3 : c.T.blocks.length ≤ 1000000) (hg : g ≤ 1000000) :
  Jt3o P p.checker_Bound [c.av, AI g] [] fun o _ => o = .ret (AI ((3 * boundN c * (g + 1) : Nat) : Int)) := by
 have c1 := Jtm3 A c.S (by omega) (by omega)
 have c2 := Jtem A c.T (by omega) (by omega)
 obtain ⟨n1, hn1⟩ : ∃ n, n = codeN c.S.blocks := ⟨_, rfl⟩
 obtain ⟨n2, hn2⟩ : ∃ n, n = mcodeN c.T.blocks := ⟨_, rfl⟩
 obtain ⟨K, hK⟩ : ∃ K, K = 3 * boundN c * (g + 1) := ⟨_, rfl⟩
 rw [← hK]
 unfold boundN at hK
 rw [← hn1] at c1 h0 hK
 rw [← hn2] at c2 h1 hK
 obtain ⟨sR, hsR⟩ : ∃ x, x = c.S.blocks.map Block.row := ⟨_, rfl⟩
 obtain ⟨tR, htR⟩ : ∃ x, x = c.T.blocks.map MBlock.row := ⟨_, rfl⟩
 have hsl : sR.length = c.S.blocks.length := by rw [hsR]; simp
 simp only [Func.av, MFunc.av, ← hsR, ← htR] at c1 c2
 obtain ⟨n, hn⟩ : ∃ n, n = c.S.blocks.length := ⟨_, rfl⟩
 rw [← hn] at hsl h2 hK
 obtain ⟨m1, hm1⟩ : ∃ m, m = n1 + n2 := ⟨_, rfl⟩
 obtain ⟨m2, hm2⟩ : ∃ m, m = m1 + n := ⟨_, rfl⟩
 obtain ⟨m3, hm3⟩ : ∃ m, m = m2 + 1 := ⟨_, rfl⟩
 have w1 : IntKind.i64.wrap ((n1 : Int) + (n2 : Int)) = (m1 : Int) := by rw [hm1]; exact Jtop (by omega)
 have w2 : IntKind.i64.wrap ((m1 : Int) + (n : Int)) = (m2 : Int) := by rw [hm2]; exact Jtop (by omega)
 have w3 : IntKind.i64.wrap ((m2 : Int) + 1) = (m3 : Int) := by rw [hm3]; exact Jtoq (by omega)
 refine A.checker_Bound.run rfl fun R hR => ?_
 simp only [Cert.av, ← hsR, ← htR]
 (simp (maxSteps := 1000000) [Jtae])
 (refine Jtt c1 (by rfl) (by rfl) ?_)
 (simp (maxSteps := 1000000) [])
 (refine Jtt c2 (by rfl) (by rfl) ?_)
 (simp (maxSteps := 1000000) [hsl, w1, w2, w3])
 obtain ⟨F, hF⟩ : ∃ F : Nat → Nat, ∀ k, F k = m3 + succN (c.S.blocks.take k) := ⟨_, fun _ => rfl⟩
 have hF0 : F 0 = m3 := by rw [hF]; simp [succN]
 refine Jt9 (fun k : Nat => ⟨[(25, AI k), (24, AI n), (23, .d (.sl sR)), (5, AI (F k)), (1, AI g)], []⟩) (fun k => k ≤ n) (fun k => n - k) 0 (by omega) (by rw [hF0]; (exact wkA)) ?_
 intro k hk N hN
 (simp (maxSteps := 1000000) [])
 ((first | refine Xc (fun h4 => ?_) (fun h4 => ?_) | refine Xo (fun h4 => ?_) (fun h4 => ?_)) <;> (try simp only [Xz, Xy] at h4))
 ·have hkl : k < n := by omega
  obtain ⟨b, hb⟩ : ∃ b, c.S.blocks[k]? = some b := ⟨_, List.getElem?_eq_getElem (by omega)⟩
  have hbR : sR[k]? = some b.row := by rw [hsR, List.getElem?_map, hb]; rfl
  have hw := Jtoq (k := k) (by omega)
  have hs := Jtnc hb
  have hst := Jtnd c.S.blocks (k + 1)
  have hsu := Jtne b.term
  obtain ⟨ts, hts⟩ : ∃ t, t = succsZ b.term := ⟨_, rfl⟩
  have cs := Jtm5 A b.term
  rw [← hts] at cs hs hsu
  have hw2 : IntKind.i64.wrap ((F k : Int) + (ts.length : Int)) = (F (k + 1) : Int) := by
   have h7 := hF k
   have h8 := hF (k + 1)
   have : F (k + 1) = F k + ts.length := by omega
   rw [this]; exact Jtop (by omega)
  (simp (maxSteps := 1000000) [h4, hbR, Block.row])
  (refine Jtt cs (by rfl) (by rfl) ?_)
  (simp (maxSteps := 1000000) [hw, hw2])
  exact hN _ (k + 1) hkl (by (exact wkA)) (by omega)
 ·have hk' : k = n := by omega
  subst hk'
  have htk : succN (c.S.blocks.take k) = succN c.S.blocks := by rw [hn, List.take_length]
  have hsu := Jtnb c.S.blocks
  obtain ⟨q, hq⟩ : ∃ q, q = F k := ⟨_, rfl⟩
  have hFk := hF k
  rw [htk] at hFk
  obtain ⟨q3, hq3⟩ : ∃ q3, q3 = 3 * q := ⟨_, rfl⟩
  have hK' : K = q3 * (g + 1) := by rw [hK, hq3]; congr 1; omega
  have hqb : q3 * (g + 1) ≤ 20000000 * 1000001 := Nat.mul_le_mul (by omega) (by omega)
  have u1 : IntKind.i64.wrap (3 * (q : Int)) = (q3 : Int) := by rw [hq3, wrap_i64 (by omega) (by omega)]; omega
  have u2 : IntKind.i64.wrap ((g : Int) + 1) = ((g + 1 : Nat) : Int) := Jtoq (by omega)
  obtain ⟨g1, hg1⟩ : ∃ g1, g1 = g + 1 := ⟨_, rfl⟩
  rw [← hg1] at hK' hqb u2
  have u3 : IntKind.i64.wrap ((q3 : Int) * (g1 : Int)) = (K : Int) := by
   rw [hK', ← Int.natCast_mul]; exact wrap_i64 (by omega) (by omega)
  rw [← hq]
  (simp (maxSteps := 1000000) [u1, u2, u3])
  (first | exact hR _ _ FrA | exact hR _ _ FnA)
end
section
theorem Jtdp {P : Program} {p : Nums} (A : All P p) (S : SortOk P p) (C : ClosOk P p) : Jt3o P p.law16_awake [] [] fun o _ => o = .ret (AB true) := by
 have okm : ∀ b ∈ [(⟨[], endT⟩ : MBlock)], okM b := by intro b hb; simp at hb; subst hb; intro x hx; simp at hx
 have o1 : okCert exC := Jtgs (by decide) okm (by intro l hl; simp [exC] at hl; subst hl; intro q hq; simp at hq)
 have o2 : okCert exD := Jtgs (by decide) okm (by intro l hl; simp [exD] at hl; subst hl; intro q hq; simp at hq; subst hq; constructor <;> decide)
 have o3 : okCert exE := Jtgs (by decide) (by intro b hb; simp [exE] at hb) (by intro l hl; simp [exE] at hl)
 have h1 := Jt6i A S C exC o1 (by decide)
 have h2 := Jt6i A S C exD o2 (by decide)
 have h3 := Jt6i A S C exE o3 (by decide)
 have v1 := Jt6j A exC o1
 have v3 := Jt6j A exE o3
 have b1 := Jt6h A exD 1 (by decide) (by decide) (by decide) (by decide) (by decide)
 have e1 : Jtk9 exC = ⟨21, 0, 0, 1, 0, 2, 0⟩ := by decide +kernel
 have e2 : Jtk9 exD = ⟨0, 0, 0, 1, 0, 4, 1⟩ := by decide +kernel
 have e3 : Jtk9 exE = ⟨14, 0, 0, 0, 0, 0, 0⟩ := by decide +kernel
 have e4 : validZ exC = 0 := by decide +kernel
 have e5 : validZ exE = 14 := by decide +kernel
 have e6 : 3 * boundN exD * (1 + 1) = 12 := by decide +kernel
 rw [e1] at h1
 rw [e2] at h2
 rw [e3] at h3
 rw [e4] at v1
 rw [e5] at v3
 rw [e6] at b1
 simp only [Rep.av] at h1 h2 h3
 refine A.law16_awake.run rfl fun R hR => ?_
 (simp (maxSteps := 1000000) [Jtap])
 (refine Jtt h1 (by rfl) (by rfl) ?_)
 (simp (maxSteps := 1000000) [])
 (refine Jtt h2 (by rfl) (by rfl) ?_)
 (simp (maxSteps := 1000000) [])
 (refine Jtt v1 (by rfl) (by rfl) ?_)
 (simp (maxSteps := 1000000) [])
 (refine Jtu v3 (by rfl) (by (exact wkvA)) (by rfl) ?_)
 (simp (maxSteps := 1000000) [])
 (refine Jtt b1 (by rfl) (by rfl) ?_)
 (simp (maxSteps := 1000000) [])
 (refine Jtu h3 (by rfl) (by (exact wkvA)) (by rfl) ?_)
 (simp (maxSteps := 1000000) [])
 (first | exact hR _ _ FrA | exact hR _ _ FnA)
end
end Go.AE
set_option maxRecDepth 4000
namespace Go.AE
open Go
section
end
def ltCert : List LT := [ltI, ltI, .sl Jteg, ltI, ltI, ltI, .sl Jtei, .sl [.sl ltPair]]
theorem Jtf3 {rows : List (List D)} (h : ∀ r ∈ rows, HasL Jtei r) : ∃ l : List MBlock, rows = l.map MBlock.row ∧ ∀ x ∈ l, okM x := by
 induction rows with
 | nil => exact ⟨[], rfl, by simp⟩
 | cons r rows ih =>
  obtain ⟨a, rfl, ha⟩ := Jtf2 (h r (by simp))
  obtain ⟨l, rfl, hb⟩ := ih fun r hr => h r (by simp [hr])
  refine ⟨a :: l, rfl, fun n hn => ?_⟩
  rcases List.mem_cons.1 hn with rfl | hn
  ·exact ha
  ·exact hb n hn
theorem Jth7 {r : List D} (h : HasL ltPair r) : ∃ q : Pair, r = q.row ∧ okZ q.l := by
 obtain ⟨_, _, rfl, h0, h⟩ := h.cons_inv
 obtain ⟨_, _, rfl, h1, h⟩ := h.cons_inv
 obtain rfl := h.nil_inv
 obtain ⟨a, rfl, _⟩ := h0.int_inv
 obtain ⟨b, rfl, o1⟩ := Jtde h1
 exact ⟨⟨a, b⟩, rfl, o1⟩
theorem Jth8 {rows : List (List D)} (h : ∀ r ∈ rows, HasL ltPair r) : ∃ l : List Pair, rows = l.map Pair.row ∧ ∀ x ∈ l, okZ x.l := by
 induction rows with
 | nil => exact ⟨[], rfl, by simp⟩
 | cons r rows ih =>
  obtain ⟨a, rfl, ha⟩ := Jth7 (h r (by simp))
  obtain ⟨l, rfl, hb⟩ := ih fun r hr => h r (by simp [hr])
  refine ⟨a :: l, rfl, fun n hn => ?_⟩
  rcases List.mem_cons.1 hn with rfl | hn
  ·exact ha
  ·exact hb n hn
theorem Jtoh {rows : List (List D)} (h : ∀ r ∈ rows, HasL [.sl ltPair] r) : ∃ w : List (List Pair), rows = w.map (fun l => [pairsD l]) ∧ okW w := by
 induction rows with
 | nil => exact ⟨[], rfl, by intro l hl; simp at hl⟩
 | cons r rows ih =>
  obtain ⟨_, _, rfl, h0, h1⟩ := (h r (by simp)).cons_inv
  obtain rfl := h1.nil_inv
  obtain ⟨rs, rfl, _, hr⟩ := h0.sl_inv
  obtain ⟨l, rfl, hok⟩ := Jth8 hr
  obtain ⟨w, rfl, hb⟩ := ih fun r hr => h r (by simp [hr])
  refine ⟨l :: w, rfl, fun n hn => ?_⟩
  rcases List.mem_cons.1 hn with rfl | hn
  ·exact hok
  ·exact hb n hn
theorem Jt6b {ds : List D} (h : HasL ltCert ds) : ∃ c : Cert, .agg (ds.map AV.d) = c.av ∧ ((∀ b ∈ c.T.blocks, okM b) ∧ okW c.W) := by
 obtain ⟨_, _, rfl, h0, h⟩ := h.cons_inv
 obtain ⟨_, _, rfl, h1, h⟩ := h.cons_inv
 obtain ⟨_, _, rfl, h2, h⟩ := h.cons_inv
 obtain ⟨_, _, rfl, h3, h⟩ := h.cons_inv
 obtain ⟨_, _, rfl, h4, h⟩ := h.cons_inv
 obtain ⟨_, _, rfl, h5, h⟩ := h.cons_inv
 obtain ⟨_, _, rfl, h6, h⟩ := h.cons_inv
 obtain ⟨_, _, rfl, h7, h⟩ := h.cons_inv
 obtain rfl := h.nil_inv
 obtain ⟨sa, rfl, _⟩ := h0.int_inv
 obtain ⟨sr, rfl, _⟩ := h1.int_inv
 obtain ⟨rows, rfl, _, hr⟩ := h2.sl_inv
 obtain ⟨sb, rfl⟩ := Jtky (fun r hr => Jt5f hr) hr
 obtain ⟨ta, rfl, _⟩ := h3.int_inv
 obtain ⟨tr, rfl, _⟩ := h4.int_inv
 obtain ⟨ts, rfl, _⟩ := h5.int_inv
 obtain ⟨rows, rfl, _, hr⟩ := h6.sl_inv
 obtain ⟨tb, rfl, hm⟩ := Jtf3 hr
 obtain ⟨rows, rfl, _, hr⟩ := h7.sl_inv
 obtain ⟨w, rfl, hw⟩ := Jtoh hr
 exact ⟨⟨⟨sa, sr, sb⟩, ⟨ta, tr, ts, tb⟩, w⟩, rfl, hm, hw⟩
end Go.AE
set_option maxRecDepth 4000
namespace Go.AE
open Go
def N23 (r : CR) : Prop := ∀ e, r.2 = some e → e.1 ≠ 23
theorem N23.same {s : CS} : N23 (s, none) := fun e he => by cases he
theorem N23.then {r : CR} {f : CS → CR} (h : N23 r) (hf : ∀ s, N23 (f s)) : N23 (thenC r f) := by
 obtain ⟨s, e⟩ := r
 cases e with
 | some e => exact h
 | none => exact hf s
theorem N23.become {most : Int} {s : CS} {l : List Pair} {at_ : Int} : N23 (Jt5a most s l at_) := by
 intro e he
 unfold Jt5a at he
 simp only at he
 split at he
 ·injection he with he; subst he; simp
 ·cases he
theorem N23.use {s : CS} {v t at_ : Int} : N23 (useC s v t at_) := by
 intro e he
 unfold useC at he
 simp only at he
 split at he
 ·cases he
 ·injection he with he; subst he; simp
theorem Jt71 {most at_ : Int} : ∀ {l : List Instr} {s : CS}, N23 (copyC most at_ l s) := by
 intro l
 induction l with
 | nil => intro s; exact .same
 | cons i l ih => intro s; exact N23.then .become fun s => ih
theorem Jtg0 {most : Int} : ∀ {l : List Mach} {k : Nat} {s : CS}, N23 (moveC most k l s) := by
 intro l
 induction l with
 | nil => intro k s; exact .same
 | cons i l ih => intro k s; exact N23.then .become fun s => ih
theorem Jtd8 {most : Int} {i : Instr} {x : Mach} {at_ : Int} {s : CS} : N23 (instrC most s i x at_) := by
 unfold instrC
 refine N23.then ?_ fun s => N23.then ?_ fun s => ?_
 ·split
  ·exact .use
  ·exact .same
 ·split
  ·exact .use
  ·exact .same
 ·split
  ·exact .become
  ·exact .same
theorem Jtkk {most : Int} {b : List Instr} {m : List Mach} {r : ARow} {s : CS} : N23 (rowC most b m r s) := by
 unfold rowC
 refine N23.then Jt71 fun s => N23.then Jtg0 fun s => ?_
 unfold lastC
 split
 ·split
  ·exact Jtd8
  ·exact .same
 ·exact .same
theorem Jtku {most : Int} {b : List Instr} {m : List Mach} : ∀ {rs : List ARow} {s : CS}, N23 (rowsC most b m rs s) := by
 intro rs
 induction rs with
 | nil => intro s; exact .same
 | cons r rs ih => intro s; exact N23.then Jtkk fun s => ih
theorem Jtkz {most : Int} {b : Block} {m : MBlock} {rs : List ARow} {s : CS} : N23 (runC most b m rs s) := by
 unfold runC
 refine N23.then Jtku fun s => ?_
 split
 ·exact .same
 ·exact .use
theorem Jt4k {code : List Instr} {mach : List Mach} : ∀ {f i k : Nat} {rows : List ARow}, (alignS code mach f i k rows).2.2 = 0 ∨ (alignS code mach f i k rows).2.2 = 20 := by
 intro f
 induction f with
 | zero => intro i k rows; exact .inr rfl
 | succ f ih =>
  intro i k rows
  unfold alignS
  split
  ·exact .inl rfl
  ·split
   ·split
    ·exact ih
    ·exact .inr rfl
   ·exact .inr rfl
theorem Jt6c (b : Block) (m : MBlock) (l : List Pair) (most : Int) : (checkZ b m l most).err ≠ 23 := by
 unfold checkZ
 split
 ·show (24 : Int) ≠ 23; decide
 ·have ha : (alignZ b.code m.code).2.2 = 0 ∨ (alignZ b.code m.code).2.2 = 20 := Jt4k
  by_cases h2 : (if (alignZ b.code m.code).2.2 = 0 ∧ termsZ b.term m.term = false then 20 else (alignZ b.code m.code).2.2) ≠ 0
  ·simp only [if_pos h2]
   split
   ·decide
   ·rcases ha with h | h <;> rw [h] <;> decide
  ·simp only [if_neg h2]
   have hr := Jtkz (most := most) (b := b) (m := m) (rs := (alignZ b.code m.code).1) (s := ⟨makeP l, 0, l.length⟩)
   generalize runC most b m (alignZ b.code m.code).1 ⟨makeP l, 0, l.length⟩ = r at hr
   obtain ⟨t, e⟩ := r
   cases e with
   | none => show (0 : Int) ≠ 23; decide
   | some e => exact hr e rfl
def hasE (w : List (List Pair)) (out : List Pair) (to : Int) : Bool := !(missP ((w[to.toNat]?).getD []) out).isSome
def blkOk (c : Cert) (i : Nat) : Bool := match c.S.blocks[i]?, c.T.blocks[i]?, c.W[i]? with
 | some b, some m, some l => decide ((checkZ b m l 1048576).err = 0) && (succsZ b.term).all (hasE c.W (checkZ b m l 1048576).out)
 | _, _, _ => false
def okTo (c : Cert) (i : Nat) : Bool := (List.range i).all (blkOk c)
theorem Jtgu (c : Cert) (i : Nat) : okTo c (i + 1) = (okTo c i && blkOk c i) := by simp [okTo, List.range_succ]
theorem Jtgt {c : Cert} {i n : Nat} (h : blkOk c i = false) (hi : i < n) : okTo c n = false := by
 rw [← Bool.not_eq_true]; unfold okTo; rw [List.all_eq_true]
 intro h'
 have := h' i (List.mem_range.2 hi)
 rw [h] at this; cases this
theorem Jt5d {c : Cert} {i : Nat} {b : Block} {m : MBlock} {l : List Pair} (hb : c.S.blocks[i]? = some b) (hm : c.T.blocks[i]? = some m) (hl : c.W[i]? = some l) : blkOk c i = (decide ((checkZ b m l 1048576).err = 0) && (succsZ b.term).all (hasE c.W (checkZ b m l 1048576).out)) := by
 unfold blkOk; rw [hb, hm, hl]
theorem Jt7u {w : List (List Pair)} {out : List Pair} {i : Nat} : ∀ {ts : List Int} {k : Nat} {r : Rep}, (∀ x ∈ ts, 0 ≤ x) → r.err = 0 →
  (edgesC w out i ts k r).2 = !ts.all (hasE w out) ∧ ((edgesC w out i ts k r).2 = true → (edgesC w out i ts k r).1.err = 22) ∧ ((edgesC w out i ts k r).2 = false → (edgesC w out i ts k r).1.err = 0) := by
 intro ts
 induction ts with
 | nil => intro k r _ h; exact ⟨rfl, fun h => (by cases h), fun _ => h⟩
 | cons t ts ih =>
  intro k r h1 h2
  have ht := h1 t (by simp)
  obtain ⟨tn, rfl⟩ : ∃ n : Nat, t = (n : Int) := ⟨t.toNat, by omega⟩
  rw [Jt7r]
  have e : hasE w out (tn : Int) = !(missP ((w[tn]?).getD []) out).isSome := rfl
  rw [List.all_cons, e]
  cases hx : (missP ((w[tn]?).getD []) out).isSome with
  | true => exact ⟨rfl, fun _ => rfl, fun h => (by cases h)⟩
  | false => simpa using ih (k := k + 1) (r := edgeR w out tn r) (fun x hx => h1 x (by simp [hx])) h2
theorem Jt5o {c : Cert} (h : Fit c) : ∀ (n i : Nat) (r : Rep), i + n = c.S.blocks.length → r.err = 0 → okTo c i = true → (Jt5n c n i r).err ≠ 23 ∧ ((Jt5n c n i r).err = 0 ↔ okTo c c.S.blocks.length = true) := by
 intro n
 induction n with
 | zero =>
  intro i r hi hr ho
  have hi' : i = c.S.blocks.length := by omega
  subst hi'
  exact ⟨by show r.err ≠ 23; rw [hr]; decide, fun _ => ho, fun _ => hr⟩
 | succ n ih =>
  intro i r hi hr ho
  have hlT := h.lenT
  have hlW := h.lenW
  obtain ⟨b, hb⟩ : ∃ b, c.S.blocks[i]? = some b := ⟨_, List.getElem?_eq_getElem (by omega)⟩
  obtain ⟨m, hm⟩ : ∃ b, c.T.blocks[i]? = some b := ⟨_, List.getElem?_eq_getElem (by omega)⟩
  obtain ⟨l, hl⟩ : ∃ b, c.W[i]? = some b := ⟨_, List.getElem?_eq_getElem (by omega)⟩
  have hbc := Jt5e hb hm hl r
  have hbo := Jt5d hb hm hl
  have h23 := Jt6c b m l 1048576
  have hto := h.to b (List.mem_of_getElem? hb)
  obtain ⟨x, hx⟩ : ∃ x, x = checkZ b m l 1048576 := ⟨_, rfl⟩
  rw [← hx] at hbc hbo h23
  have hT : Jt5n c (n + 1) i r = match blockC c i r with | (r, true) => r | (r, false) => Jt5n c n (i + 1) r := rfl
  rw [hT, hbc]
  by_cases hxe : x.err ≠ 0
  ·rw [if_pos hxe]
   have hof : okTo c c.S.blocks.length = false := Jtgt (i := i) (by rw [hbo]; simp [hxe]) (by omega)
   exact ⟨h23, fun h0 => absurd h0 hxe, fun h0 => by rw [hof] at h0; cases h0⟩
  ·rw [if_neg hxe]
   have hx0 : x.err = 0 := by simpa using hxe
   have et := Jt7u (w := c.W) (out := x.out) (i := i) (ts := succsZ b.term) (k := 0) (r := blockR x r) (fun y hy => (hto y hy).1) hr
   obtain ⟨R, hR⟩ : ∃ R, R = edgesC c.W x.out i (succsZ b.term) 0 (blockR x r) := ⟨_, rfl⟩
   rw [← hR] at et ⊢
   obtain ⟨t, bad⟩ := R
   obtain ⟨t1, t2, t3⟩ := et
   simp only at t1 t2 t3
   cases bad with
   | true =>
    have ha : (succsZ b.term).all (hasE c.W x.out) = false := by rw [← Bool.not_eq_true']; exact t1.symm
    have hof : okTo c c.S.blocks.length = false := Jtgt (i := i) (by rw [hbo, ha, Bool.and_false]) (by omega)
    have e22 := t2 rfl
    exact ⟨by show t.err ≠ 23; rw [e22]; decide, fun h0 => (by have : t.err = 0 := h0; rw [e22] at this; cases this), fun h0 => by rw [hof] at h0; cases h0⟩
   | false =>
    have ha : (succsZ b.term).all (hasE c.W x.out) = true := by rw [← Bool.not_eq_false']; exact t1.symm
    exact ih (i + 1) t (by omega) (t3 rfl) (by rw [Jtgu, ho, hbo, ha, hx0]; rfl)
theorem Jte6 {c : Cert} (h : Fit c) (hv : validZ c = 0) : ((Jtk9 c).err = 23 → (Jtk9 c).blocks = 0) ∧ ((Jtk9 c).err ≠ 23 → ((Jtk9 c).err = 0 ↔ okTo c c.S.blocks.length = true)) := by
 unfold Jtk9
 rw [if_neg (by simp [hv])]
 by_cases h1 : ((w0 c).all fun q => initZ q c.S.args) = false
 ·rw [if_pos h1]; exact ⟨fun _ => rfl, fun h => absurd rfl h⟩
 ·rw [if_neg h1]
  obtain ⟨a1, a2⟩ := Jt5o h c.S.blocks.length 0 (rep0 c) (by omega) rfl rfl
  exact ⟨fun h => absurd h a1, fun _ => a2⟩
end Go.AE
set_option maxRecDepth 4000
namespace Go.AE
open Go
section
theorem Jtdo {P : Program} {p : Nums} (A : All P p) (S : SortOk P p) (C : ClosOk P p) (c : Cert) (h2 : ∀ b ∈ c.T.blocks, okM b) (hw : okW c.W) : Jt3o P p.law16_CheckerLocal [c.av] [] fun o _ => o = .ret (AB true) := by
 have cf := Jtji A c
 have ok := fun hf => Jtgs (c := c) hf h2 hw
 have q2 := fun hf => Jtjj A c (ok hf)
 have q3 := fun hf => Jt6i A S C c (ok hf) hf
 have hfit := fun h hf => fit_of (c := c) h hf
 have hlo := fun h hf => Jte6 (c := c) (hfit h hf) h
 obtain ⟨T, hT⟩ : ∃ T, T = Jtk9 c := ⟨_, rfl⟩
 obtain ⟨v, hv⟩ : ∃ v, v = validZ c := ⟨_, rfl⟩
 obtain ⟨f, hf⟩ : ∃ f, f = fewC c := ⟨_, rfl⟩
 rw [← hf] at cf q2 q3 hfit hlo
 rw [← hT] at q3 hlo
 rw [← hv] at q2 hfit hlo
 obtain ⟨sR, hsR⟩ : ∃ x, x = c.S.blocks.map Block.row := ⟨_, rfl⟩
 obtain ⟨tR, htR⟩ : ∃ x, x = c.T.blocks.map MBlock.row := ⟨_, rfl⟩
 obtain ⟨wR, hwR⟩ : ∃ x, x = c.W.map fun l => [pairsD l] := ⟨_, rfl⟩
 have hsl : sR.length = c.S.blocks.length := by rw [hsR]; simp
 simp only [Cert.av, witD, ← hsR, ← htR, ← hwR, Rep.av] at cf q2 q3 ⊢
 obtain ⟨n, hn⟩ : ∃ n, n = c.S.blocks.length := ⟨_, rfl⟩
 rw [← hn] at hsl
 refine A.law16_CheckerLocal.run rfl fun R hR => ?_
 (simp (maxSteps := 1000000) [Jtao])
 (refine Jtt (Jtdp A S C) (by rfl) (by rfl) ?_)
 (simp (maxSteps := 1000000) [])
 (refine Jtt cf (by rfl) (by rfl) ?_)
 (simp (maxSteps := 1000000) [])
 ((first | refine Xc (fun h1 => ?_) (fun h1 => ?_) | refine Xo (fun h1 => ?_) (fun h1 => ?_)) <;> (try simp only [Xz, Xy] at h1))
 ·(simp (maxSteps := 1000000) [h1])
  (refine Jtt (Jtdp A S C) (by rfl) (by rfl) ?_)
  (simp (maxSteps := 1000000) [])
  (first | exact hR _ _ FrA | exact hR _ _ FnA)
 have hft : f = true := by simpa using h1
 (simp (maxSteps := 1000000) [h1])
 (refine Jtt (q2 hft) (by rfl) (by rfl) ?_)
 (simp (maxSteps := 1000000) [])
 ((first | refine Xc (fun h3 => ?_) (fun h3 => ?_) | refine Xo (fun h3 => ?_) (fun h3 => ?_)) <;> (try simp only [Xz, Xy] at h3))
 ·(simp (maxSteps := 1000000) [h3])
  (refine Jtt (Jtdp A S C) (by rfl) (by rfl) ?_)
  (simp (maxSteps := 1000000) [])
  (first | exact hR _ _ FrA | exact hR _ _ FnA)
 have hv0 : v = 0 := by simpa using h3
 have h := hfit hv0 hft
 obtain ⟨lo1, lo2⟩ := hlo hv0 hft
 have few := h.few
 have hlT := h.lenT
 have hlW := h.lenW
 rw [← hn] at few hlT hlW lo2
 (simp (maxSteps := 1000000) [h3])
 refine Jt9 (fun s : Nat × Bool => ⟨[(4, AI s.1), (3, AB s.2), (1, .ptr 0 0)], [.mem [AI c.S.args, AI c.S.regs, .d (.sl sR), AI c.T.args, AI c.T.regs, AI c.T.slots, .d (.sl tR), .d (.sl wR)]]⟩)
  (fun s => s.1 ≤ n ∧ s.2 = okTo c s.1) (fun s => n - s.1) (0, true) ⟨by omega, rfl⟩ (by (exact wkA)) ?_
 rintro ⟨i, o⟩ ⟨hi, ho⟩ N hN
 simp only at hi ho hN
 (simp (maxSteps := 1000000) [hsl])
 ((first | refine Xc (fun h4 => ?_) (fun h4 => ?_) | refine Xo (fun h4 => ?_) (fun h4 => ?_)) <;> (try simp only [Xz, Xy] at h4))
 ·have hil : i < n := by omega
  obtain ⟨b, hb⟩ : ∃ b, c.S.blocks[i]? = some b := ⟨_, List.getElem?_eq_getElem (by omega)⟩
  obtain ⟨m, hm⟩ : ∃ b, c.T.blocks[i]? = some b := ⟨_, List.getElem?_eq_getElem (by omega)⟩
  obtain ⟨l, hl⟩ : ∃ b, c.W[i]? = some b := ⟨_, List.getElem?_eq_getElem (by omega)⟩
  have mb := List.mem_of_getElem? hb
  have mm := List.mem_of_getElem? hm
  have ml := List.mem_of_getElem? hl
  have hbR : sR[i]? = some b.row := by rw [hsR, List.getElem?_map, hb]; rfl
  have hmR : tR[i]? = some m.row := by rw [htR, List.getElem?_map, hm]; rfl
  have hlR : wR[i]? = some [pairsD l] := by rw [hwR, List.getElem?_map, hl]; rfl
  have gd := h.good mb mm ml 1048576
  obtain ⟨l1, l2, l3⟩ := h.w l ml
  have ck := Jtja A (V := VS) (L := LS) b m l 1048576 l1 (fun q hq => by obtain ⟨a1, a2, a3, a4⟩ := l3 q hq; exact ⟨mem_VS a1 a2, mem_LS a3 a4⟩) (h.vl b mb m mm) VL_few (by omega)
   (by have := h.cs b mb; omega) (by have := h.ct m mm; omega)
  have hbo := Jt5d hb hm hl
  obtain ⟨x, hx⟩ : ∃ x, x = checkZ b m l 1048576 := ⟨_, rfl⟩
  rw [← hx] at ck gd hbo
  have hsu := Jtgu c i
  rw [hbo] at hsu
  have hwi := Jtoq (k := i) (by omega)
  have g1 := gd.len
  obtain ⟨oR, hoR⟩ : ∃ y, y = x.out.map Pair.row := ⟨_, rfl⟩
  simp only [pairsD] at hlR
  simp only [Res.av, pairsD, ← hoR] at ck
  have cs := Jtiq A b.term
  have hto := h.to b mb
  have htl2 := Jtne b.term
  obtain ⟨ts, hts⟩ : ∃ t, t = succsZ b.term := ⟨_, rfl⟩
  rw [← hts] at cs hto htl2 hsu
  rw [← hn] at hto
  have main : ∀ (st : ASt), Wk 0 st ⟨[(7, AI 0), (6, .d (.sl (ts.map fun x => [I x]))), (5, .ptr 1 0), (4, AI i), (3, AB (o && decide (x.err = 0))), (1, .ptr 0 0)], [.mem [AI c.S.args, AI c.S.regs, .d (.sl sR), AI c.T.args, AI c.T.regs, AI c.T.slots, .d (.sl tR), .d (.sl wR)], .mem [.d (.sl oR), AI x.err, AI x.at_, AI x.steps, AI x.largest]]⟩ → True := fun _ _ => trivial
  (simp (maxSteps := 1000000) [h4, hbR, hmR, hlR, Block.row, MBlock.row])
  (refine Jtt ck (by rfl) (by rfl) ?_)
  (simp (maxSteps := 1000000) [])
  obtain ⟨o2, ho2⟩ : ∃ y, y = (o && decide (x.err = 0)) := ⟨_, rfl⟩
  ((first | refine Xc (fun h5 => ?_) (fun h5 => ?_) | refine Xo (fun h5 => ?_) (fun h5 => ?_)) <;> (try simp only [Xz, Xy] at h5))
  have ho2' : o2 = (x.err == 0) := by rw [ho2, h5, Bool.eq_iff_iff]; simp
  rotate_left
  have ho2' : o2 = false := by rw [ho2]; simp [h5]
  all_goals
   (simp (maxSteps := 1000000) [h5, hbR, Block.row])
   (refine Jtt cs (by rfl) (by rfl) ?_)
   (simp (maxSteps := 1000000) [])
   refine Jt9 (fun s : Nat × Bool => ⟨[(7, AI s.1), (6, .d (.sl (ts.map fun x => [I x]))), (5, .ptr 1 0), (4, AI i), (3, AB s.2), (1, .ptr 0 0)],
    [.mem [AI c.S.args, AI c.S.regs, .d (.sl sR), AI c.T.args, AI c.T.regs, AI c.T.slots, .d (.sl tR), .d (.sl wR)], .mem [.d (.sl oR), AI x.err, AI x.at_, AI x.steps, AI x.largest]]⟩)
    (fun s => s.1 ≤ ts.length ∧ s.2 = (o2 && (ts.take s.1).all (hasE c.W x.out))) (fun s => ts.length - s.1) (0, o2) ⟨by omega, by simp⟩ (by rw [ho2']; (exact wkA)) ?_
   rintro ⟨k, u⟩ ⟨hk, hu⟩ N' hN'
   simp only at hk hu hN'
   have fin : k = ts.length ∨ u = false → u = okTo c (i + 1) := by
    rintro (hkl | huf)
    ·rw [hsu, hu, hkl, List.take_length, ho2, ho, Bool.and_assoc]
    ·rw [hsu, huf, ← ho, ← Bool.and_assoc, ← ho2]
     rw [huf] at hu
     cases hoo : o2 with
     | false => rfl
     | true =>
      rw [hoo, Bool.true_and] at hu
      symm
      rw [Bool.true_and, ← Bool.not_eq_true, List.all_eq_true]
      intro hall
      have : (ts.take k).all (hasE c.W x.out) = true := List.all_eq_true.2 fun y hy => hall y (List.mem_of_mem_take hy)
      rw [this] at hu; cases hu
   (simp (maxSteps := 1000000) [])
   ((first | refine Xc (fun h6 => ?_) (fun h6 => ?_) | refine Xo (fun h6 => ?_) (fun h6 => ?_)) <;> (try simp only [Xz, Xy] at h6))
   ·have hkl : k < ts.length := by simpa using h6
    (simp (maxSteps := 1000000) [h6])
    cases u with
    | false =>
     (simp (maxSteps := 1000000) [hwi])
     exact hN _ (i + 1, false) ⟨hil, fin (.inr rfl)⟩ (by (exact wkA)) (by simp only; omega)
    | true =>
     have ht : ts[k]? = some ts[k] := by simp
     obtain ⟨d1, d2⟩ := hto _ (List.getElem_mem hkl)
     obtain ⟨tn, htn⟩ : ∃ tn : Nat, ts[k] = (tn : Int) := ⟨ts[k].toNat, by omega⟩
     have htk : (ts.take (k + 1)).all (hasE c.W x.out) = ((ts.take k).all (hasE c.W x.out) && hasE c.W x.out ts[k]) := by
      rw [List.take_add_one, ht, List.all_append]; simp
     rw [htn] at ht d2 htk
     obtain ⟨wt, hWt⟩ : ∃ w, c.W[tn]? = some w := ⟨_, List.getElem?_eq_getElem (by omega)⟩
     obtain ⟨y1, y2, y3⟩ := h.w wt (List.mem_of_getElem? hWt)
     have hwtR : wR[tn]? = some [.sl (wt.map Pair.row)] := by rw [hwR, List.getElem?_map, hWt]; rfl
     have ci := Jtj1 A wt x.out (by omega) (by omega)
     have hE : hasE c.W x.out (tn : Int) = !(missP wt x.out).isSome := by
      show (!(missP ((c.W[tn]?).getD []) x.out).isSome) = _; rw [hWt]; rfl
     rw [hE] at htk
     obtain ⟨b1, hb1⟩ : ∃ b, b = (missP wt x.out).isSome := ⟨_, rfl⟩
     obtain ⟨pr, hpr⟩ : ∃ y, y = (missP wt x.out).getD ⟨0, 0⟩ := ⟨_, rfl⟩
     simp only [missA, ← hb1, ← hpr, pairsD, ← hoR, Pair.av] at ci
     rw [← hb1] at htk
     have hwk := Jtoq (k := k) (by omega)
     (simp (maxSteps := 1000000) [ht, htn, hwtR])
     (refine Jtt ci (by rfl) (by rfl) ?_)
     (simp (maxSteps := 1000000) [hwk])
     exact hN' _ (k + 1, !b1) ⟨hkl, by simp only; rw [htk, ← Bool.and_assoc, ← hu]; rfl⟩ (by (exact wkA)) (by simp only; omega)
   ·have hkl : k = ts.length := by simp at h6; omega
    (simp (maxSteps := 1000000) [h6, hwi])
    exact hN _ (i + 1, u) ⟨hil, fin (.inl hkl)⟩ (by (exact wkA)) (by simp only; omega)
 have hk' : i = n := by omega
 subst hk'
 clear hN
 (simp (maxSteps := 1000000) [])
 (refine Jtt (q3 hft) (by rfl) (by rfl) ?_)
 (simp (maxSteps := 1000000) [])
 ((first | refine Xc (fun h5 => ?_) (fun h5 => ?_) | refine Xo (fun h5 => ?_) (fun h5 => ?_)) <;> (try simp only [Xz, Xy] at h5))
 ·have hb0 := lo1 h5
  (simp (maxSteps := 1000000) [h5])
  (first | exact hR _ _ FrA | exact hR _ _ FnA | exact hR _ _ (Xf (hq := by simp [AV.erase, AV.unview, hb0]; done)))
 have hl := lo2 h5
 rw [← ho] at hl
 (simp (maxSteps := 1000000) [])
 by_cases h6 : T.err = 0
 ·have ho1 := hl.1 h6
  (first | exact hR _ _ FrA | exact hR _ _ FnA | exact hR _ _ (Xf (hq := by simp [AV.erase, AV.unview, h6, ho1]; done)))
 ·have ho1 : o = false := by rw [← Bool.not_eq_true]; exact fun h' => h6 (hl.2 h')
  (first | exact hR _ _ FrA | exact hR _ _ FnA | exact hR _ _ (Xf (hq := by simp [AV.erase, AV.unview, h6, ho1]; done)))
end
end Go.AE
