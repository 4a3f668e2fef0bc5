/- A part of the proof: the evaluator over abstract values, its codes, the contracts of the functions. -/
import Derived.Test.YthplfnnnafglaaaD4
set_option linter.unusedVariables false
set_option linter.unusedSimpArgs false
namespace Go.AE
open Go
theorem Jtcm (l : List Int) : ∀ r ∈ l.map intRow, r.length = 1 := Jtj6 fun x => rfl
section
theorem Jthh {P : Program} {p : Nums} (A : All P p) (r : RunZ) (h0 : r.regs.length < 1000000000) (h1 : r.slots.length < 1000000000) (h2 : r.trace.length < 1000000000) : Jt3w P p.ref09_Copy [r.av] [] fun o H' => o = .ret (.agg [AI r.state, AI r.block, AI r.at_, AI r.value, .d (intsD r.regs), .d (intsD r.slots), .d (intsD r.trace), AI r.steps]) ∧ H' = [] := by
 refine A.ref09_Copy.run rfl fun R hR => ?_
 obtain ⟨state, block, at_, value, regs, slots, trace, steps⟩ := r
 have lr := Jtcm regs
 have ls := Jtcm slots
 have lt := Jtcm trace
 have nr : (regs.map intRow).length = regs.length := by simp
 have ns : (slots.map intRow).length = slots.length := by simp
 have nt : (trace.map intRow).length = trace.length := by simp
 simp only at h0 h1 h2 hR
 simp only [intsD] at hR
 obtain ⟨RR, hRR⟩ : ∃ X, X = regs.map intRow := ⟨_, rfl⟩
 obtain ⟨SS, hSS⟩ : ∃ X, X = slots.map intRow := ⟨_, rfl⟩
 obtain ⟨TT, hTT⟩ : ∃ X, X = trace.map intRow := ⟨_, rfl⟩
 rw [← hRR] at hR lr nr
 rw [← hSS] at hR ls ns
 rw [← hTT] at hR lt nt
 (simp (maxSteps := 1000000) [Jtbx, RunZ.av, intsD])
 simp only [← hRR, ← hSS, ← hTT]
 all_goals refine Jt1a (by rfl) (by rfl) lr (by decide) (by omega) (by omega) (fun hnr => ?_) (fun hnr => ?_)
 all_goals (simp (maxSteps := 1000000) [])
 all_goals refine Jt1a (by rfl) (by rfl) ls (by decide) (by omega) (by omega) (fun hns => ?_) (fun hns => ?_)
 all_goals (simp (maxSteps := 1000000) [])
 all_goals refine Jt1a (by rfl) (by rfl) lt (by decide) (by omega) (by omega) (fun hnt => ?_) (fun hnt => ?_)
 all_goals (simp (maxSteps := 1000000) [])
 all_goals (
  refine hR _ _ (Jt41 _ (.agg [AI state, AI block, AI at_, AI value, .d (.sl RR), .d (.sl SS), .d (.sl TT), AI steps]) [] rfl ?_ ⟨?_, rfl⟩)
  ·(try simp only [hnr])
   (try simp only [hns])
   (try simp only [hnt])
   (try simp only [nr, ns, nt])
   refine Wk.of ⟨⟨_, rfl, .inl (by (exact wkvA))⟩, trivial⟩ ?_ (by simp) <;> repeat' (first | exact True.intro | exact ⟨_, rfl, Jtmp rfl⟩ | exact ⟨_, rfl, Jtmn rfl⟩ | exact ⟨_, rfl, .inl .nild⟩ | exact ⟨_, rfl, .inl .nile⟩ | exact ⟨_, rfl, Jtmo⟩ | exact Jtmp rfl | exact Jtmn rfl | exact .inl .nild | exact .inl .nile | exact Jtmo | exact WkB.same rfl | exact Jt4g | exact Jt4e | exact .dead _ | exact .iter _ _ | exact .glob _ _ | refine Jt4c ?_ ?_ | refine And.intro ?_ ?_)
  ·rfl)
theorem Jthi {P : Program} {p : Nums} (A : All P p) (r : RunZ) (hne : r.regs ≠ []) (h0 : r.regs.length < 1000000000) (h1 : r.slots.length < 1000000000) (h2 : r.trace.length < 1000000000) : Jt3w P p.ref09_Copy [r.av] [] fun o H' => o = .ret (.agg [AI r.state, AI r.block, AI r.at_, AI r.value, .hsl 3 0 1 r.regs.length, .d (intsD r.slots), .d (intsD r.trace), AI r.steps]) ∧ H' = [.dead, .dead, .dead, .mem (Jtiw (r.regs.map intRow))] := by
 refine A.ref09_Copy.run rfl fun R hR => ?_
 obtain ⟨state, block, at_, value, regs, slots, trace, steps⟩ := r
 have lr := Jtcm regs
 have ls := Jtcm slots
 have lt := Jtcm trace
 have nr : (regs.map intRow).length = regs.length := by simp
 have ns : (slots.map intRow).length = slots.length := by simp
 have nt : (trace.map intRow).length = trace.length := by simp
 simp only at h0 h1 h2 hne hR
 have hne2 : regs.map intRow ≠ [] := by simpa using hne
 simp only [intsD] at hR
 obtain ⟨RR, hRR⟩ : ∃ X, X = regs.map intRow := ⟨_, rfl⟩
 obtain ⟨SS, hSS⟩ : ∃ X, X = slots.map intRow := ⟨_, rfl⟩
 obtain ⟨TT, hTT⟩ : ∃ X, X = trace.map intRow := ⟨_, rfl⟩
 rw [← hRR] at hR lr nr
 rw [← hSS] at hR ls ns
 rw [← hTT] at hR lt nt
 rw [← hRR] at hne2
 (simp (maxSteps := 1000000) [Jtbx, RunZ.av, intsD])
 simp only [← hRR, ← hSS, ← hTT]
 all_goals refine Jt18 (.inl (by rfl)) (by rfl) lr (by decide) (by omega) (by omega) hne2 ?_
 all_goals (simp (maxSteps := 1000000) [])
 all_goals refine Jt1a (by rfl) (by rfl) ls (by decide) (by omega) (by omega) (fun hns => ?_) (fun hns => ?_)
 all_goals (simp (maxSteps := 1000000) [])
 all_goals refine Jt1a (by rfl) (by rfl) lt (by decide) (by omega) (by omega) (fun hnt => ?_) (fun hnt => ?_)
 all_goals (simp (maxSteps := 1000000) [])
 all_goals (
  refine hR _ _ (Jt41 _ (.agg [AI state, AI block, AI at_, AI value, .hsl 3 0 1 regs.length, .d (.sl SS), .d (.sl TT), AI steps]) [.dead, .dead, .dead, .mem (Jtiw RR)] rfl ?_ ⟨?_, rfl⟩)
  ·(try simp only [hnr])
   (try simp only [hns])
   (try simp only [hnt])
   (try simp only [nr, ns, nt])
   refine Wk.of ⟨⟨_, rfl, .inl (by (exact wkvA))⟩, trivial⟩ ?_ (by simp) <;> repeat' (first | exact True.intro | exact ⟨_, rfl, Jtmp rfl⟩ | exact ⟨_, rfl, Jtmn rfl⟩ | exact ⟨_, rfl, .inl .nild⟩ | exact ⟨_, rfl, .inl .nile⟩ | exact ⟨_, rfl, Jtmo⟩ | exact Jtmp rfl | exact Jtmn rfl | exact .inl .nild | exact .inl .nile | exact Jtmo | exact WkB.same rfl | exact Jt4g | exact Jt4e | exact .dead _ | exact .iter _ _ | exact .glob _ _ | refine Jt4c ?_ ?_ | refine And.intro ?_ ?_)
  ·rfl)
theorem Jthj {P : Program} {p : Nums} (A : All P p) (r : RunZ) (hne : r.slots ≠ []) (h0 : r.regs.length < 1000000000) (h1 : r.slots.length < 1000000000) (h2 : r.trace.length < 1000000000) : Jt3w P p.ref09_Copy [r.av] [] fun o H' => o = .ret (.agg [AI r.state, AI r.block, AI r.at_, AI r.value, .d (intsD r.regs), .hsl 3 0 1 r.slots.length, .d (intsD r.trace), AI r.steps]) ∧ H' = [.dead, .dead, .dead, .mem (Jtiw (r.slots.map intRow))] := by
 refine A.ref09_Copy.run rfl fun R hR => ?_
 obtain ⟨state, block, at_, value, regs, slots, trace, steps⟩ := r
 have lr := Jtcm regs
 have ls := Jtcm slots
 have lt := Jtcm trace
 have nr : (regs.map intRow).length = regs.length := by simp
 have ns : (slots.map intRow).length = slots.length := by simp
 have nt : (trace.map intRow).length = trace.length := by simp
 simp only at h0 h1 h2 hne hR
 have hne2 : slots.map intRow ≠ [] := by simpa using hne
 simp only [intsD] at hR
 obtain ⟨RR, hRR⟩ : ∃ X, X = regs.map intRow := ⟨_, rfl⟩
 obtain ⟨SS, hSS⟩ : ∃ X, X = slots.map intRow := ⟨_, rfl⟩
 obtain ⟨TT, hTT⟩ : ∃ X, X = trace.map intRow := ⟨_, rfl⟩
 rw [← hRR] at hR lr nr
 rw [← hSS] at hR ls ns
 rw [← hTT] at hR lt nt
 rw [← hSS] at hne2
 (simp (maxSteps := 1000000) [Jtbx, RunZ.av, intsD])
 simp only [← hRR, ← hSS, ← hTT]
 all_goals refine Jt1a (by rfl) (by rfl) lr (by decide) (by omega) (by omega) (fun hnr => ?_) (fun hnr => ?_)
 all_goals (simp (maxSteps := 1000000) [])
 all_goals refine Jt18 (.inl (by rfl)) (by rfl) ls (by decide) (by omega) (by omega) hne2 ?_
 all_goals (simp (maxSteps := 1000000) [])
 all_goals refine Jt1a (by rfl) (by rfl) lt (by decide) (by omega) (by omega) (fun hnt => ?_) (fun hnt => ?_)
 all_goals (simp (maxSteps := 1000000) [])
 all_goals (
  refine hR _ _ (Jt41 _ (.agg [AI state, AI block, AI at_, AI value, .d (.sl RR), .hsl 3 0 1 slots.length, .d (.sl TT), AI steps]) [.dead, .dead, .dead, .mem (Jtiw SS)] rfl ?_ ⟨?_, rfl⟩)
  ·(try simp only [hnr])
   (try simp only [hns])
   (try simp only [hnt])
   (try simp only [nr, ns, nt])
   refine Wk.of ⟨⟨_, rfl, .inl (by (exact wkvA))⟩, trivial⟩ ?_ (by simp) <;> repeat' (first | exact True.intro | exact ⟨_, rfl, Jtmp rfl⟩ | exact ⟨_, rfl, Jtmn rfl⟩ | exact ⟨_, rfl, .inl .nild⟩ | exact ⟨_, rfl, .inl .nile⟩ | exact ⟨_, rfl, Jtmo⟩ | exact Jtmp rfl | exact Jtmn rfl | exact .inl .nild | exact .inl .nile | exact Jtmo | exact WkB.same rfl | exact Jt4g | exact Jt4e | exact .dead _ | exact .iter _ _ | exact .glob _ _ | refine Jt4c ?_ ?_ | refine And.intro ?_ ?_)
  ·rfl)
theorem Jthk {P : Program} {p : Nums} (A : All P p) (r : RunZ) (hne : r.trace ≠ []) (h0 : r.regs.length < 1000000000) (h1 : r.slots.length < 1000000000) (h2 : r.trace.length < 1000000000) : Jt3w P p.ref09_Copy [r.av] [] fun o H' => o = .ret (.agg [AI r.state, AI r.block, AI r.at_, AI r.value, .d (intsD r.regs), .d (intsD r.slots), .hsl 3 0 1 r.trace.length, AI r.steps]) ∧ H' = [.dead, .dead, .dead, .mem (Jtiw (r.trace.map intRow))] := by
 refine A.ref09_Copy.run rfl fun R hR => ?_
 obtain ⟨state, block, at_, value, regs, slots, trace, steps⟩ := r
 have lr := Jtcm regs
 have ls := Jtcm slots
 have lt := Jtcm trace
 have nr : (regs.map intRow).length = regs.length := by simp
 have ns : (slots.map intRow).length = slots.length := by simp
 have nt : (trace.map intRow).length = trace.length := by simp
 simp only at h0 h1 h2 hne hR
 have hne2 : trace.map intRow ≠ [] := by simpa using hne
 simp only [intsD] at hR
 obtain ⟨RR, hRR⟩ : ∃ X, X = regs.map intRow := ⟨_, rfl⟩
 obtain ⟨SS, hSS⟩ : ∃ X, X = slots.map intRow := ⟨_, rfl⟩
 obtain ⟨TT, hTT⟩ : ∃ X, X = trace.map intRow := ⟨_, rfl⟩
 rw [← hRR] at hR lr nr
 rw [← hSS] at hR ls ns
 rw [← hTT] at hR lt nt
 rw [← hTT] at hne2
 (simp (maxSteps := 1000000) [Jtbx, RunZ.av, intsD])
 simp only [← hRR, ← hSS, ← hTT]
 all_goals refine Jt1a (by rfl) (by rfl) lr (by decide) (by omega) (by omega) (fun hnr => ?_) (fun hnr => ?_)
 all_goals (simp (maxSteps := 1000000) [])
 all_goals refine Jt1a (by rfl) (by rfl) ls (by decide) (by omega) (by omega) (fun hns => ?_) (fun hns => ?_)
 all_goals (simp (maxSteps := 1000000) [])
 all_goals refine Jt18 (.inl (by rfl)) (by rfl) lt (by decide) (by omega) (by omega) hne2 ?_
 all_goals (simp (maxSteps := 1000000) [])
 all_goals (
  refine hR _ _ (Jt41 _ (.agg [AI state, AI block, AI at_, AI value, .d (.sl RR), .d (.sl SS), .hsl 3 0 1 trace.length, AI steps]) [.dead, .dead, .dead, .mem (Jtiw TT)] rfl ?_ ⟨?_, rfl⟩)
  ·(try simp only [hnr])
   (try simp only [hns])
   (try simp only [hnt])
   (try simp only [nr, ns, nt])
   refine Wk.of ⟨⟨_, rfl, .inl (by (exact wkvA))⟩, trivial⟩ ?_ (by simp) <;> repeat' (first | exact True.intro | exact ⟨_, rfl, Jtmp rfl⟩ | exact ⟨_, rfl, Jtmn rfl⟩ | exact ⟨_, rfl, .inl .nild⟩ | exact ⟨_, rfl, .inl .nile⟩ | exact ⟨_, rfl, Jtmo⟩ | exact Jtmp rfl | exact Jtmn rfl | exact .inl .nild | exact .inl .nile | exact Jtmo | exact WkB.same rfl | exact Jt4g | exact Jt4e | exact .dead _ | exact .iter _ _ | exact .glob _ _ | refine Jt4c ?_ ?_ | refine And.intro ?_ ?_)
  ·rfl)
theorem Jthl {P : Program} {p : Nums} (A : All P p) (r : RunZ) (hne : r.trace = []) (h0 : r.regs.length < 1000000000) (h1 : r.slots.length < 1000000000) (h2 : r.trace.length < 1000000000) : Jt3w P p.ref09_Copy [r.av] [] fun o H' => o = .ret (.agg [AI r.state, AI r.block, AI r.at_, AI r.value, .d (intsD r.regs), .d (intsD r.slots), .nile, AI r.steps]) ∧ H' = [] := by
 refine A.ref09_Copy.run rfl fun R hR => ?_
 obtain ⟨state, block, at_, value, regs, slots, trace, steps⟩ := r
 have lr := Jtcm regs
 have ls := Jtcm slots
 have lt := Jtcm trace
 have nr : (regs.map intRow).length = regs.length := by simp
 have ns : (slots.map intRow).length = slots.length := by simp
 have nt : (trace.map intRow).length = trace.length := by simp
 simp only at h0 h1 h2 hne hR
 subst hne
 simp only [intsD] at hR
 obtain ⟨RR, hRR⟩ : ∃ X, X = regs.map intRow := ⟨_, rfl⟩
 obtain ⟨SS, hSS⟩ : ∃ X, X = slots.map intRow := ⟨_, rfl⟩
 have hTT : True := trivial
 rw [← hRR] at hR lr nr
 rw [← hSS] at hR ls ns
 (simp (maxSteps := 1000000) [Jtbx, RunZ.av, intsD])
 simp only [← hRR, ← hSS]
 all_goals refine Jt1a (by rfl) (by rfl) lr (by decide) (by omega) (by omega) (fun hnr => ?_) (fun hnr => ?_)
 all_goals (simp (maxSteps := 1000000) [])
 all_goals refine Jt1a (by rfl) (by rfl) ls (by decide) (by omega) (by omega) (fun hns => ?_) (fun hns => ?_)
 all_goals (simp (maxSteps := 1000000) [])
 all_goals refine Jt1a (by rfl) (by rfl) (ys := []) (by simp) (by decide) (by simp) (by simp) (fun hn => ?_) (fun hn => absurd rfl hn)
 all_goals (simp (maxSteps := 1000000) [])
 all_goals (
  refine hR _ _ (Jt41 _ (.agg [AI state, AI block, AI at_, AI value, .d (.sl RR), .d (.sl SS), .nile, AI steps]) [] rfl ?_ ⟨?_, rfl⟩)
  ·(try simp only [hnr])
   (try simp only [hns])
   (try simp only [hnt])
   (try simp only [nr, ns, nt])
   refine Wk.of ⟨⟨_, rfl, .inl (by (exact wkvA))⟩, trivial⟩ ?_ (by simp) <;> repeat' (first | exact True.intro | exact ⟨_, rfl, Jtmp rfl⟩ | exact ⟨_, rfl, Jtmn rfl⟩ | exact ⟨_, rfl, .inl .nild⟩ | exact ⟨_, rfl, .inl .nile⟩ | exact ⟨_, rfl, Jtmo⟩ | exact Jtmp rfl | exact Jtmn rfl | exact .inl .nild | exact .inl .nile | exact Jtmo | exact WkB.same rfl | exact Jt4g | exact Jt4e | exact .dead _ | exact .iter _ _ | exact .glob _ _ | refine Jt4c ?_ ?_ | refine And.intro ?_ ?_)
  ·rfl)
end
theorem Jtco {l : List Int} {n : Int} (h0 : 0 ≤ n) (h1 : n < l.length) : (l.map intRow)[n.toNat]? = some [D.int .i64 (gI l n)] := by
 have h : n.toNat < l.length := by omega
 simp [gI, intRow, h, List.getD_eq_getElem?_getD]
section
theorem Jtho {P : Program} {p : Nums} (A : All P p) (r : RunZ) (l : Int) (hl0 : 0 ≤ l) (h : LocOk r l) : Jt3w P p.ref10_Read [r.av, AI l] [] fun o _ => o = .ret (AI (readL r l)) := by
 refine A.ref10_Read.run rfl fun R hR => ?_
 obtain ⟨_, hl1, h0, h1, h2⟩ := h
 have hw : IntKind.i64.wrap (l.tdiv 2) = l.tdiv 2 := wrap_i64 (by omega) (by have := Int.tdiv_eq_ediv_of_nonneg (a := l) (b := 2) hl0; omega)
 by_cases ho : l.tmod 2 = 1
 ·have hg := Jtco h0 (h1 ho)
  (simp (maxSteps := 1000000) [Jtc0, RunZ.av, ho, intsD, hw, h0, hg])
  (first | exact hR _ _ FrA | exact hR _ _ FnA | exact hR _ _ (Xf (hq := by simp [AV.erase, AV.unview, readL, ho]; done)))
 ·have hob : (l.tmod 2 == 1) = false := by simpa using ho
  have hg := Jtco h0 (h2 ho)
  (simp (maxSteps := 1000000) [Jtc0, RunZ.av, ho, hob, intsD, hw, h0, hg])
  (first | exact hR _ _ FrA | exact hR _ _ FnA | exact hR _ _ (Xf (hq := by simp [AV.erase, AV.unview, readL, ho]; done)))
end
end Go.AE
set_option maxRecDepth 8000
namespace Go.AE
open Go
structure InB (b : Block) (nr : Nat) : Prop where
 emit : ∀ i ∈ b.code, i.op = 17 → 0 ≤ i.a ∧ i.a < nr
 ops : ∀ i ∈ b.code, i.op ≠ 17 → (0 ≤ i.a ∧ i.a < nr) ∧ (0 ≤ i.b ∧ i.b < nr) ∧ (0 ≤ i.d ∧ i.d < nr)
 term : b.term.kind ≠ 1 → 0 ≤ b.term.a ∧ b.term.a < nr
 to : 0 ≤ b.term.to ∧ 0 ≤ b.term.els
def evI (i : Instr) (l : List Int) : Int × Bool := evalZ i.op (gI l i.a) (gI l i.b) i.imm
def stepB (b : Block) (r : RunZ) : RunZ :=
 if r.at_ = b.code.length then
  if b.term.kind = 3 then { r with state := 1, value := gI r.regs b.term.a, steps := r.steps + 1 }
  else { r with block := (if b.term.kind = 2 ∧ gI r.regs b.term.a = 0 then b.term.els else b.term.to).toNat, at_ := 0, steps := r.steps + 1 }
 else match b.code[r.at_]? with
  | none => r
  | some i => if i.op = 17 then { r with trace := r.trace ++ [gI r.regs i.a], at_ := r.at_ + 1, steps := r.steps + 1 }
   else if (evI i r.regs).2 = true then { r with regs := r.regs.set i.d.toNat (evI i r.regs).1, at_ := r.at_ + 1, steps := r.steps + 1 }
   else { r with state := 2 }
def stepZ (f : Func) (r : RunZ) : RunZ := if r.state ≠ 0 then r else match f.blocks[r.block]? with
 | some b => stepB b r
 | none => r
structure Small (r : RunZ) : Prop where
 regs : r.regs.length < 100000000
 slots : r.slots.length < 100000000
 trace : r.trace.length < 100000000
 steps : r.steps < 1000000000
theorem Jti7 {ρ : Nat → Option Nat} {c : List (List D)} : renB ρ [.dead, .dead, .dead, .mem (Jtiw c)] = some [.dead, .dead, .dead, .mem (Jtiw c)] := by
 have hr : renL ρ (Jtiw c) = some (Jtiw c) := renL_d _
 simp only [renB, Blk.ren, hr]
theorem Jt4n {H : List Blk} {b n : Nat} {l : List Int} (h : H[b]? = some (.mem (Jtiw (l.map intRow)))) (hn : n = l.length) : WkV H 0 (.hsl b 0 1 n) (.d (.sl (l.map intRow))) := by
 subst hn
 refine .hsl b 0 1 l.length (Jtiw (l.map intRow)) (l.map intRow) h (Nat.zero_le _) ?_ (by simp) (Jtcl _)
 rw [List.drop_zero, Nat.mul_one, ← lenI l, List.take_length]; rfl
theorem Jt4o {H : List Blk} {a b c d e x y z x' y' z' : AV} (h1 : WkV H 0 x x') (h2 : WkV H 0 y y') (h3 : WkV H 0 z z') (ha : WkV H 0 a a) (hb : WkV H 0 b b) (hc : WkV H 0 c c) (hd : WkV H 0 d d) (he : WkV H 0 e e) : WkV H 0 (.agg [a, b, c, d, x, y, z, e]) (.agg [a, b, c, d, x', y', z', e]) :=
 Jt4m ⟨ha, hb, hc, hd, h1, h2, h3, he, trivial⟩
section
set_option maxHeartbeats 2000000 in
theorem Jthm {P : Program} {p : Nums} (A : All P p) (f : Func) (r : RunZ) (hb : r.state = 0 → ∃ b, f.blocks[r.block]? = some b ∧ r.at_ ≤ b.code.length ∧ b.code.length < 1000000000 ∧ InB b r.regs.length) (hs : Small r) :
  Jt3w P p.ref09_Step [f.av, r.av] [] fun o _ => o = .ret (stepZ f r).av := by
 refine A.ref09_Step.run rfl fun R hR => ?_
 obtain ⟨T, hT⟩ : ∃ T, T = stepZ f r := ⟨_, rfl⟩
 rw [← hT] at hR
 unfold stepZ at hT
 have q1 := hs.regs
 have q2 := hs.slots
 have q3 := hs.trace
 have q4 := hs.steps
 have c0 := (Jthh A r (by omega) (by omega) (by omega)).mono fun o H' h => h.1
 have cR := fun hne => Jthi A r hne (by omega) (by omega) (by omega)
 have cT := fun hne => Jthk A r hne (by omega) (by omega) (by omega)
 have cT0 := fun hne => (Jthl A r hne (by omega) (by omega) (by omega)).mono fun o H' h => h.1
 obtain ⟨state, block, at_, value, regs, slots, trace, steps⟩ := r
 have hw4 : IntKind.i64.wrap ((steps : Int) + 1) = ((steps + 1 : Nat) : Int) := Jtmv (by simp only at q4; omega)
 simp only [RunZ.av] at c0 cR cT cT0 hT hb q1 q2 q3 q4
 by_cases hst : state = 0
 ·obtain ⟨b, hbk, hat, hbl, hin⟩ := hb hst
  subst hst
  simp only [ne_eq, not_true_eq_false, if_false, hbk] at hT
  unfold stepB at hT
  obtain ⟨code, kind, ta, to, els⟩ := b
  obtain ⟨hem, hops, htm, hto⟩ := hin
  simp only at hT hat hbl hem hops htm hto
  by_cases hl : at_ = code.length
  ·rw [if_pos hl] at hT
   subst hl
   by_cases hk3 : kind = 3
   ·rw [if_pos hk3] at hT
    obtain ⟨g0, g1⟩ := htm (by omega)
    have hg := Jtco g0 g1
    (simp (maxSteps := 1000000) [Jtby, Func.av, RunZ.av])
    (refine Jty c0 (by rfl) (by rfl) ?_)
    (simp (maxSteps := 1000000) [List.getElem?_map, hbk, Block.row, hk3, hw4, intsD, g0, hg])
    refine hR _ _ (Jt42 _ _ rfl (by (exact wkvA)) ?_)
    rw [hT]; rfl
   ·rw [if_neg hk3] at hT
    have hk3b : (kind == 3) = false := by simpa using hk3
    by_cases hk2 : kind = 2
    ·obtain ⟨g0, g1⟩ := htm (by omega)
     have hg := Jtco g0 g1
     by_cases hz : gI regs ta = 0
     ·rw [if_pos ⟨hk2, hz⟩] at hT
      have he : ((els.toNat : Nat) : Int) = els := by omega
      (simp (maxSteps := 1000000) [Jtby, Func.av, RunZ.av])
      (refine Jty c0 (by rfl) (by rfl) ?_)
      (simp (maxSteps := 1000000) [List.getElem?_map, hbk, Block.row, hk3, hk3b, hk2, hw4, intsD, g0, hg, hz])
      refine hR _ _ (Jt42 _ _ rfl (by (exact wkvA)) ?_)
      rw [hT]; simp [RunZ.av, AV.erase, intsD, he]
     ·rw [if_neg (fun h => hz h.2)] at hT
      have hzb := bne0 hz
      have he : ((to.toNat : Nat) : Int) = to := by omega
      (simp (maxSteps := 1000000) [Jtby, Func.av, RunZ.av])
      (refine Jty c0 (by rfl) (by rfl) ?_)
      (simp (maxSteps := 1000000) [List.getElem?_map, hbk, Block.row, hk3, hk3b, hk2, hw4, intsD, g0, hg, hz, hzb])
      refine hR _ _ (Jt42 _ _ rfl (by (exact wkvA)) ?_)
      rw [hT]; simp [RunZ.av, AV.erase, intsD, he]
    ·rw [if_neg (fun h => hk2 h.1)] at hT
     have hk2b : (kind == 2) = false := by simpa using hk2
     have he : ((to.toNat : Nat) : Int) = to := by omega
     (simp (maxSteps := 1000000) [Jtby, Func.av, RunZ.av])
     (refine Jty c0 (by rfl) (by rfl) ?_)
     (simp (maxSteps := 1000000) [List.getElem?_map, hbk, Block.row, hk3, hk3b, hk2, hk2b, hw4, intsD])
     refine hR _ _ (Jt42 _ _ rfl (by (exact wkvA)) ?_)
     rw [hT]; simp [RunZ.av, AV.erase, intsD, he]
  ·rw [if_neg hl] at hT
   have hcl : at_ < code.length := by omega
   have hci : code[at_]? = some code[at_] := by simp [hcl]
   obtain ⟨i, hie⟩ : ∃ i, i = code[at_] := ⟨_, rfl⟩
   rw [← hie] at hci
   rw [hci] at hT
   simp only at hT
   have himem : i ∈ code := List.mem_of_getElem? hci
   have hlb : ((at_ : Int) == (code.length : Int)) = false := by simp; omega
   have hw3 : IntKind.i64.wrap ((at_ : Int) + 1) = ((at_ + 1 : Nat) : Int) := Jtmv (by omega)
   by_cases h17 : i.op = 17
   ·rw [if_pos h17] at hT
    obtain ⟨g0, g1⟩ := hem i himem h17
    have hg := Jtco g0 g1
    by_cases htr : trace = []
    ·subst htr
     (simp (maxSteps := 1000000) [Jtby, Func.av, RunZ.av])
     (refine Jty (cT0 rfl) (by rfl) (by rfl) ?_)
     (simp (maxSteps := 1000000) [List.getElem?_map, hbk, Block.row, hl, hlb, hci, Instr.row, h17, hw4, hw3, intsD, g0, hg])
     refine Jt1a (by rfl) (by rfl) (by simp) (by decide) (by simp) (by simp) (fun h => by simp at h) (fun _ => ?_)
     (simp (maxSteps := 1000000) [hw3, hw4])
     refine hR _ _ (Jt42 _ _ rfl (by (exact wkvA)) ?_)
     rw [hT]; simp [RunZ.av, AV.erase, intsD, intRow]
    ·have hne2 : trace.map intRow ≠ [] := by simpa using htr
     (simp (maxSteps := 1000000) [Jtby, Func.av, RunZ.av])
     refine Jt10 [] 4 (cT htr) (by decide) (by rfl) (by rfl) (by rfl) Jti7 (by rfl) (by rfl) ?_
     (simp (maxSteps := 1000000) [List.getElem?_map, hbk, Block.row, hl, hlb, hci, Instr.row, h17, hw4, hw3, intsD, g0, hg])
     have htp : 0 < trace.length := List.length_pos_iff.2 htr
     have ht2 : trace.map intRow ++ [[D.int .i64 (gI regs i.a)]] = (trace ++ [gI regs i.a]).map intRow := by rw [List.map_append]; rfl
     refine Jt19 (b := 6) (rows := trace.map intRow) (ys := [[D.int .i64 (gI regs i.a)]]) (by rfl) (by rfl) (by simp) (Jtcl _) htp (by rfl) (by simp) (by decide) (by simp) (by simp; omega) (by simp; omega) ?_ ?_
     all_goals
      rw [ht2]
      obtain ⟨tN, htN⟩ : ∃ y, y = (trace ++ [gI regs i.a]).map intRow := ⟨_, rfl⟩
      rw [← htN]
      (simp (maxSteps := 1000000) [hw3, hw4])
      refine hR _ _ (Jt42 _ (.agg [AI 0, AI block, AI ((at_ + 1 : Nat) : Int), AI value, .d (.sl (regs.map intRow)), .d (.sl (slots.map intRow)), .d (.sl ((trace ++ [gI regs i.a]).map intRow)), AI ((steps + 1 : Nat) : Int)]) rfl ?_ ?_)
      ·exact Jt4o (.refl _ rfl) (.refl _ rfl) (Jt4n (by rw [← htN]; rfl) (by simp)) (.refl _ rfl) (.refl _ rfl) (.refl _ rfl) (.refl _ rfl) (.refl _ rfl)
      ·rw [hT]; rfl
   ·rw [if_neg h17] at hT
    have h17b : (i.op == 17) = false := by simpa using h17
    obtain ⟨⟨a0, a1⟩, ⟨b0, b1⟩, ⟨d0, d1⟩⟩ := hops i himem h17
    have hga := Jtco a0 a1
    have hgb := Jtco b0 b1
    have hev := Jth3 A i.op (gI regs i.a) (gI regs i.b) i.imm
    unfold evI at hT
    obtain ⟨⟨v, ok⟩, hve⟩ : ∃ x, x = evalZ i.op (gI regs i.a) (gI regs i.b) i.imm := ⟨_, rfl⟩
    rw [← hve] at hT hev
    simp only at hT hev
    cases ok with
    | false =>
     simp only [Bool.false_eq_true, if_false] at hT
     (simp (maxSteps := 1000000) [Jtby, Func.av, RunZ.av])
     (refine Jty c0 (by rfl) (by rfl) ?_)
     (simp (maxSteps := 1000000) [List.getElem?_map, hbk, Block.row, hl, hlb, hci, Instr.row, h17, h17b, hw4, hw3, intsD, a0, hga, b0, hgb])
     (refine Jty hev (by rfl) (by rfl) ?_)
     (simp (maxSteps := 1000000) [])
     refine hR _ _ (Jt42 _ _ rfl (by (exact wkvA)) ?_)
     rw [hT]; rfl
    | true =>
     simp only [if_true] at hT
     have hrne : regs ≠ [] := by rintro rfl; simp at d1; omega
     (simp (maxSteps := 1000000) [Jtby, Func.av, RunZ.av])
     refine Jt10 [] 4 (cR hrne) (by decide) (by rfl) (by rfl) (by rfl) Jti7 (by rfl) (by rfl) ?_
     (simp (maxSteps := 1000000) [List.getElem?_map, hbk, Block.row, hl, hlb, hci, Instr.row, h17, h17b, hw4, hw3, intsD, a0, hga, b0, hgb])
     (refine Jty hev (by rfl) (by rfl) ?_)
     (simp (maxSteps := 1000000) [d0, d1, hw3, hw4])
     have hsp := Jtjl (v := v) d0 d1
     refine ⟨by rw [lenI]; omega, ?_⟩
     refine hR _ _ (Jt42 _ (.agg [AI 0, AI block, AI ((at_ + 1 : Nat) : Int), AI value, .d (.sl ((setI regs i.d v).map intRow)), .d (.sl (slots.map intRow)), .d (.sl (trace.map intRow)), AI ((steps + 1 : Nat) : Int)]) rfl ?_ ?_)
     ·exact Jt4o (Jt4n (b := 6) (by rw [← hsp]; simp [spl]) (by rw [Jtjm])) (.refl _ rfl) (.refl _ rfl) (.refl _ rfl) (.refl _ rfl) (.refl _ rfl) (.refl _ rfl) (.refl _ rfl)
     ·rw [hT]; rfl
 ·rw [if_pos hst] at hT
  have hstb : (state != 0) = true := by simpa using hst
  (simp (maxSteps := 1000000) [Jtby, Func.av, RunZ.av])
  (refine Jty c0 (by rfl) (by rfl) ?_)
  (simp (maxSteps := 1000000) [hstb, intsD])
  refine hR _ _ (Jt42 _ _ rfl (by (exact wkvA)) ?_)
  rw [hT]; rfl
end
end Go.AE
set_option maxRecDepth 8000
namespace Go.AE
open Go
structure InBM (b : MBlock) (r : RunZ) : Prop where
 mv : ∀ x ∈ b.code, x.op = 18 → (LocOk r x.dst ∧ 0 ≤ x.dst) ∧ LocOk r x.src ∧ 0 ≤ x.src
 emit : ∀ i ∈ b.code, i.op = 17 → 0 ≤ i.a ∧ i.a < r.regs.length
 ops : ∀ i ∈ b.code, i.op ≠ 18 → i.op ≠ 17 → (0 ≤ i.a ∧ i.a < r.regs.length) ∧ (0 ≤ i.b ∧ i.b < r.regs.length) ∧ (0 ≤ i.d ∧ i.d < r.regs.length)
 term : b.term.kind ≠ 1 → 0 ≤ b.term.a ∧ b.term.a < r.regs.length
 to : 0 ≤ b.term.to ∧ 0 ≤ b.term.els
def evM (i : Mach) (l : List Int) : Int × Bool := evalZ i.op (gI l i.a) (gI l i.b) i.imm
def stepBM (b : MBlock) (r : RunZ) : RunZ :=
 if r.at_ = b.code.length then
  if b.term.kind = 3 then { r with state := 1, value := gI r.regs b.term.a, steps := r.steps + 1 }
  else { r with block := (if b.term.kind = 2 ∧ gI r.regs b.term.a = 0 then b.term.els else b.term.to).toNat, at_ := 0, steps := r.steps + 1 }
 else match b.code[r.at_]? with
  | none => r
  | some i => if i.op = 18 then { writeL r i.dst (readL r i.src) with at_ := r.at_ + 1, steps := r.steps + 1 }
   else if i.op = 17 then { r with trace := r.trace ++ [gI r.regs i.a], at_ := r.at_ + 1, steps := r.steps + 1 }
   else if (evM i r.regs).2 = true then { r with regs := r.regs.set i.d.toNat (evM i r.regs).1, at_ := r.at_ + 1, steps := r.steps + 1 }
   else { r with state := 2 }
def stepZM (f : MFunc) (r : RunZ) : RunZ := if r.state ≠ 0 then r else match f.blocks[r.block]? with
 | some b => stepBM b r
 | none => r
section
set_option maxHeartbeats 2000000 in
theorem Jthp {P : Program} {p : Nums} (A : All P p) (f : MFunc) (r : RunZ) (hb : r.state = 0 → ∃ b, f.blocks[r.block]? = some b ∧ r.at_ ≤ b.code.length ∧ b.code.length < 1000000000 ∧ InBM b r) (hs : Small r) :
  Jt3w P p.ref10_Step [f.av, r.av] [] fun o _ => o = .ret (stepZM f r).av := by
 refine A.ref10_Step.run rfl fun R hR => ?_
 obtain ⟨T, hT⟩ : ∃ T, T = stepZM f r := ⟨_, rfl⟩
 rw [← hT] at hR
 unfold stepZM at hT
 have q1 := hs.regs
 have q2 := hs.slots
 have q3 := hs.trace
 have q4 := hs.steps
 have c0 := (Jthh A r (by omega) (by omega) (by omega)).mono fun o H' h => h.1
 have cR := fun hne => Jthi A r hne (by omega) (by omega) (by omega)
 have cS := fun hne => Jthj A r hne (by omega) (by omega) (by omega)
 have cT := fun hne => Jthk A r hne (by omega) (by omega) (by omega)
 have cT0 := fun hne => (Jthl A r hne (by omega) (by omega) (by omega)).mono fun o H' h => h.1
 obtain ⟨state, block, at_, value, regs, slots, trace, steps⟩ := r
 have hw4 : IntKind.i64.wrap ((steps : Int) + 1) = ((steps + 1 : Nat) : Int) := Jtmv (by simp only at q4; omega)
 simp only [RunZ.av] at c0 cR cS cT cT0 hT hb q1 q2 q3 q4
 by_cases hst : state = 0
 ·obtain ⟨b, hbk, hat, hbl, hin⟩ := hb hst
  subst hst
  simp only [ne_eq, not_true_eq_false, if_false, hbk] at hT
  unfold stepBM at hT
  obtain ⟨code, kind, ta, to, els⟩ := b
  obtain ⟨hmv, hem, hops, htm, hto⟩ := hin
  simp only at hT hat hbl hmv hem hops htm hto
  by_cases hl : at_ = code.length
  ·rw [if_pos hl] at hT
   subst hl
   by_cases hk3 : kind = 3
   ·rw [if_pos hk3] at hT
    obtain ⟨g0, g1⟩ := htm (by omega)
    have hg := Jtco g0 g1
    (simp (maxSteps := 1000000) [Jtc1, MFunc.av, RunZ.av])
    (refine Jty c0 (by rfl) (by rfl) ?_)
    (simp (maxSteps := 1000000) [List.getElem?_map, hbk, MBlock.row, hk3, hw4, intsD, g0, hg])
    refine hR _ _ (Jt42 _ _ rfl (by (exact wkvA)) ?_)
    rw [hT]; rfl
   ·rw [if_neg hk3] at hT
    have hk3b : (kind == 3) = false := by simpa using hk3
    by_cases hk2 : kind = 2
    ·obtain ⟨g0, g1⟩ := htm (by omega)
     have hg := Jtco g0 g1
     by_cases hz : gI regs ta = 0
     ·rw [if_pos ⟨hk2, hz⟩] at hT
      have he : ((els.toNat : Nat) : Int) = els := by omega
      (simp (maxSteps := 1000000) [Jtc1, MFunc.av, RunZ.av])
      (refine Jty c0 (by rfl) (by rfl) ?_)
      (simp (maxSteps := 1000000) [List.getElem?_map, hbk, MBlock.row, hk3, hk3b, hk2, hw4, intsD, g0, hg, hz])
      refine hR _ _ (Jt42 _ _ rfl (by (exact wkvA)) ?_)
      rw [hT]; simp [RunZ.av, AV.erase, intsD, he]
     ·rw [if_neg (fun h => hz h.2)] at hT
      have hzb := bne0 hz
      have he : ((to.toNat : Nat) : Int) = to := by omega
      (simp (maxSteps := 1000000) [Jtc1, MFunc.av, RunZ.av])
      (refine Jty c0 (by rfl) (by rfl) ?_)
      (simp (maxSteps := 1000000) [List.getElem?_map, hbk, MBlock.row, hk3, hk3b, hk2, hw4, intsD, g0, hg, hz, hzb])
      refine hR _ _ (Jt42 _ _ rfl (by (exact wkvA)) ?_)
      rw [hT]; simp [RunZ.av, AV.erase, intsD, he]
    ·rw [if_neg (fun h => hk2 h.1)] at hT
     have hk2b : (kind == 2) = false := by simpa using hk2
     have he : ((to.toNat : Nat) : Int) = to := by omega
     (simp (maxSteps := 1000000) [Jtc1, MFunc.av, RunZ.av])
     (refine Jty c0 (by rfl) (by rfl) ?_)
     (simp (maxSteps := 1000000) [List.getElem?_map, hbk, MBlock.row, hk3, hk3b, hk2, hk2b, hw4, intsD])
     refine hR _ _ (Jt42 _ _ rfl (by (exact wkvA)) ?_)
     rw [hT]; simp [RunZ.av, AV.erase, intsD, he]
  ·rw [if_neg hl] at hT
   have hcl : at_ < code.length := by omega
   have hci : code[at_]? = some code[at_] := by simp [hcl]
   obtain ⟨i, hie⟩ : ∃ i, i = code[at_] := ⟨_, rfl⟩
   rw [← hie] at hci
   rw [hci] at hT
   simp only at hT
   have himem : i ∈ code := List.mem_of_getElem? hci
   have hlb : ((at_ : Int) == (code.length : Int)) = false := by simp; omega
   have hw3 : IntKind.i64.wrap ((at_ : Int) + 1) = ((at_ + 1 : Nat) : Int) := Jtmv (by omega)
   by_cases h18 : i.op = 18
   ·rw [if_pos h18] at hT
    obtain ⟨⟨ld, ld0⟩, ls, ls0⟩ := hmv i himem h18
    have cr := Jtho A ⟨0, block, at_, value, regs, slots, trace, steps⟩ i.src ls0 ls
    obtain ⟨v, hv⟩ : ∃ v, v = readL ⟨0, block, at_, value, regs, slots, trace, steps⟩ i.src := ⟨_, rfl⟩
    rw [← hv] at cr hT
    simp only [RunZ.av] at cr
    obtain ⟨_, l1, d0, d1, d2⟩ := ld
    simp only at d0 d1 d2
    have hwd : IntKind.i64.wrap (i.dst.tdiv 2) = i.dst.tdiv 2 := wrap_i64 (by omega) (by have := Int.tdiv_eq_ediv_of_nonneg (a := i.dst) (b := 2) ld0; omega)
    by_cases hds : i.dst.tmod 2 = 1
    ·have d1 := d1 hds
     have hne : slots ≠ [] := by rintro rfl; simp at d1; omega
     have hsp := Jtjl (v := v) d0 d1
     (simp (maxSteps := 1000000) [Jtc1, MFunc.av, RunZ.av])
     refine Jt10 [] 4 (cS hne) (by decide) (by rfl) (by rfl) (by rfl) Jti7 (by rfl) (by rfl) ?_
     (simp (maxSteps := 1000000) [List.getElem?_map, hbk, MBlock.row, hl, hlb, hci, Mach.row, h18])
     (refine Jty cr (by rfl) (by rfl) ?_)
     (simp (maxSteps := 1000000) [hds, hwd, d0, d1, hw3, hw4, intsD])
     refine ⟨by rw [lenI]; omega, ?_⟩
     refine hR _ _ (Jt42 _ (.agg [AI 0, AI block, AI ((at_ + 1 : Nat) : Int), AI value, .d (.sl (regs.map intRow)), .d (.sl ((setI slots (i.dst.tdiv 2) v).map intRow)), .d (.sl (trace.map intRow)), AI ((steps + 1 : Nat) : Int)]) rfl ?_ ?_)
     ·exact Jt4o (.refl _ rfl) (Jt4n (b := 6) (by rw [← hsp]; simp [spl]) (by rw [Jtjm])) (.refl _ rfl) (.refl _ rfl) (.refl _ rfl) (.refl _ rfl) (.refl _ rfl) (.refl _ rfl)
     ·rw [hT]; unfold writeL; rw [if_pos hds]; rfl
    ·have hdsb : (i.dst.tmod 2 == 1) = false := by simpa using hds
     have d2 := d2 hds
     have hne : regs ≠ [] := by rintro rfl; simp at d2; omega
     have hsp := Jtjl (v := v) d0 d2
     (simp (maxSteps := 1000000) [Jtc1, MFunc.av, RunZ.av])
     refine Jt10 [] 4 (cR hne) (by decide) (by rfl) (by rfl) (by rfl) Jti7 (by rfl) (by rfl) ?_
     (simp (maxSteps := 1000000) [List.getElem?_map, hbk, MBlock.row, hl, hlb, hci, Mach.row, h18])
     (refine Jty cr (by rfl) (by rfl) ?_)
     (simp (maxSteps := 1000000) [hds, hdsb, hwd, d0, d2, hw3, hw4, intsD])
     refine ⟨by rw [lenI]; omega, ?_⟩
     refine hR _ _ (Jt42 _ (.agg [AI 0, AI block, AI ((at_ + 1 : Nat) : Int), AI value, .d (.sl ((setI regs (i.dst.tdiv 2) v).map intRow)), .d (.sl (slots.map intRow)), .d (.sl (trace.map intRow)), AI ((steps + 1 : Nat) : Int)]) rfl ?_ ?_)
     ·exact Jt4o (Jt4n (b := 6) (by rw [← hsp]; simp [spl]) (by rw [Jtjm])) (.refl _ rfl) (.refl _ rfl) (.refl _ rfl) (.refl _ rfl) (.refl _ rfl) (.refl _ rfl) (.refl _ rfl)
     ·rw [hT]; unfold writeL; rw [if_neg hds]; rfl
   rw [if_neg h18] at hT
   have h18b : (i.op == 18) = false := by simpa using h18
   by_cases h17 : i.op = 17
   ·rw [if_pos h17] at hT
    obtain ⟨g0, g1⟩ := hem i himem h17
    have hg := Jtco g0 g1
    by_cases htr : trace = []
    ·subst htr
     (simp (maxSteps := 1000000) [Jtc1, MFunc.av, RunZ.av])
     (refine Jty (cT0 rfl) (by rfl) (by rfl) ?_)
     (simp (maxSteps := 1000000) [List.getElem?_map, hbk, MBlock.row, hl, hlb, hci, Mach.row, h18, h18b, h17, hw4, hw3, intsD, g0, hg])
     refine Jt1a (by rfl) (by rfl) (by simp) (by decide) (by simp) (by simp) (fun h => by simp at h) (fun _ => ?_)
     (simp (maxSteps := 1000000) [hw3, hw4])
     refine hR _ _ (Jt42 _ _ rfl (by (exact wkvA)) ?_)
     rw [hT]; simp [RunZ.av, AV.erase, intsD, intRow]
    ·have hne2 : trace.map intRow ≠ [] := by simpa using htr
     (simp (maxSteps := 1000000) [Jtc1, MFunc.av, RunZ.av])
     refine Jt10 [] 4 (cT htr) (by decide) (by rfl) (by rfl) (by rfl) Jti7 (by rfl) (by rfl) ?_
     (simp (maxSteps := 1000000) [List.getElem?_map, hbk, MBlock.row, hl, hlb, hci, Mach.row, h18, h18b, h17, hw4, hw3, intsD, g0, hg])
     have htp : 0 < trace.length := List.length_pos_iff.2 htr
     have ht2 : trace.map intRow ++ [[D.int .i64 (gI regs i.a)]] = (trace ++ [gI regs i.a]).map intRow := by rw [List.map_append]; rfl
     refine Jt19 (b := 6) (rows := trace.map intRow) (ys := [[D.int .i64 (gI regs i.a)]]) (by rfl) (by rfl) (by simp) (Jtcl _) htp (by rfl) (by simp) (by decide) (by simp) (by simp; omega) (by simp; omega) ?_ ?_
     all_goals
      rw [ht2]
      obtain ⟨tN, htN⟩ : ∃ y, y = (trace ++ [gI regs i.a]).map intRow := ⟨_, rfl⟩
      rw [← htN]
      (simp (maxSteps := 1000000) [hw3, hw4])
      refine hR _ _ (Jt42 _ (.agg [AI 0, AI block, AI ((at_ + 1 : Nat) : Int), AI value, .d (.sl (regs.map intRow)), .d (.sl (slots.map intRow)), .d (.sl ((trace ++ [gI regs i.a]).map intRow)), AI ((steps + 1 : Nat) : Int)]) rfl ?_ ?_)
      ·exact Jt4o (.refl _ rfl) (.refl _ rfl) (Jt4n (by rw [← htN]; rfl) (by simp)) (.refl _ rfl) (.refl _ rfl) (.refl _ rfl) (.refl _ rfl) (.refl _ rfl)
      ·rw [hT]; rfl
   ·rw [if_neg h17] at hT
    have h17b : (i.op == 17) = false := by simpa using h17
    obtain ⟨⟨a0, a1⟩, ⟨b0, b1⟩, ⟨d0, d1⟩⟩ := hops i himem h18 h17
    have hga := Jtco a0 a1
    have hgb := Jtco b0 b1
    have hev := Jth3 A i.op (gI regs i.a) (gI regs i.b) i.imm
    unfold evM at hT
    obtain ⟨⟨v, ok⟩, hve⟩ : ∃ x, x = evalZ i.op (gI regs i.a) (gI regs i.b) i.imm := ⟨_, rfl⟩
    rw [← hve] at hT hev
    simp only at hT hev
    cases ok with
    | false =>
     simp only [Bool.false_eq_true, if_false] at hT
     (simp (maxSteps := 1000000) [Jtc1, MFunc.av, RunZ.av])
     (refine Jty c0 (by rfl) (by rfl) ?_)
     (simp (maxSteps := 1000000) [List.getElem?_map, hbk, MBlock.row, hl, hlb, hci, Mach.row, h18, h18b, h17, h17b, hw4, hw3, intsD, a0, hga, b0, hgb])
     (refine Jty hev (by rfl) (by rfl) ?_)
     (simp (maxSteps := 1000000) [])
     refine hR _ _ (Jt42 _ _ rfl (by (exact wkvA)) ?_)
     rw [hT]; rfl
    | true =>
     simp only [if_true] at hT
     have hrne : regs ≠ [] := by rintro rfl; simp at d1; omega
     (simp (maxSteps := 1000000) [Jtc1, MFunc.av, RunZ.av])
     refine Jt10 [] 4 (cR hrne) (by decide) (by rfl) (by rfl) (by rfl) Jti7 (by rfl) (by rfl) ?_
     (simp (maxSteps := 1000000) [List.getElem?_map, hbk, MBlock.row, hl, hlb, hci, Mach.row, h18, h18b, h17, h17b, hw4, hw3, intsD, a0, hga, b0, hgb])
     (refine Jty hev (by rfl) (by rfl) ?_)
     (simp (maxSteps := 1000000) [d0, d1, hw3, hw4])
     have hsp := Jtjl (v := v) d0 d1
     refine ⟨by rw [lenI]; omega, ?_⟩
     refine hR _ _ (Jt42 _ (.agg [AI 0, AI block, AI ((at_ + 1 : Nat) : Int), AI value, .d (.sl ((setI regs i.d v).map intRow)), .d (.sl (slots.map intRow)), .d (.sl (trace.map intRow)), AI ((steps + 1 : Nat) : Int)]) rfl ?_ ?_)
     ·exact Jt4o (Jt4n (b := 6) (by rw [← hsp]; simp [spl]) (by rw [Jtjm])) (.refl _ rfl) (.refl _ rfl) (.refl _ rfl) (.refl _ rfl) (.refl _ rfl) (.refl _ rfl) (.refl _ rfl)
     ·rw [hT]; rfl
 ·rw [if_pos hst] at hT
  have hstb : (state != 0) = true := by simpa using hst
  (simp (maxSteps := 1000000) [Jtc1, MFunc.av, RunZ.av])
  (refine Jty c0 (by rfl) (by rfl) ?_)
  (simp (maxSteps := 1000000) [hstb, intsD])
  refine hR _ _ (Jt42 _ _ rfl (by (exact wkvA)) ?_)
  rw [hT]; rfl
end
end Go.AE
set_option maxRecDepth 4000
namespace Go.AE
open Go
def stepBI (i : Instr) (r : RunZ) : RunZ :=
 if i.op = 17 then { r with trace := r.trace ++ [gI r.regs i.a], at_ := r.at_ + 1, steps := r.steps + 1 }
 else if (evI i r.regs).2 = true then { r with regs := r.regs.set i.d.toNat (evI i r.regs).1, at_ := r.at_ + 1, steps := r.steps + 1 }
 else { r with state := 2 }
def Jtkz (i : Mach) (r : RunZ) : RunZ :=
 if i.op = 18 then { writeL r i.dst (readL r i.src) with at_ := r.at_ + 1, steps := r.steps + 1 }
 else if i.op = 17 then { r with trace := r.trace ++ [gI r.regs i.a], at_ := r.at_ + 1, steps := r.steps + 1 }
 else if (evM i r.regs).2 = true then { r with regs := r.regs.set i.d.toNat (evM i r.regs).1, at_ := r.at_ + 1, steps := r.steps + 1 }
 else { r with state := 2 }
def foldB : List Instr → RunZ → RunZ
 | [], r => r
 | i :: l, r => if r.state ≠ 0 then r else foldB l (stepBI i r)
def foldBM : List Mach → RunZ → RunZ
 | [], r => r
 | i :: l, r => if r.state ≠ 0 then r else foldBM l (Jtkz i r)
def itS (f : Func) : Nat → RunZ → RunZ
 | 0, r => r
 | k + 1, r => stepZ f (itS f k r)
def itM (f : MFunc) : Nat → RunZ → RunZ
 | 0, r => r
 | k + 1, r => stepZM f (itM f k r)
theorem itS_in (f : Func) : ∀ (k : Nat) (r : RunZ), itS f (k + 1) r = itS f k (stepZ f r) := by
 intro k
 induction k with
 | zero => intro r; rfl
 | succ k ih => intro r; show stepZ f (itS f (k + 1) r) = stepZ f (itS f k (stepZ f r)); rw [ih]
theorem itM_in (f : MFunc) : ∀ (k : Nat) (r : RunZ), itM f (k + 1) r = itM f k (stepZM f r) := by
 intro k
 induction k with
 | zero => intro r; rfl
 | succ k ih => intro r; show stepZM f (itM f (k + 1) r) = stepZM f (itM f k (stepZM f r)); rw [ih]
theorem Jtl5 {f : Func} {r : RunZ} (h : r.state ≠ 0) : stepZ f r = r := by unfold stepZ; rw [if_pos h]
theorem Jtl3 {f : MFunc} {r : RunZ} (h : r.state ≠ 0) : stepZM f r = r := by unfold stepZM; rw [if_pos h]
theorem Jtcz {f : Func} {r : RunZ} (h : r.state ≠ 0) : ∀ k, itS f k r = r := by
 intro k
 induction k with
 | zero => rfl
 | succ k ih => show stepZ f (itS f k r) = r; rw [ih, Jtl5 h]
theorem Jtcw {f : MFunc} {r : RunZ} (h : r.state ≠ 0) : ∀ k, itM f k r = r := by
 intro k
 induction k with
 | zero => rfl
 | succ k ih => show stepZM f (itM f k r) = r; rw [ih, Jtl3 h]
theorem Jt97 {l : List Instr} {r : RunZ} (h : r.state ≠ 0) : foldB l r = r := by
 cases l with
 | nil => rfl
 | cons i l => unfold foldB; rw [if_pos h]
theorem Jt93 {l : List Mach} {r : RunZ} (h : r.state ≠ 0) : foldBM l r = r := by
 cases l with
 | nil => rfl
 | cons i l => unfold foldBM; rw [if_pos h]
theorem Jt96 (a b : List Instr) (r : RunZ) : foldB (a ++ b) r = foldB b (foldB a r) := by
 induction a generalizing r with
 | nil => rfl
 | cons i a ih =>
  show (if r.state ≠ 0 then r else foldB (a ++ b) (stepBI i r)) = foldB b (if r.state ≠ 0 then r else foldB a (stepBI i r))
  by_cases h : r.state ≠ 0
  ·rw [if_pos h, if_pos h, Jt97 h]
  ·rw [if_neg h, if_neg h, ih]
theorem Jt92 (a b : List Mach) (r : RunZ) : foldBM (a ++ b) r = foldBM b (foldBM a r) := by
 induction a generalizing r with
 | nil => rfl
 | cons i a ih =>
  show (if r.state ≠ 0 then r else foldBM (a ++ b) (Jtkz i r)) = foldBM b (if r.state ≠ 0 then r else foldBM a (Jtkz i r))
  by_cases h : r.state ≠ 0
  ·rw [if_pos h, if_pos h, Jt93 h]
  ·rw [if_neg h, if_neg h, ih]
theorem Jtky (i : Instr) (r : RunZ) : (stepBI i r).block = r.block ∧ (stepBI i r).value = r.value ∧ ((stepBI i r).state = 0 → (stepBI i r).at_ = r.at_ + 1) ∧ ((stepBI i r).state = r.state ∨ (stepBI i r).state = 2) := by
 unfold stepBI
 split
 ·exact ⟨rfl, rfl, fun _ => rfl, .inl rfl⟩
 ·split
  ·exact ⟨rfl, rfl, fun _ => rfl, .inl rfl⟩
  ·exact ⟨rfl, rfl, fun h => (by cases h), .inr rfl⟩
theorem Jtl0 (i : Mach) (r : RunZ) : (Jtkz i r).block = r.block ∧ (Jtkz i r).value = r.value ∧ ((Jtkz i r).state = 0 → (Jtkz i r).at_ = r.at_ + 1) ∧ ((Jtkz i r).state = r.state ∨ (Jtkz i r).state = 2) := by
 have hw : (writeL r i.dst (readL r i.src)).value = r.value := by unfold writeL; split <;> rfl
 obtain ⟨w1, w2, w3, w4, w5⟩ := Jtmw r i.dst (readL r i.src)
 unfold Jtkz
 split
 ·exact ⟨w3, hw, fun _ => rfl, .inl w4⟩
 ·split
  ·exact ⟨rfl, rfl, fun _ => rfl, .inl rfl⟩
  ·split
   ·exact ⟨rfl, rfl, fun _ => rfl, .inl rfl⟩
   ·exact ⟨rfl, rfl, fun h => (by cases h), .inr rfl⟩
theorem Jt98 : ∀ (l : List Instr) (r : RunZ), (foldB l r).block = r.block ∧ (foldB l r).value = r.value ∧ ((foldB l r).state = 0 → (foldB l r).at_ = r.at_ + l.length) := by
 intro l
 induction l with
 | nil => intro r; exact ⟨rfl, rfl, fun _ => rfl⟩
 | cons i l ih =>
  intro r
  by_cases h : r.state ≠ 0
  ·rw [Jt97 h]; exact ⟨rfl, rfl, fun h0 => absurd h0 h⟩
  ·have e : foldB (i :: l) r = foldB l (stepBI i r) := by show (if r.state ≠ 0 then r else foldB l (stepBI i r)) = _; rw [if_neg h]
   rw [e]
   obtain ⟨k1, k2, k3⟩ := ih (stepBI i r)
   obtain ⟨s1, s2, s3, s4⟩ := Jtky i r
   refine ⟨by rw [k1, s1], by rw [k2, s2], fun h0 => ?_⟩
   have hs : (stepBI i r).state = 0 := by
    rcases Decidable.em ((stepBI i r).state = 0) with h' | h'
    ·exact h'
    ·rw [Jt97 h'] at h0; exact absurd h0 h'
   rw [k3 h0, s3 hs, List.length_cons]; omega
theorem Jt94 : ∀ (l : List Mach) (r : RunZ), (foldBM l r).block = r.block ∧ (foldBM l r).value = r.value ∧ ((foldBM l r).state = 0 → (foldBM l r).at_ = r.at_ + l.length) := by
 intro l
 induction l with
 | nil => intro r; exact ⟨rfl, rfl, fun _ => rfl⟩
 | cons i l ih =>
  intro r
  by_cases h : r.state ≠ 0
  ·rw [Jt93 h]; exact ⟨rfl, rfl, fun h0 => absurd h0 h⟩
  ·have e : foldBM (i :: l) r = foldBM l (Jtkz i r) := by show (if r.state ≠ 0 then r else foldBM l (Jtkz i r)) = _; rw [if_neg h]
   rw [e]
   obtain ⟨k1, k2, k3⟩ := ih (Jtkz i r)
   obtain ⟨s1, s2, s3, s4⟩ := Jtl0 i r
   refine ⟨by rw [k1, s1], by rw [k2, s2], fun h0 => ?_⟩
   have hs : (Jtkz i r).state = 0 := by
    rcases Decidable.em ((Jtkz i r).state = 0) with h' | h'
    ·exact h'
    ·rw [Jt93 h'] at h0; exact absurd h0 h'
   rw [k3 h0, s3 hs, List.length_cons]; omega
theorem Jtd1 {f : Func} {b : Block} : ∀ {seg pre post : List Instr} {r : RunZ}, f.blocks[r.block]? = some b → b.code = pre ++ seg ++ post → r.at_ = pre.length → itS f seg.length r = foldB seg r := by
 intro seg
 induction seg with
 | nil => intro pre post r _ _ _; rfl
 | cons i l ih =>
  intro pre post r hb hc ha
  by_cases h : r.state ≠ 0
  ·rw [Jtcz h, Jt97 h]
  ·have hx : b.code[r.at_]? = some i := by rw [hc, ha]; simp
   have hl := (List.getElem?_eq_some_iff.1 hx).1
   have e : stepZ f r = stepBI i r := by
    unfold stepZ stepB; rw [if_neg h, hb]; simp only; rw [if_neg (by omega), hx]; rfl
   have e2 : foldB (i :: l) r = foldB l (stepBI i r) := by show (if r.state ≠ 0 then r else foldB l (stepBI i r)) = _; rw [if_neg h]
   rw [List.length_cons, itS_in, e, e2]
   obtain ⟨s1, s2, s3, s4⟩ := Jtky i r
   by_cases h2 : (stepBI i r).state = 0
   ·exact ih (pre := pre ++ [i]) (post := post) (by rw [s1]; exact hb) (by rw [hc]; simp) (by rw [s3 h2, ha]; simp)
   ·rw [Jtcz h2, Jt97 h2]
theorem Jtcy {f : MFunc} {b : MBlock} : ∀ {seg pre post : List Mach} {r : RunZ}, f.blocks[r.block]? = some b → b.code = pre ++ seg ++ post → r.at_ = pre.length → itM f seg.length r = foldBM seg r := by
 intro seg
 induction seg with
 | nil => intro pre post r _ _ _; rfl
 | cons i l ih =>
  intro pre post r hb hc ha
  by_cases h : r.state ≠ 0
  ·rw [Jtcw h, Jt93 h]
  ·have hx : b.code[r.at_]? = some i := by rw [hc, ha]; simp
   have hl := (List.getElem?_eq_some_iff.1 hx).1
   have e : stepZM f r = Jtkz i r := by
    unfold stepZM stepBM; rw [if_neg h, hb]; simp only; rw [if_neg (by omega), hx]; rfl
   have e2 : foldBM (i :: l) r = foldBM l (Jtkz i r) := by show (if r.state ≠ 0 then r else foldBM l (Jtkz i r)) = _; rw [if_neg h]
   rw [List.length_cons, itM_in, e, e2]
   obtain ⟨s1, s2, s3, s4⟩ := Jtl0 i r
   by_cases h2 : (Jtkz i r).state = 0
   ·exact ih (pre := pre ++ [i]) (post := post) (by rw [s1]; exact hb) (by rw [hc]; simp) (by rw [s3 h2, ha]; simp)
   ·rw [Jtcw h2, Jt93 h2]
theorem Jt86 {op a a' b imm : Int} (h : usesA op = false) (h17 : op ≠ 17) : evalZ op a b imm = evalZ op a' b imm := by
 have hA : ¬ (2 ≤ op ∧ op ≤ 17) := by
  intro hc
  rw [← Bool.not_eq_true] at h
  exact h (by simp only [usesA, decide_eq_true_eq]; exact hc)
 unfold evalZ
 by_cases h1 : op = 1
 ·rw [if_pos h1, if_pos h1]
 ·iterate 2 rw [if_neg h1, if_neg (by omega), if_neg (by omega), if_neg (by omega), if_neg (by omega), if_neg (by omega), if_neg (by omega), if_neg (by omega), if_neg (by omega), if_neg (by omega), if_neg (by omega), if_neg (by omega), if_neg (by omega), if_neg (by omega), if_neg (by omega), if_neg (by omega)]
theorem Jt87 {op a b b' imm : Int} (h : usesB op = false) : evalZ op a b imm = evalZ op a b' imm := by
 have hB : ¬ (5 ≤ op ∧ op < 17) := by
  intro hc
  rw [← Bool.not_eq_true] at h
  exact h (by simp only [usesB, decide_eq_true_eq]; omega)
 unfold evalZ
 by_cases h1 : op = 1
 ·rw [if_pos h1, if_pos h1]
 by_cases h2 : op = 2
 ·rw [if_neg h1, if_pos h2, if_neg h1, if_pos h2]
 by_cases h3 : op = 3
 ·rw [if_neg h1, if_neg h2, if_pos h3, if_neg h1, if_neg h2, if_pos h3]
 by_cases h4 : op = 4
 ·rw [if_neg h1, if_neg h2, if_neg h3, if_pos h4, if_neg h1, if_neg h2, if_neg h3, if_pos h4]
 ·iterate 2 rw [if_neg h1, if_neg h2, if_neg h3, if_neg h4, if_neg (by omega), if_neg (by omega), if_neg (by omega), if_neg (by omega), if_neg (by omega), if_neg (by omega), if_neg (by omega), if_neg (by omega), if_neg (by omega), if_neg (by omega), if_neg (by omega), if_neg (by omega)]
theorem Jtkx {i : Instr} {r : RunZ} (hc : i.op = 2) : stepBI i r = stepI i r := by
 rw [Jtl7 hc]
 unfold stepBI
 have hz : evI i r.regs = (gI r.regs i.a, true) := by unfold evI evalZ; rw [hc, if_neg (by decide), if_pos rfl]
 rw [if_neg (by rw [hc]; decide), hz, if_pos rfl]; rfl
theorem Jtl1 {x : Mach} {m : RunZ} (hc : x.op = 18) : Jtkz x m = stepMI x m := by
 unfold Jtkz stepMI; rw [if_pos hc, if_pos hc]
theorem Jt95 : ∀ {l : List Mach} {m : RunZ}, goodM l m → (∀ x ∈ l, x.op = 18) → foldBM l m = foldM l m := by
 intro l
 induction l with
 | nil => intro m _ _; rfl
 | cons x l ih =>
  intro m hg hx
  show (if m.state ≠ 0 then m else foldBM l (Jtkz x m)) = foldM l (stepMI x m)
  rw [if_neg (fun h => h hg.1), Jtl1 (hx x (by simp))]
  exact ih hg.2 fun y hy => hx y (by simp [hy])
section
variable {n n1 n2 : Nat} {m : RunZ}
theorem Inv.copiesB {most at_ : Int} : ∀ {l : List Instr} {s s' : CS} {r : RunZ}, copyC most at_ l s = (s', none) → (∀ i ∈ l, i.op = 2 ∧ (0 ≤ i.d ∧ i.d < n) ∧ 0 ≤ i.a) → Inv n n1 n2 s.set r m → Inv n n1 n2 s'.set (foldB l r) m := by
 intro l
 induction l with
 | nil => intro s s' r h _ hi; unfold copyC at h; injection h with h; subst h; exact hi
 | cons i l ih =>
  intro s s' r h hl hi
  unfold copyC at h
  obtain ⟨_, h2⟩ := Jtls h
  obtain ⟨x1, x2, x3⟩ := hl i (by simp)
  have hi1 := hi.copy x1 x2 x3
  have e : foldB (i :: l) r = foldB l (stepI i r) := by
   show (if r.state ≠ 0 then r else foldB l (stepBI i r)) = _
   rw [if_neg (fun h => h hi.run), Jtkx x1]
  rw [e]
  exact ih h2 (fun y hy => hl y (by simp [hy])) hi1
theorem Inv.instrB {r : RunZ} {most at_ : Int} {s s' : CS} {i : Instr} {x : Mach} (h : Inv n n1 n2 s.set r m) (hC : instrC most s i x at_ = (s', none)) (hs : sameI i x = true) (hop : 1 ≤ i.op ∧ i.op ≤ 17) (hd0 : i.op ≠ 17 → 0 ≤ i.d ∧ i.d < n) (ok : OkX m x) (hn1 : n1 ≤ 1000000) :
  (stepBI i r).state = 2 ∨ Inv n n1 n2 s'.set (stepBI i r) (Jtkz x m) := by
 obtain ⟨uA, uB, hset⟩ := Jtcj hC
 simp only [sameI, Bool.and_eq_true, beq_iff_eq, bne_iff_ne, ne_eq] at hs
 obtain ⟨⟨⟨so, si⟩, s2⟩, s18⟩ := hs
 have x18 : ¬ x.op = 18 := by rw [← so]; exact s18
 by_cases h17 : i.op = 17
 ·have x17 : x.op = 17 := by rw [← so]; exact h17
  have xa := ok.em x17
  rw [h.len1] at xa
  have va : gI m.regs x.a = gI r.regs i.a := by
   have := h.val _ (uA (by simp [usesA, h17]))
   rw [Jtgv xa.1 (by omega)] at this; exact this.symm
  have e1 : stepBI i r = { r with trace := r.trace ++ [gI r.regs i.a], at_ := r.at_ + 1, steps := r.steps + 1 } := by unfold stepBI; rw [if_pos h17]
  have e2 : Jtkz x m = { m with trace := m.trace ++ [gI r.regs i.a], at_ := m.at_ + 1, steps := m.steps + 1 } := by unfold Jtkz; rw [if_neg x18, if_pos x17, va]
  have hD : ¬ usesD i.op = true := by simp [usesD, h17]
  rw [if_neg hD] at hset
  right
  rw [e1, e2, hset]
  exact ⟨h.pos, h.val, by show m.trace ++ _ = r.trace ++ _; rw [h.trace], h.block, h.run, h.runm, h.len, h.len1, h.len2⟩
 ·have hd := hd0 h17
  have x17 : ¬ x.op = 17 := by rw [← so]; exact h17
  obtain ⟨xa, xb, xd⟩ := ok.op x18 x17
  rw [h.len1] at xa xb xd
  have e : evM x m.regs = evI i r.regs := by
   unfold evM evI
   rw [← so, ← si]
   have ea : evalZ i.op (gI m.regs x.a) (gI m.regs x.b) i.imm = evalZ i.op (gI r.regs i.a) (gI m.regs x.b) i.imm := by
    cases hA : usesA i.op with
    | true =>
     have := h.val _ (uA hA)
     rw [Jtgv xa.1 (by omega)] at this; rw [this]
    | false => exact Jt86 hA h17
   rw [ea]
   cases hB : usesB i.op with
   | true =>
    have := h.val _ (uB hB)
    rw [Jtgv xb.1 (by omega)] at this; rw [this]
   | false => exact Jt87 hB
  obtain ⟨z, hz⟩ : ∃ z, z = evI i r.regs := ⟨_, rfl⟩
  rw [← hz] at e
  by_cases hok : z.2 = true
  ·right
   have hD : usesD i.op = true := by simp only [usesD, decide_eq_true_eq]; omega
   rw [if_pos hD] at hset
   have e1 : stepBI i r = { r with regs := setI r.regs i.d z.1, at_ := r.at_ + 1, steps := r.steps + 1 } := by unfold stepBI; rw [← hz, if_neg h17, if_pos hok]; rfl
   have e2 : Jtkz x m = { m with regs := setI m.regs x.d z.1, at_ := m.at_ + 1, steps := m.steps + 1 } := by unfold Jtkz; rw [if_neg x18, if_neg x17, e, if_pos hok]; rfl
   have hl : i.d < (r.regs.length : Int) := by rw [h.len]; exact hd.2
   have hl2 : x.d < (m.regs.length : Int) := by rw [h.len1]; exact xd.2
   have rz := Jti1 xd.1 (by omega)
   rw [e1, e2, hset]
   refine ⟨fun q hq => ?_, fun q hq => ?_, h.trace, h.block, h.run, h.runm, by show (setI _ _ _).length = n; rw [Jtjm]; exact h.len, by show (setI _ _ _).length = n1; rw [Jtjm]; exact h.len1, h.len2⟩
   ·rcases Jtep.1 hq with rfl | ⟨k1, _⟩
    ·exact ⟨hd.1, by show 0 ≤ regZ x.d; rw [rz]; omega⟩
    ·exact h.pos q k1
   ·rcases Jtep.1 hq with rfl | ⟨k1, k2, k3⟩
    ·show gI (setI r.regs i.d z.1) i.d = readL _ (regZ x.d)
     rw [Jtgv xd.1 (by omega), Jt9d hd.1 hl]
     exact (Jt9d xd.1 hl2).symm
    ·have p := h.pos q k1
     show gI (setI r.regs i.d z.1) q.v = readL { m with regs := setI m.regs x.d z.1, at_ := m.at_ + 1, steps := m.steps + 1 } q.l
     rw [Jt9c hd.1 p.1 (fun h => k2 h.symm), h.val q k1]
     unfold readL
     by_cases hp : q.l.tmod 2 = 1
     ·rw [if_pos hp, if_pos hp]
     ·rw [if_neg hp, if_neg hp]
      refine (Jt9c xd.1 (Jtlo p.2) fun hne => k3 ?_).symm
      rw [rz]
      have m1 := Int.tmod_eq_emod_of_nonneg (b := 2) p.2
      have d1 := Int.tdiv_eq_ediv_of_nonneg (b := 2) p.2
      omega
  ·left
   unfold stepBI; rw [← hz, if_neg h17, if_neg hok]
end
end Go.AE
set_option maxRecDepth 4000
namespace Go.AE
open Go
theorem Jt7t {α : Type} {l : List α} {i j : Nat} (h : i ≤ j) : l.drop i = (l.take j).drop i ++ l.drop j := by
 have : l.drop i = (l.take j ++ l.drop j).drop i := by rw [List.take_append_drop]
 rw [this, List.drop_append]
 rcases Nat.lt_or_ge j l.length with h2 | h2
 ·have e : i - (l.take j).length = 0 := by rw [List.length_take]; omega
  rw [e, List.drop_zero]
 ·rw [List.drop_eq_nil_of_le h2, List.drop_nil]
theorem Jtiu {most : Int} {b : List Instr} {k : List Mach} {row : ARow} {s s' : CS} (h : rowC most b k row s = (s', none)) :
  ∃ s1 s2, copyC most row.mf ((b.take row.ct).drop row.cf) s = (s1, none) ∧ moveC most row.mf ((k.take row.mt).drop row.mf) s1 = (s2, none) ∧ lastC most b k row s2 = (s', none) := by
 unfold rowC at h
 obtain ⟨h1, h2⟩ := Jtls h
 obtain ⟨h3, h4⟩ := Jtls h2
 exact ⟨_, _, by rw [← h1], by rw [← h3], h4⟩
theorem Jtj8 {n n1 n2 : Nat} {most : Int} {code : List Instr} {mach : List Mach} (hsrc : ∀ i ∈ code, (1 ≤ i.op ∧ i.op ≤ 17) ∧ InOk n i) (hmac : ∀ x ∈ mach, 0 ≤ x.dst ∧ ∀ m : RunZ, m.regs.length = n1 → m.slots.length = n2 → OkX m x) (hn1 : n1 ≤ 1000000)
  {i k : Nat} {rows : List ARow} (hR : RowsF code mach i k rows) : ∀ {s s' : CS} {r m : RunZ}, rowsC most code mach rows s = (s', none) → Inv n n1 n2 s.set r m →
   (foldB (code.drop i) r).state = 2 ∨ Inv n n1 n2 s'.set (foldB (code.drop i) r) (foldBM (mach.drop k) m) := by
 have copies : ∀ {i : Nat} {at_ : Int} {s s' : CS} {r m : RunZ}, copyC most at_ ((code.take (skipW isCopy code i)).drop i) s = (s', none) → Inv n n1 n2 s.set r m → Inv n n1 n2 s'.set (foldB ((code.take (skipW isCopy code i)).drop i) r) m := fun {i at_ s s' r m} h hi => by
  refine hi.copiesB h fun x hx => ?_
  obtain ⟨q1, q2⟩ := Jtjx x hx
  have x2 : x.op = 2 := by simpa [isCopy] using q1
  have ok := (hsrc x q2).2
  have a := (ok.a (by simp [usesA, x2])).1
  have d := (ok.d (by simp [usesD, x2])).1
  exact ⟨x2, d, a.1⟩
 have moves : ∀ {k j : Nat} {s s' : CS} {r m : RunZ}, moveC most j ((mach.take (skipW isMove mach k)).drop k) s = (s', none) → Inv n n1 n2 s.set r m → Inv n n1 n2 s'.set r (foldBM ((mach.take (skipW isMove mach k)).drop k) m) := fun {k j s s' r m} h hi => by
  have hm : ∀ x ∈ (mach.take (skipW isMove mach k)).drop k, x.op = 18 ∧ x ∈ mach := fun x hx => by
   obtain ⟨q1, q2⟩ := Jtjx x hx
   exact ⟨by simpa [isMove] using q1, q2⟩
  obtain ⟨g1, g2, g3, g4⟩ := Inv.moves (n := n) (n1 := n1) (n2 := n2) (r := r) (ok := fun x => x.op = 18 ∧ x ∈ mach) (fun x hx => ⟨hx.1, (hmac x hx.2).1, (hmac x hx.2).2⟩) h hm hi
  rw [Jt95 g1 fun x hx => (hm x hx).1]
  exact g2
 induction hR with
 | @last i k h1 h2 =>
  intro s s' r m h hi
  unfold rowsC at h
  obtain ⟨h3, h4⟩ := Jtls h
  unfold rowsC at h4
  injection h4 with h4
  obtain ⟨s1, s2, c1, c2, c3⟩ := Jtiu (s' := s') (by rw [← h3, ← h4])
  unfold lastC at c3
  rw [if_neg (by simp only; omega)] at c3
  injection c3 with c3
  right
  rw [Jt7t (l := code) (Jtju isCopy code i), Jt7t (l := mach) (Jtju isMove mach k), h1, h2, List.drop_length, List.drop_length, List.append_nil, List.append_nil]
  have i1 := copies c1 hi
  have i2 := moves c2 i1
  rw [h1] at i2
  rw [h2] at i2
  rw [← c3]
  exact i2
 | @next i k x y rest h1 h2 h3 h4 ih =>
  intro s s' r m h hi
  unfold rowsC at h
  obtain ⟨h5, h6⟩ := Jtls h
  obtain ⟨t, ht⟩ : ∃ t, t = (rowC most code mach ⟨i, skipW isCopy code i, k, skipW isMove mach k, skipW isCopy code i, skipW isMove mach k⟩ s).1 := ⟨_, rfl⟩
  rw [← ht] at h6
  obtain ⟨s1, s2, c1, c2, c3⟩ := Jtiu (s' := t) (by rw [← h5, ht])
  have i1 := copies c1 hi
  have i2 := moves c2 i1
  unfold lastC at c3
  rw [if_pos (by simp only; omega)] at c3
  simp only [Int.toNat_natCast, h1, h2] at c3
  have lx := (List.getElem?_eq_some_iff.1 h1).1
  have ly := (List.getElem?_eq_some_iff.1 h2).1
  have e1 : code.drop i = (code.take (skipW isCopy code i)).drop i ++ x :: code.drop (skipW isCopy code i + 1) := by
   rw [Jt7t (l := code) (Jtju isCopy code i), List.drop_eq_getElem_cons lx, (List.getElem?_eq_some_iff.1 h1).2]
  have e2 : mach.drop k = (mach.take (skipW isMove mach k)).drop k ++ y :: mach.drop (skipW isMove mach k + 1) := by
   rw [Jt7t (l := mach) (Jtju isMove mach k), List.drop_eq_getElem_cons ly, (List.getElem?_eq_some_iff.1 h2).2]
  rw [e1, e2, Jt96, Jt92]
  generalize foldB ((code.take (skipW isCopy code i)).drop i) r = r1 at i2
  generalize foldBM ((mach.take (skipW isMove mach k)).drop k) m = m1 at i2
  have f1 : foldB (x :: code.drop (skipW isCopy code i + 1)) r1 = foldB (code.drop (skipW isCopy code i + 1)) (stepBI x r1) := by
   show (if r1.state ≠ 0 then r1 else _) = _; rw [if_neg (fun h => h i2.run)]
  have f2 : foldBM (y :: mach.drop (skipW isMove mach k + 1)) m1 = foldBM (mach.drop (skipW isMove mach k + 1)) (Jtkz y m1) := by
   show (if m1.state ≠ 0 then m1 else _) = _; rw [if_neg (fun h => h i2.runm)]
  rw [f1, f2]
  obtain ⟨hop, ok⟩ := hsrc x (List.mem_of_getElem? h1)
  have okx := (hmac y (List.mem_of_getElem? h2)).2 m1 i2.len1 i2.len2
  rcases i2.instrB c3 h3 hop (fun h17 => (ok.d (by simp only [usesD, decide_eq_true_eq]; omega)).1) okx hn1 with e | i3
  ·left; rw [Jt97 (by rw [e]; decide)]; exact e
  ·exact ih h6 i3
theorem Jt6r {b : Block} {m : MBlock} {l : List Pair} {most : Int} (h : (checkZ b m l most).err = 0) :
  ∃ s', RowsF b.code m.code 0 0 (alignZ b.code m.code).1 ∧ termsZ b.term m.term = true ∧ runC most b m (alignZ b.code m.code).1 ⟨makeP l, 0, l.length⟩ = (s', none) ∧ (checkZ b m l most).out = s'.set := by
 obtain ⟨a1, a2, a3⟩ := Jt52 b.code m.code
 unfold checkZ at h ⊢
 split at h
 ·cases h
 rename_i h1
 rw [if_neg h1]
 by_cases h2 : (if (alignZ b.code m.code).2.2 = 0 ∧ termsZ b.term m.term = false then 20 else (alignZ b.code m.code).2.2) ≠ 0
 ·simp only [if_pos h2] at h; exact absurd h h2
 ·simp only [if_neg h2] at h ⊢
  have h3 : (alignZ b.code m.code).2.2 = 0 ∧ termsZ b.term m.term = true := by
   split at h2
   ·exact absurd (by decide) h2
   ·rename_i h4
    have e : (alignZ b.code m.code).2.2 = 0 := by simpa using h2
    refine ⟨e, ?_⟩
    cases ht : termsZ b.term m.term with
    | true => rfl
    | false => exact absurd ⟨e, ht⟩ h4
  have hb := Jtj9 (most := most) (b := b) (m := m) (rs := (alignZ b.code m.code).1) (s := ⟨makeP l, 0, l.length⟩) (Jted l) a1
  generalize runC most b m (alignZ b.code m.code).1 ⟨makeP l, 0, l.length⟩ = r at hb h ⊢
  obtain ⟨t, e⟩ := r
  cases e with
  | none => exact ⟨t, Jt53 h3.1, h3.2, rfl, by simp [runE]⟩
  | some e => exact absurd h (hb.fail e rfl).1
theorem Jt5t {n n1 n2 : Nat} {b : Block} {k : MBlock} {l : List Pair} {f : Func} {g : MFunc} {r m : RunZ} (herr : (checkZ b k l 1000000).err = 0) (hb : f.blocks[r.block]? = some b) (hk : g.blocks[m.block]? = some k) (hra : r.at_ = 0) (hma : m.at_ = 0) (hv : m.value = r.value)
  (hsrc : ∀ i ∈ b.code, (1 ≤ i.op ∧ i.op ≤ 17) ∧ InOk n i) (hmac : ∀ x ∈ k.code, 0 ≤ x.dst ∧ ∀ m : RunZ, m.regs.length = n1 → m.slots.length = n2 → OkX m x) (hn1 : n1 ≤ 1000000) (st : OkT b.term n f.blocks.length) (mt : OkT k.term n1 g.blocks.length) (hi : Inv n n1 n2 (makeP l) r m) :
  (itS f (b.code.length + 1) r).state = 2 ∨ ((itM g (k.code.length + 1) m).state = (itS f (b.code.length + 1) r).state ∧ (itM g (k.code.length + 1) m).block = (itS f (b.code.length + 1) r).block ∧ (itM g (k.code.length + 1) m).value = (itS f (b.code.length + 1) r).value ∧
   (itM g (k.code.length + 1) m).trace = (itS f (b.code.length + 1) r).trace ∧ ∀ q ∈ (checkZ b k l 1000000).out, gI (itS f (b.code.length + 1) r).regs q.v = readL (itM g (k.code.length + 1) m) q.l) := by
 obtain ⟨s', hR, ht, hC, hout⟩ := Jt6r herr
 have e1 : itS f b.code.length r = foldB b.code r := Jtd1 (pre := []) (post := []) hb (by simp) hra
 have e2 : itM g k.code.length m = foldBM k.code m := Jtcy (pre := []) (post := []) hk (by simp) hma
 have e3 : itS f (b.code.length + 1) r = stepZ f (foldB b.code r) := by rw [← e1]; rfl
 have e4 : itM g (k.code.length + 1) m = stepZM g (foldBM k.code m) := by rw [← e2]; rfl
 rw [e3, e4, hout]
 unfold runC at hC
 obtain ⟨h1, h2⟩ := Jtls hC
 obtain ⟨s1, hs1⟩ : ∃ s1, s1 = (rowsC 1000000 b.code k.code (alignZ b.code k.code).1 ⟨makeP l, 0, l.length⟩).1 := ⟨_, rfl⟩
 rw [← hs1] at h2
 have h3 := Jtj8 (most := 1000000) hsrc hmac hn1 hR (s := ⟨makeP l, 0, l.length⟩) (s' := s1) (r := r) (m := m) (by rw [← h1, hs1]) hi
 rw [List.drop_zero, List.drop_zero] at h3
 obtain ⟨kb, kv, ka⟩ := Jt98 b.code r
 obtain ⟨mb, mv, ma⟩ := Jt94 k.code m
 rcases h3 with h3 | h3
 ·left; rw [Jtl5 (by rw [h3]; decide)]; exact h3
 right
 generalize foldB b.code r = r1 at h3 kb kv ka
 generalize foldBM k.code m = m1 at h3 mb mv ma
 have ra := ka h3.run
 have am := ma h3.runm
 rw [hra, Nat.zero_add] at ra
 rw [hma, Nat.zero_add] at am
 have S1 : stepZ f r1 = stepB b r1 := by unfold stepZ; rw [if_neg (fun h => h h3.run), kb, hb]
 have S2 : stepZM g m1 = stepBM k m1 := by unfold stepZM; rw [if_neg (fun h => h h3.runm), mb, hk]
 rw [S1, S2]
 unfold stepB stepBM
 rw [if_pos ra, if_pos am]
 simp only [termsZ, Bool.and_eq_true, beq_iff_eq] at ht
 obtain ⟨⟨t1, t2⟩, t3⟩ := ht
 have read : ∀ (m' : RunZ) (l : Int), m'.regs = m1.regs → m'.slots = m1.slots → readL m' l = readL m1 l := fun m' l q1 q2 => by unfold readL; rw [q1, q2]
 by_cases k1 : b.term.kind = 1
 ·rw [if_pos k1] at h2
  injection h2 with h2
  rw [if_neg (show ¬ b.term.kind = 3 by omega), if_neg (show ¬ k.term.kind = 3 by omega), if_neg (show ¬ (b.term.kind = 2 ∧ gI r1.regs b.term.a = 0) from fun h => by have := h.1; omega), if_neg (show ¬ (k.term.kind = 2 ∧ gI m1.regs k.term.a = 0) from fun h => by have := h.1; omega)]
  refine ⟨by show m1.state = r1.state; rw [h3.run, h3.runm], by rw [t2], by show m1.value = r1.value; rw [mv, kv, hv], h3.trace, fun q hq => ?_⟩
  rw [← h2] at hq
  rw [h3.val q hq]; exact (read _ _ rfl rfl).symm
 ·rw [if_neg k1] at h2
  obtain ⟨u1, u2⟩ := Jtmf h2
  have a1 := st.a k1
  have a2 := mt.a (by rw [← t1]; exact k1)
  have hvv : gI m1.regs k.term.a = gI r1.regs b.term.a := by
   have := h3.val _ u1
   rw [Jtgv a2.1 (by omega)] at this; exact this.symm
  by_cases k3 : b.term.kind = 3
  ·rw [if_pos k3, if_pos (by omega)]
   exact ⟨rfl, h3.block, hvv, h3.trace, fun q hq => by rw [u2] at hq; rw [h3.val q hq]; exact (read _ _ rfl rfl).symm⟩
  ·rw [if_neg k3, if_neg (by omega), hvv, ← t1, t2, t3]
   exact ⟨by show m1.state = r1.state; rw [h3.run, h3.runm], rfl, by show m1.value = r1.value; rw [mv, kv, hv], h3.trace, fun q hq => by rw [u2] at hq; rw [h3.val q hq]; exact (read _ _ rfl rfl).symm⟩
end Go.AE
set_option maxRecDepth 4000
namespace Go.AE
open Go
theorem Jtlq {t : Term} {regs blocks : Int} (h : Jthz t regs blocks = 0) : 0 ≤ t.to ∧ 0 ≤ t.els := by
 unfold Jthz at h
 split at h
 ·split at h
  ·cases h
  rename_i k1
  split at h
  ·cases h
  rename_i k2
  simp only [inZ, Bool.not_eq_false, decide_eq_true_eq] at k1
  omega
 split at h
 ·split at h
  ·cases h
  split at h
  ·cases h
  rename_i k1
  simp only [inZ, not_or, Bool.not_eq_false, decide_eq_true_eq] at k1
  omega
 split at h
 ·split at h
  ·cases h
  split at h
  ·cases h
  omega
 ·cases h
structure OkW (f : Func) (n k : Nat) (r : RunZ) : Prop where
 regs : r.regs.length = n
 slots : r.slots = []
 block : r.block < f.blocks.length
 at_ : ∀ b, f.blocks[r.block]? = some b → r.at_ ≤ b.code.length
 steps : r.steps ≤ k
 trace : r.trace.length ≤ k
structure OkWM (g : MFunc) (n1 n2 k : Nat) (r : RunZ) : Prop where
 regs : r.regs.length = n1
 slots : r.slots.length = n2
 block : r.block < g.blocks.length
 at_ : ∀ b, g.blocks[r.block]? = some b → r.at_ ≤ b.code.length
 steps : r.steps ≤ k
 trace : r.trace.length ≤ k
theorem OkT.step {t : Term} {n k : Nat} (h : OkT t n k) (h3 : t.kind ≠ 3) (c : Prop) [Decidable c] : (if t.kind = 2 ∧ c then t.els else t.to).toNat < k := by
 split
 ·rename_i h2
  have := h.els h2.1
  omega
 ·have := h.to (by have := h.kind; omega)
  omega
theorem Jtl6 {f : Func} {n k : Nat} {r : RunZ} (ht : ∀ b ∈ f.blocks, OkT b.term n f.blocks.length) (h : OkW f n k r) : OkW f n (k + 1) (stepZ f r) := by
 obtain ⟨h1, h2, h3, h4, h5, h6⟩ := h
 by_cases hs : r.state ≠ 0
 ·rw [Jtl5 hs]; exact ⟨h1, h2, h3, h4, by omega, by omega⟩
 obtain ⟨b, hb⟩ : ∃ b, f.blocks[r.block]? = some b := ⟨_, List.getElem?_eq_getElem h3⟩
 have ok := ht b (List.mem_of_getElem? hb)
 have hat := h4 b hb
 have e : stepZ f r = stepB b r := by unfold stepZ; rw [if_neg hs, hb]
 rw [e]
 unfold stepB
 by_cases ha : r.at_ = b.code.length
 ·rw [if_pos ha]
  by_cases k3 : b.term.kind = 3
  ·rw [if_pos k3]; exact ⟨h1, h2, h3, h4, by show r.steps + 1 ≤ k + 1; omega, by show r.trace.length ≤ k + 1; omega⟩
  ·rw [if_neg k3]
   exact ⟨h1, h2, ok.step k3 _, fun b' _ => Nat.zero_le _, by show r.steps + 1 ≤ k + 1; omega, by show r.trace.length ≤ k + 1; omega⟩
 ·rw [if_neg ha]
  have hx : b.code[r.at_]? = some b.code[r.at_] := List.getElem?_eq_getElem (by omega)
  rw [hx]
  simp only
  have hn : ∀ b', f.blocks[r.block]? = some b' → r.at_ + 1 ≤ b'.code.length := fun b' hb' => by rw [hb] at hb'; injection hb' with hb'; subst hb'; omega
  split
  ·exact ⟨h1, h2, h3, hn, by show r.steps + 1 ≤ k + 1; omega, by show (r.trace ++ _).length ≤ k + 1; rw [List.length_append, List.length_singleton]; omega⟩
  ·split
   ·exact ⟨by show (List.set _ _ _).length = n; rw [List.length_set]; exact h1, h2, h3, hn, by show r.steps + 1 ≤ k + 1; omega, by show r.trace.length ≤ k + 1; omega⟩
   ·exact ⟨h1, h2, h3, h4, by show r.steps ≤ k + 1; omega, by show r.trace.length ≤ k + 1; omega⟩
theorem Jtl4 {f : MFunc} {n1 n2 k : Nat} {r : RunZ} (ht : ∀ b ∈ f.blocks, OkT b.term n1 f.blocks.length) (h : OkWM f n1 n2 k r) : OkWM f n1 n2 (k + 1) (stepZM f r) := by
 obtain ⟨h1, h2, h3, h4, h5, h6⟩ := h
 by_cases hs : r.state ≠ 0
 ·rw [Jtl3 hs]; exact ⟨h1, h2, h3, h4, by omega, by omega⟩
 obtain ⟨b, hb⟩ : ∃ b, f.blocks[r.block]? = some b := ⟨_, List.getElem?_eq_getElem h3⟩
 have ok := ht b (List.mem_of_getElem? hb)
 have hat := h4 b hb
 have e : stepZM f r = stepBM b r := by unfold stepZM; rw [if_neg hs, hb]
 rw [e]
 unfold stepBM
 by_cases ha : r.at_ = b.code.length
 ·rw [if_pos ha]
  by_cases k3 : b.term.kind = 3
  ·rw [if_pos k3]; exact ⟨h1, h2, h3, h4, by show r.steps + 1 ≤ k + 1; omega, by show r.trace.length ≤ k + 1; omega⟩
  ·rw [if_neg k3]
   exact ⟨h1, h2, ok.step k3 _, fun b' _ => Nat.zero_le _, by show r.steps + 1 ≤ k + 1; omega, by show r.trace.length ≤ k + 1; omega⟩
 ·rw [if_neg ha]
  have hx : b.code[r.at_]? = some b.code[r.at_] := List.getElem?_eq_getElem (by omega)
  rw [hx]
  simp only
  have hn : ∀ b', f.blocks[r.block]? = some b' → r.at_ + 1 ≤ b'.code.length := fun b' hb' => by rw [hb] at hb'; injection hb' with hb'; subst hb'; omega
  obtain ⟨w1, w2, w3, w4, w5⟩ := Jtmw r b.code[r.at_].dst (readL r b.code[r.at_].src)
  split
  ·exact ⟨by show (writeL _ _ _).regs.length = n1; rw [w1]; exact h1, by show (writeL _ _ _).slots.length = n2; rw [w2]; exact h2, by show (writeL _ _ _).block < _; rw [w3]; exact h3, by show ∀ b', f.blocks[(writeL _ _ _).block]? = some b' → _; rw [w3]; exact hn, by show r.steps + 1 ≤ k + 1; omega,
    by show (writeL _ _ _).trace.length ≤ k + 1; rw [w5]; omega⟩
  split
  ·exact ⟨h1, h2, h3, hn, by show r.steps + 1 ≤ k + 1; omega, by show (r.trace ++ _).length ≤ k + 1; rw [List.length_append, List.length_singleton]; omega⟩
  ·split
   ·exact ⟨by show (List.set _ _ _).length = n1; rw [List.length_set]; exact h1, h2, h3, hn, by show r.steps + 1 ≤ k + 1; omega, by show r.trace.length ≤ k + 1; omega⟩
   ·exact ⟨h1, h2, h3, h4, by show r.steps ≤ k + 1; omega, by show r.trace.length ≤ k + 1; omega⟩
theorem Jtd0 {f : Func} {n : Nat} {r : RunZ} (ht : ∀ b ∈ f.blocks, OkT b.term n f.blocks.length) (h : OkW f n 0 r) : ∀ k, OkW f n k (itS f k r) := by
 intro k
 induction k with
 | zero => exact h
 | succ k ih => exact Jtl6 ht ih
theorem Jtcx {f : MFunc} {n1 n2 : Nat} {r : RunZ} (ht : ∀ b ∈ f.blocks, OkT b.term n1 f.blocks.length) (h : OkWM f n1 n2 0 r) : ∀ k, OkWM f n1 n2 k (itM f k r) := by
 intro k
 induction k with
 | zero => exact h
 | succ k ih => exact Jtl4 ht ih
def VB : List Int := (List.range 20).map fun n : Nat => (n : Int)
def LB (n1 n2 : Nat) : List Int := ((List.range n1).map fun n : Nat => 2 * (n : Int)) ++ (List.range n2).map fun n : Nat => 2 * (n : Int) + 1
theorem mem_VB {x : Int} : x ∈ VB ↔ 0 ≤ x ∧ x < 20 := by
 unfold VB
 simp only [List.mem_map, List.mem_range]
 constructor
 ·rintro ⟨n, h, rfl⟩; omega
 ·rintro ⟨h0, h1⟩; exact ⟨x.toNat, by omega, by omega⟩
def LocB (n1 n2 : Nat) (l : Int) : Prop := 0 ≤ l ∧ (l.tmod 2 = 1 → l.tdiv 2 < n2) ∧ (l.tmod 2 ≠ 1 → l.tdiv 2 < n1)
theorem mem_LB {n1 n2 : Nat} {l : Int} : l ∈ LB n1 n2 ↔ LocB n1 n2 l := by
 unfold LB LocB
 simp only [List.mem_append, List.mem_map, List.mem_range]
 constructor
 ·rintro (⟨n, h, rfl⟩ | ⟨n, h, rfl⟩)
  ·have m1 := Int.tmod_eq_emod_of_nonneg (a := 2 * (n : Int)) (b := 2) (by omega)
   have d1 := Int.tdiv_eq_ediv_of_nonneg (a := 2 * (n : Int)) (b := 2) (by omega)
   refine ⟨by omega, fun _ => by omega, fun _ => by omega⟩
  ·have m1 := Int.tmod_eq_emod_of_nonneg (a := 2 * (n : Int) + 1) (b := 2) (by omega)
   have d1 := Int.tdiv_eq_ediv_of_nonneg (a := 2 * (n : Int) + 1) (b := 2) (by omega)
   refine ⟨by omega, fun _ => by omega, fun _ => by omega⟩
 ·rintro ⟨h0, h1, h2⟩
  have m1 := Int.tmod_eq_emod_of_nonneg (b := 2) h0
  have d1 := Int.tdiv_eq_ediv_of_nonneg (b := 2) h0
  by_cases hs : l.tmod 2 = 1
  ·have := h1 hs; exact .inr ⟨(l.tdiv 2).toNat, by omega, by omega⟩
  ·have := h2 hs; exact .inl ⟨(l.tdiv 2).toNat, by omega, by omega⟩
theorem LB_len (n1 n2 : Nat) : (LB n1 n2).length = n1 + n2 := by simp [LB]
theorem LocB.ok {n1 n2 : Nat} {l : Int} (h : LocB n1 n2 l) (q1 : n1 ≤ 1000) (q2 : n2 ≤ 1000) {m : RunZ} (h1 : m.regs.length = n1) (h2 : m.slots.length = n2) : LocOk m l := by
 obtain ⟨a, b, c⟩ := h
 have m1 := Int.tmod_eq_emod_of_nonneg (b := 2) a
 have d1 := Int.tdiv_eq_ediv_of_nonneg (b := 2) a
 have : l ≤ 100000 := by
  by_cases hs : l.tmod 2 = 1
  ·have := b hs; omega
  ·have := c hs; omega
 exact ⟨by omega, by omega, by omega, fun h => by rw [h2]; exact b h, fun h => by rw [h1]; exact c h⟩
theorem Jtis {n1 n2 : Nat} {l : Int} (h : rngZ l (n1 : Int) (n2 : Int) = true) : LocB n1 n2 l := by
 unfold rngZ at h
 split at h
 ·rename_i k
  simp only [Bool.and_eq_true, decide_eq_true_eq] at h
  exact ⟨h.1, fun _ => h.2, fun h' => absurd k h'⟩
 ·rename_i k
  simp only [Bool.and_eq_true, decide_eq_true_eq] at h
  exact ⟨h.1, fun h' => absurd h' k, fun _ => h.2⟩
structure RightB (b : Block) (m : MBlock) (n1 n2 : Nat) : Prop where
 l1 : n1 ≤ 20
 l2 : n2 ≤ 20
 bl : b.code.length ≤ 60
 ml : m.code.length ≤ 200
 src : ∀ i ∈ b.code, Jtht i 20 = 0
 sterm : ∀ x ∈ (fnB b).blocks, OkT x.term 20 (fnB b).blocks.length ∧ 0 ≤ x.term.to ∧ 0 ≤ x.term.els
 mac : ∀ x ∈ m.code, Jthw x n1 n2 = 0
 mterm : ∀ x ∈ (fnM m n1 n2).blocks, OkT x.term n1 (fnM m n1 n2).blocks.length ∧ 0 ≤ x.term.to ∧ 0 ≤ x.term.els
theorem Jtir {b : Block} {m : MBlock} {n1 n2 : Nat} (h : rightZ b m n1 n2 = true) : RightB b m n1 n2 := by
 unfold rightZ at h
 split at h
 ·rename_i hs
  split at h
  ·cases h
  rename_i v1
  have v1 : Jths (fnB b) = 0 := by simpa using v1
  have v2 : Jthv (fnM m n1 n2) = 0 := by simpa using h
  obtain ⟨h1, h2, h3, h4, h5⟩ := hs
  obtain ⟨s1, s2, s3, s4⟩ := src_ok v1
  have mb : ∀ x ∈ (fnM m n1 n2).blocks, _ := fun x hx => Jte9 v2 hx
  have e1 : (fnB b).regs = ((20 : Nat) : Int) := rfl
  have e2 : (fnM m n1 n2).regs = (n1 : Int) := rfl
  have e3 : (fnM m n1 n2).slots = (n2 : Int) := rfl
  rw [e1] at s4
  rw [e2, e3] at mb
  exact {
   l1 := by omega
   l2 := by omega
   bl := by omega
   ml := by omega
   src := (s4 b (by simp [fnB])).1
   sterm := fun x hx => ⟨okT_of (s4 x hx).2, Jtlq (s4 x hx).2⟩
   mac := (mb m (by simp [fnM])).1
   mterm := fun x hx => ⟨okT_of (mb x hx).2.2, Jtlq (mb x hx).2.2⟩ }
 ·cases h
theorem RightB.inB {b : Block} {m : MBlock} {n1 n2 : Nat} (h : RightB b m n1 n2) {x : Block} (hx : x ∈ (fnB b).blocks) : InB x 20 ∧ x.code.length ≤ 60 := by
 obtain ⟨t1, t2⟩ := h.sterm x hx
 have hc : ∀ i ∈ x.code, i ∈ b.code := fun i hi => by
  rcases List.mem_cons.1 hx with rfl | hx
  ·exact hi
  ·rw [List.eq_of_mem_replicate hx] at hi; simp [retB] at hi
 have hl : x.code.length ≤ 60 := by
  rcases List.mem_cons.1 hx with rfl | hx
  ·exact h.bl
  ·rw [List.eq_of_mem_replicate hx]; simp [retB]
 have hi := fun i hi => Jtci (n := 20) (h.src i (hc i hi)) (by decide)
 exact ⟨⟨fun i h1 _ => (hi i h1).1, fun i h1 _ => hi i h1, t1.a, t2⟩, hl⟩
theorem RightB.okx {b : Block} {m : MBlock} {n1 n2 : Nat} (h : RightB b m n1 n2) (hp : 0 < n1) : ∀ x ∈ m.code, 0 ≤ x.dst ∧ ∀ r : RunZ, r.regs.length = n1 → r.slots.length = n2 → OkX r x := fun x hx =>
 ⟨dst_nn (h.mac x hx), fun r k1 k2 => okX_of (h.mac x hx) hp (by have := h.l1; omega) (by have := h.l2; omega) r k1 k2⟩
theorem Jtfb {x : Mach} {n1 n2 : Nat} (h : Jthw x (n1 : Int) (n2 : Int) = 0) (h18 : x.op = 18) : LocB n1 n2 x.dst ∧ LocB n1 n2 x.src := by
 unfold Jthw at h
 split at h
 ·cases h
 split at h
 ·cases h
 rename_i k
 simp only [not_or, Bool.not_eq_false] at k
 exact ⟨Jtis k.1, Jtis k.2.1⟩
theorem RightB.inBM {b : Block} {m : MBlock} {n1 n2 : Nat} (h : RightB b m n1 n2) (hp : 0 < n1) {x : MBlock} (hx : x ∈ (fnM m n1 n2).blocks) {r : RunZ} (h1 : r.regs.length = n1) (h2 : r.slots.length = n2) : InBM x r ∧ x.code.length ≤ 200 := by
 obtain ⟨t1, t2⟩ := h.mterm x hx
 have hc : ∀ i ∈ x.code, i ∈ m.code := fun i hi => by
  rcases List.mem_cons.1 hx with rfl | hx
  ·exact hi
  ·rw [List.eq_of_mem_replicate hx] at hi; simp [retM] at hi
 have hl : x.code.length ≤ 200 := by
  rcases List.mem_cons.1 hx with rfl | hx
  ·exact h.ml
  ·rw [List.eq_of_mem_replicate hx]; simp [retM]
 have ok := fun i hi => (h.okx hp i (hc i hi)).2 r h1 h2
 have q1 := h.l1
 have q2 := h.l2
 refine ⟨⟨fun i hi h18 => ?_, fun i hi h17 => (ok i hi).em h17, fun i hi a b => (ok i hi).op a b, fun hk => by rw [h1]; exact t1.a hk, t2⟩, hl⟩
 obtain ⟨a, b⟩ := Jtfb (h.mac i (hc i hi)) h18
 exact ⟨⟨a.ok (by omega) (by omega) h1 h2, a.1⟩, b.ok (by omega) (by omega) h1 h2, b.1⟩
theorem RightB.vl {b : Block} {m : MBlock} {n1 n2 : Nat} (h : RightB b m n1 n2) (hp : 0 < n1) : VLOk VB (LB n1 n2) b.code m.code := by
 have z : LocB n1 n2 0 := ⟨by omega, fun h => by simp at h, fun _ => by simp; omega⟩
 refine ⟨fun i hi => mem_VB.2 (Jtci (n := 20) (h.src i hi) (by decide)).2.2, fun x hx => ?_⟩
 have hv := h.mac x hx
 have q1 := h.l1
 by_cases h18 : x.op = 18
 ·refine ⟨mem_LB.2 (Jtfb hv h18).1, ?_⟩
  unfold Jthw at hv
  split at hv
  ·cases hv
  split at hv
  ·cases hv
  split at hv
  ·cases hv
  rename_i k
  have : x.d = 0 := by omega
  rw [this, show regZ 0 = 0 from r0e]; exact mem_LB.2 z
 ·unfold Jthw at hv
  split at hv
  ·cases hv
  split at hv
  ·cases hv
  rename_i k
  have hd : x.dst = 0 := by
   rcases Decidable.em (x.dst = 0) with h0 | h0
   ·exact h0
   ·exact absurd ⟨hv, .inl h0⟩ k
  have hi := (Jtci hv hp).2.2
  simp only at hi
  refine ⟨by rw [hd]; exact mem_LB.2 z, ?_⟩
  rw [Jti1 hi.1 (by omega)]
  exact mem_LB.2 (by
   have m1 := Int.tmod_eq_emod_of_nonneg (a := 2 * x.d) (b := 2) (by omega)
   have d1 := Int.tdiv_eq_ediv_of_nonneg (a := 2 * x.d) (b := 2) (by omega)
   exact ⟨by omega, fun h => by omega, fun _ => by omega⟩)
end Go.AE
set_option maxRecDepth 4000
namespace Go.AE
open Go
def hitZ (vr mr sl : List Int) (v l : Nat) : Bool :=
 (decide (l % 2 = 0) && decide (l / 2 < mr.length) && decide (mr.getD (l / 2) 0 = vr.getD v 0)) || (decide (l % 2 = 1) && decide (l / 2 < sl.length) && decide (sl.getD (l / 2) 0 = vr.getD v 0))
def runB0 (mr sl : List Int) : RunZ := ⟨0, 0, 0, 0, mr, sl, [], 0⟩
def HoldB (vr mr sl : List Int) (q : Pair) : Prop := (0 ≤ q.v ∧ q.v < 20) ∧ LocB mr.length sl.length q.l ∧ gI vr q.v = readL (runB0 mr sl) q.l
theorem Jta3 {vr mr sl : List Int} {v l : Nat} (hv : v < 20) (h : hitZ vr mr sl v l = true) : HoldB vr mr sl ⟨v, l⟩ := by
 have m1 := Int.tmod_eq_emod_of_nonneg (a := (l : Int)) (b := 2) (by omega)
 have d1 := Int.tdiv_eq_ediv_of_nonneg (a := (l : Int)) (b := 2) (by omega)
 have e : ((l : Int).tdiv 2).toNat = l / 2 := by omega
 simp only [hitZ, Bool.or_eq_true, Bool.and_eq_true, decide_eq_true_eq] at h
 refine ⟨⟨by simp only; omega, by simp only; omega⟩, ⟨by simp only; omega, fun h1 => ?_, fun h1 => ?_⟩, ?_⟩
 ·simp only at h1 ⊢; rcases h with ⟨⟨h2, h3⟩, h4⟩ | ⟨⟨h2, h3⟩, h4⟩ <;> omega
 ·simp only at h1 ⊢; rcases h with ⟨⟨h2, h3⟩, h4⟩ | ⟨⟨h2, h3⟩, h4⟩ <;> omega
 ·show gI vr (v : Int) = readL (runB0 mr sl) (l : Int)
  unfold readL gI runB0
  simp only [Int.toNat_natCast, e]
  rcases h with ⟨⟨h2, h3⟩, h4⟩ | ⟨⟨h2, h3⟩, h4⟩
  ·rw [if_neg (by omega)]; exact h4.symm
  ·rw [if_pos (by omega)]; exact h4.symm
theorem Jta6 {vr mr sl : List Int} {l : List Pair} (h : ∀ q ∈ l, HoldB vr mr sl q) : ∀ q ∈ l, q.v ∈ VB ∧ q.l ∈ LB mr.length sl.length := fun q hq => ⟨mem_VB.2 (h q hq).1, mem_LB.2 (h q hq).2.1⟩
theorem Jta7 {vr mr sl : List Int} {l : List Pair} (h : ∀ q ∈ l, HoldB vr mr sl q) (hv : vr.length = 20) : Inv 20 mr.length sl.length (makeP l) (runB0 vr []) (runB0 mr sl) :=
 ⟨fun q hq => ⟨(h q (Jteq.1 hq)).1.1, (h q (Jteq.1 hq)).2.1.1⟩, fun q hq => (h q (Jteq.1 hq)).2.2, rfl, rfl, rfl, rfl, hv, rfl, rfl⟩
theorem few_B {n1 n2 : Nat} (h1 : n1 ≤ 20) (h2 : n2 ≤ 20) : VB.length * (LB n1 n2).length < 100000 := by
 rw [LB_len, show VB.length = 20 from by decide]; omega
def cellF (k i : Nat) : AV := match k with
 | 0 => .nils
 | k + 1 => .hsl (i + 6) 0 5 (k + 1)
def repR (k : Nat) : List (List D) := List.replicate k rrow
theorem Jtik (k : Nat) : (repR k).length = k := by simp [repR]
theorem Jtil (k : Nat) : ∀ r ∈ repR k, r.length = 5 := fun r hr => by rw [(List.mem_replicate.1 hr).2]; rfl
theorem Jtim (k : Nat) : repR k ++ [rrow] = repR (k + 1) := List.replicate_succ'.symm
theorem Jtij : repR 31 = fRow 31 := rfl
structure TwoX (k k' i j : Nat) (X : List Blk) : Prop where
 f : X[i]? = some (.mem (Jtiw (repR k)))
 g : X[j]? = some (.mem (Jtiw (repR k')))
 ne : i ≠ j
 all : ∀ b ∈ X, ∃ rows, b = .mem (Jtiw rows)
theorem TwoX.li {k k' i j : Nat} {X : List Blk} (h : TwoX k k' i j X) : i < X.length := (List.getElem?_eq_some_iff.1 h.f).1
theorem TwoX.lj {k k' i j : Nat} {X : List Blk} (h : TwoX k k' i j X) : j < X.length := (List.getElem?_eq_some_iff.1 h.g).1
theorem TwoX.s1 {k k' i j : Nat} {X : List Blk} (h : TwoX k k' i j X) {rows : List (List D)} (hr : rows = repR (k + 1)) : TwoX (k + 1) k' i j (X.set i (.mem (Jtiw rows))) := by
 subst hr
 refine ⟨by rw [List.getElem?_set_self h.li], by rw [List.getElem?_set_ne h.ne]; exact h.g, h.ne, fun b hb => ?_⟩
 rcases List.mem_or_eq_of_mem_set hb with hb | hb
 ·exact h.all b hb
 ·exact ⟨_, hb⟩
theorem TwoX.s2 {k k' i j : Nat} {X : List Blk} (h : TwoX k k' i j X) {rows : List (List D)} (hr : rows = repR (k + 1)) : TwoX (k + 1) k' X.length j (X ++ [.mem (Jtiw rows)]) := by
 subst hr
 refine ⟨by simp, by rw [List.getElem?_append_left h.lj]; exact h.g, by have := h.lj; omega, fun b hb => ?_⟩
 rcases List.mem_append.1 hb with hb | hb
 ·exact h.all b hb
 ·exact ⟨_, List.mem_singleton.1 hb⟩
theorem TwoX.sym {k k' i j : Nat} {X : List Blk} (h : TwoX k k' i j X) : TwoX k' k j i X := ⟨h.g, h.f, fun e => h.ne e.symm, h.all⟩
theorem TwoX.s3 {k k' i j : Nat} {X : List Blk} (h : TwoX k k' i j X) {rows : List (List D)} (hr : rows = repR (k' + 1)) : TwoX k (k' + 1) i j (X.set j (.mem (Jtiw rows))) := (h.sym.s1 hr).sym
theorem TwoX.s4 {k k' i j : Nat} {X : List Blk} (h : TwoX k k' i j X) {rows : List (List D)} (hr : rows = repR (k' + 1)) : TwoX k (k' + 1) i X.length (X ++ [.mem (Jtiw rows)]) := (h.sym.s2 hr).sym
theorem TwoX.s0 {r r' : List (List D)} (h : r = repR 1) (h' : r' = repR 1) : TwoX 1 1 0 1 [.mem (Jtiw r), .mem (Jtiw r')] := by
 subst h h'
 exact ⟨rfl, rfl, by decide, fun b hb => by
  simp only [List.mem_cons, List.not_mem_nil, or_false] at hb
  rcases hb with rfl | rfl <;> exact ⟨_, rfl⟩⟩
theorem Jt4i {H : List Blk} {n : Nat} : ∀ {X : List Blk}, (∀ b ∈ X, ∃ rows, b = .mem (Jtiw rows)) → WkHs H n X X := by
 intro X
 induction X with
 | nil => intro _; exact True.intro
 | cons x X ih =>
  intro h
  obtain ⟨rows, rfl⟩ := h x (by simp)
  exact ⟨Jt4g, ih fun b hb => h b (by simp [hb])⟩
theorem get6 {a b c d e f : Blk} {t : List Blk} {j : Nat} : (a :: b :: c :: d :: e :: f :: t)[j + 6]? = t[j]? := rfl
theorem set6 {a b c d e f x : Blk} {t : List Blk} {j : Nat} : (a :: b :: c :: d :: e :: f :: t).set (j + 6) x = a :: b :: c :: d :: e :: f :: t.set j x := rfl
end Go.AE
set_option maxRecDepth 8000
namespace Go.AE
open Go
def blkB (c : List (List D)) (kind ta to els : Int) : Blk := .mem [.d (.sl c), AI kind, AI ta, AI to, AI els]
def runB (r : RunZ) : Blk := .mem [AI r.state, AI r.block, AI r.at_, AI r.value, .d (.sl (r.regs.map intRow)), .d (.sl (r.slots.map intRow)), .d (.sl (r.trace.map intRow)), AI r.steps]
section
set_option maxHeartbeats 4000000 in
theorem Jt65 {P : Program} {p : Nums} (A : All P p) {R : AExit → ASt → Prop} (hR : ∀ (e : AExit) (st : ASt), Fin [.tmp 12] 0 (fun o x => o = AOut.ret (AB true)) e st → R e st)
  {b : Block} {m : MBlock} {L : List Pair} {vr mr sl : List Int} (hro : RightB b m mr.length sl.length) (hp : 0 < mr.length) (hv : vr.length = 20) (hL : ∀ q ∈ L, HoldB vr mr sl q) (herr : (checkZ b m L 1000000).err = 0) (hl0 : L.length < 100000)
  {out : List Pair} (hout : out = (checkZ b m L 1000000).out) (rB : Blk) {e4 e5 e6 e7 : Int} (hrB : rB = .mem [.d (.sl (out.map Pair.row)), AI e4, AI e5, AI e6, AI e7])
  {F G : List (List D)} (hF : F = (fnB b).blocks.map Block.row) (hG : G = (fnM m mr.length sl.length).blocks.map MBlock.row) {cB cM : List (List D)} {k1 k2 k3 k4 j1 j2 j3 j4 : Int} (hcB : cB.length = b.code.length) (hcM : cM.length = m.code.length) {st : ASt}
  (h1 : ∀ N : ASt → Prop, (∀ st', Wk 0 st' ⟨[(17, .ptr 2 0), (19, .ptr 4 0), (20, .ptr 5 0), (2, .d (.sl (vr.map intRow))), (3, .d (.sl (mr.map intRow))), (4, .d (.sl (sl.map intRow))), (6, .ptr 0 0), (7, .ptr 1 0)],
   [blkB cB k1 k2 k3 k4, blkB cM j1 j2 j3 j4, rB, .dead, .mem [AI 0, AI 20, .d (.sl F)], .mem [AI 0, AI (mr.length : Int), AI (sl.length : Int), .d (.sl G)]]⟩ → N st') → AW P 0 (Jq49 p) (AExit.then N R) st) :
  AW P 0 (Jq52 p) R st := by
 rw [Je52]
 refine Jte _ h1 ?_
 have q1 := hro.l1
 have q2 := hro.l2
 have q3 := hro.bl
 have q4 := hro.ml
 obtain ⟨x0, hx0⟩ : ∃ x, x = runB0 vr [] := ⟨_, rfl⟩
 obtain ⟨y0, hy0⟩ : ∃ x, x = runB0 mr sl := ⟨_, rfl⟩
 have okx : ∀ k, OkW (fnB b) 20 k (itS (fnB b) k x0) := Jtd0 (fun x hx => (hro.sterm x hx).1) (by subst hx0; exact ⟨hv, rfl, by simp [fnB, runB0], fun _ _ => Nat.zero_le _, Nat.le_refl _, Nat.le_refl _⟩)
 have oky : ∀ k, OkWM (fnM m mr.length sl.length) mr.length sl.length k (itM (fnM m mr.length sl.length) k y0) := Jtcx (fun x hx => (hro.mterm x hx).1) (by subst hy0; exact ⟨rfl, rfl, by simp [fnM, runB0], fun _ _ => Nat.zero_le _, Nat.le_refl _, Nat.le_refl _⟩)
 have cx : ∀ k, k ≤ 61 → Jt3w P p.ref09_Step [.agg [AI 0, AI 20, .d (.sl F)], (itS (fnB b) k x0).av] [] fun o _ => o = .ret (itS (fnB b) (k + 1) x0).av := fun k hk => by
  have o := okx k
  have := Jthm A (fnB b) (itS (fnB b) k x0) (fun _ => by
   obtain ⟨c, hb⟩ : ∃ c, (fnB b).blocks[(itS (fnB b) k x0).block]? = some c := ⟨_, List.getElem?_eq_getElem o.block⟩
   obtain ⟨g1, g2⟩ := hro.inB (List.mem_of_getElem? hb)
   exact ⟨_, hb, o.at_ _ hb, by omega, by rw [o.regs]; exact g1⟩) ⟨by rw [o.regs]; omega, by rw [o.slots]; simp, by have := o.trace; omega, by have := o.steps; omega⟩
  rw [hF]; exact this
 have cy : ∀ k, k ≤ 201 → Jt3w P p.ref10_Step [.agg [AI 0, AI (mr.length : Int), AI (sl.length : Int), .d (.sl G)], (itM (fnM m mr.length sl.length) k y0).av] [] fun o _ => o = .ret (itM (fnM m mr.length sl.length) (k + 1) y0).av := fun k hk => by
  have o := oky k
  have := Jthp A (fnM m mr.length sl.length) (itM (fnM m mr.length sl.length) k y0) (fun _ => by
   obtain ⟨c, hb⟩ : ∃ c, (fnM m mr.length sl.length).blocks[(itM (fnM m mr.length sl.length) k y0).block]? = some c := ⟨_, List.getElem?_eq_getElem o.block⟩
   obtain ⟨g1, g2⟩ := hro.inBM hp (List.mem_of_getElem? hb) o.regs o.slots
   exact ⟨_, hb, o.at_ _ hb, by omega, g1⟩) ⟨by rw [o.regs]; omega, by rw [o.slots]; omega, by have := o.trace; omega, by have := o.steps; omega⟩
  rw [hG]; exact this
 have hbs := Jt5t (n := 20) (f := fnB b) (g := fnM m mr.length sl.length) (r := x0) (m := y0) herr (by subst hx0; rfl) (by subst hy0; rfl) (by subst hx0; rfl) (by subst hy0; rfl) (by subst hx0 hy0; rfl)
  (fun i hi => Jtcf (n := 20) (by decide) (hro.src i hi)) (hro.okx hp) (by omega) (hro.sterm b (by simp [fnB])).1 (hro.mterm m (by simp [fnM])).1 (by subst hx0 hy0; exact Jta7 hL hv)
 have hov : Over VB (LB mr.length sl.length) out := by rw [hout]; exact Jt6t (Jta6 hL) (hro.vl hp) (few_B q1 q2) hl0 (by omega) (by omega)
 rw [← hout] at hbs
 have ox := okx (b.code.length + 1)
 have oy := oky (m.code.length + 1)
 obtain ⟨X, hX⟩ : ∃ X : Nat → RunZ, X = fun k => itS (fnB b) k x0 := ⟨_, rfl⟩
 obtain ⟨Y, hY⟩ : ∃ Y : Nat → RunZ, Y = fun k => itM (fnM m mr.length sl.length) k y0 := ⟨_, rfl⟩
 have eX : ∀ k, itS (fnB b) k x0 = X k := fun k => by rw [hX]
 have eY : ∀ k, itM (fnM m mr.length sl.length) k y0 = Y k := fun k => by rw [hY]
 have X0 : X 0 = runB0 vr [] := by rw [hX, hx0]; rfl
 have Y0 : Y 0 = runB0 mr sl := by rw [hY, hy0]; rfl
 simp only [eX, eY] at cx cy hbs ox oy
 simp only [RunZ.av, intsD] at cx cy
 clear okx oky eX eY hX hY herr hout hF hG
 subst hrB
 simp only [blkB]
 (simp (maxSteps := 1000000) [])
 have hvne : vr.map intRow ≠ [] := by rw [ne_eq, List.map_eq_nil_iff]; rintro rfl; simp at hv
 have hmne : mr.map intRow ≠ [] := by rw [ne_eq, List.map_eq_nil_iff]; rintro rfl; simp at hp
 refine Jt1a (by rfl) (by rfl) (Jtcl _) (by decide) (by simp; omega) (by simp; omega) (fun hn => absurd hn hvne) (fun _ => ?_)
 (simp (maxSteps := 1000000) [])
 refine Jt1a (by rfl) (by rfl) (Jtcl _) (by decide) (by simp; omega) (by simp; omega) (fun hn => absurd hn hmne) (fun _ => ?_)
 (simp (maxSteps := 1000000) [])
 refine Jt1a (by rfl) (by rfl) (Jtcl _) (by decide) (by simp; omega) (by simp; omega) (fun hn => ?_) (fun hn => ?_)
 all_goals
  (simp (maxSteps := 1000000) [])
  refine Jtd (fun k : Nat => ⟨[(24, AI k), (22, .ptr 6 0), (23, .ptr 7 0), (17, .ptr 2 0), (19, .ptr 4 0), (20, .ptr 5 0), (3, .d (.sl (mr.map intRow))), (4, .d (.sl (sl.map intRow))), (6, .ptr 0 0), (7, .ptr 1 0)],
   [blkB cB k1 k2 k3 k4, blkB cM j1 j2 j3 j4, .mem [.d (.sl (out.map Pair.row)), AI e4, AI e5, AI e6, AI e7], .dead, .mem [AI 0, AI 20, .d (.sl F)], .mem [AI 0, AI (mr.length : Int), AI (sl.length : Int), .d (.sl G)], runB (X k), runB (Y 0)]⟩) (fun k => k ≤ b.code.length + 1) (fun k => b.code.length + 1 - k) 0 (by simp) ?_ ?_
  ·simp only [X0, Y0, blkB, runB, runB0, hn]; (exact wkA)
  intro k hk N hN
  simp only [blkB, runB]
  (simp (maxSteps := 1000000) [hcB])
  ((first | refine Xc (fun h2 => ?_) (fun h2 => ?_) | refine Xo (fun h2 => ?_) (fun h2 => ?_)) <;> (try simp only [Xz, Xy] at h2))
  ·have hw := Jtmv (k := k) (by omega)
   (simp (maxSteps := 1000000) [h2, hw])
   (refine Jty (cx k (by omega)) (by rfl) (by rfl) ?_)
   (simp (maxSteps := 1000000) [h2, hw])
   exact hN _ (k + 1) (by omega) (by simp only [blkB, runB]; (exact wkA)) (by omega)
  have ek : k = b.code.length + 1 := by omega
  subst ek
  (simp (maxSteps := 1000000) [h2])
  refine Jtd (fun k : Nat => ⟨[(25, AI k), (22, .ptr 6 0), (23, .ptr 7 0), (17, .ptr 2 0), (20, .ptr 5 0), (3, .d (.sl (mr.map intRow))), (4, .d (.sl (sl.map intRow))), (7, .ptr 1 0)],
   [.dead, blkB cM j1 j2 j3 j4, .mem [.d (.sl (out.map Pair.row)), AI e4, AI e5, AI e6, AI e7], .dead, .dead, .mem [AI 0, AI (mr.length : Int), AI (sl.length : Int), .d (.sl G)], runB (X (b.code.length + 1)), runB (Y k)]⟩) (fun k => k ≤ m.code.length + 1) (fun k => m.code.length + 1 - k) 0 (by simp) (by simp only [blkB, runB]; (exact wkA)) ?_
  intro k hk N hN
  simp only [blkB, runB]
  (simp (maxSteps := 1000000) [hcM])
  ((first | refine Xc (fun h3 => ?_) (fun h3 => ?_) | refine Xo (fun h3 => ?_) (fun h3 => ?_)) <;> (try simp only [Xz, Xy] at h3))
  ·have hw := Jtmv (k := k) (by omega)
   (simp (maxSteps := 1000000) [h3, hw])
   (refine Jty (cy k (by omega)) (by rfl) (by rfl) ?_)
   (simp (maxSteps := 1000000) [h3, hw])
   exact hN _ (k + 1) (by omega) (by simp only [blkB, runB]; (exact wkA)) (by omega)
  have ek : k = m.code.length + 1 := by omega
  subst ek
  obtain ⟨x, hx⟩ : ∃ x, x = X (b.code.length + 1) := ⟨_, rfl⟩
  obtain ⟨y, hy⟩ : ∃ x, x = Y (m.code.length + 1) := ⟨_, rfl⟩
  rw [← hx, ← hy] at hbs
  rw [← hx] at ox ⊢
  rw [← hy] at oy ⊢
  (simp (maxSteps := 1000000) [h3])
  by_cases hst : x.state = 2
  ·(simp (maxSteps := 1000000) [hst])
   (first | exact hR _ _ FrA | exact hR _ _ FnA)
  have hstb : (x.state == 2) = false := by simpa using hst
  obtain ⟨g1, g2, g3, g4, g5⟩ := hbs.resolve_left hst
  have cv := Jthn A x.trace (by have := ox.trace; omega)
  simp only [intsD] at cv
  (simp (maxSteps := 1000000) [hst, hstb, g1, g2, g3, g4])
  (refine Jty cv (by rfl) (by rfl) ?_)
  (simp (maxSteps := 1000000) [])
  refine Jtd (fun k : Nat => ⟨[(26, AI k), (22, .ptr 6 0), (23, .ptr 7 0), (17, .ptr 2 0), (3, .d (.sl (mr.map intRow))), (4, .d (.sl (sl.map intRow)))],
   [.dead, .dead, .mem [.d (.sl (out.map Pair.row)), AI e4, AI e5, AI e6, AI e7], .dead, .dead, .dead, runB x, runB ⟨x.state, x.block, y.at_, x.value, y.regs, y.slots, x.trace, y.steps⟩]⟩) (fun k => k ≤ out.length) (fun k => out.length - k) 0 (by simp) (by simp only [runB]; (exact wkA)) ?_
  intro k hk N hN
  simp only [runB]
  have hw := Jtmv (k := k) (by have := hov.len; have := few_B q1 q2; omega)
  (simp (maxSteps := 1000000) [])
  ((first | refine Xc (fun h4 => ?_) (fun h4 => ?_) | refine Xo (fun h4 => ?_) (fun h4 => ?_)) <;> (try simp only [Xz, Xy] at h4))
  ·have hkl : k < out.length := by simpa using h4
   have hb : out[k]? = some out[k] := by simp
   obtain ⟨q, hq⟩ : ∃ q, q = out[k] := ⟨_, rfl⟩
   rw [← hq] at hb
   have hmem := List.mem_of_getElem? hb
   obtain ⟨z1, z2⟩ := hov.mem q hmem
   have z1 := mem_VB.1 z1
   have z2 := mem_LB.1 z2
   have g5 := g5 q hmem
   have zo := z2.ok (by omega) (by omega) oy.regs oy.slots
   have cr := Jtho A y q.l z2.1 zo
   have hg := Jtco (l := x.regs) z1.1 (by rw [ox.regs]; omega)
   rw [g5] at hg
   obtain ⟨z, hz⟩ : ∃ z, z = readL y q.l := ⟨_, rfl⟩
   rw [← hz] at cr hg
   simp only [RunZ.av, intsD, g1, g2, g3, g4] at cr
   obtain ⟨qv, ql⟩ := q
   have e1 : out[k].v = qv := by rw [← hq]
   have e2 : out[k].l = ql := by rw [← hq]
   simp only at z1 z2 cr hg zo
   obtain ⟨c0, c1, c2⟩ := z2
   obtain ⟨zv1, zv2⟩ := z1
   have n1 : ¬ qv < 0 := by omega
   have n2 : ¬ 20 ≤ qv := by omega
   have n3 : ¬ ql < 0 := by omega
   have hd := Int.tdiv_eq_ediv_of_nonneg (a := ql) (b := 2) c0
   have hwd : IntKind.i64.wrap (ql.tdiv 2) = ql.tdiv 2 := wrap_i64 (by omega) (by have := zo.2.1; omega)
   have hm := Int.tmod_eq_emod_of_nonneg (a := ql) (b := 2) c0
   by_cases hp1 : ql.tmod 2 = 1
   ·have n4 : ¬ (sl.length : Int) ≤ ql.tdiv 2 := by have := c1 hp1; omega
    (simp (maxSteps := 1000000) [h4, hb, e1, e2, Pair.row, n1, n2, n3, hp1, hwd, n4])
    (refine Jty cr (by rfl) (by rfl) ?_)
    (simp (maxSteps := 1000000) [e1, zv1, hg, hw])
    exact hN _ (k + 1) hkl (by simp only [runB]; (exact wkA)) (by omega)
   ·have hp0 : ql.tmod 2 = 0 := by omega
    have n4 : ¬ (mr.length : Int) ≤ ql.tdiv 2 := by have := c2 hp1; omega
    (simp (maxSteps := 1000000) [h4, hb, e1, e2, Pair.row, n1, n2, n3, hp0, hwd, n4])
    (refine Jty cr (by rfl) (by rfl) ?_)
    (simp (maxSteps := 1000000) [e1, zv1, hg, hw])
    exact hN _ (k + 1) hkl (by simp only [runB]; (exact wkA)) (by omega)
  have ek : k = out.length := by simp at h4; omega
  subst ek
  (simp (maxSteps := 1000000) [])
  (first | exact hR _ _ FrA | exact hR _ _ FnA)
end
end Go.AE
set_option maxRecDepth 8000
namespace Go.AE
open Go
section
set_option maxHeartbeats 4000000 in
theorem Jtd7 {P : Program} {p : Nums} (A : All P p) (S : SortOk P p) (C : ClosOk P p) (b : Block) (m : MBlock) (vr mr sl : List Int) (dr : List Bool) (hok : okM m) : Jt3w P p.law14_BlockcheckSound [b.av, m.av, .d (intsD vr), .d (intsD mr), .d (intsD sl), .d (boolsD dr)] [] fun o _ => o = .ret (AB true) := by
 refine A.law14_BlockcheckSound.run rfl fun R hR => ?_
 have aw := Jtd8 A S C
 have hr := Jtd9 A b m (mr.length : Int) (sl.length : Int) hok
 have hro := fun h => Jtir (b := b) (m := m) (n1 := mr.length) (n2 := sl.length) h
 obtain ⟨rt, hrt⟩ : ∃ x, x = rightZ b m mr.length sl.length := ⟨_, rfl⟩
 rw [← hrt] at hr hro
 have hck := fun (h : rt = true) (hp : 0 < mr.length) (L : List Pair) (hL : ∀ q ∈ L, HoldB vr mr sl q) (hl0 : L.length ≤ 800) => Jt5u A S C b m L 1000000 (Jta6 hL) ((hro h).vl hp) (few_B (hro h).l1 (hro h).l2) (by omega) (by have := (hro h).bl; omega) (by have := (hro h).ml; omega)
 have hF := Jt90 b
 have hG := Jt91 m mr.length sl.length
 obtain ⟨FB, hFB⟩ : ∃ F, F = (fnB b).blocks.map Block.row := ⟨_, rfl⟩
 obtain ⟨GB, hGB⟩ : ∃ F, F = (fnM m mr.length sl.length).blocks.map MBlock.row := ⟨_, rfl⟩
 rw [← hFB] at hF
 rw [← hGB] at hG
 obtain ⟨code, kind, ta, to, els⟩ := b
 obtain ⟨mcode, mkind, mta, mto, mels⟩ := m
 simp only [Block.row] at hF
 simp only [MBlock.row] at hG
 obtain ⟨cB, hcB⟩ : ∃ c, c = code.map Instr.row := ⟨_, rfl⟩
 obtain ⟨cM, hcM⟩ : ∃ c, c = mcode.map Mach.row := ⟨_, rfl⟩
 have lcB : cB.length = code.length := by rw [hcB]; simp
 have lcM : cM.length = mcode.length := by rw [hcM]; simp
 simp only [Block.av, MBlock.av, intsD, boolsD, ← hcB, ← hcM] at hr hck hF hG ⊢
 (simp (maxSteps := 1000000) [Jtay])
 (refine Jty aw (by rfl) (by rfl) ?_)
 (simp (maxSteps := 1000000) [])
 ((first | refine Xc (fun hv => ?_) (fun hv => ?_) | refine Xo (fun hv => ?_) (fun hv => ?_)) <;> (try simp only [Xz, Xy] at hv))
 ·(simp (maxSteps := 1000000) [hv])
  (refine Jty aw (by rfl) (by rfl) ?_)
  (simp (maxSteps := 1000000) [])
  (first | exact hR _ _ FrA | exact hR _ _ FnA)
 have hv : vr.length = 20 := by omega
 (simp (maxSteps := 1000000) [hv])
 by_cases hm0 : mr.length = 0
 ·have hmb : ((mr.length : Int) == 0) = true := by simp [hm0]
  (simp (maxSteps := 1000000) [hm0, hmb])
  (refine Jty aw (by rfl) (by rfl) ?_)
  (simp (maxSteps := 1000000) [])
  (first | exact hR _ _ FrA | exact hR _ _ FnA)
 have hmb : ((mr.length : Int) == 0) = false := by simpa using hm0
 have hp : 0 < mr.length := by omega
 have hpI : (0 : Int) < (mr.length : Int) := by omega
 (simp (maxSteps := 1000000) [hmb, hm0])
 (refine Jty hr (by rfl) (by rfl) ?_)
 cases rt with
 | false =>
  (simp (maxSteps := 1000000) [])
  (refine Jty aw (by rfl) (by rfl) ?_)
  (simp (maxSteps := 1000000) [])
  (first | exact hR _ _ FrA | exact hR _ _ FnA)
 | true =>
  have hro := hro rfl
  have hck := hck rfl hp
  have q1 := hro.l1
  have q2 := hro.l2
  have w1 : IntKind.i64.wrap (2 * (mr.length : Int)) = 2 * (mr.length : Int) := wrap_i64 (by omega) (by omega)
  have w2 : IntKind.i64.wrap (2 * (sl.length : Int)) = 2 * (sl.length : Int) := wrap_i64 (by omega) (by omega)
  (simp (maxSteps := 1000000) [])
  obtain ⟨bB, hbB⟩ : ∃ x, x = Blk.mem [AV.d (D.sl cB), AI kind, AI ta, AI to, AI els] := ⟨_, rfl⟩
  obtain ⟨mB, hmB⟩ : ∃ x, x = Blk.mem [AV.d (D.sl cM), AI mkind, AI mta, AI mto, AI mels] := ⟨_, rfl⟩
  rw [← hbB, ← hmB]
  have kb : ∀ {H : List Blk} {n : Nat}, WkB H n bB bB := by subst hbB; repeat' (first | exact True.intro | exact ⟨_, rfl, Jtmp rfl⟩ | exact ⟨_, rfl, Jtmn rfl⟩ | exact ⟨_, rfl, .inl .nild⟩ | exact ⟨_, rfl, .inl .nile⟩ | exact ⟨_, rfl, Jtmo⟩ | exact Jtmp rfl | exact Jtmn rfl | exact .inl .nild | exact .inl .nile | exact Jtmo | exact WkB.same rfl | exact Jt4g | exact Jt4e | exact .dead _ | exact .iter _ _ | exact .glob _ _ | refine Jt4c ?_ ?_ | refine And.intro ?_ ?_)
  have km : ∀ {H : List Blk} {n : Nat}, WkB H n mB mB := by subst hmB; repeat' (first | exact True.intro | exact ⟨_, rfl, Jtmp rfl⟩ | exact ⟨_, rfl, Jtmn rfl⟩ | exact ⟨_, rfl, .inl .nild⟩ | exact ⟨_, rfl, .inl .nile⟩ | exact ⟨_, rfl, Jtmo⟩ | exact Jtmp rfl | exact Jtmn rfl | exact .inl .nild | exact .inl .nile | exact Jtmo | exact WkB.same rfl | exact Jt4g | exact Jt4e | exact .dead _ | exact .iter _ _ | exact .glob _ _ | refine Jt4c ?_ ?_ | refine And.intro ?_ ?_)
  refine Jtd (fun z : Nat × Nat × List Pair => ⟨[(15, AI z.1), (14, AI z.2.1), (13, .own 2 (z.2.2.map Pair.row)), (2, .d (.sl (vr.map intRow))), (3, .d (.sl (mr.map intRow))), (4, .d (.sl (sl.map intRow))), (5, .d (.sl (dr.map Jt63))), (6, .ptr 0 0), (7, .ptr 1 0)], [bB, mB]⟩)
   (fun z => z.1 ≤ 20 ∧ z.2.1 ≤ z.1 * 40 ∧ z.2.2.length ≤ z.1 * 40 ∧ ∀ q ∈ z.2.2, HoldB vr mr sl q) (fun z => 20 - z.1) (0, 0, []) (by simp) ?_ ?_
  ·refine Wk.of ?_ ?_ (by simp) <;> repeat' (first | exact kb | exact km | (first | exact True.intro | exact ⟨_, rfl, Jtmp rfl⟩ | exact ⟨_, rfl, Jtmn rfl⟩ | exact ⟨_, rfl, .inl .nild⟩ | exact ⟨_, rfl, .inl .nile⟩ | exact ⟨_, rfl, Jtmo⟩ | exact Jtmp rfl | exact Jtmn rfl | exact .inl .nild | exact .inl .nile | exact Jtmo | exact WkB.same rfl | exact Jt4g | exact Jt4e | exact .dead _ | exact .iter _ _ | exact .glob _ _ | refine Jt4c ?_ ?_ | refine And.intro ?_ ?_))
  rintro ⟨v, n, L⟩ ⟨i1, i2, i3, i4⟩ N hN
  simp only at i1 i2 i3 i4 hN
  have wv := Jtmv (k := v) (by omega)
  (simp (maxSteps := 1000000) [])
  by_cases g3 : v < 20
  ·have g3i : (v : Int) < 20 := by omega
   (simp (maxSteps := 1000000) [g3i])
   refine Jtd (fun z : Nat × Nat × List Pair => ⟨[(16, AI z.1), (15, AI v), (14, AI z.2.1), (13, .own 2 (z.2.2.map Pair.row)), (2, .d (.sl (vr.map intRow))), (3, .d (.sl (mr.map intRow))), (4, .d (.sl (sl.map intRow))), (5, .d (.sl (dr.map Jt63))), (6, .ptr 0 0), (7, .ptr 1 0)], [bB, mB]⟩)
    (fun z => z.1 ≤ 40 ∧ z.2.1 ≤ v * 40 + z.1 ∧ z.2.2.length ≤ v * 40 + z.1 ∧ ∀ q ∈ z.2.2, HoldB vr mr sl q) (fun z => 40 - z.1) (0, n, L) (by simp only; exact ⟨by omega, by omega, by omega, i4⟩) ?_ ?_
   ·refine Wk.of ?_ ?_ (by simp) <;> repeat' (first | exact kb | exact km | (first | exact True.intro | exact ⟨_, rfl, Jtmp rfl⟩ | exact ⟨_, rfl, Jtmn rfl⟩ | exact ⟨_, rfl, .inl .nild⟩ | exact ⟨_, rfl, .inl .nile⟩ | exact ⟨_, rfl, Jtmo⟩ | exact Jtmp rfl | exact Jtmn rfl | exact .inl .nild | exact .inl .nile | exact Jtmo | exact WkB.same rfl | exact Jt4g | exact Jt4e | exact .dead _ | exact .iter _ _ | exact .glob _ _ | refine Jt4c ?_ ?_ | refine And.intro ?_ ?_))
   rintro ⟨l, n', M⟩ ⟨j1, j2, j3, j4⟩ N' hN'
   simp only at j1 j2 j3 j4 hN'
   have wl := Jtmv (k := l) (by omega)
   have wn := Jtmv (k := n') (by omega)
   (simp (maxSteps := 1000000) [w1, w2])
   by_cases g1 : (l : Int) < 2 * (mr.length : Int)
   ·(simp (maxSteps := 1000000) [g1])
    rw [Je51]
    refine Jte ⟨[(114, AB (hitZ vr mr sl v l)), (16, AI l), (15, AI v), (14, AI n'), (13, .own 2 (M.map Pair.row)), (2, .d (.sl (vr.map intRow))), (3, .d (.sl (mr.map intRow))), (4, .d (.sl (sl.map intRow))), (5, .d (.sl (dr.map Jt63))), (6, .ptr 0 0), (7, .ptr 1 0)], [bB, mB]⟩ (fun N2 hN2 => ?_) ?_
    ·have fin : ∀ (st' : ASt) (x : Bool), x = hitZ vr mr sl v l → Wk 0 st' ⟨[(114, AB x), (16, AI l), (15, AI v), (14, AI n'), (13, .own 2 (M.map Pair.row)), (2, .d (.sl (vr.map intRow))), (3, .d (.sl (mr.map intRow))), (4, .d (.sl (sl.map intRow))), (5, .d (.sl (dr.map Jt63))), (6, .ptr 0 0), (7, .ptr 1 0)], [bB, mB]⟩ → N2 st' := fun st' x hx h => hN2 st' (by rw [← hx]; exact h)
     unfold hitZ at fin
     obtain ⟨j, hj⟩ : ∃ j, j = l / 2 := ⟨_, rfl⟩
     have hj1 : (l : Int) / 2 = (j : Int) := by omega
     have hj2 : (l : Int).tdiv 2 = (j : Int) := by have := Int.tdiv_eq_ediv_of_nonneg (a := (l : Int)) (b := 2) (by omega); omega
     have hjw : IntKind.i64.wrap (j : Int) = (j : Int) := wrap_i64 (by omega) (by omega)
     have hm := Int.tmod_eq_emod_of_nonneg (a := (l : Int)) (b := 2) (by omega)
     rw [← hj] at fin
     have hvl : v < vr.length := by omega
     obtain ⟨x, hx⟩ : ∃ x, x = vr.getD v 0 := ⟨_, rfl⟩
     have hvx : (vr.map intRow)[v]? = some [D.int .i64 x] := by rw [hx]; simp [intRow, hvl, List.getD_eq_getElem?_getD]
     have hvx2 : vr[v]? = some x := by rw [hx]; simp [hvl, List.getD_eq_getElem?_getD]
     have hvx3 : ∀ h, vr[v]'h = x := fun h => by rw [hx]; simp [hvl, List.getD_eq_getElem?_getD]
     rw [← hx] at fin
     by_cases hpar : l % 2 = 0
     ·have p1 : (l : Int) % 2 = 0 := by omega
      have p2 : (l : Int).tmod 2 = 0 := by omega
      have p3 : ¬ l % 2 = 1 := by omega
      by_cases g5 : j < mr.length
      ·have g5i : (j : Int) < (mr.length : Int) := by omega
       obtain ⟨y, hy⟩ : ∃ x, x = mr.getD j 0 := ⟨_, rfl⟩
       have hy2 : mr[j]? = some y := by rw [hy]; simp [g5, List.getD_eq_getElem?_getD]
       have hy3 : ∀ h, mr[j]'h = y := fun h => by rw [hy]; simp [g5, List.getD_eq_getElem?_getD]
       rw [← hy] at fin
       by_cases g6 : y = x
       ·(simp (maxSteps := 1000000) [p1, p2, hj1, hj2, hjw, g5, g5i, hy2, hy3, hvx, hvx2, hvx3, g6, hm, intRow])
        exact fin _ true (by simp [hpar, g5, g6]) (by refine Wk.of ?_ ?_ (by simp) <;> repeat' (first | exact kb | exact km | (first | exact True.intro | exact ⟨_, rfl, Jtmp rfl⟩ | exact ⟨_, rfl, Jtmn rfl⟩ | exact ⟨_, rfl, .inl .nild⟩ | exact ⟨_, rfl, .inl .nile⟩ | exact ⟨_, rfl, Jtmo⟩ | exact Jtmp rfl | exact Jtmn rfl | exact .inl .nild | exact .inl .nile | exact Jtmo | exact WkB.same rfl | exact Jt4g | exact Jt4e | exact .dead _ | exact .iter _ _ | exact .glob _ _ | refine Jt4c ?_ ?_ | refine And.intro ?_ ?_)))
       ·have g6b : (y == x) = false := by simpa using g6
        (simp (maxSteps := 1000000) [p1, p2, hj1, hj2, hjw, g5, g5i, hvx, hvx2, hvx3, hm, intRow, hy2, hy3, g6, g6b])
        exact fin _ false (by simp [hpar, g5, g6]) (by refine Wk.of ?_ ?_ (by simp) <;> repeat' (first | exact kb | exact km | (first | exact True.intro | exact ⟨_, rfl, Jtmp rfl⟩ | exact ⟨_, rfl, Jtmn rfl⟩ | exact ⟨_, rfl, .inl .nild⟩ | exact ⟨_, rfl, .inl .nile⟩ | exact ⟨_, rfl, Jtmo⟩ | exact Jtmp rfl | exact Jtmn rfl | exact .inl .nild | exact .inl .nile | exact Jtmo | exact WkB.same rfl | exact Jt4g | exact Jt4e | exact .dead _ | exact .iter _ _ | exact .glob _ _ | refine Jt4c ?_ ?_ | refine And.intro ?_ ?_)))
      ·have g5i : ¬ (j : Int) < (mr.length : Int) := by omega
       (simp (maxSteps := 1000000) [p1, p2, hj1, hj2, hjw, g5, g5i, hvx, hvx2, hvx3, hm, intRow])
       exact fin _ false (by simp [hpar, g5]) (by refine Wk.of ?_ ?_ (by simp) <;> repeat' (first | exact kb | exact km | (first | exact True.intro | exact ⟨_, rfl, Jtmp rfl⟩ | exact ⟨_, rfl, Jtmn rfl⟩ | exact ⟨_, rfl, .inl .nild⟩ | exact ⟨_, rfl, .inl .nile⟩ | exact ⟨_, rfl, Jtmo⟩ | exact Jtmp rfl | exact Jtmn rfl | exact .inl .nild | exact .inl .nile | exact Jtmo | exact WkB.same rfl | exact Jt4g | exact Jt4e | exact .dead _ | exact .iter _ _ | exact .glob _ _ | refine Jt4c ?_ ?_ | refine And.intro ?_ ?_)))
     ·have p1 : (l : Int) % 2 = 1 := by omega
      have p2 : (l : Int).tmod 2 = 1 := by omega
      have p3 : l % 2 = 1 := by omega
      by_cases g5 : j < sl.length
      ·have g5i : (j : Int) < (sl.length : Int) := by omega
       obtain ⟨y, hy⟩ : ∃ x, x = sl.getD j 0 := ⟨_, rfl⟩
       have hy2 : sl[j]? = some y := by rw [hy]; simp [g5, List.getD_eq_getElem?_getD]
       have hy3 : ∀ h, sl[j]'h = y := fun h => by rw [hy]; simp [g5, List.getD_eq_getElem?_getD]
       rw [← hy] at fin
       by_cases g6 : y = x
       ·(simp (maxSteps := 1000000) [p1, p2, hj1, hj2, hjw, g5, g5i, hvx, hvx2, hvx3, hm, intRow, hy2, hy3, g6])
        exact fin _ true (by simp [p3, g5, g6]) (by refine Wk.of ?_ ?_ (by simp) <;> repeat' (first | exact kb | exact km | (first | exact True.intro | exact ⟨_, rfl, Jtmp rfl⟩ | exact ⟨_, rfl, Jtmn rfl⟩ | exact ⟨_, rfl, .inl .nild⟩ | exact ⟨_, rfl, .inl .nile⟩ | exact ⟨_, rfl, Jtmo⟩ | exact Jtmp rfl | exact Jtmn rfl | exact .inl .nild | exact .inl .nile | exact Jtmo | exact WkB.same rfl | exact Jt4g | exact Jt4e | exact .dead _ | exact .iter _ _ | exact .glob _ _ | refine Jt4c ?_ ?_ | refine And.intro ?_ ?_)))
       ·have g6b : (y == x) = false := by simpa using g6
        (simp (maxSteps := 1000000) [p1, p2, hj1, hj2, hjw, g5, g5i, hvx, hvx2, hvx3, hm, intRow, hy2, hy3, g6, g6b])
        exact fin _ false (by simp [p3, g5, g6]) (by refine Wk.of ?_ ?_ (by simp) <;> repeat' (first | exact kb | exact km | (first | exact True.intro | exact ⟨_, rfl, Jtmp rfl⟩ | exact ⟨_, rfl, Jtmn rfl⟩ | exact ⟨_, rfl, .inl .nild⟩ | exact ⟨_, rfl, .inl .nile⟩ | exact ⟨_, rfl, Jtmo⟩ | exact Jtmp rfl | exact Jtmn rfl | exact .inl .nild | exact .inl .nile | exact Jtmo | exact WkB.same rfl | exact Jt4g | exact Jt4e | exact .dead _ | exact .iter _ _ | exact .glob _ _ | refine Jt4c ?_ ?_ | refine And.intro ?_ ?_)))
      ·have g5i : ¬ (j : Int) < (sl.length : Int) := by omega
       (simp (maxSteps := 1000000) [p1, p2, hj1, hj2, hjw, g5, g5i, hvx, hvx2, hvx3, hm, intRow])
       exact fin _ false (by simp [p3, g5]) (by refine Wk.of ?_ ?_ (by simp) <;> repeat' (first | exact kb | exact km | (first | exact True.intro | exact ⟨_, rfl, Jtmp rfl⟩ | exact ⟨_, rfl, Jtmn rfl⟩ | exact ⟨_, rfl, .inl .nild⟩ | exact ⟨_, rfl, .inl .nile⟩ | exact ⟨_, rfl, Jtmo⟩ | exact Jtmp rfl | exact Jtmn rfl | exact .inl .nild | exact .inl .nile | exact Jtmo | exact WkB.same rfl | exact Jt4g | exact Jt4e | exact .dead _ | exact .iter _ _ | exact .glob _ _ | refine Jt4c ?_ ?_ | refine And.intro ?_ ?_)))
    cases hh : hitZ vr mr sl v l with
    | false =>
     (simp (maxSteps := 1000000) [wl])
     exact hN' _ (l + 1, n', M) ⟨by simp only; omega, by simp only; omega, by simp only; omega, j4⟩ (by refine Wk.of ?_ ?_ (by simp) <;> repeat' (first | exact kb | exact km | (first | exact True.intro | exact ⟨_, rfl, Jtmp rfl⟩ | exact ⟨_, rfl, Jtmn rfl⟩ | exact ⟨_, rfl, .inl .nild⟩ | exact ⟨_, rfl, .inl .nile⟩ | exact ⟨_, rfl, Jtmo⟩ | exact Jtmp rfl | exact Jtmn rfl | exact .inl .nild | exact .inl .nile | exact Jtmo | exact WkB.same rfl | exact Jt4g | exact Jt4e | exact .dead _ | exact .iter _ _ | exact .glob _ _ | refine Jt4c ?_ ?_ | refine And.intro ?_ ?_))) (by simp only; omega)
    | true =>
     have hhold := Jta3 g3 hh
     (simp (maxSteps := 1000000) [])
     rw [Je53]
     obtain ⟨kp, hkp⟩ : ∃ k, k = !(dr.getD n' false) := ⟨_, rfl⟩
     refine Jte ⟨[(125, AB kp), (16, AI l), (15, AI v), (14, AI n'), (13, .own 2 (M.map Pair.row)), (2, .d (.sl (vr.map intRow))), (3, .d (.sl (mr.map intRow))), (4, .d (.sl (sl.map intRow))), (5, .d (.sl (dr.map Jt63))), (6, .ptr 0 0), (7, .ptr 1 0)], [bB, mB]⟩ (fun N2 hN2 => ?_) ?_
     ·have fin : ∀ (st' : ASt) (x : Bool), x = !(dr.getD n' false) → Wk 0 st' ⟨[(125, AB x), (16, AI l), (15, AI v), (14, AI n'), (13, .own 2 (M.map Pair.row)), (2, .d (.sl (vr.map intRow))), (3, .d (.sl (mr.map intRow))), (4, .d (.sl (sl.map intRow))), (5, .d (.sl (dr.map Jt63))), (6, .ptr 0 0), (7, .ptr 1 0)], [bB, mB]⟩ → N2 st' := fun st' x hx h => hN2 st' (by rw [hkp, ← hx]; exact h)
      by_cases g4 : n' < dr.length
      ·have g4i : ¬ (dr.length : Int) ≤ (n' : Int) := by omega
       obtain ⟨y, hy⟩ : ∃ x, x = dr.getD n' false := ⟨_, rfl⟩
       have hy1 : (dr.map Jt63)[n']? = some [D.bool y] := by rw [hy]; simp [Jt63, g4, List.getD_eq_getElem?_getD]
       have hy2 : dr[n']? = some y := by rw [hy]; simp [g4, List.getD_eq_getElem?_getD]
       have hy3 : ∀ h, dr[n']'h = y := fun h => by rw [hy]; simp [g4, List.getD_eq_getElem?_getD]
       rw [← hy] at fin
       (simp (maxSteps := 1000000) [g4, g4i, hy1, hy2, hy3, Jt63])
       exact fin _ (!y) rfl (by refine Wk.of ?_ ?_ (by simp) <;> repeat' (first | exact kb | exact km | (first | exact True.intro | exact ⟨_, rfl, Jtmp rfl⟩ | exact ⟨_, rfl, Jtmn rfl⟩ | exact ⟨_, rfl, .inl .nild⟩ | exact ⟨_, rfl, .inl .nile⟩ | exact ⟨_, rfl, Jtmo⟩ | exact Jtmp rfl | exact Jtmn rfl | exact .inl .nild | exact .inl .nile | exact Jtmo | exact WkB.same rfl | exact Jt4g | exact Jt4e | exact .dead _ | exact .iter _ _ | exact .glob _ _ | refine Jt4c ?_ ?_ | refine And.intro ?_ ?_)))
      ·have g4i : (dr.length : Int) ≤ (n' : Int) := by omega
       have g4n : dr.length ≤ n' := by omega
       (simp (maxSteps := 1000000) [g4, g4i, g4n])
       exact fin _ true (by simp [List.getD_eq_getElem?_getD, List.getElem?_eq_none g4n]) (by refine Wk.of ?_ ?_ (by simp) <;> repeat' (first | exact kb | exact km | (first | exact True.intro | exact ⟨_, rfl, Jtmp rfl⟩ | exact ⟨_, rfl, Jtmn rfl⟩ | exact ⟨_, rfl, .inl .nild⟩ | exact ⟨_, rfl, .inl .nile⟩ | exact ⟨_, rfl, Jtmo⟩ | exact Jtmp rfl | exact Jtmn rfl | exact .inl .nild | exact .inl .nile | exact Jtmo | exact WkB.same rfl | exact Jt4g | exact Jt4e | exact .dead _ | exact .iter _ _ | exact .glob _ _ | refine Jt4c ?_ ?_ | refine And.intro ?_ ?_)))
     cases kp with
     | false =>
      (simp (maxSteps := 1000000) [wl, wn])
      exact hN' _ (l + 1, n' + 1, M) ⟨by simp only; omega, by simp only; omega, by simp only; omega, j4⟩ (by refine Wk.of ?_ ?_ (by simp) <;> repeat' (first | exact kb | exact km | (first | exact True.intro | exact ⟨_, rfl, Jtmp rfl⟩ | exact ⟨_, rfl, Jtmn rfl⟩ | exact ⟨_, rfl, .inl .nild⟩ | exact ⟨_, rfl, .inl .nile⟩ | exact ⟨_, rfl, Jtmo⟩ | exact Jtmp rfl | exact Jtmn rfl | exact .inl .nild | exact .inl .nile | exact Jtmo | exact WkB.same rfl | exact Jt4g | exact Jt4e | exact .dead _ | exact .iter _ _ | exact .glob _ _ | refine Jt4c ?_ ?_ | refine And.intro ?_ ?_))) (by simp only; omega)
     | true =>
      (simp (maxSteps := 1000000) [])
      (refine Jt1b (by rfl) (by rfl) (by rfl) ?_ (by decide) ?_ ?_ ?_)
      ·simp
      ·simp; omega
      ·simp; omega
      (simp (maxSteps := 1000000) [wl, wn])
      exact hN' _ (l + 1, n' + 1, M ++ [⟨v, l⟩]) ⟨by simp only; omega, by simp only; omega, by simp; omega, by
       intro q hq
       rcases List.mem_append.1 hq with hq | hq
       ·exact j4 q hq
       ·rw [List.mem_singleton.1 hq]; exact hhold⟩ (by simp only [List.map_append, List.map_cons, List.map_nil, Pair.row]; refine Wk.of ?_ ?_ (by simp) <;> repeat' (first | exact kb | exact km | (first | exact True.intro | exact ⟨_, rfl, Jtmp rfl⟩ | exact ⟨_, rfl, Jtmn rfl⟩ | exact ⟨_, rfl, .inl .nild⟩ | exact ⟨_, rfl, .inl .nile⟩ | exact ⟨_, rfl, Jtmo⟩ | exact Jtmp rfl | exact Jtmn rfl | exact .inl .nild | exact .inl .nile | exact Jtmo | exact WkB.same rfl | exact Jt4g | exact Jt4e | exact .dead _ | exact .iter _ _ | exact .glob _ _ | refine Jt4c ?_ ?_ | refine And.intro ?_ ?_))) (by simp only; omega)
   by_cases g2 : (l : Int) < 2 * (sl.length : Int)
   ·(simp (maxSteps := 1000000) [g1, g2, w2])
    rw [Je51]
    refine Jte ⟨[(114, AB (hitZ vr mr sl v l)), (16, AI l), (15, AI v), (14, AI n'), (13, .own 2 (M.map Pair.row)), (2, .d (.sl (vr.map intRow))), (3, .d (.sl (mr.map intRow))), (4, .d (.sl (sl.map intRow))), (5, .d (.sl (dr.map Jt63))), (6, .ptr 0 0), (7, .ptr 1 0)], [bB, mB]⟩ (fun N2 hN2 => ?_) ?_
    ·have fin : ∀ (st' : ASt) (x : Bool), x = hitZ vr mr sl v l → Wk 0 st' ⟨[(114, AB x), (16, AI l), (15, AI v), (14, AI n'), (13, .own 2 (M.map Pair.row)), (2, .d (.sl (vr.map intRow))), (3, .d (.sl (mr.map intRow))), (4, .d (.sl (sl.map intRow))), (5, .d (.sl (dr.map Jt63))), (6, .ptr 0 0), (7, .ptr 1 0)], [bB, mB]⟩ → N2 st' := fun st' x hx h => hN2 st' (by rw [← hx]; exact h)
     unfold hitZ at fin
     obtain ⟨j, hj⟩ : ∃ j, j = l / 2 := ⟨_, rfl⟩
     have hj1 : (l : Int) / 2 = (j : Int) := by omega
     have hj2 : (l : Int).tdiv 2 = (j : Int) := by have := Int.tdiv_eq_ediv_of_nonneg (a := (l : Int)) (b := 2) (by omega); omega
     have hjw : IntKind.i64.wrap (j : Int) = (j : Int) := wrap_i64 (by omega) (by omega)
     have hm := Int.tmod_eq_emod_of_nonneg (a := (l : Int)) (b := 2) (by omega)
     rw [← hj] at fin
     have hvl : v < vr.length := by omega
     obtain ⟨x, hx⟩ : ∃ x, x = vr.getD v 0 := ⟨_, rfl⟩
     have hvx : (vr.map intRow)[v]? = some [D.int .i64 x] := by rw [hx]; simp [intRow, hvl, List.getD_eq_getElem?_getD]
     have hvx2 : vr[v]? = some x := by rw [hx]; simp [hvl, List.getD_eq_getElem?_getD]
     have hvx3 : ∀ h, vr[v]'h = x := fun h => by rw [hx]; simp [hvl, List.getD_eq_getElem?_getD]
     rw [← hx] at fin
     by_cases hpar : l % 2 = 0
     ·have p1 : (l : Int) % 2 = 0 := by omega
      have p2 : (l : Int).tmod 2 = 0 := by omega
      have p3 : ¬ l % 2 = 1 := by omega
      by_cases g5 : j < mr.length
      ·have g5i : (j : Int) < (mr.length : Int) := by omega
       obtain ⟨y, hy⟩ : ∃ x, x = mr.getD j 0 := ⟨_, rfl⟩
       have hy2 : mr[j]? = some y := by rw [hy]; simp [g5, List.getD_eq_getElem?_getD]
       have hy3 : ∀ h, mr[j]'h = y := fun h => by rw [hy]; simp [g5, List.getD_eq_getElem?_getD]
       rw [← hy] at fin
       by_cases g6 : y = x
       ·(simp (maxSteps := 1000000) [p1, p2, hj1, hj2, hjw, g5, g5i, hy2, hy3, hvx, hvx2, hvx3, g6, hm, intRow])
        exact fin _ true (by simp [hpar, g5, g6]) (by refine Wk.of ?_ ?_ (by simp) <;> repeat' (first | exact kb | exact km | (first | exact True.intro | exact ⟨_, rfl, Jtmp rfl⟩ | exact ⟨_, rfl, Jtmn rfl⟩ | exact ⟨_, rfl, .inl .nild⟩ | exact ⟨_, rfl, .inl .nile⟩ | exact ⟨_, rfl, Jtmo⟩ | exact Jtmp rfl | exact Jtmn rfl | exact .inl .nild | exact .inl .nile | exact Jtmo | exact WkB.same rfl | exact Jt4g | exact Jt4e | exact .dead _ | exact .iter _ _ | exact .glob _ _ | refine Jt4c ?_ ?_ | refine And.intro ?_ ?_)))
       ·have g6b : (y == x) = false := by simpa using g6
        (simp (maxSteps := 1000000) [p1, p2, hj1, hj2, hjw, g5, g5i, hvx, hvx2, hvx3, hm, intRow, hy2, hy3, g6, g6b])
        exact fin _ false (by simp [hpar, g5, g6]) (by refine Wk.of ?_ ?_ (by simp) <;> repeat' (first | exact kb | exact km | (first | exact True.intro | exact ⟨_, rfl, Jtmp rfl⟩ | exact ⟨_, rfl, Jtmn rfl⟩ | exact ⟨_, rfl, .inl .nild⟩ | exact ⟨_, rfl, .inl .nile⟩ | exact ⟨_, rfl, Jtmo⟩ | exact Jtmp rfl | exact Jtmn rfl | exact .inl .nild | exact .inl .nile | exact Jtmo | exact WkB.same rfl | exact Jt4g | exact Jt4e | exact .dead _ | exact .iter _ _ | exact .glob _ _ | refine Jt4c ?_ ?_ | refine And.intro ?_ ?_)))
      ·have g5i : ¬ (j : Int) < (mr.length : Int) := by omega
       (simp (maxSteps := 1000000) [p1, p2, hj1, hj2, hjw, g5, g5i, hvx, hvx2, hvx3, hm, intRow])
       exact fin _ false (by simp [hpar, g5]) (by refine Wk.of ?_ ?_ (by simp) <;> repeat' (first | exact kb | exact km | (first | exact True.intro | exact ⟨_, rfl, Jtmp rfl⟩ | exact ⟨_, rfl, Jtmn rfl⟩ | exact ⟨_, rfl, .inl .nild⟩ | exact ⟨_, rfl, .inl .nile⟩ | exact ⟨_, rfl, Jtmo⟩ | exact Jtmp rfl | exact Jtmn rfl | exact .inl .nild | exact .inl .nile | exact Jtmo | exact WkB.same rfl | exact Jt4g | exact Jt4e | exact .dead _ | exact .iter _ _ | exact .glob _ _ | refine Jt4c ?_ ?_ | refine And.intro ?_ ?_)))
     ·have p1 : (l : Int) % 2 = 1 := by omega
      have p2 : (l : Int).tmod 2 = 1 := by omega
      have p3 : l % 2 = 1 := by omega
      by_cases g5 : j < sl.length
      ·have g5i : (j : Int) < (sl.length : Int) := by omega
       obtain ⟨y, hy⟩ : ∃ x, x = sl.getD j 0 := ⟨_, rfl⟩
       have hy2 : sl[j]? = some y := by rw [hy]; simp [g5, List.getD_eq_getElem?_getD]
       have hy3 : ∀ h, sl[j]'h = y := fun h => by rw [hy]; simp [g5, List.getD_eq_getElem?_getD]
       rw [← hy] at fin
       by_cases g6 : y = x
       ·(simp (maxSteps := 1000000) [p1, p2, hj1, hj2, hjw, g5, g5i, hvx, hvx2, hvx3, hm, intRow, hy2, hy3, g6])
        exact fin _ true (by simp [p3, g5, g6]) (by refine Wk.of ?_ ?_ (by simp) <;> repeat' (first | exact kb | exact km | (first | exact True.intro | exact ⟨_, rfl, Jtmp rfl⟩ | exact ⟨_, rfl, Jtmn rfl⟩ | exact ⟨_, rfl, .inl .nild⟩ | exact ⟨_, rfl, .inl .nile⟩ | exact ⟨_, rfl, Jtmo⟩ | exact Jtmp rfl | exact Jtmn rfl | exact .inl .nild | exact .inl .nile | exact Jtmo | exact WkB.same rfl | exact Jt4g | exact Jt4e | exact .dead _ | exact .iter _ _ | exact .glob _ _ | refine Jt4c ?_ ?_ | refine And.intro ?_ ?_)))
       ·have g6b : (y == x) = false := by simpa using g6
        (simp (maxSteps := 1000000) [p1, p2, hj1, hj2, hjw, g5, g5i, hvx, hvx2, hvx3, hm, intRow, hy2, hy3, g6, g6b])
        exact fin _ false (by simp [p3, g5, g6]) (by refine Wk.of ?_ ?_ (by simp) <;> repeat' (first | exact kb | exact km | (first | exact True.intro | exact ⟨_, rfl, Jtmp rfl⟩ | exact ⟨_, rfl, Jtmn rfl⟩ | exact ⟨_, rfl, .inl .nild⟩ | exact ⟨_, rfl, .inl .nile⟩ | exact ⟨_, rfl, Jtmo⟩ | exact Jtmp rfl | exact Jtmn rfl | exact .inl .nild | exact .inl .nile | exact Jtmo | exact WkB.same rfl | exact Jt4g | exact Jt4e | exact .dead _ | exact .iter _ _ | exact .glob _ _ | refine Jt4c ?_ ?_ | refine And.intro ?_ ?_)))
      ·have g5i : ¬ (j : Int) < (sl.length : Int) := by omega
       (simp (maxSteps := 1000000) [p1, p2, hj1, hj2, hjw, g5, g5i, hvx, hvx2, hvx3, hm, intRow])
       exact fin _ false (by simp [p3, g5]) (by refine Wk.of ?_ ?_ (by simp) <;> repeat' (first | exact kb | exact km | (first | exact True.intro | exact ⟨_, rfl, Jtmp rfl⟩ | exact ⟨_, rfl, Jtmn rfl⟩ | exact ⟨_, rfl, .inl .nild⟩ | exact ⟨_, rfl, .inl .nile⟩ | exact ⟨_, rfl, Jtmo⟩ | exact Jtmp rfl | exact Jtmn rfl | exact .inl .nild | exact .inl .nile | exact Jtmo | exact WkB.same rfl | exact Jt4g | exact Jt4e | exact .dead _ | exact .iter _ _ | exact .glob _ _ | refine Jt4c ?_ ?_ | refine And.intro ?_ ?_)))
    cases hh : hitZ vr mr sl v l with
    | false =>
     (simp (maxSteps := 1000000) [wl])
     exact hN' _ (l + 1, n', M) ⟨by simp only; omega, by simp only; omega, by simp only; omega, j4⟩ (by refine Wk.of ?_ ?_ (by simp) <;> repeat' (first | exact kb | exact km | (first | exact True.intro | exact ⟨_, rfl, Jtmp rfl⟩ | exact ⟨_, rfl, Jtmn rfl⟩ | exact ⟨_, rfl, .inl .nild⟩ | exact ⟨_, rfl, .inl .nile⟩ | exact ⟨_, rfl, Jtmo⟩ | exact Jtmp rfl | exact Jtmn rfl | exact .inl .nild | exact .inl .nile | exact Jtmo | exact WkB.same rfl | exact Jt4g | exact Jt4e | exact .dead _ | exact .iter _ _ | exact .glob _ _ | refine Jt4c ?_ ?_ | refine And.intro ?_ ?_))) (by simp only; omega)
    | true =>
     have hhold := Jta3 g3 hh
     (simp (maxSteps := 1000000) [])
     rw [Je53]
     obtain ⟨kp, hkp⟩ : ∃ k, k = !(dr.getD n' false) := ⟨_, rfl⟩
     refine Jte ⟨[(125, AB kp), (16, AI l), (15, AI v), (14, AI n'), (13, .own 2 (M.map Pair.row)), (2, .d (.sl (vr.map intRow))), (3, .d (.sl (mr.map intRow))), (4, .d (.sl (sl.map intRow))), (5, .d (.sl (dr.map Jt63))), (6, .ptr 0 0), (7, .ptr 1 0)], [bB, mB]⟩ (fun N2 hN2 => ?_) ?_
     ·have fin : ∀ (st' : ASt) (x : Bool), x = !(dr.getD n' false) → Wk 0 st' ⟨[(125, AB x), (16, AI l), (15, AI v), (14, AI n'), (13, .own 2 (M.map Pair.row)), (2, .d (.sl (vr.map intRow))), (3, .d (.sl (mr.map intRow))), (4, .d (.sl (sl.map intRow))), (5, .d (.sl (dr.map Jt63))), (6, .ptr 0 0), (7, .ptr 1 0)], [bB, mB]⟩ → N2 st' := fun st' x hx h => hN2 st' (by rw [hkp, ← hx]; exact h)
      by_cases g4 : n' < dr.length
      ·have g4i : ¬ (dr.length : Int) ≤ (n' : Int) := by omega
       obtain ⟨y, hy⟩ : ∃ x, x = dr.getD n' false := ⟨_, rfl⟩
       have hy1 : (dr.map Jt63)[n']? = some [D.bool y] := by rw [hy]; simp [Jt63, g4, List.getD_eq_getElem?_getD]
       have hy2 : dr[n']? = some y := by rw [hy]; simp [g4, List.getD_eq_getElem?_getD]
       have hy3 : ∀ h, dr[n']'h = y := fun h => by rw [hy]; simp [g4, List.getD_eq_getElem?_getD]
       rw [← hy] at fin
       (simp (maxSteps := 1000000) [g4, g4i, hy1, hy2, hy3, Jt63])
       exact fin _ (!y) rfl (by refine Wk.of ?_ ?_ (by simp) <;> repeat' (first | exact kb | exact km | (first | exact True.intro | exact ⟨_, rfl, Jtmp rfl⟩ | exact ⟨_, rfl, Jtmn rfl⟩ | exact ⟨_, rfl, .inl .nild⟩ | exact ⟨_, rfl, .inl .nile⟩ | exact ⟨_, rfl, Jtmo⟩ | exact Jtmp rfl | exact Jtmn rfl | exact .inl .nild | exact .inl .nile | exact Jtmo | exact WkB.same rfl | exact Jt4g | exact Jt4e | exact .dead _ | exact .iter _ _ | exact .glob _ _ | refine Jt4c ?_ ?_ | refine And.intro ?_ ?_)))
      ·have g4i : (dr.length : Int) ≤ (n' : Int) := by omega
       have g4n : dr.length ≤ n' := by omega
       (simp (maxSteps := 1000000) [g4, g4i, g4n])
       exact fin _ true (by simp [List.getD_eq_getElem?_getD, List.getElem?_eq_none g4n]) (by refine Wk.of ?_ ?_ (by simp) <;> repeat' (first | exact kb | exact km | (first | exact True.intro | exact ⟨_, rfl, Jtmp rfl⟩ | exact ⟨_, rfl, Jtmn rfl⟩ | exact ⟨_, rfl, .inl .nild⟩ | exact ⟨_, rfl, .inl .nile⟩ | exact ⟨_, rfl, Jtmo⟩ | exact Jtmp rfl | exact Jtmn rfl | exact .inl .nild | exact .inl .nile | exact Jtmo | exact WkB.same rfl | exact Jt4g | exact Jt4e | exact .dead _ | exact .iter _ _ | exact .glob _ _ | refine Jt4c ?_ ?_ | refine And.intro ?_ ?_)))
     cases kp with
     | false =>
      (simp (maxSteps := 1000000) [wl, wn])
      exact hN' _ (l + 1, n' + 1, M) ⟨by simp only; omega, by simp only; omega, by simp only; omega, j4⟩ (by refine Wk.of ?_ ?_ (by simp) <;> repeat' (first | exact kb | exact km | (first | exact True.intro | exact ⟨_, rfl, Jtmp rfl⟩ | exact ⟨_, rfl, Jtmn rfl⟩ | exact ⟨_, rfl, .inl .nild⟩ | exact ⟨_, rfl, .inl .nile⟩ | exact ⟨_, rfl, Jtmo⟩ | exact Jtmp rfl | exact Jtmn rfl | exact .inl .nild | exact .inl .nile | exact Jtmo | exact WkB.same rfl | exact Jt4g | exact Jt4e | exact .dead _ | exact .iter _ _ | exact .glob _ _ | refine Jt4c ?_ ?_ | refine And.intro ?_ ?_))) (by simp only; omega)
     | true =>
      (simp (maxSteps := 1000000) [])
      (refine Jt1b (by rfl) (by rfl) (by rfl) ?_ (by decide) ?_ ?_ ?_)
      ·simp
      ·simp; omega
      ·simp; omega
      (simp (maxSteps := 1000000) [wl, wn])
      exact hN' _ (l + 1, n' + 1, M ++ [⟨v, l⟩]) ⟨by simp only; omega, by simp only; omega, by simp; omega, by
       intro q hq
       rcases List.mem_append.1 hq with hq | hq
       ·exact j4 q hq
       ·rw [List.mem_singleton.1 hq]; exact hhold⟩ (by simp only [List.map_append, List.map_cons, List.map_nil, Pair.row]; refine Wk.of ?_ ?_ (by simp) <;> repeat' (first | exact kb | exact km | (first | exact True.intro | exact ⟨_, rfl, Jtmp rfl⟩ | exact ⟨_, rfl, Jtmn rfl⟩ | exact ⟨_, rfl, .inl .nild⟩ | exact ⟨_, rfl, .inl .nile⟩ | exact ⟨_, rfl, Jtmo⟩ | exact Jtmp rfl | exact Jtmn rfl | exact .inl .nild | exact .inl .nile | exact Jtmo | exact WkB.same rfl | exact Jt4g | exact Jt4e | exact .dead _ | exact .iter _ _ | exact .glob _ _ | refine Jt4c ?_ ?_ | refine And.intro ?_ ?_))) (by simp only; omega)
   (simp (maxSteps := 1000000) [g1, g2, w2, wv])
   exact hN _ (v + 1, n', M) ⟨by simp only; omega, by simp only; omega, by simp only; omega, j4⟩ (by refine Wk.of ?_ ?_ (by simp) <;> repeat' (first | exact kb | exact km | (first | exact True.intro | exact ⟨_, rfl, Jtmp rfl⟩ | exact ⟨_, rfl, Jtmn rfl⟩ | exact ⟨_, rfl, .inl .nild⟩ | exact ⟨_, rfl, .inl .nile⟩ | exact ⟨_, rfl, Jtmo⟩ | exact Jtmp rfl | exact Jtmn rfl | exact .inl .nild | exact .inl .nile | exact Jtmo | exact WkB.same rfl | exact Jt4g | exact Jt4e | exact .dead _ | exact .iter _ _ | exact .glob _ _ | refine Jt4c ?_ ?_ | refine And.intro ?_ ?_))) (by simp only; omega)
  ·have ev : v = 20 := by omega
   subst ev
   have ck := hck L i4 (by omega)
   have bt := @Jt65 P p A R hR ⟨code, ⟨kind, ta, to, els⟩⟩ ⟨mcode, ⟨mkind, mta, mto, mels⟩⟩ L vr mr sl hro hp hv i4
   obtain ⟨T, hT⟩ : ∃ x, x = checkZ ⟨code, ⟨kind, ta, to, els⟩⟩ ⟨mcode, ⟨mkind, mta, mto, mels⟩⟩ L 1000000 := ⟨_, rfl⟩
   rw [← hT] at ck bt
   obtain ⟨out, err, at_, steps, lg⟩ := T
   simp only [Res.av, pairsD] at ck
   simp only at bt
   have iL : L.length < 100000 := by omega
   clear hck hN i1 i2 i3 hr aw
   subst hbB hmB
   (simp (maxSteps := 1000000) [])
   (refine Jty ck (by rfl) (by rfl) ?_)
   by_cases he : err = 0
   ·(simp (maxSteps := 1000000) [he])
    refine Jtd (fun z : Nat × Nat × Nat × List Blk => ⟨[(21, AI z.1), (18, .ptr 3 0), (20, .ptr 5 0), (19, .ptr 4 0), (17, .ptr 2 0), (2, .d (.sl (vr.map intRow))), (3, .d (.sl (mr.map intRow))), (4, .d (.sl (sl.map intRow))), (6, .ptr 0 0), (7, .ptr 1 0)],
     .mem [AV.d (D.sl cB), AI kind, AI ta, AI to, AI els] :: .mem [AV.d (D.sl cM), AI mkind, AI mta, AI mto, AI mels] :: .mem [AV.d (D.sl (List.map Pair.row out)), AI 0, AI at_, AI (steps : Int), AI (lg : Int)] :: .mem [AI 3, AI 0, AI 0, AI 0] ::
     .mem [AI 0, AI 20, cellF z.1 z.2.1] :: .mem [AI 0, AI (mr.length : Int), AI (sl.length : Int), cellF z.1 z.2.2.1] :: z.2.2.2⟩)
     (fun z => z.1 ≤ 31 ∧ (z.1 = 0 → z.2.2.2 = []) ∧ (0 < z.1 → TwoX z.1 z.1 z.2.1 z.2.2.1 z.2.2.2)) (fun z => 31 - z.1) (0, 0, 0, []) (by simp) (by (exact wkA)) ?_
    rintro ⟨k, i, j, X⟩ ⟨i1, i2, i3⟩ N hN
    simp only at i1 i2 i3 hN
    (simp (maxSteps := 1000000) [])
    by_cases g7 : k < 31
    ·have g7i : (k : Int) < 31 := by omega
     have hw := Jtmv (k := k) (by omega)
     cases k with
     | zero =>
      have i2 := i2 rfl
      subst i2
      (simp (maxSteps := 1000000) [cellF])
      refine Jt18 (ys := [rrow]) (.inr (by rfl)) (by rfl) (by simp [rrow]) (by decide) (by simp) (by simp) (by simp) ?_
      (simp (maxSteps := 1000000) [hw])
      refine Jt18 (ys := [rrow]) (.inr (by rfl)) (by rfl) (by simp [rrow]) (by decide) (by simp) (by simp) (by simp) ?_
      (simp (maxSteps := 1000000) [hw])
      exact hN _ (0 + 1, 0, 1, [.mem (Jtiw [rrow]), .mem (Jtiw [rrow])]) ⟨by simp, by simp, fun _ => TwoX.s0 rfl rfl⟩ (by simp only [cellF]; (exact wkA)) (by simp)
     | succ k =>
      have hX := i3 (by omega)
      have hw2 : IntKind.i64.wrap ((k : Int) + 1 + 1) = (k : Int) + 1 + 1 := wrap_i64 (by omega) (by omega)
      have g7j : (k : Int) + 1 < 31 := by omega
      (simp (maxSteps := 1000000) [g7i, g7j, cellF])
      refine Jt19 (b := i + 6) (rows := repR (k + 1)) (ys := [rrow]) (by rfl) (get6.trans hX.f) (Jtik _) (Jtil _) (by omega) (by rfl) (by simp [rrow]) (by decide) (by simp) (by simp; omega) (by simp; omega) ?_ ?_
      ·simp only [set6, Jtim]
       have hY := hX.s1 (rows := repR (k + 1 + 1)) rfl
       obtain ⟨Y, hEY⟩ : ∃ W, W = X.set i (Blk.mem (Jtiw (repR (k + 1 + 1)))) := ⟨_, rfl⟩
       rw [← hEY] at hY ⊢
       (simp (maxSteps := 1000000) [])
       refine Jt19 (b := j + 6) (rows := repR (k + 1)) (ys := [rrow]) (by rfl) (get6.trans hY.g) (Jtik _) (Jtil _) (by omega) (by rfl) (by simp [rrow]) (by decide) (by simp) (by simp; omega) (by simp; omega) ?_ ?_
       ·simp only [set6, Jtim]
        have hz := hY.s3 (rows := repR (k + 1 + 1)) rfl
        obtain ⟨z, hEz⟩ : ∃ W, W = Y.set j (Blk.mem (Jtiw (repR (k + 1 + 1)))) := ⟨_, rfl⟩
        rw [← hEz] at hz ⊢
        have li := hz.li
        have lj := hz.lj
        (simp (maxSteps := 1000000) [hw2])
        exact hN _ (k + 1 + 1, i, j, z) ⟨by simp only; omega, by simp, fun _ => hz⟩ (by simp only [cellF]; refine Wk.of ?_ ?_ (by simp) <;> repeat' (first | exact Jt4i hz.all | (first | exact True.intro | exact ⟨_, rfl, Jtmp rfl⟩ | exact ⟨_, rfl, Jtmn rfl⟩ | exact ⟨_, rfl, .inl .nild⟩ | exact ⟨_, rfl, .inl .nile⟩ | exact ⟨_, rfl, Jtmo⟩ | exact Jtmp rfl | exact Jtmn rfl | exact .inl .nild | exact .inl .nile | exact Jtmo | exact WkB.same rfl | exact Jt4g | exact Jt4e | exact .dead _ | exact .iter _ _ | exact .glob _ _ | refine Jt4c ?_ ?_ | refine And.intro ?_ ?_) | exact Jtmp (by simp only [AV.ren, List.length_cons]; rw [if_pos (by omega)]))) (by simp only; omega)
       ·simp only [List.cons_append, Jtim]
        have hz := hY.s4 (rows := repR (k + 1 + 1)) rfl
        obtain ⟨z, hEz⟩ : ∃ W, W = Y ++ [Blk.mem (Jtiw (repR (k + 1 + 1)))] := ⟨_, rfl⟩
        rw [← hEz] at hz ⊢
        have li := hz.li
        have lj := hz.lj
        (simp (maxSteps := 1000000) [hw2])
        exact hN _ (k + 1 + 1, i, Y.length, z) ⟨by simp only; omega, by simp, fun _ => hz⟩ (by simp only [cellF]; refine Wk.of ?_ ?_ (by simp) <;> repeat' (first | exact Jt4i hz.all | (first | exact True.intro | exact ⟨_, rfl, Jtmp rfl⟩ | exact ⟨_, rfl, Jtmn rfl⟩ | exact ⟨_, rfl, .inl .nild⟩ | exact ⟨_, rfl, .inl .nile⟩ | exact ⟨_, rfl, Jtmo⟩ | exact Jtmp rfl | exact Jtmn rfl | exact .inl .nild | exact .inl .nile | exact Jtmo | exact WkB.same rfl | exact Jt4g | exact Jt4e | exact .dead _ | exact .iter _ _ | exact .glob _ _ | refine Jt4c ?_ ?_ | refine And.intro ?_ ?_) | exact Jtmp (by simp only [AV.ren, List.length_cons]; rw [if_pos (by omega)]))) (by simp only; omega)
      ·simp only [List.cons_append, Jtim]
       have hY := hX.s2 (rows := repR (k + 1 + 1)) rfl
       obtain ⟨Y, hEY⟩ : ∃ W, W = X ++ [Blk.mem (Jtiw (repR (k + 1 + 1)))] := ⟨_, rfl⟩
       rw [← hEY] at hY ⊢
       have lX := hX.li
       (simp (maxSteps := 1000000) [])
       refine Jt19 (b := j + 6) (rows := repR (k + 1)) (ys := [rrow]) (by rfl) (get6.trans hY.g) (Jtik _) (Jtil _) (by omega) (by rfl) (by simp [rrow]) (by decide) (by simp) (by simp; omega) (by simp; omega) ?_ ?_
       ·simp only [set6, Jtim]
        have hz := hY.s3 (rows := repR (k + 1 + 1)) rfl
        obtain ⟨z, hEz⟩ : ∃ W, W = Y.set j (Blk.mem (Jtiw (repR (k + 1 + 1)))) := ⟨_, rfl⟩
        rw [← hEz] at hz ⊢
        have li := hz.li
        have lj := hz.lj
        (simp (maxSteps := 1000000) [hw2])
        exact hN _ (k + 1 + 1, X.length, j, z) ⟨by simp only; omega, by simp, fun _ => hz⟩ (by simp only [cellF]; refine Wk.of ?_ ?_ (by simp) <;> repeat' (first | exact Jt4i hz.all | (first | exact True.intro | exact ⟨_, rfl, Jtmp rfl⟩ | exact ⟨_, rfl, Jtmn rfl⟩ | exact ⟨_, rfl, .inl .nild⟩ | exact ⟨_, rfl, .inl .nile⟩ | exact ⟨_, rfl, Jtmo⟩ | exact Jtmp rfl | exact Jtmn rfl | exact .inl .nild | exact .inl .nile | exact Jtmo | exact WkB.same rfl | exact Jt4g | exact Jt4e | exact .dead _ | exact .iter _ _ | exact .glob _ _ | refine Jt4c ?_ ?_ | refine And.intro ?_ ?_) | exact Jtmp (by simp only [AV.ren, List.length_cons]; rw [if_pos (by omega)]))) (by simp only; omega)
       ·simp only [List.cons_append, Jtim]
        have hz := hY.s4 (rows := repR (k + 1 + 1)) rfl
        obtain ⟨z, hEz⟩ : ∃ W, W = Y ++ [Blk.mem (Jtiw (repR (k + 1 + 1)))] := ⟨_, rfl⟩
        rw [← hEz] at hz ⊢
        have li := hz.li
        have lj := hz.lj
        (simp (maxSteps := 1000000) [hw2])
        exact hN _ (k + 1 + 1, X.length, Y.length, z) ⟨by simp only; omega, by simp, fun _ => hz⟩ (by simp only [cellF]; refine Wk.of ?_ ?_ (by simp) <;> repeat' (first | exact Jt4i hz.all | (first | exact True.intro | exact ⟨_, rfl, Jtmp rfl⟩ | exact ⟨_, rfl, Jtmn rfl⟩ | exact ⟨_, rfl, .inl .nild⟩ | exact ⟨_, rfl, .inl .nile⟩ | exact ⟨_, rfl, Jtmo⟩ | exact Jtmp rfl | exact Jtmn rfl | exact .inl .nild | exact .inl .nile | exact Jtmo | exact WkB.same rfl | exact Jt4g | exact Jt4e | exact .dead _ | exact .iter _ _ | exact .glob _ _ | refine Jt4c ?_ ?_ | refine And.intro ?_ ?_) | exact Jtmp (by simp only [AV.ren, List.length_cons]; rw [if_pos (by omega)]))) (by simp only; omega)
    ·have ek : k = 31 := by omega
     subst ek
     have hX := i3 (by omega)
     have gf := hX.f
     have gg := hX.g
     have gn := hX.ne
     have gl := hX.li
     have gm := hX.lj
     rw [Jtij] at gf gg
     have l31 : (Jtiw (fRow 31)).length = 155 := by rw [Jtj2 (Jt8d 31), Jt8f (Nat.le_refl _)]
     have eF : (AV.d (D.sl cB) :: AI kind :: AI ta :: AI to :: AI els :: List.drop 5 (Jtiw (fRow 31))) = Jtiw FB := by
      have := Jtkh (rows := fRow 31) (e := 5) (k := 0) (row := [D.sl cB, I kind, I ta, I to, I els]) (Jt8d 31) rfl (by rw [Jt8f (Nat.le_refl _)]; decide)
      rw [hF, ← this]; rfl
     have eG : (AV.d (D.sl cM) :: AI mkind :: AI mta :: AI mto :: AI mels :: List.drop 5 (Jtiw (fRow 31))) = Jtiw GB := by
      have := Jtkh (rows := fRow 31) (e := 5) (k := 0) (row := [D.sl cM, I mkind, I mta, I mto, I mels]) (Jt8d 31) rfl (by rw [Jt8f (Nat.le_refl _)]; decide)
      rw [hG, ← this]; rfl
     have lF : FB.length = 31 := by rw [hF]; simp [fRow]
     have lG : GB.length = 31 := by rw [hG]; simp [fRow]
     have rF : ∀ r ∈ FB, r.length = 5 := by
      intro r hr
      rw [hF] at hr
      rcases List.mem_or_eq_of_mem_set hr with h | h
      ·exact Jt8d 31 r h
      ·rw [h]; rfl
     have rG : ∀ r ∈ GB, r.length = 5 := by
      intro r hr
      rw [hG] at hr
      rcases List.mem_or_eq_of_mem_set hr with h | h
      ·exact Jt8d 31 r h
      ·rw [h]; rfl
     obtain ⟨c31, hc31⟩ : ∃ x, x = Jtiw (fRow 31) := ⟨_, rfl⟩
     rw [← hc31] at gf gg l31 eF eG
     have l5 : 5 ≤ c31.length := by omega
     (simp (maxSteps := 1000000) [cellF, gf, l5, eF])
     refine bt (e4 := 0) (e5 := at_) (e6 := (steps : Int)) (e7 := (lg : Int)) (k1 := kind) (k2 := ta) (k3 := to) (k4 := els) (j1 := mkind) (j2 := mta) (j3 := mto) (j4 := mels) he iL rfl _ rfl hFB hGB lcB lcM (fun N hN => ?_)
     have gg2 : (X.set i (Blk.mem (Jtiw FB)))[j]? = some (.mem c31) := by rw [List.getElem?_set_ne gn]; exact gg
     obtain ⟨Y, hY⟩ : ∃ Y, Y = X.set i (Blk.mem (Jtiw FB)) := ⟨_, rfl⟩
     have gY : Y[i]? = some (.mem (Jtiw FB)) := by rw [hY, List.getElem?_set_self gl]
     rw [← hY] at gg2 ⊢
     (simp (maxSteps := 1000000) [gg2, l5, eG])
     have gZ : (Y.set j (Blk.mem (Jtiw GB)))[i]? = some (.mem (Jtiw FB)) := by rw [List.getElem?_set_ne (fun h => gn h.symm)]; exact gY
     have gW : (Y.set j (Blk.mem (Jtiw GB)))[j]? = some (.mem (Jtiw GB)) := by rw [List.getElem?_set_self (List.getElem?_eq_some_iff.1 gg2).1]
     obtain ⟨Z, hZ⟩ : ∃ Z, Z = Y.set j (Blk.mem (Jtiw GB)) := ⟨_, rfl⟩
     rw [← hZ] at gZ gW ⊢
     refine hN _ ?_
     simp only [blkB]
     refine Wk.of ?_ ?_ (by simp) <;> repeat' (first | (first | exact True.intro | exact ⟨_, rfl, Jtmp rfl⟩ | exact ⟨_, rfl, Jtmn rfl⟩ | exact ⟨_, rfl, .inl .nild⟩ | exact ⟨_, rfl, .inl .nile⟩ | exact ⟨_, rfl, Jtmo⟩ | exact Jtmp rfl | exact Jtmn rfl | exact .inl .nild | exact .inl .nile | exact Jtmo | exact WkB.same rfl | exact Jt4g | exact Jt4e | exact .dead _ | exact .iter _ _ | exact .glob _ _ | refine Jt4c ?_ ?_ | refine And.intro ?_ ?_) | (cases Z <;> exact True.intro) | exact Jt4l (get6.trans gZ) (Nat.le_add_left 6 i) lF rF | exact Jt4l (get6.trans gW) (Nat.le_add_left 6 j) lG rG)
   ·have heb := bne0 he
    (simp (maxSteps := 1000000) [he, heb])
    (first | exact hR _ _ FrA | exact hR _ _ FnA)
end
end Go.AE
