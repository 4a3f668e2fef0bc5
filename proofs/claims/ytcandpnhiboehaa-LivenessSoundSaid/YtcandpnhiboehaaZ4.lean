/- A part of the proof: the evaluator over abstract values, its codes, the contracts of the functions. -/
import Derived.Test.YtcandpnhiboehaaZ3
import Derived.Shelf.Sort.Plain
import Derived.Sort.OwnSortedInts
set_option linter.unusedVariables false
set_option linter.unusedSimpArgs false
set_option maxRecDepth 4000
namespace Go.AE
open Go
inductive RowsF (code : List Instr) (mach : List Mach) : Nat → Nat → List ARow → Prop
 | last {i k : Nat} : skipW isCopy code i = code.length → skipW isMove mach k = mach.length → RowsF code mach i k [⟨i, skipW isCopy code i, k, skipW isMove mach k, -1, -1⟩]
 | next {i k : Nat} {x : Instr} {y : Mach} {rest : List ARow} : code[skipW isCopy code i]? = some x → mach[skipW isMove mach k]? = some y → sameI x y = true → RowsF code mach (skipW isCopy code i + 1) (skipW isMove mach k + 1) rest →
   RowsF code mach i k (⟨i, skipW isCopy code i, k, skipW isMove mach k, skipW isCopy code i, skipW isMove mach k⟩ :: rest)
end Go.AE
set_option maxRecDepth 4000
namespace Go.AE
open Go
structure Acc (c : Cert) (n n1 n2 : Nat) : Prop where
 src : ∀ b ∈ c.S.blocks, ∀ i ∈ b.code, (1 ≤ i.op ∧ i.op ≤ 17) ∧ InOk n i
 sterm : ∀ b ∈ c.S.blocks, OkT b.term n c.S.blocks.length
 mac : OkG c.T n1 n2
 dst : ∀ b ∈ c.T.blocks, ∀ x ∈ b.code, 0 ≤ x.dst
 runs : ∀ b ∈ c.T.blocks, ∀ j, j < b.code.length → ¬ 64 < runF (b.code.take (j + 1))
 small : n1 ≤ 1000000
 lenT : c.T.blocks.length = c.S.blocks.length
 lenW : c.W.length = c.S.blocks.length
 w : ∀ l ∈ c.W, Srt l ∧ ∀ q ∈ l, 0 ≤ q.v ∧ 0 ≤ q.l
 blk : ∀ i, i < c.S.blocks.length → blkOk c i = true
end Go.AE
set_option maxRecDepth 4000
namespace Go.AE
open Go
structure EndC (r m : RunZ) : Prop where
 state : m.state = 1
 value : m.value = r.value
 trace : m.trace = r.trace
end Go.AE
set_option maxRecDepth 4000
namespace Go.AE
open Go
end Go.AE
set_option maxRecDepth 4000
namespace Go.AE
open Go
theorem Jtbi (l : List Int) : ∀ r ∈ l.map intRow, r.length = 1 := Jth9 fun x => rfl
section
theorem Jtfx {P : Program} {p : Nums} (A : All P p) (r : RunZ) (h0 : r.regs.length < 1000000000) (h1 : r.slots.length < 1000000000) (h2 : r.trace.length < 1000000000) : Jt4n P p.ref09_Copy [r.av] [] fun o H' => o = .ret (.agg [AI r.state, AI r.block, AI r.at_, AI r.value, .d (intsD r.regs), .d (intsD r.slots), .d (intsD r.trace), AI r.steps]) ∧ H' = [] := by
 refine A.ref09_Copy.run rfl fun R hR => ?_
 obtain ⟨state, block, at_, value, regs, slots, trace, steps⟩ := r
 have lr := Jtbi regs
 have ls := Jtbi slots
 have lt := Jtbi trace
 have nr : (regs.map intRow).length = regs.length := by simp
 have ns : (slots.map intRow).length = slots.length := by simp
 have nt : (trace.map intRow).length = trace.length := by simp
 simp only at h0 h1 h2 hR
 simp only [intsD] at hR
 obtain ⟨RR, hRR⟩ : ∃ X, X = regs.map intRow := ⟨_, rfl⟩
 obtain ⟨SS, hSS⟩ : ∃ X, X = slots.map intRow := ⟨_, rfl⟩
 obtain ⟨TT, hTT⟩ : ∃ X, X = trace.map intRow := ⟨_, rfl⟩
 rw [← hRR] at hR lr nr
 rw [← hSS] at hR ls ns
 rw [← hTT] at hR lt nt
 (simp (maxSteps := 1000000) [Jtax, RunZ.av, intsD])
 simp only [← hRR, ← hSS, ← hTT]
 all_goals refine Jt1h (by rfl) (by rfl) lr (by decide) (by omega) (by omega) (fun hnr => ?_) (fun hnr => ?_)
 all_goals (simp (maxSteps := 1000000) [])
 all_goals refine Jt1h (by rfl) (by rfl) ls (by decide) (by omega) (by omega) (fun hns => ?_) (fun hns => ?_)
 all_goals (simp (maxSteps := 1000000) [])
 all_goals refine Jt1h (by rfl) (by rfl) lt (by decide) (by omega) (by omega) (fun hnt => ?_) (fun hnt => ?_)
 all_goals (simp (maxSteps := 1000000) [])
 all_goals (
  refine hR _ _ (Jt4r _ (.agg [AI state, AI block, AI at_, AI value, .d (.sl RR), .d (.sl SS), .d (.sl TT), AI steps]) [] rfl ?_ ⟨?_, rfl⟩)
  ·(try simp only [hnr])
   (try simp only [hns])
   (try simp only [hnt])
   (try simp only [nr, ns, nt])
   refine Wk.of ⟨⟨_, rfl, .inl (by (exact wkvA))⟩, trivial⟩ ?_ (by simp) <;> repeat' (first | exact True.intro | exact ⟨_, rfl, Jtka rfl⟩ | exact ⟨_, rfl, Jtk8 rfl⟩ | exact ⟨_, rfl, .inl .nild⟩ | exact ⟨_, rfl, .inl .nile⟩ | exact ⟨_, rfl, Jtk9⟩ | exact Jtka rfl | exact Jtk8 rfl | exact .inl .nild | exact .inl .nile | exact Jtk9 | exact WkB.same rfl | exact Jt53 | exact Jt52 | exact .dead _ | exact .iter _ _ | exact .glob _ _ | refine Jt51 ?_ ?_ | refine And.intro ?_ ?_)
  ·rfl)
theorem Jtfy {P : Program} {p : Nums} (A : All P p) (r : RunZ) (hne : r.regs ≠ []) (h0 : r.regs.length < 1000000000) (h1 : r.slots.length < 1000000000) (h2 : r.trace.length < 1000000000) : Jt4n P p.ref09_Copy [r.av] [] fun o H' => o = .ret (.agg [AI r.state, AI r.block, AI r.at_, AI r.value, .hsl 3 0 1 r.regs.length, .d (intsD r.slots), .d (intsD r.trace), AI r.steps]) ∧ H' = [.dead, .dead, .dead, .mem (Jth2 (r.regs.map intRow))] := by
 refine A.ref09_Copy.run rfl fun R hR => ?_
 obtain ⟨state, block, at_, value, regs, slots, trace, steps⟩ := r
 have lr := Jtbi regs
 have ls := Jtbi slots
 have lt := Jtbi trace
 have nr : (regs.map intRow).length = regs.length := by simp
 have ns : (slots.map intRow).length = slots.length := by simp
 have nt : (trace.map intRow).length = trace.length := by simp
 simp only at h0 h1 h2 hne hR
 have hne2 : regs.map intRow ≠ [] := by simpa using hne
 simp only [intsD] at hR
 obtain ⟨RR, hRR⟩ : ∃ X, X = regs.map intRow := ⟨_, rfl⟩
 obtain ⟨SS, hSS⟩ : ∃ X, X = slots.map intRow := ⟨_, rfl⟩
 obtain ⟨TT, hTT⟩ : ∃ X, X = trace.map intRow := ⟨_, rfl⟩
 rw [← hRR] at hR lr nr
 rw [← hSS] at hR ls ns
 rw [← hTT] at hR lt nt
 rw [← hRR] at hne2
 (simp (maxSteps := 1000000) [Jtax, RunZ.av, intsD])
 simp only [← hRR, ← hSS, ← hTT]
 all_goals refine Jt1f (.inl (by rfl)) (by rfl) lr (by decide) (by omega) (by omega) hne2 ?_
 all_goals (simp (maxSteps := 1000000) [])
 all_goals refine Jt1h (by rfl) (by rfl) ls (by decide) (by omega) (by omega) (fun hns => ?_) (fun hns => ?_)
 all_goals (simp (maxSteps := 1000000) [])
 all_goals refine Jt1h (by rfl) (by rfl) lt (by decide) (by omega) (by omega) (fun hnt => ?_) (fun hnt => ?_)
 all_goals (simp (maxSteps := 1000000) [])
 all_goals (
  refine hR _ _ (Jt4r _ (.agg [AI state, AI block, AI at_, AI value, .hsl 3 0 1 regs.length, .d (.sl SS), .d (.sl TT), AI steps]) [.dead, .dead, .dead, .mem (Jth2 RR)] rfl ?_ ⟨?_, rfl⟩)
  ·(try simp only [hnr])
   (try simp only [hns])
   (try simp only [hnt])
   (try simp only [nr, ns, nt])
   refine Wk.of ⟨⟨_, rfl, .inl (by (exact wkvA))⟩, trivial⟩ ?_ (by simp) <;> repeat' (first | exact True.intro | exact ⟨_, rfl, Jtka rfl⟩ | exact ⟨_, rfl, Jtk8 rfl⟩ | exact ⟨_, rfl, .inl .nild⟩ | exact ⟨_, rfl, .inl .nile⟩ | exact ⟨_, rfl, Jtk9⟩ | exact Jtka rfl | exact Jtk8 rfl | exact .inl .nild | exact .inl .nile | exact Jtk9 | exact WkB.same rfl | exact Jt53 | exact Jt52 | exact .dead _ | exact .iter _ _ | exact .glob _ _ | refine Jt51 ?_ ?_ | refine And.intro ?_ ?_)
  ·rfl)
theorem Jtfz {P : Program} {p : Nums} (A : All P p) (r : RunZ) (hne : r.trace ≠ []) (h0 : r.regs.length < 1000000000) (h1 : r.slots.length < 1000000000) (h2 : r.trace.length < 1000000000) : Jt4n P p.ref09_Copy [r.av] [] fun o H' => o = .ret (.agg [AI r.state, AI r.block, AI r.at_, AI r.value, .d (intsD r.regs), .d (intsD r.slots), .hsl 3 0 1 r.trace.length, AI r.steps]) ∧ H' = [.dead, .dead, .dead, .mem (Jth2 (r.trace.map intRow))] := by
 refine A.ref09_Copy.run rfl fun R hR => ?_
 obtain ⟨state, block, at_, value, regs, slots, trace, steps⟩ := r
 have lr := Jtbi regs
 have ls := Jtbi slots
 have lt := Jtbi trace
 have nr : (regs.map intRow).length = regs.length := by simp
 have ns : (slots.map intRow).length = slots.length := by simp
 have nt : (trace.map intRow).length = trace.length := by simp
 simp only at h0 h1 h2 hne hR
 have hne2 : trace.map intRow ≠ [] := by simpa using hne
 simp only [intsD] at hR
 obtain ⟨RR, hRR⟩ : ∃ X, X = regs.map intRow := ⟨_, rfl⟩
 obtain ⟨SS, hSS⟩ : ∃ X, X = slots.map intRow := ⟨_, rfl⟩
 obtain ⟨TT, hTT⟩ : ∃ X, X = trace.map intRow := ⟨_, rfl⟩
 rw [← hRR] at hR lr nr
 rw [← hSS] at hR ls ns
 rw [← hTT] at hR lt nt
 rw [← hTT] at hne2
 (simp (maxSteps := 1000000) [Jtax, RunZ.av, intsD])
 simp only [← hRR, ← hSS, ← hTT]
 all_goals refine Jt1h (by rfl) (by rfl) lr (by decide) (by omega) (by omega) (fun hnr => ?_) (fun hnr => ?_)
 all_goals (simp (maxSteps := 1000000) [])
 all_goals refine Jt1h (by rfl) (by rfl) ls (by decide) (by omega) (by omega) (fun hns => ?_) (fun hns => ?_)
 all_goals (simp (maxSteps := 1000000) [])
 all_goals refine Jt1f (.inl (by rfl)) (by rfl) lt (by decide) (by omega) (by omega) hne2 ?_
 all_goals (simp (maxSteps := 1000000) [])
 all_goals (
  refine hR _ _ (Jt4r _ (.agg [AI state, AI block, AI at_, AI value, .d (.sl RR), .d (.sl SS), .hsl 3 0 1 trace.length, AI steps]) [.dead, .dead, .dead, .mem (Jth2 TT)] rfl ?_ ⟨?_, rfl⟩)
  ·(try simp only [hnr])
   (try simp only [hns])
   (try simp only [hnt])
   (try simp only [nr, ns, nt])
   refine Wk.of ⟨⟨_, rfl, .inl (by (exact wkvA))⟩, trivial⟩ ?_ (by simp) <;> repeat' (first | exact True.intro | exact ⟨_, rfl, Jtka rfl⟩ | exact ⟨_, rfl, Jtk8 rfl⟩ | exact ⟨_, rfl, .inl .nild⟩ | exact ⟨_, rfl, .inl .nile⟩ | exact ⟨_, rfl, Jtk9⟩ | exact Jtka rfl | exact Jtk8 rfl | exact .inl .nild | exact .inl .nile | exact Jtk9 | exact WkB.same rfl | exact Jt53 | exact Jt52 | exact .dead _ | exact .iter _ _ | exact .glob _ _ | refine Jt51 ?_ ?_ | refine And.intro ?_ ?_)
  ·rfl)
theorem Jtg0 {P : Program} {p : Nums} (A : All P p) (r : RunZ) (hne : r.trace = []) (h0 : r.regs.length < 1000000000) (h1 : r.slots.length < 1000000000) (h2 : r.trace.length < 1000000000) : Jt4n P p.ref09_Copy [r.av] [] fun o H' => o = .ret (.agg [AI r.state, AI r.block, AI r.at_, AI r.value, .d (intsD r.regs), .d (intsD r.slots), .nile, AI r.steps]) ∧ H' = [] := by
 refine A.ref09_Copy.run rfl fun R hR => ?_
 obtain ⟨state, block, at_, value, regs, slots, trace, steps⟩ := r
 have lr := Jtbi regs
 have ls := Jtbi slots
 have lt := Jtbi trace
 have nr : (regs.map intRow).length = regs.length := by simp
 have ns : (slots.map intRow).length = slots.length := by simp
 have nt : (trace.map intRow).length = trace.length := by simp
 simp only at h0 h1 h2 hne hR
 subst hne
 simp only [intsD] at hR
 obtain ⟨RR, hRR⟩ : ∃ X, X = regs.map intRow := ⟨_, rfl⟩
 obtain ⟨SS, hSS⟩ : ∃ X, X = slots.map intRow := ⟨_, rfl⟩
 have hTT : True := trivial
 rw [← hRR] at hR lr nr
 rw [← hSS] at hR ls ns
 (simp (maxSteps := 1000000) [Jtax, RunZ.av, intsD])
 simp only [← hRR, ← hSS]
 all_goals refine Jt1h (by rfl) (by rfl) lr (by decide) (by omega) (by omega) (fun hnr => ?_) (fun hnr => ?_)
 all_goals (simp (maxSteps := 1000000) [])
 all_goals refine Jt1h (by rfl) (by rfl) ls (by decide) (by omega) (by omega) (fun hns => ?_) (fun hns => ?_)
 all_goals (simp (maxSteps := 1000000) [])
 all_goals refine Jt1h (by rfl) (by rfl) (ys := []) (by simp) (by decide) (by simp) (by simp) (fun hn => ?_) (fun hn => absurd rfl hn)
 all_goals (simp (maxSteps := 1000000) [])
 all_goals (
  refine hR _ _ (Jt4r _ (.agg [AI state, AI block, AI at_, AI value, .d (.sl RR), .d (.sl SS), .nile, AI steps]) [] rfl ?_ ⟨?_, rfl⟩)
  ·(try simp only [hnr])
   (try simp only [hns])
   (try simp only [hnt])
   (try simp only [nr, ns, nt])
   refine Wk.of ⟨⟨_, rfl, .inl (by (exact wkvA))⟩, trivial⟩ ?_ (by simp) <;> repeat' (first | exact True.intro | exact ⟨_, rfl, Jtka rfl⟩ | exact ⟨_, rfl, Jtk8 rfl⟩ | exact ⟨_, rfl, .inl .nild⟩ | exact ⟨_, rfl, .inl .nile⟩ | exact ⟨_, rfl, Jtk9⟩ | exact Jtka rfl | exact Jtk8 rfl | exact .inl .nild | exact .inl .nile | exact Jtk9 | exact WkB.same rfl | exact Jt53 | exact Jt52 | exact .dead _ | exact .iter _ _ | exact .glob _ _ | refine Jt51 ?_ ?_ | refine And.intro ?_ ?_)
  ·rfl)
end
theorem Jtbj {l : List Int} {n : Int} (h0 : 0 ≤ n) (h1 : n < l.length) : (l.map intRow)[n.toNat]? = some [D.int .i64 (gI l n)] := by
 have h : n.toNat < l.length := by omega
 simp [gI, intRow, h, List.getD_eq_getElem?_getD]
section
theorem Jtg5 {P : Program} {p : Nums} (A : All P p) (a b : List Int) (h0 : a.length < 1000000000) (h1 : b.length < 1000000000) : Jt4n P p.ref09_Values [.d (intsD a), .d (intsD b)] [] fun o _ => o = .ret (AB (decide (a = b))) := by
 refine A.ref09_Values.run rfl fun R hR => ?_
 (simp (maxSteps := 1000000) [Jtb2, intsD])
 by_cases hl : a.length = b.length
 ·have hlb : ((a.length : Int) != (b.length : Int)) = false := by simp [hl]
  (simp (maxSteps := 1000000) [hl, hlb])
  refine Jtd (fun k : Nat => ⟨[(5, AI k), (0, .d (.sl (a.map intRow))), (1, .d (.sl (b.map intRow)))], []⟩) (fun k => k ≤ a.length ∧ a.take k = b.take k) (fun k => a.length - k) 0 (by simp) (by (exact wkA)) ?_
  rintro k ⟨hk, hs⟩ N hN
  (simp (maxSteps := 1000000) [])
  ((first | refine Xc (fun h2 => ?_) (fun h2 => ?_) | refine Xo (fun h2 => ?_) (fun h2 => ?_)) <;> (try simp only [Xz, Xy] at h2))
  ·have hka : k < a.length := by omega
   have hkb : k < b.length := by omega
   have ga : (a.map intRow)[k]? = some [D.int .i64 a[k]] := by simp [hka, intRow]
   have gb : (b.map intRow)[k]? = some [D.int .i64 b[k]] := by simp [hkb, intRow]
   have hw := Jtkg (k := k) (by omega)
   by_cases he : a[k] = b[k]
   ·have hs' : a.take (k + 1) = b.take (k + 1) := by rw [List.take_succ_eq_append_getElem hka, List.take_succ_eq_append_getElem hkb, hs, he]
    (simp (maxSteps := 1000000) [h2, intRow, hka, hkb, he, hw])
    exact hN _ (k + 1) ⟨hka, hs'⟩ (by (exact wkA)) (by omega)
   ·have heb : (a[k] != b[k]) = true := by simpa using he
    have hne : ¬ a = b := by rintro rfl; exact he rfl
    (simp (maxSteps := 1000000) [h2, intRow, hka, hkb, he, heb])
    (first | exact hR _ _ FrA | exact hR _ _ FnA | exact hR _ _ (Xf (hq := by simp [AV.erase, AV.unview, hne]; done)))
  ·have hka : k = a.length := by omega
   subst hka
   rw [List.take_length, hl, List.take_length] at hs
   (simp (maxSteps := 1000000) [h2])
   (first | exact hR _ _ FrA | exact hR _ _ FnA | exact hR _ _ (Xf (hq := by simp [AV.erase, AV.unview, hs]; done)))
 ·have hlb : ((a.length : Int) != (b.length : Int)) = true := by simp; omega
  have hne : ¬ a = b := by rintro rfl; exact hl rfl
  (simp (maxSteps := 1000000) [hl, hlb])
  (first | exact hR _ _ FrA | exact hR _ _ FnA | exact hR _ _ (Xf (hq := by simp [AV.erase, AV.unview, hne]; done)))
end
end Go.AE
set_option maxRecDepth 8000
namespace Go.AE
open Go
structure InB (b : Block) (nr : Nat) : Prop where
 emit : ∀ i ∈ b.code, i.op = 17 → 0 ≤ i.a ∧ i.a < nr
 ops : ∀ i ∈ b.code, i.op ≠ 17 → (0 ≤ i.a ∧ i.a < nr) ∧ (0 ≤ i.b ∧ i.b < nr) ∧ (0 ≤ i.d ∧ i.d < nr)
 term : b.term.kind ≠ 1 → 0 ≤ b.term.a ∧ b.term.a < nr
 to : 0 ≤ b.term.to ∧ 0 ≤ b.term.els
def evI (i : Instr) (l : List Int) : Int × Bool := evalZ i.op (gI l i.a) (gI l i.b) i.imm
def stepB (b : Block) (r : RunZ) : RunZ :=
 if r.at_ = b.code.length then
  if b.term.kind = 3 then { r with state := 1, value := gI r.regs b.term.a, steps := r.steps + 1 }
  else { r with block := (if b.term.kind = 2 ∧ gI r.regs b.term.a = 0 then b.term.els else b.term.to).toNat, at_ := 0, steps := r.steps + 1 }
 else match b.code[r.at_]? with
  | none => r
  | some i => if i.op = 17 then { r with trace := r.trace ++ [gI r.regs i.a], at_ := r.at_ + 1, steps := r.steps + 1 }
   else if (evI i r.regs).2 = true then { r with regs := r.regs.set i.d.toNat (evI i r.regs).1, at_ := r.at_ + 1, steps := r.steps + 1 }
   else { r with state := 2 }
def stepZ (f : Func) (r : RunZ) : RunZ := if r.state ≠ 0 then r else match f.blocks[r.block]? with
 | some b => stepB b r
 | none => r
structure Small (r : RunZ) : Prop where
 regs : r.regs.length < 100000000
 slots : r.slots.length < 100000000
 trace : r.trace.length < 100000000
 steps : r.steps < 1000000000
theorem Jtgj {ρ : Nat → Option Nat} {c : List (List D)} : renB ρ [.dead, .dead, .dead, .mem (Jth2 c)] = some [.dead, .dead, .dead, .mem (Jth2 c)] := by
 have hr : renL ρ (Jth2 c) = some (Jth2 c) := renL_d _
 simp only [renB, Blk.ren, hr]
theorem Jt5f {H : List Blk} {b n : Nat} {l : List Int} (h : H[b]? = some (.mem (Jth2 (l.map intRow)))) (hn : n = l.length) : WkV H 0 (.hsl b 0 1 n) (.d (.sl (l.map intRow))) := by
 subst hn
 refine .hsl b 0 1 l.length (Jth2 (l.map intRow)) (l.map intRow) h (Nat.zero_le _) ?_ (by simp) (Jtbh _)
 rw [List.drop_zero, Nat.mul_one, ← lenI l, List.take_length]; rfl
theorem Jt5g {H : List Blk} {a b c d e x y z x' y' z' : AV} (h1 : WkV H 0 x x') (h2 : WkV H 0 y y') (h3 : WkV H 0 z z') (ha : WkV H 0 a a) (hb : WkV H 0 b b) (hc : WkV H 0 c c) (hd : WkV H 0 d d) (he : WkV H 0 e e) : WkV H 0 (.agg [a, b, c, d, x, y, z, e]) (.agg [a, b, c, d, x', y', z', e]) :=
 Jt5e ⟨ha, hb, hc, hd, h1, h2, h3, he, trivial⟩
section
set_option maxHeartbeats 2000000 in
theorem Jtg4 {P : Program} {p : Nums} (A : All P p) (f : Func) (r : RunZ) (hb : r.state = 0 → ∃ b, f.blocks[r.block]? = some b ∧ r.at_ ≤ b.code.length ∧ b.code.length < 1000000000 ∧ InB b r.regs.length) (hs : Small r) :
  Jt4n P p.ref09_Step [f.av, r.av] [] fun o _ => o = .ret (stepZ f r).av := by
 refine A.ref09_Step.run rfl fun R hR => ?_
 obtain ⟨T, hT⟩ : ∃ T, T = stepZ f r := ⟨_, rfl⟩
 rw [← hT] at hR
 unfold stepZ at hT
 have q1 := hs.regs
 have q2 := hs.slots
 have q3 := hs.trace
 have q4 := hs.steps
 have c0 := (Jtfx A r (by omega) (by omega) (by omega)).mono fun o H' h => h.1
 have cR := fun hne => Jtfy A r hne (by omega) (by omega) (by omega)
 have cT := fun hne => Jtfz A r hne (by omega) (by omega) (by omega)
 have cT0 := fun hne => (Jtg0 A r hne (by omega) (by omega) (by omega)).mono fun o H' h => h.1
 obtain ⟨state, block, at_, value, regs, slots, trace, steps⟩ := r
 have hw4 : IntKind.i64.wrap ((steps : Int) + 1) = ((steps + 1 : Nat) : Int) := Jtkg (by simp only at q4; omega)
 simp only [RunZ.av] at c0 cR cT cT0 hT hb q1 q2 q3 q4
 by_cases hst : state = 0
 ·obtain ⟨b, hbk, hat, hbl, hin⟩ := hb hst
  subst hst
  simp only [ne_eq, not_true_eq_false, if_false, hbk] at hT
  unfold stepB at hT
  obtain ⟨code, kind, ta, to, els⟩ := b
  obtain ⟨hem, hops, htm, hto⟩ := hin
  simp only at hT hat hbl hem hops htm hto
  by_cases hl : at_ = code.length
  ·rw [if_pos hl] at hT
   subst hl
   by_cases hk3 : kind = 3
   ·rw [if_pos hk3] at hT
    obtain ⟨g0, g1⟩ := htm (by omega)
    have hg := Jtbj g0 g1
    (simp (maxSteps := 1000000) [Jtb1, Func.av, RunZ.av])
    (refine Jt13 c0 (by rfl) (by rfl) ?_)
    (simp (maxSteps := 1000000) [List.getElem?_map, hbk, Block.row, hk3, hw4, intsD, g0, hg])
    refine hR _ _ (Jt4s _ _ rfl (by (exact wkvA)) ?_)
    rw [hT]; rfl
   ·rw [if_neg hk3] at hT
    have hk3b : (kind == 3) = false := by simpa using hk3
    by_cases hk2 : kind = 2
    ·obtain ⟨g0, g1⟩ := htm (by omega)
     have hg := Jtbj g0 g1
     by_cases hz : gI regs ta = 0
     ·rw [if_pos ⟨hk2, hz⟩] at hT
      have he : ((els.toNat : Nat) : Int) = els := by omega
      (simp (maxSteps := 1000000) [Jtb1, Func.av, RunZ.av])
      (refine Jt13 c0 (by rfl) (by rfl) ?_)
      (simp (maxSteps := 1000000) [List.getElem?_map, hbk, Block.row, hk3, hk3b, hk2, hw4, intsD, g0, hg, hz])
      refine hR _ _ (Jt4s _ _ rfl (by (exact wkvA)) ?_)
      rw [hT]; simp [RunZ.av, AV.erase, intsD, he]
     ·rw [if_neg (fun h => hz h.2)] at hT
      have hzb := bne0 hz
      have he : ((to.toNat : Nat) : Int) = to := by omega
      (simp (maxSteps := 1000000) [Jtb1, Func.av, RunZ.av])
      (refine Jt13 c0 (by rfl) (by rfl) ?_)
      (simp (maxSteps := 1000000) [List.getElem?_map, hbk, Block.row, hk3, hk3b, hk2, hw4, intsD, g0, hg, hz, hzb])
      refine hR _ _ (Jt4s _ _ rfl (by (exact wkvA)) ?_)
      rw [hT]; simp [RunZ.av, AV.erase, intsD, he]
    ·rw [if_neg (fun h => hk2 h.1)] at hT
     have hk2b : (kind == 2) = false := by simpa using hk2
     have he : ((to.toNat : Nat) : Int) = to := by omega
     (simp (maxSteps := 1000000) [Jtb1, Func.av, RunZ.av])
     (refine Jt13 c0 (by rfl) (by rfl) ?_)
     (simp (maxSteps := 1000000) [List.getElem?_map, hbk, Block.row, hk3, hk3b, hk2, hk2b, hw4, intsD])
     refine hR _ _ (Jt4s _ _ rfl (by (exact wkvA)) ?_)
     rw [hT]; simp [RunZ.av, AV.erase, intsD, he]
  ·rw [if_neg hl] at hT
   have hcl : at_ < code.length := by omega
   have hci : code[at_]? = some code[at_] := by simp [hcl]
   obtain ⟨i, hie⟩ : ∃ i, i = code[at_] := ⟨_, rfl⟩
   rw [← hie] at hci
   rw [hci] at hT
   simp only at hT
   have himem : i ∈ code := List.mem_of_getElem? hci
   have hlb : ((at_ : Int) == (code.length : Int)) = false := by simp; omega
   have hw3 : IntKind.i64.wrap ((at_ : Int) + 1) = ((at_ + 1 : Nat) : Int) := Jtkg (by omega)
   by_cases h17 : i.op = 17
   ·rw [if_pos h17] at hT
    obtain ⟨g0, g1⟩ := hem i himem h17
    have hg := Jtbj g0 g1
    by_cases htr : trace = []
    ·subst htr
     (simp (maxSteps := 1000000) [Jtb1, Func.av, RunZ.av])
     (refine Jt13 (cT0 rfl) (by rfl) (by rfl) ?_)
     (simp (maxSteps := 1000000) [List.getElem?_map, hbk, Block.row, hl, hlb, hci, Instr.row, h17, hw4, hw3, intsD, g0, hg])
     refine Jt1h (by rfl) (by rfl) (by simp) (by decide) (by simp) (by simp) (fun h => by simp at h) (fun _ => ?_)
     (simp (maxSteps := 1000000) [hw3, hw4])
     refine hR _ _ (Jt4s _ _ rfl (by (exact wkvA)) ?_)
     rw [hT]; simp [RunZ.av, AV.erase, intsD, intRow]
    ·have hne2 : trace.map intRow ≠ [] := by simpa using htr
     (simp (maxSteps := 1000000) [Jtb1, Func.av, RunZ.av])
     refine Jt16 [] 4 (cT htr) (by decide) (by rfl) (by rfl) (by rfl) Jtgj (by rfl) (by rfl) ?_
     (simp (maxSteps := 1000000) [List.getElem?_map, hbk, Block.row, hl, hlb, hci, Instr.row, h17, hw4, hw3, intsD, g0, hg])
     have htp : 0 < trace.length := List.length_pos_iff.2 htr
     have ht2 : trace.map intRow ++ [[D.int .i64 (gI regs i.a)]] = (trace ++ [gI regs i.a]).map intRow := by rw [List.map_append]; rfl
     refine Jt1g (b := 6) (rows := trace.map intRow) (ys := [[D.int .i64 (gI regs i.a)]]) (by rfl) (by rfl) (by simp) (Jtbh _) htp (by rfl) (by simp) (by decide) (by simp) (by simp; omega) (by simp; omega) ?_ ?_
     all_goals
      rw [ht2]
      obtain ⟨tN, htN⟩ : ∃ y, y = (trace ++ [gI regs i.a]).map intRow := ⟨_, rfl⟩
      rw [← htN]
      (simp (maxSteps := 1000000) [hw3, hw4])
      refine hR _ _ (Jt4s _ (.agg [AI 0, AI block, AI ((at_ + 1 : Nat) : Int), AI value, .d (.sl (regs.map intRow)), .d (.sl (slots.map intRow)), .d (.sl ((trace ++ [gI regs i.a]).map intRow)), AI ((steps + 1 : Nat) : Int)]) rfl ?_ ?_)
      ·exact Jt5g (.refl _ rfl) (.refl _ rfl) (Jt5f (by rw [← htN]; rfl) (by simp)) (.refl _ rfl) (.refl _ rfl) (.refl _ rfl) (.refl _ rfl) (.refl _ rfl)
      ·rw [hT]; rfl
   ·rw [if_neg h17] at hT
    have h17b : (i.op == 17) = false := by simpa using h17
    obtain ⟨⟨a0, a1⟩, ⟨b0, b1⟩, ⟨d0, d1⟩⟩ := hops i himem h17
    have hga := Jtbj a0 a1
    have hgb := Jtbj b0 b1
    have hev := Jtfl A i.op (gI regs i.a) (gI regs i.b) i.imm
    unfold evI at hT
    obtain ⟨⟨v, ok⟩, hve⟩ : ∃ x, x = evalZ i.op (gI regs i.a) (gI regs i.b) i.imm := ⟨_, rfl⟩
    rw [← hve] at hT hev
    simp only at hT hev
    cases ok with
    | false =>
     simp only [Bool.false_eq_true, if_false] at hT
     (simp (maxSteps := 1000000) [Jtb1, Func.av, RunZ.av])
     (refine Jt13 c0 (by rfl) (by rfl) ?_)
     (simp (maxSteps := 1000000) [List.getElem?_map, hbk, Block.row, hl, hlb, hci, Instr.row, h17, h17b, hw4, hw3, intsD, a0, hga, b0, hgb])
     (refine Jt13 hev (by rfl) (by rfl) ?_)
     (simp (maxSteps := 1000000) [])
     refine hR _ _ (Jt4s _ _ rfl (by (exact wkvA)) ?_)
     rw [hT]; rfl
    | true =>
     simp only [if_true] at hT
     have hrne : regs ≠ [] := by rintro rfl; simp at d1; omega
     (simp (maxSteps := 1000000) [Jtb1, Func.av, RunZ.av])
     refine Jt16 [] 4 (cR hrne) (by decide) (by rfl) (by rfl) (by rfl) Jtgj (by rfl) (by rfl) ?_
     (simp (maxSteps := 1000000) [List.getElem?_map, hbk, Block.row, hl, hlb, hci, Instr.row, h17, h17b, hw4, hw3, intsD, a0, hga, b0, hgb])
     (refine Jt13 hev (by rfl) (by rfl) ?_)
     (simp (maxSteps := 1000000) [d0, d1, hw3, hw4])
     have hsp := Jthr (v := v) d0 d1
     refine ⟨by rw [lenI]; omega, ?_⟩
     refine hR _ _ (Jt4s _ (.agg [AI 0, AI block, AI ((at_ + 1 : Nat) : Int), AI value, .d (.sl ((setI regs i.d v).map intRow)), .d (.sl (slots.map intRow)), .d (.sl (trace.map intRow)), AI ((steps + 1 : Nat) : Int)]) rfl ?_ ?_)
     ·exact Jt5g (Jt5f (b := 6) (by rw [← hsp]; simp [spl]) (by rw [Jths])) (.refl _ rfl) (.refl _ rfl) (.refl _ rfl) (.refl _ rfl) (.refl _ rfl) (.refl _ rfl) (.refl _ rfl)
     ·rw [hT]; rfl
 ·rw [if_pos hst] at hT
  have hstb : (state != 0) = true := by simpa using hst
  (simp (maxSteps := 1000000) [Jtb1, Func.av, RunZ.av])
  (refine Jt13 c0 (by rfl) (by rfl) ?_)
  (simp (maxSteps := 1000000) [hstb, intsD])
  refine hR _ _ (Jt4s _ _ rfl (by (exact wkvA)) ?_)
  rw [hT]; rfl
end
end Go.AE
set_option maxRecDepth 8000
namespace Go.AE
open Go
structure InBM (b : MBlock) (r : RunZ) : Prop where
 mv : ∀ x ∈ b.code, x.op = 18 → (LocOk r x.dst ∧ 0 ≤ x.dst) ∧ LocOk r x.src ∧ 0 ≤ x.src
 emit : ∀ i ∈ b.code, i.op = 17 → 0 ≤ i.a ∧ i.a < r.regs.length
 ops : ∀ i ∈ b.code, i.op ≠ 18 → i.op ≠ 17 → (0 ≤ i.a ∧ i.a < r.regs.length) ∧ (0 ≤ i.b ∧ i.b < r.regs.length) ∧ (0 ≤ i.d ∧ i.d < r.regs.length)
 term : b.term.kind ≠ 1 → 0 ≤ b.term.a ∧ b.term.a < r.regs.length
 to : 0 ≤ b.term.to ∧ 0 ≤ b.term.els
section
end
end Go.AE
set_option maxRecDepth 4000
namespace Go.AE
open Go
theorem Jt86 {op a a' b imm : Int} (h : usesA op = false) (h17 : op ≠ 17) : evalZ op a b imm = evalZ op a' b imm := by
 have hA : ¬ (2 ≤ op ∧ op ≤ 17) := by
  intro hc
  rw [← Bool.not_eq_true] at h
  exact h (by simp only [usesA, decide_eq_true_eq]; exact hc)
 unfold evalZ
 by_cases h1 : op = 1
 ·rw [if_pos h1, if_pos h1]
 ·iterate 2 rw [if_neg h1, if_neg (by omega), if_neg (by omega), if_neg (by omega), if_neg (by omega), if_neg (by omega), if_neg (by omega), if_neg (by omega), if_neg (by omega), if_neg (by omega), if_neg (by omega), if_neg (by omega), if_neg (by omega), if_neg (by omega), if_neg (by omega), if_neg (by omega)]
theorem Jt87 {op a b b' imm : Int} (h : usesB op = false) : evalZ op a b imm = evalZ op a b' imm := by
 have hB : ¬ (5 ≤ op ∧ op < 17) := by
  intro hc
  rw [← Bool.not_eq_true] at h
  exact h (by simp only [usesB, decide_eq_true_eq]; omega)
 unfold evalZ
 by_cases h1 : op = 1
 ·rw [if_pos h1, if_pos h1]
 by_cases h2 : op = 2
 ·rw [if_neg h1, if_pos h2, if_neg h1, if_pos h2]
 by_cases h3 : op = 3
 ·rw [if_neg h1, if_neg h2, if_pos h3, if_neg h1, if_neg h2, if_pos h3]
 by_cases h4 : op = 4
 ·rw [if_neg h1, if_neg h2, if_neg h3, if_pos h4, if_neg h1, if_neg h2, if_neg h3, if_pos h4]
 ·iterate 2 rw [if_neg h1, if_neg h2, if_neg h3, if_neg h4, if_neg (by omega), if_neg (by omega), if_neg (by omega), if_neg (by omega), if_neg (by omega), if_neg (by omega), if_neg (by omega), if_neg (by omega), if_neg (by omega), if_neg (by omega), if_neg (by omega), if_neg (by omega)]
section
variable {n n1 n2 : Nat} {m : RunZ}
end
end Go.AE
set_option maxRecDepth 4000
namespace Go.AE
open Go
end Go.AE
set_option maxRecDepth 4000
namespace Go.AE
open Go
theorem Jtjc {t : Term} {regs blocks : Int} (h : Jtgc t regs blocks = 0) : 0 ≤ t.to ∧ 0 ≤ t.els := by
 unfold Jtgc at h
 split at h
 ·split at h
  ·cases h
  rename_i k1
  split at h
  ·cases h
  rename_i k2
  simp only [inZ, Bool.not_eq_false, decide_eq_true_eq] at k1
  omega
 split at h
 ·split at h
  ·cases h
  split at h
  ·cases h
  rename_i k1
  simp only [inZ, not_or, Bool.not_eq_false, decide_eq_true_eq] at k1
  omega
 split at h
 ·split at h
  ·cases h
  split at h
  ·cases h
  omega
 ·cases h
structure OkW (f : Func) (n k : Nat) (r : RunZ) : Prop where
 regs : r.regs.length = n
 slots : r.slots = []
 block : r.block < f.blocks.length
 at_ : ∀ b, f.blocks[r.block]? = some b → r.at_ ≤ b.code.length
 steps : r.steps ≤ k
 trace : r.trace.length ≤ k
structure OkWM (g : MFunc) (n1 n2 k : Nat) (r : RunZ) : Prop where
 regs : r.regs.length = n1
 slots : r.slots.length = n2
 block : r.block < g.blocks.length
 at_ : ∀ b, g.blocks[r.block]? = some b → r.at_ ≤ b.code.length
 steps : r.steps ≤ k
 trace : r.trace.length ≤ k
theorem OkT.step {t : Term} {n k : Nat} (h : OkT t n k) (h3 : t.kind ≠ 3) (c : Prop) [Decidable c] : (if t.kind = 2 ∧ c then t.els else t.to).toNat < k := by
 split
 ·rename_i h2
  have := h.els h2.1
  omega
 ·have := h.to (by have := h.kind; omega)
  omega
def VB : List Int := (List.range 20).map fun n : Nat => (n : Int)
def LB (n1 n2 : Nat) : List Int := ((List.range n1).map fun n : Nat => 2 * (n : Int)) ++ (List.range n2).map fun n : Nat => 2 * (n : Int) + 1
theorem mem_VB {x : Int} : x ∈ VB ↔ 0 ≤ x ∧ x < 20 := by
 unfold VB
 simp only [List.mem_map, List.mem_range]
 constructor
 ·rintro ⟨n, h, rfl⟩; omega
 ·rintro ⟨h0, h1⟩; exact ⟨x.toNat, by omega, by omega⟩
def LocB (n1 n2 : Nat) (l : Int) : Prop := 0 ≤ l ∧ (l.tmod 2 = 1 → l.tdiv 2 < n2) ∧ (l.tmod 2 ≠ 1 → l.tdiv 2 < n1)
theorem mem_LB {n1 n2 : Nat} {l : Int} : l ∈ LB n1 n2 ↔ LocB n1 n2 l := by
 unfold LB LocB
 simp only [List.mem_append, List.mem_map, List.mem_range]
 constructor
 ·rintro (⟨n, h, rfl⟩ | ⟨n, h, rfl⟩)
  ·have m1 := Int.tmod_eq_emod_of_nonneg (a := 2 * (n : Int)) (b := 2) (by omega)
   have d1 := Int.tdiv_eq_ediv_of_nonneg (a := 2 * (n : Int)) (b := 2) (by omega)
   refine ⟨by omega, fun _ => by omega, fun _ => by omega⟩
  ·have m1 := Int.tmod_eq_emod_of_nonneg (a := 2 * (n : Int) + 1) (b := 2) (by omega)
   have d1 := Int.tdiv_eq_ediv_of_nonneg (a := 2 * (n : Int) + 1) (b := 2) (by omega)
   refine ⟨by omega, fun _ => by omega, fun _ => by omega⟩
 ·rintro ⟨h0, h1, h2⟩
  have m1 := Int.tmod_eq_emod_of_nonneg (b := 2) h0
  have d1 := Int.tdiv_eq_ediv_of_nonneg (b := 2) h0
  by_cases hs : l.tmod 2 = 1
  ·have := h1 hs; exact .inr ⟨(l.tdiv 2).toNat, by omega, by omega⟩
  ·have := h2 hs; exact .inl ⟨(l.tdiv 2).toNat, by omega, by omega⟩
theorem LocB.ok {n1 n2 : Nat} {l : Int} (h : LocB n1 n2 l) (q1 : n1 ≤ 1000) (q2 : n2 ≤ 1000) {m : RunZ} (h1 : m.regs.length = n1) (h2 : m.slots.length = n2) : LocOk m l := by
 obtain ⟨a, b, c⟩ := h
 have m1 := Int.tmod_eq_emod_of_nonneg (b := 2) a
 have d1 := Int.tdiv_eq_ediv_of_nonneg (b := 2) a
 have : l ≤ 100000 := by
  by_cases hs : l.tmod 2 = 1
  ·have := b hs; omega
  ·have := c hs; omega
 exact ⟨by omega, by omega, by omega, fun h => by rw [h2]; exact b h, fun h => by rw [h1]; exact c h⟩
theorem Jtgz {n1 n2 : Nat} {l : Int} (h : rngZ l (n1 : Int) (n2 : Int) = true) : LocB n1 n2 l := by
 unfold rngZ at h
 split at h
 ·rename_i k
  simp only [Bool.and_eq_true, decide_eq_true_eq] at h
  exact ⟨h.1, fun _ => h.2, fun h' => absurd k h'⟩
 ·rename_i k
  simp only [Bool.and_eq_true, decide_eq_true_eq] at h
  exact ⟨h.1, fun h' => absurd h' k, fun _ => h.2⟩
structure RightB (b : Block) (m : MBlock) (n1 n2 : Nat) : Prop where
 l1 : n1 ≤ 20
 l2 : n2 ≤ 20
 bl : b.code.length ≤ 60
 ml : m.code.length ≤ 200
 src : ∀ i ∈ b.code, Jtga i 20 = 0
 sterm : ∀ x ∈ (fnB b).blocks, OkT x.term 20 (fnB b).blocks.length ∧ 0 ≤ x.term.to ∧ 0 ≤ x.term.els
 mac : ∀ x ∈ m.code, Jtgb x n1 n2 = 0
 mterm : ∀ x ∈ (fnM m n1 n2).blocks, OkT x.term n1 (fnM m n1 n2).blocks.length ∧ 0 ≤ x.term.to ∧ 0 ≤ x.term.els
theorem RightB.inB {b : Block} {m : MBlock} {n1 n2 : Nat} (h : RightB b m n1 n2) {x : Block} (hx : x ∈ (fnB b).blocks) : InB x 20 ∧ x.code.length ≤ 60 := by
 obtain ⟨t1, t2⟩ := h.sterm x hx
 have hc : ∀ i ∈ x.code, i ∈ b.code := fun i hi => by
  rcases List.mem_cons.1 hx with rfl | hx
  ·exact hi
  ·rw [List.eq_of_mem_replicate hx] at hi; simp [retB] at hi
 have hl : x.code.length ≤ 60 := by
  rcases List.mem_cons.1 hx with rfl | hx
  ·exact h.bl
  ·rw [List.eq_of_mem_replicate hx]; simp [retB]
 have hi := fun i hi => Jtbf (n := 20) (h.src i (hc i hi)) (by decide)
 exact ⟨⟨fun i h1 _ => (hi i h1).1, fun i h1 _ => hi i h1, t1.a, t2⟩, hl⟩
theorem Jte5 {x : Mach} {n1 n2 : Nat} (h : Jtgb x (n1 : Int) (n2 : Int) = 0) (h18 : x.op = 18) : LocB n1 n2 x.dst ∧ LocB n1 n2 x.src := by
 unfold Jtgb at h
 split at h
 ·cases h
 split at h
 ·cases h
 rename_i k
 simp only [not_or, Bool.not_eq_false] at k
 exact ⟨Jtgz k.1, Jtgz k.2.1⟩
theorem RightB.vl {b : Block} {m : MBlock} {n1 n2 : Nat} (h : RightB b m n1 n2) (hp : 0 < n1) : VLOk VB (LB n1 n2) b.code m.code := by
 have z : LocB n1 n2 0 := ⟨by omega, fun h => by simp at h, fun _ => by simp; omega⟩
 refine ⟨fun i hi => mem_VB.2 (Jtbf (n := 20) (h.src i hi) (by decide)).2.2, fun x hx => ?_⟩
 have hv := h.mac x hx
 have q1 := h.l1
 by_cases h18 : x.op = 18
 ·refine ⟨mem_LB.2 (Jte5 hv h18).1, ?_⟩
  unfold Jtgb at hv
  split at hv
  ·cases hv
  split at hv
  ·cases hv
  split at hv
  ·cases hv
  rename_i k
  have : x.d = 0 := by omega
  rw [this, show regZ 0 = 0 from r0e]; exact mem_LB.2 z
 ·unfold Jtgb at hv
  split at hv
  ·cases hv
  split at hv
  ·cases hv
  rename_i k
  have hd : x.dst = 0 := by
   rcases Decidable.em (x.dst = 0) with h0 | h0
   ·exact h0
   ·exact absurd ⟨hv, .inl h0⟩ k
  have hi := (Jtbf hv hp).2.2
  simp only at hi
  refine ⟨by rw [hd]; exact mem_LB.2 z, ?_⟩
  rw [Jtge hi.1 (by omega)]
  exact mem_LB.2 (by
   have m1 := Int.tmod_eq_emod_of_nonneg (a := 2 * x.d) (b := 2) (by omega)
   have d1 := Int.tdiv_eq_ediv_of_nonneg (a := 2 * x.d) (b := 2) (by omega)
   exact ⟨by omega, fun h => by omega, fun _ => by omega⟩)
end Go.AE
set_option maxRecDepth 4000
namespace Go.AE
open Go
def defAt (b : Block) (v : Int) (k : Nat) : Bool := (b.code.take k).any fun i => usesD i.op && i.d == v
def useI (i : Instr) (v : Int) : Bool := (usesA i.op && i.a == v) || (usesB i.op && i.b == v)
def usedC (b : Block) (v : Int) (k : Nat) : Bool := (List.range k).any fun j => match b.code[j]? with
 | some i => useI i v && !defAt b v j
 | none => false
def usedZ (b : Block) (v : Int) : Bool := usedC b v b.code.length || (b.term.kind != 1 && b.term.a == v && !defAt b v b.code.length)
theorem Jt7r {b : Block} {v : Int} {k : Nat} {i : Instr} (h : b.code[k]? = some i) : defAt b v (k + 1) = (defAt b v k || (usesD i.op && i.d == v)) := by
 unfold defAt
 rw [List.take_add_one, h, List.any_append]; simp
theorem Jtk0 {b : Block} {v : Int} {k : Nat} {i : Instr} (h : b.code[k]? = some i) : usedC b v (k + 1) = (usedC b v k || (useI i v && !defAt b v k)) := by
 unfold usedC
 rw [List.range_succ, List.any_append]
 simp [h]
section
theorem Jtg6 {P : Program} {p : Nums} (A : All P p) (l : List Int) (v : Int) (h0 : l.length < 1000000000) : Jt4n P p.ref23_Has [.d (intsD l), AI v] [] fun o _ => o = .ret (AB (decide (v ∈ l))) := by
 refine A.ref23_Has.run rfl fun R hR => ?_
 (simp (maxSteps := 1000000) [Jtb3, intsD])
 refine Jtd (fun k : Nat => ⟨[(5, AI k), (0, .d (.sl (l.map intRow))), (1, AI v)], []⟩) (fun k => k ≤ l.length ∧ v ∉ l.take k) (fun k => l.length - k) 0 (by simp) (by (exact wkA)) ?_
 rintro k ⟨hk, hz⟩ N hN
 (simp (maxSteps := 1000000) [])
 ((first | refine Xc (fun h2 => ?_) (fun h2 => ?_) | refine Xo (fun h2 => ?_) (fun h2 => ?_)) <;> (try simp only [Xz, Xy] at h2))
 ·have hkl : k < l.length := by simpa using h2
  have hb : l[k]? = some l[k] := by simp
  have hw := Jtkg (k := k) (by omega)
  (simp (maxSteps := 1000000) [h2, hb, intRow])
  by_cases h3 : l[k] = v
  ·have : v ∈ l := by rw [← h3]; exact List.getElem_mem hkl
   (simp (maxSteps := 1000000) [h3])
   (first | exact hR _ _ FrA | exact hR _ _ FnA | exact hR _ _ (Xf (hq := by simp [AV.erase, AV.unview, this]; done)))
  ·have h3b : (l[k] == v) = false := by simpa using h3
   (simp (maxSteps := 1000000) [h3, h3b, hw])
   refine hN _ (k + 1) ⟨hkl, ?_⟩ (by (exact wkA)) (by omega)
   rw [List.take_add_one, hb]
   simp only [List.mem_append, not_or, hz, not_false_eq_true, true_and, Option.toList, List.mem_singleton]
   exact fun e => h3 e.symm
 ·have hk' : k = l.length := by simp at h2; omega
  subst hk'
  have : v ∉ l := by simpa using hz
  (simp (maxSteps := 1000000) [])
  (first | exact hR _ _ FrA | exact hR _ _ FnA | exact hR _ _ (Xf (hq := by simp [AV.erase, AV.unview, this]; done)))
theorem Jtfu {P : Program} {p : Nums} (A : All P p) (a b : List Int) (h0 : a.length < 1000000000) (h1 : b.length < 1000000000) : Jt4n P p.ref07_Numbers [.d (intsD a), .d (intsD b)] [] fun o _ => o = .ret (AB (decide (a = b))) := by
 refine A.ref07_Numbers.run rfl fun R hR => ?_
 (simp (maxSteps := 1000000) [Jtau, intsD])
 by_cases hl : a.length = b.length
 ·have hlb : ((a.length : Int) != (b.length : Int)) = false := by simp [hl]
  (simp (maxSteps := 1000000) [hl, hlb])
  refine Jtd (fun k : Nat => ⟨[(5, AI k), (0, .d (.sl (a.map intRow))), (1, .d (.sl (b.map intRow)))], []⟩) (fun k => k ≤ a.length ∧ a.take k = b.take k) (fun k => a.length - k) 0 (by simp) (by (exact wkA)) ?_
  rintro k ⟨hk, hs⟩ N hN
  (simp (maxSteps := 1000000) [])
  ((first | refine Xc (fun h2 => ?_) (fun h2 => ?_) | refine Xo (fun h2 => ?_) (fun h2 => ?_)) <;> (try simp only [Xz, Xy] at h2))
  ·have hka : k < a.length := by omega
   have hkb : k < b.length := by omega
   have hw := Jtkg (k := k) (by omega)
   by_cases he : a[k] = b[k]
   ·have hs' : a.take (k + 1) = b.take (k + 1) := by rw [List.take_succ_eq_append_getElem hka, List.take_succ_eq_append_getElem hkb, hs, he]
    (simp (maxSteps := 1000000) [h2, intRow, hka, hkb, he, hw])
    exact hN _ (k + 1) ⟨hka, hs'⟩ (by (exact wkA)) (by omega)
   ·have heb : (a[k] != b[k]) = true := by simpa using he
    have hne : ¬ a = b := by rintro rfl; exact he rfl
    (simp (maxSteps := 1000000) [h2, intRow, hka, hkb, he, heb])
    (first | exact hR _ _ FrA | exact hR _ _ FnA | exact hR _ _ (Xf (hq := by simp [AV.erase, AV.unview, hne]; done)))
  ·have hka : k = a.length := by omega
   subst hka
   rw [List.take_length, hl, List.take_length] at hs
   (simp (maxSteps := 1000000) [h2])
   (first | exact hR _ _ FrA | exact hR _ _ FnA | exact hR _ _ (Xf (hq := by simp [AV.erase, AV.unview, hs]; done)))
 ·have hlb : ((a.length : Int) != (b.length : Int)) = true := by simp; omega
  have hne : ¬ a = b := by rintro rfl; exact hl rfl
  (simp (maxSteps := 1000000) [hl, hlb])
  (first | exact hR _ _ FrA | exact hR _ _ FnA | exact hR _ _ (Xf (hq := by simp [AV.erase, AV.unview, hne]; done)))
def listsD (l : List (List Int)) : D := .sl (l.map fun x => [intsD x])
theorem Jtg7 {P : Program} {p : Nums} (A : All P p) (a b : List (List Int)) (h0 : a.length < 1000000000) (h1 : b.length < 1000000000) (h2 : ∀ x ∈ a, x.length < 1000000000) (h3 : ∀ x ∈ b, x.length < 1000000000) : Jt4n P p.ref23_Same [.d (listsD a), .d (listsD b)] [] fun o _ => o = .ret (AB (decide (a = b))) := by
 refine A.ref23_Same.run rfl fun R hR => ?_
 obtain ⟨aR, haR⟩ : ∃ x, x = a.map fun x => [intsD x] := ⟨_, rfl⟩
 obtain ⟨bR, hbR⟩ : ∃ x, x = b.map fun x => [intsD x] := ⟨_, rfl⟩
 have la : aR.length = a.length := by rw [haR]; simp
 have lb : bR.length = b.length := by rw [hbR]; simp
 simp only [listsD, ← haR, ← hbR]
 (simp (maxSteps := 1000000) [Jtb4, la, lb])
 by_cases hl : a.length = b.length
 ·have hlb : ((a.length : Int) != (b.length : Int)) = false := by simp [hl]
  (simp (maxSteps := 1000000) [hl, hlb])
  refine Jtd (fun k : Nat => ⟨[(5, AI k), (0, .d (.sl aR)), (1, .d (.sl bR))], []⟩) (fun k => k ≤ a.length ∧ a.take k = b.take k) (fun k => a.length - k) 0 (by simp) (by (exact wkA)) ?_
  rintro k ⟨hk, hs⟩ N hN
  (simp (maxSteps := 1000000) [la])
  by_cases h4 : k < a.length
  ·have h4i : (k : Int) < (a.length : Int) := by omega
   have hkb : k < b.length := by omega
   have ga : aR[k]? = some [intsD a[k]] := by rw [haR]; simp [h4]
   have gb : bR[k]? = some [intsD b[k]] := by rw [hbR]; simp [hkb]
   have hw := Jtkg (k := k) (by omega)
   have cn := Jtfu A a[k] b[k] (h2 _ (List.getElem_mem h4)) (h3 _ (List.getElem_mem hkb))
   obtain ⟨x, hx⟩ : ∃ x, x = a[k] := ⟨_, rfl⟩
   obtain ⟨y, hy⟩ : ∃ x, x = b[k] := ⟨_, rfl⟩
   rw [← hx] at ga cn
   rw [← hy] at gb cn
   (simp (maxSteps := 1000000) [h4, h4i, ga, gb])
   (refine Jt13 cn (by rfl) (by rfl) ?_)
   by_cases he : x = y
   ·have hs' : a.take (k + 1) = b.take (k + 1) := by rw [List.take_succ_eq_append_getElem h4, List.take_succ_eq_append_getElem hkb, hs, ← hx, ← hy, he]
    (simp (maxSteps := 1000000) [he, hw])
    exact hN _ (k + 1) ⟨h4, hs'⟩ (by (exact wkA)) (by omega)
   ·have hne : ¬ a = b := by rintro rfl; exact he (hx.trans hy.symm)
    (simp (maxSteps := 1000000) [he])
    (first | exact hR _ _ FrA | exact hR _ _ FnA | exact hR _ _ (Xf (hq := by simp [AV.erase, AV.unview, hne]; done)))
  ·(simp (maxSteps := 1000000) [h4])
   have hka : k = a.length := by omega
   subst hka
   rw [List.take_length, hl, List.take_length] at hs
   (first | exact hR _ _ FrA | exact hR _ _ FnA | exact hR _ _ (Xf (hq := by simp [AV.erase, AV.unview, hs]; done)))
 ·have hlb : ((a.length : Int) != (b.length : Int)) = true := by simp; omega
  have hne : ¬ a = b := by rintro rfl; exact hl rfl
  (simp (maxSteps := 1000000) [hl, hlb])
  (first | exact hR _ _ FrA | exact hR _ _ FnA | exact hR _ _ (Xf (hq := by simp [AV.erase, AV.unview, hne]; done)))
end
end Go.AE
set_option maxRecDepth 4000
namespace Go.AE
open Go
theorem Jt15 {P : Program} {K : ASt → Prop} {QP : AV → ASt → Prop} {dst : Option Nat} {st : ASt} {ι : Type} (bs : List Nat) (e : Nat) {f : Nat} {args cargs : List AV} {Hp Hc : List Blk} {C Hb : ι → List Blk} {X Y : ι → AV} {Pr : ι → Prop}
  (h : Jt4n P f cargs Hc fun o H' => ∃ i, Pr i ∧ o = .ret (X i) ∧ H' = C i)
  (hnd : bs.Nodup) (ha : renL (idx bs) args = some cargs) (hp : picks st.H bs = some Hp) (hc : renB (idx bs) Hp = some Hc) (hb : ∀ i, renB (back bs st.H.length e) (C i) = some (Hb i))
  (hl : ∀ i, (C i).length = bs.length + e) (hx : ∀ i, (X i).ren (back bs st.H.length e) = some (Y i)) (hK : ∀ i, Pr i → K (put dst (Y i) ⟨unview st.env, wback st.H bs ((Hb i).take bs.length) ++ (Hb i).drop bs.length⟩)) : AWcall P false f args dst K QP st := by
 refine .inr ⟨rfl, .inr ⟨bs, hnd, cargs, Hp, Hc, ha, hp, hc, h.mono ?_⟩⟩
 rintro o H' ⟨i, hi, rfl, rfl⟩
 have ht : (C i).take (bs.length + e) = C i := by rw [← hl i, List.take_length]
 exact ⟨e, Hb i, Y i, by rw [ht]; exact hb i, by rw [hl i]; exact Nat.le_refl _, hx i, hK i hi⟩
def mpK (ks : List Int) : Obj := mpO ks.zipIdx ks.length
def madd (ks : List Int) (n : Int) : List Int := if n ∈ ks then ks else ks ++ [n]
theorem Jtkn (ks : List Int) : ks.zipIdx.map Prod.fst = ks := by simp
theorem Jte4 (ks : List Int) (n : Int) : mpO (mputE ks.zipIdx ks.length n) (mputC ks.zipIdx ks.length n) = mpK (madd ks n) := by
 unfold mputE mputC madd mpK
 rw [Jtkn]
 split
 ·rfl
 ·rw [List.zipIdx_append]; simp
theorem Jtdn {ks : List Int} {n v : Int} : v ∈ madd ks n ↔ v ∈ ks ∨ v = n := by
 unfold madd
 split
 ·rename_i h; exact ⟨.inl, fun h' => h'.elim id fun e => e ▸ h⟩
 ·simp
theorem Jtda {ks : List Int} {n : Int} (h : ks.Nodup) : (madd ks n).Nodup := by
 unfold madd
 split
 ·exact h
 ·rename_i hn
  rw [List.nodup_append]
  exact ⟨h, by simp, fun a ha b hb => by simp at hb; subst hb; rintro rfl; exact hn ha⟩
theorem Jtd9 {ks : List Int} {n : Int} : (madd ks n).length ≤ ks.length + 1 := by unfold madd; split <;> simp
section
variable {P : Program} {K : ASt → Prop} {QP : AV → ASt → Prop} {dst : Option Nat} {st : ASt}
theorem Jt2a (h : ∀ r, K (put dst (.mp r) ⟨st.env, st.H ++ [.glob r (mpK [])]⟩)) : AWio P false (.mo .mk) dst K QP st := Jt29 h
theorem Jt2p {x k v : Opd} {r b : Nat} {n : Int} {ks : List Int} (hx : evr st.env x = some (.mp r)) (hk : evr st.env k = some (.d (.int .i64 n))) (hv : evr st.env v = some (.d (.bool true))) (hb : st.H[b]? = some (.glob r (mpK ks)))
  (h : K ⟨unview st.env, st.H.set b (.glob r (mpK (madd ks n)))⟩) : AWio P false (.mo (.set x k v)) none K QP st := Jt2o hx hk hv hb (by rw [Jte4]; exact h)
theorem Jt28 {x k : Opd} {r b : Nat} {n : Int} {ks : List Int} (hx : evr st.env x = some (.mp r)) (hk : evr st.env k = some (.d (.int .i64 n))) (hb : st.H[b]? = some (.glob r (mpK ks)))
  (h : K (put dst (.d (.bool (decide (n ∈ ks)))) st)) : AWio P false (.mo (.get x k)) dst K QP st := Jt27 hx hk hb (by rw [Jtkn]; exact h)
theorem Jt2g {x : Opd} {r b : Nat} {ks : List Int} (hx : evr st.env x = some (.mp r)) (hb : st.H[b]? = some (.glob r (mpK ks))) (h : K (put dst (.d (.int .i64 ks.length)) st)) : AWio P false (.mo (.len x)) dst K QP st :=
 Jt2f hx hb (by rw [List.length_zipIdx]; exact h)
theorem Jt2n {x : Opd} {r b : Nat} {ks : List Int} (hx : evr st.env x = some (.mp r)) (hb : st.H[b]? = some (.glob r (mpK ks)))
  (h : ∀ r', K (put dst (.ptr st.H.length 0) ⟨st.env, st.H ++ [.glob r' (itO r ks.length [])]⟩)) : AWio P false (.mo (.rng x)) dst K QP st := Jt2m hx hb h
theorem Jtdv {ks : List Int} {e : Int × Nat} : e ∈ ks.zipIdx ↔ ks[e.2]? = some e.1 := by
 rw [List.mem_zipIdx_iff_getElem?]
theorem Jt2j {x : Opd} {bi r' r b : Nat} {ks : List Int} {seen : List Nat} (hx : evr st.env x = some (.ptr bi 0)) (hi : st.H[bi]? = some (.glob r' (itO r ks.length seen))) (hb : st.H[b]? = some (.glob r (mpK ks)))
  (h1 : ∀ i k, ks[i]? = some k → i ∉ seen → K (put dst (.tup [.d (.bool true), .d (.int .i64 k), .d (.bool true)]) ⟨unview st.env, st.H.set bi (.glob r' (itO r ks.length (seen ++ [i])))⟩))
  (h2 : (∀ i, i < ks.length → i ∈ seen) → K (put dst (.tup [.d (.bool false)]) ⟨unview st.env, st.H⟩)) : AWio P false (.mo (.nxt x)) dst K QP st := by
 refine Jt2i hx hi hb (fun e he => (List.getElem?_eq_some_iff.1 (Jtdv.1 he)).1) (fun e he hs => h1 e.2 e.1 (Jtdv.1 he) hs) (fun hs => h2 fun i hi => ?_)
 exact hs (ks[i], i) (Jtdv.2 (by simp [hi]))
theorem Jt26 {x : Opd} {bi r' r b i : Nat} {k : Int} {ks : List Int} {seen : List Nat} (hx : evr st.env x = some (.ptr bi 0)) (hi : st.H[bi]? = some (.glob r' (itO r ks.length (seen ++ [i])))) (hb : st.H[b]? = some (.glob r (mpK ks))) (hk : ks[i]? = some k)
  (h : K (put dst (.tup [.d (.int .i64 k), .d (.bool true)]) st)) : AWio P false (.mo (.ent x)) dst K QP st :=
 Jt25 (k, i) hx hi hb (Jtdv.2 hk) (by rw [List.zipIdx_map_snd]; exact List.nodup_range' ..) h
end
end Go.AE
set_option maxRecDepth 4000
namespace Go.AE
open Go
def useS (us ds : List Int) (v : Int) : List Int := if v ∈ ds then us else madd us v
def scanI (s : List Int × List Int) (i : Instr) : List Int × List Int :=
 let u1 := if usesA i.op = true then useS s.1 s.2 i.a else s.1
 let u2 := if usesB i.op = true then useS u1 s.2 i.b else u1
 (u2, if usesD i.op = true then madd s.2 i.d else s.2)
def scanC (l : List Instr) : List Int × List Int := l.foldl scanI ([], [])
def scanZ (b : Block) : List Int × List Int :=
 (if b.term.kind ≠ 1 then useS (scanC b.code).1 (scanC b.code).2 b.term.a else (scanC b.code).1, (scanC b.code).2)
theorem Jthp {l : List Instr} {k : Nat} {i : Instr} (h : l[k]? = some i) : scanC (l.take (k + 1)) = scanI (scanC (l.take k)) i := by
 unfold scanC; rw [List.take_add_one, h, List.foldl_append]; rfl
theorem Jtdu {us ds : List Int} {v x : Int} : x ∈ useS us ds v ↔ x ∈ us ∨ (x = v ∧ v ∉ ds) := by
 unfold useS
 split
 ·rename_i h; exact ⟨.inl, fun h' => h'.elim id fun e => absurd h e.2⟩
 ·rename_i h; rw [Jtdn]; exact ⟨fun h' => h'.imp id fun e => ⟨e, h⟩, fun h' => h'.imp id fun e => e.1⟩
theorem Jtjy {us ds : List Int} {v : Int} (h : us.Nodup) : (useS us ds v).Nodup := by unfold useS; split; exact h; exact Jtda h
theorem Jtjx {us ds : List Int} {v : Int} : (useS us ds v).length ≤ us.length + 1 := by unfold useS; split; omega; exact Jtd9
theorem Jtho (b : Block) : ∀ k, k ≤ b.code.length → (∀ v, v ∈ (scanC (b.code.take k)).2 ↔ defAt b v k = true) ∧ (∀ v, v ∈ (scanC (b.code.take k)).1 ↔ usedC b v k = true) ∧ (scanC (b.code.take k)).1.Nodup ∧ (scanC (b.code.take k)).2.Nodup ∧ (scanC (b.code.take k)).1.length ≤ 2 * k ∧ (scanC (b.code.take k)).2.length ≤ k := by
 intro k
 induction k with
 | zero => intro _; refine ⟨fun v => ?_, fun v => ?_, by simp [scanC], by simp [scanC], by simp [scanC], by simp [scanC]⟩ <;> simp [scanC, defAt, usedC]
 | succ k ih =>
  intro hk
  obtain ⟨h1, h2, h3, h4, h5, h6⟩ := ih (by omega)
  have hb : b.code[k]? = some b.code[k] := by simp [show k < b.code.length by omega]
  obtain ⟨i, hi⟩ : ∃ i, i = b.code[k] := ⟨_, rfl⟩
  rw [← hi] at hb
  rw [Jthp hb]
  obtain ⟨s, hs⟩ : ∃ s, s = scanC (b.code.take k) := ⟨_, rfl⟩
  rw [← hs] at h1 h2 h3 h4 h5 h6 ⊢
  unfold scanI
  simp only
  refine ⟨fun v => ?_, fun v => ?_, ?_, ?_, ?_, ?_⟩
  ·rw [Jt7r hb]
   by_cases hd : usesD i.op = true
   ·rw [if_pos hd, Jtdn, h1, Bool.or_eq_true, Bool.and_eq_true, beq_iff_eq]; exact or_congr Iff.rfl ⟨fun e => ⟨hd, e.symm⟩, fun e => e.2.symm⟩
   ·rw [if_neg hd, h1, Bool.or_eq_true]; simp [hd]
  ·have key : usedC b v (k + 1) = true ↔ v ∈ s.1 ∨ (((usesA i.op = true ∧ i.a = v) ∨ (usesB i.op = true ∧ i.b = v)) ∧ v ∉ s.2) := by
    rw [Jtk0 hb, Bool.or_eq_true, Bool.and_eq_true, h2, h1]
    unfold useI
    rw [Bool.or_eq_true, Bool.and_eq_true, Bool.and_eq_true, beq_iff_eq, beq_iff_eq]
    cases defAt b v k <;> simp
   rw [key]
   have e1 : ∀ us : List Int, ∀ c : Bool, ∀ y : Int, v ∈ (if c = true then useS us s.2 y else us) ↔ v ∈ us ∨ ((c = true ∧ y = v) ∧ v ∉ s.2) := by
    intro us c y
    cases c with
    | true =>
     rw [if_pos rfl, Jtdu]
     exact or_congr Iff.rfl ⟨fun ⟨e, h⟩ => ⟨⟨rfl, e.symm⟩, e ▸ h⟩, fun ⟨⟨_, e⟩, h⟩ => ⟨e.symm, e ▸ h⟩⟩
    | false => simp
   rw [e1, e1]
   constructor
   ·rintro ((h | ⟨h, h'⟩) | ⟨h, h'⟩)
    ·exact .inl h
    ·exact .inr ⟨.inl h, h'⟩
    ·exact .inr ⟨.inr h, h'⟩
   ·rintro (h | ⟨h | h, h'⟩)
    ·exact .inl (.inl h)
    ·exact .inl (.inr ⟨h, h'⟩)
    ·exact .inr ⟨h, h'⟩
  ·split <;> split <;> first | exact Jtjy (Jtjy h3) | exact Jtjy h3 | exact h3
  ·split; exact Jtda h4; exact h4
  ·have l1 : (if usesA i.op = true then useS s.1 s.2 i.a else s.1).length ≤ s.1.length + 1 := by split; exact Jtjx; omega
   generalize (if usesA i.op = true then useS s.1 s.2 i.a else s.1) = u1 at l1 ⊢
   have l2 : (if usesB i.op = true then useS u1 s.2 i.b else u1).length ≤ u1.length + 1 := by split; exact Jtjx; omega
   omega
  ·have : (if usesD i.op = true then madd s.2 i.d else s.2).length ≤ s.2.length + 1 := by split; exact Jtd9; omega
   omega
theorem Jthq (b : Block) : (∀ v, v ∈ (scanZ b).2 ↔ defAt b v b.code.length = true) ∧ (∀ v, v ∈ (scanZ b).1 ↔ usedZ b v = true) ∧ (scanZ b).1.Nodup ∧ (scanZ b).2.Nodup ∧ (scanZ b).1.length ≤ 2 * b.code.length + 1 ∧ (scanZ b).2.length ≤ b.code.length := by
 have h := Jtho b b.code.length (Nat.le_refl _)
 rw [List.take_length] at h
 obtain ⟨h1, h2, h3, h4, h5, h6⟩ := h
 refine ⟨h1, fun v => ?_, ?_, h4, ?_, h6⟩
 ·unfold scanZ usedZ
  by_cases hk : b.term.kind = 1
  ·simp [hk, h2]
  ·simp only [ne_eq, hk, not_false_eq_true, if_true, Jtdu, h2, h1]
   simp only [Bool.or_eq_true, Bool.and_eq_true, bne_iff_ne, ne_eq, hk, not_false_eq_true, true_and, beq_iff_eq, Bool.not_eq_true', Bool.not_eq_true]
   exact or_congr Iff.rfl ⟨fun ⟨e, h⟩ => ⟨e.symm, e ▸ h⟩, fun ⟨e, h⟩ => ⟨e.symm, e ▸ h⟩⟩
 ·show (if b.term.kind ≠ 1 then _ else _ : List Int).Nodup
  split; exact Jtjy h3; exact h3
 ·show (if b.term.kind ≠ 1 then _ else _ : List Int).length ≤ _
  split
  ·have := Jtjx (us := (scanC b.code).1) (ds := (scanC b.code).2) (v := b.term.a); omega
  ·omega
inductive LiveAt (f : Func) (v : Int) : Nat → Prop where
 | use (i : Nat) (b : Block) (h : f.blocks[i]? = some b) (hu : usedZ b v = true) : LiveAt f v i
 | next (i : Nat) (b : Block) (t : Int) (h : f.blocks[i]? = some b) (ht : t ∈ succsZ b.term) (hl : LiveAt f v t.toNat) (hd : defAt b v b.code.length = false) : LiveAt f v i
structure OkL (f : Func) : Prop where
 succ : ∀ b ∈ f.blocks, ∀ t ∈ succsZ b.term, 0 ≤ t ∧ t < f.blocks.length
 bl : f.blocks.length ≤ 1000
 cl : ∀ b ∈ f.blocks, b.code.length ≤ 10000
theorem LiveAt.lt {f : Func} {v : Int} {i : Nat} (h : LiveAt f v i) : i < f.blocks.length := by
 cases h with
 | use _ b h _ => exact (List.getElem?_eq_some_iff.1 h).1
 | next _ b t h _ _ _ => exact (List.getElem?_eq_some_iff.1 h).1
theorem LiveAt.closed {f : Func} {v : Int} {S : Nat → Prop} (hu : ∀ i b, f.blocks[i]? = some b → usedZ b v = true → S i) (hn : ∀ i b t, f.blocks[i]? = some b → t ∈ succsZ b.term → S t.toNat → defAt b v b.code.length = false → S i) {i : Nat} (h : LiveAt f v i) : S i := by
 induction h with
 | use i b h h2 => exact hu i b h h2
 | next i b t h h2 _ h3 ih => exact hn i b t h h2 ih h3
end Go.AE
set_option maxRecDepth 4000
namespace Go.AE
open Go
section
theorem Jtcs {P : Program} {p : Nums} (A : All P p) (v : Int) (us ds : List Int) (ru rd : Nat) : Jt4n P p.liveness_scan_1 [AI v, .ptr 0 0, .ptr 1 0] [.mem [.mp rd], .mem [.mp ru], .glob rd (mpK ds), .glob ru (mpK us)]
  fun o H' => o = .ret (.tup []) ∧ H' = [.mem [.mp rd], .mem [.mp ru], .glob rd (mpK ds), .glob ru (mpK (useS us ds v))] := by
 refine A.liveness_scan_1.run rfl fun R hR => ?_
 obtain ⟨T, hT⟩ : ∃ T, T = useS us ds v := ⟨_, rfl⟩
 rw [← hT] at hR
 unfold useS at hT
 (simp (maxSteps := 1000000) [Jtad])
 refine Jt28 (b := 2) (by rfl) (by rfl) (by rfl) ?_
 by_cases hv : v ∈ ds
 ·rw [if_pos hv] at hT
  (simp (maxSteps := 1000000) [hv])
  exact hR _ _ (Fin_wk (.tup []) (.tup []) [.mem [.mp rd], .mem [.mp ru], .glob rd (mpK ds), .glob ru (mpK us)] (by rfl) (by (exact wkA)) ⟨rfl, by rw [hT]⟩)
 ·rw [if_neg hv] at hT
  (simp (maxSteps := 1000000) [hv])
  refine Jt2p (b := 3) (by rfl) (by rfl) (by rfl) (by rfl) ?_
  (simp (maxSteps := 1000000) [])
  exact hR _ _ (Fin_wk (.tup []) (.tup []) [.mem [.mp rd], .mem [.mp ru], .glob rd (mpK ds), .glob ru (mpK (madd us v))] (by rfl) (by (exact wkA)) ⟨rfl, by rw [hT]⟩)
set_option maxHeartbeats 1000000 in
theorem Jtct {P : Program} {p : Nums} (A : All P p) (b : Block) (h0 : b.code.length ≤ 1000000) : Jt4n P p.liveness_scan [b.av] [] fun o H' => ∃ r : Nat × Nat, True ∧ o = .ret (.tup [.mp r.1, .mp r.2]) ∧ H' = [.dead, .dead, .dead, .glob r.1 (mpK (scanZ b).1), .glob r.2 (mpK (scanZ b).2)] := by
 refine A.liveness_scan.run rfl fun R hR => ?_
 obtain ⟨T, hT⟩ : ∃ T, T = scanZ b := ⟨_, rfl⟩
 rw [← hT] at hR
 unfold scanZ at hT
 have c1 := fun v us ds ru rd => Jtcs A v us ds ru rd
 have ok1 := A.liveness_scan_1.ok
 have hsc := fun k i => @Jthp b.code k i
 obtain ⟨F, hF⟩ : ∃ F : Nat → List Int × List Int, F = fun k => scanC (b.code.take k) := ⟨_, rfl⟩
 have eF : ∀ k, scanC (b.code.take k) = F k := fun k => by rw [hF]
 have F0 : F 0 = ([], []) := by rw [hF]; rfl
 have Fn : scanC b.code = F b.code.length := by rw [hF]; simp
 simp only [eF] at hsc
 rw [Fn] at hT
 clear hF eF Fn
 obtain ⟨code, kind, ta, to, els⟩ := b
 simp only at h0 hsc hT
 (simp (maxSteps := 1000000) [Jtac, Block.av])
 refine Jt2a fun ru => ?_
 (simp (maxSteps := 1000000) [])
 refine Jt2a fun rd => ?_
 (simp (maxSteps := 1000000) [])
 refine Jtd (fun k : Nat => ⟨[(15, AI k), (14, AI (code.length : Int)), (13, .d (.sl (code.map Instr.row))), (4, .fn (.func p.liveness_scan_1) [] [.ptr 2 0, .ptr 1 0]), (3, .ptr 2 0), (2, .ptr 1 0), (1, .ptr 0 0)],
  [.mem [.d (.sl (code.map Instr.row)), AI kind, AI ta, AI to, AI els], .mem [.mp ru], .mem [.mp rd], .glob ru (mpK (F k).1), .glob rd (mpK (F k).2)]⟩) (fun k => k ≤ code.length) (fun k => code.length - k) 0 (by simp) (by rw [F0]; (exact wkA)) ?_
 intro k hk N hN
 (simp (maxSteps := 1000000) [])
 by_cases h2 : k < code.length
 ·have h2i : (k : Int) < (code.length : Int) := by omega
  have hb : code[k]? = some code[k] := by simp [h2]
  obtain ⟨i, hi⟩ : ∃ i, i = code[k] := ⟨_, rfl⟩
  rw [← hi] at hb
  have hs := hsc k i hb
  have hw := Jtkg (k := k) (by omega)
  obtain ⟨⟨us, ds⟩, hu⟩ : ∃ x, x = F k := ⟨_, rfl⟩
  rw [← hu] at hs ⊢
  have next : ∀ st', Wk 0 st' ⟨[(15, AI ((k + 1 : Nat) : Int)), (14, AI (code.length : Int)), (13, .d (.sl (code.map Instr.row))), (4, .fn (.func p.liveness_scan_1) [] [.ptr 2 0, .ptr 1 0]), (3, .ptr 2 0), (2, .ptr 1 0), (1, .ptr 0 0)],
    [.mem [.d (.sl (code.map Instr.row)), AI kind, AI ta, AI to, AI els], .mem [.mp ru], .mem [.mp rd], .glob ru (mpK (scanI (us, ds) i).1), .glob rd (mpK (scanI (us, ds) i).2)]⟩ → N st' := fun st' h => hN st' (k + 1) h2 (by rw [hs]; exact h) (by omega)
  unfold scanI at next
  simp only at next
  (simp (maxSteps := 1000000) [h2, List.getElem?_map, hb, Instr.row])
  simp only [← hi]
  (refine Jt13 (Jtet A i.op) (by rfl) (by rfl) ?_)
  rw [Jthv, Jtht, Jthu]
  (simp (maxSteps := 1000000) [])
  have w1 : ∀ st' us' ds', us' = (if usesB i.op = true then useS (if usesA i.op = true then useS us ds i.a else us) ds i.b else (if usesA i.op = true then useS us ds i.a else us)) → ds' = (if usesD i.op = true then madd ds i.d else ds) →
    Wk 0 st' ⟨[(15, AI ((k + 1 : Nat) : Int)), (14, AI (code.length : Int)), (13, .d (.sl (code.map Instr.row))), (4, .fn (.func p.liveness_scan_1) [] [.ptr 2 0, .ptr 1 0]), (3, .ptr 2 0), (2, .ptr 1 0), (1, .ptr 0 0)],
    [.mem [.d (.sl (code.map Instr.row)), AI kind, AI ta, AI to, AI els], .mem [.mp ru], .mem [.mp rd], .glob ru (mpK us'), .glob rd (mpK ds')]⟩ → N st' := fun st' us' ds' e1 e2 h => next st' (by rw [← e1, ← e2]; exact h)
  clear next
  cases hA : usesA i.op with
  | true =>
   rw [hA] at w1
   (simp (maxSteps := 1000000) [])
   refine ⟨ok1, Jt14 [2, 1, 4, 3] (c1 i.a us ds ru rd) (by decide) (by rfl) (by rfl) (by rfl) (by rfl) (by rfl) (by rfl) ?_⟩
   obtain ⟨u1, hu1⟩ : ∃ x, x = useS us ds i.a := ⟨_, rfl⟩
   simp only [← hu1, if_true] at w1 ⊢
   (simp (maxSteps := 1000000) [])
   cases hB : usesB i.op with
   | true =>
    rw [hB] at w1
    (simp (maxSteps := 1000000) [])
    refine ⟨ok1, Jt14 [2, 1, 4, 3] (c1 i.b u1 ds ru rd) (by decide) (by rfl) (by rfl) (by rfl) (by rfl) (by rfl) (by rfl) ?_⟩
    obtain ⟨u2, hu2⟩ : ∃ x, x = useS u1 ds i.b := ⟨_, rfl⟩
    simp only [← hu2, if_true] at w1 ⊢
    (simp (maxSteps := 1000000) [])
    cases hD : usesD i.op with
    | true =>
     rw [hD] at w1
     (simp (maxSteps := 1000000) [])
     refine Jt2p (b := 4) (by rfl) (by rfl) (by rfl) (by rfl) ?_
     (simp (maxSteps := 1000000) [hw])
     exact w1 _ u2 (madd ds i.d) rfl (by simp) (by (exact wkA))
    | false =>
     rw [hD] at w1
     (simp (maxSteps := 1000000) [hw])
     exact w1 _ u2 (ds) rfl (by simp) (by (exact wkA))
   | false =>
    rw [hB] at w1
    obtain ⟨u2, hu2⟩ : ∃ x, x = u1 := ⟨_, rfl⟩
    simp only [← hu2, Bool.false_eq_true, if_false] at w1 ⊢
    (simp (maxSteps := 1000000) [])
    cases hD : usesD i.op with
    | true =>
     rw [hD] at w1
     (simp (maxSteps := 1000000) [])
     refine Jt2p (b := 4) (by rfl) (by rfl) (by rfl) (by rfl) ?_
     (simp (maxSteps := 1000000) [hw])
     exact w1 _ u2 (madd ds i.d) rfl (by simp) (by (exact wkA))
    | false =>
     rw [hD] at w1
     (simp (maxSteps := 1000000) [hw])
     exact w1 _ u2 (ds) rfl (by simp) (by (exact wkA))
  | false =>
   rw [hA] at w1
   obtain ⟨u1, hu1⟩ : ∃ x, x = us := ⟨_, rfl⟩
   simp only [← hu1, Bool.false_eq_true, if_false] at w1 ⊢
   (simp (maxSteps := 1000000) [])
   cases hB : usesB i.op with
   | true =>
    rw [hB] at w1
    (simp (maxSteps := 1000000) [])
    refine ⟨ok1, Jt14 [2, 1, 4, 3] (c1 i.b u1 ds ru rd) (by decide) (by rfl) (by rfl) (by rfl) (by rfl) (by rfl) (by rfl) ?_⟩
    obtain ⟨u2, hu2⟩ : ∃ x, x = useS u1 ds i.b := ⟨_, rfl⟩
    simp only [← hu2, if_true] at w1 ⊢
    (simp (maxSteps := 1000000) [])
    cases hD : usesD i.op with
    | true =>
     rw [hD] at w1
     (simp (maxSteps := 1000000) [])
     refine Jt2p (b := 4) (by rfl) (by rfl) (by rfl) (by rfl) ?_
     (simp (maxSteps := 1000000) [hw])
     exact w1 _ u2 (madd ds i.d) rfl (by simp) (by (exact wkA))
    | false =>
     rw [hD] at w1
     (simp (maxSteps := 1000000) [hw])
     exact w1 _ u2 (ds) rfl (by simp) (by (exact wkA))
   | false =>
    rw [hB] at w1
    obtain ⟨u2, hu2⟩ : ∃ x, x = u1 := ⟨_, rfl⟩
    simp only [← hu2, Bool.false_eq_true, if_false] at w1 ⊢
    (simp (maxSteps := 1000000) [])
    cases hD : usesD i.op with
    | true =>
     rw [hD] at w1
     (simp (maxSteps := 1000000) [])
     refine Jt2p (b := 4) (by rfl) (by rfl) (by rfl) (by rfl) ?_
     (simp (maxSteps := 1000000) [hw])
     exact w1 _ u2 (madd ds i.d) rfl (by simp) (by (exact wkA))
    | false =>
     rw [hD] at w1
     (simp (maxSteps := 1000000) [hw])
     exact w1 _ u2 (ds) rfl (by simp) (by (exact wkA))
 ·have ek : k = code.length := by omega
  subst ek
  (simp (maxSteps := 1000000) [])
  obtain ⟨⟨us, ds⟩, hu⟩ : ∃ x, x = F code.length := ⟨_, rfl⟩
  rw [← hu] at hT ⊢
  simp only at hT
  by_cases hk1 : kind = 1
  ·rw [if_neg (fun h => h hk1)] at hT
   (simp (maxSteps := 1000000) [hk1])
   exact hR _ _ (Jt4r (.tup [.mp ru, .mp rd]) (.tup [.mp ru, .mp rd]) [.dead, .dead, .dead, .glob ru (mpK us), .glob rd (mpK ds)] (by rfl) (by (exact wkA)) ⟨(ru, rd), trivial, rfl, by rw [hT]⟩)
  ·rw [if_pos hk1] at hT
   (simp (maxSteps := 1000000) [hk1])
   refine ⟨ok1, Jt14 [2, 1, 4, 3] (c1 ta us ds ru rd) (by decide) (by rfl) (by rfl) (by rfl) (by rfl) (by rfl) (by rfl) ?_⟩
   obtain ⟨u1, hu1⟩ : ∃ x, x = useS us ds ta := ⟨_, rfl⟩
   simp only [← hu1] at hT ⊢
   (simp (maxSteps := 1000000) [])
   exact hR _ _ (Jt4r (.tup [.mp ru, .mp rd]) (.tup [.mp ru, .mp rd]) [.dead, .dead, .dead, .glob ru (mpK u1), .glob rd (mpK ds)] (by rfl) (by (exact wkA)) ⟨(ru, rd), trivial, rfl, by rw [hT]⟩)
end
end Go.AE
namespace Go.AE
open Go Go.Proofs Go.Shelf Go.Sort Go.RowKit
def sortI (l : List Int) : List Int := l.mergeSort fun x y => decide (x ≤ y)
theorem Jti4 (l : List Int) : (sortI l).length = l.length := by simp [sortI]
theorem Jth4 (l : List Int) : (Jth2 (l.map intRow)).length = l.length := by
 rw [Jth6 (e := 1) (Jth9 fun _ => rfl)]; simp
theorem Jth3 : ∀ (l : List Int) (j : Nat), (Jth2 (l.map intRow))[j]? = l[j]?.map AI := by
 intro l
 induction l with
 | nil => intro j; simp [Jth2]
 | cons x l ih =>
  intro j
  cases j with
  | zero => rfl
  | succ j => simpa [Jth2, intRow] using ih j
section
variable {P : Program} {ρ : Ren}
theorem Jti3 (L : Lays.n189 P ρ) (arg : AV) (l : List Int) (hv : ∀ (g : Gh) (w : World) (v0 : Value), Rel g.F g.φ w arg.erase v0 → ∃ r cap, g.φ 0 = some r ∧ v0 = .slice (some ⟨r, 0, none⟩) l.length cap) (hlen : l.length < 4611686018427387904) :
  Jt4n P (ρ.f 189) [arg] [.mem (Jth2 (l.map intRow))] fun o H' => o = .ret (.tup []) ∧ H' = [.mem (Jth2 ((sortI l).map intRow))] := by
 intro g vs w hsz hs
 obtain ⟨vs⟩ := vs
 obtain ⟨v0, rfl⟩ : ∃ a, vs = [a] := by
  match vs, hsz with
  | [a], _ => exact ⟨a, rfl⟩
 have e0 : Rel g.F g.φ w arg.erase v0 := hs.env 0 _ rfl
 obtain ⟨r, cap, hφ, rfl⟩ := hv g w v0 e0
 obtain ⟨cl, te, hc, hcs, hcell⟩ := hs.mem 0 _ r rfl hφ
 have hF := (hs.lt 0 r hφ).2.1
 have hrl := (hs.lt 0 r hφ).1
 rw [Jth4] at hcs
 have hH : Holds (Value.int .i64) w r 0 l.toArray := by
  intro j hj
  have hj' : j < l.length := by simpa using hj
  obtain ⟨_, u, hu, hrel⟩ := hcell j (AI l[j]) (by rw [Jth3]; simp [hj'])
  cases hrel with
  | d _ _ hp =>
  cases hp with
  | int k m =>
  constructor
  ·simp [World.cell?, hc, hu, hj']
  ·simp [World.frozen?, hc]
 have := Any.slices_Sort_int L r 0 cap l w hH hrl hlen
 refine Calls.mono this ?_
 rintro e w' ⟨rfl, n, os, hw⟩
 obtain ⟨d, hd⟩ : ∃ d, d = sortI l := ⟨_, rfl⟩
 have hdl : d.length = l.length := by rw [hd, Jti4]
 have hw : w' = grow (putRow (Value.int .i64) (Sort.ahead w n) r 0 d.toArray) os := by rw [hw, hd]; rfl
 have hheap : w'.heap = (w.heap.modify r (onCells (putCells (Value.int .i64) 0 d.toArray))) ++ os := by rw [hw]; rfl
 have hother : ∀ r', r' < w.heap.size → r' ≠ r → w'.heap[r']? = w.heap[r']? := by
  intro r' h1 h2
  rw [hheap, Array.getElem?_append]
  simp only [Array.size_modify, h1, if_true, Array.getElem?_modify]
  rw [if_neg (Ne.symm h2)]
 have hsize : w.heap.size ≤ w'.heap.size := by rw [hheap]; simp
 have hpsz : (putCells (Value.int .i64) 0 d.toArray cl).size = cl.size := by simp [putCells]
 have hr' : w'.heap[r]? = some (.cells (putCells (Value.int .i64) 0 d.toArray cl) te (0, 0)) := by
  rw [hheap, Array.getElem?_append]
  simp only [Array.size_modify, hrl, if_true, Array.getElem?_modify, if_true]
  rw [hc]; rfl
 have hno : ∀ (env : List (Nat × AV)) (cells : List D) b j e rows, AP ⟨env, [.mem (cells.map AV.d)]⟩ (.cell b j) ≠ some (.own e rows) := by
  intro env cells b j e rows h
  simp only [AP] at h
  cases b with
  | zero =>
   simp only [List.getElem?_cons_zero] at h
   rw [List.getElem?_map] at h
   cases hx : cells[j]? with
   | none => rw [hx] at h; cases h
   | some d => rw [hx] at h; cases h
  | succ b => simp at h
 have hno' : ∀ p e rows, AP ⟨[(0, .tup [])], [.mem (Jth2 (d.map intRow))]⟩ p ≠ some (.own e rows) := by
  intro p e rows h
  cases p with
  | tmp t => simp only [AP, get] at h; split at h <;> cases h
  | cell b j => exact hno _ _ _ _ _ _ h
 have hb0 : ∀ b r', g.φ b = some r' → b = 0 := fun b r' h => by have := (hs.lt b r' h).2.2; simp at this; exact this
 refine ⟨.ret (.tup []), [.mem (Jth2 (d.map intRow))], g, .tuple #[], ⟨rfl, by rw [hd]⟩, rfl, ?_, ?_, fun _ _ _ h => h, by simp, ?_⟩
 ·refine { size := by simp, env := ?_, inj := hs.inj, lt := ?_, dom := ?_, mem := ?_, iter := ?_, glob := ?_, own := ?_, excl := ?_, apart := ?_, view := ?_ }
  ·intro t x hx
   simp only [get] at hx
   split at hx
   ·rename_i h; subst h; injection hx with hx; subst hx
    exact .tup [] [] rfl fun j x u h => by simp at h
   ·cases hx
  ·intro b r' h
   obtain ⟨h1, h2, h3⟩ := hs.lt b r' h
   exact ⟨by omega, h2, by simpa using h3⟩
  ·intro b k h hk
   cases b with
   | zero => exact ⟨r, hφ⟩
   | succ b => simp at h
  ·intro b cells r' h hr2
   have hb := hb0 b r' hr2
   subst hb
   rw [hφ] at hr2; injection hr2 with hr2; subst hr2
   simp at h; subst h
   refine ⟨_, te, hr', ?_, ?_⟩
   ·rw [Jth4, hdl]; simp [putCells]; exact hcs
   ·intro j x hx
    rw [Jth3] at hx
    cases hdj : d[j]? with
    | none => rw [hdj] at hx; cases hx
    | some n =>
     rw [hdj] at hx; injection hx with hx; subst hx
     have hj := (List.getElem?_eq_some_iff.1 hdj).1
     refine ⟨rfl, .int .i64 n, ?_, .d _ _ (.int _ _)⟩
     have hjc : j < cl.size := by omega
     have hn : d[j] = n := (List.getElem?_eq_some_iff.1 hdj).2
     simp [putCells, Array.getElem?_mapIdx, hjc, hj, hn]
  ·intro b s pos r' h _
   cases b with
   | zero => simp at h
   | succ b => simp at h
  ·intro b s pos r' h _
   cases b with
   | zero => simp at h
   | succ b => simp at h
  ·intro p e rows v h; exact absurd h (hno' p e rows)
  ·rintro p p' r' ⟨e, rows, _, h, _⟩; exact absurd h (hno' p e rows)
  ·rintro p r' b ⟨e, rows, _, h, _⟩; exact absurd h (hno' p e rows)
  ·intro t org e rows h
   simp only [get] at h
   split at h <;> cases h
 ·refine ⟨by rw [hw]; rfl, by rw [hw]; rfl, by rw [hw]; rfl, hsize, ?_, ?_⟩
  ·intro r' h1 h2
   refine ⟨hother r' h1 ?_, rfl⟩
   rintro rfl; exact h2 (.inl ⟨0, hφ⟩)
  ·refine ⟨fun _ _ => Nat.le_refl _, ?_, fun q => ?_⟩
   rotate_left
   ·by_cases hq : q = r
    ·subst hq; rw [Jt7m hc, Jt7m hr']; exact Nat.le_of_eq hpsz.symm
    ·by_cases hql : q < w.heap.size
     ·rw [Jt7n (hother q hql hq)]; exact Nat.le_refl _
     ·have : w.heap[q]? = none := Array.getElem?_eq_none (by omega)
      simp [csize, this]
   intro r' j u hj hu
   have hne : r' ≠ r := by rintro rfl; omega
   have hlt := World.block_lt_of_cell? w ⟨r', j, none⟩ hu
   have := hother r' hlt hne
   simp only [World.cell?] at hu ⊢
   rw [this]; exact hu
 ·rintro r' (⟨b, hb⟩ | ⟨p, e, rows, _, h, _⟩)
  ·exact .inl (.inl ⟨b, hb⟩)
  ·exact absurd h (hno' p e rows)
structure SortIOk (P : Program) (p : Nums) : Prop where
 some : ∀ l : List Int, l ≠ [] → l.length < 1000000000 → Jt4n P p.slices_Sort_int [.hsl 0 0 1 l.length] [.mem (Jth2 (l.map intRow))] fun o H' => o = .ret (.tup []) ∧ H' = [.mem (Jth2 ((sortI l).map intRow))]
 none : Jt4n P p.slices_Sort_int [.hsl0 0 1] [.mem []] fun o H' => o = .ret (.tup []) ∧ H' = [.mem []]
theorem SortIOk.of (L : Lays.n189 P ρ) (p : Nums) (h : p.slices_Sort_int = ρ.f 189) : SortIOk P p := by
 refine ⟨fun l hl h0 => ?_, ?_⟩
 ·rw [h]
  refine Jti3 L _ l (fun g w v0 hr => ?_) (by omega)
  have hr : Rel g.F g.φ w (.hsl 0 0 1 l.length) v0 := hr
  have hn : l.length ≠ 0 := by simpa using hl
  cases hr with
  | hsl _ _ _ _ r cap a hφ hcap ha _ =>
  have ha := ha hn; subst ha
  exact ⟨r, cap, hφ, rfl⟩
 ·rw [h]
  have e : Jth2 ((sortI []).map intRow) = [] := by simp [sortI, Jth2]
  have := Jti3 L (.hsl0 0 1) [] (fun g w v0 hr => by
   have hr : Rel g.F g.φ w (.hsl0 0 1) v0 := hr
   cases hr with
   | hsl0 _ _ r cap hφ _ => exact ⟨r, cap, hφ, rfl⟩) (by simp)
  rw [e] at this
  exact this
end
end Go.AE
set_option maxRecDepth 4000
namespace Go.AE
open Go
theorem Jti6 (l : List Int) : (sortI l).Pairwise fun a b => a ≤ b := by
 have := List.pairwise_mergeSort (le := fun x y : Int => decide (x ≤ y)) (fun a b c h1 h2 => by simp at *; omega) (fun a b => by simp; omega) l
 exact this.imp fun h => by simpa using h
theorem Jti9 {l m : List Int} (h1 : l.Pairwise fun a b => a ≤ b) (h2 : m.Pairwise fun a b => a ≤ b) (h : l.Perm m) : l = m :=
 List.Perm.eq_of_pairwise (fun a b _ _ h h' => by omega) h1 h2 h
theorem Jti5 {l m : List Int} (h : l.Perm m) : sortI l = sortI m :=
 Jti9 (Jti6 l) (Jti6 m) ((List.mergeSort_perm l _).trans (h.trans (List.mergeSort_perm m _).symm))
structure Seen (ks : List Int) (seen : List Nat) (cs : List Int) : Prop where
 nd : seen.Nodup
 lt : ∀ i ∈ seen, i < ks.length
 eq : cs = seen.map fun i => ks.getD i 0
theorem Seen.nil (ks : List Int) : Seen ks [] [] := ⟨by simp, fun i h => by simp at h, rfl⟩
theorem Seen.len {ks : List Int} {seen : List Nat} {cs : List Int} (h : Seen ks seen cs) : cs.length = seen.length ∧ seen.length ≤ ks.length := by
 refine ⟨by rw [h.eq]; simp, ?_⟩
 have := h.nd.length_le_of_subset (l₂ := List.range ks.length) fun i hi => List.mem_range.2 (h.lt i hi)
 simpa using this
theorem Seen.step {ks : List Int} {seen : List Nat} {cs : List Int} (h : Seen ks seen cs) {i : Nat} {k : Int} (hk : ks[i]? = some k) (hi : i ∉ seen) : Seen ks (seen ++ [i]) (cs ++ [k]) := by
 refine ⟨?_, fun j hj => ?_, ?_⟩
 ·rw [List.nodup_append]
  exact ⟨h.nd, by simp, fun a ha b hb => by simp at hb; subst hb; rintro rfl; exact hi ha⟩
 ·rcases List.mem_append.1 hj with hj | hj
  ·exact h.lt j hj
  ·simp at hj; subst hj; exact (List.getElem?_eq_some_iff.1 hk).1
 ·rw [List.map_append, ← h.eq]; simp [List.getD_eq_getElem?_getD, hk]
theorem Seen.mem {ks : List Int} {seen : List Nat} {cs : List Int} (h : Seen ks seen cs) {v : Int} (hv : v ∈ cs) : v ∈ ks := by
 rw [h.eq] at hv
 obtain ⟨i, hi, rfl⟩ := List.mem_map.1 hv
 have := h.lt i hi
 simp [List.getD_eq_getElem?_getD, this]
theorem Seen.done {ks : List Int} {seen : List Nat} {cs : List Int} (h : Seen ks seen cs) (hall : ∀ i, i < ks.length → i ∈ seen) : cs.Perm ks := by
 have hp : seen.Perm (List.range ks.length) := (List.perm_ext_iff_of_nodup h.nd List.nodup_range).2 fun a => ⟨fun ha => List.mem_range.2 (h.lt a ha), fun ha => hall a (List.mem_range.1 ha)⟩
 have e : (List.range ks.length).map (fun i => ks.getD i 0) = ks := by
  apply List.ext_getElem?
  intro j
  by_cases hj : j < ks.length
  ·simp [hj, List.getD_eq_getElem?_getD]
  ·rw [List.getElem?_eq_none (by simp; omega), List.getElem?_eq_none (by omega)]
 rw [h.eq]
 exact (hp.map _).trans (by rw [e])
def outV (cs : List Int) (q : Nat) : AV := if cs = [] then .hsl0 1 1 else .hsl (q + 1) 0 1 cs.length
structure SetT (r' r n : Nat) (seen : List Nat) (cs : List Int) (q : Nat) (T : List Blk) : Prop where
 it : T[1]? = some (.glob r' (itO r n seen))
 out : T[q]? = some (.mem (Jth2 (cs.map intRow)))
 ne : q ≠ 1
 z : cs = [] → q = 0
 all : ∀ k ∈ T, (∃ rows, k = .mem (Jth2 rows)) ∨ ∃ o, k = .glob r' o
theorem SetT.len {r' r n : Nat} {seen : List Nat} {cs : List Int} {q : Nat} {T : List Blk} (h : SetT r' r n seen cs q T) : 2 ≤ T.length ∧ q < T.length :=
 ⟨(List.getElem?_eq_some_iff.1 h.it).1, (List.getElem?_eq_some_iff.1 h.out).1⟩
theorem SetT.next {r' r n : Nat} {seen : List Nat} {cs : List Int} {q : Nat} {T : List Blk} (h : SetT r' r n seen cs q T) (i : Nat) : SetT r' r n (seen ++ [i]) cs q (T.set 1 (.glob r' (itO r n (seen ++ [i])))) := by
 refine ⟨by rw [List.getElem?_set_self h.len.1], by rw [List.getElem?_set_ne h.ne.symm]; exact h.out, h.ne, h.z, fun k hk => ?_⟩
 rcases List.mem_or_eq_of_mem_set hk with hk | hk
 ·exact h.all k hk
 ·exact .inr ⟨_, hk⟩
theorem SetT.app1 {r' r n : Nat} {seen : List Nat} {cs : List Int} {q : Nat} {T : List Blk} (h : SetT r' r n seen cs q T) (k : Int) {rows : List (List D)} (hr : rows = (cs ++ [k]).map intRow) : SetT r' r n seen (cs ++ [k]) q (T.set q (.mem (Jth2 rows))) := by
 subst hr
 refine ⟨by rw [List.getElem?_set_ne h.ne]; exact h.it, by rw [List.getElem?_set_self h.len.2], h.ne, fun e => by simp at e, fun k hk => ?_⟩
 rcases List.mem_or_eq_of_mem_set hk with hk | hk
 ·exact h.all k hk
 ·exact .inl ⟨_, hk⟩
theorem SetT.app2 {r' r n : Nat} {seen : List Nat} {cs : List Int} {q : Nat} {T : List Blk} (h : SetT r' r n seen cs q T) (k : Int) {rows : List (List D)} (hr : rows = (cs ++ [k]).map intRow) : SetT r' r n seen (cs ++ [k]) T.length (T ++ [.mem (Jth2 rows)]) := by
 subst hr
 have hl := h.len
 refine ⟨by rw [List.getElem?_append_left (by omega)]; exact h.it, by simp, by omega, fun e => by simp at e, fun k hk => ?_⟩
 rcases List.mem_append.1 hk with hk | hk
 ·exact h.all k hk
 ·exact .inl ⟨_, List.mem_singleton.1 hk⟩
theorem Jt5c {H : List Blk} {n r' : Nat} : ∀ {T : List Blk}, (∀ k ∈ T, (∃ rows, k = .mem (Jth2 rows)) ∨ ∃ o, k = .glob r' o) → WkHs H n T T := by
 intro T
 induction T with
 | nil => intro _; exact True.intro
 | cons x T ih =>
  intro h
  refine ⟨?_, ih fun b hb => h b (by simp [hb])⟩
  rcases h x (by simp) with ⟨rows, rfl⟩ | ⟨o, rfl⟩
  ·exact Jt53
  ·exact .glob _ _
theorem Jt5b {H X : List Blk} {n : Nat} : WkHs H n X [] := by cases X <;> exact True.intro
theorem get1 {a : Blk} {t : List Blk} {j : Nat} : (a :: t)[j + 1]? = t[j]? := rfl
theorem set1 {a x : Blk} {t : List Blk} {j : Nat} : (a :: t).set (j + 1) x = a :: t.set j x := rfl
section
set_option maxHeartbeats 2000000 in
theorem Jtcu {P : Program} {p : Nums} (A : All P p) (SI : SortIOk P p) (r : Nat) (ks : List Int) (h0 : ks.length ≤ 1000000) : Jt4n P p.liveness_set_sorted [.mp r] [.glob r (mpK ks)] fun o H' => o = .ret (.d (intsD (sortI ks))) ∧ H' = [.glob r (mpK ks)] := by
 refine A.liveness_set_sorted.run rfl fun R hR => ?_
 (simp (maxSteps := 1000000) [Jtae])
 refine Jt2g (b := 0) (by rfl) (by rfl) ?_
 (simp (maxSteps := 1000000) [])
 refine Jt2d (n := ks.length) (by rfl) (by rfl) (by omega) (by omega) (by decide) (by rfl) ?_
 (simp (maxSteps := 1000000) [])
 refine Jt2n (b := 0) (by rfl) (by rfl) fun r' => ?_
 (simp (maxSteps := 1000000) [])
 refine Jtd (fun z : List Nat × List Int × Nat × List Blk => ⟨[(9, .ptr 2 0), (3, outV z.2.1 z.2.2.1)], .glob r (mpK ks) :: z.2.2.2⟩) (fun z => Seen ks z.1 z.2.1 ∧ SetT r' r ks.length z.1 z.2.1 z.2.2.1 z.2.2.2) (fun z => ks.length - z.1.length)
  ([], [], 0, [.mem [], .glob r' (itO r ks.length [])]) ⟨Seen.nil ks, ⟨rfl, rfl, Nat.zero_ne_one, fun _ => rfl, fun k hk => by
   simp only [List.mem_cons, List.not_mem_nil, or_false] at hk
   rcases hk with rfl | rfl
   ·exact .inl ⟨[], rfl⟩
   ·exact .inr ⟨_, rfl⟩⟩⟩ (by simp only [outV, if_true]; (exact wkA)) ?_
 rintro ⟨seen, cs, q, T⟩ ⟨hs, ht⟩ N hN
 simp only at hs ht hN
 obtain ⟨l1, l2⟩ := hs.len
 (simp (maxSteps := 1000000) [])
 refine Jt2j (b := 0) (bi := 2) (by rfl) (get1.trans ht.it) (by rfl) (fun i k hk hi => ?_) (fun hall => ?_)
 ·have hs' := hs.step hk hi
  have ht' := ht.next i
  have hT1 : ∀ y, (Blk.glob r (mpK ks) :: T).set 2 y = .glob r (mpK ks) :: T.set 1 y := fun y => rfl
  simp only [hT1]
  obtain ⟨T1, eT1⟩ : ∃ x, x = T.set 1 (.glob r' (itO r ks.length (seen ++ [i]))) := ⟨_, rfl⟩
  rw [← eT1] at ht' ⊢
  (simp (maxSteps := 1000000) [])
  refine Jt26 (b := 0) (bi := 2) (by rfl) (get1.trans ht'.it) (by rfl) hk ?_
  (simp (maxSteps := 1000000) [])
  have hlen := hs'.len
  have fin : ∀ st' q2 T2, SetT r' r ks.length (seen ++ [i]) (cs ++ [k]) q2 T2 → Wk 1 st' ⟨[(9, .ptr 2 0), (3, .hsl (q2 + 1) 0 1 (cs.length + 1))], .glob r (mpK ks) :: T2⟩ → N st' := by
   intro st' q2 T2 h2 hw
   refine hN st' (seen ++ [i], cs ++ [k], q2, T2) ⟨hs', h2⟩ ?_ (by simp only [List.length_append, List.length_singleton] at hlen ⊢; omega)
   simp only [outV]
   rw [if_neg (by simp), List.length_append, List.length_singleton]; exact hw
  have leaf : ∀ {H : List Blk} {q2 : Nat} {T2 : List Blk}, SetT r' r ks.length (seen ++ [i]) (cs ++ [k]) q2 T2 → WkT H (T2.length + 1) (.hsl (q2 + 1) 0 1 (cs.length + 1)) (.hsl (q2 + 1) 0 1 (cs.length + 1)) ∧ WkT H (T2.length + 1) (.ptr 2 0) (.ptr 2 0) := by
   intro H q2 T2 h2
   have := h2.len
   exact ⟨Jtka (by simp only [AV.ren]; rw [if_pos (by omega)]), Jtka (by simp only [AV.ren]; rw [if_pos (by omega)])⟩
  unfold outV
  by_cases hc : cs = []
  ·have hq := ht'.z hc
   subst hc hq
   rw [if_pos rfl]
   (simp (maxSteps := 1000000) [])
   refine Jt1e (b := 1) (ys := [[D.int .i64 k]]) (by rfl) (get1.trans ht'.out) (by rfl) (by simp) (by decide) (by simp) (by simp) (by simp) ?_ ?_
   ·have h2 := ht'.app1 (rows := [[D.int .i64 k]]) k rfl
    have hT2 : ∀ y, (Blk.glob r (mpK ks) :: T1).set 1 y = .glob r (mpK ks) :: T1.set 0 y := fun y => rfl
    simp only [hT2]
    obtain ⟨T2, eT2⟩ : ∃ x, x = T1.set 0 (.mem (Jth2 [[D.int .i64 k]])) := ⟨_, rfl⟩
    rw [← eT2] at h2 ⊢
    (simp (maxSteps := 1000000) [])
    exact fin _ 0 T2 h2 (by refine Wk.of ?_ ?_ (by simp) <;> repeat' (first | exact Jt5c h2.all | (first | exact True.intro | exact ⟨_, rfl, Jtka rfl⟩ | exact ⟨_, rfl, Jtk8 rfl⟩ | exact ⟨_, rfl, .inl .nild⟩ | exact ⟨_, rfl, .inl .nile⟩ | exact ⟨_, rfl, Jtk9⟩ | exact Jtka rfl | exact Jtk8 rfl | exact .inl .nild | exact .inl .nile | exact Jtk9 | exact WkB.same rfl | exact Jt53 | exact Jt52 | exact .dead _ | exact .iter _ _ | exact .glob _ _ | refine Jt51 ?_ ?_ | refine And.intro ?_ ?_) | exact ⟨_, rfl, (leaf h2).1⟩ | exact ⟨_, rfl, (leaf h2).2⟩))
   ·have h2 := ht'.app2 (rows := [[D.int .i64 k]]) k rfl
    simp only [List.cons_append]
    obtain ⟨T2, eT2⟩ : ∃ x, x = T1 ++ [.mem (Jth2 [[D.int .i64 k]])] := ⟨_, rfl⟩
    rw [← eT2] at h2 ⊢
    (simp (maxSteps := 1000000) [])
    exact fin _ T1.length T2 h2 (by refine Wk.of ?_ ?_ (by simp) <;> repeat' (first | exact Jt5c h2.all | (first | exact True.intro | exact ⟨_, rfl, Jtka rfl⟩ | exact ⟨_, rfl, Jtk8 rfl⟩ | exact ⟨_, rfl, .inl .nild⟩ | exact ⟨_, rfl, .inl .nile⟩ | exact ⟨_, rfl, Jtk9⟩ | exact Jtka rfl | exact Jtk8 rfl | exact .inl .nild | exact .inl .nile | exact Jtk9 | exact WkB.same rfl | exact Jt53 | exact Jt52 | exact .dead _ | exact .iter _ _ | exact .glob _ _ | refine Jt51 ?_ ?_ | refine And.intro ?_ ?_) | exact ⟨_, rfl, (leaf h2).1⟩ | exact ⟨_, rfl, (leaf h2).2⟩))
  ·rw [if_neg hc]
   have hpos : 0 < cs.length := List.length_pos_iff.2 hc
   have er : cs.map intRow ++ [[D.int .i64 k]] = (cs ++ [k]).map intRow := by simp [intRow]
   (simp (maxSteps := 1000000) [])
   refine Jt1g (b := q + 1) (rows := cs.map intRow) (ys := [[D.int .i64 k]]) (by rfl) (get1.trans ht'.out) (by simp) (Jth9 fun _ => rfl) hpos (by rfl) (by simp) (by decide) (by simp) (by simp; omega) (by simp; omega) ?_ ?_
   ·have h2 := ht'.app1 k er
    simp only [set1]
    obtain ⟨T2, eT2⟩ : ∃ x, x = T1.set q (.mem (Jth2 (cs.map intRow ++ [[D.int .i64 k]]))) := ⟨_, rfl⟩
    rw [← eT2] at h2 ⊢
    (simp (maxSteps := 1000000) [])
    exact fin _ q T2 h2 (by refine Wk.of ?_ ?_ (by simp) <;> repeat' (first | exact Jt5c h2.all | (first | exact True.intro | exact ⟨_, rfl, Jtka rfl⟩ | exact ⟨_, rfl, Jtk8 rfl⟩ | exact ⟨_, rfl, .inl .nild⟩ | exact ⟨_, rfl, .inl .nile⟩ | exact ⟨_, rfl, Jtk9⟩ | exact Jtka rfl | exact Jtk8 rfl | exact .inl .nild | exact .inl .nile | exact Jtk9 | exact WkB.same rfl | exact Jt53 | exact Jt52 | exact .dead _ | exact .iter _ _ | exact .glob _ _ | refine Jt51 ?_ ?_ | refine And.intro ?_ ?_) | exact ⟨_, rfl, (leaf h2).1⟩ | exact ⟨_, rfl, (leaf h2).2⟩))
   ·have h2 := ht'.app2 k er
    simp only [List.cons_append]
    obtain ⟨T2, eT2⟩ : ∃ x, x = T1 ++ [.mem (Jth2 (cs.map intRow ++ [[D.int .i64 k]]))] := ⟨_, rfl⟩
    rw [← eT2] at h2 ⊢
    (simp (maxSteps := 1000000) [])
    exact fin _ T1.length T2 h2 (by refine Wk.of ?_ ?_ (by simp) <;> repeat' (first | exact Jt5c h2.all | (first | exact True.intro | exact ⟨_, rfl, Jtka rfl⟩ | exact ⟨_, rfl, Jtk8 rfl⟩ | exact ⟨_, rfl, .inl .nild⟩ | exact ⟨_, rfl, .inl .nile⟩ | exact ⟨_, rfl, Jtk9⟩ | exact Jtka rfl | exact Jtk8 rfl | exact .inl .nild | exact .inl .nile | exact Jtk9 | exact WkB.same rfl | exact Jt53 | exact Jt52 | exact .dead _ | exact .iter _ _ | exact .glob _ _ | refine Jt51 ?_ ?_ | refine And.intro ?_ ?_) | exact ⟨_, rfl, (leaf h2).1⟩ | exact ⟨_, rfl, (leaf h2).2⟩))
 ·have hp := Jti5 (hs.done hall)
  rw [← hp] at hR
  unfold outV
  by_cases hc : cs = []
  ·have hq := ht.z hc
   subst hc hq
   rw [if_pos rfl]
   have g1 : (Blk.glob r (mpK ks) :: T)[1]? = some (.mem []) := get1.trans ht.out
   have hset : (Blk.glob r (mpK ks) :: T).set 1 (.mem []) = Blk.glob r (mpK ks) :: T.set 0 (.mem []) := rfl
   (simp (maxSteps := 1000000) [])
   refine Jt14 [1] SI.none (by decide) (by rfl) (by show picks _ [1] = some [.mem []]; simp [picks, ht.out, Jth2]) (by rfl) (by rfl) (by rfl) (by rfl) ?_
   (simp (maxSteps := 1000000) [wback])
   refine hR _ _ (Jt4r (.hsl0 1 1) (.d (.sl [])) [.glob r (mpK ks)] (by rfl) ?_ ⟨by simp [sortI, intsD], rfl⟩)
   refine Wk.of ⟨⟨_, rfl, .inl (.hsl0 _ _)⟩, trivial⟩ ⟨.glob _ _, ?_⟩ (by simp)
   exact Jt5b
  ·rw [if_neg hc]
   have hpos : 0 < cs.length := List.length_pos_iff.2 hc
   have hl := ht.len
   (simp (maxSteps := 1000000) [])
   refine Jt14 [q + 1] (SI.some cs hc (by omega)) (by simp) (by simp [renL, AV.ren, idx]) (by show picks _ [q + 1] = some [.mem (Jth2 (cs.map intRow))]; simp only [picks]; rw [get1, ht.out]) Jtgn Jtgn (by rfl) (by rfl) ?_
   simp only [wback, set1]
   have hg : (T.set q (.mem (Jth2 ((sortI cs).map intRow))))[q]? = some (.mem (Jth2 ((sortI cs).map intRow))) := by rw [List.getElem?_set_self hl.2]
   obtain ⟨T2, eT2⟩ : ∃ x, x = T.set q (.mem (Jth2 ((sortI cs).map intRow))) := ⟨_, rfl⟩
   rw [← eT2] at hg ⊢
   (simp (maxSteps := 1000000) [])
   refine hR _ _ (Jt4r (.hsl (q + 1) 0 1 cs.length) (.d (.sl ((sortI cs).map intRow))) [.glob r (mpK ks)] (by rfl) ?_ ⟨rfl, rfl⟩)
   refine Wk.of ⟨⟨_, rfl, Jt5d (get1.trans hg) (by simp) (by simp [Jti4]) (Jth9 fun _ => rfl)⟩, trivial⟩ ⟨.glob _ _, ?_⟩ (by simp)
   exact Jt5b
theorem Jtcq {P : Program} {p : Nums} (A : All P p) (SI : SortIOk P p) (b : Block) (h0 : b.code.length ≤ 10000) : Jt4n P p.liveness_Uses [b.av] [] fun o _ => o = .ret (.d (intsD (sortI (scanZ b).1))) := by
 refine A.liveness_Uses.run rfl fun R hR => ?_
 have cs := Jtct A b (by omega)
 obtain ⟨_, _, _, _, l1, l2⟩ := Jthq b
 obtain ⟨⟨us, ds⟩, hs⟩ : ∃ x, x = scanZ b := ⟨_, rfl⟩
 rw [← hs] at cs hR l1 l2
 obtain ⟨code, kind, ta, to, els⟩ := b
 simp only [Block.av] at cs
 simp only at h0 l1 l2 hR
 (simp (maxSteps := 1000000) [Jtaa, Block.av])
 refine Jt15 [] 5 (X := fun r : Nat × Nat => .tup [.mp r.1, .mp r.2]) (Y := fun r : Nat × Nat => .tup [.mp r.1, .mp r.2]) (C := fun r : Nat × Nat => [.dead, .dead, .dead, .glob r.1 (mpK us), .glob r.2 (mpK ds)]) (Hb := fun r : Nat × Nat => [.dead, .dead, .dead, .glob r.1 (mpK us), .glob r.2 (mpK ds)]) cs (by decide) (by rfl) (by rfl) (by rfl) (fun _ => rfl) (fun _ => rfl) (fun _ => rfl) fun r _ => ?_
 (simp (maxSteps := 1000000) [])
 refine Jt14 [4] (Jtcu A SI r.1 us (by omega)) (by decide) (by rfl) (by rfl) (by rfl) (by rfl) (by rfl) (by rfl) ?_
 (simp (maxSteps := 1000000) [])
 (first | exact hR _ _ FrA | exact hR _ _ FnA)
theorem Jtcn {P : Program} {p : Nums} (A : All P p) (SI : SortIOk P p) (b : Block) (h0 : b.code.length ≤ 10000) : Jt4n P p.liveness_Defs [b.av] [] fun o _ => o = .ret (.d (intsD (sortI (scanZ b).2))) := by
 refine A.liveness_Defs.run rfl fun R hR => ?_
 have cs := Jtct A b (by omega)
 obtain ⟨_, _, _, _, l1, l2⟩ := Jthq b
 obtain ⟨⟨us, ds⟩, hs⟩ : ∃ x, x = scanZ b := ⟨_, rfl⟩
 rw [← hs] at cs hR l1 l2
 obtain ⟨code, kind, ta, to, els⟩ := b
 simp only [Block.av] at cs
 simp only at h0 l1 l2 hR
 (simp (maxSteps := 1000000) [Jta7, Block.av])
 refine Jt15 [] 5 (X := fun r : Nat × Nat => .tup [.mp r.1, .mp r.2]) (Y := fun r : Nat × Nat => .tup [.mp r.1, .mp r.2]) (C := fun r : Nat × Nat => [.dead, .dead, .dead, .glob r.1 (mpK us), .glob r.2 (mpK ds)]) (Hb := fun r : Nat × Nat => [.dead, .dead, .dead, .glob r.1 (mpK us), .glob r.2 (mpK ds)]) cs (by decide) (by rfl) (by rfl) (by rfl) (fun _ => rfl) (fun _ => rfl) (fun _ => rfl) fun r _ => ?_
 (simp (maxSteps := 1000000) [])
 refine Jt14 [5] (Jtcu A SI r.2 ds (by omega)) (by decide) (by rfl) (by rfl) (by rfl) (by rfl) (by rfl) (by rfl) ?_
 (simp (maxSteps := 1000000) [])
 (first | exact hR _ _ FrA | exact hR _ _ FnA)
end
end Go.AE
set_option maxRecDepth 4000
namespace Go.AE
open Go
def ClB (k : Blk) : Prop := ∀ ρ, k.ren ρ = some k
theorem ClB.glob (r : Nat) (o : Obj) : ClB (.glob r o) := fun _ => rfl
theorem ClB.dead : ClB .dead := fun _ => rfl
theorem Jtgp {l : List AV} (h : ∀ x ∈ l, ∀ ρ, x.ren ρ = some x) (ρ : Nat → Option Nat) : renL ρ l = some l := by
 induction l with
 | nil => rfl
 | cons x l ih => simp [renL, h x (by simp) ρ, ih fun y hy => h y (by simp [hy])]
theorem ClB.mem {l : List AV} (h : ∀ x ∈ l, ∀ ρ, x.ren ρ = some x) : ClB (.mem l) := fun ρ => by simp [Blk.ren, Jtgp h ρ]
theorem ClB.mps (rs : List Nat) : ClB (.mem (rs.map .mp)) := ClB.mem fun x hx ρ => by obtain ⟨r, _, rfl⟩ := List.mem_map.1 hx; rfl
theorem Jtgh {H : List Blk} (h : ∀ k ∈ H, ClB k) (ρ : Nat → Option Nat) : renB ρ H = some H := by
 induction H with
 | nil => rfl
 | cons x l ih => simp [renB, h x (by simp) ρ, ih fun y hy => h y (by simp [hy])]
theorem ClB.wk {H : List Blk} {n : Nat} {k : Blk} (h : ClB k) : WkB H n k k := by
 cases k with
 | mem cells =>
  refine .same ?_
  have := h (fun b => if b < n then some b else none)
  simp only [Blk.ren] at this
  split at this
  ·rename_i cs hcs; injection this with this; injection this with this; rw [hcs, this]
  ·cases this
 | iter s p => exact .iter _ _
 | glob r o => exact .glob _ _
 | dead => exact .dead _
theorem Jt58 {H : List Blk} {n : Nat} : ∀ {T : List Blk}, (∀ k ∈ T, ClB k) → ∀ {X Y : List Blk}, WkHs H n X Y → WkHs H n (T ++ X) (T ++ Y) := by
 intro T
 induction T with
 | nil => intro _ X Y h; exact h
 | cons x T ih => intro h X Y hx; exact ⟨(h x (by simp)).wk, ih (fun b hb => h b (by simp [hb])) hx⟩
theorem Jtf0 (H : List Blk) : ∀ (k n : Nat), k + n = H.length → picks H ((List.range' k n)) = some (H.drop k) := by
 intro k n
 induction n generalizing k with
 | zero => intro h; simp [picks, show k = H.length by omega]
 | succ n ih =>
  intro h
  rw [List.range'_succ]
  simp only [picks]
  have hk : k < H.length := by omega
  rw [List.getElem?_eq_getElem hk, ih (k + 1) (by omega), List.drop_eq_getElem_cons hk]
theorem Jtb7 : ∀ (n k b : Nat), k ≤ b → b < k + n → idx (List.range' k n) b = some (b - k) := by
 intro n
 induction n with
 | zero => intro k b h1 h2; omega
 | succ n ih =>
  intro k b h1 h2
  rw [List.range'_succ]
  simp only [idx]
  by_cases h : k = b
  ·subst h; simp
  ·rw [if_neg h, ih (k + 1) b (by omega) (by omega)]; simp; omega
theorem Jtk7 : ∀ (bs : List Nat) (H ks : List Blk), picks H bs = some ks → wback H bs ks = H := by
 intro bs
 induction bs with
 | nil => intro H ks h; simp [picks] at h; subst h; rfl
 | cons b bs ih =>
  intro H ks h
  simp only [picks] at h
  split at h
  ·rename_i k ks' hk hks
   injection h with h; subst h
   simp only [wback]
   have : H.set b k = H := by
    apply List.ext_getElem?
    intro j
    rw [List.getElem?_set]
    split
    ·rename_i hj; subst hj; rw [hk]; simp [(List.getElem?_eq_some_iff.1 hk).1]
    ·rfl
   rw [this]; exact ih H ks' hks
  ·cases h
theorem Jt12 {P : Program} {K : ASt → Prop} {QP : AV → ASt → Prop} {dst : Option Nat} {st : ASt} {ι : Type} {f : Nat} {args : List AV} {C : ι → List Blk} {X : ι → AV} {Pr : ι → Prop} (hcl : ∀ k ∈ st.H, ClB k)
  (ha : renL (idx (List.range' 0 st.H.length)) args = some args) (h : Jt4n P f args st.H fun o H' => ∃ i, Pr i ∧ o = .ret (X i) ∧ H' = st.H ++ C i) (hX : ∀ i ρ, (X i).ren ρ = some (X i)) (hC : ∀ i, ∀ k ∈ C i, ClB k)
  (hK : ∀ i, Pr i → K (put dst (X i) ⟨unview st.env, st.H ++ C i⟩)) : AWcall P false f args dst K QP st := by
 have hp := Jtf0 st.H 0 st.H.length (by omega)
 rw [List.drop_zero] at hp
 refine .inr ⟨rfl, .inr ⟨List.range' 0 st.H.length, List.nodup_range' .., args, st.H, st.H, ha, hp, Jtgh hcl _, h.mono ?_⟩⟩
 rintro o H' ⟨i, hi, rfl, rfl⟩
 have hl : (List.range' 0 st.H.length).length = st.H.length := by simp
 refine ⟨(C i).length, st.H ++ C i, X i, ?_, by rw [hl, List.length_append]; exact Nat.le_refl _, hX i _, ?_⟩
 ·rw [hl, ← List.length_append, List.take_length]
  exact Jtgh (fun k hk => (List.mem_append.1 hk).elim (hcl k) (hC i k)) _
 ·have := hK i hi
  rw [hl, List.take_left, List.drop_left, Jtk7 _ _ _ hp]; exact this
structure Maps (H : List Blk) (b : Nat) (rs : List Nat) (kss : List (List Int)) : Prop where
 cell : H[b]? = some (.mem (rs.map .mp))
 len : rs.length = kss.length
 map : ∀ (j r : Nat) (ks : List Int), rs[j]? = some r → kss[j]? = some ks → ∃ i : Nat, H[i]? = some (Blk.glob r (mpK ks))
 cl : ∀ k ∈ H, ClB k
theorem gN1 {H X : List Blk} {a b : Blk} : (H ++ a :: b :: X)[H.length + 1]? = some b := by rw [List.getElem?_append_right (by omega)]; simp
theorem gN2 {H X : List Blk} {a b c : Blk} : (H ++ a :: b :: c :: X)[H.length + 2]? = some c := by rw [List.getElem?_append_right (by omega)]; simp
theorem sN1 {H X : List Blk} {a b y : Blk} : (H ++ a :: b :: X).set (H.length + 1) y = H ++ a :: y :: X := by rw [List.set_append_right _ _ (by omega)]; simp
theorem sN2 {H X : List Blk} {a b c y : Blk} : (H ++ a :: b :: c :: X).set (H.length + 2) y = H ++ a :: b :: y :: X := by rw [List.set_append_right _ _ (by omega)]; simp
def Exits (kss : List (List Int)) (ts : List Int) (v : Int) : Prop := ∃ t ∈ ts, ∃ l, kss[t.toNat]? = some l ∧ v ∈ l
section
set_option maxHeartbeats 2000000 in
theorem Jtcr {P : Program} {p : Nums} (A : All P p) (b : Block) (H : List Blk) (b0 n : Nat) (rs : List Nat) (kss : List (List Int)) (hm : Maps H b0 rs kss) (hn : rs.length = n) (hs : ∀ t ∈ succsZ b.term, 0 ≤ t ∧ t < rs.length) :
  Jt4n P p.liveness_exit [.hsl b0 0 1 n, b.av] H fun o H' => ∃ x : Nat × List Int, (x.2.Nodup ∧ ∀ v, v ∈ x.2 ↔ Exits kss (succsZ b.term) v) ∧ o = .ret (.mp x.1) ∧ H' = H ++ [.dead, .glob x.1 (mpK x.2)] := by
 refine A.liveness_exit.run rfl fun R hR => ?_
 have hb0 : b0 < H.length := (List.getElem?_eq_some_iff.1 hm.cell).1
 have hcs := Jtia A b.term
 have hl2 : (succsZ b.term).length ≤ 2 := by unfold succsZ; split; simp; split; simp; simp
 obtain ⟨ts, hts⟩ : ∃ x, x = succsZ b.term := ⟨_, rfl⟩
 rw [← hts] at hcs hs hl2 hR
 have gb : ∀ X : List Blk, (H ++ X)[b0]? = some (.mem (rs.map .mp)) := fun X => by rw [List.getElem?_append_left hb0]; exact hm.cell
 obtain ⟨code, kind, ta, to, els⟩ := b
 simp only [Term.av] at hcs
 (simp (maxSteps := 1000000) [Jtab, Block.av])
 refine Jt2a fun r => ?_
 (simp (maxSteps := 1000000) [])
 (refine Jt13 hcs (by rfl) (by rfl) ?_)
 (simp (maxSteps := 1000000) [])
 obtain ⟨tR, htR⟩ : ∃ x, x = ts.map fun x => [I x] := ⟨_, rfl⟩
 have ltR : tR.length = ts.length := by rw [htR]; simp
 rw [← htR]
 have lH : ∀ {X : List Blk} {a c : Blk}, WkT X (H ++ [a, c]).length (.hsl b0 0 1 n) (.hsl b0 0 1 n) := fun {X a c} => Jtka (by simp only [AV.ren, List.length_append, List.length_cons, List.length_nil]; rw [if_pos (by omega)])
 have lH3 : ∀ {X : List Blk} {a c d : Blk}, WkT X (H ++ [a, c, d]).length (.hsl b0 0 1 n) (.hsl b0 0 1 n) := fun {X a c d} => Jtka (by simp only [AV.ren, List.length_append, List.length_cons, List.length_nil]; rw [if_pos (by omega)])
 have lP3 : ∀ {X : List Blk} {a c d : Blk}, WkT X (H ++ [a, c, d]).length (.ptr (H.length + 2) 0) (.ptr (H.length + 2) 0) := fun {X a c d} => Jtka (by simp only [AV.ren, List.length_append, List.length_cons, List.length_nil]; rw [if_pos (by omega)])
 refine Jtd (fun z : Nat × List Int => ⟨[(14, AI z.1), (13, AI (ts.length : Int)), (12, .d (.sl tR)), (5, .mp r), (0, .hsl b0 0 1 n)], H ++ [.dead, .glob r (mpK z.2)]⟩)
  (fun z => z.1 ≤ ts.length ∧ z.2.Nodup ∧ ∀ v, v ∈ z.2 ↔ Exits kss (ts.take z.1) v) (fun z => ts.length - z.1) (0, []) ⟨by simp, by simp, fun v => by simp [Exits]⟩ ?_ ?_
 ·simp only [ltR]
  refine Wk.of ?_ (Jt58 hm.cl ⟨.dead _, .glob _ _, trivial⟩) (by simp) <;> repeat' (first | (first | exact True.intro | exact ⟨_, rfl, Jtka rfl⟩ | exact ⟨_, rfl, Jtk8 rfl⟩ | exact ⟨_, rfl, .inl .nild⟩ | exact ⟨_, rfl, .inl .nile⟩ | exact ⟨_, rfl, Jtk9⟩ | exact Jtka rfl | exact Jtk8 rfl | exact .inl .nild | exact .inl .nile | exact Jtk9 | exact WkB.same rfl | exact Jt53 | exact Jt52 | exact .dead _ | exact .iter _ _ | exact .glob _ _ | refine Jt51 ?_ ?_ | refine And.intro ?_ ?_) | exact ⟨_, rfl, lH⟩)
 rintro ⟨k, outs⟩ ⟨i1, i2, i3⟩ N hN
 simp only at i1 i2 i3 hN
 (simp (maxSteps := 1000000) [])
 by_cases h2 : k < ts.length
 ·have h2i : (k : Int) < (ts.length : Int) := by omega
  have hw := Jtkg (k := k) (by omega)
  have hb : ts[k]? = some ts[k] := by simp [h2]
  obtain ⟨x, hx⟩ : ∃ i, i = ts[k] := ⟨_, rfl⟩
  rw [← hx] at hb
  have hr : tR[k]? = some [I x] := by rw [htR, List.getElem?_map, hb]; rfl
  obtain ⟨x0, x1⟩ := hs x (List.mem_of_getElem? hb)
  have hxn : x < (n : Int) := by omega
  obtain ⟨rt, hrt⟩ : ∃ y, rs[x.toNat]? = some y := ⟨_, List.getElem?_eq_getElem (by omega)⟩
  obtain ⟨kt, hkt⟩ : ∃ y, kss[x.toNat]? = some y := ⟨_, List.getElem?_eq_getElem (by have := hm.len; omega)⟩
  obtain ⟨it, hit⟩ := hm.map _ _ _ hrt hkt
  have hitl := (List.getElem?_eq_some_iff.1 hit).1
  have gi : ∀ X : List Blk, (H ++ X)[it]? = some (.glob rt (mpK kt)) := fun X => by rw [List.getElem?_append_left hitl]; exact hit
  (simp (maxSteps := 1000000) [h2, hr, gb, x0, hxn, List.getElem?_map, hrt])
  refine Jt2n (b := it) (by rfl) (gi _) fun r' => ?_
  (simp (maxSteps := 1000000) [])
  refine Jtd (fun z : List Nat × List Int × List Int => ⟨[(22, .ptr (H.length + 2) 0), (14, AI k), (13, AI (ts.length : Int)), (12, .d (.sl tR)), (5, .mp r), (0, .hsl b0 0 1 n)], H ++ [.dead, .glob r (mpK z.2.2), .glob r' (itO rt kt.length z.1)]⟩)
   (fun z => Seen kt z.1 z.2.1 ∧ z.2.2.Nodup ∧ ∀ v, v ∈ z.2.2 ↔ v ∈ outs ∨ v ∈ z.2.1) (fun z => kt.length - z.1.length) ([], [], outs) ⟨Seen.nil _, i2, fun v => by simp⟩ ?_ ?_
  ·refine Wk.of ?_ (Jt58 hm.cl ⟨.dead _, .glob _ _, .glob _ _, trivial⟩) (by simp) <;> repeat' (first | (first | exact True.intro | exact ⟨_, rfl, Jtka rfl⟩ | exact ⟨_, rfl, Jtk8 rfl⟩ | exact ⟨_, rfl, .inl .nild⟩ | exact ⟨_, rfl, .inl .nile⟩ | exact ⟨_, rfl, Jtk9⟩ | exact Jtka rfl | exact Jtk8 rfl | exact .inl .nild | exact .inl .nile | exact Jtk9 | exact WkB.same rfl | exact Jt53 | exact Jt52 | exact .dead _ | exact .iter _ _ | exact .glob _ _ | refine Jt51 ?_ ?_ | refine And.intro ?_ ?_) | exact ⟨_, rfl, lH3⟩ | exact ⟨_, rfl, lP3⟩)
  rintro ⟨seen, cs, o2⟩ ⟨j1, j2, j3⟩ N2 hN2
  simp only at j1 j2 j3 hN2
  (simp (maxSteps := 1000000) [])
  refine Jt2j (b := it) (bi := H.length + 2) (by rfl) gN2 (gi _) (fun i kk hk hi => ?_) (fun hall => ?_)
  ·have hs' := j1.step hk hi
   have hlen := hs'.len
   simp only [sN2]
   (simp (maxSteps := 1000000) [])
   refine Jt26 (bi := H.length + 2) (b := it) (by rfl) gN2 (gi _) hk ?_
   (simp (maxSteps := 1000000) [])
   refine Jt2p (b := H.length + 1) (by rfl) (by rfl) (by rfl) gN1 ?_
   simp only [sN1]
   (simp (maxSteps := 1000000) [])
   refine hN2 _ (seen ++ [i], cs ++ [kk], madd o2 kk) ⟨hs', Jtda j2, fun v => by
    show v ∈ madd o2 kk ↔ v ∈ outs ∨ v ∈ cs ++ [kk]
    rw [Jtdn, j3, List.mem_append, List.mem_singleton, or_assoc]⟩ ?_ (by simp only [List.length_append, List.length_singleton] at hlen ⊢; omega)
   refine Wk.of ?_ (Jt58 hm.cl ⟨.dead _, .glob _ _, .glob _ _, trivial⟩) (by simp) <;> repeat' (first | (first | exact True.intro | exact ⟨_, rfl, Jtka rfl⟩ | exact ⟨_, rfl, Jtk8 rfl⟩ | exact ⟨_, rfl, .inl .nild⟩ | exact ⟨_, rfl, .inl .nile⟩ | exact ⟨_, rfl, Jtk9⟩ | exact Jtka rfl | exact Jtk8 rfl | exact .inl .nild | exact .inl .nile | exact Jtk9 | exact WkB.same rfl | exact Jt53 | exact Jt52 | exact .dead _ | exact .iter _ _ | exact .glob _ _ | refine Jt51 ?_ ?_ | refine And.intro ?_ ?_) | exact ⟨_, rfl, lH3⟩ | exact ⟨_, rfl, lP3⟩)
  ·have hp := j1.done hall
   (simp (maxSteps := 1000000) [hw])
   refine hN _ (k + 1, o2) ⟨h2, j2, fun v => ?_⟩ ?_ (by simp only; omega)
   ·show v ∈ o2 ↔ Exits kss (ts.take (k + 1)) v
    rw [j3, i3, hp.mem_iff, List.take_add_one, hb]
    simp only [Exits, Option.toList_some, List.mem_append, List.mem_singleton]
    constructor
    ·rintro (⟨t, h1, l, h3, h4⟩ | h)
     ·exact ⟨t, .inl h1, l, h3, h4⟩
     ·exact ⟨x, .inr rfl, kt, hkt, h⟩
    ·rintro ⟨t, h1 | rfl, l, h3, h4⟩
     ·exact .inl ⟨t, h1, l, h3, h4⟩
     ·rw [hkt] at h3; injection h3 with h3; subst h3; exact .inr h4
   ·refine Wk.of ?_ (Jt58 hm.cl ⟨.dead _, .glob _ _, trivial⟩) (by simp) <;> repeat' (first | (first | exact True.intro | exact ⟨_, rfl, Jtka rfl⟩ | exact ⟨_, rfl, Jtk8 rfl⟩ | exact ⟨_, rfl, .inl .nild⟩ | exact ⟨_, rfl, .inl .nile⟩ | exact ⟨_, rfl, Jtk9⟩ | exact Jtka rfl | exact Jtk8 rfl | exact .inl .nild | exact .inl .nile | exact Jtk9 | exact WkB.same rfl | exact Jt53 | exact Jt52 | exact .dead _ | exact .iter _ _ | exact .glob _ _ | refine Jt51 ?_ ?_ | refine And.intro ?_ ?_) | exact ⟨_, rfl, lH⟩)
 ·have ek : k = ts.length := by omega
  subst ek
  (simp (maxSteps := 1000000) [])
  rw [List.take_length] at i3
  refine hR _ _ (Jt4r (.mp r) (.mp r) (H ++ [.dead, .glob r (mpK outs)]) (by rfl) ?_ ⟨(r, outs), ⟨i2, i3⟩, rfl, rfl⟩)
  exact Wk.of ⟨⟨_, rfl, Jtka rfl⟩, trivial⟩ (Jt58 hm.cl ⟨.dead _, .glob _ _, trivial⟩) (by simp)
end
end Go.AE
set_option maxRecDepth 4000
namespace Go.AE
open Go
structure Qd where (ru rd : Nat) (ks ds : List Int)
def rowQ (q : Qd) : List Blk := [.dead, .dead, .dead, .dead, .glob q.ru (mpK q.ks), .glob q.rd (mpK q.ds)]
def TT : List Qd → List Blk
 | [] => []
 | q :: l => rowQ q ++ TT l
theorem TT_len : ∀ l : List Qd, (TT l).length = 6 * l.length := by
 intro l
 induction l with
 | nil => rfl
 | cons q l ih => simp only [TT, List.length_append, ih, rowQ, List.length_cons, List.length_nil]; omega
theorem TT_u : ∀ {l : List Qd} {j : Nat} {q : Qd}, l[j]? = some q → (TT l)[6 * j + 4]? = some (.glob q.ru (mpK q.ks)) := by
 intro l
 induction l with
 | nil => intro j q h; simp at h
 | cons q0 l ih =>
  intro j q h
  cases j with
  | zero => simp at h; subst h; rfl
  | succ j => exact ih (by simpa using h)
theorem TT_d : ∀ {l : List Qd} {j : Nat} {q : Qd}, l[j]? = some q → (TT l)[6 * j + 5]? = some (.glob q.rd (mpK q.ds)) := by
 intro l
 induction l with
 | nil => intro j q h; simp at h
 | cons q0 l ih =>
  intro j q h
  cases j with
  | zero => simp at h; subst h; rfl
  | succ j => exact ih (by simpa using h)
theorem TT_set : ∀ {l : List Qd} {j : Nat} {q : Qd} (ks' : List Int), l[j]? = some q → (TT l).set (6 * j + 4) (.glob q.ru (mpK ks')) = TT (l.set j { q with ks := ks' }) := by
 intro l
 induction l with
 | nil => intro j q ks' h; simp at h
 | cons q0 l ih =>
  intro j q ks' h
  cases j with
  | zero => simp at h; subst h; rfl
  | succ j =>
   have := ih ks' (j := j) (q := q) (by simpa using h)
   show rowQ q0 ++ (TT l).set (6 * j + 4) _ = rowQ q0 ++ TT (l.set j _)
   rw [this]
theorem TT_app : ∀ (l : List Qd) (q : Qd), TT (l ++ [q]) = TT l ++ rowQ q := by
 intro l
 induction l with
 | nil => intro q; simp [TT]
 | cons q0 l ih => intro q; show rowQ q0 ++ TT (l ++ [q]) = rowQ q0 ++ TT l ++ rowQ q; rw [ih, List.append_assoc]
theorem TT_cl : ∀ {l : List Qd}, ∀ k ∈ TT l, ClB k := by
 intro l
 induction l with
 | nil => intro k h; simp [TT] at h
 | cons q l ih =>
  intro k h
  rcases List.mem_append.1 h with h | h
  ·simp only [rowQ, List.mem_cons, List.not_mem_nil, or_false] at h
   rcases h with rfl | rfl | rfl | rfl | rfl | rfl
   ·exact .dead
   ·exact .dead
   ·exact .dead
   ·exact .dead
   ·exact .glob _ _
   ·exact .glob _ _
  ·exact ih k h
def cellsM (rs : List Nat) (n : Nat) : List AV := rs.map .mp ++ List.replicate (n - rs.length) .nilm
theorem Jt6x {rs : List Nat} {n : Nat} (h : rs.length ≤ n) : (cellsM rs n).length = n := by simp [cellsM]; omega
theorem Jt6z {rs : List Nat} {n k : Nat} (hk : rs.length = k) (h : k < n) (r : Nat) : (cellsM rs n).take k ++ AV.mp r :: (cellsM rs n).drop (k + 1) = cellsM (rs ++ [r]) n := by
 subst hk
 unfold cellsM
 have e : n - rs.length = (n - (rs ++ [r]).length) + 1 := by simp; omega
 rw [List.take_append_of_le_length (by simp), List.take_of_length_le (by simp), e, List.replicate_succ, List.drop_append]
 simp
theorem Jt6w {rs : List Nat} {n : Nat} (h : rs.length = n) : cellsM rs n = rs.map .mp := by simp [cellsM, h]
theorem Jt6y (n : Nat) : (List.replicate n [AV.nilm]).flatten = cellsM [] n := by
 simp [cellsM]
theorem Jt6v {rs : List Nat} {n : Nat} : ClB (.mem (cellsM rs n)) := ClB.mem fun x hx ρ => by
 rcases List.mem_append.1 hx with h | h
 ·obtain ⟨r, _, rfl⟩ := List.mem_map.1 h; rfl
 ·rw [List.eq_of_mem_replicate h]; rfl
def regsL (f : Func) : List Int := f.blocks.flatMap fun b => b.code.flatMap (fun i => [i.a, i.b]) ++ [b.term.a]
theorem Jtjz {b : Block} {v : Int} {k : Nat} (h : usedC b v k = true) : ∃ i ∈ b.code, i.a = v ∨ i.b = v := by
 unfold usedC at h
 rw [List.any_eq_true] at h
 obtain ⟨j, _, h⟩ := h
 split at h
 ·rename_i i hi
  refine ⟨i, List.mem_of_getElem? hi, ?_⟩
  simp only [useI, Bool.and_eq_true, Bool.or_eq_true, beq_iff_eq] at h
  exact h.1.imp And.right And.right
 ·cases h
theorem LiveAt.regs {f : Func} {v : Int} {i : Nat} (h : LiveAt f v i) : v ∈ regsL f := by
 refine h.closed (S := fun _ => v ∈ regsL f) (fun i b hb hu => ?_) fun i b t _ _ h _ => h
 refine List.mem_flatMap.2 ⟨b, List.mem_of_getElem? hb, ?_⟩
 unfold usedZ at hu
 rw [Bool.or_eq_true] at hu
 rcases hu with hu | hu
 ·obtain ⟨i, hi, h⟩ := Jtjz hu
  refine List.mem_append_left _ (List.mem_flatMap.2 ⟨i, hi, ?_⟩)
  rcases h with h | h <;> simp [h]
 ·simp only [Bool.and_eq_true, beq_iff_eq] at hu
  exact List.mem_append_right _ (by simp [hu.1.2])
structure SolJ (f : Func) (l : List Qd) : Prop where
 len : l.length = f.blocks.length
 at_ : ∀ j q b, l[j]? = some q → f.blocks[j]? = some b → q.ks.Nodup ∧ (∀ v ∈ q.ks, LiveAt f v j) ∧ (∀ v, usedZ b v = true → v ∈ q.ks) ∧ q.ds = (scanZ b).2
def sumQ (l : List Qd) : Nat := (l.map fun q => q.ks.length).sum
theorem sum_le {α : Type} (g : α → Nat) (c : Nat) : ∀ {l : List α}, (∀ x ∈ l, g x ≤ c) → (l.map g).sum ≤ l.length * c := by
 intro l
 induction l with
 | nil => intro _; simp
 | cons x l ih =>
  intro h
  have := ih fun y hy => h y (by simp [hy])
  have := h x (by simp)
  simp only [List.map_cons, List.sum_cons, List.length_cons, Nat.add_mul, Nat.one_mul]; omega
theorem SolJ.sum {f : Func} {l : List Qd} (h : SolJ f l) : sumQ l ≤ f.blocks.length * (regsL f).length := by
 rw [← h.len]
 refine sum_le _ _ fun q hq => ?_
 obtain ⟨j, hj⟩ := List.getElem?_of_mem hq
 have hjl := (List.getElem?_eq_some_iff.1 hj).1
 obtain ⟨b, hb⟩ : ∃ b, f.blocks[j]? = some b := ⟨_, List.getElem?_eq_getElem (by rw [← h.len]; exact hjl)⟩
 obtain ⟨h1, h2, _, _⟩ := h.at_ j q b hj hb
 exact h1.length_le_of_subset fun v hv => (h2 v hv).regs
theorem Jtj5 {α : Type} (g : α → Nat) : ∀ {l : List α} {j : Nat} {x y : α}, l[j]? = some x → ((l.set j y).map g).sum + g x = (l.map g).sum + g y := by
 intro l
 induction l with
 | nil => intro j x y h; simp at h
 | cons z l ih =>
  intro j x y h
  cases j with
  | zero => simp at h; subst h; simp; omega
  | succ j =>
   have := ih (j := j) (x := x) (y := y) (by simpa using h)
   simp only [List.set_cons_succ, List.map_cons, List.sum_cons]; omega
def Jt4o (f : Func) (l : List Qd) (j : Nat) : Prop := ∀ b q, f.blocks[j]? = some b → l[j]? = some q → ∀ v, Exits (l.map fun q => q.ks) (succsZ b.term) v → v ∉ q.ds → v ∈ q.ks
theorem SolJ.done {f : Func} {l : List Qd} (h : SolJ f l) (hc : ∀ j, j < f.blocks.length → Jt4o f l j) {j : Nat} {q : Qd} (hq : l[j]? = some q) (v : Int) : v ∈ q.ks ↔ LiveAt f v j := by
 constructor
 ·intro hv
  have hjl := (List.getElem?_eq_some_iff.1 hq).1
  obtain ⟨b, hb⟩ : ∃ b, f.blocks[j]? = some b := ⟨_, List.getElem?_eq_getElem (by rw [← h.len]; exact hjl)⟩
  exact (h.at_ j q b hq hb).2.1 v hv
 ·intro hl
  have ex : ∀ i b, f.blocks[i]? = some b → ∃ q, l[i]? = some q := fun i b hb => ⟨_, List.getElem?_eq_getElem (by rw [h.len]; exact (List.getElem?_eq_some_iff.1 hb).1)⟩
  obtain ⟨q2, h2, h3⟩ := hl.closed (S := fun i => ∃ q, l[i]? = some q ∧ v ∈ q.ks) (fun i b hb hu => by
    obtain ⟨q, hq⟩ := ex i b hb
    exact ⟨q, hq, (h.at_ i q b hq hb).2.2.1 v hu⟩) (fun i b t hb ht hS hd => by
    obtain ⟨q, hq⟩ := ex i b hb
    obtain ⟨q2, h2, h3⟩ := hS
    refine ⟨q, hq, hc i (List.getElem?_eq_some_iff.1 hb).1 b q hb hq v ⟨t, ht, q2.ks, by rw [List.getElem?_map, h2]; rfl, h3⟩ ?_⟩
    rw [(h.at_ i q b hq hb).2.2.2, (Jthq b).1]; simp [hd])
  rw [hq] at h2; injection h2 with h2; subst h2; exact h3
end Go.AE
set_option maxRecDepth 8000
namespace Go.AE
open Go
theorem Jt56 {H X : List Blk} {n : Nat} {l : List Qd} : WkHs H n (TT l ++ X) (TT l) := by
 have := Jt58 (H := H) (n := n) (T := TT l) TT_cl (X := X) (Y := []) Jt5b
 rwa [List.append_nil] at this
theorem Jt55 {H : List Blk} {n : Nat} {l : List Qd} : WkHs H n (TT l) (TT l) := by
 have := Jt58 (H := H) (n := n) (T := TT l) TT_cl (X := []) (Y := []) trivial
 rwa [List.append_nil] at this
def ruL (l : List Qd) : List Nat := l.map fun q => q.ru
@[simp] theorem Jthd (l : List Qd) : (ruL l).length = l.length := by simp [ruL]
theorem Jthb (l : List Qd) (q : Qd) : ruL (l ++ [q]) = ruL l ++ [q.ru] := by simp [ruL]
theorem Jthc {l : List Qd} {j : Nat} {q : Qd} (h : l[j]? = some q) : (ruL l)[j]? = some q.ru := by rw [ruL, List.getElem?_map, h]; rfl
theorem Jthe {l : List Qd} {j : Nat} {q : Qd} (h : l[j]? = some q) (ks : List Int) : ruL (l.set j { q with ks := ks }) = ruL l := by
 apply List.ext_getElem?
 intro i
 rw [ruL, ruL, List.getElem?_map, List.getElem?_map, List.getElem?_set]
 split
 ·rename_i hi; subst hi
  rw [h]; simp [(List.getElem?_eq_some_iff.1 h).1]
 ·rfl
def rdL (l : List Qd) : List Nat := l.map fun q => q.rd
@[simp] theorem Jtfd (l : List Qd) : (rdL l).length = l.length := by simp [rdL]
theorem Jtfb (l : List Qd) (q : Qd) : rdL (l ++ [q]) = rdL l ++ [q.rd] := by simp [rdL]
theorem Jtfc {l : List Qd} {j : Nat} {q : Qd} (h : l[j]? = some q) : (rdL l)[j]? = some q.rd := by rw [rdL, List.getElem?_map, h]; rfl
theorem Jtfe {l : List Qd} {j : Nat} {q : Qd} (h : l[j]? = some q) (ks : List Int) : rdL (l.set j { q with ks := ks }) = rdL l := by
 apply List.ext_getElem?
 intro i
 rw [rdL, rdL, List.getElem?_map, List.getElem?_map, List.getElem?_set]
 split
 ·rename_i hi; subst hi
  rw [h]; simp [(List.getElem?_eq_some_iff.1 h).1]
 ·rfl
section
variable {a b c : Blk} {l : List Qd} {n : Nat} {d o it : Blk} {X : List Blk}
theorem q_it (h : l.length = n) : (a :: b :: c :: (TT l ++ d :: o :: it :: X))[6 * n + 5]? = some it := by
 subst h
 show (TT l ++ d :: o :: it :: X)[6 * l.length + 2]? = some it
 rw [← TT_len l]; exact gN2
theorem q_o (h : l.length = n) : (a :: b :: c :: (TT l ++ d :: o :: X))[6 * n + 4]? = some o := by
 subst h
 show (TT l ++ d :: o :: X)[6 * l.length + 1]? = some o
 rw [← TT_len l]; exact gN1
theorem q_sit (h : l.length = n) (y : Blk) : (a :: b :: c :: (TT l ++ d :: o :: it :: X)).set (6 * n + 5) y = a :: b :: c :: (TT l ++ d :: o :: y :: X) := by
 subst h
 show a :: b :: c :: (TT l ++ d :: o :: it :: X).set (6 * l.length + 2) y = _
 rw [← TT_len l, sN2]
theorem q_u {j : Nat} {q : Qd} (h : l[j]? = some q) : (a :: b :: c :: (TT l ++ X))[6 * j + 7]? = some (.glob q.ru (mpK q.ks)) := by
 show (TT l ++ X)[6 * j + 4]? = _
 have := TT_u h
 rw [List.getElem?_append_left (List.getElem?_eq_some_iff.1 this).1]; exact this
theorem q_d {j : Nat} {q : Qd} (h : l[j]? = some q) : (a :: b :: c :: (TT l ++ X))[6 * j + 8]? = some (.glob q.rd (mpK q.ds)) := by
 show (TT l ++ X)[6 * j + 5]? = _
 have := TT_d h
 rw [List.getElem?_append_left (List.getElem?_eq_some_iff.1 this).1]; exact this
theorem q_su {j : Nat} {q : Qd} (h : l[j]? = some q) (ks : List Int) : (a :: b :: c :: (TT l ++ X)).set (6 * j + 7) (.glob q.ru (mpK ks)) = a :: b :: c :: (TT (l.set j { q with ks := ks }) ++ X) := by
 show a :: b :: c :: (TT l ++ X).set (6 * j + 4) _ = _
 rw [List.set_append_left _ _ (List.getElem?_eq_some_iff.1 (TT_u h)).1, TT_set ks h]
end
theorem SolJ.set {f : Func} {l : List Qd} (h : SolJ f l) {j : Nat} {q : Qd} {b : Block} (hq : l[j]? = some q) (hb : f.blocks[j]? = some b) {ks : List Int} (hnd : ks.Nodup) (hsub : ∀ v ∈ q.ks, v ∈ ks)
  (hnew : ∀ v ∈ ks, v ∈ q.ks ∨ (Exits (l.map fun q => q.ks) (succsZ b.term) v ∧ v ∉ q.ds)) : SolJ f (l.set j { q with ks := ks }) := by
 refine ⟨by rw [List.length_set]; exact h.len, fun i q' b' hi hb' => ?_⟩
 by_cases hij : j = i
 ·subst hij
  rw [List.getElem?_set_self (List.getElem?_eq_some_iff.1 hq).1] at hi
  injection hi with hi; subst hi
  rw [hb] at hb'; injection hb' with hb'; subst hb'
  obtain ⟨k1, k2, k3, k4⟩ := h.at_ j q b hq hb
  refine ⟨hnd, fun v hv => ?_, fun v hv => hsub v (k3 v hv), k4⟩
  rcases hnew v hv with h1 | ⟨⟨t, ht, lt, h2, h3⟩, h4⟩
  ·exact k2 v h1
  ·rw [List.getElem?_map, Option.map_eq_some_iff] at h2
   obtain ⟨q2, h5, rfl⟩ := h2
   have htl := (List.getElem?_eq_some_iff.1 h5).1
   obtain ⟨b2, hb2⟩ : ∃ b2, f.blocks[t.toNat]? = some b2 := ⟨_, List.getElem?_eq_getElem (by rw [← h.len]; exact htl)⟩
   refine .next j b t hb ht ((h.at_ _ q2 b2 h5 hb2).2.1 v h3) ?_
   have := (Jthq b).1 v
   rw [k4] at h4
   simpa using fun h6 => h4 (this.2 h6)
 ·rw [List.getElem?_set_ne hij] at hi
  exact h.at_ i q' b' hi hb'
section
set_option maxHeartbeats 4000000 in
theorem Jtcv {P : Program} {p : Nums} (A : All P p) (f : Func) (ok : OkL f) : Jt4n P p.liveness_solve [f.av] [] fun o H' => ∃ l : List Qd, (SolJ f l ∧ ∀ j, j < f.blocks.length → Jt4o f l j) ∧ o = .ret (.hsl 1 0 1 f.blocks.length) ∧ H' = [.dead, .mem ((ruL l).map .mp), .dead] ++ TT l := by
 refine A.liveness_solve.run rfl fun R hR => ?_
 have hbl := ok.bl
 obtain ⟨fR, hfR⟩ : ∃ x, x = f.blocks.map Block.row := ⟨_, rfl⟩
 have lR : fR.length = f.blocks.length := by rw [hfR]; simp
 have gR : ∀ (j : Nat) (b : Block), f.blocks[j]? = some b → fR[j]? = some b.row := fun j b h => by rw [hfR, List.getElem?_map, h]; rfl
 obtain ⟨n, hn⟩ : ∃ n, n = f.blocks.length := ⟨_, rfl⟩
 rw [← hn] at lR hbl hR
 have av : f.av = .agg [AI f.args, AI f.regs, .d (.sl fR)] := by rw [hfR]; rfl
 rw [av]
 (simp (maxSteps := 1000000) [Jtaf, lR])
 refine Jt2e (n := n) (by rfl) (by rfl) (by omega) (by omega) (by decide) (by rfl) (by rfl) (by rfl) ?_
 rw [Jt6y]
 (simp (maxSteps := 1000000) [lR])
 refine Jt2e (n := n) (by rfl) (by rfl) (by omega) (by omega) (by decide) (by rfl) (by rfl) (by rfl) ?_
 rw [Jt6y]
 (simp (maxSteps := 1000000) [lR])
 refine Jtd (fun l : List Qd => ⟨[(21, AI (l.length : Int)), (20, AI (n : Int)), (19, .d (.sl fR)), (4, .hsl 2 0 1 n), (3, .hsl 1 0 1 n), (1, .ptr 0 0)],
  .mem [AI f.args, AI f.regs, .d (.sl fR)] :: .mem (cellsM (ruL l) n) :: .mem (cellsM (rdL l) n) :: TT l⟩)
  (fun l => l.length ≤ n ∧ ∀ (j : Nat) (q : Qd) (b : Block), l[j]? = some q → f.blocks[j]? = some b → q.ks = (scanZ b).1 ∧ q.ds = (scanZ b).2) (fun l => n - l.length) [] ⟨by simp, fun j q b h => by simp at h⟩ ?_ ?_
 ·refine Wk.of ?_ ?_ (by simp) <;> repeat' (first | exact Jt6v.wk | (first | exact True.intro | exact ⟨_, rfl, Jtka rfl⟩ | exact ⟨_, rfl, Jtk8 rfl⟩ | exact ⟨_, rfl, .inl .nild⟩ | exact ⟨_, rfl, .inl .nile⟩ | exact ⟨_, rfl, Jtk9⟩ | exact Jtka rfl | exact Jtk8 rfl | exact .inl .nild | exact .inl .nile | exact Jtk9 | exact WkB.same rfl | exact Jt53 | exact Jt52 | exact .dead _ | exact .iter _ _ | exact .glob _ _ | refine Jt51 ?_ ?_ | refine And.intro ?_ ?_))
 rintro l ⟨i1, i2⟩ N hN
 (simp (maxSteps := 1000000) [])
 by_cases h2 : l.length < n
 ·have h2i : (l.length : Int) < (n : Int) := by omega
  obtain ⟨b, hb⟩ : ∃ b, f.blocks[l.length]? = some b := ⟨_, List.getElem?_eq_getElem (by omega)⟩
  have hr := gR _ _ hb
  have hcl := ok.cl b (List.mem_of_getElem? hb)
  have hsc := Jtct A b (by omega)
  obtain ⟨⟨us, ds⟩, hus⟩ : ∃ x, x = scanZ b := ⟨_, rfl⟩
  rw [← hus] at hsc
  obtain ⟨code, kind, ta, to, els⟩ := b
  simp only [Block.av, Block.row] at hr hsc
  have c1 := Jt6x (rs := ruL l) (n := n) (by simp; omega)
  have c2 := Jt6x (rs := rdL l) (n := n) (by simp; omega)
  have s1 := fun r => Jt6z (rs := ruL l) (n := n) (k := l.length) (by simp) h2 r
  have s2 := fun r => Jt6z (rs := rdL l) (n := n) (k := l.length) (by simp) h2 r
  have hw := Jtkg (k := l.length) (by omega)
  obtain ⟨C1, hC1⟩ : ∃ x, x = cellsM (ruL l) n := ⟨_, rfl⟩
  obtain ⟨C2, hC2⟩ : ∃ x, x = cellsM (rdL l) n := ⟨_, rfl⟩
  rw [← hC1] at c1 s1 ⊢
  rw [← hC2] at c2 s2 ⊢
  have h2s : l.length + 1 ≤ n := h2
  (simp (maxSteps := 1000000) [h2, h2i, hr])
  refine Jt15 [] 5 (X := fun r : Nat × Nat => .tup [.mp r.1, .mp r.2]) (Y := fun r : Nat × Nat => .tup [.mp r.1, .mp r.2]) (C := fun r : Nat × Nat => [.dead, .dead, .dead, .glob r.1 (mpK us), .glob r.2 (mpK ds)]) (Hb := fun r : Nat × Nat => [.dead, .dead, .dead, .glob r.1 (mpK us), .glob r.2 (mpK ds)]) hsc (by decide) (by rfl) (by rfl) (by rfl) (fun _ => rfl) (fun _ => rfl) (fun _ => rfl) fun r _ => ?_
  (simp (maxSteps := 1000000) [wback, h2, c1, c2, h2s])
  (simp (maxSteps := 1000000) [hw])
  rw [s1, s2]
  refine hN _ (l ++ [⟨r.1, r.2, us, ds⟩]) ⟨by simp; omega, fun j q b hj hb' => ?_⟩ ?_ (by simp; omega)
  ·by_cases hjl : j < l.length
   ·rw [List.getElem?_append_left hjl] at hj
    exact i2 j q b hj hb'
   ·have hjj : j = l.length := by
     have := (List.getElem?_eq_some_iff.1 hj).1
     simp at this; omega
    subst hjj
    rw [hb] at hb'; injection hb' with hb'; subst hb'
    simp at hj; subst hj
    rw [← hus]; exact ⟨rfl, rfl⟩
  ·simp only [Jthb, Jtfb, TT_app, rowQ, List.length_append, List.length_singleton]
   refine Wk.of ?_ ?_ (by simp) <;> repeat' (first | exact Jt6v.wk | exact Jt58 TT_cl ⟨.dead _, .dead _, .dead _, .dead _, .glob _ _, .glob _ _, trivial⟩ | (first | exact True.intro | exact ⟨_, rfl, Jtka rfl⟩ | exact ⟨_, rfl, Jtk8 rfl⟩ | exact ⟨_, rfl, .inl .nild⟩ | exact ⟨_, rfl, .inl .nile⟩ | exact ⟨_, rfl, Jtk9⟩ | exact Jtka rfl | exact Jtk8 rfl | exact .inl .nild | exact .inl .nile | exact Jtk9 | exact WkB.same rfl | exact Jt53 | exact Jt52 | exact .dead _ | exact .iter _ _ | exact .glob _ _ | refine Jt51 ?_ ?_ | refine And.intro ?_ ?_))
 ·have el : l.length = n := by omega
  have e1 : cellsM (ruL l) n = (ruL l).map .mp := Jt6w (by rw [Jthd]; exact el)
  have e2 : cellsM (rdL l) n = (rdL l).map .mp := Jt6w (by rw [Jtfd]; exact el)
  rw [e1, e2]
  (simp (maxSteps := 1000000) [h2, el])
  have hJ : SolJ f l := ⟨by omega, fun j q b hj hb => by
   obtain ⟨k1, k2⟩ := i2 j q b hj hb
   obtain ⟨z1, z2, z3, z4, _, _⟩ := Jthq b
   rw [k1]
   exact ⟨z3, fun v hv => .use j b hb ((z2 v).1 hv), fun v hv => (z2 v).2 hv, k2⟩⟩
  refine Jtd (fun l : List Qd => ⟨[(4, .hsl 2 0 1 n), (3, .hsl 1 0 1 n), (1, .ptr 0 0)], .mem [AI f.args, AI f.regs, .d (.sl fR)] :: .mem ((ruL l).map .mp) :: .mem ((rdL l).map .mp) :: TT l⟩)
   (fun l => SolJ f l) (fun l => n * (regsL f).length - sumQ l) l hJ ?_ ?_
  ·refine Wk.of ?_ ?_ (by simp) <;> repeat' (first | exact (ClB.mps _).wk | exact Jt55 | (first | exact True.intro | exact ⟨_, rfl, Jtka rfl⟩ | exact ⟨_, rfl, Jtk8 rfl⟩ | exact ⟨_, rfl, .inl .nild⟩ | exact ⟨_, rfl, .inl .nile⟩ | exact ⟨_, rfl, Jtk9⟩ | exact Jtka rfl | exact Jtk8 rfl | exact .inl .nild | exact .inl .nile | exact Jtk9 | exact WkB.same rfl | exact Jt53 | exact Jt52 | exact .dead _ | exact .iter _ _ | exact .glob _ _ | refine Jt51 ?_ ?_ | refine And.intro ?_ ?_))
  clear N hN hJ e1 e2 i1 i2 h2 el
  intro l hJ N hN
  have el : l.length = n := by rw [hn]; exact hJ.len
  have hw1 : IntKind.i64.wrap ((n : Int) - 1) = (n : Int) - 1 := wrap_i64 (by omega) (by omega)
  (simp (maxSteps := 1000000) [lR, hw1])
  refine Jtd (fun m : Nat => ⟨[(7, AI ((m : Int) - 1)), (4, .hsl 2 0 1 n), (3, .hsl 1 0 1 n), (1, .ptr 0 0)], .mem [AI f.args, AI f.regs, .d (.sl fR)] :: .mem ((ruL l).map .mp) :: .mem ((rdL l).map .mp) :: TT l⟩)
   (fun m => m ≤ n ∧ ∀ j, m ≤ j → j < n → Jt4o f l j) (fun m => m) n ⟨Nat.le_refl _, fun j h1 h2 => by omega⟩ ?_ ?_
  ·refine Wk.of ?_ ?_ (by simp) <;> repeat' (first | exact (ClB.mps _).wk | exact Jt55 | (first | exact True.intro | exact ⟨_, rfl, Jtka rfl⟩ | exact ⟨_, rfl, Jtk8 rfl⟩ | exact ⟨_, rfl, .inl .nild⟩ | exact ⟨_, rfl, .inl .nile⟩ | exact ⟨_, rfl, Jtk9⟩ | exact Jtka rfl | exact Jtk8 rfl | exact .inl .nild | exact .inl .nile | exact Jtk9 | exact WkB.same rfl | exact Jt53 | exact Jt52 | exact .dead _ | exact .iter _ _ | exact .glob _ _ | refine Jt51 ?_ ?_ | refine And.intro ?_ ?_))
  rintro m ⟨m1, m2⟩ M hM
  cases m with
  | zero =>
   have e0 : ((0 : Nat) : Int) - 1 = -1 := rfl
   simp only [e0]
   (simp (maxSteps := 1000000) [])
   refine hR _ _ (Jt4r (.hsl 1 0 1 n) (.hsl 1 0 1 n) ([.dead, .mem ((ruL l).map .mp), .dead] ++ TT l) (by rfl) ?_ ⟨l, ⟨hJ, fun j hj => m2 j (Nat.zero_le _) hj⟩, rfl, rfl⟩)
   refine Wk.of ⟨⟨_, rfl, Jtka (by simp [AV.ren])⟩, trivial⟩ ⟨.dead _, (ClB.mps _).wk, .dead _, Jt55⟩ (by simp)
  | succ j =>
   have e0 : ((j + 1 : Nat) : Int) - 1 = (j : Int) := by omega
   have hwj : IntKind.i64.wrap ((j : Int) - 1) = (j : Int) - 1 := wrap_i64 (by omega) (by omega)
   simp only [e0]
   have hjn : j < n := by omega
   obtain ⟨b, hb⟩ : ∃ b, f.blocks[j]? = some b := ⟨_, List.getElem?_eq_getElem (by omega)⟩
   obtain ⟨q, hq⟩ : ∃ q, l[j]? = some q := ⟨_, List.getElem?_eq_getElem (by omega)⟩
   obtain ⟨p1, p2, p3, p4⟩ := hJ.at_ j q b hq hb
   have hr := gR _ _ hb
   have gu := Jthc hq
   have gd := Jtfc hq
   have hTl : (TT l).length = 6 * n := by rw [TT_len, el]
   have hsucc := fun t ht => ok.succ b (List.mem_of_getElem? hb) t ht
   have hex := Jtcr A b (.mem [AI f.args, AI f.regs, .d (.sl fR)] :: .mem ((ruL l).map .mp) :: .mem ((rdL l).map .mp) :: TT l) 1 n (ruL l) (l.map fun q => q.ks) ⟨rfl, by simp, fun i r ks h1 h2 => by
     rw [List.getElem?_map, Option.map_eq_some_iff] at h2
     obtain ⟨q2, h3, rfl⟩ := h2
     rw [Jthc h3] at h1; injection h1 with h1; subst h1
     exact ⟨6 * i + 7, TT_u h3⟩, fun k hk => by
     simp only [List.mem_cons] at hk
     rcases hk with rfl | rfl | rfl | hk
     ·exact ClB.mem fun x hx ρ => by simp only [List.mem_cons, List.not_mem_nil, or_false] at hx; rcases hx with rfl | rfl | rfl <;> rfl
     ·exact .mps _
     ·exact .mps _
     ·exact TT_cl k hk⟩ (by simp [el]) (fun t ht => by have := hsucc t ht; rw [Jthd, el, hn]; exact this)
   obtain ⟨code, kind, ta, to, els⟩ := b
   simp only [Block.row] at hr
   simp only [Block.av] at hex
   (simp (maxSteps := 1000000) [hjn, gu])
   refine Jt2g (b := 6 * j + 7) (by rfl) (TT_u hq) ?_
   (simp (maxSteps := 1000000) [hr])
   refine Jt12 (C := fun x : Nat × List Int => [.dead, .glob x.1 (mpK x.2)]) (X := fun x : Nat × List Int => .mp x.1) ?_ ?_ hex (fun _ _ => rfl) (fun x k hk => ?_) fun x hx => ?_
   ·intro k hk
    simp only [List.mem_cons] at hk
    rcases hk with rfl | rfl | rfl | hk
    ·exact ClB.mem fun x hx ρ => by simp only [List.mem_cons, List.not_mem_nil, or_false] at hx; rcases hx with rfl | rfl | rfl <;> rfl
    ·exact .mps _
    ·exact .mps _
    ·exact TT_cl k hk
   ·simp only [renL, AV.ren, List.length_cons]
    rw [Jtb7 _ 0 1 (by omega) (by omega)]
   ·simp only [List.mem_cons, List.not_mem_nil, or_false] at hk
    rcases hk with rfl | rfl
    ·exact .dead
    ·exact .glob _ _
   obtain ⟨x1, x2⟩ := hx
   (simp (maxSteps := 1000000) [])
   refine Jt2n (b := 6 * n + 4) (by rfl) (q_o el) fun r' => ?_
   (simp (maxSteps := 1000000) [hTl])
   have lP : ∀ {A B C D E F : Blk} {T Y : List Blk}, T.length = 6 * n → WkT Y (A :: B :: C :: (T ++ [D, E, F])).length (.ptr (6 * n + 5) 0) (.ptr (6 * n + 5) 0) := fun {A B C D E F T Y} hT => Jtka (by
    simp only [AV.ren, List.length_cons, List.length_append, List.length_nil]
    rw [if_pos (by omega)])
   have lT : ∀ ks, (TT (l.set j { q with ks := ks })).length = 6 * n := fun ks => by rw [TT_len, List.length_set, el]
   have eset : l.set j { q with ks := q.ks } = l := by
    apply List.ext_getElem?
    intro i
    rw [List.getElem?_set]
    split
    ·rename_i hi; subst hi; rw [hq]; simp [(List.getElem?_eq_some_iff.1 hq).1]
    ·rfl
   refine Jtd (fun z : List Nat × List Int × List Int => ⟨[(58, .ptr (6 * n + 5) 0), (8, AI (q.ks.length : Int)), (7, AI j), (4, .hsl 2 0 1 n), (3, .hsl 1 0 1 n), (1, .ptr 0 0)], .mem [AI f.args, AI f.regs, .d (.sl fR)] :: .mem ((ruL l).map .mp) :: .mem ((rdL l).map .mp) :: (TT (l.set j { q with ks := z.2.2 }) ++ [.dead, .glob x.1 (mpK x.2), .glob r' (itO x.1 x.2.length z.1)])⟩)
    (fun z => Seen x.2 z.1 z.2.1 ∧ z.2.2.Nodup ∧ (∃ e, z.2.2 = q.ks ++ e) ∧ ∀ v, v ∈ z.2.2 ↔ v ∈ q.ks ∨ (v ∈ z.2.1 ∧ v ∉ q.ds)) (fun z => x.2.length - z.1.length) ([], [], q.ks) ⟨Seen.nil _, p1, ⟨[], by simp⟩, fun v => by simp⟩ ?_ ?_
   ·simp only [eset]
    refine Wk.of ?_ ?_ (by simp) <;> repeat' (first | exact (ClB.mps _).wk | exact Jt58 TT_cl ⟨.dead _, .glob _ _, .glob _ _, trivial⟩ | (first | exact True.intro | exact ⟨_, rfl, Jtka rfl⟩ | exact ⟨_, rfl, Jtk8 rfl⟩ | exact ⟨_, rfl, .inl .nild⟩ | exact ⟨_, rfl, .inl .nile⟩ | exact ⟨_, rfl, Jtk9⟩ | exact Jtka rfl | exact Jtk8 rfl | exact .inl .nild | exact .inl .nile | exact Jtk9 | exact WkB.same rfl | exact Jt53 | exact Jt52 | exact .dead _ | exact .iter _ _ | exact .glob _ _ | refine Jt51 ?_ ?_ | refine And.intro ?_ ?_) | exact ⟨_, rfl, lP hTl⟩)
   rintro ⟨seen, cs, kz⟩ ⟨s1, s2, s3, s4⟩ N3 hN3
   simp only at s1 s2 s3 s4 hN3
   have hl' : (l.set j { q with ks := kz }).length = n := by rw [List.length_set]; exact el
   have hq' : (l.set j { q with ks := kz })[j]? = some { q with ks := kz } := List.getElem?_set_self (by omega)
   (simp (maxSteps := 1000000) [])
   refine Jt2j (b := 6 * n + 4) (bi := 6 * n + 5) (by rfl) (q_it hl') (q_o hl') (fun i v hk hi => ?_) (fun hall => ?_)
   ·have hs' := s1.step hk hi
    have hlen := hs'.len
    rw [q_sit hl']
    (simp (maxSteps := 1000000) [])
    refine Jt26 (b := 6 * n + 4) (bi := 6 * n + 5) (by rfl) (q_it hl') (q_o hl') hk ?_
    (simp (maxSteps := 1000000) [hjn, gd])
    refine Jt28 (b := 6 * j + 8) (by rfl) (by rfl) (q_d hq') ?_
    by_cases hv : v ∈ q.ds
    ·(simp (maxSteps := 1000000) [hv])
     refine hN3 _ (seen ++ [i], cs ++ [v], kz) ⟨hs', s2, s3, fun w => ?_⟩ ?_ (by simp only [List.length_append, List.length_singleton] at hlen ⊢; omega)
     ·show w ∈ kz ↔ w ∈ q.ks ∨ (w ∈ cs ++ [v] ∧ w ∉ q.ds)
      rw [s4, List.mem_append, List.mem_singleton]
      constructor
      ·rintro (h | ⟨h, h'⟩)
       ·exact .inl h
       ·exact .inr ⟨.inl h, h'⟩
      ·rintro (h | ⟨h | rfl, h'⟩)
       ·exact .inl h
       ·exact .inr ⟨h, h'⟩
       ·exact absurd hv h'
     ·refine Wk.of ?_ ?_ (by simp) <;> repeat' (first | exact (ClB.mps _).wk | exact Jt58 TT_cl ⟨.dead _, .glob _ _, .glob _ _, trivial⟩ | (first | exact True.intro | exact ⟨_, rfl, Jtka rfl⟩ | exact ⟨_, rfl, Jtk8 rfl⟩ | exact ⟨_, rfl, .inl .nild⟩ | exact ⟨_, rfl, .inl .nile⟩ | exact ⟨_, rfl, Jtk9⟩ | exact Jtka rfl | exact Jtk8 rfl | exact .inl .nild | exact .inl .nile | exact Jtk9 | exact WkB.same rfl | exact Jt53 | exact Jt52 | exact .dead _ | exact .iter _ _ | exact .glob _ _ | refine Jt51 ?_ ?_ | refine And.intro ?_ ?_) | exact ⟨_, rfl, lP (lT _)⟩)
    ·(simp (maxSteps := 1000000) [hv, hjn, gu])
     refine Jt2p (b := 6 * j + 7) (by rfl) (by rfl) (by rfl) (q_u hq') ?_
     rw [q_su hq']
     simp only [List.set_set]
     (simp (maxSteps := 1000000) [])
     obtain ⟨e, he⟩ := s3
     refine hN3 _ (seen ++ [i], cs ++ [v], madd kz v) ⟨hs', Jtda s2, ?_, fun w => ?_⟩ ?_ (by simp only [List.length_append, List.length_singleton] at hlen ⊢; omega)
     ·show ∃ e, madd kz v = q.ks ++ e
      unfold madd
      split
      ·exact ⟨e, he⟩
      ·exact ⟨e ++ [v], by rw [he, List.append_assoc]⟩
     ·show w ∈ madd kz v ↔ w ∈ q.ks ∨ (w ∈ cs ++ [v] ∧ w ∉ q.ds)
      rw [Jtdn, s4, List.mem_append, List.mem_singleton]
      constructor
      ·rintro ((h | ⟨h, h'⟩) | rfl)
       ·exact .inl h
       ·exact .inr ⟨.inl h, h'⟩
       ·exact .inr ⟨.inr rfl, hv⟩
      ·rintro (h | ⟨h | rfl, h'⟩)
       ·exact .inl (.inl h)
       ·exact .inl (.inr ⟨h, h'⟩)
       ·exact .inr rfl
     ·refine Wk.of ?_ ?_ (by simp) <;> repeat' (first | exact (ClB.mps _).wk | exact Jt58 TT_cl ⟨.dead _, .glob _ _, .glob _ _, trivial⟩ | (first | exact True.intro | exact ⟨_, rfl, Jtka rfl⟩ | exact ⟨_, rfl, Jtk8 rfl⟩ | exact ⟨_, rfl, .inl .nild⟩ | exact ⟨_, rfl, .inl .nile⟩ | exact ⟨_, rfl, Jtk9⟩ | exact Jtka rfl | exact Jtk8 rfl | exact .inl .nild | exact .inl .nile | exact Jtk9 | exact WkB.same rfl | exact Jt53 | exact Jt52 | exact .dead _ | exact .iter _ _ | exact .glob _ _ | refine Jt51 ?_ ?_ | refine And.intro ?_ ?_) | exact ⟨_, rfl, lP (lT _)⟩)
   ·have hp := s1.done hall
    (simp (maxSteps := 1000000) [hjn, gu])
    refine Jt2g (b := 6 * j + 7) (by rfl) (q_u hq') ?_
    (simp (maxSteps := 1000000) [])
    by_cases hgt : q.ks.length < kz.length
    ·have hgi : (q.ks.length : Int) < (kz.length : Int) := by omega
     (simp (maxSteps := 1000000) [hgt, hgi])
     have hJ' := hJ.set hq hb s2 (fun v hv => (s4 v).2 (.inl hv)) (fun v hv => ((s4 v).1 hv).imp id fun h => ⟨(x2 v).1 (hp.mem_iff.1 h.1), h.2⟩)
     have hsum := hJ'.sum
     have hse := Jtj5 (fun q : Qd => q.ks.length) (y := { q with ks := kz }) hq
     refine hN _ (l.set j { q with ks := kz }) hJ' ?_ (by unfold sumQ at hsum ⊢; rw [← hn] at hsum; simp only at hse; omega)
     rw [Jthe hq, Jtfe hq]
     refine Wk.of ?_ ?_ (by simp) <;> repeat' (first | exact (ClB.mps _).wk | exact Jt56 | (first | exact True.intro | exact ⟨_, rfl, Jtka rfl⟩ | exact ⟨_, rfl, Jtk8 rfl⟩ | exact ⟨_, rfl, .inl .nild⟩ | exact ⟨_, rfl, .inl .nile⟩ | exact ⟨_, rfl, Jtk9⟩ | exact Jtka rfl | exact Jtk8 rfl | exact .inl .nild | exact .inl .nile | exact Jtk9 | exact WkB.same rfl | exact Jt53 | exact Jt52 | exact .dead _ | exact .iter _ _ | exact .glob _ _ | refine Jt51 ?_ ?_ | refine And.intro ?_ ?_))
    ·have hgi : ¬ (q.ks.length : Int) < (kz.length : Int) := by omega
     obtain ⟨e, he⟩ := s3
     have hke : kz = q.ks := by
      rw [he, List.length_append] at hgt
      have : e = [] := List.eq_nil_of_length_eq_zero (by omega)
      rw [he, this, List.append_nil]
     subst hke
     rw [eset]
     (simp (maxSteps := 1000000) [hgt, hgi, hwj])
     refine hM _ j ⟨by omega, fun i hi hin => ?_⟩ ?_ (by omega)
     ·by_cases hij : i = j
      ·subst hij
       intro b' q' hb' hq2 v hE hd
       rw [hb] at hb'; injection hb' with hb'; subst hb'
       rw [hq] at hq2; injection hq2 with hq2; subst hq2
       exact (s4 v).2 (.inr ⟨hp.mem_iff.2 ((x2 v).2 hE), hd⟩)
      ·exact m2 i (by omega) hin
     ·refine Wk.of ?_ ?_ (by simp) <;> repeat' (first | exact (ClB.mps _).wk | exact Jt56 | (first | exact True.intro | exact ⟨_, rfl, Jtka rfl⟩ | exact ⟨_, rfl, Jtk8 rfl⟩ | exact ⟨_, rfl, .inl .nild⟩ | exact ⟨_, rfl, .inl .nile⟩ | exact ⟨_, rfl, Jtk9⟩ | exact Jtka rfl | exact Jtk8 rfl | exact .inl .nild | exact .inl .nile | exact Jtk9 | exact WkB.same rfl | exact Jt53 | exact Jt52 | exact .dead _ | exact .iter _ _ | exact .glob _ _ | refine Jt51 ?_ ?_ | refine And.intro ?_ ?_))
end
end Go.AE
set_option maxRecDepth 8000
namespace Go.AE
open Go
theorem Jt18 {P : Program} {K : ASt → Prop} {QP : AV → ASt → Prop} {dst : Option Nat} {st : ASt} {ι : Type} {f : Nat} {args cargs : List AV} {C : ι → List Blk} {X Y : ι → AV} {Pr : ι → Prop}
  (h : Jt4n P f cargs [] fun o H' => ∃ i, Pr i ∧ o = .ret (X i) ∧ H' = C i) (ha : renL (idx []) args = some cargs) (hC : ∀ i, ∀ k ∈ C i, ClB k) (hx : ∀ i, (X i).ren (back [] st.H.length (C i).length) = some (Y i))
  (hK : ∀ i, Pr i → K (put dst (Y i) ⟨unview st.env, st.H ++ C i⟩)) : AWcall P false f args dst K QP st := by
 refine .inr ⟨rfl, .inr ⟨[], List.nodup_nil, cargs, [], [], ha, rfl, rfl, h.mono ?_⟩⟩
 rintro o H' ⟨i, hi, rfl, rfl⟩
 refine ⟨(C i).length, C i, Y i, ?_, by simp, hx i, ?_⟩
 ·simp only [List.length_nil, Nat.zero_add, List.take_length]
  exact Jtgh (hC i) _
 ·exact hK i hi
open Classical in
noncomputable def liveS (f : Func) (j : Nat) : List Int := ((List.range f.regs.toNat).map fun v : Nat => (v : Int)).filter fun v => @decide (LiveAt f v j) (propDecidable _)
open Classical in
noncomputable def liveO (f : Func) (b : Block) : List Int := ((List.range f.regs.toNat).map fun v : Nat => (v : Int)).filter fun v => @decide (∃ t ∈ succsZ b.term, LiveAt f v t.toNat) (propDecidable _)
noncomputable def liveIn (f : Func) : List (List Int) := (List.range f.blocks.length).map (liveS f)
noncomputable def Jtck (f : Func) : List (List Int) := f.blocks.map (liveO f)
structure OkV (f : Func) : Prop where
 l : OkL f
 regs : ∀ v j, LiveAt f v j → 0 ≤ v ∧ v < f.regs
theorem mem_rg {n v : Int} : v ∈ ((List.range n.toNat).map fun v : Nat => (v : Int)) ↔ 0 ≤ v ∧ v < n := by
 simp only [List.mem_map, List.mem_range]
 constructor
 ·rintro ⟨k, h, rfl⟩; omega
 ·rintro ⟨h0, h1⟩; exact ⟨v.toNat, by omega, by omega⟩
theorem rg_lt (n : Nat) : ((List.range n).map fun v : Nat => (v : Int)).Pairwise fun a b => a < b := by
 rw [List.pairwise_map]
 exact List.pairwise_lt_range.imp fun h => by omega
theorem Jtdm {f : Func} (ok : OkV f) {v : Int} {j : Nat} : v ∈ liveS f j ↔ LiveAt f v j := by
 unfold liveS
 rw [List.mem_filter, mem_rg]
 exact ⟨fun h => @of_decide_eq_true _ (Classical.propDecidable _) h.2, fun h => ⟨ok.regs v j h, @decide_eq_true _ (Classical.propDecidable _) h⟩⟩
theorem Jtdl {f : Func} (ok : OkV f) {v : Int} {b : Block} : v ∈ liveO f b ↔ ∃ t ∈ succsZ b.term, LiveAt f v t.toNat := by
 unfold liveO
 rw [List.mem_filter, mem_rg]
 exact ⟨fun h => @of_decide_eq_true _ (Classical.propDecidable _) h.2, fun h => ⟨by obtain ⟨t, _, h⟩ := h; exact ok.regs v _ h, @decide_eq_true _ (Classical.propDecidable _) h⟩⟩
theorem Jtd4 {l m : List Int} (h1 : l.Nodup) (h2 : m.Pairwise fun a b => a < b) (h : ∀ v, v ∈ l ↔ v ∈ m) : sortI l = m := by
 have hm : m.Nodup := h2.imp fun h => by omega
 exact Jti9 (Jti6 l) (h2.imp fun h => by omega) ((List.mergeSort_perm l _).trans ((List.perm_ext_iff_of_nodup h1 hm).2 h))
theorem Jtcm (f : Func) (j : Nat) : (liveS f j).Pairwise fun a b => a < b := (rg_lt _).filter _
theorem Jtcj (f : Func) (b : Block) : (liveO f b).Pairwise fun a b => a < b := (rg_lt _).filter _
theorem Jtcl (f : Func) (j : Nat) : (liveS f j).length ≤ f.regs.toNat := by
 have := List.length_filter_le (fun v => @decide (LiveAt f v j) (Classical.propDecidable _)) ((List.range f.regs.toNat).map fun v : Nat => (v : Int))
 unfold liveS
 simpa using this
theorem Jtci (f : Func) (b : Block) : (liveO f b).length ≤ f.regs.toNat := by
 have := List.length_filter_le (fun v => @decide (∃ t ∈ succsZ b.term, LiveAt f v t.toNat) (Classical.propDecidable _)) ((List.range f.regs.toNat).map fun v : Nat => (v : Int))
 unfold liveO
 simpa using this
def outI (n k q : Nat) : AV := match k with
 | 0 => .nils
 | k + 1 => .hsl (6 * n + 4 + q) 0 1 (k + 1)
structure OutX (L : List (List D)) (k q : Nat) (X : List Blk) : Prop where
 out : 0 < k → X[q]? = some (.mem (Jth2 (L.take k)))
 cl : ∀ b ∈ X, ClB b
theorem ClB.rows (rows : List (List D)) : ClB (.mem (Jth2 rows)) := ClB.mem fun x hx ρ => by
 unfold Jth2 at hx
 obtain ⟨d, _, rfl⟩ := List.mem_map.1 hx; rfl
theorem OutX.s1 {L : List (List D)} {k q : Nat} {X : List Blk} (h : OutX L (k + 1) q X) {rows : List (List D)} (hr : rows = L.take (k + 1 + 1)) : OutX L (k + 1 + 1) q (X.set q (.mem (Jth2 rows))) := by
 subst hr
 have hl := (List.getElem?_eq_some_iff.1 (h.out (by omega))).1
 refine ⟨fun _ => by rw [List.getElem?_set_self hl], fun b hb => ?_⟩
 rcases List.mem_or_eq_of_mem_set hb with hb | hb
 ·exact h.cl b hb
 ·rw [hb]; exact .rows _
theorem OutX.s2 {L : List (List D)} {k q : Nat} {X : List Blk} (h : OutX L k q X) {Z : List Blk} (hZ : ∀ b ∈ Z, ClB b) {rows : List (List D)} (hr : rows = L.take (k + 1)) : OutX L (k + 1) (X ++ Z).length (X ++ Z ++ [.mem (Jth2 rows)]) := by
 subst hr
 refine ⟨fun _ => by simp, fun b hb => ?_⟩
 rcases List.mem_append.1 hb with hb | hb
 ·exact (List.mem_append.1 hb).elim (h.cl b) (hZ b)
 ·rw [List.mem_singleton.1 hb]; exact .rows _
theorem gX {a b c d : Blk} {T X : List Blk} {n q : Nat} (h : T.length = 6 * n) : (a :: b :: c :: d :: (T ++ X))[6 * n + 4 + q]? = X[q]? := by
 have e : 6 * n + 4 + q = (6 * n + q) + 4 := by omega
 rw [e]
 show (T ++ X)[6 * n + q]? = X[q]?
 rw [← h, List.getElem?_append_right (by omega)]; congr 1; omega
theorem sX {a b c d y : Blk} {T X : List Blk} {n q : Nat} (h : T.length = 6 * n) : (a :: b :: c :: d :: (T ++ X)).set (6 * n + 4 + q) y = a :: b :: c :: d :: (T ++ X.set q y) := by
 have e : 6 * n + 4 + q = (6 * n + q) + 4 := by omega
 rw [e]
 show a :: b :: c :: d :: (T ++ X).set (6 * n + q) y = _
 rw [← h, List.set_append_right _ _ (by omega)]; congr 6; omega
theorem Jt57 {H : List Blk} {n : Nat} {T X : List Blk} (h1 : ∀ k ∈ T, ClB k) (h2 : ∀ k ∈ X, ClB k) : WkHs H n (T ++ X) (T ++ X) := by
 have := Jt58 (H := H) (n := n) (T := T ++ X) (fun k hk => (List.mem_append.1 hk).elim (h1 k) (h2 k)) (X := []) (Y := []) trivial
 rwa [List.append_nil] at this
section
set_option maxHeartbeats 2000000 in
theorem Jtco {P : Program} {p : Nums} (A : All P p) (SI : SortIOk P p) (f : Func) (ok : OkV f) (hr0 : f.regs ≤ 10000) : Jt4n P p.liveness_In [f.av] [] fun o _ => o = .ret (.d (listsD (liveIn f))) := by
 refine A.liveness_In.run rfl fun R hR => ?_
 have hbl := ok.l.bl
 have hsol := Jtcv A f ok.l
 obtain ⟨fR, hfR⟩ : ∃ x, x = f.blocks.map Block.row := ⟨_, rfl⟩
 obtain ⟨n, hn⟩ : ∃ n, n = f.blocks.length := ⟨_, rfl⟩
 obtain ⟨L, hL⟩ : ∃ L, L = (liveIn f).map fun x => [intsD x] := ⟨_, rfl⟩
 have lL : L.length = n := by rw [hL, hn]; simp [liveIn]
 have gL : ∀ j, j < n → L[j]? = some [intsD (liveS f j)] := fun j hj => by
  rw [hL, liveIn, List.getElem?_map, List.getElem?_map, List.getElem?_range (by omega)]; rfl
 have av : f.av = .agg [AI f.args, AI f.regs, .d (.sl fR)] := by rw [hfR]; rfl
 simp only [listsD, ← hL] at hR
 rw [av, ← hn] at hsol
 rw [← hn] at hbl
 rw [av]
 (simp (maxSteps := 1000000) [Jta8])
 refine Jt18 (Y := fun _ => .hsl 2 0 1 n) hsol (by rfl) (fun l k hk => ?_) (fun l => ?_) fun l hl => ?_
 ·rcases List.mem_append.1 hk with hk | hk
  ·simp only [List.mem_cons, List.not_mem_nil, or_false] at hk
   rcases hk with rfl | rfl | rfl
   ·exact .dead
   ·exact .mps _
   ·exact .dead
  ·exact TT_cl k hk
 ·simp [AV.ren, back]
 obtain ⟨hJ, hC⟩ := hl
 have el : l.length = n := by rw [hn]; exact hJ.len
 (simp (maxSteps := 1000000) [])
 have hTl : (TT l).length = 6 * n := by rw [TT_len, el]
 refine Jtd (fun z : Nat × Nat × List Blk => ⟨[(9, AI z.1), (8, AI (n : Int)), (7, .hsl 2 0 1 n), (3, outI n z.1 z.2.1)], .dead :: .dead :: .mem ((ruL l).map .mp) :: .dead :: (TT l ++ z.2.2)⟩)
  (fun z => z.1 ≤ n ∧ OutX L z.1 z.2.1 z.2.2) (fun z => n - z.1) (0, 0, []) ⟨Nat.zero_le _, fun h => absurd h (by simp), fun b hb => by simp at hb⟩ ?_ ?_
 ·simp only [outI, List.append_nil]
  refine Wk.of ?_ ?_ (by simp) <;> repeat' (first | exact (ClB.mps _).wk | exact Jt55 | (first | exact True.intro | exact ⟨_, rfl, Jtka rfl⟩ | exact ⟨_, rfl, Jtk8 rfl⟩ | exact ⟨_, rfl, .inl .nild⟩ | exact ⟨_, rfl, .inl .nile⟩ | exact ⟨_, rfl, Jtk9⟩ | exact Jtka rfl | exact Jtk8 rfl | exact .inl .nild | exact .inl .nile | exact Jtk9 | exact WkB.same rfl | exact Jt53 | exact Jt52 | exact .dead _ | exact .iter _ _ | exact .glob _ _ | refine Jt51 ?_ ?_ | refine And.intro ?_ ?_))
 rintro ⟨k, qx, X⟩ ⟨hk, hX⟩ N hN
 simp only at hk hX hN
 (simp (maxSteps := 1000000) [])
 by_cases h2 : k < n
 ·have h2i : (k : Int) < (n : Int) := by omega
  have hw := Jtkg (k := k) (by omega)
  obtain ⟨q, hq⟩ : ∃ q, l[k]? = some q := ⟨_, List.getElem?_eq_getElem (by omega)⟩
  obtain ⟨b, hb⟩ : ∃ b, f.blocks[k]? = some b := ⟨_, List.getElem?_eq_getElem (by omega)⟩
  have gu := Jthc hq
  obtain ⟨p1, _, _, _⟩ := hJ.at_ k q b hq hb
  have hmem : ∀ v, v ∈ q.ks ↔ LiveAt f v k := fun v => hJ.done (fun j hj => hC j (by omega)) hq v
  have e1 : sortI q.ks = liveS f k := Jtd4 p1 (Jtcm f k) fun v => by rw [hmem, Jtdm ok]
  have hks : q.ks.length ≤ 1000000 := by
   have h1 := congrArg List.length e1
   rw [Jti4] at h1
   have := Jtcl f k
   omega
  have hso := Jtcu A SI q.ru q.ks hks
  rw [e1] at hso
  have gl := gL k h2
  obtain ⟨D0, hD0⟩ : ∃ x, x = intsD (liveS f k) := ⟨_, rfl⟩
  rw [← hD0] at hso gl
  have eT : L.take k ++ [[D0]] = L.take (k + 1) := by rw [List.take_add_one, gl]; rfl
  have hp : picks (Blk.dead :: .dead :: .mem ((ruL l).map .mp) :: .dead :: (TT l ++ X)) [6 * k + 8] = some [.glob q.ru (mpK q.ks)] := by
   have h3 : (Blk.dead :: Blk.dead :: Blk.mem ((ruL l).map .mp) :: Blk.dead :: (TT l ++ X))[6 * k + 8]? = some (.glob q.ru (mpK q.ks)) := by
    show (TT l ++ X)[6 * k + 4]? = _
    rw [List.getElem?_append_left (List.getElem?_eq_some_iff.1 (TT_u hq)).1]; exact TT_u hq
   simp only [picks]; rw [h3]
  have leaf : ∀ {Y : List Blk} {q2 : Nat} {X2 : List Blk}, OutX L (k + 1) q2 X2 → WkT Y (Blk.dead :: .dead :: .mem ((ruL l).map .mp) :: .dead :: (TT l ++ X2)).length (.hsl (6 * n + 4 + q2) 0 1 (k + 1)) (.hsl (6 * n + 4 + q2) 0 1 (k + 1)) ∧ WkT Y (Blk.dead :: .dead :: .mem ((ruL l).map .mp) :: .dead :: (TT l ++ X2)).length (.hsl 2 0 1 n) (.hsl 2 0 1 n) := by
   intro Y q2 X2 h
   have := (List.getElem?_eq_some_iff.1 (h.out (by omega))).1
   refine ⟨Jtka ?_, Jtka ?_⟩ <;> simp only [AV.ren, List.length_cons, List.length_append, hTl] <;> rw [if_pos (by omega)]
  cases k with
  | zero =>
   simp only [outI]
   (simp (maxSteps := 1000000) [h2, gu])
   refine Jt14 [6 * 0 + 8] hso (by simp) (by rfl) hp (by rfl) (by rfl) (by rfl) (by rfl) ?_
   rw [Jtk7 _ _ _ hp]
   (simp (maxSteps := 1000000) [])
   refine Jt1f (ys := [[D0]]) (.inr (by rfl)) (by rfl) (by simp) (by decide) (by simp) (by simp) (by simp) ?_
   have h3 := hX.s2 (Z := []) (by simp) (rows := [[D0]]) (by simpa using eT)
   simp only [List.append_nil] at h3
   have hw1 : IntKind.i64.wrap 1 = 1 := by rw [wrap_i64 (by decide) (by decide)]
   have eI : 6 * n + X.length + 1 + 1 + 1 + 1 = 6 * n + 4 + X.length := by omega
   (simp (maxSteps := 1000000) [hTl, hw1])
   simp only [eI]
   refine hN _ (0 + 1, X.length, X ++ [.mem (Jth2 [[D0]])]) ⟨h2, h3⟩ ?_ (by simp only; omega)
   simp only [outI]
   refine Wk.of ?_ ?_ (by simp) <;> repeat' (first | exact (ClB.mps _).wk | exact Jt57 TT_cl h3.cl | (first | exact True.intro | exact ⟨_, rfl, Jtka rfl⟩ | exact ⟨_, rfl, Jtk8 rfl⟩ | exact ⟨_, rfl, .inl .nild⟩ | exact ⟨_, rfl, .inl .nile⟩ | exact ⟨_, rfl, Jtk9⟩ | exact Jtka rfl | exact Jtk8 rfl | exact .inl .nild | exact .inl .nile | exact Jtk9 | exact WkB.same rfl | exact Jt53 | exact Jt52 | exact .dead _ | exact .iter _ _ | exact .glob _ _ | refine Jt51 ?_ ?_ | refine And.intro ?_ ?_) | exact ⟨_, rfl, (leaf h3).1⟩ | exact ⟨_, rfl, (leaf h3).2⟩)
  | succ k =>
   have hw2 : IntKind.i64.wrap ((k : Int) + 1 + 1) = (k : Int) + 1 + 1 := wrap_i64 (by omega) (by omega)
   have h2j : (k : Int) + 1 < (n : Int) := by omega
   have h2z : (0 : Int) ≤ (k : Int) + 1 := by omega
   simp only [outI]
   (simp (maxSteps := 1000000) [h2, h2i, h2j, h2z, gu])
   refine Jt14 [6 * (k + 1) + 8] hso (by simp) (by rfl) hp (by rfl) (by rfl) (by rfl) (by rfl) ?_
   rw [Jtk7 _ _ _ hp]
   (simp (maxSteps := 1000000) [])
   refine Jt1g (b := 6 * n + 4 + qx) (rows := L.take (k + 1)) (ys := [[D0]]) (by rfl) ((gX hTl).trans (hX.out (by omega))) (by rw [List.length_take]; omega) ?_ (by omega) (by rfl) (by simp) (by decide) (by simp) (by simp; omega) (by simp; omega) ?_ ?_
   ·intro r hr
    have := List.mem_of_mem_take hr
    rw [hL] at this
    obtain ⟨x, _, rfl⟩ := List.mem_map.1 this; rfl
   ·have h3 := hX.s1 eT
    simp only [sX hTl]
    obtain ⟨Y, hY⟩ : ∃ Y, Y = X.set qx (.mem (Jth2 (L.take (k + 1) ++ [[D0]]))) := ⟨_, rfl⟩
    rw [← hY] at h3 ⊢
    (simp (maxSteps := 1000000) [hw2])
    refine hN _ (k + 1 + 1, qx, Y) ⟨h2, h3⟩ ?_ (by simp only; omega)
    simp only [outI]
    refine Wk.of ?_ ?_ (by simp) <;> repeat' (first | exact (ClB.mps _).wk | exact Jt57 TT_cl h3.cl | (first | exact True.intro | exact ⟨_, rfl, Jtka rfl⟩ | exact ⟨_, rfl, Jtk8 rfl⟩ | exact ⟨_, rfl, .inl .nild⟩ | exact ⟨_, rfl, .inl .nile⟩ | exact ⟨_, rfl, Jtk9⟩ | exact Jtka rfl | exact Jtk8 rfl | exact .inl .nild | exact .inl .nile | exact Jtk9 | exact WkB.same rfl | exact Jt53 | exact Jt52 | exact .dead _ | exact .iter _ _ | exact .glob _ _ | refine Jt51 ?_ ?_ | refine And.intro ?_ ?_) | exact ⟨_, rfl, (leaf h3).1⟩ | exact ⟨_, rfl, (leaf h3).2⟩)
   ·have h3 := hX.s2 (Z := []) (by simp) eT
    simp only [List.append_nil] at h3
    obtain ⟨Y, hY⟩ : ∃ Y, Y = X ++ [.mem (Jth2 (L.take (k + 1) ++ [[D0]]))] := ⟨_, rfl⟩
    rw [← hY] at h3
    simp only [List.cons_append, List.append_assoc, ← hY, List.length_cons, List.length_append, hTl]
    have eI : 6 * n + X.length + 1 + 1 + 1 + 1 = 6 * n + 4 + X.length := by omega
    (simp (maxSteps := 1000000) [hw2])
    simp only [eI]
    refine hN _ (k + 1 + 1, X.length, Y) ⟨h2, h3⟩ ?_ (by simp only; omega)
    simp only [outI]
    refine Wk.of ?_ ?_ (by simp) <;> repeat' (first | exact (ClB.mps _).wk | exact Jt57 TT_cl h3.cl | (first | exact True.intro | exact ⟨_, rfl, Jtka rfl⟩ | exact ⟨_, rfl, Jtk8 rfl⟩ | exact ⟨_, rfl, .inl .nild⟩ | exact ⟨_, rfl, .inl .nile⟩ | exact ⟨_, rfl, Jtk9⟩ | exact Jtka rfl | exact Jtk8 rfl | exact .inl .nild | exact .inl .nile | exact Jtk9 | exact WkB.same rfl | exact Jt53 | exact Jt52 | exact .dead _ | exact .iter _ _ | exact .glob _ _ | refine Jt51 ?_ ?_ | refine And.intro ?_ ?_) | exact ⟨_, rfl, (leaf h3).1⟩ | exact ⟨_, rfl, (leaf h3).2⟩)
 ·have ek : k = n := by omega
  subst ek
  cases k with
  | zero =>
   have : L = [] := List.eq_nil_of_length_eq_zero lL
   subst this
   simp only [outI]
   (simp (maxSteps := 1000000) [h2])
   exact hR _ _ (Jt4s _ (.d (.sl [])) rfl (by (exact wkvA)) rfl)
  | succ k =>
   simp only [outI]
   have eT : L.take (k + 1) = L := List.take_of_length_le (by omega)
   have ho := hX.out (by omega)
   rw [eT] at ho
   (simp (maxSteps := 1000000) [h2])
   refine hR _ _ (Jt4r (.hsl (6 * (k + 1) + 4 + qx) 0 1 (k + 1)) (.d (.sl L)) [] (by rfl) ?_ rfl)
   refine Wk.of ⟨⟨_, rfl, Jt5d ((gX hTl).trans ho) (Nat.zero_le _) lL ?_⟩, trivial⟩ trivial (by simp)
   intro r hr
   rw [hL] at hr
   obtain ⟨x, _, rfl⟩ := List.mem_map.1 hr; rfl
end
end Go.AE
set_option maxRecDepth 8000
namespace Go.AE
open Go
section
set_option maxHeartbeats 2000000 in
theorem Jtcp {P : Program} {p : Nums} (A : All P p) (SI : SortIOk P p) (f : Func) (ok : OkV f) (hr0 : f.regs ≤ 10000) : Jt4n P p.liveness_Out [f.av] [] fun o _ => o = .ret (.d (listsD (Jtck f))) := by
 refine A.liveness_Out.run rfl fun R hR => ?_
 have hbl := ok.l.bl
 have hsol := Jtcv A f ok.l
 obtain ⟨fR, hfR⟩ : ∃ x, x = f.blocks.map Block.row := ⟨_, rfl⟩
 obtain ⟨n, hn⟩ : ∃ n, n = f.blocks.length := ⟨_, rfl⟩
 obtain ⟨L, hL⟩ : ∃ L, L = (Jtck f).map fun x => [intsD x] := ⟨_, rfl⟩
 have lL : L.length = n := by rw [hL, hn]; simp [Jtck]
 have gL : ∀ (j : Nat) (b : Block), f.blocks[j]? = some b → L[j]? = some [intsD (liveO f b)] := fun j b hb => by
  rw [hL, Jtck, List.getElem?_map, List.getElem?_map, hb]; rfl
 have lR : fR.length = n := by rw [hfR, hn]; simp
 have gR : ∀ (j : Nat) (b : Block), f.blocks[j]? = some b → fR[j]? = some b.row := fun j b h => by rw [hfR, List.getElem?_map, h]; rfl
 have av : f.av = .agg [AI f.args, AI f.regs, .d (.sl fR)] := by rw [hfR]; rfl
 simp only [listsD, ← hL] at hR
 rw [av, ← hn] at hsol
 rw [← hn] at hbl
 rw [av]
 (simp (maxSteps := 1000000) [Jta9])
 refine Jt18 (Y := fun _ => .hsl 2 0 1 n) hsol (by rfl) (fun l k hk => ?_) (fun l => ?_) fun l hl => ?_
 ·rcases List.mem_append.1 hk with hk | hk
  ·simp only [List.mem_cons, List.not_mem_nil, or_false] at hk
   rcases hk with rfl | rfl | rfl
   ·exact .dead
   ·exact .mps _
   ·exact .dead
  ·exact TT_cl k hk
 ·simp [AV.ren, back]
 obtain ⟨hJ, hC⟩ := hl
 have el : l.length = n := by rw [hn]; exact hJ.len
 (simp (maxSteps := 1000000) [lR])
 have hTl : (TT l).length = 6 * n := by rw [TT_len, el]
 refine Jtd (fun z : Nat × Nat × List Blk => ⟨[(12, AI z.1), (11, AI (n : Int)), (10, .d (.sl fR)), (3, .hsl 2 0 1 n), (4, outI n z.1 z.2.1)], .dead :: .dead :: .mem ((ruL l).map .mp) :: .dead :: (TT l ++ z.2.2)⟩)
  (fun z => z.1 ≤ n ∧ OutX L z.1 z.2.1 z.2.2) (fun z => n - z.1) (0, 0, []) ⟨Nat.zero_le _, fun h => absurd h (by simp), fun b hb => by simp at hb⟩ ?_ ?_
 ·simp only [outI, List.append_nil]
  refine Wk.of ?_ ?_ (by simp) <;> repeat' (first | exact (ClB.mps _).wk | exact Jt55 | (first | exact True.intro | exact ⟨_, rfl, Jtka rfl⟩ | exact ⟨_, rfl, Jtk8 rfl⟩ | exact ⟨_, rfl, .inl .nild⟩ | exact ⟨_, rfl, .inl .nile⟩ | exact ⟨_, rfl, Jtk9⟩ | exact Jtka rfl | exact Jtk8 rfl | exact .inl .nild | exact .inl .nile | exact Jtk9 | exact WkB.same rfl | exact Jt53 | exact Jt52 | exact .dead _ | exact .iter _ _ | exact .glob _ _ | refine Jt51 ?_ ?_ | refine And.intro ?_ ?_))
 rintro ⟨k, qx, X⟩ ⟨hk, hX⟩ N hN
 simp only at hk hX hN
 (simp (maxSteps := 1000000) [])
 by_cases h2 : k < n
 ·have h2i : (k : Int) < (n : Int) := by omega
  have hw := Jtkg (k := k) (by omega)
  obtain ⟨b, hb⟩ : ∃ b, f.blocks[k]? = some b := ⟨_, List.getElem?_eq_getElem (by omega)⟩
  have gl := gL k b hb
  have hr := gR k b hb
  have hsucc := fun t ht => ok.l.succ b (List.mem_of_getElem? hb) t ht
  obtain ⟨D0, hD0⟩ : ∃ x, x = intsD (liveO f b) := ⟨_, rfl⟩
  rw [← hD0] at gl
  have eT : L.take k ++ [[D0]] = L.take (k + 1) := by rw [List.take_add_one, gl]; rfl
  have hexM : ∀ v, Exits (l.map fun q => q.ks) (succsZ b.term) v ↔ v ∈ liveO f b := fun v => by
   rw [Jtdl ok]
   constructor
   ·rintro ⟨t, ht, lt, h3, h4⟩
    rw [List.getElem?_map, Option.map_eq_some_iff] at h3
    obtain ⟨q2, h5, rfl⟩ := h3
    exact ⟨t, ht, (hJ.done (fun j hj => hC j (by omega)) h5 v).1 h4⟩
   ·rintro ⟨t, ht, h3⟩
    obtain ⟨q2, h5⟩ : ∃ q2, l[t.toNat]? = some q2 := ⟨_, List.getElem?_eq_getElem (by rw [hJ.len]; exact h3.lt)⟩
    exact ⟨t, ht, q2.ks, by rw [List.getElem?_map, h5]; rfl, (hJ.done (fun j hj => hC j (by omega)) h5 v).2 h3⟩
  have hso : ∀ x : Nat × List Int, (x.2.Nodup ∧ ∀ v, v ∈ x.2 ↔ Exits (l.map fun q => q.ks) (succsZ b.term) v) → Jt4n P p.liveness_set_sorted [.mp x.1] [.glob x.1 (mpK x.2)] fun o H' => o = .ret (.d D0) ∧ H' = [.glob x.1 (mpK x.2)] := fun x hx => by
   have e1 : sortI x.2 = liveO f b := Jtd4 hx.1 (Jtcj f b) fun v => by rw [hx.2, hexM]
   have hks : x.2.length ≤ 1000000 := by
    have h1 := congrArg List.length e1
    rw [Jti4] at h1
    have := Jtci f b
    omega
   have := Jtcu A SI x.1 x.2 hks
   rw [e1, ← hD0] at this; exact this
  clear hexM hD0
  have hex := fun H2 h1 h2 h3 => Jtcr A b H2 2 n (ruL l) (l.map fun q => q.ks) ⟨h1, by simp, h2, h3⟩ (by simp [el]) (fun t ht => by have := hsucc t ht; rw [Jthd, el, hn]; exact this)
  obtain ⟨code, kind, ta, to, els⟩ := b
  simp only [Block.row] at hr
  simp only [Block.av] at hex
  obtain ⟨B6, hB6⟩ : ∃ x, x = Blk.mem [AV.d (D.sl (code.map Instr.row)), AV.d (I kind), AV.d (I ta), AV.d (I to), AV.d (I els)] := ⟨_, rfl⟩
  have c6 : ClB B6 := by rw [hB6]; exact ClB.mem fun x hx ρ => by simp only [List.mem_cons, List.not_mem_nil, or_false] at hx; rcases hx with rfl | rfl | rfl | rfl | rfl <;> rfl
  have cAll : ∀ k ∈ (Blk.dead :: .dead :: .mem ((ruL l).map .mp) :: .dead :: (TT l ++ (X ++ [B6]))), ClB k := fun k hk => by
   simp only [List.mem_cons, List.mem_append, List.not_mem_nil, or_false] at hk
   rcases hk with rfl | rfl | rfl | rfl | hk | hk | rfl
   ·exact .dead
   ·exact .dead
   ·exact .mps _
   ·exact .dead
   ·exact TT_cl k hk
   ·exact hX.cl k hk
   ·exact c6
  have hex2 := hex (Blk.dead :: .dead :: .mem ((ruL l).map .mp) :: .dead :: (TT l ++ (X ++ [B6]))) rfl (fun i r ks h1 h2 => by
   rw [List.getElem?_map, Option.map_eq_some_iff] at h2
   obtain ⟨q2, h3, rfl⟩ := h2
   rw [Jthc h3] at h1; injection h1 with h1; subst h1
   refine ⟨6 * i + 8, ?_⟩
   show (TT l ++ (X ++ [B6]))[6 * i + 4]? = _
   rw [List.getElem?_append_left (List.getElem?_eq_some_iff.1 (TT_u h3)).1]; exact TT_u h3) cAll
  clear hex
  have leaf : ∀ {Y : List Blk} {q2 : Nat} {X2 : List Blk}, OutX L (k + 1) q2 X2 → WkT Y (Blk.dead :: .dead :: .mem ((ruL l).map .mp) :: .dead :: (TT l ++ X2)).length (.hsl (6 * n + 4 + q2) 0 1 (k + 1)) (.hsl (6 * n + 4 + q2) 0 1 (k + 1)) ∧ WkT Y (Blk.dead :: .dead :: .mem ((ruL l).map .mp) :: .dead :: (TT l ++ X2)).length (.hsl 2 0 1 n) (.hsl 2 0 1 n) := by
   intro Y q2 X2 h
   have := (List.getElem?_eq_some_iff.1 (h.out (by omega))).1
   refine ⟨Jtka ?_, Jtka ?_⟩ <;> simp only [AV.ren, List.length_cons, List.length_append, hTl] <;> rw [if_pos (by omega)]
  cases k with
  | zero =>
   simp only [outI]
   (simp (maxSteps := 1000000) [h2, hr])
   simp only [← hB6]
   refine Jt12 (C := fun x : Nat × List Int => [.dead, .glob x.1 (mpK x.2)]) (X := fun x : Nat × List Int => .mp x.1) cAll ?_ hex2 (fun _ _ => rfl) (fun x k hk => ?_) fun x hx => ?_
   ·simp only [renL, AV.ren, List.length_cons]
    rw [Jtb7 _ 0 2 (by omega) (by omega)]
   ·simp only [List.mem_cons, List.not_mem_nil, or_false] at hk
    rcases hk with rfl | rfl
    ·exact .dead
    ·exact .glob _ _
   (simp (maxSteps := 1000000) [])
   have cZ : ∀ b ∈ [B6, Blk.dead, .glob x.1 (mpK x.2)], ClB b := fun b hb => by
    simp only [List.mem_cons, List.not_mem_nil, or_false] at hb
    rcases hb with rfl | rfl | rfl
    ·exact c6
    ·exact .dead
    ·exact .glob _ _
   have hp : picks (Blk.dead :: .dead :: .mem ((ruL l).map .mp) :: .dead :: (TT l ++ (X ++ [B6, .dead, .glob x.1 (mpK x.2)]))) [6 * n + 4 + (X.length + 2)] = some [.glob x.1 (mpK x.2)] := by
    simp only [picks]
    rw [gX hTl, gN2]
   refine Jt14 [6 * n + 4 + (X.length + 2)] (hso x hx) (by simp) (by rfl) hp (by rfl) (by rfl) (by rfl) (by rfl) ?_
   rw [Jtk7 _ _ _ hp]
   (simp (maxSteps := 1000000) [])
   have hXZ : OutX L 0 qx (X ++ [B6, .dead, .glob x.1 (mpK x.2)]) := ⟨fun h => absurd h (by simp), fun b hb => (List.mem_append.1 hb).elim (hX.cl b) (cZ b)⟩
   obtain ⟨W, hW⟩ : ∃ W, W = X ++ [B6, .dead, .glob x.1 (mpK x.2)] := ⟨_, rfl⟩
   rw [← hW] at hXZ ⊢
   refine Jt1f (ys := [[D0]]) (.inr (by rfl)) (by rfl) (by simp) (by decide) (by simp) (by simp) (by simp) ?_
   have h3 := hXZ.s2 (Z := []) (by simp) (rows := [[D0]]) (by simpa using eT)
   simp only [List.append_nil] at h3
   have hw1 : IntKind.i64.wrap 1 = 1 := by rw [wrap_i64 (by decide) (by decide)]
   have eI : 6 * n + W.length + 1 + 1 + 1 + 1 = 6 * n + 4 + W.length := by omega
   (simp (maxSteps := 1000000) [hTl, hw1])
   simp only [eI]
   refine hN _ (0 + 1, W.length, W ++ [.mem (Jth2 [[D0]])]) ⟨h2, h3⟩ ?_ (by simp only; omega)
   simp only [outI]
   refine Wk.of ?_ ?_ (by simp) <;> repeat' (first | exact (ClB.mps _).wk | exact Jt57 TT_cl h3.cl | (first | exact True.intro | exact ⟨_, rfl, Jtka rfl⟩ | exact ⟨_, rfl, Jtk8 rfl⟩ | exact ⟨_, rfl, .inl .nild⟩ | exact ⟨_, rfl, .inl .nile⟩ | exact ⟨_, rfl, Jtk9⟩ | exact Jtka rfl | exact Jtk8 rfl | exact .inl .nild | exact .inl .nile | exact Jtk9 | exact WkB.same rfl | exact Jt53 | exact Jt52 | exact .dead _ | exact .iter _ _ | exact .glob _ _ | refine Jt51 ?_ ?_ | refine And.intro ?_ ?_) | exact ⟨_, rfl, (leaf h3).1⟩ | exact ⟨_, rfl, (leaf h3).2⟩)
  | succ k =>
   have hw2 : IntKind.i64.wrap ((k : Int) + 1 + 1) = (k : Int) + 1 + 1 := wrap_i64 (by omega) (by omega)
   have h2j : (k : Int) + 1 < (n : Int) := by omega
   have h2z : (0 : Int) ≤ (k : Int) + 1 := by omega
   simp only [outI]
   (simp (maxSteps := 1000000) [h2, h2i, h2j, h2z, hr])
   simp only [← hB6]
   refine Jt12 (C := fun x : Nat × List Int => [.dead, .glob x.1 (mpK x.2)]) (X := fun x : Nat × List Int => .mp x.1) cAll ?_ hex2 (fun _ _ => rfl) (fun x k hk => ?_) fun x hx => ?_
   ·simp only [renL, AV.ren, List.length_cons]
    rw [Jtb7 _ 0 2 (by omega) (by omega)]
   ·simp only [List.mem_cons, List.not_mem_nil, or_false] at hk
    rcases hk with rfl | rfl
    ·exact .dead
    ·exact .glob _ _
   (simp (maxSteps := 1000000) [])
   have cZ : ∀ b ∈ [B6, Blk.dead, .glob x.1 (mpK x.2)], ClB b := fun b hb => by
    simp only [List.mem_cons, List.not_mem_nil, or_false] at hb
    rcases hb with rfl | rfl | rfl
    ·exact c6
    ·exact .dead
    ·exact .glob _ _
   have hp : picks (Blk.dead :: .dead :: .mem ((ruL l).map .mp) :: .dead :: (TT l ++ (X ++ [B6, .dead, .glob x.1 (mpK x.2)]))) [6 * n + 4 + (X.length + 2)] = some [.glob x.1 (mpK x.2)] := by
    simp only [picks]
    rw [gX hTl, gN2]
   refine Jt14 [6 * n + 4 + (X.length + 2)] (hso x hx) (by simp) (by rfl) hp (by rfl) (by rfl) (by rfl) (by rfl) ?_
   rw [Jtk7 _ _ _ hp]
   (simp (maxSteps := 1000000) [])
   have hXZ : OutX L (k + 1) qx (X ++ [B6, .dead, .glob x.1 (mpK x.2)]) := ⟨fun h => by rw [List.getElem?_append_left (List.getElem?_eq_some_iff.1 (hX.out h)).1]; exact hX.out h, fun b hb => (List.mem_append.1 hb).elim (hX.cl b) (cZ b)⟩
   obtain ⟨W, hW⟩ : ∃ W, W = X ++ [B6, .dead, .glob x.1 (mpK x.2)] := ⟨_, rfl⟩
   rw [← hW] at hXZ ⊢
   refine Jt1g (b := 6 * n + 4 + qx) (rows := L.take (k + 1)) (ys := [[D0]]) (by rfl) ((gX hTl).trans (hXZ.out (by omega))) (by rw [List.length_take]; omega) ?_ (by omega) (by rfl) (by simp) (by decide) (by simp) (by simp; omega) (by simp; omega) ?_ ?_
   ·intro r hr
    have := List.mem_of_mem_take hr
    rw [hL] at this
    obtain ⟨x, _, rfl⟩ := List.mem_map.1 this; rfl
   ·have h3 := hXZ.s1 eT
    simp only [sX hTl]
    obtain ⟨Y, hY⟩ : ∃ Y, Y = W.set qx (.mem (Jth2 (L.take (k + 1) ++ [[D0]]))) := ⟨_, rfl⟩
    rw [← hY] at h3 ⊢
    (simp (maxSteps := 1000000) [hw2])
    refine hN _ (k + 1 + 1, qx, Y) ⟨h2, h3⟩ ?_ (by simp only; omega)
    simp only [outI]
    refine Wk.of ?_ ?_ (by simp) <;> repeat' (first | exact (ClB.mps _).wk | exact Jt57 TT_cl h3.cl | (first | exact True.intro | exact ⟨_, rfl, Jtka rfl⟩ | exact ⟨_, rfl, Jtk8 rfl⟩ | exact ⟨_, rfl, .inl .nild⟩ | exact ⟨_, rfl, .inl .nile⟩ | exact ⟨_, rfl, Jtk9⟩ | exact Jtka rfl | exact Jtk8 rfl | exact .inl .nild | exact .inl .nile | exact Jtk9 | exact WkB.same rfl | exact Jt53 | exact Jt52 | exact .dead _ | exact .iter _ _ | exact .glob _ _ | refine Jt51 ?_ ?_ | refine And.intro ?_ ?_) | exact ⟨_, rfl, (leaf h3).1⟩ | exact ⟨_, rfl, (leaf h3).2⟩)
   ·have h3 := hXZ.s2 (Z := []) (by simp) eT
    simp only [List.append_nil] at h3
    obtain ⟨Y, hY⟩ : ∃ Y, Y = W ++ [.mem (Jth2 (L.take (k + 1) ++ [[D0]]))] := ⟨_, rfl⟩
    rw [← hY] at h3
    simp only [List.cons_append, List.append_assoc, ← hY, List.length_cons, List.length_append, hTl]
    have eI : 6 * n + W.length + 1 + 1 + 1 + 1 = 6 * n + 4 + W.length := by omega
    (simp (maxSteps := 1000000) [hw2])
    simp only [eI]
    refine hN _ (k + 1 + 1, W.length, Y) ⟨h2, h3⟩ ?_ (by simp only; omega)
    simp only [outI]
    refine Wk.of ?_ ?_ (by simp) <;> repeat' (first | exact (ClB.mps _).wk | exact Jt57 TT_cl h3.cl | (first | exact True.intro | exact ⟨_, rfl, Jtka rfl⟩ | exact ⟨_, rfl, Jtk8 rfl⟩ | exact ⟨_, rfl, .inl .nild⟩ | exact ⟨_, rfl, .inl .nile⟩ | exact ⟨_, rfl, Jtk9⟩ | exact Jtka rfl | exact Jtk8 rfl | exact .inl .nild | exact .inl .nile | exact Jtk9 | exact WkB.same rfl | exact Jt53 | exact Jt52 | exact .dead _ | exact .iter _ _ | exact .glob _ _ | refine Jt51 ?_ ?_ | refine And.intro ?_ ?_) | exact ⟨_, rfl, (leaf h3).1⟩ | exact ⟨_, rfl, (leaf h3).2⟩)
 ·have ek : k = n := by omega
  subst ek
  cases k with
  | zero =>
   have : L = [] := List.eq_nil_of_length_eq_zero lL
   subst this
   simp only [outI]
   (simp (maxSteps := 1000000) [h2])
   exact hR _ _ (Jt4s _ (.d (.sl [])) rfl (by (exact wkvA)) rfl)
  | succ k =>
   simp only [outI]
   have eT : L.take (k + 1) = L := List.take_of_length_le (by omega)
   have ho := hX.out (by omega)
   rw [eT] at ho
   (simp (maxSteps := 1000000) [h2])
   refine hR _ _ (Jt4r (.hsl (6 * (k + 1) + 4 + qx) 0 1 (k + 1)) (.d (.sl L)) [] (by rfl) ?_ rfl)
   refine Wk.of ⟨⟨_, rfl, Jt5d ((gX hTl).trans ho) (Nat.zero_le _) lL ?_⟩, trivial⟩ trivial (by simp)
   intro r hr
   rw [hL] at hr
   obtain ⟨x, _, rfl⟩ := List.mem_map.1 hr; rfl
end
end Go.AE
set_option maxRecDepth 8000
namespace Go.AE
open Go
section
end
end Go.AE
set_option maxRecDepth 8000
namespace Go.AE
open Go
theorem Jtjw {i : Instr} {v regs : Int} (h : Jtga i regs = 0) (hu : useI i v = true) : 0 ≤ v ∧ v < regs := by
 unfold Jtga at h
 split at h
 ·cases h
 split at h
 ·cases h
 rename_i h9
 simp only [bad9, Bool.or_eq_true, Bool.and_eq_true, not_or, not_and, Bool.not_eq_true', Bool.not_eq_false, inZ, decide_eq_true_eq] at h9
 simp only [useI, Bool.or_eq_true, Bool.and_eq_true, beq_iff_eq] at hu
 rcases hu with ⟨h1, h2⟩ | ⟨h1, h2⟩
 ·have := h9.1.2 h1; omega
 ·have := h9.2 h1; omega
theorem Jtk1 {b : Block} {v regs blocks : Int} (h1 : ∀ i ∈ b.code, Jtga i regs = 0) (h2 : Jtgc b.term regs blocks = 0) (hu : usedZ b v = true) : 0 ≤ v ∧ v < regs := by
 unfold usedZ at hu
 rw [Bool.or_eq_true] at hu
 rcases hu with hu | hu
 ·unfold usedC at hu
  rw [List.any_eq_true] at hu
  obtain ⟨j, hj, hu⟩ := hu
  cases hc : b.code[j]? with
  | none => rw [hc] at hu; simp at hu
  | some i =>
   rw [hc] at hu
   simp only [Bool.and_eq_true] at hu
   exact Jtjw (h1 i (List.mem_of_getElem? hc)) hu.1
 ·simp only [Bool.and_eq_true, bne_iff_ne, ne_eq, beq_iff_eq] at hu
  obtain ⟨⟨hk, ha⟩, _⟩ := hu
  unfold Jtgc at h2
  rw [if_neg hk] at h2
  split at h2
  ·split at h2
   ·cases h2
   ·rename_i h3; simp only [inZ, Bool.not_eq_false, Bool.and_eq_true, decide_eq_true_eq] at h3; omega
  ·split at h2
   ·split at h2
    ·cases h2
    ·rename_i h3; simp only [inZ, Bool.not_eq_false, Bool.and_eq_true, decide_eq_true_eq] at h3; omega
   ·cases h2
theorem Jtj4 {t : Term} {regs blocks x : Int} (h : Jtgc t regs blocks = 0) (hx : x ∈ succsZ t) : 0 ≤ x ∧ x < blocks := by
 unfold Jtgc at h
 unfold succsZ at hx
 split at hx
 ·rename_i h1
  rw [if_pos h1] at h
  split at h
  ·cases h
  ·rename_i h3
   simp only [inZ, Bool.not_eq_false, Bool.and_eq_true, decide_eq_true_eq] at h3
   simp at hx; omega
 ·rename_i h1
  rw [if_neg h1] at h
  split at hx
  ·rename_i h2
   rw [if_pos h2] at h
   split at h
   ·cases h
   ·split at h
    ·cases h
    ·rename_i h3
     simp only [inZ, Bool.not_eq_false, Bool.and_eq_true, decide_eq_true_eq, not_or] at h3
     simp at hx; omega
  ·simp at hx
theorem okV_of {f : Func} (hf : few f = true) (hc : Jtg9 f = 0) : OkV f := by
 obtain ⟨f1, f2, f3, f4⟩ := Jt8g.1 hf
 obtain ⟨s1, s2, s3, s4⟩ := src_ok hc
 refine ⟨⟨fun b hb t ht => Jtj4 (s4 b hb).2 ht, by omega, fun b hb => by have := f3 b hb; omega⟩, fun v j hl => ?_⟩
 exact LiveAt.closed (S := fun _ => 0 ≤ v ∧ v < f.regs) (fun i b hb hu => Jtk1 (s4 b (List.mem_of_getElem? hb)).1 (s4 b (List.mem_of_getElem? hb)).2 hu) (fun i b t hb ht h _ => h) hl
def lvB : Block := ⟨[⟨5, 1, 1, 0, 0⟩], ⟨3, 1, 0, 0⟩⟩
def lvF : Func := ⟨0, 3, [⟨[⟨1, 0, 0, 0, 0⟩], ⟨1, 0, 1, 0⟩⟩, lvB]⟩
def lvS (v : Int) (i : Nat) : Bool := (v == 1 && (i == 0 || i == 1)) || (v == 0 && i == 1)
theorem Jtd7 {v : Int} (hv : v = 0 ∨ v = 1 ∨ v = 2) {i : Nat} (h : LiveAt lvF v i) : lvS v i = true := by
  refine LiveAt.closed (S := fun i => lvS v i = true) (fun i b hb hu => ?_) (fun i b t hb ht hs hd => ?_) h
  · match i, hb with
    | 0, hb => cases hb; rcases hv with rfl | rfl | rfl <;> revert hu <;> decide
    | 1, hb => cases hb; rcases hv with rfl | rfl | rfl <;> revert hu <;> decide
  · match i, hb with
    | 0, hb => cases hb; have : t = 1 := by simpa [succsZ] using ht
               subst this; rcases hv with rfl | rfl | rfl <;> revert hd hs <;> decide
    | 1, hb => cases hb; simp [succsZ, lvB] at ht
theorem lvF_01 : LiveAt lvF 0 1 := .use 1 lvB rfl (by decide)
theorem lvF_11 : LiveAt lvF 1 1 := .use 1 lvB rfl (by decide)
theorem lvF_10 : LiveAt lvF 1 0 := .next 0 ⟨[⟨1, 0, 0, 0, 0⟩], ⟨1, 0, 1, 0⟩⟩ 1 rfl (by decide) lvF_11 (by decide)
theorem lvF_in : liveIn lvF = [[1], [0, 1]] := by
 have h00 : ¬ LiveAt lvF 0 0 := fun h => absurd (Jtd7 (by simp) h) (by decide)
 have h20 : ¬ LiveAt lvF 2 0 := fun h => absurd (Jtd7 (by simp) h) (by decide)
 have h21 : ¬ LiveAt lvF 2 1 := fun h => absurd (Jtd7 (by simp) h) (by decide)
 have hn : lvF.blocks.length = 2 := rfl
 have hr : lvF.regs.toNat = 3 := rfl
 simp [liveIn, liveS, hn, hr, List.range_succ, List.filter_cons, h00, h20, h21, lvF_01, lvF_11, lvF_10]
theorem Jtd8 : Jtck lvF = [[0, 1], []] := by
 have h21 : ¬ LiveAt lvF 2 1 := fun h => absurd (Jtd7 (by simp) h) (by decide)
 have hn : lvF.blocks = [⟨[⟨1, 0, 0, 0, 0⟩], ⟨1, 0, 1, 0⟩⟩, lvB] := rfl
 have s0 : succsZ ⟨1, 0, 1, 0⟩ = [1] := rfl
 have s1 : succsZ lvB.term = [] := rfl
 have hr : lvF.regs.toNat = 3 := rfl
 simp [Jtck, liveO, hn, hr, s0, s1, List.range_succ, List.filter_cons, h21, lvF_01, lvF_11]
theorem Jtd6 : sortI (scanZ lvB).1 = [0, 1] := Jtd4 (by decide) (by decide) (by
 have : (scanZ lvB).1 = [1, 0] := by decide
 intro v; rw [this]; simp; omega)
theorem Jtd5 : sortI (scanZ lvB).2 = [1] := Jtd4 (by decide) (by decide) (by
 have : (scanZ lvB).2 = [1] := by decide
 intro v; rw [this])
section
theorem Jtbx {P : Program} {p : Nums} (A : All P p) (SI : SortIOk P p) : Jt4n P p.law23_awake [] [] fun o _ => o = .ret (AB true) := by
 have okf : OkV lvF := okV_of (by decide) (by decide +kernel)
 have h1 := Jtcq A SI lvB (by decide)
 have h2 := Jtcn A SI lvB (by decide)
 have h3 := Jtco A SI lvF okf (by decide)
 have h4 := Jtcp A SI lvF okf (by decide)
 rw [Jtd6] at h1
 rw [Jtd5] at h2
 rw [lvF_in] at h3
 rw [Jtd8] at h4
 have n1 := Jtfu A [0, 1] [0, 1] (by decide) (by decide)
 have n2 := Jtfu A [1] [1] (by decide) (by decide)
 have s1 := Jtg7 A [[1], [0, 1]] [[1], [0, 1]] (by decide) (by decide) (by decide) (by decide)
 have s2 := Jtg7 A [[0, 1], []] [[0, 1], []] (by decide) (by decide) (by decide) (by decide)
 simp only [lvB, lvF, Block.av, Func.av, Block.row, Instr.row, List.map_cons, List.map_nil] at h1 h2 h3 h4
 simp only [listsD, intsD, intRow, List.map_cons, List.map_nil, decide_true] at h1 h2 h3 h4 n1 n2 s1 s2
 refine A.law23_awake.run rfl fun R hR => ?_
 (simp (maxSteps := 1000000) [Jta6])
 (refine Jt13 h1 (by rfl) (by rfl) ?_)
 (simp (maxSteps := 1000000) [])
 (refine Jt13 n1 (by rfl) (by rfl) ?_)
 (simp (maxSteps := 1000000) [])
 (refine Jt13 h2 (by rfl) (by rfl) ?_)
 (simp (maxSteps := 1000000) [])
 (refine Jt13 n2 (by rfl) (by rfl) ?_)
 (simp (maxSteps := 1000000) [])
 (refine Jt13 h3 (by rfl) (by rfl) ?_)
 (simp (maxSteps := 1000000) [])
 (refine Jt13 s1 (by rfl) (by rfl) ?_)
 (simp (maxSteps := 1000000) [])
 (refine Jt13 h4 (by rfl) (by rfl) ?_)
 (simp (maxSteps := 1000000) [])
 (refine Jt13 s2 (by rfl) (by rfl) ?_)
 (simp (maxSteps := 1000000) [])
 (first | exact hR _ _ FrA | exact hR _ _ FnA)
end
end Go.AE
set_option linter.unusedSectionVars false
set_option maxRecDepth 8000
namespace Go.AE
open Go
theorem Jtch (f : Func) : (liveIn f).length = f.blocks.length := by simp [liveIn]
theorem Jtcg (f : Func) {i : Nat} (h : i < f.blocks.length) : (liveIn f)[i]? = some (liveS f i) := by simp [liveIn, h]
section
theorem hasS {P : Program} {p : Nums} (A : All P p) (SI : SortIOk P p) (f : Func) (hr : f.regs ≤ 10000) (j : Nat) (v : Int) : Jt4n P p.ref23_Has [.d (intsD (liveS f j)), AI v] [] fun o _ => o = .ret (AB (decide (v ∈ liveS f j))) :=
 Jtg6 A _ v (by have := Jtcl f j; omega)
end
end Go.AE
set_option linter.unusedSectionVars false
set_option maxRecDepth 8000
namespace Go.AE
open Go
section
end
end Go.AE
set_option linter.unusedSectionVars false
set_option maxRecDepth 8000
namespace Go.AE
open Go
def CutTo (m : Nat) (st S4 : ASt) : Prop := Wk m st S4 ∨ ∃ S2 i j S3, Wk m st S2 ∧ Mv m i j S2 S3 ∧ Wk m S3 S4
theorem Jtf {P : Program} {m : Nat} {Q : AExit → ASt → Prop} {st : ASt} (S4 : ASt) {r b : IC} (h1 : ∀ N : ASt → Prop, (∀ st', CutTo m st' S4 → N st') → AW P m r (AExit.then N Q) st) (h2 : AW P m b Q S4) : AW P m (.seq (.seq r .cut) b) Q st := by
 show AW P m (.seq r .cut) (AExit.then (AW P m b Q) Q) st
 show AW P m r (AExit.then (AW P m .cut (AExit.then (AW P m b Q) Q)) (AExit.then (AW P m b Q) Q)) st
 refine Jtg r ?_ (h1 (fun st' => CutTo m st' S4) fun st' h => h)
 intro e st' h
 cases e with
 | normal =>
  rcases h with h | ⟨S2, i, j, S3, h3, h4, h5⟩
  ·exact .inr ⟨S4, h, .inl h2⟩
  ·exact .inr ⟨S2, h3, .inr ⟨i, j, S3, S4, h4, h5, h2⟩⟩
 | exit i => exact h
 | ret => exact h
 | panic x => exact h
def renE (ρ : Nat → Option Nat) : List (Nat × AV) → Option (List (Nat × AV))
 | [] => some []
 | (t, x) :: r => match x.ren ρ, renE ρ r with | some y, some r' => some ((t, y) :: r') | _, _ => none
theorem Jtgo {ρ : Nat → Option Nat} : ∀ {e e' : List (Nat × AV)}, renE ρ e = some e' → ∀ (t : Nat) (y : AV), get e' t = some y → ∃ x, get e t = some x ∧ x.ren ρ = some y := by
 intro e
 induction e with
 | nil => intro e' h t y hy; simp only [renE] at h; injection h with h; subst h; simp [get] at hy
 | cons z e ih =>
  intro e' h t y hy
  obtain ⟨s, x⟩ := z
  simp only [renE] at h
  split at h
  ·rename_i y' r' h1 h2
   injection h with h; subst h
   simp only [get] at hy ⊢
   split at hy
   ·rename_i hs; injection hy with hy; subst hy; rw [if_pos hs]; exact ⟨x, rfl, h1⟩
   ·rename_i hs; rw [if_neg hs]; exact ih h2 t y hy
  ·cases h
theorem Jtgm {ρ : Nat → Option Nat} : ∀ {xs ys : List Blk}, renB ρ xs = some ys → xs.length = ys.length ∧ ∀ (k : Nat) (y : Blk), ys[k]? = some y → ∃ x, xs[k]? = some x ∧ x.ren ρ = some y := by
 intro xs
 induction xs with
 | nil => intro ys h; simp only [renB] at h; injection h with h; subst h; exact ⟨rfl, fun k y hy => by simp at hy⟩
 | cons x xs ih =>
  intro ys h
  simp only [renB] at h
  split at h
  ·rename_i y ys' h1 h2
   injection h with h; subst h
   obtain ⟨i1, i2⟩ := ih h2
   refine ⟨by simp [i1], fun k z hz => ?_⟩
   cases k with
   | zero => exact ⟨x, rfl, by simp at hz; rw [← hz]; exact h1⟩
   | succ k => exact i2 k z (by simpa using hz)
  ·cases h
theorem Jtgi {ρ : Nat → Option Nat} {k k' : Blk} {t t' : List Blk} (h1 : k.ren ρ = some k') (h2 : renB ρ t = some t') : renB ρ (k :: t) = some (k' :: t') := by simp only [renB, h1, h2]
theorem Jtgt {ρ : Nat → Option Nat} (rows : List (List D)) : (Blk.mem (Jth2 rows)).ren ρ = some (.mem (Jth2 rows)) := ClB.rows rows ρ
theorem Mv.of {m i j : Nat} {e e' : List (Nat × AV)} {H H1 : List Blk} {x y : Blk} (he : renE (fun b => some (sw i j b)) e = some e') (hH : renB (fun b => some (sw i j b)) H = some H1) (hx : H1[i]? = some x) (hy : H1[j]? = some y) (hi : m ≤ i) (hj : m ≤ j) (hij : i ≠ j) :
  Mv m i j ⟨e, H⟩ ⟨e', (H1.set i y).set j x⟩ := by
 obtain ⟨l1, l2⟩ := Jtgm hH
 have li := (List.getElem?_eq_some_iff.1 hx).1
 have lj := (List.getElem?_eq_some_iff.1 hy).1
 refine ⟨hi, hj, by show i < H.length; omega, by show j < H.length; omega, fun t z hz => Jtgo he t z hz, by simp [l1], fun b k hk => l2 _ k ?_⟩
 simp only at hk
 by_cases hbj : b = j
 ·subst hbj
  rw [List.getElem?_set_self (by simpa using lj)] at hk
  have : sw i b b = i := by unfold sw; rw [if_neg (Ne.symm hij), if_pos rfl]
  rw [this, hx]; exact hk
 ·rw [List.getElem?_set_ne (Ne.symm hbj)] at hk
  by_cases hbi : b = i
  ·subst hbi
   rw [List.getElem?_set_self li] at hk
   have : sw b j b = j := by unfold sw; rw [if_pos rfl]
   rw [this, hy]; exact hk
  ·rw [List.getElem?_set_ne (Ne.symm hbi)] at hk
   have : sw i j b = b := by unfold sw; rw [if_neg hbi, if_neg hbj]
   rw [this]; exact hk
section
end
section
end
end Go.AE
set_option linter.unusedSectionVars false
set_option maxRecDepth 8000
namespace Go.AE
open Go
theorem gI_eq (l : List Int) (n : Int) : gI l n = (l[n.toNat]?).getD 0 := by simp [gI]
def defI (i : Instr) (v : Int) : Prop := usesD i.op = true ∧ i.d = v
def PtL (f : Func) (b : Block) (v : Int) (k : Nat) : Prop :=
 (∃ (j : Nat) (i : Instr), k ≤ j ∧ b.code[j]? = some i ∧ useI i v = true ∧ ∀ (l : Nat) (i' : Instr), k ≤ l → l < j → b.code[l]? = some i' → ¬ defI i' v) ∨
 ((∀ (l : Nat) (i' : Instr), k ≤ l → b.code[l]? = some i' → ¬ defI i' v) ∧ ((b.term.kind ≠ 1 ∧ b.term.a = v) ∨ ∃ t ∈ succsZ b.term, LiveAt f v t.toNat))
theorem Jt7q {b : Block} {v : Int} {k : Nat} (h : ∀ (l : Nat) (i' : Instr), l < k → b.code[l]? = some i' → ¬ defI i' v) : defAt b v k = false := by
 rw [← Bool.not_eq_true, defAt, List.any_eq_true]
 rintro ⟨i, hi, hd⟩
 obtain ⟨l, hl, he⟩ := List.mem_iff_getElem.1 hi
 simp only [List.length_take] at hl
 have h1 : (b.code.take k)[l]? = some i := by rw [List.getElem?_eq_getElem (by simpa using hl), he]
 rw [List.getElem?_take] at h1
 split at h1
 ·rename_i hlk
  refine h l i hlk h1 ?_
  simp only [Bool.and_eq_true, beq_iff_eq] at hd
  exact hd
 ·cases h1
theorem PtL.entry {f : Func} {b : Block} {v : Int} {i : Nat} (hb : f.blocks[i]? = some b) (h : PtL f b v 0) : LiveAt f v i := by
 rcases h with ⟨j, x, _, hx, hu, hn⟩ | ⟨hn, h⟩
 ·refine .use i b hb ?_
  unfold usedZ usedC
  rw [Bool.or_eq_true]; left
  rw [List.any_eq_true]
  refine ⟨j, List.mem_range.2 (List.getElem?_eq_some_iff.1 hx).1, ?_⟩
  rw [hx]
  simp only [hu, Bool.true_and]
  rw [Jt7q fun l i' hl => hn l i' (Nat.zero_le _) hl]; rfl
 ·have hd := Jt7q (b := b) (v := v) (k := b.code.length) fun l i' _ => hn l i' (Nat.zero_le _)
  rcases h with ⟨h1, h2⟩ | ⟨t, ht, hl⟩
  ·refine .use i b hb ?_
   unfold usedZ
   rw [hd]
   simp [h1, h2]
  ·exact .next i b t hb ht hl hd
theorem PtL.use {f : Func} {b : Block} {v : Int} {k : Nat} {i : Instr} (hi : b.code[k]? = some i) (hu : useI i v = true) : PtL f b v k :=
 .inl ⟨k, i, Nat.le_refl _, hi, hu, fun l i' h1 h2 => by omega⟩
theorem PtL.prev {f : Func} {b : Block} {v : Int} {k : Nat} {i : Instr} (hi : b.code[k]? = some i) (hd : ¬ defI i v) (h : PtL f b v (k + 1)) : PtL f b v k := by
 rcases h with ⟨j, x, hj, hx, hu, hn⟩ | ⟨hn, h⟩
 ·refine .inl ⟨j, x, by omega, hx, hu, fun l i' h1 h2 h3 => ?_⟩
  by_cases hl : l = k
  ·subst hl; rw [hi] at h3; cases h3; exact hd
  ·exact hn l i' (by omega) h2 h3
 ·refine .inr ⟨fun l i' h1 h3 => ?_, h⟩
  by_cases hl : l = k
  ·subst hl; rw [hi] at h3; cases h3; exact hd
  ·exact hn l i' (by omega) h3
theorem PtL.term {f : Func} {b : Block} (h : b.term.kind ≠ 1) : PtL f b b.term.a b.code.length :=
 .inr ⟨fun l i' h1 h3 => by have := (List.getElem?_eq_some_iff.1 h3).1; omega, .inl ⟨h, rfl⟩⟩
theorem PtL.out {f : Func} {b : Block} {v t : Int} (ht : t ∈ succsZ b.term) (h : LiveAt f v t.toNat) : PtL f b v b.code.length :=
 .inr ⟨fun l i' h1 h3 => by have := (List.getElem?_eq_some_iff.1 h3).1; omega, .inr ⟨t, ht, h⟩⟩
structure Ag (f : Func) (r s : RunZ) : Prop where
 state : r.state = s.state
 block : r.block = s.block
 at_ : r.at_ = s.at_
 value : r.value = s.value
 steps : r.steps = s.steps
 trace : r.trace = s.trace
 len : r.regs.length = s.regs.length
 regs : r.state = 0 → ∀ b, f.blocks[r.block]? = some b → ∀ v : Int, PtL f b v r.at_ → gI r.regs v = gI s.regs v
structure OkN (f : Func) (nr : Nat) (r : RunZ) : Prop where
 len : r.regs.length = nr
 pos : r.state = 0 → ∃ b, f.blocks[r.block]? = some b ∧ r.at_ ≤ b.code.length
structure OkP (f : Func) (nr : Nat) : Prop where
 pos : 0 < nr
 src : ∀ b ∈ f.blocks, (∀ i ∈ b.code, Jtga i (nr : Int) = 0) ∧ Jtgc b.term (nr : Int) f.blocks.length = 0
theorem Ag.step {f : Func} {nr : Nat} (hp : OkP f nr) {r s : RunZ} (h : Ag f r s) (ok : OkN f nr r) : Ag f (stepZ f r) (stepZ f s) := by
 obtain ⟨st, bl, at_, va, re, sl, tr, ss⟩ := r
 obtain ⟨st', bl', at', va', re', sl', tr', ss'⟩ := s
 obtain ⟨h1, h2, h3, h4, h5, h6, h7, h8⟩ := h
 simp only at h1 h2 h3 h4 h5 h6 h7 h8
 subst h1 h2 h3 h4 h5 h6
 unfold stepZ
 by_cases h0 : st = 0
 ·simp only [h0, ne_eq, not_true_eq_false, if_false]
  obtain ⟨b, hb, hat⟩ := ok.pos h0
  simp only at hb hat
  have hbm := List.mem_of_getElem? hb
  obtain ⟨s1, s2⟩ := hp.src b hbm
  have hR := h8 h0 b hb
  rw [hb]
  simp only
  unfold stepB
  by_cases he : at_ = b.code.length
  ·simp only [he, if_true]
   subst he
   by_cases h3 : b.term.kind = 3
   ·simp only [h3, if_true]
    have ha := hR _ (PtL.term (by rw [h3]; decide))
    exact ⟨rfl, rfl, rfl, ha, rfl, rfl, h7, fun h => by simp at h⟩
   ·simp only [h3, if_false]
    have hbl : (if b.term.kind = 2 ∧ gI re b.term.a = 0 then b.term.els else b.term.to) = (if b.term.kind = 2 ∧ gI re' b.term.a = 0 then b.term.els else b.term.to) := by
     by_cases hk : b.term.kind = 2
     ·rw [hR _ (PtL.term (by rw [hk]; decide))]
     ·rw [if_neg (fun h => hk h.1), if_neg (fun h => hk h.1)]
    rw [hbl]
    refine ⟨rfl, rfl, rfl, rfl, rfl, rfl, h7, fun _ b' hb' v hv => ?_⟩
    simp only at hb' hv ⊢
    refine hR v (PtL.out (t := if b.term.kind = 2 ∧ gI re' b.term.a = 0 then b.term.els else b.term.to) ?_ (PtL.entry hb' hv))
    unfold succsZ
    unfold Jtgc at s2
    by_cases hk1 : b.term.kind = 1
    ·rw [if_pos hk1, if_neg (fun h => by rw [hk1] at h; exact absurd h.1 (by decide))]; simp
    ·rw [if_neg hk1] at s2 ⊢
     by_cases hk2 : b.term.kind = 2
     ·rw [if_pos hk2]
      split <;> simp
     ·rw [if_neg hk2, if_neg h3] at s2; simp at s2
  ·simp only [he, if_false]
   obtain ⟨i, hi⟩ : ∃ i, b.code[at_]? = some i := ⟨_, List.getElem?_eq_getElem (by omega)⟩
   rw [hi]
   simp only
   have hv := s1 i (List.mem_of_getElem? hi)
   have hua : ∀ x : Int, usesA i.op = true → i.a = x → gI re x = gI re' x := fun x h1 h2 => hR x (PtL.use hi (by unfold useI; simp [h1, h2]))
   have hub : ∀ x : Int, usesB i.op = true → i.b = x → gI re x = gI re' x := fun x h1 h2 => hR x (PtL.use hi (by unfold useI; simp [h1, h2]))
   by_cases h17 : i.op = 17
   ·simp only [h17, if_true]
    have hA : usesA i.op = true := by rw [h17]; decide
    rw [hua i.a hA rfl]
    refine ⟨rfl, rfl, rfl, rfl, rfl, rfl, h7, fun _ b' hb' v hv2 => ?_⟩
    simp only at hb' hv2 ⊢
    rw [hb] at hb'; cases hb'
    exact hR v (hv2.prev hi fun hd => by have := hd.1; rw [h17] at this; revert this; decide)
   ·simp only [h17, if_false]
    have hev : evI i re = evI i re' := by
     unfold evI
     have ea : evalZ i.op (gI re i.a) (gI re i.b) i.imm = evalZ i.op (gI re' i.a) (gI re i.b) i.imm := by
      cases hA : usesA i.op with
      | true => rw [hua i.a hA rfl]
      | false => exact Jt86 hA h17
     rw [ea]
     cases hB : usesB i.op with
     | true => rw [hub i.b hB rfl]
     | false => exact Jt87 hB
    rw [hev]
    split
    ·refine ⟨rfl, rfl, rfl, rfl, rfl, rfl, by simp [h7], fun _ b' hb' v hv2 => ?_⟩
     simp only at hb' hv2 ⊢
     rw [hb] at hb'; cases hb'
     obtain ⟨_, _, d0, d1⟩ := Jtbf hv hp.pos
     have hl : re.length = nr := ok.len
     by_cases hvd : v = i.d
     ·subst hvd
      rw [gI_eq, gI_eq, List.getElem?_set_self (by omega), List.getElem?_set_self (by omega)]
     ·by_cases hv0 : 0 ≤ v
      ·have : i.d.toNat ≠ v.toNat := by omega
       have h9 := hR v (hv2.prev hi fun hd => hvd hd.2.symm)
       rw [gI_eq, gI_eq] at h9 ⊢
       rw [List.getElem?_set_ne this, List.getElem?_set_ne this]; exact h9
      ·have h9 := hR v (hv2.prev hi fun hd => hvd hd.2.symm)
       by_cases hd0 : i.d.toNat = v.toNat
       ·rw [gI_eq, gI_eq, ← hd0, List.getElem?_set_self (by omega), List.getElem?_set_self (by omega)]
       ·rw [gI_eq, gI_eq] at h9 ⊢
        rw [List.getElem?_set_ne hd0, List.getElem?_set_ne hd0]; exact h9
    ·exact ⟨rfl, rfl, rfl, rfl, rfl, rfl, h7, fun h => by simp at h⟩
 ·have h0' : st ≠ 0 := h0
  simp only [ne_eq, h0, not_false_eq_true, if_true]
  exact ⟨rfl, rfl, rfl, rfl, rfl, rfl, h7, fun h => absurd h h0⟩
theorem OkN.step {f : Func} {nr : Nat} (hp : OkP f nr) {r : RunZ} (ok : OkN f nr r) : OkN f nr (stepZ f r) := by
 obtain ⟨st, bl, at_, va, re, sl, tr, ss⟩ := r
 obtain ⟨o1, o2⟩ := ok
 simp only at o1 o2
 unfold stepZ
 by_cases h0 : st = 0
 ·simp only [h0, ne_eq, not_true_eq_false, if_false]
  obtain ⟨b, hb, hat⟩ := o2 h0
  obtain ⟨s1, s2⟩ := hp.src b (List.mem_of_getElem? hb)
  rw [hb]
  simp only
  unfold stepB
  by_cases he : at_ = b.code.length
  ·simp only [he, if_true]
   by_cases h3 : b.term.kind = 3
   ·simp only [h3, if_true]
    exact ⟨o1, fun h => by simp at h⟩
   ·simp only [h3, if_false]
    refine ⟨o1, fun _ => ?_⟩
    simp only
    have ht : ∃ t, t = (if b.term.kind = 2 ∧ gI re b.term.a = 0 then b.term.els else b.term.to) ∧ t ∈ succsZ b.term := by
     refine ⟨_, rfl, ?_⟩
     unfold succsZ
     unfold Jtgc at s2
     by_cases hk1 : b.term.kind = 1
     ·rw [if_pos hk1, if_neg (fun h => by rw [hk1] at h; exact absurd h.1 (by decide))]; simp
     ·rw [if_neg hk1] at s2 ⊢
      by_cases hk2 : b.term.kind = 2
      ·rw [if_pos hk2]
       split <;> simp
      ·rw [if_neg hk2, if_neg h3] at s2; simp at s2
    obtain ⟨t, ht1, ht2⟩ := ht
    rw [← ht1]
    obtain ⟨t0, t1⟩ := Jtj4 s2 ht2
    exact ⟨_, List.getElem?_eq_getElem (by omega), Nat.zero_le _⟩
  ·simp only [he, if_false]
   obtain ⟨i, hi⟩ : ∃ i, b.code[at_]? = some i := ⟨_, List.getElem?_eq_getElem (by omega)⟩
   rw [hi]
   simp only
   split
   ·exact ⟨o1, fun _ => ⟨b, hb, by simp only; omega⟩⟩
   ·split
    ·exact ⟨by simpa using o1, fun _ => ⟨b, hb, by simp only; omega⟩⟩
    ·exact ⟨o1, fun h => by simp at h⟩
 ·simp only [ne_eq, h0, not_false_eq_true, if_true]
  exact ⟨o1, o2⟩
theorem Jtiu (f : Func) (r : RunZ) : (stepZ f r).steps ≤ r.steps + 1 ∧ (stepZ f r).trace.length ≤ r.trace.length + 1 ∧ (stepZ f r).slots = r.slots ∧ (r.state = 0 → (stepZ f r).state = 0 → (∃ b, f.blocks[r.block]? = some b ∧ r.at_ ≤ b.code.length) → (stepZ f r).steps = r.steps + 1) := by
 unfold stepZ
 split
 ·rename_i h; exact ⟨by omega, by omega, rfl, fun h0 => absurd h0 h⟩
 ·split
  ·rename_i b hb
   unfold stepB
   split
   ·split
    ·exact ⟨Nat.le_refl _, Nat.le_succ _, rfl, fun _ _ _ => rfl⟩
    ·exact ⟨Nat.le_refl _, Nat.le_succ _, rfl, fun _ _ _ => rfl⟩
   ·rename_i he
    split
    ·rename_i hc
     refine ⟨by omega, by omega, rfl, fun _ _ ⟨b', hb', hl⟩ => ?_⟩
     rw [hb] at hb'; cases hb'
     rw [List.getElem?_eq_none_iff] at hc; omega
    ·split
     ·exact ⟨Nat.le_refl _, by simp, rfl, fun _ _ _ => rfl⟩
     ·split
      ·exact ⟨Nat.le_refl _, by simp, rfl, fun _ _ _ => rfl⟩
      ·exact ⟨by simp, by simp, rfl, fun _ h => by simp at h⟩
  ·rename_i hb
   exact ⟨by omega, by omega, rfl, fun _ _ ⟨b', hb', _⟩ => by rw [hb] at hb'; cases hb'⟩
theorem OkN.inB {f : Func} {nr : Nat} (hp : OkP f nr) (hcl : ∀ b ∈ f.blocks, b.code.length ≤ 100) {r : RunZ} (ok : OkN f nr r) : r.state = 0 → ∃ b, f.blocks[r.block]? = some b ∧ r.at_ ≤ b.code.length ∧ b.code.length < 1000000000 ∧ InB b r.regs.length := fun h0 => by
 obtain ⟨b, hb, hat⟩ := ok.pos h0
 have hbm := List.mem_of_getElem? hb
 obtain ⟨s1, s2⟩ := hp.src b hbm
 have := hcl b hbm
 rw [ok.len]
 have hi := fun i hi => Jtbf (s1 i hi) hp.pos
 have t1 := okT_of s2
 exact ⟨b, hb, hat, by omega, ⟨fun i h1 _ => (hi i h1).1, fun i h1 _ => hi i h1, t1.a, Jtjc s2⟩⟩
end Go.AE
set_option linter.unusedSectionVars false
set_option maxRecDepth 8000
namespace Go.AE
open Go
def stA (q l : Nat) : AV := match l with
 | 0 => .nile
 | l + 1 => .hsl q 0 1 (l + 1)
def stK (q l : Nat) : Blk := .mem [AI 0, AI 0, AI 0, AI 0, stA q l, .nils, .nils, AI 0]
def outK : Blk := .mem [AI 0, AI 0, AI 0, AI 0, .nils, .nils, .nils, AI 0]
structure StH (sI q l : Nat) (rows : List (List D)) (fB : Blk) (H : List Blk) : Prop where
 g0 : H[0]? = some fB
 g1 : H[1]? = some outK
 gs : H[sI]? = some (stK q l)
 s2 : 2 ≤ sI
 gq : l ≠ 0 → H[q]? = some (.mem (Jth2 rows)) ∧ q ≠ sI ∧ 2 ≤ q
 cl : ∀ b k, H[b]? = some k → b = sI ∨ ClB k
theorem StH.lt {sI q l : Nat} {rows : List (List D)} {fB : Blk} {H : List Blk} (h : StH sI q l rows fB H) : sI < H.length ∧ (l ≠ 0 → q < H.length) :=
 ⟨(List.getElem?_eq_some_iff.1 h.gs).1, fun hl => (List.getElem?_eq_some_iff.1 (h.gq hl).1).1⟩
theorem StH.new {sI q l : Nat} {rows rows' : List (List D)} {fB : Blk} {H : List Blk} (h : StH sI q l rows fB H) (l' : Nat) : StH sI H.length l' rows' fB ((H ++ [Blk.mem (Jth2 rows')]).set sI (stK H.length l')) := by
 obtain ⟨h1, h2⟩ := h.lt
 have s2 := h.s2
 have get : ∀ b, b ≠ sI → ((H ++ [Blk.mem (Jth2 rows')]).set sI (stK H.length l'))[b]? = (H ++ [Blk.mem (Jth2 rows')])[b]? := fun b hb => List.getElem?_set_ne (Ne.symm hb)
 refine ⟨?_, ?_, ?_, s2, fun _ => ⟨?_, by omega, by omega⟩, fun b k hk => ?_⟩
 ·rw [get _ (by omega), List.getElem?_append_left (by omega)]; exact h.g0
 ·rw [get _ (by omega), List.getElem?_append_left (by omega)]; exact h.g1
 ·rw [List.getElem?_set_self (by simp; omega)]
 ·rw [get _ (by omega), List.getElem?_append_right (Nat.le_refl _)]; simp
 ·by_cases hb : b = sI
  ·exact .inl hb
  ·rw [get _ hb] at hk
   by_cases hbl : b < H.length
   ·rw [List.getElem?_append_left hbl] at hk; exact h.cl b k hk
   ·rw [List.getElem?_append_right (by omega)] at hk
    have : b - H.length = 0 := by
     have := (List.getElem?_eq_some_iff.1 hk).1
     simp at this; omega
    rw [this] at hk
    simp at hk
    subst hk
    exact .inr (ClB.rows rows')
theorem StH.same {sI q l : Nat} {rows rows' : List (List D)} {fB : Blk} {H : List Blk} (h : StH sI q l rows fB H) (hl : l ≠ 0) (l' : Nat) : StH sI q l' rows' fB ((H.set q (.mem (Jth2 rows'))).set sI (stK q l')) := by
 obtain ⟨h1, h2⟩ := h.lt
 have h2 := h2 hl
 obtain ⟨q1, q2, q3⟩ := h.gq hl
 have s2 := h.s2
 have get : ∀ b, b ≠ sI → ((H.set q (.mem (Jth2 rows'))).set sI (stK q l'))[b]? = (H.set q (.mem (Jth2 rows')))[b]? := fun b hb => List.getElem?_set_ne (Ne.symm hb)
 refine ⟨?_, ?_, ?_, s2, fun _ => ⟨?_, q2, q3⟩, fun b k hk => ?_⟩
 ·rw [get _ (by omega), List.getElem?_set_ne (by omega)]; exact h.g0
 ·rw [get _ (by omega), List.getElem?_set_ne (by omega)]; exact h.g1
 ·rw [List.getElem?_set_self (by simp; omega)]
 ·rw [get _ q2, List.getElem?_set_self h2]
 ·by_cases hb : b = sI
  ·exact .inl hb
  ·rw [get _ hb] at hk
   by_cases hbq : b = q
   ·subst hbq; rw [List.getElem?_set_self h2] at hk; cases hk; exact .inr (ClB.rows rows')
   ·rw [List.getElem?_set_ne (Ne.symm hbq)] at hk; exact h.cl b k hk
theorem StH.wk {sI q l : Nat} {rows : List (List D)} {fB : Blk} {H : List Blk} (h : StH sI q l rows fB H) {e e' : List (Nat × AV)} (he : WkE ⟨e, H⟩ H.length e') : Wk 0 ⟨e, H⟩ ⟨e', H⟩ := by
 refine ⟨Jt54 he, Nat.le_refl _, Nat.zero_le _, fun b k hk => ⟨k, hk, ?_⟩⟩
 rcases h.cl b k hk with hb | hc
 ·subst hb
  have hk2 := h.gs
  rw [show (⟨e', H⟩ : ASt).H = H from rfl] at hk
  rw [hk2] at hk; cases hk
  refine WkB.same ?_
  cases l with
  | zero => rfl
  | succ l =>
   simp only [stA, renL, AV.ren]
   rw [if_pos (h.lt.2 (by simp))]
 ·exact hc.wk
theorem we3 {e : List (Nat × AV)} {H : List Blk} {sI : Nat} (h : sI < H.length) (h1 : 1 < H.length) (a : get e 5 = some (.ptr sI 0)) (b : get e 2 = some (.ptr 0 0)) (c : get e 4 = some (.ptr 1 0)) : WkE ⟨e, H⟩ H.length [(5, .ptr sI 0), (2, .ptr 0 0), (4, .ptr 1 0)] :=
 ⟨⟨_, a, Jtka (by simp only [AV.ren]; rw [if_pos h])⟩, ⟨_, b, Jtka (by simp only [AV.ren]; rw [if_pos (by omega)])⟩, ⟨_, c, Jtka (by simp only [AV.ren]; rw [if_pos h1])⟩, trivial⟩
section
set_option maxHeartbeats 1000000 in
theorem Jtg3 {P : Program} {p : Nums} (A : All P p) (f : Func) (args : List Int) (h0 : (args.length : Int) ≤ f.regs) (h1 : f.regs ≤ 10000) : Jt4n P p.ref09_Start [f.av, .d (intsD args)] [] fun o _ => o = .ret (run0 f args).av := by
 refine A.ref09_Start.run rfl fun R hR => ?_
 obtain ⟨fR, hfR⟩ : ∃ x, x = f.blocks.map Block.row := ⟨_, rfl⟩
 have av : f.av = .agg [AI f.args, AI f.regs, .d (.sl fR)] := by rw [hfR]; rfl
 obtain ⟨rn, hrn⟩ : ∃ m : Nat, f.regs = (m : Int) := ⟨f.regs.toNat, by omega⟩
 obtain ⟨aR, haR⟩ : ∃ x, x = args.map intRow := ⟨_, rfl⟩
 have hal : aR.length = args.length := by rw [haR]; simp
 have ha1 : ∀ r ∈ aR, r.length = 1 := fun r hr => by rw [haR] at hr; obtain ⟨l, _, rfl⟩ := List.mem_map.1 hr; rfl
 obtain ⟨cur, hcur⟩ : ∃ cur : Nat → List (List D), cur = fun l => aR ++ List.replicate (l - args.length) (intRow 0) := ⟨_, rfl⟩
 have cl : ∀ l, args.length ≤ l → (cur l).length = l := fun l hl => by rw [hcur]; simp; omega
 have c1 : ∀ l, ∀ r ∈ cur l, r.length = 1 := fun l r hr => by
  rw [hcur] at hr
  rcases List.mem_append.1 hr with h | h
  ·exact ha1 r h
  ·rw [List.eq_of_mem_replicate h]; rfl
 have cs : ∀ l, args.length ≤ l → cur l ++ [intRow 0] = cur (l + 1) := fun l hl => by
  rw [hcur]; simp only
  rw [show l + 1 - args.length = (l - args.length) + 1 by omega, List.replicate_succ', List.append_assoc]
 have cN : cur rn = (run0 f args).regs.map intRow := by
  rw [hcur, haR]; simp [run0, hrn]
 rw [av]
 obtain ⟨fB, hfB⟩ : ∃ x, x = Blk.mem [AI f.args, AI f.regs, AV.d (.sl fR)] := ⟨_, rfl⟩
 have hclf : ClB fB := by rw [hfB]; exact fun _ => rfl
 have hclo : ClB outK := fun _ => rfl
 have init1 : args = [] → StH 2 0 0 (cur 0) fB [fB, outK, stK 0 0] := fun he => ⟨rfl, rfl, rfl, Nat.le_refl _, fun h => absurd rfl h, fun b k hk => by
  match b, hk with
  | 0, hk => cases hk; exact .inr hclf
  | 1, hk => cases hk; exact .inr hclo
  | 2, hk => exact .inl rfl⟩
 have init2 : StH 3 2 args.length (cur args.length) fB [fB, outK, .mem (Jth2 aR), stK 2 args.length] := by
  have ec : cur args.length = aR := by rw [hcur]; simp
  rw [ec]
  exact ⟨rfl, rfl, rfl, by decide, fun h => ⟨rfl, by decide, Nat.le_refl _⟩, fun b k hk => by
   match b, hk with
   | 0, hk => cases hk; exact .inr hclf
   | 1, hk => cases hk; exact .inr hclo
   | 2, hk => cases hk; exact .inr (ClB.rows aR)
   | 3, hk => exact .inl rfl⟩
 simp only [intsD, ← haR]
 (simp (maxSteps := 1000000) [Jtb0])
 have main : ∀ (sI q l : Nat) (H : List Blk) (N : ASt → Prop), args.length ≤ l → l ≤ rn → StH sI q l (cur l) fB H →
   (∀ (st' : ASt) (z : Nat × Nat × Nat × List Blk), (args.length ≤ z.2.2.1 ∧ z.2.2.1 ≤ rn ∧ StH z.1 z.2.1 z.2.2.1 (cur z.2.2.1) fB z.2.2.2) → Wk 0 st' ⟨[(5, .ptr z.1 0), (2, .ptr 0 0), (4, .ptr 1 0)], z.2.2.2⟩ → rn - z.2.2.1 < rn - l → N st') →
   AW P 0 (Jqc0 p) (AExit.then N (AExit.inBlock 0 (AExit.then (AW P 0 (.seq (.region [⟨some 21, .load (some 8) (.t 5), none, false⟩, ⟨none, .store 8 (.t 4) (.t 21), none, false⟩] []) .ret) R) R))) ⟨[(5, .ptr sI 0), (2, .ptr 0 0), (4, .ptr 1 0)], H⟩ := by
  intro sI q l H N b1 b2 hst hN
  have g0 := hst.g0
  have g1 := hst.g1
  have gs := hst.gs
  have s2 := hst.s2
  obtain ⟨t1, t2⟩ := hst.lt
  rw [hfB] at g0
  unfold outK at g1
  unfold stK at gs
  by_cases h2i : (l : Int) < f.regs
  ·cases l with
   | zero =>
    simp only [stA] at gs
    have h2j : (0 : Int) < f.regs := by omega
    (simp (maxSteps := 1000000) [Jqc0, g0, gs, h2j])
    have haz : args = [] := List.eq_nil_of_length_eq_zero (by omega)
    have ec : cur 1 = [[D.int .i64 0]] := by rw [hcur, haR, haz]; rfl
    have hnew := hst.new (rows' := [[D.int .i64 0]]) 1
    refine Jt1f (.inl (by rfl)) (by rfl) (by simp) (by decide) (by simp) (by simp) (by simp) ?_
    obtain ⟨H1, hH1⟩ : ∃ H1, H1 = H ++ [Blk.mem (Jth2 [[D.int .i64 0]])] := ⟨_, rfl⟩
    have gs1 : H1[sI]? = some (.mem [AI 0, AI 0, AI 0, AI 0, .nile, .nils, .nils, AI 0]) := by rw [hH1, List.getElem?_append_left t1]; exact gs
    simp only [← hH1] at hnew ⊢
    (simp (maxSteps := 1000000) [gs1])
    have lt := hnew.lt.1
    exact hN _ (sI, H.length, 1, H1.set sI (stK H.length 1)) ⟨by simp only; omega, by simp only; omega, by simp only [ec]; exact hnew⟩ (hnew.wk (we3 lt (by omega) (by rfl) (by rfl) (by rfl))) (by simp only; omega)
   | succ l =>
    simp only [stA] at gs
    have h2j : (l : Int) + 1 < f.regs := by omega
    obtain ⟨q1, q2, q3⟩ := hst.gq (by simp)
    have hcl := cl (l + 1) b1
    (simp (maxSteps := 1000000) [Jqc0, g0, gs, h2j])
    refine Jt1g (b := q) (rows := cur (l + 1)) (ys := [[D.int .i64 0]]) (by rfl) q1 hcl (c1 _) (by omega) (by rfl) (by simp) (by decide) (by simp) (by simp; omega) (by simp; omega) ?_ ?_
    ·have hsame := hst.same (rows' := cur (l + 1 + 1)) (by simp) (l + 1 + 1)
     rw [show cur (l + 1) ++ [[D.int .i64 0]] = cur (l + 1 + 1) from cs (l + 1) b1]
     obtain ⟨H1, hH1⟩ : ∃ H1, H1 = H.set q (Blk.mem (Jth2 (cur (l + 1 + 1)))) := ⟨_, rfl⟩
     have gs1 : H1[sI]? = some (.mem [AI 0, AI 0, AI 0, AI 0, .hsl q 0 1 (l + 1), .nils, .nils, AI 0]) := by rw [hH1, List.getElem?_set_ne q2]; exact gs
     simp only [← hH1] at hsame ⊢
     (simp (maxSteps := 1000000) [gs1])
     have lt := hsame.lt.1
     exact hN _ (sI, q, l + 1 + 1, H1.set sI (stK q (l + 1 + 1))) ⟨by simp only; omega, by simp only; omega, hsame⟩ (hsame.wk (we3 lt (by omega) (by rfl) (by rfl) (by rfl))) (by simp only; omega)
    ·have hnew := hst.new (rows' := cur (l + 1 + 1)) (l + 1 + 1)
     rw [show cur (l + 1) ++ [[D.int .i64 0]] = cur (l + 1 + 1) from cs (l + 1) b1]
     obtain ⟨H1, hH1⟩ : ∃ H1, H1 = H ++ [Blk.mem (Jth2 (cur (l + 1 + 1)))] := ⟨_, rfl⟩
     have gs1 : H1[sI]? = some (.mem [AI 0, AI 0, AI 0, AI 0, .hsl q 0 1 (l + 1), .nils, .nils, AI 0]) := by rw [hH1, List.getElem?_append_left t1]; exact gs
     simp only [← hH1] at hnew ⊢
     (simp (maxSteps := 1000000) [gs1])
     have lt := hnew.lt.1
     exact hN _ (sI, H.length, l + 1 + 1, H1.set sI (stK H.length (l + 1 + 1))) ⟨by simp only; omega, by simp only; omega, hnew⟩ (hnew.wk (we3 lt (by omega) (by rfl) (by rfl) (by rfl))) (by simp only; omega)
  ·have hle : l = rn := by omega
   have eR : (run0 f args).av = .agg [AI 0, AI 0, AI 0, AI 0, .d (.sl (cur rn)), .d (.sl []), .d (.sl []), AI 0] := by rw [cN]; rfl
   rw [eR] at hR
   subst hle
   cases l with
   | zero =>
    simp only [stA] at gs
    have h2j : ¬ (0 : Int) < f.regs := by omega
    (simp (maxSteps := 1000000) [Jqc0, g0, g1, gs, h2j])
    have ez : cur 0 = [] := List.eq_nil_of_length_eq_zero (cl 0 b1)
    have gx : (H.set 1 (Blk.mem [AI 0, AI 0, AI 0, AI 0, AV.nile, AV.nils, AV.nils, AI 0]))[1]? = some (Blk.mem [AI 0, AI 0, AI 0, AI 0, AV.nile, AV.nils, AV.nils, AI 0]) := List.getElem?_set_self (by omega)
    refine hR _ _ (Jt4r (.agg [AI 0, AI 0, AI 0, AI 0, .nile, .nils, .nils, AI 0]) (.agg [AI 0, AI 0, AI 0, AI 0, .d (.sl (cur 0)), .d (.sl []), .d (.sl []), AI 0]) [] ?_ ?_ rfl)
    ·simp only [rV, rOne, opV]
     simp [get, gx]
     done
    ·rw [ez]
     exact Wk.of ⟨⟨_, rfl, .inl (Jt5e ⟨.refl _ rfl, .refl _ rfl, .refl _ rfl, .refl _ rfl, .nile, .nild, .nild, .refl _ rfl, trivial⟩)⟩, trivial⟩ Jt5b (by simp)
   | succ l =>
    simp only [stA] at gs
    have h2j : ¬ (l : Int) + 1 < f.regs := by omega
    (simp (maxSteps := 1000000) [Jqc0, g0, g1, gs, h2j])
    obtain ⟨q1, q2, q3⟩ := hst.gq (by simp)
    have gx : (H.set 1 (Blk.mem [AI 0, AI 0, AI 0, AI 0, AV.hsl q 0 1 (l + 1), AV.nils, AV.nils, AI 0]))[1]? = some (Blk.mem [AI 0, AI 0, AI 0, AI 0, AV.hsl q 0 1 (l + 1), AV.nils, AV.nils, AI 0]) := List.getElem?_set_self (by omega)
    have gq : (H.set 1 (Blk.mem [AI 0, AI 0, AI 0, AI 0, AV.hsl q 0 1 (l + 1), AV.nils, AV.nils, AI 0]))[q]? = some (.mem (Jth2 (cur (l + 1)))) := by rw [List.getElem?_set_ne (by omega)]; exact q1
    refine hR _ _ (Jt4r (.agg [AI 0, AI 0, AI 0, AI 0, .hsl q 0 1 (l + 1), .nils, .nils, AI 0]) (.agg [AI 0, AI 0, AI 0, AI 0, .d (.sl (cur (l + 1))), .d (.sl []), .d (.sl []), AI 0]) [] ?_ ?_ rfl)
    ·simp only [rV, rOne, opV]
     simp [get, gx]
     done
    ·refine Wk.of ⟨⟨_, rfl, .inl (Jt5e ⟨.refl _ rfl, .refl _ rfl, .refl _ rfl, .refl _ rfl, ?_, .nild, .nild, .refl _ rfl, trivial⟩)⟩, trivial⟩ Jt5b (by simp)
     refine .hsl q 0 1 (l + 1) (Jth2 (cur (l + 1))) (cur (l + 1)) gq (Nat.zero_le _) ?_ (cl _ b1) (c1 _)
     rw [List.drop_zero, List.take_of_length_le (by rw [Jth6 (c1 _), cl _ b1]; exact Nat.le_refl _)]; rfl
 by_cases ha : args = []
 ·have haz : aR = [] := by rw [haR, ha]; rfl
  refine Jt1h (by rfl) (by rfl) ha1 (by decide) (by rw [haz]; simp) (by rw [haz]; simp) (fun hn => ?_) fun hn => absurd haz hn
  (simp (maxSteps := 1000000) [])
  refine Jtd (fun z : Nat × Nat × Nat × List Blk => ⟨[(5, .ptr z.1 0), (2, .ptr 0 0), (4, .ptr 1 0)], z.2.2.2⟩) (fun z => args.length ≤ z.2.2.1 ∧ z.2.2.1 ≤ rn ∧ StH z.1 z.2.1 z.2.2.1 (cur z.2.2.1) fB z.2.2.2) (fun z => rn - z.2.2.1)
   (2, 0, 0, [fB, outK, stK 0 0]) ⟨by rw [ha]; exact Nat.le_refl _, Nat.zero_le _, init1 ha⟩ (by simp only [hfB, outK, stK, stA]; (exact wkA)) ?_
  rintro ⟨sI, q, l, H⟩ ⟨b1, b2, hst⟩ N hN
  exact main sI q l H N b1 b2 hst hN
 ·have haz : aR ≠ [] := by rw [haR]; simpa using ha
  have hap : aR.length ≤ 10000 := by omega
  refine Jt1f (.inl (by rfl)) (by rfl) ha1 (by decide) (by omega) (by omega) haz ?_
  (simp (maxSteps := 1000000) [])
  refine Jtd (fun z : Nat × Nat × Nat × List Blk => ⟨[(5, .ptr z.1 0), (2, .ptr 0 0), (4, .ptr 1 0)], z.2.2.2⟩) (fun z => args.length ≤ z.2.2.1 ∧ z.2.2.1 ≤ rn ∧ StH z.1 z.2.1 z.2.2.1 (cur z.2.2.1) fB z.2.2.2) (fun z => rn - z.2.2.1)
   (3, 2, args.length, [fB, outK, .mem (Jth2 aR), stK 2 args.length]) ⟨Nat.le_refl _, by simp only; omega, init2⟩ ?_ ?_
  ·obtain ⟨m, hm⟩ : ∃ m, args.length = m + 1 := ⟨args.length - 1, by have := List.length_pos_iff.2 ha; omega⟩
   rw [hal, hm]
   simp only [hfB, outK, stK, stA]
   refine Wk.of ?_ ?_ (by simp) <;> repeat' (first | exact Jt53 | (first | exact True.intro | exact ⟨_, rfl, Jtka rfl⟩ | exact ⟨_, rfl, Jtk8 rfl⟩ | exact ⟨_, rfl, .inl .nild⟩ | exact ⟨_, rfl, .inl .nile⟩ | exact ⟨_, rfl, Jtk9⟩ | exact Jtka rfl | exact Jtk8 rfl | exact .inl .nild | exact .inl .nile | exact Jtk9 | exact WkB.same rfl | exact Jt53 | exact Jt52 | exact .dead _ | exact .iter _ _ | exact .glob _ _ | refine Jt51 ?_ ?_ | refine And.intro ?_ ?_))
  rintro ⟨sI, q, l, H⟩ ⟨b1, b2, hst⟩ N hN
  exact main sI q l H N b1 b2 hst hN
end
end Go.AE
set_option linter.unusedSectionVars false
set_option maxRecDepth 8000
namespace Go.AE
open Go
theorem Jtiv (f : Func) (r : RunZ) : (stepZ f r).trace.length + r.steps ≤ r.trace.length + (stepZ f r).steps := by
 unfold stepZ
 split
 ·omega
 ·split
  ·unfold stepB
   split
   ·split
    ·simp only; omega
    ·simp only; omega
   ·split
    ·omega
    ·split
     ·simp; omega
     ·split
      ·simp only; omega
      ·simp only; omega
  ·omega
inductive Runs (f : Func) (lim : Nat) : RunZ → RunZ → Prop where
 | done (r : RunZ) (h : ¬ (r.state = 0 ∧ r.steps < lim)) : Runs f lim r r
 | step (r t : RunZ) (h : r.state = 0 ∧ r.steps < lim) (hr : Runs f lim (stepZ f r) t) : Runs f lim r t
structure OkS (f : Func) (nr k : Nat) (r : RunZ) : Prop where
 n : OkN f nr r
 steps : r.steps ≤ k
 trace : r.trace.length ≤ r.steps
 slots : r.slots = []
theorem OkS.step {f : Func} {nr k : Nat} (hp : OkP f nr) {r : RunZ} (h : OkS f nr k r) : OkS f nr (k + 1) (stepZ f r) := by
 obtain ⟨a1, a2, a3, a4⟩ := Jtiu f r
 have a5 := Jtiv f r
 have b1 := h.steps
 have b2 := h.trace
 exact ⟨h.n.step hp, by omega, by omega, by rw [a3]; exact h.slots⟩
theorem OkS.mono {f : Func} {nr k k' : Nat} {r : RunZ} (h : OkS f nr k r) (hk : k ≤ k') : OkS f nr k' r := ⟨h.n, Nat.le_trans h.steps hk, h.trace, h.slots⟩
theorem OkS.stepLt {f : Func} {nr lim : Nat} (hp : OkP f nr) {r : RunZ} (h : OkS f nr lim r) (hl : r.steps < lim) : OkS f nr lim (stepZ f r) := by
 have := (OkS.mk h.n (Nat.le_refl _) h.trace h.slots).step hp
 exact this.mono hl
theorem Runs.ex {f : Func} {nr lim : Nat} (hp : OkP f nr) : ∀ (m : Nat) (r : RunZ), lim - r.steps ≤ m → OkS f nr lim r → ∃ t, Runs f lim r t ∧ OkS f nr lim t := by
 intro m
 induction m with
 | zero => intro r hm h; exact ⟨r, .done r fun hc => by omega, h⟩
 | succ m ih =>
  intro r hm h
  by_cases hc : r.state = 0 ∧ r.steps < lim
  ·have h2 := h.stepLt hp hc.2
   by_cases h0 : (stepZ f r).state = 0
   ·obtain ⟨_, _, _, a4⟩ := Jtiu f r
    have a5 := a4 hc.1 h0 (h.n.pos hc.1)
    obtain ⟨t, t1, t2⟩ := ih (stepZ f r) (by omega) h2
    exact ⟨t, .step r t hc t1, t2⟩
   ·exact ⟨_, .step r _ hc (.done _ fun h => h0 h.1), h2⟩
  ·exact ⟨r, .done r hc, h⟩
theorem OkS.small {f : Func} {nr k : Nat} {r : RunZ} (h : OkS f nr k r) (hn : nr ≤ 10000) (hk : k ≤ 10000) : Small r := by
 have := h.steps
 have := h.trace
 have h3 := h.n.len
 refine ⟨by omega, by rw [h.slots]; decide, by omega, by omega⟩
def rB (r : RunZ) : Blk := .mem [AI r.state, AI r.block, AI r.at_, AI r.value, .d (intsD r.regs), .d (intsD r.slots), .d (intsD r.trace), AI r.steps]
section
set_option maxHeartbeats 1000000 in
theorem Jtg1 {P : Program} {p : Nums} (A : All P p) (f : Func) (args : List Int) (nr lim : Nat) (hp : OkP f nr) (hcl : ∀ b ∈ f.blocks, b.code.length ≤ 100) (hn : nr ≤ 10000) (hl : lim ≤ 1000) (h0 : (args.length : Int) ≤ f.regs) (h1 : f.regs ≤ 10000) (t : RunZ) (ht : Runs f lim (run0 f args) t) (hs : OkS f nr lim (run0 f args)) :
  Jt4n P p.ref09_Exec [f.av, .d (intsD args), AI lim] [] fun o _ => o = .ret t.av := by
 refine A.ref09_Exec.run rfl fun R hR => ?_
 have cs := Jtg3 A f args h0 h1
 have cst := fun r (h : OkS f nr lim r) => Jtg4 A f r (h.n.inB hp hcl) (h.small hn (by omega))
 obtain ⟨fR, hfR⟩ : ∃ x, x = f.blocks.map Block.row := ⟨_, rfl⟩
 have av : f.av = .agg [AI f.args, AI f.regs, .d (.sl fR)] := by rw [hfR]; rfl
 rw [av] at cs
 simp only [av] at cst
 rw [av]
 obtain ⟨r0, hr0⟩ : ∃ r, r = run0 f args := ⟨_, rfl⟩
 rw [← hr0] at cs ht hs
 obtain ⟨aR, haR⟩ : ∃ x, x = intsD args := ⟨_, rfl⟩
 rw [← haR] at cs ⊢
 simp only [RunZ.av] at cs cst hR
 (simp (maxSteps := 1000000) [Jtay])
 (refine Jt13 cs (by rfl) (by rfl) ?_)
 (simp (maxSteps := 1000000) [])
 refine Jtd (fun r : RunZ => ⟨[(7, .ptr 2 0), (3, .ptr 0 0), (6, .ptr 1 0), (2, AI lim)], [.mem [AI f.args, AI f.regs, .d (.sl fR)], .mem [AI 0, AI 0, AI 0, AI 0, .nils, .nils, .nils, AI 0], rB r]⟩)
  (fun r => Runs f lim r t ∧ OkS f nr lim r) (fun r => if r.state = 0 then lim - r.steps + 1 else 0) r0 ⟨ht, hs⟩ (by simp only [rB]; (exact wkA)) ?_
 rintro r ⟨q1, q2⟩ N hN
 simp only [rB] at hN ⊢
 (simp (maxSteps := 1000000) [])
 by_cases hc : r.state = 0 ∧ r.steps < lim
 ·obtain ⟨h2, h3⟩ := hc
  have h3i : (r.steps : Int) < (lim : Int) := by omega
  have hst := cst r q2
  have hq : Runs f lim (stepZ f r) t := by
   cases q1 with
   | done _ h => exact absurd ⟨h2, h3⟩ h
   | step _ _ h hr => exact hr
  have hk := q2.stepLt hp h3
  have hm : (if (stepZ f r).state = 0 then lim - (stepZ f r).steps + 1 else 0) < (if r.state = 0 then lim - r.steps + 1 else 0) := by
   rw [if_pos h2]
   split
   ·rename_i h0
    have := (Jtiu f r).2.2.2 h2 h0 (q2.n.pos h2)
    omega
   ·omega
  obtain ⟨s, hse⟩ : ∃ s, s = stepZ f r := ⟨_, rfl⟩
  rw [← hse] at hst hq hk hm
  rw [h2] at hst
  (simp (maxSteps := 1000000) [h2, h3, h3i])
  (refine Jt13 hst (by rfl) (by rfl) ?_)
  (simp (maxSteps := 1000000) [])
  exact hN _ s ⟨hq, hk⟩ (by (exact wkA)) hm
 ·have hrt : t = r := by
   cases q1 with
   | done _ h => rfl
   | step _ _ h hr => exact absurd h hc
  subst hrt
  by_cases h2 : t.state = 0
  ·have h3 : ¬ t.steps < lim := fun h => hc ⟨h2, h⟩
   have h3i : ¬ (t.steps : Int) < (lim : Int) := by omega
   (simp (maxSteps := 1000000) [h2, h3, h3i])
   (first | exact hR _ _ FrA | exact hR _ _ FnA | exact hR _ _ (Xf (hq := by simp [AV.erase, AV.unview, h2]; done)))
  ·(simp (maxSteps := 1000000) [h2])
   (first | exact hR _ _ FrA | exact hR _ _ FnA)
end
end Go.AE
set_option linter.unusedSectionVars false
set_option maxRecDepth 8000
namespace Go.AE
open Go
def setR (r : RunZ) (k : Nat) (v : Int) : RunZ := { r with regs := r.regs.set k v }
theorem Ag.start {f : Func} (ok : OkV f) {r : RunZ} (h0 : r.at_ = 0) {k : Nat} {v : Int} (hk : (k : Int) ∉ liveS f r.block) : Ag f r (setR r k v) := by
 refine ⟨rfl, rfl, rfl, rfl, rfl, rfl, by simp [setR], fun _ b hb x hx => ?_⟩
 rw [h0] at hx
 have hl := hx.entry hb
 obtain ⟨x0, x1⟩ := ok.regs _ _ hl
 have hne : k ≠ x.toNat := fun e => hk ((Jtdm ok).2 (by rw [show (k : Int) = x by omega]; exact hl))
 show gI r.regs x = gI (r.regs.set k v) x
 rw [gI_eq, gI_eq, List.getElem?_set_ne hne]
theorem Jt70 {l : List Int} {k : Nat} {v : Int} (h : k < l.length) : (Jth2 (l.map intRow)).take k ++ AI v :: (Jth2 (l.map intRow)).drop (k + 1) = Jth2 ((l.set k v).map intRow) := by
 have := Jtie (rows := l.map intRow) (e := 1) (k := k) (row := intRow v) (Jth9 fun _ => rfl) rfl (by simpa using h)
 rw [List.map_set, ← this]
 simp [spl, intRow, I]
section
set_option maxHeartbeats 4000000 in
theorem Jtbw {P : Program} {p : Nums} (A : All P p) (SI : SortIOk P p) (f : Func) (args : List Int) (fuel reg v : Int) (hfu : 0 ≤ fuel ∧ fuel < 256) (hre : 0 ≤ reg ∧ reg < 256) : Jt4n P p.law23_LivenessSound [f.av, .d (intsD args), AU fuel, AU reg, AI v] [] fun o _ => o = .ret (AB true) := by
 have cw := Jtbx A SI
 have cr := Jtg2 A f args 0
 obtain ⟨rt, hrt⟩ : ∃ b, b = (few f && decide (Jtg9 f = 0) && decide ((0 : Int) ≤ 400) && decide (args.length ≤ 100)) := ⟨_, rfl⟩
 rw [← hrt] at cr
 have hR1 : rt = true → few f = true ∧ Jtg9 f = 0 ∧ args.length ≤ 100 := fun h => by
  rw [h] at hrt
  have := hrt.symm
  simp only [Bool.and_eq_true, decide_eq_true_eq] at this
  exact ⟨this.1.1.1, this.1.1.2, this.2⟩
 obtain ⟨lim, hlim⟩ : ∃ n : Nat, fuel.tmod 40 = (n : Int) := ⟨(fuel.tmod 40).toNat, by rw [Int.tmod_eq_emod_of_nonneg hfu.1]; have := Int.emod_nonneg fuel (b := 40) (by omega); omega⟩
 have hlim2 : lim < 40 := by rw [Int.tmod_eq_emod_of_nonneg hfu.1] at hlim; have := Int.emod_lt_of_pos fuel (b := 40) (by omega); omega
 obtain ⟨fR, hfR⟩ : ∃ x, x = f.blocks.map Block.row := ⟨_, rfl⟩
 obtain ⟨n, hn⟩ : ∃ n, n = f.blocks.length := ⟨_, rfl⟩
 have lR : fR.length = n := by rw [hfR, hn]; simp
 have av : f.av = .agg [AI f.args, AI f.regs, .d (.sl fR)] := by rw [hfR]; rfl
 obtain ⟨aR, haR⟩ : ∃ x, x = args.map intRow := ⟨_, rfl⟩
 have hal : aR.length = args.length := by rw [haR]; simp
 have wf : IntKind.i64.wrap fuel = fuel := wrap_i64 (by omega) (by omega)
 have wr : IntKind.i64.wrap reg = reg := wrap_i64 (by omega) (by omega)
 have cr' := cr
 simp only [av, intsD, ← haR] at cr
 rw [av]
 simp only [intsD, ← haR]
 refine A.law23_LivenessSound.run rfl fun R hR => ?_
 (simp (maxSteps := 1000000) [Jta5, AU])
 (refine Jt13 cw (by rfl) (by rfl) ?_)
 (simp (maxSteps := 1000000) [])
 (refine Jt13 cr (by rfl) (by rfl) ?_)
 (simp (maxSteps := 1000000) [hal])
 ((first | refine Xc (fun h1 => ?_) (fun h1 => ?_) | refine Xo (fun h1 => ?_) (fun h1 => ?_)) <;> (try simp only [Xz, Xy] at h1))
 ·(simp (maxSteps := 1000000) [h1])
  (refine Jt13 cw (by rfl) (by rfl) ?_)
  (simp (maxSteps := 1000000) [])
  (first | exact hR _ _ FrA | exact hR _ _ FnA)
 have hrt1 : rt = true := by simpa using h1
 obtain ⟨hfew, hck, hargs⟩ := hR1 hrt1
 (simp (maxSteps := 1000000) [h1, hal])
 ((first | refine Xc (fun h2 => ?_) (fun h2 => ?_) | refine Xo (fun h2 => ?_) (fun h2 => ?_)) <;> (try simp only [Xz, Xy] at h2))
 ·(simp (maxSteps := 1000000) [h2])
  (refine Jt13 cw (by rfl) (by rfl) ?_)
  (simp (maxSteps := 1000000) [])
  (first | exact hR _ _ FrA | exact hR _ _ FnA)
 (simp (maxSteps := 1000000) [h2, hal])
 ((first | refine Xc (fun h3 => ?_) (fun h3 => ?_) | refine Xo (fun h3 => ?_) (fun h3 => ?_)) <;> (try simp only [Xz, Xy] at h3))
 ·(simp (maxSteps := 1000000) [h3])
  (refine Jt13 cw (by rfl) (by rfl) ?_)
  (simp (maxSteps := 1000000) [])
  (first | exact hR _ _ FrA | exact hR _ _ FnA)
 have h2' : (args.length : Int) = f.args := by simpa [hal] using h2
 have h3' : f.regs ≠ 0 := by simpa using h3
 obtain ⟨f1, f2, f3, f4⟩ := Jt8g.1 hfew
 obtain ⟨s1, s2, s3, s4⟩ := src_ok hck
 have okv := okV_of hfew hck
 obtain ⟨nr, hnr⟩ : ∃ m : Nat, f.regs = (m : Int) := ⟨f.regs.toNat, by omega⟩
 have hp : OkP f nr := ⟨by omega, fun b hb => by rw [← hnr]; exact s4 b hb⟩
 have hs0 : OkS f nr lim (run0 f args) := by
  refine ⟨⟨?_, fun _ => ⟨_, List.getElem?_eq_getElem (by show 0 < _; omega), Nat.zero_le _⟩⟩, Nat.zero_le _, Nat.le_refl _, rfl⟩
  simp only [run0, List.length_append, List.length_replicate]; omega
 obtain ⟨T, hT, hTs⟩ := Runs.ex hp _ _ (Nat.le_refl _) hs0
 have ce := Jtg1 A f args nr lim hp f3 (by omega) (by omega) (by omega) (by omega) T hT hs0
 have cst := fun k (hk : k ≤ 1000) r (h : OkS f nr k r) => Jtg4 A f r (h.n.inB hp f3) (h.small (by omega) (by omega))
 have ci := Jtco A SI f okv (by omega)
 have hh := hasS A SI f (by omega)
 obtain ⟨iR, hiR⟩ : ∃ x, x = (liveIn f).map fun x => [intsD x] := ⟨_, rfl⟩
 have lI : iR.length = n := by rw [hiR, hn]; simp [Jtch]
 have gI : ∀ (j : Nat), j < n → iR[j]? = some [intsD (liveS f j)] := fun j h => by rw [hiR, List.getElem?_map, Jtcg f (by omega)]; rfl
 simp only [listsD, ← hiR] at ci
 rw [av] at ce ci
 simp only [av] at cst
 simp only [intsD, ← haR] at ce
 simp only [RunZ.av] at ce cst
 (simp (maxSteps := 1000000) [h3, wf, hlim])
 (refine Jt13 ce (by rfl) (by rfl) ?_)
 (simp (maxSteps := 1000000) [])
 refine Jtd (fun z : Nat × RunZ => ⟨[(12, AI z.1), (11, .ptr 1 0), (10, AB false), (5, .ptr 0 0), (3, AU reg), (4, AI v)], [.mem [AI f.args, AI f.regs, .d (.sl fR)], rB z.2]⟩)
  (fun z => z.1 ≤ 101 ∧ OkS f nr (40 + z.1) z.2) (fun z => 101 - z.1) (0, T) ⟨Nat.zero_le _, hTs.mono (by omega)⟩ (by simp only [rB, AU]; (exact wkA)) ?_
 rintro ⟨i, r⟩ ⟨i1, i2⟩ N hN
 simp only at i1 i2 hN
 simp only [rB, AU] at hN ⊢
 (simp (maxSteps := 1000000) [])
 by_cases hc : i < 101 ∧ r.state = 0 ∧ r.at_ ≠ 0
 ·obtain ⟨c1, c2, c3⟩ := hc
  have hst := cst (40 + i) (by omega) r i2
  have hwi := Jtkg (k := i) (by omega)
  have hk := i2.step hp
  obtain ⟨s, hse⟩ : ∃ s, s = stepZ f r := ⟨_, rfl⟩
  rw [← hse] at hst hk
  rw [c2] at hst
  have c1i : (i : Int) < 101 := by omega
  have c3i : ((r.at_ : Int) == 0) = false := by simpa using c3
  (simp (maxSteps := 1000000) [c1, c1i, c2, c3, c3i])
  (refine Jt13 hst (by rfl) (by rfl) ?_)
  (simp (maxSteps := 1000000) [hwi])
  exact hN _ (i + 1, s) ⟨c1, hk⟩ (by simp only [rB]; (exact wkA)) (by simp only; omega)
 by_cases hz : r.state = 0 ∧ r.at_ = 0
 ·obtain ⟨z1, z2⟩ := hz
  have z2i : (r.at_ : Int) = 0 := by omega
  obtain ⟨b, hb, hat⟩ := i2.n.pos z1
  have hbl : r.block < n := by rw [hn]; exact (List.getElem?_eq_some_iff.1 hb).1
  have gi := gI r.block hbl
  obtain ⟨kk, hkk⟩ : ∃ k : Nat, reg.tmod f.regs = (k : Int) := ⟨(reg.tmod f.regs).toNat, by rw [Int.tmod_eq_emod_of_nonneg hre.1]; have := Int.emod_nonneg reg h3'; omega⟩
  have hkn : kk < nr := by rw [Int.tmod_eq_emod_of_nonneg hre.1] at hkk; have := Int.emod_lt_of_pos reg (b := f.regs) (by omega); omega
  have hhk := hh r.block kk
  have hst := Ag.start (v := v) okv z2 (k := kk)
  have hrl := i2.n.len
  have hrs := i2.slots
  have hrt := i2.trace
  have hrp := i2.steps
  have cc := Jtfy A r (fun h => by rw [h] at hrl; simp at hrl; omega) (by omega) (by rw [hrs]; decide) (by omega)
  have i2s : OkS f nr 141 (setR r kk v) := ⟨⟨by simpa [setR] using hrl, i2.n.pos⟩, by show r.steps ≤ _; omega, hrt, hrs⟩
  have i2r : OkS f nr 141 r := i2.mono (by omega)
  obtain ⟨st, bl, at_, va, re, sl, tr, ss⟩ := r
  simp only at z1 z2
  subst z1 z2
  simp only [RunZ.av, setR, rB, intsD] at *
  have hsr := Jt70 (l := re) (k := kk) (v := v) (by omega)
  obtain ⟨re2, hre2⟩ : ∃ x, x = re.set kk v := ⟨_, rfl⟩
  have hrl2 : re2.length = nr := by rw [hre2]; simpa using hrl
  rw [← hre2] at hsr i2s
  simp only [← hre2] at hst
  have l2 : (re2.map intRow).length = nr := by simpa using hrl2
  have r2 : ∀ r ∈ re2.map intRow, r.length = 1 := fun r hr => by obtain ⟨l, _, rfl⟩ := List.mem_map.1 hr; rfl
  have hlr : (Jth2 (re.map intRow)).length = nr := by rw [Jth4]; exact hrl
  have hkn2 : kk + 1 ≤ nr := hkn
  by_cases hi : (i : Int) < 101 <;> (simp (maxSteps := 1000000) [hi])
  all_goals
   (refine Jt13 ci (by rfl) (by rfl) ?_)
   have gi2 : iR[bl]'(by omega) = [D.sl (List.map intRow (liveS f bl))] := (List.getElem?_eq_some_iff.1 gi).2
   (simp (maxSteps := 1000000) [wr, hkk, h3', lI, lR, hbl, gi, gi2])
   (refine Jt13 hhk (by rfl) (by rfl) ?_)
   by_cases hq : (kk : Int) ∈ liveS f bl
   ·(simp (maxSteps := 1000000) [hq, lI, lR])
    (first | exact hR _ _ FrA | exact hR _ _ FnA)
   ·have hst := hst hq
    (simp (maxSteps := 1000000) [hq])
    refine Jt16 [] 4 cc (by decide) (by rfl) (by rfl) (by rfl) Jtgj (by rfl) (by rfl) ?_
    (simp (maxSteps := 1000000) [])
    rw [Je18]
    refine Jtf ⟨[(15, .ptr 2 0), (11, .ptr 1 0), (10, AB false), (5, .ptr 0 0)], [.mem [AI f.args, AI f.regs, .d (.sl fR)], .mem [AI 0, AI bl, AI 0, AI va, .d (.sl (re.map intRow)), .d (.sl (sl.map intRow)), .d (.sl (tr.map intRow)), AI ss], .mem [AI 0, AI bl, AI 0, AI va, .d (.sl (re2.map intRow)), .d (.sl (sl.map intRow)), .d (.sl (tr.map intRow)), AI ss]]⟩ (fun N2 hN2 => ?_) ?_
    ·clear hR
     (simp (maxSteps := 1000000) [hlr, hkn, hkn2, hrl, hsr])
     refine hN2 _ (.inr ⟨⟨[(15, .ptr 6 0), (11, .ptr 1 0), (10, AB false), (5, .ptr 0 0)], [.mem [AI f.args, AI f.regs, .d (.sl fR)], .mem [AI 0, AI bl, AI 0, AI va, .d (.sl (re.map intRow)), .d (.sl (sl.map intRow)), .d (.sl (tr.map intRow)), AI ss], .dead, .dead, .dead, .mem (Jth2 (re2.map intRow)), .mem [AI 0, AI bl, AI 0, AI va, .hsl 5 0 1 nr, .d (.sl (sl.map intRow)), .d (.sl (tr.map intRow)), AI ss]]⟩, 2, 6,
      ⟨[(15, .ptr 2 0), (11, .ptr 1 0), (10, AB false), (5, .ptr 0 0)], [.mem [AI f.args, AI f.regs, .d (.sl fR)], .mem [AI 0, AI bl, AI 0, AI va, .d (.sl (re.map intRow)), .d (.sl (sl.map intRow)), .d (.sl (tr.map intRow)), AI ss], .mem [AI 0, AI bl, AI 0, AI va, .hsl 5 0 1 nr, .d (.sl (sl.map intRow)), .d (.sl (tr.map intRow)), AI ss], .dead, .dead, .mem (Jth2 (re2.map intRow)), .dead]⟩, ?_,
      Mv.of rfl (Jtgi rfl (Jtgi rfl (Jtgi rfl (Jtgi rfl (Jtgi rfl (Jtgi (Jtgt _) (Jtgi rfl rfl))))))) rfl rfl (by omega) (by omega) (by omega), ?_⟩)
     ·refine Wk.of ?_ ?_ (by simp) <;> repeat' (first | exact Jt53 | (first | exact True.intro | exact ⟨_, rfl, Jtka rfl⟩ | exact ⟨_, rfl, Jtk8 rfl⟩ | exact ⟨_, rfl, .inl .nild⟩ | exact ⟨_, rfl, .inl .nile⟩ | exact ⟨_, rfl, Jtk9⟩ | exact Jtka rfl | exact Jtk8 rfl | exact .inl .nild | exact .inl .nile | exact Jtk9 | exact WkB.same rfl | exact Jt53 | exact Jt52 | exact .dead _ | exact .iter _ _ | exact .glob _ _ | refine Jt51 ?_ ?_ | refine And.intro ?_ ?_))
     ·refine Wk.of ?_ ?_ (by simp) <;> repeat' (first | exact Jt5d (b := 5) rfl (by simp) l2 r2 | (first | exact True.intro | exact ⟨_, rfl, Jtka rfl⟩ | exact ⟨_, rfl, Jtk8 rfl⟩ | exact ⟨_, rfl, .inl .nild⟩ | exact ⟨_, rfl, .inl .nile⟩ | exact ⟨_, rfl, Jtk9⟩ | exact Jtka rfl | exact Jtk8 rfl | exact .inl .nild | exact .inl .nile | exact Jtk9 | exact WkB.same rfl | exact Jt53 | exact Jt52 | exact .dead _ | exact .iter _ _ | exact .glob _ _ | refine Jt51 ?_ ?_ | refine And.intro ?_ ?_))
    (simp (maxSteps := 1000000) [])
    refine Jtd (fun z : Nat × RunZ × RunZ => ⟨[(16, AI z.1), (15, .ptr 2 0), (11, .ptr 1 0), (10, AB false), (5, .ptr 0 0)], [.mem [AI f.args, AI f.regs, .d (.sl fR)], .mem [AI z.2.1.state, AI z.2.1.block, AI z.2.1.at_, AI z.2.1.value, .d (.sl (z.2.1.regs.map intRow)), .d (.sl (z.2.1.slots.map intRow)), .d (.sl (z.2.1.trace.map intRow)), AI z.2.1.steps], .mem [AI z.2.2.state, AI z.2.2.block, AI z.2.2.at_, AI z.2.2.value, .d (.sl (z.2.2.regs.map intRow)), .d (.sl (z.2.2.slots.map intRow)), .d (.sl (z.2.2.trace.map intRow)), AI z.2.2.steps]]⟩)
     (fun z => z.1 ≤ 80 ∧ OkS f nr (141 + z.1) z.2.1 ∧ OkS f nr (141 + z.1) z.2.2 ∧ Ag f z.2.1 z.2.2) (fun z => 80 - z.1) (0, ⟨0, bl, 0, va, re, sl, tr, ss⟩, ⟨0, bl, 0, va, re2, sl, tr, ss⟩) ⟨Nat.zero_le _, i2r, i2s, hst⟩ (by (exact wkA)) ?_
    rintro ⟨j, r, s⟩ ⟨j1, j2, j3, j4⟩ M hM
    simp only at j1 j2 j3 j4 hM
    (simp (maxSteps := 1000000) [])
    by_cases hj : j < 80
    ·have hji : (j : Int) < 80 := by omega
     have k1 := cst (141 + j) (by omega) r j2
     have k2 := cst (141 + j) (by omega) s j3
     have n2 := j2.step hp
     have n3 := j3.step hp
     have n4 := j4.step hp j2.n
     have hwj := Jtkg (k := j) (by omega)
     obtain ⟨r', hr'⟩ : ∃ x, x = stepZ f r := ⟨_, rfl⟩
     obtain ⟨s', hs'⟩ : ∃ x, x = stepZ f s := ⟨_, rfl⟩
     rw [← hr'] at k1 n2 n4
     rw [← hs'] at k2 n3 n4
     (simp (maxSteps := 1000000) [hj, hji])
     (refine Jt13 k1 (by rfl) (by rfl) ?_)
     (simp (maxSteps := 1000000) [])
     (refine Jt13 k2 (by rfl) (by rfl) ?_)
     (simp (maxSteps := 1000000) [hwj])
     exact hM _ (j + 1, r', s') ⟨hj, n2, n3, n4⟩ (by (exact wkA)) (by simp only; omega)
    ·have hji : ¬ (j : Int) < 80 := by omega
     have e1 := j4.state.symm
     have e2 := j4.block.symm
     have e3 := j4.at_.symm
     have e4 := j4.value.symm
     have e5 := j4.steps.symm
     have e6 := j4.trace.symm
     have p1 := j2.steps
     have p2 := j2.trace
     have cv := Jtg5 A r.trace r.trace (by omega) (by omega)
     simp only [intsD, decide_true] at cv
     (simp (maxSteps := 1000000) [hj, hji, e1, e2, e3, e4, e5, e6])
     (refine Jt13 cv (by rfl) (by rfl) ?_)
     (simp (maxSteps := 1000000) [])
     (first | exact hR _ _ FrA | exact hR _ _ FnA)
 ·have hex : (i : Int) < 101 → r.state ≠ 0 := fun h h0 => by
   by_cases h4 : r.at_ = 0
   ·exact hz ⟨h0, h4⟩
   ·exact hc ⟨by omega, h0, h4⟩
  by_cases hst : r.state = 0
  ·have hi : ¬ (i : Int) < 101 := fun h => hex h hst
   have h4 : ((r.at_ : Int) == 0) = false := by simpa using fun h => hz ⟨hst, h⟩
   have h5 : r.at_ ≠ 0 := fun h => hz ⟨hst, h⟩
   (simp (maxSteps := 1000000) [hi, hst, h4, h5])
   (first | exact hR _ _ FrA | exact hR _ _ FnA)
  ·by_cases hi : (i : Int) < 101
   ·(simp (maxSteps := 1000000) [hi, hst])
    (first | exact hR _ _ FrA | exact hR _ _ FnA)
   ·(simp (maxSteps := 1000000) [hi, hst])
    (first | exact hR _ _ FrA | exact hR _ _ FnA)
end
end Go.AE
