/- A part of the proof: the evaluator over abstract values, its codes, the contracts of the functions. -/
import Derived.Test.YthplfnnnafglaaaB4
set_option linter.unusedVariables false
set_option linter.unusedSimpArgs false
/- Checking a block: an instruction (printed by gen_bc3.py). -/
set_option linter.unusedVariables false
namespace Go.AE
open Go
theorem instrC_over {V L : List Int} {most : Int} {s : CS} {n : Nat} {i : Instr} {m : Mach} {at_ : Int} (h : Room V L s (n + 3)) (hd : usesD i.op = true → i.d ∈ V ∧ regZ m.d ∈ L) : Room V L (instrC most s i m at_).1 n := by
  unfold instrC
  have h2 : Room V L (if usesA i.op = true then useC s i.a (regZ m.a) at_ else (s, none)).1 (n + 2) := by split <;> first | exact h.use _ _ _ | exact h.mono (by omega)
  generalize (if usesA i.op = true then useC s i.a (regZ m.a) at_ else (s, none)) = r at h2
  obtain ⟨s1, e⟩ := r
  cases e with
  | some e => rw [thenC_some]; exact h2.mono (by omega)
  | none =>
    rw [thenC_none]
    have h3 : Room V L (if usesB i.op = true then useC s1 i.b (regZ m.b) at_ else (s1, none)).1 (n + 1) := by split <;> first | exact h2.use _ _ _ | exact h2.mono (by omega)
    generalize (if usesB i.op = true then useC s1 i.b (regZ m.b) at_ else (s1, none)) = r at h3
    obtain ⟨s2, e⟩ := r
    cases e with
    | some e => rw [thenC_some]; exact h3.mono (by omega)
    | none =>
      rw [thenC_none]
      split
      · rename_i hu
        obtain ⟨k1, k2⟩ := hd hu
        exact h3.cost.become (h3.over.define k1 k2) _ _
      · exact h3.mono (by omega)
section
theorem blockcheck_checker_instr_calls {P : Program} {p : Nums} (A : All P p) (S : SortOk P p) {V L : List Int} (s : CS) (most : Int) (i : Instr) (m : Mach) (at_ : Int) (h : Room V L s 3) (hd : usesD i.op = true → i.d ∈ V ∧ regZ m.d ∈ L) :
    CallsTo P p.blockcheck_checker_instr [.ptr 0 0, i.av, m.av, AI at_] [ckB most s] fun o H' => o = outR p (instrC most s i m at_).2 ∧ H' = [ckB most (instrC most s i m at_).1] := by
  refine A.blockcheck_checker_instr.run rfl fun R hR => ?_
  have r1 := h.cost
  have r2 := r1.cost
  have l0 := h.len
  have l1 := r1.len
  have l2 := r2.len
  have t0 := h.steps
  have t1 := r1.steps
  have t2 := r2.steps
  have g2 := r2.cost
  have q0 := h.over.srt
  obtain ⟨s1, hs1⟩ : ∃ s1, s1 = costC s := ⟨_, rfl⟩
  obtain ⟨s2, hs2⟩ : ∃ s2, s2 = costC s1 := ⟨_, rfl⟩
  obtain ⟨s3, hs3⟩ : ∃ s3, s3 = costC s2 := ⟨_, rfl⟩
  have q1 : Srt s1.set := by rw [hs1]; exact q0
  have q2 : Srt s2.set := by rw [hs2]; exact q1
  rw [← hs1] at r1 r2 l1 l2 t1 t2 g2
  rw [← hs2] at r2 l2 t2 g2
  rw [← hs3] at g2
  (simp (config := { maxSteps := 1000000 }) [ic_blockcheck_checker_instr, Instr.av, Mach.av])
  (refine AWcall_det (opcode_Of_calls A i.op) (by rfl) (by rfl) ?_)
  (simp (config := { maxSteps := 1000000 }) [shape_A, shape_B, shape_D])
  have hspec : instrC most s i m at_ = instrC most s i m at_ := rfl
  conv at hspec => rhs; unfold instrC
  cases hA : usesA i.op <;> cases hB : usesB i.op <;> cases hD : usesD i.op <;> simp only [hA, hB, hD, if_true, if_false, Bool.false_eq_true, thenC_none] at hspec
  · (simp (config := { maxSteps := 1000000 }) [hA, hB, hD])
    exact hR _ _ (Fin_wk (.tup []) (.tup []) [ckB most s] rfl (by simp only [ckB]; (refine Wk.of ?_ ?_ (by simp) <;> repeat' (first | exact True.intro | exact ⟨_, rfl, wkt_same rfl⟩ | exact ⟨_, rfl, wkt_erase rfl⟩ | exact ⟨_, rfl, .inl .nild⟩ | exact ⟨_, rfl, .inl .nile⟩ | exact ⟨_, rfl, wkt_nils⟩ | exact wkt_same rfl | exact wkt_erase rfl | exact .inl .nild | exact .inl .nile | exact wkt_nils | exact WkB.same rfl | exact WkB_rows | exact WkB_nil | exact .dead _ | exact .iter _ _ | exact .glob _ _ | refine WkB_cons ?_ ?_ | refine And.intro ?_ ?_))) ⟨by rw [hspec]; rfl, by rw [hspec]⟩)
  · (simp (config := { maxSteps := 1000000 }) [hA, hB, hD])
    have hc := blockcheck_checker_cost_calls A s most (by omega) (by omega)
    rw [← hs1] at hc hspec
    have hV := hd hD
    have ho : Over V L (defP s.set i.d (regZ m.d)) := (h).over.define hV.1 hV.2
    have hl := Nat.lt_of_le_of_lt ho.len h.few
    have hset : s1.set = s.set := by rw [hs1]; rfl
    have hb := blockcheck_checker_become_calls A s1 most (defP s.set i.d (regZ m.d)) at_ hl (by have := (r1).lg; omega)
    have hdf : CallsTo P p.transfer_Define [.d (pairsD s1.set), AI i.d, AI (regZ m.d)] [] fun o _ => o = .ret (.d (pairsD (defP s.set i.d (regZ m.d)))) := by rw [hset]; exact transfer_Define_calls A S s.set i.d (regZ m.d) (by omega) q0
    obtain ⟨dl, hdl⟩ : ∃ dl, dl = defP s.set i.d (regZ m.d) := ⟨_, rfl⟩
    rw [← hdl] at hb hdf hspec
    obtain ⟨⟨s9, e9⟩, h9⟩ : ∃ r, r = becomeC most s1 dl at_ := ⟨_, rfl⟩
    rw [← h9] at hb hspec
    refine AWcall_loc [0] (x := .tup []) hc (by decide) (by rfl) (by rfl) (by rfl) (by rfl) (by rfl) (by rfl) ?_
    (simp (config := { maxSteps := 1000000 }) [])
    (refine AWcall_det (location_Reg_calls A m.d) (by rfl) (by rfl) ?_)
    (simp (config := { maxSteps := 1000000 }) [])
    (refine AWcall_det hdf (by rfl) (by rfl) ?_)
    (simp (config := { maxSteps := 1000000 }) [])
    cases e9 with
    | none =>
      refine AWcall_loc [0] (x := .tup []) hb (by decide) (by rfl) (by rfl) (by rfl) (by rfl) (by rfl) (by rfl) ?_
      (simp (config := { maxSteps := 1000000 }) [])
      exact hR _ _ (Fin_wk (.tup []) (.tup []) [ckB most s9] rfl (by simp only [ckB]; (refine Wk.of ?_ ?_ (by simp) <;> repeat' (first | exact True.intro | exact ⟨_, rfl, wkt_same rfl⟩ | exact ⟨_, rfl, wkt_erase rfl⟩ | exact ⟨_, rfl, .inl .nild⟩ | exact ⟨_, rfl, .inl .nile⟩ | exact ⟨_, rfl, wkt_nils⟩ | exact wkt_same rfl | exact wkt_erase rfl | exact .inl .nild | exact .inl .nile | exact wkt_nils | exact WkB.same rfl | exact WkB_rows | exact WkB_nil | exact .dead _ | exact .iter _ _ | exact .glob _ _ | refine WkB_cons ?_ ?_ | refine And.intro ?_ ?_))) ⟨by rw [hspec]; rfl, by rw [hspec]⟩)
    | some e =>
      refine AWcall_locp [0] (x := failV p e) hb (by decide) (by rfl) (by rfl) (by rfl) (by rfl) (by rfl) (by rfl) ?_
      (simp (config := { maxSteps := 1000000 }) [])
      exact hR _ _ (Fin_pan _ (failV p e) [ckB most s9] (by simp only [ckB, failV]; (refine Wk.of ?_ ?_ (by simp) <;> repeat' (first | exact True.intro | exact ⟨_, rfl, wkt_same rfl⟩ | exact ⟨_, rfl, wkt_erase rfl⟩ | exact ⟨_, rfl, .inl .nild⟩ | exact ⟨_, rfl, .inl .nile⟩ | exact ⟨_, rfl, wkt_nils⟩ | exact wkt_same rfl | exact wkt_erase rfl | exact .inl .nild | exact .inl .nile | exact wkt_nils | exact WkB.same rfl | exact WkB_rows | exact WkB_nil | exact .dead _ | exact .iter _ _ | exact .glob _ _ | refine WkB_cons ?_ ?_ | refine And.intro ?_ ?_))) ⟨by rw [hspec]; rfl, by rw [hspec]⟩)
  · (simp (config := { maxSteps := 1000000 }) [hA, hB, hD])
    have eB : (useC s i.b (regZ m.b) at_).1 = s1 := by rw [hs1]; rfl
    have huB := (blockcheck_checker_use_calls A s most i.b m.b at_ (by omega) (by omega) q0)
    rw [eB] at huB
    rcases hrB : (useC s i.b (regZ m.b) at_).2 with _ | e
    · rw [hrB] at huB
      rw [show useC s i.b (regZ m.b) at_ = (s1, none) from Prod.ext eB hrB, thenC_none] at hspec
      refine AWcall_loc [0] (x := .tup []) huB (by decide) (by rfl) (by rfl) (by rfl) (by rfl) (by rfl) (by rfl) ?_
      (simp (config := { maxSteps := 1000000 }) [hA, hB, hD])
      exact hR _ _ (Fin_wk (.tup []) (.tup []) [ckB most s1] rfl (by simp only [ckB]; (refine Wk.of ?_ ?_ (by simp) <;> repeat' (first | exact True.intro | exact ⟨_, rfl, wkt_same rfl⟩ | exact ⟨_, rfl, wkt_erase rfl⟩ | exact ⟨_, rfl, .inl .nild⟩ | exact ⟨_, rfl, .inl .nile⟩ | exact ⟨_, rfl, wkt_nils⟩ | exact wkt_same rfl | exact wkt_erase rfl | exact .inl .nild | exact .inl .nile | exact wkt_nils | exact WkB.same rfl | exact WkB_rows | exact WkB_nil | exact .dead _ | exact .iter _ _ | exact .glob _ _ | refine WkB_cons ?_ ?_ | refine And.intro ?_ ?_))) ⟨by rw [hspec]; rfl, by rw [hspec]⟩)
    · rw [hrB] at huB
      rw [show useC s i.b (regZ m.b) at_ = (s1, some e) from Prod.ext eB hrB, thenC_some] at hspec
      refine AWcall_locp [0] (x := failV p e) huB (by decide) (by rfl) (by rfl) (by rfl) (by rfl) (by rfl) (by rfl) ?_
      (simp (config := { maxSteps := 1000000 }) [])
      exact hR _ _ (Fin_pan _ (failV p e) [ckB most s1] (by simp only [ckB, failV]; (refine Wk.of ?_ ?_ (by simp) <;> repeat' (first | exact True.intro | exact ⟨_, rfl, wkt_same rfl⟩ | exact ⟨_, rfl, wkt_erase rfl⟩ | exact ⟨_, rfl, .inl .nild⟩ | exact ⟨_, rfl, .inl .nile⟩ | exact ⟨_, rfl, wkt_nils⟩ | exact wkt_same rfl | exact wkt_erase rfl | exact .inl .nild | exact .inl .nile | exact wkt_nils | exact WkB.same rfl | exact WkB_rows | exact WkB_nil | exact .dead _ | exact .iter _ _ | exact .glob _ _ | refine WkB_cons ?_ ?_ | refine And.intro ?_ ?_))) ⟨by rw [hspec]; rfl, by rw [hspec]⟩)
  · (simp (config := { maxSteps := 1000000 }) [hA, hB, hD])
    have eB : (useC s i.b (regZ m.b) at_).1 = s1 := by rw [hs1]; rfl
    have huB := (blockcheck_checker_use_calls A s most i.b m.b at_ (by omega) (by omega) q0)
    rw [eB] at huB
    rcases hrB : (useC s i.b (regZ m.b) at_).2 with _ | e
    · rw [hrB] at huB
      rw [show useC s i.b (regZ m.b) at_ = (s1, none) from Prod.ext eB hrB, thenC_none] at hspec
      refine AWcall_loc [0] (x := .tup []) huB (by decide) (by rfl) (by rfl) (by rfl) (by rfl) (by rfl) (by rfl) ?_
      (simp (config := { maxSteps := 1000000 }) [hA, hB, hD])
      have hc := blockcheck_checker_cost_calls A s1 most (by omega) (by omega)
      rw [← hs2] at hc hspec
      have hV := hd hD
      have ho : Over V L (defP s1.set i.d (regZ m.d)) := (r1).over.define hV.1 hV.2
      have hl := Nat.lt_of_le_of_lt ho.len h.few
      have hset : s2.set = s1.set := by rw [hs2]; rfl
      have hb := blockcheck_checker_become_calls A s2 most (defP s1.set i.d (regZ m.d)) at_ hl (by have := (r2).lg; omega)
      have hdf : CallsTo P p.transfer_Define [.d (pairsD s2.set), AI i.d, AI (regZ m.d)] [] fun o _ => o = .ret (.d (pairsD (defP s1.set i.d (regZ m.d)))) := by rw [hset]; exact transfer_Define_calls A S s1.set i.d (regZ m.d) (by omega) q1
      obtain ⟨dl, hdl⟩ : ∃ dl, dl = defP s1.set i.d (regZ m.d) := ⟨_, rfl⟩
      rw [← hdl] at hb hdf hspec
      obtain ⟨⟨s9, e9⟩, h9⟩ : ∃ r, r = becomeC most s2 dl at_ := ⟨_, rfl⟩
      rw [← h9] at hb hspec
      refine AWcall_loc [0] (x := .tup []) hc (by decide) (by rfl) (by rfl) (by rfl) (by rfl) (by rfl) (by rfl) ?_
      (simp (config := { maxSteps := 1000000 }) [])
      (refine AWcall_det (location_Reg_calls A m.d) (by rfl) (by rfl) ?_)
      (simp (config := { maxSteps := 1000000 }) [])
      (refine AWcall_det hdf (by rfl) (by rfl) ?_)
      (simp (config := { maxSteps := 1000000 }) [])
      cases e9 with
      | none =>
        refine AWcall_loc [0] (x := .tup []) hb (by decide) (by rfl) (by rfl) (by rfl) (by rfl) (by rfl) (by rfl) ?_
        (simp (config := { maxSteps := 1000000 }) [])
        exact hR _ _ (Fin_wk (.tup []) (.tup []) [ckB most s9] rfl (by simp only [ckB]; (refine Wk.of ?_ ?_ (by simp) <;> repeat' (first | exact True.intro | exact ⟨_, rfl, wkt_same rfl⟩ | exact ⟨_, rfl, wkt_erase rfl⟩ | exact ⟨_, rfl, .inl .nild⟩ | exact ⟨_, rfl, .inl .nile⟩ | exact ⟨_, rfl, wkt_nils⟩ | exact wkt_same rfl | exact wkt_erase rfl | exact .inl .nild | exact .inl .nile | exact wkt_nils | exact WkB.same rfl | exact WkB_rows | exact WkB_nil | exact .dead _ | exact .iter _ _ | exact .glob _ _ | refine WkB_cons ?_ ?_ | refine And.intro ?_ ?_))) ⟨by rw [hspec]; rfl, by rw [hspec]⟩)
      | some e =>
        refine AWcall_locp [0] (x := failV p e) hb (by decide) (by rfl) (by rfl) (by rfl) (by rfl) (by rfl) (by rfl) ?_
        (simp (config := { maxSteps := 1000000 }) [])
        exact hR _ _ (Fin_pan _ (failV p e) [ckB most s9] (by simp only [ckB, failV]; (refine Wk.of ?_ ?_ (by simp) <;> repeat' (first | exact True.intro | exact ⟨_, rfl, wkt_same rfl⟩ | exact ⟨_, rfl, wkt_erase rfl⟩ | exact ⟨_, rfl, .inl .nild⟩ | exact ⟨_, rfl, .inl .nile⟩ | exact ⟨_, rfl, wkt_nils⟩ | exact wkt_same rfl | exact wkt_erase rfl | exact .inl .nild | exact .inl .nile | exact wkt_nils | exact WkB.same rfl | exact WkB_rows | exact WkB_nil | exact .dead _ | exact .iter _ _ | exact .glob _ _ | refine WkB_cons ?_ ?_ | refine And.intro ?_ ?_))) ⟨by rw [hspec]; rfl, by rw [hspec]⟩)
    · rw [hrB] at huB
      rw [show useC s i.b (regZ m.b) at_ = (s1, some e) from Prod.ext eB hrB, thenC_some] at hspec
      refine AWcall_locp [0] (x := failV p e) huB (by decide) (by rfl) (by rfl) (by rfl) (by rfl) (by rfl) (by rfl) ?_
      (simp (config := { maxSteps := 1000000 }) [])
      exact hR _ _ (Fin_pan _ (failV p e) [ckB most s1] (by simp only [ckB, failV]; (refine Wk.of ?_ ?_ (by simp) <;> repeat' (first | exact True.intro | exact ⟨_, rfl, wkt_same rfl⟩ | exact ⟨_, rfl, wkt_erase rfl⟩ | exact ⟨_, rfl, .inl .nild⟩ | exact ⟨_, rfl, .inl .nile⟩ | exact ⟨_, rfl, wkt_nils⟩ | exact wkt_same rfl | exact wkt_erase rfl | exact .inl .nild | exact .inl .nile | exact wkt_nils | exact WkB.same rfl | exact WkB_rows | exact WkB_nil | exact .dead _ | exact .iter _ _ | exact .glob _ _ | refine WkB_cons ?_ ?_ | refine And.intro ?_ ?_))) ⟨by rw [hspec]; rfl, by rw [hspec]⟩)
  · (simp (config := { maxSteps := 1000000 }) [hA, hB, hD])
    have eA : (useC s i.a (regZ m.a) at_).1 = s1 := by rw [hs1]; rfl
    have huA := (blockcheck_checker_use_calls A s most i.a m.a at_ (by omega) (by omega) q0)
    rw [eA] at huA
    rcases hrA : (useC s i.a (regZ m.a) at_).2 with _ | e
    · rw [hrA] at huA
      rw [show useC s i.a (regZ m.a) at_ = (s1, none) from Prod.ext eA hrA, thenC_none] at hspec
      refine AWcall_loc [0] (x := .tup []) huA (by decide) (by rfl) (by rfl) (by rfl) (by rfl) (by rfl) (by rfl) ?_
      (simp (config := { maxSteps := 1000000 }) [hA, hB, hD])
      exact hR _ _ (Fin_wk (.tup []) (.tup []) [ckB most s1] rfl (by simp only [ckB]; (refine Wk.of ?_ ?_ (by simp) <;> repeat' (first | exact True.intro | exact ⟨_, rfl, wkt_same rfl⟩ | exact ⟨_, rfl, wkt_erase rfl⟩ | exact ⟨_, rfl, .inl .nild⟩ | exact ⟨_, rfl, .inl .nile⟩ | exact ⟨_, rfl, wkt_nils⟩ | exact wkt_same rfl | exact wkt_erase rfl | exact .inl .nild | exact .inl .nile | exact wkt_nils | exact WkB.same rfl | exact WkB_rows | exact WkB_nil | exact .dead _ | exact .iter _ _ | exact .glob _ _ | refine WkB_cons ?_ ?_ | refine And.intro ?_ ?_))) ⟨by rw [hspec]; rfl, by rw [hspec]⟩)
    · rw [hrA] at huA
      rw [show useC s i.a (regZ m.a) at_ = (s1, some e) from Prod.ext eA hrA, thenC_some] at hspec
      refine AWcall_locp [0] (x := failV p e) huA (by decide) (by rfl) (by rfl) (by rfl) (by rfl) (by rfl) (by rfl) ?_
      (simp (config := { maxSteps := 1000000 }) [])
      exact hR _ _ (Fin_pan _ (failV p e) [ckB most s1] (by simp only [ckB, failV]; (refine Wk.of ?_ ?_ (by simp) <;> repeat' (first | exact True.intro | exact ⟨_, rfl, wkt_same rfl⟩ | exact ⟨_, rfl, wkt_erase rfl⟩ | exact ⟨_, rfl, .inl .nild⟩ | exact ⟨_, rfl, .inl .nile⟩ | exact ⟨_, rfl, wkt_nils⟩ | exact wkt_same rfl | exact wkt_erase rfl | exact .inl .nild | exact .inl .nile | exact wkt_nils | exact WkB.same rfl | exact WkB_rows | exact WkB_nil | exact .dead _ | exact .iter _ _ | exact .glob _ _ | refine WkB_cons ?_ ?_ | refine And.intro ?_ ?_))) ⟨by rw [hspec]; rfl, by rw [hspec]⟩)
  · (simp (config := { maxSteps := 1000000 }) [hA, hB, hD])
    have eA : (useC s i.a (regZ m.a) at_).1 = s1 := by rw [hs1]; rfl
    have huA := (blockcheck_checker_use_calls A s most i.a m.a at_ (by omega) (by omega) q0)
    rw [eA] at huA
    rcases hrA : (useC s i.a (regZ m.a) at_).2 with _ | e
    · rw [hrA] at huA
      rw [show useC s i.a (regZ m.a) at_ = (s1, none) from Prod.ext eA hrA, thenC_none] at hspec
      refine AWcall_loc [0] (x := .tup []) huA (by decide) (by rfl) (by rfl) (by rfl) (by rfl) (by rfl) (by rfl) ?_
      (simp (config := { maxSteps := 1000000 }) [hA, hB, hD])
      have hc := blockcheck_checker_cost_calls A s1 most (by omega) (by omega)
      rw [← hs2] at hc hspec
      have hV := hd hD
      have ho : Over V L (defP s1.set i.d (regZ m.d)) := (r1).over.define hV.1 hV.2
      have hl := Nat.lt_of_le_of_lt ho.len h.few
      have hset : s2.set = s1.set := by rw [hs2]; rfl
      have hb := blockcheck_checker_become_calls A s2 most (defP s1.set i.d (regZ m.d)) at_ hl (by have := (r2).lg; omega)
      have hdf : CallsTo P p.transfer_Define [.d (pairsD s2.set), AI i.d, AI (regZ m.d)] [] fun o _ => o = .ret (.d (pairsD (defP s1.set i.d (regZ m.d)))) := by rw [hset]; exact transfer_Define_calls A S s1.set i.d (regZ m.d) (by omega) q1
      obtain ⟨dl, hdl⟩ : ∃ dl, dl = defP s1.set i.d (regZ m.d) := ⟨_, rfl⟩
      rw [← hdl] at hb hdf hspec
      obtain ⟨⟨s9, e9⟩, h9⟩ : ∃ r, r = becomeC most s2 dl at_ := ⟨_, rfl⟩
      rw [← h9] at hb hspec
      refine AWcall_loc [0] (x := .tup []) hc (by decide) (by rfl) (by rfl) (by rfl) (by rfl) (by rfl) (by rfl) ?_
      (simp (config := { maxSteps := 1000000 }) [])
      (refine AWcall_det (location_Reg_calls A m.d) (by rfl) (by rfl) ?_)
      (simp (config := { maxSteps := 1000000 }) [])
      (refine AWcall_det hdf (by rfl) (by rfl) ?_)
      (simp (config := { maxSteps := 1000000 }) [])
      cases e9 with
      | none =>
        refine AWcall_loc [0] (x := .tup []) hb (by decide) (by rfl) (by rfl) (by rfl) (by rfl) (by rfl) (by rfl) ?_
        (simp (config := { maxSteps := 1000000 }) [])
        exact hR _ _ (Fin_wk (.tup []) (.tup []) [ckB most s9] rfl (by simp only [ckB]; (refine Wk.of ?_ ?_ (by simp) <;> repeat' (first | exact True.intro | exact ⟨_, rfl, wkt_same rfl⟩ | exact ⟨_, rfl, wkt_erase rfl⟩ | exact ⟨_, rfl, .inl .nild⟩ | exact ⟨_, rfl, .inl .nile⟩ | exact ⟨_, rfl, wkt_nils⟩ | exact wkt_same rfl | exact wkt_erase rfl | exact .inl .nild | exact .inl .nile | exact wkt_nils | exact WkB.same rfl | exact WkB_rows | exact WkB_nil | exact .dead _ | exact .iter _ _ | exact .glob _ _ | refine WkB_cons ?_ ?_ | refine And.intro ?_ ?_))) ⟨by rw [hspec]; rfl, by rw [hspec]⟩)
      | some e =>
        refine AWcall_locp [0] (x := failV p e) hb (by decide) (by rfl) (by rfl) (by rfl) (by rfl) (by rfl) (by rfl) ?_
        (simp (config := { maxSteps := 1000000 }) [])
        exact hR _ _ (Fin_pan _ (failV p e) [ckB most s9] (by simp only [ckB, failV]; (refine Wk.of ?_ ?_ (by simp) <;> repeat' (first | exact True.intro | exact ⟨_, rfl, wkt_same rfl⟩ | exact ⟨_, rfl, wkt_erase rfl⟩ | exact ⟨_, rfl, .inl .nild⟩ | exact ⟨_, rfl, .inl .nile⟩ | exact ⟨_, rfl, wkt_nils⟩ | exact wkt_same rfl | exact wkt_erase rfl | exact .inl .nild | exact .inl .nile | exact wkt_nils | exact WkB.same rfl | exact WkB_rows | exact WkB_nil | exact .dead _ | exact .iter _ _ | exact .glob _ _ | refine WkB_cons ?_ ?_ | refine And.intro ?_ ?_))) ⟨by rw [hspec]; rfl, by rw [hspec]⟩)
    · rw [hrA] at huA
      rw [show useC s i.a (regZ m.a) at_ = (s1, some e) from Prod.ext eA hrA, thenC_some] at hspec
      refine AWcall_locp [0] (x := failV p e) huA (by decide) (by rfl) (by rfl) (by rfl) (by rfl) (by rfl) (by rfl) ?_
      (simp (config := { maxSteps := 1000000 }) [])
      exact hR _ _ (Fin_pan _ (failV p e) [ckB most s1] (by simp only [ckB, failV]; (refine Wk.of ?_ ?_ (by simp) <;> repeat' (first | exact True.intro | exact ⟨_, rfl, wkt_same rfl⟩ | exact ⟨_, rfl, wkt_erase rfl⟩ | exact ⟨_, rfl, .inl .nild⟩ | exact ⟨_, rfl, .inl .nile⟩ | exact ⟨_, rfl, wkt_nils⟩ | exact wkt_same rfl | exact wkt_erase rfl | exact .inl .nild | exact .inl .nile | exact wkt_nils | exact WkB.same rfl | exact WkB_rows | exact WkB_nil | exact .dead _ | exact .iter _ _ | exact .glob _ _ | refine WkB_cons ?_ ?_ | refine And.intro ?_ ?_))) ⟨by rw [hspec]; rfl, by rw [hspec]⟩)
  · (simp (config := { maxSteps := 1000000 }) [hA, hB, hD])
    have eA : (useC s i.a (regZ m.a) at_).1 = s1 := by rw [hs1]; rfl
    have huA := (blockcheck_checker_use_calls A s most i.a m.a at_ (by omega) (by omega) q0)
    rw [eA] at huA
    rcases hrA : (useC s i.a (regZ m.a) at_).2 with _ | e
    · rw [hrA] at huA
      rw [show useC s i.a (regZ m.a) at_ = (s1, none) from Prod.ext eA hrA, thenC_none] at hspec
      refine AWcall_loc [0] (x := .tup []) huA (by decide) (by rfl) (by rfl) (by rfl) (by rfl) (by rfl) (by rfl) ?_
      (simp (config := { maxSteps := 1000000 }) [hA, hB, hD])
      have eB : (useC s1 i.b (regZ m.b) at_).1 = s2 := by rw [hs2]; rfl
      have huB := (blockcheck_checker_use_calls A s1 most i.b m.b at_ (by omega) (by omega) q1)
      rw [eB] at huB
      rcases hrB : (useC s1 i.b (regZ m.b) at_).2 with _ | e
      · rw [hrB] at huB
        rw [show useC s1 i.b (regZ m.b) at_ = (s2, none) from Prod.ext eB hrB, thenC_none] at hspec
        refine AWcall_loc [0] (x := .tup []) huB (by decide) (by rfl) (by rfl) (by rfl) (by rfl) (by rfl) (by rfl) ?_
        (simp (config := { maxSteps := 1000000 }) [hA, hB, hD])
        exact hR _ _ (Fin_wk (.tup []) (.tup []) [ckB most s2] rfl (by simp only [ckB]; (refine Wk.of ?_ ?_ (by simp) <;> repeat' (first | exact True.intro | exact ⟨_, rfl, wkt_same rfl⟩ | exact ⟨_, rfl, wkt_erase rfl⟩ | exact ⟨_, rfl, .inl .nild⟩ | exact ⟨_, rfl, .inl .nile⟩ | exact ⟨_, rfl, wkt_nils⟩ | exact wkt_same rfl | exact wkt_erase rfl | exact .inl .nild | exact .inl .nile | exact wkt_nils | exact WkB.same rfl | exact WkB_rows | exact WkB_nil | exact .dead _ | exact .iter _ _ | exact .glob _ _ | refine WkB_cons ?_ ?_ | refine And.intro ?_ ?_))) ⟨by rw [hspec]; rfl, by rw [hspec]⟩)
      · rw [hrB] at huB
        rw [show useC s1 i.b (regZ m.b) at_ = (s2, some e) from Prod.ext eB hrB, thenC_some] at hspec
        refine AWcall_locp [0] (x := failV p e) huB (by decide) (by rfl) (by rfl) (by rfl) (by rfl) (by rfl) (by rfl) ?_
        (simp (config := { maxSteps := 1000000 }) [])
        exact hR _ _ (Fin_pan _ (failV p e) [ckB most s2] (by simp only [ckB, failV]; (refine Wk.of ?_ ?_ (by simp) <;> repeat' (first | exact True.intro | exact ⟨_, rfl, wkt_same rfl⟩ | exact ⟨_, rfl, wkt_erase rfl⟩ | exact ⟨_, rfl, .inl .nild⟩ | exact ⟨_, rfl, .inl .nile⟩ | exact ⟨_, rfl, wkt_nils⟩ | exact wkt_same rfl | exact wkt_erase rfl | exact .inl .nild | exact .inl .nile | exact wkt_nils | exact WkB.same rfl | exact WkB_rows | exact WkB_nil | exact .dead _ | exact .iter _ _ | exact .glob _ _ | refine WkB_cons ?_ ?_ | refine And.intro ?_ ?_))) ⟨by rw [hspec]; rfl, by rw [hspec]⟩)
    · rw [hrA] at huA
      rw [show useC s i.a (regZ m.a) at_ = (s1, some e) from Prod.ext eA hrA, thenC_some] at hspec
      refine AWcall_locp [0] (x := failV p e) huA (by decide) (by rfl) (by rfl) (by rfl) (by rfl) (by rfl) (by rfl) ?_
      (simp (config := { maxSteps := 1000000 }) [])
      exact hR _ _ (Fin_pan _ (failV p e) [ckB most s1] (by simp only [ckB, failV]; (refine Wk.of ?_ ?_ (by simp) <;> repeat' (first | exact True.intro | exact ⟨_, rfl, wkt_same rfl⟩ | exact ⟨_, rfl, wkt_erase rfl⟩ | exact ⟨_, rfl, .inl .nild⟩ | exact ⟨_, rfl, .inl .nile⟩ | exact ⟨_, rfl, wkt_nils⟩ | exact wkt_same rfl | exact wkt_erase rfl | exact .inl .nild | exact .inl .nile | exact wkt_nils | exact WkB.same rfl | exact WkB_rows | exact WkB_nil | exact .dead _ | exact .iter _ _ | exact .glob _ _ | refine WkB_cons ?_ ?_ | refine And.intro ?_ ?_))) ⟨by rw [hspec]; rfl, by rw [hspec]⟩)
  · (simp (config := { maxSteps := 1000000 }) [hA, hB, hD])
    have eA : (useC s i.a (regZ m.a) at_).1 = s1 := by rw [hs1]; rfl
    have huA := (blockcheck_checker_use_calls A s most i.a m.a at_ (by omega) (by omega) q0)
    rw [eA] at huA
    rcases hrA : (useC s i.a (regZ m.a) at_).2 with _ | e
    · rw [hrA] at huA
      rw [show useC s i.a (regZ m.a) at_ = (s1, none) from Prod.ext eA hrA, thenC_none] at hspec
      refine AWcall_loc [0] (x := .tup []) huA (by decide) (by rfl) (by rfl) (by rfl) (by rfl) (by rfl) (by rfl) ?_
      (simp (config := { maxSteps := 1000000 }) [hA, hB, hD])
      have eB : (useC s1 i.b (regZ m.b) at_).1 = s2 := by rw [hs2]; rfl
      have huB := (blockcheck_checker_use_calls A s1 most i.b m.b at_ (by omega) (by omega) q1)
      rw [eB] at huB
      rcases hrB : (useC s1 i.b (regZ m.b) at_).2 with _ | e
      · rw [hrB] at huB
        rw [show useC s1 i.b (regZ m.b) at_ = (s2, none) from Prod.ext eB hrB, thenC_none] at hspec
        refine AWcall_loc [0] (x := .tup []) huB (by decide) (by rfl) (by rfl) (by rfl) (by rfl) (by rfl) (by rfl) ?_
        (simp (config := { maxSteps := 1000000 }) [hA, hB, hD])
        have hc := blockcheck_checker_cost_calls A s2 most (by omega) (by omega)
        rw [← hs3] at hc hspec
        have hV := hd hD
        have ho : Over V L (defP s2.set i.d (regZ m.d)) := (r2).over.define hV.1 hV.2
        have hl := Nat.lt_of_le_of_lt ho.len h.few
        have hset : s3.set = s2.set := by rw [hs3]; rfl
        have hb := blockcheck_checker_become_calls A s3 most (defP s2.set i.d (regZ m.d)) at_ hl (by have := (g2).lg; omega)
        have hdf : CallsTo P p.transfer_Define [.d (pairsD s3.set), AI i.d, AI (regZ m.d)] [] fun o _ => o = .ret (.d (pairsD (defP s2.set i.d (regZ m.d)))) := by rw [hset]; exact transfer_Define_calls A S s2.set i.d (regZ m.d) (by omega) q2
        obtain ⟨dl, hdl⟩ : ∃ dl, dl = defP s2.set i.d (regZ m.d) := ⟨_, rfl⟩
        rw [← hdl] at hb hdf hspec
        obtain ⟨⟨s9, e9⟩, h9⟩ : ∃ r, r = becomeC most s3 dl at_ := ⟨_, rfl⟩
        rw [← h9] at hb hspec
        refine AWcall_loc [0] (x := .tup []) hc (by decide) (by rfl) (by rfl) (by rfl) (by rfl) (by rfl) (by rfl) ?_
        (simp (config := { maxSteps := 1000000 }) [])
        (refine AWcall_det (location_Reg_calls A m.d) (by rfl) (by rfl) ?_)
        (simp (config := { maxSteps := 1000000 }) [])
        (refine AWcall_det hdf (by rfl) (by rfl) ?_)
        (simp (config := { maxSteps := 1000000 }) [])
        cases e9 with
        | none =>
          refine AWcall_loc [0] (x := .tup []) hb (by decide) (by rfl) (by rfl) (by rfl) (by rfl) (by rfl) (by rfl) ?_
          (simp (config := { maxSteps := 1000000 }) [])
          exact hR _ _ (Fin_wk (.tup []) (.tup []) [ckB most s9] rfl (by simp only [ckB]; (refine Wk.of ?_ ?_ (by simp) <;> repeat' (first | exact True.intro | exact ⟨_, rfl, wkt_same rfl⟩ | exact ⟨_, rfl, wkt_erase rfl⟩ | exact ⟨_, rfl, .inl .nild⟩ | exact ⟨_, rfl, .inl .nile⟩ | exact ⟨_, rfl, wkt_nils⟩ | exact wkt_same rfl | exact wkt_erase rfl | exact .inl .nild | exact .inl .nile | exact wkt_nils | exact WkB.same rfl | exact WkB_rows | exact WkB_nil | exact .dead _ | exact .iter _ _ | exact .glob _ _ | refine WkB_cons ?_ ?_ | refine And.intro ?_ ?_))) ⟨by rw [hspec]; rfl, by rw [hspec]⟩)
        | some e =>
          refine AWcall_locp [0] (x := failV p e) hb (by decide) (by rfl) (by rfl) (by rfl) (by rfl) (by rfl) (by rfl) ?_
          (simp (config := { maxSteps := 1000000 }) [])
          exact hR _ _ (Fin_pan _ (failV p e) [ckB most s9] (by simp only [ckB, failV]; (refine Wk.of ?_ ?_ (by simp) <;> repeat' (first | exact True.intro | exact ⟨_, rfl, wkt_same rfl⟩ | exact ⟨_, rfl, wkt_erase rfl⟩ | exact ⟨_, rfl, .inl .nild⟩ | exact ⟨_, rfl, .inl .nile⟩ | exact ⟨_, rfl, wkt_nils⟩ | exact wkt_same rfl | exact wkt_erase rfl | exact .inl .nild | exact .inl .nile | exact wkt_nils | exact WkB.same rfl | exact WkB_rows | exact WkB_nil | exact .dead _ | exact .iter _ _ | exact .glob _ _ | refine WkB_cons ?_ ?_ | refine And.intro ?_ ?_))) ⟨by rw [hspec]; rfl, by rw [hspec]⟩)
      · rw [hrB] at huB
        rw [show useC s1 i.b (regZ m.b) at_ = (s2, some e) from Prod.ext eB hrB, thenC_some] at hspec
        refine AWcall_locp [0] (x := failV p e) huB (by decide) (by rfl) (by rfl) (by rfl) (by rfl) (by rfl) (by rfl) ?_
        (simp (config := { maxSteps := 1000000 }) [])
        exact hR _ _ (Fin_pan _ (failV p e) [ckB most s2] (by simp only [ckB, failV]; (refine Wk.of ?_ ?_ (by simp) <;> repeat' (first | exact True.intro | exact ⟨_, rfl, wkt_same rfl⟩ | exact ⟨_, rfl, wkt_erase rfl⟩ | exact ⟨_, rfl, .inl .nild⟩ | exact ⟨_, rfl, .inl .nile⟩ | exact ⟨_, rfl, wkt_nils⟩ | exact wkt_same rfl | exact wkt_erase rfl | exact .inl .nild | exact .inl .nile | exact wkt_nils | exact WkB.same rfl | exact WkB_rows | exact WkB_nil | exact .dead _ | exact .iter _ _ | exact .glob _ _ | refine WkB_cons ?_ ?_ | refine And.intro ?_ ?_))) ⟨by rw [hspec]; rfl, by rw [hspec]⟩)
    · rw [hrA] at huA
      rw [show useC s i.a (regZ m.a) at_ = (s1, some e) from Prod.ext eA hrA, thenC_some] at hspec
      refine AWcall_locp [0] (x := failV p e) huA (by decide) (by rfl) (by rfl) (by rfl) (by rfl) (by rfl) (by rfl) ?_
      (simp (config := { maxSteps := 1000000 }) [])
      exact hR _ _ (Fin_pan _ (failV p e) [ckB most s1] (by simp only [ckB, failV]; (refine Wk.of ?_ ?_ (by simp) <;> repeat' (first | exact True.intro | exact ⟨_, rfl, wkt_same rfl⟩ | exact ⟨_, rfl, wkt_erase rfl⟩ | exact ⟨_, rfl, .inl .nild⟩ | exact ⟨_, rfl, .inl .nile⟩ | exact ⟨_, rfl, wkt_nils⟩ | exact wkt_same rfl | exact wkt_erase rfl | exact .inl .nild | exact .inl .nile | exact wkt_nils | exact WkB.same rfl | exact WkB_rows | exact WkB_nil | exact .dead _ | exact .iter _ _ | exact .glob _ _ | refine WkB_cons ?_ ?_ | refine And.intro ?_ ?_))) ⟨by rw [hspec]; rfl, by rw [hspec]⟩)
end
end Go.AE

/- Checking a block: a row of the alignment. -/
set_option linter.unusedVariables false
namespace Go.AE
open Go
structure ARow where (cf ct mf mt : Nat) (src mach : Int)
def ARow.row (r : ARow) : List D := [I r.cf, I r.ct, I r.mf, I r.mt, I r.src, I r.mach]
def ARow.av (r : ARow) : AV := .agg [AI r.cf, AI r.ct, AI r.mf, AI r.mt, AI r.src, AI r.mach]
def copyC (most at_ : Int) : List Instr → CS → CR
  | [], s => (s, none)
  | i :: is, s => thenC (becomeC most (costC s) (copyP s.set i.d i.a) at_) (copyC most at_ is)
def moveC (most : Int) : Nat → List Mach → CS → CR
  | _, [], s => (s, none)
  | k, m :: ms, s => thenC (becomeC most (costC s) (moveP s.set m.dst m.src) k) (moveC most (k + 1) ms)
def lastC (most : Int) (b : List Instr) (m : List Mach) (r : ARow) (s : CS) : CR :=
  if 0 ≤ r.src then match b[r.src.toNat]?, m[r.mach.toNat]? with
    | some i, some x => instrC most s i x r.mach
    | _, _ => (s, none)
  else (s, none)
def rowC (most : Int) (b : List Instr) (m : List Mach) (r : ARow) (s : CS) : CR :=
  thenC (copyC most r.mf ((b.take r.ct).drop r.cf) s) fun s => thenC (moveC most r.mf ((m.take r.mt).drop r.mf) s) (lastC most b m r)
/-- The row speaks of what is there. -/
structure RowOk (b : List Instr) (m : List Mach) (r : ARow) : Prop where
  hc : r.cf ≤ r.ct ∧ r.ct ≤ b.length
  hm : r.mf ≤ r.mt ∧ r.mt ≤ m.length
  hs : 0 ≤ r.src → r.src < b.length ∧ 0 ≤ r.mach ∧ r.mach < m.length
structure VLOk (V L : List Int) (b : List Instr) (m : List Mach) : Prop where
  v : ∀ i ∈ b, i.d ∈ V
  l : ∀ x ∈ m, x.dst ∈ L ∧ regZ x.d ∈ L
theorem Room.copyStep {V L : List Int} {s : CS} {n : Nat} (h : Room V L s (n + 1)) {d a : Int} (hd : d ∈ V) (most at_ : Int) : Room V L (becomeC most (costC s) (copyP s.set d a) at_).1 n := h.cost.become (h.over.copy hd) _ _
theorem Room.moveStep {V L : List Int} {s : CS} {n : Nat} (h : Room V L s (n + 1)) {d a : Int} (hd : d ∈ L) (most at_ : Int) : Room V L (becomeC most (costC s) (moveP s.set d a) at_).1 n := h.cost.become (h.over.move hd) _ _
theorem copyC_room {V L : List Int} {most at_ : Int} : ∀ {l : List Instr} {s : CS} {n : Nat}, Room V L s (n + l.length) → (∀ i ∈ l, i.d ∈ V) → Room V L (copyC most at_ l s).1 n := by
  intro l
  induction l with
  | nil => intro s n h _; exact h
  | cons i l ih =>
    intro s n h hv
    have h1 := Room.copyStep (n := n + l.length) (by simpa [Nat.add_assoc] using h) (hv i (by simp)) most at_ (a := i.a)
    simp only [copyC]
    generalize becomeC most (costC s) (copyP s.set i.d i.a) at_ = r at h1
    obtain ⟨s1, e⟩ := r
    cases e with
    | some e => rw [thenC_some]; exact h1.mono (by omega)
    | none => rw [thenC_none]; exact ih h1 fun j hj => hv j (by simp [hj])
theorem moveC_room {V L : List Int} {most : Int} : ∀ {l : List Mach} {k : Nat} {s : CS} {n : Nat}, Room V L s (n + l.length) → (∀ x ∈ l, x.dst ∈ L) → Room V L (moveC most k l s).1 n := by
  intro l
  induction l with
  | nil => intro k s n h _; exact h
  | cons i l ih =>
    intro k s n h hv
    have h1 := Room.moveStep (n := n + l.length) (by simpa [Nat.add_assoc] using h) (hv i (by simp)) most k (a := i.src)
    simp only [moveC]
    generalize becomeC most (costC s) (moveP s.set i.dst i.src) k = r at h1
    obtain ⟨s1, e⟩ := r
    cases e with
    | some e => rw [thenC_some]; exact h1.mono (by omega)
    | none => rw [thenC_none]; exact ih h1 fun j hj => hv j (by simp [hj])
theorem lastC_room {V L : List Int} {most : Int} {b : List Instr} {m : List Mach} {r : ARow} {s : CS} {n : Nat} (h : Room V L s (n + 3)) (hv : VLOk V L b m) : Room V L (lastC most b m r s).1 n := by
  unfold lastC
  split
  · split
    · rename_i i x h1 h2
      exact instrC_over h fun _ => ⟨hv.v i (List.mem_of_getElem? h1), (hv.l x (List.mem_of_getElem? h2)).2⟩
    · exact h.mono (by omega)
  · exact h.mono (by omega)
theorem rowC_room {V L : List Int} {most : Int} {b : List Instr} {m : List Mach} {r : ARow} {s : CS} {n : Nat} (h : Room V L s (n + 3 + ((m.take r.mt).drop r.mf).length + ((b.take r.ct).drop r.cf).length)) (hv : VLOk V L b m) : Room V L (rowC most b m r s).1 n := by
  unfold rowC
  have h1 := copyC_room (most := most) (at_ := r.mf) h fun i hi => hv.v i (List.mem_of_mem_take (List.mem_of_mem_drop hi))
  generalize copyC most r.mf ((b.take r.ct).drop r.cf) s = q at h1
  obtain ⟨s1, e⟩ := q
  cases e with
  | some e => rw [thenC_some]; exact h1.mono (by omega)
  | none =>
    rw [thenC_none]
    have h2 := moveC_room (most := most) (k := r.mf) h1 fun i hi => (hv.l i (List.mem_of_mem_take (List.mem_of_mem_drop hi))).1
    generalize moveC most r.mf ((m.take r.mt).drop r.mf) s1 = q at h2
    obtain ⟨s2, e⟩ := q
    cases e with
    | some e => rw [thenC_some]; exact h2.mono (by omega)
    | none => rw [thenC_none]; exact lastC_room h2 hv
end Go.AE

/- Checking a block: a row of the alignment, shown of the code. -/
set_option linter.unusedVariables false
namespace Go.AE
open Go
theorem irow_len (i : Instr) : i.row.length = 5 := rfl
theorem mrow_len (i : Mach) : i.row.length = 7 := rfl
theorem drop_get {α : Type} {l : List α} {j : Nat} (h : j < l.length) : l.drop j = l[j] :: l.drop (j + 1) := List.drop_eq_getElem_cons h
section
theorem blockcheck_checker_row_calls {P : Program} {p : Nums} (A : All P p) (S : SortOk P p) (C : ClosOk P p) {V L : List Int} (s : CS) (most : Int) (b : Block) (m : MBlock) (r : ARow) {n1 n2 : Nat} (hn1 : n1 = r.ct - r.cf) (hn2 : n2 = r.mt - r.mf) (h : Room V L s (3 + n2 + n1)) (hv : VLOk V L b.code m.code) (hr : RowOk b.code m.code r)
    (hb0 : b.code.length < 1000000) (hm0 : m.code.length < 1000000) :
    CallsTo P p.blockcheck_checker_row [.ptr 0 0, b.av, m.av, r.av] [ckB most s] fun o H' => o = outR p (rowC most b.code m.code r s).2 ∧ H' = [ckB most (rowC most b.code m.code r s).1] := by
  refine A.blockcheck_checker_row.run rfl fun R hR => ?_
  obtain ⟨code, kind, ta, to, els⟩ := b
  obtain ⟨mcode, mkind, mta, mto, mels⟩ := m
  obtain ⟨cf, ct, mf, mt, src, mach⟩ := r
  obtain ⟨⟨hc1, hc2⟩, ⟨hm1, hm2⟩, hsr⟩ := hr
  simp only at hc1 hc2 hm1 hm2 hsr hn1 hn2 hb0 hm0 hv
  obtain ⟨sub, hsub⟩ : ∃ l, l = (code.take ct).drop cf := ⟨_, rfl⟩
  obtain ⟨msub, hmsub⟩ : ∃ l, l = (mcode.take mt).drop mf := ⟨_, rfl⟩
  have hsl : sub.length = n1 := by rw [hsub, hn1]; simp; omega
  have hml : msub.length = n2 := by rw [hmsub, hn2]; simp; omega
  have hsv : ∀ i ∈ sub, i.d ∈ V := fun i hi => hv.v i (by rw [hsub] at hi; exact List.mem_of_mem_take (List.mem_of_mem_drop hi))
  have hml' : ∀ x ∈ msub, x.dst ∈ L := fun x hx => (hv.l x (by rw [hmsub] at hx; exact List.mem_of_mem_take (List.mem_of_mem_drop hx))).1
  have hspec : rowC most code mcode ⟨cf, ct, mf, mt, src, mach⟩ s = thenC (copyC most mf sub s) fun s => thenC (moveC most mf msub s) (lastC most code mcode ⟨cf, ct, mf, mt, src, mach⟩) := by rw [hsub, hmsub]; rfl
  obtain ⟨bB, hbB⟩ : ∃ x, x = Blk.mem [.d (.sl (code.map Instr.row)), AI kind, AI ta, AI to, AI els] := ⟨_, rfl⟩
  have i1 : (cf : Int) ≤ (ct : Int) := by omega
  have i2 : (ct : Int) ≤ (code.length : Int) := by omega
  have hrows : ((code.map Instr.row).take ct).drop cf = sub.map Instr.row := by rw [hsub, List.map_drop, List.map_take]
  obtain ⟨T1, hT1⟩ : ∃ T, T = copyC most mf sub s := ⟨_, rfl⟩
  rw [← hT1] at hspec
  (simp (config := { maxSteps := 1000000 }) [ic_blockcheck_checker_row, Block.av, MBlock.av, ARow.av, i1, i2, hrows, irow_len])
  refine AW_loop (fun x : Nat × CS => ⟨[(19, AI x.1), (18, AI sub.length), (17, .d (.sl (sub.map Instr.row))), (7, .ptr 3 0), (6, .ptr 2 0), (5, .ptr 1 0), (0, .ptr 0 0)],
    [ckB most x.2, .mem [.d (.sl (code.map Instr.row)), AI kind, AI ta, AI to, AI els], .mem [.d (.sl (mcode.map Mach.row)), AI mkind, AI mta, AI mto, AI mels], .mem [AI cf, AI ct, AI mf, AI mt, AI src, AI mach]]⟩)
    (fun x => x.1 ≤ sub.length ∧ copyC most mf (sub.drop x.1) x.2 = T1 ∧ Room V L x.2 (3 + n2 + (n1 - x.1))) (fun x => sub.length - x.1) (0, s) (by simp [hT1]; exact h) (by simp only [ckB]; (refine Wk.of ?_ ?_ (by simp) <;> repeat' (first | exact True.intro | exact ⟨_, rfl, wkt_same rfl⟩ | exact ⟨_, rfl, wkt_erase rfl⟩ | exact ⟨_, rfl, .inl .nild⟩ | exact ⟨_, rfl, .inl .nile⟩ | exact ⟨_, rfl, wkt_nils⟩ | exact wkt_same rfl | exact wkt_erase rfl | exact .inl .nild | exact .inl .nile | exact wkt_nils | exact WkB.same rfl | exact WkB_rows | exact WkB_nil | exact .dead _ | exact .iter _ _ | exact .glob _ _ | refine WkB_cons ?_ ?_ | refine And.intro ?_ ?_))) ?_
  rintro ⟨j, t⟩ ⟨hj, hT, hR1⟩ N hN
  simp only at hj hT hR1
  (simp (config := { maxSteps := 1000000 }) [])
  ((first | refine AW_cond_split _ (by rfl) (fun h2 => ?_) (fun h2 => ?_) | refine AWop_split _ (by rfl) (fun h2 => ?_) (fun h2 => ?_)) <;> (try simp only [decide_eq_true_eq, decide_eq_false_iff_not, Bool.not_eq_true', Bool.not_eq_false', Bool.and_eq_true, Bool.or_eq_true, beq_iff_eq, bne_iff_ne, ne_eq, beq_eq_false_iff_ne, bne_eq_false_iff_eq] at h2))
  · have hjl : j < sub.length := by simpa using h2
    have hji : sub[j]? = some sub[j] := by simp [hjl]
    have hw := wrap_succ (k := j) (by omega)
    rw [drop_get hjl] at hT
    simp only [copyC] at hT
    obtain ⟨t1, ht1⟩ : ∃ t1, t1 = costC t := ⟨_, rfl⟩
    have hxv : sub[j].d ∈ V := hsv _ (List.getElem_mem hjl)
    rw [← ht1] at hT
    have e0 : n1 - j = (n1 - (j + 1)) + 1 := by omega
    rw [e0, ← Nat.add_assoc] at hR1
    have hR2 := hR1.copyStep hxv most mf (a := sub[j].a)
    have hl0 := hR1.len
    have hst := hR1.steps
    have hlg := hR1.lg
    have hcost := blockcheck_checker_cost_calls A t most hl0 (by omega)
    have hol := Nat.lt_of_le_of_lt (hR1.over.copy hxv (a := sub[j].a)).len hR1.few
    have hset : t1.set = t.set := by rw [ht1]; rfl
    have hlg1 : t1.largest = t.largest := by rw [ht1]; rfl
    rw [← ht1] at hcost hR2
    have hcp : CallsTo P p.transfer_Copy [.d (pairsD t1.set), AI sub[j].d, AI sub[j].a] [] fun o _ => o = .ret (.d (pairsD (copyP t.set sub[j].d sub[j].a))) := by rw [hset]; exact transfer_Copy_calls A S C t.set sub[j].d sub[j].a hl0
    obtain ⟨cl, hcl⟩ : ∃ cl, cl = copyP t.set sub[j].d sub[j].a := ⟨_, rfl⟩
    rw [← hcl] at hT hR2 hcp hol
    have hbec := blockcheck_checker_become_calls A t1 most cl mf hol (by omega)
    obtain ⟨⟨t2, e2⟩, h2r⟩ : ∃ r, r = becomeC most t1 cl mf := ⟨_, rfl⟩
    rw [← h2r] at hbec hT hR2
    (simp (config := { maxSteps := 1000000 }) [h2, List.getElem?_map, hji, Instr.row, hw])
    refine AWcall_loc [0] (x := .tup []) hcost (by decide) (by rfl) (by rfl) (by rfl) (by rfl) (by rfl) (by rfl) ?_
    (simp (config := { maxSteps := 1000000 }) [ckB])
    (refine AWcall_det hcp (by rfl) (by rfl) ?_)
    (simp (config := { maxSteps := 1000000 }) [])
    cases e2 with
    | none =>
      rw [thenC_none] at hT
      refine AWcall_loc [0] (x := .tup []) hbec (by decide) (by rfl) (by rfl) (by rfl) (by rfl) (by rfl) (by rfl) ?_
      (simp (config := { maxSteps := 1000000 }) [ckB, hw])
      exact hN _ (j + 1, t2) ⟨hjl, hT, hR2⟩ (by simp only [ckB]; (refine Wk.of ?_ ?_ (by simp) <;> repeat' (first | exact True.intro | exact ⟨_, rfl, wkt_same rfl⟩ | exact ⟨_, rfl, wkt_erase rfl⟩ | exact ⟨_, rfl, .inl .nild⟩ | exact ⟨_, rfl, .inl .nile⟩ | exact ⟨_, rfl, wkt_nils⟩ | exact wkt_same rfl | exact wkt_erase rfl | exact .inl .nild | exact .inl .nile | exact wkt_nils | exact WkB.same rfl | exact WkB_rows | exact WkB_nil | exact .dead _ | exact .iter _ _ | exact .glob _ _ | refine WkB_cons ?_ ?_ | refine And.intro ?_ ?_))) (by simp only; omega)
    | some e =>
      rw [thenC_some] at hT
      refine AWcall_locp [0] (x := failV p e) hbec (by decide) (by rfl) (by rfl) (by rfl) (by rfl) (by rfl) (by rfl) ?_
      (simp (config := { maxSteps := 1000000 }) [ckB])
      rw [← hT, thenC_some] at hspec
      exact hR _ _ (Fin_pan _ (failV p e) [ckB most t2] (by simp only [ckB, failV]; (refine Wk.of ?_ ?_ (by simp) <;> repeat' (first | exact True.intro | exact ⟨_, rfl, wkt_same rfl⟩ | exact ⟨_, rfl, wkt_erase rfl⟩ | exact ⟨_, rfl, .inl .nild⟩ | exact ⟨_, rfl, .inl .nile⟩ | exact ⟨_, rfl, wkt_nils⟩ | exact wkt_same rfl | exact wkt_erase rfl | exact .inl .nild | exact .inl .nile | exact wkt_nils | exact WkB.same rfl | exact WkB_rows | exact WkB_nil | exact .dead _ | exact .iter _ _ | exact .glob _ _ | refine WkB_cons ?_ ?_ | refine And.intro ?_ ?_))) ⟨by rw [hspec]; rfl, by rw [hspec]⟩)
  · have hjl : j = sub.length := by simp at h2; omega
    subst hjl
    have hT' : T1 = (t, none) := by rw [← hT, List.drop_length]; rfl
    rw [hT', thenC_none] at hspec
    have e0 : n1 - sub.length = 0 := by omega
    rw [e0, Nat.add_zero] at hR1
    obtain ⟨T2, hT2⟩ : ∃ T, T = moveC most mf msub t := ⟨_, rfl⟩
    rw [← hT2] at hspec
    (simp (config := { maxSteps := 1000000 }) [])
    refine AW_loop (fun x : Nat × CS => ⟨[(10, AI x.1), (7, .ptr 3 0), (6, .ptr 2 0), (5, .ptr 1 0), (0, .ptr 0 0)],
      [ckB most x.2, .mem [.d (.sl (code.map Instr.row)), AI kind, AI ta, AI to, AI els], .mem [.d (.sl (mcode.map Mach.row)), AI mkind, AI mta, AI mto, AI mels], .mem [AI cf, AI ct, AI mf, AI mt, AI src, AI mach]]⟩)
      (fun x => mf ≤ x.1 ∧ x.1 ≤ mt ∧ moveC most x.1 (msub.drop (x.1 - mf)) x.2 = T2 ∧ Room V L x.2 (3 + (mt - x.1))) (fun x => mt - x.1) (mf, t) (by simp [hT2]; exact ⟨hm1, by rw [← hn2]; exact hR1⟩) (by simp only [ckB]; (refine Wk.of ?_ ?_ (by simp) <;> repeat' (first | exact True.intro | exact ⟨_, rfl, wkt_same rfl⟩ | exact ⟨_, rfl, wkt_erase rfl⟩ | exact ⟨_, rfl, .inl .nild⟩ | exact ⟨_, rfl, .inl .nile⟩ | exact ⟨_, rfl, wkt_nils⟩ | exact wkt_same rfl | exact wkt_erase rfl | exact .inl .nild | exact .inl .nile | exact wkt_nils | exact WkB.same rfl | exact WkB_rows | exact WkB_nil | exact .dead _ | exact .iter _ _ | exact .glob _ _ | refine WkB_cons ?_ ?_ | refine And.intro ?_ ?_))) ?_
    rintro ⟨k, u⟩ ⟨hk0, hk1, hTm, hR2⟩ N hN
    simp only at hk0 hk1 hTm hR2
    (simp (config := { maxSteps := 1000000 }) [])
    ((first | refine AW_cond_split _ (by rfl) (fun h3 => ?_) (fun h3 => ?_) | refine AWop_split _ (by rfl) (fun h3 => ?_) (fun h3 => ?_)) <;> (try simp only [decide_eq_true_eq, decide_eq_false_iff_not, Bool.not_eq_true', Bool.not_eq_false', Bool.and_eq_true, Bool.or_eq_true, beq_iff_eq, bne_iff_ne, ne_eq, beq_eq_false_iff_ne, bne_eq_false_iff_eq] at h3))
    · have hkl : k < mt := by simpa using h3
      have hkm : k < mcode.length := by omega
      have hjl : k - mf < msub.length := by omega
      have hmj : msub[k - mf] = mcode[k] := by simp [hmsub]; congr 1; omega
      have hw := wrap_succ (k := k) (by omega)
      have hmi : mcode[k]? = some mcode[k] := by simp [hkm]
      rw [drop_get hjl, hmj] at hTm
      simp only [moveC] at hTm
      have e1 : k - mf + 1 = k + 1 - mf := by omega
      rw [e1] at hTm
      obtain ⟨t1, ht1⟩ : ∃ t1, t1 = costC u := ⟨_, rfl⟩
      have hxv : mcode[k].dst ∈ L := (hv.l _ (List.getElem_mem hkm)).1
      rw [← ht1] at hTm
      have e0 : mt - k = (mt - (k + 1)) + 1 := by omega
      rw [e0, ← Nat.add_assoc] at hR2
      have hR3 := hR2.moveStep hxv most k (a := mcode[k].src)
      have hl0 := hR2.len
      have hst := hR2.steps
      have hlg := hR2.lg
      have hcost := blockcheck_checker_cost_calls A u most hl0 (by omega)
      have hol := Nat.lt_of_le_of_lt (hR2.over.move hxv (a := mcode[k].src)).len hR2.few
      have hset : t1.set = u.set := by rw [ht1]; rfl
      have hlg1 : t1.largest = u.largest := by rw [ht1]; rfl
      rw [← ht1] at hcost hR3
      have hcp : CallsTo P p.transfer_Move [.d (pairsD t1.set), AI mcode[k].dst, AI mcode[k].src] [] fun o _ => o = .ret (.d (pairsD (moveP u.set mcode[k].dst mcode[k].src))) := by rw [hset]; exact transfer_Move_calls A S C u.set mcode[k].dst mcode[k].src hl0
      obtain ⟨cl, hcl⟩ : ∃ cl, cl = moveP u.set mcode[k].dst mcode[k].src := ⟨_, rfl⟩
      rw [← hcl] at hTm hR3 hcp hol
      have hbec := blockcheck_checker_become_calls A t1 most cl k hol (by omega)
      obtain ⟨⟨t2, e2⟩, h2r⟩ : ∃ r, r = becomeC most t1 cl k := ⟨_, rfl⟩
      rw [← h2r] at hbec hTm hR3
      (simp (config := { maxSteps := 1000000 }) [h3, List.getElem?_map, hmi, Mach.row, hw])
      refine AWcall_loc [0] (x := .tup []) hcost (by decide) (by rfl) (by rfl) (by rfl) (by rfl) (by rfl) (by rfl) ?_
      (simp (config := { maxSteps := 1000000 }) [ckB, List.getElem?_map, hmi, Mach.row])
      (refine AWcall_det hcp (by rfl) (by rfl) ?_)
      (simp (config := { maxSteps := 1000000 }) [])
      cases e2 with
      | none =>
        rw [thenC_none] at hTm
        refine AWcall_loc [0] (x := .tup []) hbec (by decide) (by rfl) (by rfl) (by rfl) (by rfl) (by rfl) (by rfl) ?_
        (simp (config := { maxSteps := 1000000 }) [ckB, hw])
        exact hN _ (k + 1, t2) ⟨by simp only; omega, hkl, hTm, hR3⟩ (by simp only [ckB]; (refine Wk.of ?_ ?_ (by simp) <;> repeat' (first | exact True.intro | exact ⟨_, rfl, wkt_same rfl⟩ | exact ⟨_, rfl, wkt_erase rfl⟩ | exact ⟨_, rfl, .inl .nild⟩ | exact ⟨_, rfl, .inl .nile⟩ | exact ⟨_, rfl, wkt_nils⟩ | exact wkt_same rfl | exact wkt_erase rfl | exact .inl .nild | exact .inl .nile | exact wkt_nils | exact WkB.same rfl | exact WkB_rows | exact WkB_nil | exact .dead _ | exact .iter _ _ | exact .glob _ _ | refine WkB_cons ?_ ?_ | refine And.intro ?_ ?_))) (by simp only; omega)
      | some e =>
        rw [thenC_some] at hTm
        refine AWcall_locp [0] (x := failV p e) hbec (by decide) (by rfl) (by rfl) (by rfl) (by rfl) (by rfl) (by rfl) ?_
        (simp (config := { maxSteps := 1000000 }) [ckB])
        rw [← hTm, thenC_some] at hspec
        exact hR _ _ (Fin_pan _ (failV p e) [ckB most t2] (by simp only [ckB, failV]; (refine Wk.of ?_ ?_ (by simp) <;> repeat' (first | exact True.intro | exact ⟨_, rfl, wkt_same rfl⟩ | exact ⟨_, rfl, wkt_erase rfl⟩ | exact ⟨_, rfl, .inl .nild⟩ | exact ⟨_, rfl, .inl .nile⟩ | exact ⟨_, rfl, wkt_nils⟩ | exact wkt_same rfl | exact wkt_erase rfl | exact .inl .nild | exact .inl .nile | exact wkt_nils | exact WkB.same rfl | exact WkB_rows | exact WkB_nil | exact .dead _ | exact .iter _ _ | exact .glob _ _ | refine WkB_cons ?_ ?_ | refine And.intro ?_ ?_))) ⟨by rw [hspec]; rfl, by rw [hspec]⟩)
    · have hkl : k = mt := by simp at h3; omega
      subst hkl
      have hT'' : T2 = (u, none) := by rw [← hTm, List.drop_eq_nil_of_le (by omega)]; rfl
      rw [hT'', thenC_none] at hspec
      rw [Nat.sub_self, Nat.add_zero] at hR2
      (simp (config := { maxSteps := 1000000 }) [])
      ((first | refine AW_cond_split _ (by rfl) (fun h4 => ?_) (fun h4 => ?_) | refine AWop_split _ (by rfl) (fun h4 => ?_) (fun h4 => ?_)) <;> (try simp only [decide_eq_true_eq, decide_eq_false_iff_not, Bool.not_eq_true', Bool.not_eq_false', Bool.and_eq_true, Bool.or_eq_true, beq_iff_eq, bne_iff_ne, ne_eq, beq_eq_false_iff_ne, bne_eq_false_iff_eq] at h4))
      · obtain ⟨h5, h6, h7⟩ := hsr h4
        have hi1 : src.toNat < code.length := by omega
        have hi2 : mach.toNat < mcode.length := by omega
        have hci : code[src.toNat]? = some code[src.toNat] := by simp [hi1]
        have hmi : mcode[mach.toNat]? = some mcode[mach.toNat] := by simp [hi2]
        have hl : lastC most code mcode ⟨cf, ct, mf, k, src, mach⟩ u = instrC most u code[src.toNat] mcode[mach.toNat] mach := by
          simp only [lastC, h4, if_true, hci, hmi]
        rw [hl] at hspec
        have hins := blockcheck_checker_instr_calls A S u most code[src.toNat] mcode[mach.toNat] mach hR2 (fun _ => ⟨hv.v _ (List.getElem_mem hi1), (hv.l _ (List.getElem_mem hi2)).2⟩)
        obtain ⟨⟨t2, e2⟩, h2r⟩ : ∃ r, r = instrC most u code[src.toNat] mcode[mach.toNat] mach := ⟨_, rfl⟩
        rw [← h2r] at hins hspec
        (simp (config := { maxSteps := 1000000 }) [h4, h6, List.getElem?_map, hci, hmi, Instr.row, Mach.row])
        cases e2 with
        | none =>
          refine AWcall_loc [0] (x := .tup []) hins (by decide) (by rfl) (by rfl) (by rfl) (by rfl) (by rfl) (by rfl) ?_
          (simp (config := { maxSteps := 1000000 }) [ckB])
          exact hR _ _ (Fin_wk (.tup []) (.tup []) [ckB most t2] rfl (by simp only [ckB]; (refine Wk.of ?_ ?_ (by simp) <;> repeat' (first | exact True.intro | exact ⟨_, rfl, wkt_same rfl⟩ | exact ⟨_, rfl, wkt_erase rfl⟩ | exact ⟨_, rfl, .inl .nild⟩ | exact ⟨_, rfl, .inl .nile⟩ | exact ⟨_, rfl, wkt_nils⟩ | exact wkt_same rfl | exact wkt_erase rfl | exact .inl .nild | exact .inl .nile | exact wkt_nils | exact WkB.same rfl | exact WkB_rows | exact WkB_nil | exact .dead _ | exact .iter _ _ | exact .glob _ _ | refine WkB_cons ?_ ?_ | refine And.intro ?_ ?_))) ⟨by rw [hspec]; rfl, by rw [hspec]⟩)
        | some e =>
          refine AWcall_locp [0] (x := failV p e) hins (by decide) (by rfl) (by rfl) (by rfl) (by rfl) (by rfl) (by rfl) ?_
          (simp (config := { maxSteps := 1000000 }) [ckB])
          exact hR _ _ (Fin_pan _ (failV p e) [ckB most t2] (by simp only [ckB, failV]; (refine Wk.of ?_ ?_ (by simp) <;> repeat' (first | exact True.intro | exact ⟨_, rfl, wkt_same rfl⟩ | exact ⟨_, rfl, wkt_erase rfl⟩ | exact ⟨_, rfl, .inl .nild⟩ | exact ⟨_, rfl, .inl .nile⟩ | exact ⟨_, rfl, wkt_nils⟩ | exact wkt_same rfl | exact wkt_erase rfl | exact .inl .nild | exact .inl .nile | exact wkt_nils | exact WkB.same rfl | exact WkB_rows | exact WkB_nil | exact .dead _ | exact .iter _ _ | exact .glob _ _ | refine WkB_cons ?_ ?_ | refine And.intro ?_ ?_))) ⟨by rw [hspec]; rfl, by rw [hspec]⟩)
      · have hl : lastC most code mcode ⟨cf, ct, mf, k, src, mach⟩ u = (u, none) := by
          unfold lastC; rw [if_neg h4]
        rw [hl] at hspec
        (simp (config := { maxSteps := 1000000 }) [h4])
        exact hR _ _ (Fin_wk (.tup []) (.tup []) [ckB most u] rfl (by simp only [ckB]; (refine Wk.of ?_ ?_ (by simp) <;> repeat' (first | exact True.intro | exact ⟨_, rfl, wkt_same rfl⟩ | exact ⟨_, rfl, wkt_erase rfl⟩ | exact ⟨_, rfl, .inl .nild⟩ | exact ⟨_, rfl, .inl .nile⟩ | exact ⟨_, rfl, wkt_nils⟩ | exact wkt_same rfl | exact wkt_erase rfl | exact .inl .nild | exact .inl .nile | exact wkt_nils | exact WkB.same rfl | exact WkB_rows | exact WkB_nil | exact .dead _ | exact .iter _ _ | exact .glob _ _ | refine WkB_cons ?_ ?_ | refine And.intro ?_ ?_))) ⟨by rw [hspec]; rfl, by rw [hspec]⟩)
end
end Go.AE

/- Checking a block: the run over the rows, which a closure ends when the check fails. -/
set_option linter.unusedVariables false
namespace Go.AE
open Go
def rowsC (most : Int) (b : List Instr) (m : List Mach) : List ARow → CS → CR
  | [], s => (s, none)
  | r :: rs, s => thenC (rowC most b m r s) (rowsC most b m rs)
def runC (most : Int) (b : Block) (m : MBlock) (rows : List ARow) (s : CS) : CR :=
  thenC (rowsC most b.code m.code rows s) fun s => if b.term.kind = 1 then (s, none) else useC s b.term.a (regZ m.term.a) m.code.length
/-- The error and the place of a run's end. -/
def runE (m : MBlock) : Option (Int × Int) → Int × Int
  | none => (0, m.code.length)
  | some e => e
def needR (r : ARow) : Nat := 3 + (r.mt - r.mf) + (r.ct - r.cf)
def needRs (rs : List ARow) : Nat := (rs.map needR).sum
section
variable {P : Program} {p : Nums}
theorem run_pan {s : CS} {most : Int} {e : Int × Int} {b m : List AV} {E : List (Nat × AV)} (h8 : get E 8 = some (.ptr 3 0)) (h9 : get E 9 = some (.ptr 4 0)) {Q : AOut → List Blk → Prop} (hQ : Q (.ret (.tup [AI e.1, AI e.2])) [ckB most s]) :
    FinD P [.cell 8 none, .cell 9 none] 1 (ic_blockcheck_checker_run_1_c p) [8, 9] 5 2 [.ptr 3 0, .ptr 4 0] Q (.panic (failV p e)) ⟨E, [ckB most s, .mem b, .mem m, .mem [AI 0], .mem [AI 0]]⟩ := by
  refine ⟨fun j c hj => ?_, ?_⟩
  · match j with
    | 0 => simp at hj; subst hj; exact h8
    | 1 => simp at hj; subst hj; exact h9
    | j + 2 => simp at hj
  · obtain ⟨c, hc⟩ : ∃ c, c = ckB most s := ⟨_, rfl⟩
    have hcm : c = .mem [.d (pairsD s.set), AI most, AI s.steps, AI s.largest] := hc
    rw [← hc] at hQ ⊢
    (simp (config := { maxSteps := 1000000 }) [ic_blockcheck_checker_run_1_c, panV, failV])
    exact ⟨_, rfl, .tup [AI e.1, AI e.2], [c], by rw [hcm]; (refine Wk.of ?_ ?_ (by simp) <;> repeat' (first | exact True.intro | exact ⟨_, rfl, wkt_same rfl⟩ | exact ⟨_, rfl, wkt_erase rfl⟩ | exact ⟨_, rfl, .inl .nild⟩ | exact ⟨_, rfl, .inl .nile⟩ | exact ⟨_, rfl, wkt_nils⟩ | exact wkt_same rfl | exact wkt_erase rfl | exact .inl .nild | exact .inl .nile | exact wkt_nils | exact WkB.same rfl | exact WkB_rows | exact WkB_nil | exact .dead _ | exact .iter _ _ | exact .glob _ _ | refine WkB_cons ?_ ?_ | refine And.intro ?_ ?_)), hQ⟩
theorem run_pan1 {x0 : Blk} {s : CS} {most : Int} {e : Int × Int} {b m : List AV} {E : List (Nat × AV)} (h8 : get E 8 = some (.ptr 3 0)) (h9 : get E 9 = some (.ptr 4 0)) {Q : AOut → List Blk → Prop} (hQ : Q (.ret (.tup [AI e.1, AI e.2])) [ckB most s]) :
    FinD P [.cell 8 none, .cell 9 none] 1 (ic_blockcheck_checker_run_1_c p) [8, 9] 5 2 [.ptr 3 0, .ptr 4 0] Q (.panic (failV p e)) ⟨E, [ckB most s, .mem b, .mem m, .mem [AI 0], .mem [AI 0], x0]⟩ := by
  refine ⟨fun j c hj => ?_, ?_⟩
  · match j with
    | 0 => simp at hj; subst hj; exact h8
    | 1 => simp at hj; subst hj; exact h9
    | j + 2 => simp at hj
  · obtain ⟨c, hc⟩ : ∃ c, c = ckB most s := ⟨_, rfl⟩
    have hcm : c = .mem [.d (pairsD s.set), AI most, AI s.steps, AI s.largest] := hc
    rw [← hc] at hQ ⊢
    (simp (config := { maxSteps := 1000000 }) [ic_blockcheck_checker_run_1_c, panV, failV])
    exact ⟨_, rfl, .tup [AI e.1, AI e.2], [c], by rw [hcm]; (refine Wk.of ?_ ?_ (by simp) <;> repeat' (first | exact True.intro | exact ⟨_, rfl, wkt_same rfl⟩ | exact ⟨_, rfl, wkt_erase rfl⟩ | exact ⟨_, rfl, .inl .nild⟩ | exact ⟨_, rfl, .inl .nile⟩ | exact ⟨_, rfl, wkt_nils⟩ | exact wkt_same rfl | exact wkt_erase rfl | exact .inl .nild | exact .inl .nile | exact wkt_nils | exact WkB.same rfl | exact WkB_rows | exact WkB_nil | exact .dead _ | exact .iter _ _ | exact .glob _ _ | refine WkB_cons ?_ ?_ | refine And.intro ?_ ?_)), hQ⟩
theorem run_ret {s : CS} {most : Int} {e : Int × Int} {b m : List AV} {E : List (Nat × AV)} (h8 : get E 8 = some (.ptr 3 0)) (h9 : get E 9 = some (.ptr 4 0)) {Q : AOut → List Blk → Prop} (hQ : Q (.ret (.tup [AI e.1, AI e.2])) [ckB most s]) :
    FinD P [.cell 8 none, .cell 9 none] 1 (ic_blockcheck_checker_run_1_c p) [8, 9] 5 2 [.ptr 3 0, .ptr 4 0] Q .ret ⟨E, [ckB most s, .mem b, .mem m, .mem [AI e.1], .mem [AI e.2]]⟩ := by
  refine ⟨fun j c hj => ?_, ?_⟩
  · match j with
    | 0 => simp at hj; subst hj; exact h8
    | 1 => simp at hj; subst hj; exact h9
    | j + 2 => simp at hj
  · obtain ⟨c, hc⟩ : ∃ c, c = ckB most s := ⟨_, rfl⟩
    have hcm : c = .mem [.d (pairsD s.set), AI most, AI s.steps, AI s.largest] := hc
    rw [← hc] at hQ ⊢
    (simp (config := { maxSteps := 1000000 }) [ic_blockcheck_checker_run_1_c, panV])
    exact ⟨_, rfl, .tup [AI e.1, AI e.2], [c], by rw [hcm]; (refine Wk.of ?_ ?_ (by simp) <;> repeat' (first | exact True.intro | exact ⟨_, rfl, wkt_same rfl⟩ | exact ⟨_, rfl, wkt_erase rfl⟩ | exact ⟨_, rfl, .inl .nild⟩ | exact ⟨_, rfl, .inl .nile⟩ | exact ⟨_, rfl, wkt_nils⟩ | exact wkt_same rfl | exact wkt_erase rfl | exact .inl .nild | exact .inl .nile | exact wkt_nils | exact WkB.same rfl | exact WkB_rows | exact WkB_nil | exact .dead _ | exact .iter _ _ | exact .glob _ _ | refine WkB_cons ?_ ?_ | refine And.intro ?_ ?_)), hQ⟩
end
theorem needRs_cons (r : ARow) (rs : List ARow) : needRs (r :: rs) = needR r + needRs rs := by simp [needRs]
section
theorem blockcheck_checker_run_calls {P : Program} {p : Nums} (A : All P p) (S : SortOk P p) (C : ClosOk P p) {V L : List Int} (s : CS) (most : Int) (b : Block) (m : MBlock) (rows : List ARow) (h : Room V L s (needRs rows + 1)) (hv : VLOk V L b.code m.code) (hr : ∀ r ∈ rows, RowOk b.code m.code r)
    (hb0 : b.code.length < 1000000) (hm0 : m.code.length < 1000000) (hrl : rows.length < 1000000) :
    CallsTo P p.blockcheck_checker_run [.ptr 0 0, b.av, m.av, .d (.sl (rows.map ARow.row))] [ckB most s]
      fun o H' => o = .ret (.tup [AI (runE m (runC most b m rows s).2).1, AI (runE m (runC most b m rows s).2).2]) ∧ H' = [ckB most (runC most b m rows s).1] := by
  obtain ⟨Q, hQ⟩ : ∃ Q : AOut → List Blk → Prop, Q = fun o H' => o = .ret (.tup [AI (runE m (runC most b m rows s).2).1, AI (runE m (runC most b m rows s).2).2]) ∧ H' = [ckB most (runC most b m rows s).1] := ⟨_, rfl⟩
  rw [← hQ]
  refine A.blockcheck_checker_run.calls rfl ?_
  obtain ⟨code, kind, ta, to, els⟩ := b
  obtain ⟨mcode, mkind, mta, mto, mels⟩ := m
  obtain ⟨total, htot⟩ : ∃ T, T = runC most ⟨code, kind, ta, to, els⟩ ⟨mcode, mkind, mta, mto, mels⟩ rows s := ⟨_, rfl⟩
  rw [← htot] at hQ
  have fin : ∀ s' e, total = (s', e) → Q (.ret (.tup [AI (runE ⟨mcode, mkind, mta, mto, mels⟩ e).1, AI (runE ⟨mcode, mkind, mta, mto, mels⟩ e).2])) [ckB most s'] := by
    intro s' e he
    rw [hQ, he]; exact ⟨rfl, rfl⟩
  obtain ⟨T1, hT1⟩ : ∃ T, T = rowsC most code mcode rows s := ⟨_, rfl⟩
  have hspec : total = thenC T1 fun s => if kind = 1 then (s, none) else useC s ta (regZ mta) mcode.length := by rw [htot, hT1]; rfl
  simp only at hb0 hm0 hv hr
  (simp (config := { maxSteps := 1000000 }) [ic_blockcheck_checker_run_0, Block.av, MBlock.av])
  refine ⟨[.ptr 3 0, .ptr 4 0], rfl, fun j c hj => ?_, fun x hx => by simp at hx; rcases hx with rfl | rfl <;> rfl, ?_⟩
  · match j with
    | 0 => simp at hj; subst hj; rfl
    | 1 => simp at hj; subst hj; rfl
    | j + 2 => simp at hj
  (simp (config := { maxSteps := 1000000 }) [ic_blockcheck_checker_run_r])
  refine AW_loop (fun x : Nat × CS => ⟨[(15, AI x.1), (14, AI rows.length), (13, .d (.sl (rows.map ARow.row))), (9, .ptr 4 0), (8, .ptr 3 0), (6, .ptr 2 0), (5, .ptr 1 0), (0, .ptr 0 0)],
    [ckB most x.2, .mem [.d (.sl (code.map Instr.row)), AI kind, AI ta, AI to, AI els], .mem [.d (.sl (mcode.map Mach.row)), AI mkind, AI mta, AI mto, AI mels], .mem [AI 0], .mem [AI 0]]⟩)
    (fun x => x.1 ≤ rows.length ∧ rowsC most code mcode (rows.drop x.1) x.2 = T1 ∧ Room V L x.2 (needRs (rows.drop x.1) + 1)) (fun x => rows.length - x.1) (0, s) (by simp [hT1]; exact h) (by simp only [ckB]; (refine Wk.of ?_ ?_ (by simp) <;> repeat' (first | exact True.intro | exact ⟨_, rfl, wkt_same rfl⟩ | exact ⟨_, rfl, wkt_erase rfl⟩ | exact ⟨_, rfl, .inl .nild⟩ | exact ⟨_, rfl, .inl .nile⟩ | exact ⟨_, rfl, wkt_nils⟩ | exact wkt_same rfl | exact wkt_erase rfl | exact .inl .nild | exact .inl .nile | exact wkt_nils | exact WkB.same rfl | exact WkB_rows | exact WkB_nil | exact .dead _ | exact .iter _ _ | exact .glob _ _ | refine WkB_cons ?_ ?_ | refine And.intro ?_ ?_))) ?_
  rintro ⟨j, t⟩ ⟨hj, hT, hR1⟩ N hN
  simp only at hj hT hR1
  (simp (config := { maxSteps := 1000000 }) [])
  ((first | refine AW_cond_split _ (by rfl) (fun h2 => ?_) (fun h2 => ?_) | refine AWop_split _ (by rfl) (fun h2 => ?_) (fun h2 => ?_)) <;> (try simp only [decide_eq_true_eq, decide_eq_false_iff_not, Bool.not_eq_true', Bool.not_eq_false', Bool.and_eq_true, Bool.or_eq_true, beq_iff_eq, bne_iff_ne, ne_eq, beq_eq_false_iff_ne, bne_eq_false_iff_eq] at h2))
  · have hjl : j < rows.length := by simpa using h2
    have hji : rows[j]? = some rows[j] := by simp [hjl]
    have hw := wrap_succ (k := j) (by omega)
    rw [drop_get hjl] at hT hR1
    rw [needRs_cons] at hR1
    simp only [rowsC] at hT
    have hro := hr _ (List.getElem_mem hjl)
    have hrow := blockcheck_checker_row_calls A S C t most ⟨code, kind, ta, to, els⟩ ⟨mcode, mkind, mta, mto, mels⟩ rows[j] (n1 := rows[j].ct - rows[j].cf) (n2 := rows[j].mt - rows[j].mf) rfl rfl (hR1.mono (by unfold needR; omega)) hv hro hb0 hm0
    have hl1 : ((mcode.take rows[j].mt).drop rows[j].mf).length = rows[j].mt - rows[j].mf := by have := hro.hm; simp; omega
    have hl2 : ((code.take rows[j].ct).drop rows[j].cf).length = rows[j].ct - rows[j].cf := by have := hro.hc; simp; omega
    have hR2 := rowC_room (n := needRs (rows.drop (j + 1)) + 1) (most := most) (r := rows[j]) (hR1.mono (by rw [hl1, hl2]; unfold needR; omega)) hv
    simp only at hrow
    obtain ⟨⟨t2, e2⟩, h2r⟩ : ∃ r, r = rowC most code mcode rows[j] t := ⟨_, rfl⟩
    rw [← h2r] at hrow hT hR2
    (simp (config := { maxSteps := 1000000 }) [h2, List.getElem?_map, hji, ARow.row, hw])
    cases e2 with
    | none =>
      rw [thenC_none] at hT
      refine AWcall_loc [0] (x := .tup []) hrow (by decide) (by rfl) (by rfl) (by rfl) (by rfl) (by rfl) (by rfl) ?_
      (simp (config := { maxSteps := 1000000 }) [ckB, hw])
      exact hN _ (j + 1, t2) ⟨hjl, hT, hR2⟩ (by simp only [ckB]; (refine Wk.of ?_ ?_ (by simp) <;> repeat' (first | exact True.intro | exact ⟨_, rfl, wkt_same rfl⟩ | exact ⟨_, rfl, wkt_erase rfl⟩ | exact ⟨_, rfl, .inl .nild⟩ | exact ⟨_, rfl, .inl .nile⟩ | exact ⟨_, rfl, wkt_nils⟩ | exact wkt_same rfl | exact wkt_erase rfl | exact .inl .nild | exact .inl .nile | exact wkt_nils | exact WkB.same rfl | exact WkB_rows | exact WkB_nil | exact .dead _ | exact .iter _ _ | exact .glob _ _ | refine WkB_cons ?_ ?_ | refine And.intro ?_ ?_))) (by simp only; omega)
    | some e =>
      rw [thenC_some] at hT
      refine AWcall_locp [0] (x := failV p e) hrow (by decide) (by rfl) (by rfl) (by rfl) (by rfl) (by rfl) (by rfl) ?_
      rw [← hT, thenC_some] at hspec
      have hq := fin _ _ hspec
      (simp (config := { maxSteps := 1000000 }) [])
      exact run_pan1 (s := t2) (e := e) rfl rfl hq
  · have hjl : j = rows.length := by simp at h2; omega
    subst hjl
    have hT' : T1 = (t, none) := by rw [← hT, List.drop_length]; rfl
    rw [hT', thenC_none] at hspec
    rw [List.drop_length] at hR1
    (simp (config := { maxSteps := 1000000 }) [])
    ((first | refine AW_cond_split _ (by rfl) (fun h3 => ?_) (fun h3 => ?_) | refine AWop_split _ (by rfl) (fun h3 => ?_) (fun h3 => ?_)) <;> (try simp only [decide_eq_true_eq, decide_eq_false_iff_not, Bool.not_eq_true', Bool.not_eq_false', Bool.and_eq_true, Bool.or_eq_true, beq_iff_eq, bne_iff_ne, ne_eq, beq_eq_false_iff_ne, bne_eq_false_iff_eq] at h3))
    · rw [if_neg h3] at hspec
      have hl0 := hR1.len
      have hst : t.steps < 1000000000000000000 := Nat.lt_of_le_of_lt (Nat.le_add_right _ _) hR1.steps
      have hu := blockcheck_checker_use_calls A t most ta mta mcode.length hl0 hst hR1.over.srt
      obtain ⟨⟨t2, e2⟩, h2r⟩ : ∃ r, r = useC t ta (regZ mta) mcode.length := ⟨_, rfl⟩
      rw [← h2r] at hu hspec
      have hq := fin _ _ hspec
      (simp (config := { maxSteps := 1000000 }) [h3])
      cases e2 with
      | none =>
        refine AWcall_loc [0] (x := .tup []) hu (by decide) (by rfl) (by rfl) (by rfl) (by rfl) (by rfl) (by rfl) ?_
        (simp (config := { maxSteps := 1000000 }) [ckB])
        exact run_ret (s := t2) (e := (0, mcode.length)) rfl rfl hq
      | some e =>
        refine AWcall_locp [0] (x := failV p e) hu (by decide) (by rfl) (by rfl) (by rfl) (by rfl) (by rfl) (by rfl) ?_
        (simp (config := { maxSteps := 1000000 }) [])
        exact run_pan (s := t2) (e := e) rfl rfl hq
    · have h3' : kind = 1 := by simpa using h3
      rw [if_pos h3'] at hspec
      have hq := fin _ _ hspec
      (simp (config := { maxSteps := 1000000 }) [h3])
      exact run_ret (e := (0, mcode.length)) rfl rfl hq
end
end Go.AE

/- The alignment of two blocks. -/
set_option linter.unusedVariables false
namespace Go.AE
open Go
def isCopy (i : Instr) : Bool := i.op == 2
def isMove (m : Mach) : Bool := m.op == 18
def skipW {α : Type} (f : α → Bool) (l : List α) (i : Nat) : Nat := i + ((l.drop i).takeWhile f).length
theorem skipW_ge {α : Type} (f : α → Bool) (l : List α) (i : Nat) : i ≤ skipW f l i := Nat.le_add_right _ _
theorem skipW_le {α : Type} {f : α → Bool} {l : List α} {i : Nat} (h : i ≤ l.length) : skipW f l i ≤ l.length := by
  have := (List.takeWhile_prefix f (l := l.drop i)).length_le
  rw [List.length_drop] at this
  unfold skipW; omega
theorem skipW_t {α : Type} {f : α → Bool} {l : List α} {i : Nat} (h : i < l.length) (hf : f l[i] = true) : skipW f l i = skipW f l (i + 1) := by
  unfold skipW
  rw [List.drop_eq_getElem_cons h, List.takeWhile_cons, if_pos hf, List.length_cons]; omega
theorem skipW_f {α : Type} {f : α → Bool} {l : List α} {i : Nat} (h : i < l.length) (hf : f l[i] = false) : skipW f l i = i := by
  unfold skipW
  rw [List.drop_eq_getElem_cons h, List.takeWhile_cons, hf]; simp
theorem skipW_end {α : Type} {f : α → Bool} {l : List α} {i : Nat} (h : l.length ≤ i) : skipW f l i = i := by
  unfold skipW
  rw [List.drop_eq_nil_of_le h]; simp
def sameI (i : Instr) (m : Mach) : Bool := i.op == m.op && i.imm == m.imm && i.op != 2 && i.op != 18
def termsZ (a b : Term) : Bool := a.kind == b.kind && a.to == b.to && a.els == b.els
/-- The rest of an alignment from places i and k, behind rows. -/
def alignS (code : List Instr) (mach : List Mach) : Nat → Nat → Nat → List ARow → List ARow × Nat × Int
  | 0, _, k, _ => ([], k, 20)
  | f + 1, i, k, rows =>
    if skipW isCopy code i = code.length ∧ skipW isMove mach k = mach.length then (rows ++ [⟨i, skipW isCopy code i, k, skipW isMove mach k, -1, -1⟩], skipW isMove mach k, 0)
    else match code[skipW isCopy code i]?, mach[skipW isMove mach k]? with
      | some x, some y => if sameI x y = true then alignS code mach f (skipW isCopy code i + 1) (skipW isMove mach k + 1) (rows ++ [⟨i, skipW isCopy code i, k, skipW isMove mach k, skipW isCopy code i, skipW isMove mach k⟩]) else ([], skipW isMove mach k, 20)
      | _, _ => ([], skipW isMove mach k, 20)
def alignZ (code : List Instr) (mach : List Mach) : List ARow × Nat × Int := alignS code mach (code.length + 1) 0 0 []
section
theorem align_copied_calls {P : Program} {p : Nums} (A : All P p) (i : Instr) : CallsTo P p.align_copied [i.av] [] fun o _ => o = .ret (AB (isCopy i)) := by
  refine A.align_copied.run rfl fun R hR => ?_
  (simp (config := { maxSteps := 1000000 }) [ic_align_copied, Instr.av])
  (first | exact hR _ _ (Fin_ret _ rfl rfl rfl) | exact hR _ _ (Fin_normal _ rfl rfl rfl) | exact hR _ _ (Fin_ret _ rfl rfl (by simp [AV.erase, AV.unview, isCopy]; done)) | exact hR _ _ (Fin_normal _ rfl rfl (by simp [AV.erase, AV.unview, isCopy]; done)) | fail "no end")
theorem align_moved_calls {P : Program} {p : Nums} (A : All P p) (m : Mach) : CallsTo P p.align_moved [m.av] [] fun o _ => o = .ret (AB (isMove m)) := by
  refine A.align_moved.run rfl fun R hR => ?_
  (simp (config := { maxSteps := 1000000 }) [ic_align_moved, Mach.av])
  (first | exact hR _ _ (Fin_ret _ rfl rfl rfl) | exact hR _ _ (Fin_normal _ rfl rfl rfl) | exact hR _ _ (Fin_ret _ rfl rfl (by simp [AV.erase, AV.unview, isMove]; done)) | exact hR _ _ (Fin_normal _ rfl rfl (by simp [AV.erase, AV.unview, isMove]; done)) | fail "no end")
theorem align_Same_calls {P : Program} {p : Nums} (A : All P p) (i : Instr) (m : Mach) : CallsTo P p.align_Same [i.av, m.av] [] fun o _ => o = .ret (AB (sameI i m)) := by
  refine A.align_Same.run rfl fun R hR => ?_
  have hs : sameI i m = sameI i m := rfl
  conv at hs => rhs; unfold sameI
  cases h1 : i.op == m.op <;> cases h2 : i.imm == m.imm <;> cases h3 : i.op != 2 <;> cases h4 : i.op != 18 <;> simp only [h1, h2, h3, h4, Bool.and_true, Bool.and_false, Bool.false_and, Bool.and_self] at hs <;>
    (simp (config := { maxSteps := 1000000 }) [ic_align_Same, Instr.av, Mach.av, h1, h2, h3, h4]) <;> (first | exact hR _ _ (Fin_ret _ rfl rfl rfl) | exact hR _ _ (Fin_normal _ rfl rfl rfl) | exact hR _ _ (Fin_ret _ rfl rfl (by simp [AV.erase, AV.unview, hs]; done)) | exact hR _ _ (Fin_normal _ rfl rfl (by simp [AV.erase, AV.unview, hs]; done)) | fail "no end")
theorem align_Terms_calls {P : Program} {p : Nums} (A : All P p) (a b : Term) : CallsTo P p.align_Terms [a.av, b.av] [] fun o _ => o = .ret (AB (termsZ a b)) := by
  refine A.align_Terms.run rfl fun R hR => ?_
  have hs : termsZ a b = termsZ a b := rfl
  conv at hs => rhs; unfold termsZ
  cases h1 : a.kind == b.kind <;> cases h2 : a.to == b.to <;> cases h3 : a.els == b.els <;> simp only [h1, h2, h3, Bool.and_true, Bool.and_false, Bool.false_and, Bool.and_self] at hs <;>
    (simp (config := { maxSteps := 1000000 }) [ic_align_Terms, Term.av, h1, h2, h3]) <;> (first | exact hR _ _ (Fin_ret _ rfl rfl rfl) | exact hR _ _ (Fin_normal _ rfl rfl rfl) | exact hR _ _ (Fin_ret _ rfl rfl (by simp [AV.erase, AV.unview, hs]; done)) | exact hR _ _ (Fin_normal _ rfl rfl (by simp [AV.erase, AV.unview, hs]; done)) | fail "no end")
theorem align_skip_Instr_calls {P : Program} {p : Nums} (A : All P p) (l : List Instr) (i : Nat) (h0 : l.length < 1000000) (h1 : i < 1000000) : CallsTo P p.align_skip_Instr [.d (.sl (l.map Instr.row)), AI i, .fn (.func p.align_copied) [] []] [] fun o _ => o = .ret (AI (skipW isCopy l i)) := by
  refine A.align_skip_Instr.run rfl fun R hR => ?_
  (simp (config := { maxSteps := 1000000 }) [ic_align_skip_Instr])
  refine AW_loop (fun k : Nat => ⟨[(1, AI k), (2, .fn (.func p.align_copied) [] []), (0, .d (.sl (l.map Instr.row)))], []⟩) (fun k => k < 1000000 + l.length ∧ skipW isCopy l k = skipW isCopy l i) (fun k => l.length - k) i (by simp; omega) (by (refine Wk.of ?_ ?_ (by simp) <;> repeat' (first | exact True.intro | exact ⟨_, rfl, wkt_same rfl⟩ | exact ⟨_, rfl, wkt_erase rfl⟩ | exact ⟨_, rfl, .inl .nild⟩ | exact ⟨_, rfl, .inl .nile⟩ | exact ⟨_, rfl, wkt_nils⟩ | exact wkt_same rfl | exact wkt_erase rfl | exact .inl .nild | exact .inl .nile | exact wkt_nils | exact WkB.same rfl | exact WkB_rows | exact WkB_nil | exact .dead _ | exact .iter _ _ | exact .glob _ _ | refine WkB_cons ?_ ?_ | refine And.intro ?_ ?_))) ?_
  rintro k ⟨hk, hs⟩ N hN
  (simp (config := { maxSteps := 1000000 }) [])
  ((first | refine AW_cond_split _ (by rfl) (fun h2 => ?_) (fun h2 => ?_) | refine AWop_split _ (by rfl) (fun h2 => ?_) (fun h2 => ?_)) <;> (try simp only [decide_eq_true_eq, decide_eq_false_iff_not, Bool.not_eq_true', Bool.not_eq_false', Bool.and_eq_true, Bool.or_eq_true, beq_iff_eq, bne_iff_ne, ne_eq, beq_eq_false_iff_ne, bne_eq_false_iff_eq] at h2))
  · have hkl : k < l.length := by simpa using h2
    have hki : l[k]? = some l[k] := by simp [hkl]
    have hw := wrap_succ (k := k) (by omega)
    (simp (config := { maxSteps := 1000000 }) [h2, List.getElem?_map, hki, Instr.row])
    refine ⟨_, [], [], _, rfl, A.align_copied.ok, rfl, ?_⟩
    (refine AWcall_det (align_copied_calls A l[k]) (by rfl) (by rfl) ?_)
    cases hc : isCopy l[k] with
    | true =>
      (simp (config := { maxSteps := 1000000 }) [h2, hc, hw])
      exact hN _ (k + 1) ⟨by omega, by rw [← skipW_t hkl hc]; exact hs⟩ (by (refine Wk.of ?_ ?_ (by simp) <;> repeat' (first | exact True.intro | exact ⟨_, rfl, wkt_same rfl⟩ | exact ⟨_, rfl, wkt_erase rfl⟩ | exact ⟨_, rfl, .inl .nild⟩ | exact ⟨_, rfl, .inl .nile⟩ | exact ⟨_, rfl, wkt_nils⟩ | exact wkt_same rfl | exact wkt_erase rfl | exact .inl .nild | exact .inl .nile | exact wkt_nils | exact WkB.same rfl | exact WkB_rows | exact WkB_nil | exact .dead _ | exact .iter _ _ | exact .glob _ _ | refine WkB_cons ?_ ?_ | refine And.intro ?_ ?_))) (by omega)
    | false =>
      rw [skipW_f hkl hc] at hs
      (simp (config := { maxSteps := 1000000 }) [h2, hc])
      (first | exact hR _ _ (Fin_ret _ rfl rfl rfl) | exact hR _ _ (Fin_normal _ rfl rfl rfl) | exact hR _ _ (Fin_ret _ rfl rfl (by simp [AV.erase, AV.unview, hs]; done)) | exact hR _ _ (Fin_normal _ rfl rfl (by simp [AV.erase, AV.unview, hs]; done)) | fail "no end")
  · have hkl : l.length ≤ k := by simpa using h2
    rw [skipW_end hkl] at hs
    (simp (config := { maxSteps := 1000000 }) [h2])
    (first | exact hR _ _ (Fin_ret _ rfl rfl rfl) | exact hR _ _ (Fin_normal _ rfl rfl rfl) | exact hR _ _ (Fin_ret _ rfl rfl (by simp [AV.erase, AV.unview, hs]; done)) | exact hR _ _ (Fin_normal _ rfl rfl (by simp [AV.erase, AV.unview, hs]; done)) | fail "no end")
theorem align_skip_Mach_calls {P : Program} {p : Nums} (A : All P p) (l : List Mach) (i : Nat) (h0 : l.length < 1000000) (h1 : i < 1000000) : CallsTo P p.align_skip_Mach [.d (.sl (l.map Mach.row)), AI i, .fn (.func p.align_moved) [] []] [] fun o _ => o = .ret (AI (skipW isMove l i)) := by
  refine A.align_skip_Mach.run rfl fun R hR => ?_
  (simp (config := { maxSteps := 1000000 }) [ic_align_skip_Mach])
  refine AW_loop (fun k : Nat => ⟨[(1, AI k), (2, .fn (.func p.align_moved) [] []), (0, .d (.sl (l.map Mach.row)))], []⟩) (fun k => k < 1000000 + l.length ∧ skipW isMove l k = skipW isMove l i) (fun k => l.length - k) i (by simp; omega) (by (refine Wk.of ?_ ?_ (by simp) <;> repeat' (first | exact True.intro | exact ⟨_, rfl, wkt_same rfl⟩ | exact ⟨_, rfl, wkt_erase rfl⟩ | exact ⟨_, rfl, .inl .nild⟩ | exact ⟨_, rfl, .inl .nile⟩ | exact ⟨_, rfl, wkt_nils⟩ | exact wkt_same rfl | exact wkt_erase rfl | exact .inl .nild | exact .inl .nile | exact wkt_nils | exact WkB.same rfl | exact WkB_rows | exact WkB_nil | exact .dead _ | exact .iter _ _ | exact .glob _ _ | refine WkB_cons ?_ ?_ | refine And.intro ?_ ?_))) ?_
  rintro k ⟨hk, hs⟩ N hN
  (simp (config := { maxSteps := 1000000 }) [])
  ((first | refine AW_cond_split _ (by rfl) (fun h2 => ?_) (fun h2 => ?_) | refine AWop_split _ (by rfl) (fun h2 => ?_) (fun h2 => ?_)) <;> (try simp only [decide_eq_true_eq, decide_eq_false_iff_not, Bool.not_eq_true', Bool.not_eq_false', Bool.and_eq_true, Bool.or_eq_true, beq_iff_eq, bne_iff_ne, ne_eq, beq_eq_false_iff_ne, bne_eq_false_iff_eq] at h2))
  · have hkl : k < l.length := by simpa using h2
    have hki : l[k]? = some l[k] := by simp [hkl]
    have hw := wrap_succ (k := k) (by omega)
    (simp (config := { maxSteps := 1000000 }) [h2, List.getElem?_map, hki, Mach.row])
    refine ⟨_, [], [], _, rfl, A.align_moved.ok, rfl, ?_⟩
    (refine AWcall_det (align_moved_calls A l[k]) (by rfl) (by rfl) ?_)
    cases hc : isMove l[k] with
    | true =>
      (simp (config := { maxSteps := 1000000 }) [h2, hc, hw])
      exact hN _ (k + 1) ⟨by omega, by rw [← skipW_t hkl hc]; exact hs⟩ (by (refine Wk.of ?_ ?_ (by simp) <;> repeat' (first | exact True.intro | exact ⟨_, rfl, wkt_same rfl⟩ | exact ⟨_, rfl, wkt_erase rfl⟩ | exact ⟨_, rfl, .inl .nild⟩ | exact ⟨_, rfl, .inl .nile⟩ | exact ⟨_, rfl, wkt_nils⟩ | exact wkt_same rfl | exact wkt_erase rfl | exact .inl .nild | exact .inl .nile | exact wkt_nils | exact WkB.same rfl | exact WkB_rows | exact WkB_nil | exact .dead _ | exact .iter _ _ | exact .glob _ _ | refine WkB_cons ?_ ?_ | refine And.intro ?_ ?_))) (by omega)
    | false =>
      rw [skipW_f hkl hc] at hs
      (simp (config := { maxSteps := 1000000 }) [h2, hc])
      (first | exact hR _ _ (Fin_ret _ rfl rfl rfl) | exact hR _ _ (Fin_normal _ rfl rfl rfl) | exact hR _ _ (Fin_ret _ rfl rfl (by simp [AV.erase, AV.unview, hs]; done)) | exact hR _ _ (Fin_normal _ rfl rfl (by simp [AV.erase, AV.unview, hs]; done)) | fail "no end")
  · have hkl : l.length ≤ k := by simpa using h2
    rw [skipW_end hkl] at hs
    (simp (config := { maxSteps := 1000000 }) [h2])
    (first | exact hR _ _ (Fin_ret _ rfl rfl rfl) | exact hR _ _ (Fin_normal _ rfl rfl rfl) | exact hR _ _ (Fin_ret _ rfl rfl (by simp [AV.erase, AV.unview, hs]; done)) | exact hR _ _ (Fin_normal _ rfl rfl (by simp [AV.erase, AV.unview, hs]; done)) | fail "no end")
end
end Go.AE

/- The alignment of two blocks, shown of the code. -/
set_option linter.unusedVariables false
namespace Go.AE
open Go
section
theorem align_Code_calls {P : Program} {p : Nums} (A : All P p) (code : List Instr) (mach : List Mach) (h0 : code.length < 500000) (h1 : mach.length < 500000) : CallsTo P p.align_Code [.d (.sl (code.map Instr.row)), .d (.sl (mach.map Mach.row))] []
    fun o _ => o = .ret (.tup [.d (.sl ((alignZ code mach).1.map ARow.row)), AI (alignZ code mach).2.1, AI (alignZ code mach).2.2]) := by
  refine A.align_Code.run rfl fun R hR => ?_
  obtain ⟨T, hT⟩ : ∃ T, T = alignZ code mach := ⟨_, rfl⟩
  rw [← hT] at hR
  (simp (config := { maxSteps := 1000000 }) [ic_align_Code])
  refine AW_loop (fun x : Nat × Nat × Nat × List ARow => ⟨[(7, .own 6 (x.2.2.2.map ARow.row)), (8, AI x.2.1), (9, AI x.2.2.1), (0, .d (.sl (code.map Instr.row))), (1, .d (.sl (mach.map Mach.row)))], []⟩)
    (fun x => x.2.1 ≤ code.length ∧ x.2.2.1 ≤ mach.length ∧ code.length + 1 ≤ x.1 + x.2.1 ∧ x.2.2.2.length ≤ x.2.1 ∧ alignS code mach x.1 x.2.1 x.2.2.1 x.2.2.2 = T) (fun x => code.length + 1 - x.2.1) (code.length + 1, 0, 0, []) (by simp [hT, alignZ]) (by simp only [List.map_nil]; (refine Wk.of ?_ ?_ (by simp) <;> repeat' (first | exact True.intro | exact ⟨_, rfl, wkt_same rfl⟩ | exact ⟨_, rfl, wkt_erase rfl⟩ | exact ⟨_, rfl, .inl .nild⟩ | exact ⟨_, rfl, .inl .nile⟩ | exact ⟨_, rfl, wkt_nils⟩ | exact wkt_same rfl | exact wkt_erase rfl | exact .inl .nild | exact .inl .nile | exact wkt_nils | exact WkB.same rfl | exact WkB_rows | exact WkB_nil | exact .dead _ | exact .iter _ _ | exact .glob _ _ | refine WkB_cons ?_ ?_ | refine And.intro ?_ ?_))) ?_
  rintro ⟨f, i, k, rows⟩ ⟨hi, hk, hf, hrl, hal⟩ N hN
  simp only at hi hk hf hrl hal
  obtain ⟨f, rfl⟩ : ∃ g, f = g + 1 := ⟨f - 1, by omega⟩
  have hsi := align_skip_Instr_calls A code i (by omega) (by omega)
  have hsk := align_skip_Mach_calls A mach k (by omega) (by omega)
  have hile := skipW_le (f := isCopy) hi
  have hkle := skipW_le (f := isMove) hk
  have hige := skipW_ge isCopy code i
  simp only [alignS] at hal
  obtain ⟨si, hsie⟩ : ∃ x, x = skipW isCopy code i := ⟨_, rfl⟩
  obtain ⟨sk, hske⟩ : ∃ x, x = skipW isMove mach k := ⟨_, rfl⟩
  rw [← hsie] at hsi hal hile hige
  rw [← hske] at hsk hal hkle
  (simp (config := { maxSteps := 1000000 }) [])
  (refine AWcall_det hsi (by rfl) (by rfl) ?_)
  (simp (config := { maxSteps := 1000000 }) [])
  (refine AWcall_det hsk (by rfl) (by rfl) ?_)
  obtain ⟨F, hF⟩ : ∃ F, F = rows.map ARow.row := ⟨_, rfl⟩
  have hFl : F.length = rows.length := by rw [hF]; simp
  rw [← hF]
  by_cases h2 : si = code.length
  · by_cases h3 : sk = mach.length
    · rw [if_pos ⟨h2, h3⟩] at hal
      (simp (config := { maxSteps := 1000000 }) [h2, h3])
      (refine AWio_app_own (by rfl) (by rfl) (by rfl) ?_ (by decide) ?_ ?_ ?_)
      · simp
      · simp; omega
      · simp; omega
      (simp (config := { maxSteps := 1000000 }) [])
      refine hR _ _ (Fin_wkv _ _ rfl (by (repeat' (first | exact True.intro | exact WkV.refl _ rfl | exact WkV.erase _ rfl | exact WkV.nild | exact WkV.nile | refine And.intro ?_ ?_ | refine WkV_agg ?_ | refine WkV_tup ?_))) ?_)
      rw [← hal]
      simp [hF, ARow.row, h2, h3]
    · rw [if_neg (fun h => h3 h.2)] at hal
      have hb3 : ((sk : Int) == (mach.length : Int)) = false := by simp; omega
      have hc : code[si]? = none := List.getElem?_eq_none (by omega)
      rw [hc] at hal
      simp only at hal
      (simp (config := { maxSteps := 1000000 }) [h2, h3, hb3])
      refine hR _ _ (Fin_wkv (.tup [.nils, AI sk, AI 20]) (.tup [.d (.sl []), AI sk, AI 20]) rfl (by (repeat' (first | exact True.intro | exact WkV.refl _ rfl | exact WkV.erase _ rfl | exact WkV.nild | exact WkV.nile | refine And.intro ?_ ?_ | refine WkV_agg ?_ | refine WkV_tup ?_))) ?_)
      rw [← hal]; rfl
  · have hb2 : ((si : Int) == (code.length : Int)) = false := by simp; omega
    rw [if_neg (fun h => h2 h.1)] at hal
    have hcl : si < code.length := by omega
    have hci : code[si]? = some code[si] := by simp [hcl]
    by_cases h3 : sk = mach.length
    · have hc : mach[sk]? = none := List.getElem?_eq_none (by omega)
      rw [hci, hc] at hal
      simp only at hal
      (simp (config := { maxSteps := 1000000 }) [h2, h3, hb2])
      refine hR _ _ (Fin_wkv (.tup [.nils, AI mach.length, AI 20]) (.tup [.d (.sl []), AI mach.length, AI 20]) rfl (by (repeat' (first | exact True.intro | exact WkV.refl _ rfl | exact WkV.erase _ rfl | exact WkV.nild | exact WkV.nile | refine And.intro ?_ ?_ | refine WkV_agg ?_ | refine WkV_tup ?_))) ?_)
      rw [← hal]; simp [h3]
    · have hkl : sk < mach.length := by omega
      have hki : mach[sk]? = some mach[sk] := by simp [hkl]
      rw [hci, hki] at hal
      simp only at hal
      have hb3 : ((sk : Int) == (mach.length : Int)) = false := by simp; omega
      (simp (config := { maxSteps := 1000000 }) [h2, h3, hb2, hb3, List.getElem?_map, hci, hki, Instr.row, Mach.row])
      (refine AWcall_det (align_Same_calls A code[si] mach[sk]) (by rfl) (by rfl) ?_)
      cases hs : sameI code[si] mach[sk] with
      | false =>
        rw [hs] at hal
        simp only [Bool.false_eq_true, if_false] at hal
        (simp (config := { maxSteps := 1000000 }) [hs])
        refine hR _ _ (Fin_wkv (.tup [.nils, AI sk, AI 20]) (.tup [.d (.sl []), AI sk, AI 20]) rfl (by (repeat' (first | exact True.intro | exact WkV.refl _ rfl | exact WkV.erase _ rfl | exact WkV.nild | exact WkV.nile | refine And.intro ?_ ?_ | refine WkV_agg ?_ | refine WkV_tup ?_))) ?_)
        rw [← hal]; rfl
      | true =>
        rw [hs, if_pos rfl] at hal
        have hw1 := wrap_succ (k := si) (by omega)
        have hw2 := wrap_succ (k := sk) (by omega)
        (simp (config := { maxSteps := 1000000 }) [hs])
        (refine AWio_app_own (by rfl) (by rfl) (by rfl) ?_ (by decide) ?_ ?_ ?_)
        · simp
        · simp; omega
        · simp; omega
        (simp (config := { maxSteps := 1000000 }) [hw1, hw2])
        exact hN _ (f, si + 1, sk + 1, rows ++ [⟨i, si, k, sk, si, sk⟩]) ⟨hcl, hkl, by simp only; omega, by simp only [List.length_append, List.length_singleton]; omega, hal⟩ (by simp only [List.map_append, List.map_cons, List.map_nil, ← hF, ARow.row]; (refine Wk.of ?_ ?_ (by simp) <;> repeat' (first | exact True.intro | exact ⟨_, rfl, wkt_same rfl⟩ | exact ⟨_, rfl, wkt_erase rfl⟩ | exact ⟨_, rfl, .inl .nild⟩ | exact ⟨_, rfl, .inl .nile⟩ | exact ⟨_, rfl, wkt_nils⟩ | exact wkt_same rfl | exact wkt_erase rfl | exact .inl .nild | exact .inl .nile | exact wkt_nils | exact WkB.same rfl | exact WkB_rows | exact WkB_nil | exact .dead _ | exact .iter _ _ | exact .glob _ _ | refine WkB_cons ?_ ?_ | refine And.intro ?_ ?_))) (by simp only; omega)
end
end Go.AE

/- Checking a block: the rows of an alignment, and the whole check. -/
set_option linter.unusedVariables false
namespace Go.AE
open Go
theorem alignS_ok {code : List Instr} {mach : List Mach} : ∀ (f i k : Nat) (rows : List ARow), i ≤ code.length → k ≤ mach.length → (∀ r ∈ rows, RowOk code mach r) → rows.length ≤ i →
    (∀ r ∈ (alignS code mach f i k rows).1, RowOk code mach r) ∧ (alignS code mach f i k rows).1.length ≤ code.length + 1 ∧ (alignS code mach f i k rows).2.1 ≤ mach.length := by
  intro f
  induction f with
  | zero => intro i k rows hi hk h hl; exact ⟨fun r hr => by simp [alignS] at hr, by simp [alignS], by simpa [alignS] using hk⟩
  | succ f ih =>
    intro i k rows hi hk h hl
    have h1 := skipW_le (f := isCopy) hi
    have h2 := skipW_le (f := isMove) hk
    have h3 := skipW_ge isCopy code i
    have h4 := skipW_ge isMove mach k
    simp only [alignS]
    split
    · refine ⟨fun r hr => ?_, by simp; omega, h2⟩
      rcases List.mem_append.1 hr with hr | hr
      · exact h r hr
      · simp only [List.mem_singleton] at hr
        subst hr
        exact ⟨⟨h3, h1⟩, ⟨h4, h2⟩, fun h => by simp at h⟩
    · split
      · rename_i x y hx hy
        have hx' := (List.getElem?_eq_some_iff.1 hx).1
        have hy' := (List.getElem?_eq_some_iff.1 hy).1
        split
        · refine ih _ _ _ hx' hy' (fun r hr => ?_) (by simp only [List.length_append, List.length_singleton]; omega)
          rcases List.mem_append.1 hr with hr | hr
          · exact h r hr
          · simp only [List.mem_singleton] at hr
            subst hr
            exact ⟨⟨h3, h1⟩, ⟨h4, h2⟩, fun _ => ⟨by simp; omega, by simp, by simp; omega⟩⟩
        · exact ⟨fun r hr => by simp at hr, by simp, h2⟩
      · exact ⟨fun r hr => by simp at hr, by simp, h2⟩
theorem alignZ_ok (code : List Instr) (mach : List Mach) : (∀ r ∈ (alignZ code mach).1, RowOk code mach r) ∧ (alignZ code mach).1.length ≤ code.length + 1 ∧ (alignZ code mach).2.1 ≤ mach.length :=
  alignS_ok _ 0 0 [] (Nat.zero_le _) (Nat.zero_le _) (fun r hr => by simp at hr) (Nat.le_refl _)
theorem needRs_le {code : List Instr} {mach : List Mach} {rows : List ARow} (h : ∀ r ∈ rows, RowOk code mach r) : needRs rows ≤ rows.length * (3 + mach.length + code.length) := by
  induction rows with
  | nil => simp [needRs]
  | cons r rows ih =>
    have h1 := h r (by simp)
    have h2 := ih fun r hr => h r (by simp [hr])
    rw [needRs_cons, List.length_cons, Nat.add_mul, Nat.one_mul]
    have := h1.hc
    have := h1.hm
    unfold needR; omega
structure Res where (out : List Pair) (err at_ : Int) (steps largest : Nat)
  deriving DecidableEq
def Res.av (r : Res) : AV := .agg [.d (pairsD r.out), AI r.err, AI r.at_, AI r.steps, AI r.largest]
def checkZ (b : Block) (m : MBlock) (l : List Pair) (most : Int) : Res :=
  if (l.length : Int) > most then ⟨[], 24, 0, 0, l.length⟩
  else
    let a := alignZ b.code m.code
    let why := if a.2.2 = 0 ∧ termsZ b.term m.term = false then 20 else a.2.2
    if why ≠ 0 then ⟨[], why, a.2.1, 0, l.length⟩
    else
      let r := runC most b m a.1 ⟨makeP l, 0, l.length⟩
      ⟨if (runE m r.2).1 = 0 then r.1.set else [], (runE m r.2).1, (runE m r.2).2, r.1.steps, r.1.largest⟩
section
theorem blockcheck_Check_calls {P : Program} {p : Nums} (A : All P p) (S : SortOk P p) (C : ClosOk P p) {V L : List Int} (b : Block) (m : MBlock) (l : List Pair) (most : Int) (hl : ∀ q ∈ l, q.v ∈ V ∧ q.l ∈ L) (hv : VLOk V L b.code m.code) (few : V.length * L.length < 100000) (hl0 : l.length < 100000)
    (hb0 : b.code.length ≤ 1000) (hm0 : m.code.length ≤ 1000) : CallsTo P p.blockcheck_Check [b.av, m.av, .d (pairsD l), AI most] [] fun o _ => o = .ret (checkZ b m l most).av := by
  refine A.blockcheck_Check.run rfl fun R hR => ?_
  obtain ⟨T, hT⟩ : ∃ T, T = checkZ b m l most := ⟨_, rfl⟩
  rw [← hT] at hR
  have hspec : T = checkZ b m l most := hT
  unfold checkZ at hspec
  obtain ⟨ha1, ha2, ha3⟩ := alignZ_ok b.code m.code
  have hal := align_Code_calls A b.code m.code (by omega) (by omega)
  have htm := align_Terms_calls A b.term m.term
  have hmk := pairset_Make_calls A S l (by omega)
  have hover : Over V L (makeP l) := ⟨srt_makeP l, fun q hq => hl q (mem_makeP.1 hq)⟩
  have hroom : Room V L ⟨makeP l, 0, l.length⟩ (needRs (alignZ b.code m.code).1 + 1) := by
    refine ⟨hover, few, ?_, by simp only; omega⟩
    have h1 := needRs_le ha1
    have h2 : (alignZ b.code m.code).1.length * (3 + m.code.length + b.code.length) ≤ 1001 * 2003 := Nat.mul_le_mul (by omega) (by omega)
    simp only
    omega
  have hrun := blockcheck_checker_run_calls A S C ⟨makeP l, 0, l.length⟩ most b m (alignZ b.code m.code).1 hroom hv ha1 (by omega) (by omega) (by omega)
  obtain ⟨al, hale⟩ : ∃ a, a = alignZ b.code m.code := ⟨_, rfl⟩
  rw [← hale] at hal hrun hspec
  obtain ⟨rows, at_, why⟩ := al
  obtain ⟨⟨t, e⟩, hre⟩ : ∃ r, r = runC most b m rows ⟨makeP l, 0, l.length⟩ := ⟨_, rfl⟩
  simp only at hal hrun hspec
  rw [← hre] at hrun hspec
  obtain ⟨re, hree⟩ : ∃ x, x = runE m e := ⟨_, rfl⟩
  simp only at hrun hspec
  rw [← hree] at hrun hspec
  obtain ⟨mk, hmke⟩ : ∃ x, x = makeP l := ⟨_, rfl⟩
  rw [← hmke] at hmk hrun
  obtain ⟨tz, htz⟩ : ∃ x, x = termsZ b.term m.term := ⟨_, rfl⟩
  rw [← htz] at htm hspec
  obtain ⟨code, kind, ta, to, els⟩ := b
  obtain ⟨mcode, mkind, mta, mto, mels⟩ := m
  simp only [Block.av, MBlock.av, Term.av] at hal hrun htm ⊢
  by_cases h1 : most < (l.length : Int)
  · rw [if_pos h1] at hspec
    (simp (config := { maxSteps := 1000000 }) [ic_blockcheck_Check, pairsD, h1])
    refine hR _ _ (Fin_wkv (.agg [.nils, AI 24, AI 0, AI 0, AI l.length]) (.agg [.d (.sl []), AI 24, AI 0, AI 0, AI l.length]) rfl (by (repeat' (first | exact True.intro | exact WkV.refl _ rfl | exact WkV.erase _ rfl | exact WkV.nild | exact WkV.nile | refine And.intro ?_ ?_ | refine WkV_agg ?_ | refine WkV_tup ?_))) ?_)
    rw [hspec]; rfl
  · rw [if_neg h1] at hspec
    (simp (config := { maxSteps := 1000000 }) [ic_blockcheck_Check, pairsD, h1])
    (refine AWcall_det hal (by rfl) (by rfl) ?_)
    by_cases hw : why = 0
    · subst hw
      (simp (config := { maxSteps := 1000000 }) [])
      (refine AWcall_det htm (by rfl) (by rfl) ?_)
      cases tz with
      | false =>
        simp only [and_self, if_true, ne_eq, reduceCtorEq, not_false_eq_true, Int.reduceEq] at hspec
        (simp (config := { maxSteps := 1000000 }) [])
        refine hR _ _ (Fin_wkv (.agg [.nils, AI 20, AI at_, AI 0, AI l.length]) (.agg [.d (.sl []), AI 20, AI at_, AI 0, AI l.length]) rfl (by (repeat' (first | exact True.intro | exact WkV.refl _ rfl | exact WkV.erase _ rfl | exact WkV.nild | exact WkV.nile | refine And.intro ?_ ?_ | refine WkV_agg ?_ | refine WkV_tup ?_))) ?_)
        rw [hspec]; rfl
      | true =>
        simp only [Bool.true_eq_false, and_false, if_false, ne_eq, not_true_eq_false] at hspec
        (simp (config := { maxSteps := 1000000 }) [pairsD])
        (refine AWcall_det hmk (by rfl) (by rfl) ?_)
        (simp (config := { maxSteps := 1000000 }) [pairsD])
        refine AWcall_loc [3] hrun (by decide) (by rfl) (by rfl) (by rfl) (by rfl) (by rfl) (by rfl) ?_
        (simp (config := { maxSteps := 1000000 }) [ckB])
        by_cases hz : re.1 = 0
        · rw [if_pos hz] at hspec
          (simp (config := { maxSteps := 1000000 }) [hz, pairsD])
          refine hR _ _ (Fin_wkv (.agg [.d (.sl (t.set.map Pair.row)), AI 0, AI re.2, AI t.steps, AI t.largest]) _ rfl (by (repeat' (first | exact True.intro | exact WkV.refl _ rfl | exact WkV.erase _ rfl | exact WkV.nild | exact WkV.nile | refine And.intro ?_ ?_ | refine WkV_agg ?_ | refine WkV_tup ?_))) ?_)
          rw [hspec, hz]; rfl
        · rw [if_neg hz] at hspec
          have hzb : (re.1 == 0) = false := by simpa using hz
          (simp (config := { maxSteps := 1000000 }) [hz, hzb, pairsD])
          refine hR _ _ (Fin_wkv (.agg [.nils, AI re.1, AI re.2, AI t.steps, AI t.largest]) (.agg [.d (.sl []), AI re.1, AI re.2, AI t.steps, AI t.largest]) rfl (by (repeat' (first | exact True.intro | exact WkV.refl _ rfl | exact WkV.erase _ rfl | exact WkV.nild | exact WkV.nile | refine And.intro ?_ ?_ | refine WkV_agg ?_ | refine WkV_tup ?_))) ?_)
          rw [hspec]; rfl
    · have hwb : (why == 0) = false := by simpa using hw
      simp only [hw, false_and, if_false, ne_eq, not_false_eq_true, if_true] at hspec
      (simp (config := { maxSteps := 1000000 }) [hw, hwb])
      refine hR _ _ (Fin_wkv (.agg [.nils, AI why, AI at_, AI 0, AI l.length]) (.agg [.d (.sl []), AI why, AI at_, AI 0, AI l.length]) rfl (by (repeat' (first | exact True.intro | exact WkV.refl _ rfl | exact WkV.erase _ rfl | exact WkV.nild | exact WkV.nile | refine And.intro ?_ ?_ | refine WkV_agg ?_ | refine WkV_tup ?_))) ?_)
      rw [hspec]; rfl
end
end Go.AE

/- The reference's check of machine functions. -/
set_option linter.unusedVariables false
namespace Go.AE
open Go
def okZ (n : Int) : Prop := -9223372036854775808 ≤ n ∧ n ≤ 9223372036854775807
def refMInstrZ (i : Mach) (regs slots : Int) : Int :=
  if i.op < 1 ∨ 18 < i.op ∨ i.op = 2 then 8
  else if i.op = 18 then
    if rngZ i.dst regs slots = false ∨ rngZ i.src regs slots = false ∨ (i.dst.tmod 2 = 1 ∧ i.src.tmod 2 = 1) then 10
    else if i.d ≠ 0 ∨ i.a ≠ 0 ∨ i.b ≠ 0 ∨ i.imm ≠ 0 then 12 else 0
  else if refInstrZ ⟨i.op, i.d, i.a, i.b, i.imm⟩ regs = 0 ∧ (i.dst ≠ 0 ∨ i.src ≠ 0) then 12 else refInstrZ ⟨i.op, i.d, i.a, i.b, i.imm⟩ regs
section
theorem ref08_Instr_calls {P : Program} {p : Nums} (A : All P p) (i : Mach) (regs slots : Int) (h1 : okZ i.dst) (h2 : okZ i.src) : CallsTo P p.ref08_Instr [i.av, AI regs, AI slots] [] fun o _ => o = .ret (AI (refMInstrZ i regs slots)) := by
  refine A.ref08_Instr.run rfl fun R hR => ?_
  obtain ⟨T, hT⟩ : ∃ T, T = refMInstrZ i regs slots := ⟨_, rfl⟩
  have hs := hT
  unfold refMInstrZ at hs
  rw [← hT] at hR
  obtain ⟨op, d, a, b, imm, dst, src⟩ := i
  simp only at hs h1 h2
  have c1 := ref04_InRange_calls A dst regs slots h1.1 h1.2
  have c2 := ref04_InRange_calls A src regs slots h2.1 h2.2
  have c3 := ref07_Instr_calls A ⟨op, d, a, b, imm⟩ regs
  obtain ⟨r1, hr1⟩ : ∃ r, r = rngZ dst regs slots := ⟨_, rfl⟩
  obtain ⟨r2, hr2⟩ : ∃ r, r = rngZ src regs slots := ⟨_, rfl⟩
  obtain ⟨e, he⟩ : ∃ r, r = refInstrZ ⟨op, d, a, b, imm⟩ regs := ⟨_, rfl⟩
  rw [← hr1] at c1 hs
  rw [← hr2] at c2 hs
  rw [← he] at c3 hs
  simp only [Instr.av] at c3
  by_cases o1 : op < 1
  · rw [if_pos (.inl o1)] at hs
    (simp (config := { maxSteps := 1000000 }) [ic_ref08_Instr, Mach.av, o1])
    (first | exact hR _ _ (Fin_ret _ rfl rfl rfl) | exact hR _ _ (Fin_normal _ rfl rfl rfl) | exact hR _ _ (Fin_ret _ rfl rfl (by simp [AV.erase, AV.unview, hs]; done)) | exact hR _ _ (Fin_normal _ rfl rfl (by simp [AV.erase, AV.unview, hs]; done)) | fail "no end")
  by_cases o2 : 18 < op
  · rw [if_pos (.inr (.inl o2))] at hs
    (simp (config := { maxSteps := 1000000 }) [ic_ref08_Instr, Mach.av, o1, o2])
    (first | exact hR _ _ (Fin_ret _ rfl rfl rfl) | exact hR _ _ (Fin_normal _ rfl rfl rfl) | exact hR _ _ (Fin_ret _ rfl rfl (by simp [AV.erase, AV.unview, hs]; done)) | exact hR _ _ (Fin_normal _ rfl rfl (by simp [AV.erase, AV.unview, hs]; done)) | fail "no end")
  by_cases o3 : op = 2
  · rw [if_pos (.inr (.inr o3))] at hs
    subst o3
    (simp (config := { maxSteps := 1000000 }) [ic_ref08_Instr, Mach.av])
    (first | exact hR _ _ (Fin_ret _ rfl rfl rfl) | exact hR _ _ (Fin_normal _ rfl rfl rfl) | exact hR _ _ (Fin_ret _ rfl rfl (by simp [AV.erase, AV.unview, hs]; done)) | exact hR _ _ (Fin_normal _ rfl rfl (by simp [AV.erase, AV.unview, hs]; done)) | fail "no end")
  have b3 : (op == 2) = false := by simpa using o3
  rw [if_neg (by omega)] at hs
  by_cases o4 : op = 18
  · subst o4
    rw [if_pos rfl] at hs
    (simp (config := { maxSteps := 1000000 }) [ic_ref08_Instr, Mach.av])
    (refine AWcall_det c1 (by rfl) (by rfl) ?_)
    cases r1 with
    | false =>
      rw [if_pos (.inl rfl)] at hs
      (simp (config := { maxSteps := 1000000 }) [])
      (first | exact hR _ _ (Fin_ret _ rfl rfl rfl) | exact hR _ _ (Fin_normal _ rfl rfl rfl) | exact hR _ _ (Fin_ret _ rfl rfl (by simp [AV.erase, AV.unview, hs]; done)) | exact hR _ _ (Fin_normal _ rfl rfl (by simp [AV.erase, AV.unview, hs]; done)) | fail "no end")
    | true =>
      (simp (config := { maxSteps := 1000000 }) [])
      (refine AWcall_det c2 (by rfl) (by rfl) ?_)
      cases r2 with
      | false =>
        rw [if_pos (.inr (.inl rfl))] at hs
        (simp (config := { maxSteps := 1000000 }) [])
        (first | exact hR _ _ (Fin_ret _ rfl rfl rfl) | exact hR _ _ (Fin_normal _ rfl rfl rfl) | exact hR _ _ (Fin_ret _ rfl rfl (by simp [AV.erase, AV.unview, hs]; done)) | exact hR _ _ (Fin_normal _ rfl rfl (by simp [AV.erase, AV.unview, hs]; done)) | fail "no end")
      | true =>
        by_cases d1 : dst.tmod 2 = 1
        · by_cases d2 : src.tmod 2 = 1
          · rw [if_pos (.inr (.inr ⟨d1, d2⟩))] at hs
            (simp (config := { maxSteps := 1000000 }) [d1, d2])
            (first | exact hR _ _ (Fin_ret _ rfl rfl rfl) | exact hR _ _ (Fin_normal _ rfl rfl rfl) | exact hR _ _ (Fin_ret _ rfl rfl (by simp [AV.erase, AV.unview, hs]; done)) | exact hR _ _ (Fin_normal _ rfl rfl (by simp [AV.erase, AV.unview, hs]; done)) | fail "no end")
          · have bd2 : (src.tmod 2 == 1) = false := by simpa using d2
            rw [if_neg (by simp [d2])] at hs
            by_cases q1 : d = 0
            · by_cases q2 : a = 0
              · by_cases q3 : b = 0
                · by_cases q4 : imm = 0
                  · rw [if_neg (by omega)] at hs
                    (simp (config := { maxSteps := 1000000 }) [d1, d2, bd2, q1, q2, q3, q4])
                    (first | exact hR _ _ (Fin_ret _ rfl rfl rfl) | exact hR _ _ (Fin_normal _ rfl rfl rfl) | exact hR _ _ (Fin_ret _ rfl rfl (by simp [AV.erase, AV.unview, hs]; done)) | exact hR _ _ (Fin_normal _ rfl rfl (by simp [AV.erase, AV.unview, hs]; done)) | fail "no end")
                  · have w : (imm == 0) = false := by simpa using q4
                    rw [if_pos (by omega)] at hs
                    (simp (config := { maxSteps := 1000000 }) [d1, d2, bd2, q1, q2, q3, q4, w])
                    (first | exact hR _ _ (Fin_ret _ rfl rfl rfl) | exact hR _ _ (Fin_normal _ rfl rfl rfl) | exact hR _ _ (Fin_ret _ rfl rfl (by simp [AV.erase, AV.unview, hs]; done)) | exact hR _ _ (Fin_normal _ rfl rfl (by simp [AV.erase, AV.unview, hs]; done)) | fail "no end")
                · have w : (b == 0) = false := by simpa using q3
                  rw [if_pos (by omega)] at hs
                  (simp (config := { maxSteps := 1000000 }) [d1, d2, bd2, q1, q2, q3, w])
                  (first | exact hR _ _ (Fin_ret _ rfl rfl rfl) | exact hR _ _ (Fin_normal _ rfl rfl rfl) | exact hR _ _ (Fin_ret _ rfl rfl (by simp [AV.erase, AV.unview, hs]; done)) | exact hR _ _ (Fin_normal _ rfl rfl (by simp [AV.erase, AV.unview, hs]; done)) | fail "no end")
              · have w : (a == 0) = false := by simpa using q2
                rw [if_pos (by omega)] at hs
                (simp (config := { maxSteps := 1000000 }) [d1, d2, bd2, q1, q2, w])
                (first | exact hR _ _ (Fin_ret _ rfl rfl rfl) | exact hR _ _ (Fin_normal _ rfl rfl rfl) | exact hR _ _ (Fin_ret _ rfl rfl (by simp [AV.erase, AV.unview, hs]; done)) | exact hR _ _ (Fin_normal _ rfl rfl (by simp [AV.erase, AV.unview, hs]; done)) | fail "no end")
            · have w : (d == 0) = false := by simpa using q1
              rw [if_pos (by omega)] at hs
              (simp (config := { maxSteps := 1000000 }) [d1, d2, bd2, q1, w])
              (first | exact hR _ _ (Fin_ret _ rfl rfl rfl) | exact hR _ _ (Fin_normal _ rfl rfl rfl) | exact hR _ _ (Fin_ret _ rfl rfl (by simp [AV.erase, AV.unview, hs]; done)) | exact hR _ _ (Fin_normal _ rfl rfl (by simp [AV.erase, AV.unview, hs]; done)) | fail "no end")
        · have bd1 : (dst.tmod 2 == 1) = false := by simpa using d1
          rw [if_neg (by simp [d1])] at hs
          by_cases q1 : d = 0
          · by_cases q2 : a = 0
            · by_cases q3 : b = 0
              · by_cases q4 : imm = 0
                · rw [if_neg (by omega)] at hs
                  (simp (config := { maxSteps := 1000000 }) [d1, bd1, q1, q2, q3, q4])
                  (first | exact hR _ _ (Fin_ret _ rfl rfl rfl) | exact hR _ _ (Fin_normal _ rfl rfl rfl) | exact hR _ _ (Fin_ret _ rfl rfl (by simp [AV.erase, AV.unview, hs]; done)) | exact hR _ _ (Fin_normal _ rfl rfl (by simp [AV.erase, AV.unview, hs]; done)) | fail "no end")
                · have w : (imm == 0) = false := by simpa using q4
                  rw [if_pos (by omega)] at hs
                  (simp (config := { maxSteps := 1000000 }) [d1, bd1, q1, q2, q3, q4, w])
                  (first | exact hR _ _ (Fin_ret _ rfl rfl rfl) | exact hR _ _ (Fin_normal _ rfl rfl rfl) | exact hR _ _ (Fin_ret _ rfl rfl (by simp [AV.erase, AV.unview, hs]; done)) | exact hR _ _ (Fin_normal _ rfl rfl (by simp [AV.erase, AV.unview, hs]; done)) | fail "no end")
              · have w : (b == 0) = false := by simpa using q3
                rw [if_pos (by omega)] at hs
                (simp (config := { maxSteps := 1000000 }) [d1, bd1, q1, q2, q3, w])
                (first | exact hR _ _ (Fin_ret _ rfl rfl rfl) | exact hR _ _ (Fin_normal _ rfl rfl rfl) | exact hR _ _ (Fin_ret _ rfl rfl (by simp [AV.erase, AV.unview, hs]; done)) | exact hR _ _ (Fin_normal _ rfl rfl (by simp [AV.erase, AV.unview, hs]; done)) | fail "no end")
            · have w : (a == 0) = false := by simpa using q2
              rw [if_pos (by omega)] at hs
              (simp (config := { maxSteps := 1000000 }) [d1, bd1, q1, q2, w])
              (first | exact hR _ _ (Fin_ret _ rfl rfl rfl) | exact hR _ _ (Fin_normal _ rfl rfl rfl) | exact hR _ _ (Fin_ret _ rfl rfl (by simp [AV.erase, AV.unview, hs]; done)) | exact hR _ _ (Fin_normal _ rfl rfl (by simp [AV.erase, AV.unview, hs]; done)) | fail "no end")
          · have w : (d == 0) = false := by simpa using q1
            rw [if_pos (by omega)] at hs
            (simp (config := { maxSteps := 1000000 }) [d1, bd1, q1, w])
            (first | exact hR _ _ (Fin_ret _ rfl rfl rfl) | exact hR _ _ (Fin_normal _ rfl rfl rfl) | exact hR _ _ (Fin_ret _ rfl rfl (by simp [AV.erase, AV.unview, hs]; done)) | exact hR _ _ (Fin_normal _ rfl rfl (by simp [AV.erase, AV.unview, hs]; done)) | fail "no end")
  · have b4 : (op == 18) = false := by simpa using o4
    rw [if_neg o4] at hs
    (simp (config := { maxSteps := 1000000 }) [ic_ref08_Instr, Mach.av, o1, o2, b3, b4])
    (refine AWcall_det c3 (by rfl) (by rfl) ?_)
    by_cases he0 : e = 0
    · subst he0
      by_cases q1 : dst = 0
      · by_cases q2 : src = 0
        · rw [if_neg (by omega)] at hs
          (simp (config := { maxSteps := 1000000 }) [q1, q2])
          (first | exact hR _ _ (Fin_ret _ rfl rfl rfl) | exact hR _ _ (Fin_normal _ rfl rfl rfl) | exact hR _ _ (Fin_ret _ rfl rfl (by simp [AV.erase, AV.unview, hs]; done)) | exact hR _ _ (Fin_normal _ rfl rfl (by simp [AV.erase, AV.unview, hs]; done)) | fail "no end")
        · have b2 : (src == 0) = false := by simpa using q2
          rw [if_pos ⟨rfl, .inr q2⟩] at hs
          (simp (config := { maxSteps := 1000000 }) [q1, q2, b2])
          (first | exact hR _ _ (Fin_ret _ rfl rfl rfl) | exact hR _ _ (Fin_normal _ rfl rfl rfl) | exact hR _ _ (Fin_ret _ rfl rfl (by simp [AV.erase, AV.unview, hs]; done)) | exact hR _ _ (Fin_normal _ rfl rfl (by simp [AV.erase, AV.unview, hs]; done)) | fail "no end")
      · have b1 : (dst == 0) = false := by simpa using q1
        rw [if_pos ⟨rfl, .inl q1⟩] at hs
        (simp (config := { maxSteps := 1000000 }) [q1, b1])
        (first | exact hR _ _ (Fin_ret _ rfl rfl rfl) | exact hR _ _ (Fin_normal _ rfl rfl rfl) | exact hR _ _ (Fin_ret _ rfl rfl (by simp [AV.erase, AV.unview, hs]; done)) | exact hR _ _ (Fin_normal _ rfl rfl (by simp [AV.erase, AV.unview, hs]; done)) | fail "no end")
    · have b0 : (e == 0) = false := by simpa using he0
      rw [if_neg (fun h => he0 h.1)] at hs
      (simp (config := { maxSteps := 1000000 }) [he0, b0])
      (first | exact hR _ _ (Fin_ret _ rfl rfl rfl) | exact hR _ _ (Fin_normal _ rfl rfl rfl) | exact hR _ _ (Fin_ret _ rfl rfl (by simp [AV.erase, AV.unview, hs]; done)) | exact hR _ _ (Fin_normal _ rfl rfl (by simp [AV.erase, AV.unview, hs]; done)) | fail "no end")
end
end Go.AE

/- The reference's check of machine functions: the function. -/
set_option linter.unusedVariables false
namespace Go.AE
open Go
def mErr (code : List Mach) (regs slots : Int) (j : Nat) : Int := match code[j]? with
  | none => 0
  | some x => if refMInstrZ x regs slots ≠ 0 then refMInstrZ x regs slots else if 64 ≤ j ∧ 64 < refMoves ((code.take (j + 1)).drop (j - 64)) then 15 else 0
def mErrs (code : List Mach) (regs slots : Int) : Int := firstErr ((List.range code.length).map (mErr code regs slots))
def refMBlockZ (b : MBlock) (regs slots blocks : Int) : Int := if mErrs b.code regs slots ≠ 0 then mErrs b.code regs slots else refTermZ b.term regs blocks
def refMCheckZ (f : MFunc) : Int :=
  if f.args < 0 ∨ f.slots < f.args then 10 else if f.regs < 0 then 9 else if 1048576 < f.slots ∨ 1048576 < f.regs then 6 else if f.blocks.length = 0 then 14 else if 1048576 < f.blocks.length ∨ 1048576 < mcodeN f.blocks then 6
  else firstErr (f.blocks.map fun b => refMBlockZ b f.regs f.slots f.blocks.length)
def okM (b : MBlock) : Prop := ∀ x ∈ b.code, okZ x.dst ∧ okZ x.src
section
theorem ref08_Check_calls {P : Program} {p : Nums} (A : All P p) (f : MFunc) (h0 : f.blocks.length < 1000000000) (h1 : mcodeN f.blocks < 1000000000) (hok : ∀ b ∈ f.blocks, okM b) : CallsTo P p.ref08_Check [f.av] [] fun o _ => o = .ret (AI (refMCheckZ f)) := by
  refine A.ref08_Check.run rfl fun R hR => ?_
  (simp (config := { maxSteps := 1000000 }) [ic_ref08_Check, MFunc.av])
  ((first | refine AW_cond_split _ (by rfl) (fun a1 => ?_) (fun a1 => ?_) | refine AWop_split _ (by rfl) (fun a1 => ?_) (fun a1 => ?_)) <;> (try simp only [decide_eq_true_eq, decide_eq_false_iff_not, Bool.not_eq_true', Bool.not_eq_false', Bool.and_eq_true, Bool.or_eq_true, beq_iff_eq, bne_iff_ne, ne_eq, beq_eq_false_iff_ne, bne_eq_false_iff_eq] at a1))
  · (simp (config := { maxSteps := 1000000 }) [a1])
    have e : refMCheckZ f = 10 := by unfold refMCheckZ; repeat (first | rw [if_pos (by omega)] | rw [if_neg (by omega)])
    (first | exact hR _ _ (Fin_ret _ rfl rfl rfl) | exact hR _ _ (Fin_normal _ rfl rfl rfl) | exact hR _ _ (Fin_ret _ rfl rfl (by simp [AV.erase, AV.unview, e]; done)) | exact hR _ _ (Fin_normal _ rfl rfl (by simp [AV.erase, AV.unview, e]; done)) | fail "no end")
  (simp (config := { maxSteps := 1000000 }) [a1])
  ((first | refine AW_cond_split _ (by rfl) (fun a2 => ?_) (fun a2 => ?_) | refine AWop_split _ (by rfl) (fun a2 => ?_) (fun a2 => ?_)) <;> (try simp only [decide_eq_true_eq, decide_eq_false_iff_not, Bool.not_eq_true', Bool.not_eq_false', Bool.and_eq_true, Bool.or_eq_true, beq_iff_eq, bne_iff_ne, ne_eq, beq_eq_false_iff_ne, bne_eq_false_iff_eq] at a2))
  · (simp (config := { maxSteps := 1000000 }) [a2])
    have e : refMCheckZ f = 10 := by unfold refMCheckZ; repeat (first | rw [if_pos (by omega)] | rw [if_neg (by omega)])
    (first | exact hR _ _ (Fin_ret _ rfl rfl rfl) | exact hR _ _ (Fin_normal _ rfl rfl rfl) | exact hR _ _ (Fin_ret _ rfl rfl (by simp [AV.erase, AV.unview, e]; done)) | exact hR _ _ (Fin_normal _ rfl rfl (by simp [AV.erase, AV.unview, e]; done)) | fail "no end")
  (simp (config := { maxSteps := 1000000 }) [a2])
  ((first | refine AW_cond_split _ (by rfl) (fun a3 => ?_) (fun a3 => ?_) | refine AWop_split _ (by rfl) (fun a3 => ?_) (fun a3 => ?_)) <;> (try simp only [decide_eq_true_eq, decide_eq_false_iff_not, Bool.not_eq_true', Bool.not_eq_false', Bool.and_eq_true, Bool.or_eq_true, beq_iff_eq, bne_iff_ne, ne_eq, beq_eq_false_iff_ne, bne_eq_false_iff_eq] at a3))
  · (simp (config := { maxSteps := 1000000 }) [a3])
    have e : refMCheckZ f = 9 := by unfold refMCheckZ; repeat (first | rw [if_pos (by omega)] | rw [if_neg (by omega)])
    (first | exact hR _ _ (Fin_ret _ rfl rfl rfl) | exact hR _ _ (Fin_normal _ rfl rfl rfl) | exact hR _ _ (Fin_ret _ rfl rfl (by simp [AV.erase, AV.unview, e]; done)) | exact hR _ _ (Fin_normal _ rfl rfl (by simp [AV.erase, AV.unview, e]; done)) | fail "no end")
  (simp (config := { maxSteps := 1000000 }) [a3])
  ((first | refine AW_cond_split _ (by rfl) (fun a4 => ?_) (fun a4 => ?_) | refine AWop_split _ (by rfl) (fun a4 => ?_) (fun a4 => ?_)) <;> (try simp only [decide_eq_true_eq, decide_eq_false_iff_not, Bool.not_eq_true', Bool.not_eq_false', Bool.and_eq_true, Bool.or_eq_true, beq_iff_eq, bne_iff_ne, ne_eq, beq_eq_false_iff_ne, bne_eq_false_iff_eq] at a4))
  · (simp (config := { maxSteps := 1000000 }) [a4])
    have e : refMCheckZ f = 6 := by unfold refMCheckZ; repeat (first | rw [if_pos (by omega)] | rw [if_neg (by omega)])
    (first | exact hR _ _ (Fin_ret _ rfl rfl rfl) | exact hR _ _ (Fin_normal _ rfl rfl rfl) | exact hR _ _ (Fin_ret _ rfl rfl (by simp [AV.erase, AV.unview, e]; done)) | exact hR _ _ (Fin_normal _ rfl rfl (by simp [AV.erase, AV.unview, e]; done)) | fail "no end")
  (simp (config := { maxSteps := 1000000 }) [a4])
  ((first | refine AW_cond_split _ (by rfl) (fun a5 => ?_) (fun a5 => ?_) | refine AWop_split _ (by rfl) (fun a5 => ?_) (fun a5 => ?_)) <;> (try simp only [decide_eq_true_eq, decide_eq_false_iff_not, Bool.not_eq_true', Bool.not_eq_false', Bool.and_eq_true, Bool.or_eq_true, beq_iff_eq, bne_iff_ne, ne_eq, beq_eq_false_iff_ne, bne_eq_false_iff_eq] at a5))
  · (simp (config := { maxSteps := 1000000 }) [a5])
    have e : refMCheckZ f = 6 := by unfold refMCheckZ; repeat (first | rw [if_pos (by omega)] | rw [if_neg (by omega)])
    (first | exact hR _ _ (Fin_ret _ rfl rfl rfl) | exact hR _ _ (Fin_normal _ rfl rfl rfl) | exact hR _ _ (Fin_ret _ rfl rfl (by simp [AV.erase, AV.unview, e]; done)) | exact hR _ _ (Fin_normal _ rfl rfl (by simp [AV.erase, AV.unview, e]; done)) | fail "no end")
  (simp (config := { maxSteps := 1000000 }) [a5])
  ((first | refine AW_cond_split _ (by rfl) (fun a6 => ?_) (fun a6 => ?_) | refine AWop_split _ (by rfl) (fun a6 => ?_) (fun a6 => ?_)) <;> (try simp only [decide_eq_true_eq, decide_eq_false_iff_not, Bool.not_eq_true', Bool.not_eq_false', Bool.and_eq_true, Bool.or_eq_true, beq_iff_eq, bne_iff_ne, ne_eq, beq_eq_false_iff_ne, bne_eq_false_iff_eq] at a6))
  · (simp (config := { maxSteps := 1000000 }) [a6])
    have e : refMCheckZ f = 14 := by unfold refMCheckZ; repeat (first | rw [if_pos (by omega)] | rw [if_neg (by omega)])
    (first | exact hR _ _ (Fin_ret _ rfl rfl rfl) | exact hR _ _ (Fin_normal _ rfl rfl rfl) | exact hR _ _ (Fin_ret _ rfl rfl (by simp [AV.erase, AV.unview, e]; done)) | exact hR _ _ (Fin_normal _ rfl rfl (by simp [AV.erase, AV.unview, e]; done)) | fail "no end")
  (simp (config := { maxSteps := 1000000 }) [a6])
  ((first | refine AW_cond_split _ (by rfl) (fun a7 => ?_) (fun a7 => ?_) | refine AWop_split _ (by rfl) (fun a7 => ?_) (fun a7 => ?_)) <;> (try simp only [decide_eq_true_eq, decide_eq_false_iff_not, Bool.not_eq_true', Bool.not_eq_false', Bool.and_eq_true, Bool.or_eq_true, beq_iff_eq, bne_iff_ne, ne_eq, beq_eq_false_iff_ne, bne_eq_false_iff_eq] at a7))
  · (simp (config := { maxSteps := 1000000 }) [a7])
    have e : refMCheckZ f = 6 := by unfold refMCheckZ; repeat (first | rw [if_pos (by omega)] | rw [if_neg (by omega)])
    (first | exact hR _ _ (Fin_ret _ rfl rfl rfl) | exact hR _ _ (Fin_normal _ rfl rfl rfl) | exact hR _ _ (Fin_ret _ rfl rfl (by simp [AV.erase, AV.unview, e]; done)) | exact hR _ _ (Fin_normal _ rfl rfl (by simp [AV.erase, AV.unview, e]; done)) | fail "no end")
  (simp (config := { maxSteps := 1000000 }) [a7])
  (refine AWcall_det (ref08_Code_calls A f h0 h1) (by rfl) (by rfl) ?_)
  (simp (config := { maxSteps := 1000000 }) [])
  ((first | refine AW_cond_split _ (by rfl) (fun a8 => ?_) (fun a8 => ?_) | refine AWop_split _ (by rfl) (fun a8 => ?_) (fun a8 => ?_)) <;> (try simp only [decide_eq_true_eq, decide_eq_false_iff_not, Bool.not_eq_true', Bool.not_eq_false', Bool.and_eq_true, Bool.or_eq_true, beq_iff_eq, bne_iff_ne, ne_eq, beq_eq_false_iff_ne, bne_eq_false_iff_eq] at a8))
  · (simp (config := { maxSteps := 1000000 }) [a8])
    have e : refMCheckZ f = 6 := by unfold refMCheckZ; repeat (first | rw [if_pos (by omega)] | rw [if_neg (by omega)])
    (first | exact hR _ _ (Fin_ret _ rfl rfl rfl) | exact hR _ _ (Fin_normal _ rfl rfl rfl) | exact hR _ _ (Fin_ret _ rfl rfl (by simp [AV.erase, AV.unview, e]; done)) | exact hR _ _ (Fin_normal _ rfl rfl (by simp [AV.erase, AV.unview, e]; done)) | fail "no end")
  (simp (config := { maxSteps := 1000000 }) [a8])
  have e : refMCheckZ f = firstErr (f.blocks.map fun b => refMBlockZ b f.regs f.slots f.blocks.length) := by
    unfold refMCheckZ; repeat (first | rw [if_pos (by omega)] | rw [if_neg (by omega)])
  refine AW_loop (fun k : Nat => ⟨[(3, AI k), (2, AI 0), (1, .ptr 0 0)], [.mem [AI f.args, AI f.regs, AI f.slots, .d (.sl (f.blocks.map MBlock.row))]]⟩)
    (fun k => k ≤ f.blocks.length ∧ ∀ e ∈ (f.blocks.map fun b => refMBlockZ b f.regs f.slots f.blocks.length).take k, e = 0) (fun k => f.blocks.length - k) 0 (by simp) (by (refine Wk.of ?_ ?_ (by simp) <;> repeat' (first | exact True.intro | exact ⟨_, rfl, wkt_same rfl⟩ | exact ⟨_, rfl, wkt_erase rfl⟩ | exact ⟨_, rfl, .inl .nild⟩ | exact ⟨_, rfl, .inl .nile⟩ | exact ⟨_, rfl, wkt_nils⟩ | exact wkt_same rfl | exact wkt_erase rfl | exact .inl .nild | exact .inl .nile | exact wkt_nils | exact WkB.same rfl | exact WkB_rows | exact WkB_nil | exact .dead _ | exact .iter _ _ | exact .glob _ _ | refine WkB_cons ?_ ?_ | refine And.intro ?_ ?_))) ?_
  rintro k ⟨hk, hz⟩ N hN
  (simp (config := { maxSteps := 1000000 }) [])
  ((first | refine AW_cond_split _ (by rfl) (fun h2 => ?_) (fun h2 => ?_) | refine AWop_split _ (by rfl) (fun h2 => ?_) (fun h2 => ?_)) <;> (try simp only [decide_eq_true_eq, decide_eq_false_iff_not, Bool.not_eq_true', Bool.not_eq_false', Bool.and_eq_true, Bool.or_eq_true, beq_iff_eq, bne_iff_ne, ne_eq, beq_eq_false_iff_ne, bne_eq_false_iff_eq] at h2))
  · have hkl : k < f.blocks.length := by simpa using h2
    have hb : f.blocks[k]? = some f.blocks[k] := by simp [hkl]
    have hw := wrap_succ (k := k) (by omega)
    have hokb := hok _ (List.getElem_mem hkl)
    have hbl : f.blocks[k].code.length < 1000000000 := by
      have h3 := mcodeN_succ hb
      have h4 := mcodeN_le f.blocks (k + 1)
      omega
    (simp (config := { maxSteps := 1000000 }) [h2, hb, MBlock.row])
    refine AW_loop (fun j : Nat => ⟨[(5, AI j), (4, .ptr 1 0), (3, AI k), (2, AI 0), (1, .ptr 0 0)], [.mem [AI f.args, AI f.regs, AI f.slots, .d (.sl (f.blocks.map MBlock.row))], .mem [.d (.sl (f.blocks[k].code.map Mach.row)), AI f.blocks[k].term.kind, AI f.blocks[k].term.a, AI f.blocks[k].term.to, AI f.blocks[k].term.els]]⟩)
      (fun j => j ≤ f.blocks[k].code.length ∧ ∀ e ∈ ((List.range f.blocks[k].code.length).map (mErr f.blocks[k].code f.regs f.slots)).take j, e = 0) (fun j => f.blocks[k].code.length - j) 0 (by simp) (by (refine Wk.of ?_ ?_ (by simp) <;> repeat' (first | exact True.intro | exact ⟨_, rfl, wkt_same rfl⟩ | exact ⟨_, rfl, wkt_erase rfl⟩ | exact ⟨_, rfl, .inl .nild⟩ | exact ⟨_, rfl, .inl .nile⟩ | exact ⟨_, rfl, wkt_nils⟩ | exact wkt_same rfl | exact wkt_erase rfl | exact .inl .nild | exact .inl .nile | exact wkt_nils | exact WkB.same rfl | exact WkB_rows | exact WkB_nil | exact .dead _ | exact .iter _ _ | exact .glob _ _ | refine WkB_cons ?_ ?_ | refine And.intro ?_ ?_))) ?_
    rintro j ⟨hj, hy⟩ N' hN'
    (simp (config := { maxSteps := 1000000 }) [])
    ((first | refine AW_cond_split _ (by rfl) (fun h3 => ?_) (fun h3 => ?_) | refine AWop_split _ (by rfl) (fun h3 => ?_) (fun h3 => ?_)) <;> (try simp only [decide_eq_true_eq, decide_eq_false_iff_not, Bool.not_eq_true', Bool.not_eq_false', Bool.and_eq_true, Bool.or_eq_true, beq_iff_eq, bne_iff_ne, ne_eq, beq_eq_false_iff_ne, bne_eq_false_iff_eq] at h3))
    · have hjl : j < f.blocks[k].code.length := by simpa using h3
      have hbj : f.blocks[k].code[j]? = some f.blocks[k].code[j] := by simp [hjl]
      have hrj : (List.range f.blocks[k].code.length)[j]? = some j := by simp [hjl]
      have hokj := hokb _ (List.getElem_mem hjl)
      obtain ⟨up, hup⟩ : ∃ u, u = j + 1 := ⟨_, rfl⟩
      have hwj : IntKind.i64.wrap ((j : Int) + 1) = (up : Int) := by rw [hup]; exact wrap_succ (by omega)
      (simp (config := { maxSteps := 1000000 }) [h3, hbj, Mach.row])
      (refine AWcall_det (ref08_Instr_calls A f.blocks[k].code[j] f.regs f.slots hokj.1 hokj.2) (by rfl) (by rfl) ?_)
      (simp (config := { maxSteps := 1000000 }) [])
      ((first | refine AW_cond_split _ (by rfl) (fun h4 => ?_) (fun h4 => ?_) | refine AWop_split _ (by rfl) (fun h4 => ?_) (fun h4 => ?_)) <;> (try simp only [decide_eq_true_eq, decide_eq_false_iff_not, Bool.not_eq_true', Bool.not_eq_false', Bool.and_eq_true, Bool.or_eq_true, beq_iff_eq, bne_iff_ne, ne_eq, beq_eq_false_iff_ne, bne_eq_false_iff_eq] at h4))
      · (simp (config := { maxSteps := 1000000 }) [h4])
        have e2 : mErr f.blocks[k].code f.regs f.slots j = refMInstrZ f.blocks[k].code[j] f.regs f.slots := by unfold mErr; rw [hbj]; simp only; rw [if_pos h4]
        have e3 : mErrs f.blocks[k].code f.regs f.slots = mErr f.blocks[k].code f.regs f.slots j := firstErr_at hy (by simp [hjl]) (by rw [e2]; exact h4)
        have e4 : refMBlockZ f.blocks[k] f.regs f.slots f.blocks.length = refMInstrZ f.blocks[k].code[j] f.regs f.slots := by unfold refMBlockZ; rw [e3, e2, if_pos h4]
        have e5 : firstErr (f.blocks.map fun b => refMBlockZ b f.regs f.slots f.blocks.length) = refMBlockZ f.blocks[k] f.regs f.slots f.blocks.length := firstErr_at hz (by simp [hkl]) (by rw [e4]; exact h4)
        (first | exact hR _ _ (Fin_ret _ rfl rfl rfl) | exact hR _ _ (Fin_normal _ rfl rfl rfl) | exact hR _ _ (Fin_ret _ rfl rfl (by simp [AV.erase, AV.unview, e, e5, e4]; done)) | exact hR _ _ (Fin_normal _ rfl rfl (by simp [AV.erase, AV.unview, e, e5, e4]; done)) | fail "no end")
      · have h4' : refMInstrZ f.blocks[k].code[j] f.regs f.slots = 0 := by simpa using h4
        (simp (config := { maxSteps := 1000000 }) [h4])
        ((first | refine AW_cond_split _ (by rfl) (fun h5 => ?_) (fun h5 => ?_) | refine AWop_split _ (by rfl) (fun h5 => ?_) (fun h5 => ?_)) <;> (try simp only [decide_eq_true_eq, decide_eq_false_iff_not, Bool.not_eq_true', Bool.not_eq_false', Bool.and_eq_true, Bool.or_eq_true, beq_iff_eq, bne_iff_ne, ne_eq, beq_eq_false_iff_ne, bne_eq_false_iff_eq] at h5))
        · obtain ⟨lo, hlo⟩ : ∃ u, u = j - 64 := ⟨_, rfl⟩
          have hj64 : 64 ≤ j := by omega
          have hwl : IntKind.i64.wrap ((j : Int) - 64) = (lo : Int) := by
            have e1 : (j : Int) - 64 = (lo : Int) := by omega
            rw [e1]; exact wrapN (by omega)
          have i1 : (lo : Int) ≤ (up : Int) := by omega
          have i2 : (up : Int) ≤ (f.blocks[k].code.length : Int) := by omega
          obtain ⟨sl, hsl⟩ : ∃ x, x = (f.blocks[k].code.take up).drop lo := ⟨_, rfl⟩
          have hsll : sl.length < 1000000000 := by rw [hsl]; simp; omega
          have hrows : ((f.blocks[k].code.map Mach.row).take up).drop lo = sl.map Mach.row := by rw [hsl, List.map_drop, List.map_take]
          have hmv := ref08_Moves_calls A sl hsll
          obtain ⟨mv, hmve⟩ : ∃ x, x = refMoves sl := ⟨_, rfl⟩
          rw [← hmve] at hmv
          rw [hsl] at hmve
          (simp (config := { maxSteps := 1000000 }) [h5, hwl, hwj, i1, i2, hrows, mrow_len])
          (refine AWcall_det hmv (by rfl) (by rfl) ?_)
          (simp (config := { maxSteps := 1000000 }) [])
          ((first | refine AW_cond_split _ (by rfl) (fun h6 => ?_) (fun h6 => ?_) | refine AWop_split _ (by rfl) (fun h6 => ?_) (fun h6 => ?_)) <;> (try simp only [decide_eq_true_eq, decide_eq_false_iff_not, Bool.not_eq_true', Bool.not_eq_false', Bool.and_eq_true, Bool.or_eq_true, beq_iff_eq, bne_iff_ne, ne_eq, beq_eq_false_iff_ne, bne_eq_false_iff_eq] at h6))
          · have e2 : mErr f.blocks[k].code f.regs f.slots j = 15 := by unfold mErr; rw [hbj]; simp only; rw [if_neg (by simpa using h4'), ← hlo, ← hup, ← hmve, if_pos ⟨hj64, by omega⟩]
            have e3 : mErrs f.blocks[k].code f.regs f.slots = mErr f.blocks[k].code f.regs f.slots j := firstErr_at hy (by simp [hjl]) (by rw [e2]; decide)
            have e4 : refMBlockZ f.blocks[k] f.regs f.slots f.blocks.length = 15 := by unfold refMBlockZ; rw [e3, e2]; rfl
            have e5 : firstErr (f.blocks.map fun b => refMBlockZ b f.regs f.slots f.blocks.length) = refMBlockZ f.blocks[k] f.regs f.slots f.blocks.length := firstErr_at hz (by simp [hkl]) (by rw [e4]; decide)
            (simp (config := { maxSteps := 1000000 }) [h6])
            (first | exact hR _ _ (Fin_ret _ rfl rfl rfl) | exact hR _ _ (Fin_normal _ rfl rfl rfl) | exact hR _ _ (Fin_ret _ rfl rfl (by simp [AV.erase, AV.unview, e, e5, e4]; done)) | exact hR _ _ (Fin_normal _ rfl rfl (by simp [AV.erase, AV.unview, e, e5, e4]; done)) | fail "no end")
          · have e2 : mErr f.blocks[k].code f.regs f.slots j = 0 := by unfold mErr; rw [hbj]; simp only; rw [if_neg (by simpa using h4'), ← hlo, ← hup, ← hmve, if_neg (fun h => h6 (by omega))]
            (simp (config := { maxSteps := 1000000 }) [h6, hwj])
            exact hN' _ up ⟨by omega, by rw [hup]; exact take_zero hy hrj e2⟩ (by (refine Wk.of ?_ ?_ (by simp) <;> repeat' (first | exact True.intro | exact ⟨_, rfl, wkt_same rfl⟩ | exact ⟨_, rfl, wkt_erase rfl⟩ | exact ⟨_, rfl, .inl .nild⟩ | exact ⟨_, rfl, .inl .nile⟩ | exact ⟨_, rfl, wkt_nils⟩ | exact wkt_same rfl | exact wkt_erase rfl | exact .inl .nild | exact .inl .nile | exact wkt_nils | exact WkB.same rfl | exact WkB_rows | exact WkB_nil | exact .dead _ | exact .iter _ _ | exact .glob _ _ | refine WkB_cons ?_ ?_ | refine And.intro ?_ ?_))) (by omega)
        · have e2 : mErr f.blocks[k].code f.regs f.slots j = 0 := by unfold mErr; rw [hbj]; simp only; rw [if_neg (by simpa using h4'), if_neg (fun h => h5 (by omega))]
          (simp (config := { maxSteps := 1000000 }) [h5, hwj])
          exact hN' _ up ⟨by omega, by rw [hup]; exact take_zero hy hrj e2⟩ (by (refine Wk.of ?_ ?_ (by simp) <;> repeat' (first | exact True.intro | exact ⟨_, rfl, wkt_same rfl⟩ | exact ⟨_, rfl, wkt_erase rfl⟩ | exact ⟨_, rfl, .inl .nild⟩ | exact ⟨_, rfl, .inl .nile⟩ | exact ⟨_, rfl, wkt_nils⟩ | exact wkt_same rfl | exact wkt_erase rfl | exact .inl .nild | exact .inl .nile | exact wkt_nils | exact WkB.same rfl | exact WkB_rows | exact WkB_nil | exact .dead _ | exact .iter _ _ | exact .glob _ _ | refine WkB_cons ?_ ?_ | refine And.intro ?_ ?_))) (by omega)
    · have hj' : j = f.blocks[k].code.length := by simp at h3; omega
      subst hj'
      have hfe : mErrs f.blocks[k].code f.regs f.slots = 0 := firstErr_all (by rw [List.take_of_length_le (by simp)] at hy; exact hy)
      have e3 : refMBlockZ f.blocks[k] f.regs f.slots f.blocks.length = refTermZ f.blocks[k].term f.regs f.blocks.length := by simp [refMBlockZ, hfe]
      (simp (config := { maxSteps := 1000000 }) [])
      (refine AWcall_det (ref07_Term_calls A f.blocks[k].term f.regs f.blocks.length) (by rfl) (by rfl) ?_)
      (simp (config := { maxSteps := 1000000 }) [])
      ((first | refine AW_cond_split _ (by rfl) (fun h5 => ?_) (fun h5 => ?_) | refine AWop_split _ (by rfl) (fun h5 => ?_) (fun h5 => ?_)) <;> (try simp only [decide_eq_true_eq, decide_eq_false_iff_not, Bool.not_eq_true', Bool.not_eq_false', Bool.and_eq_true, Bool.or_eq_true, beq_iff_eq, bne_iff_ne, ne_eq, beq_eq_false_iff_ne, bne_eq_false_iff_eq] at h5))
      · (simp (config := { maxSteps := 1000000 }) [h5])
        have e4 : firstErr (f.blocks.map fun b => refMBlockZ b f.regs f.slots f.blocks.length) = refMBlockZ f.blocks[k] f.regs f.slots f.blocks.length := firstErr_at hz (by simp [hkl]) (by rw [e3]; exact h5)
        (first | exact hR _ _ (Fin_ret _ rfl rfl rfl) | exact hR _ _ (Fin_normal _ rfl rfl rfl) | exact hR _ _ (Fin_ret _ rfl rfl (by simp [AV.erase, AV.unview, e, e4, e3]; done)) | exact hR _ _ (Fin_normal _ rfl rfl (by simp [AV.erase, AV.unview, e, e4, e3]; done)) | fail "no end")
      · (simp (config := { maxSteps := 1000000 }) [h5, hw])
        exact hN _ (k + 1) ⟨hkl, take_zero hz hb (by rw [e3]; simpa using h5)⟩ (by (refine Wk.of ?_ ?_ (by simp) <;> repeat' (first | exact True.intro | exact ⟨_, rfl, wkt_same rfl⟩ | exact ⟨_, rfl, wkt_erase rfl⟩ | exact ⟨_, rfl, .inl .nild⟩ | exact ⟨_, rfl, .inl .nile⟩ | exact ⟨_, rfl, wkt_nils⟩ | exact wkt_same rfl | exact wkt_erase rfl | exact .inl .nild | exact .inl .nile | exact wkt_nils | exact WkB.same rfl | exact WkB_rows | exact WkB_nil | exact .dead _ | exact .iter _ _ | exact .glob _ _ | refine WkB_cons ?_ ?_ | refine And.intro ?_ ?_))) (by omega)
  · have hk' : k = f.blocks.length := by simp at h2; omega
    subst hk'
    have hfe : firstErr (f.blocks.map fun b => refMBlockZ b f.regs f.slots f.blocks.length) = 0 := firstErr_all (by rw [List.take_of_length_le (by simp)] at hz; exact hz)
    (simp (config := { maxSteps := 1000000 }) [])
    (first | exact hR _ _ (Fin_ret _ rfl rfl rfl) | exact hR _ _ (Fin_normal _ rfl rfl rfl) | exact hR _ _ (Fin_ret _ rfl rfl (by simp [AV.erase, AV.unview, e, hfe]; done)) | exact hR _ _ (Fin_normal _ rfl rfl (by simp [AV.erase, AV.unview, e, hfe]; done)) | fail "no end")
end
end Go.AE

/- Checking a block: what is true of the result's numbers. -/
set_option linter.unusedVariables false
namespace Go.AE
open Go
/-- n costs at most; the places of failures lie within m instructions. -/
structure Bd (most : Int) (m n : Nat) (s : CS) (r : CR) : Prop where
  steps : r.1.steps ≤ s.steps + n * (r.1.largest + 1)
  lg : s.largest ≤ r.1.largest
  set : r.1.set.length ≤ r.1.largest
  most : r.2 = none → (s.largest : Int) ≤ most → (r.1.largest : Int) ≤ most
  fail : ∀ e, r.2 = some e → e.1 ≠ 0 ∧ 0 ≤ e.2 ∧ e.2 ≤ m
section
variable {most : Int} {m : Nat} {s : CS}
theorem Bd.refl (h : s.set.length ≤ s.largest) : Bd most m 0 s (s, none) := ⟨by simp, Nat.le_refl _, h, fun _ h => h, fun e h => by cases h⟩
theorem Bd.mono {n n' : Nat} {r : CR} (h : Bd most m n s r) (hn : n ≤ n') : Bd most m n' s r :=
  ⟨Nat.le_trans h.steps (Nat.add_le_add_left (Nat.mul_le_mul_right _ hn) _), h.lg, h.set, h.most, h.fail⟩
theorem Bd.then {n1 n2 : Nat} {r : CR} {f : CS → CR} (h : Bd most m n1 s r) (hf : ∀ s1, r = (s1, none) → Bd most m n2 s1 (f s1)) : Bd most m (n1 + n2) s (thenC r f) := by
  obtain ⟨s1, e⟩ := r
  cases e with
  | some e => rw [thenC_some]; exact h.mono (by omega)
  | none =>
    rw [thenC_none]
    have h2 := hf s1 rfl
    refine ⟨?_, Nat.le_trans h.lg h2.lg, h2.set, fun hn hm => h2.most hn (h.most rfl hm), h2.fail⟩
    have k1 := h.steps
    have k2 := h2.steps
    have k3 := h2.lg
    simp only at k1 k3
    have k4 : n1 * (s1.largest + 1) ≤ n1 * ((f s1).1.largest + 1) := Nat.mul_le_mul_left _ (by omega)
    rw [Nat.add_mul]
    omega
theorem Bd.use {v t at_ : Int} (h : s.set.length ≤ s.largest) (h0 : 0 ≤ at_) (h1 : at_ ≤ m) : Bd most m 1 s (useC s v t at_) := by
  refine ⟨?_, Nat.le_refl _, h, fun _ h => h, fun e he => ?_⟩
  · simp only [useC, costC]; omega
  · simp only [useC] at he
    split at he
    · cases he
    · injection he with he; subst he; exact ⟨by simp, h0, h1⟩
theorem Bd.step {l : List Pair} {at_ : Int} (h : s.set.length ≤ s.largest) (h0 : 0 ≤ at_) (h1 : at_ ≤ m) : Bd most m 1 s (becomeC most (costC s) l at_) := by
  refine ⟨?_, ?_, ?_, fun hn hm => ?_, fun e he => ?_⟩
  · simp only [becomeC, costC]; omega
  · simp only [becomeC, costC]; omega
  · simp only [becomeC, costC]; omega
  · simp only [becomeC, costC] at hn ⊢
    split at hn
    · cases hn
    · omega
  · simp only [becomeC] at he
    split at he
    · injection he with he; subst he; exact ⟨by simp, h0, h1⟩
    · cases he
theorem copyC_bd {at_ : Int} (h0 : 0 ≤ at_) (h1 : at_ ≤ m) : ∀ {l : List Instr} {s : CS}, s.set.length ≤ s.largest → Bd most m l.length s (copyC most at_ l s) := by
  intro l
  induction l with
  | nil => intro s h; exact .refl h
  | cons i l ih =>
    intro s h
    simp only [copyC, List.length_cons]
    rw [Nat.add_comm]
    refine (Bd.step h h0 h1).then fun s1 hs1 => ih ?_
    have := (Bd.step (most := most) (m := m) (l := copyP s.set i.d i.a) h h0 h1).set
    rw [hs1] at this; exact this
theorem moveC_bd : ∀ {l : List Mach} {k : Nat} {s : CS}, k + l.length ≤ m → s.set.length ≤ s.largest → Bd most m l.length s (moveC most k l s) := by
  intro l
  induction l with
  | nil => intro k s _ h; exact .refl h
  | cons i l ih =>
    intro k s hk h
    simp only [moveC, List.length_cons] at hk ⊢
    rw [Nat.add_comm l.length 1]
    have hst := Bd.step (most := most) (m := m) (l := moveP s.set i.dst i.src) (at_ := k) h (by omega) (by omega)
    refine hst.then fun s1 hs1 => ih (by omega) ?_
    have := hst.set
    rw [hs1] at this; exact this
theorem instrC_bd {i : Instr} {x : Mach} {at_ : Int} (h : s.set.length ≤ s.largest) (h0 : 0 ≤ at_) (h1 : at_ ≤ m) : Bd most m 3 s (instrC most s i x at_) := by
  unfold instrC
  refine Bd.then (n1 := 1) (n2 := 2) ?_ fun s1 hs1 => Bd.then (n1 := 1) (n2 := 1) ?_ fun s2 hs2 => ?_
  · split
    · exact .use h h0 h1
    · exact (Bd.refl h).mono (by omega)
  · have k1 : s1.set.length ≤ s1.largest := by
      split at hs1
      · have := (Bd.use (most := most) (m := m) (v := i.a) (t := regZ x.a) h h0 h1).set; rw [hs1] at this; exact this
      · injection hs1 with hs1; subst hs1; exact h
    split
    · exact .use k1 h0 h1
    · exact (Bd.refl k1).mono (by omega)
  · have k1 : s1.set.length ≤ s1.largest := by
      split at hs1
      · have := (Bd.use (most := most) (m := m) (v := i.a) (t := regZ x.a) h h0 h1).set; rw [hs1] at this; exact this
      · injection hs1 with hs1; subst hs1; exact h
    have k2 : s2.set.length ≤ s2.largest := by
      split at hs2
      · have := (Bd.use (most := most) (m := m) (v := i.b) (t := regZ x.b) k1 h0 h1).set; rw [hs2] at this; exact this
      · injection hs2 with hs2; subst hs2; exact k1
    split
    · exact .step k2 h0 h1
    · exact (Bd.refl k2).mono (by omega)
end
/-- The costs of a row. -/
def costR (r : ARow) : Nat := (r.ct - r.cf) + (r.mt - r.mf) + if 0 ≤ r.src then 3 else 0
theorem rowC_bd {most : Int} {b : List Instr} {mc : List Mach} {r : ARow} {s : CS} (h : s.set.length ≤ s.largest) (hr : RowOk b mc r) : Bd most mc.length (costR r) s (rowC most b mc r s) := by
  unfold rowC costR
  have hl1 : ((b.take r.ct).drop r.cf).length = r.ct - r.cf := by have := hr.hc; simp; omega
  have hl2 : ((mc.take r.mt).drop r.mf).length = r.mt - r.mf := by have := hr.hm; simp; omega
  have b1 := copyC_bd (most := most) (m := mc.length) (at_ := r.mf) (by omega) (by have := hr.hm; omega) (l := (b.take r.ct).drop r.cf) h
  rw [hl1] at b1
  rw [Nat.add_assoc]
  refine b1.then fun s1 hs1 => ?_
  have k1 := b1.set
  rw [hs1] at k1
  have b2 := moveC_bd (most := most) (m := mc.length) (k := r.mf) (l := (mc.take r.mt).drop r.mf) (s := s1) (by have := hr.hm; rw [hl2]; omega) k1
  rw [hl2] at b2
  refine b2.then fun s2 hs2 => ?_
  have k2 := b2.set
  rw [hs2] at k2
  unfold lastC
  split
  · rename_i h0
    obtain ⟨q1, q2, q3⟩ := hr.hs h0
    split
    · exact instrC_bd k2 q2 (by omega)
    · exact (Bd.refl k2).mono (by omega)
  · exact (Bd.refl k2).mono (by omega)
def costRs (rs : List ARow) : Nat := (rs.map costR).sum
theorem rowsC_bd {most : Int} {b : List Instr} {mc : List Mach} : ∀ {rs : List ARow} {s : CS}, s.set.length ≤ s.largest → (∀ r ∈ rs, RowOk b mc r) → Bd most mc.length (costRs rs) s (rowsC most b mc rs s) := by
  intro rs
  induction rs with
  | nil => intro s h _; exact .refl h
  | cons r rs ih =>
    intro s h hr
    have b1 := rowC_bd (most := most) h (hr r (by simp))
    have e : costRs (r :: rs) = costR r + costRs rs := by simp [costRs]
    rw [e]
    refine b1.then fun s1 hs1 => ih ?_ fun r hr' => hr r (by simp [hr'])
    have := b1.set
    rw [hs1] at this; exact this
theorem runC_bd {most : Int} {b : Block} {m : MBlock} {rs : List ARow} {s : CS} (h : s.set.length ≤ s.largest) (hr : ∀ r ∈ rs, RowOk b.code m.code r) : Bd most m.code.length (costRs rs + 1) s (runC most b m rs s) := by
  unfold runC
  have b1 := rowsC_bd (most := most) h hr
  refine b1.then fun s1 hs1 => ?_
  have k1 := b1.set
  rw [hs1] at k1
  split
  · exact (Bd.refl k1).mono (by omega)
  · exact .use k1 (by omega) (by omega)
theorem costRs_append (a b : List ARow) : costRs (a ++ b) = costRs a + costRs b := by simp [costRs]
theorem alignS_cost {code : List Instr} {mach : List Mach} : ∀ (f i k : Nat) (rows : List ARow), i ≤ code.length → k ≤ mach.length → costRs rows ≤ i + 3 * k →
    costRs (alignS code mach f i k rows).1 ≤ code.length + 3 * mach.length := by
  intro f
  induction f with
  | zero => intro i k rows hi hk h; simp [alignS, costRs]
  | succ f ih =>
    intro i k rows hi hk h
    have h1 := skipW_le (f := isCopy) hi
    have h2 := skipW_le (f := isMove) hk
    have h3 := skipW_ge isCopy code i
    have h4 := skipW_ge isMove mach k
    simp only [alignS]
    split
    · rename_i hc
      rw [costRs_append]
      simp only [costRs, List.map_cons, List.map_nil, List.sum_cons, List.sum_nil, costR] at h ⊢
      rw [if_neg (by omega)]
      omega
    · split
      · rename_i x y hx hy
        have hx' := (List.getElem?_eq_some_iff.1 hx).1
        have hy' := (List.getElem?_eq_some_iff.1 hy).1
        split
        · refine ih _ _ _ hx' hy' ?_
          rw [costRs_append]
          simp only [costRs, List.map_cons, List.map_nil, List.sum_cons, List.sum_nil, costR] at h ⊢
          rw [if_pos (by omega)]
          omega
        · simp [costRs]
      · simp [costRs]
theorem alignZ_cost (code : List Instr) (mach : List Mach) : costRs (alignZ code mach).1 ≤ code.length + 3 * mach.length := alignS_cost _ 0 0 [] (Nat.zero_le _) (Nat.zero_le _) (by simp [costRs])
/-- The numbers of a result. -/
theorem checkZ_bd (b : Block) (m : MBlock) (l : List Pair) (most : Int) (hl : (makeP l).length ≤ l.length) : (checkZ b m l most).steps ≤ (3 * m.code.length + b.code.length + 1) * ((checkZ b m l most).largest + 1) ∧ l.length ≤ (checkZ b m l most).largest ∧
    (checkZ b m l most).out.length ≤ (checkZ b m l most).largest ∧ ((checkZ b m l most).err = 0 → ((checkZ b m l most).largest : Int) ≤ most) ∧ 0 ≤ (checkZ b m l most).at_ ∧ (checkZ b m l most).at_ ≤ m.code.length := by
  obtain ⟨a1, a2, a3⟩ := alignZ_ok b.code m.code
  have hc := alignZ_cost b.code m.code
  unfold checkZ
  split
  · exact ⟨Nat.zero_le _, Nat.le_refl _, Nat.zero_le _, fun h => by simp at h, by simp, by simp⟩
  · rename_i h1
    by_cases h2 : (if (alignZ b.code m.code).2.2 = 0 ∧ termsZ b.term m.term = false then 20 else (alignZ b.code m.code).2.2) ≠ 0
    · simp only [if_pos h2]
      exact ⟨Nat.zero_le _, Nat.le_refl _, Nat.zero_le _, fun h => absurd h h2, by simp, by simpa using a3⟩
    · simp only [if_neg h2]
      have hb := runC_bd (most := most) (b := b) (m := m) (rs := (alignZ b.code m.code).1) (s := ⟨makeP l, 0, l.length⟩) hl a1
      generalize runC most b m (alignZ b.code m.code).1 ⟨makeP l, 0, l.length⟩ = r at hb
      obtain ⟨t, e⟩ := r
      obtain ⟨k1, k2, k3, k4, k5⟩ := hb
      simp only at k1 k2 k3 k4 k5 ⊢
      refine ⟨?_, k2, ?_, fun h => ?_, ?_, ?_⟩
      · have : (costRs (alignZ b.code m.code).1 + 1) * (t.largest + 1) ≤ (3 * m.code.length + b.code.length + 1) * (t.largest + 1) := Nat.mul_le_mul_right _ (by omega)
        omega
      · split
        · exact k3
        · simp
      · cases e with
        | none => exact k4 rfl (by omega)
        | some e => exact absurd h (k5 e rfl).1
      · cases e with
        | none => simp [runE]
        | some e => exact (k5 e rfl).2.1
      · cases e with
        | none => simp [runE]
        | some e => exact (k5 e rfl).2.2
end Go.AE

/- The blocks of the law are those of small valid functions. -/
set_option linter.unusedVariables false
namespace Go.AE
open Go
def zrow : List D := [.sl [], I 0, I 0, I 0, I 0]
def rrow : List D := [.sl [], I 3, I 0, I 0, I 0]
def retB : Block := ⟨[], ⟨3, 0, 0, 0⟩⟩
def retM : MBlock := ⟨[], ⟨3, 0, 0, 0⟩⟩
def fRow (k : Nat) : List (List D) := List.replicate k rrow ++ List.replicate (31 - k) zrow
theorem fRow_len (k : Nat) : ∀ r ∈ fRow k, r.length = 5 := by
  intro r hr
  rcases List.mem_append.1 hr with h | h <;> rw [(List.mem_replicate.1 h).2] <;> rfl
theorem fRow_set {k : Nat} (h : k < 31) : (fRow k).set k rrow = fRow (k + 1) := by
  unfold fRow
  rw [show 31 - k = (31 - (k + 1)) + 1 by omega, List.replicate_succ (n := 31 - (k + 1)), List.set_append, if_neg (by simp), List.length_replicate, Nat.sub_self, List.set_cons_zero, List.replicate_succ' (n := k), List.append_assoc]; rfl
theorem fRow_size {k : Nat} (h : k ≤ 31) : (fRow k).length = 31 := by simp [fRow]; omega
theorem WkB_app {H : List Blk} {n : Nat} {a b c d : List AV} (h1 : WkB H n (.mem a) (.mem b)) (h2 : WkB H n (.mem c) (.mem d)) : WkB H n (.mem (a ++ c)) (.mem (b ++ d)) := by
  cases h1 with
  | mem _ _ hl h1 =>
    cases h2 with
    | mem _ _ hl2 h2 =>
      refine .mem _ _ (by simp [hl, hl2]) fun j x y hx hy => ?_
      by_cases hj : j < a.length
      · rw [List.getElem?_append_left hj] at hx
        rw [List.getElem?_append_left (by omega)] at hy
        exact h1 j x y hx hy
      · rw [List.getElem?_append_right (by omega)] at hx
        rw [List.getElem?_append_right (by omega), ← hl] at hy
        exact h2 _ x y hx hy
theorem WkB_ds2 {H : List Blk} {n : Nat} (ds : List D) : WkB H n (.mem (ds.map AV.d)) (.mem (ds.map AV.d)) := .same (renL_d _)
/-- A row whose first cell is nil is told as a row that holds no code. -/
theorem WkB_row0 {H : List Blk} {n k : Nat} {xs : List D} {rows : List (List D)} (hl : ∀ r ∈ rows, r.length = xs.length + 1) (hk : k < rows.length) :
    WkB H n (.mem (List.take (k * (xs.length + 1)) (rowCells rows) ++ (.nils :: xs.map AV.d) ++ List.drop (k * (xs.length + 1) + (xs.length + 1)) (rowCells rows))) (.mem (rowCells (rows.set k (.sl [] :: xs)))) := by
  have h := spl_row (rows := rows) (e := xs.length + 1) (row := .sl [] :: xs) hl (by simp) hk
  rw [← h]
  simp only [spl, List.map_cons, List.length_cons, List.length_map]
  have e1 : List.take (k * (xs.length + 1)) (rowCells rows) = (rows.flatten.take (k * (xs.length + 1))).map AV.d := by simp [rowCells, List.map_take]
  have e2 : List.drop (k * (xs.length + 1) + (xs.length + 1)) (rowCells rows) = (rows.flatten.drop (k * (xs.length + 1) + (xs.length + 1))).map AV.d := by simp [rowCells, List.map_drop]
  rw [e1, e2]
  exact WkB_app (WkB_app (WkB_ds2 _) (WkB_cons (.inl .nild) (WkB_ds2 _))) (WkB_ds2 _)
theorem WkT_rows {H : List Blk} {b m n e : Nat} {rows : List (List D)} (hb : H[b]? = some (.mem (rowCells rows))) (hm : m ≤ b) (hl : rows.length = n) (he : ∀ r ∈ rows, r.length = e) : WkT H m (.hsl b 0 e n) (.d (.sl rows)) := by
  refine .inl (.hsl b 0 e n (rowCells rows) rows hb hm ?_ hl he)
  rw [List.drop_zero, List.take_of_length_le (by rw [rowCells_len he, hl]; exact Nat.le_refl _)]; rfl
def smallZ (b : Block) (m : MBlock) (regs slots : Int) : Prop :=
  ¬ (60 : Int) < (b.code.length : Int) ∧ ¬ (200 : Int) < (m.code.length : Int) ∧ ¬ 20 < regs ∧ ¬ 20 < slots ∧ ¬ 30 < b.term.to ∧ ¬ 30 < b.term.els ∧ ¬ 30 < m.term.to ∧ ¬ 30 < m.term.els ∧ ¬ b.term.to < 0 ∧ ¬ b.term.els < 0
instance (b : Block) (m : MBlock) (regs slots : Int) : Decidable (smallZ b m regs slots) := by unfold smallZ; infer_instance
def fnB (b : Block) : Func := ⟨0, 20, b :: List.replicate 30 retB⟩
def fnM (m : MBlock) (regs slots : Int) : MFunc := ⟨0, regs, slots, m :: List.replicate 30 retM⟩
def rightZ (b : Block) (m : MBlock) (regs slots : Int) : Bool :=
  if smallZ b m regs slots then (if refCheckZ (fnB b) ≠ 0 then false else refMCheckZ (fnM m regs slots) == 0) else false
theorem fnB_rows (b : Block) : (fnB b).blocks.map Block.row = (fRow 31).set 0 b.row := by
  simp [fnB, fRow, retB, Block.row, rrow, List.replicate_succ]
theorem fnM_rows (m : MBlock) (regs slots : Int) : (fnM m regs slots).blocks.map MBlock.row = (fRow 31).set 0 m.row := by
  simp [fnM, fRow, retM, MBlock.row, rrow, List.replicate_succ]
end Go.AE

/- The blocks of the law are those of small valid functions: the function. -/
set_option linter.unusedVariables false
namespace Go.AE
open Go
section
theorem law14_right_calls {P : Program} {p : Nums} (A : All P p) (b : Block) (m : MBlock) (regs slots : Int) (hok : okM m) : CallsTo P p.law14_right [b.av, m.av, AI regs, AI slots] [] fun o _ => o = .ret (AB (rightZ b m regs slots)) := by
  refine A.law14_right.run rfl fun R hR => ?_
  obtain ⟨T, hT⟩ : ∃ T, T = rightZ b m regs slots := ⟨_, rfl⟩
  have hs := hT
  unfold rightZ at hs
  rw [← hT] at hR
  have h7 : b.code.length ≤ 60 → CallsTo P p.ref07_Check [(fnB b).av] [] fun o _ => o = .ret (AI (refCheckZ (fnB b))) := fun h => ref07_Check_calls A (fnB b) (by simp [fnB]) (by simp [fnB, codeN, retB]; omega)
  have h8 : m.code.length ≤ 200 → CallsTo P p.ref08_Check [(fnM m regs slots).av] [] fun o _ => o = .ret (AI (refMCheckZ (fnM m regs slots))) := fun h => ref08_Check_calls A (fnM m regs slots) (by simp [fnM]) (by simp [fnM, mcodeN, retM]; omega)
    (fun x hx => by
      simp only [fnM, List.mem_cons] at hx
      rcases hx with rfl | hx
      · exact hok
      · rw [(List.mem_replicate.1 hx).2]; intro y hy; simp [retM] at hy)
  have r7 := fnB_rows b
  have r8 := fnM_rows m regs slots
  unfold Func.av at h7
  unfold MFunc.av at h8
  rw [r7] at h7
  rw [r8] at h8
  obtain ⟨e7, he7⟩ : ∃ x, x = refCheckZ (fnB b) := ⟨_, rfl⟩
  obtain ⟨e8, he8⟩ : ∃ x, x = refMCheckZ (fnM m regs slots) := ⟨_, rfl⟩
  rw [← he7] at h7 hs
  rw [← he8] at h8 hs
  simp only [fnB, fnM] at h7 h8
  obtain ⟨rb, hrb⟩ : ∃ x, x = b.row := ⟨_, rfl⟩
  obtain ⟨rm, hrm⟩ : ∃ x, x = m.row := ⟨_, rfl⟩
  rw [← hrb] at h7
  rw [← hrm] at h8
  obtain ⟨code, kind, ta, to, els⟩ := b
  obtain ⟨mcode, mkind, mta, mto, mels⟩ := m
  simp only [Block.row] at hrb
  simp only [MBlock.row] at hrm
  (simp (config := { maxSteps := 1000000 }) [ic_law14_right, Block.av, MBlock.av])
  by_cases g1 : (60 : Int) < (code.length : Int)
  · rw [if_neg (fun h => h.1 g1)] at hs
    (simp (config := { maxSteps := 1000000 }) [g1])
    (first | exact hR _ _ (Fin_ret _ rfl rfl rfl) | exact hR _ _ (Fin_normal _ rfl rfl rfl) | exact hR _ _ (Fin_ret _ rfl rfl (by simp [AV.erase, AV.unview, hs]; done)) | exact hR _ _ (Fin_normal _ rfl rfl (by simp [AV.erase, AV.unview, hs]; done)) | fail "no end")
  (simp (config := { maxSteps := 1000000 }) [g1])
  by_cases g2 : (200 : Int) < (mcode.length : Int)
  · rw [if_neg (fun h => h.2.1 g2)] at hs
    (simp (config := { maxSteps := 1000000 }) [g2])
    (first | exact hR _ _ (Fin_ret _ rfl rfl rfl) | exact hR _ _ (Fin_normal _ rfl rfl rfl) | exact hR _ _ (Fin_ret _ rfl rfl (by simp [AV.erase, AV.unview, hs]; done)) | exact hR _ _ (Fin_normal _ rfl rfl (by simp [AV.erase, AV.unview, hs]; done)) | fail "no end")
  (simp (config := { maxSteps := 1000000 }) [g2])
  by_cases g3 : 20 < regs
  · rw [if_neg (fun h => h.2.2.1 g3)] at hs
    (simp (config := { maxSteps := 1000000 }) [g3])
    (first | exact hR _ _ (Fin_ret _ rfl rfl rfl) | exact hR _ _ (Fin_normal _ rfl rfl rfl) | exact hR _ _ (Fin_ret _ rfl rfl (by simp [AV.erase, AV.unview, hs]; done)) | exact hR _ _ (Fin_normal _ rfl rfl (by simp [AV.erase, AV.unview, hs]; done)) | fail "no end")
  (simp (config := { maxSteps := 1000000 }) [g3])
  by_cases g4 : 20 < slots
  · rw [if_neg (fun h => h.2.2.2.1 g4)] at hs
    (simp (config := { maxSteps := 1000000 }) [g4])
    (first | exact hR _ _ (Fin_ret _ rfl rfl rfl) | exact hR _ _ (Fin_normal _ rfl rfl rfl) | exact hR _ _ (Fin_ret _ rfl rfl (by simp [AV.erase, AV.unview, hs]; done)) | exact hR _ _ (Fin_normal _ rfl rfl (by simp [AV.erase, AV.unview, hs]; done)) | fail "no end")
  (simp (config := { maxSteps := 1000000 }) [g4])
  by_cases g5 : 30 < to
  · rw [if_neg (fun h => h.2.2.2.2.1 g5)] at hs
    (simp (config := { maxSteps := 1000000 }) [g5])
    (first | exact hR _ _ (Fin_ret _ rfl rfl rfl) | exact hR _ _ (Fin_normal _ rfl rfl rfl) | exact hR _ _ (Fin_ret _ rfl rfl (by simp [AV.erase, AV.unview, hs]; done)) | exact hR _ _ (Fin_normal _ rfl rfl (by simp [AV.erase, AV.unview, hs]; done)) | fail "no end")
  (simp (config := { maxSteps := 1000000 }) [g5])
  by_cases g6 : 30 < els
  · rw [if_neg (fun h => h.2.2.2.2.2.1 g6)] at hs
    (simp (config := { maxSteps := 1000000 }) [g6])
    (first | exact hR _ _ (Fin_ret _ rfl rfl rfl) | exact hR _ _ (Fin_normal _ rfl rfl rfl) | exact hR _ _ (Fin_ret _ rfl rfl (by simp [AV.erase, AV.unview, hs]; done)) | exact hR _ _ (Fin_normal _ rfl rfl (by simp [AV.erase, AV.unview, hs]; done)) | fail "no end")
  (simp (config := { maxSteps := 1000000 }) [g6])
  by_cases g7 : 30 < mto
  · rw [if_neg (fun h => h.2.2.2.2.2.2.1 g7)] at hs
    (simp (config := { maxSteps := 1000000 }) [g7])
    (first | exact hR _ _ (Fin_ret _ rfl rfl rfl) | exact hR _ _ (Fin_normal _ rfl rfl rfl) | exact hR _ _ (Fin_ret _ rfl rfl (by simp [AV.erase, AV.unview, hs]; done)) | exact hR _ _ (Fin_normal _ rfl rfl (by simp [AV.erase, AV.unview, hs]; done)) | fail "no end")
  (simp (config := { maxSteps := 1000000 }) [g7])
  by_cases g8 : 30 < mels
  · rw [if_neg (fun h => h.2.2.2.2.2.2.2.1 g8)] at hs
    (simp (config := { maxSteps := 1000000 }) [g8])
    (first | exact hR _ _ (Fin_ret _ rfl rfl rfl) | exact hR _ _ (Fin_normal _ rfl rfl rfl) | exact hR _ _ (Fin_ret _ rfl rfl (by simp [AV.erase, AV.unview, hs]; done)) | exact hR _ _ (Fin_normal _ rfl rfl (by simp [AV.erase, AV.unview, hs]; done)) | fail "no end")
  (simp (config := { maxSteps := 1000000 }) [g8])
  by_cases g9 : to < 0
  · rw [if_neg (fun h => h.2.2.2.2.2.2.2.2.1 g9)] at hs
    (simp (config := { maxSteps := 1000000 }) [g9])
    (first | exact hR _ _ (Fin_ret _ rfl rfl rfl) | exact hR _ _ (Fin_normal _ rfl rfl rfl) | exact hR _ _ (Fin_ret _ rfl rfl (by simp [AV.erase, AV.unview, hs]; done)) | exact hR _ _ (Fin_normal _ rfl rfl (by simp [AV.erase, AV.unview, hs]; done)) | fail "no end")
  (simp (config := { maxSteps := 1000000 }) [g9])
  by_cases g10 : els < 0
  · rw [if_neg (fun h => h.2.2.2.2.2.2.2.2.2 g10)] at hs
    (simp (config := { maxSteps := 1000000 }) [g10])
    (first | exact hR _ _ (Fin_ret _ rfl rfl rfl) | exact hR _ _ (Fin_normal _ rfl rfl rfl) | exact hR _ _ (Fin_ret _ rfl rfl (by simp [AV.erase, AV.unview, hs]; done)) | exact hR _ _ (Fin_normal _ rfl rfl (by simp [AV.erase, AV.unview, hs]; done)) | fail "no end")
  (simp (config := { maxSteps := 1000000 }) [g10])
  rw [if_pos ⟨g1, g2, g3, g4, g5, g6, g7, g8, g9, g10⟩] at hs
  have h7 := h7 (by simp only; omega)
  have h8 := h8 (by simp only; omega)
  refine AWio_mks (n := 31) (by rfl) (by rfl) (by decide) (by decide) (by decide) (by rfl) ?_
  have hz : List.replicate 31 [D.sl [], D.int .i64 0, D.int .i64 0, D.int .i64 0, D.int .i64 0] = fRow 0 := rfl
  rw [hz]
  obtain ⟨B, hB⟩ : ∃ B : Nat → List AV, B = fun k => rowCells (fRow k) := ⟨_, rfl⟩
  have hB0 : rowCells (fRow 0) = B 0 := by rw [hB]
  have hBl : ∀ k, k ≤ 31 → (B k).length = 155 := fun k hk => by rw [hB]; simp only; rw [rowCells_len (fRow_len k), fRow_size hk]
  have hBw : ∀ {H : List Blk} {n k : Nat}, k < 31 → WkB H n (.mem (List.take (k * 5) (B k) ++ AV.nils :: AI 3 :: AI 0 :: AI 0 :: AI 0 :: List.drop (k * 5 + 5) (B k))) (.mem (B (k + 1))) := by
    intro H n k hk
    have := WkB_row0 (H := H) (n := n) (k := k) (xs := [I 3, I 0, I 0, I 0]) (rows := fRow k) (fRow_len k) (by rw [fRow_size (by omega)]; exact hk)
    rw [show (D.sl [] :: [I 3, I 0, I 0, I 0]) = rrow from rfl, fRow_set hk] at this
    rw [hB]; simpa using this
  have hBs : ∀ {H : List Blk} {n k : Nat}, WkB H n (.mem (B k)) (.mem (B k)) := by intro H n k; rw [hB]; exact WkB_ds2 _
  rw [hB0]
  (simp (config := { maxSteps := 1000000 }) [])
  refine AW_loop (fun k : Nat => ⟨[(10, AI k), (9, .hsl 2 0 5 31), (5, .ptr 1 0), (4, .ptr 0 0), (2, AI regs), (3, AI slots)],
    [.mem [.d (.sl (code.map Instr.row)), AI kind, AI ta, AI to, AI els], .mem [.d (.sl (mcode.map Mach.row)), AI mkind, AI mta, AI mto, AI mels], .mem (B k)]⟩) (fun k => k ≤ 31) (fun k => 31 - k) 0 (by simp) ?_ ?_
  · refine Wk.of ?_ ?_ (by simp) <;> repeat' (first | exact hBs | (first | exact True.intro | exact ⟨_, rfl, wkt_same rfl⟩ | exact ⟨_, rfl, wkt_erase rfl⟩ | exact ⟨_, rfl, .inl .nild⟩ | exact ⟨_, rfl, .inl .nile⟩ | exact ⟨_, rfl, wkt_nils⟩ | exact wkt_same rfl | exact wkt_erase rfl | exact .inl .nild | exact .inl .nile | exact wkt_nils | exact WkB.same rfl | exact WkB_rows | exact WkB_nil | exact .dead _ | exact .iter _ _ | exact .glob _ _ | refine WkB_cons ?_ ?_ | refine And.intro ?_ ?_))
  intro k hk N hN
  (simp (config := { maxSteps := 1000000 }) [])
  ((first | refine AW_cond_split _ (by rfl) (fun h2 => ?_) (fun h2 => ?_) | refine AWop_split _ (by rfl) (fun h2 => ?_) (fun h2 => ?_)) <;> (try simp only [decide_eq_true_eq, decide_eq_false_iff_not, Bool.not_eq_true', Bool.not_eq_false', Bool.and_eq_true, Bool.or_eq_true, beq_iff_eq, bne_iff_ne, ne_eq, beq_eq_false_iff_ne, bne_eq_false_iff_eq] at h2))
  · have hkl : k < 31 := by omega
    have hw := wrap_succ (k := k) (by omega)
    have hfit : k * 5 + 5 ≤ (B k).length := by rw [hBl k hk]; omega
    (simp (config := { maxSteps := 1000000 }) [h2, hfit, hw])
    exact hN _ (k + 1) hkl (by refine Wk.of ?_ ?_ (by simp) <;> repeat' (first | exact hBw hkl | (first | exact True.intro | exact ⟨_, rfl, wkt_same rfl⟩ | exact ⟨_, rfl, wkt_erase rfl⟩ | exact ⟨_, rfl, .inl .nild⟩ | exact ⟨_, rfl, .inl .nile⟩ | exact ⟨_, rfl, wkt_nils⟩ | exact wkt_same rfl | exact wkt_erase rfl | exact .inl .nild | exact .inl .nile | exact wkt_nils | exact WkB.same rfl | exact WkB_rows | exact WkB_nil | exact .dead _ | exact .iter _ _ | exact .glob _ _ | refine WkB_cons ?_ ?_ | refine And.intro ?_ ?_))) (by omega)
  · have hkl : k = 31 := by omega
    subst hkl
    (simp (config := { maxSteps := 1000000 }) [h2])
    rw [law14_right_m18_eq]
    have h31 : ∀ r ∈ (fRow 31).set 0 rb, r.length = 5 := by
      intro r hr
      rcases List.mem_or_eq_of_mem_set hr with h | h
      · exact fRow_len 31 r h
      · rw [h, hrb]; rfl
    have h31m : ∀ r ∈ (fRow 31).set 0 rm, r.length = 5 := by
      intro r hr
      rcases List.mem_or_eq_of_mem_set hr with h | h
      · exact fRow_len 31 r h
      · rw [h, hrm]; rfl
    have hl31 : ((fRow 31).set 0 rb).length = 31 := by simp [fRow]
    have hl31m : ((fRow 31).set 0 rm).length = 31 := by simp [fRow]
    have hBr : List.take 0 (B 31) ++ [AV.d (.sl (code.map Instr.row)), AI kind, AI ta, AI to, AI els] ++ List.drop 5 (B 31) = rowCells ((fRow 31).set 0 rb) := by
      have := spl_row (rows := fRow 31) (e := 5) (k := 0) (row := rb) (fRow_len 31) (by rw [hrb]; rfl) (by rw [fRow_size (Nat.le_refl _)]; decide)
      rw [← this, hB, hrb]; rfl
    have hBm : List.take 0 (B 31) ++ [AV.d (.sl (mcode.map Mach.row)), AI mkind, AI mta, AI mto, AI mels] ++ List.drop 5 (B 31) = rowCells ((fRow 31).set 0 rm) := by
      have := spl_row (rows := fRow 31) (e := 5) (k := 0) (row := rm) (fRow_len 31) (by rw [hrm]; rfl) (by rw [fRow_size (Nat.le_refl _)]; decide)
      rw [← this, hB, hrm]; rfl
    obtain ⟨F7, hF7⟩ : ∃ x, x = (fRow 31).set 0 rb := ⟨_, rfl⟩
    obtain ⟨F8, hF8⟩ : ∃ x, x = (fRow 31).set 0 rm := ⟨_, rfl⟩
    rw [← hF7] at h7 hBr h31 hl31
    rw [← hF8] at h8 hBm h31m hl31m
    have hfit : 5 ≤ (B 31).length := by rw [hBl 31 (Nat.le_refl _)]; decide
    refine AW_merge ⟨[(9, .d (.sl F7)), (5, .ptr 1 0), (2, AI regs), (3, AI slots)], [.mem [.d (.sl (code.map Instr.row)), AI kind, AI ta, AI to, AI els], .mem [.d (.sl (mcode.map Mach.row)), AI mkind, AI mta, AI mto, AI mels]]⟩ (fun N hN => ?_) ?_
    · (simp (config := { maxSteps := 1000000 }) [hfit])
      have hBr' : (AV.d (.sl (code.map Instr.row)) :: AI kind :: AI ta :: AI to :: AI els :: List.drop 5 (B 31)) = rowCells F7 := by simpa using hBr
      rw [hBr']
      exact hN _ (by refine Wk.of ?_ ?_ (by simp) <;> repeat' (first | exact ⟨_, rfl, WkT_rows rfl (Nat.le_refl _) hl31 h31⟩ | (first | exact True.intro | exact ⟨_, rfl, wkt_same rfl⟩ | exact ⟨_, rfl, wkt_erase rfl⟩ | exact ⟨_, rfl, .inl .nild⟩ | exact ⟨_, rfl, .inl .nile⟩ | exact ⟨_, rfl, wkt_nils⟩ | exact wkt_same rfl | exact wkt_erase rfl | exact .inl .nild | exact .inl .nile | exact wkt_nils | exact WkB.same rfl | exact WkB_rows | exact WkB_nil | exact .dead _ | exact .iter _ _ | exact .glob _ _ | refine WkB_cons ?_ ?_ | refine And.intro ?_ ?_)))
    (simp (config := { maxSteps := 1000000 }) [])
    (refine AWcall_det h7 (by rfl) (by rfl) ?_)
    by_cases z7 : e7 = 0
    · rw [if_neg (by simpa using z7)] at hs
      (simp (config := { maxSteps := 1000000 }) [z7])
      refine AWio_mks (n := 31) (by rfl) (by rfl) (by decide) (by decide) (by decide) (by rfl) ?_
      rw [hz, hB0]
      (simp (config := { maxSteps := 1000000 }) [])
      refine AW_loop (fun k : Nat => ⟨[(12, AI k), (11, .hsl 2 0 5 31), (5, .ptr 1 0), (2, AI regs), (3, AI slots)],
        [.mem [.d (.sl (code.map Instr.row)), AI kind, AI ta, AI to, AI els], .mem [.d (.sl (mcode.map Mach.row)), AI mkind, AI mta, AI mto, AI mels], .mem (B k)]⟩) (fun k => k ≤ 31) (fun k => 31 - k) 0 (by simp) ?_ ?_
      · refine Wk.of ?_ ?_ (by simp) <;> repeat' (first | exact hBs | (first | exact True.intro | exact ⟨_, rfl, wkt_same rfl⟩ | exact ⟨_, rfl, wkt_erase rfl⟩ | exact ⟨_, rfl, .inl .nild⟩ | exact ⟨_, rfl, .inl .nile⟩ | exact ⟨_, rfl, wkt_nils⟩ | exact wkt_same rfl | exact wkt_erase rfl | exact .inl .nild | exact .inl .nile | exact wkt_nils | exact WkB.same rfl | exact WkB_rows | exact WkB_nil | exact .dead _ | exact .iter _ _ | exact .glob _ _ | refine WkB_cons ?_ ?_ | refine And.intro ?_ ?_))
      intro k hk N hN
      (simp (config := { maxSteps := 1000000 }) [])
      ((first | refine AW_cond_split _ (by rfl) (fun h2 => ?_) (fun h2 => ?_) | refine AWop_split _ (by rfl) (fun h2 => ?_) (fun h2 => ?_)) <;> (try simp only [decide_eq_true_eq, decide_eq_false_iff_not, Bool.not_eq_true', Bool.not_eq_false', Bool.and_eq_true, Bool.or_eq_true, beq_iff_eq, bne_iff_ne, ne_eq, beq_eq_false_iff_ne, bne_eq_false_iff_eq] at h2))
      · have hkl : k < 31 := by omega
        have hw := wrap_succ (k := k) (by omega)
        have hfit : k * 5 + 5 ≤ (B k).length := by rw [hBl k hk]; omega
        (simp (config := { maxSteps := 1000000 }) [h2, hfit, hw])
        exact hN _ (k + 1) hkl (by refine Wk.of ?_ ?_ (by simp) <;> repeat' (first | exact hBw hkl | (first | exact True.intro | exact ⟨_, rfl, wkt_same rfl⟩ | exact ⟨_, rfl, wkt_erase rfl⟩ | exact ⟨_, rfl, .inl .nild⟩ | exact ⟨_, rfl, .inl .nile⟩ | exact ⟨_, rfl, wkt_nils⟩ | exact wkt_same rfl | exact wkt_erase rfl | exact .inl .nild | exact .inl .nile | exact wkt_nils | exact WkB.same rfl | exact WkB_rows | exact WkB_nil | exact .dead _ | exact .iter _ _ | exact .glob _ _ | refine WkB_cons ?_ ?_ | refine And.intro ?_ ?_))) (by omega)
      · have hkl : k = 31 := by omega
        subst hkl
        (simp (config := { maxSteps := 1000000 }) [h2])
        rw [law14_right_m17_eq]
        refine AW_merge ⟨[(11, .d (.sl F8)), (2, AI regs), (3, AI slots)], []⟩ (fun N hN => ?_) ?_
        · (simp (config := { maxSteps := 1000000 }) [hfit])
          have hBr' : (AV.d (.sl (mcode.map Mach.row)) :: AI mkind :: AI mta :: AI mto :: AI mels :: List.drop 5 (B 31)) = rowCells F8 := by simpa using hBm
          rw [hBr']
          exact hN _ (by refine Wk.of ?_ ?_ (by simp) <;> repeat' (first | exact ⟨_, rfl, WkT_rows rfl (Nat.zero_le _) hl31m h31m⟩ | (first | exact True.intro | exact ⟨_, rfl, wkt_same rfl⟩ | exact ⟨_, rfl, wkt_erase rfl⟩ | exact ⟨_, rfl, .inl .nild⟩ | exact ⟨_, rfl, .inl .nile⟩ | exact ⟨_, rfl, wkt_nils⟩ | exact wkt_same rfl | exact wkt_erase rfl | exact .inl .nild | exact .inl .nile | exact wkt_nils | exact WkB.same rfl | exact WkB_rows | exact WkB_nil | exact .dead _ | exact .iter _ _ | exact .glob _ _ | refine WkB_cons ?_ ?_ | refine And.intro ?_ ?_)))
        (simp (config := { maxSteps := 1000000 }) [])
        (refine AWcall_det h8 (by rfl) (by rfl) ?_)
        (simp (config := { maxSteps := 1000000 }) [])
        (first | exact hR _ _ (Fin_ret _ rfl rfl rfl) | exact hR _ _ (Fin_normal _ rfl rfl rfl) | exact hR _ _ (Fin_ret _ rfl rfl (by simp [AV.erase, AV.unview, hs]; done)) | exact hR _ _ (Fin_normal _ rfl rfl (by simp [AV.erase, AV.unview, hs]; done)) | fail "no end")
    · rw [if_pos z7] at hs
      have zb : (e7 == 0) = false := by simpa using z7
      (simp (config := { maxSteps := 1000000 }) [z7, zb])
      (first | exact hR _ _ (Fin_ret _ rfl rfl rfl) | exact hR _ _ (Fin_normal _ rfl rfl rfl) | exact hR _ _ (Fin_ret _ rfl rfl (by simp [AV.erase, AV.unview, hs]; done)) | exact hR _ _ (Fin_normal _ rfl rfl (by simp [AV.erase, AV.unview, hs]; done)) | fail "no end")
end
end Go.AE

/- The alignment of the reference. -/
set_option linter.unusedVariables false
namespace Go.AE
open Go
section
end
end Go.AE

/- The alignment of the reference: the function. -/
set_option linter.unusedVariables false
namespace Go.AE
open Go
section
end
/-! #### The state of the reference's check -/
section
end
end Go.AE

/- The reference's check of a block. -/
set_option linter.unusedVariables false
namespace Go.AE
open Go
/-- A failure has a reason. -/
def okC (r : CR) : Prop := ∀ e, r.2 = some e → e.1 ≠ 0
theorem okC.then {r : CR} {f : CS → CR} (h : okC r) (hf : ∀ s, okC (f s)) : okC (thenC r f) := by
  obtain ⟨s, e⟩ := r
  cases e with
  | none => exact hf s
  | some e => exact h
structure Inv14 (V L : List Int) (most : Int) (code : List Instr) (mcode : List Mach) (rows : List ARow) (T : CR) (x : Nat × CR) : Prop where
  le : x.1 ≤ rows.length
  eq : thenC x.2 (rowsC most code mcode (rows.drop x.1)) = T
  ok : okC x.2
  room : x.2.2 = none → Room V L x.2.1 (1 + needRs (rows.drop x.1))
section
end
end Go.AE

/- The reference's check of a block: the function. -/
set_option linter.unusedVariables false
namespace Go.AE
open Go
section
end
end Go.AE

/- The law of the numbers of a check. -/
set_option linter.unusedVariables false
namespace Go.AE
open Go
def vOf (b : Block) (l : List Pair) : List Int := l.map Pair.v ++ b.code.map Instr.d
def lOf (m : MBlock) (l : List Pair) : List Int := l.map Pair.l ++ (m.code.map Mach.dst ++ m.code.map fun x => regZ x.d)
theorem vlOf_ok (b : Block) (m : MBlock) (l : List Pair) : VLOk (vOf b l) (lOf m l) b.code m.code :=
  ⟨fun i hi => List.mem_append_right _ (List.mem_map_of_mem hi), fun x hx => ⟨List.mem_append_right _ (List.mem_append_left _ (List.mem_map_of_mem hx)), List.mem_append_right _ (List.mem_append_right _ (List.mem_map.2 ⟨x, hx, rfl⟩))⟩⟩
theorem vlOf_few {b : Block} {m : MBlock} {l : List Pair} (hl : l.length ≤ 80) (hb : b.code.length ≤ 60) (hm : m.code.length ≤ 200) : (vOf b l).length * (lOf m l).length < 100000 := by
  have h1 : (vOf b l).length ≤ 140 := by simp [vOf]; omega
  have h2 : (lOf m l).length ≤ 480 := by simp [lOf]; omega
  have := Nat.mul_le_mul h1 h2
  omega
theorem rowsC_room {V L : List Int} {most : Int} {b : List Instr} {m : List Mach} (hv : VLOk V L b m) : ∀ {rs : List ARow} {s : CS} {n : Nat}, Room V L s (n + needRs rs) → (∀ r ∈ rs, RowOk b m r) → Room V L (rowsC most b m rs s).1 n := by
  intro rs
  induction rs with
  | nil => intro s n h _; simpa [needRs, rowsC] using h
  | cons r rs ih =>
    intro s n h hr
    rw [needRs_cons] at h
    have hro := hr r (by simp)
    have hl1 : ((m.take r.mt).drop r.mf).length = r.mt - r.mf := by have := hro.hm; simp; omega
    have hl2 : ((b.take r.ct).drop r.cf).length = r.ct - r.cf := by have := hro.hc; simp; omega
    have h1 := rowC_room (n := n + needRs rs) (most := most) (r := r) (h.mono (by rw [hl1, hl2]; unfold needR; omega)) hv
    simp only [rowsC]
    generalize rowC most b m r s = q at h1
    obtain ⟨s1, e⟩ := q
    cases e with
    | some e => rw [thenC_some]; exact h1.mono (by omega)
    | none => rw [thenC_none]; exact ih h1 fun r hr' => hr r (by simp [hr'])
theorem runC_room {V L : List Int} {most : Int} {b : Block} {m : MBlock} (hv : VLOk V L b.code m.code) {rs : List ARow} {s : CS} {n : Nat} (h : Room V L s (n + 1 + needRs rs)) (hr : ∀ r ∈ rs, RowOk b.code m.code r) : Room V L (runC most b m rs s).1 n := by
  unfold runC
  have h1 := rowsC_room (most := most) hv h hr
  generalize rowsC most b.code m.code rs s = q at h1
  obtain ⟨s1, e⟩ := q
  cases e with
  | some e => rw [thenC_some]; exact h1.mono (by omega)
  | none =>
    rw [thenC_none]
    split
    · exact h1.mono (by omega)
    · exact h1.use _ _ _
theorem checkZ_room {V L : List Int} {b : Block} {m : MBlock} {l : List Pair} {most : Int} (hl : ∀ q ∈ l, q.v ∈ V ∧ q.l ∈ L) (hv : VLOk V L b.code m.code) (few : V.length * L.length < 100000) (hl0 : l.length < 100000)
    (hb0 : b.code.length ≤ 1000) (hm0 : m.code.length ≤ 1000) : (checkZ b m l most).largest < 100000 ∧ ∀ q ∈ (checkZ b m l most).out, q.v ∈ V ∧ q.l ∈ L := by
  obtain ⟨a1, a2, a3⟩ := alignZ_ok b.code m.code
  unfold checkZ
  split
  · exact ⟨hl0, fun q hq => by simp at hq⟩
  · by_cases h2 : (if (alignZ b.code m.code).2.2 = 0 ∧ termsZ b.term m.term = false then 20 else (alignZ b.code m.code).2.2) ≠ 0
    · simp only [if_pos h2]; exact ⟨hl0, fun q hq => by simp at hq⟩
    · simp only [if_neg h2]
      have hover : Over V L (makeP l) := ⟨srt_makeP l, fun q hq => hl q (mem_makeP.1 hq)⟩
      have hroom : Room V L ⟨makeP l, 0, l.length⟩ (0 + 1 + needRs (alignZ b.code m.code).1) := by
        refine ⟨hover, few, ?_, by simp only; omega⟩
        have h1 := needRs_le a1
        have h2 : (alignZ b.code m.code).1.length * (3 + m.code.length + b.code.length) ≤ 1001 * 2003 := Nat.mul_le_mul (by omega) (by omega)
        simp only
        omega
      have hr := runC_room (most := most) hv hroom a1
      generalize runC most b m (alignZ b.code m.code).1 ⟨makeP l, 0, l.length⟩ = r at hr
      obtain ⟨t, e⟩ := r
      refine ⟨hr.lg, fun q hq => ?_⟩
      simp only at hq
      split at hq
      · exact hr.over.mem q hq
      · simp at hq
section
theorem check_small {P : Program} {p : Nums} (A : All P p) (S : SortOk P p) (C : ClosOk P p) (b : Block) (m : MBlock) (l : List Pair) (most : Int) (hl : l.length ≤ 80) (hb : b.code.length ≤ 60) (hm : m.code.length ≤ 200) : CallsTo P p.blockcheck_Check [b.av, m.av, .d (pairsD l), AI most] [] fun o _ => o = .ret (checkZ b m l most).av :=
  blockcheck_Check_calls A S C b m l most (fun q hq => ⟨List.mem_append_left _ (List.mem_map_of_mem hq), List.mem_append_left _ (List.mem_map_of_mem hq)⟩) (vlOf_ok b m l) (vlOf_few hl hb hm) (by omega) (by omega) (by omega)
end
theorem checkZ_lg {b : Block} {m : MBlock} {l : List Pair} {most : Int} (hl : l.length ≤ 80) (hb : b.code.length ≤ 60) (hm : m.code.length ≤ 200) : (checkZ b m l most).largest < 100000 :=
  (checkZ_room (fun q hq => ⟨List.mem_append_left _ (List.mem_map_of_mem hq), List.mem_append_left _ (List.mem_map_of_mem hq)⟩) (vlOf_ok b m l) (vlOf_few hl hb hm) (by omega) (by omega) (by omega)).1
theorem rightZ_small {b : Block} {m : MBlock} {regs slots : Int} (h : rightZ b m regs slots = true) : b.code.length ≤ 60 ∧ m.code.length ≤ 200 := by
  unfold rightZ at h
  split at h
  · rename_i hs; obtain ⟨h1, h2, _⟩ := hs; omega
  · cases h
/-! #### The documented examples -/
def exB : Block := ⟨[⟨17, 0, 0, 0, 0⟩], ⟨1, 0, 0, 0⟩⟩
def exM : MBlock := ⟨[⟨18, 0, 0, 0, 0, 2, 1⟩, ⟨17, 0, 1, 0, 0, 0, 0⟩], ⟨1, 0, 0, 0⟩⟩
def exN : MBlock := ⟨[⟨17, 0, 1, 0, 0, 0, 0⟩], ⟨1, 0, 0, 0⟩⟩
section
set_option maxRecDepth 10000 in
theorem law14_awake_calls {P : Program} {p : Nums} (A : All P p) (S : SortOk P p) (C : ClosOk P p) : CallsTo P p.law14_awake [] [] fun o _ => o = .ret (AB true) := by
  refine A.law14_awake.run rfl fun R hR => ?_
  have h1 := check_small A S C exB exM [⟨0, 1⟩] 9 (by decide) (by decide) (by decide)
  have h2 := check_small A S C exB exN [⟨0, 1⟩] 9 (by decide) (by decide) (by decide)
  have h3 := check_small A S C exB exM [⟨0, 1⟩] 1 (by decide) (by decide) (by decide)
  have e1 : checkZ exB exM [⟨0, 1⟩] 9 = ⟨[⟨0, 1⟩, ⟨0, 2⟩], 0, 2, 5, 2⟩ := by decide +kernel
  have e2 : checkZ exB exN [⟨0, 1⟩] 9 = ⟨[], 21, 0, 2, 1⟩ := by decide +kernel
  have e3 : checkZ exB exM [⟨0, 1⟩] 1 = ⟨[], 24, 0, 2, 2⟩ := by decide +kernel
  rw [e1] at h1
  rw [e2] at h2
  rw [e3] at h3
  simp only [Res.av] at h1 h2 h3
  have hm := ref11_Same_calls A [⟨0, 1⟩, ⟨0, 2⟩] [⟨0, 1⟩, ⟨0, 2⟩] (by decide) (by decide)
  rw [decide_eq_true rfl] at hm
  (simp (config := { maxSteps := 1000000 }) [ic_law14_awake])
  (refine AWcall_det h1 (by rfl) (by rfl) ?_)
  (simp (config := { maxSteps := 1000000 }) [])
  (refine AWcall_det h2 (by rfl) (by rfl) ?_)
  (simp (config := { maxSteps := 1000000 }) [])
  (refine AWcall_det h3 (by rfl) (by rfl) ?_)
  (simp (config := { maxSteps := 1000000 }) [])
  (refine AWcall_det hm (by rfl) (by rfl) ?_)
  (simp (config := { maxSteps := 1000000 }) [pairsD])
  (first | exact hR _ _ (Fin_ret _ rfl rfl rfl) | exact hR _ _ (Fin_normal _ rfl rfl rfl) | exact hR _ _ (Fin_ret _ rfl rfl (by simp [AV.erase, AV.unview]; done)) | exact hR _ _ (Fin_normal _ rfl rfl (by simp [AV.erase, AV.unview]; done)) | fail "no end")
set_option maxRecDepth 10000 in
theorem law14_BlockcheckSteps_calls {P : Program} {p : Nums} (A : All P p) (S : SortOk P p) (C : ClosOk P p) (b : Block) (m : MBlock) (l : List Pair) (most regs slots : Int) (hok : okM m) : CallsTo P p.law14_BlockcheckSteps [b.av, m.av, .d (pairsD l), AI most, AI regs, AI slots] [] fun o _ => o = .ret (AB true) := by
  refine A.law14_BlockcheckSteps.run rfl fun R hR => ?_
  have hr := law14_right_calls A b m regs slots hok
  have hsm := rightZ_small (b := b) (m := m) (regs := regs) (slots := slots)
  obtain ⟨rt, hrt⟩ : ∃ x, x = rightZ b m regs slots := ⟨_, rfl⟩
  rw [← hrt] at hr hsm
  have hmk := ref11_Make_calls A l
  have hml := makeP_len l
  obtain ⟨x, hx⟩ : ∃ x, x = makeP l := ⟨_, rfl⟩
  rw [← hx] at hmk hml
  have hck := check_small A S C b m x most
  have hbd := checkZ_bd b m x most (makeP_len x)
  have hlg := checkZ_lg (b := b) (m := m) (l := x) (most := most)
  obtain ⟨T, hT⟩ : ∃ T, T = checkZ b m x most := ⟨_, rfl⟩
  rw [← hT] at hck hbd hlg
  obtain ⟨code, kind, ta, to, els⟩ := b
  obtain ⟨mcode, mkind, mta, mto, mels⟩ := m
  obtain ⟨out, err, at_, st, lg⟩ := T
  simp only [Block.av, MBlock.av, Res.av] at hr hck hsm hbd hlg
  (simp (config := { maxSteps := 1000000 }) [ic_law14_BlockcheckSteps, Block.av, MBlock.av, pairsD])
  (refine AWcall_det (law14_awake_calls A S C) (by rfl) (by rfl) ?_)
  (simp (config := { maxSteps := 1000000 }) [])
  ((first | refine AW_cond_split _ (by rfl) (fun h2 => ?_) (fun h2 => ?_) | refine AWop_split _ (by rfl) (fun h2 => ?_) (fun h2 => ?_)) <;> (try simp only [decide_eq_true_eq, decide_eq_false_iff_not, Bool.not_eq_true', Bool.not_eq_false', Bool.and_eq_true, Bool.or_eq_true, beq_iff_eq, bne_iff_ne, ne_eq, beq_eq_false_iff_ne, bne_eq_false_iff_eq] at h2))
  · (simp (config := { maxSteps := 1000000 }) [h2])
    (refine AWcall_det (law14_awake_calls A S C) (by rfl) (by rfl) ?_)
    (simp (config := { maxSteps := 1000000 }) [])
    (first | exact hR _ _ (Fin_ret _ rfl rfl rfl) | exact hR _ _ (Fin_normal _ rfl rfl rfl) | exact hR _ _ (Fin_ret _ rfl rfl (by simp [AV.erase, AV.unview]; done)) | exact hR _ _ (Fin_normal _ rfl rfl (by simp [AV.erase, AV.unview]; done)) | fail "no end")
  (simp (config := { maxSteps := 1000000 }) [h2])
  (refine AWcall_det hr (by rfl) (by rfl) ?_)
  cases rt with
  | false =>
    (simp (config := { maxSteps := 1000000 }) [])
    (refine AWcall_det (law14_awake_calls A S C) (by rfl) (by rfl) ?_)
    (simp (config := { maxSteps := 1000000 }) [])
    (first | exact hR _ _ (Fin_ret _ rfl rfl rfl) | exact hR _ _ (Fin_normal _ rfl rfl rfl) | exact hR _ _ (Fin_ret _ rfl rfl (by simp [AV.erase, AV.unview]; done)) | exact hR _ _ (Fin_normal _ rfl rfl (by simp [AV.erase, AV.unview]; done)) | fail "no end")
  | true =>
    obtain ⟨q1, q2⟩ := hsm rfl
    (simp (config := { maxSteps := 1000000 }) [])
    (refine AWcall_det (hmk (by omega)) (by rfl) (by rfl) ?_)
    (simp (config := { maxSteps := 1000000 }) [pairsD])
    (refine AWcall_det (hck (by omega) q1 q2) (by rfl) (by rfl) ?_)
    obtain ⟨b1, b2, b3, b4, b5, b6⟩ := hbd
    have b7 := hlg (by omega) q1 q2
    have w1 : IntKind.i64.wrap (3 * (mcode.length : Int)) = 3 * (mcode.length : Int) := wrap_i64 (by omega) (by omega)
    have w2 : IntKind.i64.wrap (3 * (mcode.length : Int) + (code.length : Int)) = 3 * (mcode.length : Int) + (code.length : Int) := wrap_i64 (by omega) (by omega)
    have w3 : IntKind.i64.wrap (3 * (mcode.length : Int) + (code.length : Int) + 1) = 3 * (mcode.length : Int) + (code.length : Int) + 1 := wrap_i64 (by omega) (by omega)
    have w4 : IntKind.i64.wrap ((lg : Int) + 1) = (lg : Int) + 1 := wrap_i64 (by omega) (by omega)
    have hmul : (3 * mcode.length + code.length + 1) * (lg + 1) ≤ 661 * 100000 := Nat.mul_le_mul (by omega) (by omega)
    have hcast : ((3 * mcode.length + code.length + 1 : Nat) : Int) * ((lg + 1 : Nat) : Int) = (((3 * mcode.length + code.length + 1) * (lg + 1) : Nat) : Int) := (Int.natCast_mul _ _).symm
    obtain ⟨K, hK⟩ : ∃ K, K = (3 * mcode.length + code.length + 1) * (lg + 1) := ⟨_, rfl⟩
    rw [← hK] at hmul hcast b1
    have hcast' : (3 * (mcode.length : Int) + (code.length : Int) + 1) * ((lg : Int) + 1) = (K : Int) := by rw [← hcast]; simp
    have w5 : IntKind.i64.wrap (K : Int) = (K : Int) := wrap_i64 (by omega) (by omega)
    have b1' : (st : Int) ≤ (K : Int) := by omega
    have b2' : (x.length : Int) ≤ (lg : Int) := by omega
    have b3' : (out.length : Int) ≤ (lg : Int) := by omega
    (simp (config := { maxSteps := 1000000 }) [pairsD, w1, w2, w3, w4, hcast', w5, b1, b2, b3, b1', b2', b3', b5, b6])
    by_cases he : err = 0
    · have b4' := b4 he
      (simp (config := { maxSteps := 1000000 }) [pairsD, he, b4', b5, b6])
      (first | exact hR _ _ (Fin_ret _ rfl rfl rfl) | exact hR _ _ (Fin_normal _ rfl rfl rfl) | exact hR _ _ (Fin_ret _ rfl rfl (by simp [AV.erase, AV.unview]; done)) | exact hR _ _ (Fin_normal _ rfl rfl (by simp [AV.erase, AV.unview]; done)) | fail "no end")
    · (simp (config := { maxSteps := 1000000 }) [pairsD, he, b5, b6])
      (first | exact hR _ _ (Fin_ret _ rfl rfl rfl) | exact hR _ _ (Fin_normal _ rfl rfl rfl) | exact hR _ _ (Fin_ret _ rfl rfl (by simp [AV.erase, AV.unview]; done)) | exact hR _ _ (Fin_normal _ rfl rfl (by simp [AV.erase, AV.unview]; done)) | fail "no end")
end
end Go.AE

/- A larger invariant. -/
set_option linter.unusedVariables false
namespace Go.AE
open Go
/-- Less is known, and less was done. -/
structure Le (s t : CS) : Prop where
  srt : Srt s.set
  sub : ∀ q ∈ s.set, q ∈ t.set
  steps : s.steps ≤ t.steps
  lg : s.largest ≤ t.largest
theorem Le.len {s t : CS} (h : Le s t) : s.set.length ≤ t.set.length := nodup_le (srt_nodup h.srt) h.sub
def LeG (V L : List Int) (r r2 : CR) : Prop := r.2 = none → r2.2 = none ∧ Le r.1 r2.1 ∧ Over V L r2.1.set
def Er (V L : List Int) (r : CR) : Prop := (∀ e, r.2 = some e → e.1 = 21) ∧ Over V L r.1.set
theorem LeG.then {V L : List Int} {r r2 : CR} {f g : CS → CR} (h : LeG V L r r2) (hf : ∀ s t, Le s t → Over V L t.set → LeG V L (f s) (g t)) : LeG V L (thenC r f) (thenC r2 g) := by
  obtain ⟨s, e⟩ := r
  obtain ⟨t, e2⟩ := r2
  cases e with
  | some e => intro h; cases h
  | none =>
    obtain ⟨h1, h2, h3⟩ := h rfl
    simp only at h1 h2 h3
    subst h1
    exact hf s t h2 h3
theorem LeG.same {V L : List Int} {s t : CS} (h : Le s t) (ho : Over V L t.set) : LeG V L (s, none) (t, none) := fun _ => ⟨rfl, h, ho⟩
theorem Er.then {V L : List Int} {r : CR} {f : CS → CR} (h : Er V L r) (hf : ∀ s, Over V L s.set → Er V L (f s)) : Er V L (thenC r f) := by
  obtain ⟨s, e⟩ := r
  cases e with
  | some e => exact h
  | none => exact hf s h.2
theorem Er.same {V L : List Int} {s : CS} (h : Over V L s.set) : Er V L (s, none) := ⟨fun e he => (by cases he), h⟩
theorem LeG.become {V L : List Int} {most : Int} (few : V.length * L.length < 100000) (hm : 100000 ≤ most) {s t : CS} {l l2 : List Pair} {at_ : Int} (h : Le s t) (hs : Srt l) (hsub : ∀ q ∈ l, q ∈ l2) (ho : Over V L l2) : LeG V L (becomeC most (costC s) l at_) (becomeC most (costC t) l2 at_) := by
  intro _
  have h1 := nodup_le (srt_nodup hs) hsub
  have h2 := h.len
  have h3 := Nat.lt_of_le_of_lt ho.len few
  refine ⟨?_, ⟨hs, hsub, ?_, ?_⟩, ho⟩
  · simp only [becomeC]; rw [if_neg (by omega)]
  · have := h.steps; simp only [becomeC, costC]; omega
  · have := h.lg; simp only [becomeC, costC]; omega
theorem Er.become {V L : List Int} {most : Int} (few : V.length * L.length < 100000) (hm : 100000 ≤ most) {s : CS} {l2 : List Pair} {at_ : Int} (ho : Over V L l2) : Er V L (becomeC most (costC s) l2 at_) := by
  have h3 := Nat.lt_of_le_of_lt ho.len few
  refine ⟨fun e he => ?_, ho⟩
  simp only [becomeC] at he
  rw [if_neg (by omega)] at he
  cases he
theorem LeG.use {V L : List Int} {s t : CS} {v x at_ : Int} (h : Le s t) (ho : Over V L t.set) : LeG V L (useC s v x at_) (useC t v x at_) := by
  intro he
  have h2 := h.len
  simp only [useC] at he ⊢
  split at he
  · rename_i hq
    rw [if_pos (h.sub _ hq)]
    exact ⟨rfl, ⟨h.srt, h.sub, by have := h.steps; simp only [costC]; omega, h.lg⟩, ho⟩
  · cases he
theorem Er.use {V L : List Int} {s : CS} {v x at_ : Int} (ho : Over V L s.set) : Er V L (useC s v x at_) := by
  refine ⟨fun e he => ?_, ho⟩
  simp only [useC] at he
  split at he
  · cases he
  · injection he with he; subst he; rfl
section
end
end Go.AE

/- The law of the reference, of a check. -/
set_option linter.unusedVariables false
namespace Go.AE
open Go
section
end
section
end
end Go.AE

/- The readings of the program's own types. -/
set_option linter.unusedVariables false
namespace Go.AE
open Go
def ltInstr : List LT := [ltI, ltI, ltI, ltI, ltI]
def ltBlock : List LT := [.sl ltInstr, ltI, ltI, ltI, ltI]
theorem instr_of {r : List D} (h : HasL ltInstr r) : ∃ i : Instr, r = i.row := by
  obtain ⟨_, _, rfl, h0, h⟩ := h.cons_inv
  obtain ⟨_, _, rfl, h1, h⟩ := h.cons_inv
  obtain ⟨_, _, rfl, h2, h⟩ := h.cons_inv
  obtain ⟨_, _, rfl, h3, h⟩ := h.cons_inv
  obtain ⟨_, _, rfl, h4, h⟩ := h.cons_inv
  obtain rfl := h.nil_inv
  obtain ⟨a, rfl, _⟩ := h0.int_inv
  obtain ⟨b, rfl, _⟩ := h1.int_inv
  obtain ⟨c, rfl, _⟩ := h2.int_inv
  obtain ⟨d, rfl, _⟩ := h3.int_inv
  obtain ⟨e, rfl, _⟩ := h4.int_inv
  exact ⟨⟨a, b, c, d, e⟩, rfl⟩
theorem block_of {r : List D} (h : HasL ltBlock r) : ∃ b : Block, r = b.row := by
  obtain ⟨_, _, rfl, h0, h⟩ := h.cons_inv
  obtain ⟨_, _, rfl, h1, h⟩ := h.cons_inv
  obtain ⟨_, _, rfl, h2, h⟩ := h.cons_inv
  obtain ⟨_, _, rfl, h3, h⟩ := h.cons_inv
  obtain ⟨_, _, rfl, h4, h⟩ := h.cons_inv
  obtain rfl := h.nil_inv
  obtain ⟨rows, rfl, _, hr⟩ := h0.sl_inv
  obtain ⟨code, rfl⟩ := rows_of (fun r hr => instr_of hr) hr
  obtain ⟨b, rfl, _⟩ := h1.int_inv
  obtain ⟨c, rfl, _⟩ := h2.int_inv
  obtain ⟨d, rfl, _⟩ := h3.int_inv
  obtain ⟨e, rfl, _⟩ := h4.int_inv
  exact ⟨⟨code, ⟨b, c, d, e⟩⟩, rfl⟩
end Go.AE

/- The readings of blocks. -/
set_option linter.unusedVariables false
namespace Go.AE
open Go
def ltMach : List LT := [ltI, ltI, ltI, ltI, ltI, ltI, ltI]
def ltMBlock : List LT := [.sl ltMach, ltI, ltI, ltI, ltI]
theorem int_inv2 {d : D} (h : HasT ltI d) : ∃ n, d = I n ∧ okZ n := by
  obtain ⟨n, rfl, hw⟩ := h.int_inv
  refine ⟨n, rfl, ?_⟩
  simp [Lit.wf, IntKind.min, IntKind.max, IntKind.signed, IntKind.bits] at hw
  exact ⟨by omega, by omega⟩
theorem mach_of {r : List D} (h : HasL ltMach r) : ∃ i : Mach, r = i.row ∧ okZ i.dst ∧ okZ i.src := by
  obtain ⟨_, _, rfl, h0, h⟩ := h.cons_inv
  obtain ⟨_, _, rfl, h1, h⟩ := h.cons_inv
  obtain ⟨_, _, rfl, h2, h⟩ := h.cons_inv
  obtain ⟨_, _, rfl, h3, h⟩ := h.cons_inv
  obtain ⟨_, _, rfl, h4, h⟩ := h.cons_inv
  obtain ⟨_, _, rfl, h5, h⟩ := h.cons_inv
  obtain ⟨_, _, rfl, h6, h⟩ := h.cons_inv
  obtain rfl := h.nil_inv
  obtain ⟨a, rfl, _⟩ := h0.int_inv
  obtain ⟨b, rfl, _⟩ := h1.int_inv
  obtain ⟨c, rfl, _⟩ := h2.int_inv
  obtain ⟨d, rfl, _⟩ := h3.int_inv
  obtain ⟨e, rfl, _⟩ := h4.int_inv
  obtain ⟨f, rfl, o5⟩ := int_inv2 h5
  obtain ⟨g, rfl, o6⟩ := int_inv2 h6
  exact ⟨⟨a, b, c, d, e, f, g⟩, rfl, o5, o6⟩
theorem machs_of {rows : List (List D)} (h : ∀ r ∈ rows, HasL ltMach r) : ∃ l : List Mach, rows = l.map Mach.row ∧ ∀ x ∈ l, okZ x.dst ∧ okZ x.src := by
  induction rows with
  | nil => exact ⟨[], rfl, by simp⟩
  | cons r rows ih =>
    obtain ⟨a, rfl, ha⟩ := mach_of (h r (by simp))
    obtain ⟨l, rfl, hb⟩ := ih fun r hr => h r (by simp [hr])
    refine ⟨a :: l, rfl, fun n hn => ?_⟩
    rcases List.mem_cons.1 hn with rfl | hn
    · exact ha
    · exact hb n hn
theorem mblock_row_of {r : List D} (h : HasL ltMBlock r) : ∃ b : MBlock, r = b.row ∧ okM b := by
  obtain ⟨_, _, rfl, h0, h⟩ := h.cons_inv
  obtain ⟨_, _, rfl, h1, h⟩ := h.cons_inv
  obtain ⟨_, _, rfl, h2, h⟩ := h.cons_inv
  obtain ⟨_, _, rfl, h3, h⟩ := h.cons_inv
  obtain ⟨_, _, rfl, h4, h⟩ := h.cons_inv
  obtain rfl := h.nil_inv
  obtain ⟨rows, rfl, _, hr⟩ := h0.sl_inv
  obtain ⟨code, rfl, hok⟩ := machs_of hr
  obtain ⟨b, rfl, _⟩ := h1.int_inv
  obtain ⟨c, rfl, _⟩ := h2.int_inv
  obtain ⟨d, rfl, _⟩ := h3.int_inv
  obtain ⟨e, rfl, _⟩ := h4.int_inv
  exact ⟨⟨code, ⟨b, c, d, e⟩⟩, rfl, hok⟩
theorem mblockA_of {ds : List D} (h : HasL ltMBlock ds) : ∃ b : MBlock, .agg (ds.map AV.d) = b.av ∧ okM b := by
  obtain ⟨b, rfl, hb⟩ := mblock_row_of h
  exact ⟨b, rfl, hb⟩
theorem blockA_of {ds : List D} (h : HasL ltBlock ds) : ∃ b : Block, .agg (ds.map AV.d) = b.av := by
  obtain ⟨b, rfl⟩ := block_of h
  exact ⟨b, rfl⟩
end Go.AE
