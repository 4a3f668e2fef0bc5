/- A part of the proof: the evaluator over abstract values, its codes, the contracts of the functions. -/
import Derived.Test.YtemgahndfjaogaaGreatH4
set_option linter.unusedVariables false
set_option linter.unusedSimpArgs false
namespace Go.AE
open Go
theorem Jtnz (r : CR) (f g : CS → CR) : thenC (thenC r f) g = thenC r fun s => thenC (f s) g := by
 obtain ⟨s, e⟩ := r
 cases e <;> rfl
theorem Jto0 (r : CR) : thenC r (fun s => (s, none)) = r := by
 obtain ⟨s, e⟩ := r
 cases e <;> rfl
def okC (r : CR) : Prop := ∀ e, r.2 = some e → e.1 ≠ 0
theorem Jtgv (s : CS) : okC (s, none) := fun e h => by cases h
theorem okC.then {r : CR} {f : CS → CR} (h : okC r) (hf : ∀ s, okC (f s)) : okC (thenC r f) := by
 obtain ⟨s, e⟩ := r
 cases e with
 | none => exact hf s
 | some e => exact h
theorem Jtgq (most : Int) (s : CS) (l : List Pair) (at_ : Int) : okC (Jt5e most s l at_) := by
 intro e he
 simp only [Jt5e] at he
 split at he
 ·injection he with he; subst he; simp
 ·cases he
theorem Jtgx (s : CS) (v t at_ : Int) : okC (useC s v t at_) := by
 intro e he
 simp only [useC] at he
 split at he
 ·cases he
 ·injection he with he; subst he; simp
theorem Jtgr (most at_ : Int) : ∀ (l : List Instr) (s : CS), okC (copyC most at_ l s) := by
 intro l
 induction l with
 | nil => intro s; exact Jtgv s
 | cons i l ih => intro s; exact (Jtgq _ _ _ _).then fun s => ih s
theorem Jtgu (most : Int) : ∀ (l : List Mach) (k : Nat) (s : CS), okC (moveC most k l s) := by
 intro l
 induction l with
 | nil => intro k s; exact Jtgv s
 | cons i l ih => intro k s; exact (Jtgq _ _ _ _).then fun s => ih _ s
theorem Jtgs (most : Int) (s : CS) (i : Instr) (m : Mach) (at_ : Int) : okC (instrC most s i m at_) := by
 unfold instrC
 refine okC.then ?_ fun s => okC.then ?_ fun s => ?_
 ·split
  ·exact Jtgx _ _ _ _
  ·exact Jtgv _
 ·split
  ·exact Jtgx _ _ _ _
  ·exact Jtgv _
 ·split
  ·exact Jtgq _ _ _ _
  ·exact Jtgv _
theorem Jtgt (most : Int) (b : List Instr) (m : List Mach) (r : ARow) (s : CS) : okC (lastC most b m r s) := by
 unfold lastC
 split
 ·split
  ·exact Jtgs _ _ _ _ _
  ·exact Jtgv _
 ·exact Jtgv _
theorem Jtgw (most : Int) (b : List Instr) (m : List Mach) (r : ARow) (s : CS) : okC (rowC most b m r s) := (Jtgr _ _ _ _).then fun s => (Jtgu _ _ _ _).then fun s => Jtgt _ _ _ _ _
theorem Jt4t (code : List Instr) (mach : List Mach) : (alignZ code mach).2.2 = 0 ∨ (alignZ code mach).2.2 = 20 := by
 have : ∀ (f i k : Nat) (rows : List ARow), (alignS code mach f i k rows).2.2 = 0 ∨ (alignS code mach f i k rows).2.2 = 20 := by
  intro f
  induction f with
  | zero => intro i k rows; exact .inr rfl
  | succ f ih =>
   intro i k rows
   simp only [alignS]
   split
   ·exact .inl rfl
   ·split
    ·split
     ·exact ih _ _ _
     ·exact .inr rfl
    ·exact .inr rfl
 exact this _ _ _ _
theorem Jt4q {code : List Instr} {mach : List Mach} : ∀ (f i k : Nat) (rows : List ARow), (alignS code mach f i k rows).2.2 = 0 → (alignS code mach f i k rows).2.1 = mach.length := by
 intro f
 induction f with
 | zero => intro i k rows h; simp [alignS] at h
 | succ f ih =>
  intro i k rows
  simp only [alignS]
  split
  ·rename_i h; intro _; exact h.2
  ·split
   ·split
    ·exact ih _ _ _
    ·intro h; simp at h
   ·intro h; simp at h
def F14 (code : List Instr) (kind ta to els : Int) (mcode : List Mach) (mkind mta mto mels most : Int) (rows : List ARow) (x : Nat × CR) : ASt :=
 ⟨[(14, AI x.1), (13, AI mcode.length), (10, .d (.sl (rows.map ARow.row))), (9, .ptr 3 0), (8, .ptr 2 0), (5, .ptr 1 0), (4, .ptr 0 0), (3, AI most)],
  [.mem [.d (.sl (code.map Instr.row)), AI kind, AI ta, AI to, AI els], .mem [.d (.sl (mcode.map Mach.row)), AI mkind, AI mta, AI mto, AI mels], .mem [.nils, AI 0, AI 0, AI 0, AI 0], .mem (resR x.2)]⟩
structure Inv14 (V L : List Int) (most : Int) (code : List Instr) (mcode : List Mach) (rows : List ARow) (T : CR) (x : Nat × CR) : Prop where
 le : x.1 ≤ rows.length
 eq : thenC x.2 (rowsC most code mcode (rows.drop x.1)) = T
 ok : okC x.2
 room : x.2.2 = none → Room V L x.2.1 (1 + needRs (rows.drop x.1))
theorem bne0 {e : Int} (h : e ≠ 0) : (e == 0) = false := by simpa using h
section
set_option maxHeartbeats 4000000 in
theorem Jtjg {P : Program} {p : Nums} (A : All P p) {V L : List Int} (code : List Instr) (kind ta to els : Int) (mcode : List Mach) (mkind mta mto mels most : Int) (rows : List ARow) (T : CR) (hv : VLOk V L code mcode) (hr : ∀ r ∈ rows, RowOk code mcode r)
  (hb0 : code.length ≤ 1000) (hm0 : mcode.length ≤ 1000) (hrl : rows.length < 1000000) (Q : AExit → ASt → Prop)
  (hQ : okC T → (T.2 = none → Room V L T.1 1) → Q (.exit 0) ⟨(61, AB false) :: (60, AI rows.length) :: (59, .d (.sl (rows.map ARow.row))) :: (58, AI rows.length) :: (F14 code kind ta to els mcode mkind mta mto mels most rows (rows.length, T)).env, (F14 code kind ta to els mcode mkind mta mto mels most rows (rows.length, T)).H⟩) (x : Nat × CR) (hx : Inv14 V L most code mcode rows T x) (N : ASt → Prop)
  (hN : ∀ (st' : ASt) (s' : Nat × CR), Inv14 V L most code mcode rows T s' → Wk 0 st' (F14 code kind ta to els mcode mkind mta mto mels most rows s') → rows.length - s'.1 < rows.length - x.1 → N st') :
  AW P 0 (Jqme p) (AExit.then N Q) (F14 code kind ta to els mcode mkind mta mto mels most rows x) := by
 obtain ⟨j, r⟩ := x
 obtain ⟨hj, hT, hok, hR1⟩ := hx
 simp only at hj hT hok hR1
 simp only [F14] at hQ ⊢
 (simp (maxSteps := 1000000) [])
 ((first | refine Xc (fun h2 => ?_) (fun h2 => ?_) | refine Xo (fun h2 => ?_) (fun h2 => ?_)) <;> (try simp only [Xz, Xy] at h2))
 ·have hjl : j < rows.length := by simpa using h2
  have hji : rows[j]? = some rows[j] := by simp [hjl]
  have hw := Jtp7 (k := j) (by omega)
  rw [Jt7s hjl] at hT hR1
  rw [Jtgd] at hR1
  simp only [rowsC] at hT
  have hro := hr _ (List.getElem_mem hjl)
  obtain ⟨row, hrow⟩ : ∃ row, row = rows[j] := ⟨_, rfl⟩
  rw [← hrow] at hT hR1 hro hji
  obtain ⟨r3, hr3⟩ : ∃ r3, r3 = thenC r (rowC most code mcode row) := ⟨_, rfl⟩
  have hI3 : Inv14 V L most code mcode rows T (j + 1, r3) := by
   refine ⟨hjl, ?_, ?_, ?_⟩
   ·rw [hr3, Jtnz]; exact hT
   ·rw [hr3]; exact hok.then fun s => Jtgw _ _ _ _ s
   ·intro hn
    rw [hr3] at hn ⊢
    obtain ⟨s, e⟩ := r
    cases e with
    | some e => cases hn
    | none =>
     have hl1 : ((mcode.take row.mt).drop row.mf).length = row.mt - row.mf := by have := hro.hm; simp; omega
     have hl2 : ((code.take row.ct).drop row.cf).length = row.ct - row.cf := by have := hro.hc; simp; omega
     exact Jtkp (n := 1 + needRs (rows.drop (j + 1))) (most := most) (r := row) ((hR1 rfl).mono (by rw [hl1, hl2]; unfold needR; omega)) hv
  have hend : ∀ st', Wk 0 st' (F14 code kind ta to els mcode mkind mta mto mels most rows (j + 1, r3)) → N st' := fun st' h => hN st' _ hI3 h (by simp only; omega)
  obtain ⟨cf, ct, mf, mt, src, mach⟩ := row
  obtain ⟨⟨hc1, hc2⟩, ⟨hm1, hm2⟩, hsr⟩ := hro
  simp only at hc1 hc2 hm1 hm2 hsr
  simp only [F14] at hend
  obtain ⟨sub, hsub⟩ : ∃ l, l = (code.take ct).drop cf := ⟨_, rfl⟩
  obtain ⟨msub, hmsub⟩ : ∃ l, l = (mcode.take mt).drop mf := ⟨_, rfl⟩
  have hsl : sub.length = ct - cf := by rw [hsub]; simp; omega
  have hml : msub.length = mt - mf := by rw [hmsub]; simp; omega
  obtain ⟨T1, hT1⟩ : ∃ T1, T1 = thenC r (copyC most mf sub) := ⟨_, rfl⟩
  have hspec : r3 = thenC T1 fun s => thenC (moveC most mf msub s) (lastC most code mcode ⟨cf, ct, mf, mt, src, mach⟩) := by rw [hr3, hT1, Jtnz, hsub, hmsub]; rfl
  have hR1' : r.2 = none → Room V L r.1 (3 + (mt - mf) + (ct - cf)) := fun h => (hR1 h).mono (by simp only [needR]; omega)
  clear hT hR1 hr3 hI3 hN
  have hlen6 : ∀ x : ARow, x.row.length = 6 := fun x => rfl
  have hrow' := hrow.symm
  (simp (maxSteps := 1000000) [h2, List.getElem?_map, hji, hrow', ARow.row])
  refine Jt9 (fun x : Nat × CR => ⟨[(16, AI x.1), (15, .ptr 4 0), (14, AI j), (13, AI mcode.length), (10, .d (.sl (rows.map ARow.row))), (9, .ptr 3 0), (8, .ptr 2 0), (5, .ptr 1 0), (4, .ptr 0 0), (3, AI most)],
   [.mem [.d (.sl (code.map Instr.row)), AI kind, AI ta, AI to, AI els], .mem [.d (.sl (mcode.map Mach.row)), AI mkind, AI mta, AI mto, AI mels], .mem [.nils, AI 0, AI 0, AI 0, AI 0], .mem (resR x.2), .mem [AI cf, AI ct, AI mf, AI mt, AI src, AI mach]]⟩)
   (fun x => cf ≤ x.1 ∧ x.1 ≤ ct ∧ thenC x.2 (copyC most mf (sub.drop (x.1 - cf))) = T1 ∧ okC x.2 ∧ (x.2.2 = none → Room V L x.2.1 (3 + (mt - mf) + (ct - x.1)))) (fun x => ct - x.1) (cf, r) ?_ ?_ ?_
  ·refine ⟨Nat.le_refl _, hc1, ?_, hok, hR1'⟩
   simp [hT1]
  ·obtain ⟨s, e⟩ := r
   cases e <;> (simp only [resR, pairsD]; (exact wkA))
  rintro ⟨i, u⟩ ⟨hi0, hi1, hTi, hoki, hRi⟩ N2 hN2
  simp only at hi0 hi1 hTi hoki hRi
  obtain ⟨s, e⟩ := u
  cases e with
  | some e =>
   rw [Jto2] at hTi
   rw [← hTi, Jto2] at hspec
   have he : e.1 ≠ 0 := hoki e rfl
   have heb := bne0 he
   simp only [resR]
   (simp (maxSteps := 1000000) [])
   by_cases hi : i < ct
   all_goals (
    (simp (maxSteps := 1000000) [hi, he, heb])
    refine Jt9 (fun k : Nat => ⟨[(17, AI k), (15, .ptr 4 0), (14, AI j), (13, AI mcode.length), (10, .d (.sl (rows.map ARow.row))), (9, .ptr 3 0), (8, .ptr 2 0), (5, .ptr 1 0), (4, .ptr 0 0), (3, AI most)],
     [.mem [.d (.sl (code.map Instr.row)), AI kind, AI ta, AI to, AI els], .mem [.d (.sl (mcode.map Mach.row)), AI mkind, AI mta, AI mto, AI mels], .mem [.nils, AI 0, AI 0, AI 0, AI 0], .mem [.d (.sl []), AI e.1, AI e.2, AI s.steps, AI s.largest], .mem [AI cf, AI ct, AI mf, AI mt, AI src, AI mach]]⟩)
     (fun k => k = mf) (fun k => 0) mf rfl (by (exact wkA)) ?_
    rintro k rfl N3 hN3
    have hclose : ∀ st', Wk 0 st' ⟨[(14, AI ((j + 1 : Nat) : Int)), (13, AI mcode.length), (10, .d (.sl (rows.map ARow.row))), (9, .ptr 3 0), (8, .ptr 2 0), (5, .ptr 1 0), (4, .ptr 0 0), (3, AI most)],
     [.mem [.d (.sl (code.map Instr.row)), AI kind, AI ta, AI to, AI els], .mem [.d (.sl (mcode.map Mach.row)), AI mkind, AI mta, AI mto, AI mels], .mem [.nils, AI 0, AI 0, AI 0, AI 0], .mem [.d (.sl []), AI e.1, AI e.2, AI s.steps, AI s.largest]]⟩ → N st' := by
     intro st' h; exact hend st' (by rw [hspec]; exact h)
    (simp (maxSteps := 1000000) [])
    by_cases hk : k < mt
    all_goals (
     (simp (maxSteps := 1000000) [hk, he, heb])
     by_cases hs0 : src < 0
     ·(simp (maxSteps := 1000000) [hs0, hw]); exact hclose _ (by (exact wkA))
     ·(simp (maxSteps := 1000000) [hs0, he, heb, hw]); exact hclose _ (by (exact wkA))))
  | none =>
   rw [Jto1] at hTi
   have hRi : Room V L s (3 + (mt - mf) + (ct - i)) := hRi rfl
   simp only [resR]
   (simp (maxSteps := 1000000) [])
   by_cases hi : i < ct
   ·have hwi := Jtp7 (k := i) (by omega)
    have hicl : i < code.length := by omega
    have hci : code[i]? = some code[i] := by simp [hicl]
    have hjl2 : i - cf < sub.length := by omega
    have hmj : sub[i - cf] = code[i] := by simp [hsub]; congr 1; omega
    rw [Jt7s hjl2, hmj] at hTi
    simp only [copyC] at hTi
    rw [show i - cf + 1 = i + 1 - cf by omega] at hTi
    have hxv : code[i].d ∈ V := hv.v _ (List.getElem_mem hicl)
    rw [show ct - i = (ct - (i + 1)) + 1 by omega, ← Nat.add_assoc] at hRi
    have hR2 := hRi.copyStep hxv most mf (a := code[i].a)
    have hok2 := Jtgq most (costC s) (copyP s.set code[i].d code[i].a) mf
    have hl0 := hRi.len
    have hst := hRi.steps
    have hlg := hRi.lg
    have hol := Nat.lt_of_le_of_lt (hRi.over.copy hxv (a := code[i].a)).len hRi.few
    have hcp := Jtj4 A s.set code[i].d code[i].a hl0
    rw [Jtil hRi.over.srt] at hcp
    obtain ⟨cl, hcl⟩ : ∃ cl, cl = copyP s.set code[i].d code[i].a := ⟨_, rfl⟩
    rw [← hcl] at hTi hR2 hcp hol hok2
    have hg := Jtjf A s cl most mf hl0 (by omega) hol hlg
    obtain ⟨⟨t2, e2⟩, h2r⟩ : ∃ r, r = Jt5e most (costC s) cl mf := ⟨_, rfl⟩
    rw [← h2r] at hg hTi hR2 hok2
    (simp (maxSteps := 1000000) [hi, List.getElem?_map, hci, Instr.row])
    (refine Jts hcp (by rfl) (by rfl) ?_)
    (simp (maxSteps := 1000000) [])
    cases e2 with
    | none =>
     simp only [resR] at hg
     (refine Jts hg (by rfl) (by rfl) ?_)
     (simp (maxSteps := 1000000) [hwi])
     exact hN2 _ (i + 1, (t2, none)) ⟨by simp only; omega, hi, hTi, hok2, fun _ => hR2⟩ (by simp only [resR]; (exact wkA)) (by simp only; omega)
    | some e =>
     simp only [resR] at hg
     (refine Jts hg (by rfl) (by rfl) ?_)
     (simp (maxSteps := 1000000) [hwi])
     exact hN2 _ (i + 1, (t2, some e)) ⟨by simp only; omega, hi, hTi, hok2, fun h => by cases h⟩ (by simp only [resR]; (exact wkA)) (by simp only; omega)
   ·have hie : i = ct := by omega
    subst hie
    have hT1e : T1 = (s, none) := by rw [← hTi, List.drop_eq_nil_of_le (by omega)]; rfl
    rw [hT1e, Jto1] at hspec
    rw [Nat.sub_self, Nat.add_zero] at hRi
    obtain ⟨T2, hT2⟩ : ∃ T2, T2 = moveC most mf msub s := ⟨_, rfl⟩
    rw [← hT2] at hspec
    (simp (maxSteps := 1000000) [hi])
    refine Jt9 (fun x : Nat × CR => ⟨[(17, AI x.1), (15, .ptr 4 0), (14, AI j), (13, AI mcode.length), (10, .d (.sl (rows.map ARow.row))), (9, .ptr 3 0), (8, .ptr 2 0), (5, .ptr 1 0), (4, .ptr 0 0), (3, AI most)],
     [.mem [.d (.sl (code.map Instr.row)), AI kind, AI ta, AI to, AI els], .mem [.d (.sl (mcode.map Mach.row)), AI mkind, AI mta, AI mto, AI mels], .mem [.nils, AI 0, AI 0, AI 0, AI 0], .mem (resR x.2), .mem [AI cf, AI i, AI mf, AI mt, AI src, AI mach]]⟩)
     (fun x => mf ≤ x.1 ∧ x.1 ≤ mt ∧ thenC x.2 (moveC most x.1 (msub.drop (x.1 - mf))) = T2 ∧ okC x.2 ∧ (x.2.2 = none → Room V L x.2.1 (3 + (mt - x.1)))) (fun x => mt - x.1) (mf, (s, none)) ?_ (by simp only [resR]; (exact wkA)) ?_
    ·refine ⟨Nat.le_refl _, hm1, ?_, Jtgv s, fun _ => hRi⟩
     simp [hT2, Jto1]
    rintro ⟨k, u⟩ ⟨hk0, hk1, hTk, hokk, hRk⟩ N3 hN3
    simp only at hk0 hk1 hTk hokk hRk
    obtain ⟨s', e⟩ := u
    cases e with
    | some e =>
     rw [Jto2] at hTk
     rw [← hTk, Jto2] at hspec
     have he : e.1 ≠ 0 := hokk e rfl
     have heb := bne0 he
     have hclose : ∀ st', Wk 0 st' ⟨[(14, AI ((j + 1 : Nat) : Int)), (13, AI mcode.length), (10, .d (.sl (rows.map ARow.row))), (9, .ptr 3 0), (8, .ptr 2 0), (5, .ptr 1 0), (4, .ptr 0 0), (3, AI most)],
       [.mem [.d (.sl (code.map Instr.row)), AI kind, AI ta, AI to, AI els], .mem [.d (.sl (mcode.map Mach.row)), AI mkind, AI mta, AI mto, AI mels], .mem [.nils, AI 0, AI 0, AI 0, AI 0], .mem [.d (.sl []), AI e.1, AI e.2, AI s'.steps, AI s'.largest]]⟩ → N st' := by
      intro st' h; exact hend st' (by rw [hspec]; exact h)
     simp only [resR]
     (simp (maxSteps := 1000000) [])
     by_cases hk : k < mt
     all_goals (
      (simp (maxSteps := 1000000) [hk, he, heb])
      by_cases hs0 : src < 0
      ·(simp (maxSteps := 1000000) [hs0, hw]); exact hclose _ (by (exact wkA))
      ·(simp (maxSteps := 1000000) [hs0, he, heb, hw]); exact hclose _ (by (exact wkA)))
    | none =>
     rw [Jto1] at hTk
     have hRk : Room V L s' (3 + (mt - k)) := hRk rfl
     simp only [resR]
     (simp (maxSteps := 1000000) [])
     by_cases hk : k < mt
     ·have hwk := Jtp7 (k := k) (by omega)
      have hkm : k < mcode.length := by omega
      have hjl3 : k - mf < msub.length := by omega
      have hmj : msub[k - mf] = mcode[k] := by simp [hmsub]; congr 1; omega
      have hmi : mcode[k]? = some mcode[k] := by simp [hkm]
      rw [Jt7s hjl3, hmj] at hTk
      simp only [moveC] at hTk
      rw [show k - mf + 1 = k + 1 - mf by omega] at hTk
      have hxv : mcode[k].dst ∈ L := (hv.l _ (List.getElem_mem hkm)).1
      rw [show mt - k = (mt - (k + 1)) + 1 by omega, ← Nat.add_assoc] at hRk
      have hR3 := hRk.moveStep hxv most k (a := mcode[k].src)
      have hok2 := Jtgq most (costC s') (moveP s'.set mcode[k].dst mcode[k].src) k
      have hl0 := hRk.len
      have hst := hRk.steps
      have hlg := hRk.lg
      have hol := Nat.lt_of_le_of_lt (hRk.over.move hxv (a := mcode[k].src)).len hRk.few
      have hcp := Jtj6 A s'.set mcode[k].dst mcode[k].src hl0
      rw [Jtkm hRk.over.srt] at hcp
      obtain ⟨cl, hcl⟩ : ∃ cl, cl = moveP s'.set mcode[k].dst mcode[k].src := ⟨_, rfl⟩
      rw [← hcl] at hTk hR3 hcp hol hok2
      have hg := Jtjf A s' cl most k hl0 (by omega) hol hlg
      obtain ⟨⟨t2, e2⟩, h2r⟩ : ∃ r, r = Jt5e most (costC s') cl k := ⟨_, rfl⟩
      rw [← h2r] at hg hTk hR3 hok2
      (simp (maxSteps := 1000000) [hk, List.getElem?_map, hmi, Mach.row])
      (refine Jts hcp (by rfl) (by rfl) ?_)
      (simp (maxSteps := 1000000) [])
      cases e2 with
      | none =>
       simp only [resR] at hg
       (refine Jts hg (by rfl) (by rfl) ?_)
       (simp (maxSteps := 1000000) [hwk])
       exact hN3 _ (k + 1, (t2, none)) ⟨by simp only; omega, hk, hTk, hok2, fun _ => hR3⟩ (by simp only [resR]; (exact wkA)) (by simp only; omega)
      | some e =>
       simp only [resR] at hg
       (refine Jts hg (by rfl) (by rfl) ?_)
       (simp (maxSteps := 1000000) [hwk])
       exact hN3 _ (k + 1, (t2, some e)) ⟨by simp only; omega, hk, hTk, hok2, fun h => by cases h⟩ (by simp only [resR]; (exact wkA)) (by simp only; omega)
     ·have hke : k = mt := by omega
      subst hke
      have hT2e : T2 = (s', none) := by rw [← hTk, List.drop_eq_nil_of_le (by omega)]; rfl
      rw [hT2e, Jto1] at hspec
      rw [Nat.sub_self, Nat.add_zero] at hRk
      have hclose : ∀ (u : CR), r3 = u → ∀ st', Wk 0 st' ⟨[(14, AI ((j + 1 : Nat) : Int)), (13, AI mcode.length), (10, .d (.sl (rows.map ARow.row))), (9, .ptr 3 0), (8, .ptr 2 0), (5, .ptr 1 0), (4, .ptr 0 0), (3, AI most)],
       [.mem [.d (.sl (code.map Instr.row)), AI kind, AI ta, AI to, AI els], .mem [.d (.sl (mcode.map Mach.row)), AI mkind, AI mta, AI mto, AI mels], .mem [.nils, AI 0, AI 0, AI 0, AI 0], .mem (resR u)]⟩ → N st' := by
       intro u hu st' h; exact hend st' (by rw [hu]; exact h)
      by_cases hs0 : src < 0
      ·rw [show lastC most code mcode ⟨cf, i, mf, k, src, mach⟩ s' = (s', none) by unfold lastC; rw [if_neg (by simp only; omega)]] at hspec
       (simp (maxSteps := 1000000) [hk, hs0, hw])
       exact hclose _ hspec _ (by simp only [resR]; (exact wkA))
      ·obtain ⟨h5, h6, h7⟩ := hsr (by omega)
       have hi1 : src.toNat < code.length := by omega
       have hi2 : mach.toNat < mcode.length := by omega
       have hci : code[src.toNat]? = some code[src.toNat] := by simp [hi1]
       have hmi : mcode[mach.toNat]? = some mcode[mach.toNat] := by simp [hi2]
       have h0s : 0 ≤ src := by omega
       have hl : lastC most code mcode ⟨cf, i, mf, k, src, mach⟩ s' = instrC most s' code[src.toNat] mcode[mach.toNat] mach := by
        simp only [lastC, h0s, if_true, hci, hmi]
       rw [hl] at hspec
       have hVd := hv.v _ (List.getElem_mem hi1)
       have hLd := (hv.l _ (List.getElem_mem hi2)).2
       (simp (maxSteps := 1000000) [hk, hs0, h0s, h6, List.getElem?_map, hci, hmi, Instr.row, Mach.row])
       obtain ⟨ci, hcie⟩ : ∃ x, x = code[src.toNat] := ⟨_, rfl⟩
       obtain ⟨mi, hmie⟩ : ∃ x, x = mcode[mach.toNat] := ⟨_, rfl⟩
       rw [← hcie] at hspec hVd
       rw [← hmie] at hspec hLd
       simp only [← hcie, ← hmie]
       obtain ⟨ua, hua⟩ : ∃ x, x = usesA ci.op := ⟨_, rfl⟩
       obtain ⟨ub, hub⟩ : ∃ x, x = usesB ci.op := ⟨_, rfl⟩
       obtain ⟨ud, hud⟩ : ∃ x, x = usesD ci.op := ⟨_, rfl⟩
       have hspec2 := hspec
       unfold instrC at hspec2
       rw [← hua, ← hub, ← hud] at hspec2
       (refine Jts (Jtiq A ci.op) (by rfl) (by rfl) ?_)
       rw [← hua]
       cases huav : ua with
       | false =>
        rw [huav, if_neg (by simp), Jto1] at hspec2
        (simp (maxSteps := 1000000) [])
        (refine Jts (Jtir A ci.op) (by rfl) (by rfl) ?_)
        rw [← hub]
        cases hubv : ub with
        | false =>
         rw [hubv, if_neg (by simp), Jto1] at hspec2
         (simp (maxSteps := 1000000) [])
         (refine Jts (Jtis A ci.op) (by rfl) (by rfl) ?_)
         rw [← hud]
         cases hudv : ud with
         | false =>
          rw [hudv, if_neg (by simp)] at hspec2
          (simp (maxSteps := 1000000) [hw])
          exact hclose _ hspec2 _ (by simp only [resR]; (exact wkA))
         | true =>
          rw [hudv, if_pos rfl] at hspec2
          have hl0 := hRk.len
          have hst := hRk.steps
          have hlg := hRk.lg
          have hol := Nat.lt_of_le_of_lt (hRk.over.define hVd hLd).len hRk.few
          have hdf := Jtj5 A s'.set ci.d (regZ mi.d) hl0
          rw [Jtin hRk.over.srt] at hdf
          obtain ⟨cl, hcl⟩ : ∃ cl, cl = defP s'.set ci.d (regZ mi.d) := ⟨_, rfl⟩
          rw [← hcl] at hspec2 hdf hol
          simp only [regZ] at hdf
          have hg := Jtjf A s' cl most mach hl0 (by omega) hol hlg
          obtain ⟨⟨t9, e9⟩, h9r⟩ : ∃ r, r = Jt5e most (costC s') cl mach := ⟨_, rfl⟩
          rw [← h9r] at hg hspec2
          (simp (maxSteps := 1000000) [])
          (refine Jts hdf (by rfl) (by rfl) ?_)
          (simp (maxSteps := 1000000) [])
          cases e9 with
          | none =>
           simp only [resR] at hg
           (refine Jts hg (by rfl) (by rfl) ?_)
           (simp (maxSteps := 1000000) [hw])
           exact hclose _ hspec2 _ (by simp only [resR]; (exact wkA))
          | some e =>
           simp only [resR] at hg
           (refine Jts hg (by rfl) (by rfl) ?_)
           (simp (maxSteps := 1000000) [hw])
           exact hclose _ hspec2 _ (by simp only [resR]; (exact wkA))
        | true =>
         rw [hubv, if_pos rfl] at hspec2
         have hl0 := hRk.len
         have hst := hRk.steps
         have hu := Jtjh A s' ci.b mi.b mach hl0 (by omega)
         have hok1 := Jtgx s' ci.b (regZ mi.b) mach
         have hR5 : Room V L (useC s' ci.b (regZ mi.b) mach).1 1 := Room.use (n := 1) (hRk.mono (by omega)) _ _ _
         obtain ⟨⟨t5, e1⟩, h1r⟩ : ∃ r, r = useC s' ci.b (regZ mi.b) mach := ⟨_, rfl⟩
         rw [← h1r] at hu hspec2 hR5 hok1
         cases e1 with
         | none =>
          rw [Jto1] at hspec2
          have hR5 : Room V L t5 1 := hR5
          simp only [resR] at hu
          (simp (maxSteps := 1000000) [])
          (refine Jts hu (by rfl) (by rfl) ?_)
          (simp (maxSteps := 1000000) [])
          (refine Jts (Jtis A ci.op) (by rfl) (by rfl) ?_)
          rw [← hud]
          cases hudv : ud with
          | false =>
           rw [hudv, if_neg (by simp)] at hspec2
           (simp (maxSteps := 1000000) [hw])
           exact hclose _ hspec2 _ (by simp only [resR]; (exact wkA))
          | true =>
           rw [hudv, if_pos rfl] at hspec2
           have hl0 := hR5.len
           have hst := hR5.steps
           have hlg := hR5.lg
           have hol := Nat.lt_of_le_of_lt (hR5.over.define hVd hLd).len hR5.few
           have hdf := Jtj5 A t5.set ci.d (regZ mi.d) hl0
           rw [Jtin hR5.over.srt] at hdf
           obtain ⟨cl, hcl⟩ : ∃ cl, cl = defP t5.set ci.d (regZ mi.d) := ⟨_, rfl⟩
           rw [← hcl] at hspec2 hdf hol
           simp only [regZ] at hdf
           have hg := Jtjf A t5 cl most mach hl0 (by omega) hol hlg
           obtain ⟨⟨t9, e9⟩, h9r⟩ : ∃ r, r = Jt5e most (costC t5) cl mach := ⟨_, rfl⟩
           rw [← h9r] at hg hspec2
           (simp (maxSteps := 1000000) [])
           (refine Jts hdf (by rfl) (by rfl) ?_)
           (simp (maxSteps := 1000000) [])
           cases e9 with
           | none =>
            simp only [resR] at hg
            (refine Jts hg (by rfl) (by rfl) ?_)
            (simp (maxSteps := 1000000) [hw])
            exact hclose _ hspec2 _ (by simp only [resR]; (exact wkA))
           | some e =>
            simp only [resR] at hg
            (refine Jts hg (by rfl) (by rfl) ?_)
            (simp (maxSteps := 1000000) [hw])
            exact hclose _ hspec2 _ (by simp only [resR]; (exact wkA))
         | some e =>
          rw [Jto2] at hspec2
          have he : e.1 ≠ 0 := hok1 e rfl
          have heb := bne0 he
          simp only [resR] at hu
          (simp (maxSteps := 1000000) [])
          (refine Jts hu (by rfl) (by rfl) ?_)
          (simp (maxSteps := 1000000) [])
          (refine Jts (Jtis A ci.op) (by rfl) (by rfl) ?_)
          rw [← hud]
          cases hudv : ud with
          | false =>
           (simp (maxSteps := 1000000) [he, heb, hw])
           exact hclose _ hspec2 _ (by simp only [resR]; (exact wkA))
          | true =>
           (simp (maxSteps := 1000000) [he, heb, hw])
           exact hclose _ hspec2 _ (by simp only [resR]; (exact wkA))
       | true =>
        rw [huav, if_pos rfl] at hspec2
        have hl0 := hRk.len
        have hst := hRk.steps
        have hu := Jtjh A s' ci.a mi.a mach hl0 (by omega)
        have hok1 := Jtgx s' ci.a (regZ mi.a) mach
        have hR4 : Room V L (useC s' ci.a (regZ mi.a) mach).1 2 := Room.use (n := 2) (hRk.mono (by omega)) _ _ _
        obtain ⟨⟨t4, e1⟩, h1r⟩ : ∃ r, r = useC s' ci.a (regZ mi.a) mach := ⟨_, rfl⟩
        rw [← h1r] at hu hspec2 hR4 hok1
        cases e1 with
        | none =>
         rw [Jto1] at hspec2
         have hR4 : Room V L t4 2 := hR4
         simp only [resR] at hu
         (simp (maxSteps := 1000000) [])
         (refine Jts hu (by rfl) (by rfl) ?_)
         (simp (maxSteps := 1000000) [])
         (refine Jts (Jtir A ci.op) (by rfl) (by rfl) ?_)
         rw [← hub]
         cases hubv : ub with
         | false =>
          rw [hubv, if_neg (by simp), Jto1] at hspec2
          (simp (maxSteps := 1000000) [])
          (refine Jts (Jtis A ci.op) (by rfl) (by rfl) ?_)
          rw [← hud]
          cases hudv : ud with
          | false =>
           rw [hudv, if_neg (by simp)] at hspec2
           (simp (maxSteps := 1000000) [hw])
           exact hclose _ hspec2 _ (by simp only [resR]; (exact wkA))
          | true =>
           rw [hudv, if_pos rfl] at hspec2
           have hl0 := hR4.len
           have hst := hR4.steps
           have hlg := hR4.lg
           have hol := Nat.lt_of_le_of_lt (hR4.over.define hVd hLd).len hR4.few
           have hdf := Jtj5 A t4.set ci.d (regZ mi.d) hl0
           rw [Jtin hR4.over.srt] at hdf
           obtain ⟨cl, hcl⟩ : ∃ cl, cl = defP t4.set ci.d (regZ mi.d) := ⟨_, rfl⟩
           rw [← hcl] at hspec2 hdf hol
           simp only [regZ] at hdf
           have hg := Jtjf A t4 cl most mach hl0 (by omega) hol hlg
           obtain ⟨⟨t9, e9⟩, h9r⟩ : ∃ r, r = Jt5e most (costC t4) cl mach := ⟨_, rfl⟩
           rw [← h9r] at hg hspec2
           (simp (maxSteps := 1000000) [])
           (refine Jts hdf (by rfl) (by rfl) ?_)
           (simp (maxSteps := 1000000) [])
           cases e9 with
           | none =>
            simp only [resR] at hg
            (refine Jts hg (by rfl) (by rfl) ?_)
            (simp (maxSteps := 1000000) [hw])
            exact hclose _ hspec2 _ (by simp only [resR]; (exact wkA))
           | some e =>
            simp only [resR] at hg
            (refine Jts hg (by rfl) (by rfl) ?_)
            (simp (maxSteps := 1000000) [hw])
            exact hclose _ hspec2 _ (by simp only [resR]; (exact wkA))
         | true =>
          rw [hubv, if_pos rfl] at hspec2
          have hl0 := hR4.len
          have hst := hR4.steps
          have hu := Jtjh A t4 ci.b mi.b mach hl0 (by omega)
          have hok1 := Jtgx t4 ci.b (regZ mi.b) mach
          have hR5 : Room V L (useC t4 ci.b (regZ mi.b) mach).1 1 := Room.use (n := 1) (hR4.mono (by omega)) _ _ _
          obtain ⟨⟨t5, e1⟩, h1r⟩ : ∃ r, r = useC t4 ci.b (regZ mi.b) mach := ⟨_, rfl⟩
          rw [← h1r] at hu hspec2 hR5 hok1
          cases e1 with
          | none =>
           rw [Jto1] at hspec2
           have hR5 : Room V L t5 1 := hR5
           simp only [resR] at hu
           (simp (maxSteps := 1000000) [])
           (refine Jts hu (by rfl) (by rfl) ?_)
           (simp (maxSteps := 1000000) [])
           (refine Jts (Jtis A ci.op) (by rfl) (by rfl) ?_)
           rw [← hud]
           cases hudv : ud with
           | false =>
            rw [hudv, if_neg (by simp)] at hspec2
            (simp (maxSteps := 1000000) [hw])
            exact hclose _ hspec2 _ (by simp only [resR]; (exact wkA))
           | true =>
            rw [hudv, if_pos rfl] at hspec2
            have hl0 := hR5.len
            have hst := hR5.steps
            have hlg := hR5.lg
            have hol := Nat.lt_of_le_of_lt (hR5.over.define hVd hLd).len hR5.few
            have hdf := Jtj5 A t5.set ci.d (regZ mi.d) hl0
            rw [Jtin hR5.over.srt] at hdf
            obtain ⟨cl, hcl⟩ : ∃ cl, cl = defP t5.set ci.d (regZ mi.d) := ⟨_, rfl⟩
            rw [← hcl] at hspec2 hdf hol
            simp only [regZ] at hdf
            have hg := Jtjf A t5 cl most mach hl0 (by omega) hol hlg
            obtain ⟨⟨t9, e9⟩, h9r⟩ : ∃ r, r = Jt5e most (costC t5) cl mach := ⟨_, rfl⟩
            rw [← h9r] at hg hspec2
            (simp (maxSteps := 1000000) [])
            (refine Jts hdf (by rfl) (by rfl) ?_)
            (simp (maxSteps := 1000000) [])
            cases e9 with
            | none =>
             simp only [resR] at hg
             (refine Jts hg (by rfl) (by rfl) ?_)
             (simp (maxSteps := 1000000) [hw])
             exact hclose _ hspec2 _ (by simp only [resR]; (exact wkA))
            | some e =>
             simp only [resR] at hg
             (refine Jts hg (by rfl) (by rfl) ?_)
             (simp (maxSteps := 1000000) [hw])
             exact hclose _ hspec2 _ (by simp only [resR]; (exact wkA))
          | some e =>
           rw [Jto2] at hspec2
           have he : e.1 ≠ 0 := hok1 e rfl
           have heb := bne0 he
           simp only [resR] at hu
           (simp (maxSteps := 1000000) [])
           (refine Jts hu (by rfl) (by rfl) ?_)
           (simp (maxSteps := 1000000) [])
           (refine Jts (Jtis A ci.op) (by rfl) (by rfl) ?_)
           rw [← hud]
           cases hudv : ud with
           | false =>
            (simp (maxSteps := 1000000) [he, heb, hw])
            exact hclose _ hspec2 _ (by simp only [resR]; (exact wkA))
           | true =>
            (simp (maxSteps := 1000000) [he, heb, hw])
            exact hclose _ hspec2 _ (by simp only [resR]; (exact wkA))
        | some e =>
         rw [Jto2] at hspec2
         have he : e.1 ≠ 0 := hok1 e rfl
         have heb := bne0 he
         simp only [resR] at hu
         (simp (maxSteps := 1000000) [])
         (refine Jts hu (by rfl) (by rfl) ?_)
         (simp (maxSteps := 1000000) [])
         (refine Jts (Jtir A ci.op) (by rfl) (by rfl) ?_)
         rw [← hub]
         cases hubv : ub with
         | false =>
          (simp (maxSteps := 1000000) [he, heb])
          (refine Jts (Jtis A ci.op) (by rfl) (by rfl) ?_)
          rw [← hud]
          cases hudv : ud with
          | false =>
           (simp (maxSteps := 1000000) [he, heb, hw])
           exact hclose _ hspec2 _ (by simp only [resR]; (exact wkA))
          | true =>
           (simp (maxSteps := 1000000) [he, heb, hw])
           exact hclose _ hspec2 _ (by simp only [resR]; (exact wkA))
         | true =>
          (simp (maxSteps := 1000000) [he, heb])
          (refine Jts (Jtis A ci.op) (by rfl) (by rfl) ?_)
          rw [← hud]
          cases hudv : ud with
          | false =>
           (simp (maxSteps := 1000000) [he, heb, hw])
           exact hclose _ hspec2 _ (by simp only [resR]; (exact wkA))
          | true =>
           (simp (maxSteps := 1000000) [he, heb, hw])
           exact hclose _ hspec2 _ (by simp only [resR]; (exact wkA))
 ·have hjl : j = rows.length := by simp at h2; omega
  subst hjl
  rw [List.drop_length] at hT hR1
  have hT' : r = T := by rw [← hT]; exact (Jto0 r).symm
  subst hT'
  (simp (maxSteps := 1000000) [h2])
  exact hQ hok (fun h => by simpa [needRs] using hR1 h)
end
section
set_option maxHeartbeats 1000000 in
theorem Jtje {P : Program} {p : Nums} (A : All P p) {V L : List Int} (code : List Instr) (kind ta to els : Int) (mcode : List Mach) (mkind mta mto mels most : Int) (rows : List ARow) (T1 : CR) (T : Res)
  (hspec : T = ⟨if (runE ⟨mcode, mkind, mta, mto, mels⟩ (thenC T1 fun s => if kind = 1 then (s, none) else useC s ta (regZ mta) mcode.length).2).1 = 0 then (thenC T1 fun s => if kind = 1 then (s, none) else useC s ta (regZ mta) mcode.length).1.set else [],
   (runE ⟨mcode, mkind, mta, mto, mels⟩ (thenC T1 fun s => if kind = 1 then (s, none) else useC s ta (regZ mta) mcode.length).2).1, (runE ⟨mcode, mkind, mta, mto, mels⟩ (thenC T1 fun s => if kind = 1 then (s, none) else useC s ta (regZ mta) mcode.length).2).2,
   (thenC T1 fun s => if kind = 1 then (s, none) else useC s ta (regZ mta) mcode.length).1.steps, (thenC T1 fun s => if kind = 1 then (s, none) else useC s ta (regZ mta) mcode.length).1.largest⟩)
  (hok : okC T1) (hrm : T1.2 = none → Room V L T1.1 1) (R : AExit → ASt → Prop) (hR : ∀ (e : AExit) (st : ASt), Fin [RV.cell 8 (some 5)] 0 (fun o x => o = AOut.ret T.av) e st → R e st)
  :
  AW P 0 (.seq (.seq (Jqmf p) (.cond (.t 209) (Jqmg p) .skip)) (.seq (.seq (Jqmh p) (.cond (.t 221) (Jqmi p) .skip)) (.seq (.region [⟨some 224, .load (some 5) (.t 9), none, false⟩, ⟨none, .store 5 (.t 8) (.t 224), none, false⟩] []) .ret))) R
   ⟨(61, AB false) :: (60, AI rows.length) :: (59, .d (.sl (rows.map ARow.row))) :: (58, AI rows.length) :: (F14 code kind ta to els mcode mkind mta mto mels most rows (rows.length, T1)).env, (F14 code kind ta to els mcode mkind mta mto mels most rows (rows.length, T1)).H⟩ := by
 simp only [F14]
 obtain ⟨t, e⟩ := T1
 cases e with
 | some e =>
  rw [Jto2] at hspec
  have he : e.1 ≠ 0 := hok e rfl
  have heb := bne0 he
  simp only [resR]
  by_cases hk : kind = 1
  all_goals (
   (simp (maxSteps := 1000000) [hk, he, heb])
   refine hR _ _ (Jt3u _ _ rfl (by (exact wkvA)) ?_)
   rw [hspec]
   simp [Res.av, runE, he, pairsD, AV.erase])
 | none =>
  rw [Jto1] at hspec
  have hrm : Room V L t 1 := hrm rfl
  simp only [resR]
  by_cases hk : kind = 1
  ·rw [if_pos hk] at hspec
   (simp (maxSteps := 1000000) [hk])
   refine hR _ _ (Jt3u _ _ rfl (by (exact wkvA)) ?_)
   rw [hspec]
   simp [Res.av, runE, pairsD, AV.erase]
  ·rw [if_neg hk] at hspec
   have hkb : (kind == 1) = false := by simpa using hk
   have hl1 := hrm.len
   have hst := hrm.steps
   have hu := Jtjh A t ta mta mcode.length hl1 (by omega)
   have hok1 := Jtgx t ta (regZ mta) mcode.length
   obtain ⟨⟨t4, e1⟩, h1r⟩ : ∃ r, r = useC t ta (regZ mta) mcode.length := ⟨_, rfl⟩
   rw [← h1r] at hu hspec hok1
   cases e1 with
   | none =>
    simp only [resR] at hu
    (simp (maxSteps := 1000000) [hk, hkb])
    (refine Jts hu (by rfl) (by rfl) ?_)
    (simp (maxSteps := 1000000) [])
    refine hR _ _ (Jt3u _ _ rfl (by (exact wkvA)) ?_)
    rw [hspec]
    simp [Res.av, runE, pairsD, AV.erase]
   | some e =>
    have he : e.1 ≠ 0 := hok1 e rfl
    have heb := bne0 he
    simp only [resR] at hu
    (simp (maxSteps := 1000000) [hk, hkb])
    (refine Jts hu (by rfl) (by rfl) ?_)
    (simp (maxSteps := 1000000) [he, heb])
    refine hR _ _ (Jt3u _ _ rfl (by (exact wkvA)) ?_)
    rw [hspec]
    simp [Res.av, runE, he, pairsD, AV.erase]
set_option maxHeartbeats 4000000 in
theorem Jtjc {P : Program} {p : Nums} (A : All P p) {V L : List Int} (b : Block) (m : MBlock) (l : List Pair) (most : Int) (hsr0 : Srt l) (hl : ∀ q ∈ l, q.v ∈ V ∧ q.l ∈ L) (hv : VLOk V L b.code m.code) (few : V.length * L.length < 100000) (hl0 : l.length < 100000)
  (hb0 : b.code.length ≤ 1000) (hm0 : m.code.length ≤ 1000) : Jt3o P p.ref14_Check [b.av, m.av, .d (pairsD l), AI most] [] fun o _ => o = .ret (checkZ b m l most).av := by
 refine A.ref14_Check.run rfl fun R hR => ?_
 obtain ⟨T, hT⟩ : ∃ T, T = checkZ b m l most := ⟨_, rfl⟩
 rw [← hT] at hR
 have hspec : T = checkZ b m l most := hT
 unfold checkZ at hspec
 obtain ⟨ha1, ha2, ha3⟩ := Jt4u b.code m.code
 have ha4 := Jt4t b.code m.code
 have ha5 : (alignZ b.code m.code).2.2 = 0 → (alignZ b.code m.code).2.1 = m.code.length := Jt4q _ _ _ _
 have hal := Jtj7 A b.code m.code (by omega) (by omega)
 have htm := Jtjb A b.term m.term
 rw [Jtf5 hsr0] at hspec
 have hover : Over V L l := ⟨hsr0, fun q hq => hl q hq⟩
 have hroom : Room V L ⟨l, 0, l.length⟩ (1 + needRs (alignZ b.code m.code).1) := by
  refine ⟨hover, few, ?_, by simp only; omega⟩
  have h1 := Jtge ha1
  have h2 : (alignZ b.code m.code).1.length * (3 + m.code.length + b.code.length) ≤ 1001 * 2003 := Nat.mul_le_mul (by omega) (by omega)
  simp only
  omega
 obtain ⟨al, hale⟩ : ∃ a, a = alignZ b.code m.code := ⟨_, rfl⟩
 rw [← hale] at hal hspec ha1 ha2 ha3 ha4 ha5 hroom
 obtain ⟨rows, at_, why⟩ := al
 simp only at hal hspec ha1 ha2 ha3 ha4 ha5 hroom
 obtain ⟨tz, htz⟩ : ∃ x, x = termsZ b.term m.term := ⟨_, rfl⟩
 rw [← htz] at htm hspec
 obtain ⟨code, kind, ta, to, els⟩ := b
 obtain ⟨mcode, mkind, mta, mto, mels⟩ := m
 simp only [Block.av, MBlock.av, Term.av] at hal htm ha1 ha2 ha3 hb0 hm0 hv ha5 ⊢
 have hf := fun (e x : Int) => Jtjd A (pairsD l) 0 0 0 (l.length : Int) e x
 simp only [pairsD] at hf
 have hpl : ∀ r ∈ l.map Pair.row, r.length = 2 := Jtl2 fun x => rfl
 have hpl0 : (l.map Pair.row).length = l.length := by simp
 obtain ⟨F, hF⟩ : ∃ F, F = l.map Pair.row := ⟨_, rfl⟩
 rw [← hF] at hpl hpl0 hf
 (simp (maxSteps := 1000000) [Jtck, pairsD])
 rw [← hF]
 refine Jt15 (by rfl) (by rfl) hpl (by decide) (by omega) (by omega) (fun hn => ?_) (fun hn => ?_)
 all_goals (
  try rw [hn] at hf
  (simp (maxSteps := 1000000) [hpl0])
  by_cases h1 : most < (l.length : Int)
  ·rw [if_pos h1] at hspec
   (simp (maxSteps := 1000000) [h1])
   (refine Jtt (hf 24 0) (by rfl) (by (exact wkvA)) (by rfl) ?_)
   (simp (maxSteps := 1000000) [])
   refine hR _ _ (Jt3u _ _ rfl (by (exact wkvA)) ?_)
   rw [hspec]; rfl
  ·rw [if_neg h1] at hspec
   (simp (maxSteps := 1000000) [h1])
   (refine Jts hal (by rfl) (by rfl) ?_)
   by_cases hw : why = 0
   ·subst hw
    have hat : at_ = mcode.length := ha5 rfl
    (simp (maxSteps := 1000000) [])
    (refine Jts htm (by rfl) (by rfl) ?_)
    cases tz with
    | false =>
     simp only [and_self, if_true, ne_eq, not_false_eq_true, Int.reduceEq] at hspec
     (simp (maxSteps := 1000000) [])
     (refine Jtt (hf 20 mcode.length) (by rfl) (by (exact wkvA)) (by rfl) ?_)
     (simp (maxSteps := 1000000) [])
     refine hR _ _ (Jt3u _ _ rfl (by (exact wkvA)) ?_)
     rw [hspec, hat]; rfl
    | true =>
     simp only [Bool.true_eq_false, and_false, if_false, ne_eq, not_true_eq_false] at hspec
     obtain ⟨T1, hT1⟩ : ∃ T1, T1 = rowsC most code mcode rows ⟨l, 0, l.length⟩ := ⟨_, rfl⟩
     have hrun : runC most ⟨code, kind, ta, to, els⟩ ⟨mcode, mkind, mta, mto, mels⟩ rows ⟨l, 0, l.length⟩ = thenC T1 fun s => if kind = 1 then (s, none) else useC s ta (regZ mta) mcode.length := by rw [hT1]; rfl
     rw [hrun] at hspec
     (simp (maxSteps := 1000000) [])
     refine Jt9 (F14 code kind ta to els mcode mkind mta mto mels most rows) (Inv14 V L most code mcode rows T1) (fun x => rows.length - x.1) (0, (⟨l, 0, l.length⟩, none)) ?_ ?_
      (fun s hs N hN => Jtjg A code kind ta to els mcode mkind mta mto mels most rows T1 hv ha1 hb0 hm0 (by omega) _ ?_ s hs N hN)
     ·exact ⟨Nat.zero_le _, by rw [Jto1]; exact hT1.symm, Jtgv _, fun _ => hroom⟩
     ·simp only [F14, resR, pairsD, ← hF]
      (try simp only [hn])
      (exact wkA)
     ·intro hok hrm
      simp only [Jtda, if_true, Jto4]
      exact Jtje A code kind ta to els mcode mkind mta mto mels most rows T1 T hspec hok hrm R hR
   ·have hw2 : why = 20 := ha4.resolve_left hw
    subst hw2
    simp only [Int.reduceEq, false_and, if_false, ne_eq, not_false_eq_true, if_true] at hspec
    (simp (maxSteps := 1000000) [])
    (refine Jtt (hf 20 at_) (by rfl) (by (exact wkvA)) (by rfl) ?_)
    (simp (maxSteps := 1000000) [])
    refine hR _ _ (Jt3u _ _ rfl (by (exact wkvA)) ?_)
    rw [hspec]; rfl)
end
theorem Jtl1 {V L : List Int} {most : Int} {b : List Instr} {m : List Mach} (hv : VLOk V L b m) : ∀ {rs : List ARow} {s : CS} {n : Nat}, Room V L s (n + needRs rs) → (∀ r ∈ rs, RowOk b m r) → Room V L (rowsC most b m rs s).1 n := by
 intro rs
 induction rs with
 | nil => intro s n h _; simpa [needRs, rowsC] using h
 | cons r rs ih =>
  intro s n h hr
  rw [Jtgd] at h
  have hro := hr r (by simp)
  have hl1 : ((m.take r.mt).drop r.mf).length = r.mt - r.mf := by have := hro.hm; simp; omega
  have hl2 : ((b.take r.ct).drop r.cf).length = r.ct - r.cf := by have := hro.hc; simp; omega
  have h1 := Jtkp (n := n + needRs rs) (most := most) (r := r) (h.mono (by rw [hl1, hl2]; unfold needR; omega)) hv
  simp only [rowsC]
  generalize rowC most b m r s = q at h1
  obtain ⟨s1, e⟩ := q
  cases e with
  | some e => rw [Jto2]; exact h1.mono (by omega)
  | none => rw [Jto1]; exact ih h1 fun r hr' => hr r (by simp [hr'])
theorem Jtl6 {V L : List Int} {most : Int} {b : Block} {m : MBlock} (hv : VLOk V L b.code m.code) {rs : List ARow} {s : CS} {n : Nat} (h : Room V L s (n + 1 + needRs rs)) (hr : ∀ r ∈ rs, RowOk b.code m.code r) : Room V L (runC most b m rs s).1 n := by
 unfold runC
 have h1 := Jtl1 (most := most) hv h hr
 generalize rowsC most b.code m.code rs s = q at h1
 obtain ⟨s1, e⟩ := q
 cases e with
 | some e => rw [Jto2]; exact h1.mono (by omega)
 | none =>
  rw [Jto1]
  split
  ·exact h1.mono (by omega)
  ·exact h1.use _ _ _
theorem Jt6l {V L : List Int} {b : Block} {m : MBlock} {l : List Pair} {most : Int} (hl : ∀ q ∈ l, q.v ∈ V ∧ q.l ∈ L) (hv : VLOk V L b.code m.code) (few : V.length * L.length < 100000) (hl0 : l.length < 100000)
  (hb0 : b.code.length ≤ 1000) (hm0 : m.code.length ≤ 1000) : (checkZ b m l most).largest < 100000 ∧ ∀ q ∈ (checkZ b m l most).out, q.v ∈ V ∧ q.l ∈ L := by
 obtain ⟨a1, a2, a3⟩ := Jt4u b.code m.code
 unfold checkZ
 split
 ·exact ⟨hl0, fun q hq => by simp at hq⟩
 ·by_cases h2 : (if (alignZ b.code m.code).2.2 = 0 ∧ termsZ b.term m.term = false then 20 else (alignZ b.code m.code).2.2) ≠ 0
  ·simp only [if_pos h2]; exact ⟨hl0, fun q hq => by simp at hq⟩
  ·simp only [if_neg h2]
   have hover : Over V L (makeP l) := ⟨Jtmz l, fun q hq => hl q (Jtfi.1 hq)⟩
   have hroom : Room V L ⟨makeP l, 0, l.length⟩ (0 + 1 + needRs (alignZ b.code m.code).1) := by
    refine ⟨hover, few, ?_, by simp only; omega⟩
    have h1 := Jtge a1
    have h2 : (alignZ b.code m.code).1.length * (3 + m.code.length + b.code.length) ≤ 1001 * 2003 := Nat.mul_le_mul (by omega) (by omega)
    simp only
    omega
   have hr := Jtl6 (most := most) hv hroom a1
   generalize runC most b m (alignZ b.code m.code).1 ⟨makeP l, 0, l.length⟩ = r at hr
   obtain ⟨t, e⟩ := r
   refine ⟨hr.lg, fun q hq => ?_⟩
   simp only at hq
   split at hq
   ·exact hr.over.mem q hq
   ·simp at hq
section
end
section
end
def Jtem : List LT := [ltI, ltI, ltI, ltI, ltI]
def Jtel : List LT := [.sl Jtem, ltI, ltI, ltI, ltI]
theorem Jtdj {r : List D} (h : HasL Jtem r) : ∃ i : Instr, r = i.row := by
 obtain ⟨_, _, rfl, h0, h⟩ := h.cons_inv
 obtain ⟨_, _, rfl, h1, h⟩ := h.cons_inv
 obtain ⟨_, _, rfl, h2, h⟩ := h.cons_inv
 obtain ⟨_, _, rfl, h3, h⟩ := h.cons_inv
 obtain ⟨_, _, rfl, h4, h⟩ := h.cons_inv
 obtain rfl := h.nil_inv
 obtain ⟨a, rfl, _⟩ := h0.int_inv
 obtain ⟨b, rfl, _⟩ := h1.int_inv
 obtain ⟨c, rfl, _⟩ := h2.int_inv
 obtain ⟨d, rfl, _⟩ := h3.int_inv
 obtain ⟨e, rfl, _⟩ := h4.int_inv
 exact ⟨⟨a, b, c, d, e⟩, rfl⟩
theorem Jt5j {r : List D} (h : HasL Jtel r) : ∃ b : Block, r = b.row := by
 obtain ⟨_, _, rfl, h0, h⟩ := h.cons_inv
 obtain ⟨_, _, rfl, h1, h⟩ := h.cons_inv
 obtain ⟨_, _, rfl, h2, h⟩ := h.cons_inv
 obtain ⟨_, _, rfl, h3, h⟩ := h.cons_inv
 obtain ⟨_, _, rfl, h4, h⟩ := h.cons_inv
 obtain rfl := h.nil_inv
 obtain ⟨rows, rfl, _, hr⟩ := h0.sl_inv
 obtain ⟨code, rfl⟩ := Jtl3 (fun r hr => Jtdj hr) hr
 obtain ⟨b, rfl, _⟩ := h1.int_inv
 obtain ⟨c, rfl, _⟩ := h2.int_inv
 obtain ⟨d, rfl, _⟩ := h3.int_inv
 obtain ⟨e, rfl, _⟩ := h4.int_inv
 exact ⟨⟨code, ⟨b, c, d, e⟩⟩, rfl⟩
def ltMach : List LT := [ltI, ltI, ltI, ltI, ltI, ltI, ltI]
def Jten : List LT := [.sl ltMach, ltI, ltI, ltI, ltI]
theorem Jtdk {d : D} (h : HasT ltI d) : ∃ n, d = I n ∧ okZ n := by
 obtain ⟨n, rfl, hw⟩ := h.int_inv
 refine ⟨n, rfl, ?_⟩
 simp [Lit.wf, IntKind.min, IntKind.max, IntKind.signed, IntKind.bits] at hw
 exact ⟨by omega, by omega⟩
theorem Jtep {r : List D} (h : HasL ltMach r) : ∃ i : Mach, r = i.row ∧ okZ i.dst ∧ okZ i.src := by
 obtain ⟨_, _, rfl, h0, h⟩ := h.cons_inv
 obtain ⟨_, _, rfl, h1, h⟩ := h.cons_inv
 obtain ⟨_, _, rfl, h2, h⟩ := h.cons_inv
 obtain ⟨_, _, rfl, h3, h⟩ := h.cons_inv
 obtain ⟨_, _, rfl, h4, h⟩ := h.cons_inv
 obtain ⟨_, _, rfl, h5, h⟩ := h.cons_inv
 obtain ⟨_, _, rfl, h6, h⟩ := h.cons_inv
 obtain rfl := h.nil_inv
 obtain ⟨a, rfl, _⟩ := h0.int_inv
 obtain ⟨b, rfl, _⟩ := h1.int_inv
 obtain ⟨c, rfl, _⟩ := h2.int_inv
 obtain ⟨d, rfl, _⟩ := h3.int_inv
 obtain ⟨e, rfl, _⟩ := h4.int_inv
 obtain ⟨f, rfl, o5⟩ := Jtdk h5
 obtain ⟨g, rfl, o6⟩ := Jtdk h6
 exact ⟨⟨a, b, c, d, e, f, g⟩, rfl, o5, o6⟩
theorem Jtf0 {rows : List (List D)} (h : ∀ r ∈ rows, HasL ltMach r) : ∃ l : List Mach, rows = l.map Mach.row ∧ ∀ x ∈ l, okZ x.dst ∧ okZ x.src := by
 induction rows with
 | nil => exact ⟨[], rfl, by simp⟩
 | cons r rows ih =>
  obtain ⟨a, rfl, ha⟩ := Jtep (h r (by simp))
  obtain ⟨l, rfl, hb⟩ := ih fun r hr => h r (by simp [hr])
  refine ⟨a :: l, rfl, fun n hn => ?_⟩
  rcases List.mem_cons.1 hn with rfl | hn
  ·exact ha
  ·exact hb n hn
theorem Jtf7 {r : List D} (h : HasL Jten r) : ∃ b : MBlock, r = b.row ∧ okM b := by
 obtain ⟨_, _, rfl, h0, h⟩ := h.cons_inv
 obtain ⟨_, _, rfl, h1, h⟩ := h.cons_inv
 obtain ⟨_, _, rfl, h2, h⟩ := h.cons_inv
 obtain ⟨_, _, rfl, h3, h⟩ := h.cons_inv
 obtain ⟨_, _, rfl, h4, h⟩ := h.cons_inv
 obtain rfl := h.nil_inv
 obtain ⟨rows, rfl, _, hr⟩ := h0.sl_inv
 obtain ⟨code, rfl, hok⟩ := Jtf0 hr
 obtain ⟨b, rfl, _⟩ := h1.int_inv
 obtain ⟨c, rfl, _⟩ := h2.int_inv
 obtain ⟨d, rfl, _⟩ := h3.int_inv
 obtain ⟨e, rfl, _⟩ := h4.int_inv
 exact ⟨⟨code, ⟨b, c, d, e⟩⟩, rfl, hok⟩
theorem Jtlk {x : Int} (h1 : 1 ≤ x) (h2 : x ≤ 17) : (shapeZ x).D = usesD x ∧ (shapeZ x).A = usesA x ∧ (shapeZ x).B = usesB x ∧ (shapeZ x).Imm = (x == 1) := by
 have : x = 1 ∨ x = 2 ∨ x = 3 ∨ x = 4 ∨ x = 5 ∨ x = 6 ∨ x = 7 ∨ x = 8 ∨ x = 9 ∨ x = 10 ∨ x = 11 ∨ x = 12 ∨ x = 13 ∨ x = 14 ∨ x = 15 ∨ x = 16 ∨ x = 17 := by omega
 rcases this with h | h | h | h | h | h | h | h | h | h | h | h | h | h | h | h | h <;> subst h <;> decide
theorem Jtme (x : Int) : Jtm6 x = decide (1 ≤ x ∧ x ≤ 17) := by
 rw [Bool.eq_iff_iff]; simp only [Jtm6, knownZ, Bool.and_eq_true, decide_eq_true_eq, bne_iff_ne, ne_eq]; omega
theorem out_eq (u : Bool) (v n : Int) : (u && (decide (v < 0) || decide (n ≤ v))) = (u && !inZ v n) := by
 cases u
 ·rfl
 ·rw [Bool.eq_iff_iff]; simp [inZ]
theorem Jtdi (i : Instr) (regs : Int) : Jtml i regs = Jtjo i regs := by
 unfold Jtml Jtjo
 by_cases h : i.op < 1 ∨ 17 < i.op
 ·rw [if_pos h, if_pos (by rw [Jtme]; simp only [decide_eq_false_iff_not]; omega)]
 ·obtain ⟨hD, hA, hB, hI⟩ := Jtlk (x := i.op) (by omega) (by omega)
  rw [if_neg h, if_neg (by rw [Jtme]; simp only [decide_eq_false_iff_not]; omega)]
  have e1 : Jtox (flds i regs) = !bad9 i regs := by
   simp only [Jtox, flds, bad9, List.any_cons, List.any_nil, Field.bad, hD, hA, hB, out_eq, Bool.or_false, Bool.or_assoc]
  have e2 : blankZ (flds i regs) = !(!usesD i.op && i.d != 0 || !usesA i.op && i.a != 0 || !usesB i.op && i.b != 0) := by
   simp only [blankZ, flds, List.any_cons, List.any_nil, Field.odd, hD, hA, hB, Bool.or_false, Bool.or_assoc]
  have e3 : bad12 i = ((!usesD i.op && i.d != 0 || !usesA i.op && i.a != 0 || !usesB i.op && i.b != 0) || i.op != 1 && i.imm != 0) := rfl
  rw [e1, e2, e3, hI]
  generalize bad9 i regs = p1
  generalize (!usesD i.op && i.d != 0 || !usesA i.op && i.a != 0 || !usesB i.op && i.b != 0) = p2
  cases p1
  ·cases p2
   ·by_cases c1 : i.op = 1 <;> by_cases c2 : i.imm = 0 <;> simp [c1, c2]
   ·simp
  ·simp
theorem Jtnx (t : Term) (regs blocks : Int) : Jtmp t regs blocks = Jtju t regs blocks := by
 unfold Jtmp Jtju
 by_cases h : t.kind < 1 ∨ 3 < t.kind
 ·rw [if_pos h, if_neg (by omega), if_neg (by omega), if_neg (by omega)]
 ·rw [if_neg h]
  have hk : t.kind = 1 ∨ t.kind = 2 ∨ t.kind = 3 := by omega
  have e1 : Jtox ((fldsT t regs blocks).take 1) = !((t.kind != 1) && !inZ t.a regs) := by
   simp only [Jtox, fldsT, List.take_succ_cons, List.take_zero, List.any_cons, List.any_nil, Field.bad, out_eq, Bool.or_false]
  have e2 : Jtox ((fldsT t regs blocks).drop 1) = !((t.kind != 3) && !inZ t.to blocks || (t.kind == 2) && !inZ t.els blocks) := by
   simp only [Jtox, fldsT, List.drop_succ_cons, List.drop_zero, List.any_cons, List.any_nil, Field.bad, out_eq, Bool.or_false]
  have e3 : blankZ (fldsT t regs blocks) = !((!(t.kind != 1) && t.a != 0) || (!(t.kind != 3) && t.to != 0) || (!(t.kind == 2) && t.els != 0)) := by
   simp only [blankZ, fldsT, List.any_cons, List.any_nil, Field.odd, Bool.or_false, Bool.or_assoc]
  rw [e1, e2, e3]
  rcases hk with hk | hk | hk <;> rw [hk] <;> cases inZ t.a regs <;> cases inZ t.to blocks <;> cases inZ t.els blocks <;> by_cases ca : t.a = 0 <;> by_cases ct : t.to = 0 <;> by_cases ce : t.els = 0 <;> simp [ca, ct, ce]
theorem Jt6n (f : Func) : Jtmk f = Jtjn f := by
 have e : ∀ b : Block, Jtmj b f.regs f.blocks.length = Jtjm b f.regs f.blocks.length := by
  intro b
  simp only [Jtmj, Jtjm, Jtdi, Jtnx]
 simp only [Jtmk, Jtjn, e]
section
variable {P : Program} {q : Bool} {K : ASt → Prop} {QP : AV → ASt → Prop} {dst : Option Nat} {st : ASt}
@[simp] def goCV (K : ASt → Prop) (dst : Option Nat) (st : ASt) (P : Program) (q : Bool) (QP : AV → ASt → Prop) : Option AV → Option (List AV) → Prop
 | some (.fn (.func f) xs bs), some cs => okFn P f = true ∧ AWcall P q f (xs ++ cs ++ bs) dst K QP st
 | _, _ => False
@[simp] theorem Jt1f {x : Opd} {args : List Opd} : AWio P q (.callv x args) dst K QP st ↔ goCV K dst st P q QP (evr st.env x) (evs st.env args) := by
 constructor
 ·rintro ⟨f, xs, bs, cs, h1, h2, h3, h4⟩; rw [h1, h3]; exact ⟨h2, h4⟩
 ·intro h
  unfold goCV at h
  split at h
  ·rename_i f xs bs cs h1 h3; exact ⟨f, xs, bs, cs, h1, h.1, h3, h.2⟩
  ·exact h.elim
end
def runN (n : Nat) (m : Mach) : Nat := if m.op = 18 then n + 1 else 0
def runF (l : List Mach) : Nat := l.foldl runN 0
theorem Jtl9 {l : List Mach} {j : Nat} (h : j < l.length) : runF (l.take (j + 1)) = runN (runF (l.take j)) l[j] := by
 unfold runF
 rw [List.take_succ_eq_append_getElem h, List.foldl_append]
 rfl
theorem Jtl7 {l : List Mach} : ∀ {j k : Nat}, j ≤ l.length → (k ≤ runF (l.take j) ↔ k ≤ j ∧ ∀ i x, j - k ≤ i → i < j → l[i]? = some x → x.op = 18) := by
 intro j
 induction j with
 | zero =>
  intro k _
  simp only [List.take_zero, runF, List.foldl_nil]
  constructor
  ·intro h; exact ⟨h, fun i x _ h2 => by omega⟩
  ·intro h; exact h.1
 | succ j ih =>
  intro k hj
  have hjl : j < l.length := by omega
  have hji : l[j]? = some l[j] := by simp [hjl]
  rw [Jtl9 hjl]
  unfold runN
  by_cases h18 : l[j].op = 18
  ·rw [if_pos h18]
   cases k with
   | zero => simp only [Nat.zero_le, true_and, true_iff]; intro i x h1 h2; omega
   | succ k =>
    have := ih (k := k) (by omega)
    constructor
    ·intro h
     obtain ⟨e1, e2⟩ := this.1 (by omega)
     refine ⟨by omega, fun i x h1 h2 hx => ?_⟩
     by_cases hi : i = j
     ·subst hi; rw [hji] at hx; injection hx with hx; subst hx; exact h18
     ·exact e2 i x (by omega) (by omega) hx
    ·rintro ⟨e1, e2⟩
     have := this.2 ⟨by omega, fun i x h1 h2 hx => e2 i x (by omega) (by omega) hx⟩
     omega
  ·rw [if_neg h18]
   cases k with
   | zero => simp only [Nat.le_refl, Nat.zero_le, true_and, true_iff]; intro i x h1 h2; omega
   | succ k =>
    constructor
    ·intro h; omega
    ·rintro ⟨e1, e2⟩
     exact absurd (e2 j _ (by omega) (by omega) hji) h18
theorem Jtdx {w : List Mach} : w.length ≤ lead w ↔ ∀ x ∈ w, x.op = 18 := by
 induction w with
 | nil => simp [lead]
 | cons m w ih =>
  simp only [lead, List.length_cons, List.mem_cons, forall_eq_or_imp]
  by_cases h : m.op = 18
  ·simp only [h, beq_self_eq_true, if_true, true_and]
   rw [← ih]; omega
  ·have hb : (m.op == 18) = false := by simpa using h
   simp only [hb, Bool.false_eq_true, if_false, h, false_and, iff_false]; omega
theorem Jtg0 {l : List Nat} {k : Nat} : k < mostN l ↔ ∃ x ∈ l, k < x := by
 have key : ∀ (l : List Nat) (n : Nat), k < l.foldl max n ↔ k < n ∨ ∃ x ∈ l, k < x := by
  intro l
  induction l with
  | nil => intro n; simp
  | cons x l ih =>
   intro n
   simp only [List.foldl_cons, ih, List.mem_cons, exists_eq_or_imp]
   constructor
   ·rintro (h | h)
    ·by_cases hx : k < x
     ·exact .inr (.inl hx)
     ·exact .inl (by omega)
    ·exact .inr (.inr h)
   ·rintro (h | h | h)
    ·exact .inl (by omega)
    ·exact .inl (by omega)
    ·exact .inr h
 have := key l 0
 unfold mostN
 rw [this]; simp
theorem Jtjt {w : List Mach} (hw : w.length = 65) : 64 < Jtjs w ↔ ∀ x ∈ w, x.op = 18 := by
 rw [← Jtdx]
 unfold Jtjs
 rw [Jtg0]
 constructor
 ·rintro ⟨x, hx, h⟩
  rw [List.mem_map] at hx
  obtain ⟨i, hi, rfl⟩ := hx
  have h1 := Jtdy (w.drop i)
  rw [List.length_drop] at h1
  have hi0 : i = 0 := by omega
  subst hi0
  rw [List.drop_zero] at h
  omega
 ·intro h
  exact ⟨lead (w.drop 0), List.mem_map.2 ⟨0, by simp; omega, rfl⟩, by rw [List.drop_zero]; omega⟩
theorem Jtga {l : List Mach} {j : Nat} (h : j < l.length) : 64 < runF (l.take (j + 1)) ↔ (64 ≤ j ∧ 64 < Jtjs ((l.take (j + 1)).drop (j - 64))) := by
 have h1 := Jtl7 (l := l) (j := j + 1) (k := 65) (by omega)
 constructor
 ·intro h2
  obtain ⟨e1, e2⟩ := h1.1 h2
  have hw : ((l.take (j + 1)).drop (j - 64)).length = 65 := by rw [List.length_drop, List.length_take]; omega
  refine ⟨by omega, (Jtjt hw).2 fun x hx => ?_⟩
  obtain ⟨i, hi⟩ := List.getElem?_of_mem hx
  rw [List.getElem?_drop, List.getElem?_take] at hi
  split at hi
  ·exact e2 _ x (by omega) (by omega) hi
  ·cases hi
 ·rintro ⟨e1, e2⟩
  have hw : ((l.take (j + 1)).drop (j - 64)).length = 65 := by rw [List.length_drop, List.length_take]; omega
  have e3 := (Jtjt hw).1 e2
  have := h1.2 ⟨by omega, fun i x k1 k2 hx => e3 x (List.mem_iff_getElem?.2 ⟨i - (j - 64), by rw [List.getElem?_drop, List.getElem?_take, if_pos (by omega), show j - 64 + (i - (j - 64)) = i by omega]; exact hx⟩)⟩
  omega
def wTotal (w : List (List Pair)) : Nat := (w.map List.length).sum
def pErr (l : List Pair) (vregs regs slots : Int) (k : Nat) : Int := match l[k]? with
 | none => 0
 | some q => if q.v < 0 ∨ vregs ≤ q.v then 9 else if rngZ q.l regs slots = false then 10 else if 0 < k ∧ (match l[k - 1]? with | some q0 => lessP q0 q | none => true) = false then 13 else 0
def pErrs (l : List Pair) (vregs regs slots : Int) : Int := Jt8p ((List.range l.length).map (pErr l vregs regs slots))
def Jt7t (w : List (List Pair)) (blocks vregs regs slots : Int) : Int := if (w.length : Int) ≠ blocks then 14 else if 1048576 < wTotal w then 6 else Jt8p (w.map fun l => pErrs l vregs regs slots)
def okW (w : List (List Pair)) : Prop := ∀ l ∈ w, ∀ q ∈ l, okZ q.l
def validZ (c : Cert) : Int := if Jtjn c.S ≠ 0 then Jtjn c.S else if Jtjq c.T ≠ 0 then Jtjq c.T else if c.S.blocks.length ≠ c.T.blocks.length ∨ c.S.args ≠ c.T.args then 14 else Jt7t c.W c.S.blocks.length c.S.regs c.T.regs c.T.slots
def fewM (f : MFunc) : Bool := decide (f.blocks.length ≤ 40) && decide (f.regs ≤ 60) && decide (f.slots ≤ 60) && f.blocks.all (fun b => decide (b.code.length ≤ 300)) && decide (mcodeN f.blocks ≤ 900)
def fewW (w : List (List Pair)) : Bool := decide (w.length ≤ 40) && w.all (fun l => decide (l.length ≤ 400))
def fewC (c : Cert) : Bool := few c.S && fewM c.T && fewW c.W
def succsZ (t : Term) : List Int := if t.kind = 1 then [t.to] else if t.kind = 2 then [t.to, t.els] else []
def initZ (q : Pair) (args : Int) : Bool := if q.v < args then decide (q.l.tmod 2 = 1) && decide (q.l.tdiv 2 = q.v) else !decide (q.l.tmod 2 = 1) || decide (args ≤ q.l.tdiv 2)
structure Rep where (err block at_ : Int) (blocks edges steps largest : Nat)
 deriving DecidableEq
def Rep.av (r : Rep) : AV := .agg [AI r.err, AI r.block, AI r.at_, AI r.blocks, AI r.edges, AI r.steps, AI r.largest]
def edgesC (w : List (List Pair)) (out : List Pair) (i : Nat) : List Int → Nat → Rep → Rep × Bool
 | [], _, r => (r, false)
 | to :: ts, k, r =>
  if (missP ((w[to.toNat]?).getD []) out).isSome = true then ({ r with edges := r.edges + 1, steps := r.steps + 1 + out.length + ((w[to.toNat]?).getD []).length, err := 22, block := i, at_ := k }, true)
  else edgesC w out i ts (k + 1) { r with edges := r.edges + 1, steps := r.steps + 1 + out.length + ((w[to.toNat]?).getD []).length }
def blockC (c : Cert) (i : Nat) (r : Rep) : Rep × Bool := match c.S.blocks[i]?, c.T.blocks[i]?, c.W[i]? with
 | some b, some m, some l =>
  if (checkZ b m l 1048576).err ≠ 0 then ({ r with blocks := r.blocks + 1, steps := r.steps + (checkZ b m l 1048576).steps, largest := max r.largest (checkZ b m l 1048576).largest, err := (checkZ b m l 1048576).err, block := i, at_ := (checkZ b m l 1048576).at_ }, true)
  else edgesC c.W (checkZ b m l 1048576).out i (succsZ b.term) 0 { r with blocks := r.blocks + 1, steps := r.steps + (checkZ b m l 1048576).steps, largest := max r.largest (checkZ b m l 1048576).largest }
 | _, _, _ => (r, true)
def Jt5r (c : Cert) : Nat → Nat → Rep → Rep
 | 0, _, r => r
 | n + 1, i, r => match blockC c i r with
  | (r, true) => r
  | (r, false) => Jt5r c n (i + 1) r
def mostW (w : List (List Pair)) : Nat := mostN (w.map List.length)
def w0 (c : Cert) : List Pair := (c.W[0]?).getD []
def rep0 (c : Cert) : Rep := ⟨0, 0, 0, 0, 0, 1 + (w0 c).length, mostW c.W⟩
def Jtkc (c : Cert) : Rep := if validZ c ≠ 0 then ⟨validZ c, 0, 0, 0, 0, 0, 0⟩ else if ((w0 c).all fun q => initZ q c.S.args) = false then { rep0 c with err := 23 } else Jt5r c c.S.blocks.length 0 (rep0 c)
theorem Jtfb {bs : List MBlock} (h : ∀ b ∈ bs, b.code.length ≤ 300) : mcodeN bs ≤ 300 * bs.length := by
 induction bs with
 | nil => simp [mcodeN]
 | cons b bs ih =>
  have h1 := h b (by simp)
  have h2 := ih fun b hb => h b (by simp [hb])
  simp only [mcodeN, List.map_cons, List.sum_cons, List.length_cons] at *
  omega
theorem Jtot {w : List (List Pair)} {k : Nat} {l : List Pair} (h : w[k]? = some l) : wTotal (w.take (k + 1)) = wTotal (w.take k) + l.length := by
 rw [List.take_add_one, h]; simp [wTotal]
theorem Jtor (w : List (List Pair)) (k : Nat) : wTotal (w.take k) ≤ wTotal w := by
 have h : wTotal (w.take k) + wTotal (w.drop k) = wTotal w := by
  unfold wTotal
  rw [← List.sum_append, ← List.map_append, List.take_append_drop]
 omega
section
theorem Jtiz {P : Program} {p : Nums} (A : All P p) (f : MFunc) : Jt3o P p.ref08_Few [f.av] [] fun o _ => o = .ret (AB (fewM f)) := by
 refine A.ref08_Few.run rfl fun R hR => ?_
 (simp (maxSteps := 1000000) [Jtc7, MFunc.av])
 ((first | refine Xc (fun a1 => ?_) (fun a1 => ?_) | refine Xo (fun a1 => ?_) (fun a1 => ?_)) <;> (try simp only [Xz, Xy] at a1))
 ·(simp (maxSteps := 1000000) [a1])
  have e : fewM f = false := by simp [fewM]; omega
  (first | exact hR _ _ FrA | exact hR _ _ FnA | exact hR _ _ (Xf (hq := by simp [AV.erase, AV.unview, e]; done)))
 (simp (maxSteps := 1000000) [a1])
 ((first | refine Xc (fun a2 => ?_) (fun a2 => ?_) | refine Xo (fun a2 => ?_) (fun a2 => ?_)) <;> (try simp only [Xz, Xy] at a2))
 ·(simp (maxSteps := 1000000) [a2])
  have e : fewM f = false := by simp [fewM]; omega
  (first | exact hR _ _ FrA | exact hR _ _ FnA | exact hR _ _ (Xf (hq := by simp [AV.erase, AV.unview, e]; done)))
 (simp (maxSteps := 1000000) [a2])
 ((first | refine Xc (fun a3 => ?_) (fun a3 => ?_) | refine Xo (fun a3 => ?_) (fun a3 => ?_)) <;> (try simp only [Xz, Xy] at a3))
 ·(simp (maxSteps := 1000000) [a3])
  have e : fewM f = false := by simp [fewM]; omega
  (first | exact hR _ _ FrA | exact hR _ _ FnA | exact hR _ _ (Xf (hq := by simp [AV.erase, AV.unview, e]; done)))
 (simp (maxSteps := 1000000) [a3])
 refine Jt9 (fun k : Nat => ⟨[(3, AI k), (1, .ptr 0 0)], [.mem [AI f.args, AI f.regs, AI f.slots, .d (.sl (f.blocks.map MBlock.row))]]⟩)
  (fun k => k ≤ f.blocks.length ∧ ∀ b ∈ f.blocks.take k, b.code.length ≤ 300) (fun k => f.blocks.length - k) 0 (by simp) (by (exact wkA)) ?_
 rintro k ⟨hk, hz⟩ N hN
 (simp (maxSteps := 1000000) [])
 ((first | refine Xc (fun h2 => ?_) (fun h2 => ?_) | refine Xo (fun h2 => ?_) (fun h2 => ?_)) <;> (try simp only [Xz, Xy] at h2))
 ·have hkl : k < f.blocks.length := by simpa using h2
  have hb : f.blocks[k]? = some f.blocks[k] := by simp [hkl]
  have hw := Jtp7 (k := k) (by omega)
  (simp (maxSteps := 1000000) [h2, hb, MBlock.row])
  ((first | refine Xc (fun h3 => ?_) (fun h3 => ?_) | refine Xo (fun h3 => ?_) (fun h3 => ?_)) <;> (try simp only [Xz, Xy] at h3))
  ·(simp (maxSteps := 1000000) [h3])
   have e : fewM f = false := by
    have : ¬ (∀ b ∈ f.blocks, b.code.length ≤ 300) := fun h => by have := h f.blocks[k] (by simp); omega
    simp [fewM]; intro _ _ _ h; exact absurd h this
   (first | exact hR _ _ FrA | exact hR _ _ FnA | exact hR _ _ (Xf (hq := by simp [AV.erase, AV.unview, e]; done)))
  ·(simp (maxSteps := 1000000) [h3, hw])
   refine hN _ (k + 1) ⟨hkl, ?_⟩ (by (exact wkA)) (by omega)
   intro b hb'
   rw [List.take_add_one, hb, List.mem_append] at hb'
   rcases hb' with hb' | hb'
   ·exact hz b hb'
   ·simp at hb'; subst hb'; omega
 ·have hk' : k = f.blocks.length := by simp at h2; omega
  subst hk'
  (simp (maxSteps := 1000000) [])
  have hcb : mcodeN f.blocks ≤ 300 * f.blocks.length := Jtfb (by rw [List.take_length] at hz; exact hz)
  (refine Jts (Jtix A f (by omega) (by omega)) (by rfl) (by rfl) ?_)
  (simp (maxSteps := 1000000) [])
  have e : fewM f = decide ((mcodeN f.blocks : Int) ≤ 900) := by
   rw [List.take_length] at hz
   have e1 : f.blocks.all (fun b => decide (b.code.length ≤ 300)) = true := by simpa using hz
   have e2 : decide (f.blocks.length ≤ 40) = true := by simp; omega
   have e3 : decide (f.regs ≤ 60) = true := by simp; omega
   have e4 : decide (f.slots ≤ 60) = true := by simp; omega
   simp only [fewM, e1, e2, e3, e4, Bool.true_and]
   congr 1; simp; omega
  (first | exact hR _ _ FrA | exact hR _ _ FnA | exact hR _ _ (Xf (hq := by simp [AV.erase, AV.unview, e]; done)))
theorem Jtji {P : Program} {p : Nums} (A : All P p) (w : List (List Pair)) : Jt3o P p.ref15_Few [.d (witD w)] [] fun o _ => o = .ret (AB (fewW w)) := by
 refine A.ref15_Few.run rfl fun R hR => ?_
 (simp (maxSteps := 1000000) [Jtco, witD])
 refine Jt9 (fun k : Nat => ⟨[(3, AI k), (0, .d (.sl (w.map fun l => [pairsD l])))], []⟩)
  (fun k => k ≤ w.length ∧ k ≤ 41 ∧ ∀ l ∈ w.take k, l.length ≤ 400) (fun k => w.length - k) 0 (by simp) (by (exact wkA)) ?_
 rintro k ⟨hk, hk41, hz⟩ N hN
 (simp (maxSteps := 1000000) [])
 ((first | refine Xc (fun h2 => ?_) (fun h2 => ?_) | refine Xo (fun h2 => ?_) (fun h2 => ?_)) <;> (try simp only [Xz, Xy] at h2))
 ·have hkl : k < w.length := by simpa using h2
  have hb : w[k]? = some w[k] := by simp [hkl]
  have hw := Jtp7 (k := k) (by omega)
  (simp (maxSteps := 1000000) [h2, hb])
  ((first | refine Xc (fun h3 => ?_) (fun h3 => ?_) | refine Xo (fun h3 => ?_) (fun h3 => ?_)) <;> (try simp only [Xz, Xy] at h3))
  ·(simp (maxSteps := 1000000) [h3, hb, pairsD])
   ((first | refine Xc (fun h4 => ?_) (fun h4 => ?_) | refine Xo (fun h4 => ?_) (fun h4 => ?_)) <;> (try simp only [Xz, Xy] at h4))
   ·(simp (maxSteps := 1000000) [h4])
    have e : fewW w = false := by
     simp [fewW]; intro _; exact ⟨w[k], List.getElem_mem hkl, by omega⟩
    (first | exact hR _ _ FrA | exact hR _ _ FnA | exact hR _ _ (Xf (hq := by simp [AV.erase, AV.unview, e]; done)))
   ·(simp (maxSteps := 1000000) [h4, hw])
    refine hN _ (k + 1) ⟨hkl, by omega, ?_⟩ (by (exact wkA)) (by omega)
    intro l hl
    rw [List.take_add_one, hb, List.mem_append] at hl
    rcases hl with hl | hl
    ·exact hz l hl
    ·simp at hl; subst hl; omega
  ·(simp (maxSteps := 1000000) [h3])
   have e : fewW w = false := by simp [fewW]; intro h; omega
   have e2 : 40 < (w.length : Int) := by omega
   (first | exact hR _ _ FrA | exact hR _ _ FnA | exact hR _ _ (Xf (hq := by simp [AV.erase, AV.unview, e, e2]; done)))
 ·have hk' : k = w.length := by simp at h2; omega
  subst hk'
  (simp (maxSteps := 1000000) [])
  have e : fewW w = decide ((w.length : Int) ≤ 40) := by
   rw [List.take_length] at hz
   have e1 : w.all (fun l => decide (l.length ≤ 400)) = true := by simpa using hz
   simp only [fewW, e1, Bool.and_true]
   congr 1; simp; omega
  (first | exact hR _ _ FrA | exact hR _ _ FnA | exact hR _ _ (Xf (hq := by simp [AV.erase, AV.unview, e]; done)))
theorem Jtjl {P : Program} {p : Nums} (A : All P p) (c : Cert) : Jt3o P p.ref16_Few [c.av] [] fun o _ => o = .ret (AB (fewC c)) := by
 refine A.ref16_Few.run rfl fun R hR => ?_
 (simp (maxSteps := 1000000) [Jtcq, Cert.av])
 (refine Jts (Jtiv A c.S) (by rfl) (by rfl) ?_)
 (simp (maxSteps := 1000000) [])
 ((first | refine Xc (fun h1 => ?_) (fun h1 => ?_) | refine Xo (fun h1 => ?_) (fun h1 => ?_)) <;> (try simp only [Xz, Xy] at h1))
 ·(simp (maxSteps := 1000000) [h1])
  (refine Jts (Jtiz A c.T) (by rfl) (by rfl) ?_)
  (simp (maxSteps := 1000000) [])
  ((first | refine Xc (fun h2 => ?_) (fun h2 => ?_) | refine Xo (fun h2 => ?_) (fun h2 => ?_)) <;> (try simp only [Xz, Xy] at h2))
  ·(simp (maxSteps := 1000000) [h2])
   (refine Jts (Jtji A c.W) (by rfl) (by rfl) ?_)
   (simp (maxSteps := 1000000) [])
   (first | exact hR _ _ FrA | exact hR _ _ FnA | exact hR _ _ (Xf (hq := by simp [AV.erase, AV.unview, fewC, h1, h2]; done)))
  ·(simp (maxSteps := 1000000) [h2])
   (first | exact hR _ _ FrA | exact hR _ _ FnA | exact hR _ _ (Xf (hq := by simp [AV.erase, AV.unview, fewC, h1, h2]; done)))
 ·(simp (maxSteps := 1000000) [h1])
  (first | exact hR _ _ FrA | exact hR _ _ FnA | exact hR _ _ (Xf (hq := by simp [AV.erase, AV.unview, fewC, h1]; done)))
theorem Jter {P : Program} {p : Nums} (A : All P p) (f : MFunc) (h0 : f.blocks.length < 1000000000) (h1 : mcodeN f.blocks < 1000000000) : Jt3o P p.machine_Code [f.av] [] fun o _ => o = .ret (AI (mcodeN f.blocks)) := by
 refine A.machine_Code.run rfl fun R hR => ?_
 (simp (maxSteps := 1000000) [Jtb9, MFunc.av])
 refine Jt9 (fun k : Nat => ⟨[(9, AI k), (8, AI f.blocks.length), (7, .d (.sl (f.blocks.map MBlock.row))), (3, AI (mcodeN (f.blocks.take k)))], []⟩) (fun k => k ≤ f.blocks.length) (fun k => f.blocks.length - k) 0 (by simp) (by (exact wkA)) ?_
 intro k hk N hN
 (simp (maxSteps := 1000000) [])
 ((first | refine Xc (fun h2 => ?_) (fun h2 => ?_) | refine Xo (fun h2 => ?_) (fun h2 => ?_)) <;> (try simp only [Xz, Xy] at h2))
 ·have hkl : k < f.blocks.length := by simpa using h2
  have hb : f.blocks[k]? = some f.blocks[k] := by simp [hkl]
  have hw := Jtp7 (k := k) (by omega)
  have hs := Jtfd hb
  have hle := Jtfc f.blocks (k + 1)
  have hw2 := Jtp6 (a := mcodeN (f.blocks.take k)) (b := f.blocks[k].code.length) (by omega)
  rw [← hs] at hw2
  (simp (maxSteps := 1000000) [h2, List.getElem?_map, hb, MBlock.row, hw, hw2])
  exact hN _ (k + 1) hkl (by (exact wkA)) (by omega)
 ·have hk' : k = f.blocks.length := by simp at h2; omega
  subst hk'
  (simp (maxSteps := 1000000) [])
  (first | exact hR _ _ FrA | exact hR _ _ FnA | exact hR _ _ (Xf (hq := by simp [AV.erase, AV.unview, List.take_length]; done)))
theorem Jt7z {P : Program} {p : Nums} (A : All P p) (w : List (List Pair)) (h0 : w.length < 1000000000) (h1 : wTotal w < 1000000000) : Jt3o P p.edge_total [.d (witD w)] [] fun o _ => o = .ret (AI (wTotal w)) := by
 refine A.edge_total.run rfl fun R hR => ?_
 (simp (maxSteps := 1000000) [Jtb0, witD])
 refine Jt9 (fun k : Nat => ⟨[(8, AI k), (7, AI w.length), (6, .d (.sl (w.map fun l => [pairsD l]))), (3, AI (wTotal (w.take k)))], []⟩) (fun k => k ≤ w.length) (fun k => w.length - k) 0 (by simp) (by (exact wkA)) ?_
 intro k hk N hN
 (simp (maxSteps := 1000000) [])
 ((first | refine Xc (fun h2 => ?_) (fun h2 => ?_) | refine Xo (fun h2 => ?_) (fun h2 => ?_)) <;> (try simp only [Xz, Xy] at h2))
 ·have hkl : k < w.length := by simpa using h2
  have hb : w[k]? = some w[k] := by simp [hkl]
  have hw := Jtp7 (k := k) (by omega)
  have hs := Jtot hb
  have hle := Jtor w (k + 1)
  have hw2 := Jtp6 (a := wTotal (w.take k)) (b := w[k].length) (by omega)
  rw [← hs] at hw2
  (simp (maxSteps := 1000000) [h2, hb, pairsD, hw, hw2])
  exact hN _ (k + 1) hkl (by (exact wkA)) (by omega)
 ·have hk' : k = w.length := by simp at h2; omega
  subst hk'
  (simp (maxSteps := 1000000) [])
  (first | exact hR _ _ FrA | exact hR _ _ FnA | exact hR _ _ (Xf (hq := by simp [AV.erase, AV.unview, List.take_length]; done)))
theorem Jth5 {P : Program} {p : Nums} (A : All P p) (x : Int) : Jt3o P p.opcode_Machine [AI x] [] fun o _ => o = .ret (AB (knownZ x && x != 2)) := by
 refine A.opcode_Machine.run rfl fun R hR => ?_
 (simp (maxSteps := 1000000) [Jtbi])
 (refine Jts (Jth8 A x) (by rfl) (by rfl) ?_)
 (simp (maxSteps := 1000000) [])
 ((first | refine Xc (fun h1 => ?_) (fun h1 => ?_) | refine Xo (fun h1 => ?_) (fun h1 => ?_)) <;> (try simp only [Xz, Xy] at h1))
 ·(simp (maxSteps := 1000000) [h1])
  (first | exact hR _ _ FrA | exact hR _ _ FnA | exact hR _ _ (Xf (hq := by simp [AV.erase, AV.unview, h1, bne]; done)))
 ·(simp (maxSteps := 1000000) [h1])
  (first | exact hR _ _ FrA | exact hR _ _ FnA | exact hR _ _ (Xf (hq := by simp [AV.erase, AV.unview, h1]; done)))
end
def clearM (i : Mach) : Bool := (i.d == 0) && (i.a == 0) && (i.b == 0) && (i.imm == 0)
def clearO (i : Mach) : Bool := (i.dst == 0) && (i.src == 0)
def movZ (i : Mach) (regs slots : Int) : Int := if (i.dst.tmod 2 = 1 ∧ i.src.tmod 2 = 1) ∨ rngZ i.dst regs slots = false ∨ rngZ i.src regs slots = false then 10 else 0
def Mach.instr (i : Mach) : Instr := ⟨i.op, i.d, i.a, i.b, i.imm⟩
section
theorem Jtex {P : Program} {p : Nums} (A : All P p) (i : Mach) (regs slots : Int) : Jt3o P p.machine_others_1 [i.av, AI regs, AI slots] [] fun o _ => o = .ret (AI (Jtml i.instr regs)) := by
 refine A.machine_others_1.run rfl fun R hR => ?_
 (simp (maxSteps := 1000000) [Jtbg, Mach.av])
 (refine Jts (Jtm9 A i.instr regs) (by rfl) (by rfl) ?_)
 (simp (maxSteps := 1000000) [])
 (first | exact hR _ _ FrA | exact hR _ _ FnA)
theorem Jtey {P : Program} {p : Nums} (A : All P p) (i : Mach) : Jt3o P p.machine_others_2 [i.av] [] fun o _ => o = .ret (AB (clearO i)) := by
 refine A.machine_others_2.run rfl fun R hR => ?_
 (simp (maxSteps := 1000000) [Jtbh, Mach.av])
 ((first | refine Xc (fun h1 => ?_) (fun h1 => ?_) | refine Xo (fun h1 => ?_) (fun h1 => ?_)) <;> (try simp only [Xz, Xy] at h1))
 ·(simp (maxSteps := 1000000) [h1])
  (first | exact hR _ _ FrA | exact hR _ _ FnA | exact hR _ _ (Xf (hq := by simp [AV.erase, AV.unview, clearO, h1]; done)))
 ·(simp (maxSteps := 1000000) [h1])
  (first | exact hR _ _ FrA | exact hR _ _ FnA | exact hR _ _ (Xf (hq := by simp [AV.erase, AV.unview, clearO, h1]; done)))
theorem Jtev {P : Program} {p : Nums} (A : All P p) (i : Mach) : Jt3o P p.machine_moves_2 [i.av] [] fun o _ => o = .ret (AB (clearM i)) := by
 refine A.machine_moves_2.run rfl fun R hR => ?_
 (simp (maxSteps := 1000000) [Jtbe, Mach.av])
 ((first | refine Xc (fun h1 => ?_) (fun h1 => ?_) | refine Xo (fun h1 => ?_) (fun h1 => ?_)) <;> (try simp only [Xz, Xy] at h1))
 ·(simp (maxSteps := 1000000) [h1])
  ((first | refine Xc (fun h2 => ?_) (fun h2 => ?_) | refine Xo (fun h2 => ?_) (fun h2 => ?_)) <;> (try simp only [Xz, Xy] at h2))
  ·(simp (maxSteps := 1000000) [h2])
   ((first | refine Xc (fun h3 => ?_) (fun h3 => ?_) | refine Xo (fun h3 => ?_) (fun h3 => ?_)) <;> (try simp only [Xz, Xy] at h3))
   ·(simp (maxSteps := 1000000) [h3])
    (first | exact hR _ _ FrA | exact hR _ _ FnA | exact hR _ _ (Xf (hq := by simp [AV.erase, AV.unview, clearM, h1, h2, h3]; done)))
   ·(simp (maxSteps := 1000000) [h3])
    (first | exact hR _ _ FrA | exact hR _ _ FnA | exact hR _ _ (Xf (hq := by simp [AV.erase, AV.unview, clearM, h1, h2, h3]; done)))
  ·(simp (maxSteps := 1000000) [h2])
   (first | exact hR _ _ FrA | exact hR _ _ FnA | exact hR _ _ (Xf (hq := by simp [AV.erase, AV.unview, clearM, h1, h2]; done)))
 ·(simp (maxSteps := 1000000) [h1])
  (first | exact hR _ _ FrA | exact hR _ _ FnA | exact hR _ _ (Xf (hq := by simp [AV.erase, AV.unview, clearM, h1]; done)))
theorem Jteu {P : Program} {p : Nums} (A : All P p) (i : Mach) (regs slots : Int) (g1 : okZ i.dst) (g2 : okZ i.src) : Jt3o P p.machine_moves_1 [i.av, AI regs, AI slots] [] fun o _ => o = .ret (AI (movZ i regs slots)) := by
 refine A.machine_moves_1.run rfl fun R hR => ?_
 (simp (maxSteps := 1000000) [Jtbd, Mach.av])
 (refine Jts (Jtee A i.dst) (by rfl) (by rfl) ?_)
 (simp (maxSteps := 1000000) [])
 have rest : ∀ both : Bool, both = decide (i.dst.tmod 2 = 1 ∧ i.src.tmod 2 = 1) → movZ i regs slots = if both = true then 10 else if rngZ i.dst regs slots = false then 10 else if rngZ i.src regs slots = false then 10 else 0 := by
  intro both hb
  subst hb
  unfold movZ
  by_cases c1 : i.dst.tmod 2 = 1 ∧ i.src.tmod 2 = 1 <;> cases rngZ i.dst regs slots <;> cases rngZ i.src regs slots <;> simp [c1]
 ((first | refine Xc (fun h1 => ?_) (fun h1 => ?_) | refine Xo (fun h1 => ?_) (fun h1 => ?_)) <;> (try simp only [Xz, Xy] at h1))
 ·(simp (maxSteps := 1000000) [h1])
  (refine Jts (Jtee A i.src) (by rfl) (by rfl) ?_)
  (simp (maxSteps := 1000000) [])
  ((first | refine Xc (fun h2 => ?_) (fun h2 => ?_) | refine Xo (fun h2 => ?_) (fun h2 => ?_)) <;> (try simp only [Xz, Xy] at h2))
  ·(simp (maxSteps := 1000000) [h2])
   have e := rest true (by simp [h1, h2])
   (first | exact hR _ _ FrA | exact hR _ _ FnA | exact hR _ _ (Xf (hq := by simp [AV.erase, AV.unview, e]; done)))
  ·have b2 : (i.src.tmod 2 == 1) = false := by simp [h2]
   (simp (maxSteps := 1000000) [h2, b2])
   have e := rest false (by simp [h1, h2])
   (refine Jts (Jtec A i.dst regs slots g1.1 g1.2) (by rfl) (by rfl) ?_)
   (simp (maxSteps := 1000000) [])
   ((first | refine Xc (fun h3 => ?_) (fun h3 => ?_) | refine Xo (fun h3 => ?_) (fun h3 => ?_)) <;> (try simp only [Xz, Xy] at h3))
   ·(simp (maxSteps := 1000000) [h3])
    (first | exact hR _ _ FrA | exact hR _ _ FnA | exact hR _ _ (Xf (hq := by simp [AV.erase, AV.unview, e, h3]; done)))
   (simp (maxSteps := 1000000) [h3])
   (refine Jts (Jtec A i.src regs slots g2.1 g2.2) (by rfl) (by rfl) ?_)
   (simp (maxSteps := 1000000) [])
   ((first | refine Xc (fun h4 => ?_) (fun h4 => ?_) | refine Xo (fun h4 => ?_) (fun h4 => ?_)) <;> (try simp only [Xz, Xy] at h4))
   ·(simp (maxSteps := 1000000) [h4])
    (first | exact hR _ _ FrA | exact hR _ _ FnA | exact hR _ _ (Xf (hq := by simp [AV.erase, AV.unview, e, h3, h4]; done)))
   (simp (maxSteps := 1000000) [h4])
   (first | exact hR _ _ FrA | exact hR _ _ FnA | exact hR _ _ (Xf (hq := by simp [AV.erase, AV.unview, e, h3, h4]; done)))
 ·have b1 : (i.dst.tmod 2 == 1) = false := by simp [h1]
  (simp (maxSteps := 1000000) [h1, b1])
  have e := rest false (by simp [h1])
  (refine Jts (Jtec A i.dst regs slots g1.1 g1.2) (by rfl) (by rfl) ?_)
  (simp (maxSteps := 1000000) [])
  ((first | refine Xc (fun h3 => ?_) (fun h3 => ?_) | refine Xo (fun h3 => ?_) (fun h3 => ?_)) <;> (try simp only [Xz, Xy] at h3))
  ·(simp (maxSteps := 1000000) [h3])
   (first | exact hR _ _ FrA | exact hR _ _ FnA | exact hR _ _ (Xf (hq := by simp [AV.erase, AV.unview, e, h3]; done)))
  (simp (maxSteps := 1000000) [h3])
  (refine Jts (Jtec A i.src regs slots g2.1 g2.2) (by rfl) (by rfl) ?_)
  (simp (maxSteps := 1000000) [])
  ((first | refine Xc (fun h4 => ?_) (fun h4 => ?_) | refine Xo (fun h4 => ?_) (fun h4 => ?_)) <;> (try simp only [Xz, Xy] at h4))
  ·(simp (maxSteps := 1000000) [h4])
   (first | exact hR _ _ FrA | exact hR _ _ FnA | exact hR _ _ (Xf (hq := by simp [AV.erase, AV.unview, e, h3, h4]; done)))
  (simp (maxSteps := 1000000) [h4])
  (first | exact hR _ _ FrA | exact hR _ _ FnA | exact hR _ _ (Xf (hq := by simp [AV.erase, AV.unview, e, h3, h4]; done)))
theorem Jtez {P : Program} {p : Nums} (A : All P p) : Jt3o P p.machine_others [] [] fun o _ => o = .ret (.agg [.fn (.func p.machine_others_1) [] [], .fn (.func p.machine_others_2) [] []]) := by
 refine A.machine_others.run rfl fun R hR => ?_
 (simp (maxSteps := 1000000) [Jtbf])
 (first | exact hR _ _ FrA | exact hR _ _ FnA)
theorem Jtew {P : Program} {p : Nums} (A : All P p) : Jt3o P p.machine_moves [] [] fun o _ => o = .ret (.agg [.fn (.func p.machine_moves_1) [] [], .fn (.func p.machine_moves_2) [] []]) := by
 refine A.machine_moves.run rfl fun R hR => ?_
 (simp (maxSteps := 1000000) [Jtbc])
 (first | exact hR _ _ FrA | exact hR _ _ FnA)
end
def Jtmo (i : Mach) (regs slots : Int) : Int :=
 if (knownZ i.op && i.op != 2) = false then 8
 else if i.op = 18 then (if movZ i regs slots ≠ 0 then movZ i regs slots else if clearM i = false then 12 else 0)
 else (if Jtml i.instr regs ≠ 0 then Jtml i.instr regs else if clearO i = false then 12 else 0)
def sbErr (code : List Mach) (regs slots : Int) (k : Nat) : Int := match code[k]? with
 | none => 0
 | some x => if Jtmo x regs slots ≠ 0 then Jtmo x regs slots else if 64 < runF (code.take (k + 1)) then 15 else 0
def sbErrs (code : List Mach) (regs slots : Int) : Int := Jt8p ((List.range code.length).map (sbErr code regs slots))
def Jtmm (b : MBlock) (regs slots blocks : Int) : Int := if sbErrs b.code regs slots ≠ 0 then sbErrs b.code regs slots else Jtmp b.term regs blocks
def Jtmn (f : MFunc) : Int :=
 if f.args < 0 ∨ f.slots < f.args then 10 else if f.regs < 0 then 9 else if 1048576 < f.slots ∨ 1048576 < f.regs then 6 else if f.blocks.length = 0 then 14 else if 1048576 < f.blocks.length ∨ 1048576 < mcodeN f.blocks then 6
 else Jt8p (f.blocks.map fun b => Jtmm b f.regs f.slots f.blocks.length)
theorem Jtl8 (l : List Mach) : ∀ k, k ≤ l.length → runF (l.take k) ≤ k := by
 intro k
 induction k with
 | zero => intro _; simp [runF]
 | succ k ih =>
  intro h
  rw [Jtl9 (by omega)]
  have := ih (by omega)
  unfold runN; split <;> omega
section
theorem Jtes {P : Program} {p : Nums} (A : All P p) (i : Mach) (regs slots : Int) (g1 : okZ i.dst) (g2 : okZ i.src) : Jt3o P p.machine_Instr [i.av, AI regs, AI slots] [] fun o _ => o = .ret (AI (Jtmo i regs slots)) := by
 refine A.machine_Instr.run rfl fun R hR => ?_
 obtain ⟨T, hT⟩ : ∃ T, T = Jtmo i regs slots := ⟨_, rfl⟩
 rw [← hT] at hR
 unfold Jtmo at hT
 have c := Jth5 A i.op
 obtain ⟨km, hkm⟩ : ∃ b, b = (knownZ i.op && i.op != 2) := ⟨_, rfl⟩
 rw [← hkm] at c hT
 (simp (maxSteps := 1000000) [Jtba, Mach.av])
 (refine Jts c (by rfl) (by rfl) ?_)
 (simp (maxSteps := 1000000) [])
 ((first | refine Xc (fun h1 => ?_) (fun h1 => ?_) | refine Xo (fun h1 => ?_) (fun h1 => ?_)) <;> (try simp only [Xz, Xy] at h1))
 ·(simp (maxSteps := 1000000) [h1])
  rw [if_pos h1] at hT
  (first | exact hR _ _ FrA | exact hR _ _ FnA | exact hR _ _ (Xf (hq := by simp [AV.erase, AV.unview, hT]; done)))
 rw [if_neg (by simp [h1])] at hT
 (simp (maxSteps := 1000000) [h1])
 (refine Jts (Jtez A) (by rfl) (by rfl) ?_)
 (simp (maxSteps := 1000000) [])
 ((first | refine Xc (fun h2 => ?_) (fun h2 => ?_) | refine Xo (fun h2 => ?_) (fun h2 => ?_)) <;> (try simp only [Xz, Xy] at h2))
 ·rw [if_pos h2] at hT
  (simp (maxSteps := 1000000) [])
  (refine Jts (Jtew A) (by rfl) (by rfl) ?_)
  (simp (maxSteps := 1000000) [])
  refine ⟨A.machine_moves_1.ok, ?_⟩
  (refine Jts (Jteu A i regs slots g1 g2) (by rfl) (by rfl) ?_)
  (simp (maxSteps := 1000000) [])
  ((first | refine Xc (fun h3 => ?_) (fun h3 => ?_) | refine Xo (fun h3 => ?_) (fun h3 => ?_)) <;> (try simp only [Xz, Xy] at h3))
  ·rw [if_pos h3] at hT
   (simp (maxSteps := 1000000) [h3])
   (first | exact hR _ _ FrA | exact hR _ _ FnA | exact hR _ _ (Xf (hq := by simp [AV.erase, AV.unview, hT]; done)))
  rw [if_neg (by simpa using h3)] at hT
  (simp (maxSteps := 1000000) [h3])
  refine ⟨A.machine_moves_2.ok, ?_⟩
  (refine Jts (Jtev A i) (by rfl) (by rfl) ?_)
  (simp (maxSteps := 1000000) [])
  ((first | refine Xc (fun h4 => ?_) (fun h4 => ?_) | refine Xo (fun h4 => ?_) (fun h4 => ?_)) <;> (try simp only [Xz, Xy] at h4))
  ·rw [if_pos h4] at hT
   (simp (maxSteps := 1000000) [h4])
   (first | exact hR _ _ FrA | exact hR _ _ FnA | exact hR _ _ (Xf (hq := by simp [AV.erase, AV.unview, hT]; done)))
  rw [if_neg (by simp [h4])] at hT
  (simp (maxSteps := 1000000) [h4])
  (first | exact hR _ _ FrA | exact hR _ _ FnA | exact hR _ _ (Xf (hq := by simp [AV.erase, AV.unview, hT]; done)))
 ·rw [if_neg h2] at hT
  (simp (maxSteps := 1000000) [])
  refine ⟨A.machine_others_1.ok, ?_⟩
  (refine Jts (Jtex A i regs slots) (by rfl) (by rfl) ?_)
  (simp (maxSteps := 1000000) [])
  ((first | refine Xc (fun h3 => ?_) (fun h3 => ?_) | refine Xo (fun h3 => ?_) (fun h3 => ?_)) <;> (try simp only [Xz, Xy] at h3))
  ·rw [if_pos h3] at hT
   (simp (maxSteps := 1000000) [h3])
   (first | exact hR _ _ FrA | exact hR _ _ FnA | exact hR _ _ (Xf (hq := by simp [AV.erase, AV.unview, hT]; done)))
  rw [if_neg (by simpa using h3)] at hT
  (simp (maxSteps := 1000000) [h3])
  refine ⟨A.machine_others_2.ok, ?_⟩
  (refine Jts (Jtey A i) (by rfl) (by rfl) ?_)
  (simp (maxSteps := 1000000) [])
  ((first | refine Xc (fun h4 => ?_) (fun h4 => ?_) | refine Xo (fun h4 => ?_) (fun h4 => ?_)) <;> (try simp only [Xz, Xy] at h4))
  ·rw [if_pos h4] at hT
   (simp (maxSteps := 1000000) [h4])
   (first | exact hR _ _ FrA | exact hR _ _ FnA | exact hR _ _ (Xf (hq := by simp [AV.erase, AV.unview, hT]; done)))
  rw [if_neg (by simp [h4])] at hT
  (simp (maxSteps := 1000000) [h4])
  (first | exact hR _ _ FrA | exact hR _ _ FnA | exact hR _ _ (Xf (hq := by simp [AV.erase, AV.unview, hT]; done)))
theorem Jtet {P : Program} {p : Nums} (A : All P p) (f : MFunc) (b : MBlock) (h0 : b.code.length < 1000000000) (hok : okM b) : Jt3o P p.machine_block [f.av, b.av] [] fun o _ => o = .ret (AI (Jtmm b f.regs f.slots f.blocks.length)) := by
 refine A.machine_block.run rfl fun R hR => ?_
 (simp (maxSteps := 1000000) [Jtbb, MBlock.av, MFunc.av])
 refine Jt9 (fun k : Nat => ⟨[(12, AI k), (11, AI b.code.length), (10, .d (.sl (b.code.map Mach.row))), (5, AI (runF (b.code.take k))), (2, .ptr 0 0), (3, .ptr 1 0)], [.mem [AI f.args, AI f.regs, AI f.slots, .d (.sl (f.blocks.map MBlock.row))], .mem [.d (.sl (b.code.map Mach.row)), AI b.term.kind, AI b.term.a, AI b.term.to, AI b.term.els]]⟩)
  (fun k => k ≤ b.code.length ∧ ∀ e ∈ ((List.range b.code.length).map (sbErr b.code f.regs f.slots)).take k, e = 0) (fun k => b.code.length - k) 0 (by simp) (by (exact wkA)) ?_
 rintro k ⟨hk, hz⟩ N hN
 (simp (maxSteps := 1000000) [])
 ((first | refine Xc (fun h2 => ?_) (fun h2 => ?_) | refine Xo (fun h2 => ?_) (fun h2 => ?_)) <;> (try simp only [Xz, Xy] at h2))
 ·have hkl : k < b.code.length := by simpa using h2
  have hb : b.code[k]? = some b.code[k] := by simp [hkl]
  have hr : (List.range b.code.length)[k]? = some k := by simp [hkl]
  have hw := Jtp7 (k := k) (by omega)
  have hle := Jtl8 b.code k (by omega)
  have hw2 := Jtp7 (k := runF (b.code.take k)) (by omega)
  have hsu := Jtl9 hkl
  obtain ⟨g1, g2⟩ := hok _ (List.getElem_mem hkl)
  (simp (maxSteps := 1000000) [h2, hb, Mach.row])
  (refine Jts (Jtes A b.code[k] f.regs f.slots g1 g2) (by rfl) (by rfl) ?_)
  (simp (maxSteps := 1000000) [])
  ((first | refine Xc (fun h3 => ?_) (fun h3 => ?_) | refine Xo (fun h3 => ?_) (fun h3 => ?_)) <;> (try simp only [Xz, Xy] at h3))
  ·(simp (maxSteps := 1000000) [h3])
   have e1 : sbErr b.code f.regs f.slots k = Jtmo b.code[k] f.regs f.slots := by unfold sbErr; rw [hb]; simp only; rw [if_pos h3]
   have e2 : sbErrs b.code f.regs f.slots = Jtmo b.code[k] f.regs f.slots := by rw [← e1]; exact Jt8s hz (by simp [hkl]) (by rw [e1]; exact h3)
   (first | exact hR _ _ FrA | exact hR _ _ FnA | exact hR _ _ (Xf (hq := by simp [AV.erase, AV.unview, Jtmm, e2, h3]; done)))
  ·(simp (maxSteps := 1000000) [h3, hw2])
   have e1 : sbErr b.code f.regs f.slots k = if 64 < runF (b.code.take (k + 1)) then 15 else 0 := by unfold sbErr; rw [hb]; simp only; rw [if_neg (by simpa using h3)]
   ((first | refine Xc (fun h4 => ?_) (fun h4 => ?_) | refine Xo (fun h4 => ?_) (fun h4 => ?_)) <;> (try simp only [Xz, Xy] at h4))
   ·have hrn : runF (b.code.take (k + 1)) = 0 := by rw [hsu]; unfold runN; rw [if_neg (by simpa using h4)]
    rw [hrn] at e1
    (simp (maxSteps := 1000000) [h4, hw])
    exact hN _ (k + 1) ⟨hkl, take_zero hz hr (by rw [e1]; rfl)⟩ (by rw [hrn]; (exact wkA)) (by omega)
   ·have hrn : runF (b.code.take (k + 1)) = runF (b.code.take k) + 1 := by rw [hsu]; unfold runN; rw [if_pos (by simpa using h4)]
    (simp (maxSteps := 1000000) [h4])
    ((first | refine Xc (fun h5 => ?_) (fun h5 => ?_) | refine Xo (fun h5 => ?_) (fun h5 => ?_)) <;> (try simp only [Xz, Xy] at h5))
    ·(simp (maxSteps := 1000000) [h5])
     rw [if_pos (by omega)] at e1
     have e2 : sbErrs b.code f.regs f.slots = 15 := by rw [← e1]; exact Jt8s hz (by simp [hkl]) (by rw [e1]; decide)
     (first | exact hR _ _ FrA | exact hR _ _ FnA | exact hR _ _ (Xf (hq := by simp [AV.erase, AV.unview, Jtmm, e2]; done)))
    ·(simp (maxSteps := 1000000) [h5, hw])
     rw [if_neg (by omega)] at e1
     exact hN _ (k + 1) ⟨hkl, take_zero hz hr e1⟩ (by rw [hrn]; (exact wkA)) (by omega)
 ·have hk' : k = b.code.length := by simp at h2; omega
  subst hk'
  have hfe : sbErrs b.code f.regs f.slots = 0 := Jt8q (by rw [List.take_of_length_le (by simp)] at hz; exact hz)
  (simp (maxSteps := 1000000) [])
  (refine Jts (Jtmb A b.term f.regs f.blocks.length) (by rfl) (by rfl) ?_)
  (simp (maxSteps := 1000000) [])
  (first | exact hR _ _ FrA | exact hR _ _ FnA | exact hR _ _ (Xf (hq := by simp [AV.erase, AV.unview, Jtmm, hfe]; done)))
theorem Jteq {P : Program} {p : Nums} (A : All P p) (f : MFunc) (h0 : f.blocks.length < 1000000000) (h1 : mcodeN f.blocks < 1000000000) (hok : ∀ b ∈ f.blocks, okM b) : Jt3o P p.machine_Check [f.av] [] fun o _ => o = .ret (AI (Jtmn f)) := by
 refine A.machine_Check.run rfl fun R hR => ?_
 (simp (maxSteps := 1000000) [Jtb8, MFunc.av])
 ((first | refine Xc (fun a1 => ?_) (fun a1 => ?_) | refine Xo (fun a1 => ?_) (fun a1 => ?_)) <;> (try simp only [Xz, Xy] at a1))
 ·(simp (maxSteps := 1000000) [a1])
  have e : Jtmn f = 10 := by unfold Jtmn; repeat (first | rw [if_pos (by omega)] | rw [if_neg (by omega)])
  (first | exact hR _ _ FrA | exact hR _ _ FnA | exact hR _ _ (Xf (hq := by simp [AV.erase, AV.unview, e]; done)))
 (simp (maxSteps := 1000000) [a1])
 ((first | refine Xc (fun a2 => ?_) (fun a2 => ?_) | refine Xo (fun a2 => ?_) (fun a2 => ?_)) <;> (try simp only [Xz, Xy] at a2))
 ·(simp (maxSteps := 1000000) [a2])
  have e : Jtmn f = 10 := by unfold Jtmn; repeat (first | rw [if_pos (by omega)] | rw [if_neg (by omega)])
  (first | exact hR _ _ FrA | exact hR _ _ FnA | exact hR _ _ (Xf (hq := by simp [AV.erase, AV.unview, e]; done)))
 (simp (maxSteps := 1000000) [a2])
 ((first | refine Xc (fun a3 => ?_) (fun a3 => ?_) | refine Xo (fun a3 => ?_) (fun a3 => ?_)) <;> (try simp only [Xz, Xy] at a3))
 ·(simp (maxSteps := 1000000) [a3])
  have e : Jtmn f = 9 := by unfold Jtmn; repeat (first | rw [if_pos (by omega)] | rw [if_neg (by omega)])
  (first | exact hR _ _ FrA | exact hR _ _ FnA | exact hR _ _ (Xf (hq := by simp [AV.erase, AV.unview, e]; done)))
 (simp (maxSteps := 1000000) [a3])
 ((first | refine Xc (fun a4 => ?_) (fun a4 => ?_) | refine Xo (fun a4 => ?_) (fun a4 => ?_)) <;> (try simp only [Xz, Xy] at a4))
 ·(simp (maxSteps := 1000000) [a4])
  have e : Jtmn f = 6 := by unfold Jtmn; repeat (first | rw [if_pos (by omega)] | rw [if_neg (by omega)])
  (first | exact hR _ _ FrA | exact hR _ _ FnA | exact hR _ _ (Xf (hq := by simp [AV.erase, AV.unview, e]; done)))
 (simp (maxSteps := 1000000) [a4])
 ((first | refine Xc (fun a5 => ?_) (fun a5 => ?_) | refine Xo (fun a5 => ?_) (fun a5 => ?_)) <;> (try simp only [Xz, Xy] at a5))
 ·(simp (maxSteps := 1000000) [a5])
  have e : Jtmn f = 6 := by unfold Jtmn; repeat (first | rw [if_pos (by omega)] | rw [if_neg (by omega)])
  (first | exact hR _ _ FrA | exact hR _ _ FnA | exact hR _ _ (Xf (hq := by simp [AV.erase, AV.unview, e]; done)))
 (simp (maxSteps := 1000000) [a5])
 ((first | refine Xc (fun a6 => ?_) (fun a6 => ?_) | refine Xo (fun a6 => ?_) (fun a6 => ?_)) <;> (try simp only [Xz, Xy] at a6))
 ·(simp (maxSteps := 1000000) [a6])
  have e : Jtmn f = 14 := by unfold Jtmn; repeat (first | rw [if_pos (by omega)] | rw [if_neg (by omega)])
  (first | exact hR _ _ FrA | exact hR _ _ FnA | exact hR _ _ (Xf (hq := by simp [AV.erase, AV.unview, e]; done)))
 (simp (maxSteps := 1000000) [a6])
 ((first | refine Xc (fun a7 => ?_) (fun a7 => ?_) | refine Xo (fun a7 => ?_) (fun a7 => ?_)) <;> (try simp only [Xz, Xy] at a7))
 ·(simp (maxSteps := 1000000) [a7])
  have e : Jtmn f = 6 := by unfold Jtmn; repeat (first | rw [if_pos (by omega)] | rw [if_neg (by omega)])
  (first | exact hR _ _ FrA | exact hR _ _ FnA | exact hR _ _ (Xf (hq := by simp [AV.erase, AV.unview, e]; done)))
 (simp (maxSteps := 1000000) [a7])
 (refine Jts (Jter A f h0 h1) (by rfl) (by rfl) ?_)
 (simp (maxSteps := 1000000) [])
 ((first | refine Xc (fun a8 => ?_) (fun a8 => ?_) | refine Xo (fun a8 => ?_) (fun a8 => ?_)) <;> (try simp only [Xz, Xy] at a8))
 ·(simp (maxSteps := 1000000) [a8])
  have e : Jtmn f = 6 := by unfold Jtmn; repeat (first | rw [if_pos (by omega)] | rw [if_neg (by omega)])
  (first | exact hR _ _ FrA | exact hR _ _ FnA | exact hR _ _ (Xf (hq := by simp [AV.erase, AV.unview, e]; done)))
 (simp (maxSteps := 1000000) [a8])
 have e : Jtmn f = Jt8p (f.blocks.map fun b => Jtmm b f.regs f.slots f.blocks.length) := by
  unfold Jtmn; repeat (first | rw [if_pos (by omega)] | rw [if_neg (by omega)])
 refine Jt9 (fun k : Nat => ⟨[(48, AI k), (47, AI f.blocks.length), (46, .d (.sl (f.blocks.map MBlock.row))), (1, .ptr 0 0)], [.mem [AI f.args, AI f.regs, AI f.slots, .d (.sl (f.blocks.map MBlock.row))]]⟩)
  (fun k => k ≤ f.blocks.length ∧ ∀ e ∈ (f.blocks.map fun b => Jtmm b f.regs f.slots f.blocks.length).take k, e = 0) (fun k => f.blocks.length - k) 0 (by simp) (by (exact wkA)) ?_
 rintro k ⟨hk, hz⟩ N hN
 (simp (maxSteps := 1000000) [])
 ((first | refine Xc (fun h2 => ?_) (fun h2 => ?_) | refine Xo (fun h2 => ?_) (fun h2 => ?_)) <;> (try simp only [Xz, Xy] at h2))
 ·have hkl : k < f.blocks.length := by simpa using h2
  have hb : f.blocks[k]? = some f.blocks[k] := by simp [hkl]
  have hw := Jtp7 (k := k) (by omega)
  have hbl : f.blocks[k].code.length < 1000000000 := by
   have h3 := Jtfd hb
   have h4 := Jtfc f.blocks (k + 1)
   omega
  (simp (maxSteps := 1000000) [h2, hb, MBlock.row])
  (refine Jts (Jtet A f f.blocks[k] hbl (hok _ (List.getElem_mem hkl))) (by rfl) (by rfl) ?_)
  (simp (maxSteps := 1000000) [])
  ((first | refine Xc (fun h3 => ?_) (fun h3 => ?_) | refine Xo (fun h3 => ?_) (fun h3 => ?_)) <;> (try simp only [Xz, Xy] at h3))
  ·(simp (maxSteps := 1000000) [h3])
   have e2 : Jt8p (f.blocks.map fun b => Jtmm b f.regs f.slots f.blocks.length) = Jtmm f.blocks[k] f.regs f.slots f.blocks.length := Jt8s hz (by simp [hkl]) h3
   (first | exact hR _ _ FrA | exact hR _ _ FnA | exact hR _ _ (Xf (hq := by simp [AV.erase, AV.unview, e, e2]; done)))
  ·(simp (maxSteps := 1000000) [h3, hw])
   exact hN _ (k + 1) ⟨hkl, take_zero hz hb (by simpa using h3)⟩ (by (exact wkA)) (by omega)
 ·have hk' : k = f.blocks.length := by simp at h2; omega
  subst hk'
  have hfe : Jt8p (f.blocks.map fun b => Jtmm b f.regs f.slots f.blocks.length) = 0 := Jt8q (by rw [List.take_of_length_le (by simp)] at hz; exact hz)
  (simp (maxSteps := 1000000) [])
  (first | exact hR _ _ FrA | exact hR _ _ FnA | exact hR _ _ (Xf (hq := by simp [AV.erase, AV.unview, e, hfe]; done)))
end
theorem Jthc {l : List Pair} {vregs regs slots : Int} {k : Nat} (hz : ∀ e ∈ ((List.range l.length).map (pErr l vregs regs slots)).take k, e = 0) (hk : k < l.length) (h : pErr l vregs regs slots k ≠ 0) : pErrs l vregs regs slots = pErr l vregs regs slots k :=
 Jt8s hz (by simp [hk]) h
theorem ibeq (a b : Int) : (a == b) = decide (a = b) := by rw [Bool.eq_iff_iff]; simp
def entA (w : List Pair) (args : Int) : AV := .tup [((w.find? fun q => !initZ q args).getD ⟨0, 0⟩).av, AI (if (w.all fun q => initZ q args) = true then 0 else 23)]
def impA (out w : List Pair) : AV := .tup [((missP w out).getD ⟨0, 0⟩).av, AI (if (missP w out).isSome = true then 22 else 0)]
theorem ent_at {w : List Pair} {args : Int} {k : Nat} (h : k < w.length) (h1 : ∀ q ∈ w.take k, initZ q args = true) (h2 : initZ w[k] args = false) : w.find? (fun q => !initZ q args) = some w[k] ∧ (w.all fun q => initZ q args) = false := by
 constructor
 ·have e : w = w.take k ++ w[k] :: w.drop (k + 1) := by rw [List.getElem_cons_drop, List.take_append_drop]
  have e1 : (w.take k).find? (fun q => !initZ q args) = none := by
   rw [List.find?_eq_none]; intro q hq; simp [h1 q hq]
  have e2 : (w[k] :: w.drop (k + 1)).find? (fun q => !initZ q args) = some w[k] := by
   rw [List.find?_cons_of_pos (by simp [h2])]
  have e3 := congrArg (List.find? fun q => !initZ q args) e
  rw [List.find?_append, e1, e2] at e3
  exact e3
 ·rw [← Bool.not_eq_true, List.all_eq_true]
  intro h'
  have := h' w[k] (List.getElem_mem h)
  rw [h2] at this; cases this
section
theorem Jtma {P : Program} {p : Nums} (A : All P p) (t : Term) : Jt3o P p.source_Successors [t.av] [] fun o _ => o = .ret (.d (.sl ((succsZ t).map fun x => [I x]))) := by
 refine A.source_Successors.run rfl fun R hR => ?_
 (simp (maxSteps := 1000000) [Jtcw, Term.av])
 ((first | refine Xc (fun h1 => ?_) (fun h1 => ?_) | refine Xo (fun h1 => ?_) (fun h1 => ?_)) <;> (try simp only [Xz, Xy] at h1))
 ·(simp (maxSteps := 1000000) [h1])
  (first | exact hR _ _ FrA | exact hR _ _ FnA | exact hR _ _ (Xf (hq := by simp [AV.erase, AV.unview, succsZ, h1]; done)))
 (simp (maxSteps := 1000000) [h1])
 ((first | refine Xc (fun h2 => ?_) (fun h2 => ?_) | refine Xo (fun h2 => ?_) (fun h2 => ?_)) <;> (try simp only [Xz, Xy] at h2))
 ·(simp (maxSteps := 1000000) [h2])
  (first | exact hR _ _ FrA | exact hR _ _ FnA | exact hR _ _ (Xf (hq := by simp [AV.erase, AV.unview, succsZ, h1, h2]; done)))
 (simp (maxSteps := 1000000) [h2])
 exact hR _ _ (Jt3t .nils (.d (.sl ((succsZ t).map fun x => [I x]))) [] rfl (by simp only [succsZ, if_neg h1, if_neg h2, List.map_nil]; (exact wkA)) rfl)
theorem Jtiw {P : Program} {p : Nums} (A : All P p) (t : Term) : Jt3o P p.ref07_Successors [t.av] [] fun o _ => o = .ret (.d (.sl ((succsZ t).map fun x => [I x]))) := by
 refine A.ref07_Successors.run rfl fun R hR => ?_
 (simp (maxSteps := 1000000) [Jtc4, Term.av])
 ((first | refine Xc (fun h1 => ?_) (fun h1 => ?_) | refine Xo (fun h1 => ?_) (fun h1 => ?_)) <;> (try simp only [Xz, Xy] at h1))
 ·(simp (maxSteps := 1000000) [h1])
  (first | exact hR _ _ FrA | exact hR _ _ FnA | exact hR _ _ (Xf (hq := by simp [AV.erase, AV.unview, succsZ, h1]; done)))
 (simp (maxSteps := 1000000) [h1])
 ((first | refine Xc (fun h2 => ?_) (fun h2 => ?_) | refine Xo (fun h2 => ?_) (fun h2 => ?_)) <;> (try simp only [Xz, Xy] at h2))
 ·(simp (maxSteps := 1000000) [h2])
  (first | exact hR _ _ FrA | exact hR _ _ FnA | exact hR _ _ (Xf (hq := by simp [AV.erase, AV.unview, succsZ, h1, h2]; done)))
 (simp (maxSteps := 1000000) [h2])
 exact hR _ _ (Jt3t .nils (.d (.sl ((succsZ t).map fun x => [I x]))) [] rfl (by simp only [succsZ, if_neg h1, if_neg h2, List.map_nil]; (exact wkA)) rfl)
theorem Jt7w {P : Program} {p : Nums} (A : All P p) (q : Pair) (args : Int) (h0 : 0 ≤ q.l) (h1 : q.l ≤ 9223372036854775807) (h2 : 0 ≤ q.v) (h3 : q.v ≤ 1000000000000000) : Jt3o P p.edge_Initial [q.av, AI args] [] fun o _ => o = .ret (AB (initZ q args)) := by
 have em : q.l.tmod 2 = q.l % 2 := Int.tmod_eq_emod_of_nonneg h0
 have ed : q.l.tdiv 2 = q.l / 2 := Int.tdiv_eq_ediv_of_nonneg h0
 refine A.edge_Initial.run rfl fun R hR => ?_
 (simp (maxSteps := 1000000) [Jtax, Pair.av])
 ((first | refine Xc (fun h4 => ?_) (fun h4 => ?_) | refine Xo (fun h4 => ?_) (fun h4 => ?_)) <;> (try simp only [Xz, Xy] at h4))
 ·(simp (maxSteps := 1000000) [h4])
  (refine Jts (Jteg A q.v (by omega) (by omega)) (by rfl) (by rfl) ?_)
  (simp (maxSteps := 1000000) [])
  have e : initZ q args = decide (q.l = 2 * q.v + 1) := by
   unfold initZ; rw [if_pos h4, em, ed, Bool.eq_iff_iff]; simp; omega
  (first | exact hR _ _ FrA | exact hR _ _ FnA | exact hR _ _ (Xf (hq := by simp [AV.erase, AV.unview, e, ibeq]; done)))
 ·(simp (maxSteps := 1000000) [h4])
  (refine Jts (Jtee A q.l) (by rfl) (by rfl) ?_)
  (simp (maxSteps := 1000000) [])
  ((first | refine Xc (fun h5 => ?_) (fun h5 => ?_) | refine Xo (fun h5 => ?_) (fun h5 => ?_)) <;> (try simp only [Xz, Xy] at h5))
  ·(simp (maxSteps := 1000000) [h5])
   have e : initZ q args = true := by unfold initZ; rw [if_neg h4]; simp [h5]
   (first | exact hR _ _ FrA | exact hR _ _ FnA | exact hR _ _ (Xf (hq := by simp [AV.erase, AV.unview, e]; done)))
  ·(simp (maxSteps := 1000000) [h5])
   (refine Jts (Jted A q.l (by omega) (by omega)) (by rfl) (by rfl) ?_)
   (simp (maxSteps := 1000000) [])
   have e : initZ q args = decide (args ≤ q.l.tdiv 2) := by unfold initZ; rw [if_neg h4]; simp [h5]
   (first | exact hR _ _ FrA | exact hR _ _ FnA | exact hR _ _ (Xf (hq := by simp [AV.erase, AV.unview, e]; done)))
theorem Jt7u {P : Program} {p : Nums} (A : All P p) (w : List Pair) (args : Int) (h0 : w.length < 1000000) (hw : ∀ q ∈ w, 0 ≤ q.l ∧ q.l ≤ 9223372036854775807 ∧ 0 ≤ q.v ∧ q.v ≤ 1000000000000000) : Jt3o P p.edge_Entry [.d (pairsD w), AI args] [] fun o _ => o = .ret (entA w args) := by
 refine A.edge_Entry.run rfl fun R hR => ?_
 (simp (maxSteps := 1000000) [Jtav, pairsD])
 refine Jt9 (fun k : Nat => ⟨[(10, AI k), (9, AI w.length), (8, .d (.sl (w.map Pair.row))), (5, AI 0), (4, .ptr 0 0), (1, AI args)], [.mem [AI 0, AI 0]]⟩) (fun k => k ≤ w.length ∧ ∀ q ∈ w.take k, initZ q args = true) (fun k => w.length - k) 0 (by simp) (by (exact wkA)) ?_
 rintro k ⟨hk, hz⟩ N hN
 (simp (maxSteps := 1000000) [])
 ((first | refine Xc (fun h2 => ?_) (fun h2 => ?_) | refine Xo (fun h2 => ?_) (fun h2 => ?_)) <;> (try simp only [Xz, Xy] at h2))
 ·have hkl : k < w.length := by simpa using h2
  have hb : w[k]? = some w[k] := by simp
  have hw1 := Jtp7 (k := k) (by omega)
  obtain ⟨g1, g2, g3, g4⟩ := hw w[k] (List.getElem_mem hkl)
  (simp (maxSteps := 1000000) [h2, hb, Pair.row])
  (refine Jts (Jt7w A w[k] args g1 g2 g3 g4) (by rfl) (by rfl) ?_)
  (simp (maxSteps := 1000000) [])
  ((first | refine Xc (fun h3 => ?_) (fun h3 => ?_) | refine Xo (fun h3 => ?_) (fun h3 => ?_)) <;> (try simp only [Xz, Xy] at h3))
  ·(simp (maxSteps := 1000000) [h3])
   obtain ⟨e1, e2⟩ := ent_at hkl hz (by simpa using h3)
   (first | exact hR _ _ FrA | exact hR _ _ FnA | exact hR _ _ (Xf (hq := by simp [AV.erase, AV.unview, entA, e1, e2, Pair.av]; done)))
  ·(simp (maxSteps := 1000000) [h3, hw1])
   refine hN _ (k + 1) ⟨hkl, ?_⟩ (by (exact wkA)) (by omega)
   intro q hq
   rw [List.take_add_one, hb] at hq
   rcases List.mem_append.1 hq with hq | hq
   ·exact hz q hq
   ·simp at hq; subst hq; simpa using h3
 ·have hk' : k = w.length := by simp at h2; omega
  subst hk'
  rw [List.take_length] at hz
  have e1 : (w.all fun q => initZ q args) = true := by rw [List.all_eq_true]; exact hz
  have e2 : w.find? (fun q => !initZ q args) = none := by rw [List.find?_eq_none]; intro q hq; simp [hz q hq]
  (simp (maxSteps := 1000000) [])
  (first | exact hR _ _ FrA | exact hR _ _ FnA | exact hR _ _ (Xf (hq := by simp [AV.erase, AV.unview, entA, e1, e2, Pair.av]; done)))
theorem Jt7v {P : Program} {p : Nums} (A : All P p) (out w : List Pair) (h0 : out.length < 1000000) (h1 : w.length < 1000000) (ho : Srt out) (hw : Srt w) : Jt3o P p.edge_Implies [.d (pairsD out), .d (pairsD w)] [] fun o _ => o = .ret (impA out w) := by
 refine A.edge_Implies.run rfl fun R hR => ?_
 (simp (maxSteps := 1000000) [Jtaw])
 (refine Jts (Jthw A w out h1 h0 hw ho) (by rfl) (by rfl) ?_)
 (simp (maxSteps := 1000000) [missA, Pair.av])
 ((first | refine Xc (fun h2 => ?_) (fun h2 => ?_) | refine Xo (fun h2 => ?_) (fun h2 => ?_)) <;> (try simp only [Xz, Xy] at h2))
 ·(simp (maxSteps := 1000000) [h2])
  (first | exact hR _ _ FrA | exact hR _ _ FnA | exact hR _ _ (Xf (hq := by simp [AV.erase, AV.unview, impA, h2, Pair.av]; done)))
 ·(simp (maxSteps := 1000000) [h2])
  have e : missP w out = none := by simpa using h2
  (first | exact hR _ _ FrA | exact hR _ _ FnA | exact hR _ _ (Xf (hq := by simp [AV.erase, AV.unview, impA, e, Pair.av]; done)))
end
theorem Jthb {l : List Pair} {k : Nat} (hk : k < l.length) (vregs regs slots : Int) : pErr l vregs regs slots k = if l[k].v < 0 ∨ vregs ≤ l[k].v then 9 else if rngZ l[k].l regs slots = false then 10 else if 0 < k ∧ (match l[k - 1]? with | some q0 => lessP q0 l[k] | none => true) = false then 13 else 0 := by
 unfold pErr; rw [List.getElem?_eq_getElem hk]; try rfl
section
theorem Jt7y {P : Program} {p : Nums} (A : All P p) (l : List Pair) (vregs regs slots : Int) (h0 : l.length < 1000000000) (hok : ∀ q ∈ l, okZ q.l) : Jt3o P p.edge_pairs [.d (pairsD l), AI vregs, AI regs, AI slots] [] fun o _ => o = .ret (AI (pErrs l vregs regs slots)) := by
 refine A.edge_pairs.run rfl fun R hR => ?_
 (simp (maxSteps := 1000000) [Jtaz, pairsD])
 refine Jt9 (fun k : Nat => ⟨[(13, AI k), (12, AI l.length), (11, .d (.sl (l.map Pair.row))), (0, .d (.sl (l.map Pair.row))), (1, AI vregs), (2, AI regs), (3, AI slots)], []⟩)
  (fun k => k ≤ l.length ∧ ∀ e ∈ ((List.range l.length).map (pErr l vregs regs slots)).take k, e = 0) (fun k => l.length - k) 0 (by simp) (by (exact wkA)) ?_
 rintro k ⟨hk, hz⟩ N hN
 (simp (maxSteps := 1000000) [])
 ((first | refine Xc (fun h2 => ?_) (fun h2 => ?_) | refine Xo (fun h2 => ?_) (fun h2 => ?_)) <;> (try simp only [Xz, Xy] at h2))
 ·have hkl : k < l.length := by simpa using h2
  have hb : l[k]? = some l[k] := by simp
  have hr : (List.range l.length)[k]? = some k := by simp [hkl]
  have hw := Jtp7 (k := k) (by omega)
  obtain ⟨g1, g2⟩ := hok _ (List.getElem_mem hkl)
  have hv := Jthb hkl vregs regs slots
  (simp (maxSteps := 1000000) [h2, hb, Pair.row])
  ((first | refine Xc (fun h3 => ?_) (fun h3 => ?_) | refine Xo (fun h3 => ?_) (fun h3 => ?_)) <;> (try simp only [Xz, Xy] at h3))
  ·(simp (maxSteps := 1000000) [h3])
   rw [if_pos (.inl h3)] at hv
   have e := Jthc hz hkl (by rw [hv]; decide)
   (first | exact hR _ _ FrA | exact hR _ _ FnA | exact hR _ _ (Xf (hq := by simp [AV.erase, AV.unview, e, hv]; done)))
  (simp (maxSteps := 1000000) [h3])
  ((first | refine Xc (fun h4 => ?_) (fun h4 => ?_) | refine Xo (fun h4 => ?_) (fun h4 => ?_)) <;> (try simp only [Xz, Xy] at h4))
  ·(simp (maxSteps := 1000000) [h4])
   rw [if_pos (.inr h4)] at hv
   have e := Jthc hz hkl (by rw [hv]; decide)
   (first | exact hR _ _ FrA | exact hR _ _ FnA | exact hR _ _ (Xf (hq := by simp [AV.erase, AV.unview, e, hv]; done)))
  (simp (maxSteps := 1000000) [h4])
  rw [if_neg (by omega)] at hv
  (refine Jts (Jtec A l[k].l regs slots g1 g2) (by rfl) (by rfl) ?_)
  (simp (maxSteps := 1000000) [])
  ((first | refine Xc (fun h5 => ?_) (fun h5 => ?_) | refine Xo (fun h5 => ?_) (fun h5 => ?_)) <;> (try simp only [Xz, Xy] at h5))
  ·(simp (maxSteps := 1000000) [h5])
   rw [if_pos h5] at hv
   have e := Jthc hz hkl (by rw [hv]; decide)
   (first | exact hR _ _ FrA | exact hR _ _ FnA | exact hR _ _ (Xf (hq := by simp [AV.erase, AV.unview, e, hv]; done)))
  rw [if_neg (by simp [h5])] at hv
  (simp (maxSteps := 1000000) [h5])
  ((first | refine Xc (fun h6 => ?_) (fun h6 => ?_) | refine Xo (fun h6 => ?_) (fun h6 => ?_)) <;> (try simp only [Xz, Xy] at h6))
  ·obtain ⟨lo, hlo⟩ : ∃ x, x = k - 1 := ⟨_, rfl⟩
   have hk0 : 0 < k := by omega
   have hll : lo < l.length := by omega
   have hbl : l[lo]? = some l[lo] := by simp
   have hwl : IntKind.i64.wrap ((k : Int) - 1) = (lo : Int) := by
    have e1 : (k : Int) - 1 = (lo : Int) := by omega
    rw [e1]; exact wrapN (by omega)
   rw [← hlo, hbl] at hv
   simp only [hk0, true_and] at hv
   have c := Jtht A l[lo] l[k]
   obtain ⟨b, hbe⟩ : ∃ b, b = lessP l[lo] l[k] := ⟨_, rfl⟩
   rw [← hbe] at hv c
   (simp (maxSteps := 1000000) [h6, hwl, hbl, Pair.row])
   (refine Jts c (by rfl) (by rfl) ?_)
   (simp (maxSteps := 1000000) [])
   ((first | refine Xc (fun h7 => ?_) (fun h7 => ?_) | refine Xo (fun h7 => ?_) (fun h7 => ?_)) <;> (try simp only [Xz, Xy] at h7))
   ·(simp (maxSteps := 1000000) [h7])
    rw [if_pos h7] at hv
    have e := Jthc hz hkl (by rw [hv]; decide)
    (first | exact hR _ _ FrA | exact hR _ _ FnA | exact hR _ _ (Xf (hq := by simp [AV.erase, AV.unview, e, hv]; done)))
   ·rw [if_neg (by simp [h7])] at hv
    (simp (maxSteps := 1000000) [h7, hw])
    exact hN _ (k + 1) ⟨hkl, take_zero hz hr hv⟩ (by (exact wkA)) (by omega)
  ·rw [if_neg (by omega)] at hv
   (simp (maxSteps := 1000000) [h6, hw])
   exact hN _ (k + 1) ⟨hkl, take_zero hz hr hv⟩ (by (exact wkA)) (by omega)
 ·have hk' : k = l.length := by simp at h2; omega
  subst hk'
  have hfe : pErrs l vregs regs slots = 0 := Jt8q (by rw [List.take_of_length_le (by simp)] at hz; exact hz)
  (simp (maxSteps := 1000000) [])
  (first | exact hR _ _ FrA | exact hR _ _ FnA | exact hR _ _ (Xf (hq := by simp [AV.erase, AV.unview, hfe]; done)))
theorem Jt7x {P : Program} {p : Nums} (A : All P p) (w : List (List Pair)) (blocks vregs regs slots : Int) (h0 : w.length < 1000000000) (h1 : wTotal w < 1000000000) (hl : ∀ l ∈ w, l.length < 1000000000) (hok : okW w) :
  Jt3o P p.edge_Valid [.d (witD w), AI blocks, AI vregs, AI regs, AI slots] [] fun o _ => o = .ret (AI (Jt7t w blocks vregs regs slots)) := by
 refine A.edge_Valid.run rfl fun R hR => ?_
 (simp (maxSteps := 1000000) [Jtay, witD])
 ((first | refine Xc (fun a1 => ?_) (fun a1 => ?_) | refine Xo (fun a1 => ?_) (fun a1 => ?_)) <;> (try simp only [Xz, Xy] at a1))
 ·(simp (maxSteps := 1000000) [a1])
  have e : Jt7t w blocks vregs regs slots = 14 := by unfold Jt7t; rw [if_pos a1]
  (first | exact hR _ _ FrA | exact hR _ _ FnA | exact hR _ _ (Xf (hq := by simp [AV.erase, AV.unview, e]; done)))
 (simp (maxSteps := 1000000) [a1])
 (refine Jts (Jt7z A w h0 h1) (by rfl) (by rfl) ?_)
 (simp (maxSteps := 1000000) [])
 ((first | refine Xc (fun a2 => ?_) (fun a2 => ?_) | refine Xo (fun a2 => ?_) (fun a2 => ?_)) <;> (try simp only [Xz, Xy] at a2))
 ·(simp (maxSteps := 1000000) [a2])
  have e : Jt7t w blocks vregs regs slots = 6 := by unfold Jt7t; rw [if_neg (fun h => h a1), if_pos (by omega)]
  (first | exact hR _ _ FrA | exact hR _ _ FnA | exact hR _ _ (Xf (hq := by simp [AV.erase, AV.unview, e]; done)))
 (simp (maxSteps := 1000000) [a2])
 have e : Jt7t w blocks vregs regs slots = Jt8p (w.map fun l => pErrs l vregs regs slots) := by unfold Jt7t; rw [if_neg (fun h => h a1), if_neg (by omega)]
 refine Jt9 (fun k : Nat => ⟨[(25, AI k), (24, AI w.length), (23, .d (.sl (w.map fun l => [pairsD l]))), (2, AI vregs), (3, AI regs), (4, AI slots)], []⟩)
  (fun k => k ≤ w.length ∧ ∀ e ∈ (w.map fun l => pErrs l vregs regs slots).take k, e = 0) (fun k => w.length - k) 0 (by simp) (by (exact wkA)) ?_
 rintro k ⟨hk, hz⟩ N hN
 (simp (maxSteps := 1000000) [])
 ((first | refine Xc (fun h2 => ?_) (fun h2 => ?_) | refine Xo (fun h2 => ?_) (fun h2 => ?_)) <;> (try simp only [Xz, Xy] at h2))
 ·have hkl : k < w.length := by simpa using h2
  have hb : w[k]? = some w[k] := by simp
  have hw := Jtp7 (k := k) (by omega)
  (simp (maxSteps := 1000000) [h2, hb])
  (refine Jts (Jt7y A w[k] vregs regs slots (hl _ (List.getElem_mem hkl)) (hok _ (List.getElem_mem hkl))) (by rfl) (by rfl) ?_)
  (simp (maxSteps := 1000000) [])
  ((first | refine Xc (fun h3 => ?_) (fun h3 => ?_) | refine Xo (fun h3 => ?_) (fun h3 => ?_)) <;> (try simp only [Xz, Xy] at h3))
  ·(simp (maxSteps := 1000000) [h3])
   have e2 : Jt8p (w.map fun l => pErrs l vregs regs slots) = pErrs w[k] vregs regs slots := Jt8s hz (by simp [hkl]) h3
   (first | exact hR _ _ FrA | exact hR _ _ FnA | exact hR _ _ (Xf (hq := by simp [AV.erase, AV.unview, e, e2]; done)))
  ·(simp (maxSteps := 1000000) [h3, hw])
   exact hN _ (k + 1) ⟨hkl, take_zero hz hb (by simpa using h3)⟩ (by (exact wkA)) (by omega)
 ·have hk' : k = w.length := by simp at h2; omega
  subst hk'
  have hfe : Jt8p (w.map fun l => pErrs l vregs regs slots) = 0 := Jt8q (by rw [List.take_of_length_le (by simp)] at hz; exact hz)
  (simp (maxSteps := 1000000) [])
  (first | exact hR _ _ FrA | exact hR _ _ FnA | exact hR _ _ (Xf (hq := by simp [AV.erase, AV.unview, e, hfe]; done)))
end
theorem Jtfs (i : Mach) (regs slots : Int) : Jtmo i regs slots = Jtjr i regs slots := by
 have hk : (knownZ i.op && i.op != 2) = false ↔ (i.op < 1 ∨ 18 < i.op ∨ i.op = 2) := by
  rw [← Bool.not_eq_true, Bool.and_eq_true]
  simp only [knownZ, decide_eq_true_eq, bne_iff_ne, ne_eq]
  omega
 unfold Jtmo Jtjr
 by_cases h1 : i.op < 1 ∨ 18 < i.op ∨ i.op = 2
 ·rw [if_pos (hk.2 h1), if_pos h1]
 ·rw [if_neg (fun h => h1 (hk.1 h)), if_neg h1]
  by_cases h2 : i.op = 18
  ·rw [if_pos h2, if_pos h2]
   have hc : clearM i = false ↔ (i.d ≠ 0 ∨ i.a ≠ 0 ∨ i.b ≠ 0 ∨ i.imm ≠ 0) := by
    rw [← Bool.not_eq_true]; unfold clearM; simp only [Bool.and_eq_true, beq_iff_eq]; omega
   by_cases hA : rngZ i.dst regs slots = false ∨ rngZ i.src regs slots = false ∨ (i.dst.tmod 2 = 1 ∧ i.src.tmod 2 = 1)
   ·have e : movZ i regs slots = 10 := by
     unfold movZ
     rw [if_pos]
     rcases hA with h | h | h
     ·exact .inr (.inl h)
     ·exact .inr (.inr h)
     ·exact .inl h
    rw [e, if_pos (by decide), if_pos hA]
   ·have e : movZ i regs slots = 0 := by
     unfold movZ
     rw [if_neg]
     rintro (h | h | h)
     ·exact hA (.inr (.inr h))
     ·exact hA (.inl h)
     ·exact hA (.inr (.inl h))
    rw [e, if_neg (by decide), if_neg hA]
    by_cases hd : clearM i = false
    ·rw [if_pos hd, if_pos (hc.1 hd)]
    ·rw [if_neg hd, if_neg (fun h => hd (hc.2 h))]
  ·rw [if_neg h2, if_neg h2, Jtdi]
   have hc : clearO i = false ↔ (i.dst ≠ 0 ∨ i.src ≠ 0) := by
    rw [← Bool.not_eq_true]; unfold clearO; simp only [Bool.and_eq_true, beq_iff_eq]; omega
   show (if Jtjo i.instr regs ≠ 0 then Jtjo i.instr regs else if clearO i = false then 12 else 0) = if Jtjo i.instr regs = 0 ∧ (i.dst ≠ 0 ∨ i.src ≠ 0) then 12 else Jtjo i.instr regs
   by_cases he : Jtjo i.instr regs = 0
   ·rw [if_neg (fun h => h he)]
    by_cases hd : clearO i = false
    ·rw [if_pos hd, if_pos ⟨he, hc.1 hd⟩]
    ·rw [if_neg hd, if_neg (fun h => hd (hc.2 h.2)), he]
   ·rw [if_pos he, if_neg (fun h => he h.1)]
theorem sb_eq (code : List Mach) (regs slots : Int) (k : Nat) : sbErr code regs slots k = mErr code regs slots k := by
 unfold sbErr mErr
 cases hk : code[k]? with
 | none => rfl
 | some x =>
  have hlt := (List.getElem?_eq_some_iff.1 hk).1
  simp only [Jtfs]
  by_cases h : 64 < runF (code.take (k + 1))
  ·rw [if_pos h, if_pos ((Jtga hlt).1 h)]
  ·rw [if_neg h, if_neg (fun h' => h ((Jtga hlt).2 h'))]
theorem Jtf9 (f : MFunc) : Jtmn f = Jtjq f := by
 have e : ∀ b : MBlock, Jtmm b f.regs f.slots f.blocks.length = Jtjp b f.regs f.slots f.blocks.length := by
  intro b
  have e1 : sbErr b.code f.regs f.slots = mErr b.code f.regs f.slots := funext (sb_eq _ _ _)
  unfold Jtmm Jtjp sbErrs mErrs
  rw [e1, Jtnx]
 simp only [Jtmn, Jtjq, e]
structure okCert (c : Cert) : Prop where
 s0 : c.S.blocks.length < 1000000000
 s1 : codeN c.S.blocks < 1000000000
 t0 : c.T.blocks.length < 1000000000
 t1 : mcodeN c.T.blocks < 1000000000
 t2 : ∀ b ∈ c.T.blocks, okM b
 w0 : c.W.length < 1000000000
 w1 : wTotal c.W < 1000000000
 w2 : okW c.W
theorem okCert.w3 {c : Cert} (h : okCert c) : ∀ l ∈ c.W, l.length < 1000000000 := by
 intro l hl
 obtain ⟨k, hk⟩ := List.getElem?_of_mem hl
 have h1 := Jtot hk
 have h2 := Jtor c.W (k + 1)
 have := h.w1
 omega
section
theorem Jt6s {P : Program} {p : Nums} (A : All P p) (c : Cert) (ok : okCert c) : Jt3o P p.checker_Valid [c.av] [] fun o _ => o = .ret (AI (validZ c)) := by
 obtain ⟨T, hT⟩ : ∃ T, T = validZ c := ⟨_, rfl⟩
 refine A.checker_Valid.run rfl fun R hR => ?_
 rw [← hT] at hR
 unfold validZ at hT
 have c1 := Jtm7 A c.S ok.s0 ok.s1
 have c2 := Jteq A c.T ok.t0 ok.t1 ok.t2
 have c3 := Jt7x A c.W c.S.blocks.length c.S.regs c.T.regs c.T.slots ok.w0 ok.w1 ok.w3 ok.w2
 rw [Jt6n] at c1
 rw [Jtf9] at c2
 obtain ⟨e1, he1⟩ : ∃ e, e = Jtjn c.S := ⟨_, rfl⟩
 obtain ⟨e2, he2⟩ : ∃ e, e = Jtjq c.T := ⟨_, rfl⟩
 obtain ⟨e3, he3⟩ : ∃ e, e = Jt7t c.W c.S.blocks.length c.S.regs c.T.regs c.T.slots := ⟨_, rfl⟩
 rw [← he1] at hT c1
 rw [← he2] at hT c2
 rw [← he3] at hT c3
 (simp (maxSteps := 1000000) [Jtat, Cert.av])
 (refine Jts c1 (by rfl) (by rfl) ?_)
 (simp (maxSteps := 1000000) [])
 ((first | refine Xc (fun h1 => ?_) (fun h1 => ?_) | refine Xo (fun h1 => ?_) (fun h1 => ?_)) <;> (try simp only [Xz, Xy] at h1))
 ·rw [if_pos h1] at hT
  (simp (maxSteps := 1000000) [h1])
  (first | exact hR _ _ FrA | exact hR _ _ FnA | exact hR _ _ (Xf (hq := by simp [AV.erase, AV.unview, hT]; done)))
 rw [if_neg (by simpa using h1)] at hT
 (simp (maxSteps := 1000000) [h1])
 (refine Jts c2 (by rfl) (by rfl) ?_)
 (simp (maxSteps := 1000000) [])
 ((first | refine Xc (fun h2 => ?_) (fun h2 => ?_) | refine Xo (fun h2 => ?_) (fun h2 => ?_)) <;> (try simp only [Xz, Xy] at h2))
 ·rw [if_pos h2] at hT
  (simp (maxSteps := 1000000) [h2])
  (first | exact hR _ _ FrA | exact hR _ _ FnA | exact hR _ _ (Xf (hq := by simp [AV.erase, AV.unview, hT]; done)))
 rw [if_neg (by simpa using h2)] at hT
 (simp (maxSteps := 1000000) [h2])
 ((first | refine Xc (fun h3 => ?_) (fun h3 => ?_) | refine Xo (fun h3 => ?_) (fun h3 => ?_)) <;> (try simp only [Xz, Xy] at h3))
 ·rw [if_pos (.inl (by omega))] at hT
  (simp (maxSteps := 1000000) [h3])
  (first | exact hR _ _ FrA | exact hR _ _ FnA | exact hR _ _ (Xf (hq := by simp [AV.erase, AV.unview, hT]; done)))
 (simp (maxSteps := 1000000) [h3])
 ((first | refine Xc (fun h4 => ?_) (fun h4 => ?_) | refine Xo (fun h4 => ?_) (fun h4 => ?_)) <;> (try simp only [Xz, Xy] at h4))
 ·rw [if_pos (.inr h4)] at hT
  (simp (maxSteps := 1000000) [h4])
  (first | exact hR _ _ FrA | exact hR _ _ FnA | exact hR _ _ (Xf (hq := by simp [AV.erase, AV.unview, hT]; done)))
 rw [if_neg (by omega)] at hT
 (simp (maxSteps := 1000000) [h4])
 (refine Jts c3 (by rfl) (by rfl) ?_)
 (simp (maxSteps := 1000000) [])
 (first | exact hR _ _ FrA | exact hR _ _ FnA | exact hR _ _ (Xf (hq := by simp [AV.erase, AV.unview, hT]; done)))
end
def VS : List Int := (List.range 61).map fun n : Nat => (n : Int)
def LS : List Int := (List.range 122).map fun n : Nat => (n : Int)
theorem mem_VS {x : Int} (h0 : 0 ≤ x) (h1 : x ≤ 60) : x ∈ VS := List.mem_map.2 ⟨x.toNat, List.mem_range.2 (by omega), by omega⟩
theorem mem_LS {x : Int} (h0 : 0 ≤ x) (h1 : x ≤ 121) : x ∈ LS := List.mem_map.2 ⟨x.toNat, List.mem_range.2 (by omega), by omega⟩
theorem VL_few : VS.length * LS.length < 100000 := by decide
theorem src_ok {f : Func} (h : Jtjn f = 0) : 0 ≤ f.args ∧ f.args ≤ f.regs ∧ 0 < f.blocks.length ∧ ∀ b ∈ f.blocks, (∀ i ∈ b.code, Jtjo i f.regs = 0) ∧ Jtju b.term f.regs f.blocks.length = 0 := by
 unfold Jtjn at h
 split at h
 ·cases h
 split at h
 ·cases h
 split at h
 ·cases h
 split at h
 ·cases h
 refine ⟨by omega, by omega, by omega, fun b hb => ?_⟩
 have h3 := Jt8r h _ (List.mem_map_of_mem hb)
 simp only [Jtjm] at h3
 split at h3
 ·rename_i h5; exact absurd h3 h5
 ·rename_i h5
  exact ⟨fun i hi => Jt8r (es := b.code.map (Jtjo · f.regs)) (by simpa using h5) _ (List.mem_map_of_mem hi), h3⟩
theorem Jtdh {i : Instr} {regs : Int} (h : Jtjo i regs = 0) (h0 : 0 ≤ regs) (h1 : regs ≤ 60) : i.d ∈ VS := by
 unfold Jtjo at h
 split at h
 ·cases h
 split at h
 ·cases h
 rename_i h9
 split at h
 ·cases h
 rename_i h12
 cases hu : usesD i.op with
 | true =>
  simp only [bad9, hu, Bool.true_and, Bool.or_eq_true, not_or, Bool.not_eq_true', inZ] at h9
  have := h9.1.1
  simp at this
  exact mem_VS this.1 (by omega)
 | false =>
  simp only [bad12, hu, Bool.not_false, Bool.true_and, Bool.or_eq_true, not_or, bne_iff_ne, ne_eq, Decidable.not_not] at h12
  rw [h12.1.1.1]; exact mem_VS (by omega) (by omega)
theorem Jtny {t : Term} {regs blocks : Int} (h : Jtju t regs blocks = 0) : ∀ x ∈ succsZ t, 0 ≤ x ∧ x < blocks := by
 unfold Jtju at h
 unfold succsZ
 intro x hx
 split at h
 ·rename_i k1
  rw [if_pos k1] at hx
  simp only [List.mem_singleton] at hx
  split at h
  ·cases h
  ·rename_i k2
   subst hx; simpa [inZ] using k2
 ·rename_i k1
  rw [if_neg k1] at hx
  split at h
  ·rename_i k3
   rw [if_pos k3] at hx
   split at h
   ·cases h
   split at h
   ·cases h
   rename_i k4 k5
   simp only [not_or] at k5
   simp only [List.mem_cons, List.not_mem_nil, or_false] at hx
   rcases hx with rfl | rfl
   ·simpa [inZ] using k5.1
   ·simpa [inZ] using k5.2
  ·rename_i k3
   rw [if_neg k3] at hx; simp at hx
theorem mac_ok {f : MFunc} (h : Jtjq f = 0) : 0 ≤ f.args ∧ f.args ≤ f.slots ∧ 0 ≤ f.regs ∧ ∀ b ∈ f.blocks, ∀ x ∈ b.code, Jtjr x f.regs f.slots = 0 := by
 unfold Jtjq at h
 split at h
 ·cases h
 split at h
 ·cases h
 split at h
 ·cases h
 split at h
 ·cases h
 split at h
 ·cases h
 refine ⟨by omega, by omega, by omega, fun b hb x hx => ?_⟩
 have h3 := Jt8r h _ (List.mem_map_of_mem hb)
 unfold Jtjp at h3
 split at h3
 ·rename_i h5; exact absurd h3 h5
 ·rename_i h5
  have h6 : mErrs b.code f.regs f.slots = 0 := by simpa using h5
  obtain ⟨k, hk⟩ := List.getElem?_of_mem hx
  have hlt := (List.getElem?_eq_some_iff.1 hk).1
  have h7 := Jt8r h6 (mErr b.code f.regs f.slots k) (List.mem_map.2 ⟨k, List.mem_range.2 hlt, rfl⟩)
  unfold mErr at h7
  rw [hk] at h7
  simp only at h7
  split at h7
  ·rename_i h8; exact absurd h7 h8
  ·rename_i h8; simpa using h8
theorem rng_ok {l r s : Int} (h : rngZ l r s = true) (hr : r ≤ 60) (hs : s ≤ 60) : 0 ≤ l ∧ l ≤ 121 := by
 unfold rngZ at h
 split at h
 ·rename_i h1
  simp only [Bool.and_eq_true, decide_eq_true_eq] at h
  have := Int.tdiv_eq_ediv_of_nonneg (b := 2) h.1
  omega
 ·rename_i h1
  simp only [Bool.and_eq_true, decide_eq_true_eq] at h
  have := Int.tdiv_eq_ediv_of_nonneg (b := 2) h.1
  omega
theorem Jtft {x : Mach} {regs slots : Int} (h : Jtjr x regs slots = 0) (h0 : 0 ≤ regs) (h1 : regs ≤ 60) (h2 : slots ≤ 60) : x.dst ∈ LS ∧ regZ x.d ∈ LS := by
 unfold Jtjr at h
 have hz : ∀ d : Int, 0 ≤ d → d ≤ 60 → regZ d ∈ LS := by
  intro d k0 k1
  have : regZ d = 2 * d := by unfold regZ; exact wrap_i64 (by omega) (by omega)
  rw [this]; exact mem_LS (by omega) (by omega)
 split at h
 ·cases h
 split at h
 ·split at h
  ·cases h
  rename_i k1
  split at h
  ·cases h
  rename_i k2
  simp only [not_or, Bool.not_eq_false] at k1
  obtain ⟨g0, g1⟩ := rng_ok k1.1 h1 h2
  refine ⟨mem_LS g0 g1, ?_⟩
  have : x.d = 0 := by simp only [not_or, Decidable.not_not, ne_eq] at k2; exact k2.1
  rw [this]; exact hz 0 (by omega) (by omega)
 ·split at h
  ·cases h
  rename_i k1
  have e : x.dst = 0 := by
   rw [h] at k1
   simp only [true_and, not_or, ne_eq, Decidable.not_not] at k1
   exact k1.1
  have hd := Jtdh h h0 h1
  obtain ⟨n, hn, hd⟩ := List.mem_map.1 hd
  simp only at hd
  have := List.mem_range.1 hn
  refine ⟨by rw [e]; exact mem_LS (by omega) (by omega), hz _ (by omega) (by omega)⟩
theorem Jthk {l : List Pair} {vregs regs slots : Int} (h : pErrs l vregs regs slots = 0) (hv : vregs ≤ 60) (hr : regs ≤ 60) (hs : slots ≤ 60) : Srt l ∧ ∀ q ∈ l, 0 ≤ q.v ∧ q.v ≤ 60 ∧ 0 ≤ q.l ∧ q.l ≤ 121 := by
 have key : ∀ k (hk : k < l.length), 0 ≤ l[k].v ∧ l[k].v < vregs ∧ rngZ l[k].l regs slots = true ∧ (0 < k → ∀ q0, l[k - 1]? = some q0 → lessP q0 l[k] = true) := by
  intro k hk
  have h7 := Jt8r h (pErr l vregs regs slots k) (List.mem_map.2 ⟨k, List.mem_range.2 hk, rfl⟩)
  rw [Jthb hk] at h7
  split at h7
  ·cases h7
  rename_i a1
  split at h7
  ·cases h7
  rename_i a2
  refine ⟨by omega, by omega, by simpa using a2, fun h0 q0 hq0 => ?_⟩
  rw [hq0] at h7
  cases hx : lessP q0 l[k] with
  | true => rfl
  | false =>
   simp only [hx, h0, and_self, if_true] at h7
   cases h7
 refine ⟨Jtmr.2 fun k hk => ?_, fun q hq => ?_⟩
 ·exact (key (k + 1) hk).2.2.2 (by omega) l[k] (by simp)
 ·obtain ⟨k, hk⟩ := List.getElem?_of_mem hq
  obtain ⟨hlt, rfl⟩ := List.getElem?_eq_some_iff.1 hk
  obtain ⟨a1, a2, a3, _⟩ := key k hlt
  obtain ⟨a4, a5⟩ := rng_ok a3 hr hs
  exact ⟨a1, by omega, a4, a5⟩
structure Fit (c : Cert) : Prop where
 lenT : c.T.blocks.length = c.S.blocks.length
 lenW : c.W.length = c.S.blocks.length
 pos : 0 < c.S.blocks.length
 few : c.S.blocks.length ≤ 40
 w : ∀ l ∈ c.W, Srt l ∧ l.length ≤ 400 ∧ ∀ q ∈ l, 0 ≤ q.v ∧ q.v ≤ 60 ∧ 0 ≤ q.l ∧ q.l ≤ 121
 vl : ∀ b ∈ c.S.blocks, ∀ m ∈ c.T.blocks, VLOk VS LS b.code m.code
 cs : ∀ b ∈ c.S.blocks, b.code.length ≤ 100
 ct : ∀ m ∈ c.T.blocks, m.code.length ≤ 900
 to : ∀ b ∈ c.S.blocks, ∀ x ∈ succsZ b.term, 0 ≤ x ∧ x < c.S.blocks.length
 ars : 0 ≤ c.S.args ∧ c.S.args ≤ 60
theorem fit_of {c : Cert} (h : validZ c = 0) (hf : fewC c = true) : Fit c := by
 unfold validZ at h
 split at h
 ·rename_i g; exact absurd h g
 rename_i g1
 split at h
 ·rename_i g; exact absurd h g
 rename_i g2
 split at h
 ·cases h
 rename_i g3
 have v1 : Jtjn c.S = 0 := by simpa using g1
 have v2 : Jtjq c.T = 0 := by simpa using g2
 unfold Jt7t at h
 split at h
 ·cases h
 rename_i g4
 split at h
 ·cases h
 rename_i g5
 simp only [fewC, few, fewM, fewW, Bool.and_eq_true, decide_eq_true_eq, List.all_eq_true] at hf
 obtain ⟨⟨⟨⟨⟨f1, f2⟩, f3⟩, f4⟩, ⟨⟨⟨⟨f5, f6⟩, f7⟩, f8⟩, f9⟩⟩, f10, f11⟩ := hf
 obtain ⟨s1, s2, s3, s4⟩ := src_ok v1
 obtain ⟨t1, t2, t3, t4⟩ := mac_ok v2
 exact {
  lenT := by omega
  lenW := by omega
  pos := s3
  few := f1
  w := fun l hl => by
   obtain ⟨p1, p2⟩ := Jthk (Jt8r h _ (List.mem_map_of_mem hl)) f2 f6 f7
   exact ⟨p1, f11 l hl, p2⟩
  vl := fun b hb m hm => ⟨fun i hi => Jtdh ((s4 b hb).1 i hi) (by omega) f2, fun x hx => Jtft (t4 m hm x hx) t3 f6 f7⟩
  cs := f3
  ct := fun m hm => Nat.le_trans (f8 m hm) (by decide)
  to := fun b hb x hx => Jtny (s4 b hb).2 x hx
  ars := ⟨s1, by omega⟩ }
structure Good (r : Res) : Prop where
 srt : Srt r.out
 len : r.out.length < 100000
 steps : r.steps ≤ 1000000000
 lg : r.largest < 100000
theorem Jt6m {V L : List Int} {b : Block} {m : MBlock} {l : List Pair} {most : Int} (hl : ∀ q ∈ l, q.v ∈ V ∧ q.l ∈ L) (hv : VLOk V L b.code m.code) (few : V.length * L.length < 100000) (hl0 : l.length < 100000)
  (hb0 : b.code.length ≤ 1000) (hm0 : m.code.length ≤ 1000) : Over V L (checkZ b m l most).out := by
 have hnil : Over V L [] := ⟨List.Pairwise.nil, fun q hq => by simp at hq⟩
 obtain ⟨a1, a2, a3⟩ := Jt4u b.code m.code
 unfold checkZ
 split
 ·exact hnil
 ·by_cases h2 : (if (alignZ b.code m.code).2.2 = 0 ∧ termsZ b.term m.term = false then 20 else (alignZ b.code m.code).2.2) ≠ 0
  ·simp only [if_pos h2]; exact hnil
  ·simp only [if_neg h2]
   have hover : Over V L (makeP l) := ⟨Jtmz l, fun q hq => hl q (Jtfi.1 hq)⟩
   have hroom : Room V L ⟨makeP l, 0, l.length⟩ (0 + 1 + needRs (alignZ b.code m.code).1) := by
    refine ⟨hover, few, ?_, by simp only; omega⟩
    have h1 := Jtge a1
    have h2 : (alignZ b.code m.code).1.length * (3 + m.code.length + b.code.length) ≤ 1001 * 2003 := Nat.mul_le_mul (by omega) (by omega)
    simp only
    omega
   have hr := Jtl6 (most := most) hv hroom a1
   generalize runC most b m (alignZ b.code m.code).1 ⟨makeP l, 0, l.length⟩ = r at hr
   obtain ⟨t, e⟩ := r
   simp only
   split
   ·exact hr.over
   ·exact hnil
theorem Fit.good {c : Cert} (h : Fit c) {b : Block} {m : MBlock} {l : List Pair} (hb : b ∈ c.S.blocks) (hm : m ∈ c.T.blocks) (hl : l ∈ c.W) (most : Int) : Good (checkZ b m l most) := by
 obtain ⟨w1, w2, w3⟩ := h.w l hl
 have k1 : ∀ q ∈ l, q.v ∈ VS ∧ q.l ∈ LS := fun q hq => by
  obtain ⟨a1, a2, a3, a4⟩ := w3 q hq
  exact ⟨mem_VS a1 a2, mem_LS a3 a4⟩
 have c1 := h.cs b hb
 have c2 := h.ct m hm
 have o := Jt6m (most := most) k1 (h.vl b hb m hm) VL_few (by omega) (by omega) (by omega)
 obtain ⟨r1, r2⟩ := Jt6l (most := most) k1 (h.vl b hb m hm) VL_few (by omega) (by omega) (by omega)
 have bd := (Jt6k b m l most (Jtf2 l)).1
 refine ⟨o.srt, Nat.lt_of_le_of_lt o.len VL_few, ?_, r1⟩
 have : (3 * m.code.length + b.code.length + 1) * ((checkZ b m l most).largest + 1) ≤ 3001 * 100000 := Nat.mul_le_mul (by omega) (by omega)
 omega
theorem fit_w0 {c : Cert} (h : Fit c) : c.W[0]? = some (w0 c) := by
 have := h.lenW; have := h.pos
 unfold w0
 rw [List.getElem?_eq_getElem (by omega)]; rfl
theorem Jt8u {c : Cert} (h : Fit c) : w0 c ∈ c.W := List.mem_of_getElem? (fit_w0 h)
theorem Jtg2 {w : List (List Pair)} {k : Nat} {l : List Pair} (h : w[k]? = some l) : mostW (w.take (k + 1)) = max (mostW (w.take k)) l.length := by
 unfold mostW
 rw [List.map_take, List.map_take]
 exact Jtg1 (by rw [List.getElem?_map, h]; rfl)
theorem Jtg3 {w : List (List Pair)} {n : Nat} (h : ∀ l ∈ w, l.length ≤ n) : mostW w ≤ n := by
 apply Nat.le_of_not_lt
 intro hlt
 obtain ⟨x, hx, hn⟩ := Jtg0.1 hlt
 obtain ⟨l, hl, rfl⟩ := List.mem_map.1 hx
 have := h l hl
 omega
def begC (c : Cert) : Rep := { rep0 c with err := if ((w0 c).all fun q => initZ q c.S.args) = true then 0 else 23 }
section
theorem Jt6t {P : Program} {p : Nums} (A : All P p) (c : Cert) (h : Fit c) : Jt3o P p.checker_begin [c.av] [] fun o _ => o = .ret (begC c).av := by
 have hw0 := fit_w0 h
 obtain ⟨z1, z2, z3⟩ := h.w _ (Jt8u h)
 have hlenW := h.lenW
 have hfew := h.few
 have hen := Jt7u A (w0 c) c.S.args (by omega) (fun q hq => by obtain ⟨a1, a2, a3, a4⟩ := z3 q hq; exact ⟨by omega, by omega, by omega, by omega⟩)
 obtain ⟨er, her⟩ : ∃ e, e = (if ((w0 c).all fun q => initZ q c.S.args) = true then (0 : Int) else 23) := ⟨_, rfl⟩
 have hbg : begC c = ⟨er, 0, 0, 0, 0, 1 + (w0 c).length, mostW c.W⟩ := by rw [her]; rfl
 rw [hbg]
 unfold entA at hen
 rw [← her] at hen
 obtain ⟨pr, hpr⟩ : ∃ x, x = ((w0 c).find? fun q => !initZ q c.S.args).getD ⟨0, 0⟩ := ⟨_, rfl⟩
 rw [← hpr] at hen
 obtain ⟨wz, hwz⟩ : ∃ x, x = w0 c := ⟨_, rfl⟩
 rw [← hwz] at hen hw0 z2 ⊢
 obtain ⟨S, T, W⟩ := c
 obtain ⟨sa, sr, sb⟩ := S
 obtain ⟨ta, tr, ts, tb⟩ := T
 simp only at hen hw0 hlenW hfew h ⊢
 obtain ⟨sR, hsR⟩ : ∃ x, x = sb.map Block.row := ⟨_, rfl⟩
 obtain ⟨tR, htR⟩ : ∃ x, x = tb.map MBlock.row := ⟨_, rfl⟩
 refine A.checker_begin.run rfl fun R hR => ?_
 simp only [Cert.av, witD, ← hsR, ← htR]
 have w1 : IntKind.i64.wrap (1 + (wz.length : Int)) = ((1 + wz.length : Nat) : Int) := by rw [wrap_i64 (by omega) (by omega)]; omega
 (simp (maxSteps := 1000000) [Jtau, hw0, pairsD, w1])
 refine Jt9 (fun k : Nat => ⟨[(16, AI k), (15, AI W.length), (14, .d (.sl (W.map fun l => [pairsD l]))), (1, .ptr 0 0), (2, .ptr 1 0), (3, .ptr 2 0)],
  [.mem [AI sa, AI sr, .d (.sl sR), AI ta, AI tr, AI ts, .d (.sl tR), .d (.sl (W.map fun l => [pairsD l]))], .mem [AI 0, AI 0, AI 0, AI 0, AI 0, AI 0, AI 0], .mem [AI 0, AI 0, AI 0, AI 0, AI 0, AI ((1 + wz.length : Nat) : Int), AI (mostW (W.take k))]]⟩)
  (fun k => k ≤ W.length) (fun k => W.length - k) 0 (by simp) (by (exact wkA)) ?_
 intro k hk N hN
 (simp (maxSteps := 1000000) [])
 ((first | refine Xc (fun h2 => ?_) (fun h2 => ?_) | refine Xo (fun h2 => ?_) (fun h2 => ?_)) <;> (try simp only [Xz, Xy] at h2))
 ·have hkl : k < W.length := by simpa using h2
  have hb : W[k]? = some W[k] := by simp
  have hw := Jtp7 (k := k) (by omega)
  have hm := Jtg2 hb
  have emx : (if mostW (W.take k) < W[k].length then ((W[k].length : Nat) : Int) else ((mostW (W.take k) : Nat) : Int)) = ((mostW (W.take (k + 1)) : Nat) : Int) := by
   rw [hm]; split <;> omega
  (simp (maxSteps := 1000000) [h2, hb, pairsD, hw, emx])
  exact hN _ (k + 1) hkl (by (exact wkA)) (by omega)
 ·have hk' : k = W.length := by simp at h2; omega
  subst hk'
  (simp (maxSteps := 1000000) [hw0])
  (refine Jts hen (by rfl) (by rfl) ?_)
  (simp (maxSteps := 1000000) [])
  (first | exact hR _ _ FrA | exact hR _ _ FnA | exact hR _ _ (Xf (hq := by simp [AV.erase, AV.unview, Rep.av, List.take_length]; done)))
end
end Go.AE
set_option maxRecDepth 4000
namespace Go.AE
open Go
structure RepOk (i : Nat) (r : Rep) : Prop where
 blocks : r.blocks ≤ i
 edges : r.edges ≤ 2 * i
 steps : r.steps ≤ 1000 + 2000000000 * i
 lg : r.largest < 100000
def edgeR (w : List (List Pair)) (out : List Pair) (to : Nat) (r : Rep) : Rep := { r with edges := r.edges + 1, steps := r.steps + 1 + out.length + ((w[to]?).getD []).length }
structure RepIn (i k : Nat) (r : Rep) : Prop where
 blocks : r.blocks ≤ i + 1
 edges : r.edges ≤ 2 * i + k
 steps : r.steps ≤ 1000 + 2000000000 * i + 1000000000 + 200000 * k
 lg : r.largest < 100000
theorem RepIn.out {i k : Nat} {r : Rep} (h : RepIn i k r) (hk : k ≤ 2) : RepOk (i + 1) r := ⟨h.blocks, by have := h.edges; omega, by have := h.steps; omega, h.lg⟩
theorem RepIn.edge {w : List (List Pair)} {out wt : List Pair} {i k to : Nat} {r : Rep} (h : RepIn i k r) (ho : out.length < 100000) (hw : w[to]? = some wt) (hwl : wt.length ≤ 400) : RepIn i (k + 1) (edgeR w out to r) := by
 have := h.blocks; have := h.edges; have := h.steps; have := h.lg
 refine ⟨by simpa [edgeR] using h.blocks, by simp only [edgeR]; omega, ?_, by simpa [edgeR] using h.lg⟩
 simp only [edgeR, hw, Option.getD_some]; omega
theorem Jtno (t : Term) : (succsZ t).length ≤ 2 := by
 unfold succsZ; split
 ·simp
 ·split <;> simp
def Rep.cells (r : Rep) : List AV := [AI r.err, AI r.block, AI r.at_, AI r.blocks, AI r.edges, AI r.steps, AI r.largest]
theorem Jt80 (w : List (List Pair)) (out : List Pair) (i : Nat) (to : Nat) (ts : List Int) (k : Nat) (r : Rep) : edgesC w out i ((to : Int) :: ts) k r =
  if (missP ((w[to]?).getD []) out).isSome = true then ({ edgeR w out to r with err := 22, block := i, at_ := k }, true) else edgesC w out i ts (k + 1) (edgeR w out to r) := rfl
def blockR (x : Res) (r : Rep) : Rep := { r with blocks := r.blocks + 1, steps := r.steps + x.steps, largest := max r.largest x.largest }
theorem Jt5i {c : Cert} {i : Nat} {b : Block} {m : MBlock} {l : List Pair} (hb : c.S.blocks[i]? = some b) (hm : c.T.blocks[i]? = some m) (hl : c.W[i]? = some l) (r : Rep) : blockC c i r =
  if (checkZ b m l 1048576).err ≠ 0 then ({ blockR (checkZ b m l 1048576) r with err := (checkZ b m l 1048576).err, block := i, at_ := (checkZ b m l 1048576).at_ }, true)
  else edgesC c.W (checkZ b m l 1048576).out i (succsZ b.term) 0 (blockR (checkZ b m l 1048576) r) := by
 unfold blockC; rw [hb, hm, hl]; rfl
section
theorem Jt6q {P : Program} {p : Nums} (A : All P p) (S : SortOk P p) (C : ClosOk P p) (c : Cert) (ok : okCert c) (hfit : validZ c = 0 → Fit c) : Jt3o P p.checker_Check [c.av] [] fun o _ => o = .ret (Jtkc c).av := by
 obtain ⟨T, hT⟩ : ∃ T, T = Jtkc c := ⟨_, rfl⟩
 rw [← hT]
 unfold Jtkc at hT
 have cv := Jt6s A c ok
 have cb := Jt6t A c
 obtain ⟨v, hv⟩ : ∃ v, v = validZ c := ⟨_, rfl⟩
 rw [← hv] at cv hT hfit
 obtain ⟨sR, hsR⟩ : ∃ x, x = c.S.blocks.map Block.row := ⟨_, rfl⟩
 obtain ⟨tR, htR⟩ : ∃ x, x = c.T.blocks.map MBlock.row := ⟨_, rfl⟩
 obtain ⟨wR, hwR⟩ : ∃ x, x = c.W.map fun l => [pairsD l] := ⟨_, rfl⟩
 refine A.checker_Check.run rfl fun R hR => ?_
 simp only [Cert.av, witD, ← hsR, ← htR, ← hwR] at cv cb ⊢
 (simp (maxSteps := 1000000) [Jtas])
 (refine Jts cv (by rfl) (by rfl) ?_)
 (simp (maxSteps := 1000000) [])
 ((first | refine Xc (fun h1 => ?_) (fun h1 => ?_) | refine Xo (fun h1 => ?_) (fun h1 => ?_)) <;> (try simp only [Xz, Xy] at h1))
 ·rw [if_pos h1] at hT
  (simp (maxSteps := 1000000) [h1])
  (first | exact hR _ _ FrA | exact hR _ _ FnA | exact hR _ _ (Xf (hq := by simp [AV.erase, AV.unview, hT, Rep.av]; done)))
 have h1' : v = 0 := by simpa using h1
 have h := hfit h1'
 rw [if_neg (by simpa using h1)] at hT
 (simp (maxSteps := 1000000) [h1])
 (refine Jts (cb h) (by rfl) (by rfl) ?_)
 obtain ⟨r0, hr0⟩ : ∃ r, r = begC c := ⟨_, rfl⟩
 rw [← hr0]
 (simp (maxSteps := 1000000) [Rep.av])
 ((first | refine Xc (fun h2 => ?_) (fun h2 => ?_) | refine Xo (fun h2 => ?_) (fun h2 => ?_)) <;> (try simp only [Xz, Xy] at h2))
 ·have e : ((w0 c).all fun q => initZ q c.S.args) = false := by
   cases hx : (w0 c).all fun q => initZ q c.S.args with
   | false => rfl
   | true => exfalso; apply h2; rw [hr0]; simp only [begC, hx, if_true]
  have hT2 : T = r0 := by rw [hT, if_pos e, hr0]; simp only [begC, e]; rfl
  (simp (maxSteps := 1000000) [h2])
  (first | exact hR _ _ FrA | exact hR _ _ FnA | exact hR _ _ (Xf (hq := by simp [AV.erase, AV.unview, hT2, Rep.av]; done)))
 have e : ((w0 c).all fun q => initZ q c.S.args) = true := by
  cases hx : (w0 c).all fun q => initZ q c.S.args with
  | true => rfl
  | false => exfalso; rw [hr0] at h2; simp [begC, hx] at h2
 have hr0' : r0 = rep0 c := by rw [hr0]; unfold begC; rw [if_pos e]; rfl
 rw [if_neg (by simp [e]), ← hr0'] at hT
 have hsl : sR.length = c.S.blocks.length := by rw [hsR]; simp
 have htl : tR.length = c.S.blocks.length := by rw [htR]; simp [h.lenT]
 have hwl : wR.length = c.S.blocks.length := by rw [hwR]; simp [h.lenW]
 obtain ⟨z1, z2, z3⟩ := h.w _ (Jt8u h)
 have hrok : RepOk 0 r0 := by
  rw [hr0']
  have := Jtg3 (w := c.W) (n := 400) (fun l hl => (h.w l hl).2.1)
  exact ⟨Nat.le_refl _, Nat.le_refl _, by simp only [rep0]; omega, by simp only [rep0]; omega⟩
 have few := h.few
 (simp (maxSteps := 1000000) [hsl])
 obtain ⟨n, hn⟩ : ∃ n, n = c.S.blocks.length := ⟨_, rfl⟩
 rw [← hn] at hsl htl hwl hT few ⊢
 refine Jt9 (fun s : Nat × Rep => ⟨[(28, AI s.1), (27, AI n), (26, .d (.sl sR)), (1, .ptr 0 0), (2, .ptr 1 0), (4, .ptr 2 0)],
  [.mem [AI c.S.args, AI c.S.regs, .d (.sl sR), AI c.T.args, AI c.T.regs, AI c.T.slots, .d (.sl tR), .d (.sl wR)], .mem [AI 0, AI 0, AI 0, AI 0, AI 0, AI 0, AI 0], .mem [AI s.2.err, AI s.2.block, AI s.2.at_, AI s.2.blocks, AI s.2.edges, AI s.2.steps, AI s.2.largest]]⟩)
  (fun s => s.1 ≤ n ∧ RepOk s.1 s.2 ∧ T = Jt5r c (n - s.1) s.1 s.2) (fun s => n - s.1) (0, r0) ⟨by omega, hrok, hT⟩ (by (exact wkA)) ?_
 rintro ⟨i, r⟩ ⟨hi, hok, hTi⟩ N hN
 simp only at hi hok hTi hN
 (simp (maxSteps := 1000000) [])
 ((first | refine Xc (fun h3 => ?_) (fun h3 => ?_) | refine Xo (fun h3 => ?_) (fun h3 => ?_)) <;> (try simp only [Xz, Xy] at h3))
 ·have hil : i < n := by omega
  have hb : c.S.blocks[i]? = some c.S.blocks[i] := by simp
  have hm : c.T.blocks[i]? = some (c.T.blocks[i]'(by rw [h.lenT]; omega)) := by simp
  have hl : c.W[i]? = some (c.W[i]'(by rw [h.lenW]; omega)) := by simp
  obtain ⟨b, hbe⟩ : ∃ b, b = c.S.blocks[i] := ⟨_, rfl⟩
  obtain ⟨m, hme⟩ : ∃ m, m = c.T.blocks[i]'(by rw [h.lenT]; omega) := ⟨_, rfl⟩
  obtain ⟨l, hle⟩ : ∃ l, l = c.W[i]'(by rw [h.lenW]; omega) := ⟨_, rfl⟩
  rw [← hbe] at hb
  rw [← hme] at hm
  rw [← hle] at hl
  have mb := List.mem_of_getElem? hb
  have mm := List.mem_of_getElem? hm
  have ml := List.mem_of_getElem? hl
  have hbR : sR[i]? = some b.row := by rw [hsR, List.getElem?_map, hb]; rfl
  have hmR : tR[i]? = some m.row := by rw [htR, List.getElem?_map, hm]; rfl
  have hlR : wR[i]? = some [pairsD l] := by rw [hwR, List.getElem?_map, hl]; rfl
  have gd := h.good mb mm ml 1048576
  obtain ⟨l1, l2, l3⟩ := h.w l ml
  have ck := Jt5k A S C (V := VS) (L := LS) b m l 1048576 (fun q hq => by obtain ⟨a1, a2, a3, a4⟩ := l3 q hq; exact ⟨mem_VS a1 a2, mem_LS a3 a4⟩) (h.vl b mb m mm) VL_few (by omega)
   (by have := h.cs b mb; omega) (by have := h.ct m mm; omega)
  have hbc := Jt5i hb hm hl r
  obtain ⟨x, hx⟩ : ∃ x, x = checkZ b m l 1048576 := ⟨_, rfl⟩
  rw [← hx] at ck gd hbc
  have hTs : T = match blockC c i r with | (r, true) => r | (r, false) => Jt5r c (n - (i + 1)) (i + 1) r := by
   rw [hTi, show n - i = (n - (i + 1)) + 1 by omega]; rfl
  rw [hbc] at hTs
  have hw := Jtp7 (k := i) (by omega)
  have k1 := hok.blocks
  have k2 := hok.edges
  have k3 := hok.steps
  have k4 := hok.lg
  have g1 := gd.len
  have g2 := gd.steps
  have g3 := gd.lg
  obtain ⟨r1, hr1⟩ : ∃ r1, r1 = blockR x r := ⟨_, rfl⟩
  rw [← hr1] at hTs
  have q1 : IntKind.i64.wrap ((r.blocks : Int) + 1) = (r1.blocks : Int) := by rw [hr1]; exact Jtp7 (by omega)
  have q2 : IntKind.i64.wrap ((r.steps : Int) + (x.steps : Int)) = (r1.steps : Int) := by rw [hr1]; exact Jtp6 (by omega)
  have q3 : (if r.largest < x.largest then ((x.largest : Nat) : Int) else ((r.largest : Nat) : Int)) = (r1.largest : Int) := by rw [hr1]; simp only [blockR]; split <;> omega
  have q4 : r1.err = r.err := by rw [hr1]; rfl
  have q5 : r1.block = r.block := by rw [hr1]; rfl
  have q6 : r1.at_ = r.at_ := by rw [hr1]; rfl
  have q7 : r1.edges = r.edges := by rw [hr1]; rfl
  have rin : RepIn i 0 r1 := by
   rw [hr1]
   exact ⟨by simp only [blockR]; omega, by simp only [blockR]; omega, by simp only [blockR]; omega, by simp only [blockR]; omega⟩
  obtain ⟨oR, hoR⟩ : ∃ y, y = x.out.map Pair.row := ⟨_, rfl⟩
  have hol : oR.length = x.out.length := by rw [hoR]; simp
  simp only [pairsD] at hlR
  simp only [Res.av, pairsD, ← hoR] at ck
  (simp (maxSteps := 1000000) [h3, hbR, hmR, hlR, Block.row, MBlock.row])
  (refine Jts ck (by rfl) (by rfl) ?_)
  (simp (maxSteps := 1000000) [q1, q2, q3])
  ((first | refine Xc (fun h4 => ?_) (fun h4 => ?_) | refine Xo (fun h4 => ?_) (fun h4 => ?_)) <;> (try simp only [Xz, Xy] at h4))
  ·rw [if_pos h4] at hTs
   simp only at hTs
   (simp (maxSteps := 1000000) [])
   (first | exact hR _ _ FrA | exact hR _ _ FnA | exact hR _ _ (Xf (hq := by simp [AV.erase, AV.unview, hTs, Rep.av, q4, q5, q6, q7]; done)))
  rw [if_neg (by simpa using h4)] at hTs
  have cs := Jtma A b.term
  have hto := h.to b mb
  have htl2 := Jtno b.term
  obtain ⟨ts, hts⟩ : ∃ t, t = succsZ b.term := ⟨_, rfl⟩
  rw [← hts] at cs hTs hto htl2
  rw [← hn] at hto
  (simp (maxSteps := 1000000) [])
  (refine Jts cs (by rfl) (by rfl) ?_)
  (simp (maxSteps := 1000000) [])
  refine Jt9 (fun s : Nat × Rep => ⟨[(77, AI s.1), (76, AI ts.length), (75, .d (.sl (ts.map fun x => [I x]))), (5, AI i), (7, .ptr 4 0), (28, AI i), (27, AI n), (26, .d (.sl sR)), (1, .ptr 0 0), (2, .ptr 1 0), (4, .ptr 2 0)],
   [.mem [AI c.S.args, AI c.S.regs, .d (.sl sR), AI c.T.args, AI c.T.regs, AI c.T.slots, .d (.sl tR), .d (.sl wR)], .mem [AI 0, AI 0, AI 0, AI 0, AI 0, AI 0, AI 0], .mem [AI s.2.err, AI s.2.block, AI s.2.at_, AI s.2.blocks, AI s.2.edges, AI s.2.steps, AI s.2.largest], .dead, .mem [.d (.sl oR), AI x.err, AI x.at_, AI x.steps, AI x.largest]]⟩)
   (fun s => s.1 ≤ ts.length ∧ RepIn i s.1 s.2 ∧ T = match edgesC c.W x.out i (ts.drop s.1) s.1 s.2 with | (r, true) => r | (r, false) => Jt5r c (n - (i + 1)) (i + 1) r) (fun s => ts.length - s.1) (0, r1) ⟨by omega, rin, hTs⟩ (by simp only [q4, q5, q6, q7]; (exact wkA)) ?_
  rintro ⟨k, t⟩ ⟨hk, hin, hTk⟩ N' hN'
  simp only at hk hin hTk hN'
  (simp (maxSteps := 1000000) [])
  ((first | refine Xc (fun h5 => ?_) (fun h5 => ?_) | refine Xo (fun h5 => ?_) (fun h5 => ?_)) <;> (try simp only [Xz, Xy] at h5))
  ·have hkl : k < ts.length := by simpa using h5
   have ht : ts[k]? = some ts[k] := by simp
   obtain ⟨d1, d2⟩ := hto _ (List.getElem_mem hkl)
   have hdrop : ts.drop k = ts[k] :: ts.drop (k + 1) := List.drop_eq_getElem_cons hkl
   obtain ⟨tn, htn⟩ : ∃ tn : Nat, ts[k] = (tn : Int) := ⟨ts[k].toNat, by omega⟩
   rw [htn] at ht hdrop d2
   have hWt : c.W[tn]? = some (c.W[tn]'(by rw [h.lenW]; omega)) := by simp
   obtain ⟨wt, hwt⟩ : ∃ w, w = c.W[tn]'(by rw [h.lenW]; omega) := ⟨_, rfl⟩
   rw [← hwt] at hWt
   obtain ⟨y1, y2, y3⟩ := h.w wt (List.mem_of_getElem? hWt)
   have hwtR : wR[tn]? = some [.sl (wt.map Pair.row)] := by rw [hwR, List.getElem?_map, hWt]; rfl
   have hgd : (c.W[tn]?).getD [] = wt := by rw [hWt]; rfl
   have ci := Jt7v A x.out wt (by omega) (by omega) gd.srt y1
   rw [hdrop, Jt80, hgd] at hTk
   have hin2 := hin.edge (out := x.out) (by omega) hWt y2
   obtain ⟨t2, ht2⟩ : ∃ t2, t2 = edgeR c.W x.out tn t := ⟨_, rfl⟩
   rw [← ht2] at hTk hin2
   obtain ⟨b1, hb1⟩ : ∃ b, b = (missP wt x.out).isSome := ⟨_, rfl⟩
   obtain ⟨pr, hpr⟩ : ∃ y, y = (missP wt x.out).getD ⟨0, 0⟩ := ⟨_, rfl⟩
   obtain ⟨mv, hmv⟩ : ∃ y : Int, y = if b1 = true then 22 else 0 := ⟨_, rfl⟩
   simp only [impA, ← hb1, ← hpr, ← hmv, pairsD, ← hoR, Pair.av] at ci
   rw [← hb1] at hTk
   obtain ⟨s1, hs1⟩ : ∃ y, y = t.steps + 1 := ⟨_, rfl⟩
   obtain ⟨s2, hs2⟩ : ∃ y, y = s1 + x.out.length := ⟨_, rfl⟩
   have j1 := hin.edges
   have j2 := hin.steps
   have p1 : IntKind.i64.wrap ((t.edges : Int) + 1) = (t2.edges : Int) := by rw [ht2]; exact Jtp7 (by omega)
   have p2 : IntKind.i64.wrap ((t.steps : Int) + 1) = (s1 : Int) := by rw [hs1]; exact Jtp7 (by omega)
   have p3 : IntKind.i64.wrap ((s1 : Int) + (x.out.length : Int)) = (s2 : Int) := by rw [hs2]; exact Jtp6 (by omega)
   have p4 : IntKind.i64.wrap ((s2 : Int) + (wt.length : Int)) = (t2.steps : Int) := by rw [ht2]; simp only [edgeR, hgd]; rw [hs2, hs1]; exact Jtp6 (by omega)
   have p5 : t2.err = t.err := by rw [ht2]; rfl
   have p6 : t2.block = t.block := by rw [ht2]; rfl
   have p7 : t2.at_ = t.at_ := by rw [ht2]; rfl
   have p8 : t2.blocks = t.blocks := by rw [ht2]; rfl
   have p9 : t2.largest = t.largest := by rw [ht2]; rfl
   have hwk := Jtp7 (k := k) (by omega)
   (simp (maxSteps := 1000000) [h5, ht, htn, hwtR, hol, p1, p2, p3, p4])
   (refine Jts ci (by rfl) (by rfl) ?_)
   (simp (maxSteps := 1000000) [])
   ((first | refine Xc (fun h6 => ?_) (fun h6 => ?_) | refine Xo (fun h6 => ?_) (fun h6 => ?_)) <;> (try simp only [Xz, Xy] at h6))
   ·have hb1t : b1 = true := by
     cases b1 with
     | true => rfl
     | false => exfalso; apply h6; rw [hmv]; rfl
    rw [hb1t] at hmv hTk
    simp only [if_true] at hmv hTk
    rw [hmv]
    (simp (maxSteps := 1000000) [])
    (first | exact hR _ _ FrA | exact hR _ _ FnA | exact hR _ _ (Xf (hq := by simp [AV.erase, AV.unview, hTk, Rep.av, p5, p6, p7, p8, p9]; done)))
   ·have hb1f : b1 = false := by
     cases b1 with
     | false => rfl
     | true => exfalso; rw [hmv] at h6; simp at h6
    rw [hb1f] at hTk
    simp only [Bool.false_eq_true, if_false] at hTk
    (simp (maxSteps := 1000000) [hwk])
    exact hN' _ (k + 1, t2) ⟨hkl, hin2, hTk⟩ (by simp only [p5, p6, p7, p8, p9]; (exact wkA)) (by simp only; omega)
  ·have hkl : k = ts.length := by simp at h5; omega
   subst hkl
   rw [List.drop_length] at hTk
   have hTk' : T = Jt5r c (n - (i + 1)) (i + 1) t := hTk
   (simp (maxSteps := 1000000) [hw])
   exact hN _ (i + 1, t) ⟨hil, hin.out htl2, hTk'⟩ (by (exact wkA)) (by simp only; omega)
 ·have hk : i = n := by simp at h3; omega
  subst hk
  rw [Nat.sub_self] at hTi
  have hTi' : T = r := hTi
  (simp (maxSteps := 1000000) [])
  (first | exact hR _ _ FrA | exact hR _ _ FnA | exact hR _ _ (Xf (hq := by simp [AV.erase, AV.unview, hTi', Rep.av]; done)))
theorem Jt6p {P : Program} {p : Nums} (A : All P p) (S : SortOk P p) (C : ClosOk P p) (c : Cert) (ok : okCert c) (hf : fewC c = true) : Jt3o P p.checker_Check [c.av] [] fun o _ => o = .ret (Jtkc c).av :=
 Jt6q A S C c ok fun h => fit_of h hf
end
end Go.AE
set_option maxRecDepth 4000
namespace Go.AE
open Go
section
end
end Go.AE
set_option maxRecDepth 4000
namespace Go.AE
open Go
def succN (bs : List Block) : Nat := (bs.map fun b => (succsZ b.term).length).sum
theorem Jtnm {bs : List Block} {k : Nat} {b : Block} (h : bs[k]? = some b) : succN (bs.take (k + 1)) = succN (bs.take k) + (succsZ b.term).length := by
 rw [List.take_add_one, h]; simp [succN]
theorem Jtnl (bs : List Block) : succN bs ≤ 2 * bs.length := by
 induction bs with
 | nil => simp [succN]
 | cons b bs ih =>
  have := Jtno b.term
  simp only [succN, List.map_cons, List.sum_cons, List.length_cons] at *
  omega
theorem Jtnn (bs : List Block) (k : Nat) : succN (bs.take k) ≤ 2 * bs.length := by
 have := Jtnl (bs.take k)
 have h2 : (bs.take k).length ≤ bs.length := by simp [List.length_take]; omega
 omega
def boundN (c : Cert) : Nat := codeN c.S.blocks + mcodeN c.T.blocks + c.S.blocks.length + 1 + succN c.S.blocks
theorem Jtgy {c : Cert} (hf : fewC c = true) (h2 : ∀ b ∈ c.T.blocks, okM b) (hw : okW c.W) : okCert c := by
 simp only [fewC, few, fewM, fewW, Bool.and_eq_true, decide_eq_true_eq, List.all_eq_true] at hf
 obtain ⟨⟨⟨⟨⟨f1, f2⟩, f3⟩, f4⟩, ⟨⟨⟨⟨f5, f6⟩, f7⟩, f8⟩, f9⟩⟩, f10, f11⟩ := hf
 have hwt : ∀ w : List (List Pair), (∀ l ∈ w, l.length ≤ 400) → wTotal w ≤ 400 * w.length := by
  intro w
  induction w with
  | nil => intro _; simp [wTotal]
  | cons l w ih =>
   intro h
   have h1 := h l (by simp)
   have h3 := ih fun l hl => h l (by simp [hl])
   simp only [wTotal, List.map_cons, List.sum_cons, List.length_cons] at *
   omega
 have := hwt c.W f11
 exact ⟨by omega, by omega, by omega, by omega, h2, by omega, by omega, hw⟩
def endT : Term := ⟨3, 0, 0, 0⟩
def exC : Cert := ⟨⟨0, 1, [⟨[], endT⟩]⟩, ⟨0, 1, 0, [⟨[], endT⟩]⟩, [[]]⟩
def exD : Cert := ⟨⟨0, 1, [⟨[], endT⟩]⟩, ⟨0, 1, 0, [⟨[], endT⟩]⟩, [[⟨0, 0⟩]]⟩
def exE : Cert := ⟨⟨0, 0, []⟩, ⟨0, 0, 0, []⟩, []⟩
section
theorem Jt6o {P : Program} {p : Nums} (A : All P p) (c : Cert) (g : Nat) (h0 : codeN c.S.blocks ≤ 1000000) (h1 : mcodeN c.T.blocks ≤ 1000000) (h2 : c.S.blocks.length ≤ 1000000) (h3 : c.T.blocks.length ≤ 1000000) (hg : g ≤ 1000000) :
  Jt3o P p.checker_Bound [c.av, AI g] [] fun o _ => o = .ret (AI ((3 * boundN c * (g + 1) : Nat) : Int)) := by
 have c1 := Jtm8 A c.S (by omega) (by omega)
 have c2 := Jter A c.T (by omega) (by omega)
 obtain ⟨n1, hn1⟩ : ∃ n, n = codeN c.S.blocks := ⟨_, rfl⟩
 obtain ⟨n2, hn2⟩ : ∃ n, n = mcodeN c.T.blocks := ⟨_, rfl⟩
 obtain ⟨K, hK⟩ : ∃ K, K = 3 * boundN c * (g + 1) := ⟨_, rfl⟩
 rw [← hK]
 unfold boundN at hK
 rw [← hn1] at c1 h0 hK
 rw [← hn2] at c2 h1 hK
 obtain ⟨sR, hsR⟩ : ∃ x, x = c.S.blocks.map Block.row := ⟨_, rfl⟩
 obtain ⟨tR, htR⟩ : ∃ x, x = c.T.blocks.map MBlock.row := ⟨_, rfl⟩
 have hsl : sR.length = c.S.blocks.length := by rw [hsR]; simp
 simp only [Func.av, MFunc.av, ← hsR, ← htR] at c1 c2
 obtain ⟨n, hn⟩ : ∃ n, n = c.S.blocks.length := ⟨_, rfl⟩
 rw [← hn] at hsl h2 hK
 obtain ⟨m1, hm1⟩ : ∃ m, m = n1 + n2 := ⟨_, rfl⟩
 obtain ⟨m2, hm2⟩ : ∃ m, m = m1 + n := ⟨_, rfl⟩
 obtain ⟨m3, hm3⟩ : ∃ m, m = m2 + 1 := ⟨_, rfl⟩
 have w1 : IntKind.i64.wrap ((n1 : Int) + (n2 : Int)) = (m1 : Int) := by rw [hm1]; exact Jtp6 (by omega)
 have w2 : IntKind.i64.wrap ((m1 : Int) + (n : Int)) = (m2 : Int) := by rw [hm2]; exact Jtp6 (by omega)
 have w3 : IntKind.i64.wrap ((m2 : Int) + 1) = (m3 : Int) := by rw [hm3]; exact Jtp7 (by omega)
 refine A.checker_Bound.run rfl fun R hR => ?_
 simp only [Cert.av, ← hsR, ← htR]
 (simp (maxSteps := 1000000) [Jtar])
 (refine Jts c1 (by rfl) (by rfl) ?_)
 (simp (maxSteps := 1000000) [])
 (refine Jts c2 (by rfl) (by rfl) ?_)
 (simp (maxSteps := 1000000) [hsl, w1, w2, w3])
 obtain ⟨F, hF⟩ : ∃ F : Nat → Nat, ∀ k, F k = m3 + succN (c.S.blocks.take k) := ⟨_, fun _ => rfl⟩
 have hF0 : F 0 = m3 := by rw [hF]; simp [succN]
 refine Jt9 (fun k : Nat => ⟨[(25, AI k), (24, AI n), (23, .d (.sl sR)), (5, AI (F k)), (1, AI g)], []⟩) (fun k => k ≤ n) (fun k => n - k) 0 (by omega) (by rw [hF0]; (exact wkA)) ?_
 intro k hk N hN
 (simp (maxSteps := 1000000) [])
 ((first | refine Xc (fun h4 => ?_) (fun h4 => ?_) | refine Xo (fun h4 => ?_) (fun h4 => ?_)) <;> (try simp only [Xz, Xy] at h4))
 ·have hkl : k < n := by omega
  obtain ⟨b, hb⟩ : ∃ b, c.S.blocks[k]? = some b := ⟨_, List.getElem?_eq_getElem (by omega)⟩
  have hbR : sR[k]? = some b.row := by rw [hsR, List.getElem?_map, hb]; rfl
  have hw := Jtp7 (k := k) (by omega)
  have hs := Jtnm hb
  have hst := Jtnn c.S.blocks (k + 1)
  have hsu := Jtno b.term
  obtain ⟨ts, hts⟩ : ∃ t, t = succsZ b.term := ⟨_, rfl⟩
  have cs := Jtma A b.term
  rw [← hts] at cs hs hsu
  have hw2 : IntKind.i64.wrap ((F k : Int) + (ts.length : Int)) = (F (k + 1) : Int) := by
   have h7 := hF k
   have h8 := hF (k + 1)
   have : F (k + 1) = F k + ts.length := by omega
   rw [this]; exact Jtp6 (by omega)
  (simp (maxSteps := 1000000) [h4, hbR, Block.row])
  (refine Jts cs (by rfl) (by rfl) ?_)
  (simp (maxSteps := 1000000) [hw, hw2])
  exact hN _ (k + 1) hkl (by (exact wkA)) (by omega)
 ·have hk' : k = n := by omega
  subst hk'
  have htk : succN (c.S.blocks.take k) = succN c.S.blocks := by rw [hn, List.take_length]
  have hsu := Jtnl c.S.blocks
  obtain ⟨q, hq⟩ : ∃ q, q = F k := ⟨_, rfl⟩
  have hFk := hF k
  rw [htk] at hFk
  obtain ⟨q3, hq3⟩ : ∃ q3, q3 = 3 * q := ⟨_, rfl⟩
  have hK' : K = q3 * (g + 1) := by rw [hK, hq3]; congr 1; omega
  have hqb : q3 * (g + 1) ≤ 20000000 * 1000001 := Nat.mul_le_mul (by omega) (by omega)
  have u1 : IntKind.i64.wrap (3 * (q : Int)) = (q3 : Int) := by rw [hq3, wrap_i64 (by omega) (by omega)]; omega
  have u2 : IntKind.i64.wrap ((g : Int) + 1) = ((g + 1 : Nat) : Int) := Jtp7 (by omega)
  obtain ⟨g1, hg1⟩ : ∃ g1, g1 = g + 1 := ⟨_, rfl⟩
  rw [← hg1] at hK' hqb u2
  have u3 : IntKind.i64.wrap ((q3 : Int) * (g1 : Int)) = (K : Int) := by
   rw [hK', ← Int.natCast_mul]; exact wrap_i64 (by omega) (by omega)
  rw [← hq]
  (simp (maxSteps := 1000000) [u1, u2, u3])
  (first | exact hR _ _ FrA | exact hR _ _ FnA)
end
section
theorem Jtdv {P : Program} {p : Nums} (A : All P p) (S : SortOk P p) (C : ClosOk P p) : Jt3o P p.law16_awake [] [] fun o _ => o = .ret (AB true) := by
 have okm : ∀ b ∈ [(⟨[], endT⟩ : MBlock)], okM b := by intro b hb; simp at hb; subst hb; intro x hx; simp at hx
 have o1 : okCert exC := Jtgy (by decide) okm (by intro l hl; simp [exC] at hl; subst hl; intro q hq; simp at hq)
 have o2 : okCert exD := Jtgy (by decide) okm (by intro l hl; simp [exD] at hl; subst hl; intro q hq; simp at hq; subst hq; constructor <;> decide)
 have o3 : okCert exE := Jtgy (by decide) (by intro b hb; simp [exE] at hb) (by intro l hl; simp [exE] at hl)
 have h1 := Jt6p A S C exC o1 (by decide)
 have h2 := Jt6p A S C exD o2 (by decide)
 have h3 := Jt6p A S C exE o3 (by decide)
 have v1 := Jt6s A exC o1
 have v3 := Jt6s A exE o3
 have b1 := Jt6o A exD 1 (by decide) (by decide) (by decide) (by decide) (by decide)
 have e1 : Jtkc exC = ⟨21, 0, 0, 1, 0, 2, 0⟩ := by decide +kernel
 have e2 : Jtkc exD = ⟨0, 0, 0, 1, 0, 4, 1⟩ := by decide +kernel
 have e3 : Jtkc exE = ⟨14, 0, 0, 0, 0, 0, 0⟩ := by decide +kernel
 have e4 : validZ exC = 0 := by decide +kernel
 have e5 : validZ exE = 14 := by decide +kernel
 have e6 : 3 * boundN exD * (1 + 1) = 12 := by decide +kernel
 rw [e1] at h1
 rw [e2] at h2
 rw [e3] at h3
 rw [e4] at v1
 rw [e5] at v3
 rw [e6] at b1
 simp only [Rep.av] at h1 h2 h3
 refine A.law16_awake.run rfl fun R hR => ?_
 (simp (maxSteps := 1000000) [Jtb2])
 (refine Jts h1 (by rfl) (by rfl) ?_)
 (simp (maxSteps := 1000000) [])
 (refine Jts h2 (by rfl) (by rfl) ?_)
 (simp (maxSteps := 1000000) [])
 (refine Jts v1 (by rfl) (by rfl) ?_)
 (simp (maxSteps := 1000000) [])
 (refine Jtt v3 (by rfl) (by (exact wkvA)) (by rfl) ?_)
 (simp (maxSteps := 1000000) [])
 (refine Jts b1 (by rfl) (by rfl) ?_)
 (simp (maxSteps := 1000000) [])
 (refine Jtt h3 (by rfl) (by (exact wkvA)) (by rfl) ?_)
 (simp (maxSteps := 1000000) [])
 (first | exact hR _ _ FrA | exact hR _ _ FnA)
end
end Go.AE
set_option maxRecDepth 4000
namespace Go.AE
open Go
section
end
def ltCert : List LT := [ltI, ltI, .sl Jtel, ltI, ltI, ltI, .sl Jten, .sl [.sl ltPair]]
theorem Jtf8 {rows : List (List D)} (h : ∀ r ∈ rows, HasL Jten r) : ∃ l : List MBlock, rows = l.map MBlock.row ∧ ∀ x ∈ l, okM x := by
 induction rows with
 | nil => exact ⟨[], rfl, by simp⟩
 | cons r rows ih =>
  obtain ⟨a, rfl, ha⟩ := Jtf7 (h r (by simp))
  obtain ⟨l, rfl, hb⟩ := ih fun r hr => h r (by simp [hr])
  refine ⟨a :: l, rfl, fun n hn => ?_⟩
  rcases List.mem_cons.1 hn with rfl | hn
  ·exact ha
  ·exact hb n hn
theorem Jthf {r : List D} (h : HasL ltPair r) : ∃ q : Pair, r = q.row ∧ okZ q.l := by
 obtain ⟨_, _, rfl, h0, h⟩ := h.cons_inv
 obtain ⟨_, _, rfl, h1, h⟩ := h.cons_inv
 obtain rfl := h.nil_inv
 obtain ⟨a, rfl, _⟩ := h0.int_inv
 obtain ⟨b, rfl, o1⟩ := Jtdk h1
 exact ⟨⟨a, b⟩, rfl, o1⟩
theorem Jthg {rows : List (List D)} (h : ∀ r ∈ rows, HasL ltPair r) : ∃ l : List Pair, rows = l.map Pair.row ∧ ∀ x ∈ l, okZ x.l := by
 induction rows with
 | nil => exact ⟨[], rfl, by simp⟩
 | cons r rows ih =>
  obtain ⟨a, rfl, ha⟩ := Jthf (h r (by simp))
  obtain ⟨l, rfl, hb⟩ := ih fun r hr => h r (by simp [hr])
  refine ⟨a :: l, rfl, fun n hn => ?_⟩
  rcases List.mem_cons.1 hn with rfl | hn
  ·exact ha
  ·exact hb n hn
theorem Jtoy {rows : List (List D)} (h : ∀ r ∈ rows, HasL [.sl ltPair] r) : ∃ w : List (List Pair), rows = w.map (fun l => [pairsD l]) ∧ okW w := by
 induction rows with
 | nil => exact ⟨[], rfl, by intro l hl; simp at hl⟩
 | cons r rows ih =>
  obtain ⟨_, _, rfl, h0, h1⟩ := (h r (by simp)).cons_inv
  obtain rfl := h1.nil_inv
  obtain ⟨rs, rfl, _, hr⟩ := h0.sl_inv
  obtain ⟨l, rfl, hok⟩ := Jthg hr
  obtain ⟨w, rfl, hb⟩ := ih fun r hr => h r (by simp [hr])
  refine ⟨l :: w, rfl, fun n hn => ?_⟩
  rcases List.mem_cons.1 hn with rfl | hn
  ·exact hok
  ·exact hb n hn
theorem Jt6i {ds : List D} (h : HasL ltCert ds) : ∃ c : Cert, .agg (ds.map AV.d) = c.av ∧ ((∀ b ∈ c.T.blocks, okM b) ∧ okW c.W) := by
 obtain ⟨_, _, rfl, h0, h⟩ := h.cons_inv
 obtain ⟨_, _, rfl, h1, h⟩ := h.cons_inv
 obtain ⟨_, _, rfl, h2, h⟩ := h.cons_inv
 obtain ⟨_, _, rfl, h3, h⟩ := h.cons_inv
 obtain ⟨_, _, rfl, h4, h⟩ := h.cons_inv
 obtain ⟨_, _, rfl, h5, h⟩ := h.cons_inv
 obtain ⟨_, _, rfl, h6, h⟩ := h.cons_inv
 obtain ⟨_, _, rfl, h7, h⟩ := h.cons_inv
 obtain rfl := h.nil_inv
 obtain ⟨sa, rfl, _⟩ := h0.int_inv
 obtain ⟨sr, rfl, _⟩ := h1.int_inv
 obtain ⟨rows, rfl, _, hr⟩ := h2.sl_inv
 obtain ⟨sb, rfl⟩ := Jtl3 (fun r hr => Jt5j hr) hr
 obtain ⟨ta, rfl, _⟩ := h3.int_inv
 obtain ⟨tr, rfl, _⟩ := h4.int_inv
 obtain ⟨ts, rfl, _⟩ := h5.int_inv
 obtain ⟨rows, rfl, _, hr⟩ := h6.sl_inv
 obtain ⟨tb, rfl, hm⟩ := Jtf8 hr
 obtain ⟨rows, rfl, _, hr⟩ := h7.sl_inv
 obtain ⟨w, rfl, hw⟩ := Jtoy hr
 exact ⟨⟨⟨sa, sr, sb⟩, ⟨ta, tr, ts, tb⟩, w⟩, rfl, hm, hw⟩
end Go.AE
set_option maxRecDepth 4000
namespace Go.AE
open Go
structure EdgeT (r : Rep) (n A : Nat) (R : Rep × Bool) : Prop where
 blocks : R.1.blocks = r.blocks
 lg : R.1.largest = r.largest
 edges : R.1.edges ≤ r.edges + n
 steps : R.1.steps ≤ (A + 2 * R.1.edges) * (R.1.largest + 1)
 bad : R.2 = true → R.1.err ≠ 0
 good : R.2 = false → R.1.edges = r.edges + n ∧ R.1.err = 0
def costN (c : Cert) (i : Nat) : Nat := 1 + 3 * mcodeN (c.T.blocks.take i) + codeN (c.S.blocks.take i) + i
structure OnceI (c : Cert) (i : Nat) (r : Rep) : Prop where
 blocks : r.blocks = i
 edges : r.edges = succN (c.S.blocks.take i)
 steps : r.steps ≤ (costN c i + 2 * r.edges) * (r.largest + 1)
 lg : mostW c.W ≤ r.largest
 lg2 : r.largest < 100000
 err : r.err = 0
structure OnceT (c : Cert) (T : Rep) : Prop where
 blocks : T.blocks ≤ c.S.blocks.length
 edges : T.edges ≤ succN c.S.blocks
 steps : T.steps ≤ 3 * boundN c * (T.largest + 1)
 lg : T.largest < 100000
 done : T.err = 0 → T.blocks = c.S.blocks.length ∧ T.edges = succN c.S.blocks
end Go.AE
set_option maxRecDepth 4000
namespace Go.AE
open Go
def N23 (r : CR) : Prop := ∀ e, r.2 = some e → e.1 ≠ 23
theorem N23.same {s : CS} : N23 (s, none) := fun e he => by cases he
theorem N23.then {r : CR} {f : CS → CR} (h : N23 r) (hf : ∀ s, N23 (f s)) : N23 (thenC r f) := by
 obtain ⟨s, e⟩ := r
 cases e with
 | some e => exact h
 | none => exact hf s
theorem N23.become {most : Int} {s : CS} {l : List Pair} {at_ : Int} : N23 (Jt5e most s l at_) := by
 intro e he
 unfold Jt5e at he
 simp only at he
 split at he
 ·injection he with he; subst he; simp
 ·cases he
theorem N23.use {s : CS} {v t at_ : Int} : N23 (useC s v t at_) := by
 intro e he
 unfold useC at he
 simp only at he
 split at he
 ·cases he
 ·injection he with he; subst he; simp
theorem Jt7a {most at_ : Int} : ∀ {l : List Instr} {s : CS}, N23 (copyC most at_ l s) := by
 intro l
 induction l with
 | nil => intro s; exact .same
 | cons i l ih => intro s; exact N23.then .become fun s => ih
theorem Jtg7 {most : Int} : ∀ {l : List Mach} {k : Nat} {s : CS}, N23 (moveC most k l s) := by
 intro l
 induction l with
 | nil => intro k s; exact .same
 | cons i l ih => intro k s; exact N23.then .become fun s => ih
theorem Jtde {most : Int} {i : Instr} {x : Mach} {at_ : Int} {s : CS} : N23 (instrC most s i x at_) := by
 unfold instrC
 refine N23.then ?_ fun s => N23.then ?_ fun s => ?_
 ·split
  ·exact .use
  ·exact .same
 ·split
  ·exact .use
  ·exact .same
 ·split
  ·exact .become
  ·exact .same
theorem Jtkn {most : Int} {b : List Instr} {m : List Mach} {r : ARow} {s : CS} : N23 (rowC most b m r s) := by
 unfold rowC
 refine N23.then Jt7a fun s => N23.then Jtg7 fun s => ?_
 unfold lastC
 split
 ·split
  ·exact Jtde
  ·exact .same
 ·exact .same
theorem Jtkz {most : Int} {b : List Instr} {m : List Mach} : ∀ {rs : List ARow} {s : CS}, N23 (rowsC most b m rs s) := by
 intro rs
 induction rs with
 | nil => intro s; exact .same
 | cons r rs ih => intro s; exact N23.then Jtkn fun s => ih
theorem Jtl4 {most : Int} {b : Block} {m : MBlock} {rs : List ARow} {s : CS} : N23 (runC most b m rs s) := by
 unfold runC
 refine N23.then Jtkz fun s => ?_
 split
 ·exact .same
 ·exact .use
theorem Jt4o {code : List Instr} {mach : List Mach} : ∀ {f i k : Nat} {rows : List ARow}, (alignS code mach f i k rows).2.2 = 0 ∨ (alignS code mach f i k rows).2.2 = 20 := by
 intro f
 induction f with
 | zero => intro i k rows; exact .inr rfl
 | succ f ih =>
  intro i k rows
  unfold alignS
  split
  ·exact .inl rfl
  ·split
   ·split
    ·exact ih
    ·exact .inr rfl
   ·exact .inr rfl
theorem Jt6j (b : Block) (m : MBlock) (l : List Pair) (most : Int) : (checkZ b m l most).err ≠ 23 := by
 unfold checkZ
 split
 ·show (24 : Int) ≠ 23; decide
 ·have ha : (alignZ b.code m.code).2.2 = 0 ∨ (alignZ b.code m.code).2.2 = 20 := Jt4o
  by_cases h2 : (if (alignZ b.code m.code).2.2 = 0 ∧ termsZ b.term m.term = false then 20 else (alignZ b.code m.code).2.2) ≠ 0
  ·simp only [if_pos h2]
   split
   ·decide
   ·rcases ha with h | h <;> rw [h] <;> decide
  ·simp only [if_neg h2]
   have hr := Jtl4 (most := most) (b := b) (m := m) (rs := (alignZ b.code m.code).1) (s := ⟨makeP l, 0, l.length⟩)
   generalize runC most b m (alignZ b.code m.code).1 ⟨makeP l, 0, l.length⟩ = r at hr
   obtain ⟨t, e⟩ := r
   cases e with
   | none => show (0 : Int) ≠ 23; decide
   | some e => exact hr e rfl
def hasE (w : List (List Pair)) (out : List Pair) (to : Int) : Bool := !(missP ((w[to.toNat]?).getD []) out).isSome
def blkOk (c : Cert) (i : Nat) : Bool := match c.S.blocks[i]?, c.T.blocks[i]?, c.W[i]? with
 | some b, some m, some l => decide ((checkZ b m l 1048576).err = 0) && (succsZ b.term).all (hasE c.W (checkZ b m l 1048576).out)
 | _, _, _ => false
def okTo (c : Cert) (i : Nat) : Bool := (List.range i).all (blkOk c)
theorem Jth0 (c : Cert) (i : Nat) : okTo c (i + 1) = (okTo c i && blkOk c i) := by simp [okTo, List.range_succ]
theorem Jtgz {c : Cert} {i n : Nat} (h : blkOk c i = false) (hi : i < n) : okTo c n = false := by
 rw [← Bool.not_eq_true]; unfold okTo; rw [List.all_eq_true]
 intro h'
 have := h' i (List.mem_range.2 hi)
 rw [h] at this; cases this
theorem Jt5h {c : Cert} {i : Nat} {b : Block} {m : MBlock} {l : List Pair} (hb : c.S.blocks[i]? = some b) (hm : c.T.blocks[i]? = some m) (hl : c.W[i]? = some l) : blkOk c i = (decide ((checkZ b m l 1048576).err = 0) && (succsZ b.term).all (hasE c.W (checkZ b m l 1048576).out)) := by
 unfold blkOk; rw [hb, hm, hl]
theorem Jt84 {w : List (List Pair)} {out : List Pair} {i : Nat} : ∀ {ts : List Int} {k : Nat} {r : Rep}, (∀ x ∈ ts, 0 ≤ x) → r.err = 0 →
  (edgesC w out i ts k r).2 = !ts.all (hasE w out) ∧ ((edgesC w out i ts k r).2 = true → (edgesC w out i ts k r).1.err = 22) ∧ ((edgesC w out i ts k r).2 = false → (edgesC w out i ts k r).1.err = 0) := by
 intro ts
 induction ts with
 | nil => intro k r _ h; exact ⟨rfl, fun h => (by cases h), fun _ => h⟩
 | cons t ts ih =>
  intro k r h1 h2
  have ht := h1 t (by simp)
  obtain ⟨tn, rfl⟩ : ∃ n : Nat, t = (n : Int) := ⟨t.toNat, by omega⟩
  rw [Jt80]
  have e : hasE w out (tn : Int) = !(missP ((w[tn]?).getD []) out).isSome := rfl
  rw [List.all_cons, e]
  cases hx : (missP ((w[tn]?).getD []) out).isSome with
  | true => exact ⟨rfl, fun _ => rfl, fun h => (by cases h)⟩
  | false => simpa using ih (k := k + 1) (r := edgeR w out tn r) (fun x hx => h1 x (by simp [hx])) h2
theorem Jt5t {c : Cert} (h : Fit c) : ∀ (n i : Nat) (r : Rep), i + n = c.S.blocks.length → r.err = 0 → okTo c i = true → (Jt5r c n i r).err ≠ 23 ∧ ((Jt5r c n i r).err = 0 ↔ okTo c c.S.blocks.length = true) := by
 intro n
 induction n with
 | zero =>
  intro i r hi hr ho
  have hi' : i = c.S.blocks.length := by omega
  subst hi'
  exact ⟨by show r.err ≠ 23; rw [hr]; decide, fun _ => ho, fun _ => hr⟩
 | succ n ih =>
  intro i r hi hr ho
  have hlT := h.lenT
  have hlW := h.lenW
  obtain ⟨b, hb⟩ : ∃ b, c.S.blocks[i]? = some b := ⟨_, List.getElem?_eq_getElem (by omega)⟩
  obtain ⟨m, hm⟩ : ∃ b, c.T.blocks[i]? = some b := ⟨_, List.getElem?_eq_getElem (by omega)⟩
  obtain ⟨l, hl⟩ : ∃ b, c.W[i]? = some b := ⟨_, List.getElem?_eq_getElem (by omega)⟩
  have hbc := Jt5i hb hm hl r
  have hbo := Jt5h hb hm hl
  have h23 := Jt6j b m l 1048576
  have hto := h.to b (List.mem_of_getElem? hb)
  obtain ⟨x, hx⟩ : ∃ x, x = checkZ b m l 1048576 := ⟨_, rfl⟩
  rw [← hx] at hbc hbo h23
  have hT : Jt5r c (n + 1) i r = match blockC c i r with | (r, true) => r | (r, false) => Jt5r c n (i + 1) r := rfl
  rw [hT, hbc]
  by_cases hxe : x.err ≠ 0
  ·rw [if_pos hxe]
   have hof : okTo c c.S.blocks.length = false := Jtgz (i := i) (by rw [hbo]; simp [hxe]) (by omega)
   exact ⟨h23, fun h0 => absurd h0 hxe, fun h0 => by rw [hof] at h0; cases h0⟩
  ·rw [if_neg hxe]
   have hx0 : x.err = 0 := by simpa using hxe
   have et := Jt84 (w := c.W) (out := x.out) (i := i) (ts := succsZ b.term) (k := 0) (r := blockR x r) (fun y hy => (hto y hy).1) hr
   obtain ⟨R, hR⟩ : ∃ R, R = edgesC c.W x.out i (succsZ b.term) 0 (blockR x r) := ⟨_, rfl⟩
   rw [← hR] at et ⊢
   obtain ⟨t, bad⟩ := R
   obtain ⟨t1, t2, t3⟩ := et
   simp only at t1 t2 t3
   cases bad with
   | true =>
    have ha : (succsZ b.term).all (hasE c.W x.out) = false := by rw [← Bool.not_eq_true']; exact t1.symm
    have hof : okTo c c.S.blocks.length = false := Jtgz (i := i) (by rw [hbo, ha, Bool.and_false]) (by omega)
    have e22 := t2 rfl
    exact ⟨by show t.err ≠ 23; rw [e22]; decide, fun h0 => (by have : t.err = 0 := h0; rw [e22] at this; cases this), fun h0 => by rw [hof] at h0; cases h0⟩
   | false =>
    have ha : (succsZ b.term).all (hasE c.W x.out) = true := by rw [← Bool.not_eq_false']; exact t1.symm
    exact ih (i + 1) t (by omega) (t3 rfl) (by rw [Jth0, ho, hbo, ha, hx0]; rfl)
theorem Jteb {c : Cert} (h : Fit c) (hv : validZ c = 0) : ((Jtkc c).err = 23 → (Jtkc c).blocks = 0) ∧ ((Jtkc c).err ≠ 23 → ((Jtkc c).err = 0 ↔ okTo c c.S.blocks.length = true)) := by
 unfold Jtkc
 rw [if_neg (by simp [hv])]
 by_cases h1 : ((w0 c).all fun q => initZ q c.S.args) = false
 ·rw [if_pos h1]; exact ⟨fun _ => rfl, fun h => absurd rfl h⟩
 ·rw [if_neg h1]
  obtain ⟨a1, a2⟩ := Jt5t h c.S.blocks.length 0 (rep0 c) (by omega) rfl rfl
  exact ⟨fun h => absurd h a1, fun _ => a2⟩
end Go.AE
set_option maxRecDepth 4000
namespace Go.AE
open Go
section
theorem Jtiu {P : Program} {p : Nums} (A : All P p) (f : Func) (h0 : f.blocks.length ≤ 1000000) (h1 : codeN f.blocks ≤ 1000000) : Jt3o P p.ref07_Copy [f.av] [] fun o _ => o = .ret f.av := by
 refine A.ref07_Copy.run rfl fun R hR => ?_
 (simp (maxSteps := 1000000) [Jtc2, Func.av])
 obtain ⟨sR, hsR⟩ : ∃ x, x = f.blocks.map Block.row := ⟨_, rfl⟩
 rw [← hsR]
 refine Jt9 (fun k : Nat => ⟨[(4, AI k), (1, .ptr 0 0), (2, .ptr 1 0), (3, .ptr 2 0)], [.mem [AI f.args, AI f.regs, .d (.sl sR)], .mem [AI 0, AI 0, .nils], .mem [AI f.args, AI f.regs, .own 5 (sR.take k)]]⟩)
  (fun k => k ≤ f.blocks.length) (fun k => f.blocks.length - k) 0 (by simp) (by (exact wkA)) ?_
 have hsl : sR.length = f.blocks.length := by rw [hsR]; simp
 intro k hk N hN
 (simp (maxSteps := 1000000) [])
 ((first | refine Xc (fun h2 => ?_) (fun h2 => ?_) | refine Xo (fun h2 => ?_) (fun h2 => ?_)) <;> (try simp only [Xz, Xy] at h2))
 ·have hkl : k < f.blocks.length := by omega
  have hb : f.blocks[k]? = some f.blocks[k] := by simp [hkl]
  have hsk : sR[k]? = some f.blocks[k].row := by rw [hsR, List.getElem?_map, hb]; rfl
  have hw := Jtp7 (k := k) (by omega)
  have hcl : f.blocks[k].code.length ≤ 1000000 := by
   have h3 := Jt72 hb
   have h4 := Jt71 f.blocks (k + 1)
   omega
  have hl1 := List.length_take_le k sR
  have ess : sR.take k ++ [f.blocks[k].row] = sR.take (k + 1) := (Jtnt hsk).symm
  simp only [Block.row] at hsk ess
  have hsk' : sR[k]'h2 = [.sl (f.blocks[k].code.map Instr.row), I f.blocks[k].term.kind, I f.blocks[k].term.a, I f.blocks[k].term.to, I f.blocks[k].term.els] := (List.getElem?_eq_some_iff.1 hsk).2
  (simp (maxSteps := 1000000) [h2, hsk'])
  refine Jt15 (by rfl) (by rfl) (Jtl2 fun _ => rfl) (by decide) (by simp; omega) (by simp; omega) (fun hn => ?_) fun hn => ?_
  ·have hl : f.blocks[k].code = [] := by simpa using hn
   (simp (maxSteps := 1000000) [h2, hsk'])
   (refine Jt16 (by rfl) (by rfl) (by rfl) ?_ (by decide) ?_ ?_ ?_)
   ·simp
   ·simp; omega
   ·simp; omega
   rw [hl, List.map_nil] at ess
   (simp (maxSteps := 1000000) [ess, hw])
   exact hN _ (k + 1) hkl (by (exact wkA)) (by omega)
  ·(simp (maxSteps := 1000000) [h2, hsk'])
   (refine Jt16 (by rfl) (by rfl) (by rfl) ?_ (by decide) ?_ ?_ ?_)
   ·simp
   ·simp; omega
   ·simp; omega
   (simp (maxSteps := 1000000) [ess, hw])
   exact hN _ (k + 1) hkl (by (exact wkA)) (by omega)
 ·have hk' : k = f.blocks.length := by omega
  subst hk'
  rw [List.take_of_length_le (by omega)]
  (simp (maxSteps := 1000000) [])
  (first | exact hR _ _ FrA | exact hR _ _ FnA | exact hR _ _ (Xf (hq := by simp [AV.erase, AV.unview, hsR, Func.av]; done)))
theorem Jtiy {P : Program} {p : Nums} (A : All P p) (f : MFunc) (h0 : f.blocks.length ≤ 1000000) (h1 : mcodeN f.blocks ≤ 1000000) : Jt3o P p.ref08_Copy [f.av] [] fun o _ => o = .ret f.av := by
 refine A.ref08_Copy.run rfl fun R hR => ?_
 (simp (maxSteps := 1000000) [Jtc6, MFunc.av])
 obtain ⟨sR, hsR⟩ : ∃ x, x = f.blocks.map MBlock.row := ⟨_, rfl⟩
 rw [← hsR]
 refine Jt9 (fun k : Nat => ⟨[(4, AI k), (1, .ptr 0 0), (2, .ptr 1 0), (3, .ptr 2 0)], [.mem [AI f.args, AI f.regs, AI f.slots, .d (.sl sR)], .mem [AI 0, AI 0, AI 0, .nils], .mem [AI f.args, AI f.regs, AI f.slots, .own 5 (sR.take k)]]⟩)
  (fun k => k ≤ f.blocks.length) (fun k => f.blocks.length - k) 0 (by simp) (by (exact wkA)) ?_
 have hsl : sR.length = f.blocks.length := by rw [hsR]; simp
 intro k hk N hN
 (simp (maxSteps := 1000000) [])
 ((first | refine Xc (fun h2 => ?_) (fun h2 => ?_) | refine Xo (fun h2 => ?_) (fun h2 => ?_)) <;> (try simp only [Xz, Xy] at h2))
 ·have hkl : k < f.blocks.length := by omega
  have hb : f.blocks[k]? = some f.blocks[k] := by simp [hkl]
  have hsk : sR[k]? = some f.blocks[k].row := by rw [hsR, List.getElem?_map, hb]; rfl
  have hw := Jtp7 (k := k) (by omega)
  have hcl : f.blocks[k].code.length ≤ 1000000 := by
   have h3 := Jtfd hb
   have h4 := Jtfc f.blocks (k + 1)
   omega
  have hl1 := List.length_take_le k sR
  have ess : sR.take k ++ [f.blocks[k].row] = sR.take (k + 1) := (Jtnt hsk).symm
  simp only [MBlock.row] at hsk ess
  have hsk' : sR[k]'h2 = [.sl (f.blocks[k].code.map Mach.row), I f.blocks[k].term.kind, I f.blocks[k].term.a, I f.blocks[k].term.to, I f.blocks[k].term.els] := (List.getElem?_eq_some_iff.1 hsk).2
  (simp (maxSteps := 1000000) [h2, hsk'])
  refine Jt15 (by rfl) (by rfl) (Jtl2 fun _ => rfl) (by decide) (by simp; omega) (by simp; omega) (fun hn => ?_) fun hn => ?_
  ·have hl : f.blocks[k].code = [] := by simpa using hn
   (simp (maxSteps := 1000000) [h2, hsk'])
   (refine Jt16 (by rfl) (by rfl) (by rfl) ?_ (by decide) ?_ ?_ ?_)
   ·simp
   ·simp; omega
   ·simp; omega
   rw [hl, List.map_nil] at ess
   (simp (maxSteps := 1000000) [ess, hw])
   exact hN _ (k + 1) hkl (by (exact wkA)) (by omega)
  ·(simp (maxSteps := 1000000) [h2, hsk'])
   (refine Jt16 (by rfl) (by rfl) (by rfl) ?_ (by decide) ?_ ?_ ?_)
   ·simp
   ·simp; omega
   ·simp; omega
   (simp (maxSteps := 1000000) [ess, hw])
   exact hN _ (k + 1) hkl (by (exact wkA)) (by omega)
 ·have hk' : k = f.blocks.length := by omega
  subst hk'
  rw [List.take_of_length_le (by omega)]
  (simp (maxSteps := 1000000) [])
  (first | exact hR _ _ FrA | exact hR _ _ FnA | exact hR _ _ (Xf (hq := by simp [AV.erase, AV.unview, hsR, MFunc.av]; done)))
end
section
end
def isD : AV → Bool
 | .d _ => true
 | _ => false
theorem isD_eq {x : AV} (h : isD x = true) : ∃ y, x = .d y := by cases x <;> simp_all [isD]
def Jtgi : AV → Bool
 | .own .. => false
 | .view .. => false
 | _ => true
theorem Jt3o.pack {P : Program} {f : Nat} {args : List AV} {y : AV} {cells : List AV} (h : Jt3o P f args [] fun o H' => ∃ i x, o = .ret x ∧ x.erase = x ∧ x.ren (fun b => if b = i then some 0 else none) = some y ∧ H'[i]? = some (.mem cells))
  (hy : Jtgi y = true) (hye : y.erase = y) (hc : cells.all isD = true) : Jt3o P f args [] fun o H' => o = .ret y ∧ H' = [.mem cells] := by
 intro g vs w hvs hs
 refine (h g vs w hvs hs).mono ?_
 rintro e' w' ⟨o, H', g', v, ⟨i, x, rfl, hxe, hren, hi⟩, he, hsim, htr, hφ, hlen, hmine⟩
 have hcd : ∀ (j : Nat) (z : AV), cells[j]? = some z → ∃ d, z = .d d := fun j z hz => isD_eq (List.all_eq_true.1 hc z (List.mem_of_getElem? hz))
 have hno : ∀ (p : Place) (e1 : Nat) (rows1 : List (List D)), AP ⟨[(0, y)], [.mem cells]⟩ p ≠ some (.own e1 rows1) := by
  intro p e1 rows1 hp
  cases p with
  | tmp t =>
   simp only [AP, get] at hp
   split at hp
   ·injection hp with hp; subst hp; simp [Jtgi] at hy
   ·cases hp
  | cell b j =>
   simp only [AP] at hp
   split at hp
   ·rename_i cells' hb
    have : b = 0 := by have := (List.getElem?_eq_some_iff.1 hb).1; simpa using this
    subst this
    simp only [List.getElem?_cons_zero, Option.some.injEq, Blk.mem.injEq] at hb
    subst hb
    obtain ⟨d, hd⟩ := hcd j _ hp
    cases hd
   ·cases hp
 have hrel := hsim.env 0 x (by simp [get, AOut.val])
 have hv0 : (⟨#[v], []⟩ : Act).tmps.getD 0 undef = v := by simp
 rw [hv0, hxe] at hrel
 have hrel' : Rel g'.F (fun b => if b = 0 then g'.φ i else none) w' y v := Rel.ren (fun b b' r hb hr => by
  split at hb
  ·rename_i hbi; injection hb with hb; subst hb hbi; simpa using hr
  ·cases hb) hrel y hren
 refine ⟨.ret y, [.mem cells], ⟨fun b => if b = 0 then g'.φ i else none, g'.F⟩, v, ⟨rfl, rfl⟩, he, ?_, ⟨htr.os, htr.tape, htr.output, htr.size, htr.other, htr.stab⟩, fun b r hb => absurd hb (by simp), by simp, ?_⟩
 ·refine { size := by simp, env := ?_, inj := ?_, lt := ?_, dom := ?_, mem := ?_, iter := ?_, glob := ?_, own := ?_, excl := ?_, apart := ?_, view := ?_ }
  ·intro t z hz
   simp only [AOut.val, get] at hz
   split at hz
   ·rename_i ht; subst ht
    injection hz with hz; subst hz
    rw [hv0, hye]; exact hrel'
   ·cases hz
  ·intro b b' q hb hb'
   simp only at hb hb'
   split at hb <;> split at hb' <;> simp_all
  ·intro b q hb
   simp only at hb ⊢
   split at hb
   ·rename_i h0; subst h0
    obtain ⟨q1, q2, _⟩ := hsim.lt i q hb
    exact ⟨q1, q2, by simp⟩
   ·cases hb
  ·intro b k hk _
   have : b = 0 := by have := (List.getElem?_eq_some_iff.1 hk).1; simpa using this
   subst this
   obtain ⟨r, hr⟩ := hsim.dom i _ hi (by simp)
   exact ⟨r, by simpa using hr⟩
  ·intro b cells' q hb hq
   have : b = 0 := by have := (List.getElem?_eq_some_iff.1 hb).1; simpa using this
   subst this
   simp only [List.getElem?_cons_zero, Option.some.injEq, Blk.mem.injEq] at hb
   subst hb
   simp only [if_true] at hq
   obtain ⟨c, te, q1, q2, q3⟩ := hsim.mem i cells q hi hq
   refine ⟨c, te, q1, q2, fun j z hz => ?_⟩
   obtain ⟨z1, u, z2, z3⟩ := q3 j z hz
   obtain ⟨d, rfl⟩ := hcd j z hz
   refine ⟨z1, u, z2, ?_⟩
   cases z3 with
   | d _ _ h => exact .d _ _ h
  ·intro b s pos q hb
   have : b = 0 := by have := (List.getElem?_eq_some_iff.1 hb).1; simpa using this
   subst this
   simp at hb
  ·intro b s pos q hb
   have : b = 0 := by have := (List.getElem?_eq_some_iff.1 hb).1; simpa using this
   subst this
   simp at hb
  ·exact fun p e1 rows1 v1 hp _ => absurd hp (hno p e1 rows1)
  ·rintro p p' q ⟨e1, rows1, v1, hp, _⟩
   exact absurd hp (hno p e1 rows1)
  ·rintro p q b ⟨e1, rows1, v1, hp, _⟩
   exact absurd hp (hno p e1 rows1)
  ·intro t org e1 rows1 hz
   simp only [AOut.val, get] at hz
   split at hz
   ·injection hz with hz; subst hz; simp [Jtgi] at hy
   ·cases hz
 ·rintro q (⟨b, hb⟩ | ⟨p, e1, rows1, v1, hp, _⟩)
  ·simp only at hb
   split at hb
   ·exact hmine q (.inl ⟨i, hb⟩)
   ·cases hb
  ·exact absurd hp (hno p e1 rows1)
theorem Jt4e {H : List Blk} {n0 : Nat} {xas bs : List AV} (h : WkVs H n0 xas bs) (n : Nat) : ∀ p ∈ enum n bs, ∃ x, get (enum n xas) p.1 = some x ∧ WkT H n0 x p.2 := by
 induction xas generalizing n bs with
 | nil => cases bs with
  | nil => intro p hp; simp [enum] at hp
  | cons => exact h.elim
 | cons a xas ih => cases bs with
  | nil => exact h.elim
  | cons b bs =>
   intro p hp
   simp only [enum, List.mem_cons] at hp
   rcases hp with rfl | hp
   ·exact ⟨a, by simp [enum, get], .inl h.1⟩
   ·obtain ⟨x, hx, hk⟩ := ih h.2 (n + 1) p hp
    refine ⟨x, ?_, hk⟩
    have hne : n ≠ p.1 := by
     intro e
     have : ∀ (l : List AV) (m : Nat), p ∈ enum m l → m ≤ p.1 := by
      intro l
      induction l with
      | nil => intro m h; simp [enum] at h
      | cons y l ih2 =>
       intro m h
       simp only [enum, List.mem_cons] at h
       rcases h with rfl | h
       ·exact Nat.le_refl _
       ·have := ih2 (m + 1) h; omega
     have := this bs (n + 1) hp
     omega
    simp only [enum, get, if_neg hne]; exact hx
theorem Jt9h : ∀ {l : List AV} {n t : Nat} {x : AV}, get (enum n l) t = some x → x ∈ l := by
 intro l
 induction l with
 | nil => intro n t x h; simp [enum, get] at h
 | cons a l ih =>
  intro n t x h
  simp only [enum, get] at h
  split at h
  ·injection h with h; subst h; simp
  ·exact List.mem_cons_of_mem _ (ih h)
theorem Jt3o.lend {P : Program} {f : Nat} {args args' : List AV} {y : AV} {cells : List AV} (h : Jt3o P f args' [] fun o _ => o = .ret y) (hw : WkVs [.mem cells] 0 args args')
  (hy : Jtgi y = true) (hye : y.erase = y) (hyf : ∀ F φ w F' φ' w' v, Rel F φ w y v → Rel F' φ' w' y v) (hc : cells.all isD = true) (ha : args'.all Jtgi = true) (hab : args.all Jtgi = true) :
  Jt3o P f args [.mem cells] fun o H' => o = .ret y ∧ H' = [.mem cells] := by
 intro g vs w hvs hs
 have hl := (Jt4f hw).1
 have hwk : Wk 0 ⟨enum 0 args, [.mem cells]⟩ ⟨enum 0 args', []⟩ := ⟨Jt4e hw 0, by simp, by simp, by simp⟩
 obtain ⟨h1, h2, h3, h4⟩ := hs.weak hwk
 obtain ⟨g1, hg1⟩ : ∃ g1, g1 = g.cut ([] : List Blk).length w := ⟨_, rfl⟩
 simp only [← hg1] at h1 h2 h3 h4
 have hg1φ : ∀ b, g1.φ b = none := fun b => by rw [hg1]; simp [Gh.cut]
 refine (h _ vs w (by omega) (by rw [← hl]; exact h1)).mono ?_
 rintro e' w' ⟨o, H', g', v, rfl, he, hsim, htr, hφ, hlen, hmine⟩
 obtain ⟨r0, hr0⟩ := hs.dom 0 (.mem cells) (by simp) (by simp)
 obtain ⟨l1, l2, l3⟩ := hs.lt 0 r0 hr0
 have hcd : ∀ (j : Nat) (z : AV), cells[j]? = some z → ∃ d, z = .d d := fun j z hz => isD_eq (List.all_eq_true.1 hc z (List.mem_of_getElem? hz))
 have hb0 : ∀ b r, g.φ b = some r → b = 0 ∧ r = r0 := by
  intro b r hb
  have := (hs.lt b r hb).2.2
  have hb' : b = 0 := by simpa using this
  subst hb'
  rw [hr0] at hb; injection hb with hb
  exact ⟨rfl, hb.symm⟩
 have hm1 : ∀ r, ¬ Mine ⟨enum 0 args', []⟩ g1 ⟨vs, []⟩ w r := by
  rintro r (⟨b, hb⟩ | ⟨p, e1, rows1, v1, hp, _⟩)
  ·rw [hg1φ b] at hb; cases hb
  ·cases p with
   | tmp t =>
    have := List.all_eq_true.1 ha _ (Jt9h hp)
    simp [Jtgi] at this
   | cell b j => simp [AP] at hp
 have hsame : ∀ r, r < w.heap.size → w'.heap[r]? = w.heap[r]? ∧ g'.F r = g1.F r := fun r hr => htr.other r hr (hm1 r)
 have hg1F : ∀ r, r ≠ r0 → g1.F r = g.F r := by
  intro r hr
  rw [hg1]
  simp only [Gh.cut]
  rw [if_neg]
  rintro ⟨b, _, hb⟩
  exact hr (hb0 b r hb).2
 have hno : ∀ (p : Place) (e1 : Nat) (rows1 : List (List D)), AP ⟨[(0, y)], [.mem cells]⟩ p ≠ some (.own e1 rows1) := by
  intro p e1 rows1 hp
  cases p with
  | tmp t =>
   simp only [AP, get] at hp
   split at hp
   ·injection hp with hp; subst hp; simp [Jtgi] at hy
   ·cases hp
  | cell b j =>
   simp only [AP] at hp
   split at hp
   ·rename_i cells' hb
    have : b = 0 := by have := (List.getElem?_eq_some_iff.1 hb).1; simpa using this
    subst this
    simp only [List.getElem?_cons_zero, Option.some.injEq, Blk.mem.injEq] at hb
    subst hb
    obtain ⟨d, hd⟩ := hcd j _ hp
    cases hd
   ·cases hp
 have htr2 : Tr (Mine ⟨enum 0 args, [.mem cells]⟩ g ⟨vs, []⟩ w) g w g' w' := h2.trans htr fun r hr => .inl (h3 r hr)
 have hmr0 : Mine ⟨enum 0 args, [.mem cells]⟩ g ⟨vs, []⟩ w r0 := .inl ⟨0, hr0⟩
 have hstab : Stab g.F w (fun r => if r = r0 then 0 else g'.F r) w' := by
  refine ⟨fun r hr => ?_, fun r j u hj hu => ?_, htr2.stab.size⟩
  ·by_cases hrr : r = r0
   ·subst hrr; rw [l2]; exact Nat.zero_le _
   ·simp only [if_neg hrr]; exact htr2.stab.le r hr
  ·exact htr2.stab.cell r j u hj hu
 have hrel := hsim.env 0 y (by simp [get, AOut.val])
 have hv0 : (⟨#[v], []⟩ : Act).tmps.getD 0 undef = v := by simp
 rw [hv0, hye] at hrel
 refine ⟨.ret y, [.mem cells], ⟨g.φ, fun r => if r = r0 then 0 else g'.F r⟩, v, ⟨rfl, rfl⟩, he, ?_, ⟨htr2.os, htr2.tape, htr2.output, htr2.size, fun r hr hn => ?_, hstab⟩, fun b r hb hr => hr, by simp, ?_⟩
 ·refine { size := by simp, env := ?_, inj := hs.inj, lt := ?_, dom := ?_, mem := ?_, iter := ?_, glob := ?_, own := ?_, excl := ?_, apart := ?_, view := ?_ }
  ·intro t z hz
   simp only [AOut.val, get] at hz
   split at hz
   ·rename_i ht; subst ht
    injection hz with hz; subst hz
    rw [hv0, hye]; exact hyf _ _ _ _ _ _ _ hrel
   ·cases hz
  ·intro b q hb
   obtain ⟨rfl, rfl⟩ := hb0 b q hb
   exact ⟨Nat.lt_of_lt_of_le l1 htr2.size, by simp, by simp⟩
  ·intro b k hk _
   have : b = 0 := by have := (List.getElem?_eq_some_iff.1 hk).1; simpa using this
   subst this
   exact ⟨r0, hr0⟩
  ·intro b cells' q hb hq
   obtain ⟨rfl, rfl⟩ := hb0 b q hq
   simp only [List.getElem?_cons_zero, Option.some.injEq, Blk.mem.injEq] at hb
   subst hb
   obtain ⟨c, te, q1, q2, q3⟩ := hs.mem 0 cells q (by simp) hr0
   refine ⟨c, te, by rw [(hsame q l1).1]; exact q1, q2, fun j z hz => ?_⟩
   obtain ⟨z1, u, z2, z3⟩ := q3 j z hz
   obtain ⟨d, rfl⟩ := hcd j z hz
   exact ⟨z1, u, z2, z3.stab hstab fun b r hb => hb⟩
  ·intro b s pos q hb
   have : b = 0 := by have := (List.getElem?_eq_some_iff.1 hb).1; simpa using this
   subst this
   simp at hb
  ·intro b s pos q hb
   have : b = 0 := by have := (List.getElem?_eq_some_iff.1 hb).1; simpa using this
   subst this
   simp at hb
  ·exact fun p e1 rows1 v1 hp _ => absurd hp (hno p e1 rows1)
  ·rintro p p' q ⟨e1, rows1, v1, hp, _⟩
   exact absurd hp (hno p e1 rows1)
  ·rintro p q b ⟨e1, rows1, v1, hp, _⟩
   exact absurd hp (hno p e1 rows1)
  ·intro t org e1 rows1 hz
   simp only [AOut.val, get] at hz
   split at hz
   ·injection hz with hz; subst hz; simp [Jtgi] at hy
   ·cases hz
 ·have hne : r ≠ r0 := fun h => hn (h ▸ hmr0)
  obtain ⟨q1, q2⟩ := htr2.other r hr hn
  exact ⟨q1, by simp only [if_neg hne]; exact q2⟩
 ·rintro q (⟨b, hb⟩ | ⟨p, e1, rows1, v1, hp, _⟩)
  ·exact .inl (.inl ⟨b, hb⟩)
  ·exact absurd hp (hno p e1 rows1)
@[simp] theorem Jt9n {K : ASt → Prop} {st : ASt} {n b off : Nat} {cells : List AV} {v : Opd} {b' o' e' l' : Nat} : goS3 K st n b off cells v (some (.hsl b' o' e' l')) ↔ 1 = n ∧ off + n ≤ cells.length ∧ K ⟨unview st.env, st.H.set b (.mem (spl cells off [.hsl b' o' e' l']))⟩ := by
 cases v <;> simp [goS3, AV.erase, AV.cells, AV.leaf]
@[simp] theorem Jt9r {K : ASt → Prop} {st : ASt} {n b off : Nat} {cells : List AV} {v : Opd} {q : Place} {e : Nat} {rows : List (List D)} : goS3 K st n b off cells v (some (.view q e rows)) ↔ 1 = n ∧ off + n ≤ cells.length ∧ K ⟨unview st.env, st.H.set b (.mem (spl cells off [.d (.sl rows)]))⟩ := by
 cases v <;> simp [goS3, AV.erase, AV.cells, AV.leaf]
theorem Jtku (a b : List (List D)) : Jtkq (a ++ b) = Jtkq a ++ b.flatten.map AV.d := by simp [Jtkq]
theorem Jt14 {P : Program} {K : ASt → Prop} {QP : AV → ASt → Prop} {dst : Option Nat} {st : ASt} {esz bytes : Nat} {x y : Opd} {b len : Nat} {rows ys : List (List D)} (h : evr st.env x = some (.hsl b 0 esz len)) (hb : st.H[b]? = some (.mem (Jtkq rows))) (hrl : rows.length = len)
  (hre : ∀ r ∈ rows, r.length = esz) (h0 : 0 < len) (hy : Jt56 st.env y = some ys) (hr : ∀ r ∈ ys, r.length = esz) (hz : 0 < esz) (hne : ys ≠ []) (hn : len + ys.length ≤ 1000000000000000000) (hbt : (len + ys.length) * bytes ≤ 140737488355328)
  (hK : K (put dst (.hsl b 0 esz (len + ys.length)) ⟨unview st.env, st.H.set b (.mem (Jtkq (rows ++ ys)))⟩)) (hK' : K (put dst (.hsl st.H.length 0 esz (len + ys.length)) ⟨st.env, st.H ++ [.mem (Jtkq (rows ++ ys))]⟩)) :
  AWio P false (.app esz bytes x y) dst K QP st := by
 simp only [AWio, h]
 rw [Jtku] at hK hK'
 refine ⟨trivial, b, len, Jtkq rows, ys, h, hb, by rw [Jtkx hre, hrl], h0, ?_, hy, hr, hz, hne, hn, hbt, hK, hK'⟩
 rw [List.all_eq_true]
 intro x hx
 unfold Jtkq at hx
 rw [List.mem_map] at hx
 obtain ⟨d, _, rfl⟩ := hx
 rfl
def tlB (j : Nat) (rows : List (List D)) : List Blk := List.replicate j .dead ++ [.mem (Jtkq rows)]
theorem Jto8 {j : Nat} {rows : List (List D)} : (tlB j rows)[j]? = some (.mem (Jtkq rows)) := by
 unfold tlB; rw [List.getElem?_append_right (by simp)]; simp
theorem Jtoa {j : Nat} {rows rows' : List (List D)} : (tlB j rows).set j (.mem (Jtkq rows')) = tlB j rows' := by
 unfold tlB; rw [List.set_append_right _ _ (by simp)]; simp
theorem Jto9 {j : Nat} {rows : List (List D)} : (tlB j rows).length = j + 1 := by simp [tlB]
theorem Jto7 {j : Nat} {rows : List (List D)} : tlB (j + 1) rows = .dead :: tlB j rows := by simp [tlB, List.replicate_succ]
theorem Jt49 {H : List Blk} {n j : Nat} {rows : List (List D)} : WkHs H n (tlB j rows) (tlB j rows) := by
 induction j with
 | zero => exact ⟨Jt45, trivial⟩
 | succ j ih => rw [Jto7]; exact ⟨.dead _, ih⟩
theorem Jt4a {H : List Blk} {n j : Nat} {old rows : List (List D)} : WkHs H n (tlB j old ++ [.mem (Jtkq rows)]) (tlB (j + 1) rows) := by
 induction j with
 | zero => exact ⟨.dead _, Jt45, trivial⟩
 | succ j ih => rw [Jto7, Jto7]; exact ⟨.dead _, ih⟩
end Go.AE
set_option maxRecDepth 4000
namespace Go.AE
open Go
def cpW (k j : Nat) : AV := match k with
 | 0 => .nils
 | k + 1 => .hsl (j + 3) 0 1 (k + 1)
def cpT (wR : List (List D)) (k j : Nat) : List Blk := match k with
 | 0 => []
 | k + 1 => tlB j (wR.take (k + 1))
def openA (c : Cert) : AV := .agg [AI c.S.args, AI c.S.regs, .d (.sl (c.S.blocks.map Block.row)), AI c.T.args, AI c.T.regs, AI c.T.slots, .d (.sl (c.T.blocks.map MBlock.row)), .hsl 0 0 1 c.W.length]
theorem get3 {a b c : Blk} {t : List Blk} {j : Nat} : (a :: b :: c :: t)[j + 3]? = t[j]? := rfl
theorem set3 {a b c x : Blk} {t : List Blk} {j : Nat} : (a :: b :: c :: t).set (j + 3) x = a :: b :: c :: t.set j x := rfl
section
theorem Jtjj {P : Program} {p : Nums} (A : All P p) (c : Cert) (h0 : c.S.blocks.length ≤ 1000000) (h1 : codeN c.S.blocks ≤ 1000000) (h2 : c.T.blocks.length ≤ 1000000) (h3 : mcodeN c.T.blocks ≤ 1000000) (h4 : c.W.length ≤ 1000000) (h5 : ∀ l ∈ c.W, l.length ≤ 1000000) (hne : 0 < c.W.length) :
  Jt3o P p.ref16_Copy [c.av] [] fun o H' => ∃ i x, o = .ret x ∧ x.erase = x ∧ x.ren (fun b => if b = i then some 0 else none) = some (openA c) ∧ H'[i]? = some (.mem (Jtkq (c.W.map fun l => [pairsD l]))) := by
 have c1 := Jtiu A c.S h0 h1
 have c2 := Jtiy A c.T h2 h3
 obtain ⟨sR, hsR⟩ : ∃ x, x = c.S.blocks.map Block.row := ⟨_, rfl⟩
 obtain ⟨tR, htR⟩ : ∃ x, x = c.T.blocks.map MBlock.row := ⟨_, rfl⟩
 obtain ⟨wR, hwR⟩ : ∃ x, x = c.W.map fun l => [pairsD l] := ⟨_, rfl⟩
 have hwl : wR.length = c.W.length := by rw [hwR]; simp
 have hw1 : ∀ r ∈ wR, r.length = 1 := fun r hr => by rw [hwR] at hr; obtain ⟨l, _, rfl⟩ := List.mem_map.1 hr; rfl
 unfold openA
 simp only [Func.av, MFunc.av, Cert.av, witD, ← hsR, ← htR, ← hwR] at c1 c2 ⊢
 refine A.ref16_Copy.run rfl fun R hR => ?_
 (simp (maxSteps := 1000000) [Jtcp])
 (refine Jts c1 (by rfl) (by rfl) ?_)
 (simp (maxSteps := 1000000) [])
 (refine Jts c2 (by rfl) (by rfl) ?_)
 (simp (maxSteps := 1000000) [])
 refine Jt9 (fun s : Nat × Nat => ⟨[(4, AI s.1), (1, .ptr 0 0), (2, .ptr 1 0), (3, .ptr 2 0)], .mem [AI c.S.args, AI c.S.regs, .d (.sl sR), AI c.T.args, AI c.T.regs, AI c.T.slots, .d (.sl tR), .d (.sl wR)] :: .mem [AI 0, AI 0, .nils, AI 0, AI 0, AI 0, .nils, .nils] ::
   .mem [AI c.S.args, AI c.S.regs, .d (.sl sR), AI c.T.args, AI c.T.regs, AI c.T.slots, .d (.sl tR), cpW s.1 s.2] :: cpT wR s.1 s.2⟩)
  (fun s => s.1 ≤ c.W.length) (fun s => c.W.length - s.1) (0, 0) (by simp) (by (exact wkA)) ?_
 rintro ⟨k, j⟩ hk N hN
 simp only at hk hN
 (simp (maxSteps := 1000000) [hwl])
 ((first | refine Xc (fun h6 => ?_) (fun h6 => ?_) | refine Xo (fun h6 => ?_) (fun h6 => ?_)) <;> (try simp only [Xz, Xy] at h6))
 ·have hkl : k < c.W.length := by omega
  obtain ⟨l, hl⟩ : ∃ l, c.W[k]? = some l := ⟨_, List.getElem?_eq_getElem hkl⟩
  have hll := h5 l (List.mem_of_getElem? hl)
  have hwk : wR[k]? = some [.sl (l.map Pair.row)] := by rw [hwR, List.getElem?_map, hl]; rfl
  have hw := Jtp7 (k := k) (by omega)
  have ess : wR.take k ++ [[.sl (l.map Pair.row)]] = wR.take (k + 1) := (Jtnt hwk).symm
  cases k with
  | zero =>
   have eT : cpT wR (0 + 1) 0 = [.mem (Jtkq [[.sl (l.map Pair.row)]])] := by show tlB 0 (wR.take (0 + 1)) = _; rw [← ess]; rfl
   (simp (maxSteps := 1000000) [h6, hwk, cpW, cpT])
   refine Jt15 (by rfl) (by rfl) (Jtl2 fun _ => rfl) (by decide) (by simp; omega) (by simp; omega) (fun hn => ?_) fun hn => ?_
   ·have hln : l = [] := by simpa using hn
    rw [hln, List.map_nil] at eT
    (simp (maxSteps := 1000000) [h6, hwk])
    refine Jt13 (.inr (by rfl)) (by rfl) (by simp) (by decide) (by simp) (by simp) (by simp) ?_
    (simp (maxSteps := 1000000) [hw])
    exact hN _ (0 + 1, 0) hkl (by simp only [eT, cpW]; (exact wkA)) (by simp only; omega)
   ·(simp (maxSteps := 1000000) [h6, hwk])
    refine Jt13 (.inr (by rfl)) (by rfl) (by simp) (by decide) (by simp) (by simp) (by simp) ?_
    (simp (maxSteps := 1000000) [hw])
    exact hN _ (0 + 1, 0) hkl (by simp only [eT, cpW]; (exact wkA)) (by simp only; omega)
  | succ k =>
   have hw2 : IntKind.i64.wrap ((k : Int) + 1 + 1) = (k : Int) + 1 + 1 := wrap_i64 (by omega) (by omega)
   have hlen : (wR.take (k + 1)).length = k + 1 := by rw [List.length_take]; omega
   have hre : ∀ r ∈ wR.take (k + 1), r.length = 1 := fun r hr => hw1 r (List.mem_of_mem_take hr)
   (simp (maxSteps := 1000000) [h6, hwk, cpW, cpT])
   refine Jt15 (by rfl) (by rfl) (Jtl2 fun _ => rfl) (by decide) (by simp; omega) (by simp; omega) (fun hn => ?_) fun hn => ?_
   ·have hln : l = [] := by simpa using hn
    rw [hln, List.map_nil] at ess
    (simp (maxSteps := 1000000) [h6, hwk])
    refine Jt14 (b := j + 3) (rows := wR.take (k + 1)) (by rfl) (get3.trans Jto8) hlen hre (by omega) (by rfl) (by simp) (by decide) (by simp) (by simp; omega) (by simp; omega) ?_ ?_
    ·simp only [set3, Jtoa, ess]
     (simp (maxSteps := 1000000) [hw2])
     exact hN _ (k + 1 + 1, j) hkl (by refine Wk.of ?_ ?_ (by simp) <;> repeat' (first | (first | exact True.intro | exact ⟨_, rfl, Jtp1 rfl⟩ | exact ⟨_, rfl, Jtoz rfl⟩ | exact ⟨_, rfl, .inl .nild⟩ | exact ⟨_, rfl, .inl .nile⟩ | exact ⟨_, rfl, Jtp0⟩ | exact Jtp1 rfl | exact Jtoz rfl | exact .inl .nild | exact .inl .nile | exact Jtp0 | exact WkB.same rfl | exact Jt45 | exact Jt44 | exact .dead _ | exact .iter _ _ | exact .glob _ _ | refine Jt43 ?_ ?_ | refine And.intro ?_ ?_) | exact Jt49 | exact Jt4a | exact ⟨_, rfl, Jtp1 (by simp only [AV.ren, List.length_cons, cpT, Jto9]; rw [if_pos (by omega)])⟩ | exact Jtp1 (by simp only [AV.ren, List.length_cons, cpT, Jto9]; rw [if_pos (by omega)]))) (by simp only; omega)
    ·simp only [ess]
     (simp (maxSteps := 1000000) [hw2, Jto9])
     exact hN _ (k + 1 + 1, j + 1) hkl (by refine Wk.of ?_ ?_ (by simp) <;> repeat' (first | (first | exact True.intro | exact ⟨_, rfl, Jtp1 rfl⟩ | exact ⟨_, rfl, Jtoz rfl⟩ | exact ⟨_, rfl, .inl .nild⟩ | exact ⟨_, rfl, .inl .nile⟩ | exact ⟨_, rfl, Jtp0⟩ | exact Jtp1 rfl | exact Jtoz rfl | exact .inl .nild | exact .inl .nile | exact Jtp0 | exact WkB.same rfl | exact Jt45 | exact Jt44 | exact .dead _ | exact .iter _ _ | exact .glob _ _ | refine Jt43 ?_ ?_ | refine And.intro ?_ ?_) | exact Jt49 | exact Jt4a | exact ⟨_, rfl, Jtp1 (by simp only [AV.ren, List.length_cons, cpT, Jto9]; rw [if_pos (by omega)])⟩ | exact Jtp1 (by simp only [AV.ren, List.length_cons, cpT, Jto9]; rw [if_pos (by omega)]))) (by simp only; omega)
   ·(simp (maxSteps := 1000000) [h6, hwk])
    refine Jt14 (b := j + 3) (rows := wR.take (k + 1)) (by rfl) (get3.trans Jto8) hlen hre (by omega) (by rfl) (by simp) (by decide) (by simp) (by simp; omega) (by simp; omega) ?_ ?_
    ·simp only [set3, Jtoa, ess]
     (simp (maxSteps := 1000000) [hw2])
     exact hN _ (k + 1 + 1, j) hkl (by refine Wk.of ?_ ?_ (by simp) <;> repeat' (first | (first | exact True.intro | exact ⟨_, rfl, Jtp1 rfl⟩ | exact ⟨_, rfl, Jtoz rfl⟩ | exact ⟨_, rfl, .inl .nild⟩ | exact ⟨_, rfl, .inl .nile⟩ | exact ⟨_, rfl, Jtp0⟩ | exact Jtp1 rfl | exact Jtoz rfl | exact .inl .nild | exact .inl .nile | exact Jtp0 | exact WkB.same rfl | exact Jt45 | exact Jt44 | exact .dead _ | exact .iter _ _ | exact .glob _ _ | refine Jt43 ?_ ?_ | refine And.intro ?_ ?_) | exact Jt49 | exact Jt4a | exact ⟨_, rfl, Jtp1 (by simp only [AV.ren, List.length_cons, cpT, Jto9]; rw [if_pos (by omega)])⟩ | exact Jtp1 (by simp only [AV.ren, List.length_cons, cpT, Jto9]; rw [if_pos (by omega)]))) (by simp only; omega)
    ·simp only [ess]
     (simp (maxSteps := 1000000) [hw2, Jto9])
     exact hN _ (k + 1 + 1, j + 1) hkl (by refine Wk.of ?_ ?_ (by simp) <;> repeat' (first | (first | exact True.intro | exact ⟨_, rfl, Jtp1 rfl⟩ | exact ⟨_, rfl, Jtoz rfl⟩ | exact ⟨_, rfl, .inl .nild⟩ | exact ⟨_, rfl, .inl .nile⟩ | exact ⟨_, rfl, Jtp0⟩ | exact Jtp1 rfl | exact Jtoz rfl | exact .inl .nild | exact .inl .nile | exact Jtp0 | exact WkB.same rfl | exact Jt45 | exact Jt44 | exact .dead _ | exact .iter _ _ | exact .glob _ _ | refine Jt43 ?_ ?_ | refine And.intro ?_ ?_) | exact Jt49 | exact Jt4a | exact ⟨_, rfl, Jtp1 (by simp only [AV.ren, List.length_cons, cpT, Jto9]; rw [if_pos (by omega)])⟩ | exact Jtp1 (by simp only [AV.ren, List.length_cons, cpT, Jto9]; rw [if_pos (by omega)]))) (by simp only; omega)
 ·have hk' : k = c.W.length := by omega
  subst hk'
  obtain ⟨k, hk2⟩ : ∃ k, c.W.length = k + 1 := ⟨c.W.length - 1, by omega⟩
  have eT : wR.take (k + 1) = wR := List.take_of_length_le (by omega)
  rw [hk2]
  simp only [cpW, cpT, eT]
  (simp (maxSteps := 1000000) [])
  refine hR _ _ (Jt3t (.agg [AI c.S.args, AI c.S.regs, .d (.sl sR), AI c.T.args, AI c.T.regs, AI c.T.slots, .d (.sl tR), .hsl (j + 3) 0 1 (k + 1)]) (.agg [AI c.S.args, AI c.S.regs, .d (.sl sR), AI c.T.args, AI c.T.regs, AI c.T.slots, .d (.sl tR), .hsl (j + 3) 0 1 (k + 1)]) (.dead :: .dead :: .dead :: tlB j wR) (by rfl) ?_ ?_)
  ·refine Wk.of ⟨⟨_, rfl, Jtp1 ?_⟩, trivial⟩ ⟨.dead _, .dead _, .dead _, Jt49⟩ (Nat.zero_le _)
   simp only [AV.ren, renL, List.length_cons, Jto9]
   rw [if_pos (by omega)]
  ·exact ⟨j + 3, _, rfl, rfl, by simp [AV.ren, renL, hk2], get3.trans Jto8⟩
theorem Jtjk {P : Program} {p : Nums} (A : All P p) (c : Cert) (h0 : c.S.blocks.length ≤ 1000000) (h1 : codeN c.S.blocks ≤ 1000000) (h2 : c.T.blocks.length ≤ 1000000) (h3 : mcodeN c.T.blocks ≤ 1000000) (h4 : c.W.length ≤ 1000000) (h5 : ∀ l ∈ c.W, l.length ≤ 1000000) (hne : 0 < c.W.length) :
  Jt3o P p.ref16_Copy [c.av] [] fun o H' => o = .ret (openA c) ∧ H' = [.mem (Jtkq (c.W.map fun l => [pairsD l]))] :=
 (Jtjj A c h0 h1 h2 h3 h4 h5 hne).pack rfl rfl (by
  rw [List.all_eq_true]
  intro x hx
  unfold Jtkq at hx
  obtain ⟨d, _, rfl⟩ := List.mem_map.1 hx
  rfl)
end
end Go.AE
set_option maxRecDepth 4000
namespace Go.AE
open Go
theorem Jt83 {w : List (List Pair)} {out : List Pair} {i : Nat} : ∀ {ts : List Int} {k : Nat} {r : Rep}, (∀ x ∈ ts, 0 ≤ x) → (edgesC w out i ts k r).2 = true → (edgesC w out i ts k r).1.block = i := by
 intro ts
 induction ts with
 | nil => intro k r _ h; cases h
 | cons t ts ih =>
  intro k r h1
  have ht := h1 t (by simp)
  obtain ⟨tn, rfl⟩ : ∃ n : Nat, t = (n : Int) := ⟨t.toNat, by omega⟩
  rw [Jt80]
  split
  ·intro _; rfl
  ·exact ih (k := k + 1) (r := edgeR w out tn r) fun x hx => h1 x (by simp [hx])
theorem Jt5s {c : Cert} (h : Fit c) {k : Nat} (hk : k < c.S.blocks.length) (hbad : blkOk c k = false) (hgood : ∀ i, i < k → blkOk c i = true) : ∀ (n i : Nat) (r : Rep), i + n = c.S.blocks.length → r.err = 0 → i ≤ k →
  (Jt5r c n i r).err ≠ 0 ∧ (Jt5r c n i r).block = k := by
 intro n
 induction n with
 | zero => intro i r hi _ hik; omega
 | succ n ih =>
  intro i r hi hr hik
  have hlT := h.lenT
  have hlW := h.lenW
  obtain ⟨b, hb⟩ : ∃ b, c.S.blocks[i]? = some b := ⟨_, List.getElem?_eq_getElem (by omega)⟩
  obtain ⟨m, hm⟩ : ∃ b, c.T.blocks[i]? = some b := ⟨_, List.getElem?_eq_getElem (by omega)⟩
  obtain ⟨l, hl⟩ : ∃ b, c.W[i]? = some b := ⟨_, List.getElem?_eq_getElem (by omega)⟩
  have hbc := Jt5i hb hm hl r
  have hbo := Jt5h hb hm hl
  have hto := h.to b (List.mem_of_getElem? hb)
  obtain ⟨x, hx⟩ : ∃ x, x = checkZ b m l 1048576 := ⟨_, rfl⟩
  rw [← hx] at hbc hbo
  have hT : Jt5r c (n + 1) i r = match blockC c i r with | (r, true) => r | (r, false) => Jt5r c n (i + 1) r := rfl
  rw [hT, hbc]
  have hcase : i < k ∨ i = k := by omega
  by_cases hxe : x.err ≠ 0
  ·rw [if_pos hxe]
   have hik2 : i = k := by
    rcases hcase with h1 | h1
    ·have := hgood i h1
     rw [hbo] at this
     simp [hxe] at this
    ·exact h1
   exact ⟨hxe, by show (i : Int) = (k : Int); rw [hik2]⟩
  ·rw [if_neg hxe]
   have hx0 : x.err = 0 := by simpa using hxe
   have et := Jt84 (w := c.W) (out := x.out) (i := i) (ts := succsZ b.term) (k := 0) (r := blockR x r) (fun y hy => (hto y hy).1) hr
   have eb := Jt83 (w := c.W) (out := x.out) (i := i) (ts := succsZ b.term) (k := 0) (r := blockR x r) (fun y hy => (hto y hy).1)
   obtain ⟨R, hR⟩ : ∃ R, R = edgesC c.W x.out i (succsZ b.term) 0 (blockR x r) := ⟨_, rfl⟩
   rw [← hR] at et eb ⊢
   obtain ⟨t, bad⟩ := R
   obtain ⟨t1, t2, t3⟩ := et
   simp only at t1 t2 t3 eb
   cases bad with
   | true =>
    have ha : (succsZ b.term).all (hasE c.W x.out) = false := by rw [← Bool.not_eq_true']; exact t1.symm
    have hik2 : i = k := by
     rcases hcase with h1 | h1
     ·have := hgood i h1
      rw [hbo, ha, Bool.and_false] at this; cases this
     ·exact h1
    have e22 := t2 rfl
    exact ⟨by show t.err ≠ 0; rw [e22]; decide, by show t.block = (k : Int); rw [eb rfl, hik2]⟩
   | false =>
    have ha : (succsZ b.term).all (hasE c.W x.out) = true := by rw [← Bool.not_eq_false']; exact t1.symm
    have hb1 : blkOk c i = true := by rw [hbo, ha, hx0]; rfl
    have hne : i ≠ k := fun e => by subst e; rw [hbad] at hb1; cases hb1
    exact ih (i + 1) t (by omega) (t3 rfl) (by omega)
theorem Jthd {l : List Pair} {vregs regs slots : Int} (h : pErrs l vregs regs slots = 0) : Srt l ∧ ∀ q ∈ l, 0 ≤ q.v ∧ q.v < vregs ∧ rngZ q.l regs slots = true := by
 have key : ∀ k (hk : k < l.length), 0 ≤ l[k].v ∧ l[k].v < vregs ∧ rngZ l[k].l regs slots = true ∧ (0 < k → ∀ q0, l[k - 1]? = some q0 → lessP q0 l[k] = true) := by
  intro k hk
  have h7 := Jt8r h (pErr l vregs regs slots k) (List.mem_map.2 ⟨k, List.mem_range.2 hk, rfl⟩)
  rw [Jthb hk] at h7
  split at h7
  ·cases h7
  rename_i a1
  split at h7
  ·cases h7
  rename_i a2
  refine ⟨by omega, by omega, by simpa using a2, fun h0 q0 hq0 => ?_⟩
  rw [hq0] at h7
  cases hx : lessP q0 l[k] with
  | true => rfl
  | false =>
   simp only [hx, h0, and_self, if_true] at h7
   cases h7
 refine ⟨Jtmr.2 fun k hk => ?_, fun q hq => ?_⟩
 ·exact (key (k + 1) hk).2.2.2 (by omega) l[k] (by simp)
 ·obtain ⟨k, hk⟩ := List.getElem?_of_mem hq
  obtain ⟨hlt, rfl⟩ := List.getElem?_eq_some_iff.1 hk
  obtain ⟨a1, a2, a3, _⟩ := key k hlt
  exact ⟨a1, a2, a3⟩
theorem Jthe {l L : List Pair} {vregs regs slots : Int} (h : pErrs L vregs regs slots = 0) (hs : l.Sublist L) : pErrs l vregs regs slots = 0 := by
 obtain ⟨h1, h2⟩ := Jthd h
 have h3 : Srt l := List.Pairwise.sublist hs h1
 unfold pErrs
 refine Jt8q fun e he => ?_
 obtain ⟨k, hk, rfl⟩ := List.mem_map.1 he
 have hk := List.mem_range.1 hk
 obtain ⟨a1, a2, a3⟩ := h2 l[k] (hs.subset (List.getElem_mem hk))
 rw [Jthb hk, if_neg (by omega), if_neg (by rw [a3]; simp), if_neg]
 rintro ⟨h0, h4⟩
 have e : l[k - 1]? = some (l[k - 1]'(by omega)) := by rw [List.getElem?_eq_getElem]
 rw [e] at h4
 simp only at h4
 have := Jtmy h3 (i := k - 1) (j := k) (by omega) hk
 rw [h4] at this; cases this
def subC (c : Cert) (k : Nat) (l : List Pair) : Cert := ⟨c.S, c.T, c.W.set k l⟩
theorem Jtfp {α : Type} {w : List α} {k : Nat} {l x : α} (h : x ∈ w.set k l) : x = l ∨ x ∈ w := by
 rcases List.mem_or_eq_of_mem_set h with h | h
 ·exact .inr h
 ·exact .inl h
theorem Jtos (w : List (List Pair)) (k : Nat) (l : List Pair) (h : ∀ L, w[k]? = some L → l.length ≤ L.length) : wTotal (w.set k l) ≤ wTotal w := by
 induction w generalizing k with
 | nil => simp [wTotal]
 | cons a w ih =>
  cases k with
  | zero =>
   have := h a (by simp)
   simp only [List.set_cons_zero, wTotal, List.map_cons, List.sum_cons]; omega
  | succ k =>
   have := ih k fun L hL => h L (by simpa using hL)
   simp only [List.set_cons_succ, wTotal, List.map_cons, List.sum_cons] at *; omega
section
variable {c : Cert} {k : Nat} {l L : List Pair}
theorem Jtnk (hv : validZ c = 0) (hL : c.W[k]? = some L) (hs : l.Sublist L) : validZ (subC c k l) = 0 := by
 unfold validZ at hv ⊢
 split at hv
 ·rename_i g; exact absurd hv g
 rename_i g1
 split at hv
 ·rename_i g; exact absurd hv g
 rename_i g2
 split at hv
 ·cases hv
 rename_i g3
 unfold Jt7t at hv
 split at hv
 ·cases hv
 rename_i g4
 split at hv
 ·cases hv
 rename_i g5
 show (if Jtjn c.S ≠ 0 then Jtjn c.S else if Jtjq c.T ≠ 0 then Jtjq c.T else if c.S.blocks.length ≠ c.T.blocks.length ∨ c.S.args ≠ c.T.args then 14 else Jt7t (c.W.set k l) c.S.blocks.length c.S.regs c.T.regs c.T.slots) = 0
 rw [if_neg g1, if_neg g2, if_neg g3]
 unfold Jt7t
 have ht := Jtos c.W k l fun L' hL' => by rw [hL] at hL'; injection hL' with hL'; subst hL'; exact hs.length_le
 rw [if_neg (by rw [List.length_set]; exact g4), if_neg (by omega)]
 refine Jt8q fun e he => ?_
 obtain ⟨x, hx, rfl⟩ := List.mem_map.1 he
 rcases Jtfp hx with rfl | hx
 ·exact Jthe (Jt8r hv _ (List.mem_map_of_mem (List.mem_of_getElem? hL))) hs
 ·exact Jt8r hv _ (List.mem_map_of_mem hx)
theorem Jtng (h : Fit c) (hL : c.W[k]? = some L) (hs : l.Sublist L) : Fit (subC c k l) where
 lenT := h.lenT
 lenW := by show (c.W.set k l).length = _; rw [List.length_set]; exact h.lenW
 pos := h.pos
 few := h.few
 w := fun x hx => by
  have hx : x ∈ c.W.set k l := hx
  rcases Jtfp hx with rfl | hx
  ·obtain ⟨h1, h2, h3⟩ := h.w L (List.mem_of_getElem? hL)
   exact ⟨List.Pairwise.sublist hs h1, Nat.le_trans hs.length_le h2, fun q hq => h3 q (hs.subset hq)⟩
  ·exact h.w x hx
 vl := h.vl
 cs := h.cs
 ct := h.ct
 to := h.to
 ars := h.ars
theorem Jt4h (hv : validZ c = 0) (he : (Jtkc c).err = 0) : ((w0 c).all fun q => initZ q c.S.args) = true := by
 unfold Jtkc at he
 rw [if_neg (by simp [hv])] at he
 split at he
 ·cases he
 ·rename_i h1; simpa using h1
theorem acc_ok (h : Fit c) (hv : validZ c = 0) (he : (Jtkc c).err = 0) : ∀ i, i < c.S.blocks.length → blkOk c i = true := by
 have h1 := ((Jteb h hv).2 (by rw [he]; decide)).1 he
 unfold okTo at h1
 intro i hi
 exact List.all_eq_true.1 h1 i (List.mem_range.2 hi)
theorem Jtnh (hv : validZ c = 0) (he : (Jtkc c).err = 0) (hL : c.W[k]? = some L) (hs : l.Sublist L) : ((w0 (subC c k l)).all fun q => initZ q (subC c k l).S.args) = true := by
 have h1 := Jt4h hv he
 rw [List.all_eq_true] at h1 ⊢
 intro q hq
 refine h1 q ?_
 unfold w0 at hq ⊢
 have hq : q ∈ ((c.W.set k l)[0]?).getD [] := hq
 by_cases hk : k = 0
 ·subst hk
  have hlt := (List.getElem?_eq_some_iff.1 hL).1
  rw [List.getElem?_set_self hlt] at hq
  rw [hL]; exact hs.subset hq
 ·rw [List.getElem?_set_ne hk] at hq; exact hq
theorem Jtni (h : Fit c) (hL : c.W[k]? = some L) (hs : l.Sublist L) {i : Nat} (hi : i < c.S.blocks.length) (hik : i ≠ k) (ho : blkOk c i = true) : blkOk (subC c k l) i = true := by
 have hlT := h.lenT
 have hlW := h.lenW
 obtain ⟨b, hb⟩ : ∃ b, c.S.blocks[i]? = some b := ⟨_, List.getElem?_eq_getElem (by omega)⟩
 obtain ⟨m, hm⟩ : ∃ b, c.T.blocks[i]? = some b := ⟨_, List.getElem?_eq_getElem (by omega)⟩
 obtain ⟨w, hw⟩ : ∃ b, c.W[i]? = some b := ⟨_, List.getElem?_eq_getElem (by omega)⟩
 have hw2 : (subC c k l).W[i]? = some w := by show (c.W.set k l)[i]? = _; rw [List.getElem?_set_ne (Ne.symm hik)]; exact hw
 rw [Jt5h hb hm hw, Bool.and_eq_true] at ho
 rw [Jt5h (c := subC c k l) hb hm hw2, Bool.and_eq_true]
 refine ⟨ho.1, ?_⟩
 have h2 := ho.2
 rw [List.all_eq_true] at h2 ⊢
 intro x hx
 have h3 := h2 x hx
 unfold hasE at h3 ⊢
 rw [Bool.not_eq_true', Jtfw] at h3 ⊢
 intro q hq
 refine h3 q ?_
 have hq : q ∈ ((c.W.set k l)[x.toNat]?).getD [] := hq
 by_cases hk : k = x.toNat
 ·rw [← hk] at hq ⊢
  have hlt := (List.getElem?_eq_some_iff.1 hL).1
  rw [List.getElem?_set_self hlt] at hq
  rw [hL]; exact hs.subset hq
 ·rw [List.getElem?_set_ne hk] at hq; exact hq
theorem Jtnj (h : Fit c) (hv : validZ c = 0) (he : (Jtkc c).err = 0) (hL : c.W[k]? = some L) (hs : l.Sublist L) :
  (blkOk (subC c k l) k = true → (Jtkc (subC c k l)).err = 0) ∧ (blkOk (subC c k l) k = false → (Jtkc (subC c k l)).err ≠ 0 ∧ (Jtkc (subC c k l)).block = k) := by
 have hk : k < c.S.blocks.length := by rw [← h.lenW]; exact (List.getElem?_eq_some_iff.1 hL).1
 have hf := Jtng h hL hs
 have hvd := Jtnk hv hL hs
 have hi := Jtnh hv he hL hs
 have hg : ∀ i, i < c.S.blocks.length → i ≠ k → blkOk (subC c k l) i = true := fun i h1 h2 => Jtni h hL hs h1 h2 (acc_ok h hv he i h1)
 unfold Jtkc
 rw [if_neg (by simp [hvd]), if_neg (by simp [hi])]
 constructor
 ·intro hb
  refine (Jt5t hf (subC c k l).S.blocks.length 0 (rep0 (subC c k l)) (by omega) rfl rfl).2.2 ?_
  unfold okTo
  rw [List.all_eq_true]
  intro i hir
  have hir : i < c.S.blocks.length := List.mem_range.1 hir
  by_cases hik : i = k
  ·subst hik; exact hb
  ·exact hg i hir hik
 ·intro hb
  exact Jt5s hf (k := k) hk hb (fun i hik => hg i (by omega) (by omega)) (subC c k l).S.blocks.length 0 (rep0 (subC c k l)) (by omega) rfl (Nat.zero_le _)
end
end Go.AE
set_option maxRecDepth 4000
namespace Go.AE
open Go
def flatA : AV → Bool
 | .d x => x.flat
 | _ => false
theorem Rel.flatAgg {l : List AV} (h : l.all flatA = true) {F : Nat → Nat} {φ : Nat → Option Nat} {w : World} {F' : Nat → Nat} {φ' : Nat → Option Nat} {w' : World} {v : Value} (hr : Rel F φ w (.agg l) v) : Rel F' φ' w' (.agg l) v := by
 cases hr with
 | agg _ vs hlen hr =>
  refine .agg _ _ hlen fun j x u hx hu => ?_
  have hf := List.all_eq_true.1 h x (List.mem_of_getElem? hx)
  have h1 := hr j x u hx hu
  cases x with
  | d y =>
   cases h1 with
   | d _ _ h2 => exact .d _ _ (h2.flat (by simpa [flatA] using hf))
  | _ => simp [flatA] at hf
theorem Jtkt (rows : List (List D)) : (Jtkq rows).all isD = true := by
 rw [List.all_eq_true]
 intro x hx
 unfold Jtkq at hx
 obtain ⟨d, _, rfl⟩ := List.mem_map.1 hx
 rfl
theorem cells1 {rows : List (List D)} (h : ∀ r ∈ rows, r.length = 1) {k : Nat} {x : D} (hk : rows[k]? = some [x]) : (Jtkq rows)[k]? = some (.d x) := by
 induction rows generalizing k with
 | nil => simp at hk
 | cons r rows ih =>
  have h1 := h r (by simp)
  obtain ⟨y, rfl⟩ : ∃ y, r = [y] := by
   match r, h1 with
   | [y], _ => exact ⟨y, rfl⟩
  cases k with
  | zero => simp at hk; subst hk; rfl
  | succ k => simpa [Jtkq] using ih (fun r hr => h r (by simp [hr])) (by simpa using hk)
section
theorem Jt6r {P : Program} {p : Nums} (A : All P p) (S : SortOk P p) (C : ClosOk P p) (c : Cert) (ok : okCert c) (hfit : validZ c = 0 → Fit c) {wR : List (List D)} (hwR : wR = c.W.map fun l => [pairsD l]) {n : Nat} (hn : n = c.W.length) :
  Jt3o P p.checker_Check [.agg [AI c.S.args, AI c.S.regs, .d (.sl (c.S.blocks.map Block.row)), AI c.T.args, AI c.T.regs, AI c.T.slots, .d (.sl (c.T.blocks.map MBlock.row)), .hsl 0 0 1 n]] [.mem (Jtkq wR)]
   fun o H' => o = .ret (Jtkc c).av ∧ H' = [.mem (Jtkq wR)] := by
 have h := Jt6q A S C c ok hfit
 have hw1 : ∀ r ∈ wR, r.length = 1 := fun r hr => by rw [hwR] at hr; obtain ⟨l, _, rfl⟩ := List.mem_map.1 hr; rfl
 have hwl : wR.length = n := by rw [hwR, hn]; simp
 refine h.lend (cells := Jtkq wR) ?_ rfl rfl (fun F φ w F' φ' w' v hr => Rel.flatAgg (by rfl) hr) (Jtkt _) (by rfl) (by rfl)
 refine ⟨Jt4b ?_, trivial⟩
 refine ⟨.refl _ rfl, .refl _ rfl, .refl _ rfl, .refl _ rfl, .refl _ rfl, .refl _ rfl, .refl _ rfl, ?_, trivial⟩
 show WkV _ 0 (.hsl 0 0 1 n) (.d (.sl (c.W.map fun l => [pairsD l])))
 rw [← hwR]
 refine .hsl 0 0 1 n (Jtkq wR) wR rfl (Nat.zero_le _) ?_ hwl hw1
 rw [List.drop_zero, Nat.mul_one, ← hwl]
 have hl := Jtkx hw1
 rw [Nat.mul_one] at hl
 rw [← hl, List.take_length]; rfl
set_option maxHeartbeats 1000000 in
theorem Jtdu {P : Program} {p : Nums} (A : All P p) (S : SortOk P p) (C : ClosOk P p) (c : Cert) (at_ : Int) (dr : List Bool) (h2 : ∀ b ∈ c.T.blocks, okM b) (hw : okW c.W) (hat : 0 ≤ at_ ∧ at_ < 256) : Jt3o P p.law16_CheckerSubset [c.av, AU at_, .d (boolsD dr)] [] fun o _ => o = .ret (AB true) := by
 have cw := Jtdv A S C
 have cf := Jtjl A c
 have ok := fun hf => Jtgy (c := c) hf h2 hw
 have q3 := fun hf => Jt6p A S C c (ok hf) hf
 have hfit := fun h hf => fit_of (c := c) h hf
 have hval : (Jtkc c).err = 0 → validZ c = 0 := fun h => by
  unfold Jtkc at h
  split at h
  ·rename_i g; exact absurd h g
  ·rename_i g; simpa using g
 obtain ⟨f, hf⟩ : ∃ f, f = fewC c := ⟨_, rfl⟩
 have qc : f = true → 0 < c.W.length → Jt3o P p.ref16_Copy [c.av] [] fun o H' => o = .ret (openA c) ∧ H' = [.mem (Jtkq (c.W.map fun l => [pairsD l]))] := fun h hp => by
  have o := ok (hf ▸ h)
  rw [hf] at h
  simp only [fewC, few, fewM, fewW, Bool.and_eq_true, decide_eq_true_eq, List.all_eq_true] at h
  obtain ⟨⟨⟨⟨⟨f1, f2⟩, f3⟩, f4⟩, ⟨⟨⟨⟨f5, f6⟩, f7⟩, f8⟩, f9⟩⟩, f10, f11⟩ := h
  exact Jtjk A c (by omega) (by omega) (by omega) (by omega) (by omega) (fun l hl => by have := f11 l hl; omega) hp
 have hok2 : ∀ k l, f = true → (∀ L, c.W[k]? = some L → l.Sublist L) → k < c.W.length → okCert (subC c k l) := fun k l h hs hk => by
  have o := ok (hf ▸ h)
  have ht := Jtos c.W k l fun L' hL' => (hs L' hL').length_le
  have := o.w1
  refine ⟨o.s0, o.s1, o.t0, o.t1, o.t2, by show (c.W.set k l).length < _; rw [List.length_set]; exact o.w0, by show wTotal (c.W.set k l) < _; omega, fun x hx => ?_⟩
  have hx : x ∈ c.W.set k l := hx
  rcases Jtfp hx with rfl | hx
  ·have hL : c.W[k]? = some c.W[k] := by simp [hk]
   exact fun q hq => hw _ (List.getElem_mem hk) q ((hs _ hL).subset hq)
  ·exact hw x hx
 obtain ⟨T, hT⟩ : ∃ T, T = Jtkc c := ⟨_, rfl⟩
 have hT2 := hT
 rw [← hf] at cf q3 hfit
 rw [← hT] at q3 hval
 obtain ⟨v, hv⟩ : ∃ v, v = validZ c := ⟨_, rfl⟩
 rw [← hv] at hfit hval
 obtain ⟨sR, hsR⟩ : ∃ x, x = c.S.blocks.map Block.row := ⟨_, rfl⟩
 obtain ⟨tR, htR⟩ : ∃ x, x = c.T.blocks.map MBlock.row := ⟨_, rfl⟩
 obtain ⟨wR, hwR⟩ : ∃ x, x = c.W.map fun l => [pairsD l] := ⟨_, rfl⟩
 simp only [openA, Cert.av, witD, ← hsR, ← htR, ← hwR, Rep.av] at cf q3 qc ⊢
 refine A.law16_CheckerSubset.run rfl fun R hR => ?_
 (simp (maxSteps := 1000000) [Jtb1, AU, boolsD])
 (refine Jts cw (by rfl) (by rfl) ?_)
 (simp (maxSteps := 1000000) [])
 (refine Jts cf (by rfl) (by rfl) ?_)
 (simp (maxSteps := 1000000) [])
 ((first | refine Xc (fun h1 => ?_) (fun h1 => ?_) | refine Xo (fun h1 => ?_) (fun h1 => ?_)) <;> (try simp only [Xz, Xy] at h1))
 ·(simp (maxSteps := 1000000) [h1])
  (refine Jts cw (by rfl) (by rfl) ?_)
  (simp (maxSteps := 1000000) [])
  (first | exact hR _ _ FrA | exact hR _ _ FnA)
 have hft : f = true := by simpa using h1
 (simp (maxSteps := 1000000) [h1])
 (refine Jts (q3 hft) (by rfl) (by rfl) ?_)
 (simp (maxSteps := 1000000) [])
 ((first | refine Xc (fun h3 => ?_) (fun h3 => ?_) | refine Xo (fun h3 => ?_) (fun h3 => ?_)) <;> (try simp only [Xz, Xy] at h3))
 ·(simp (maxSteps := 1000000) [h3])
  (refine Jts cw (by rfl) (by rfl) ?_)
  (simp (maxSteps := 1000000) [])
  (first | exact hR _ _ FrA | exact hR _ _ FnA)
 have he : T.err = 0 := by simpa using h3
 have hv0 := hval he
 have h := hfit hv0 hft
 have few := h.few
 have hlT := h.lenT
 have hlW := h.lenW
 have hpos := h.pos
 obtain ⟨n, hn⟩ : ∃ n, n = c.W.length := ⟨_, rfl⟩
 have hwl : wR.length = n := by rw [hwR, hn]; simp
 have hw1 : ∀ r ∈ wR, r.length = 1 := fun r hr => by rw [hwR] at hr; obtain ⟨l, _, rfl⟩ := List.mem_map.1 hr; rfl
 have qc := qc hft (by omega)
 rw [← hn] at qc hlW
 (simp (maxSteps := 1000000) [h3])
 refine Jtv [] 1 qc (by decide) (by rfl) (by rfl) (by rfl) Jtk4 (by rfl) (by rfl) ?_
 obtain ⟨k, hk⟩ : ∃ k : Nat, at_.tmod (n : Int) = (k : Int) := ⟨(at_.tmod n).toNat, by rw [Int.tmod_eq_emod_of_nonneg hat.1]; have := Int.emod_nonneg at_ (b := (n : Int)) (by omega); omega⟩
 have hkn : k < n := by rw [Int.tmod_eq_emod_of_nonneg hat.1] at hk; have := Int.emod_lt_of_pos at_ (b := (n : Int)) (by omega); omega
 have hw5 : IntKind.i64.wrap at_ = at_ := wrap_i64 (by omega) (by omega)
 have hn0 : n ≠ 0 := by omega
 (simp (maxSteps := 1000000) [hwl, hw5, hk, hn0])
 obtain ⟨L, hL⟩ : ∃ L, c.W[k]? = some L := ⟨_, List.getElem?_eq_getElem (by omega)⟩
 obtain ⟨g1, g2, g3⟩ := h.w L (List.mem_of_getElem? hL)
 have hLR : wR[k]? = some [.sl (L.map Pair.row)] := by rw [hwR, List.getElem?_map, hL]; rfl
 refine Jt9 (fun z : Nat × List Pair => ⟨[(10, AI z.1), (9, .own 2 (z.2.map Pair.row)), (8, AI k), (7, .ptr 2 0), (3, .ptr 0 0), (2, .d (.sl (dr.map Jt5w))), (6, AB false)],
   [.mem [AI c.S.args, AI c.S.regs, .d (.sl sR), AI c.T.args, AI c.T.regs, AI c.T.slots, .d (.sl tR), .d (.sl wR)], .mem (Jtkq wR), .mem [AI c.S.args, AI c.S.regs, .d (.sl sR), AI c.T.args, AI c.T.regs, AI c.T.slots, .d (.sl tR), .hsl 1 0 1 n]]⟩)
  (fun z => z.1 ≤ L.length ∧ z.2.Sublist (L.take z.1)) (fun z => L.length - z.1) (0, []) ⟨Nat.zero_le _, by simp⟩ (by simp only [List.map_nil]; (exact wkA)) ?_
 rintro ⟨i, l⟩ ⟨hi, hsub⟩ N hN
 simp only at hi hsub hN ⊢
 (simp (maxSteps := 1000000) [hLR])
 ((first | refine Xc (fun h4 => ?_) (fun h4 => ?_) | refine Xo (fun h4 => ?_) (fun h4 => ?_)) <;> (try simp only [Xz, Xy] at h4))
 ·have hil : i < L.length := by omega
  have hb : L[i]? = some L[i] := by simp
  have hwi := Jtp7 (k := i) (by omega)
  have hol := hsub.length_le
  rw [List.length_take] at hol
  have hs1 : l.Sublist (L.take (i + 1)) := by
   rw [List.take_add_one]; exact hsub.trans (List.sublist_append_left _ _)
  have hs2 : (l ++ [L[i]]).Sublist (L.take (i + 1)) := by
   rw [List.take_add_one, hb]; exact hsub.append (List.Sublist.refl _)
  (simp (maxSteps := 1000000) [h4])
  by_cases h5 : dr.length ≤ i
  ·(simp (maxSteps := 1000000) [h5, hLR, hb, Pair.row])
   (refine Jt16 (by rfl) (by rfl) (by rfl) ?_ (by decide) ?_ ?_ ?_)
   ·simp
   ·simp; omega
   ·simp; omega
   (simp (maxSteps := 1000000) [hwi])
   exact hN _ (i + 1, l ++ [L[i]]) ⟨hil, hs2⟩ (by simp [Pair.row]; (exact wkA)) (by simp only; omega)
  ·have hdk : i < dr.length := by omega
   have hbd : dr[i]? = some dr[i] := by simp
   cases h6 : dr[i] with
   | true =>
    rw [h6] at hbd
    (simp (maxSteps := 1000000) [h5, hdk, hbd, h6, Jt5w, hwi])
    exact hN _ (i + 1, l) ⟨hil, hs1⟩ (by (exact wkA)) (by simp only; omega)
   | false =>
    rw [h6] at hbd
    (simp (maxSteps := 1000000) [h5, hdk, hbd, h6, Jt5w, hLR, hb, Pair.row])
    (refine Jt16 (by rfl) (by rfl) (by rfl) ?_ (by decide) ?_ ?_ ?_)
    ·simp
    ·simp; omega
    ·simp; omega
    (simp (maxSteps := 1000000) [hwi])
    exact hN _ (i + 1, l ++ [L[i]]) ⟨hil, hs2⟩ (by simp [Pair.row]; (exact wkA)) (by simp only; omega)
 have hi' : i = L.length := by omega
 subst hi'
 rw [List.take_length] at hsub
 obtain ⟨wS, hwS⟩ : ∃ x, x = wR.set k [.sl (l.map Pair.row)] := ⟨_, rfl⟩
 have hwS2 : wS = (subC c k l).W.map fun l => [pairsD l] := by
  rw [hwS, hwR]; show _ = (c.W.set k l).map _; rw [List.map_set]; rfl
 have hwS1 : ∀ r ∈ wS, r.length = 1 := fun r hr => by rw [hwS2] at hr; obtain ⟨l, _, rfl⟩ := List.mem_map.1 hr; rfl
 have hrl : (Jtkq wR).length = n := by rw [Jtkx hw1, hwl, Nat.mul_one]
 have hspl : spl (Jtkq wR) k [.d (.sl (l.map Pair.row))] = Jtkq wS := by
  have := Jtmi hw1 (row := [.sl (l.map Pair.row)]) rfl (k := k) (by omega)
  rw [Nat.mul_one] at this
  rw [hwS]; exact this
 have hspl2 : List.take k (Jtkq wR) ++ .d (.sl (l.map Pair.row)) :: List.drop (k + 1) (Jtkq wR) = Jtkq wS := by
  rw [← hspl]; simp [spl]
 have hsn : n = c.S.blocks.length := hlW
 obtain ⟨b, hb⟩ : ∃ b, c.S.blocks[k]? = some b := ⟨_, List.getElem?_eq_getElem (by omega)⟩
 obtain ⟨m, hm⟩ : ∃ b, c.T.blocks[k]? = some b := ⟨_, List.getElem?_eq_getElem (by omega)⟩
 have mb := List.mem_of_getElem? hb
 have mm := List.mem_of_getElem? hm
 have hbR : sR[k]? = some b.row := by rw [hsR, List.getElem?_map, hb]; rfl
 have hmR : tR[k]? = some m.row := by rw [htR, List.getElem?_map, hm]; rfl
 have hfd := Jtng h hL hsub
 have hl2 : (subC c k l).W[k]? = some l := by show (c.W.set k l)[k]? = _; rw [List.getElem?_set_self (by omega)]
 obtain ⟨l1, l2, l3⟩ := hfd.w l (List.mem_of_getElem? hl2)
 have gd := hfd.good mb mm (List.mem_of_getElem? hl2) 1048576
 have ck := Jtjc A (V := VS) (L := LS) b m l 1048576 l1 (fun q hq => by obtain ⟨a1, a2, a3, a4⟩ := l3 q hq; exact ⟨mem_VS a1 a2, mem_LS a3 a4⟩) (h.vl b mb m mm) VL_few (by omega)
  (by have := h.cs b mb; omega) (by have := h.ct m mm; omega)
 have hbo := Jt5h (c := subC c k l) hb hm hl2
 obtain ⟨x, hx⟩ : ∃ x, x = checkZ b m l 1048576 := ⟨_, rfl⟩
 rw [← hx] at ck gd hbo
 obtain ⟨oR, hoR⟩ : ∃ y, y = x.out.map Pair.row := ⟨_, rfl⟩
 simp only [Res.av, pairsD, ← hoR] at ck
 have hkn2 : k + 1 ≤ n := hkn
 (simp (maxSteps := 1000000) [hrl, hkn, hkn2, hspl, hspl2, hbR, hmR, Block.row, MBlock.row])
 (refine Jts ck (by rfl) (by rfl) ?_)
 have cs := Jtiw A b.term
 have hto := h.to b mb
 obtain ⟨ts, hts⟩ : ∃ t, t = succsZ b.term := ⟨_, rfl⟩
 rw [← hts] at cs hto hbo
 rw [← hsn] at hto
 have htl2 : ts.length ≤ 2 := by rw [hts]; exact Jtno b.term
 have g1 := gd.len
 (simp (maxSteps := 1000000) [hbR, Block.row])
 (refine Jts cs (by rfl) (by rfl) ?_)
 (simp (maxSteps := 1000000) [])
 obtain ⟨o2, ho2⟩ : ∃ y, y = decide (x.err = 0) := ⟨_, rfl⟩
 have ho3 : (x.err == 0) = o2 := by rw [ho2, Bool.eq_iff_iff]; simp
 have lent := Jt6r A S C (subC c k l) (hok2 k l hft (fun L' hL' => by rw [hL] at hL'; injection hL' with hL'; subst hL'; exact hsub) (by omega)) (fun _ => hfd) hwS2 (n := n) (by rw [hn]; show _ = (c.W.set k l).length; rw [List.length_set])
 have rep := Jtnj h (hv ▸ hv0) (hT2 ▸ he) hL hsub
 obtain ⟨U, hU⟩ : ∃ U, U = Jtkc (subC c k l) := ⟨_, rfl⟩
 rw [← hU] at lent rep
 obtain ⟨ok3, hok3⟩ : ∃ y, y = blkOk (subC c k l) k := ⟨_, rfl⟩
 rw [← hok3] at rep hbo
 rw [← ho2] at hbo
 have hSd : (subC c k l).S = c.S := rfl
 have hTd : (subC c k l).T = c.T := rfl
 simp only [hSd, hTd, ← hsR, ← htR, Rep.av] at lent
 refine Jt9 (fun z : Nat × Bool => ⟨[(14, AI z.1), (13, AB z.2), (12, .d (.sl (ts.map fun x => [I x]))), (11, .ptr 3 0), (8, AI k), (7, .ptr 2 0), (3, .ptr 0 0), (6, AB false)],
   [.mem [AI c.S.args, AI c.S.regs, .d (.sl sR), AI c.T.args, AI c.T.regs, AI c.T.slots, .d (.sl tR), .d (.sl wR)], .mem (Jtkq wS), .mem [AI c.S.args, AI c.S.regs, .d (.sl sR), AI c.T.args, AI c.T.regs, AI c.T.slots, .d (.sl tR), .hsl 1 0 1 n], .mem [.d (.sl oR), AI x.err, AI x.at_, AI x.steps, AI x.largest]]⟩)
  (fun z => z.1 ≤ ts.length ∧ z.2 = (o2 && (ts.take z.1).all (hasE (subC c k l).W x.out))) (fun z => ts.length - z.1) (0, o2) ⟨Nat.zero_le _, by simp⟩ (by simp only [ho3]; (exact wkA)) ?_
 rintro ⟨i, u⟩ ⟨hi, hu⟩ N hN
 simp only at hi hu hN ⊢
 have fin : i = ts.length ∨ u = false → u = ok3 := by
  rintro (hkl | huf)
  ·rw [hbo, hu, hkl, List.take_length]
  ·rw [hbo, huf]
   rw [huf] at hu
   cases hoo : o2 with
   | false => rfl
   | true =>
    rw [hoo, Bool.true_and] at hu
    symm
    rw [Bool.true_and, ← Bool.not_eq_true, List.all_eq_true]
    intro hall
    have : (ts.take i).all (hasE (subC c k l).W x.out) = true := List.all_eq_true.2 fun y hy => hall y (List.mem_of_mem_take hy)
    rw [this] at hu; cases hu
 have done : i = ts.length ∨ u = false → u = true → U.err = 0 := fun h1 h2 => rep.1 (by rw [← fin h1]; exact h2)
 have done2 : i = ts.length ∨ u = false → u = false → U.err ≠ 0 ∧ U.block = (k : Int) := fun h1 h2 => rep.2 (by rw [← fin h1]; exact h2)
 (simp (maxSteps := 1000000) [])
 ((first | refine Xc (fun h6 => ?_) (fun h6 => ?_) | refine Xo (fun h6 => ?_) (fun h6 => ?_)) <;> (try simp only [Xz, Xy] at h6))
 ·have hil : i < ts.length := by simpa using h6
  (simp (maxSteps := 1000000) [h6])
  cases u with
  | false =>
   obtain ⟨e1, e2⟩ := done2 (.inr rfl) rfl
   (simp (maxSteps := 1000000) [])
   refine Jtu [1] lent (by decide) (by rfl) (by rfl) Jtk4 Jtk4 (by rfl) (by rfl) ?_
   (simp (maxSteps := 1000000) [e1, e2])
   (first | exact hR _ _ FrA | exact hR _ _ FnA)
  | true =>
   have ht : ts[i]? = some ts[i] := by simp
   obtain ⟨d1, d2⟩ := hto _ (List.getElem_mem hil)
   obtain ⟨tn, htn⟩ : ∃ tn : Nat, ts[i] = (tn : Int) := ⟨ts[i].toNat, by omega⟩
   have htk : (ts.take (i + 1)).all (hasE (subC c k l).W x.out) = ((ts.take i).all (hasE (subC c k l).W x.out) && hasE (subC c k l).W x.out ts[i]) := by
    rw [List.take_add_one, ht, List.all_append]; simp
   rw [htn] at ht d2 htk
   have hdl : (subC c k l).W.length = n := by show (c.W.set k l).length = _; rw [List.length_set]; exact hn.symm
   obtain ⟨wt, hWt⟩ : ∃ w, (subC c k l).W[tn]? = some w := ⟨_, List.getElem?_eq_getElem (by omega)⟩
   obtain ⟨y1, y2, y3⟩ := hfd.w wt (List.mem_of_getElem? hWt)
   have hcell : (Jtkq wS)[tn]? = some (.d (.sl (wt.map Pair.row))) := cells1 hwS1 (by rw [hwS2, List.getElem?_map, hWt]; rfl)
   have ci := Jtj3 A wt x.out (by omega) (by omega)
   have hE : hasE (subC c k l).W x.out (tn : Int) = !(missP wt x.out).isSome := by
    show (!(missP (((subC c k l).W[tn]?).getD []) x.out).isSome) = _; rw [hWt]; rfl
   rw [hE] at htk
   obtain ⟨b1, hb1⟩ : ∃ b, b = (missP wt x.out).isSome := ⟨_, rfl⟩
   obtain ⟨pr, hpr⟩ : ∃ y, y = (missP wt x.out).getD ⟨0, 0⟩ := ⟨_, rfl⟩
   simp only [missA, ← hb1, ← hpr, pairsD, ← hoR, Pair.av] at ci
   rw [← hb1] at htk
   have hwi := Jtp7 (k := i) (by omega)
   have htn2 : tn < n := by omega
   (simp (maxSteps := 1000000) [ht, htn, hcell, htn2])
   (refine Jts ci (by rfl) (by rfl) ?_)
   (simp (maxSteps := 1000000) [hwi])
   exact hN _ (i + 1, !b1) ⟨hil, by simp only; rw [htk, ← Bool.and_assoc, ← hu]; rfl⟩ (by (exact wkA)) (by simp only; omega)
 ·have hkl : i = ts.length := by simp at h6; omega
  have done := done (.inl hkl)
  have done2 := done2 (.inl hkl)
  (simp (maxSteps := 1000000) [h6])
  refine Jtu [1] lent (by decide) (by rfl) (by rfl) Jtk4 Jtk4 (by rfl) (by rfl) ?_
  cases u with
  | true =>
   have e1 := done rfl
   (simp (maxSteps := 1000000) [e1])
   (first | exact hR _ _ FrA | exact hR _ _ FnA)
  | false =>
   obtain ⟨e1, e2⟩ := done2 rfl
   (simp (maxSteps := 1000000) [e1, e2])
   (first | exact hR _ _ FrA | exact hR _ _ FnA)
end
end Go.AE
