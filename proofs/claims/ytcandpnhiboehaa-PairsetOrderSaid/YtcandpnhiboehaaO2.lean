/- A part of the proof: the evaluator over abstract values, its codes, the contracts of the functions. -/
import Derived.Test.YtcandpnhiboehaaO1
import Derived.ProofKit
import Derived.Below
import Derived.ChangeArms
import Derived.Shelf.SlSortCmp.NoneTotal
import Derived.Test.YtcandpnhiboehaaProg
set_option linter.unusedVariables false
set_option linter.unusedSimpArgs false
/- From a reading of the arguments to abstract values; from a call's contract to what the row asks. -/
set_option linter.unusedVariables false
namespace Go.AE
open Go

/-- The cells of a plain type. -/
inductive LT where
  | int (k : IntKind)
  | bool
  | str
  | sl (ls : List LT)
  deriving Inhabited

def flatFs (flat : TypeId → Option (List LT)) (sz : TypeId → Nat) : List Field → Nat → Option (List LT)
  | [], _ => some []
  | f :: fs, o => if f.offset = o then (match flat f.type with
      | some l => if l.length = sz f.type then (match flatFs flat sz fs (o + l.length) with | some r => some (l ++ r) | none => none) else none
      | none => none) else none

def flatT (P : Program) : Nat → TypeId → Option (List LT)
  | 0, _ => none
  | n + 1, t => match P.underlying t with
    | some (.int k) => some [.int k]
    | some .bool => some [.bool]
    | some .string => some [.str]
    | some (.slice e) => match flatT P n e with
      | some ls => if 0 < ls.length ∧ ls.length = P.cellsOf e then some [.sl ls] else none
      | none => none
    | some (.struct fs) => match flatFs (flatT P n) P.cellsOf fs.toList 0 with
      | some ls => if ls.length = P.cellsOf t then some ls else none
      | none => none
    | _ => none

inductive HasT : LT → D → Prop where
  | int (k : IntKind) (n : Int) (h : (Lit.int k n).wf = true) : HasT (.int k) (.int k n)
  | bool (b : Bool) : HasT .bool (.bool b)
  | str (s : List UInt8) (h : s.length ≤ maxLen) : HasT .str (.str s)
  | sl (ls : List LT) (rows : List (List D)) (hl : rows.length ≤ maxLen) (h0 : ∀ r ∈ rows, r.length = ls.length) (h : ∀ r ∈ rows, ∀ (j : Nat) (l : LT) (x : D), ls[j]? = some l → r[j]? = some x → HasT l x) : HasT (.sl ls) (.sl rows)
def HasL (ls : List LT) (ds : List D) : Prop := ds.length = ls.length ∧ ∀ (j : Nat) (l : LT) (x : D), ls[j]? = some l → ds[j]? = some x → HasT l x
theorem HasL.nil : HasL [] [] := ⟨rfl, fun j l x h => by simp at h⟩
theorem HasL.one {l : LT} {x : D} (h : HasT l x) : HasL [l] [x] := ⟨rfl, fun j l' x' h1 h2 => by
  cases j with
  | zero => simp at h1 h2; subst h1; subst h2; exact h
  | succ j => simp at h1⟩
theorem HasL.append {l l' : List LT} {d d' : List D} (h : HasL l d) (h' : HasL l' d') : HasL (l ++ l') (d ++ d') := by
  refine ⟨by simp [h.1, h'.1], fun j x y h1 h2 => ?_⟩
  by_cases hj : j < l.length
  · rw [List.getElem?_append_left hj] at h1
    rw [List.getElem?_append_left (by rw [h.1]; exact hj)] at h2
    exact h.2 j x y h1 h2
  · rw [List.getElem?_append_right (by omega)] at h1
    rw [List.getElem?_append_right (by rw [h.1]; omega), h.1] at h2
    exact h'.2 _ x y h1 h2

noncomputable def sizes (w : World) (r : Nat) : Nat := match w.heap[r]? with | some (.cells c _ _) => c.size | _ => 0
theorem fixed_of_cells {w : World} {ad : Addr} {vs : List Value} (h : cellsAt w ad vs) : fixedAt (sizes w) ad vs.length := by
  intro j hj
  have h1 := h j vs[j] (by simp [hj])
  obtain ⟨h2, _⟩ := cell_add h1
  rw [h2] at h1
  unfold World.cell? at h1
  unfold sizes
  simp only at h1
  split at h1
  · rename_i c e fr hc
    simp only [hc]
    simp at h1
    exact (Array.getElem?_eq_some_iff.1 h1).1
  · cases h1

section
variable {H : Type} {enc : TypeId × Value → H} {P : Program} {w : World} {base : Nat} {spare : Nat → Bool} {held : Bool}

/-- What a list of cells reads as. -/
def Reads (w : World) (ls : List LT) (cs : List Value) : Prop := ∃ ds : List D, cs.length = ds.length ∧ HasL ls ds ∧ ∀ (j : Nat) (y : D) (u : Value), ds[j]? = some y → cs[j]? = some u → PRel (sizes w) w y u

theorem reads_fs {flat : TypeId → Option (List LT)} {sz : TypeId → Nat} {cs : List Value} : ∀ (fs : List Field) (o : Nat) (ls : List LT), flatFs flat sz fs o = some ls →
    (∀ f ∈ fs, ∀ l, flat f.type = some l → Reads w l ((cs.drop f.offset).take (sz f.type))) → cs.length = o + ls.length → Reads w ls (cs.drop o) := by
  intro fs
  induction fs with
  | nil =>
    intro o ls h _ hl
    simp [flatFs] at h; subst h
    refine ⟨[], by simp at hl ⊢; omega, .nil, fun j y u h => by simp at h⟩
  | cons f fs ih =>
    intro o ls h hf hl
    simp only [flatFs] at h
    split at h
    · rename_i ho
      split at h
      · rename_i l hfl
        split at h
        · rename_i hls
          split at h
          · rename_i r hr
            injection h with h; subst h
            rw [List.length_append] at hl
            obtain ⟨d1, e1, h1, p1⟩ := hf f (by simp) l hfl
            obtain ⟨d2, e2, h2, p2⟩ := ih (o + l.length) r hr (fun g hg => hf g (by simp [hg])) (by omega)
            rw [ho, ← hls] at e1 p1
            have hd1 : d1.length = l.length := h1.1
            have hcs : cs.drop o = (cs.drop o).take l.length ++ cs.drop (o + l.length) := by
              conv => lhs; rw [← List.take_append_drop l.length (cs.drop o), List.drop_drop]
            have htl : ((cs.drop o).take l.length).length = l.length := by rw [e1, hd1]
            refine ⟨d1 ++ d2, ?_, h1.append h2, ?_⟩
            · rw [hcs, List.length_append, List.length_append, e1, e2]
            · intro j y u hy hu
              rw [hcs] at hu
              by_cases hj : j < l.length
              · rw [List.getElem?_append_left (by omega)] at hy
                rw [List.getElem?_append_left (by omega)] at hu
                exact p1 j y u hy hu
              · rw [List.getElem?_append_right (by omega), hd1] at hy
                rw [List.getElem?_append_right (by omega), htl] at hu
                exact p2 _ y u hy hu
          · cases h
        · cases h
      · cases h
    · cases h

theorem choose_rows {Q : Nat → List D → List Value → Prop} : ∀ (n : Nat), (∀ i, i < n → ∃ r c, Q i r c) → ∃ (R : List (List D)) (C : List (List Value)), R.length = n ∧ C.length = n ∧ ∀ i r c, R[i]? = some r → C[i]? = some c → Q i r c := by
  intro n
  induction n with
  | zero => intro _; exact ⟨[], [], rfl, rfl, fun i r c h => by simp at h⟩
  | succ n ih =>
    intro h
    obtain ⟨R, C, h1, h2, h3⟩ := ih fun i hi => h i (by omega)
    obtain ⟨r, c, hq⟩ := h n (by omega)
    refine ⟨R ++ [r], C ++ [c], by simp [h1], by simp [h2], fun i r' c' hr hc => ?_⟩
    by_cases hi : i < n
    · rw [List.getElem?_append_left (by omega)] at hr hc
      exact h3 i r' c' hr hc
    · have hin : i = n := by
        have := (List.getElem?_eq_some_iff.1 hr).1
        simp [h1] at this; omega
      subst hin
      rw [List.getElem?_append_right (by omega)] at hr hc
      simp [h1] at hr; simp [h2] at hc
      subst hr; subst hc; exact hq

theorem reads : ∀ (n m : Nat) (t : TypeId) (cs : List Value) (x : DataW H × List MemPlace) (ls : List LT), DataW.trod enc P w base spare held n t cs = some x → flatT P m t = some ls → Reads w ls cs := by
  intro n
  induction n with
  | zero => intro m t cs x ls h; simp [DataW.trod] at h
  | succ n ih =>
    intro m t cs x ls h hf
    cases m with
    | zero => simp [flatT] at hf
    | succ m =>
      unfold flatT at hf
      split at hf
      · rename_i k hk
        injection hf with hf; subst hf
        obtain ⟨z, rfl, _, hw⟩ := DataW.trod_int hk h
        exact ⟨[.int k z], rfl, .one (.int k z hw), fun j y u hy hu => by
          cases j with
          | zero => simp at hy hu; subst hy; subst hu; exact .int k z
          | succ j => simp at hy⟩
      · rename_i hk
        injection hf with hf; subst hf
        obtain ⟨b, rfl, _⟩ := DataW.trod_bool hk h
        exact ⟨[.bool b], rfl, .one (.bool b), fun j y u hy hu => by
          cases j with
          | zero => simp at hy hu; subst hy; subst hu; exact .bool b
          | succ j => simp at hy⟩
      · rename_i hk
        injection hf with hf; subst hf
        obtain ⟨s, rfl, _, hw⟩ := DataW.trod_string hk h
        have es : s = ⟨s.data.toList.toArray⟩ := by cases s; simp
        refine ⟨[.str s.data.toList], rfl, .one (.str _ (by rw [Array.length_toList]; exact hw)), fun j y u hy hu => ?_⟩
        cases j with
        | zero =>
          simp at hy hu; subst hy; subst hu
          have := PRel.str (F := sizes w) (w := w) s.data.toList
          rwa [← es] at this
        | succ j => simp at hy
      · rename_i e hk
        split at hf
        · rename_i l hl
          split at hf
          · rename_i hls
            injection hf with hf; subst hf
            obtain ⟨hpos, hce⟩ := hls
            rcases DataW.trod_slice hk h with ⟨rfl, _⟩ | ⟨a, len, cap, elems, rest, n', hn, rfl, hx, hb, hlc, hcm, hel, hget, _, _⟩
            · refine ⟨[.sl []], rfl, .one (.sl l [] (by simp) (by simp) (by simp)), fun j y u hy hu => ?_⟩
              cases j with
              | zero => simp at hy hu; subst hy; subst hu; exact .nil _ _
              | succ j => simp at hy
            · injection hn with hn; subst hn
              have hrow : ∀ i, i < len → ∃ (r : List D) (c : List Value), c.length = r.length ∧ HasL l r ∧ (∀ (j : Nat) (y : D) (u : Value), r[j]? = some y → c[j]? = some u → PRel (sizes w) w y u) ∧ ∀ k u, c[k]? = some u → w.cell? (a.add (i * l.length + k)) = some u := by
                intro i hi
                have hg := hget i hi
                have : i < elems.length := by omega
                rw [List.getElem?_eq_getElem this, Option.bind_eq_some_iff] at hg
                obtain ⟨c, hc, ht⟩ := hg
                obtain ⟨r, h1, h2, h3⟩ := ih m e c _ l ht hl
                refine ⟨r, c, h1, h2, h3, fun k u hu => ?_⟩
                obtain ⟨_, hclen, hcell⟩ := World.cells?_some hc
                have hk' : k < P.cellsOf e := by have := (List.getElem?_eq_some_iff.1 hu).1; omega
                have := hcell k hk'
                rw [Addr.add_add, ← hce] at this
                rw [this]; exact hu
              obtain ⟨R, C, hR, hC, hRC⟩ := choose_rows len hrow
              have hRl : ∀ r ∈ R, r.length = l.length := by
                intro r hr
                obtain ⟨i, hi, rfl⟩ := List.mem_iff_getElem.1 hr
                exact (hRC i _ C[i] (List.getElem?_eq_getElem hi) (List.getElem?_eq_getElem (by omega))).2.1.1
              have hCl : ∀ c ∈ C, c.length = l.length := by
                intro c hc
                obtain ⟨i, hi, rfl⟩ := List.mem_iff_getElem.1 hc
                have := hRC i R[i] _ (List.getElem?_eq_getElem (by omega)) (List.getElem?_eq_getElem hi)
                rw [this.1, this.2.1.1]
              have hsplit : ∀ j : Nat, j = j / l.length * l.length + j % l.length := fun j => by rw [Nat.mul_comm]; exact (Nat.div_add_mod j l.length).symm
              have hcells : cellsAt w a C.flatten := by
                intro j u hu
                rw [hsplit j, flatten_get C l.length hCl _ _ (Nat.mod_lt _ hpos), Option.bind_eq_some_iff] at hu
                obtain ⟨c, hc, hu⟩ := hu
                have hi : j / l.length < len := by have := (List.getElem?_eq_some_iff.1 hc).1; omega
                have := (hRC _ R[j / l.length] c (by simp [hR, hi]) hc).2.2.2 _ u hu
                rw [← hsplit j] at this; exact this
              have hflen : ∀ {α : Type} (L : List (List α)) (k : Nat), (∀ r ∈ L, r.length = k) → L.flatten.length = L.length * k := by
                intro α L k hL
                induction L with
                | nil => simp
                | cons r L ih3 =>
                  have h1 := hL r (by simp)
                  have h2 := ih3 fun r hr => hL r (by simp [hr])
                  simp only [List.flatten_cons, List.length_append, List.length_cons, h1, h2, Nat.add_mul, Nat.one_mul]; omega
              refine ⟨[.sl R], rfl, .one (.sl l R (by omega) hRl ?_), fun j y u hy hu => ?_⟩
              · intro r hr j l' x' h1 h2
                obtain ⟨i, hi, rfl⟩ := List.mem_iff_getElem.1 hr
                exact (hRC i _ C[i] (List.getElem?_eq_getElem hi) (List.getElem?_eq_getElem (by omega))).2.1.2 j l' x' h1 h2
              · cases j with
                | succ j => simp at hy
                | zero =>
                  simp at hy hu; subst hy; subst hu
                  have := PRel.sl (F := sizes w) (w := w) R a cap l.length C.flatten hRl (by rw [hflen C _ hCl, hC, hR]) (by omega) (fixed_of_cells hcells) hcells ?_
                  · rwa [hR] at this
                  · intro j y u hy hu
                    rw [hsplit j, flatten_get R l.length hRl _ _ (Nat.mod_lt _ hpos), Option.bind_eq_some_iff] at hy
                    rw [hsplit j, flatten_get C l.length hCl _ _ (Nat.mod_lt _ hpos), Option.bind_eq_some_iff] at hu
                    obtain ⟨r, hr, hy⟩ := hy
                    obtain ⟨c, hc, hu⟩ := hu
                    exact (hRC _ r c hr hc).2.2.1 _ y u hy hu
          · cases hf
        · cases hf
      · rename_i fs hk
        split at hf
        · rename_i l hl
          split at hf
          · rename_i hls
            injection hf with hf; subst hf
            obtain ⟨xs, n', hn, _, hcl, hxl, hget⟩ := DataW.trod_struct hk h
            injection hn with hn; subst hn
            have := reads_fs (w := w) (cs := cs) fs.toList 0 l hl ?_ (by omega)
            · simpa using this
            · intro f hfm l' hl'
              obtain ⟨i, hi, rfl⟩ := List.mem_iff_getElem.1 hfm
              have hi' : i < fs.size := by simpa using hi
              have hg := hget i fs[i] (by simp [hi'])
              have : i < xs.length := by omega
              rw [List.getElem?_eq_getElem this] at hg
              exact ih m _ _ _ l' hg hl'
          · cases hf
        · cases hf
      · cases hf
end

def AV.plain : AV → Bool
  | .d _ => true
  | .agg _ => true
  | _ => false
theorem AV.plain_erase {x : AV} (h : x.plain = true) : x.erase = x := by cases x <;> simp_all [AV.plain, AV.erase]
theorem sim_start {w : World} {args : List AV} {vs : Array Value} (hs : vs.size = args.length) (hp : ∀ x ∈ args, x.plain = true)
    (hr : ∀ (j : Nat) (x : AV) (v : Value), args[j]? = some x → vs[j]? = some v → Rel (sizes w) (fun _ => none) w x v) : Sim args.length ⟨enum 0 args, []⟩ ⟨fun _ => none, sizes w⟩ ⟨vs, []⟩ w ∧ ∀ r, ¬ Mine ⟨enum 0 args, []⟩ ⟨fun _ => none, sizes w⟩ ⟨vs, []⟩ w r := by
  have hno : ∀ p e rows, AP ⟨enum 0 args, []⟩ p ≠ some (.own e rows) := by
    intro p e rows h
    cases p with
    | tmp t =>
      simp only [AP, get_enum0] at h
      have := hp _ (List.mem_of_getElem? h)
      simp [AV.plain] at this
    | cell b j => simp [AP] at h
  have hown : ∀ p r, ¬ Owner ⟨enum 0 args, []⟩ (fun _ => none) ⟨vs, []⟩ w p r := by
    rintro p r ⟨e, rows, v, h, _⟩
    exact hno p e rows h
  refine ⟨⟨by simp [hs], ?_, rfl, ?_, ?_, ?_, ?_, ?_, ?_, ?_, ?_, ?_⟩, ?_⟩
  · intro t x h
    rw [get_enum0] at h
    rw [AV.plain_erase (hp x (List.mem_of_getElem? h))]
    have ht : t < vs.size := by have := (List.getElem?_eq_some_iff.1 h).1; omega
    refine hr t x _ h ?_
    simp [Array.getD_eq_getD_getElem?, ht]
  · intro b b' r h; cases h
  · intro b r h; cases h
  · intro b k h; simp at h
  · intro b cells r h; simp at h
  · intro b s pos r h; simp at h
  · intro p e rows v h; exact absurd h (hno p e rows)
  · intro p p' r h; exact absurd h (hown p r)
  · intro p r b h; exact absurd h (hown p r)
  · intro t org e rows h
    rw [get_enum0] at h
    have := hp _ (List.mem_of_getElem? h)
    simp [AV.plain] at this
  · rintro r (⟨b, h⟩ | ⟨p, h⟩)
    · cases h
    · exact hown p r h

/-- A law's call: true, and what was there is as it was. -/
theorem CallsTo.law {P : Program} {f : Nat} {args : List AV} (h : CallsTo P f args [] fun o _ => o = .ret (.d (.bool true))) {w : World} {vs : Array Value} (hs : vs.size = args.length) (hp : ∀ x ∈ args, x.plain = true)
    (hr : ∀ (j : Nat) (x : AV) (v : Value), args[j]? = some x → vs[j]? = some v → Rel (sizes w) (fun _ => none) w x v) : Calls P f vs w fun e w' => e = .returned (.bool true) ∧ RowKit.Below w.heap.size w w' := by
  obtain ⟨h1, h2⟩ := sim_start hs hp hr
  refine (h _ vs w hs h1).mono ?_
  rintro e w' ⟨o, H', g', v, rfl, rfl, hsim, htr, _, _, _⟩
  have hv : Rel g'.F g'.φ w' (.d (.bool true)) v := hsim.env 0 (.d (.bool true)) (by simp [get, AOut.val])
  cases hv with
  | d _ _ hv =>
    cases hv
    exact ⟨rfl, ⟨htr.os, htr.tape, htr.output, htr.size, fun k hk => (htr.other k hk (h2 k)).1⟩⟩

/-- An argument's cells as one abstract value. -/
theorem rel_agg {w : World} {ls : List LT} {cs : Array Value} (h : Reads w ls cs.toList) : ∃ ds, HasL ls ds ∧ Rel (sizes w) (fun _ => none) w (.agg (ds.map AV.d)) (.agg cs) := by
  obtain ⟨ds, h1, h2, h3⟩ := h
  refine ⟨ds, h2, ?_⟩
  have := Rel.agg (F := sizes w) (φ := fun _ => none) (w := w) (ds.map AV.d) cs.toList (by simp [h1]) ?_
  · simpa using this
  · intro j x u hx hu
    rw [List.getElem?_map, Option.map_eq_some_iff] at hx
    obtain ⟨y, hy, rfl⟩ := hx
    exact .d _ _ (h3 j y u hy hu)
theorem rel_one {w : World} {l : LT} {v : Value} (h : Reads w [l] [v]) : ∃ d, HasT l d ∧ Rel (sizes w) (fun _ => none) w (.d d) v := by
  obtain ⟨ds, h1, h2, h3⟩ := h
  match ds, h1 with
  | [d], _ => exact ⟨d, h2.2 0 l d rfl rfl, .d _ _ (h3 0 d v rfl rfl)⟩
theorem struct_val {P : Program} {w : World} {base : Nat} {t : TypeId} {fs : Array Field} {v : Value} (hu : P.underlying t = some (.struct fs)) (h : Value.okWide P w .any base t v) : ∃ cs, v = .agg cs := by
  unfold Value.okWide at h
  rw [hu] at h
  obtain ⟨cs, h, _⟩ := h
  exact ⟨cs, h⟩
theorem trodAll_consP {H : Type} {enc : TypeId × Value → H} {P : Program} {w : World} {base : Nat} {spare : Nat → Bool} {held : Bool} {t : TypeId} {ts : List TypeId} {v : Value} {vs : List Value} {d : DataW H} {ds : List (DataW H)} {p p' : List MemPlace}
    (h : DataW.Trod enc P w base spare held t v d p) (hs : DataW.TrodAll enc P w base spare held ts vs ds p') : DataW.TrodAll enc P w base spare held (t :: ts) (v :: vs) (d :: ds) (p ++ p') := ⟨p, p', h, hs, rfl⟩
end Go.AE

/- The codes of the functions, as the evaluator has them, in pieces (printed by gen2.py). -/
set_option maxRecDepth 100000
set_option linter.unusedVariables false
namespace Go.AE
structure Nums where
  law11_PairsetMatchesReference : Nat
  law11_PairsetMatchesSets : Nat
  law11_PairsetOrder : Nat
  law11_PairsetSubsets : Nat
  law23_LivenessMatchesReference : Nat
  law23_LivenessEquations : Nat
  law23_LivenessSound : Nat
  law23_LivenessNecessary : Nat
  law23_LivenessAppended : Nat
  law11_PairsetDrops : Nat
  law11_PairsetKeeps : Nat
  law11_awake : Nat
  ref11_Make : Nat
  pairset_Missing : Nat
  ref11_Missing : Nat
  pairset_Sorted : Nat
  ref11_Sorted : Nat
  ref11_Same : Nat
  pairset_Make : Nat
  pairset_Has : Nat
  ref11_Has : Nat
  pairset_Add : Nat
  ref11_Add : Nat
  pairset_Subset : Nat
  pairset_Union : Nat
  pairset_Less : Nat
  law23_awake : Nat
  ref07_Few : Nat
  ref07_Check : Nat
  ref23_Used : Nat
  ref23_Defines : Nat
  ref07_Numbers : Nat
  liveness_Uses : Nat
  liveness_Defs : Nat
  ref23_Same : Nat
  liveness_In : Nat
  ref23_In : Nat
  liveness_Out : Nat
  ref23_Out : Nat
  ref07_Successors : Nat
  ref23_Has : Nat
  ref09_Right : Nat
  ref09_Exec : Nat
  ref09_Step : Nat
  ref09_Copy : Nat
  ref09_Values : Nat
  ref07_Copy : Nat
  pairset_DropV : Nat
  pairset_DropL : Nat
  law11_spoil : Nat
  ref11_Less : Nat
  slices_Clone_Pair : Nat
  slices_SortFunc_Pair : Nat
  pairset_compare : Nat
  slices_Compact_Pair : Nat
  pairset_find : Nat
  ref07_Code : Nat
  ref07_Instr : Nat
  ref07_Term : Nat
  ref05_UsesA : Nat
  ref05_UsesB : Nat
  ref05_UsesD : Nat
  liveness_scan : Nat
  liveness_set_sorted : Nat
  liveness_solve : Nat
  ref23_live : Nat
  liveness_exit : Nat
  ref09_Start : Nat
  ref06_Eval : Nat
  pairset_filter : Nat
  pairset_DropV_1 : Nat
  pairset_DropL_1 : Nat
  slices_pdqsortCmpFunc_Pair : Nat
  math_bits_Len : Nat
  ref07_in : Nat
  liveness_scan_1 : Nat
  opcode_Of : Nat
  slices_Sort_int : Nat
  source_Successors : Nat
  ref06_bits : Nat
  ref06_half : Nat
  ref06_truth : Nat
  slices_insertionSortCmpFunc_Pair : Nat
  slices_heapSortCmpFunc_Pair : Nat
  slices_breakPatternsCmpFunc_Pair : Nat
  slices_choosePivotCmpFunc_Pair : Nat
  slices_reverseRangeCmpFunc_Pair : Nat
  slices_partialInsertionSortCmpFunc_Pair : Nat
  slices_partitionEqualCmpFunc_Pair : Nat
  slices_partitionCmpFunc_Pair : Nat
  math_bits_Len32 : Nat
  math_bits_Len64 : Nat
  opcode_known : Nat
  slices_pdqsortOrdered_int : Nat
  ref06_bit : Nat
  slices_siftDownCmpFunc_Pair : Nat
  slices_nextPowerOfTwo : Nat
  slices_xorshift_Next : Nat
  slices_medianAdjacentCmpFunc_Pair : Nat
  slices_medianCmpFunc_Pair : Nat
  slices_insertionSortOrdered_int : Nat
  slices_heapSortOrdered_int : Nat
  slices_breakPatternsOrdered_int : Nat
  slices_choosePivotOrdered_int : Nat
  slices_reverseRangeOrdered_int : Nat
  slices_partialInsertionSortOrdered_int : Nat
  cmp_Less_int : Nat
  slices_partitionEqualOrdered_int : Nat
  slices_partitionOrdered_int : Nat
  slices_order2CmpFunc_Pair : Nat
  slices_siftDownOrdered_int : Nat
  slices_medianAdjacentOrdered_int : Nat
  slices_medianOrdered_int : Nat
  cmp_isNaN_int : Nat
  slices_order2Ordered_int : Nat
  law22_SpillallMatchesReference : Nat
  law22_SpillallKeeps : Nat
  law22_SpillallSlots : Nat
  law22_awake : Nat
  spillall_Cert : Nat
  ref22_Cert : Nat
  ref16_Same : Nat
  spillall_Moves : Nat
  ref08_Moves : Nat
  ref22_Block : Nat
  ref07_Same : Nat
  interp_Exec : Nat
  execute_Exec : Nat
  spillall_Block : Nat
  source_Check : Nat
  slices_Clone_Instr : Nat
  spillall_invariant : Nat
  ref08_Code : Nat
  ref08_Same : Nat
  ref15_Same : Nat
  ref22_move : Nat
  interp_begin : Nat
  interp_state_step : Nat
  execute_begin : Nat
  execute_state_step : Nat
  spillall_builder_instr : Nat
  spillall_builder_add : Nat
  spillall_load : Nat
  source_Code : Nat
  source_block : Nat
  location_Slot : Nat
  interp_state_instr : Nat
  interp_state_term : Nat
  execute_state_instr : Nat
  execute_state_term : Nat
  spillall_store : Nat
  location_Reg : Nat
  source_Instr : Nat
  source_Term : Nat
  alu_Eval : Nat
  execute_state_compute : Nat
  execute_state_move : Nat
  execute_state_emit : Nat
  opcode_Source : Nat
  source_within : Nat
  source_blank : Nat
  alu_operation : Nat
  execute_state_at : Nat
  alu_operation_1 : Nat
  alu_operation_2 : Nat
  alu_operation_3 : Nat
  alu_operation_4 : Nat
  alu_operation_5 : Nat
  alu_operation_6 : Nat
  alu_operation_7 : Nat
  alu_operation_8 : Nat
  alu_operation_9 : Nat
  alu_operation_10 : Nat
  alu_operation_11 : Nat
  alu_truth : Nat
  alu_operation_12 : Nat
  location_IsSlot : Nat
  location_Index : Nat
def law11_PairsetOrder_c1 (p : Nums) : IC := (.region [⟨(some 3), (.box (.t 0)), none, false⟩, ⟨(some 4), (.box (.t 1)), none, false⟩, ⟨(some 5), (.box (.t 2)), none, false⟩, ⟨(some 6), (.asg (.c (.d (.bool false)))), none, false⟩] [])
@[simp] theorem law11_PairsetOrder_c1_eq {P m Q st} {p : Nums} : AW P m (law11_PairsetOrder_c1 p) Q st ↔ AW P m (.region [⟨(some 3), (.box (.t 0)), none, false⟩, ⟨(some 4), (.box (.t 1)), none, false⟩, ⟨(some 5), (.box (.t 2)), none, false⟩, ⟨(some 6), (.asg (.c (.d (.bool false)))), none, false⟩] []) Q st := Iff.rfl
def law11_PairsetOrder_c2 (p : Nums) : IC := (.seq (.region [⟨(some 6), (.asg (.c (.d (.bool false)))), none, false⟩] []) .ret)
@[simp] theorem law11_PairsetOrder_c2_eq {P m Q st} {p : Nums} : AW P m (law11_PairsetOrder_c2 p) Q st ↔ AW P m (.seq (.region [⟨(some 6), (.asg (.c (.d (.bool false)))), none, false⟩] []) .ret) Q st := Iff.rfl
def law11_PairsetOrder_c3 (p : Nums) : IC := (.region [⟨(some 10), (.load (some 2) (.t 3)), none, false⟩, ⟨(some 11), (.load (some 2) (.t 4)), none, false⟩, ⟨(some 12), (.call p.pairset_Less [(.t 10), (.t 11)]), none, false⟩] [])
@[simp] theorem law11_PairsetOrder_c3_eq {P m Q st} {p : Nums} : AW P m (law11_PairsetOrder_c3 p) Q st ↔ AW P m (.region [⟨(some 10), (.load (some 2) (.t 3)), none, false⟩, ⟨(some 11), (.load (some 2) (.t 4)), none, false⟩, ⟨(some 12), (.call p.pairset_Less [(.t 10), (.t 11)]), none, false⟩] []) Q st := Iff.rfl
def law11_PairsetOrder_c4 (p : Nums) : IC := (.region [⟨(some 13), (.mov (.t 7)), none, false⟩, ⟨(some 14), (.bin .add (.t 13) (.c (.d (.int .i64 1)))), none, false⟩, ⟨(some 7), (.asg (.t 14)), none, false⟩] [])
@[simp] theorem law11_PairsetOrder_c4_eq {P m Q st} {p : Nums} : AW P m (law11_PairsetOrder_c4 p) Q st ↔ AW P m (.region [⟨(some 13), (.mov (.t 7)), none, false⟩, ⟨(some 14), (.bin .add (.t 13) (.c (.d (.int .i64 1)))), none, false⟩, ⟨(some 7), (.asg (.t 14)), none, false⟩] []) Q st := Iff.rfl
def law11_PairsetOrder_c5 (p : Nums) : IC := (.region [⟨(some 15), (.load (some 2) (.t 4)), none, false⟩, ⟨(some 16), (.load (some 2) (.t 3)), none, false⟩, ⟨(some 17), (.call p.pairset_Less [(.t 15), (.t 16)]), none, false⟩] [])
@[simp] theorem law11_PairsetOrder_c5_eq {P m Q st} {p : Nums} : AW P m (law11_PairsetOrder_c5 p) Q st ↔ AW P m (.region [⟨(some 15), (.load (some 2) (.t 4)), none, false⟩, ⟨(some 16), (.load (some 2) (.t 3)), none, false⟩, ⟨(some 17), (.call p.pairset_Less [(.t 15), (.t 16)]), none, false⟩] []) Q st := Iff.rfl
def law11_PairsetOrder_c6 (p : Nums) : IC := (.region [⟨(some 18), (.mov (.t 7)), none, false⟩, ⟨(some 19), (.bin .add (.t 18) (.c (.d (.int .i64 1)))), none, false⟩, ⟨(some 7), (.asg (.t 19)), none, false⟩] [])
@[simp] theorem law11_PairsetOrder_c6_eq {P m Q st} {p : Nums} : AW P m (law11_PairsetOrder_c6 p) Q st ↔ AW P m (.region [⟨(some 18), (.mov (.t 7)), none, false⟩, ⟨(some 19), (.bin .add (.t 18) (.c (.d (.int .i64 1)))), none, false⟩, ⟨(some 7), (.asg (.t 19)), none, false⟩] []) Q st := Iff.rfl
def law11_PairsetOrder_c7 (p : Nums) : IC := (.region [⟨(some 20), (.mov (.t 7)), none, false⟩, ⟨(some 21), (.bin .eql (.t 20) (.c (.d (.int .i64 0)))), none, false⟩, ⟨(some 22), (.load (some 2) (.t 3)), none, false⟩, ⟨(some 23), (.load (some 2) (.t 4)), none, false⟩, ⟨(some 24), (.eqs false [.int, .int] (.t 22) (.t 23)), none, false⟩, ⟨(some 25), (.eqb false (.t 21) (.t 24)), none, false⟩, ⟨(some 26), (.mov (.t 25)), none, false⟩, ⟨(some 27), (.mov (.t 7)), (some (26, true)), false⟩, ⟨(some 28), (.bin .leq (.t 27) (.c (.d (.int .i64 1)))), (some (26, true)), false⟩, ⟨(some 29), (.pick (.t 26) (.t 28) (.c (.d (.bool false)))), none, false⟩, ⟨(some 30), (.mov (.t 29)), none, false⟩, ⟨(some 31), (.load (some 2) (.t 3)), (some (30, true)), false⟩, ⟨(some 32), (.load (some 2) (.t 4)), (some (30, true)), false⟩, ⟨(some 33), (.call p.pairset_Less [(.t 31), (.t 32)]), (some (30, true)), false⟩, ⟨(some 34), (.un .not (.t 33)), (some (30, true)), false⟩, ⟨(some 35), (.mov (.t 34)), (some (30, true)), false⟩, ⟨(some 36), (.load (some 2) (.t 4)), (some (35, false)), false⟩, ⟨(some 37), (.load (some 2) (.t 5)), (some (35, false)), false⟩, ⟨(some 38), (.call p.pairset_Less [(.t 36), (.t 37)]), (some (35, false)), false⟩, ⟨(some 39), (.un .not (.t 38)), (some (35, false)), false⟩, ⟨(some 40), (.pick (.t 35) (.c (.d (.bool true))) (.t 39)), (some (30, true)), false⟩, ⟨(some 41), (.mov (.t 40)), (some (30, true)), false⟩, ⟨(some 42), (.load (some 2) (.t 3)), (some (41, false)), false⟩, ⟨(some 43), (.load (some 2) (.t 5)), (some (41, false)), false⟩, ⟨(some 44), (.call p.pairset_Less [(.t 42), (.t 43)]), (some (41, false)), false⟩, ⟨(some 45), (.pick (.t 41) (.c (.d (.bool true))) (.t 44)), (some (30, true)), false⟩, ⟨(some 46), (.pick (.t 30) (.t 45) (.c (.d (.bool false)))), none, false⟩, ⟨(some 6), (.asg (.t 46)), none, false⟩] [])
@[simp] theorem law11_PairsetOrder_c7_eq {P m Q st} {p : Nums} : AW P m (law11_PairsetOrder_c7 p) Q st ↔ AW P m (.region [⟨(some 20), (.mov (.t 7)), none, false⟩, ⟨(some 21), (.bin .eql (.t 20) (.c (.d (.int .i64 0)))), none, false⟩, ⟨(some 22), (.load (some 2) (.t 3)), none, false⟩, ⟨(some 23), (.load (some 2) (.t 4)), none, false⟩, ⟨(some 24), (.eqs false [.int, .int] (.t 22) (.t 23)), none, false⟩, ⟨(some 25), (.eqb false (.t 21) (.t 24)), none, false⟩, ⟨(some 26), (.mov (.t 25)), none, false⟩, ⟨(some 27), (.mov (.t 7)), (some (26, true)), false⟩, ⟨(some 28), (.bin .leq (.t 27) (.c (.d (.int .i64 1)))), (some (26, true)), false⟩, ⟨(some 29), (.pick (.t 26) (.t 28) (.c (.d (.bool false)))), none, false⟩, ⟨(some 30), (.mov (.t 29)), none, false⟩, ⟨(some 31), (.load (some 2) (.t 3)), (some (30, true)), false⟩, ⟨(some 32), (.load (some 2) (.t 4)), (some (30, true)), false⟩, ⟨(some 33), (.call p.pairset_Less [(.t 31), (.t 32)]), (some (30, true)), false⟩, ⟨(some 34), (.un .not (.t 33)), (some (30, true)), false⟩, ⟨(some 35), (.mov (.t 34)), (some (30, true)), false⟩, ⟨(some 36), (.load (some 2) (.t 4)), (some (35, false)), false⟩, ⟨(some 37), (.load (some 2) (.t 5)), (some (35, false)), false⟩, ⟨(some 38), (.call p.pairset_Less [(.t 36), (.t 37)]), (some (35, false)), false⟩, ⟨(some 39), (.un .not (.t 38)), (some (35, false)), false⟩, ⟨(some 40), (.pick (.t 35) (.c (.d (.bool true))) (.t 39)), (some (30, true)), false⟩, ⟨(some 41), (.mov (.t 40)), (some (30, true)), false⟩, ⟨(some 42), (.load (some 2) (.t 3)), (some (41, false)), false⟩, ⟨(some 43), (.load (some 2) (.t 5)), (some (41, false)), false⟩, ⟨(some 44), (.call p.pairset_Less [(.t 42), (.t 43)]), (some (41, false)), false⟩, ⟨(some 45), (.pick (.t 41) (.c (.d (.bool true))) (.t 44)), (some (30, true)), false⟩, ⟨(some 46), (.pick (.t 30) (.t 45) (.c (.d (.bool false)))), none, false⟩, ⟨(some 6), (.asg (.t 46)), none, false⟩] []) Q st := Iff.rfl
def ic_law11_PairsetOrder (p : Nums) : IC := (.seq (law11_PairsetOrder_c1 p) (.seq (.seq (.region [⟨(some 8), (.call p.law11_awake []), none, false⟩, ⟨(some 9), (.un .not (.t 8)), none, false⟩] []) (.cond (.t 9) (law11_PairsetOrder_c2 p) .skip)) (.seq (.region [⟨(some 7), (.asg (.c (.d (.int .i64 0)))), none, false⟩] []) (.seq (.seq (law11_PairsetOrder_c3 p) (.cond (.t 12) (law11_PairsetOrder_c4 p) .skip)) (.seq (.seq (law11_PairsetOrder_c5 p) (.cond (.t 17) (law11_PairsetOrder_c6 p) .skip)) (.seq (law11_PairsetOrder_c7 p) .ret))))))
def law11_awake_c1 (p : Nums) : IC := (.region [⟨(some 6), (.build [(.d (.int .i64 0)), (.d (.int .i64 0))] [(0, 1, (.c (.d (.int .i64 1)))), (1, 1, (.c (.d (.int .i64 4))))]), none, false⟩, ⟨(some 1), (.alloc [(.d (.int .i64 0)), (.d (.int .i64 0))]), none, false⟩, ⟨none, (.store 2 (.t 1) (.t 6)), none, false⟩] [])
@[simp] theorem law11_awake_c1_eq {P m Q st} {p : Nums} : AW P m (law11_awake_c1 p) Q st ↔ AW P m (.region [⟨(some 6), (.build [(.d (.int .i64 0)), (.d (.int .i64 0))] [(0, 1, (.c (.d (.int .i64 1)))), (1, 1, (.c (.d (.int .i64 4))))]), none, false⟩, ⟨(some 1), (.alloc [(.d (.int .i64 0)), (.d (.int .i64 0))]), none, false⟩, ⟨none, (.store 2 (.t 1) (.t 6)), none, false⟩] []) Q st := Iff.rfl
def law11_awake_c2 (p : Nums) : IC := (.region [⟨(some 7), (.build [(.d (.int .i64 0)), (.d (.int .i64 0))] [(0, 1, (.c (.d (.int .i64 0)))), (1, 1, (.c (.d (.int .i64 6))))]), none, false⟩, ⟨(some 2), (.alloc [(.d (.int .i64 0)), (.d (.int .i64 0))]), none, false⟩, ⟨none, (.store 2 (.t 2) (.t 7)), none, false⟩] [])
@[simp] theorem law11_awake_c2_eq {P m Q st} {p : Nums} : AW P m (law11_awake_c2 p) Q st ↔ AW P m (.region [⟨(some 7), (.build [(.d (.int .i64 0)), (.d (.int .i64 0))] [(0, 1, (.c (.d (.int .i64 0)))), (1, 1, (.c (.d (.int .i64 6))))]), none, false⟩, ⟨(some 2), (.alloc [(.d (.int .i64 0)), (.d (.int .i64 0))]), none, false⟩, ⟨none, (.store 2 (.t 2) (.t 7)), none, false⟩] []) Q st := Iff.rfl
def law11_awake_c3 (p : Nums) : IC := (.region [⟨(some 8), (.load (some 2) (.t 1)), none, false⟩, ⟨(some 9), (.load (some 2) (.t 2)), none, false⟩, ⟨(some 10), (.load (some 2) (.t 1)), none, false⟩, ⟨(some 11), (.bslice 2 3 [(.int .i64 0), (.int .i64 0)] [(0, (.t 8)), (1, (.t 9)), (2, (.t 10))]), none, false⟩, ⟨(some 12), (.call p.pairset_Make [(.t 11)]), none, false⟩, ⟨(some 3), (.asg (.t 12)), none, false⟩] [])
@[simp] theorem law11_awake_c3_eq {P m Q st} {p : Nums} : AW P m (law11_awake_c3 p) Q st ↔ AW P m (.region [⟨(some 8), (.load (some 2) (.t 1)), none, false⟩, ⟨(some 9), (.load (some 2) (.t 2)), none, false⟩, ⟨(some 10), (.load (some 2) (.t 1)), none, false⟩, ⟨(some 11), (.bslice 2 3 [(.int .i64 0), (.int .i64 0)] [(0, (.t 8)), (1, (.t 9)), (2, (.t 10))]), none, false⟩, ⟨(some 12), (.call p.pairset_Make [(.t 11)]), none, false⟩, ⟨(some 3), (.asg (.t 12)), none, false⟩] []) Q st := Iff.rfl
def law11_awake_c4 (p : Nums) : IC := (.region [⟨(some 14), (.mov (.t 3)), none, false⟩, ⟨(some 15), (.load (some 2) (.t 2)), none, false⟩, ⟨(some 16), (.bslice 2 1 [(.int .i64 0), (.int .i64 0)] [(0, (.t 15))]), none, false⟩, ⟨(some 17), (.call p.pairset_Missing [(.t 14), (.t 16)]), none, false⟩, ⟨(some 13), (.mov (.t 17)), none, false⟩, ⟨(some 18), (.ext (.t 13) 0), none, false⟩, ⟨(some 19), (.ext (.t 13) 1), none, false⟩, ⟨(some 4), (.alloc [(.d (.int .i64 0)), (.d (.int .i64 0))]), none, false⟩, ⟨none, (.store 2 (.t 4) (.t 18)), none, false⟩, ⟨(some 5), (.asg (.t 19)), none, false⟩] [])
@[simp] theorem law11_awake_c4_eq {P m Q st} {p : Nums} : AW P m (law11_awake_c4 p) Q st ↔ AW P m (.region [⟨(some 14), (.mov (.t 3)), none, false⟩, ⟨(some 15), (.load (some 2) (.t 2)), none, false⟩, ⟨(some 16), (.bslice 2 1 [(.int .i64 0), (.int .i64 0)] [(0, (.t 15))]), none, false⟩, ⟨(some 17), (.call p.pairset_Missing [(.t 14), (.t 16)]), none, false⟩, ⟨(some 13), (.mov (.t 17)), none, false⟩, ⟨(some 18), (.ext (.t 13) 0), none, false⟩, ⟨(some 19), (.ext (.t 13) 1), none, false⟩, ⟨(some 4), (.alloc [(.d (.int .i64 0)), (.d (.int .i64 0))]), none, false⟩, ⟨none, (.store 2 (.t 4) (.t 18)), none, false⟩, ⟨(some 5), (.asg (.t 19)), none, false⟩] []) Q st := Iff.rfl
def law11_awake_c5 (p : Nums) : IC := (.region [⟨(some 20), (.mov (.t 3)), none, false⟩, ⟨(some 21), (.load (some 2) (.t 2)), none, false⟩, ⟨(some 22), (.load (some 2) (.t 1)), none, false⟩, ⟨(some 23), (.bslice 2 2 [(.int .i64 0), (.int .i64 0)] [(0, (.t 21)), (1, (.t 22))]), none, false⟩, ⟨(some 24), (.call p.ref11_Same [(.t 20), (.t 23)]), none, false⟩, ⟨(some 25), (.mov (.t 24)), none, false⟩, ⟨(some 26), (.load (some 2) (.t 4)), (some (25, true)), false⟩, ⟨(some 27), (.load (some 2) (.t 1)), (some (25, true)), false⟩, ⟨(some 28), (.eqs false [.int, .int] (.t 26) (.t 27)), (some (25, true)), false⟩, ⟨(some 29), (.pick (.t 25) (.t 28) (.c (.d (.bool false)))), none, false⟩, ⟨(some 30), (.mov (.t 29)), none, false⟩, ⟨(some 31), (.mov (.t 5)), (some (30, true)), false⟩, ⟨(some 32), (.pick (.t 30) (.t 31) (.c (.d (.bool false)))), none, false⟩, ⟨(some 33), (.mov (.t 32)), none, false⟩, ⟨(some 34), (.load (some 2) (.t 2)), (some (33, true)), false⟩, ⟨(some 35), (.load (some 2) (.t 1)), (some (33, true)), false⟩, ⟨(some 36), (.call p.pairset_Less [(.t 34), (.t 35)]), (some (33, true)), false⟩, ⟨(some 37), (.pick (.t 33) (.t 36) (.c (.d (.bool false)))), none, false⟩, ⟨(some 38), (.mov (.t 37)), none, false⟩, ⟨(some 39), (.load (some 2) (.t 1)), (some (38, true)), false⟩, ⟨(some 40), (.load (some 2) (.t 1)), (some (38, true)), false⟩, ⟨(some 41), (.call p.pairset_Less [(.t 39), (.t 40)]), (some (38, true)), false⟩, ⟨(some 42), (.un .not (.t 41)), (some (38, true)), false⟩, ⟨(some 43), (.pick (.t 38) (.t 42) (.c (.d (.bool false)))), none, false⟩, ⟨(some 44), (.mov (.t 43)), none, false⟩, ⟨(some 45), (.mov (.t 3)), (some (44, true)), false⟩, ⟨(some 46), (.load (some 2) (.t 2)), (some (44, true)), false⟩, ⟨(some 47), (.call p.pairset_Has [(.t 45), (.t 46)]), (some (44, true)), false⟩, ⟨(some 48), (.pick (.t 44) (.t 47) (.c (.d (.bool false)))), none, false⟩, ⟨(some 49), (.mov (.t 48)), none, false⟩, ⟨(some 50), (.load (some 2) (.t 1)), (some (49, true)), false⟩, ⟨(some 51), (.bslice 2 1 [(.int .i64 0), (.int .i64 0)] [(0, (.t 50))]), (some (49, true)), false⟩, ⟨(some 52), (.load (some 2) (.t 2)), (some (49, true)), false⟩, ⟨(some 53), (.call p.pairset_Add [(.t 51), (.t 52)]), (some (49, true)), false⟩, ⟨(some 54), (.mov (.t 3)), (some (49, true)), false⟩, ⟨(some 55), (.call p.ref11_Same [(.t 53), (.t 54)]), (some (49, true)), false⟩, ⟨(some 56), (.pick (.t 49) (.t 55) (.c (.d (.bool false)))), none, false⟩, ⟨(some 57), (.mov (.t 56)), none, false⟩, ⟨(some 58), (.load (some 2) (.t 1)), (some (57, true)), false⟩, ⟨(some 59), (.load (some 2) (.t 1)), (some (57, true)), false⟩, ⟨(some 60), (.bslice 2 2 [(.int .i64 0), (.int .i64 0)] [(0, (.t 58)), (1, (.t 59))]), (some (57, true)), false⟩, ⟨(some 61), (.call p.pairset_Sorted [(.t 60)]), (some (57, true)), false⟩, ⟨(some 62), (.un .not (.t 61)), (some (57, true)), false⟩, ⟨(some 63), (.pick (.t 57) (.t 62) (.c (.d (.bool false)))), none, false⟩, ⟨(some 64), (.mov (.t 63)), none, false⟩, ⟨(some 65), (.load (some 2) (.t 1)), (some (64, true)), false⟩, ⟨(some 66), (.bslice 2 1 [(.int .i64 0), (.int .i64 0)] [(0, (.t 65))]), (some (64, true)), false⟩, ⟨(some 67), (.mov (.t 3)), (some (64, true)), false⟩, ⟨(some 68), (.call p.pairset_Subset [(.t 66), (.t 67)]), (some (64, true)), false⟩, ⟨(some 69), (.pick (.t 64) (.t 68) (.c (.d (.bool false)))), none, false⟩, ⟨(some 70), (.mov (.t 69)), none, false⟩, ⟨(some 71), (.load (some 2) (.t 1)), (some (70, true)), false⟩, ⟨(some 72), (.bslice 2 1 [(.int .i64 0), (.int .i64 0)] [(0, (.t 71))]), (some (70, true)), false⟩, ⟨(some 73), (.load (some 2) (.t 2)), (some (70, true)), false⟩, ⟨(some 74), (.load (some 2) (.t 1)), (some (70, true)), false⟩, ⟨(some 75), (.bslice 2 2 [(.int .i64 0), (.int .i64 0)] [(0, (.t 73)), (1, (.t 74))]), (some (70, true)), false⟩, ⟨(some 76), (.call p.pairset_Union [(.t 72), (.t 75)]), (some (70, true)), false⟩, ⟨(some 77), (.mov (.t 3)), (some (70, true)), false⟩, ⟨(some 78), (.call p.ref11_Same [(.t 76), (.t 77)]), (some (70, true)), false⟩, ⟨(some 79), (.pick (.t 70) (.t 78) (.c (.d (.bool false)))), none, false⟩, ⟨(some 0), (.asg (.t 79)), none, false⟩] [])
@[simp] theorem law11_awake_c5_eq {P m Q st} {p : Nums} : AW P m (law11_awake_c5 p) Q st ↔ AW P m (.region [⟨(some 20), (.mov (.t 3)), none, false⟩, ⟨(some 21), (.load (some 2) (.t 2)), none, false⟩, ⟨(some 22), (.load (some 2) (.t 1)), none, false⟩, ⟨(some 23), (.bslice 2 2 [(.int .i64 0), (.int .i64 0)] [(0, (.t 21)), (1, (.t 22))]), none, false⟩, ⟨(some 24), (.call p.ref11_Same [(.t 20), (.t 23)]), none, false⟩, ⟨(some 25), (.mov (.t 24)), none, false⟩, ⟨(some 26), (.load (some 2) (.t 4)), (some (25, true)), false⟩, ⟨(some 27), (.load (some 2) (.t 1)), (some (25, true)), false⟩, ⟨(some 28), (.eqs false [.int, .int] (.t 26) (.t 27)), (some (25, true)), false⟩, ⟨(some 29), (.pick (.t 25) (.t 28) (.c (.d (.bool false)))), none, false⟩, ⟨(some 30), (.mov (.t 29)), none, false⟩, ⟨(some 31), (.mov (.t 5)), (some (30, true)), false⟩, ⟨(some 32), (.pick (.t 30) (.t 31) (.c (.d (.bool false)))), none, false⟩, ⟨(some 33), (.mov (.t 32)), none, false⟩, ⟨(some 34), (.load (some 2) (.t 2)), (some (33, true)), false⟩, ⟨(some 35), (.load (some 2) (.t 1)), (some (33, true)), false⟩, ⟨(some 36), (.call p.pairset_Less [(.t 34), (.t 35)]), (some (33, true)), false⟩, ⟨(some 37), (.pick (.t 33) (.t 36) (.c (.d (.bool false)))), none, false⟩, ⟨(some 38), (.mov (.t 37)), none, false⟩, ⟨(some 39), (.load (some 2) (.t 1)), (some (38, true)), false⟩, ⟨(some 40), (.load (some 2) (.t 1)), (some (38, true)), false⟩, ⟨(some 41), (.call p.pairset_Less [(.t 39), (.t 40)]), (some (38, true)), false⟩, ⟨(some 42), (.un .not (.t 41)), (some (38, true)), false⟩, ⟨(some 43), (.pick (.t 38) (.t 42) (.c (.d (.bool false)))), none, false⟩, ⟨(some 44), (.mov (.t 43)), none, false⟩, ⟨(some 45), (.mov (.t 3)), (some (44, true)), false⟩, ⟨(some 46), (.load (some 2) (.t 2)), (some (44, true)), false⟩, ⟨(some 47), (.call p.pairset_Has [(.t 45), (.t 46)]), (some (44, true)), false⟩, ⟨(some 48), (.pick (.t 44) (.t 47) (.c (.d (.bool false)))), none, false⟩, ⟨(some 49), (.mov (.t 48)), none, false⟩, ⟨(some 50), (.load (some 2) (.t 1)), (some (49, true)), false⟩, ⟨(some 51), (.bslice 2 1 [(.int .i64 0), (.int .i64 0)] [(0, (.t 50))]), (some (49, true)), false⟩, ⟨(some 52), (.load (some 2) (.t 2)), (some (49, true)), false⟩, ⟨(some 53), (.call p.pairset_Add [(.t 51), (.t 52)]), (some (49, true)), false⟩, ⟨(some 54), (.mov (.t 3)), (some (49, true)), false⟩, ⟨(some 55), (.call p.ref11_Same [(.t 53), (.t 54)]), (some (49, true)), false⟩, ⟨(some 56), (.pick (.t 49) (.t 55) (.c (.d (.bool false)))), none, false⟩, ⟨(some 57), (.mov (.t 56)), none, false⟩, ⟨(some 58), (.load (some 2) (.t 1)), (some (57, true)), false⟩, ⟨(some 59), (.load (some 2) (.t 1)), (some (57, true)), false⟩, ⟨(some 60), (.bslice 2 2 [(.int .i64 0), (.int .i64 0)] [(0, (.t 58)), (1, (.t 59))]), (some (57, true)), false⟩, ⟨(some 61), (.call p.pairset_Sorted [(.t 60)]), (some (57, true)), false⟩, ⟨(some 62), (.un .not (.t 61)), (some (57, true)), false⟩, ⟨(some 63), (.pick (.t 57) (.t 62) (.c (.d (.bool false)))), none, false⟩, ⟨(some 64), (.mov (.t 63)), none, false⟩, ⟨(some 65), (.load (some 2) (.t 1)), (some (64, true)), false⟩, ⟨(some 66), (.bslice 2 1 [(.int .i64 0), (.int .i64 0)] [(0, (.t 65))]), (some (64, true)), false⟩, ⟨(some 67), (.mov (.t 3)), (some (64, true)), false⟩, ⟨(some 68), (.call p.pairset_Subset [(.t 66), (.t 67)]), (some (64, true)), false⟩, ⟨(some 69), (.pick (.t 64) (.t 68) (.c (.d (.bool false)))), none, false⟩, ⟨(some 70), (.mov (.t 69)), none, false⟩, ⟨(some 71), (.load (some 2) (.t 1)), (some (70, true)), false⟩, ⟨(some 72), (.bslice 2 1 [(.int .i64 0), (.int .i64 0)] [(0, (.t 71))]), (some (70, true)), false⟩, ⟨(some 73), (.load (some 2) (.t 2)), (some (70, true)), false⟩, ⟨(some 74), (.load (some 2) (.t 1)), (some (70, true)), false⟩, ⟨(some 75), (.bslice 2 2 [(.int .i64 0), (.int .i64 0)] [(0, (.t 73)), (1, (.t 74))]), (some (70, true)), false⟩, ⟨(some 76), (.call p.pairset_Union [(.t 72), (.t 75)]), (some (70, true)), false⟩, ⟨(some 77), (.mov (.t 3)), (some (70, true)), false⟩, ⟨(some 78), (.call p.ref11_Same [(.t 76), (.t 77)]), (some (70, true)), false⟩, ⟨(some 79), (.pick (.t 70) (.t 78) (.c (.d (.bool false)))), none, false⟩, ⟨(some 0), (.asg (.t 79)), none, false⟩] []) Q st := Iff.rfl
def ic_law11_awake (p : Nums) : IC := (.seq (.region [⟨(some 0), (.asg (.c (.d (.bool false)))), none, false⟩] []) (.seq (law11_awake_c1 p) (.seq (law11_awake_c2 p) (.seq (law11_awake_c3 p) (.seq (law11_awake_c4 p) (.seq (law11_awake_c5 p) .ret))))))
def ref11_Make_c1 (p : Nums) : IC := (.region [⟨(some 5), (.mov (.t 4)), none, false⟩, ⟨(some 6), (.mov (.t 0)), none, false⟩, ⟨(some 7), (.len (.t 6)), none, false⟩, ⟨(some 8), (.bin .lss (.t 5) (.t 7)), none, false⟩] [])
@[simp] theorem ref11_Make_c1_eq {P m Q st} {p : Nums} : AW P m (ref11_Make_c1 p) Q st ↔ AW P m (.region [⟨(some 5), (.mov (.t 4)), none, false⟩, ⟨(some 6), (.mov (.t 0)), none, false⟩, ⟨(some 7), (.len (.t 6)), none, false⟩, ⟨(some 8), (.bin .lss (.t 5) (.t 7)), none, false⟩] []) Q st := Iff.rfl
def ref11_Make_c2 (p : Nums) : IC := (.region [⟨(some 11), (.mov (.t 3)), none, false⟩, ⟨(some 12), (.mov (.t 0)), none, false⟩, ⟨(some 13), (.mov (.t 4)), none, false⟩, ⟨(some 14), (.iaddr 2 (.t 12) (.t 13)), none, false⟩, ⟨(some 15), (.load (some 2) (.t 14)), none, false⟩, ⟨(some 16), (.call p.ref11_Add [(.t 11), (.t 15)]), none, false⟩, ⟨(some 3), (.asg (.t 16)), none, false⟩] [])
@[simp] theorem ref11_Make_c2_eq {P m Q st} {p : Nums} : AW P m (ref11_Make_c2 p) Q st ↔ AW P m (.region [⟨(some 11), (.mov (.t 3)), none, false⟩, ⟨(some 12), (.mov (.t 0)), none, false⟩, ⟨(some 13), (.mov (.t 4)), none, false⟩, ⟨(some 14), (.iaddr 2 (.t 12) (.t 13)), none, false⟩, ⟨(some 15), (.load (some 2) (.t 14)), none, false⟩, ⟨(some 16), (.call p.ref11_Add [(.t 11), (.t 15)]), none, false⟩, ⟨(some 3), (.asg (.t 16)), none, false⟩] []) Q st := Iff.rfl
def ref11_Make_c3 (p : Nums) : IC := (.region [⟨(some 9), (.mov (.t 4)), none, false⟩, ⟨(some 10), (.bin .add (.t 9) (.c (.d (.int .i64 1)))), none, false⟩, ⟨(some 4), (.asg (.t 10)), none, false⟩] [])
@[simp] theorem ref11_Make_c3_eq {P m Q st} {p : Nums} : AW P m (ref11_Make_c3 p) Q st ↔ AW P m (.region [⟨(some 9), (.mov (.t 4)), none, false⟩, ⟨(some 10), (.bin .add (.t 9) (.c (.d (.int .i64 1)))), none, false⟩, ⟨(some 4), (.asg (.t 10)), none, false⟩] []) Q st := Iff.rfl
def ref11_Make_c4 (p : Nums) : IC := (.seq (.seq (ref11_Make_c1 p) (.cond (.t 8) .skip (.exit 0))) (.seq (.block 1 (ref11_Make_c2 p)) (ref11_Make_c3 p)))
@[simp] theorem ref11_Make_c4_eq {P m Q st} {p : Nums} : AW P m (ref11_Make_c4 p) Q st ↔ AW P m (.seq (.seq (ref11_Make_c1 p) (.cond (.t 8) .skip (.exit 0))) (.seq (.block 1 (ref11_Make_c2 p)) (ref11_Make_c3 p))) Q st := Iff.rfl
def ic_ref11_Make (p : Nums) : IC := (.seq (.region [⟨(some 2), (.asg (.c .nils)), none, false⟩] []) (.seq (.region [⟨(some 3), (.asg (.c .nils)), none, false⟩] []) (.seq (.seq (.region [⟨(some 4), (.asg (.c (.d (.int .i64 0)))), none, false⟩] []) (.block 0 (.loop (ref11_Make_c4 p)))) (.seq (.region [⟨(some 17), (.mov (.t 3)), none, false⟩, ⟨(some 2), (.asg (.t 17)), none, false⟩] []) .ret))))
def pairset_Missing_c1 (p : Nums) : IC := (.region [⟨(some 4), (.alloc [(.d (.int .i64 0)), (.d (.int .i64 0))]), none, false⟩, ⟨(some 5), (.asg (.c (.d (.bool false)))), none, false⟩] [])
@[simp] theorem pairset_Missing_c1_eq {P m Q st} {p : Nums} : AW P m (pairset_Missing_c1 p) Q st ↔ AW P m (.region [⟨(some 4), (.alloc [(.d (.int .i64 0)), (.d (.int .i64 0))]), none, false⟩, ⟨(some 5), (.asg (.c (.d (.bool false)))), none, false⟩] []) Q st := Iff.rfl
def pairset_Missing_c2 (p : Nums) : IC := (.region [⟨(some 9), (.mov (.t 0)), none, false⟩, ⟨(some 10), (.len (.t 9)), none, false⟩, ⟨(some 11), (.mov (.c (.d (.int .i64 0)))), none, false⟩] [])
@[simp] theorem pairset_Missing_c2_eq {P m Q st} {p : Nums} : AW P m (pairset_Missing_c2 p) Q st ↔ AW P m (.region [⟨(some 9), (.mov (.t 0)), none, false⟩, ⟨(some 10), (.len (.t 9)), none, false⟩, ⟨(some 11), (.mov (.c (.d (.int .i64 0)))), none, false⟩] []) Q st := Iff.rfl
def pairset_Missing_c3 (p : Nums) : IC := (.region [⟨(some 13), (.iaddr 2 (.t 9) (.t 11)), none, false⟩, ⟨(some 14), (.load (some 2) (.t 13)), none, false⟩, ⟨(some 8), (.alloc [(.d (.int .i64 0)), (.d (.int .i64 0))]), none, false⟩, ⟨none, (.store 2 (.t 8) (.t 14)), none, false⟩] [])
@[simp] theorem pairset_Missing_c3_eq {P m Q st} {p : Nums} : AW P m (pairset_Missing_c3 p) Q st ↔ AW P m (.region [⟨(some 13), (.iaddr 2 (.t 9) (.t 11)), none, false⟩, ⟨(some 14), (.load (some 2) (.t 13)), none, false⟩, ⟨(some 8), (.alloc [(.d (.int .i64 0)), (.d (.int .i64 0))]), none, false⟩, ⟨none, (.store 2 (.t 8) (.t 14)), none, false⟩] []) Q st := Iff.rfl
def pairset_Missing_c4 (p : Nums) : IC := (.region [⟨(some 15), (.mov (.t 6)), none, true⟩, ⟨(some 16), (.mov (.t 1)), none, true⟩, ⟨(some 17), (.len (.t 16)), none, true⟩, ⟨(some 18), (.bin .lss (.t 15) (.t 17)), none, false⟩, ⟨(some 19), (.mov (.t 18)), none, false⟩, ⟨(some 20), (.mov (.t 1)), (some (19, true)), true⟩, ⟨(some 21), (.mov (.t 6)), (some (19, true)), true⟩, ⟨(some 22), (.iaddr 2 (.t 20) (.t 21)), (some (19, true)), true⟩, ⟨(some 23), (.load (some 2) (.t 22)), (some (19, true)), true⟩, ⟨(some 24), (.load (some 2) (.t 8)), (some (19, true)), true⟩, ⟨(some 25), (.call p.pairset_Less [(.t 23), (.t 24)]), (some (19, true)), false⟩, ⟨(some 26), (.pick (.t 19) (.t 25) (.c (.d (.bool false)))), none, false⟩] [])
@[simp] theorem pairset_Missing_c4_eq {P m Q st} {p : Nums} : AW P m (pairset_Missing_c4 p) Q st ↔ AW P m (.region [⟨(some 15), (.mov (.t 6)), none, true⟩, ⟨(some 16), (.mov (.t 1)), none, true⟩, ⟨(some 17), (.len (.t 16)), none, true⟩, ⟨(some 18), (.bin .lss (.t 15) (.t 17)), none, false⟩, ⟨(some 19), (.mov (.t 18)), none, false⟩, ⟨(some 20), (.mov (.t 1)), (some (19, true)), true⟩, ⟨(some 21), (.mov (.t 6)), (some (19, true)), true⟩, ⟨(some 22), (.iaddr 2 (.t 20) (.t 21)), (some (19, true)), true⟩, ⟨(some 23), (.load (some 2) (.t 22)), (some (19, true)), true⟩, ⟨(some 24), (.load (some 2) (.t 8)), (some (19, true)), true⟩, ⟨(some 25), (.call p.pairset_Less [(.t 23), (.t 24)]), (some (19, true)), false⟩, ⟨(some 26), (.pick (.t 19) (.t 25) (.c (.d (.bool false)))), none, false⟩] []) Q st := Iff.rfl
def pairset_Missing_c5 (p : Nums) : IC := (.region [⟨(some 27), (.mov (.t 6)), none, false⟩, ⟨(some 28), (.bin .add (.t 27) (.c (.d (.int .i64 1)))), none, false⟩, ⟨(some 6), (.asg (.t 28)), none, false⟩] [])
@[simp] theorem pairset_Missing_c5_eq {P m Q st} {p : Nums} : AW P m (pairset_Missing_c5 p) Q st ↔ AW P m (.region [⟨(some 27), (.mov (.t 6)), none, false⟩, ⟨(some 28), (.bin .add (.t 27) (.c (.d (.int .i64 1)))), none, false⟩, ⟨(some 6), (.asg (.t 28)), none, false⟩] []) Q st := Iff.rfl
def pairset_Missing_c6 (p : Nums) : IC := (.seq (.seq (pairset_Missing_c4 p) (.cond (.t 26) .skip (.exit 2))) (.block 3 (pairset_Missing_c5 p)))
@[simp] theorem pairset_Missing_c6_eq {P m Q st} {p : Nums} : AW P m (pairset_Missing_c6 p) Q st ↔ AW P m (.seq (.seq (pairset_Missing_c4 p) (.cond (.t 26) .skip (.exit 2))) (.block 3 (pairset_Missing_c5 p))) Q st := Iff.rfl
def pairset_Missing_c7 (p : Nums) : IC := (.region [⟨(some 29), (.mov (.t 6)), none, true⟩, ⟨(some 30), (.mov (.t 1)), none, true⟩, ⟨(some 31), (.len (.t 30)), none, true⟩, ⟨(some 32), (.bin .eql (.t 29) (.t 31)), none, false⟩, ⟨(some 33), (.mov (.t 32)), none, false⟩, ⟨(some 34), (.mov (.t 1)), (some (33, false)), true⟩, ⟨(some 35), (.mov (.t 6)), (some (33, false)), true⟩, ⟨(some 36), (.iaddr 2 (.t 34) (.t 35)), (some (33, false)), true⟩, ⟨(some 37), (.load (some 2) (.t 36)), (some (33, false)), true⟩, ⟨(some 38), (.load (some 2) (.t 8)), (some (33, false)), true⟩, ⟨(some 39), (.eqs true [.int, .int] (.t 37) (.t 38)), (some (33, false)), false⟩, ⟨(some 40), (.pick (.t 33) (.c (.d (.bool true))) (.t 39)), none, false⟩] [])
@[simp] theorem pairset_Missing_c7_eq {P m Q st} {p : Nums} : AW P m (pairset_Missing_c7 p) Q st ↔ AW P m (.region [⟨(some 29), (.mov (.t 6)), none, true⟩, ⟨(some 30), (.mov (.t 1)), none, true⟩, ⟨(some 31), (.len (.t 30)), none, true⟩, ⟨(some 32), (.bin .eql (.t 29) (.t 31)), none, false⟩, ⟨(some 33), (.mov (.t 32)), none, false⟩, ⟨(some 34), (.mov (.t 1)), (some (33, false)), true⟩, ⟨(some 35), (.mov (.t 6)), (some (33, false)), true⟩, ⟨(some 36), (.iaddr 2 (.t 34) (.t 35)), (some (33, false)), true⟩, ⟨(some 37), (.load (some 2) (.t 36)), (some (33, false)), true⟩, ⟨(some 38), (.load (some 2) (.t 8)), (some (33, false)), true⟩, ⟨(some 39), (.eqs true [.int, .int] (.t 37) (.t 38)), (some (33, false)), false⟩, ⟨(some 40), (.pick (.t 33) (.c (.d (.bool true))) (.t 39)), none, false⟩] []) Q st := Iff.rfl
def pairset_Missing_c8 (p : Nums) : IC := (.region [⟨(some 41), (.load (some 2) (.t 8)), none, false⟩, ⟨none, (.store 2 (.t 4) (.t 41)), none, false⟩, ⟨(some 5), (.asg (.c (.d (.bool true)))), none, false⟩] [])
@[simp] theorem pairset_Missing_c8_eq {P m Q st} {p : Nums} : AW P m (pairset_Missing_c8 p) Q st ↔ AW P m (.region [⟨(some 41), (.load (some 2) (.t 8)), none, false⟩, ⟨none, (.store 2 (.t 4) (.t 41)), none, false⟩, ⟨(some 5), (.asg (.c (.d (.bool true)))), none, false⟩] []) Q st := Iff.rfl
def pairset_Missing_c9 (p : Nums) : IC := (.seq (pairset_Missing_c3 p) (.seq (.block 2 (.loop (pairset_Missing_c6 p))) (.seq (pairset_Missing_c7 p) (.cond (.t 40) (.seq (pairset_Missing_c8 p) .ret) .skip))))
@[simp] theorem pairset_Missing_c9_eq {P m Q st} {p : Nums} : AW P m (pairset_Missing_c9 p) Q st ↔ AW P m (.seq (pairset_Missing_c3 p) (.seq (.block 2 (.loop (pairset_Missing_c6 p))) (.seq (pairset_Missing_c7 p) (.cond (.t 40) (.seq (pairset_Missing_c8 p) .ret) .skip)))) Q st := Iff.rfl
def pairset_Missing_c10 (p : Nums) : IC := (.seq (.region [⟨(some 12), (.bin .lss (.t 11) (.t 10)), none, false⟩] []) (.seq (.cond (.t 12) .skip (.exit 0)) (.seq (.block 1 (pairset_Missing_c9 p)) (.region [⟨(some 42), (.bin .add (.t 11) (.c (.d (.int .i64 1)))), none, false⟩, ⟨(some 11), (.mov (.t 42)), none, false⟩] []))))
@[simp] theorem pairset_Missing_c10_eq {P m Q st} {p : Nums} : AW P m (pairset_Missing_c10 p) Q st ↔ AW P m (.seq (.region [⟨(some 12), (.bin .lss (.t 11) (.t 10)), none, false⟩] []) (.seq (.cond (.t 12) .skip (.exit 0)) (.seq (.block 1 (pairset_Missing_c9 p)) (.region [⟨(some 42), (.bin .add (.t 11) (.c (.d (.int .i64 1)))), none, false⟩, ⟨(some 11), (.mov (.t 42)), none, false⟩] [])))) Q st := Iff.rfl
def pairset_Missing_c11 (p : Nums) : IC := (.region [⟨(some 43), (.build [(.d (.int .i64 0)), (.d (.int .i64 0))] []), none, false⟩, ⟨none, (.store 2 (.t 4) (.t 43)), none, false⟩, ⟨(some 5), (.asg (.c (.d (.bool false)))), none, false⟩] [])
@[simp] theorem pairset_Missing_c11_eq {P m Q st} {p : Nums} : AW P m (pairset_Missing_c11 p) Q st ↔ AW P m (.region [⟨(some 43), (.build [(.d (.int .i64 0)), (.d (.int .i64 0))] []), none, false⟩, ⟨none, (.store 2 (.t 4) (.t 43)), none, false⟩, ⟨(some 5), (.asg (.c (.d (.bool false)))), none, false⟩] []) Q st := Iff.rfl
def ic_pairset_Missing (p : Nums) : IC := (.seq (pairset_Missing_c1 p) (.seq (.region [⟨(some 6), (.asg (.c (.d (.int .i64 0)))), none, false⟩] []) (.seq (.seq (pairset_Missing_c2 p) (.block 0 (.loop (pairset_Missing_c10 p)))) (.seq (pairset_Missing_c11 p) .ret))))
def ref11_Missing_c1 (p : Nums) : IC := (.region [⟨(some 4), (.alloc [(.d (.int .i64 0)), (.d (.int .i64 0))]), none, false⟩, ⟨(some 5), (.asg (.c (.d (.bool false)))), none, false⟩] [])
@[simp] theorem ref11_Missing_c1_eq {P m Q st} {p : Nums} : AW P m (ref11_Missing_c1 p) Q st ↔ AW P m (.region [⟨(some 4), (.alloc [(.d (.int .i64 0)), (.d (.int .i64 0))]), none, false⟩, ⟨(some 5), (.asg (.c (.d (.bool false)))), none, false⟩] []) Q st := Iff.rfl
def ref11_Missing_c2 (p : Nums) : IC := (.region [⟨(some 7), (.mov (.t 6)), none, false⟩, ⟨(some 8), (.mov (.t 0)), none, false⟩, ⟨(some 9), (.len (.t 8)), none, false⟩, ⟨(some 10), (.bin .lss (.t 7) (.t 9)), none, false⟩] [])
@[simp] theorem ref11_Missing_c2_eq {P m Q st} {p : Nums} : AW P m (ref11_Missing_c2 p) Q st ↔ AW P m (.region [⟨(some 7), (.mov (.t 6)), none, false⟩, ⟨(some 8), (.mov (.t 0)), none, false⟩, ⟨(some 9), (.len (.t 8)), none, false⟩, ⟨(some 10), (.bin .lss (.t 7) (.t 9)), none, false⟩] []) Q st := Iff.rfl
def ref11_Missing_c3 (p : Nums) : IC := (.region [⟨(some 13), (.mov (.t 1)), none, false⟩, ⟨(some 14), (.mov (.t 0)), none, false⟩, ⟨(some 15), (.mov (.t 6)), none, false⟩, ⟨(some 16), (.iaddr 2 (.t 14) (.t 15)), none, false⟩, ⟨(some 17), (.load (some 2) (.t 16)), none, false⟩, ⟨(some 18), (.call p.ref11_Has [(.t 13), (.t 17)]), none, false⟩, ⟨(some 19), (.un .not (.t 18)), none, false⟩] [])
@[simp] theorem ref11_Missing_c3_eq {P m Q st} {p : Nums} : AW P m (ref11_Missing_c3 p) Q st ↔ AW P m (.region [⟨(some 13), (.mov (.t 1)), none, false⟩, ⟨(some 14), (.mov (.t 0)), none, false⟩, ⟨(some 15), (.mov (.t 6)), none, false⟩, ⟨(some 16), (.iaddr 2 (.t 14) (.t 15)), none, false⟩, ⟨(some 17), (.load (some 2) (.t 16)), none, false⟩, ⟨(some 18), (.call p.ref11_Has [(.t 13), (.t 17)]), none, false⟩, ⟨(some 19), (.un .not (.t 18)), none, false⟩] []) Q st := Iff.rfl
def ref11_Missing_c4 (p : Nums) : IC := (.region [⟨(some 20), (.mov (.t 0)), none, false⟩, ⟨(some 21), (.mov (.t 6)), none, false⟩, ⟨(some 22), (.iaddr 2 (.t 20) (.t 21)), none, false⟩, ⟨(some 23), (.load (some 2) (.t 22)), none, false⟩, ⟨none, (.store 2 (.t 4) (.t 23)), none, false⟩, ⟨(some 5), (.asg (.c (.d (.bool true)))), none, false⟩] [])
@[simp] theorem ref11_Missing_c4_eq {P m Q st} {p : Nums} : AW P m (ref11_Missing_c4 p) Q st ↔ AW P m (.region [⟨(some 20), (.mov (.t 0)), none, false⟩, ⟨(some 21), (.mov (.t 6)), none, false⟩, ⟨(some 22), (.iaddr 2 (.t 20) (.t 21)), none, false⟩, ⟨(some 23), (.load (some 2) (.t 22)), none, false⟩, ⟨none, (.store 2 (.t 4) (.t 23)), none, false⟩, ⟨(some 5), (.asg (.c (.d (.bool true)))), none, false⟩] []) Q st := Iff.rfl
def ref11_Missing_c5 (p : Nums) : IC := (.seq (ref11_Missing_c3 p) (.cond (.t 19) (.seq (ref11_Missing_c4 p) .ret) .skip))
@[simp] theorem ref11_Missing_c5_eq {P m Q st} {p : Nums} : AW P m (ref11_Missing_c5 p) Q st ↔ AW P m (.seq (ref11_Missing_c3 p) (.cond (.t 19) (.seq (ref11_Missing_c4 p) .ret) .skip)) Q st := Iff.rfl
def ref11_Missing_c6 (p : Nums) : IC := (.region [⟨(some 11), (.mov (.t 6)), none, false⟩, ⟨(some 12), (.bin .add (.t 11) (.c (.d (.int .i64 1)))), none, false⟩, ⟨(some 6), (.asg (.t 12)), none, false⟩] [])
@[simp] theorem ref11_Missing_c6_eq {P m Q st} {p : Nums} : AW P m (ref11_Missing_c6 p) Q st ↔ AW P m (.region [⟨(some 11), (.mov (.t 6)), none, false⟩, ⟨(some 12), (.bin .add (.t 11) (.c (.d (.int .i64 1)))), none, false⟩, ⟨(some 6), (.asg (.t 12)), none, false⟩] []) Q st := Iff.rfl
def ref11_Missing_c7 (p : Nums) : IC := (.seq (.seq (ref11_Missing_c2 p) (.cond (.t 10) .skip (.exit 0))) (.seq (.block 1 (ref11_Missing_c5 p)) (ref11_Missing_c6 p)))
@[simp] theorem ref11_Missing_c7_eq {P m Q st} {p : Nums} : AW P m (ref11_Missing_c7 p) Q st ↔ AW P m (.seq (.seq (ref11_Missing_c2 p) (.cond (.t 10) .skip (.exit 0))) (.seq (.block 1 (ref11_Missing_c5 p)) (ref11_Missing_c6 p))) Q st := Iff.rfl
def ref11_Missing_c8 (p : Nums) : IC := (.region [⟨(some 24), (.build [(.d (.int .i64 0)), (.d (.int .i64 0))] []), none, false⟩, ⟨none, (.store 2 (.t 4) (.t 24)), none, false⟩, ⟨(some 5), (.asg (.c (.d (.bool false)))), none, false⟩] [])
@[simp] theorem ref11_Missing_c8_eq {P m Q st} {p : Nums} : AW P m (ref11_Missing_c8 p) Q st ↔ AW P m (.region [⟨(some 24), (.build [(.d (.int .i64 0)), (.d (.int .i64 0))] []), none, false⟩, ⟨none, (.store 2 (.t 4) (.t 24)), none, false⟩, ⟨(some 5), (.asg (.c (.d (.bool false)))), none, false⟩] []) Q st := Iff.rfl
def ic_ref11_Missing (p : Nums) : IC := (.seq (ref11_Missing_c1 p) (.seq (.seq (.region [⟨(some 6), (.asg (.c (.d (.int .i64 0)))), none, false⟩] []) (.block 0 (.loop (ref11_Missing_c7 p)))) (.seq (ref11_Missing_c8 p) .ret)))
def pairset_Sorted_c1 (p : Nums) : IC := (.region [⟨(some 4), (.mov (.t 3)), none, false⟩, ⟨(some 5), (.mov (.t 0)), none, false⟩, ⟨(some 6), (.len (.t 5)), none, false⟩, ⟨(some 7), (.bin .lss (.t 4) (.t 6)), none, false⟩] [])
@[simp] theorem pairset_Sorted_c1_eq {P m Q st} {p : Nums} : AW P m (pairset_Sorted_c1 p) Q st ↔ AW P m (.region [⟨(some 4), (.mov (.t 3)), none, false⟩, ⟨(some 5), (.mov (.t 0)), none, false⟩, ⟨(some 6), (.len (.t 5)), none, false⟩, ⟨(some 7), (.bin .lss (.t 4) (.t 6)), none, false⟩] []) Q st := Iff.rfl
def pairset_Sorted_c2 (p : Nums) : IC := (.region [⟨(some 10), (.mov (.t 0)), none, true⟩, ⟨(some 11), (.mov (.t 3)), none, true⟩, ⟨(some 12), (.bin .sub (.t 11) (.c (.d (.int .i64 1)))), none, true⟩, ⟨(some 13), (.iaddr 2 (.t 10) (.t 12)), none, true⟩, ⟨(some 14), (.load (some 2) (.t 13)), none, true⟩, ⟨(some 15), (.mov (.t 0)), none, true⟩, ⟨(some 16), (.mov (.t 3)), none, true⟩, ⟨(some 17), (.iaddr 2 (.t 15) (.t 16)), none, true⟩, ⟨(some 18), (.load (some 2) (.t 17)), none, true⟩, ⟨(some 19), (.call p.pairset_Less [(.t 14), (.t 18)]), none, false⟩, ⟨(some 20), (.un .not (.t 19)), none, false⟩] [])
@[simp] theorem pairset_Sorted_c2_eq {P m Q st} {p : Nums} : AW P m (pairset_Sorted_c2 p) Q st ↔ AW P m (.region [⟨(some 10), (.mov (.t 0)), none, true⟩, ⟨(some 11), (.mov (.t 3)), none, true⟩, ⟨(some 12), (.bin .sub (.t 11) (.c (.d (.int .i64 1)))), none, true⟩, ⟨(some 13), (.iaddr 2 (.t 10) (.t 12)), none, true⟩, ⟨(some 14), (.load (some 2) (.t 13)), none, true⟩, ⟨(some 15), (.mov (.t 0)), none, true⟩, ⟨(some 16), (.mov (.t 3)), none, true⟩, ⟨(some 17), (.iaddr 2 (.t 15) (.t 16)), none, true⟩, ⟨(some 18), (.load (some 2) (.t 17)), none, true⟩, ⟨(some 19), (.call p.pairset_Less [(.t 14), (.t 18)]), none, false⟩, ⟨(some 20), (.un .not (.t 19)), none, false⟩] []) Q st := Iff.rfl
def pairset_Sorted_c3 (p : Nums) : IC := (.seq (.region [⟨(some 2), (.asg (.c (.d (.bool false)))), none, false⟩] []) .ret)
@[simp] theorem pairset_Sorted_c3_eq {P m Q st} {p : Nums} : AW P m (pairset_Sorted_c3 p) Q st ↔ AW P m (.seq (.region [⟨(some 2), (.asg (.c (.d (.bool false)))), none, false⟩] []) .ret) Q st := Iff.rfl
def pairset_Sorted_c4 (p : Nums) : IC := (.seq (pairset_Sorted_c2 p) (.cond (.t 20) (pairset_Sorted_c3 p) .skip))
@[simp] theorem pairset_Sorted_c4_eq {P m Q st} {p : Nums} : AW P m (pairset_Sorted_c4 p) Q st ↔ AW P m (.seq (pairset_Sorted_c2 p) (.cond (.t 20) (pairset_Sorted_c3 p) .skip)) Q st := Iff.rfl
def pairset_Sorted_c5 (p : Nums) : IC := (.region [⟨(some 8), (.mov (.t 3)), none, false⟩, ⟨(some 9), (.bin .add (.t 8) (.c (.d (.int .i64 1)))), none, false⟩, ⟨(some 3), (.asg (.t 9)), none, false⟩] [])
@[simp] theorem pairset_Sorted_c5_eq {P m Q st} {p : Nums} : AW P m (pairset_Sorted_c5 p) Q st ↔ AW P m (.region [⟨(some 8), (.mov (.t 3)), none, false⟩, ⟨(some 9), (.bin .add (.t 8) (.c (.d (.int .i64 1)))), none, false⟩, ⟨(some 3), (.asg (.t 9)), none, false⟩] []) Q st := Iff.rfl
def pairset_Sorted_c6 (p : Nums) : IC := (.seq (.seq (pairset_Sorted_c1 p) (.cond (.t 7) .skip (.exit 0))) (.seq (.block 1 (pairset_Sorted_c4 p)) (pairset_Sorted_c5 p)))
@[simp] theorem pairset_Sorted_c6_eq {P m Q st} {p : Nums} : AW P m (pairset_Sorted_c6 p) Q st ↔ AW P m (.seq (.seq (pairset_Sorted_c1 p) (.cond (.t 7) .skip (.exit 0))) (.seq (.block 1 (pairset_Sorted_c4 p)) (pairset_Sorted_c5 p))) Q st := Iff.rfl
def ic_pairset_Sorted (p : Nums) : IC := (.seq (.region [⟨(some 2), (.asg (.c (.d (.bool false)))), none, false⟩] []) (.seq (.seq (.region [⟨(some 3), (.asg (.c (.d (.int .i64 1)))), none, false⟩] []) (.block 0 (.loop (pairset_Sorted_c6 p)))) (.seq (.region [⟨(some 2), (.asg (.c (.d (.bool true)))), none, false⟩] []) .ret)))
def ref11_Sorted_c1 (p : Nums) : IC := (.region [⟨(some 4), (.mov (.t 3)), none, false⟩, ⟨(some 5), (.bin .add (.t 4) (.c (.d (.int .i64 1)))), none, false⟩, ⟨(some 6), (.mov (.t 0)), none, false⟩, ⟨(some 7), (.len (.t 6)), none, false⟩, ⟨(some 8), (.bin .lss (.t 5) (.t 7)), none, false⟩] [])
@[simp] theorem ref11_Sorted_c1_eq {P m Q st} {p : Nums} : AW P m (ref11_Sorted_c1 p) Q st ↔ AW P m (.region [⟨(some 4), (.mov (.t 3)), none, false⟩, ⟨(some 5), (.bin .add (.t 4) (.c (.d (.int .i64 1)))), none, false⟩, ⟨(some 6), (.mov (.t 0)), none, false⟩, ⟨(some 7), (.len (.t 6)), none, false⟩, ⟨(some 8), (.bin .lss (.t 5) (.t 7)), none, false⟩] []) Q st := Iff.rfl
def ref11_Sorted_c2 (p : Nums) : IC := (.region [⟨(some 11), (.mov (.t 0)), none, true⟩, ⟨(some 12), (.mov (.t 3)), none, true⟩, ⟨(some 13), (.iaddr 2 (.t 11) (.t 12)), none, true⟩, ⟨(some 14), (.load (some 2) (.t 13)), none, true⟩, ⟨(some 15), (.mov (.t 0)), none, true⟩, ⟨(some 16), (.mov (.t 3)), none, true⟩, ⟨(some 17), (.bin .add (.t 16) (.c (.d (.int .i64 1)))), none, true⟩, ⟨(some 18), (.iaddr 2 (.t 15) (.t 17)), none, true⟩, ⟨(some 19), (.load (some 2) (.t 18)), none, true⟩, ⟨(some 20), (.call p.ref11_Less [(.t 14), (.t 19)]), none, false⟩, ⟨(some 21), (.un .not (.t 20)), none, false⟩] [])
@[simp] theorem ref11_Sorted_c2_eq {P m Q st} {p : Nums} : AW P m (ref11_Sorted_c2 p) Q st ↔ AW P m (.region [⟨(some 11), (.mov (.t 0)), none, true⟩, ⟨(some 12), (.mov (.t 3)), none, true⟩, ⟨(some 13), (.iaddr 2 (.t 11) (.t 12)), none, true⟩, ⟨(some 14), (.load (some 2) (.t 13)), none, true⟩, ⟨(some 15), (.mov (.t 0)), none, true⟩, ⟨(some 16), (.mov (.t 3)), none, true⟩, ⟨(some 17), (.bin .add (.t 16) (.c (.d (.int .i64 1)))), none, true⟩, ⟨(some 18), (.iaddr 2 (.t 15) (.t 17)), none, true⟩, ⟨(some 19), (.load (some 2) (.t 18)), none, true⟩, ⟨(some 20), (.call p.ref11_Less [(.t 14), (.t 19)]), none, false⟩, ⟨(some 21), (.un .not (.t 20)), none, false⟩] []) Q st := Iff.rfl
def ref11_Sorted_c3 (p : Nums) : IC := (.seq (.region [⟨(some 2), (.asg (.c (.d (.bool false)))), none, false⟩] []) .ret)
@[simp] theorem ref11_Sorted_c3_eq {P m Q st} {p : Nums} : AW P m (ref11_Sorted_c3 p) Q st ↔ AW P m (.seq (.region [⟨(some 2), (.asg (.c (.d (.bool false)))), none, false⟩] []) .ret) Q st := Iff.rfl
def ref11_Sorted_c4 (p : Nums) : IC := (.seq (ref11_Sorted_c2 p) (.cond (.t 21) (ref11_Sorted_c3 p) .skip))
@[simp] theorem ref11_Sorted_c4_eq {P m Q st} {p : Nums} : AW P m (ref11_Sorted_c4 p) Q st ↔ AW P m (.seq (ref11_Sorted_c2 p) (.cond (.t 21) (ref11_Sorted_c3 p) .skip)) Q st := Iff.rfl
def ref11_Sorted_c5 (p : Nums) : IC := (.region [⟨(some 9), (.mov (.t 3)), none, false⟩, ⟨(some 10), (.bin .add (.t 9) (.c (.d (.int .i64 1)))), none, false⟩, ⟨(some 3), (.asg (.t 10)), none, false⟩] [])
@[simp] theorem ref11_Sorted_c5_eq {P m Q st} {p : Nums} : AW P m (ref11_Sorted_c5 p) Q st ↔ AW P m (.region [⟨(some 9), (.mov (.t 3)), none, false⟩, ⟨(some 10), (.bin .add (.t 9) (.c (.d (.int .i64 1)))), none, false⟩, ⟨(some 3), (.asg (.t 10)), none, false⟩] []) Q st := Iff.rfl
def ref11_Sorted_c6 (p : Nums) : IC := (.seq (.seq (ref11_Sorted_c1 p) (.cond (.t 8) .skip (.exit 0))) (.seq (.block 1 (ref11_Sorted_c4 p)) (ref11_Sorted_c5 p)))
@[simp] theorem ref11_Sorted_c6_eq {P m Q st} {p : Nums} : AW P m (ref11_Sorted_c6 p) Q st ↔ AW P m (.seq (.seq (ref11_Sorted_c1 p) (.cond (.t 8) .skip (.exit 0))) (.seq (.block 1 (ref11_Sorted_c4 p)) (ref11_Sorted_c5 p))) Q st := Iff.rfl
def ic_ref11_Sorted (p : Nums) : IC := (.seq (.region [⟨(some 2), (.asg (.c (.d (.bool false)))), none, false⟩] []) (.seq (.seq (.region [⟨(some 3), (.asg (.c (.d (.int .i64 0)))), none, false⟩] []) (.block 0 (.loop (ref11_Sorted_c6 p)))) (.seq (.region [⟨(some 2), (.asg (.c (.d (.bool true)))), none, false⟩] []) .ret)))
def ref11_Same_c1 (p : Nums) : IC := (.region [⟨(some 6), (.mov (.t 0)), none, false⟩, ⟨(some 7), (.len (.t 6)), none, false⟩, ⟨(some 8), (.mov (.t 1)), none, false⟩, ⟨(some 9), (.len (.t 8)), none, false⟩, ⟨(some 10), (.bin .neq (.t 7) (.t 9)), none, false⟩] [])
@[simp] theorem ref11_Same_c1_eq {P m Q st} {p : Nums} : AW P m (ref11_Same_c1 p) Q st ↔ AW P m (.region [⟨(some 6), (.mov (.t 0)), none, false⟩, ⟨(some 7), (.len (.t 6)), none, false⟩, ⟨(some 8), (.mov (.t 1)), none, false⟩, ⟨(some 9), (.len (.t 8)), none, false⟩, ⟨(some 10), (.bin .neq (.t 7) (.t 9)), none, false⟩] []) Q st := Iff.rfl
def ref11_Same_c2 (p : Nums) : IC := (.seq (.region [⟨(some 4), (.asg (.c (.d (.bool false)))), none, false⟩] []) .ret)
@[simp] theorem ref11_Same_c2_eq {P m Q st} {p : Nums} : AW P m (ref11_Same_c2 p) Q st ↔ AW P m (.seq (.region [⟨(some 4), (.asg (.c (.d (.bool false)))), none, false⟩] []) .ret) Q st := Iff.rfl
def ref11_Same_c3 (p : Nums) : IC := (.region [⟨(some 11), (.mov (.t 5)), none, false⟩, ⟨(some 12), (.mov (.t 0)), none, false⟩, ⟨(some 13), (.len (.t 12)), none, false⟩, ⟨(some 14), (.bin .lss (.t 11) (.t 13)), none, false⟩] [])
@[simp] theorem ref11_Same_c3_eq {P m Q st} {p : Nums} : AW P m (ref11_Same_c3 p) Q st ↔ AW P m (.region [⟨(some 11), (.mov (.t 5)), none, false⟩, ⟨(some 12), (.mov (.t 0)), none, false⟩, ⟨(some 13), (.len (.t 12)), none, false⟩, ⟨(some 14), (.bin .lss (.t 11) (.t 13)), none, false⟩] []) Q st := Iff.rfl
def ref11_Same_c4 (p : Nums) : IC := (.region [⟨(some 17), (.mov (.t 0)), none, true⟩, ⟨(some 18), (.mov (.t 5)), none, true⟩, ⟨(some 19), (.iaddr 2 (.t 17) (.t 18)), none, true⟩, ⟨(some 20), (.load (some 2) (.t 19)), none, true⟩, ⟨(some 21), (.mov (.t 1)), none, true⟩, ⟨(some 22), (.mov (.t 5)), none, true⟩, ⟨(some 23), (.iaddr 2 (.t 21) (.t 22)), none, true⟩, ⟨(some 24), (.load (some 2) (.t 23)), none, true⟩, ⟨(some 25), (.eqs true [.int, .int] (.t 20) (.t 24)), none, false⟩] [])
@[simp] theorem ref11_Same_c4_eq {P m Q st} {p : Nums} : AW P m (ref11_Same_c4 p) Q st ↔ AW P m (.region [⟨(some 17), (.mov (.t 0)), none, true⟩, ⟨(some 18), (.mov (.t 5)), none, true⟩, ⟨(some 19), (.iaddr 2 (.t 17) (.t 18)), none, true⟩, ⟨(some 20), (.load (some 2) (.t 19)), none, true⟩, ⟨(some 21), (.mov (.t 1)), none, true⟩, ⟨(some 22), (.mov (.t 5)), none, true⟩, ⟨(some 23), (.iaddr 2 (.t 21) (.t 22)), none, true⟩, ⟨(some 24), (.load (some 2) (.t 23)), none, true⟩, ⟨(some 25), (.eqs true [.int, .int] (.t 20) (.t 24)), none, false⟩] []) Q st := Iff.rfl
def ref11_Same_c5 (p : Nums) : IC := (.seq (.region [⟨(some 4), (.asg (.c (.d (.bool false)))), none, false⟩] []) .ret)
@[simp] theorem ref11_Same_c5_eq {P m Q st} {p : Nums} : AW P m (ref11_Same_c5 p) Q st ↔ AW P m (.seq (.region [⟨(some 4), (.asg (.c (.d (.bool false)))), none, false⟩] []) .ret) Q st := Iff.rfl
def ref11_Same_c6 (p : Nums) : IC := (.seq (ref11_Same_c4 p) (.cond (.t 25) (ref11_Same_c5 p) .skip))
@[simp] theorem ref11_Same_c6_eq {P m Q st} {p : Nums} : AW P m (ref11_Same_c6 p) Q st ↔ AW P m (.seq (ref11_Same_c4 p) (.cond (.t 25) (ref11_Same_c5 p) .skip)) Q st := Iff.rfl
def ref11_Same_c7 (p : Nums) : IC := (.region [⟨(some 15), (.mov (.t 5)), none, false⟩, ⟨(some 16), (.bin .add (.t 15) (.c (.d (.int .i64 1)))), none, false⟩, ⟨(some 5), (.asg (.t 16)), none, false⟩] [])
@[simp] theorem ref11_Same_c7_eq {P m Q st} {p : Nums} : AW P m (ref11_Same_c7 p) Q st ↔ AW P m (.region [⟨(some 15), (.mov (.t 5)), none, false⟩, ⟨(some 16), (.bin .add (.t 15) (.c (.d (.int .i64 1)))), none, false⟩, ⟨(some 5), (.asg (.t 16)), none, false⟩] []) Q st := Iff.rfl
def ref11_Same_c8 (p : Nums) : IC := (.seq (.seq (ref11_Same_c3 p) (.cond (.t 14) .skip (.exit 0))) (.seq (.block 1 (ref11_Same_c6 p)) (ref11_Same_c7 p)))
@[simp] theorem ref11_Same_c8_eq {P m Q st} {p : Nums} : AW P m (ref11_Same_c8 p) Q st ↔ AW P m (.seq (.seq (ref11_Same_c3 p) (.cond (.t 14) .skip (.exit 0))) (.seq (.block 1 (ref11_Same_c6 p)) (ref11_Same_c7 p))) Q st := Iff.rfl
def ic_ref11_Same (p : Nums) : IC := (.seq (.region [⟨(some 4), (.asg (.c (.d (.bool false)))), none, false⟩] []) (.seq (.seq (ref11_Same_c1 p) (.cond (.t 10) (ref11_Same_c2 p) .skip)) (.seq (.seq (.region [⟨(some 5), (.asg (.c (.d (.int .i64 0)))), none, false⟩] []) (.block 0 (.loop (ref11_Same_c8 p)))) (.seq (.region [⟨(some 4), (.asg (.c (.d (.bool true)))), none, false⟩] []) .ret))))
def pairset_Make_c1 (p : Nums) : IC := (.region [⟨(some 4), (.mov (.t 0)), none, false⟩, ⟨(some 5), (.call p.slices_Clone_Pair [(.t 4)]), none, false⟩, ⟨(some 3), (.asg (.t 5)), none, false⟩] [])
@[simp] theorem pairset_Make_c1_eq {P m Q st} {p : Nums} : AW P m (pairset_Make_c1 p) Q st ↔ AW P m (.region [⟨(some 4), (.mov (.t 0)), none, false⟩, ⟨(some 5), (.call p.slices_Clone_Pair [(.t 4)]), none, false⟩, ⟨(some 3), (.asg (.t 5)), none, false⟩] []) Q st := Iff.rfl
def pairset_Make_c2 (p : Nums) : IC := (.region [⟨(some 6), (.mov (.t 3)), none, false⟩, ⟨(some 7), (.call p.slices_SortFunc_Pair [(.t 6), (.c (.fn (.func p.pairset_compare) [] []))]), none, false⟩] [])
@[simp] theorem pairset_Make_c2_eq {P m Q st} {p : Nums} : AW P m (pairset_Make_c2 p) Q st ↔ AW P m (.region [⟨(some 6), (.mov (.t 3)), none, false⟩, ⟨(some 7), (.call p.slices_SortFunc_Pair [(.t 6), (.c (.fn (.func p.pairset_compare) [] []))]), none, false⟩] []) Q st := Iff.rfl
def pairset_Make_c3 (p : Nums) : IC := (.region [⟨(some 8), (.mov (.t 3)), none, false⟩, ⟨(some 9), (.call p.slices_Compact_Pair [(.t 8)]), none, false⟩, ⟨(some 2), (.asg (.t 9)), none, false⟩] [])
@[simp] theorem pairset_Make_c3_eq {P m Q st} {p : Nums} : AW P m (pairset_Make_c3 p) Q st ↔ AW P m (.region [⟨(some 8), (.mov (.t 3)), none, false⟩, ⟨(some 9), (.call p.slices_Compact_Pair [(.t 8)]), none, false⟩, ⟨(some 2), (.asg (.t 9)), none, false⟩] []) Q st := Iff.rfl
def ic_pairset_Make (p : Nums) : IC := (.seq (.region [⟨(some 2), (.asg (.c .nils)), none, false⟩] []) (.seq (pairset_Make_c1 p) (.seq (pairset_Make_c2 p) (.seq (pairset_Make_c3 p) .ret))))
def pairset_Has_c1 (p : Nums) : IC := (.region [⟨(some 6), (.mov (.t 0)), none, false⟩, ⟨(some 7), (.load (some 2) (.t 3)), none, false⟩, ⟨(some 8), (.call p.pairset_find [(.t 6), (.t 7)]), none, false⟩, ⟨(some 5), (.asg (.t 8)), none, false⟩] [])
@[simp] theorem pairset_Has_c1_eq {P m Q st} {p : Nums} : AW P m (pairset_Has_c1 p) Q st ↔ AW P m (.region [⟨(some 6), (.mov (.t 0)), none, false⟩, ⟨(some 7), (.load (some 2) (.t 3)), none, false⟩, ⟨(some 8), (.call p.pairset_find [(.t 6), (.t 7)]), none, false⟩, ⟨(some 5), (.asg (.t 8)), none, false⟩] []) Q st := Iff.rfl
def pairset_Has_c2 (p : Nums) : IC := (.region [⟨(some 9), (.mov (.t 5)), none, true⟩, ⟨(some 10), (.mov (.t 0)), none, true⟩, ⟨(some 11), (.len (.t 10)), none, true⟩, ⟨(some 12), (.bin .lss (.t 9) (.t 11)), none, false⟩, ⟨(some 13), (.mov (.t 12)), none, false⟩, ⟨(some 14), (.mov (.t 0)), (some (13, true)), true⟩, ⟨(some 15), (.mov (.t 5)), (some (13, true)), true⟩, ⟨(some 16), (.iaddr 2 (.t 14) (.t 15)), (some (13, true)), true⟩, ⟨(some 17), (.load (some 2) (.t 16)), (some (13, true)), true⟩, ⟨(some 18), (.load (some 2) (.t 3)), (some (13, true)), true⟩, ⟨(some 19), (.eqs false [.int, .int] (.t 17) (.t 18)), (some (13, true)), false⟩, ⟨(some 20), (.pick (.t 13) (.t 19) (.c (.d (.bool false)))), none, false⟩, ⟨(some 4), (.asg (.t 20)), none, false⟩] [])
@[simp] theorem pairset_Has_c2_eq {P m Q st} {p : Nums} : AW P m (pairset_Has_c2 p) Q st ↔ AW P m (.region [⟨(some 9), (.mov (.t 5)), none, true⟩, ⟨(some 10), (.mov (.t 0)), none, true⟩, ⟨(some 11), (.len (.t 10)), none, true⟩, ⟨(some 12), (.bin .lss (.t 9) (.t 11)), none, false⟩, ⟨(some 13), (.mov (.t 12)), none, false⟩, ⟨(some 14), (.mov (.t 0)), (some (13, true)), true⟩, ⟨(some 15), (.mov (.t 5)), (some (13, true)), true⟩, ⟨(some 16), (.iaddr 2 (.t 14) (.t 15)), (some (13, true)), true⟩, ⟨(some 17), (.load (some 2) (.t 16)), (some (13, true)), true⟩, ⟨(some 18), (.load (some 2) (.t 3)), (some (13, true)), true⟩, ⟨(some 19), (.eqs false [.int, .int] (.t 17) (.t 18)), (some (13, true)), false⟩, ⟨(some 20), (.pick (.t 13) (.t 19) (.c (.d (.bool false)))), none, false⟩, ⟨(some 4), (.asg (.t 20)), none, false⟩] []) Q st := Iff.rfl
def ic_pairset_Has (p : Nums) : IC := (.seq (.region [⟨(some 3), (.box (.t 1)), none, false⟩, ⟨(some 4), (.asg (.c (.d (.bool false)))), none, false⟩] []) (.seq (pairset_Has_c1 p) (.seq (pairset_Has_c2 p) .ret)))
def ref11_Has_c1 (p : Nums) : IC := (.region [⟨(some 6), (.mov (.t 5)), none, false⟩, ⟨(some 7), (.mov (.t 0)), none, false⟩, ⟨(some 8), (.len (.t 7)), none, false⟩, ⟨(some 9), (.bin .lss (.t 6) (.t 8)), none, false⟩] [])
@[simp] theorem ref11_Has_c1_eq {P m Q st} {p : Nums} : AW P m (ref11_Has_c1 p) Q st ↔ AW P m (.region [⟨(some 6), (.mov (.t 5)), none, false⟩, ⟨(some 7), (.mov (.t 0)), none, false⟩, ⟨(some 8), (.len (.t 7)), none, false⟩, ⟨(some 9), (.bin .lss (.t 6) (.t 8)), none, false⟩] []) Q st := Iff.rfl
def ref11_Has_c2 (p : Nums) : IC := (.region [⟨(some 12), (.mov (.t 0)), none, true⟩, ⟨(some 13), (.mov (.t 5)), none, true⟩, ⟨(some 14), (.iaddr 2 (.t 12) (.t 13)), none, true⟩, ⟨(some 15), (.load (some 2) (.t 14)), none, true⟩, ⟨(some 16), (.load (some 2) (.t 3)), none, true⟩, ⟨(some 17), (.eqs false [.int, .int] (.t 15) (.t 16)), none, false⟩] [])
@[simp] theorem ref11_Has_c2_eq {P m Q st} {p : Nums} : AW P m (ref11_Has_c2 p) Q st ↔ AW P m (.region [⟨(some 12), (.mov (.t 0)), none, true⟩, ⟨(some 13), (.mov (.t 5)), none, true⟩, ⟨(some 14), (.iaddr 2 (.t 12) (.t 13)), none, true⟩, ⟨(some 15), (.load (some 2) (.t 14)), none, true⟩, ⟨(some 16), (.load (some 2) (.t 3)), none, true⟩, ⟨(some 17), (.eqs false [.int, .int] (.t 15) (.t 16)), none, false⟩] []) Q st := Iff.rfl
def ref11_Has_c3 (p : Nums) : IC := (.seq (.region [⟨(some 4), (.asg (.c (.d (.bool true)))), none, false⟩] []) .ret)
@[simp] theorem ref11_Has_c3_eq {P m Q st} {p : Nums} : AW P m (ref11_Has_c3 p) Q st ↔ AW P m (.seq (.region [⟨(some 4), (.asg (.c (.d (.bool true)))), none, false⟩] []) .ret) Q st := Iff.rfl
def ref11_Has_c4 (p : Nums) : IC := (.seq (ref11_Has_c2 p) (.cond (.t 17) (ref11_Has_c3 p) .skip))
@[simp] theorem ref11_Has_c4_eq {P m Q st} {p : Nums} : AW P m (ref11_Has_c4 p) Q st ↔ AW P m (.seq (ref11_Has_c2 p) (.cond (.t 17) (ref11_Has_c3 p) .skip)) Q st := Iff.rfl
def ref11_Has_c5 (p : Nums) : IC := (.region [⟨(some 10), (.mov (.t 5)), none, false⟩, ⟨(some 11), (.bin .add (.t 10) (.c (.d (.int .i64 1)))), none, false⟩, ⟨(some 5), (.asg (.t 11)), none, false⟩] [])
@[simp] theorem ref11_Has_c5_eq {P m Q st} {p : Nums} : AW P m (ref11_Has_c5 p) Q st ↔ AW P m (.region [⟨(some 10), (.mov (.t 5)), none, false⟩, ⟨(some 11), (.bin .add (.t 10) (.c (.d (.int .i64 1)))), none, false⟩, ⟨(some 5), (.asg (.t 11)), none, false⟩] []) Q st := Iff.rfl
def ref11_Has_c6 (p : Nums) : IC := (.seq (.seq (ref11_Has_c1 p) (.cond (.t 9) .skip (.exit 0))) (.seq (.block 1 (ref11_Has_c4 p)) (ref11_Has_c5 p)))
@[simp] theorem ref11_Has_c6_eq {P m Q st} {p : Nums} : AW P m (ref11_Has_c6 p) Q st ↔ AW P m (.seq (.seq (ref11_Has_c1 p) (.cond (.t 9) .skip (.exit 0))) (.seq (.block 1 (ref11_Has_c4 p)) (ref11_Has_c5 p))) Q st := Iff.rfl
def ic_ref11_Has (p : Nums) : IC := (.seq (.region [⟨(some 3), (.box (.t 1)), none, false⟩, ⟨(some 4), (.asg (.c (.d (.bool false)))), none, false⟩] []) (.seq (.seq (.region [⟨(some 5), (.asg (.c (.d (.int .i64 0)))), none, false⟩] []) (.block 0 (.loop (ref11_Has_c6 p)))) (.seq (.region [⟨(some 4), (.asg (.c (.d (.bool false)))), none, false⟩] []) .ret)))
def pairset_Add_c1 (p : Nums) : IC := (.region [⟨(some 7), (.mov (.t 0)), none, false⟩, ⟨(some 8), (.load (some 2) (.t 3)), none, false⟩, ⟨(some 9), (.call p.pairset_find [(.t 7), (.t 8)]), none, false⟩, ⟨(some 5), (.asg (.t 9)), none, false⟩] [])
@[simp] theorem pairset_Add_c1_eq {P m Q st} {p : Nums} : AW P m (pairset_Add_c1 p) Q st ↔ AW P m (.region [⟨(some 7), (.mov (.t 0)), none, false⟩, ⟨(some 8), (.load (some 2) (.t 3)), none, false⟩, ⟨(some 9), (.call p.pairset_find [(.t 7), (.t 8)]), none, false⟩, ⟨(some 5), (.asg (.t 9)), none, false⟩] []) Q st := Iff.rfl
def pairset_Add_c2 (p : Nums) : IC := (.region [⟨(some 10), (.mov (.t 0)), none, false⟩, ⟨(some 11), (.len (.t 10)), none, false⟩, ⟨(some 12), (.bin .add (.t 11) (.c (.d (.int .i64 1)))), none, false⟩, ⟨(some 13), (.mkslice 2 16 [(.int .i64 0), (.int .i64 0)] (.c (.d (.int .i64 0))) (.t 12)), none, false⟩, ⟨(some 6), (.asg (.t 13)), none, false⟩] [])
@[simp] theorem pairset_Add_c2_eq {P m Q st} {p : Nums} : AW P m (pairset_Add_c2 p) Q st ↔ AW P m (.region [⟨(some 10), (.mov (.t 0)), none, false⟩, ⟨(some 11), (.len (.t 10)), none, false⟩, ⟨(some 12), (.bin .add (.t 11) (.c (.d (.int .i64 1)))), none, false⟩, ⟨(some 13), (.mkslice 2 16 [(.int .i64 0), (.int .i64 0)] (.c (.d (.int .i64 0))) (.t 12)), none, false⟩, ⟨(some 6), (.asg (.t 13)), none, false⟩] []) Q st := Iff.rfl
def pairset_Add_c3 (p : Nums) : IC := (.region [⟨(some 14), (.mov (.t 6)), none, true⟩, ⟨(some 15), (.mov (.t 0)), none, true⟩, ⟨(some 16), (.mov (.t 5)), none, true⟩, ⟨(some 17), (.slc 2 (.t 15) none (some (.t 16))), none, true⟩, ⟨(some 18), (.appq 2 16 (.t 14) (.t 17) 6), none, true⟩, ⟨(some 19), (.load (some 2) (.t 3)), none, true⟩, ⟨(some 20), (.bslice 2 1 [(.int .i64 0), (.int .i64 0)] [(0, (.t 19))]), none, true⟩, ⟨(some 21), (.app 2 16 (.t 18) (.t 20)), none, false⟩, ⟨(some 6), (.asg (.t 21)), none, false⟩] [41])
@[simp] theorem pairset_Add_c3_eq {P m Q st} {p : Nums} : AW P m (pairset_Add_c3 p) Q st ↔ AW P m (.region [⟨(some 14), (.mov (.t 6)), none, true⟩, ⟨(some 15), (.mov (.t 0)), none, true⟩, ⟨(some 16), (.mov (.t 5)), none, true⟩, ⟨(some 17), (.slc 2 (.t 15) none (some (.t 16))), none, true⟩, ⟨(some 18), (.appq 2 16 (.t 14) (.t 17) 6), none, true⟩, ⟨(some 19), (.load (some 2) (.t 3)), none, true⟩, ⟨(some 20), (.bslice 2 1 [(.int .i64 0), (.int .i64 0)] [(0, (.t 19))]), none, true⟩, ⟨(some 21), (.app 2 16 (.t 18) (.t 20)), none, false⟩, ⟨(some 6), (.asg (.t 21)), none, false⟩] [41]) Q st := Iff.rfl
def pairset_Add_c4 (p : Nums) : IC := (.region [⟨(some 22), (.mov (.t 5)), none, true⟩, ⟨(some 23), (.mov (.t 0)), none, true⟩, ⟨(some 24), (.len (.t 23)), none, true⟩, ⟨(some 25), (.bin .lss (.t 22) (.t 24)), none, false⟩, ⟨(some 26), (.mov (.t 25)), none, false⟩, ⟨(some 27), (.mov (.t 0)), (some (26, true)), true⟩, ⟨(some 28), (.mov (.t 5)), (some (26, true)), true⟩, ⟨(some 29), (.iaddr 2 (.t 27) (.t 28)), (some (26, true)), true⟩, ⟨(some 30), (.load (some 2) (.t 29)), (some (26, true)), true⟩, ⟨(some 31), (.load (some 2) (.t 3)), (some (26, true)), true⟩, ⟨(some 32), (.eqs false [.int, .int] (.t 30) (.t 31)), (some (26, true)), false⟩, ⟨(some 33), (.pick (.t 26) (.t 32) (.c (.d (.bool false)))), none, false⟩] [])
@[simp] theorem pairset_Add_c4_eq {P m Q st} {p : Nums} : AW P m (pairset_Add_c4 p) Q st ↔ AW P m (.region [⟨(some 22), (.mov (.t 5)), none, true⟩, ⟨(some 23), (.mov (.t 0)), none, true⟩, ⟨(some 24), (.len (.t 23)), none, true⟩, ⟨(some 25), (.bin .lss (.t 22) (.t 24)), none, false⟩, ⟨(some 26), (.mov (.t 25)), none, false⟩, ⟨(some 27), (.mov (.t 0)), (some (26, true)), true⟩, ⟨(some 28), (.mov (.t 5)), (some (26, true)), true⟩, ⟨(some 29), (.iaddr 2 (.t 27) (.t 28)), (some (26, true)), true⟩, ⟨(some 30), (.load (some 2) (.t 29)), (some (26, true)), true⟩, ⟨(some 31), (.load (some 2) (.t 3)), (some (26, true)), true⟩, ⟨(some 32), (.eqs false [.int, .int] (.t 30) (.t 31)), (some (26, true)), false⟩, ⟨(some 33), (.pick (.t 26) (.t 32) (.c (.d (.bool false)))), none, false⟩] []) Q st := Iff.rfl
def pairset_Add_c5 (p : Nums) : IC := (.region [⟨(some 34), (.mov (.t 5)), none, false⟩, ⟨(some 35), (.bin .add (.t 34) (.c (.d (.int .i64 1)))), none, false⟩, ⟨(some 5), (.asg (.t 35)), none, false⟩] [])
@[simp] theorem pairset_Add_c5_eq {P m Q st} {p : Nums} : AW P m (pairset_Add_c5 p) Q st ↔ AW P m (.region [⟨(some 34), (.mov (.t 5)), none, false⟩, ⟨(some 35), (.bin .add (.t 34) (.c (.d (.int .i64 1)))), none, false⟩, ⟨(some 5), (.asg (.t 35)), none, false⟩] []) Q st := Iff.rfl
def pairset_Add_c6 (p : Nums) : IC := (.region [⟨(some 36), (.mov (.t 6)), none, false⟩, ⟨(some 37), (.mov (.t 0)), none, false⟩, ⟨(some 38), (.mov (.t 5)), none, false⟩, ⟨(some 39), (.slc 2 (.t 37) (some (.t 38)) none), none, false⟩, ⟨(some 40), (.app 2 16 (.t 36) (.t 39)), none, false⟩, ⟨(some 4), (.asg (.t 40)), none, false⟩] [])
@[simp] theorem pairset_Add_c6_eq {P m Q st} {p : Nums} : AW P m (pairset_Add_c6 p) Q st ↔ AW P m (.region [⟨(some 36), (.mov (.t 6)), none, false⟩, ⟨(some 37), (.mov (.t 0)), none, false⟩, ⟨(some 38), (.mov (.t 5)), none, false⟩, ⟨(some 39), (.slc 2 (.t 37) (some (.t 38)) none), none, false⟩, ⟨(some 40), (.app 2 16 (.t 36) (.t 39)), none, false⟩, ⟨(some 4), (.asg (.t 40)), none, false⟩] []) Q st := Iff.rfl
def ic_pairset_Add (p : Nums) : IC := (.seq (.region [⟨(some 3), (.box (.t 1)), none, false⟩, ⟨(some 4), (.asg (.c .nils)), none, false⟩] []) (.seq (pairset_Add_c1 p) (.seq (pairset_Add_c2 p) (.seq (pairset_Add_c3 p) (.seq (.seq (pairset_Add_c4 p) (.cond (.t 33) (pairset_Add_c5 p) .skip)) (.seq (pairset_Add_c6 p) .ret))))))
def ref11_Add_c1 (p : Nums) : IC := (.region [⟨(some 8), (.mov (.t 7)), none, false⟩, ⟨(some 9), (.mov (.t 0)), none, false⟩, ⟨(some 10), (.len (.t 9)), none, false⟩, ⟨(some 11), (.bin .lss (.t 8) (.t 10)), none, false⟩] [])
@[simp] theorem ref11_Add_c1_eq {P m Q st} {p : Nums} : AW P m (ref11_Add_c1 p) Q st ↔ AW P m (.region [⟨(some 8), (.mov (.t 7)), none, false⟩, ⟨(some 9), (.mov (.t 0)), none, false⟩, ⟨(some 10), (.len (.t 9)), none, false⟩, ⟨(some 11), (.bin .lss (.t 8) (.t 10)), none, false⟩] []) Q st := Iff.rfl
def ref11_Add_c2 (p : Nums) : IC := (.region [⟨(some 14), (.mov (.t 6)), none, false⟩, ⟨(some 15), (.un .not (.t 14)), none, false⟩, ⟨(some 16), (.mov (.t 15)), none, false⟩, ⟨(some 17), (.mov (.t 0)), (some (16, true)), true⟩, ⟨(some 18), (.mov (.t 7)), (some (16, true)), true⟩, ⟨(some 19), (.iaddr 2 (.t 17) (.t 18)), (some (16, true)), true⟩, ⟨(some 20), (.load (some 2) (.t 19)), (some (16, true)), true⟩, ⟨(some 21), (.load (some 2) (.t 3)), (some (16, true)), true⟩, ⟨(some 22), (.call p.ref11_Less [(.t 20), (.t 21)]), (some (16, true)), false⟩, ⟨(some 23), (.un .not (.t 22)), (some (16, true)), false⟩, ⟨(some 24), (.pick (.t 16) (.t 23) (.c (.d (.bool false)))), none, false⟩] [])
@[simp] theorem ref11_Add_c2_eq {P m Q st} {p : Nums} : AW P m (ref11_Add_c2 p) Q st ↔ AW P m (.region [⟨(some 14), (.mov (.t 6)), none, false⟩, ⟨(some 15), (.un .not (.t 14)), none, false⟩, ⟨(some 16), (.mov (.t 15)), none, false⟩, ⟨(some 17), (.mov (.t 0)), (some (16, true)), true⟩, ⟨(some 18), (.mov (.t 7)), (some (16, true)), true⟩, ⟨(some 19), (.iaddr 2 (.t 17) (.t 18)), (some (16, true)), true⟩, ⟨(some 20), (.load (some 2) (.t 19)), (some (16, true)), true⟩, ⟨(some 21), (.load (some 2) (.t 3)), (some (16, true)), true⟩, ⟨(some 22), (.call p.ref11_Less [(.t 20), (.t 21)]), (some (16, true)), false⟩, ⟨(some 23), (.un .not (.t 22)), (some (16, true)), false⟩, ⟨(some 24), (.pick (.t 16) (.t 23) (.c (.d (.bool false)))), none, false⟩] []) Q st := Iff.rfl
def ref11_Add_c3 (p : Nums) : IC := (.region [⟨(some 25), (.mov (.t 5)), none, false⟩, ⟨(some 26), (.load (some 2) (.t 3)), none, false⟩, ⟨(some 27), (.bslice 2 1 [(.int .i64 0), (.int .i64 0)] [(0, (.t 26))]), none, false⟩, ⟨(some 28), (.app 2 16 (.t 25) (.t 27)), none, false⟩, ⟨(some 5), (.asg (.t 28)), none, false⟩] [])
@[simp] theorem ref11_Add_c3_eq {P m Q st} {p : Nums} : AW P m (ref11_Add_c3 p) Q st ↔ AW P m (.region [⟨(some 25), (.mov (.t 5)), none, false⟩, ⟨(some 26), (.load (some 2) (.t 3)), none, false⟩, ⟨(some 27), (.bslice 2 1 [(.int .i64 0), (.int .i64 0)] [(0, (.t 26))]), none, false⟩, ⟨(some 28), (.app 2 16 (.t 25) (.t 27)), none, false⟩, ⟨(some 5), (.asg (.t 28)), none, false⟩] []) Q st := Iff.rfl
def ref11_Add_c4 (p : Nums) : IC := (.seq (ref11_Add_c3 p) (.region [⟨(some 6), (.asg (.c (.d (.bool true)))), none, false⟩] []))
@[simp] theorem ref11_Add_c4_eq {P m Q st} {p : Nums} : AW P m (ref11_Add_c4 p) Q st ↔ AW P m (.seq (ref11_Add_c3 p) (.region [⟨(some 6), (.asg (.c (.d (.bool true)))), none, false⟩] [])) Q st := Iff.rfl
def ref11_Add_c5 (p : Nums) : IC := (.region [⟨(some 29), (.mov (.t 0)), none, true⟩, ⟨(some 30), (.mov (.t 7)), none, true⟩, ⟨(some 31), (.iaddr 2 (.t 29) (.t 30)), none, true⟩, ⟨(some 32), (.load (some 2) (.t 31)), none, true⟩, ⟨(some 33), (.load (some 2) (.t 3)), none, true⟩, ⟨(some 34), (.eqs true [.int, .int] (.t 32) (.t 33)), none, false⟩] [])
@[simp] theorem ref11_Add_c5_eq {P m Q st} {p : Nums} : AW P m (ref11_Add_c5 p) Q st ↔ AW P m (.region [⟨(some 29), (.mov (.t 0)), none, true⟩, ⟨(some 30), (.mov (.t 7)), none, true⟩, ⟨(some 31), (.iaddr 2 (.t 29) (.t 30)), none, true⟩, ⟨(some 32), (.load (some 2) (.t 31)), none, true⟩, ⟨(some 33), (.load (some 2) (.t 3)), none, true⟩, ⟨(some 34), (.eqs true [.int, .int] (.t 32) (.t 33)), none, false⟩] []) Q st := Iff.rfl
def ref11_Add_c6 (p : Nums) : IC := (.region [⟨(some 35), (.mov (.t 5)), none, false⟩, ⟨(some 36), (.mov (.t 0)), none, false⟩, ⟨(some 37), (.mov (.t 7)), none, false⟩, ⟨(some 38), (.iaddr 2 (.t 36) (.t 37)), none, false⟩, ⟨(some 39), (.load (some 2) (.t 38)), none, false⟩, ⟨(some 40), (.bslice 2 1 [(.int .i64 0), (.int .i64 0)] [(0, (.t 39))]), none, false⟩, ⟨(some 41), (.app 2 16 (.t 35) (.t 40)), none, false⟩, ⟨(some 5), (.asg (.t 41)), none, false⟩] [])
@[simp] theorem ref11_Add_c6_eq {P m Q st} {p : Nums} : AW P m (ref11_Add_c6 p) Q st ↔ AW P m (.region [⟨(some 35), (.mov (.t 5)), none, false⟩, ⟨(some 36), (.mov (.t 0)), none, false⟩, ⟨(some 37), (.mov (.t 7)), none, false⟩, ⟨(some 38), (.iaddr 2 (.t 36) (.t 37)), none, false⟩, ⟨(some 39), (.load (some 2) (.t 38)), none, false⟩, ⟨(some 40), (.bslice 2 1 [(.int .i64 0), (.int .i64 0)] [(0, (.t 39))]), none, false⟩, ⟨(some 41), (.app 2 16 (.t 35) (.t 40)), none, false⟩, ⟨(some 5), (.asg (.t 41)), none, false⟩] []) Q st := Iff.rfl
def ref11_Add_c7 (p : Nums) : IC := (.seq (.seq (ref11_Add_c2 p) (.cond (.t 24) (ref11_Add_c4 p) .skip)) (.seq (ref11_Add_c5 p) (.cond (.t 34) (ref11_Add_c6 p) .skip)))
@[simp] theorem ref11_Add_c7_eq {P m Q st} {p : Nums} : AW P m (ref11_Add_c7 p) Q st ↔ AW P m (.seq (.seq (ref11_Add_c2 p) (.cond (.t 24) (ref11_Add_c4 p) .skip)) (.seq (ref11_Add_c5 p) (.cond (.t 34) (ref11_Add_c6 p) .skip))) Q st := Iff.rfl
def ref11_Add_c8 (p : Nums) : IC := (.region [⟨(some 12), (.mov (.t 7)), none, false⟩, ⟨(some 13), (.bin .add (.t 12) (.c (.d (.int .i64 1)))), none, false⟩, ⟨(some 7), (.asg (.t 13)), none, false⟩] [])
@[simp] theorem ref11_Add_c8_eq {P m Q st} {p : Nums} : AW P m (ref11_Add_c8 p) Q st ↔ AW P m (.region [⟨(some 12), (.mov (.t 7)), none, false⟩, ⟨(some 13), (.bin .add (.t 12) (.c (.d (.int .i64 1)))), none, false⟩, ⟨(some 7), (.asg (.t 13)), none, false⟩] []) Q st := Iff.rfl
def ref11_Add_c9 (p : Nums) : IC := (.seq (.seq (ref11_Add_c1 p) (.cond (.t 11) .skip (.exit 0))) (.seq (.block 1 (ref11_Add_c7 p)) (ref11_Add_c8 p)))
@[simp] theorem ref11_Add_c9_eq {P m Q st} {p : Nums} : AW P m (ref11_Add_c9 p) Q st ↔ AW P m (.seq (.seq (ref11_Add_c1 p) (.cond (.t 11) .skip (.exit 0))) (.seq (.block 1 (ref11_Add_c7 p)) (ref11_Add_c8 p))) Q st := Iff.rfl
def ref11_Add_c10 (p : Nums) : IC := (.region [⟨(some 44), (.mov (.t 5)), none, false⟩, ⟨(some 45), (.load (some 2) (.t 3)), none, false⟩, ⟨(some 46), (.bslice 2 1 [(.int .i64 0), (.int .i64 0)] [(0, (.t 45))]), none, false⟩, ⟨(some 47), (.app 2 16 (.t 44) (.t 46)), none, false⟩, ⟨(some 5), (.asg (.t 47)), none, false⟩] [])
@[simp] theorem ref11_Add_c10_eq {P m Q st} {p : Nums} : AW P m (ref11_Add_c10 p) Q st ↔ AW P m (.region [⟨(some 44), (.mov (.t 5)), none, false⟩, ⟨(some 45), (.load (some 2) (.t 3)), none, false⟩, ⟨(some 46), (.bslice 2 1 [(.int .i64 0), (.int .i64 0)] [(0, (.t 45))]), none, false⟩, ⟨(some 47), (.app 2 16 (.t 44) (.t 46)), none, false⟩, ⟨(some 5), (.asg (.t 47)), none, false⟩] []) Q st := Iff.rfl
def ic_ref11_Add (p : Nums) : IC := (.seq (.region [⟨(some 3), (.box (.t 1)), none, false⟩, ⟨(some 4), (.asg (.c .nils)), none, false⟩] []) (.seq (.region [⟨(some 5), (.asg (.c .nils)), none, false⟩] []) (.seq (.region [⟨(some 6), (.asg (.c (.d (.bool false)))), none, false⟩] []) (.seq (.seq (.region [⟨(some 7), (.asg (.c (.d (.int .i64 0)))), none, false⟩] []) (.block 0 (.loop (ref11_Add_c9 p)))) (.seq (.seq (.region [⟨(some 42), (.mov (.t 6)), none, false⟩, ⟨(some 43), (.un .not (.t 42)), none, false⟩] []) (.cond (.t 43) (ref11_Add_c10 p) .skip)) (.seq (.region [⟨(some 48), (.mov (.t 5)), none, false⟩, ⟨(some 4), (.asg (.t 48)), none, false⟩] []) .ret))))))
def pairset_Subset_c1 (p : Nums) : IC := (.region [⟨(some 8), (.mov (.t 0)), none, false⟩, ⟨(some 9), (.mov (.t 1)), none, false⟩, ⟨(some 10), (.call p.pairset_Missing [(.t 8), (.t 9)]), none, false⟩, ⟨(some 7), (.mov (.t 10)), none, false⟩, ⟨(some 11), (.ext (.t 7) 0), none, false⟩, ⟨(some 12), (.ext (.t 7) 1), none, false⟩, ⟨(some 5), (.alloc [(.d (.int .i64 0)), (.d (.int .i64 0))]), none, false⟩, ⟨none, (.store 2 (.t 5) (.t 11)), none, false⟩, ⟨(some 6), (.asg (.t 12)), none, false⟩] [])
@[simp] theorem pairset_Subset_c1_eq {P m Q st} {p : Nums} : AW P m (pairset_Subset_c1 p) Q st ↔ AW P m (.region [⟨(some 8), (.mov (.t 0)), none, false⟩, ⟨(some 9), (.mov (.t 1)), none, false⟩, ⟨(some 10), (.call p.pairset_Missing [(.t 8), (.t 9)]), none, false⟩, ⟨(some 7), (.mov (.t 10)), none, false⟩, ⟨(some 11), (.ext (.t 7) 0), none, false⟩, ⟨(some 12), (.ext (.t 7) 1), none, false⟩, ⟨(some 5), (.alloc [(.d (.int .i64 0)), (.d (.int .i64 0))]), none, false⟩, ⟨none, (.store 2 (.t 5) (.t 11)), none, false⟩, ⟨(some 6), (.asg (.t 12)), none, false⟩] []) Q st := Iff.rfl
def pairset_Subset_c2 (p : Nums) : IC := (.region [⟨(some 13), (.mov (.t 6)), none, false⟩, ⟨(some 14), (.un .not (.t 13)), none, false⟩, ⟨(some 4), (.asg (.t 14)), none, false⟩] [])
@[simp] theorem pairset_Subset_c2_eq {P m Q st} {p : Nums} : AW P m (pairset_Subset_c2 p) Q st ↔ AW P m (.region [⟨(some 13), (.mov (.t 6)), none, false⟩, ⟨(some 14), (.un .not (.t 13)), none, false⟩, ⟨(some 4), (.asg (.t 14)), none, false⟩] []) Q st := Iff.rfl
def ic_pairset_Subset (p : Nums) : IC := (.seq (.region [⟨(some 4), (.asg (.c (.d (.bool false)))), none, false⟩] []) (.seq (pairset_Subset_c1 p) (.seq (pairset_Subset_c2 p) .ret)))
def pairset_Union_c1 (p : Nums) : IC := (.region [⟨(some 7), (.mov (.t 0)), none, false⟩, ⟨(some 8), (.len (.t 7)), none, false⟩, ⟨(some 9), (.mov (.t 1)), none, false⟩, ⟨(some 10), (.len (.t 9)), none, false⟩, ⟨(some 11), (.bin .add (.t 8) (.t 10)), none, false⟩, ⟨(some 12), (.mkslice 2 16 [(.int .i64 0), (.int .i64 0)] (.c (.d (.int .i64 0))) (.t 11)), none, false⟩, ⟨(some 5), (.asg (.t 12)), none, false⟩] [])
@[simp] theorem pairset_Union_c1_eq {P m Q st} {p : Nums} : AW P m (pairset_Union_c1 p) Q st ↔ AW P m (.region [⟨(some 7), (.mov (.t 0)), none, false⟩, ⟨(some 8), (.len (.t 7)), none, false⟩, ⟨(some 9), (.mov (.t 1)), none, false⟩, ⟨(some 10), (.len (.t 9)), none, false⟩, ⟨(some 11), (.bin .add (.t 8) (.t 10)), none, false⟩, ⟨(some 12), (.mkslice 2 16 [(.int .i64 0), (.int .i64 0)] (.c (.d (.int .i64 0))) (.t 11)), none, false⟩, ⟨(some 5), (.asg (.t 12)), none, false⟩] []) Q st := Iff.rfl
def pairset_Union_c2 (p : Nums) : IC := (.region [⟨(some 13), (.mov (.t 0)), none, false⟩, ⟨(some 14), (.len (.t 13)), none, false⟩, ⟨(some 15), (.bin .gtr (.t 14) (.c (.d (.int .i64 0)))), none, false⟩, ⟨(some 16), (.mov (.t 15)), none, false⟩, ⟨(some 17), (.mov (.t 1)), (some (16, true)), false⟩, ⟨(some 18), (.len (.t 17)), (some (16, true)), false⟩, ⟨(some 19), (.bin .gtr (.t 18) (.c (.d (.int .i64 0)))), (some (16, true)), false⟩, ⟨(some 20), (.pick (.t 16) (.t 19) (.c (.d (.bool false)))), none, false⟩] [])
@[simp] theorem pairset_Union_c2_eq {P m Q st} {p : Nums} : AW P m (pairset_Union_c2 p) Q st ↔ AW P m (.region [⟨(some 13), (.mov (.t 0)), none, false⟩, ⟨(some 14), (.len (.t 13)), none, false⟩, ⟨(some 15), (.bin .gtr (.t 14) (.c (.d (.int .i64 0)))), none, false⟩, ⟨(some 16), (.mov (.t 15)), none, false⟩, ⟨(some 17), (.mov (.t 1)), (some (16, true)), false⟩, ⟨(some 18), (.len (.t 17)), (some (16, true)), false⟩, ⟨(some 19), (.bin .gtr (.t 18) (.c (.d (.int .i64 0)))), (some (16, true)), false⟩, ⟨(some 20), (.pick (.t 16) (.t 19) (.c (.d (.bool false)))), none, false⟩] []) Q st := Iff.rfl
def pairset_Union_c3 (p : Nums) : IC := (.region [⟨(some 21), (.mov (.t 0)), none, false⟩, ⟨(some 22), (.iaddr 2 (.t 21) (.c (.d (.int .i64 0)))), none, false⟩, ⟨(some 23), (.load (some 2) (.t 22)), none, false⟩, ⟨(some 6), (.alloc [(.d (.int .i64 0)), (.d (.int .i64 0))]), none, false⟩, ⟨none, (.store 2 (.t 6) (.t 23)), none, false⟩] [])
@[simp] theorem pairset_Union_c3_eq {P m Q st} {p : Nums} : AW P m (pairset_Union_c3 p) Q st ↔ AW P m (.region [⟨(some 21), (.mov (.t 0)), none, false⟩, ⟨(some 22), (.iaddr 2 (.t 21) (.c (.d (.int .i64 0)))), none, false⟩, ⟨(some 23), (.load (some 2) (.t 22)), none, false⟩, ⟨(some 6), (.alloc [(.d (.int .i64 0)), (.d (.int .i64 0))]), none, false⟩, ⟨none, (.store 2 (.t 6) (.t 23)), none, false⟩] []) Q st := Iff.rfl
def pairset_Union_c4 (p : Nums) : IC := (.region [⟨(some 24), (.mov (.t 1)), none, true⟩, ⟨(some 25), (.iaddr 2 (.t 24) (.c (.d (.int .i64 0)))), none, true⟩, ⟨(some 26), (.load (some 2) (.t 25)), none, true⟩, ⟨(some 27), (.load (some 2) (.t 6)), none, true⟩, ⟨(some 28), (.call p.pairset_Less [(.t 26), (.t 27)]), none, false⟩] [])
@[simp] theorem pairset_Union_c4_eq {P m Q st} {p : Nums} : AW P m (pairset_Union_c4 p) Q st ↔ AW P m (.region [⟨(some 24), (.mov (.t 1)), none, true⟩, ⟨(some 25), (.iaddr 2 (.t 24) (.c (.d (.int .i64 0)))), none, true⟩, ⟨(some 26), (.load (some 2) (.t 25)), none, true⟩, ⟨(some 27), (.load (some 2) (.t 6)), none, true⟩, ⟨(some 28), (.call p.pairset_Less [(.t 26), (.t 27)]), none, false⟩] []) Q st := Iff.rfl
def pairset_Union_c5 (p : Nums) : IC := (.region [⟨(some 29), (.mov (.t 1)), none, false⟩, ⟨(some 30), (.iaddr 2 (.t 29) (.c (.d (.int .i64 0)))), none, false⟩, ⟨(some 31), (.load (some 2) (.t 30)), none, false⟩, ⟨none, (.store 2 (.t 6) (.t 31)), none, false⟩] [])
@[simp] theorem pairset_Union_c5_eq {P m Q st} {p : Nums} : AW P m (pairset_Union_c5 p) Q st ↔ AW P m (.region [⟨(some 29), (.mov (.t 1)), none, false⟩, ⟨(some 30), (.iaddr 2 (.t 29) (.c (.d (.int .i64 0)))), none, false⟩, ⟨(some 31), (.load (some 2) (.t 30)), none, false⟩, ⟨none, (.store 2 (.t 6) (.t 31)), none, false⟩] []) Q st := Iff.rfl
def pairset_Union_c6 (p : Nums) : IC := (.region [⟨(some 32), (.mov (.t 5)), none, false⟩, ⟨(some 33), (.load (some 2) (.t 6)), none, false⟩, ⟨(some 34), (.bslice 2 1 [(.int .i64 0), (.int .i64 0)] [(0, (.t 33))]), none, false⟩, ⟨(some 35), (.app 2 16 (.t 32) (.t 34)), none, false⟩, ⟨(some 5), (.asg (.t 35)), none, false⟩] [])
@[simp] theorem pairset_Union_c6_eq {P m Q st} {p : Nums} : AW P m (pairset_Union_c6 p) Q st ↔ AW P m (.region [⟨(some 32), (.mov (.t 5)), none, false⟩, ⟨(some 33), (.load (some 2) (.t 6)), none, false⟩, ⟨(some 34), (.bslice 2 1 [(.int .i64 0), (.int .i64 0)] [(0, (.t 33))]), none, false⟩, ⟨(some 35), (.app 2 16 (.t 32) (.t 34)), none, false⟩, ⟨(some 5), (.asg (.t 35)), none, false⟩] []) Q st := Iff.rfl
def pairset_Union_c7 (p : Nums) : IC := (.region [⟨(some 36), (.mov (.t 0)), none, true⟩, ⟨(some 37), (.iaddr 2 (.t 36) (.c (.d (.int .i64 0)))), none, true⟩, ⟨(some 38), (.load (some 2) (.t 37)), none, true⟩, ⟨(some 39), (.load (some 2) (.t 6)), none, true⟩, ⟨(some 40), (.eqs false [.int, .int] (.t 38) (.t 39)), none, false⟩] [])
@[simp] theorem pairset_Union_c7_eq {P m Q st} {p : Nums} : AW P m (pairset_Union_c7 p) Q st ↔ AW P m (.region [⟨(some 36), (.mov (.t 0)), none, true⟩, ⟨(some 37), (.iaddr 2 (.t 36) (.c (.d (.int .i64 0)))), none, true⟩, ⟨(some 38), (.load (some 2) (.t 37)), none, true⟩, ⟨(some 39), (.load (some 2) (.t 6)), none, true⟩, ⟨(some 40), (.eqs false [.int, .int] (.t 38) (.t 39)), none, false⟩] []) Q st := Iff.rfl
def pairset_Union_c8 (p : Nums) : IC := (.region [⟨(some 41), (.mov (.t 0)), none, false⟩, ⟨(some 42), (.slc 2 (.t 41) (some (.c (.d (.int .i64 1)))) none), none, false⟩, ⟨(some 0), (.asg (.t 42)), none, false⟩] [])
@[simp] theorem pairset_Union_c8_eq {P m Q st} {p : Nums} : AW P m (pairset_Union_c8 p) Q st ↔ AW P m (.region [⟨(some 41), (.mov (.t 0)), none, false⟩, ⟨(some 42), (.slc 2 (.t 41) (some (.c (.d (.int .i64 1)))) none), none, false⟩, ⟨(some 0), (.asg (.t 42)), none, false⟩] []) Q st := Iff.rfl
def pairset_Union_c9 (p : Nums) : IC := (.region [⟨(some 43), (.mov (.t 1)), none, true⟩, ⟨(some 44), (.iaddr 2 (.t 43) (.c (.d (.int .i64 0)))), none, true⟩, ⟨(some 45), (.load (some 2) (.t 44)), none, true⟩, ⟨(some 46), (.load (some 2) (.t 6)), none, true⟩, ⟨(some 47), (.eqs false [.int, .int] (.t 45) (.t 46)), none, false⟩] [])
@[simp] theorem pairset_Union_c9_eq {P m Q st} {p : Nums} : AW P m (pairset_Union_c9 p) Q st ↔ AW P m (.region [⟨(some 43), (.mov (.t 1)), none, true⟩, ⟨(some 44), (.iaddr 2 (.t 43) (.c (.d (.int .i64 0)))), none, true⟩, ⟨(some 45), (.load (some 2) (.t 44)), none, true⟩, ⟨(some 46), (.load (some 2) (.t 6)), none, true⟩, ⟨(some 47), (.eqs false [.int, .int] (.t 45) (.t 46)), none, false⟩] []) Q st := Iff.rfl
def pairset_Union_c10 (p : Nums) : IC := (.region [⟨(some 48), (.mov (.t 1)), none, false⟩, ⟨(some 49), (.slc 2 (.t 48) (some (.c (.d (.int .i64 1)))) none), none, false⟩, ⟨(some 1), (.asg (.t 49)), none, false⟩] [])
@[simp] theorem pairset_Union_c10_eq {P m Q st} {p : Nums} : AW P m (pairset_Union_c10 p) Q st ↔ AW P m (.region [⟨(some 48), (.mov (.t 1)), none, false⟩, ⟨(some 49), (.slc 2 (.t 48) (some (.c (.d (.int .i64 1)))) none), none, false⟩, ⟨(some 1), (.asg (.t 49)), none, false⟩] []) Q st := Iff.rfl
def pairset_Union_c11 (p : Nums) : IC := (.seq (pairset_Union_c3 p) (.seq (.seq (pairset_Union_c4 p) (.cond (.t 28) (pairset_Union_c5 p) .skip)) (.seq (pairset_Union_c6 p) (.seq (.seq (pairset_Union_c7 p) (.cond (.t 40) (pairset_Union_c8 p) .skip)) (.seq (pairset_Union_c9 p) (.cond (.t 47) (pairset_Union_c10 p) .skip))))))
@[simp] theorem pairset_Union_c11_eq {P m Q st} {p : Nums} : AW P m (pairset_Union_c11 p) Q st ↔ AW P m (.seq (pairset_Union_c3 p) (.seq (.seq (pairset_Union_c4 p) (.cond (.t 28) (pairset_Union_c5 p) .skip)) (.seq (pairset_Union_c6 p) (.seq (.seq (pairset_Union_c7 p) (.cond (.t 40) (pairset_Union_c8 p) .skip)) (.seq (pairset_Union_c9 p) (.cond (.t 47) (pairset_Union_c10 p) .skip)))))) Q st := Iff.rfl
def pairset_Union_c12 (p : Nums) : IC := (.seq (.seq (pairset_Union_c2 p) (.cond (.t 20) .skip (.exit 0))) (.block 1 (pairset_Union_c11 p)))
@[simp] theorem pairset_Union_c12_eq {P m Q st} {p : Nums} : AW P m (pairset_Union_c12 p) Q st ↔ AW P m (.seq (.seq (pairset_Union_c2 p) (.cond (.t 20) .skip (.exit 0))) (.block 1 (pairset_Union_c11 p))) Q st := Iff.rfl
def pairset_Union_c13 (p : Nums) : IC := (.region [⟨(some 50), (.mov (.t 5)), none, false⟩, ⟨(some 51), (.mov (.t 0)), none, false⟩, ⟨(some 52), (.app 2 16 (.t 50) (.t 51)), none, false⟩, ⟨(some 53), (.mov (.t 1)), none, false⟩, ⟨(some 54), (.app 2 16 (.t 52) (.t 53)), none, false⟩, ⟨(some 4), (.asg (.t 54)), none, false⟩] [])
@[simp] theorem pairset_Union_c13_eq {P m Q st} {p : Nums} : AW P m (pairset_Union_c13 p) Q st ↔ AW P m (.region [⟨(some 50), (.mov (.t 5)), none, false⟩, ⟨(some 51), (.mov (.t 0)), none, false⟩, ⟨(some 52), (.app 2 16 (.t 50) (.t 51)), none, false⟩, ⟨(some 53), (.mov (.t 1)), none, false⟩, ⟨(some 54), (.app 2 16 (.t 52) (.t 53)), none, false⟩, ⟨(some 4), (.asg (.t 54)), none, false⟩] []) Q st := Iff.rfl
def ic_pairset_Union (p : Nums) : IC := (.seq (.region [⟨(some 4), (.asg (.c .nils)), none, false⟩] []) (.seq (pairset_Union_c1 p) (.seq (.block 0 (.loop (pairset_Union_c12 p))) (.seq (pairset_Union_c13 p) .ret))))
def pairset_Less_c1 (p : Nums) : IC := (.region [⟨(some 2), (.box (.t 0)), none, false⟩, ⟨(some 3), (.box (.t 1)), none, false⟩, ⟨(some 4), (.asg (.c (.d (.bool false)))), none, false⟩] [])
@[simp] theorem pairset_Less_c1_eq {P m Q st} {p : Nums} : AW P m (pairset_Less_c1 p) Q st ↔ AW P m (.region [⟨(some 2), (.box (.t 0)), none, false⟩, ⟨(some 3), (.box (.t 1)), none, false⟩, ⟨(some 4), (.asg (.c (.d (.bool false)))), none, false⟩] []) Q st := Iff.rfl
def pairset_Less_c2 (p : Nums) : IC := (.region [⟨(some 5), (.faddr 0 (.t 2)), none, false⟩, ⟨(some 6), (.load none (.t 5)), none, false⟩, ⟨(some 7), (.faddr 0 (.t 3)), none, false⟩, ⟨(some 8), (.load none (.t 7)), none, false⟩, ⟨(some 9), (.bin .lss (.t 6) (.t 8)), none, false⟩, ⟨(some 10), (.mov (.t 9)), none, false⟩, ⟨(some 11), (.faddr 0 (.t 2)), (some (10, false)), false⟩, ⟨(some 12), (.load none (.t 11)), (some (10, false)), false⟩, ⟨(some 13), (.faddr 0 (.t 3)), (some (10, false)), false⟩, ⟨(some 14), (.load none (.t 13)), (some (10, false)), false⟩, ⟨(some 15), (.bin .eql (.t 12) (.t 14)), (some (10, false)), false⟩, ⟨(some 16), (.mov (.t 15)), (some (10, false)), false⟩, ⟨(some 17), (.faddr 1 (.t 2)), (some (16, true)), false⟩, ⟨(some 18), (.load none (.t 17)), (some (16, true)), false⟩, ⟨(some 19), (.faddr 1 (.t 3)), (some (16, true)), false⟩, ⟨(some 20), (.load none (.t 19)), (some (16, true)), false⟩, ⟨(some 21), (.bin .lss (.t 18) (.t 20)), (some (16, true)), false⟩, ⟨(some 22), (.pick (.t 16) (.t 21) (.c (.d (.bool false)))), (some (10, false)), false⟩, ⟨(some 23), (.pick (.t 10) (.c (.d (.bool true))) (.t 22)), none, false⟩, ⟨(some 4), (.asg (.t 23)), none, false⟩] [])
@[simp] theorem pairset_Less_c2_eq {P m Q st} {p : Nums} : AW P m (pairset_Less_c2 p) Q st ↔ AW P m (.region [⟨(some 5), (.faddr 0 (.t 2)), none, false⟩, ⟨(some 6), (.load none (.t 5)), none, false⟩, ⟨(some 7), (.faddr 0 (.t 3)), none, false⟩, ⟨(some 8), (.load none (.t 7)), none, false⟩, ⟨(some 9), (.bin .lss (.t 6) (.t 8)), none, false⟩, ⟨(some 10), (.mov (.t 9)), none, false⟩, ⟨(some 11), (.faddr 0 (.t 2)), (some (10, false)), false⟩, ⟨(some 12), (.load none (.t 11)), (some (10, false)), false⟩, ⟨(some 13), (.faddr 0 (.t 3)), (some (10, false)), false⟩, ⟨(some 14), (.load none (.t 13)), (some (10, false)), false⟩, ⟨(some 15), (.bin .eql (.t 12) (.t 14)), (some (10, false)), false⟩, ⟨(some 16), (.mov (.t 15)), (some (10, false)), false⟩, ⟨(some 17), (.faddr 1 (.t 2)), (some (16, true)), false⟩, ⟨(some 18), (.load none (.t 17)), (some (16, true)), false⟩, ⟨(some 19), (.faddr 1 (.t 3)), (some (16, true)), false⟩, ⟨(some 20), (.load none (.t 19)), (some (16, true)), false⟩, ⟨(some 21), (.bin .lss (.t 18) (.t 20)), (some (16, true)), false⟩, ⟨(some 22), (.pick (.t 16) (.t 21) (.c (.d (.bool false)))), (some (10, false)), false⟩, ⟨(some 23), (.pick (.t 10) (.c (.d (.bool true))) (.t 22)), none, false⟩, ⟨(some 4), (.asg (.t 23)), none, false⟩] []) Q st := Iff.rfl
def ic_pairset_Less (p : Nums) : IC := (.seq (pairset_Less_c1 p) (.seq (pairset_Less_c2 p) .ret))
def ref11_Less_c1 (p : Nums) : IC := (.region [⟨(some 2), (.box (.t 0)), none, false⟩, ⟨(some 3), (.box (.t 1)), none, false⟩, ⟨(some 4), (.asg (.c (.d (.bool false)))), none, false⟩] [])
@[simp] theorem ref11_Less_c1_eq {P m Q st} {p : Nums} : AW P m (ref11_Less_c1 p) Q st ↔ AW P m (.region [⟨(some 2), (.box (.t 0)), none, false⟩, ⟨(some 3), (.box (.t 1)), none, false⟩, ⟨(some 4), (.asg (.c (.d (.bool false)))), none, false⟩] []) Q st := Iff.rfl
def ref11_Less_c2 (p : Nums) : IC := (.region [⟨(some 5), (.faddr 0 (.t 2)), none, false⟩, ⟨(some 6), (.load none (.t 5)), none, false⟩, ⟨(some 7), (.faddr 0 (.t 3)), none, false⟩, ⟨(some 8), (.load none (.t 7)), none, false⟩, ⟨(some 9), (.bin .neq (.t 6) (.t 8)), none, false⟩] [])
@[simp] theorem ref11_Less_c2_eq {P m Q st} {p : Nums} : AW P m (ref11_Less_c2 p) Q st ↔ AW P m (.region [⟨(some 5), (.faddr 0 (.t 2)), none, false⟩, ⟨(some 6), (.load none (.t 5)), none, false⟩, ⟨(some 7), (.faddr 0 (.t 3)), none, false⟩, ⟨(some 8), (.load none (.t 7)), none, false⟩, ⟨(some 9), (.bin .neq (.t 6) (.t 8)), none, false⟩] []) Q st := Iff.rfl
def ref11_Less_c3 (p : Nums) : IC := (.region [⟨(some 10), (.faddr 0 (.t 2)), none, false⟩, ⟨(some 11), (.load none (.t 10)), none, false⟩, ⟨(some 12), (.faddr 0 (.t 3)), none, false⟩, ⟨(some 13), (.load none (.t 12)), none, false⟩, ⟨(some 14), (.bin .lss (.t 11) (.t 13)), none, false⟩, ⟨(some 4), (.asg (.t 14)), none, false⟩] [])
@[simp] theorem ref11_Less_c3_eq {P m Q st} {p : Nums} : AW P m (ref11_Less_c3 p) Q st ↔ AW P m (.region [⟨(some 10), (.faddr 0 (.t 2)), none, false⟩, ⟨(some 11), (.load none (.t 10)), none, false⟩, ⟨(some 12), (.faddr 0 (.t 3)), none, false⟩, ⟨(some 13), (.load none (.t 12)), none, false⟩, ⟨(some 14), (.bin .lss (.t 11) (.t 13)), none, false⟩, ⟨(some 4), (.asg (.t 14)), none, false⟩] []) Q st := Iff.rfl
def ref11_Less_c4 (p : Nums) : IC := (.region [⟨(some 15), (.faddr 1 (.t 2)), none, false⟩, ⟨(some 16), (.load none (.t 15)), none, false⟩, ⟨(some 17), (.faddr 1 (.t 3)), none, false⟩, ⟨(some 18), (.load none (.t 17)), none, false⟩, ⟨(some 19), (.bin .lss (.t 16) (.t 18)), none, false⟩, ⟨(some 4), (.asg (.t 19)), none, false⟩] [])
@[simp] theorem ref11_Less_c4_eq {P m Q st} {p : Nums} : AW P m (ref11_Less_c4 p) Q st ↔ AW P m (.region [⟨(some 15), (.faddr 1 (.t 2)), none, false⟩, ⟨(some 16), (.load none (.t 15)), none, false⟩, ⟨(some 17), (.faddr 1 (.t 3)), none, false⟩, ⟨(some 18), (.load none (.t 17)), none, false⟩, ⟨(some 19), (.bin .lss (.t 16) (.t 18)), none, false⟩, ⟨(some 4), (.asg (.t 19)), none, false⟩] []) Q st := Iff.rfl
def ic_ref11_Less (p : Nums) : IC := (.seq (ref11_Less_c1 p) (.seq (.seq (ref11_Less_c2 p) (.cond (.t 9) (.seq (ref11_Less_c3 p) .ret) .skip)) (.seq (ref11_Less_c4 p) .ret)))
def slices_Clone_Pair_c1 (p : Nums) : IC := (.seq (.region [⟨(some 2), (.asg (.c .nils)), none, false⟩] []) .ret)
@[simp] theorem slices_Clone_Pair_c1_eq {P m Q st} {p : Nums} : AW P m (slices_Clone_Pair_c1 p) Q st ↔ AW P m (.seq (.region [⟨(some 2), (.asg (.c .nils)), none, false⟩] []) .ret) Q st := Iff.rfl
def slices_Clone_Pair_c2 (p : Nums) : IC := (.region [⟨(some 5), (.bslice 2 0 [(.int .i64 0), (.int .i64 0)] []), none, false⟩, ⟨(some 6), (.mov (.t 0)), none, false⟩, ⟨(some 7), (.app 2 16 (.t 5) (.t 6)), none, false⟩, ⟨(some 2), (.asg (.t 7)), none, false⟩] [])
@[simp] theorem slices_Clone_Pair_c2_eq {P m Q st} {p : Nums} : AW P m (slices_Clone_Pair_c2 p) Q st ↔ AW P m (.region [⟨(some 5), (.bslice 2 0 [(.int .i64 0), (.int .i64 0)] []), none, false⟩, ⟨(some 6), (.mov (.t 0)), none, false⟩, ⟨(some 7), (.app 2 16 (.t 5) (.t 6)), none, false⟩, ⟨(some 2), (.asg (.t 7)), none, false⟩] []) Q st := Iff.rfl
def ic_slices_Clone_Pair (p : Nums) : IC := (.seq (.region [⟨(some 2), (.asg (.c .nils)), none, false⟩] []) (.seq (.seq (.region [⟨(some 3), (.mov (.t 0)), none, false⟩, ⟨(some 4), (.isnil false (.t 3)), none, false⟩] []) (.cond (.t 4) (slices_Clone_Pair_c1 p) .skip)) (.seq (slices_Clone_Pair_c2 p) .ret)))
def pairset_compare_c1 (p : Nums) : IC := (.region [⟨(some 2), (.box (.t 0)), none, false⟩, ⟨(some 3), (.box (.t 1)), none, false⟩, ⟨(some 4), (.asg (.c (.d (.int .i64 0)))), none, false⟩] [])
@[simp] theorem pairset_compare_c1_eq {P m Q st} {p : Nums} : AW P m (pairset_compare_c1 p) Q st ↔ AW P m (.region [⟨(some 2), (.box (.t 0)), none, false⟩, ⟨(some 3), (.box (.t 1)), none, false⟩, ⟨(some 4), (.asg (.c (.d (.int .i64 0)))), none, false⟩] []) Q st := Iff.rfl
def pairset_compare_c2 (p : Nums) : IC := (.region [⟨(some 6), (.load (some 2) (.t 2)), none, false⟩, ⟨(some 7), (.load (some 2) (.t 3)), none, false⟩, ⟨(some 8), (.call p.pairset_Less [(.t 6), (.t 7)]), none, false⟩, ⟨(some 5), (.asg (.t 8)), none, false⟩] [])
@[simp] theorem pairset_compare_c2_eq {P m Q st} {p : Nums} : AW P m (pairset_compare_c2 p) Q st ↔ AW P m (.region [⟨(some 6), (.load (some 2) (.t 2)), none, false⟩, ⟨(some 7), (.load (some 2) (.t 3)), none, false⟩, ⟨(some 8), (.call p.pairset_Less [(.t 6), (.t 7)]), none, false⟩, ⟨(some 5), (.asg (.t 8)), none, false⟩] []) Q st := Iff.rfl
def pairset_compare_c3 (p : Nums) : IC := (.region [⟨(some 10), (.load (some 2) (.t 3)), none, false⟩, ⟨(some 11), (.load (some 2) (.t 2)), none, false⟩, ⟨(some 12), (.call p.pairset_Less [(.t 10), (.t 11)]), none, false⟩, ⟨(some 9), (.asg (.t 12)), none, false⟩] [])
@[simp] theorem pairset_compare_c3_eq {P m Q st} {p : Nums} : AW P m (pairset_compare_c3 p) Q st ↔ AW P m (.region [⟨(some 10), (.load (some 2) (.t 3)), none, false⟩, ⟨(some 11), (.load (some 2) (.t 2)), none, false⟩, ⟨(some 12), (.call p.pairset_Less [(.t 10), (.t 11)]), none, false⟩, ⟨(some 9), (.asg (.t 12)), none, false⟩] []) Q st := Iff.rfl
def pairset_compare_c4 (p : Nums) : IC := (.seq (.region [⟨(some 4), (.asg (.c (.d (.int .i64 1)))), none, false⟩] []) .ret)
@[simp] theorem pairset_compare_c4_eq {P m Q st} {p : Nums} : AW P m (pairset_compare_c4 p) Q st ↔ AW P m (.seq (.region [⟨(some 4), (.asg (.c (.d (.int .i64 1)))), none, false⟩] []) .ret) Q st := Iff.rfl
def pairset_compare_c5 (p : Nums) : IC := (.seq (.region [⟨(some 4), (.asg (.c (.d (.int .i64 (-1))))), none, false⟩] []) .ret)
@[simp] theorem pairset_compare_c5_eq {P m Q st} {p : Nums} : AW P m (pairset_compare_c5 p) Q st ↔ AW P m (.seq (.region [⟨(some 4), (.asg (.c (.d (.int .i64 (-1))))), none, false⟩] []) .ret) Q st := Iff.rfl
def pairset_compare_c6 (p : Nums) : IC := (.seq (pairset_compare_c3 p) (.cond (.t 9) (pairset_compare_c4 p) .skip))
@[simp] theorem pairset_compare_c6_eq {P m Q st} {p : Nums} : AW P m (pairset_compare_c6 p) Q st ↔ AW P m (.seq (pairset_compare_c3 p) (.cond (.t 9) (pairset_compare_c4 p) .skip)) Q st := Iff.rfl
def pairset_compare_c7 (p : Nums) : IC := (.seq (pairset_compare_c2 p) (.cond (.t 5) (pairset_compare_c5 p) (pairset_compare_c6 p)))
@[simp] theorem pairset_compare_c7_eq {P m Q st} {p : Nums} : AW P m (pairset_compare_c7 p) Q st ↔ AW P m (.seq (pairset_compare_c2 p) (.cond (.t 5) (pairset_compare_c5 p) (pairset_compare_c6 p))) Q st := Iff.rfl
def ic_pairset_compare (p : Nums) : IC := (.seq (pairset_compare_c1 p) (.seq (.block 0 (pairset_compare_c7 p)) (.seq (.region [⟨(some 4), (.asg (.c (.d (.int .i64 0)))), none, false⟩] []) .ret)))
def slices_Compact_Pair_c1 (p : Nums) : IC := (.region [⟨(some 6), (.mov (.t 0)), none, false⟩, ⟨(some 7), (.len (.t 6)), none, false⟩, ⟨(some 8), (.bin .lss (.t 7) (.c (.d (.int .i64 2)))), none, false⟩] [])
@[simp] theorem slices_Compact_Pair_c1_eq {P m Q st} {p : Nums} : AW P m (slices_Compact_Pair_c1 p) Q st ↔ AW P m (.region [⟨(some 6), (.mov (.t 0)), none, false⟩, ⟨(some 7), (.len (.t 6)), none, false⟩, ⟨(some 8), (.bin .lss (.t 7) (.c (.d (.int .i64 2)))), none, false⟩] []) Q st := Iff.rfl
def slices_Compact_Pair_c2 (p : Nums) : IC := (.seq (.region [⟨(some 9), (.mov (.t 0)), none, false⟩, ⟨(some 2), (.asg (.t 9)), none, false⟩] []) .ret)
@[simp] theorem slices_Compact_Pair_c2_eq {P m Q st} {p : Nums} : AW P m (slices_Compact_Pair_c2 p) Q st ↔ AW P m (.seq (.region [⟨(some 9), (.mov (.t 0)), none, false⟩, ⟨(some 2), (.asg (.t 9)), none, false⟩] []) .ret) Q st := Iff.rfl
def slices_Compact_Pair_c3 (p : Nums) : IC := (.region [⟨(some 10), (.mov (.t 3)), none, false⟩, ⟨(some 11), (.mov (.t 0)), none, false⟩, ⟨(some 12), (.len (.t 11)), none, false⟩, ⟨(some 13), (.bin .lss (.t 10) (.t 12)), none, false⟩] [])
@[simp] theorem slices_Compact_Pair_c3_eq {P m Q st} {p : Nums} : AW P m (slices_Compact_Pair_c3 p) Q st ↔ AW P m (.region [⟨(some 10), (.mov (.t 3)), none, false⟩, ⟨(some 11), (.mov (.t 0)), none, false⟩, ⟨(some 12), (.len (.t 11)), none, false⟩, ⟨(some 13), (.bin .lss (.t 10) (.t 12)), none, false⟩] []) Q st := Iff.rfl
def slices_Compact_Pair_c4 (p : Nums) : IC := (.region [⟨(some 16), (.mov (.t 0)), none, true⟩, ⟨(some 17), (.mov (.t 3)), none, true⟩, ⟨(some 18), (.iaddr 2 (.t 16) (.t 17)), none, true⟩, ⟨(some 19), (.load (some 2) (.t 18)), none, true⟩, ⟨(some 20), (.mov (.t 0)), none, true⟩, ⟨(some 21), (.mov (.t 3)), none, true⟩, ⟨(some 22), (.bin .sub (.t 21) (.c (.d (.int .i64 1)))), none, true⟩, ⟨(some 23), (.iaddr 2 (.t 20) (.t 22)), none, true⟩, ⟨(some 24), (.load (some 2) (.t 23)), none, true⟩, ⟨(some 25), (.eqs false [.int, .int] (.t 19) (.t 24)), none, false⟩] [])
@[simp] theorem slices_Compact_Pair_c4_eq {P m Q st} {p : Nums} : AW P m (slices_Compact_Pair_c4 p) Q st ↔ AW P m (.region [⟨(some 16), (.mov (.t 0)), none, true⟩, ⟨(some 17), (.mov (.t 3)), none, true⟩, ⟨(some 18), (.iaddr 2 (.t 16) (.t 17)), none, true⟩, ⟨(some 19), (.load (some 2) (.t 18)), none, true⟩, ⟨(some 20), (.mov (.t 0)), none, true⟩, ⟨(some 21), (.mov (.t 3)), none, true⟩, ⟨(some 22), (.bin .sub (.t 21) (.c (.d (.int .i64 1)))), none, true⟩, ⟨(some 23), (.iaddr 2 (.t 20) (.t 22)), none, true⟩, ⟨(some 24), (.load (some 2) (.t 23)), none, true⟩, ⟨(some 25), (.eqs false [.int, .int] (.t 19) (.t 24)), none, false⟩] []) Q st := Iff.rfl
def slices_Compact_Pair_c5 (p : Nums) : IC := (.region [⟨(some 26), (.mov (.t 0)), none, false⟩, ⟨(some 27), (.mov (.t 3)), none, false⟩, ⟨(some 28), (.slc 2 (.t 26) (some (.t 27)) none), none, false⟩, ⟨(some 4), (.asg (.t 28)), none, false⟩] [])
@[simp] theorem slices_Compact_Pair_c5_eq {P m Q st} {p : Nums} : AW P m (slices_Compact_Pair_c5 p) Q st ↔ AW P m (.region [⟨(some 26), (.mov (.t 0)), none, false⟩, ⟨(some 27), (.mov (.t 3)), none, false⟩, ⟨(some 28), (.slc 2 (.t 26) (some (.t 27)) none), none, false⟩, ⟨(some 4), (.asg (.t 28)), none, false⟩] []) Q st := Iff.rfl
def slices_Compact_Pair_c6 (p : Nums) : IC := (.region [⟨(some 29), (.mov (.t 5)), none, false⟩, ⟨(some 30), (.mov (.t 4)), none, false⟩, ⟨(some 31), (.len (.t 30)), none, false⟩, ⟨(some 32), (.bin .lss (.t 29) (.t 31)), none, false⟩] [])
@[simp] theorem slices_Compact_Pair_c6_eq {P m Q st} {p : Nums} : AW P m (slices_Compact_Pair_c6 p) Q st ↔ AW P m (.region [⟨(some 29), (.mov (.t 5)), none, false⟩, ⟨(some 30), (.mov (.t 4)), none, false⟩, ⟨(some 31), (.len (.t 30)), none, false⟩, ⟨(some 32), (.bin .lss (.t 29) (.t 31)), none, false⟩] []) Q st := Iff.rfl
def slices_Compact_Pair_c7 (p : Nums) : IC := (.region [⟨(some 35), (.mov (.t 4)), none, true⟩, ⟨(some 36), (.mov (.t 5)), none, true⟩, ⟨(some 37), (.iaddr 2 (.t 35) (.t 36)), none, true⟩, ⟨(some 38), (.load (some 2) (.t 37)), none, true⟩, ⟨(some 39), (.mov (.t 4)), none, true⟩, ⟨(some 40), (.mov (.t 5)), none, true⟩, ⟨(some 41), (.bin .sub (.t 40) (.c (.d (.int .i64 1)))), none, true⟩, ⟨(some 42), (.iaddr 2 (.t 39) (.t 41)), none, true⟩, ⟨(some 43), (.load (some 2) (.t 42)), none, true⟩, ⟨(some 44), (.eqs true [.int, .int] (.t 38) (.t 43)), none, false⟩] [])
@[simp] theorem slices_Compact_Pair_c7_eq {P m Q st} {p : Nums} : AW P m (slices_Compact_Pair_c7 p) Q st ↔ AW P m (.region [⟨(some 35), (.mov (.t 4)), none, true⟩, ⟨(some 36), (.mov (.t 5)), none, true⟩, ⟨(some 37), (.iaddr 2 (.t 35) (.t 36)), none, true⟩, ⟨(some 38), (.load (some 2) (.t 37)), none, true⟩, ⟨(some 39), (.mov (.t 4)), none, true⟩, ⟨(some 40), (.mov (.t 5)), none, true⟩, ⟨(some 41), (.bin .sub (.t 40) (.c (.d (.int .i64 1)))), none, true⟩, ⟨(some 42), (.iaddr 2 (.t 39) (.t 41)), none, true⟩, ⟨(some 43), (.load (some 2) (.t 42)), none, true⟩, ⟨(some 44), (.eqs true [.int, .int] (.t 38) (.t 43)), none, false⟩] []) Q st := Iff.rfl
def slices_Compact_Pair_c8 (p : Nums) : IC := (.region [⟨(some 45), (.mov (.t 0)), none, false⟩, ⟨(some 46), (.mov (.t 3)), none, false⟩, ⟨(some 47), (.mov (.t 4)), none, false⟩, ⟨(some 48), (.mov (.t 5)), none, false⟩, ⟨(some 49), (.iaddr 2 (.t 47) (.t 48)), none, false⟩, ⟨(some 50), (.load (some 2) (.t 49)), none, false⟩, ⟨(some 51), (.iaddr 2 (.t 45) (.t 46)), none, false⟩, ⟨none, (.store 2 (.t 51) (.t 50)), none, false⟩] [])
@[simp] theorem slices_Compact_Pair_c8_eq {P m Q st} {p : Nums} : AW P m (slices_Compact_Pair_c8 p) Q st ↔ AW P m (.region [⟨(some 45), (.mov (.t 0)), none, false⟩, ⟨(some 46), (.mov (.t 3)), none, false⟩, ⟨(some 47), (.mov (.t 4)), none, false⟩, ⟨(some 48), (.mov (.t 5)), none, false⟩, ⟨(some 49), (.iaddr 2 (.t 47) (.t 48)), none, false⟩, ⟨(some 50), (.load (some 2) (.t 49)), none, false⟩, ⟨(some 51), (.iaddr 2 (.t 45) (.t 46)), none, false⟩, ⟨none, (.store 2 (.t 51) (.t 50)), none, false⟩] []) Q st := Iff.rfl
def slices_Compact_Pair_c9 (p : Nums) : IC := (.region [⟨(some 52), (.mov (.t 3)), none, false⟩, ⟨(some 53), (.bin .add (.t 52) (.c (.d (.int .i64 1)))), none, false⟩, ⟨(some 3), (.asg (.t 53)), none, false⟩] [])
@[simp] theorem slices_Compact_Pair_c9_eq {P m Q st} {p : Nums} : AW P m (slices_Compact_Pair_c9 p) Q st ↔ AW P m (.region [⟨(some 52), (.mov (.t 3)), none, false⟩, ⟨(some 53), (.bin .add (.t 52) (.c (.d (.int .i64 1)))), none, false⟩, ⟨(some 3), (.asg (.t 53)), none, false⟩] []) Q st := Iff.rfl
def slices_Compact_Pair_c10 (p : Nums) : IC := (.seq (slices_Compact_Pair_c7 p) (.cond (.t 44) (.seq (slices_Compact_Pair_c8 p) (slices_Compact_Pair_c9 p)) .skip))
@[simp] theorem slices_Compact_Pair_c10_eq {P m Q st} {p : Nums} : AW P m (slices_Compact_Pair_c10 p) Q st ↔ AW P m (.seq (slices_Compact_Pair_c7 p) (.cond (.t 44) (.seq (slices_Compact_Pair_c8 p) (slices_Compact_Pair_c9 p)) .skip)) Q st := Iff.rfl
def slices_Compact_Pair_c11 (p : Nums) : IC := (.region [⟨(some 33), (.mov (.t 5)), none, false⟩, ⟨(some 34), (.bin .add (.t 33) (.c (.d (.int .i64 1)))), none, false⟩, ⟨(some 5), (.asg (.t 34)), none, false⟩] [])
@[simp] theorem slices_Compact_Pair_c11_eq {P m Q st} {p : Nums} : AW P m (slices_Compact_Pair_c11 p) Q st ↔ AW P m (.region [⟨(some 33), (.mov (.t 5)), none, false⟩, ⟨(some 34), (.bin .add (.t 33) (.c (.d (.int .i64 1)))), none, false⟩, ⟨(some 5), (.asg (.t 34)), none, false⟩] []) Q st := Iff.rfl
def slices_Compact_Pair_c12 (p : Nums) : IC := (.seq (.seq (slices_Compact_Pair_c6 p) (.cond (.t 32) .skip (.exit 2))) (.seq (.block 3 (slices_Compact_Pair_c10 p)) (slices_Compact_Pair_c11 p)))
@[simp] theorem slices_Compact_Pair_c12_eq {P m Q st} {p : Nums} : AW P m (slices_Compact_Pair_c12 p) Q st ↔ AW P m (.seq (.seq (slices_Compact_Pair_c6 p) (.cond (.t 32) .skip (.exit 2))) (.seq (.block 3 (slices_Compact_Pair_c10 p)) (slices_Compact_Pair_c11 p))) Q st := Iff.rfl
def slices_Compact_Pair_c13 (p : Nums) : IC := (.region [⟨(some 54), (.mov (.t 0)), none, false⟩, ⟨(some 55), (.mov (.t 3)), none, false⟩, ⟨(some 56), (.slc 2 (.t 54) (some (.t 55)) none), none, false⟩, ⟨none, (.clr 2 [(.int .i64 0), (.int .i64 0)] (.t 56)), none, false⟩] [])
@[simp] theorem slices_Compact_Pair_c13_eq {P m Q st} {p : Nums} : AW P m (slices_Compact_Pair_c13 p) Q st ↔ AW P m (.region [⟨(some 54), (.mov (.t 0)), none, false⟩, ⟨(some 55), (.mov (.t 3)), none, false⟩, ⟨(some 56), (.slc 2 (.t 54) (some (.t 55)) none), none, false⟩, ⟨none, (.clr 2 [(.int .i64 0), (.int .i64 0)] (.t 56)), none, false⟩] []) Q st := Iff.rfl
def slices_Compact_Pair_c14 (p : Nums) : IC := (.region [⟨(some 57), (.mov (.t 0)), none, false⟩, ⟨(some 58), (.mov (.t 3)), none, false⟩, ⟨(some 59), (.slc 2 (.t 57) none (some (.t 58))), none, false⟩, ⟨(some 2), (.asg (.t 59)), none, false⟩] [])
@[simp] theorem slices_Compact_Pair_c14_eq {P m Q st} {p : Nums} : AW P m (slices_Compact_Pair_c14 p) Q st ↔ AW P m (.region [⟨(some 57), (.mov (.t 0)), none, false⟩, ⟨(some 58), (.mov (.t 3)), none, false⟩, ⟨(some 59), (.slc 2 (.t 57) none (some (.t 58))), none, false⟩, ⟨(some 2), (.asg (.t 59)), none, false⟩] []) Q st := Iff.rfl
def slices_Compact_Pair_c15 (p : Nums) : IC := (.seq (slices_Compact_Pair_c5 p) (.seq (.seq (.region [⟨(some 5), (.asg (.c (.d (.int .i64 1)))), none, false⟩] []) (.block 2 (.loop (slices_Compact_Pair_c12 p)))) (.seq (slices_Compact_Pair_c13 p) (.seq (slices_Compact_Pair_c14 p) .ret))))
@[simp] theorem slices_Compact_Pair_c15_eq {P m Q st} {p : Nums} : AW P m (slices_Compact_Pair_c15 p) Q st ↔ AW P m (.seq (slices_Compact_Pair_c5 p) (.seq (.seq (.region [⟨(some 5), (.asg (.c (.d (.int .i64 1)))), none, false⟩] []) (.block 2 (.loop (slices_Compact_Pair_c12 p)))) (.seq (slices_Compact_Pair_c13 p) (.seq (slices_Compact_Pair_c14 p) .ret)))) Q st := Iff.rfl
def slices_Compact_Pair_c16 (p : Nums) : IC := (.seq (slices_Compact_Pair_c4 p) (.cond (.t 25) (slices_Compact_Pair_c15 p) .skip))
@[simp] theorem slices_Compact_Pair_c16_eq {P m Q st} {p : Nums} : AW P m (slices_Compact_Pair_c16 p) Q st ↔ AW P m (.seq (slices_Compact_Pair_c4 p) (.cond (.t 25) (slices_Compact_Pair_c15 p) .skip)) Q st := Iff.rfl
def slices_Compact_Pair_c17 (p : Nums) : IC := (.region [⟨(some 14), (.mov (.t 3)), none, false⟩, ⟨(some 15), (.bin .add (.t 14) (.c (.d (.int .i64 1)))), none, false⟩, ⟨(some 3), (.asg (.t 15)), none, false⟩] [])
@[simp] theorem slices_Compact_Pair_c17_eq {P m Q st} {p : Nums} : AW P m (slices_Compact_Pair_c17 p) Q st ↔ AW P m (.region [⟨(some 14), (.mov (.t 3)), none, false⟩, ⟨(some 15), (.bin .add (.t 14) (.c (.d (.int .i64 1)))), none, false⟩, ⟨(some 3), (.asg (.t 15)), none, false⟩] []) Q st := Iff.rfl
def slices_Compact_Pair_c18 (p : Nums) : IC := (.seq (.seq (slices_Compact_Pair_c3 p) (.cond (.t 13) .skip (.exit 0))) (.seq (.block 1 (slices_Compact_Pair_c16 p)) (slices_Compact_Pair_c17 p)))
@[simp] theorem slices_Compact_Pair_c18_eq {P m Q st} {p : Nums} : AW P m (slices_Compact_Pair_c18 p) Q st ↔ AW P m (.seq (.seq (slices_Compact_Pair_c3 p) (.cond (.t 13) .skip (.exit 0))) (.seq (.block 1 (slices_Compact_Pair_c16 p)) (slices_Compact_Pair_c17 p))) Q st := Iff.rfl
def ic_slices_Compact_Pair (p : Nums) : IC := (.seq (.region [⟨(some 2), (.asg (.c .nils)), none, false⟩] []) (.seq (.seq (slices_Compact_Pair_c1 p) (.cond (.t 8) (slices_Compact_Pair_c2 p) .skip)) (.seq (.seq (.region [⟨(some 3), (.asg (.c (.d (.int .i64 1)))), none, false⟩] []) (.block 0 (.loop (slices_Compact_Pair_c18 p)))) (.seq (.region [⟨(some 60), (.mov (.t 0)), none, false⟩, ⟨(some 2), (.asg (.t 60)), none, false⟩] []) .ret))))
def pairset_find_c1 (p : Nums) : IC := (.region [⟨(some 8), (.mov (.t 0)), none, false⟩, ⟨(some 9), (.len (.t 8)), none, false⟩, ⟨(some 5), (.asg (.c (.d (.int .i64 0)))), none, false⟩, ⟨(some 6), (.asg (.t 9)), none, false⟩] [])
@[simp] theorem pairset_find_c1_eq {P m Q st} {p : Nums} : AW P m (pairset_find_c1 p) Q st ↔ AW P m (.region [⟨(some 8), (.mov (.t 0)), none, false⟩, ⟨(some 9), (.len (.t 8)), none, false⟩, ⟨(some 5), (.asg (.c (.d (.int .i64 0)))), none, false⟩, ⟨(some 6), (.asg (.t 9)), none, false⟩] []) Q st := Iff.rfl
def pairset_find_c2 (p : Nums) : IC := (.region [⟨(some 10), (.mov (.t 5)), none, false⟩, ⟨(some 11), (.mov (.t 6)), none, false⟩, ⟨(some 12), (.bin .lss (.t 10) (.t 11)), none, false⟩] [])
@[simp] theorem pairset_find_c2_eq {P m Q st} {p : Nums} : AW P m (pairset_find_c2 p) Q st ↔ AW P m (.region [⟨(some 10), (.mov (.t 5)), none, false⟩, ⟨(some 11), (.mov (.t 6)), none, false⟩, ⟨(some 12), (.bin .lss (.t 10) (.t 11)), none, false⟩] []) Q st := Iff.rfl
def pairset_find_c3 (p : Nums) : IC := (.region [⟨(some 13), (.mov (.t 5)), none, false⟩, ⟨(some 14), (.mov (.t 6)), none, false⟩, ⟨(some 15), (.mov (.t 5)), none, false⟩, ⟨(some 16), (.bin .sub (.t 14) (.t 15)), none, false⟩, ⟨(some 17), (.bin .quo (.t 16) (.c (.d (.int .i64 2)))), none, false⟩, ⟨(some 18), (.bin .add (.t 13) (.t 17)), none, false⟩, ⟨(some 7), (.asg (.t 18)), none, false⟩] [])
@[simp] theorem pairset_find_c3_eq {P m Q st} {p : Nums} : AW P m (pairset_find_c3 p) Q st ↔ AW P m (.region [⟨(some 13), (.mov (.t 5)), none, false⟩, ⟨(some 14), (.mov (.t 6)), none, false⟩, ⟨(some 15), (.mov (.t 5)), none, false⟩, ⟨(some 16), (.bin .sub (.t 14) (.t 15)), none, false⟩, ⟨(some 17), (.bin .quo (.t 16) (.c (.d (.int .i64 2)))), none, false⟩, ⟨(some 18), (.bin .add (.t 13) (.t 17)), none, false⟩, ⟨(some 7), (.asg (.t 18)), none, false⟩] []) Q st := Iff.rfl
def pairset_find_c4 (p : Nums) : IC := (.region [⟨(some 19), (.mov (.t 0)), none, true⟩, ⟨(some 20), (.mov (.t 7)), none, true⟩, ⟨(some 21), (.iaddr 2 (.t 19) (.t 20)), none, true⟩, ⟨(some 22), (.load (some 2) (.t 21)), none, true⟩, ⟨(some 23), (.load (some 2) (.t 3)), none, true⟩, ⟨(some 24), (.call p.pairset_Less [(.t 22), (.t 23)]), none, false⟩] [])
@[simp] theorem pairset_find_c4_eq {P m Q st} {p : Nums} : AW P m (pairset_find_c4 p) Q st ↔ AW P m (.region [⟨(some 19), (.mov (.t 0)), none, true⟩, ⟨(some 20), (.mov (.t 7)), none, true⟩, ⟨(some 21), (.iaddr 2 (.t 19) (.t 20)), none, true⟩, ⟨(some 22), (.load (some 2) (.t 21)), none, true⟩, ⟨(some 23), (.load (some 2) (.t 3)), none, true⟩, ⟨(some 24), (.call p.pairset_Less [(.t 22), (.t 23)]), none, false⟩] []) Q st := Iff.rfl
def pairset_find_c5 (p : Nums) : IC := (.region [⟨(some 25), (.mov (.t 7)), none, false⟩, ⟨(some 26), (.bin .add (.t 25) (.c (.d (.int .i64 1)))), none, false⟩, ⟨(some 5), (.asg (.t 26)), none, false⟩] [])
@[simp] theorem pairset_find_c5_eq {P m Q st} {p : Nums} : AW P m (pairset_find_c5 p) Q st ↔ AW P m (.region [⟨(some 25), (.mov (.t 7)), none, false⟩, ⟨(some 26), (.bin .add (.t 25) (.c (.d (.int .i64 1)))), none, false⟩, ⟨(some 5), (.asg (.t 26)), none, false⟩] []) Q st := Iff.rfl
def pairset_find_c6 (p : Nums) : IC := (.region [⟨(some 27), (.mov (.t 7)), none, false⟩, ⟨(some 6), (.asg (.t 27)), none, false⟩] [])
@[simp] theorem pairset_find_c6_eq {P m Q st} {p : Nums} : AW P m (pairset_find_c6 p) Q st ↔ AW P m (.region [⟨(some 27), (.mov (.t 7)), none, false⟩, ⟨(some 6), (.asg (.t 27)), none, false⟩] []) Q st := Iff.rfl
def pairset_find_c7 (p : Nums) : IC := (.seq (pairset_find_c3 p) (.seq (pairset_find_c4 p) (.cond (.t 24) (pairset_find_c5 p) (pairset_find_c6 p))))
@[simp] theorem pairset_find_c7_eq {P m Q st} {p : Nums} : AW P m (pairset_find_c7 p) Q st ↔ AW P m (.seq (pairset_find_c3 p) (.seq (pairset_find_c4 p) (.cond (.t 24) (pairset_find_c5 p) (pairset_find_c6 p)))) Q st := Iff.rfl
def pairset_find_c8 (p : Nums) : IC := (.seq (.seq (pairset_find_c2 p) (.cond (.t 12) .skip (.exit 0))) (.block 1 (pairset_find_c7 p)))
@[simp] theorem pairset_find_c8_eq {P m Q st} {p : Nums} : AW P m (pairset_find_c8 p) Q st ↔ AW P m (.seq (.seq (pairset_find_c2 p) (.cond (.t 12) .skip (.exit 0))) (.block 1 (pairset_find_c7 p))) Q st := Iff.rfl
def ic_pairset_find (p : Nums) : IC := (.seq (.region [⟨(some 3), (.box (.t 1)), none, false⟩, ⟨(some 4), (.asg (.c (.d (.int .i64 0)))), none, false⟩] []) (.seq (pairset_find_c1 p) (.seq (.block 0 (.loop (pairset_find_c8 p))) (.seq (.region [⟨(some 28), (.mov (.t 5)), none, false⟩, ⟨(some 4), (.asg (.t 28)), none, false⟩] []) .ret))))
structure All (P : Program) (p : Nums) : Prop where
  law11_PairsetOrder : Has P p.law11_PairsetOrder 3 [(.tmp 6)] (ic_law11_PairsetOrder p)
  law11_awake : Has P p.law11_awake 0 [(.tmp 0)] (ic_law11_awake p)
  ref11_Make : Has P p.ref11_Make 1 [(.tmp 2)] (ic_ref11_Make p)
  pairset_Missing : Has P p.pairset_Missing 2 [(.cell 4 (some 2)), (.tmp 5)] (ic_pairset_Missing p)
  ref11_Missing : Has P p.ref11_Missing 2 [(.cell 4 (some 2)), (.tmp 5)] (ic_ref11_Missing p)
  pairset_Sorted : Has P p.pairset_Sorted 1 [(.tmp 2)] (ic_pairset_Sorted p)
  ref11_Sorted : Has P p.ref11_Sorted 1 [(.tmp 2)] (ic_ref11_Sorted p)
  ref11_Same : Has P p.ref11_Same 2 [(.tmp 4)] (ic_ref11_Same p)
  pairset_Make : Has P p.pairset_Make 1 [(.tmp 2)] (ic_pairset_Make p)
  pairset_Has : Has P p.pairset_Has 2 [(.tmp 4)] (ic_pairset_Has p)
  ref11_Has : Has P p.ref11_Has 2 [(.tmp 4)] (ic_ref11_Has p)
  pairset_Add : Has P p.pairset_Add 2 [(.tmp 4)] (ic_pairset_Add p)
  ref11_Add : Has P p.ref11_Add 2 [(.tmp 4)] (ic_ref11_Add p)
  pairset_Subset : Has P p.pairset_Subset 2 [(.tmp 4)] (ic_pairset_Subset p)
  pairset_Union : Has P p.pairset_Union 2 [(.tmp 4)] (ic_pairset_Union p)
  pairset_Less : Has P p.pairset_Less 2 [(.tmp 4)] (ic_pairset_Less p)
  ref11_Less : Has P p.ref11_Less 2 [(.tmp 4)] (ic_ref11_Less p)
  slices_Clone_Pair : Has P p.slices_Clone_Pair 1 [(.tmp 2)] (ic_slices_Clone_Pair p)
  pairset_compare : Has P p.pairset_compare 2 [(.tmp 4)] (ic_pairset_compare p)
  slices_Compact_Pair : Has P p.slices_Compact_Pair 1 [(.tmp 2)] (ic_slices_Compact_Pair p)
  pairset_find : Has P p.pairset_find 2 [(.tmp 4)] (ic_pairset_find p)
end Go.AE

/- Integers, booleans, pairs. -/
set_option linter.unusedVariables false
namespace Go.AE
open Go
abbrev I (n : Int) : D := .int .i64 n
abbrev AI (n : Int) : AV := .d (.int .i64 n)
abbrev AB (b : Bool) : AV := .d (.bool b)
structure Pair where (v l : Int)
  deriving DecidableEq, Inhabited
def Pair.row (q : Pair) : List D := [I q.v, I q.l]
def Pair.av (q : Pair) : AV := .agg [AI q.v, AI q.l]
def pairsD (l : List Pair) : D := .sl (l.map Pair.row)
end Go.AE

/- Sets of pairs: lists in order. -/
set_option linter.unusedVariables false
namespace Go.AE
open Go
def lessP (a b : Pair) : Bool := if a.v = b.v then decide (a.l < b.l) else decide (a.v < b.v)
theorem lessP_iff {a b : Pair} : lessP a b = true ↔ a.v < b.v ∨ (a.v = b.v ∧ a.l < b.l) := by
  unfold lessP; split <;> simp <;> omega
theorem lessP_total {a b : Pair} (h1 : lessP a b = false) (h2 : lessP b a = false) : a = b := by
  have h1 : ¬ lessP a b = true := by simp [h1]
  have h2 : ¬ lessP b a = true := by simp [h2]
  rw [lessP_iff] at h1 h2
  obtain ⟨a1, a2⟩ := a; obtain ⟨b1, b2⟩ := b
  simp only [Pair.mk.injEq]; simp only at h1 h2; omega
theorem lessP_trans {a b c : Pair} (h1 : lessP a b = true) (h2 : lessP b c = true) : lessP a c = true := by
  rw [lessP_iff] at *; omega
theorem lessP_irrefl (a : Pair) : lessP a a = false := by
  cases h : lessP a a with
  | false => rfl
  | true => rw [lessP_iff] at h; omega
theorem lessP_asymm {a b : Pair} (h1 : lessP a b = true) : lessP b a = false := by
  cases h : lessP b a with
  | false => rfl
  | true => have := lessP_trans h1 h; rw [lessP_irrefl] at this; cases this
def sortedP (l : List Pair) : Bool := (List.range l.length).all fun k => if h : k + 1 < l.length then lessP (l[k]) (l[k+1]) else true
theorem sortedP_iff {l : List Pair} : sortedP l = true ↔ ∀ k, (h : k + 1 < l.length) → lessP (l[k]) (l[k+1]) = true := by
  simp only [sortedP, List.all_eq_true, List.mem_range]
  constructor
  · intro h k hk; have := h k (by omega); rwa [dif_pos hk] at this
  · intro h k hk
    split
    · exact h k _
    · rfl
def stepA (p : Pair) (s : List Pair × Bool) (q : Pair) : List Pair × Bool :=
  let s := if s.2 = false ∧ lessP q p = false then (s.1 ++ [p], true) else s
  if q = p then s else (s.1 ++ [q], s.2)
def foldA (p : Pair) (l : List Pair) : List Pair × Bool := l.foldl (stepA p) ([], false)
def addP (l : List Pair) (p : Pair) : List Pair := if (foldA p l).2 = true then (foldA p l).1 else (foldA p l).1 ++ [p]
def makeP (l : List Pair) : List Pair := l.foldl addP []
def missP (a b : List Pair) : Option Pair := a.find? fun q => !decide (q ∈ b)
theorem foldA_succ {p : Pair} {l : List Pair} {k : Nat} (h : k < l.length) : foldA p (l.take (k + 1)) = stepA p (foldA p (l.take k)) l[k] := by
  rw [foldA, foldA, List.take_add_one, List.foldl_append]; simp [h]
theorem makeP_succ {l : List Pair} {k : Nat} (h : k < l.length) : makeP (l.take (k + 1)) = addP (makeP (l.take k)) l[k] := by
  rw [makeP, makeP, List.take_add_one, List.foldl_append]; simp [h]
theorem stepA_len (p : Pair) (s : List Pair × Bool) (q : Pair) : (stepA p s q).1.length ≤ s.1.length + 2 := by
  unfold stepA; dsimp only; split <;> split <;> simp
theorem foldA_len (p : Pair) (l : List Pair) (s : List Pair × Bool) : (l.foldl (stepA p) s).1.length ≤ s.1.length + 2 * l.length := by
  induction l generalizing s with
  | nil => simp
  | cons q l ih => have := ih (stepA p s q); have := stepA_len p s q; simp only [List.foldl_cons, List.length_cons]; omega
theorem eq_pair {a b : Pair} (h1 : a.v = b.v) (h2 : a.l = b.l) : a = b := by cases a; cases b; simp_all
theorem pair_eqd (a b : Pair) : (decide (a.v = b.v) && decide (a.l = b.l)) = decide (a = b) := by
  by_cases h : a = b
  · subst h; simp
  · rw [decide_eq_false h]
    cases h1 : decide (a.v = b.v) <;> cases h2 : decide (a.l = b.l) <;> simp_all
    exact h (eq_pair h1 h2)
theorem addP_len (l : List Pair) (q : Pair) : (addP l q).length ≤ 2 * l.length + 1 := by
  have := foldA_len q l ([], false)
  have : (foldA q l).1.length ≤ 0 + 2 * l.length := this
  unfold addP; split <;> simp <;> omega

theorem pair_beq (a b : Pair) : (a.v == b.v && a.l == b.l) = decide (a = b) := by
  rw [← pair_eqd]; rfl
def Srt (l : List Pair) : Prop := l.Pairwise fun a b => lessP a b = true
theorem srt_cons {a : Pair} {l : List Pair} : Srt (a :: l) ↔ (∀ b ∈ l, lessP a b = true) ∧ Srt l := List.pairwise_cons
theorem srt_get {l : List Pair} (h : Srt l) {i j : Nat} (hij : i < j) (hj : j < l.length) : lessP (l[i]'(by omega)) l[j] = true := List.pairwise_iff_getElem.1 h i j (by omega) hj hij
theorem srt_adj {l : List Pair} : Srt l ↔ ∀ k, (h : k + 1 < l.length) → lessP (l[k]) (l[k+1]) = true := by
  constructor
  · intro h k hk; exact srt_get h (by omega) hk
  · intro h
    refine List.pairwise_iff_getElem.2 fun i j hi hj hij => ?_
    obtain ⟨n, rfl⟩ : ∃ n, j = i + 1 + n := ⟨j - (i + 1), by omega⟩
    induction n with
    | zero => exact h i hj
    | succ n ih => exact lessP_trans (ih (by omega) (by omega)) (h (i + 1 + n) (by omega))
theorem sortedP_srt {l : List Pair} : sortedP l = true ↔ Srt l := by rw [sortedP_iff, srt_adj]
theorem srt_ext : ∀ {a b : List Pair}, Srt a → Srt b → (∀ q, q ∈ a ↔ q ∈ b) → a = b := by
  intro a
  induction a with
  | nil =>
    intro b _ _ h
    cases b with
    | nil => rfl
    | cons y b => have := (h y).2 (by simp); cases this
  | cons x a ih =>
    intro b ha hb h
    cases b with
    | nil => have := (h x).1 (by simp); cases this
    | cons y b =>
      rw [srt_cons] at ha hb
      have exy : x = y := by
        have h1 := (h x).1 (by simp)
        have h2 := (h y).2 (by simp)
        rw [List.mem_cons] at h1 h2
        rcases h1 with h1 | h1
        · exact h1
        · rcases h2 with h2 | h2
          · exact h2.symm
          · have := lessP_asymm (hb.1 x h1); rw [ha.1 y h2] at this; cases this
      subst exy
      have : a = b := by
        refine ih ha.2 hb.2 fun q => ?_
        have hq := h q
        rw [List.mem_cons, List.mem_cons] at hq
        constructor
        · intro hqa
          rcases hq.1 (.inr hqa) with e | e
          · subst e; have := ha.1 q hqa; rw [lessP_irrefl] at this; cases this
          · exact e
        · intro hqb
          rcases hq.2 (.inr hqb) with e | e
          · subst e; have := hb.1 q hqb; rw [lessP_irrefl] at this; cases this
          · exact e
      rw [this]
/-- Where p belongs. -/
def posP (l : List Pair) (p : Pair) : Nat := (l.takeWhile fun q => lessP q p).length
def insP (l : List Pair) (p : Pair) : List Pair := (l.takeWhile fun q => lessP q p) ++ p :: (l.dropWhile fun q => lessP q p).filter fun q => decide (q ≠ p)
theorem lessP_ne {a b : Pair} (h : lessP a b = true) : a ≠ b := by rintro rfl; rw [lessP_irrefl] at h; cases h
theorem fold_done (p : Pair) (l out : List Pair) : l.foldl (stepA p) (out, true) = (out ++ l.filter (fun q => decide (q ≠ p)), true) := by
  induction l generalizing out with
  | nil => simp
  | cons q l ih =>
    by_cases e : q = p
    · simp [stepA, e, ih]
    · simp [stepA, e, ih]
theorem fold_not (p : Pair) (l out : List Pair) : l.foldl (stepA p) (out, false) = if (l.dropWhile fun q => lessP q p) = [] then (out ++ l, false) else (out ++ insP l p, true) := by
  induction l generalizing out with
  | nil => simp
  | cons q l ih =>
    cases h : lessP q p with
    | true =>
      have hne := lessP_ne h
      simp only [List.foldl_cons, stepA, h, hne, if_false, and_false, ih, List.dropWhile_cons, if_true, Bool.true_eq_false, insP, List.takeWhile_cons]
      split <;> simp [List.append_assoc]
    | false =>
      simp only [List.foldl_cons, stepA, h, and_self, if_true, List.dropWhile_cons, Bool.false_eq_true, if_false, reduceCtorEq, insP, List.takeWhile_cons, List.nil_append]
      by_cases e : q = p
      · simp [e, fold_done]
      · simp [e, fold_done]
theorem addP_ins (l : List Pair) (p : Pair) : addP l p = insP l p := by
  unfold addP foldA
  rw [fold_not]
  split
  · rename_i h
    simp only [List.nil_append, Bool.false_eq_true, if_false, insP, h, List.filter_nil]
    have : l.takeWhile (fun q => lessP q p) = l := by
      have e := List.takeWhile_append_dropWhile (p := fun q => lessP q p) (l := l)
      rw [h, List.append_nil] at e; exact e
    rw [this]
  · simp
theorem mem_addP {l : List Pair} {p q : Pair} : q ∈ addP l p ↔ q = p ∨ q ∈ l := by
  rw [addP_ins, insP]
  have e := List.takeWhile_append_dropWhile (p := fun q => lessP q p) (l := l)
  have e2 : q ∈ l ↔ q ∈ l.takeWhile (fun q => lessP q p) ∨ q ∈ l.dropWhile (fun q => lessP q p) := by
    rw [← List.mem_append, e]
  simp only [List.mem_append, List.mem_cons, List.mem_filter, decide_eq_true_eq, e2]
  by_cases h : q = p <;> simp [h]
theorem drop_ge {l : List Pair} {p : Pair} (h : Srt l) : ∀ q ∈ l.dropWhile (fun q => lessP q p), lessP q p = false := by
  induction l with
  | nil => intro q hq; simp at hq
  | cons x l ih =>
    intro q hq
    rw [srt_cons] at h
    cases hx : lessP x p with
    | true => rw [List.dropWhile_cons, hx, if_pos rfl] at hq; exact ih h.2 q hq
    | false =>
      rw [List.dropWhile_cons, hx, if_neg (by simp)] at hq
      rcases List.mem_cons.1 hq with rfl | hq
      · exact hx
      · cases hqp : lessP q p with
        | false => rfl
        | true => rw [lessP_trans (h.1 q hq) hqp] at hx; cases hx
theorem take_lt {l : List Pair} {p : Pair} : ∀ q ∈ l.takeWhile (fun q => lessP q p), lessP q p = true := by
  induction l with
  | nil => intro q hq; simp at hq
  | cons x l ih =>
    intro q hq
    cases hx : lessP x p with
    | true =>
      rw [List.takeWhile_cons, hx, if_pos rfl] at hq
      rcases List.mem_cons.1 hq with rfl | hq
      · exact hx
      · exact ih q hq
    | false => rw [List.takeWhile_cons, hx, if_neg (by simp)] at hq; simp at hq
theorem srt_sub {a b : List Pair} (h : a.Sublist b) (hb : Srt b) : Srt a := List.Pairwise.sublist h hb
theorem srt_addP {l : List Pair} {p : Pair} (h : Srt l) : Srt (addP l p) := by
  rw [addP_ins, insP]
  refine List.pairwise_append.2 ⟨srt_sub (List.takeWhile_sublist _) h, srt_cons.2 ⟨?_, ?_⟩, ?_⟩
  · intro b hb
    rw [List.mem_filter, decide_eq_true_eq] at hb
    have h1 := drop_ge h b hb.1
    cases h2 : lessP p b with
    | true => rfl
    | false => exact absurd (lessP_total h2 h1).symm hb.2
  · exact srt_sub (List.filter_sublist.trans (List.dropWhile_sublist _)) h
  · intro a ha b hb
    have h1 := take_lt a ha
    rcases List.mem_cons.1 hb with rfl | hb
    · exact h1
    · rw [List.mem_filter, decide_eq_true_eq] at hb
      have h2 := drop_ge h b hb.1
      cases h3 : lessP p b with
      | true => exact lessP_trans h1 h3
      | false => exact absurd (lessP_total h3 h2).symm hb.2
theorem makeP_nil : makeP [] = [] := rfl
theorem makeP_snoc (l : List Pair) (q : Pair) : makeP (l ++ [q]) = addP (makeP l) q := by simp [makeP]
theorem makeP_rec {motive : List Pair → Prop} (h0 : motive []) (h1 : ∀ l q, motive l → motive (l ++ [q])) (l : List Pair) : motive l := by
  generalize hn : l.length = n
  induction n generalizing l with
  | zero => have : l = [] := List.length_eq_zero_iff.1 hn; subst this; exact h0
  | succ n ih =>
    have hne : l ≠ [] := by rintro rfl; simp at hn
    rw [← List.dropLast_concat_getLast hne]
    exact h1 _ _ (ih _ (by simp [hn]))
theorem srt_makeP (l : List Pair) : Srt (makeP l) := by
  induction l using makeP_rec with
  | h0 => exact List.Pairwise.nil
  | h1 l q ih => rw [makeP_snoc]; exact srt_addP ih
theorem mem_makeP {l : List Pair} {q : Pair} : q ∈ makeP l ↔ q ∈ l := by
  induction l using makeP_rec with
  | h0 => simp [makeP]
  | h1 l x ih => rw [makeP_snoc, mem_addP, ih]; simp [or_comm]
theorem makeP_srt {l : List Pair} (h : Srt l) : makeP l = l := srt_ext (srt_makeP l) h fun q => mem_makeP
theorem srt_nodup {l : List Pair} (h : Srt l) : l.Nodup := List.Pairwise.imp (fun h => lessP_ne h) h
theorem addP_len1 (l : List Pair) (p : Pair) : (addP l p).length ≤ l.length + 1 := by
  rw [addP_ins, insP]
  have e := congrArg List.length (List.takeWhile_append_dropWhile (p := fun q => lessP q p) (l := l))
  have e2 := List.length_filter_le (fun q => decide (q ≠ p)) (l.dropWhile fun q => lessP q p)
  simp only [List.length_append, List.length_cons] at e ⊢; omega
theorem makeP_len (l : List Pair) : (makeP l).length ≤ l.length := by
  induction l using makeP_rec with
  | h0 => simp [makeP]
  | h1 l x ih => rw [makeP_snoc]; have := addP_len1 (makeP l) x; simp only [List.length_append, List.length_cons, List.length_nil]; omega
end Go.AE

/- Sets of pairs: the reference. -/
set_option linter.unusedVariables false
namespace Go.AE
open Go
section
theorem ref11_Less_calls {P : Program} {p : Nums} (A : All P p) (a b : Pair) : CallsTo P p.ref11_Less [a.av, b.av] [] fun o _ => o = .ret (AB (lessP a b)) := by
  refine A.ref11_Less.run rfl fun R hR => ?_
  (simp (config := { maxSteps := 1000000 }) [ic_ref11_Less, Pair.av])
  ((first | refine AW_cond_split _ (by rfl) (fun h => ?_) (fun h => ?_) | refine AWop_split _ (by rfl) (fun h => ?_) (fun h => ?_)) <;> (try simp only [decide_eq_true_eq, decide_eq_false_iff_not, Bool.not_eq_true', Bool.not_eq_false', Bool.and_eq_true, Bool.or_eq_true, beq_iff_eq, bne_iff_ne, ne_eq, beq_eq_false_iff_ne, bne_eq_false_iff_eq] at h))
  · (simp (config := { maxSteps := 1000000 }) [h])
    (first | exact hR _ _ (Fin_ret _ rfl rfl rfl) | exact hR _ _ (Fin_normal _ rfl rfl rfl) | exact hR _ _ (Fin_ret _ rfl rfl (by simp [AV.erase, AV.unview, lessP, h]; done)) | exact hR _ _ (Fin_normal _ rfl rfl (by simp [AV.erase, AV.unview, lessP, h]; done)) | fail "no end")
  · (simp (config := { maxSteps := 1000000 }) [h])
    (first | exact hR _ _ (Fin_ret _ rfl rfl rfl) | exact hR _ _ (Fin_normal _ rfl rfl rfl) | exact hR _ _ (Fin_ret _ rfl rfl (by simp [AV.erase, AV.unview, lessP, h]; done)) | exact hR _ _ (Fin_normal _ rfl rfl (by simp [AV.erase, AV.unview, lessP, h]; done)) | fail "no end")
theorem ref11_Sorted_calls {P : Program} {p : Nums} (A : All P p) (l : List Pair) (h0 : l.length < 1000000000) : CallsTo P p.ref11_Sorted [.d (pairsD l)] [] fun o _ => o = .ret (AB (sortedP l)) := by
  refine A.ref11_Sorted.run rfl fun R hR => ?_
  (simp (config := { maxSteps := 1000000 }) [ic_ref11_Sorted, pairsD])
  refine AW_loop (fun k : Nat => ⟨[(3, AI k), (2, AB false), (0, .d (.sl (l.map Pair.row)))], []⟩) (fun k => k ≤ l.length ∧ ∀ j, j < k → (h : j + 1 < l.length) → lessP (l[j]) (l[j+1]) = true) (fun k => l.length - k) 0 (by simp) (by (refine Wk.of ?_ ?_ (by simp) <;> repeat' (first | exact True.intro | exact ⟨_, rfl, wkt_same rfl⟩ | exact ⟨_, rfl, wkt_erase rfl⟩ | exact ⟨_, rfl, .inl .nild⟩ | exact ⟨_, rfl, wkt_nils⟩ | exact wkt_same rfl | exact wkt_erase rfl | exact .inl .nild | exact wkt_nils | exact WkB.same rfl | exact WkB_rows | exact WkB_nil | exact .dead _ | refine WkB_cons ?_ ?_ | refine And.intro ?_ ?_))) ?_
  rintro k ⟨hk, hz⟩ N hN
  have hw := wrap_succ (k := k) (by omega)
  (simp (config := { maxSteps := 1000000 }) [hw])
  ((first | refine AW_cond_split _ (by rfl) (fun h2 => ?_) (fun h2 => ?_) | refine AWop_split _ (by rfl) (fun h2 => ?_) (fun h2 => ?_)) <;> (try simp only [decide_eq_true_eq, decide_eq_false_iff_not, Bool.not_eq_true', Bool.not_eq_false', Bool.and_eq_true, Bool.or_eq_true, beq_iff_eq, bne_iff_ne, ne_eq, beq_eq_false_iff_ne, bne_eq_false_iff_eq] at h2))
  · have hkl : k + 1 < l.length := by omega
    have hb : l[k]? = some l[k] := by simp
    have hb2 : l[k + 1]? = some l[k + 1] := by simp
    (simp (config := { maxSteps := 1000000 }) [h2, hb, hb2, Pair.row, hw])
    (refine AWcall_det (ref11_Less_calls A l[k] l[k+1]) (by rfl) (by rfl) ?_)
    (simp (config := { maxSteps := 1000000 }) [])
    ((first | refine AW_cond_split _ (by rfl) (fun h3 => ?_) (fun h3 => ?_) | refine AWop_split _ (by rfl) (fun h3 => ?_) (fun h3 => ?_)) <;> (try simp only [decide_eq_true_eq, decide_eq_false_iff_not, Bool.not_eq_true', Bool.not_eq_false', Bool.and_eq_true, Bool.or_eq_true, beq_iff_eq, bne_iff_ne, ne_eq, beq_eq_false_iff_ne, bne_eq_false_iff_eq] at h3))
    · (simp (config := { maxSteps := 1000000 }) [h3])
      have : sortedP l = false := by
        cases hs : sortedP l with
        | false => rfl
        | true => rw [sortedP_iff.1 hs k hkl] at h3; cases h3
      (first | exact hR _ _ (Fin_ret _ rfl rfl rfl) | exact hR _ _ (Fin_normal _ rfl rfl rfl) | exact hR _ _ (Fin_ret _ rfl rfl (by simp [AV.erase, AV.unview, this]; done)) | exact hR _ _ (Fin_normal _ rfl rfl (by simp [AV.erase, AV.unview, this]; done)) | fail "no end")
    · (simp (config := { maxSteps := 1000000 }) [h3, hw])
      refine hN _ (k + 1) ⟨by omega, ?_⟩ (by (refine Wk.of ?_ ?_ (by simp) <;> repeat' (first | exact True.intro | exact ⟨_, rfl, wkt_same rfl⟩ | exact ⟨_, rfl, wkt_erase rfl⟩ | exact ⟨_, rfl, .inl .nild⟩ | exact ⟨_, rfl, wkt_nils⟩ | exact wkt_same rfl | exact wkt_erase rfl | exact .inl .nild | exact wkt_nils | exact WkB.same rfl | exact WkB_rows | exact WkB_nil | exact .dead _ | refine WkB_cons ?_ ?_ | refine And.intro ?_ ?_))) (by omega)
      intro j hj h
      by_cases hjk : j = k
      · subst hjk; simpa using h3
      · exact hz j (by omega) h
  · (simp (config := { maxSteps := 1000000 }) [h2])
    have : sortedP l = true := by
      rw [sortedP_iff]
      intro j h; exact hz j (by omega) h
    (first | exact hR _ _ (Fin_ret _ rfl rfl rfl) | exact hR _ _ (Fin_normal _ rfl rfl rfl) | exact hR _ _ (Fin_ret _ rfl rfl (by simp [AV.erase, AV.unview, this]; done)) | exact hR _ _ (Fin_normal _ rfl rfl (by simp [AV.erase, AV.unview, this]; done)) | fail "no end")
theorem ref11_Has_calls {P : Program} {p : Nums} (A : All P p) (l : List Pair) (q : Pair) (h0 : l.length < 1000000000) : CallsTo P p.ref11_Has [.d (pairsD l), q.av] [] fun o _ => o = .ret (AB (decide (q ∈ l))) := by
  refine A.ref11_Has.run rfl fun R hR => ?_
  (simp (config := { maxSteps := 1000000 }) [ic_ref11_Has, pairsD, Pair.av])
  refine AW_loop (fun k : Nat => ⟨[(5, AI k), (4, AB false), (3, .ptr 0 0), (0, .d (.sl (l.map Pair.row)))], [.mem [AI q.v, AI q.l]]⟩) (fun k => k ≤ l.length ∧ q ∉ l.take k) (fun k => l.length - k) 0 (by simp) (by (refine Wk.of ?_ ?_ (by simp) <;> repeat' (first | exact True.intro | exact ⟨_, rfl, wkt_same rfl⟩ | exact ⟨_, rfl, wkt_erase rfl⟩ | exact ⟨_, rfl, .inl .nild⟩ | exact ⟨_, rfl, wkt_nils⟩ | exact wkt_same rfl | exact wkt_erase rfl | exact .inl .nild | exact wkt_nils | exact WkB.same rfl | exact WkB_rows | exact WkB_nil | exact .dead _ | refine WkB_cons ?_ ?_ | refine And.intro ?_ ?_))) ?_
  rintro k ⟨hk, hz⟩ N hN
  (simp (config := { maxSteps := 1000000 }) [])
  ((first | refine AW_cond_split _ (by rfl) (fun h2 => ?_) (fun h2 => ?_) | refine AWop_split _ (by rfl) (fun h2 => ?_) (fun h2 => ?_)) <;> (try simp only [decide_eq_true_eq, decide_eq_false_iff_not, Bool.not_eq_true', Bool.not_eq_false', Bool.and_eq_true, Bool.or_eq_true, beq_iff_eq, bne_iff_ne, ne_eq, beq_eq_false_iff_ne, bne_eq_false_iff_eq] at h2))
  · have hkl : k < l.length := by simpa using h2
    have hb : l[k]? = some l[k] := by simp
    have hw := wrap_succ (k := k) (by omega)
    (simp (config := { maxSteps := 1000000 }) [h2, hb, Pair.row])
    ((first | refine AW_cond_split _ (by rfl) (fun h3 => ?_) (fun h3 => ?_) | refine AWop_split _ (by rfl) (fun h3 => ?_) (fun h3 => ?_)) <;> (try simp only [decide_eq_true_eq, decide_eq_false_iff_not, Bool.not_eq_true', Bool.not_eq_false', Bool.and_eq_true, Bool.or_eq_true, beq_iff_eq, bne_iff_ne, ne_eq, beq_eq_false_iff_ne, bne_eq_false_iff_eq] at h3))
    · (simp (config := { maxSteps := 1000000 }) [h3])
      have e : q = l[k] := by cases q; cases hq : l[k]; simp_all
      have : q ∈ l := by rw [e]; exact List.getElem_mem hkl
      (first | exact hR _ _ (Fin_ret _ rfl rfl rfl) | exact hR _ _ (Fin_normal _ rfl rfl rfl) | exact hR _ _ (Fin_ret _ rfl rfl (by simp [AV.erase, AV.unview, this]; done)) | exact hR _ _ (Fin_normal _ rfl rfl (by simp [AV.erase, AV.unview, this]; done)) | fail "no end")
    · (simp (config := { maxSteps := 1000000 }) [h3, hw])
      refine hN _ (k + 1) ⟨hkl, ?_⟩ (by (refine Wk.of ?_ ?_ (by simp) <;> repeat' (first | exact True.intro | exact ⟨_, rfl, wkt_same rfl⟩ | exact ⟨_, rfl, wkt_erase rfl⟩ | exact ⟨_, rfl, .inl .nild⟩ | exact ⟨_, rfl, wkt_nils⟩ | exact wkt_same rfl | exact wkt_erase rfl | exact .inl .nild | exact wkt_nils | exact WkB.same rfl | exact WkB_rows | exact WkB_nil | exact .dead _ | refine WkB_cons ?_ ?_ | refine And.intro ?_ ?_))) (by omega)
      rw [List.take_add_one, hb]
      simp only [List.mem_append, not_or, hz, not_false_eq_true, true_and, Option.toList, List.mem_singleton]
      intro e; subst e; simp at h3
  · have hk' : k = l.length := by simp at h2; omega
    subst hk'
    have : q ∉ l := by simpa using hz
    (simp (config := { maxSteps := 1000000 }) [])
    (first | exact hR _ _ (Fin_ret _ rfl rfl rfl) | exact hR _ _ (Fin_normal _ rfl rfl rfl) | exact hR _ _ (Fin_ret _ rfl rfl (by simp [AV.erase, AV.unview, this]; done)) | exact hR _ _ (Fin_normal _ rfl rfl (by simp [AV.erase, AV.unview, this]; done)) | fail "no end")
theorem ref11_Same_calls {P : Program} {p : Nums} (A : All P p) (a b : List Pair) (h0 : a.length < 1000000000) (h1 : b.length < 1000000000) : CallsTo P p.ref11_Same [.d (pairsD a), .d (pairsD b)] [] fun o _ => o = .ret (AB (decide (a = b))) := by
  refine A.ref11_Same.run rfl fun R hR => ?_
  (simp (config := { maxSteps := 1000000 }) [ic_ref11_Same, pairsD])
  ((first | refine AW_cond_split _ (by rfl) (fun hl => ?_) (fun hl => ?_) | refine AWop_split _ (by rfl) (fun hl => ?_) (fun hl => ?_)) <;> (try simp only [decide_eq_true_eq, decide_eq_false_iff_not, Bool.not_eq_true', Bool.not_eq_false', Bool.and_eq_true, Bool.or_eq_true, beq_iff_eq, bne_iff_ne, ne_eq, beq_eq_false_iff_ne, bne_eq_false_iff_eq] at hl))
  · (simp (config := { maxSteps := 1000000 }) [hl])
    have : a ≠ b := by rintro rfl; exact hl rfl
    (first | exact hR _ _ (Fin_ret _ rfl rfl rfl) | exact hR _ _ (Fin_normal _ rfl rfl rfl) | exact hR _ _ (Fin_ret _ rfl rfl (by simp [AV.erase, AV.unview, this]; done)) | exact hR _ _ (Fin_normal _ rfl rfl (by simp [AV.erase, AV.unview, this]; done)) | fail "no end")
  have hl' : a.length = b.length := by omega
  (simp (config := { maxSteps := 1000000 }) [hl'])
  refine AW_loop (fun k : Nat => ⟨[(5, AI k), (4, AB false), (1, .d (.sl (b.map Pair.row))), (0, .d (.sl (a.map Pair.row)))], []⟩) (fun k => k ≤ a.length ∧ a.take k = b.take k) (fun k => a.length - k) 0 (by simp) (by (refine Wk.of ?_ ?_ (by simp) <;> repeat' (first | exact True.intro | exact ⟨_, rfl, wkt_same rfl⟩ | exact ⟨_, rfl, wkt_erase rfl⟩ | exact ⟨_, rfl, .inl .nild⟩ | exact ⟨_, rfl, wkt_nils⟩ | exact wkt_same rfl | exact wkt_erase rfl | exact .inl .nild | exact wkt_nils | exact WkB.same rfl | exact WkB_rows | exact WkB_nil | exact .dead _ | refine WkB_cons ?_ ?_ | refine And.intro ?_ ?_))) ?_
  rintro k ⟨hk, hz⟩ N hN
  (simp (config := { maxSteps := 1000000 }) [])
  ((first | refine AW_cond_split _ (by rfl) (fun h2 => ?_) (fun h2 => ?_) | refine AWop_split _ (by rfl) (fun h2 => ?_) (fun h2 => ?_)) <;> (try simp only [decide_eq_true_eq, decide_eq_false_iff_not, Bool.not_eq_true', Bool.not_eq_false', Bool.and_eq_true, Bool.or_eq_true, beq_iff_eq, bne_iff_ne, ne_eq, beq_eq_false_iff_ne, bne_eq_false_iff_eq] at h2))
  · have hkl : k < a.length := by simpa using h2
    have hkl2 : k < b.length := by omega
    have hb : a[k]? = some a[k] := by simp
    have hb2 : b[k]? = some b[k] := by simp
    have hw := wrap_succ (k := k) (by omega)
    (simp (config := { maxSteps := 1000000 }) [h2, hb, hb2, hkl2, Pair.row])
    ((first | refine AW_cond_split _ (by rfl) (fun h3 => ?_) (fun h3 => ?_) | refine AWop_split _ (by rfl) (fun h3 => ?_) (fun h3 => ?_)) <;> (try simp only [decide_eq_true_eq, decide_eq_false_iff_not, Bool.not_eq_true', Bool.not_eq_false', Bool.and_eq_true, Bool.or_eq_true, beq_iff_eq, bne_iff_ne, ne_eq, beq_eq_false_iff_ne, bne_eq_false_iff_eq] at h3))
    · (simp (config := { maxSteps := 1000000 }) [h3])
      have : a ≠ b := by rintro rfl; simp at h3
      (first | exact hR _ _ (Fin_ret _ rfl rfl rfl) | exact hR _ _ (Fin_normal _ rfl rfl rfl) | exact hR _ _ (Fin_ret _ rfl rfl (by simp [AV.erase, AV.unview, this]; done)) | exact hR _ _ (Fin_normal _ rfl rfl (by simp [AV.erase, AV.unview, this]; done)) | fail "no end")
    · (simp (config := { maxSteps := 1000000 }) [h3, hw])
      refine hN _ (k + 1) ⟨hkl, ?_⟩ (by (refine Wk.of ?_ ?_ (by simp) <;> repeat' (first | exact True.intro | exact ⟨_, rfl, wkt_same rfl⟩ | exact ⟨_, rfl, wkt_erase rfl⟩ | exact ⟨_, rfl, .inl .nild⟩ | exact ⟨_, rfl, wkt_nils⟩ | exact wkt_same rfl | exact wkt_erase rfl | exact .inl .nild | exact wkt_nils | exact WkB.same rfl | exact WkB_rows | exact WkB_nil | exact .dead _ | refine WkB_cons ?_ ?_ | refine And.intro ?_ ?_))) (by omega)
      have e : a[k] = b[k] := by cases hq : a[k]; cases hq' : b[k]; simp_all
      rw [List.take_add_one, List.take_add_one, hb, hb2, hz, e]
  · have hk' : k = a.length := by simp at h2; omega
    subst hk'
    have : a = b := by rw [List.take_length, hl', List.take_length] at hz; exact hz
    (simp (config := { maxSteps := 1000000 }) [])
    (first | exact hR _ _ (Fin_ret _ rfl rfl rfl) | exact hR _ _ (Fin_normal _ rfl rfl rfl) | exact hR _ _ (Fin_ret _ rfl rfl (by simp [AV.erase, AV.unview, this]; done)) | exact hR _ _ (Fin_normal _ rfl rfl (by simp [AV.erase, AV.unview, this]; done)) | fail "no end")
end
end Go.AE

/- Sets of pairs: the reference's Add, Make, Missing. -/
set_option linter.unusedVariables false
namespace Go.AE
open Go
section
theorem ref11_Add_calls {P : Program} {p : Nums} (A : All P p) (l : List Pair) (q : Pair) (h0 : l.length < 1000000) : CallsTo P p.ref11_Add [.d (pairsD l), q.av] [] fun o _ => o = .ret (.d (pairsD (addP l q))) := by
  refine A.ref11_Add.run rfl fun R hR => ?_
  (simp (config := { maxSteps := 1000000 }) [ic_ref11_Add, pairsD, Pair.av])
  refine AW_loop (fun k : Nat => ⟨[(7, AI k), (6, AB (foldA q (l.take k)).2), (5, .own 2 ((foldA q (l.take k)).1.map Pair.row)), (4, .nils), (3, .ptr 0 0), (0, .d (.sl (l.map Pair.row)))], [.mem [AI q.v, AI q.l]]⟩) (fun k => k ≤ l.length) (fun k => l.length - k) 0 (by simp) (by simp only [foldA, List.take_zero, List.foldl_nil, List.map_nil]; (refine Wk.of ?_ ?_ (by simp) <;> repeat' (first | exact True.intro | exact ⟨_, rfl, wkt_same rfl⟩ | exact ⟨_, rfl, wkt_erase rfl⟩ | exact ⟨_, rfl, .inl .nild⟩ | exact ⟨_, rfl, wkt_nils⟩ | exact wkt_same rfl | exact wkt_erase rfl | exact .inl .nild | exact wkt_nils | exact WkB.same rfl | exact WkB_rows | exact WkB_nil | exact .dead _ | refine WkB_cons ?_ ?_ | refine And.intro ?_ ?_))) ?_
  intro k hk N hN
  have hlen := foldA_len q (l.take k) ([], false)
  obtain ⟨out, dn, hs⟩ : ∃ out dn, foldA q (l.take k) = (out, dn) := ⟨_, _, rfl⟩
  have hlen : out.length ≤ 2 * k := by
    have : (foldA q (l.take k)).1.length ≤ 0 + 2 * (l.take k).length := hlen
    rw [hs] at this; simp at this; omega
  simp only [hs]
  (simp (config := { maxSteps := 1000000 }) [])
  ((first | refine AW_cond_split _ (by rfl) (fun h2 => ?_) (fun h2 => ?_) | refine AWop_split _ (by rfl) (fun h2 => ?_) (fun h2 => ?_)) <;> (try simp only [decide_eq_true_eq, decide_eq_false_iff_not, Bool.not_eq_true', Bool.not_eq_false', Bool.and_eq_true, Bool.or_eq_true, beq_iff_eq, bne_iff_ne, ne_eq, beq_eq_false_iff_ne, bne_eq_false_iff_eq] at h2))
  · have hkl : k < l.length := by simpa using h2
    have hb : l[k]? = some l[k] := by simp
    have hw := wrap_succ (k := k) (by omega)
    have hsn := foldA_succ (p := q) hkl
    rw [hs] at hsn
    have next : ∀ st', Wk 0 st' ⟨[(7, AI ((k + 1 : Nat) : Int)), (6, AB (stepA q (out, dn) l[k]).2), (5, .own 2 ((stepA q (out, dn) l[k]).1.map Pair.row)), (4, .nils), (3, .ptr 0 0), (0, .d (.sl (l.map Pair.row)))], [.mem [AI q.v, AI q.l]]⟩ → N st' := by
      intro st' h; rw [← hsn] at h; exact hN st' (k + 1) hkl h (by omega)
    obtain ⟨x, hx⟩ : ∃ x, x = l[k] := ⟨_, rfl⟩
    rw [← hx] at hb next
    have hrow : ∀ l : List Pair, ∀ r ∈ l.map Pair.row, r.length = 2 := fun l => rows_len fun x => rfl
    (simp (config := { maxSteps := 1000000 }) [h2, hb, Pair.row])
    cases dn with
    | true =>
      (simp (config := { maxSteps := 1000000 }) [hb, Pair.row])
      ((first | refine AW_cond_split _ (by rfl) (fun h3 => ?_) (fun h3 => ?_) | refine AWop_split _ (by rfl) (fun h3 => ?_) (fun h3 => ?_)) <;> (try simp only [decide_eq_true_eq, decide_eq_false_iff_not, Bool.not_eq_true', Bool.not_eq_false', Bool.and_eq_true, Bool.or_eq_true, beq_iff_eq, bne_iff_ne, ne_eq, beq_eq_false_iff_ne, bne_eq_false_iff_eq] at h3))
      · have e : x ≠ q := by rintro rfl; simp at h3
        (simp (config := { maxSteps := 1000000 }) [h3, hb, hw, Pair.row])
        (refine AWio_app_own (by rfl) (by rfl) (by rfl) ?_ (by decide) ?_ ?_ ?_)
        · simp
        · simp; omega
        · simp; omega
        (simp (config := { maxSteps := 1000000 }) [hw])
        exact next _ (by simp only [stepA, e]; simp [Pair.row]; (refine Wk.of ?_ ?_ (by simp) <;> repeat' (first | exact True.intro | exact ⟨_, rfl, wkt_same rfl⟩ | exact ⟨_, rfl, wkt_erase rfl⟩ | exact ⟨_, rfl, .inl .nild⟩ | exact ⟨_, rfl, wkt_nils⟩ | exact wkt_same rfl | exact wkt_erase rfl | exact .inl .nild | exact wkt_nils | exact WkB.same rfl | exact WkB_rows | exact WkB_nil | exact .dead _ | refine WkB_cons ?_ ?_ | refine And.intro ?_ ?_)))
      · have e : x = q := by cases x; cases q; simp_all
        (simp (config := { maxSteps := 1000000 }) [h3, hw])
        exact next _ (by simp only [stepA, e]; simp; (refine Wk.of ?_ ?_ (by simp) <;> repeat' (first | exact True.intro | exact ⟨_, rfl, wkt_same rfl⟩ | exact ⟨_, rfl, wkt_erase rfl⟩ | exact ⟨_, rfl, .inl .nild⟩ | exact ⟨_, rfl, wkt_nils⟩ | exact wkt_same rfl | exact wkt_erase rfl | exact .inl .nild | exact wkt_nils | exact WkB.same rfl | exact WkB_rows | exact WkB_nil | exact .dead _ | refine WkB_cons ?_ ?_ | refine And.intro ?_ ?_)))
    | false =>
      (simp (config := { maxSteps := 1000000 }) [hb, Pair.row])
      (refine AWcall_det (ref11_Less_calls A x q) (by rfl) (by rfl) ?_)
      (simp (config := { maxSteps := 1000000 }) [])
      by_cases hl : lessP x q = true
      · (simp (config := { maxSteps := 1000000 }) [hl, hb, hw, Pair.row])
        ((first | refine AW_cond_split _ (by rfl) (fun h3 => ?_) (fun h3 => ?_) | refine AWop_split _ (by rfl) (fun h3 => ?_) (fun h3 => ?_)) <;> (try simp only [decide_eq_true_eq, decide_eq_false_iff_not, Bool.not_eq_true', Bool.not_eq_false', Bool.and_eq_true, Bool.or_eq_true, beq_iff_eq, bne_iff_ne, ne_eq, beq_eq_false_iff_ne, bne_eq_false_iff_eq] at h3))
        · have e : x ≠ q := by rintro rfl; simp at h3
          (simp (config := { maxSteps := 1000000 }) [h3, hb, hw, Pair.row])
          (refine AWio_app_own (by rfl) (by rfl) (by rfl) ?_ (by decide) ?_ ?_ ?_)
          · simp
          · simp; omega
          · simp; omega
          (simp (config := { maxSteps := 1000000 }) [hw])
          exact next _ (by simp only [stepA, hl, e]; simp [Pair.row]; (refine Wk.of ?_ ?_ (by simp) <;> repeat' (first | exact True.intro | exact ⟨_, rfl, wkt_same rfl⟩ | exact ⟨_, rfl, wkt_erase rfl⟩ | exact ⟨_, rfl, .inl .nild⟩ | exact ⟨_, rfl, wkt_nils⟩ | exact wkt_same rfl | exact wkt_erase rfl | exact .inl .nild | exact wkt_nils | exact WkB.same rfl | exact WkB_rows | exact WkB_nil | exact .dead _ | refine WkB_cons ?_ ?_ | refine And.intro ?_ ?_)))
        · have e : x = q := by cases x; cases q; simp_all
          (simp (config := { maxSteps := 1000000 }) [h3, hw])
          subst e
          exact next _ (by simp only [stepA, hl]; simp; (refine Wk.of ?_ ?_ (by simp) <;> repeat' (first | exact True.intro | exact ⟨_, rfl, wkt_same rfl⟩ | exact ⟨_, rfl, wkt_erase rfl⟩ | exact ⟨_, rfl, .inl .nild⟩ | exact ⟨_, rfl, wkt_nils⟩ | exact wkt_same rfl | exact wkt_erase rfl | exact .inl .nild | exact wkt_nils | exact WkB.same rfl | exact WkB_rows | exact WkB_nil | exact .dead _ | refine WkB_cons ?_ ?_ | refine And.intro ?_ ?_)))
      · have hl : lessP x q = false := by simpa using hl
        (simp (config := { maxSteps := 1000000 }) [hl, hb, hw, Pair.row])
        (refine AWio_app_own (by rfl) (by rfl) (by rfl) ?_ (by decide) ?_ ?_ ?_)
        · simp
        · simp; omega
        · simp; omega
        (simp (config := { maxSteps := 1000000 }) [hb, hw, Pair.row])
        ((first | refine AW_cond_split _ (by rfl) (fun h3 => ?_) (fun h3 => ?_) | refine AWop_split _ (by rfl) (fun h3 => ?_) (fun h3 => ?_)) <;> (try simp only [decide_eq_true_eq, decide_eq_false_iff_not, Bool.not_eq_true', Bool.not_eq_false', Bool.and_eq_true, Bool.or_eq_true, beq_iff_eq, bne_iff_ne, ne_eq, beq_eq_false_iff_ne, bne_eq_false_iff_eq] at h3))
        · have e : x ≠ q := by rintro rfl; simp at h3
          (simp (config := { maxSteps := 1000000 }) [h3, hb, hw, Pair.row])
          (refine AWio_app_own (by rfl) (by rfl) (by rfl) ?_ (by decide) ?_ ?_ ?_)
          · simp
          · simp; omega
          · simp; omega
          (simp (config := { maxSteps := 1000000 }) [hw])
          exact next _ (by simp only [stepA, hl, e]; simp [Pair.row]; (refine Wk.of ?_ ?_ (by simp) <;> repeat' (first | exact True.intro | exact ⟨_, rfl, wkt_same rfl⟩ | exact ⟨_, rfl, wkt_erase rfl⟩ | exact ⟨_, rfl, .inl .nild⟩ | exact ⟨_, rfl, wkt_nils⟩ | exact wkt_same rfl | exact wkt_erase rfl | exact .inl .nild | exact wkt_nils | exact WkB.same rfl | exact WkB_rows | exact WkB_nil | exact .dead _ | refine WkB_cons ?_ ?_ | refine And.intro ?_ ?_)))
        · have e : x = q := by cases x; cases q; simp_all
          (simp (config := { maxSteps := 1000000 }) [h3, hw])
          subst e
          exact next _ (by simp only [stepA, hl]; simp [Pair.row]; (refine Wk.of ?_ ?_ (by simp) <;> repeat' (first | exact True.intro | exact ⟨_, rfl, wkt_same rfl⟩ | exact ⟨_, rfl, wkt_erase rfl⟩ | exact ⟨_, rfl, .inl .nild⟩ | exact ⟨_, rfl, wkt_nils⟩ | exact wkt_same rfl | exact wkt_erase rfl | exact .inl .nild | exact wkt_nils | exact WkB.same rfl | exact WkB_rows | exact WkB_nil | exact .dead _ | refine WkB_cons ?_ ?_ | refine And.intro ?_ ?_)))
  · have hk' : k = l.length := by simp at h2; omega
    subst hk'
    rw [List.take_length] at hs
    cases dn with
    | true =>
      (simp (config := { maxSteps := 1000000 }) [])
      (first | exact hR _ _ (Fin_ret _ rfl rfl rfl) | exact hR _ _ (Fin_normal _ rfl rfl rfl) | exact hR _ _ (Fin_ret _ rfl rfl (by simp [AV.erase, AV.unview, addP, hs, pairsD]; done)) | exact hR _ _ (Fin_normal _ rfl rfl (by simp [AV.erase, AV.unview, addP, hs, pairsD]; done)) | fail "no end")
    | false =>
      (simp (config := { maxSteps := 1000000 }) [])
      (refine AWio_app_own (by rfl) (by rfl) (by rfl) ?_ (by decide) ?_ ?_ ?_)
      · simp
      · simp; omega
      · simp; omega
      (simp (config := { maxSteps := 1000000 }) [])
      (first | exact hR _ _ (Fin_ret _ rfl rfl rfl) | exact hR _ _ (Fin_normal _ rfl rfl rfl) | exact hR _ _ (Fin_ret _ rfl rfl (by simp [AV.erase, AV.unview, addP, hs, pairsD, Pair.row]; done)) | exact hR _ _ (Fin_normal _ rfl rfl (by simp [AV.erase, AV.unview, addP, hs, pairsD, Pair.row]; done)) | fail "no end")
end
end Go.AE

/- Sets of pairs: the reference's Make, Missing; Less, Sorted, find, Has. -/
set_option linter.unusedVariables false
namespace Go.AE
open Go
def missA (a b : List Pair) : AV := .tup [((missP a b).getD ⟨0, 0⟩).av, AB (missP a b).isSome]
theorem missP_at {a b : List Pair} {k : Nat} (h : k < a.length) (h1 : ∀ q ∈ a.take k, q ∈ b) (h2 : a[k] ∉ b) : missP a b = some a[k] := by
  unfold missP
  have e : a = a.take k ++ a[k] :: a.drop (k + 1) := by rw [List.getElem_cons_drop, List.take_append_drop]
  have e1 : (a.take k).find? (fun q => !decide (q ∈ b)) = none := by
    rw [List.find?_eq_none]; intro q hq; simp [h1 q hq]
  have e2 : (a[k] :: a.drop (k + 1)).find? (fun q => !decide (q ∈ b)) = some a[k] := by
    rw [List.find?_cons_of_pos (by simp [h2])]
  have e3 := congrArg (List.find? fun q => !decide (q ∈ b)) e
  rw [List.find?_append, e1, e2] at e3
  exact e3
theorem missP_none {a b : List Pair} (h1 : ∀ q ∈ a, q ∈ b) : missP a b = none := by
  unfold missP; rw [List.find?_eq_none]; intro q hq; simp [h1 q hq]
theorem missP_sub {a b : List Pair} : (missP a b).isSome = false ↔ ∀ q ∈ a, q ∈ b := by
  unfold missP
  rw [← Bool.not_eq_true, List.find?_isSome]
  simp
section
theorem ref11_Make_calls {P : Program} {p : Nums} (A : All P p) (l : List Pair) (h0 : l.length < 1000000) : CallsTo P p.ref11_Make [.d (pairsD l)] [] fun o _ => o = .ret (.d (pairsD (makeP l))) := by
  refine A.ref11_Make.run rfl fun R hR => ?_
  (simp (config := { maxSteps := 1000000 }) [ic_ref11_Make, pairsD])
  refine AW_loop (fun k : Nat => ⟨[(4, AI k), (3, .d (.sl ((makeP (l.take k)).map Pair.row))), (2, .nils), (0, .d (.sl (l.map Pair.row)))], []⟩) (fun k => k ≤ l.length) (fun k => l.length - k) 0 (by simp) (by simp only [List.take_zero, makeP_nil, List.map_nil]; (refine Wk.of ?_ ?_ (by simp) <;> repeat' (first | exact True.intro | exact ⟨_, rfl, wkt_same rfl⟩ | exact ⟨_, rfl, wkt_erase rfl⟩ | exact ⟨_, rfl, .inl .nild⟩ | exact ⟨_, rfl, wkt_nils⟩ | exact wkt_same rfl | exact wkt_erase rfl | exact .inl .nild | exact wkt_nils | exact WkB.same rfl | exact WkB_rows | exact WkB_nil | exact .dead _ | refine WkB_cons ?_ ?_ | refine And.intro ?_ ?_))) ?_
  intro k hk N hN
  (simp (config := { maxSteps := 1000000 }) [])
  ((first | refine AW_cond_split _ (by rfl) (fun h2 => ?_) (fun h2 => ?_) | refine AWop_split _ (by rfl) (fun h2 => ?_) (fun h2 => ?_)) <;> (try simp only [decide_eq_true_eq, decide_eq_false_iff_not, Bool.not_eq_true', Bool.not_eq_false', Bool.and_eq_true, Bool.or_eq_true, beq_iff_eq, bne_iff_ne, ne_eq, beq_eq_false_iff_ne, bne_eq_false_iff_eq] at h2))
  · have hkl : k < l.length := by simpa using h2
    have hb : l[k]? = some l[k] := by simp
    have hw := wrap_succ (k := k) (by omega)
    have hml := makeP_len (l.take k)
    (simp (config := { maxSteps := 1000000 }) [h2, hb, Pair.row])
    (refine AWcall_det (ref11_Add_calls A (makeP (l.take k)) l[k] (by simp at hml; omega)) (by rfl) (by rfl) ?_)
    rw [← makeP_succ hkl]
    (simp (config := { maxSteps := 1000000 }) [hw, pairsD])
    exact hN _ (k + 1) hkl (by (refine Wk.of ?_ ?_ (by simp) <;> repeat' (first | exact True.intro | exact ⟨_, rfl, wkt_same rfl⟩ | exact ⟨_, rfl, wkt_erase rfl⟩ | exact ⟨_, rfl, .inl .nild⟩ | exact ⟨_, rfl, wkt_nils⟩ | exact wkt_same rfl | exact wkt_erase rfl | exact .inl .nild | exact wkt_nils | exact WkB.same rfl | exact WkB_rows | exact WkB_nil | exact .dead _ | refine WkB_cons ?_ ?_ | refine And.intro ?_ ?_))) (by omega)
  · have hk' : k = l.length := by simp at h2; omega
    subst hk'
    (simp (config := { maxSteps := 1000000 }) [])
    (first | exact hR _ _ (Fin_ret _ rfl rfl rfl) | exact hR _ _ (Fin_normal _ rfl rfl rfl) | exact hR _ _ (Fin_ret _ rfl rfl (by simp [AV.erase, AV.unview, List.take_length, pairsD]; done)) | exact hR _ _ (Fin_normal _ rfl rfl (by simp [AV.erase, AV.unview, List.take_length, pairsD]; done)) | fail "no end")
theorem ref11_Missing_calls {P : Program} {p : Nums} (A : All P p) (a b : List Pair) (h0 : a.length < 1000000) (h1 : b.length < 1000000) : CallsTo P p.ref11_Missing [.d (pairsD a), .d (pairsD b)] [] fun o _ => o = .ret (missA a b) := by
  refine A.ref11_Missing.run rfl fun R hR => ?_
  (simp (config := { maxSteps := 1000000 }) [ic_ref11_Missing, pairsD])
  refine AW_loop (fun k : Nat => ⟨[(6, AI k), (5, AB false), (4, .ptr 0 0), (1, .d (.sl (b.map Pair.row))), (0, .d (.sl (a.map Pair.row)))], [.mem [AI 0, AI 0]]⟩) (fun k => k ≤ a.length ∧ ∀ q ∈ a.take k, q ∈ b) (fun k => a.length - k) 0 (by simp) (by (refine Wk.of ?_ ?_ (by simp) <;> repeat' (first | exact True.intro | exact ⟨_, rfl, wkt_same rfl⟩ | exact ⟨_, rfl, wkt_erase rfl⟩ | exact ⟨_, rfl, .inl .nild⟩ | exact ⟨_, rfl, wkt_nils⟩ | exact wkt_same rfl | exact wkt_erase rfl | exact .inl .nild | exact wkt_nils | exact WkB.same rfl | exact WkB_rows | exact WkB_nil | exact .dead _ | refine WkB_cons ?_ ?_ | refine And.intro ?_ ?_))) ?_
  rintro k ⟨hk, hz⟩ N hN
  (simp (config := { maxSteps := 1000000 }) [])
  ((first | refine AW_cond_split _ (by rfl) (fun h2 => ?_) (fun h2 => ?_) | refine AWop_split _ (by rfl) (fun h2 => ?_) (fun h2 => ?_)) <;> (try simp only [decide_eq_true_eq, decide_eq_false_iff_not, Bool.not_eq_true', Bool.not_eq_false', Bool.and_eq_true, Bool.or_eq_true, beq_iff_eq, bne_iff_ne, ne_eq, beq_eq_false_iff_ne, bne_eq_false_iff_eq] at h2))
  · have hkl : k < a.length := by simpa using h2
    have hb : a[k]? = some a[k] := by simp
    have hw := wrap_succ (k := k) (by omega)
    (simp (config := { maxSteps := 1000000 }) [h2, hb, Pair.row])
    (refine AWcall_det (ref11_Has_calls A b a[k] (by omega)) (by rfl) (by rfl) ?_)
    (simp (config := { maxSteps := 1000000 }) [])
    ((first | refine AW_cond_split _ (by rfl) (fun h3 => ?_) (fun h3 => ?_) | refine AWop_split _ (by rfl) (fun h3 => ?_) (fun h3 => ?_)) <;> (try simp only [decide_eq_true_eq, decide_eq_false_iff_not, Bool.not_eq_true', Bool.not_eq_false', Bool.and_eq_true, Bool.or_eq_true, beq_iff_eq, bne_iff_ne, ne_eq, beq_eq_false_iff_ne, bne_eq_false_iff_eq] at h3))
    · (simp (config := { maxSteps := 1000000 }) [h3, hb, Pair.row])
      have := missP_at hkl hz (by simpa using h3)
      (first | exact hR _ _ (Fin_ret _ rfl rfl rfl) | exact hR _ _ (Fin_normal _ rfl rfl rfl) | exact hR _ _ (Fin_ret _ rfl rfl (by simp [AV.erase, AV.unview, missA, this, Pair.av]; done)) | exact hR _ _ (Fin_normal _ rfl rfl (by simp [AV.erase, AV.unview, missA, this, Pair.av]; done)) | fail "no end")
    · (simp (config := { maxSteps := 1000000 }) [h3, hw])
      refine hN _ (k + 1) ⟨hkl, ?_⟩ (by (refine Wk.of ?_ ?_ (by simp) <;> repeat' (first | exact True.intro | exact ⟨_, rfl, wkt_same rfl⟩ | exact ⟨_, rfl, wkt_erase rfl⟩ | exact ⟨_, rfl, .inl .nild⟩ | exact ⟨_, rfl, wkt_nils⟩ | exact wkt_same rfl | exact wkt_erase rfl | exact .inl .nild | exact wkt_nils | exact WkB.same rfl | exact WkB_rows | exact WkB_nil | exact .dead _ | refine WkB_cons ?_ ?_ | refine And.intro ?_ ?_))) (by omega)
      intro q hq
      rw [List.take_add_one, hb] at hq
      rcases List.mem_append.1 hq with hq | hq
      · exact hz q hq
      · simp at hq; subst hq; simpa using h3
  · have hk' : k = a.length := by simp at h2; omega
    subst hk'
    have := missP_none (a := a) (b := b) (by simpa using hz)
    (simp (config := { maxSteps := 1000000 }) [])
    (first | exact hR _ _ (Fin_ret _ rfl rfl rfl) | exact hR _ _ (Fin_normal _ rfl rfl rfl) | exact hR _ _ (Fin_ret _ rfl rfl (by simp [AV.erase, AV.unview, missA, this, Pair.av]; done)) | exact hR _ _ (Fin_normal _ rfl rfl (by simp [AV.erase, AV.unview, missA, this, Pair.av]; done)) | fail "no end")
theorem pairset_Less_calls {P : Program} {p : Nums} (A : All P p) (a b : Pair) : CallsTo P p.pairset_Less [a.av, b.av] [] fun o _ => o = .ret (AB (lessP a b)) := by
  refine A.pairset_Less.run rfl fun R hR => ?_
  (simp (config := { maxSteps := 1000000 }) [ic_pairset_Less, Pair.av])
  ((first | refine AW_cond_split _ (by rfl) (fun h => ?_) (fun h => ?_) | refine AWop_split _ (by rfl) (fun h => ?_) (fun h => ?_)) <;> (try simp only [decide_eq_true_eq, decide_eq_false_iff_not, Bool.not_eq_true', Bool.not_eq_false', Bool.and_eq_true, Bool.or_eq_true, beq_iff_eq, bne_iff_ne, ne_eq, beq_eq_false_iff_ne, bne_eq_false_iff_eq] at h))
  · (simp (config := { maxSteps := 1000000 }) [h])
    have e : lessP a b = true := by rw [lessP_iff]; omega
    (first | exact hR _ _ (Fin_ret _ rfl rfl rfl) | exact hR _ _ (Fin_normal _ rfl rfl rfl) | exact hR _ _ (Fin_ret _ rfl rfl (by simp [AV.erase, AV.unview, e]; done)) | exact hR _ _ (Fin_normal _ rfl rfl (by simp [AV.erase, AV.unview, e]; done)) | fail "no end")
  (simp (config := { maxSteps := 1000000 }) [h])
  ((first | refine AW_cond_split _ (by rfl) (fun h1 => ?_) (fun h1 => ?_) | refine AWop_split _ (by rfl) (fun h1 => ?_) (fun h1 => ?_)) <;> (try simp only [decide_eq_true_eq, decide_eq_false_iff_not, Bool.not_eq_true', Bool.not_eq_false', Bool.and_eq_true, Bool.or_eq_true, beq_iff_eq, bne_iff_ne, ne_eq, beq_eq_false_iff_ne, bne_eq_false_iff_eq] at h1))
  · (simp (config := { maxSteps := 1000000 }) [h1])
    (first | exact hR _ _ (Fin_ret _ rfl rfl rfl) | exact hR _ _ (Fin_normal _ rfl rfl rfl) | exact hR _ _ (Fin_ret _ rfl rfl (by simp [AV.erase, AV.unview, lessP, h1]; done)) | exact hR _ _ (Fin_normal _ rfl rfl (by simp [AV.erase, AV.unview, lessP, h1]; done)) | fail "no end")
  · (simp (config := { maxSteps := 1000000 }) [h1])
    have e : lessP a b = false := by
      cases e : lessP a b with
      | false => rfl
      | true => rw [lessP_iff] at e; omega
    (first | exact hR _ _ (Fin_ret _ rfl rfl rfl) | exact hR _ _ (Fin_normal _ rfl rfl rfl) | exact hR _ _ (Fin_ret _ rfl rfl (by simp [AV.erase, AV.unview, e]; done)) | exact hR _ _ (Fin_normal _ rfl rfl (by simp [AV.erase, AV.unview, e]; done)) | fail "no end")
theorem pairset_Sorted_calls {P : Program} {p : Nums} (A : All P p) (l : List Pair) (h0 : l.length < 1000000000) : CallsTo P p.pairset_Sorted [.d (pairsD l)] [] fun o _ => o = .ret (AB (sortedP l)) := by
  refine A.pairset_Sorted.run rfl fun R hR => ?_
  (simp (config := { maxSteps := 1000000 }) [ic_pairset_Sorted, pairsD])
  refine AW_loop (fun k : Nat => ⟨[(3, AI ((k + 1 : Nat) : Int)), (2, AB false), (0, .d (.sl (l.map Pair.row)))], []⟩) (fun k => k ≤ l.length ∧ ∀ j, j < k → (h : j + 1 < l.length) → lessP (l[j]) (l[j+1]) = true) (fun k => l.length - k) 0 (by simp) (by (refine Wk.of ?_ ?_ (by simp) <;> repeat' (first | exact True.intro | exact ⟨_, rfl, wkt_same rfl⟩ | exact ⟨_, rfl, wkt_erase rfl⟩ | exact ⟨_, rfl, .inl .nild⟩ | exact ⟨_, rfl, wkt_nils⟩ | exact wkt_same rfl | exact wkt_erase rfl | exact .inl .nild | exact wkt_nils | exact WkB.same rfl | exact WkB_rows | exact WkB_nil | exact .dead _ | refine WkB_cons ?_ ?_ | refine And.intro ?_ ?_))) ?_
  rintro k ⟨hk, hz⟩ N hN
  have hw := wrap_succ (k := k + 1) (by omega)
  have hw2 : IntKind.i64.wrap (((k + 1 : Nat) : Int) - 1) = (k : Int) := by rw [wrap_i64 (by omega) (by omega)]; omega
  have hw3 : IntKind.i64.wrap ((k : Int) + 1 + 1) = (k : Int) + 1 + 1 := by rw [wrap_i64 (by omega) (by omega)]
  obtain ⟨k1, hk1⟩ : ∃ k1, k1 = k + 1 := ⟨_, rfl⟩
  simp only [← hk1] at hw hw2 hN ⊢
  (simp (config := { maxSteps := 1000000 }) [])
  ((first | refine AW_cond_split _ (by rfl) (fun h2 => ?_) (fun h2 => ?_) | refine AWop_split _ (by rfl) (fun h2 => ?_) (fun h2 => ?_)) <;> (try simp only [decide_eq_true_eq, decide_eq_false_iff_not, Bool.not_eq_true', Bool.not_eq_false', Bool.and_eq_true, Bool.or_eq_true, beq_iff_eq, bne_iff_ne, ne_eq, beq_eq_false_iff_ne, bne_eq_false_iff_eq] at h2))
  · have hkl : k + 1 < l.length := by omega
    have hb : l[k]? = some l[k] := by simp
    have hb2 : l[k1]? = some l[k1] := by simp
    (simp (config := { maxSteps := 1000000 }) [h2, hb, hb2, Pair.row, hw2])
    (refine AWcall_det (pairset_Less_calls A l[k] l[k1]) (by rfl) (by rfl) ?_)
    (simp (config := { maxSteps := 1000000 }) [])
    subst hk1
    ((first | refine AW_cond_split _ (by rfl) (fun h3 => ?_) (fun h3 => ?_) | refine AWop_split _ (by rfl) (fun h3 => ?_) (fun h3 => ?_)) <;> (try simp only [decide_eq_true_eq, decide_eq_false_iff_not, Bool.not_eq_true', Bool.not_eq_false', Bool.and_eq_true, Bool.or_eq_true, beq_iff_eq, bne_iff_ne, ne_eq, beq_eq_false_iff_ne, bne_eq_false_iff_eq] at h3))
    · (simp (config := { maxSteps := 1000000 }) [h3])
      have : sortedP l = false := by
        cases hs : sortedP l with
        | false => rfl
        | true => rw [sortedP_iff.1 hs k hkl] at h3; cases h3
      (first | exact hR _ _ (Fin_ret _ rfl rfl rfl) | exact hR _ _ (Fin_normal _ rfl rfl rfl) | exact hR _ _ (Fin_ret _ rfl rfl (by simp [AV.erase, AV.unview, this]; done)) | exact hR _ _ (Fin_normal _ rfl rfl (by simp [AV.erase, AV.unview, this]; done)) | fail "no end")
    · (simp (config := { maxSteps := 1000000 }) [h3, hw3])
      refine hN _ (k + 1) ⟨by omega, ?_⟩ (by (refine Wk.of ?_ ?_ (by simp) <;> repeat' (first | exact True.intro | exact ⟨_, rfl, wkt_same rfl⟩ | exact ⟨_, rfl, wkt_erase rfl⟩ | exact ⟨_, rfl, .inl .nild⟩ | exact ⟨_, rfl, wkt_nils⟩ | exact wkt_same rfl | exact wkt_erase rfl | exact .inl .nild | exact wkt_nils | exact WkB.same rfl | exact WkB_rows | exact WkB_nil | exact .dead _ | refine WkB_cons ?_ ?_ | refine And.intro ?_ ?_))) (by omega)
      intro j hj h
      by_cases hjk : j = k
      · subst hjk; simpa using h3
      · exact hz j (by omega) h
  · (simp (config := { maxSteps := 1000000 }) [h2])
    have : sortedP l = true := by
      rw [sortedP_iff]
      intro j h; exact hz j (by omega) h
    (first | exact hR _ _ (Fin_ret _ rfl rfl rfl) | exact hR _ _ (Fin_normal _ rfl rfl rfl) | exact hR _ _ (Fin_ret _ rfl rfl (by simp [AV.erase, AV.unview, this]; done)) | exact hR _ _ (Fin_normal _ rfl rfl (by simp [AV.erase, AV.unview, this]; done)) | fail "no end")
end
end Go.AE

/- Sets of pairs: find, Has, Add, compare. -/
set_option linter.unusedVariables false
namespace Go.AE
open Go
theorem takeWhile_take {α : Type} (f : α → Bool) (l : List α) : l.takeWhile f = l.take (l.takeWhile f).length := by
  have e := List.takeWhile_append_dropWhile (p := f) (l := l)
  have := congrArg (List.take (l.takeWhile f).length) e
  rw [List.take_left'] at this
  · exact this
  · rfl
theorem dropWhile_drop {α : Type} (f : α → Bool) (l : List α) : l.dropWhile f = l.drop (l.takeWhile f).length := by
  have e := List.takeWhile_append_dropWhile (p := f) (l := l)
  have := congrArg (List.drop (l.takeWhile f).length) e
  rw [List.drop_left'] at this
  · exact this
  · rfl
theorem takeWhile_len {α : Type} (f : α → Bool) (l : List α) (i : Nat) (hi : i ≤ l.length) (h1 : ∀ j, j < i → (h : j < l.length) → f l[j] = true) (h2 : (h : i < l.length) → f l[i] = false) : (l.takeWhile f).length = i := by
  induction l generalizing i with
  | nil => simp at hi; simp [hi]
  | cons x l ih =>
    cases i with
    | zero => have := h2 (by simp); simp at this; simp [List.takeWhile_cons, this]
    | succ i =>
      have h0 := h1 0 (by omega) (by simp)
      simp at h0
      rw [List.takeWhile_cons, h0, if_pos rfl, List.length_cons]
      have := ih i (by simpa using hi) (fun j hj h => by have := h1 (j + 1) (by omega) (by simpa using h); simpa using this) (fun h => by have := h2 (by simpa using h); simpa using this)
      rw [this]
theorem posP_le (l : List Pair) (p : Pair) : posP l p ≤ l.length := (List.takeWhile_sublist _).length_le
theorem posP_lt {l : List Pair} {p : Pair} {j : Nat} (h : j < posP l p) (hl : j < l.length) : lessP l[j] p = true := by
  have h1 : (l.takeWhile fun q => lessP q p)[j]? = some l[j] := by
    rw [takeWhile_take, List.getElem?_take]; simp only [posP] at h; simp [h]
  exact take_lt _ (List.mem_of_getElem? h1)
theorem posP_ge {l : List Pair} {p : Pair} (hs : Srt l) {j : Nat} (h : posP l p ≤ j) (hl : j < l.length) : lessP l[j] p = false := by
  refine drop_ge hs _ ?_
  rw [dropWhile_drop]
  have : (l.drop (posP l p))[j - posP l p]? = some l[j] := by rw [List.getElem?_drop]; simp [Nat.add_sub_cancel' h]
  exact List.mem_of_getElem? this
theorem mem_pos {l : List Pair} {p : Pair} (hs : Srt l) : p ∈ l ↔ l[posP l p]? = some p := by
  constructor
  · intro h
    obtain ⟨j, hj, e⟩ := List.getElem_of_mem h
    have h1 : posP l p ≤ j := by
      rcases Nat.lt_or_ge j (posP l p) with h2 | h2
      · have := posP_lt h2 hj; rw [e, lessP_irrefl] at this; cases this
      · exact h2
    have h2 : j ≤ posP l p := by
      rcases Nat.lt_or_ge (posP l p) j with h2 | h2
      · have h3 := srt_get hs h2 hj
        rw [e, posP_ge hs (Nat.le_refl _) (by omega)] at h3; cases h3
      · exact h2
    have : posP l p = j := by omega
    rw [this, List.getElem?_eq_getElem hj, e]
  · exact List.mem_of_getElem?
theorem filter_ne {l : List Pair} {p : Pair} (h : p ∉ l) : l.filter (fun q => decide (q ≠ p)) = l := by
  rw [List.filter_eq_self]; intro a ha; simp; rintro rfl; exact h ha
theorem addP_take {l : List Pair} {p : Pair} (hs : Srt l) : addP l p = l.take (posP l p) ++ p :: l.drop (if p ∈ l then posP l p + 1 else posP l p) := by
  rw [addP_ins, insP, takeWhile_take, dropWhile_drop]
  show l.take (posP l p) ++ p :: (l.drop (posP l p)).filter _ = _
  congr 2
  split
  · rename_i h
    have hp := (mem_pos hs).1 h
    have hlt := (List.getElem?_eq_some_iff.1 hp).1
    have he := (List.getElem?_eq_some_iff.1 hp).2
    have hs' : Srt (l.drop (posP l p)) := srt_sub (List.drop_sublist _ _) hs
    rw [List.drop_eq_getElem_cons hlt, he] at hs' ⊢
    rw [List.filter_cons_of_neg (by simp)]
    refine filter_ne fun hm => ?_
    have := (srt_cons.1 hs').1 p hm
    rw [lessP_irrefl] at this; cases this
  · rename_i h
    exact filter_ne fun hm => h (List.drop_subset _ _ hm)
section
theorem pairset_find_calls {P : Program} {p : Nums} (A : All P p) (l : List Pair) (q : Pair) (h0 : l.length < 1000000000) (hs : Srt l) : CallsTo P p.pairset_find [.d (pairsD l), q.av] [] fun o _ => o = .ret (AI (posP l q)) := by
  refine A.pairset_find.run rfl fun R hR => ?_
  (simp (config := { maxSteps := 1000000 }) [ic_pairset_find, pairsD, Pair.av])
  refine AW_loop (fun k : Nat × Nat => ⟨[(5, AI k.1), (6, AI k.2), (4, AI 0), (3, .ptr 0 0), (0, .d (.sl (l.map Pair.row)))], [.mem [AI q.v, AI q.l]]⟩)
    (fun k => k.1 ≤ k.2 ∧ k.2 ≤ l.length ∧ (∀ j, j < k.1 → (h : j < l.length) → lessP l[j] q = true) ∧ ∀ j, k.2 ≤ j → (h : j < l.length) → lessP l[j] q = false) (fun k => k.2 - k.1) (0, l.length) (by simp; intro j h1 h2; omega) (by (refine Wk.of ?_ ?_ (by simp) <;> repeat' (first | exact True.intro | exact ⟨_, rfl, wkt_same rfl⟩ | exact ⟨_, rfl, wkt_erase rfl⟩ | exact ⟨_, rfl, .inl .nild⟩ | exact ⟨_, rfl, wkt_nils⟩ | exact wkt_same rfl | exact wkt_erase rfl | exact .inl .nild | exact wkt_nils | exact WkB.same rfl | exact WkB_rows | exact WkB_nil | exact .dead _ | refine WkB_cons ?_ ?_ | refine And.intro ?_ ?_))) ?_
  rintro ⟨a, b⟩ ⟨hab, hb, hlo, hhi⟩ N hN
  simp only at hab hb hlo hhi hN ⊢
  (simp (config := { maxSteps := 1000000 }) [])
  ((first | refine AW_cond_split _ (by rfl) (fun h2 => ?_) (fun h2 => ?_) | refine AWop_split _ (by rfl) (fun h2 => ?_) (fun h2 => ?_)) <;> (try simp only [decide_eq_true_eq, decide_eq_false_iff_not, Bool.not_eq_true', Bool.not_eq_false', Bool.and_eq_true, Bool.or_eq_true, beq_iff_eq, bne_iff_ne, ne_eq, beq_eq_false_iff_ne, bne_eq_false_iff_eq] at h2))
  · have hm : a + (b - a) / 2 < l.length := by omega
    have hma : a ≤ a + (b - a) / 2 := by omega
    have hmb : a + (b - a) / 2 < b := by omega
    have hw1 : IntKind.i64.wrap ((b : Int) - (a : Int)) = ((b - a : Nat) : Int) := by rw [wrap_i64 (by omega) (by omega)]; omega
    have hw2 : IntKind.i64.wrap (((b - a : Nat) : Int) / 2) = (((b - a) / 2 : Nat) : Int) := by rw [wrap_i64 (by omega) (by omega)]; omega
    have hw3 : IntKind.i64.wrap ((a : Int) + (((b - a) / 2 : Nat) : Int)) = ((a + (b - a) / 2 : Nat) : Int) := by rw [wrap_i64 (by omega) (by omega)]; omega
    obtain ⟨d, hd⟩ : ∃ d, d = b - a := ⟨_, rfl⟩
    obtain ⟨d2, hd2⟩ : ∃ d2, d2 = d / 2 := ⟨_, rfl⟩
    obtain ⟨m, hmm⟩ : ∃ m, m = a + d2 := ⟨_, rfl⟩
    have hw := wrap_succ (k := m) (by omega)
    simp only [← hd, ← hd2, ← hmm] at hm hma hmb hw1 hw2 hw3
    have hbm : l[m]? = some l[m] := by simp
    (simp (config := { maxSteps := 1000000 }) [h2, hw1])
    (simp (config := { maxSteps := 1000000 }) [hw2])
    (simp (config := { maxSteps := 1000000 }) [hw3, hbm, Pair.row])
    (refine AWcall_det (pairset_Less_calls A l[m] q) (by rfl) (by rfl) ?_)
    (simp (config := { maxSteps := 1000000 }) [])
    ((first | refine AW_cond_split _ (by rfl) (fun h3 => ?_) (fun h3 => ?_) | refine AWop_split _ (by rfl) (fun h3 => ?_) (fun h3 => ?_)) <;> (try simp only [decide_eq_true_eq, decide_eq_false_iff_not, Bool.not_eq_true', Bool.not_eq_false', Bool.and_eq_true, Bool.or_eq_true, beq_iff_eq, bne_iff_ne, ne_eq, beq_eq_false_iff_ne, bne_eq_false_iff_eq] at h3))
    · (simp (config := { maxSteps := 1000000 }) [h3, hw])
      refine hN _ (m + 1, b) ⟨by simp only; omega, hb, ?_, hhi⟩ (by (refine Wk.of ?_ ?_ (by simp) <;> repeat' (first | exact True.intro | exact ⟨_, rfl, wkt_same rfl⟩ | exact ⟨_, rfl, wkt_erase rfl⟩ | exact ⟨_, rfl, .inl .nild⟩ | exact ⟨_, rfl, wkt_nils⟩ | exact wkt_same rfl | exact wkt_erase rfl | exact .inl .nild | exact wkt_nils | exact WkB.same rfl | exact WkB_rows | exact WkB_nil | exact .dead _ | refine WkB_cons ?_ ?_ | refine And.intro ?_ ?_))) (by simp only; omega)
      intro j hj h
      simp only at hj
      by_cases e : j = m
      · subst e; exact h3
      · exact lessP_trans (srt_get hs (by omega : j < m) hm) h3
    · (simp (config := { maxSteps := 1000000 }) [h3])
      refine hN _ (a, m) ⟨by simp only; omega, by simp only; omega, hlo, ?_⟩ (by (refine Wk.of ?_ ?_ (by simp) <;> repeat' (first | exact True.intro | exact ⟨_, rfl, wkt_same rfl⟩ | exact ⟨_, rfl, wkt_erase rfl⟩ | exact ⟨_, rfl, .inl .nild⟩ | exact ⟨_, rfl, wkt_nils⟩ | exact wkt_same rfl | exact wkt_erase rfl | exact .inl .nild | exact wkt_nils | exact WkB.same rfl | exact WkB_rows | exact WkB_nil | exact .dead _ | refine WkB_cons ?_ ?_ | refine And.intro ?_ ?_))) (by simp only; omega)
      intro j hj h
      simp only at hj
      cases e : lessP l[j] q with
      | false => rfl
      | true =>
        by_cases e2 : j = m
        · subst e2; rw [e] at h3; simp at h3
        · rw [lessP_trans (srt_get hs (by omega : m < j) h) e] at h3; simp at h3
  · have e : a = b := by omega
    subst e
    have : posP l q = a := takeWhile_len _ l a hb hlo fun h => hhi a (by omega) h
    (simp (config := { maxSteps := 1000000 }) [])
    (first | exact hR _ _ (Fin_ret _ rfl rfl rfl) | exact hR _ _ (Fin_normal _ rfl rfl rfl) | exact hR _ _ (Fin_ret _ rfl rfl (by simp [AV.erase, AV.unview, this]; done)) | exact hR _ _ (Fin_normal _ rfl rfl (by simp [AV.erase, AV.unview, this]; done)) | fail "no end")
theorem pairset_Has_calls {P : Program} {p : Nums} (A : All P p) (l : List Pair) (q : Pair) (h0 : l.length < 1000000000) (hs : Srt l) : CallsTo P p.pairset_Has [.d (pairsD l), q.av] [] fun o _ => o = .ret (AB (decide (q ∈ l))) := by
  refine A.pairset_Has.run rfl fun R hR => ?_
  (simp (config := { maxSteps := 1000000 }) [ic_pairset_Has, pairsD, Pair.av])
  (refine AWcall_det (pairset_find_calls A l q h0 hs) (by rfl) (by rfl) ?_)
  (simp (config := { maxSteps := 1000000 }) [])
  have hp := mem_pos (p := q) hs
  have hle := posP_le l q
  obtain ⟨i, hi⟩ : ∃ i, i = posP l q := ⟨_, rfl⟩
  rw [← hi] at hp hle ⊢
  ((first | refine AW_cond_split _ (by rfl) (fun h1 => ?_) (fun h1 => ?_) | refine AWop_split _ (by rfl) (fun h1 => ?_) (fun h1 => ?_)) <;> (try simp only [decide_eq_true_eq, decide_eq_false_iff_not, Bool.not_eq_true', Bool.not_eq_false', Bool.and_eq_true, Bool.or_eq_true, beq_iff_eq, bne_iff_ne, ne_eq, beq_eq_false_iff_ne, bne_eq_false_iff_eq] at h1))
  · have hil : i < l.length := by omega
    have hb : l[i]? = some l[i] := by simp
    rw [hb] at hp
    (simp (config := { maxSteps := 1000000 }) [h1, hb, Pair.row])
    have e : (l[i].v == q.v && l[i].l == q.l) = decide (q ∈ l) := by
      rw [pair_beq]; simp only [Option.some.injEq] at hp; simp [hp]
    (first | exact hR _ _ (Fin_ret _ rfl rfl rfl) | exact hR _ _ (Fin_normal _ rfl rfl rfl) | exact hR _ _ (Fin_ret _ rfl rfl (by simp [AV.erase, AV.unview, e, Pair.row]; done)) | exact hR _ _ (Fin_normal _ rfl rfl (by simp [AV.erase, AV.unview, e, Pair.row]; done)) | fail "no end")
  · (simp (config := { maxSteps := 1000000 }) [h1])
    have hb : l[i]? = none := by simp; omega
    rw [hb] at hp
    have e : q ∉ l := by simpa using hp
    (first | exact hR _ _ (Fin_ret _ rfl rfl rfl) | exact hR _ _ (Fin_normal _ rfl rfl rfl) | exact hR _ _ (Fin_ret _ rfl rfl (by simp [AV.erase, AV.unview, e]; done)) | exact hR _ _ (Fin_normal _ rfl rfl (by simp [AV.erase, AV.unview, e]; done)) | fail "no end")
theorem pairset_compare_calls {P : Program} {p : Nums} (A : All P p) (a b : Pair) : CallsTo P p.pairset_compare [a.av, b.av] [] fun o _ => o = .ret (AI (if lessP a b = true then -1 else if lessP b a = true then 1 else 0)) := by
  refine A.pairset_compare.run rfl fun R hR => ?_
  (simp (config := { maxSteps := 1000000 }) [ic_pairset_compare, Pair.av])
  (refine AWcall_det (pairset_Less_calls A a b) (by rfl) (by rfl) ?_)
  (simp (config := { maxSteps := 1000000 }) [])
  ((first | refine AW_cond_split _ (by rfl) (fun h => ?_) (fun h => ?_) | refine AWop_split _ (by rfl) (fun h => ?_) (fun h => ?_)) <;> (try simp only [decide_eq_true_eq, decide_eq_false_iff_not, Bool.not_eq_true', Bool.not_eq_false', Bool.and_eq_true, Bool.or_eq_true, beq_iff_eq, bne_iff_ne, ne_eq, beq_eq_false_iff_ne, bne_eq_false_iff_eq] at h))
  · (simp (config := { maxSteps := 1000000 }) [h])
    (first | exact hR _ _ (Fin_ret _ rfl rfl rfl) | exact hR _ _ (Fin_normal _ rfl rfl rfl) | exact hR _ _ (Fin_ret _ rfl rfl (by simp [AV.erase, AV.unview, h]; done)) | exact hR _ _ (Fin_normal _ rfl rfl (by simp [AV.erase, AV.unview, h]; done)) | fail "no end")
  (simp (config := { maxSteps := 1000000 }) [h])
  (refine AWcall_det (pairset_Less_calls A b a) (by rfl) (by rfl) ?_)
  (simp (config := { maxSteps := 1000000 }) [])
  ((first | refine AW_cond_split _ (by rfl) (fun h2 => ?_) (fun h2 => ?_) | refine AWop_split _ (by rfl) (fun h2 => ?_) (fun h2 => ?_)) <;> (try simp only [decide_eq_true_eq, decide_eq_false_iff_not, Bool.not_eq_true', Bool.not_eq_false', Bool.and_eq_true, Bool.or_eq_true, beq_iff_eq, bne_iff_ne, ne_eq, beq_eq_false_iff_ne, bne_eq_false_iff_eq] at h2))
  · (simp (config := { maxSteps := 1000000 }) [h2])
    (first | exact hR _ _ (Fin_ret _ rfl rfl rfl) | exact hR _ _ (Fin_normal _ rfl rfl rfl) | exact hR _ _ (Fin_ret _ rfl rfl (by simp [AV.erase, AV.unview, h, h2]; done)) | exact hR _ _ (Fin_normal _ rfl rfl (by simp [AV.erase, AV.unview, h, h2]; done)) | fail "no end")
  · (simp (config := { maxSteps := 1000000 }) [h2])
    (first | exact hR _ _ (Fin_ret _ rfl rfl rfl) | exact hR _ _ (Fin_normal _ rfl rfl rfl) | exact hR _ _ (Fin_ret _ rfl rfl (by simp [AV.erase, AV.unview, h, h2]; done)) | exact hR _ _ (Fin_normal _ rfl rfl (by simp [AV.erase, AV.unview, h, h2]; done)) | fail "no end")
end
end Go.AE

/- Sets of pairs: Add. -/
set_option linter.unusedVariables false
namespace Go.AE
open Go
section
theorem pairset_Add_calls {P : Program} {p : Nums} (A : All P p) (l : List Pair) (q : Pair) (h0 : l.length < 1000000) (hs : Srt l) : CallsTo P p.pairset_Add [.d (pairsD l), q.av] [] fun o _ => o = .ret (.d (pairsD (addP l q))) := by
  refine A.pairset_Add.run rfl fun R hR => ?_
  (simp (config := { maxSteps := 1000000 }) [ic_pairset_Add, pairsD, Pair.av])
  (refine AWcall_det (pairset_find_calls A l q (by omega) hs) (by rfl) (by rfl) ?_)
  have hw := wrap_succ (k := l.length) (by omega)
  have hp := mem_pos (p := q) hs
  have hle := posP_le l q
  have hadd := addP_take (p := q) hs
  obtain ⟨i, hi⟩ : ∃ i, i = posP l q := ⟨_, rfl⟩
  rw [← hi] at hp hle hadd ⊢
  (simp (config := { maxSteps := 1000000 }) [hw])
  refine AWio_mks0 (n := l.length + 1) (by rfl) (by rfl) (by omega) (by omega) (by decide) (by rfl) ?_
  (simp (config := { maxSteps := 1000000 }) [hle, Pair.row])
  have hrow : ∀ m : List (List D), (∀ r ∈ m, r ∈ l.map Pair.row) → ∀ r ∈ m, r.length = 2 := fun m hm r hr => rows_len (f := Pair.row) (fun _ => rfl) r (hm r hr)
  refine ⟨hrow _ fun r hr => List.take_subset _ _ hr, by omega, by omega, ?_⟩
  (refine AWio_app_own (by rfl) (by rfl) (by rfl) ?_ (by decide) ?_ ?_ ?_)
  · simp
  · simp; omega
  · simp; omega
  (simp (config := { maxSteps := 1000000 }) [])
  have hln : (l.map Pair.row).length = l.length := by simp
  have fin : ∀ j, addP l q = l.take i ++ q :: l.drop j → (List.take i (l.map Pair.row) ++ [[D.int IntKind.i64 q.v, D.int IntKind.i64 q.l]]) ++ List.drop j (List.take l.length (l.map Pair.row)) = (addP l q).map Pair.row := by
    intro j hj
    rw [hj, List.take_of_length_le (i := l.length) (l := l.map Pair.row) (by simp)]
    simp [Pair.row]
  ((first | refine AW_cond_split _ (by rfl) (fun h1 => ?_) (fun h1 => ?_) | refine AWop_split _ (by rfl) (fun h1 => ?_) (fun h1 => ?_)) <;> (try simp only [decide_eq_true_eq, decide_eq_false_iff_not, Bool.not_eq_true', Bool.not_eq_false', Bool.and_eq_true, Bool.or_eq_true, beq_iff_eq, bne_iff_ne, ne_eq, beq_eq_false_iff_ne, bne_eq_false_iff_eq] at h1))
  · have hil : i < l.length := by omega
    have hb : l[i]? = some l[i] := by simp
    rw [hb, Option.some.injEq] at hp
    (simp (config := { maxSteps := 1000000 }) [h1, hb, Pair.row])
    ((first | refine AW_cond_split _ (by rfl) (fun h2 => ?_) (fun h2 => ?_) | refine AWop_split _ (by rfl) (fun h2 => ?_) (fun h2 => ?_)) <;> (try simp only [decide_eq_true_eq, decide_eq_false_iff_not, Bool.not_eq_true', Bool.not_eq_false', Bool.and_eq_true, Bool.or_eq_true, beq_iff_eq, bne_iff_ne, ne_eq, beq_eq_false_iff_ne, bne_eq_false_iff_eq] at h2))
    · have e : l[i] = q := eq_pair h2.1 h2.2
      have hm := hp.2 e
      rw [if_pos hm] at hadd
      have hw2 := wrap_succ (k := i) (by omega)
      obtain ⟨i1, hi1⟩ : ∃ i1, i1 = i + 1 := ⟨_, rfl⟩
      rw [← hi1] at hw2 hadd
      have hle1 : i1 ≤ l.length := by omega
      (simp (config := { maxSteps := 1000000 }) [hw2, h2])
      (simp (config := { maxSteps := 1000000 }) [hle1, Pair.row])
      (refine AWio_app_own (by rfl) (by rfl) (by rfl) ?_ (by decide) ?_ ?_ ?_)
      · exact hrow _ fun r hr => List.take_subset _ _ (List.drop_subset _ _ hr)
      · simp; omega
      · simp; omega
      rw [fin i1 hadd]
      (simp (config := { maxSteps := 1000000 }) [])
      (first | exact hR _ _ (Fin_ret _ rfl rfl rfl) | exact hR _ _ (Fin_normal _ rfl rfl rfl) | exact hR _ _ (Fin_ret _ rfl rfl (by simp [AV.erase, AV.unview, pairsD]; done)) | exact hR _ _ (Fin_normal _ rfl rfl (by simp [AV.erase, AV.unview, pairsD]; done)) | fail "no end")
    · have hm : q ∉ l := by
        intro hm; have := hp.1 hm
        rw [this] at h2; simp at h2
      rw [if_neg hm] at hadd
      (simp (config := { maxSteps := 1000000 }) [h2, hle, Pair.row])
      (refine AWio_app_own (by rfl) (by rfl) (by rfl) ?_ (by decide) ?_ ?_ ?_)
      · exact hrow _ fun r hr => List.take_subset _ _ (List.drop_subset _ _ hr)
      · simp; omega
      · simp; omega
      rw [fin i hadd]
      (simp (config := { maxSteps := 1000000 }) [])
      (first | exact hR _ _ (Fin_ret _ rfl rfl rfl) | exact hR _ _ (Fin_normal _ rfl rfl rfl) | exact hR _ _ (Fin_ret _ rfl rfl (by simp [AV.erase, AV.unview, pairsD]; done)) | exact hR _ _ (Fin_normal _ rfl rfl (by simp [AV.erase, AV.unview, pairsD]; done)) | fail "no end")
  · have hm : q ∉ l := by
      intro hm; have := hp.1 hm
      rw [List.getElem?_eq_none (by omega)] at this; cases this
    rw [if_neg hm] at hadd
    (simp (config := { maxSteps := 1000000 }) [h1, hle, Pair.row])
    (refine AWio_app_own (by rfl) (by rfl) (by rfl) ?_ (by decide) ?_ ?_ ?_)
    · exact hrow _ fun r hr => List.take_subset _ _ (List.drop_subset _ _ hr)
    · simp; omega
    · simp; omega
    rw [fin i hadd]
    (simp (config := { maxSteps := 1000000 }) [])
    (first | exact hR _ _ (Fin_ret _ rfl rfl rfl) | exact hR _ _ (Fin_normal _ rfl rfl rfl) | exact hR _ _ (Fin_ret _ rfl rfl (by simp [AV.erase, AV.unview, pairsD]; done)) | exact hR _ _ (Fin_normal _ rfl rfl (by simp [AV.erase, AV.unview, pairsD]; done)) | fail "no end")
end
end Go.AE

/- Sets of pairs: Missing, Subset. -/
set_option linter.unusedVariables false
namespace Go.AE
open Go
def subP (a b : List Pair) : Bool := decide (∀ q ∈ a, q ∈ b)
theorem missP_subP (a b : List Pair) : (missP a b).isNone = subP a b := by
  have := missP_sub (a := a) (b := b)
  unfold subP
  cases h : missP a b with
  | none => rw [h] at this; rw [decide_eq_true (this.1 rfl)]; rfl
  | some x =>
    have h3 : ¬ ∀ q ∈ a, q ∈ b := fun h2 => by have := this.2 h2; rw [h] at this; cases this
    rw [decide_eq_false h3]; rfl
section
theorem pairset_Missing_calls {P : Program} {p : Nums} (A : All P p) (a b : List Pair) (h0 : a.length < 1000000) (h1 : b.length < 1000000) (ha : Srt a) (hb : Srt b) : CallsTo P p.pairset_Missing [.d (pairsD a), .d (pairsD b)] [] fun o _ => o = .ret (missA a b) := by
  refine A.pairset_Missing.run rfl fun R hR => ?_
  (simp (config := { maxSteps := 1000000 }) [ic_pairset_Missing, pairsD])
  refine AW_loop (fun k : Nat × Nat => ⟨[(11, AI k.1), (10, AI a.length), (9, .d (.sl (a.map Pair.row))), (6, AI k.2), (5, AB false), (4, .ptr 0 0), (1, .d (.sl (b.map Pair.row)))], [.mem [AI 0, AI 0]]⟩)
    (fun k => k.1 ≤ a.length ∧ k.2 ≤ b.length ∧ (∀ q ∈ a.take k.1, q ∈ b) ∧ ∀ j k', j < k.2 → k.1 ≤ k' → (h : j < b.length) → (h' : k' < a.length) → lessP b[j] a[k'] = true) (fun k => a.length - k.1) (0, 0) (by simp) (by (refine Wk.of ?_ ?_ (by simp) <;> repeat' (first | exact True.intro | exact ⟨_, rfl, wkt_same rfl⟩ | exact ⟨_, rfl, wkt_erase rfl⟩ | exact ⟨_, rfl, .inl .nild⟩ | exact ⟨_, rfl, wkt_nils⟩ | exact wkt_same rfl | exact wkt_erase rfl | exact .inl .nild | exact wkt_nils | exact WkB.same rfl | exact WkB_rows | exact WkB_nil | exact .dead _ | refine WkB_cons ?_ ?_ | refine And.intro ?_ ?_))) ?_
  rintro ⟨k, i⟩ ⟨hk, hi, hz, hj⟩ N hN
  simp only at hk hi hz hj hN ⊢
  (simp (config := { maxSteps := 1000000 }) [])
  ((first | refine AW_cond_split _ (by rfl) (fun h2 => ?_) (fun h2 => ?_) | refine AWop_split _ (by rfl) (fun h2 => ?_) (fun h2 => ?_)) <;> (try simp only [decide_eq_true_eq, decide_eq_false_iff_not, Bool.not_eq_true', Bool.not_eq_false', Bool.and_eq_true, Bool.or_eq_true, beq_iff_eq, bne_iff_ne, ne_eq, beq_eq_false_iff_ne, bne_eq_false_iff_eq] at h2))
  · have hkl : k < a.length := by omega
    have hbk : a[k]? = some a[k] := by simp
    have hw := wrap_succ (k := k) (by omega)
    (simp (config := { maxSteps := 1000000 }) [h2, hbk, Pair.row])
    refine AW_loop (fun i : Nat => ⟨[(8, .ptr 1 0), (11, AI k), (10, AI a.length), (9, .d (.sl (a.map Pair.row))), (6, AI i), (5, AB false), (4, .ptr 0 0), (1, .d (.sl (b.map Pair.row)))], [.mem [AI 0, AI 0], .mem [AI a[k].v, AI a[k].l]]⟩)
      (fun i => i ≤ b.length ∧ ∀ j k', j < i → k ≤ k' → (h : j < b.length) → (h' : k' < a.length) → lessP b[j] a[k'] = true) (fun i => b.length - i) i ⟨hi, hj⟩ (by (refine Wk.of ?_ ?_ (by simp) <;> repeat' (first | exact True.intro | exact ⟨_, rfl, wkt_same rfl⟩ | exact ⟨_, rfl, wkt_erase rfl⟩ | exact ⟨_, rfl, .inl .nild⟩ | exact ⟨_, rfl, wkt_nils⟩ | exact wkt_same rfl | exact wkt_erase rfl | exact .inl .nild | exact wkt_nils | exact WkB.same rfl | exact WkB_rows | exact WkB_nil | exact .dead _ | refine WkB_cons ?_ ?_ | refine And.intro ?_ ?_))) ?_
    rintro i ⟨hi, hj⟩ N2 hN2
    have stop : (i = b.length ∨ ∃ h : i < b.length, lessP b[i] a[k] = false ∧ b[i] ≠ a[k]) → a[k] ∉ b := by
      intro hc hm
      obtain ⟨j, hjl, e⟩ := List.getElem_of_mem hm
      have h3 : i ≤ j := by
        rcases Nat.lt_or_ge j i with h | h
        · have := hj j k h (Nat.le_refl _) hjl hkl
          rw [e, lessP_irrefl] at this; cases this
        · exact h
      rcases hc with hc | ⟨h, h4, h5⟩
      · omega
      · rcases Nat.lt_or_eq_of_le h3 with h3 | h3
        · have := srt_get hb h3 hjl
          rw [e, h4] at this; cases this
        · subst h3; exact h5 e
    have go : ∀ (h : i < b.length), b[i] = a[k] → (∀ q ∈ a.take (k + 1), q ∈ b) ∧ ∀ j k', j < i → k + 1 ≤ k' → (h : j < b.length) → (h' : k' < a.length) → lessP b[j] a[k'] = true := by
      intro h e
      refine ⟨?_, fun j k' h1 h2 h3 h4 => hj j k' h1 (by omega) h3 h4⟩
      intro q hq
      rw [List.take_add_one, hbk] at hq
      rcases List.mem_append.1 hq with hq | hq
      · exact hz q hq
      · simp at hq; subst hq; rw [← e]; exact List.getElem_mem _
    (simp (config := { maxSteps := 1000000 }) [])
    ((first | refine AW_cond_split _ (by rfl) (fun h3 => ?_) (fun h3 => ?_) | refine AWop_split _ (by rfl) (fun h3 => ?_) (fun h3 => ?_)) <;> (try simp only [decide_eq_true_eq, decide_eq_false_iff_not, Bool.not_eq_true', Bool.not_eq_false', Bool.and_eq_true, Bool.or_eq_true, beq_iff_eq, bne_iff_ne, ne_eq, beq_eq_false_iff_ne, bne_eq_false_iff_eq] at h3))
    · have hil : i < b.length := by omega
      have hbi : b[i]? = some b[i] := by simp
      (simp (config := { maxSteps := 1000000 }) [h3, hbi, Pair.row])
      (refine AWcall_det (pairset_Less_calls A b[i] a[k]) (by rfl) (by rfl) ?_)
      (simp (config := { maxSteps := 1000000 }) [])
      ((first | refine AW_cond_split _ (by rfl) (fun h4 => ?_) (fun h4 => ?_) | refine AWop_split _ (by rfl) (fun h4 => ?_) (fun h4 => ?_)) <;> (try simp only [decide_eq_true_eq, decide_eq_false_iff_not, Bool.not_eq_true', Bool.not_eq_false', Bool.and_eq_true, Bool.or_eq_true, beq_iff_eq, bne_iff_ne, ne_eq, beq_eq_false_iff_ne, bne_eq_false_iff_eq] at h4))
      · have hwi := wrap_succ (k := i) (by omega)
        (simp (config := { maxSteps := 1000000 }) [h4, hwi])
        refine hN2 _ (i + 1) ⟨hil, ?_⟩ (by (refine Wk.of ?_ ?_ (by simp) <;> repeat' (first | exact True.intro | exact ⟨_, rfl, wkt_same rfl⟩ | exact ⟨_, rfl, wkt_erase rfl⟩ | exact ⟨_, rfl, .inl .nild⟩ | exact ⟨_, rfl, wkt_nils⟩ | exact wkt_same rfl | exact wkt_erase rfl | exact .inl .nild | exact wkt_nils | exact WkB.same rfl | exact WkB_rows | exact WkB_nil | exact .dead _ | refine WkB_cons ?_ ?_ | refine And.intro ?_ ?_))) (by omega)
        intro j k' h5 h6 h7 h8
        by_cases e : j = i
        · subst e
          rcases Nat.lt_or_eq_of_le h6 with h6 | h6
          · refine lessP_trans (b := a[k]) h4 (srt_get ha h6 h8)
          · subst h6; exact h4
        · exact hj j k' (by omega) h6 h7 h8
      · have hne : ¬ ((i : Int) = (b.length : Int)) := by omega
        have h4' : lessP b[i] a[k] = false := by simpa using h4
        (simp (config := { maxSteps := 1000000 }) [h4', hne, hbi, Pair.row])
        ((first | refine AW_cond_split _ (by rfl) (fun h5 => ?_) (fun h5 => ?_) | refine AWop_split _ (by rfl) (fun h5 => ?_) (fun h5 => ?_)) <;> (try simp only [decide_eq_true_eq, decide_eq_false_iff_not, Bool.not_eq_true', Bool.not_eq_false', Bool.and_eq_true, Bool.or_eq_true, beq_iff_eq, bne_iff_ne, ne_eq, beq_eq_false_iff_ne, bne_eq_false_iff_eq] at h5))
        · have hx2 : a[k] ∉ b := stop (.inr ⟨hil, h4', fun e => by rw [e] at h5; simp at h5⟩)
          have := missP_at hkl hz hx2
          (simp (config := { maxSteps := 1000000 }) [h5])
          (first | exact hR _ _ (Fin_ret _ rfl rfl rfl) | exact hR _ _ (Fin_normal _ rfl rfl rfl) | exact hR _ _ (Fin_ret _ rfl rfl (by simp [AV.erase, AV.unview, missA, this, Pair.av]; done)) | exact hR _ _ (Fin_normal _ rfl rfl (by simp [AV.erase, AV.unview, missA, this, Pair.av]; done)) | fail "no end")
        · have e : b[i] = a[k] := eq_pair (by simp at h5; exact h5.1) (by simp at h5; exact h5.2)
          have := go hil e
          (simp (config := { maxSteps := 1000000 }) [h5, hw])
          exact hN _ (k + 1, i) ⟨hkl, hi, this.1, this.2⟩ (by simp only; (refine Wk.of ?_ ?_ (by simp) <;> repeat' (first | exact True.intro | exact ⟨_, rfl, wkt_same rfl⟩ | exact ⟨_, rfl, wkt_erase rfl⟩ | exact ⟨_, rfl, .inl .nild⟩ | exact ⟨_, rfl, wkt_nils⟩ | exact wkt_same rfl | exact wkt_erase rfl | exact .inl .nild | exact wkt_nils | exact WkB.same rfl | exact WkB_rows | exact WkB_nil | exact .dead _ | refine WkB_cons ?_ ?_ | refine And.intro ?_ ?_))) (by simp only; omega)
    · have e : i = b.length := by omega
      have hx2 : a[k] ∉ b := stop (.inl e)
      have := missP_at hkl hz hx2
      (simp (config := { maxSteps := 1000000 }) [h3, e])
      (first | exact hR _ _ (Fin_ret _ rfl rfl rfl) | exact hR _ _ (Fin_normal _ rfl rfl rfl) | exact hR _ _ (Fin_ret _ rfl rfl (by simp [AV.erase, AV.unview, missA, this, Pair.av]; done)) | exact hR _ _ (Fin_normal _ rfl rfl (by simp [AV.erase, AV.unview, missA, this, Pair.av]; done)) | fail "no end")
  · have hk' : k = a.length := by omega
    subst hk'
    have := missP_none (a := a) (b := b) (by simpa using hz)
    (simp (config := { maxSteps := 1000000 }) [])
    (first | exact hR _ _ (Fin_ret _ rfl rfl rfl) | exact hR _ _ (Fin_normal _ rfl rfl rfl) | exact hR _ _ (Fin_ret _ rfl rfl (by simp [AV.erase, AV.unview, missA, this, Pair.av]; done)) | exact hR _ _ (Fin_normal _ rfl rfl (by simp [AV.erase, AV.unview, missA, this, Pair.av]; done)) | fail "no end")
theorem pairset_Subset_calls {P : Program} {p : Nums} (A : All P p) (a b : List Pair) (h0 : a.length < 1000000) (h1 : b.length < 1000000) (ha : Srt a) (hb : Srt b) : CallsTo P p.pairset_Subset [.d (pairsD a), .d (pairsD b)] [] fun o _ => o = .ret (AB (subP a b)) := by
  refine A.pairset_Subset.run rfl fun R hR => ?_
  (simp (config := { maxSteps := 1000000 }) [ic_pairset_Subset, pairsD])
  (refine AWcall_det (pairset_Missing_calls A a b h0 h1 ha hb) (by rfl) (by rfl) ?_)
  (simp (config := { maxSteps := 1000000 }) [missA, Pair.av])
  have := missP_subP a b
  (first | exact hR _ _ (Fin_ret _ rfl rfl rfl) | exact hR _ _ (Fin_normal _ rfl rfl rfl) | exact hR _ _ (Fin_ret _ rfl rfl (by simp [AV.erase, AV.unview, this]; done)) | exact hR _ _ (Fin_normal _ rfl rfl (by simp [AV.erase, AV.unview, this]; done)) | fail "no end")
end
end Go.AE

/- Sets of pairs: Union. -/
set_option linter.unusedVariables false
namespace Go.AE
open Go
def mergeP : List Pair → List Pair → List Pair
  | [], b => b
  | x :: a, [] => x :: a
  | x :: a, y :: b => if lessP y x = true then y :: mergeP (x :: a) b else if y = x then x :: mergeP a b else x :: mergeP a (y :: b)
termination_by a b => a.length + b.length
theorem mergeP_nil (a : List Pair) : mergeP a [] = a := by cases a <;> simp [mergeP]
theorem mem_mergeP {a b : List Pair} {q : Pair} : q ∈ mergeP a b ↔ q ∈ a ∨ q ∈ b := by
  induction a, b using mergeP.induct with
  | case1 b => simp [mergeP]
  | case2 x a => simp [mergeP]
  | case3 x a y b h ih => rw [mergeP, if_pos h, List.mem_cons, ih]; simp only [List.mem_cons]; constructor <;> (intro h; rcases h with h | h | h <;> simp_all)
  | case4 a b x h ih => rw [mergeP, if_neg h, if_pos rfl, List.mem_cons, ih]; simp only [List.mem_cons]; constructor <;> grind
  | case5 x a y b h h2 ih => rw [mergeP, if_neg h, if_neg h2, List.mem_cons, ih]; simp only [List.mem_cons]; constructor <;> grind
theorem srt_mergeP {a b : List Pair} (ha : Srt a) (hb : Srt b) : Srt (mergeP a b) := by
  induction a, b using mergeP.induct with
  | case1 b => simpa [mergeP] using hb
  | case2 x a => simpa [mergeP] using ha
  | case3 x a y b h ih =>
    rw [mergeP, if_pos h]
    refine srt_cons.2 ⟨fun q hq => ?_, ih ha (srt_cons.1 hb).2⟩
    rw [mem_mergeP, List.mem_cons] at hq
    rcases hq with (rfl | hq) | hq
    · exact h
    · exact lessP_trans h ((srt_cons.1 ha).1 q hq)
    · exact (srt_cons.1 hb).1 q hq
  | case4 a b x h ih =>
    rw [mergeP, if_neg h, if_pos rfl]
    refine srt_cons.2 ⟨fun q hq => ?_, ih (srt_cons.1 ha).2 (srt_cons.1 hb).2⟩
    rw [mem_mergeP] at hq
    rcases hq with hq | hq
    · exact (srt_cons.1 ha).1 q hq
    · exact (srt_cons.1 hb).1 q hq
  | case5 x a y b h h2 ih =>
    rw [mergeP, if_neg h, if_neg h2]
    have hxy : lessP x y = true := by
      cases e : lessP x y with
      | true => rfl
      | false => exact absurd (lessP_total (by simpa using h) e) h2
    refine srt_cons.2 ⟨fun q hq => ?_, ih (srt_cons.1 ha).2 hb⟩
    rw [mem_mergeP, List.mem_cons] at hq
    rcases hq with hq | rfl | hq
    · exact (srt_cons.1 ha).1 q hq
    · exact hxy
    · exact lessP_trans hxy ((srt_cons.1 hb).1 q hq)
theorem mergeP_make {a b : List Pair} (ha : Srt a) (hb : Srt b) : mergeP a b = makeP (a ++ b) :=
  srt_ext (srt_mergeP ha hb) (srt_makeP _) fun q => by rw [mem_mergeP, mem_makeP, List.mem_append]
section
theorem pairset_Union_calls {P : Program} {p : Nums} (A : All P p) (a b : List Pair) (h0 : a.length < 1000000) (h1 : b.length < 1000000) : CallsTo P p.pairset_Union [.d (pairsD a), .d (pairsD b)] [] fun o _ => o = .ret (.d (pairsD (mergeP a b))) := by
  refine A.pairset_Union.run rfl fun R hR => ?_
  have hw : IntKind.i64.wrap ((a.length : Int) + (b.length : Int)) = ((a.length + b.length : Nat) : Int) := wrap_add (by omega)
  obtain ⟨n, hn⟩ : ∃ n, n = a.length + b.length := ⟨_, rfl⟩
  rw [← hn] at hw
  (simp (config := { maxSteps := 1000000 }) [ic_pairset_Union, pairsD, hw])
  refine AWio_mks0 (n := n) (by rfl) (by rfl) (by omega) (by omega) (by decide) (by rfl) ?_
  (simp (config := { maxSteps := 1000000 }) [])
  have hrow : ∀ l : List Pair, ∀ r ∈ l.map Pair.row, r.length = 2 := fun l => rows_len fun x => rfl
  refine AW_loop (fun s : List Pair × List Pair × List Pair => ⟨[(5, .own 2 (s.2.2.map Pair.row)), (4, .nils), (1, .d (.sl (s.2.1.map Pair.row))), (0, .d (.sl (s.1.map Pair.row)))], []⟩)
    (fun s => s.2.2 ++ mergeP s.1 s.2.1 = mergeP a b ∧ s.1.length + s.2.1.length + s.2.2.length ≤ n) (fun s => s.1.length + s.2.1.length) (a, b, []) ⟨by simp, by simp; omega⟩ (by simp only [List.map_nil]; (refine Wk.of ?_ ?_ (by simp) <;> repeat' (first | exact True.intro | exact ⟨_, rfl, wkt_same rfl⟩ | exact ⟨_, rfl, wkt_erase rfl⟩ | exact ⟨_, rfl, .inl .nild⟩ | exact ⟨_, rfl, wkt_nils⟩ | exact wkt_same rfl | exact wkt_erase rfl | exact .inl .nild | exact wkt_nils | exact WkB.same rfl | exact WkB_rows | exact WkB_nil | exact .dead _ | refine WkB_cons ?_ ?_ | refine And.intro ?_ ?_))) ?_
  rintro ⟨xs, ys, out⟩ ⟨hm, hlen⟩ N hN
  simp only at hm hlen hN ⊢
  have fin : xs = [] ∨ ys = [] → (out.map Pair.row ++ xs.map Pair.row) ++ ys.map Pair.row = (mergeP a b).map Pair.row := by
    intro h
    rw [← hm]
    rcases h with rfl | rfl
    · simp [mergeP]
    · simp [mergeP_nil]
  cases xs with
  | nil =>
    (simp (config := { maxSteps := 1000000 }) [])
    (refine AWio_app_own (by rfl) (by rfl) (by rfl) ?_ (by decide) ?_ ?_ ?_)
    · simp
    · simp; omega
    · simp; omega
    (simp (config := { maxSteps := 1000000 }) [])
    (refine AWio_app_own (by rfl) (by rfl) (by rfl) ?_ (by decide) ?_ ?_ ?_)
    · exact hrow _
    · simp at hlen ⊢; omega
    · simp at hlen ⊢; omega
    (simp (config := { maxSteps := 1000000 }) [])
    (first | exact hR _ _ (Fin_ret _ rfl rfl rfl) | exact hR _ _ (Fin_normal _ rfl rfl rfl) | exact hR _ _ (Fin_ret _ rfl rfl (by simp [AV.erase, AV.unview, pairsD, ← fin (.inl rfl)]; done)) | exact hR _ _ (Fin_normal _ rfl rfl (by simp [AV.erase, AV.unview, pairsD, ← fin (.inl rfl)]; done)) | fail "no end")
  | cons x xs =>
    have hx0 : ¬ ((xs.length : Int) + 1 ≤ 0) := by omega
    have hx1 : (0 : Int) < (xs.length : Int) + 1 := by omega
    cases ys with
    | nil =>
      (simp (config := { maxSteps := 1000000 }) [hx1])
      (refine AWio_app_own (by rfl) (by rfl) (by rfl) ?_ (by decide) ?_ ?_ ?_)
      · simpa using hrow (x :: xs)
      · simp at hlen ⊢; omega
      · simp at hlen ⊢; omega
      (simp (config := { maxSteps := 1000000 }) [])
      (refine AWio_app_own (by rfl) (by rfl) (by rfl) ?_ (by decide) ?_ ?_ ?_)
      · simp
      · simp at hlen ⊢; omega
      · simp at hlen ⊢; omega
      (simp (config := { maxSteps := 1000000 }) [])
      have := fin (.inr rfl)
      simp only [List.map_cons, List.map_nil, List.append_nil] at this
      (first | exact hR _ _ (Fin_ret _ rfl rfl rfl) | exact hR _ _ (Fin_normal _ rfl rfl rfl) | exact hR _ _ (Fin_ret _ rfl rfl (by simp [AV.erase, AV.unview, pairsD, ← this]; done)) | exact hR _ _ (Fin_normal _ rfl rfl (by simp [AV.erase, AV.unview, pairsD, ← this]; done)) | fail "no end")
    | cons y ys =>
      have hy1 : (0 : Int) < (ys.length : Int) + 1 := by omega
      have hx2 : (1 : Int) ≤ (xs.length : Int) + 1 := by omega
      have hy2 : (1 : Int) ≤ (ys.length : Int) + 1 := by omega
      have htx : (xs.map Pair.row).take xs.length = xs.map Pair.row := List.take_of_length_le (by simp)
      have hty : (ys.map Pair.row).take ys.length = ys.map Pair.row := List.take_of_length_le (by simp)
      simp only [List.length_cons] at hlen
      rw [mergeP] at hm
      (simp (config := { maxSteps := 1000000 }) [hx1, hy1, Pair.row])
      (refine AWcall_det (pairset_Less_calls A y x) (by rfl) (by rfl) ?_)
      (simp (config := { maxSteps := 1000000 }) [])
      ((first | refine AW_cond_split _ (by rfl) (fun h2 => ?_) (fun h2 => ?_) | refine AWop_split _ (by rfl) (fun h2 => ?_) (fun h2 => ?_)) <;> (try simp only [decide_eq_true_eq, decide_eq_false_iff_not, Bool.not_eq_true', Bool.not_eq_false', Bool.and_eq_true, Bool.or_eq_true, beq_iff_eq, bne_iff_ne, ne_eq, beq_eq_false_iff_ne, bne_eq_false_iff_eq] at h2))
      · rw [if_pos h2] at hm
        have hne : ¬ x = y := fun h => lessP_ne h2 h.symm
        have hs1 : IntKind.i64.wrap 1 = 1 := by rw [wrap_i64 (by omega) (by omega)]
        (simp (config := { maxSteps := 1000000 }) [h2, Pair.row])
        (refine AWio_app_own (by rfl) (by rfl) (by rfl) ?_ (by decide) ?_ ?_ ?_)
        · simp
        · simp at hlen ⊢; omega
        · simp at hlen ⊢; omega
        (simp (config := { maxSteps := 1000000 }) [Pair.row, pair_beq, hne, hy2, hty])
        refine hN _ (x :: xs, ys, out ++ [y]) ⟨by simp only; rw [← hm]; simp, by simp; omega⟩ ?_ (by simp only [List.length_cons]; omega)
        simp only [List.map_cons, List.map_append, List.map_nil, Pair.row]
        (refine Wk.of ?_ ?_ (by simp) <;> repeat' (first | exact True.intro | exact ⟨_, rfl, wkt_same rfl⟩ | exact ⟨_, rfl, wkt_erase rfl⟩ | exact ⟨_, rfl, .inl .nild⟩ | exact ⟨_, rfl, wkt_nils⟩ | exact wkt_same rfl | exact wkt_erase rfl | exact .inl .nild | exact wkt_nils | exact WkB.same rfl | exact WkB_rows | exact WkB_nil | exact .dead _ | refine WkB_cons ?_ ?_ | refine And.intro ?_ ?_))
      · have h2' : lessP y x = false := by simpa using h2
        rw [if_neg (by rw [h2']; simp)] at hm
        (simp (config := { maxSteps := 1000000 }) [h2', Pair.row])
        (refine AWio_app_own (by rfl) (by rfl) (by rfl) ?_ (by decide) ?_ ?_ ?_)
        · simp
        · simp at hlen ⊢; omega
        · simp at hlen ⊢; omega
        by_cases e : y = x
        · rw [if_pos e] at hm
          subst e
          (simp (config := { maxSteps := 1000000 }) [Pair.row, pair_beq, hx2, hy2, htx, hty])
          refine hN _ (xs, ys, out ++ [y]) ⟨by simp only; rw [← hm]; simp, by simp; omega⟩ ?_ (by simp only [List.length_cons]; omega)
          simp only [List.map_cons, List.map_append, List.map_nil, Pair.row]
          (refine Wk.of ?_ ?_ (by simp) <;> repeat' (first | exact True.intro | exact ⟨_, rfl, wkt_same rfl⟩ | exact ⟨_, rfl, wkt_erase rfl⟩ | exact ⟨_, rfl, .inl .nild⟩ | exact ⟨_, rfl, wkt_nils⟩ | exact wkt_same rfl | exact wkt_erase rfl | exact .inl .nild | exact wkt_nils | exact WkB.same rfl | exact WkB_rows | exact WkB_nil | exact .dead _ | refine WkB_cons ?_ ?_ | refine And.intro ?_ ?_))
        · rw [if_neg e] at hm
          (simp (config := { maxSteps := 1000000 }) [Pair.row, pair_beq, e, hx2, htx])
          refine hN _ (xs, y :: ys, out ++ [x]) ⟨by simp only; rw [← hm]; simp, by simp; omega⟩ ?_ (by simp only [List.length_cons]; omega)
          simp only [List.map_cons, List.map_append, List.map_nil, Pair.row]
          (refine Wk.of ?_ ?_ (by simp) <;> repeat' (first | exact True.intro | exact ⟨_, rfl, wkt_same rfl⟩ | exact ⟨_, rfl, wkt_erase rfl⟩ | exact ⟨_, rfl, .inl .nild⟩ | exact ⟨_, rfl, wkt_nils⟩ | exact wkt_same rfl | exact wkt_erase rfl | exact .inl .nild | exact wkt_nils | exact WkB.same rfl | exact WkB_rows | exact WkB_nil | exact .dead _ | refine WkB_cons ?_ ?_ | refine And.intro ?_ ?_))
end
end Go.AE

/- Sets of pairs: slices.Clone, slices.Compact. -/
set_option linter.unusedVariables false
namespace Go.AE
open Go
theorem rowCells_at {rows : List (List D)} {e k : Nat} (he : ∀ r ∈ rows, r.length = e) (hk : k < rows.length) : ((rowCells rows).drop (k * e)).take e = rows[k].map AV.d := by
  unfold rowCells
  induction rows generalizing k with
  | nil => simp at hk
  | cons r rows ih =>
    have h1 := he r (by simp)
    cases k with
    | zero => simp only [Nat.zero_mul, List.drop_zero, List.flatten_cons, List.map_append, List.getElem_cons_zero]; rw [List.take_left' (by simp [h1])]
    | succ k =>
      have h2 := ih (fun r hr => he r (by simp [hr])) (k := k) (by simpa using hk)
      simp only [List.flatten_cons, List.map_append, List.getElem_cons_succ]
      have e1 : (k + 1) * e = (r.map AV.d).length + k * e := by rw [Nat.add_mul]; simp [h1]; omega
      rw [e1, List.drop_length_add_append]; exact h2
theorem pair_at {l : List Pair} {k : Nat} (hk : k < l.length) : ((rowCells (l.map Pair.row)).drop (k * 2)).take 2 = [AI l[k].v, AI l[k].l] := by
  rw [rowCells_at (e := 2) (rows := l.map Pair.row) (rows_len (f := Pair.row) fun _ => rfl) (by simpa using hk)]; simp [Pair.row]
theorem rowCells2_len' (l : List Pair) : (rowCells (l.map Pair.row)).length = l.length * 2 := by
  rw [rowCells_len (e := 2) (rows_len fun _ => rfl)]; simp
theorem rowCells_er (rows : List (List D)) : (rowCells rows).map AV.erase = rowCells rows := by
  simp [rowCells, AV.erase, Function.comp_def]
/-- Without repetitions. -/
def ddStep (out : List Pair) (q : Pair) : List Pair := if out.getLast? = some q then out else out ++ [q]
def dd (l : List Pair) : List Pair := l.foldl ddStep []
theorem dd_snoc (l : List Pair) (q : Pair) : dd (l ++ [q]) = ddStep (dd l) q := by simp [dd]
theorem dd_last (l : List Pair) : (dd l).getLast? = l.getLast? := by
  induction l using makeP_rec with
  | h0 => rfl
  | h1 l q ih =>
    rw [dd_snoc, ddStep]
    split
    · rename_i h; rw [h]; simp
    · simp
theorem mem_dd {l : List Pair} {q : Pair} : q ∈ dd l ↔ q ∈ l := by
  induction l using makeP_rec with
  | h0 => simp [dd]
  | h1 l x ih =>
    rw [dd_snoc, ddStep]
    split
    · rename_i h
      rw [ih, List.mem_append]
      have : x ∈ l := by rw [dd_last] at h; exact List.mem_of_getLast? h
      constructor
      · exact .inl
      · rintro (h | h)
        · exact h
        · simp at h; subst h; exact this
    · rw [List.mem_append, List.mem_append, ih]
theorem dd_succ {l : List Pair} {k : Nat} (h0 : 0 < k) (h : k < l.length) : dd (l.take (k + 1)) = if l[k - 1]'(by omega) = l[k] then dd (l.take k) else dd (l.take k) ++ [l[k]] := by
  have e : l.take (k + 1) = l.take k ++ [l[k]] := by rw [List.take_add_one, List.getElem?_eq_getElem h]; rfl
  rw [e, dd_snoc, ddStep, dd_last]
  have : (l.take k).getLast? = some (l[k - 1]'(by omega)) := by
    rw [List.getLast?_eq_getElem?, List.getElem?_take]; simp only [List.length_take, Option.ite_none_right_eq_some]; rw [show min k l.length - 1 = k - 1 by omega, List.getElem?_eq_getElem (by omega)]; exact ⟨by omega, rfl⟩
  rw [this]; simp
theorem dd_len (l : List Pair) : (dd l).length ≤ l.length := by
  induction l using makeP_rec with
  | h0 => simp [dd]
  | h1 l x ih => rw [dd_snoc, ddStep]; split <;> simp <;> omega
/-- What slices.Compact leaves in the block. -/
def cptP (l : List Pair) : List Pair := dd l ++ List.replicate (l.length - (dd l).length) (⟨0, 0⟩ : Pair)
theorem cptP_id {l : List Pair} (h : dd l = l) : cptP l = l := by unfold cptP; rw [h]; simp
theorem srt_dd {l : List Pair} (h : l.Pairwise fun a b => lessP b a = false) : Srt (dd l) := by
  induction l using makeP_rec with
  | h0 => exact List.Pairwise.nil
  | h1 l x ih =>
    have h2 := List.pairwise_append.1 h
    have ih := ih h2.1
    rw [dd_snoc, ddStep]
    split
    · exact ih
    · rename_i hl
      refine List.pairwise_append.2 ⟨ih, List.pairwise_singleton _ _, ?_⟩
      intro a ha b hb
      simp at hb; subst hb
      have hab := h2.2.2 a (mem_dd.1 ha) b (by simp)
      cases e : lessP a b with
      | true => rfl
      | false =>
        have eab := lessP_total e hab
        subst eab
        obtain ⟨j, hj, ej⟩ := List.getElem_of_mem ha
        have hne : dd l ≠ [] := List.ne_nil_of_mem ha
        have hjl : j < (dd l).length - 1 := by
          rcases Nat.lt_or_ge j ((dd l).length - 1) with h | h
          · exact h
          · refine absurd ?_ hl
            rw [List.getLast?_eq_getElem?, show (dd l).length - 1 = j by omega, List.getElem?_eq_getElem hj, ej]
        have h3 := srt_get ih hjl (by omega)
        rw [ej] at h3
        have hm : (dd l)[(dd l).length - 1]'(by omega) ∈ l := mem_dd.1 (List.getElem_mem _)
        rw [h2.2.2 _ hm a (by simp)] at h3; cases h3
section
theorem slices_Clone_Pair_nil {P : Program} {p : Nums} (A : All P p) : CallsTo P p.slices_Clone_Pair [.d (.sl [])] [] fun o H' => o = .ret (.d (.sl [])) ∧ H' = [] := by
  refine A.slices_Clone_Pair.run rfl fun R hR => ?_
  (simp (config := { maxSteps := 1000000 }) [ic_slices_Clone_Pair])
  refine AWio_isnil_d (by rfl) (fun _ => ?_) ?_
  · (simp (config := { maxSteps := 1000000 }) [])
    exact hR _ _ (Fin_wkv _ _ rfl (by (repeat' (first | exact True.intro | exact WkV.refl _ rfl | exact WkV.erase _ rfl | exact WkV.nild | exact WkV.nile | refine And.intro ?_ ?_ | refine WkV_agg ?_ | refine WkV_tup ?_))) ⟨rfl, rfl⟩)
  · (simp (config := { maxSteps := 1000000 }) [])
    refine AWio_app_nile (by rfl) (by rfl) (by simp) (by decide) (by simp) (by simp) (fun hn => ?_) fun hn => absurd rfl hn
    (simp (config := { maxSteps := 1000000 }) [])
    exact hR _ _ (Fin_wkv _ _ rfl (by (repeat' (first | exact True.intro | exact WkV.refl _ rfl | exact WkV.erase _ rfl | exact WkV.nild | exact WkV.nile | refine And.intro ?_ ?_ | refine WkV_agg ?_ | refine WkV_tup ?_))) ⟨rfl, rfl⟩)
theorem slices_Clone_Pair_calls {P : Program} {p : Nums} (A : All P p) (l : List Pair) (hl : l ≠ []) (h0 : l.length < 1000000) : CallsTo P p.slices_Clone_Pair [.d (pairsD l)] [] fun o H' => o = .ret (.hsl 0 0 2 l.length) ∧ H' = [.mem (rowCells (l.map Pair.row))] := by
  refine A.slices_Clone_Pair.run rfl fun R hR => ?_
  (simp (config := { maxSteps := 1000000 }) [ic_slices_Clone_Pair, pairsD])
  refine AWio_isnil_d (by rfl) (fun h => absurd (by simpa using h) hl) ?_
  (simp (config := { maxSteps := 1000000 }) [])
  refine AWio_app_h (.inl (by rfl)) (by rfl) (rows_len fun _ => rfl) (by decide) (by simp; omega) (by simp; omega) (by simpa using hl) ?_
  (simp (config := { maxSteps := 1000000 }) [])
  exact hR _ _ (Fin_wk' _ _ _ rfl (by (refine Wk.of ?_ ?_ (by simp) <;> repeat' (first | exact True.intro | exact ⟨_, rfl, wkt_same rfl⟩ | exact ⟨_, rfl, wkt_erase rfl⟩ | exact ⟨_, rfl, .inl .nild⟩ | exact ⟨_, rfl, wkt_nils⟩ | exact wkt_same rfl | exact wkt_erase rfl | exact .inl .nild | exact wkt_nils | exact WkB.same rfl | exact WkB_rows | exact WkB_nil | exact .dead _ | refine WkB_cons ?_ ?_ | refine And.intro ?_ ?_))) ⟨by simp, rfl⟩)
theorem slices_Compact_Pair_nil {P : Program} {p : Nums} (A : All P p) : CallsTo P p.slices_Compact_Pair [.d (.sl [])] [] fun o H' => o = .ret (.d (.sl [])) ∧ H' = [] := by
  refine A.slices_Compact_Pair.run rfl fun R hR => ?_
  (simp (config := { maxSteps := 1000000 }) [ic_slices_Compact_Pair])
  exact hR _ _ (Fin_wkv _ _ rfl (by (repeat' (first | exact True.intro | exact WkV.refl _ rfl | exact WkV.erase _ rfl | exact WkV.nild | exact WkV.nile | refine And.intro ?_ ?_ | refine WkV_agg ?_ | refine WkV_tup ?_))) ⟨rfl, rfl⟩)
theorem slices_Compact_Pair_calls {P : Program} {p : Nums} (A : All P p) (l : List Pair) (hl : l ≠ []) (h0 : l.length < 1000000) : CallsTo P p.slices_Compact_Pair [.hsl 0 0 2 l.length] [.mem (rowCells (l.map Pair.row))] fun o H' => o = .ret (.hsl 0 0 2 (dd l).length) ∧ H' = [.mem (rowCells ((cptP l).map Pair.row))] := by
  refine A.slices_Compact_Pair.run rfl fun R hR => ?_
  (simp (config := { maxSteps := 1000000 }) [ic_slices_Compact_Pair])
  have hpos : 0 < l.length := List.length_pos_iff.2 hl
  have dd1 : dd (l.take 1) = l.take 1 := by
    cases l with
    | nil => exact absurd rfl hl
    | cons x l => simp [dd, ddStep]
  have done : dd l = l → R .ret ⟨[(2, .hsl 0 0 2 l.length)], [.mem (rowCells (l.map Pair.row))]⟩ := by
    intro e
    refine hR _ _ (Fin_wk' _ (.hsl 0 0 2 l.length) [.mem (rowCells (l.map Pair.row))] rfl (by (refine Wk.of ?_ ?_ (by simp) <;> repeat' (first | exact True.intro | exact ⟨_, rfl, wkt_same rfl⟩ | exact ⟨_, rfl, wkt_erase rfl⟩ | exact ⟨_, rfl, .inl .nild⟩ | exact ⟨_, rfl, wkt_nils⟩ | exact wkt_same rfl | exact wkt_erase rfl | exact .inl .nild | exact wkt_nils | exact WkB.same rfl | exact WkB_rows | exact WkB_nil | exact .dead _ | refine WkB_cons ?_ ?_ | refine And.intro ?_ ?_))) ⟨by rw [e], by rw [cptP_id e]⟩)
  ((first | refine AW_cond_split _ (by rfl) (fun h1 => ?_) (fun h1 => ?_) | refine AWop_split _ (by rfl) (fun h1 => ?_) (fun h1 => ?_)) <;> (try simp only [decide_eq_true_eq, decide_eq_false_iff_not, Bool.not_eq_true', Bool.not_eq_false', Bool.and_eq_true, Bool.or_eq_true, beq_iff_eq, bne_iff_ne, ne_eq, beq_eq_false_iff_ne, bne_eq_false_iff_eq] at h1))
  · have e1 : l.length = 1 := by omega
    have : dd l = l := by rw [show l.take 1 = l from List.take_of_length_le (by omega)] at dd1; exact dd1
    (simp (config := { maxSteps := 1000000 }) [h1])
    refine hR _ _ (Fin_wk' _ (.hsl 0 0 2 l.length) [.mem (rowCells (l.map Pair.row))] rfl (by (refine Wk.of ?_ ?_ (by simp) <;> repeat' (first | exact True.intro | exact ⟨_, rfl, wkt_same rfl⟩ | exact ⟨_, rfl, wkt_erase rfl⟩ | exact ⟨_, rfl, .inl .nild⟩ | exact ⟨_, rfl, wkt_nils⟩ | exact wkt_same rfl | exact wkt_erase rfl | exact .inl .nild | exact wkt_nils | exact WkB.same rfl | exact WkB_rows | exact WkB_nil | exact .dead _ | refine WkB_cons ?_ ?_ | refine And.intro ?_ ?_))) ⟨by rw [this], by rw [cptP_id this]⟩)
  (simp (config := { maxSteps := 1000000 }) [h1])
  refine AW_loop (fun k : Nat => ⟨[(3, AI k), (2, .nils), (0, .hsl 0 0 2 l.length)], [.mem (rowCells (l.map Pair.row))]⟩) (fun k => 1 ≤ k ∧ k ≤ l.length ∧ dd (l.take k) = l.take k) (fun k => l.length - k) 1 ⟨by omega, by omega, dd1⟩ (by (refine Wk.of ?_ ?_ (by simp) <;> repeat' (first | exact True.intro | exact ⟨_, rfl, wkt_same rfl⟩ | exact ⟨_, rfl, wkt_erase rfl⟩ | exact ⟨_, rfl, .inl .nild⟩ | exact ⟨_, rfl, wkt_nils⟩ | exact wkt_same rfl | exact wkt_erase rfl | exact .inl .nild | exact wkt_nils | exact WkB.same rfl | exact WkB_rows | exact WkB_nil | exact .dead _ | refine WkB_cons ?_ ?_ | refine And.intro ?_ ?_))) ?_
  rintro k ⟨hk1, hk, hd⟩ N hN
  have hlc := rowCells2_len' l
  (simp (config := { maxSteps := 1000000 }) [])
  ((first | refine AW_cond_split _ (by rfl) (fun h2 => ?_) (fun h2 => ?_) | refine AWop_split _ (by rfl) (fun h2 => ?_) (fun h2 => ?_)) <;> (try simp only [decide_eq_true_eq, decide_eq_false_iff_not, Bool.not_eq_true', Bool.not_eq_false', Bool.and_eq_true, Bool.or_eq_true, beq_iff_eq, bne_iff_ne, ne_eq, beq_eq_false_iff_ne, bne_eq_false_iff_eq] at h2))
  · have hkl : k < l.length := by omega
    have hw := wrap_succ (k := k) (by omega)
    obtain ⟨km, hkm⟩ : ∃ km, km = k - 1 := ⟨_, rfl⟩
    have hw2 : IntKind.i64.wrap ((k : Int) - 1) = (km : Int) := by rw [wrap_i64 (by omega) (by omega)]; omega
    have hp1 := pair_at (l := l) (k := km) (by omega)
    have hp2 := pair_at (l := l) (k := k) hkl
    have hce := rowCells_er (l.map Pair.row)
    obtain ⟨C, hC⟩ : ∃ C, C = rowCells (l.map Pair.row) := ⟨_, rfl⟩
    have hkml : km < l.length := by omega
    obtain ⟨x, hx⟩ : ∃ x, x = l[k] := ⟨_, rfl⟩
    obtain ⟨y, hy⟩ : ∃ y, y = l[km] := ⟨_, rfl⟩
    rw [← hC] at hlc hp1 hp2 hce ⊢
    rw [← hx] at hp2
    rw [← hy] at hp1
    have hl1 : km * 2 + 2 ≤ C.length := by omega
    have hl2 : k * 2 + 2 ≤ C.length := by omega
    have hk2 : (km : Int) < (l.length : Int) := by omega
    (simp (config := { maxSteps := 1000000 }) [h2, hw2, hk2, hl1, hl2, hp1, hp2, hce, pair_beq])
    ((first | refine AW_cond_split _ (by rfl) (fun h3 => ?_) (fun h3 => ?_) | refine AWop_split _ (by rfl) (fun h3 => ?_) (fun h3 => ?_)) <;> (try simp only [decide_eq_true_eq, decide_eq_false_iff_not, Bool.not_eq_true', Bool.not_eq_false', Bool.and_eq_true, Bool.or_eq_true, beq_iff_eq, bne_iff_ne, ne_eq, beq_eq_false_iff_ne, bne_eq_false_iff_eq] at h3))
    · have hsl : IntKind.i64.wrap 1 = 1 := by rw [wrap_i64 (by omega) (by omega)]
      have hkle : k ≤ l.length := by omega
      (simp (config := { maxSteps := 1000000 }) [h3, hkle])
      have hdk : dd (l.take (k + 1)) = l.take k := by
        rw [dd_succ hk1 hkl, if_pos, hd]
        rw [← hx, h3, hy]; simp only [hkm]
      refine AW_loop (fun s : Nat × Nat × List Pair => ⟨[(5, AI s.1), (4, .hsl 0 (k * 2) 2 (l.length - k)), (3, AI s.2.1), (2, .nils), (0, .hsl 0 0 2 l.length)], [.mem (rowCells (s.2.2.map Pair.row))]⟩)
        (fun s => 1 ≤ s.1 ∧ k + s.1 ≤ l.length ∧ s.2.1 + 1 ≤ k + s.1 ∧ s.2.2.length = l.length ∧ s.2.2.take s.2.1 = dd (l.take (k + s.1)) ∧ s.2.2.drop (k + s.1 - 1) = l.drop (k + s.1 - 1)) (fun s => l.length - s.1) (1, k, l)
        ⟨by simp, by simp; omega, by simp, rfl, hdk.symm, rfl⟩ (by rw [hC]; (refine Wk.of ?_ ?_ (by simp) <;> repeat' (first | exact True.intro | exact ⟨_, rfl, wkt_same rfl⟩ | exact ⟨_, rfl, wkt_erase rfl⟩ | exact ⟨_, rfl, .inl .nild⟩ | exact ⟨_, rfl, wkt_nils⟩ | exact wkt_same rfl | exact wkt_erase rfl | exact .inl .nild | exact wkt_nils | exact WkB.same rfl | exact WkB_rows | exact WkB_nil | exact .dead _ | refine WkB_cons ?_ ?_ | refine And.intro ?_ ?_))) ?_
      rintro ⟨j, i, cur⟩ ⟨hj1, hjn, hij, hcl, hct, hcd⟩ N2 hN2
      simp only at hj1 hjn hij hcl hct hcd hN2 ⊢
      have hlc2 := rowCells2_len' cur
      have hce2 := rowCells_er (cur.map Pair.row)
      (simp (config := { maxSteps := 1000000 }) [])
      ((first | refine AW_cond_split _ (by rfl) (fun h4 => ?_) (fun h4 => ?_) | refine AWop_split _ (by rfl) (fun h4 => ?_) (fun h4 => ?_)) <;> (try simp only [decide_eq_true_eq, decide_eq_false_iff_not, Bool.not_eq_true', Bool.not_eq_false', Bool.and_eq_true, Bool.or_eq_true, beq_iff_eq, bne_iff_ne, ne_eq, beq_eq_false_iff_ne, bne_eq_false_iff_eq] at h4))
      · have h4' : k + j < l.length := by omega
        have hcur : ∀ m, k + j - 1 ≤ m → (h : m < l.length) → cur[m]'(by omega) = l[m] := by
          intro m h5 h6
          have e1 : (cur.drop (k + j - 1))[m - (k + j - 1)]? = cur[m]? := by rw [List.getElem?_drop, Nat.add_sub_cancel' h5]
          have e2 : (l.drop (k + j - 1))[m - (k + j - 1)]? = l[m]? := by rw [List.getElem?_drop, Nat.add_sub_cancel' h5]
          rw [hcd, e2, List.getElem?_eq_getElem h6, List.getElem?_eq_getElem (by omega)] at e1
          injection e1 with e1; exact e1.symm
        obtain ⟨jm, hjm⟩ : ∃ jm, jm = j - 1 := ⟨_, rfl⟩
        have hwj := wrap_succ (k := j) (by omega)
        have hwi := wrap_succ (k := i) (by omega)
        have hwjm : IntKind.i64.wrap ((j : Int) - 1) = (jm : Int) := by rw [wrap_i64 (by omega) (by omega)]; omega
        have hq1 := pair_at (l := cur) (k := k + j) (by omega)
        have hq2 := pair_at (l := cur) (k := k + jm) (by omega)
        rw [hcur _ (by omega) (by omega), Nat.add_mul] at hq1 hq2
        have hdj := dd_succ (l := l) (k := k + j) (by omega) h4'
        have ejm : k + j - 1 = k + jm := by omega
        simp only [ejm] at hdj hcur hcd
        obtain ⟨u, hu⟩ : ∃ u, u = l[k + j] := ⟨_, rfl⟩
        obtain ⟨v, hv⟩ : ∃ v, v = l[k + jm]'(by omega) := ⟨_, rfl⟩
        rw [← hu] at hq1 hdj
        rw [← hv] at hq2 hdj
        have hset := spl_row (rows := cur.map Pair.row) (e := 2) (k := i) (row := u.row) (rows_len fun _ => rfl) rfl (by simp; omega)
        obtain ⟨E, hE⟩ : ∃ E, E = rowCells (cur.map Pair.row) := ⟨_, rfl⟩
        rw [← hE] at hlc2 hce2 hq1 hq2 hset ⊢
        have hm1 : k * 2 + j * 2 + 2 ≤ E.length := by omega
        have hm2 : k * 2 + jm * 2 + 2 ≤ E.length := by omega
        have hm3 : i * 2 + 2 ≤ E.length := by omega
        have hn1 : (j : Int) < ((l.length - k : Nat) : Int) := by omega
        have hn2 : (jm : Int) < ((l.length - k : Nat) : Int) := by omega
        have hn3 : (i : Int) < (l.length : Int) := by omega
        have hcd' : ∀ c : List Pair, c.drop (k + jm) = l.drop (k + jm) → c.drop (k + j) = l.drop (k + j) := by
          intro c hc
          have := congrArg (List.drop 1) hc
          rw [List.drop_drop, List.drop_drop] at this
          rwa [show k + jm + 1 = k + j by omega] at this
        (simp (config := { maxSteps := 1000000 }) [h4, hwjm, hn1, hn2, hm1, hm2, hq1, hq2, hce2, pair_beq])
        ((first | refine AW_cond_split _ (by rfl) (fun h5 => ?_) (fun h5 => ?_) | refine AWop_split _ (by rfl) (fun h5 => ?_) (fun h5 => ?_)) <;> (try simp only [decide_eq_true_eq, decide_eq_false_iff_not, Bool.not_eq_true', Bool.not_eq_false', Bool.and_eq_true, Bool.or_eq_true, beq_iff_eq, bne_iff_ne, ne_eq, beq_eq_false_iff_ne, bne_eq_false_iff_eq] at h5))
        · (simp (config := { maxSteps := 1000000 }) [h5, hn1, hn2, hn3, hm1, hm2, hm3, hq1, hq2, hce2, hwi, hwj])
          rw [if_neg (by intro e; exact h5 e.symm)] at hdj
          have hset' : List.take (i * 2) E ++ AI u.v :: AI u.l :: List.drop (i * 2 + 2) E = rowCells ((cur.set i u).map Pair.row) := by
            rw [List.map_set, ← hset]; simp [spl, Pair.row]
          rw [hset']
          refine hN2 _ (j + 1, i + 1, cur.set i u) ⟨by simp only; omega, by simp only; omega, by simp only; omega, by simpa using hcl, ?_, ?_⟩ (by simp only; (refine Wk.of ?_ ?_ (by simp) <;> repeat' (first | exact True.intro | exact ⟨_, rfl, wkt_same rfl⟩ | exact ⟨_, rfl, wkt_erase rfl⟩ | exact ⟨_, rfl, .inl .nild⟩ | exact ⟨_, rfl, wkt_nils⟩ | exact wkt_same rfl | exact wkt_erase rfl | exact .inl .nild | exact wkt_nils | exact WkB.same rfl | exact WkB_rows | exact WkB_nil | exact .dead _ | refine WkB_cons ?_ ?_ | refine And.intro ?_ ?_))) (by simp only; omega)
          · simp only
            rw [← Nat.add_assoc, hdj, ← hct, List.take_add_one, List.getElem?_set_self (by omega), List.take_set_of_le (by omega)]; rfl
          · simp only
            rw [show k + (j + 1) - 1 = k + j by omega, List.drop_set_of_lt (by omega)]; exact hcd' _ hcd
        · (simp (config := { maxSteps := 1000000 }) [h5, hwj])
          rw [if_pos (by simpa using Eq.symm (by simpa using h5))] at hdj
          refine hN2 _ (j + 1, i, cur) ⟨by simp only; omega, by simp only; omega, by simp only; omega, hcl, ?_, ?_⟩ (by simp only; rw [hE]; (refine Wk.of ?_ ?_ (by simp) <;> repeat' (first | exact True.intro | exact ⟨_, rfl, wkt_same rfl⟩ | exact ⟨_, rfl, wkt_erase rfl⟩ | exact ⟨_, rfl, .inl .nild⟩ | exact ⟨_, rfl, wkt_nils⟩ | exact wkt_same rfl | exact wkt_erase rfl | exact .inl .nild | exact wkt_nils | exact WkB.same rfl | exact WkB_rows | exact WkB_nil | exact .dead _ | refine WkB_cons ?_ ?_ | refine And.intro ?_ ?_))) (by simp only; omega)
          · simp only; rw [hct, ← Nat.add_assoc, hdj]
          · simp only; rw [show k + (j + 1) - 1 = k + j by omega]; exact hcd' _ hcd
      · have hj2 : k + j = l.length := by omega
        rw [hj2, List.take_length] at hct
        have hil : i < l.length := by omega
        have hil' : i ≤ l.length := by omega
        have hdl : (dd l).length = i := by rw [← hct]; simp; omega
        have hzero : ¬ (l.length - i = 0) := by omega
        (simp (config := { maxSteps := 1000000 }) [hil'])
        refine AWio_clr (by rfl) (by rfl) (by decide) (by omega) (by rfl) (by omega) ?_
        obtain ⟨T, hT⟩ : ∃ T : List Pair, T = List.replicate (l.length - i) (⟨0, 0⟩ : Pair) := ⟨_, rfl⟩
        obtain ⟨U, hU⟩ : ∃ U : List Pair, U = dd l ++ T := ⟨_, rfl⟩
        have hfin : spl (rowCells (cur.map Pair.row)) (i * 2) (rowCells (List.replicate (l.length - i) [I 0, I 0])) = rowCells (U.map Pair.row) := by
          have h7 : (rowCells (List.replicate (l.length - i) [I 0, I 0])).length = (l.length - i) * 2 := by
            rw [rowCells_len (e := 2) (fun r hr => by rw [List.eq_of_mem_replicate hr]; rfl)]; simp
          rw [spl, rowCells_take (e := 2) (rows := cur.map Pair.row) (rows_len (f := Pair.row) fun _ => rfl), h7, List.drop_of_length_le (by omega), List.append_nil, ← List.map_take, hct, hU, hT]
          simp [rowCells, Pair.row]
        rw [hfin]
        (simp (config := { maxSteps := 1000000 }) [hil'])
        refine hR _ _ (Fin_wk' _ (.hsl 0 0 2 i) [.mem (rowCells (U.map Pair.row))] rfl (by (refine Wk.of ?_ ?_ (by simp) <;> repeat' (first | exact True.intro | exact ⟨_, rfl, wkt_same rfl⟩ | exact ⟨_, rfl, wkt_erase rfl⟩ | exact ⟨_, rfl, .inl .nild⟩ | exact ⟨_, rfl, wkt_nils⟩ | exact wkt_same rfl | exact wkt_erase rfl | exact .inl .nild | exact wkt_nils | exact WkB.same rfl | exact WkB_rows | exact WkB_nil | exact .dead _ | refine WkB_cons ?_ ?_ | refine And.intro ?_ ?_))) ⟨by rw [hdl], by rw [hU, hT, cptP, hdl]⟩)
    · (simp (config := { maxSteps := 1000000 }) [h3, hw])
      refine hN _ (k + 1) ⟨by omega, hkl, ?_⟩ (by rw [hC]; (refine Wk.of ?_ ?_ (by simp) <;> repeat' (first | exact True.intro | exact ⟨_, rfl, wkt_same rfl⟩ | exact ⟨_, rfl, wkt_erase rfl⟩ | exact ⟨_, rfl, .inl .nild⟩ | exact ⟨_, rfl, wkt_nils⟩ | exact wkt_same rfl | exact wkt_erase rfl | exact .inl .nild | exact wkt_nils | exact WkB.same rfl | exact WkB_rows | exact WkB_nil | exact .dead _ | refine WkB_cons ?_ ?_ | refine And.intro ?_ ?_))) (by omega)
      have e : ¬ l[k - 1]'(by omega) = l[k] := by
        rw [← hx]; intro e; apply h3; rw [← e, hy]; simp only [hkm]
      rw [dd_succ hk1 hkl, if_neg e, hd, List.take_add_one, List.getElem?_eq_getElem hkl]; rfl
  · have hk' : k = l.length := by omega
    subst hk'
    rw [List.take_length] at hd
    (simp (config := { maxSteps := 1000000 }) [])
    refine hR _ _ (Fin_wk' _ (.hsl 0 0 2 l.length) [.mem (rowCells (l.map Pair.row))] rfl (by (refine Wk.of ?_ ?_ (by simp) <;> repeat' (first | exact True.intro | exact ⟨_, rfl, wkt_same rfl⟩ | exact ⟨_, rfl, wkt_erase rfl⟩ | exact ⟨_, rfl, .inl .nild⟩ | exact ⟨_, rfl, wkt_nils⟩ | exact wkt_same rfl | exact wkt_erase rfl | exact .inl .nild | exact wkt_nils | exact WkB.same rfl | exact WkB_rows | exact WkB_nil | exact .dead _ | refine WkB_cons ?_ ?_ | refine And.intro ?_ ?_))) ⟨by rw [hd], by rw [cptP_id hd]⟩)
end
end Go.AE

/- slices.SortFunc over pairs, as the library has it, told over abstract values. -/
set_option linter.unusedVariables false
namespace Go.AE
open Go Go.Proofs Go.Shelf Go.Sort
def encP (x : Pair) : List Value := [.int .i64 x.v, .int .i64 x.l]
def cfP (a b : Pair) : Int := if lessP a b = true then -1 else if lessP b a = true then 1 else 0
theorem ltOf_cfP (a b : Pair) : ltOf cfP a b = lessP a b := by
  unfold ltOf cfP
  cases h1 : lessP a b <;> cases h2 : lessP b a <;> simp
theorem swoP : SWO (ltOf cfP) where
  irrefl x := by rw [ltOf_cfP]; exact lessP_irrefl x
  trans x y z h1 h2 := by rw [ltOf_cfP] at *; exact lessP_trans h1 h2
  ntrans x y z h1 h2 := by
    rw [ltOf_cfP] at *
    have h1 : ¬ lessP x y = true := by simp [h1]
    have h2 : ¬ lessP y z = true := by simp [h2]
    cases h : lessP x z with
    | false => rfl
    | true => rw [lessP_iff] at *; omega
def sortP (l : List Pair) : List Pair := l.mergeSort fun x y => !lessP y x
theorem sortP_len (l : List Pair) : (sortP l).length = l.length := by simp [sortP]
theorem flat_get : ∀ (l : List Pair) (j : Nat) (h : j < 2 * l.length), (l.map Pair.row).flatten[j]? = some (if j % 2 = 0 then I (l[j / 2]'(by omega)).v else I (l[j / 2]'(by omega)).l) := by
  intro l
  induction l with
  | nil => intro j h; simp at h
  | cons x l ih =>
    intro j h
    match j, h with
    | 0, h => simp [Pair.row]
    | 1, h => simp [Pair.row]
    | j + 2, h =>
      have h' : j < 2 * l.length := by simp at h; omega
      have e := ih j h'
      have e1 : (j + 2) / 2 = j / 2 + 1 := by omega
      have e2 : (j + 2) % 2 = j % 2 := by omega
      simp only [List.map_cons, List.flatten_cons, Pair.row, List.cons_append, List.nil_append, List.getElem?_cons_succ, e2]
      rw [e]
      simp only [e1, List.getElem_cons_succ]
theorem flat_both (l : List Pair) (j : Nat) (h : j < 2 * l.length) : ∃ n : Int, (rowCells (l.map Pair.row))[j]? = some (AI n) ∧ (flatK encP 2 l.toArray)[j]! = .int .i64 n := by
  have h1 := flat_get l j h
  have h2 := get_flatK encP 2 l.toArray j (by simp; omega)
  have h3 : l.toArray[j / 2]! = l[j / 2]'(by omega) := by
    rw [getElem!_pos _ _ (by simp; omega)]; simp
  rw [h3] at h2
  rcases Nat.mod_two_eq_zero_or_one j with hm | hm
  · refine ⟨(l[j / 2]'(by omega)).v, ?_, ?_⟩
    · rw [rowCells, List.getElem?_map, h1, hm]; rfl
    · rw [h2, hm]; rfl
  · refine ⟨(l[j / 2]'(by omega)).l, ?_, ?_⟩
    · rw [rowCells, List.getElem?_map, h1, hm]; rfl
    · rw [h2, hm]; rfl
theorem rowCells2_len (l : List Pair) : (rowCells (l.map Pair.row)).length = 2 * l.length := by
  rw [rowCells_len (e := 2) (rows_len fun _ => rfl)]; simp; omega
theorem rowCells_d {rows : List (List D)} {j : Nat} {x : AV} (h : (rowCells rows)[j]? = some x) : ∃ d, x = .d d := by
  rw [rowCells, List.getElem?_map] at h
  cases hx : rows.flatten[j]? with
  | none => rw [hx] at h; cases h
  | some d => rw [hx] at h; injection h with h; exact ⟨d, h.symm⟩
section
variable {P : Program} {ρ : Ren}
theorem sort_some (L : SlLaysF0.n6 P ρ) (aE : ∀ w, (isAgg (ρ.t 24)).run P w = .ok true w) (zE : ∀ w, (Go.sizeOf (ρ.t 24)).run P w = .ok 2 w) (c : Nat) (eg : ∀ args w, (callFunc c args).run P w = .ok (.enter c args) w)
    (hcmp : ∀ blk off size w, CmpLays P c #[] encP 2 cfP blk off size w) (l : List Pair) (hne : l ≠ []) (hlen : l.length < 4611686018427387904) :
    CallsTo P (ρ.f 6) [.hsl 0 0 2 l.length, .fn (.func c) [] []] [.mem (rowCells (l.map Pair.row))] fun o H' => o = .ret (.tup []) ∧ H' = [.mem (rowCells ((sortP l).map Pair.row))] := by
  intro g vs w hsz hs
  have hn : l.length ≠ 0 := by simpa using hne
  obtain ⟨vs⟩ := vs
  obtain ⟨v0, v1, rfl⟩ : ∃ a b, vs = [a, b] := by
    match vs, hsz with
    | [a, b], _ => exact ⟨a, b, rfl⟩
  have e0 : Rel g.F g.φ w (.hsl 0 0 2 l.length) v0 := hs.env 0 _ rfl
  have e1 : Rel g.F g.φ w (.fn (.func c) [] []) v1 := hs.env 1 _ rfl
  cases e0 with
  | hsl _ _ _ _ r cap a hφ hcap ha =>
  have ha := ha hn; subst ha
  cases e1 with
  | fn _ _ _ us us' hl _ hl' _ =>
  have : us = [] := by simpa using hl
  subst this
  have : us' = [] := by simpa using hl'
  subst this
  obtain ⟨cl, te, hc, hcs, hcell⟩ := hs.mem 0 _ r rfl hφ
  have hF := (hs.lt 0 r hφ).2.1
  have hrl := (hs.lt 0 r hφ).1
  rw [rowCells2_len] at hcs
  have hH : HoldsK encP 2 w r 0 l.toArray := by
    intro j hj
    rw [size_flatK] at hj
    have hj' : j < 2 * l.length := by simp at hj; omega
    obtain ⟨n, h1, h2⟩ := flat_both l j hj'
    obtain ⟨_, u, hu, hrel⟩ := hcell j _ h1
    cases hrel with
    | d _ _ hp =>
    cases hp with
    | int k m =>
    constructor
    · rw [h2]; simp [World.cell?, hc, hu]
    · simp [World.frozen?, hc]
  have := AnyQ.slices_SortFunc_total L 2 aE zE encP (fun _ => rfl) (fun x v hv => by simp [encP] at hv; rcases hv with rfl | rfl <;> rfl) cfP swoP c #[] r 0 cap l.toArray w eg (hcmp r 0 _ w) hH hrl (by simpa using hlen) (fun x y h1 h2 => by rw [ltOf_cfP] at h1 h2; exact lessP_total h1 h2)
  refine Calls.mono (show Calls P (ρ.f 6) #[.slice (some ⟨r, 0, none⟩) l.length cap, .func (.func c) #[] #[]] w _ from this) ?_
  rintro e w' ⟨rfl, n, os, hw⟩
  have hw : w' = sortWorldK encP 2 w r 0 n (sortP l).toArray os := by
    rw [hw]; simp only [ltOf_cfP]; rfl
  obtain ⟨d, hd⟩ : ∃ d, d = sortP l := ⟨_, rfl⟩
  have hdl : d.length = l.length := by rw [hd, sortP_len]
  rw [← hd] at hw
  have hheap : w'.heap = (w.heap.modify r (onCells (putCells id 0 (flatK encP 2 d.toArray)))) ++ os := by rw [hw]; rfl
  have hother : ∀ r', r' < w.heap.size → r' ≠ r → w'.heap[r']? = w.heap[r']? := by
    intro r' h1 h2
    rw [hheap, Array.getElem?_append]
    simp only [Array.size_modify, h1, if_true, Array.getElem?_modify]
    rw [if_neg (Ne.symm h2)]
  have hsize : w.heap.size ≤ w'.heap.size := by rw [hheap]; simp
  have hr' : w'.heap[r]? = some (.cells (putCells id 0 (flatK encP 2 d.toArray) cl) te (0, 0)) := by
    rw [hheap, Array.getElem?_append]
    simp only [Array.size_modify, hrl, if_true, Array.getElem?_modify, if_true]
    rw [hc]; rfl
  have hno : ∀ (env : List (Nat × AV)) (cells : List D) b j e rows, AP ⟨env, [.mem (cells.map AV.d)]⟩ (.cell b j) ≠ some (.own e rows) := by
    intro env cells b j e rows h
    simp only [AP] at h
    cases b with
    | zero =>
      simp only [List.getElem?_cons_zero] at h
      rw [List.getElem?_map] at h
      cases hx : cells[j]? with
      | none => rw [hx] at h; cases h
      | some d => rw [hx] at h; cases h
    | succ b => simp at h
  have hno' : ∀ p e rows, AP ⟨[(0, .tup [])], [.mem (rowCells (d.map Pair.row))]⟩ p ≠ some (.own e rows) := by
    intro p e rows h
    cases p with
    | tmp t => simp only [AP, get] at h; split at h <;> cases h
    | cell b j => exact hno _ _ _ _ _ _ h
  have hb0 : ∀ b r', g.φ b = some r' → b = 0 := fun b r' h => by have := (hs.lt b r' h).2.2; simp at this; exact this
  refine ⟨.ret (.tup []), [.mem (rowCells (d.map Pair.row))], g, .tuple #[], ⟨rfl, by rw [hd]⟩, rfl, ?_, ?_, fun _ _ _ h => h, by simp, ?_⟩
  · refine { size := by simp, env := ?_, defers := rfl, inj := hs.inj, lt := ?_, dom := ?_, mem := ?_, iter := ?_, own := ?_, excl := ?_, apart := ?_, view := ?_ }
    · intro t x hx
      simp only [get] at hx
      split at hx
      · rename_i h; subst h; injection hx with hx; subst hx
        exact .tup [] [] rfl fun j x u h => by simp at h
      · cases hx
    · intro b r' h
      obtain ⟨h1, h2, h3⟩ := hs.lt b r' h
      exact ⟨by omega, h2, by simpa using h3⟩
    · intro b k h hk
      cases b with
      | zero => exact ⟨r, hφ⟩
      | succ b => simp at h
    · intro b cells r' h hr2
      have hb := hb0 b r' hr2
      subst hb
      rw [hφ] at hr2; injection hr2 with hr2; subst hr2
      simp at h; subst h
      refine ⟨_, te, hr', ?_, ?_⟩
      · rw [rowCells2_len, hdl]; simp [putCells]; exact hcs
      · intro j x hx
        have hj : j < 2 * d.length := by
          have := (List.getElem?_eq_some_iff.1 hx).1
          rwa [rowCells2_len] at this
        obtain ⟨n, h1, h2⟩ := flat_both d j hj
        rw [hx] at h1; injection h1 with h1; subst h1
        refine ⟨rfl, .int .i64 n, ?_, .d _ _ (.int _ _)⟩
        have hjc : j < cl.size := by omega
        have hf : j < (flatK encP 2 d.toArray).size := by rw [size_flatK]; simp; omega
        simp only [putCells, Array.getElem?_mapIdx, hjc, Array.getElem?_eq_getElem, Option.map_some, Nat.zero_le, true_and, Nat.zero_add, hf, if_true, Nat.sub_zero, h2, id]
    · intro b s pos r' h _
      cases b with
      | zero => simp at h
      | succ b => simp at h
    · intro p e rows v h; exact absurd h (hno' p e rows)
    · rintro p p' r' ⟨e, rows, _, h, _⟩; exact absurd h (hno' p e rows)
    · rintro p r' b ⟨e, rows, _, h, _⟩; exact absurd h (hno' p e rows)
    · intro t org e rows h
      simp only [get] at h
      split at h <;> cases h
  · refine ⟨by rw [hw]; rfl, by rw [hw]; rfl, by rw [hw]; rfl, hsize, ?_, ?_⟩
    · intro r' h1 h2
      refine ⟨hother r' h1 ?_, rfl⟩
      rintro rfl; exact h2 (.inl ⟨0, hφ⟩)
    · refine ⟨fun _ _ => Nat.le_refl _, ?_⟩
      intro r' j u hj hu
      have hne : r' ≠ r := by rintro rfl; omega
      have hlt := World.block_lt_of_cell? w ⟨r', j, none⟩ hu
      have := hother r' hlt hne
      simp only [World.cell?] at hu ⊢
      rw [this]; exact hu
  · rintro r' (⟨b, hb⟩ | ⟨p, e, rows, _, h, _⟩)
    · exact .inl (.inl ⟨b, hb⟩)
    · exact absurd h (hno' p e rows)
theorem sort_none (L : SlLaysF0.n6 P ρ) (c : Nat) (x : AV) (hx : x = .d (.sl []) ∨ x = .nils ∨ x = .nile) :
    CallsTo P (ρ.f 6) [x, .fn (.func c) [] []] [] fun o H' => o = .ret (.tup []) ∧ H' = [] := by
  intro g vs w hsz hs
  obtain ⟨vs⟩ := vs
  obtain ⟨v0, v1, rfl⟩ : ∃ a b, vs = [a, b] := by
    match vs, hsz with
    | [a, b], _ => exact ⟨a, b, rfl⟩
  have e0 : Rel g.F g.φ w x.erase v0 := hs.env 0 _ rfl
  obtain ⟨a, cap, rfl⟩ : ∃ a cap, v0 = .slice a 0 cap := by
    rcases hx with rfl | rfl | rfl
    · cases e0 with
      | d _ _ h => cases h with
        | nil a cap => exact ⟨a, cap, rfl⟩
        | sl rows ad cap esz vs h1 h2 h3 h4 h5 h6 => exact ⟨_, _, rfl⟩
    · cases e0; exact ⟨_, _, rfl⟩
    · cases e0; exact ⟨_, _, rfl⟩
  refine Calls.mono (AnyF.slices_SortFunc_none L a cap v1 w) ?_
  rintro e w' ⟨rfl, rfl⟩
  have hno : ∀ (st : ASt) p e rows, st.H = [] → (∀ t e rows, get st.env t ≠ some (.own e rows)) → AP st p ≠ some (.own e rows) := by
    intro st p e rows h1 h2 h
    cases p with
    | tmp t => exact h2 t e rows h
    | cell b j => simp only [AP, h1] at h; simp at h
  have hno' : ∀ p e rows, AP ⟨[(0, .tup [])], []⟩ p ≠ some (.own e rows) := by
    intro p e rows
    refine hno _ p e rows rfl ?_
    intro t e rows h; simp only [get] at h; split at h <;> cases h
  have hb0 : ∀ b r, g.φ b ≠ some r := fun b r h => by have := (hs.lt b r h).2.2; simp at this
  refine ⟨.ret (.tup []), [], g, .tuple #[], ⟨rfl, rfl⟩, rfl, ?_, Tr.refl _ _ _, fun _ _ _ h => h, by simp, ?_⟩
  · refine { size := by simp, env := ?_, defers := rfl, inj := hs.inj, lt := fun b r h => absurd h (hb0 b r), dom := ?_, mem := ?_, iter := ?_, own := ?_, excl := ?_, apart := ?_, view := ?_ }
    · intro t x hx
      simp only [get] at hx
      split at hx
      · rename_i h; subst h; injection hx with hx; subst hx
        exact .tup [] [] rfl fun j x u h => by simp at h
      · cases hx
    · intro b k h; simp at h
    · intro b cells r h; simp at h
    · intro b s pos r h; simp at h
    · intro p e rows v h; exact absurd h (hno' p e rows)
    · rintro p p' r' ⟨e, rows, _, h, _⟩; exact absurd h (hno' p e rows)
    · rintro p r' b ⟨e, rows, _, h, _⟩; exact absurd h (hno' p e rows)
    · intro t org e rows h; simp only [get] at h; split at h <;> cases h
  · rintro r' (⟨b, hb⟩ | ⟨p, e, rows, _, h, _⟩)
    · exact absurd hb (hb0 b r')
    · exact absurd h (hno' p e rows)
end
end Go.AE

/- Sets of pairs: Make. -/
set_option linter.unusedVariables false
namespace Go.AE
open Go
/-- What is asked of slices.SortFunc. -/
structure SortOk (P : Program) (p : Nums) : Prop where
  none : CallsTo P p.slices_SortFunc_Pair [.d (.sl []), .fn (.func p.pairset_compare) [] []] [] fun o H' => o = .ret (.tup []) ∧ H' = []
  some : ∀ l : List Pair, l ≠ [] → l.length < 1000000 → CallsTo P p.slices_SortFunc_Pair [.hsl 0 0 2 l.length, .fn (.func p.pairset_compare) [] []] [.mem (rowCells (l.map Pair.row))] fun o H' => o = .ret (.tup []) ∧ H' = [.mem (rowCells ((sortP l).map Pair.row))]
theorem sortP_pw (l : List Pair) : (sortP l).Pairwise fun a b => lessP b a = false := by
  have := List.pairwise_mergeSort (le := fun x y => !lessP y x) (fun a b c h1 h2 => ?_) (fun a b => ?_) l
  · refine List.Pairwise.imp ?_ this
    intro a b h; simpa using h
  · simp only [Bool.not_eq_true'] at h1 h2 ⊢
    cases h : lessP c a with
    | false => rfl
    | true =>
      cases h3 : lessP b c with
      | true => rw [lessP_trans h3 h] at h1; cases h1
      | false => have := lessP_total h3 h2; subst this; rw [h] at h1; cases h1
  · cases h1 : lessP b a with
    | false => simp
    | true => simp [lessP_asymm h1]
theorem mem_sortP {l : List Pair} {q : Pair} : q ∈ sortP l ↔ q ∈ l := by unfold sortP; simp
theorem dd_sortP (l : List Pair) : dd (sortP l) = makeP l :=
  srt_ext (srt_dd (sortP_pw l)) (srt_makeP l) fun q => by rw [mem_dd, mem_sortP, mem_makeP]
theorem sortP_ne {l : List Pair} (h : l ≠ []) : sortP l ≠ [] := by
  intro e; have := sortP_len l; rw [e] at this; exact h (List.length_eq_zero_iff.1 this.symm)
section
theorem pairset_Make_nil {P : Program} {p : Nums} (A : All P p) (S : SortOk P p) : CallsTo P p.pairset_Make [.d (.sl [])] [] fun o H' => o = .ret (.d (.sl [])) ∧ H' = [] := by
  refine A.pairset_Make.run rfl fun R hR => ?_
  (simp (config := { maxSteps := 1000000 }) [ic_pairset_Make])
  refine AWcall_locn [] 0 (slices_Clone_Pair_nil A) (by decide) (by rfl) (by rfl) (by rfl) (by rfl) (by rfl) (by rfl) ?_
  (simp (config := { maxSteps := 1000000 }) [])
  refine AWcall_locn [] 0 S.none (by decide) (by rfl) (by rfl) (by rfl) (by rfl) (by rfl) (by rfl) ?_
  (simp (config := { maxSteps := 1000000 }) [])
  refine AWcall_locn [] 0 (slices_Compact_Pair_nil A) (by decide) (by rfl) (by rfl) (by rfl) (by rfl) (by rfl) (by rfl) ?_
  (simp (config := { maxSteps := 1000000 }) [])
  exact hR _ _ (Fin_wkv _ _ rfl (by (repeat' (first | exact True.intro | exact WkV.refl _ rfl | exact WkV.erase _ rfl | exact WkV.nild | exact WkV.nile | refine And.intro ?_ ?_ | refine WkV_agg ?_ | refine WkV_tup ?_))) ⟨rfl, rfl⟩)
theorem pairset_Make_h {P : Program} {p : Nums} (A : All P p) (S : SortOk P p) (l : List Pair) (hl : l ≠ []) (h0 : l.length < 1000000) : CallsTo P p.pairset_Make [.d (pairsD l)] [] fun o H' => o = .ret (.hsl 0 0 2 (makeP l).length) ∧ H' = [.mem (rowCells ((cptP (sortP l)).map Pair.row))] := by
  refine A.pairset_Make.run rfl fun R hR => ?_
  (simp (config := { maxSteps := 1000000 }) [ic_pairset_Make, pairsD])
  refine AWcall_locn [] 1 (slices_Clone_Pair_calls A l hl h0) (by decide) (by rfl) (by rfl) (by rfl) renB_rows (by rfl) (by rfl) ?_
  (simp (config := { maxSteps := 1000000 }) [])
  refine AWcall_locn [0] 0 (S.some l hl h0) (by decide) (by rfl) (by rfl) renB_rows renB_rows (by rfl) (by rfl) ?_
  (simp (config := { maxSteps := 1000000 }) [])
  have hs := slices_Compact_Pair_calls A (sortP l) (sortP_ne hl) (by rw [sortP_len]; exact h0)
  rw [sortP_len, dd_sortP] at hs
  refine AWcall_locn [0] 0 hs (by decide) (by rfl) (by rfl) renB_rows renB_rows (by rfl) (by rfl) ?_
  obtain ⟨n, hn⟩ : ∃ n, n = (makeP l).length := ⟨_, rfl⟩
  obtain ⟨U, hU⟩ : ∃ U, U = cptP (sortP l) := ⟨_, rfl⟩
  rw [← hn, ← hU]
  (simp (config := { maxSteps := 1000000 }) [])
  exact hR _ _ (Fin_wk' _ (.hsl 0 0 2 n) [.mem (rowCells (U.map Pair.row))] rfl (by (refine Wk.of ?_ ?_ (by simp) <;> repeat' (first | exact True.intro | exact ⟨_, rfl, wkt_same rfl⟩ | exact ⟨_, rfl, wkt_erase rfl⟩ | exact ⟨_, rfl, .inl .nild⟩ | exact ⟨_, rfl, wkt_nils⟩ | exact wkt_same rfl | exact wkt_erase rfl | exact .inl .nild | exact wkt_nils | exact WkB.same rfl | exact WkB_rows | exact WkB_nil | exact .dead _ | refine WkB_cons ?_ ?_ | refine And.intro ?_ ?_))) ⟨by rw [hn], by rw [hU]⟩)
theorem pairset_Make_calls {P : Program} {p : Nums} (A : All P p) (S : SortOk P p) (l : List Pair) (h0 : l.length < 1000000) : CallsTo P p.pairset_Make [.d (pairsD l)] [] fun o _ => o = .ret (.d (pairsD (makeP l))) := by
  by_cases hl : l = []
  · subst hl
    exact (pairset_Make_nil A S).mono fun o H' h => h.1
  · refine A.pairset_Make.run rfl fun R hR => ?_
    (simp (config := { maxSteps := 1000000 }) [ic_pairset_Make, pairsD])
    refine AWcall_locn [] 1 (slices_Clone_Pair_calls A l hl h0) (by decide) (by rfl) (by rfl) (by rfl) renB_rows (by rfl) (by rfl) ?_
    (simp (config := { maxSteps := 1000000 }) [])
    refine AWcall_locn [0] 0 (S.some l hl h0) (by decide) (by rfl) (by rfl) renB_rows renB_rows (by rfl) (by rfl) ?_
    (simp (config := { maxSteps := 1000000 }) [])
    have hs := slices_Compact_Pair_calls A (sortP l) (sortP_ne hl) (by rw [sortP_len]; exact h0)
    rw [sortP_len, dd_sortP] at hs
    refine AWcall_locn [0] 0 hs (by decide) (by rfl) (by rfl) renB_rows renB_rows (by rfl) (by rfl) ?_
    obtain ⟨n, hn⟩ : ∃ n, n = (makeP l).length := ⟨_, rfl⟩
    obtain ⟨U, hU⟩ : ∃ U, U = cptP (sortP l) := ⟨_, rfl⟩
    rw [← hn, ← hU]
    (simp (config := { maxSteps := 1000000 }) [])
    refine hR _ _ (Fin_wkv _ _ rfl (WkV.hsl 0 0 2 n _ ((makeP l).map Pair.row) rfl (by omega) ?_ (by rw [hn]; simp) (rows_len fun _ => rfl)) rfl)
    show ((rowCells (U.map Pair.row)).drop 0).take (n * 2) = rowCells ((makeP l).map Pair.row)
    rw [List.drop_zero, rowCells_take (e := 2) (rows := U.map Pair.row) (rows_len (f := Pair.row) fun _ => rfl), ← List.map_take, hU, cptP, dd_sortP, hn, List.take_left']
    rfl
end
end Go.AE

/- Sets of pairs: the fixed examples; the order. -/
set_option linter.unusedVariables false
namespace Go.AE
open Go
def pP : Pair := ⟨1, 4⟩
def pQ : Pair := ⟨0, 6⟩
theorem mk_pqp : makeP [pP, pQ, pP] = [pQ, pP] := by decide
theorem mis_qp : missA [pQ, pP] [pQ] = .tup [pP.av, AB true] := by
  have : missP [pQ, pP] [pQ] = some pP := by decide
  unfold missA; rw [this]; rfl
theorem srt_q : Srt [pQ] := List.pairwise_singleton _ _
theorem srt_p : Srt [pP] := List.pairwise_singleton _ _
theorem srt_qp : Srt [pQ, pP] := by rw [← mk_pqp]; exact srt_makeP _
section
theorem law11_awake_calls {P : Program} {p : Nums} (A : All P p) (S : SortOk P p) : CallsTo P p.law11_awake [] [] fun o _ => o = .ret (AB true) := by
  refine A.law11_awake.run rfl fun R hR => ?_
  (simp (config := { maxSteps := 1000000 }) [ic_law11_awake])
  have h1 := pairset_Make_calls A S [pP, pQ, pP] (by decide)
  rw [mk_pqp] at h1
  (refine AWcall_det h1 (by rfl) (by rfl) ?_)
  (simp (config := { maxSteps := 1000000 }) [pairsD])
  have h2 := pairset_Missing_calls A [pQ, pP] [pQ] (by decide) (by decide) srt_qp srt_q
  rw [mis_qp] at h2
  (refine AWcall_det h2 (by rfl) (by rfl) ?_)
  (simp (config := { maxSteps := 1000000 }) [Pair.av, pP])
  have h3 := ref11_Same_calls A [pQ, pP] [pQ, pP] (by decide) (by decide)
  rw [decide_eq_true rfl] at h3
  (refine AWcall_det h3 (by rfl) (by rfl) ?_)
  (simp (config := { maxSteps := 1000000 }) [])
  have h4 := pairset_Less_calls A pQ pP
  rw [show lessP pQ pP = true by decide] at h4
  (refine AWcall_det h4 (by rfl) (by rfl) ?_)
  (simp (config := { maxSteps := 1000000 }) [])
  have h5 := pairset_Less_calls A pP pP
  rw [show lessP pP pP = false by decide] at h5
  (refine AWcall_det h5 (by rfl) (by rfl) ?_)
  (simp (config := { maxSteps := 1000000 }) [])
  have h6 := pairset_Has_calls A [pQ, pP] pQ (by decide) srt_qp
  rw [show decide (pQ ∈ [pQ, pP]) = true by decide] at h6
  (refine AWcall_det h6 (by rfl) (by rfl) ?_)
  (simp (config := { maxSteps := 1000000 }) [])
  have h7 := pairset_Add_calls A [pP] pQ (by decide) srt_p
  rw [show addP [pP] pQ = [pQ, pP] by decide] at h7
  (refine AWcall_det h7 (by rfl) (by rfl) ?_)
  (simp (config := { maxSteps := 1000000 }) [])
  (refine AWcall_det h3 (by rfl) (by rfl) ?_)
  (simp (config := { maxSteps := 1000000 }) [])
  have h8 := pairset_Sorted_calls A [pP, pP] (by decide)
  rw [show sortedP [pP, pP] = false by decide] at h8
  (refine AWcall_det h8 (by rfl) (by rfl) ?_)
  (simp (config := { maxSteps := 1000000 }) [])
  have h9 := pairset_Subset_calls A [pP] [pQ, pP] (by decide) (by decide) srt_p srt_qp
  rw [show subP [pP] [pQ, pP] = true by decide] at h9
  (refine AWcall_det h9 (by rfl) (by rfl) ?_)
  (simp (config := { maxSteps := 1000000 }) [])
  have h10 := pairset_Union_calls A [pP] [pQ, pP] (by decide) (by decide)
  rw [mergeP_make srt_p srt_qp, show makeP ([pP] ++ [pQ, pP]) = [pQ, pP] by decide] at h10
  (refine AWcall_det h10 (by rfl) (by rfl) ?_)
  (simp (config := { maxSteps := 1000000 }) [])
  (refine AWcall_det h3 (by rfl) (by rfl) ?_)
  (simp (config := { maxSteps := 1000000 }) [])
  (first | exact hR _ _ (Fin_ret _ rfl rfl rfl) | exact hR _ _ (Fin_normal _ rfl rfl rfl) | exact hR _ _ (Fin_ret _ rfl rfl (by simp [AV.erase, AV.unview]; done)) | exact hR _ _ (Fin_normal _ rfl rfl (by simp [AV.erase, AV.unview]; done)) | fail "no end")
theorem law11_PairsetOrder_calls {P : Program} {p : Nums} (A : All P p) (S : SortOk P p) (a b c : Pair) : CallsTo P p.law11_PairsetOrder [a.av, b.av, c.av] [] fun o _ => o = .ret (AB true) := by
  refine A.law11_PairsetOrder.run rfl fun R hR => ?_
  (simp (config := { maxSteps := 1000000 }) [ic_law11_PairsetOrder, Pair.av])
  (refine AWcall_det (law11_awake_calls A S) (by rfl) (by rfl) ?_)
  (simp (config := { maxSteps := 1000000 }) [])
  (refine AWcall_det (pairset_Less_calls A a b) (by rfl) (by rfl) ?_)
  (simp (config := { maxSteps := 1000000 }) [])
  cases hab : lessP a b with
  | true =>
    have hba := lessP_asymm hab
    have hne := lessP_ne hab
    (simp (config := { maxSteps := 1000000 }) [hab])
    have hw : IntKind.i64.wrap 1 = 1 := by decide
    (refine AWcall_det (pairset_Less_calls A b a) (by rfl) (by rfl) ?_)
    rw [hba]
    (simp (config := { maxSteps := 1000000 }) [hw, pair_beq, hne])
    (refine AWcall_det (pairset_Less_calls A a b) (by rfl) (by rfl) ?_)
    rw [hab]
    (simp (config := { maxSteps := 1000000 }) [])
    (refine AWcall_det (pairset_Less_calls A b c) (by rfl) (by rfl) ?_)
    (simp (config := { maxSteps := 1000000 }) [])
    cases hbc : lessP b c with
    | true =>
      have hac := lessP_trans hab hbc
      (simp (config := { maxSteps := 1000000 }) [hbc])
      (refine AWcall_det (pairset_Less_calls A a c) (by rfl) (by rfl) ?_)
      rw [hac]
      (simp (config := { maxSteps := 1000000 }) [])
      (first | exact hR _ _ (Fin_ret _ rfl rfl rfl) | exact hR _ _ (Fin_normal _ rfl rfl rfl) | exact hR _ _ (Fin_ret _ rfl rfl (by simp [AV.erase, AV.unview]; done)) | exact hR _ _ (Fin_normal _ rfl rfl (by simp [AV.erase, AV.unview]; done)) | fail "no end")
    | false =>
      (simp (config := { maxSteps := 1000000 }) [hbc])
      (first | exact hR _ _ (Fin_ret _ rfl rfl rfl) | exact hR _ _ (Fin_normal _ rfl rfl rfl) | exact hR _ _ (Fin_ret _ rfl rfl (by simp [AV.erase, AV.unview]; done)) | exact hR _ _ (Fin_normal _ rfl rfl (by simp [AV.erase, AV.unview]; done)) | fail "no end")
  | false =>
    (simp (config := { maxSteps := 1000000 }) [hab])
    have hw : IntKind.i64.wrap 1 = 1 := by decide
    (refine AWcall_det (pairset_Less_calls A b a) (by rfl) (by rfl) ?_)
    (simp (config := { maxSteps := 1000000 }) [])
    cases hba : lessP b a with
    | true =>
      have hne : ¬ a = b := fun h => lessP_ne hba h.symm
      (simp (config := { maxSteps := 1000000 }) [hba, hw, pair_beq, hne])
      (refine AWcall_det (pairset_Less_calls A a b) (by rfl) (by rfl) ?_)
      rw [hab]
      (simp (config := { maxSteps := 1000000 }) [])
      (first | exact hR _ _ (Fin_ret _ rfl rfl rfl) | exact hR _ _ (Fin_normal _ rfl rfl rfl) | exact hR _ _ (Fin_ret _ rfl rfl (by simp [AV.erase, AV.unview]; done)) | exact hR _ _ (Fin_normal _ rfl rfl (by simp [AV.erase, AV.unview]; done)) | fail "no end")
    | false =>
      have he := lessP_total hab hba
      subst he
      (simp (config := { maxSteps := 1000000 }) [hba, hw, pair_beq])
      (refine AWcall_det (pairset_Less_calls A a a) (by rfl) (by rfl) ?_)
      rw [hab]
      (simp (config := { maxSteps := 1000000 }) [])
      (first | exact hR _ _ (Fin_ret _ rfl rfl rfl) | exact hR _ _ (Fin_normal _ rfl rfl rfl) | exact hR _ _ (Fin_ret _ rfl rfl (by simp [AV.erase, AV.unview]; done)) | exact hR _ _ (Fin_normal _ rfl rfl (by simp [AV.erase, AV.unview]; done)) | fail "no end")
end
end Go.AE

/- The seat's comparison of pairs and its sort. -/
set_option linter.unusedVariables false
namespace Go.AE
open Go Go.Proofs Go.Shelf Go.Sort Go.RowKit Go.Lib
def objP (x : Pair) : Obj := .cells #[.int .i64 x.v, .int .i64 x.l] 25
set_option maxHeartbeats 1000000 in
theorem less_walk (x y : Pair) (W : World) : Calls Try.prog 28 #[.agg #[.int .i64 x.v, .int .i64 x.l], .agg #[.int .i64 y.v, .int .i64 y.l]] W fun e w' => e = .returned (.bool (lessP x y)) ∧ w' = (W.alloc (.cells #[.int .i64 x.v, .int .i64 x.l] 25)).alloc (.cells #[.int .i64 y.v, .int .i64 y.l] 25) := by
  go_enter Try.func28, Try.ntmps28
  go_wp2 <;> go_ret <;> refine ⟨?_, ?_⟩
  all_goals first | (unfold lessP; congr 2; (repeat' split) <;> (first | (simp; omega) | (simp; done) | omega); done) | (first | rfl | (simp_all; done))
set_option maxHeartbeats 1000000 in
theorem compare_walk (x y : Pair) (W : World) : Calls Try.prog 56 #[.agg #[.int .i64 x.v, .int .i64 x.l], .agg #[.int .i64 y.v, .int .i64 y.l]] W fun e w' => e = .returned (.int .i64 (cfP x y)) ∧ ∃ q os', w' = grow (W.drewN q) os' := by
  unfold cfP
  have hl : ∀ x1 x2 y1 y2 W, Calls Try.prog 28 #[.agg #[.int .i64 x1, .int .i64 x2], .agg #[.int .i64 y1, .int .i64 y2]] W fun e w' => e = .returned (.bool (lessP ⟨x1, x2⟩ ⟨y1, y2⟩)) ∧ w' = (W.alloc (.cells #[.int .i64 x1, .int .i64 x2] 25)).alloc (.cells #[.int .i64 y1, .int .i64 y2] 25) := fun x1 x2 y1 y2 W => less_walk ⟨x1, x2⟩ ⟨y1, y2⟩ W
  obtain ⟨x1, x2⟩ := x
  obtain ⟨y1, y2⟩ := y
  obtain ⟨f, hf⟩ : ∃ f : Int → Int → Int → Int → Bool, f = fun x1 x2 y1 y2 => lessP ⟨x1, x2⟩ ⟨y1, y2⟩ := ⟨_, rfl⟩
  have hf' : ∀ x1 x2 y1 y2, lessP ⟨x1, x2⟩ ⟨y1, y2⟩ = f x1 x2 y1 y2 := fun _ _ _ _ => by rw [hf]
  simp only [hf'] at hl ⊢
  clear hf hf'
  go_enter Try.func56, Try.ntmps56
  go_wp2_with (go_at_call 28; refine (hl _ _ _ _ _).mono ?_; rintro e w' ⟨rfl, rfl⟩)
  all_goals go_ret
  all_goals refine ⟨by simp, 0, _, by simp only [alloc_eq_grow, grow_grow]; rfl⟩
theorem cmpLays (blk off size : Nat) (w : World) : CmpLays Try.prog 56 #[] encP 2 cfP blk off size w :=
  fun _ _ _ _ x y => compare_walk x y _
def sortPair_ren : Go.Shelf.Ren := ⟨fun | 6 => 55 | 15 => 76 | 14 => 75 | 28 => 93 | 29 => 94 | 20 => 85 | 21 => 86 | 22 => 87 | 23 => 88 | 24 => 89 | 25 => 90 | 26 => 91 | 27 => 92 | 46 => 98 | 47 => 99 | 48 => 100 | 49 => 101 | 50 => 102 | 57 => 112 | n => n, fun | 22 => 22 | 24 => 25 | 25 => 77 | 3 => 3 | 39 => 101 | 0 => 0 | 53 => 122 | 55 => 110 | 4 => 4 | 46 => 115 | 45 => 114 | 50 => 119 | 5 => 5 | 9 => 9 | 66 => 126 | 70 => 130 | 76 => 137 | 77 => 138 | n => n, fun | n => n⟩
theorem sortPair : Go.Proofs.SlLaysF0.n6 Try.prog sortPair_ren := {
  mixed := by kernel_rfl,
  f6 := ⟨Try.f55.name, by decide, Try.func55.trans (congrArg some (by kernel_rfl))⟩,
  f14 := ⟨Try.f75.name, by decide, Try.func75.trans (congrArg some (by kernel_rfl))⟩,
  f15 := Try.func76.trans (congrArg some (by kernel_rfl)),
  f20 := ⟨Try.f85.name, by decide, Try.func85.trans (congrArg some (by kernel_rfl))⟩,
  f21 := ⟨Try.f86.name, by decide, Try.func86.trans (congrArg some (by kernel_rfl))⟩,
  f22 := ⟨Try.f87.name, by decide, Try.func87.trans (congrArg some (by kernel_rfl))⟩,
  f23 := ⟨Try.f88.name, by decide, Try.func88.trans (congrArg some (by kernel_rfl))⟩,
  f24 := ⟨Try.f89.name, by decide, Try.func89.trans (congrArg some (by kernel_rfl))⟩,
  f25 := ⟨Try.f90.name, by decide, Try.func90.trans (congrArg some (by kernel_rfl))⟩,
  f26 := ⟨Try.f91.name, by decide, Try.func91.trans (congrArg some (by kernel_rfl))⟩,
  f27 := ⟨Try.f92.name, by decide, Try.func92.trans (congrArg some (by kernel_rfl))⟩,
  f28 := Try.func93.trans (congrArg some (by kernel_rfl)),
  f29 := Try.func94.trans (congrArg some (by kernel_rfl)),
  f46 := ⟨Try.f98.name, by decide, Try.func98.trans (congrArg some (by kernel_rfl))⟩,
  f47 := Try.func99.trans (congrArg some (by kernel_rfl)),
  f48 := Try.func100.trans (congrArg some (by kernel_rfl)),
  f49 := ⟨Try.f101.name, by decide, Try.func101.trans (congrArg some (by kernel_rfl))⟩,
  f50 := ⟨Try.f102.name, by decide, Try.func102.trans (congrArg some (by kernel_rfl))⟩,
  f57 := ⟨Try.f112.name, by decide, Try.func112.trans (congrArg some (by kernel_rfl))⟩,
  t0 := Try.underlying0,
  a0 := Try.isAgg0,
  z0 := Try.sizeOf0,
  v0 := Try.zeroValue0,
  t3 := Try.underlying3,
  a3 := Try.isAgg3,
  z3 := Try.sizeOf3,
  v3 := Try.zeroValue3,
  t4 := Try.underlying4,
  a4 := Try.isAgg4,
  z4 := Try.sizeOf4,
  v4 := Try.zeroValue4,
  t5 := Try.underlying5,
  a5 := Try.isAgg5,
  z5 := Try.sizeOf5,
  v5 := Try.zeroValue5,
  t9 := Try.underlying9,
  a9 := Try.isAgg9,
  z9 := Try.sizeOf9,
  v9 := Try.zeroValue9,
  t22 := Try.underlying22,
  a22 := Try.isAgg22,
  z22 := Try.sizeOf22,
  v22 := Try.zeroValue22,
  t25 := Try.underlying77,
  a25 := Try.isAgg77,
  z25 := Try.sizeOf77,
  v25 := Try.zeroValue77,
  t39 := Try.underlying101,
  a39 := Try.isAgg101,
  z39 := Try.sizeOf101,
  v39 := Try.zeroValue101,
  t45 := Try.underlying114,
  a45 := Try.isAgg114,
  z45 := Try.sizeOf114,
  v45 := Try.zeroValue114,
  t46 := Try.underlying115,
  a46 := Try.isAgg115,
  z46 := Try.sizeOf115,
  v46 := Try.zeroValue115,
  t50 := Try.underlying119,
  a50 := Try.isAgg119,
  z50 := Try.sizeOf119,
  v50 := Try.zeroValue119,
  t53 := Try.underlying122,
  a53 := Try.isAgg122,
  z53 := Try.sizeOf122,
  v53 := Try.zeroValue122,
  t55 := Try.underlying110,
  a55 := Try.isAgg110,
  z55 := Try.sizeOf110,
  v55 := Try.zeroValue110,
  t66 := Try.underlying126,
  a66 := Try.isAgg126,
  z66 := Try.sizeOf126,
  v66 := Try.zeroValue126,
  t70 := Try.underlying130,
  a70 := Try.isAgg130,
  z70 := Try.sizeOf130,
  v70 := Try.zeroValue130,
  t76 := Try.underlying137,
  a76 := Try.isAgg137,
  z76 := Try.sizeOf137,
  v76 := Try.zeroValue137,
  t77 := Try.underlying138,
  a77 := Try.isAgg138,
  z77 := Try.sizeOf138,
  v77 := Try.zeroValue138 }
theorem enters56 : ∀ args w, (callFunc 56 args).run Try.prog w = .ok (.enter 56 args) w := enters_of Try.func56 (by kernel_rfl) rfl
theorem sortOk (p : Nums) (h1 : p.slices_SortFunc_Pair = 55) (h2 : p.pairset_compare = 56) : SortOk Try.prog p := by
  refine ⟨?_, ?_⟩
  · rw [h1, h2]
    exact sort_none sortPair 56 _ (.inl rfl)
  · intro l hl h0
    rw [h1, h2]
    exact sort_some sortPair Try.isAgg25 Try.sizeOf25 56 enters56 cmpLays l hl (by omega)
end Go.AE

/- The readings of integers, pairs and sets of pairs. -/
set_option linter.unusedVariables false
namespace Go.AE
open Go
theorem HasL.cons_inv {l : LT} {ls : List LT} {ds : List D} (h : HasL (l :: ls) ds) : ∃ d ds', ds = d :: ds' ∧ HasT l d ∧ HasL ls ds' := by
  obtain ⟨h1, h2⟩ := h
  cases ds with
  | nil => simp at h1
  | cons d ds => exact ⟨d, ds, rfl, h2 0 l d rfl rfl, by simpa using h1, fun j l' x a b => h2 (j + 1) l' x (by simpa using a) (by simpa using b)⟩
theorem HasL.nil_inv {ds : List D} (h : HasL [] ds) : ds = [] := by
  have := h.1; simpa using this
theorem HasT.int_inv {k : IntKind} {d : D} (h : HasT (.int k) d) : ∃ n, d = .int k n ∧ (Lit.int k n).wf = true := by
  cases h with
  | int _ n h => exact ⟨n, rfl, h⟩
theorem HasT.sl_inv {ls : List LT} {d : D} (h : HasT (.sl ls) d) : ∃ rows, d = .sl rows ∧ rows.length ≤ maxLen ∧ ∀ r ∈ rows, HasL ls r := by
  cases h with
  | sl _ rows hl h0 h => exact ⟨rows, rfl, hl, fun r hr => ⟨h0 r hr, h r hr⟩⟩
theorem rows_of {α : Type} {g : α → List D} {Q : List D → Prop} (h : ∀ r, Q r → ∃ x, r = g x) : ∀ {rows : List (List D)}, (∀ r ∈ rows, Q r) → ∃ l : List α, rows = l.map g := by
  intro rows
  induction rows with
  | nil => intro _; exact ⟨[], rfl⟩
  | cons r rows ih =>
    intro hq
    obtain ⟨x, rfl⟩ := h r (hq r (by simp))
    obtain ⟨l, rfl⟩ := ih fun r hr => hq r (by simp [hr])
    exact ⟨x :: l, rfl⟩
def ltI : LT := .int .i64
def ltPair : List LT := [ltI, ltI]
theorem pairRow_of {r : List D} (h : HasL ltPair r) : ∃ i : Pair, r = i.row := by
  obtain ⟨_, _, rfl, h0, h⟩ := h.cons_inv
  obtain ⟨_, _, rfl, h1, h⟩ := h.cons_inv
  obtain rfl := h.nil_inv
  obtain ⟨a, rfl, _⟩ := h0.int_inv
  obtain ⟨b, rfl, _⟩ := h1.int_inv
  exact ⟨⟨a, b⟩, rfl⟩
theorem pair_of {ds : List D} (h : HasL ltPair ds) : ∃ f : Pair, .agg (ds.map AV.d) = f.av := by
  obtain ⟨f, rfl⟩ := pairRow_of h
  exact ⟨f, rfl⟩
theorem pairs_of {d : D} (h : HasT (.sl ltPair) d) : ∃ l : List Pair, AV.d d = .d (pairsD l) ∧ l.length ≤ maxLen := by
  obtain ⟨rows, rfl, hl, hr⟩ := h.sl_inv
  obtain ⟨l, rfl⟩ := rows_of (fun r hr => pairRow_of hr) hr
  exact ⟨l, rfl, by simpa using hl⟩
theorem int_of {d : D} (h : HasT ltI d) : ∃ n : Int, AV.d d = AI n ∧ -9223372036854775808 ≤ n ∧ n ≤ 9223372036854775807 := by
  obtain ⟨n, rfl, hw⟩ := h.int_inv
  refine ⟨n, rfl, ?_⟩
  simp [Lit.wf, IntKind.min, IntKind.max, IntKind.signed, IntKind.bits] at hw
  omega
end Go.AE
