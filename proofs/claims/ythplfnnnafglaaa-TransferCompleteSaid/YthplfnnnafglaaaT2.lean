/- A part of the proof: the evaluator over abstract values, its codes, the contracts of the functions. -/
import Derived.Test.YthplfnnnafglaaaT1
import Derived.ProofKit
import Derived.Below
import Derived.ChangeArms
import Derived.Sort.Grow
import Derived.Deep.Draws
set_option linter.unusedVariables false
set_option linter.unusedSimpArgs false
/- More of the rules by which an abstract run is worked out. -/
set_option linter.unusedVariables false
namespace Go.AE
open Go
section
variable {P : Program} {m : Nat} {Q : AExit → ASt → Prop} {st : ASt} {K : ASt → Prop} {QP : AV → ASt → Prop} {dst : Option Nat} {io : AO}
theorem AWop_q_on {t : Nat} {want : Bool} (h : get st.env t = some (.d (.bool want))) : AWop P ⟨dst, io, some (t, want), true⟩ K QP st ↔ qOk true dst st ∧ AWio P true io dst K QP st := by
  unfold AWop; simp [h]
theorem AWop_q_off {t : Nat} {want : Bool} (h : get st.env t = some (.d (.bool !want))) : AWop P ⟨dst, io, some (t, want), true⟩ K QP st ↔ qOk true dst st ∧ K (put dst (.tup []) st) := by
  unfold AWop; cases want <;> simp [h]
theorem AWop_q_off1 {t : Nat} (h : get st.env t = some (.d (.bool false))) : AWop P ⟨dst, io, some (t, true), true⟩ K QP st ↔ qOk true dst st ∧ K (put dst (.tup []) st) := AWop_q_off h
theorem AWop_q_off2 {t : Nat} (h : get st.env t = some (.d (.bool true))) : AWop P ⟨dst, io, some (t, false), true⟩ K QP st ↔ qOk true dst st ∧ K (put dst (.tup []) st) := AWop_q_off h
theorem AWop_q_none {t : Nat} {want : Bool} (h : get st.env t = some (.tup [])) : AWop P ⟨dst, io, some (t, want), true⟩ K QP st ↔ qOk true dst st ∧ K (put dst (.tup []) st) := by
  unfold AWop; simp [h]
attribute [simp] AWop_q_on AWop_q_off1 AWop_q_off2 AWop_q_none
attribute [simp] wback

/-- A call over some of the caller's blocks, with one known end. -/
theorem AWcall_loc (bs : List Nat) {f : Nat} {args cargs : List AV} {Hp Hc Hc' Hb : List Blk} {x y : AV} (h : CallsTo P f cargs Hc fun o H' => o = .ret x ∧ H' = Hc')
    (hnd : bs.Nodup) (ha : renL (idx bs) args = some cargs) (hp : picks st.H bs = some Hp) (hc : renB (idx bs) Hp = some Hc) (hb : renB (back bs st.H.length 0) Hc' = some Hb)
    (hl : Hc'.length = bs.length) (hx : x.ren (back bs st.H.length 0) = some y) (hK : K (put dst y ⟨unview st.env, wback st.H bs Hb⟩)) : AWcall P false f args dst K QP st := by
  refine .inr ⟨rfl, .inr ⟨bs, hnd, cargs, Hp, Hc, ha, hp, hc, h.mono ?_⟩⟩
  rintro o H' ⟨rfl, he⟩
  subst he
  have ht : H'.take (bs.length + 0) = H' := by rw [Nat.add_zero, ← hl, List.take_length]
  have hlen : ∀ {l l' : List Blk}, renB (back bs st.H.length 0) l = some l' → l'.length = l.length := by
    intro l
    induction l with
    | nil => intro l' h; simp [renB] at h; subst h; rfl
    | cons k l ih =>
      intro l' h
      simp only [renB] at h
      split at h
      · rename_i a b h1 h2; injection h with h; subst h; simp [ih h2]
      · cases h
  refine ⟨0, Hb, y, by rw [ht]; exact hb, by omega, hx, ?_⟩
  have e : Hb.length = bs.length := by rw [hlen hb, hl]
  rw [← e, List.take_length, List.drop_length, List.append_nil]
  exact hK
theorem renB_len {ρ : Nat → Option Nat} : ∀ {l l' : List Blk}, renB ρ l = some l' → l'.length = l.length := by
  intro l
  induction l with
  | nil => intro l' h; simp [renB] at h; subst h; rfl
  | cons k l ih =>
    intro l' h
    simp only [renB] at h
    split at h
    · rename_i a b h1 h2; injection h with h; subst h; simp [ih h2]
    · cases h
/-- The same, with e new blocks that are kept. -/
theorem AWcall_locn (bs : List Nat) (e : Nat) {f : Nat} {args cargs : List AV} {Hp Hc Hc' Hb : List Blk} {x y : AV} (h : CallsTo P f cargs Hc fun o H' => o = .ret x ∧ H' = Hc')
    (hnd : bs.Nodup) (ha : renL (idx bs) args = some cargs) (hp : picks st.H bs = some Hp) (hc : renB (idx bs) Hp = some Hc) (hb : renB (back bs st.H.length e) Hc' = some Hb)
    (hl : Hc'.length = bs.length + e) (hx : x.ren (back bs st.H.length e) = some y) (hK : K (put dst y ⟨unview st.env, wback st.H bs (Hb.take bs.length) ++ Hb.drop bs.length⟩)) : AWcall P false f args dst K QP st := by
  refine .inr ⟨rfl, .inr ⟨bs, hnd, cargs, Hp, Hc, ha, hp, hc, h.mono ?_⟩⟩
  rintro o H' ⟨rfl, he⟩
  subst he
  have ht : H'.take (bs.length + e) = H' := by rw [← hl, List.take_length]
  exact ⟨e, Hb, y, by rw [ht]; exact hb, by omega, hx, hK⟩
theorem Fin_wk {rs : List RV} {m : Nat} {Q : AOut → List Blk → Prop} {st : ASt} (x x' : AV) (H' : List Blk) (h : rV st rs = some x) (hw : Wk m ⟨[(0, x)], st.H⟩ ⟨[(0, x')], H'⟩) (hq : Q (.ret x') H') : Fin rs m Q .normal st := ⟨x, h, x', H', hw, hq⟩
theorem Fin_wk' {rs : List RV} {m : Nat} {Q : AOut → List Blk → Prop} {st : ASt} (x x' : AV) (H' : List Blk) (h : rV st rs = some x) (hw : Wk m ⟨[(0, x)], st.H⟩ ⟨[(0, x')], H'⟩) (hq : Q (.ret x') H') : Fin rs m Q .ret st := ⟨x, h, x', H', hw, hq⟩
@[simp] theorem AWio_asgq {q : Bool} {x : Opd} : AWio P q (.asg x) dst K QP st ↔ goG K dst st q x (ev st.env x) := by
  cases x with
  | c y =>
    simp only [AWio, AWval_go, opV, ev]
    cases y <;> simp [goG, go1, AV.erase]
  | t i =>
    simp only [AWio, AWval_go, opV, ev]
    cases hg : get st.env i with
    | none => simp [goG, go1]
    | some y => cases y <;> simp [goG, go1, AV.erase]
def goT (K : ASt → Prop) (dst : Option Nat) (st : ASt) (q : Bool) (i : Nat) : Option AV → Prop
  | some (.own e rows) => q = false ∧ ∃ d, dst = some d ∧ d ≠ i ∧ K ⟨(d, .own e rows) :: (i, .d (.sl rows)) :: unview st.env, st.H⟩
  | some (.view (.tmp j) e rows) => q = false ∧ ∃ d, dst = some d ∧ d ≠ j ∧ K ⟨(d, .own e rows) :: (j, .d (.sl rows)) :: unview st.env, st.H⟩
  | some y => K (put dst y.erase st)
  | none => False
@[simp] theorem AWio_take {q : Bool} {i : Nat} : AWio P q (.take (.t i)) dst K QP st ↔ goT K dst st q i (get st.env i) := by
  simp only [AWio, AWval_go, opV, ev]
  cases hg : get st.env i with
  | none => simp [goT, go1]
  | some y =>
    cases y <;> try simp [goT, go1, AV.erase]
    rename_i org e rows
    cases org <;> simp [goT, go1, AV.erase]
attribute [simp] goT
theorem AWio_app_own {esz bytes : Nat} {x y : Opd} {org : Place} {rows rows' ys : List (List D)} (h : evr st.env x = some (.d (.sl rows'))) (hg : growing st.env x = some (some org, esz, rows)) (hy : appended st.env y = some ys)
    (hr : ∀ r ∈ ys, r.length = esz) (hz : 0 < esz) (hn : rows.length + ys.length ≤ 1000000000000000000) (hb : (rows.length + ys.length) * bytes ≤ 140737488355328) (hK : K (put dst (.own esz (rows ++ ys)) (dropOwn org rows st))) :
    AWio P false (.app esz bytes x y) dst K QP st := by
  simp only [AWio, h]
  exact ⟨trivial, some org, esz, rows, ys, hg, hy, fun _ => rfl, hr, hz, hn, hb, hK⟩
theorem AWio_app_nils {esz bytes : Nat} {x y : Opd} {ys : List (List D)} (h : evr st.env x = some .nils) (hg : growing st.env x = some (none, 0, [])) (hy : appended st.env y = some ys)
    (hr : ∀ r ∈ ys, r.length = esz) (hz : 0 < esz) (hn : ys.length ≤ 1000000000000000000) (hb : ys.length * bytes ≤ 140737488355328) (hK : K (put dst (.own esz ys) st)) :
    AWio P false (.app esz bytes x y) dst K QP st := by
  simp only [AWio, h]
  exact .inr ⟨trivial, .inl ⟨none, 0, [], ys, hg, hy, fun h => (by cases h), hr, hz, by simpa using hn, by simpa using hb, by simpa using hK⟩⟩
theorem AWio_app_nile {q : Bool} {esz bytes : Nat} {x y : Opd} {ys : List (List D)} (h : evr st.env x = some .nile) (hy : appended st.env y = some ys)
    (hr : ∀ r ∈ ys, r.length = esz) (hz : 0 < esz) (hn : ys.length ≤ 1000000000000000000) (hb : ys.length * bytes ≤ 140737488355328) (hK : ys = [] → K (put dst .nile st)) (hK' : ys ≠ [] → K (put dst (.own esz ys) st)) :
    AWio P q (.app esz bytes x y) dst K QP st := by
  simp only [AWio, h]
  exact .inl ⟨ys, hy, hr, hz, hn, hb, hK, hK'⟩
theorem AWio_app_h {esz bytes : Nat} {x y : Opd} {ys : List (List D)} (h : evr st.env x = some .nile ∨ evr st.env x = some .nils) (hy : appended st.env y = some ys)
    (hr : ∀ r ∈ ys, r.length = esz) (hz : 0 < esz) (hn : ys.length ≤ 1000000000000000000) (hb : ys.length * bytes ≤ 140737488355328) (hne : ys ≠ []) (hK : K (put dst (.hsl st.H.length 0 esz ys.length) ⟨st.env, st.H ++ [.mem (rowCells ys)]⟩)) :
    AWio P false (.app esz bytes x y) dst K QP st := by
  rcases h with h | h
  · simp only [AWio, h]
    exact .inr ⟨trivial, ys, hy, hr, hz, hn, hb, hne, hK⟩
  · simp only [AWio, h]
    exact .inr ⟨trivial, .inr ⟨ys, hy, hr, hz, hn, hb, hne, hK⟩⟩
theorem AWio_mks {esz bytes n : Nat} {z : List D} {l c : Opd} (hl : asIx st.env l = some (n : Int)) (hc : asIx st.env c = some (n : Int)) (h1 : n ≤ 1000000000000000000) (h2 : n * bytes ≤ 140737488355328) (hz : 0 < esz)
    (hzl : z.length = esz) (hK : K (put dst (.hsl st.H.length 0 esz n) ⟨st.env, st.H ++ [.mem (rowCells (List.replicate n z))]⟩)) : AWio P false (.mkslice esz bytes z l c) dst K QP st :=
  ⟨rfl, n, n, hl, hc, h1, h2, hz, hzl, .inr ⟨rfl, hK⟩⟩
theorem AWio_mks0 {esz bytes n : Nat} {z : List D} {l c : Opd} (hl : asIx st.env l = some 0) (hc : asIx st.env c = some (n : Int)) (h1 : n ≤ 1000000000000000000) (h2 : n * bytes ≤ 140737488355328) (hz : 0 < esz)
    (hzl : z.length = esz) (hK : K (put dst (.own esz []) st)) : AWio P false (.mkslice esz bytes z l c) dst K QP st :=
  ⟨rfl, 0, n, hl, hc, h1, h2, hz, hzl, .inl ⟨rfl, hK⟩⟩
theorem flatten_len {rows : List (List D)} {e : Nat} (he : ∀ r ∈ rows, r.length = e) : rows.flatten.length = rows.length * e := by
  induction rows with
  | nil => simp
  | cons r rows ih =>
    have h1 := he r (by simp)
    have h2 := ih fun r hr => he r (by simp [hr])
    simp only [List.flatten_cons, List.length_append, List.length_cons, h1, h2, Nat.add_mul, Nat.one_mul]; omega
theorem rowCells_len {rows : List (List D)} {e : Nat} (he : ∀ r ∈ rows, r.length = e) : (rowCells rows).length = rows.length * e := by simp only [rowCells, List.length_map, flatten_len he]
theorem spl_row {rows : List (List D)} {e k : Nat} {row : List D} (he : ∀ r ∈ rows, r.length = e) (hr : row.length = e) (hk : k < rows.length) : spl (rowCells rows) (k * e) (row.map AV.d) = rowCells (rows.set k row) := by
  unfold rowCells
  induction rows generalizing k with
  | nil => simp at hk
  | cons r rows ih =>
    have h1 := he r (by simp)
    cases k with
    | zero =>
      simp only [Nat.zero_mul, List.set_cons_zero, List.flatten_cons, List.map_append, spl, List.take_zero, List.nil_append, List.length_map, Nat.zero_add, hr]
      rw [List.drop_left' (by simp [h1])]
    | succ k =>
      have h2 := ih (fun r hr => he r (by simp [hr])) (k := k) (by simpa using hk)
      simp only [List.set_cons_succ, List.flatten_cons, List.map_append, ← h2, spl, List.length_map, hr]
      have e1 : (k + 1) * e = (r.map AV.d).length + k * e := by rw [Nat.add_mul]; simp [h1]; omega
      rw [e1, List.take_length_add_append, Nat.add_assoc, List.drop_length_add_append]
      simp only [List.append_assoc]
theorem AWio_clr {esz b off len : Nat} {z : List D} {x : Opd} {cells : List AV} (h : evr st.env x = some (.hsl b off esz len)) (hz : z.length = esz) (h0 : 0 < esz) (h1 : 0 < len) (hb : st.H[b]? = some (.mem cells)) (hle : off + len * esz ≤ cells.length)
    (hK : K (put dst (.tup []) ⟨unview st.env, st.H.set b (.mem (spl cells off (rowCells (List.replicate len z))))⟩)) : AWio P false (.clr esz z x) dst K QP st := by
  refine ⟨rfl, hz, h0, ?_⟩
  rw [h]
  exact ⟨rfl, h1, cells, hb, by simpa using hle, fun r hr => by rw [List.eq_of_mem_replicate hr]; exact hz, hK⟩
theorem renB_rows {ρ : Nat → Option Nat} {rows : List (List D)} : renB ρ [.mem (rowCells rows)] = some [.mem (rowCells rows)] := by
  have : renL ρ (rowCells rows) = some (rowCells rows) := renL_d _
  simp only [renB, Blk.ren, this]
theorem rowCells_take {rows : List (List D)} {e k : Nat} (he : ∀ r ∈ rows, r.length = e) : (rowCells rows).take (k * e) = rowCells (rows.take k) := by
  unfold rowCells
  induction rows generalizing k with
  | nil => simp
  | cons r rows ih =>
    have h1 := he r (by simp)
    cases k with
    | zero => simp
    | succ k =>
      have h2 := ih (fun r hr => he r (by simp [hr])) (k := k)
      simp only [List.take_succ_cons, List.flatten_cons, List.map_append, ← h2]
      have e1 : (k + 1) * e = (r.map AV.d).length + k * e := by rw [Nat.add_mul]; simp [h1]; omega
      rw [e1, List.take_length_add_append]
theorem AWio_isnil_d {neg : Bool} {x : Opd} {rows : List (List D)} (h : evr st.env x = some (.d (.sl rows))) (h1 : rows = [] → K (put dst (.d (.bool !neg)) st)) (h2 : K (put dst (.d (.bool neg)) st)) : AWio P false (.isnil neg x) dst K QP st := by
  refine ⟨rfl, ?_⟩
  unfold AWisnil; rw [h]; exact ⟨h1, h2⟩
theorem rows_len {α : Type} {f : α → List D} {n : Nat} {l : List α} (h : ∀ x, (f x).length = n) : ∀ r ∈ l.map f, r.length = n := by
  intro r hr
  obtain ⟨x, _, rfl⟩ := List.mem_map.1 hr
  exact h x
def WkVs (H : List Blk) (n : Nat) : List AV → List AV → Prop
  | [], [] => True
  | x :: xs, y :: ys => WkV H n x y ∧ WkVs H n xs ys
  | _, _ => False
theorem WkVs_get {H : List Blk} {n : Nat} : ∀ {as bs : List AV}, WkVs H n as bs → as.length = bs.length ∧ ∀ (j : Nat) (x y : AV), as[j]? = some x → bs[j]? = some y → WkV H n x y := by
  intro as
  induction as with
  | nil => intro bs h; cases bs with
    | nil => exact ⟨rfl, fun j x y h => by simp at h⟩
    | cons => exact h.elim
  | cons a as ih => intro bs h; cases bs with
    | nil => exact h.elim
    | cons b bs =>
      obtain ⟨h1, h2⟩ := ih h.2
      refine ⟨by simp [h1], fun j x y hx hy => ?_⟩
      cases j with
      | zero => simp at hx hy; subst hx; subst hy; exact h.1
      | succ j => simp at hx hy; exact h2 j x y hx hy
theorem WkV_agg {H : List Blk} {n : Nat} {as bs : List AV} (h : WkVs H n as bs) : WkV H n (.agg as) (.agg bs) := .agg as bs (WkVs_get h).1 (WkVs_get h).2
theorem WkV_tup {H : List Blk} {n : Nat} {as bs : List AV} (h : WkVs H n as bs) : WkV H n (.tup as) (.tup bs) := .tup as bs (WkVs_get h).1 (WkVs_get h).2
/-- A result told more weakly. -/
theorem Fin_wkv {rs : List RV} {Q : AOut → List Blk → Prop} {st : ASt} (x x' : AV) (h : rV st rs = some x) (hw : WkV st.H 0 x x') (hq : Q (.ret x') []) : Fin rs 0 Q .ret st :=
  Fin_wk' x x' [] h (Wk.of ⟨⟨x, rfl, .inl hw⟩, trivial⟩ (by simp [WkHs]) (by simp)) hq
theorem Fin_wkvn {rs : List RV} {Q : AOut → List Blk → Prop} {st : ASt} (x x' : AV) (h : rV st rs = some x) (hw : WkV st.H 0 x x') (hq : Q (.ret x') []) : Fin rs 0 Q .normal st :=
  Fin_wk x x' [] h (Wk.of ⟨⟨x, rfl, .inl hw⟩, trivial⟩ (by simp [WkHs]) (by simp)) hq
theorem WkVs_enum {as bs : List AV} (h : WkVs [] 0 as bs) (n : Nat) : ∀ p ∈ enum n bs, ∃ x, get (enum n as) p.1 = some x ∧ WkT [] 0 x p.2 := by
  induction as generalizing n bs with
  | nil => cases bs with
    | nil => intro p hp; simp [enum] at hp
    | cons => exact h.elim
  | cons a as ih => cases bs with
    | nil => exact h.elim
    | cons b bs =>
      intro p hp
      simp only [enum, List.mem_cons] at hp
      rcases hp with rfl | hp
      · exact ⟨a, by simp [enum, get], .inl h.1⟩
      · obtain ⟨x, hx, hk⟩ := ih h.2 (n + 1) p hp
        refine ⟨x, ?_, hk⟩
        have hne : n ≠ p.1 := by
          intro e
          have : ∀ (l : List AV) (m : Nat), p ∈ enum m l → m ≤ p.1 := by
            intro l
            induction l with
            | nil => intro m h; simp [enum] at h
            | cons y l ih2 =>
              intro m h
              simp only [enum, List.mem_cons] at h
              rcases h with rfl | h
              · exact Nat.le_refl _
              · have := ih2 (m + 1) h; omega
          have := this bs (n + 1) hp
          omega
        simp only [enum, get, if_neg hne]; exact hx
/-- A function may be called with more than its contract asks. -/
theorem CallsTo.wk {P : Program} {f : Nat} {args args' : List AV} {Q : AOut → List Blk → Prop} (h : CallsTo P f args' [] Q) (hw : WkVs [] 0 args args') : CallsTo P f args [] Q := by
  intro g vs w hvs hs
  have hl := (WkVs_get hw).1
  have hwk : Wk 0 ⟨enum 0 args, []⟩ ⟨enum 0 args', []⟩ := ⟨WkVs_enum hw 0, by simp, by simp, by simp⟩
  obtain ⟨h1, h2, h3, h4⟩ := hs.weak hwk
  refine (h _ vs w (by omega) (by rw [← hl]; exact h1)).mono ?_
  rintro e w' ⟨o, H', g', v, hq, he, hsim, htr, hφ, hlen, hmine⟩
  exact ⟨o, H', g', v, hq, he, hsim, h2.trans htr fun r hr => .inl (h3 r hr), fun b r hb => absurd hb (by simp), hlen, fun r hr => (hmine r hr).imp (h3 r) id⟩
theorem AWcall_detw {q : Bool} {f : Nat} {args cargs cargs' : List AV} {x : AV} (h : CallsTo P f cargs' [] fun o _ => o = .ret x) (ha : renL none1 args = some cargs) (hw : WkVs [] 0 cargs cargs') (hx : x.ren none1 = some x)
    (hK : K (put dst x st)) : AWcall P q f args dst K QP st := AWcall_det (h.wk hw) ha hx hK
end
end Go.AE

/- A growing result, opened: a block of the caller's own. -/
set_option linter.unusedVariables false
namespace Go.AE
open Go
def D.flat : D → Bool
  | .sl _ => false
  | _ => true
theorem PRel.flat {F F' : Nat → Nat} {w w' : World} {x : D} {v : Value} (hx : x.flat = true) (h : PRel F w x v) : PRel F' w' x v := by
  cases h with
  | int k n => exact .int k n
  | bool b => exact .bool b
  | str s => exact .str s
  | nil a cap => cases hx
  | sl => cases hx
/-- A result that grows told as what it reads as. -/
theorem CallsTo.unown {P : Program} {f : Nat} {args : List AV} {e : Nat} {rows : List (List D)} (h : CallsTo P f args [] fun o H' => o = .ret (.own e rows) ∧ H' = []) :
    CallsTo P f args [] fun o H' => o = .ret (.d (.sl rows)) ∧ H' = [] := by
  intro g vs w hvs hs
  refine (h g vs w hvs hs).mono ?_
  rintro e' w' ⟨o, H', g', v, ⟨rfl, rfl⟩, he, hsim, htr, hφ, hlen, hmine⟩
  have hwk : Wk 0 ⟨[(0, .own e rows)], []⟩ ⟨[(0, .d (.sl rows))], []⟩ := by (refine Wk.of ?_ ?_ (by simp) <;> repeat' (first | exact True.intro | exact ⟨_, rfl, wkt_same rfl⟩ | exact ⟨_, rfl, wkt_erase rfl⟩ | exact ⟨_, rfl, .inl .nild⟩ | exact ⟨_, rfl, .inl .nile⟩ | exact ⟨_, rfl, wkt_nils⟩ | exact wkt_same rfl | exact wkt_erase rfl | exact .inl .nild | exact .inl .nile | exact wkt_nils | exact WkB.same rfl | exact WkB_rows | exact WkB_nil | exact .dead _ | refine WkB_cons ?_ ?_ | refine And.intro ?_ ?_))
  obtain ⟨h1, h2, h3, h4⟩ := hsim.weak hwk
  exact ⟨_, _, _, v, ⟨rfl, rfl⟩, he, h1, htr.trans h2 hmine, fun b r hb => absurd hb (by simp), Nat.le_refl _, fun r hr => hmine r (h3 r hr)⟩
/-- A growing result of a call that is handed no right to grow is new: it may be written. -/
theorem CallsTo.opened {P : Program} {f : Nat} {args : List AV} {e : Nat} {rows : List (List D)} (h : CallsTo P f args [] fun o H' => o = .ret (.own e rows) ∧ H' = []) (hne : rows ≠ [])
    (hfl : ∀ r ∈ rows, ∀ x ∈ r, x.flat = true) (hargs : ∀ (t e : Nat) (r : List (List D)), args[t]? ≠ some (.own e r)) :
    CallsTo P f args [] fun o H' => o = .ret (.hsl 0 0 e rows.length) ∧ H' = [.mem (rowCells rows)] := by
  intro g vs w hvs hs
  refine (h g vs w hvs hs).mono ?_
  rintro e' w' ⟨o, H', g', v, ⟨rfl, rfl⟩, he, hsim, htr, hφ, hlen, hmine⟩
  have hown := hsim.own (.tmp 0) e rows v (by simp [AP, get, AOut.val]) (by simp [RP])
  have hn : ∀ b, g'.φ b = none := by
    intro b
    cases hb : g'.φ b with
    | none => rfl
    | some r => exact absurd (hsim.lt b r hb).2.2 (by simp)
  rcases hown with ⟨_, h0⟩ | ⟨r, cap, c, te, hv, hblk, hF, hle, hcap, hcs, hrows⟩
  · exact absurd h0 hne
  have howner : Owner ⟨[(0, .own e rows)], []⟩ g'.φ ⟨#[v], []⟩ w' (.tmp 0) r := ⟨e, rows, v, by simp [AP, get, AOut.val], by simp [RP], _, _, hv⟩
  have hfresh : w.heap.size ≤ r := by
    rcases hmine r (.inr ⟨_, howner⟩) with h1 | h1
    · exfalso
      rcases h1 with ⟨b, hb⟩ | ⟨p, e1, rows1, v1, hp, _⟩
      · exact absurd (hs.lt b r hb).2.2 (by simp)
      · cases p with
        | tmp t =>
          simp only [AP, get_enum0] at hp
          exact hargs t e1 rows1 hp
        | cell b j => simp [AP] at hp
    · exact h1
  have hlt : r < w'.heap.size := by
    have := (Array.getElem?_eq_some_iff.1 hblk).1; exact this
  have hrel := hsim.env 0 (.own e rows) (by simp [get, AOut.val])
  simp only [AV.erase] at hrel
  have hv0 : (⟨#[v], []⟩ : Act).tmps.getD 0 undef = v := by simp
  rw [hv0] at hrel
  have hcells : ∀ (j : Nat) (x : AV), (rowCells rows)[j]? = some x → x.leaf = true ∧ ∃ u, c[j]? = some u ∧ ∀ F φ w, Rel F φ w x.erase u := by
    cases hrel with
    | d _ _ h =>
      cases h with
      | nil => exact absurd rfl hne
      | sl _ ad cap' esz vs' hesz hl1 _ hfix hc hr =>
        injection hv with hv1 hv2
        injection hv1 with hv1
        subst hv1
        intro j x hx
        unfold rowCells at hx
        rw [List.getElem?_map, Option.map_eq_some_iff] at hx
        obtain ⟨y, hy, rfl⟩ := hx
        have hes : esz = e := by
          obtain ⟨r0, hr0⟩ := List.exists_mem_of_ne_nil _ hne
          rw [← hesz r0 hr0, hrows r0 hr0]
        subst hes
        have hj : j < vs'.length := by
          rw [hl1, ← flatten_len hrows]; exact (List.getElem?_eq_some_iff.1 hy).1
        have hu : vs'[j]? = some vs'[j] := by simp [hj]
        have hcell := hc j _ hu
        have hyf : y.flat = true := by
          obtain ⟨r1, hr1, hy1⟩ := List.mem_flatten.1 (List.mem_of_getElem? hy)
          exact hfl r1 hr1 y hy1
        refine ⟨rfl, vs'[j], ?_, fun F φ w => .d _ _ ((hr j y _ hy hu).flat hyf)⟩
        have e1 : (⟨r, 0, none⟩ : Addr).add j = ⟨r, j, none⟩ := by
          unfold Addr.add; split
          · rename_i h0; subst h0; rfl
          · simp
        rw [e1, cell_of_row w' r j c te (0, 0) hblk] at hcell
        exact hcell
  have hno : ∀ (p : Place) (e1 : Nat) (rows1 : List (List D)), AP ⟨[(0, (AOut.ret (.hsl 0 0 e rows.length)).val)], [.mem (rowCells rows)]⟩ p ≠ some (.own e1 rows1) := by
    intro p e1 rows1 hp
    cases p with
    | tmp t =>
      simp only [AP, AOut.val, get] at hp
      split at hp <;> cases hp
    | cell b j =>
      simp only [AP] at hp
      split at hp
      · rename_i cells hb
        have : b = 0 := by have := (List.getElem?_eq_some_iff.1 hb).1; simpa using this
        subst this
        simp only [List.getElem?_cons_zero, Option.some.injEq, Blk.mem.injEq] at hb
        subst hb
        unfold rowCells at hp
        rw [List.getElem?_map, Option.map_eq_some_iff] at hp
        obtain ⟨y, _, hy⟩ := hp
        cases hy
      · cases hp
  refine ⟨.ret (.hsl 0 0 e rows.length), [.mem (rowCells rows)], ⟨fun b => if b = 0 then some r else none, fun i => if i = r then 0 else g'.F i⟩, v, ⟨rfl, rfl⟩, he, ?_, ?_, fun b r hb => absurd hb (by simp), by simp, ?_⟩
  · refine { size := by simp, env := ?_, defers := rfl, inj := ?_, lt := ?_, dom := ?_, mem := ?_, iter := ?_, own := ?_, excl := ?_, apart := ?_, view := ?_ }
    · intro t x hx
      simp only [AOut.val, get] at hx
      split at hx
      · rename_i ht; subst ht
        injection hx with hx; subst hx
        rw [hv0, hv]
        exact .hsl 0 0 e rows.length r cap _ (by simp) hle (fun _ => rfl)
      · cases hx
    · intro b b' q hb hb'
      simp only at hb hb'
      split at hb <;> split at hb' <;> simp_all
    · intro b q hb
      simp only at hb ⊢
      split at hb
      · rename_i h0; subst h0; injection hb with hb; subst hb; exact ⟨hlt, by simp, by simp⟩
      · cases hb
    · intro b k hk _
      have : b = 0 := by have := (List.getElem?_eq_some_iff.1 hk).1; simpa using this
      subst this
      exact ⟨r, by simp⟩
    · intro b cells q hb hq
      have : b = 0 := by have := (List.getElem?_eq_some_iff.1 hb).1; simpa using this
      subst this
      simp only [List.getElem?_cons_zero, Option.some.injEq, Blk.mem.injEq] at hb
      subst hb
      simp only [if_true, Option.some.injEq] at hq
      subst hq
      refine ⟨c, te, hblk, ?_, fun j x hx => ?_⟩
      · rw [rowCells_len hrows, hcs]; exact Nat.mul_le_mul_right _ hle
      · obtain ⟨k1, u, k2, k3⟩ := hcells j x hx
        exact ⟨k1, u, k2, k3 _ _ _⟩
    · intro b s pos q hb
      have : b = 0 := by have := (List.getElem?_eq_some_iff.1 hb).1; simpa using this
      subst this
      simp at hb
    · exact fun p e1 rows1 v1 hp _ => absurd hp (hno p e1 rows1)
    · rintro p p' q ⟨e1, rows1, v1, hp, _⟩
      exact absurd hp (hno p e1 rows1)
    · rintro p q b ⟨e1, rows1, v1, hp, _⟩
      exact absurd hp (hno p e1 rows1)
    · intro t org e1 rows1 hx
      simp only [AOut.val, get] at hx
      split at hx <;> cases hx
  · refine ⟨htr.os, htr.tape, htr.output, htr.size, fun q hq hn' => ?_, ⟨fun q hq => ?_, htr.stab.cell⟩⟩
    · have := htr.other q hq hn'
      refine ⟨this.1, ?_⟩
      have hqr : q ≠ r := by omega
      simp only [if_neg hqr]; exact this.2
    · have hqr : q ≠ r := by omega
      simp only [if_neg hqr]; exact htr.stab.le q hq
  · rintro q (⟨b, hb⟩ | ⟨p, e1, rows1, v1, hp, _⟩)
    · simp only at hb
      split at hb
      · injection hb with hb; subst hb; exact .inr hfresh
      · cases hb
    · exact absurd hp (hno p e1 rows1)
end Go.AE

/- From a reading of the arguments to abstract values; from a call's contract to what the row asks. -/
set_option linter.unusedVariables false
namespace Go.AE
open Go

/-- The cells of a plain type. -/
inductive LT where
  | int (k : IntKind)
  | bool
  | str
  | sl (ls : List LT)
  deriving Inhabited

def flatFs (flat : TypeId → Option (List LT)) (sz : TypeId → Nat) : List Field → Nat → Option (List LT)
  | [], _ => some []
  | f :: fs, o => if f.offset = o then (match flat f.type with
      | some l => if l.length = sz f.type then (match flatFs flat sz fs (o + l.length) with | some r => some (l ++ r) | none => none) else none
      | none => none) else none

def flatT (P : Program) : Nat → TypeId → Option (List LT)
  | 0, _ => none
  | n + 1, t => match P.underlying t with
    | some (.int k) => some [.int k]
    | some .bool => some [.bool]
    | some .string => some [.str]
    | some (.slice e) => match flatT P n e with
      | some ls => if 0 < ls.length ∧ ls.length = P.cellsOf e then some [.sl ls] else none
      | none => none
    | some (.struct fs) => match flatFs (flatT P n) P.cellsOf fs.toList 0 with
      | some ls => if ls.length = P.cellsOf t then some ls else none
      | none => none
    | _ => none

inductive HasT : LT → D → Prop where
  | int (k : IntKind) (n : Int) (h : (Lit.int k n).wf = true) : HasT (.int k) (.int k n)
  | bool (b : Bool) : HasT .bool (.bool b)
  | str (s : List UInt8) (h : s.length ≤ maxLen) : HasT .str (.str s)
  | sl (ls : List LT) (rows : List (List D)) (hl : rows.length ≤ maxLen) (h0 : ∀ r ∈ rows, r.length = ls.length) (h : ∀ r ∈ rows, ∀ (j : Nat) (l : LT) (x : D), ls[j]? = some l → r[j]? = some x → HasT l x) : HasT (.sl ls) (.sl rows)
def HasL (ls : List LT) (ds : List D) : Prop := ds.length = ls.length ∧ ∀ (j : Nat) (l : LT) (x : D), ls[j]? = some l → ds[j]? = some x → HasT l x
theorem HasL.nil : HasL [] [] := ⟨rfl, fun j l x h => by simp at h⟩
theorem HasL.one {l : LT} {x : D} (h : HasT l x) : HasL [l] [x] := ⟨rfl, fun j l' x' h1 h2 => by
  cases j with
  | zero => simp at h1 h2; subst h1; subst h2; exact h
  | succ j => simp at h1⟩
theorem HasL.append {l l' : List LT} {d d' : List D} (h : HasL l d) (h' : HasL l' d') : HasL (l ++ l') (d ++ d') := by
  refine ⟨by simp [h.1, h'.1], fun j x y h1 h2 => ?_⟩
  by_cases hj : j < l.length
  · rw [List.getElem?_append_left hj] at h1
    rw [List.getElem?_append_left (by rw [h.1]; exact hj)] at h2
    exact h.2 j x y h1 h2
  · rw [List.getElem?_append_right (by omega)] at h1
    rw [List.getElem?_append_right (by rw [h.1]; omega), h.1] at h2
    exact h'.2 _ x y h1 h2

noncomputable def sizes (w : World) (r : Nat) : Nat := match w.heap[r]? with | some (.cells c _ _) => c.size | _ => 0
theorem fixed_of_cells {w : World} {ad : Addr} {vs : List Value} (h : cellsAt w ad vs) : fixedAt (sizes w) ad vs.length := by
  intro j hj
  have h1 := h j vs[j] (by simp [hj])
  obtain ⟨h2, _⟩ := cell_add h1
  rw [h2] at h1
  unfold World.cell? at h1
  unfold sizes
  simp only at h1
  split at h1
  · rename_i c e fr hc
    simp only [hc]
    simp at h1
    exact (Array.getElem?_eq_some_iff.1 h1).1
  · cases h1

section
variable {H : Type} {enc : TypeId × Value → H} {P : Program} {w : World} {base : Nat} {spare : Nat → Bool} {held : Bool}

/-- What a list of cells reads as. -/
def Reads (w : World) (ls : List LT) (cs : List Value) : Prop := ∃ ds : List D, cs.length = ds.length ∧ HasL ls ds ∧ ∀ (j : Nat) (y : D) (u : Value), ds[j]? = some y → cs[j]? = some u → PRel (sizes w) w y u

theorem reads_fs {flat : TypeId → Option (List LT)} {sz : TypeId → Nat} {cs : List Value} : ∀ (fs : List Field) (o : Nat) (ls : List LT), flatFs flat sz fs o = some ls →
    (∀ f ∈ fs, ∀ l, flat f.type = some l → Reads w l ((cs.drop f.offset).take (sz f.type))) → cs.length = o + ls.length → Reads w ls (cs.drop o) := by
  intro fs
  induction fs with
  | nil =>
    intro o ls h _ hl
    simp [flatFs] at h; subst h
    refine ⟨[], by simp at hl ⊢; omega, .nil, fun j y u h => by simp at h⟩
  | cons f fs ih =>
    intro o ls h hf hl
    simp only [flatFs] at h
    split at h
    · rename_i ho
      split at h
      · rename_i l hfl
        split at h
        · rename_i hls
          split at h
          · rename_i r hr
            injection h with h; subst h
            rw [List.length_append] at hl
            obtain ⟨d1, e1, h1, p1⟩ := hf f (by simp) l hfl
            obtain ⟨d2, e2, h2, p2⟩ := ih (o + l.length) r hr (fun g hg => hf g (by simp [hg])) (by omega)
            rw [ho, ← hls] at e1 p1
            have hd1 : d1.length = l.length := h1.1
            have hcs : cs.drop o = (cs.drop o).take l.length ++ cs.drop (o + l.length) := by
              conv => lhs; rw [← List.take_append_drop l.length (cs.drop o), List.drop_drop]
            have htl : ((cs.drop o).take l.length).length = l.length := by rw [e1, hd1]
            refine ⟨d1 ++ d2, ?_, h1.append h2, ?_⟩
            · rw [hcs, List.length_append, List.length_append, e1, e2]
            · intro j y u hy hu
              rw [hcs] at hu
              by_cases hj : j < l.length
              · rw [List.getElem?_append_left (by omega)] at hy
                rw [List.getElem?_append_left (by omega)] at hu
                exact p1 j y u hy hu
              · rw [List.getElem?_append_right (by omega), hd1] at hy
                rw [List.getElem?_append_right (by omega), htl] at hu
                exact p2 _ y u hy hu
          · cases h
        · cases h
      · cases h
    · cases h

theorem choose_rows {Q : Nat → List D → List Value → Prop} : ∀ (n : Nat), (∀ i, i < n → ∃ r c, Q i r c) → ∃ (R : List (List D)) (C : List (List Value)), R.length = n ∧ C.length = n ∧ ∀ i r c, R[i]? = some r → C[i]? = some c → Q i r c := by
  intro n
  induction n with
  | zero => intro _; exact ⟨[], [], rfl, rfl, fun i r c h => by simp at h⟩
  | succ n ih =>
    intro h
    obtain ⟨R, C, h1, h2, h3⟩ := ih fun i hi => h i (by omega)
    obtain ⟨r, c, hq⟩ := h n (by omega)
    refine ⟨R ++ [r], C ++ [c], by simp [h1], by simp [h2], fun i r' c' hr hc => ?_⟩
    by_cases hi : i < n
    · rw [List.getElem?_append_left (by omega)] at hr hc
      exact h3 i r' c' hr hc
    · have hin : i = n := by
        have := (List.getElem?_eq_some_iff.1 hr).1
        simp [h1] at this; omega
      subst hin
      rw [List.getElem?_append_right (by omega)] at hr hc
      simp [h1] at hr; simp [h2] at hc
      subst hr; subst hc; exact hq

theorem reads : ∀ (n m : Nat) (t : TypeId) (cs : List Value) (x : DataW H × List MemPlace) (ls : List LT), DataW.trod enc P w base spare held n t cs = some x → flatT P m t = some ls → Reads w ls cs := by
  intro n
  induction n with
  | zero => intro m t cs x ls h; simp [DataW.trod] at h
  | succ n ih =>
    intro m t cs x ls h hf
    cases m with
    | zero => simp [flatT] at hf
    | succ m =>
      unfold flatT at hf
      split at hf
      · rename_i k hk
        injection hf with hf; subst hf
        obtain ⟨z, rfl, _, hw⟩ := DataW.trod_int hk h
        exact ⟨[.int k z], rfl, .one (.int k z hw), fun j y u hy hu => by
          cases j with
          | zero => simp at hy hu; subst hy; subst hu; exact .int k z
          | succ j => simp at hy⟩
      · rename_i hk
        injection hf with hf; subst hf
        obtain ⟨b, rfl, _⟩ := DataW.trod_bool hk h
        exact ⟨[.bool b], rfl, .one (.bool b), fun j y u hy hu => by
          cases j with
          | zero => simp at hy hu; subst hy; subst hu; exact .bool b
          | succ j => simp at hy⟩
      · rename_i hk
        injection hf with hf; subst hf
        obtain ⟨s, rfl, _, hw⟩ := DataW.trod_string hk h
        have es : s = ⟨s.data.toList.toArray⟩ := by cases s; simp
        refine ⟨[.str s.data.toList], rfl, .one (.str _ (by rw [Array.length_toList]; exact hw)), fun j y u hy hu => ?_⟩
        cases j with
        | zero =>
          simp at hy hu; subst hy; subst hu
          have := PRel.str (F := sizes w) (w := w) s.data.toList
          rwa [← es] at this
        | succ j => simp at hy
      · rename_i e hk
        split at hf
        · rename_i l hl
          split at hf
          · rename_i hls
            injection hf with hf; subst hf
            obtain ⟨hpos, hce⟩ := hls
            rcases DataW.trod_slice hk h with ⟨rfl, _⟩ | ⟨a, len, cap, elems, rest, n', hn, rfl, hx, hb, hlc, hcm, hel, hget, _, _⟩
            · refine ⟨[.sl []], rfl, .one (.sl l [] (by simp) (by simp) (by simp)), fun j y u hy hu => ?_⟩
              cases j with
              | zero => simp at hy hu; subst hy; subst hu; exact .nil _ _
              | succ j => simp at hy
            · injection hn with hn; subst hn
              have hrow : ∀ i, i < len → ∃ (r : List D) (c : List Value), c.length = r.length ∧ HasL l r ∧ (∀ (j : Nat) (y : D) (u : Value), r[j]? = some y → c[j]? = some u → PRel (sizes w) w y u) ∧ ∀ k u, c[k]? = some u → w.cell? (a.add (i * l.length + k)) = some u := by
                intro i hi
                have hg := hget i hi
                have : i < elems.length := by omega
                rw [List.getElem?_eq_getElem this, Option.bind_eq_some_iff] at hg
                obtain ⟨c, hc, ht⟩ := hg
                obtain ⟨r, h1, h2, h3⟩ := ih m e c _ l ht hl
                refine ⟨r, c, h1, h2, h3, fun k u hu => ?_⟩
                obtain ⟨_, hclen, hcell⟩ := World.cells?_some hc
                have hk' : k < P.cellsOf e := by have := (List.getElem?_eq_some_iff.1 hu).1; omega
                have := hcell k hk'
                rw [Addr.add_add, ← hce] at this
                rw [this]; exact hu
              obtain ⟨R, C, hR, hC, hRC⟩ := choose_rows len hrow
              have hRl : ∀ r ∈ R, r.length = l.length := by
                intro r hr
                obtain ⟨i, hi, rfl⟩ := List.mem_iff_getElem.1 hr
                exact (hRC i _ C[i] (List.getElem?_eq_getElem hi) (List.getElem?_eq_getElem (by omega))).2.1.1
              have hCl : ∀ c ∈ C, c.length = l.length := by
                intro c hc
                obtain ⟨i, hi, rfl⟩ := List.mem_iff_getElem.1 hc
                have := hRC i R[i] _ (List.getElem?_eq_getElem (by omega)) (List.getElem?_eq_getElem hi)
                rw [this.1, this.2.1.1]
              have hsplit : ∀ j : Nat, j = j / l.length * l.length + j % l.length := fun j => by rw [Nat.mul_comm]; exact (Nat.div_add_mod j l.length).symm
              have hcells : cellsAt w a C.flatten := by
                intro j u hu
                rw [hsplit j, flatten_get C l.length hCl _ _ (Nat.mod_lt _ hpos), Option.bind_eq_some_iff] at hu
                obtain ⟨c, hc, hu⟩ := hu
                have hi : j / l.length < len := by have := (List.getElem?_eq_some_iff.1 hc).1; omega
                have := (hRC _ R[j / l.length] c (by simp [hR, hi]) hc).2.2.2 _ u hu
                rw [← hsplit j] at this; exact this
              have hflen : ∀ {α : Type} (L : List (List α)) (k : Nat), (∀ r ∈ L, r.length = k) → L.flatten.length = L.length * k := by
                intro α L k hL
                induction L with
                | nil => simp
                | cons r L ih3 =>
                  have h1 := hL r (by simp)
                  have h2 := ih3 fun r hr => hL r (by simp [hr])
                  simp only [List.flatten_cons, List.length_append, List.length_cons, h1, h2, Nat.add_mul, Nat.one_mul]; omega
              refine ⟨[.sl R], rfl, .one (.sl l R (by omega) hRl ?_), fun j y u hy hu => ?_⟩
              · intro r hr j l' x' h1 h2
                obtain ⟨i, hi, rfl⟩ := List.mem_iff_getElem.1 hr
                exact (hRC i _ C[i] (List.getElem?_eq_getElem hi) (List.getElem?_eq_getElem (by omega))).2.1.2 j l' x' h1 h2
              · cases j with
                | succ j => simp at hy
                | zero =>
                  simp at hy hu; subst hy; subst hu
                  have := PRel.sl (F := sizes w) (w := w) R a cap l.length C.flatten hRl (by rw [hflen C _ hCl, hC, hR]) (by omega) (fixed_of_cells hcells) hcells ?_
                  · rwa [hR] at this
                  · intro j y u hy hu
                    rw [hsplit j, flatten_get R l.length hRl _ _ (Nat.mod_lt _ hpos), Option.bind_eq_some_iff] at hy
                    rw [hsplit j, flatten_get C l.length hCl _ _ (Nat.mod_lt _ hpos), Option.bind_eq_some_iff] at hu
                    obtain ⟨r, hr, hy⟩ := hy
                    obtain ⟨c, hc, hu⟩ := hu
                    exact (hRC _ r c hr hc).2.2.1 _ y u hy hu
          · cases hf
        · cases hf
      · rename_i fs hk
        split at hf
        · rename_i l hl
          split at hf
          · rename_i hls
            injection hf with hf; subst hf
            obtain ⟨xs, n', hn, _, hcl, hxl, hget⟩ := DataW.trod_struct hk h
            injection hn with hn; subst hn
            have := reads_fs (w := w) (cs := cs) fs.toList 0 l hl ?_ (by omega)
            · simpa using this
            · intro f hfm l' hl'
              obtain ⟨i, hi, rfl⟩ := List.mem_iff_getElem.1 hfm
              have hi' : i < fs.size := by simpa using hi
              have hg := hget i fs[i] (by simp [hi'])
              have : i < xs.length := by omega
              rw [List.getElem?_eq_getElem this] at hg
              exact ih m _ _ _ l' hg hl'
          · cases hf
        · cases hf
      · cases hf
end

def AV.plain : AV → Bool
  | .d _ => true
  | .agg _ => true
  | _ => false
theorem AV.plain_erase {x : AV} (h : x.plain = true) : x.erase = x := by cases x <;> simp_all [AV.plain, AV.erase]
theorem sim_start {w : World} {args : List AV} {vs : Array Value} (hs : vs.size = args.length) (hp : ∀ x ∈ args, x.plain = true)
    (hr : ∀ (j : Nat) (x : AV) (v : Value), args[j]? = some x → vs[j]? = some v → Rel (sizes w) (fun _ => none) w x v) : Sim args.length ⟨enum 0 args, []⟩ ⟨fun _ => none, sizes w⟩ ⟨vs, []⟩ w ∧ ∀ r, ¬ Mine ⟨enum 0 args, []⟩ ⟨fun _ => none, sizes w⟩ ⟨vs, []⟩ w r := by
  have hno : ∀ p e rows, AP ⟨enum 0 args, []⟩ p ≠ some (.own e rows) := by
    intro p e rows h
    cases p with
    | tmp t =>
      simp only [AP, get_enum0] at h
      have := hp _ (List.mem_of_getElem? h)
      simp [AV.plain] at this
    | cell b j => simp [AP] at h
  have hown : ∀ p r, ¬ Owner ⟨enum 0 args, []⟩ (fun _ => none) ⟨vs, []⟩ w p r := by
    rintro p r ⟨e, rows, v, h, _⟩
    exact hno p e rows h
  refine ⟨⟨by simp [hs], ?_, rfl, ?_, ?_, ?_, ?_, ?_, ?_, ?_, ?_, ?_⟩, ?_⟩
  · intro t x h
    rw [get_enum0] at h
    rw [AV.plain_erase (hp x (List.mem_of_getElem? h))]
    have ht : t < vs.size := by have := (List.getElem?_eq_some_iff.1 h).1; omega
    refine hr t x _ h ?_
    simp [Array.getD_eq_getD_getElem?, ht]
  · intro b b' r h; cases h
  · intro b r h; cases h
  · intro b k h; simp at h
  · intro b cells r h; simp at h
  · intro b s pos r h; simp at h
  · intro p e rows v h; exact absurd h (hno p e rows)
  · intro p p' r h; exact absurd h (hown p r)
  · intro p r b h; exact absurd h (hown p r)
  · intro t org e rows h
    rw [get_enum0] at h
    have := hp _ (List.mem_of_getElem? h)
    simp [AV.plain] at this
  · rintro r (⟨b, h⟩ | ⟨p, h⟩)
    · cases h
    · exact hown p r h

/-- A law's call: true, and what was there is as it was. -/
theorem CallsTo.law {P : Program} {f : Nat} {args : List AV} (h : CallsTo P f args [] fun o _ => o = .ret (.d (.bool true))) {w : World} {vs : Array Value} (hs : vs.size = args.length) (hp : ∀ x ∈ args, x.plain = true)
    (hr : ∀ (j : Nat) (x : AV) (v : Value), args[j]? = some x → vs[j]? = some v → Rel (sizes w) (fun _ => none) w x v) : Calls P f vs w fun e w' => e = .returned (.bool true) ∧ RowKit.Below w.heap.size w w' := by
  obtain ⟨h1, h2⟩ := sim_start hs hp hr
  refine (h _ vs w hs h1).mono ?_
  rintro e w' ⟨o, H', g', v, rfl, rfl, hsim, htr, _, _, _⟩
  have hv : Rel g'.F g'.φ w' (.d (.bool true)) v := hsim.env 0 (.d (.bool true)) (by simp [get, AOut.val])
  cases hv with
  | d _ _ hv =>
    cases hv
    exact ⟨rfl, ⟨htr.os, htr.tape, htr.output, htr.size, fun k hk => (htr.other k hk (h2 k)).1⟩⟩

/-- An argument's cells as one abstract value. -/
theorem rel_agg {w : World} {ls : List LT} {cs : Array Value} (h : Reads w ls cs.toList) : ∃ ds, HasL ls ds ∧ Rel (sizes w) (fun _ => none) w (.agg (ds.map AV.d)) (.agg cs) := by
  obtain ⟨ds, h1, h2, h3⟩ := h
  refine ⟨ds, h2, ?_⟩
  have := Rel.agg (F := sizes w) (φ := fun _ => none) (w := w) (ds.map AV.d) cs.toList (by simp [h1]) ?_
  · simpa using this
  · intro j x u hx hu
    rw [List.getElem?_map, Option.map_eq_some_iff] at hx
    obtain ⟨y, hy, rfl⟩ := hx
    exact .d _ _ (h3 j y u hy hu)
theorem rel_one {w : World} {l : LT} {v : Value} (h : Reads w [l] [v]) : ∃ d, HasT l d ∧ Rel (sizes w) (fun _ => none) w (.d d) v := by
  obtain ⟨ds, h1, h2, h3⟩ := h
  match ds, h1 with
  | [d], _ => exact ⟨d, h2.2 0 l d rfl rfl, .d _ _ (h3 0 d v rfl rfl)⟩
theorem struct_val {P : Program} {w : World} {base : Nat} {t : TypeId} {fs : Array Field} {v : Value} (hu : P.underlying t = some (.struct fs)) (h : Value.okWide P w .any base t v) : ∃ cs, v = .agg cs := by
  unfold Value.okWide at h
  rw [hu] at h
  obtain ⟨cs, h, _⟩ := h
  exact ⟨cs, h⟩
theorem trodAll_consP {H : Type} {enc : TypeId × Value → H} {P : Program} {w : World} {base : Nat} {spare : Nat → Bool} {held : Bool} {t : TypeId} {ts : List TypeId} {v : Value} {vs : List Value} {d : DataW H} {ds : List (DataW H)} {p p' : List MemPlace}
    (h : DataW.Trod enc P w base spare held t v d p) (hs : DataW.TrodAll enc P w base spare held ts vs ds p') : DataW.TrodAll enc P w base spare held (t :: ts) (v :: vs) (d :: ds) (p ++ p') := ⟨p, p', h, hs, rfl⟩
end Go.AE

/- The codes of the functions, as the evaluator has them, in pieces (printed by gen2.py). -/
set_option maxRecDepth 100000
set_option linter.unusedVariables false
namespace Go.AE
structure Nums where
  law11_PairsetMatchesReference : Nat
  law11_PairsetMatchesSets : Nat
  law11_PairsetOrder : Nat
  law11_PairsetSubsets : Nat
  law23_LivenessMatchesReference : Nat
  law23_LivenessEquations : Nat
  law23_LivenessSound : Nat
  law23_LivenessNecessary : Nat
  law23_LivenessAppended : Nat
  law11_PairsetDrops : Nat
  law11_PairsetKeeps : Nat
  law11_awake : Nat
  ref11_Make : Nat
  pairset_Missing : Nat
  ref11_Missing : Nat
  pairset_Sorted : Nat
  ref11_Sorted : Nat
  ref11_Same : Nat
  pairset_Make : Nat
  pairset_Has : Nat
  ref11_Has : Nat
  pairset_Add : Nat
  ref11_Add : Nat
  pairset_Subset : Nat
  pairset_Union : Nat
  pairset_Less : Nat
  law23_awake : Nat
  ref07_Few : Nat
  ref07_Check : Nat
  ref23_Used : Nat
  ref23_Defines : Nat
  ref07_Numbers : Nat
  liveness_Uses : Nat
  liveness_Defs : Nat
  ref23_Same : Nat
  liveness_In : Nat
  ref23_In : Nat
  liveness_Out : Nat
  ref23_Out : Nat
  ref07_Successors : Nat
  ref23_Has : Nat
  ref09_Right : Nat
  ref09_Exec : Nat
  ref09_Step : Nat
  ref09_Copy : Nat
  ref09_Values : Nat
  ref07_Copy : Nat
  pairset_DropV : Nat
  pairset_DropL : Nat
  law11_spoil : Nat
  ref11_Less : Nat
  slices_Clone_Pair : Nat
  slices_SortFunc_Pair : Nat
  pairset_compare : Nat
  slices_Compact_Pair : Nat
  pairset_find : Nat
  ref07_Code : Nat
  ref07_Instr : Nat
  ref07_Term : Nat
  ref05_UsesA : Nat
  ref05_UsesB : Nat
  ref05_UsesD : Nat
  liveness_scan : Nat
  liveness_set_sorted : Nat
  liveness_solve : Nat
  ref23_live : Nat
  liveness_exit : Nat
  ref09_Start : Nat
  ref06_Eval : Nat
  pairset_filter : Nat
  pairset_DropV_1 : Nat
  pairset_DropL_1 : Nat
  slices_pdqsortCmpFunc_Pair : Nat
  math_bits_Len : Nat
  ref07_in : Nat
  liveness_scan_1 : Nat
  opcode_Of : Nat
  slices_Sort_int : Nat
  source_Successors : Nat
  ref06_bits : Nat
  ref06_half : Nat
  ref06_truth : Nat
  slices_insertionSortCmpFunc_Pair : Nat
  slices_heapSortCmpFunc_Pair : Nat
  slices_breakPatternsCmpFunc_Pair : Nat
  slices_choosePivotCmpFunc_Pair : Nat
  slices_reverseRangeCmpFunc_Pair : Nat
  slices_partialInsertionSortCmpFunc_Pair : Nat
  slices_partitionEqualCmpFunc_Pair : Nat
  slices_partitionCmpFunc_Pair : Nat
  math_bits_Len32 : Nat
  math_bits_Len64 : Nat
  opcode_known : Nat
  slices_pdqsortOrdered_int : Nat
  ref06_bit : Nat
  slices_siftDownCmpFunc_Pair : Nat
  slices_nextPowerOfTwo : Nat
  slices_xorshift_Next : Nat
  slices_medianAdjacentCmpFunc_Pair : Nat
  slices_medianCmpFunc_Pair : Nat
  slices_insertionSortOrdered_int : Nat
  slices_heapSortOrdered_int : Nat
  slices_breakPatternsOrdered_int : Nat
  slices_choosePivotOrdered_int : Nat
  slices_reverseRangeOrdered_int : Nat
  slices_partialInsertionSortOrdered_int : Nat
  cmp_Less_int : Nat
  slices_partitionEqualOrdered_int : Nat
  slices_partitionOrdered_int : Nat
  slices_order2CmpFunc_Pair : Nat
  slices_siftDownOrdered_int : Nat
  slices_medianAdjacentOrdered_int : Nat
  slices_medianOrdered_int : Nat
  cmp_isNaN_int : Nat
  slices_order2Ordered_int : Nat
  law12_TransferMatchesReference : Nat
  law12_TransferSound : Nat
  law12_TransferComplete : Nat
  law12_TransferMonotone : Nat
  law12_TransferKeeps : Nat
  law14_BlockcheckMatchesReference : Nat
  law14_BlockcheckSound : Nat
  law14_BlockcheckMonotone : Nat
  law14_BlockcheckSteps : Nat
  law14_BlockcheckKeeps : Nat
  law12_awake : Nat
  transfer_Copy : Nat
  ref12_Copy : Nat
  transfer_Move : Nat
  ref12_Move : Nat
  transfer_Define : Nat
  ref12_Define : Nat
  law12_known : Nat
  law12_holds : Nat
  law12_subset : Nat
  law14_awake : Nat
  law14_right : Nat
  ref14_Same : Nat
  law14_result : Nat
  blockcheck_Check : Nat
  ref14_Check : Nat
  ref10_Step : Nat
  ref10_Read : Nat
  transfer_rename : Nat
  transfer_Copy_1 : Nat
  transfer_Move_1 : Nat
  ref08_Check : Nat
  align_Code : Nat
  align_Terms : Nat
  blockcheck_checker_run : Nat
  ref14_fail : Nat
  ref13_Code : Nat
  ref13_Terms : Nat
  ref14_grow : Nat
  ref14_use : Nat
  ref08_Code : Nat
  ref08_Instr : Nat
  ref08_Moves : Nat
  align_skip_Instr : Nat
  align_copied : Nat
  align_skip_Mach : Nat
  align_moved : Nat
  align_Same : Nat
  blockcheck_checker_run_1 : Nat
  blockcheck_checker_row : Nat
  blockcheck_checker_use : Nat
  ref13_Operations : Nat
  ref13_Others : Nat
  ref13_Same : Nat
  ref04_InRange : Nat
  blockcheck_checker_cost : Nat
  blockcheck_checker_become : Nat
  blockcheck_checker_instr : Nat
  location_Reg : Nat
def ref11_Make_c1 (p : Nums) : IC := (.region [⟨(some 5), (.mov (.t 4)), none, false⟩, ⟨(some 6), (.mov (.t 0)), none, false⟩, ⟨(some 7), (.len (.t 6)), none, false⟩, ⟨(some 8), (.bin .lss (.t 5) (.t 7)), none, false⟩] [])
@[simp] theorem ref11_Make_c1_eq {P m Q st} {p : Nums} : AW P m (ref11_Make_c1 p) Q st ↔ AW P m (.region [⟨(some 5), (.mov (.t 4)), none, false⟩, ⟨(some 6), (.mov (.t 0)), none, false⟩, ⟨(some 7), (.len (.t 6)), none, false⟩, ⟨(some 8), (.bin .lss (.t 5) (.t 7)), none, false⟩] []) Q st := Iff.rfl
def ref11_Make_c2 (p : Nums) : IC := (.region [⟨(some 11), (.mov (.t 3)), none, false⟩, ⟨(some 12), (.mov (.t 0)), none, false⟩, ⟨(some 13), (.mov (.t 4)), none, false⟩, ⟨(some 14), (.iaddr 2 (.t 12) (.t 13)), none, false⟩, ⟨(some 15), (.load (some 2) (.t 14)), none, false⟩, ⟨(some 16), (.call p.ref11_Add [(.t 11), (.t 15)]), none, false⟩, ⟨(some 3), (.asg (.t 16)), none, false⟩] [])
@[simp] theorem ref11_Make_c2_eq {P m Q st} {p : Nums} : AW P m (ref11_Make_c2 p) Q st ↔ AW P m (.region [⟨(some 11), (.mov (.t 3)), none, false⟩, ⟨(some 12), (.mov (.t 0)), none, false⟩, ⟨(some 13), (.mov (.t 4)), none, false⟩, ⟨(some 14), (.iaddr 2 (.t 12) (.t 13)), none, false⟩, ⟨(some 15), (.load (some 2) (.t 14)), none, false⟩, ⟨(some 16), (.call p.ref11_Add [(.t 11), (.t 15)]), none, false⟩, ⟨(some 3), (.asg (.t 16)), none, false⟩] []) Q st := Iff.rfl
def ref11_Make_c3 (p : Nums) : IC := (.region [⟨(some 9), (.mov (.t 4)), none, false⟩, ⟨(some 10), (.bin .add (.t 9) (.c (.d (.int .i64 1)))), none, false⟩, ⟨(some 4), (.asg (.t 10)), none, false⟩] [])
@[simp] theorem ref11_Make_c3_eq {P m Q st} {p : Nums} : AW P m (ref11_Make_c3 p) Q st ↔ AW P m (.region [⟨(some 9), (.mov (.t 4)), none, false⟩, ⟨(some 10), (.bin .add (.t 9) (.c (.d (.int .i64 1)))), none, false⟩, ⟨(some 4), (.asg (.t 10)), none, false⟩] []) Q st := Iff.rfl
def ref11_Make_c4 (p : Nums) : IC := (.seq (.seq (ref11_Make_c1 p) (.cond (.t 8) .skip (.exit 0))) (.seq (.block 1 (ref11_Make_c2 p)) (ref11_Make_c3 p)))
@[simp] theorem ref11_Make_c4_eq {P m Q st} {p : Nums} : AW P m (ref11_Make_c4 p) Q st ↔ AW P m (.seq (.seq (ref11_Make_c1 p) (.cond (.t 8) .skip (.exit 0))) (.seq (.block 1 (ref11_Make_c2 p)) (ref11_Make_c3 p))) Q st := Iff.rfl
def ic_ref11_Make (p : Nums) : IC := (.seq (.region [⟨(some 2), (.asg (.c .nils)), none, false⟩] []) (.seq (.region [⟨(some 3), (.asg (.c .nils)), none, false⟩] []) (.seq (.seq (.region [⟨(some 4), (.asg (.c (.d (.int .i64 0)))), none, false⟩] []) (.block 0 (.loop (ref11_Make_c4 p)))) (.seq (.region [⟨(some 17), (.mov (.t 3)), none, false⟩, ⟨(some 2), (.asg (.t 17)), none, false⟩] []) .ret))))
def ref11_Missing_c1 (p : Nums) : IC := (.region [⟨(some 4), (.alloc [(.d (.int .i64 0)), (.d (.int .i64 0))]), none, false⟩, ⟨(some 5), (.asg (.c (.d (.bool false)))), none, false⟩] [])
@[simp] theorem ref11_Missing_c1_eq {P m Q st} {p : Nums} : AW P m (ref11_Missing_c1 p) Q st ↔ AW P m (.region [⟨(some 4), (.alloc [(.d (.int .i64 0)), (.d (.int .i64 0))]), none, false⟩, ⟨(some 5), (.asg (.c (.d (.bool false)))), none, false⟩] []) Q st := Iff.rfl
def ref11_Missing_c2 (p : Nums) : IC := (.region [⟨(some 7), (.mov (.t 6)), none, false⟩, ⟨(some 8), (.mov (.t 0)), none, false⟩, ⟨(some 9), (.len (.t 8)), none, false⟩, ⟨(some 10), (.bin .lss (.t 7) (.t 9)), none, false⟩] [])
@[simp] theorem ref11_Missing_c2_eq {P m Q st} {p : Nums} : AW P m (ref11_Missing_c2 p) Q st ↔ AW P m (.region [⟨(some 7), (.mov (.t 6)), none, false⟩, ⟨(some 8), (.mov (.t 0)), none, false⟩, ⟨(some 9), (.len (.t 8)), none, false⟩, ⟨(some 10), (.bin .lss (.t 7) (.t 9)), none, false⟩] []) Q st := Iff.rfl
def ref11_Missing_c3 (p : Nums) : IC := (.region [⟨(some 13), (.mov (.t 1)), none, false⟩, ⟨(some 14), (.mov (.t 0)), none, false⟩, ⟨(some 15), (.mov (.t 6)), none, false⟩, ⟨(some 16), (.iaddr 2 (.t 14) (.t 15)), none, false⟩, ⟨(some 17), (.load (some 2) (.t 16)), none, false⟩, ⟨(some 18), (.call p.ref11_Has [(.t 13), (.t 17)]), none, false⟩, ⟨(some 19), (.un .not (.t 18)), none, false⟩] [])
@[simp] theorem ref11_Missing_c3_eq {P m Q st} {p : Nums} : AW P m (ref11_Missing_c3 p) Q st ↔ AW P m (.region [⟨(some 13), (.mov (.t 1)), none, false⟩, ⟨(some 14), (.mov (.t 0)), none, false⟩, ⟨(some 15), (.mov (.t 6)), none, false⟩, ⟨(some 16), (.iaddr 2 (.t 14) (.t 15)), none, false⟩, ⟨(some 17), (.load (some 2) (.t 16)), none, false⟩, ⟨(some 18), (.call p.ref11_Has [(.t 13), (.t 17)]), none, false⟩, ⟨(some 19), (.un .not (.t 18)), none, false⟩] []) Q st := Iff.rfl
def ref11_Missing_c4 (p : Nums) : IC := (.region [⟨(some 20), (.mov (.t 0)), none, false⟩, ⟨(some 21), (.mov (.t 6)), none, false⟩, ⟨(some 22), (.iaddr 2 (.t 20) (.t 21)), none, false⟩, ⟨(some 23), (.load (some 2) (.t 22)), none, false⟩, ⟨none, (.store 2 (.t 4) (.t 23)), none, false⟩, ⟨(some 5), (.asg (.c (.d (.bool true)))), none, false⟩] [])
@[simp] theorem ref11_Missing_c4_eq {P m Q st} {p : Nums} : AW P m (ref11_Missing_c4 p) Q st ↔ AW P m (.region [⟨(some 20), (.mov (.t 0)), none, false⟩, ⟨(some 21), (.mov (.t 6)), none, false⟩, ⟨(some 22), (.iaddr 2 (.t 20) (.t 21)), none, false⟩, ⟨(some 23), (.load (some 2) (.t 22)), none, false⟩, ⟨none, (.store 2 (.t 4) (.t 23)), none, false⟩, ⟨(some 5), (.asg (.c (.d (.bool true)))), none, false⟩] []) Q st := Iff.rfl
def ref11_Missing_c5 (p : Nums) : IC := (.seq (ref11_Missing_c3 p) (.cond (.t 19) (.seq (ref11_Missing_c4 p) .ret) .skip))
@[simp] theorem ref11_Missing_c5_eq {P m Q st} {p : Nums} : AW P m (ref11_Missing_c5 p) Q st ↔ AW P m (.seq (ref11_Missing_c3 p) (.cond (.t 19) (.seq (ref11_Missing_c4 p) .ret) .skip)) Q st := Iff.rfl
def ref11_Missing_c6 (p : Nums) : IC := (.region [⟨(some 11), (.mov (.t 6)), none, false⟩, ⟨(some 12), (.bin .add (.t 11) (.c (.d (.int .i64 1)))), none, false⟩, ⟨(some 6), (.asg (.t 12)), none, false⟩] [])
@[simp] theorem ref11_Missing_c6_eq {P m Q st} {p : Nums} : AW P m (ref11_Missing_c6 p) Q st ↔ AW P m (.region [⟨(some 11), (.mov (.t 6)), none, false⟩, ⟨(some 12), (.bin .add (.t 11) (.c (.d (.int .i64 1)))), none, false⟩, ⟨(some 6), (.asg (.t 12)), none, false⟩] []) Q st := Iff.rfl
def ref11_Missing_c7 (p : Nums) : IC := (.seq (.seq (ref11_Missing_c2 p) (.cond (.t 10) .skip (.exit 0))) (.seq (.block 1 (ref11_Missing_c5 p)) (ref11_Missing_c6 p)))
@[simp] theorem ref11_Missing_c7_eq {P m Q st} {p : Nums} : AW P m (ref11_Missing_c7 p) Q st ↔ AW P m (.seq (.seq (ref11_Missing_c2 p) (.cond (.t 10) .skip (.exit 0))) (.seq (.block 1 (ref11_Missing_c5 p)) (ref11_Missing_c6 p))) Q st := Iff.rfl
def ref11_Missing_c8 (p : Nums) : IC := (.region [⟨(some 24), (.build [(.d (.int .i64 0)), (.d (.int .i64 0))] []), none, false⟩, ⟨none, (.store 2 (.t 4) (.t 24)), none, false⟩, ⟨(some 5), (.asg (.c (.d (.bool false)))), none, false⟩] [])
@[simp] theorem ref11_Missing_c8_eq {P m Q st} {p : Nums} : AW P m (ref11_Missing_c8 p) Q st ↔ AW P m (.region [⟨(some 24), (.build [(.d (.int .i64 0)), (.d (.int .i64 0))] []), none, false⟩, ⟨none, (.store 2 (.t 4) (.t 24)), none, false⟩, ⟨(some 5), (.asg (.c (.d (.bool false)))), none, false⟩] []) Q st := Iff.rfl
def ic_ref11_Missing (p : Nums) : IC := (.seq (ref11_Missing_c1 p) (.seq (.seq (.region [⟨(some 6), (.asg (.c (.d (.int .i64 0)))), none, false⟩] []) (.block 0 (.loop (ref11_Missing_c7 p)))) (.seq (ref11_Missing_c8 p) .ret)))
def ref11_Same_c1 (p : Nums) : IC := (.region [⟨(some 6), (.mov (.t 0)), none, false⟩, ⟨(some 7), (.len (.t 6)), none, false⟩, ⟨(some 8), (.mov (.t 1)), none, false⟩, ⟨(some 9), (.len (.t 8)), none, false⟩, ⟨(some 10), (.bin .neq (.t 7) (.t 9)), none, false⟩] [])
@[simp] theorem ref11_Same_c1_eq {P m Q st} {p : Nums} : AW P m (ref11_Same_c1 p) Q st ↔ AW P m (.region [⟨(some 6), (.mov (.t 0)), none, false⟩, ⟨(some 7), (.len (.t 6)), none, false⟩, ⟨(some 8), (.mov (.t 1)), none, false⟩, ⟨(some 9), (.len (.t 8)), none, false⟩, ⟨(some 10), (.bin .neq (.t 7) (.t 9)), none, false⟩] []) Q st := Iff.rfl
def ref11_Same_c2 (p : Nums) : IC := (.seq (.region [⟨(some 4), (.asg (.c (.d (.bool false)))), none, false⟩] []) .ret)
@[simp] theorem ref11_Same_c2_eq {P m Q st} {p : Nums} : AW P m (ref11_Same_c2 p) Q st ↔ AW P m (.seq (.region [⟨(some 4), (.asg (.c (.d (.bool false)))), none, false⟩] []) .ret) Q st := Iff.rfl
def ref11_Same_c3 (p : Nums) : IC := (.region [⟨(some 11), (.mov (.t 5)), none, false⟩, ⟨(some 12), (.mov (.t 0)), none, false⟩, ⟨(some 13), (.len (.t 12)), none, false⟩, ⟨(some 14), (.bin .lss (.t 11) (.t 13)), none, false⟩] [])
@[simp] theorem ref11_Same_c3_eq {P m Q st} {p : Nums} : AW P m (ref11_Same_c3 p) Q st ↔ AW P m (.region [⟨(some 11), (.mov (.t 5)), none, false⟩, ⟨(some 12), (.mov (.t 0)), none, false⟩, ⟨(some 13), (.len (.t 12)), none, false⟩, ⟨(some 14), (.bin .lss (.t 11) (.t 13)), none, false⟩] []) Q st := Iff.rfl
def ref11_Same_c4 (p : Nums) : IC := (.region [⟨(some 17), (.mov (.t 0)), none, true⟩, ⟨(some 18), (.mov (.t 5)), none, true⟩, ⟨(some 19), (.iaddr 2 (.t 17) (.t 18)), none, true⟩, ⟨(some 20), (.load (some 2) (.t 19)), none, true⟩, ⟨(some 21), (.mov (.t 1)), none, true⟩, ⟨(some 22), (.mov (.t 5)), none, true⟩, ⟨(some 23), (.iaddr 2 (.t 21) (.t 22)), none, true⟩, ⟨(some 24), (.load (some 2) (.t 23)), none, true⟩, ⟨(some 25), (.eqs true [.int, .int] (.t 20) (.t 24)), none, false⟩] [])
@[simp] theorem ref11_Same_c4_eq {P m Q st} {p : Nums} : AW P m (ref11_Same_c4 p) Q st ↔ AW P m (.region [⟨(some 17), (.mov (.t 0)), none, true⟩, ⟨(some 18), (.mov (.t 5)), none, true⟩, ⟨(some 19), (.iaddr 2 (.t 17) (.t 18)), none, true⟩, ⟨(some 20), (.load (some 2) (.t 19)), none, true⟩, ⟨(some 21), (.mov (.t 1)), none, true⟩, ⟨(some 22), (.mov (.t 5)), none, true⟩, ⟨(some 23), (.iaddr 2 (.t 21) (.t 22)), none, true⟩, ⟨(some 24), (.load (some 2) (.t 23)), none, true⟩, ⟨(some 25), (.eqs true [.int, .int] (.t 20) (.t 24)), none, false⟩] []) Q st := Iff.rfl
def ref11_Same_c5 (p : Nums) : IC := (.seq (.region [⟨(some 4), (.asg (.c (.d (.bool false)))), none, false⟩] []) .ret)
@[simp] theorem ref11_Same_c5_eq {P m Q st} {p : Nums} : AW P m (ref11_Same_c5 p) Q st ↔ AW P m (.seq (.region [⟨(some 4), (.asg (.c (.d (.bool false)))), none, false⟩] []) .ret) Q st := Iff.rfl
def ref11_Same_c6 (p : Nums) : IC := (.seq (ref11_Same_c4 p) (.cond (.t 25) (ref11_Same_c5 p) .skip))
@[simp] theorem ref11_Same_c6_eq {P m Q st} {p : Nums} : AW P m (ref11_Same_c6 p) Q st ↔ AW P m (.seq (ref11_Same_c4 p) (.cond (.t 25) (ref11_Same_c5 p) .skip)) Q st := Iff.rfl
def ref11_Same_c7 (p : Nums) : IC := (.region [⟨(some 15), (.mov (.t 5)), none, false⟩, ⟨(some 16), (.bin .add (.t 15) (.c (.d (.int .i64 1)))), none, false⟩, ⟨(some 5), (.asg (.t 16)), none, false⟩] [])
@[simp] theorem ref11_Same_c7_eq {P m Q st} {p : Nums} : AW P m (ref11_Same_c7 p) Q st ↔ AW P m (.region [⟨(some 15), (.mov (.t 5)), none, false⟩, ⟨(some 16), (.bin .add (.t 15) (.c (.d (.int .i64 1)))), none, false⟩, ⟨(some 5), (.asg (.t 16)), none, false⟩] []) Q st := Iff.rfl
def ref11_Same_c8 (p : Nums) : IC := (.seq (.seq (ref11_Same_c3 p) (.cond (.t 14) .skip (.exit 0))) (.seq (.block 1 (ref11_Same_c6 p)) (ref11_Same_c7 p)))
@[simp] theorem ref11_Same_c8_eq {P m Q st} {p : Nums} : AW P m (ref11_Same_c8 p) Q st ↔ AW P m (.seq (.seq (ref11_Same_c3 p) (.cond (.t 14) .skip (.exit 0))) (.seq (.block 1 (ref11_Same_c6 p)) (ref11_Same_c7 p))) Q st := Iff.rfl
def ic_ref11_Same (p : Nums) : IC := (.seq (.region [⟨(some 4), (.asg (.c (.d (.bool false)))), none, false⟩] []) (.seq (.seq (ref11_Same_c1 p) (.cond (.t 10) (ref11_Same_c2 p) .skip)) (.seq (.seq (.region [⟨(some 5), (.asg (.c (.d (.int .i64 0)))), none, false⟩] []) (.block 0 (.loop (ref11_Same_c8 p)))) (.seq (.region [⟨(some 4), (.asg (.c (.d (.bool true)))), none, false⟩] []) .ret))))
def pairset_Make_c1 (p : Nums) : IC := (.region [⟨(some 4), (.mov (.t 0)), none, false⟩, ⟨(some 5), (.call p.slices_Clone_Pair [(.t 4)]), none, false⟩, ⟨(some 3), (.asg (.t 5)), none, false⟩] [])
@[simp] theorem pairset_Make_c1_eq {P m Q st} {p : Nums} : AW P m (pairset_Make_c1 p) Q st ↔ AW P m (.region [⟨(some 4), (.mov (.t 0)), none, false⟩, ⟨(some 5), (.call p.slices_Clone_Pair [(.t 4)]), none, false⟩, ⟨(some 3), (.asg (.t 5)), none, false⟩] []) Q st := Iff.rfl
def pairset_Make_c2 (p : Nums) : IC := (.region [⟨(some 6), (.mov (.t 3)), none, false⟩, ⟨(some 7), (.call p.slices_SortFunc_Pair [(.t 6), (.c (.fn (.func p.pairset_compare) [] []))]), none, false⟩] [])
@[simp] theorem pairset_Make_c2_eq {P m Q st} {p : Nums} : AW P m (pairset_Make_c2 p) Q st ↔ AW P m (.region [⟨(some 6), (.mov (.t 3)), none, false⟩, ⟨(some 7), (.call p.slices_SortFunc_Pair [(.t 6), (.c (.fn (.func p.pairset_compare) [] []))]), none, false⟩] []) Q st := Iff.rfl
def pairset_Make_c3 (p : Nums) : IC := (.region [⟨(some 8), (.mov (.t 3)), none, false⟩, ⟨(some 9), (.call p.slices_Compact_Pair [(.t 8)]), none, false⟩, ⟨(some 2), (.asg (.t 9)), none, false⟩] [])
@[simp] theorem pairset_Make_c3_eq {P m Q st} {p : Nums} : AW P m (pairset_Make_c3 p) Q st ↔ AW P m (.region [⟨(some 8), (.mov (.t 3)), none, false⟩, ⟨(some 9), (.call p.slices_Compact_Pair [(.t 8)]), none, false⟩, ⟨(some 2), (.asg (.t 9)), none, false⟩] []) Q st := Iff.rfl
def ic_pairset_Make (p : Nums) : IC := (.seq (.region [⟨(some 2), (.asg (.c .nils)), none, false⟩] []) (.seq (pairset_Make_c1 p) (.seq (pairset_Make_c2 p) (.seq (pairset_Make_c3 p) .ret))))
def pairset_Has_c1 (p : Nums) : IC := (.region [⟨(some 6), (.mov (.t 0)), none, false⟩, ⟨(some 7), (.load (some 2) (.t 3)), none, false⟩, ⟨(some 8), (.call p.pairset_find [(.t 6), (.t 7)]), none, false⟩, ⟨(some 5), (.asg (.t 8)), none, false⟩] [])
@[simp] theorem pairset_Has_c1_eq {P m Q st} {p : Nums} : AW P m (pairset_Has_c1 p) Q st ↔ AW P m (.region [⟨(some 6), (.mov (.t 0)), none, false⟩, ⟨(some 7), (.load (some 2) (.t 3)), none, false⟩, ⟨(some 8), (.call p.pairset_find [(.t 6), (.t 7)]), none, false⟩, ⟨(some 5), (.asg (.t 8)), none, false⟩] []) Q st := Iff.rfl
def pairset_Has_c2 (p : Nums) : IC := (.region [⟨(some 9), (.mov (.t 5)), none, true⟩, ⟨(some 10), (.mov (.t 0)), none, true⟩, ⟨(some 11), (.len (.t 10)), none, true⟩, ⟨(some 12), (.bin .lss (.t 9) (.t 11)), none, false⟩, ⟨(some 13), (.mov (.t 12)), none, false⟩, ⟨(some 14), (.mov (.t 0)), (some (13, true)), true⟩, ⟨(some 15), (.mov (.t 5)), (some (13, true)), true⟩, ⟨(some 16), (.iaddr 2 (.t 14) (.t 15)), (some (13, true)), true⟩, ⟨(some 17), (.load (some 2) (.t 16)), (some (13, true)), true⟩, ⟨(some 18), (.load (some 2) (.t 3)), (some (13, true)), true⟩, ⟨(some 19), (.eqs false [.int, .int] (.t 17) (.t 18)), (some (13, true)), false⟩, ⟨(some 20), (.pick (.t 13) (.t 19) (.c (.d (.bool false)))), none, false⟩, ⟨(some 4), (.asg (.t 20)), none, false⟩] [])
@[simp] theorem pairset_Has_c2_eq {P m Q st} {p : Nums} : AW P m (pairset_Has_c2 p) Q st ↔ AW P m (.region [⟨(some 9), (.mov (.t 5)), none, true⟩, ⟨(some 10), (.mov (.t 0)), none, true⟩, ⟨(some 11), (.len (.t 10)), none, true⟩, ⟨(some 12), (.bin .lss (.t 9) (.t 11)), none, false⟩, ⟨(some 13), (.mov (.t 12)), none, false⟩, ⟨(some 14), (.mov (.t 0)), (some (13, true)), true⟩, ⟨(some 15), (.mov (.t 5)), (some (13, true)), true⟩, ⟨(some 16), (.iaddr 2 (.t 14) (.t 15)), (some (13, true)), true⟩, ⟨(some 17), (.load (some 2) (.t 16)), (some (13, true)), true⟩, ⟨(some 18), (.load (some 2) (.t 3)), (some (13, true)), true⟩, ⟨(some 19), (.eqs false [.int, .int] (.t 17) (.t 18)), (some (13, true)), false⟩, ⟨(some 20), (.pick (.t 13) (.t 19) (.c (.d (.bool false)))), none, false⟩, ⟨(some 4), (.asg (.t 20)), none, false⟩] []) Q st := Iff.rfl
def ic_pairset_Has (p : Nums) : IC := (.seq (.region [⟨(some 3), (.box (.t 1)), none, false⟩, ⟨(some 4), (.asg (.c (.d (.bool false)))), none, false⟩] []) (.seq (pairset_Has_c1 p) (.seq (pairset_Has_c2 p) .ret)))
def ref11_Has_c1 (p : Nums) : IC := (.region [⟨(some 6), (.mov (.t 5)), none, false⟩, ⟨(some 7), (.mov (.t 0)), none, false⟩, ⟨(some 8), (.len (.t 7)), none, false⟩, ⟨(some 9), (.bin .lss (.t 6) (.t 8)), none, false⟩] [])
@[simp] theorem ref11_Has_c1_eq {P m Q st} {p : Nums} : AW P m (ref11_Has_c1 p) Q st ↔ AW P m (.region [⟨(some 6), (.mov (.t 5)), none, false⟩, ⟨(some 7), (.mov (.t 0)), none, false⟩, ⟨(some 8), (.len (.t 7)), none, false⟩, ⟨(some 9), (.bin .lss (.t 6) (.t 8)), none, false⟩] []) Q st := Iff.rfl
def ref11_Has_c2 (p : Nums) : IC := (.region [⟨(some 12), (.mov (.t 0)), none, true⟩, ⟨(some 13), (.mov (.t 5)), none, true⟩, ⟨(some 14), (.iaddr 2 (.t 12) (.t 13)), none, true⟩, ⟨(some 15), (.load (some 2) (.t 14)), none, true⟩, ⟨(some 16), (.load (some 2) (.t 3)), none, true⟩, ⟨(some 17), (.eqs false [.int, .int] (.t 15) (.t 16)), none, false⟩] [])
@[simp] theorem ref11_Has_c2_eq {P m Q st} {p : Nums} : AW P m (ref11_Has_c2 p) Q st ↔ AW P m (.region [⟨(some 12), (.mov (.t 0)), none, true⟩, ⟨(some 13), (.mov (.t 5)), none, true⟩, ⟨(some 14), (.iaddr 2 (.t 12) (.t 13)), none, true⟩, ⟨(some 15), (.load (some 2) (.t 14)), none, true⟩, ⟨(some 16), (.load (some 2) (.t 3)), none, true⟩, ⟨(some 17), (.eqs false [.int, .int] (.t 15) (.t 16)), none, false⟩] []) Q st := Iff.rfl
def ref11_Has_c3 (p : Nums) : IC := (.seq (.region [⟨(some 4), (.asg (.c (.d (.bool true)))), none, false⟩] []) .ret)
@[simp] theorem ref11_Has_c3_eq {P m Q st} {p : Nums} : AW P m (ref11_Has_c3 p) Q st ↔ AW P m (.seq (.region [⟨(some 4), (.asg (.c (.d (.bool true)))), none, false⟩] []) .ret) Q st := Iff.rfl
def ref11_Has_c4 (p : Nums) : IC := (.seq (ref11_Has_c2 p) (.cond (.t 17) (ref11_Has_c3 p) .skip))
@[simp] theorem ref11_Has_c4_eq {P m Q st} {p : Nums} : AW P m (ref11_Has_c4 p) Q st ↔ AW P m (.seq (ref11_Has_c2 p) (.cond (.t 17) (ref11_Has_c3 p) .skip)) Q st := Iff.rfl
def ref11_Has_c5 (p : Nums) : IC := (.region [⟨(some 10), (.mov (.t 5)), none, false⟩, ⟨(some 11), (.bin .add (.t 10) (.c (.d (.int .i64 1)))), none, false⟩, ⟨(some 5), (.asg (.t 11)), none, false⟩] [])
@[simp] theorem ref11_Has_c5_eq {P m Q st} {p : Nums} : AW P m (ref11_Has_c5 p) Q st ↔ AW P m (.region [⟨(some 10), (.mov (.t 5)), none, false⟩, ⟨(some 11), (.bin .add (.t 10) (.c (.d (.int .i64 1)))), none, false⟩, ⟨(some 5), (.asg (.t 11)), none, false⟩] []) Q st := Iff.rfl
def ref11_Has_c6 (p : Nums) : IC := (.seq (.seq (ref11_Has_c1 p) (.cond (.t 9) .skip (.exit 0))) (.seq (.block 1 (ref11_Has_c4 p)) (ref11_Has_c5 p)))
@[simp] theorem ref11_Has_c6_eq {P m Q st} {p : Nums} : AW P m (ref11_Has_c6 p) Q st ↔ AW P m (.seq (.seq (ref11_Has_c1 p) (.cond (.t 9) .skip (.exit 0))) (.seq (.block 1 (ref11_Has_c4 p)) (ref11_Has_c5 p))) Q st := Iff.rfl
def ic_ref11_Has (p : Nums) : IC := (.seq (.region [⟨(some 3), (.box (.t 1)), none, false⟩, ⟨(some 4), (.asg (.c (.d (.bool false)))), none, false⟩] []) (.seq (.seq (.region [⟨(some 5), (.asg (.c (.d (.int .i64 0)))), none, false⟩] []) (.block 0 (.loop (ref11_Has_c6 p)))) (.seq (.region [⟨(some 4), (.asg (.c (.d (.bool false)))), none, false⟩] []) .ret)))
def pairset_Add_c1 (p : Nums) : IC := (.region [⟨(some 7), (.mov (.t 0)), none, false⟩, ⟨(some 8), (.load (some 2) (.t 3)), none, false⟩, ⟨(some 9), (.call p.pairset_find [(.t 7), (.t 8)]), none, false⟩, ⟨(some 5), (.asg (.t 9)), none, false⟩] [])
@[simp] theorem pairset_Add_c1_eq {P m Q st} {p : Nums} : AW P m (pairset_Add_c1 p) Q st ↔ AW P m (.region [⟨(some 7), (.mov (.t 0)), none, false⟩, ⟨(some 8), (.load (some 2) (.t 3)), none, false⟩, ⟨(some 9), (.call p.pairset_find [(.t 7), (.t 8)]), none, false⟩, ⟨(some 5), (.asg (.t 9)), none, false⟩] []) Q st := Iff.rfl
def pairset_Add_c2 (p : Nums) : IC := (.region [⟨(some 10), (.mov (.t 0)), none, false⟩, ⟨(some 11), (.len (.t 10)), none, false⟩, ⟨(some 12), (.bin .add (.t 11) (.c (.d (.int .i64 1)))), none, false⟩, ⟨(some 13), (.mkslice 2 16 [(.int .i64 0), (.int .i64 0)] (.c (.d (.int .i64 0))) (.t 12)), none, false⟩, ⟨(some 6), (.asg (.t 13)), none, false⟩] [])
@[simp] theorem pairset_Add_c2_eq {P m Q st} {p : Nums} : AW P m (pairset_Add_c2 p) Q st ↔ AW P m (.region [⟨(some 10), (.mov (.t 0)), none, false⟩, ⟨(some 11), (.len (.t 10)), none, false⟩, ⟨(some 12), (.bin .add (.t 11) (.c (.d (.int .i64 1)))), none, false⟩, ⟨(some 13), (.mkslice 2 16 [(.int .i64 0), (.int .i64 0)] (.c (.d (.int .i64 0))) (.t 12)), none, false⟩, ⟨(some 6), (.asg (.t 13)), none, false⟩] []) Q st := Iff.rfl
def pairset_Add_c3 (p : Nums) : IC := (.region [⟨(some 14), (.mov (.t 6)), none, true⟩, ⟨(some 15), (.mov (.t 0)), none, true⟩, ⟨(some 16), (.mov (.t 5)), none, true⟩, ⟨(some 17), (.slc 2 (.t 15) none (some (.t 16))), none, true⟩, ⟨(some 18), (.appq 2 16 (.t 14) (.t 17) 6), none, true⟩, ⟨(some 19), (.load (some 2) (.t 3)), none, true⟩, ⟨(some 20), (.bslice 2 1 [(.int .i64 0), (.int .i64 0)] [(0, (.t 19))]), none, true⟩, ⟨(some 21), (.app 2 16 (.t 18) (.t 20)), none, false⟩, ⟨(some 6), (.asg (.t 21)), none, false⟩] [41])
@[simp] theorem pairset_Add_c3_eq {P m Q st} {p : Nums} : AW P m (pairset_Add_c3 p) Q st ↔ AW P m (.region [⟨(some 14), (.mov (.t 6)), none, true⟩, ⟨(some 15), (.mov (.t 0)), none, true⟩, ⟨(some 16), (.mov (.t 5)), none, true⟩, ⟨(some 17), (.slc 2 (.t 15) none (some (.t 16))), none, true⟩, ⟨(some 18), (.appq 2 16 (.t 14) (.t 17) 6), none, true⟩, ⟨(some 19), (.load (some 2) (.t 3)), none, true⟩, ⟨(some 20), (.bslice 2 1 [(.int .i64 0), (.int .i64 0)] [(0, (.t 19))]), none, true⟩, ⟨(some 21), (.app 2 16 (.t 18) (.t 20)), none, false⟩, ⟨(some 6), (.asg (.t 21)), none, false⟩] [41]) Q st := Iff.rfl
def pairset_Add_c4 (p : Nums) : IC := (.region [⟨(some 22), (.mov (.t 5)), none, true⟩, ⟨(some 23), (.mov (.t 0)), none, true⟩, ⟨(some 24), (.len (.t 23)), none, true⟩, ⟨(some 25), (.bin .lss (.t 22) (.t 24)), none, false⟩, ⟨(some 26), (.mov (.t 25)), none, false⟩, ⟨(some 27), (.mov (.t 0)), (some (26, true)), true⟩, ⟨(some 28), (.mov (.t 5)), (some (26, true)), true⟩, ⟨(some 29), (.iaddr 2 (.t 27) (.t 28)), (some (26, true)), true⟩, ⟨(some 30), (.load (some 2) (.t 29)), (some (26, true)), true⟩, ⟨(some 31), (.load (some 2) (.t 3)), (some (26, true)), true⟩, ⟨(some 32), (.eqs false [.int, .int] (.t 30) (.t 31)), (some (26, true)), false⟩, ⟨(some 33), (.pick (.t 26) (.t 32) (.c (.d (.bool false)))), none, false⟩] [])
@[simp] theorem pairset_Add_c4_eq {P m Q st} {p : Nums} : AW P m (pairset_Add_c4 p) Q st ↔ AW P m (.region [⟨(some 22), (.mov (.t 5)), none, true⟩, ⟨(some 23), (.mov (.t 0)), none, true⟩, ⟨(some 24), (.len (.t 23)), none, true⟩, ⟨(some 25), (.bin .lss (.t 22) (.t 24)), none, false⟩, ⟨(some 26), (.mov (.t 25)), none, false⟩, ⟨(some 27), (.mov (.t 0)), (some (26, true)), true⟩, ⟨(some 28), (.mov (.t 5)), (some (26, true)), true⟩, ⟨(some 29), (.iaddr 2 (.t 27) (.t 28)), (some (26, true)), true⟩, ⟨(some 30), (.load (some 2) (.t 29)), (some (26, true)), true⟩, ⟨(some 31), (.load (some 2) (.t 3)), (some (26, true)), true⟩, ⟨(some 32), (.eqs false [.int, .int] (.t 30) (.t 31)), (some (26, true)), false⟩, ⟨(some 33), (.pick (.t 26) (.t 32) (.c (.d (.bool false)))), none, false⟩] []) Q st := Iff.rfl
def pairset_Add_c5 (p : Nums) : IC := (.region [⟨(some 34), (.mov (.t 5)), none, false⟩, ⟨(some 35), (.bin .add (.t 34) (.c (.d (.int .i64 1)))), none, false⟩, ⟨(some 5), (.asg (.t 35)), none, false⟩] [])
@[simp] theorem pairset_Add_c5_eq {P m Q st} {p : Nums} : AW P m (pairset_Add_c5 p) Q st ↔ AW P m (.region [⟨(some 34), (.mov (.t 5)), none, false⟩, ⟨(some 35), (.bin .add (.t 34) (.c (.d (.int .i64 1)))), none, false⟩, ⟨(some 5), (.asg (.t 35)), none, false⟩] []) Q st := Iff.rfl
def pairset_Add_c6 (p : Nums) : IC := (.region [⟨(some 36), (.mov (.t 6)), none, false⟩, ⟨(some 37), (.mov (.t 0)), none, false⟩, ⟨(some 38), (.mov (.t 5)), none, false⟩, ⟨(some 39), (.slc 2 (.t 37) (some (.t 38)) none), none, false⟩, ⟨(some 40), (.app 2 16 (.t 36) (.t 39)), none, false⟩, ⟨(some 4), (.asg (.t 40)), none, false⟩] [])
@[simp] theorem pairset_Add_c6_eq {P m Q st} {p : Nums} : AW P m (pairset_Add_c6 p) Q st ↔ AW P m (.region [⟨(some 36), (.mov (.t 6)), none, false⟩, ⟨(some 37), (.mov (.t 0)), none, false⟩, ⟨(some 38), (.mov (.t 5)), none, false⟩, ⟨(some 39), (.slc 2 (.t 37) (some (.t 38)) none), none, false⟩, ⟨(some 40), (.app 2 16 (.t 36) (.t 39)), none, false⟩, ⟨(some 4), (.asg (.t 40)), none, false⟩] []) Q st := Iff.rfl
def ic_pairset_Add (p : Nums) : IC := (.seq (.region [⟨(some 3), (.box (.t 1)), none, false⟩, ⟨(some 4), (.asg (.c .nils)), none, false⟩] []) (.seq (pairset_Add_c1 p) (.seq (pairset_Add_c2 p) (.seq (pairset_Add_c3 p) (.seq (.seq (pairset_Add_c4 p) (.cond (.t 33) (pairset_Add_c5 p) .skip)) (.seq (pairset_Add_c6 p) .ret))))))
def ref11_Add_c1 (p : Nums) : IC := (.region [⟨(some 8), (.mov (.t 7)), none, false⟩, ⟨(some 9), (.mov (.t 0)), none, false⟩, ⟨(some 10), (.len (.t 9)), none, false⟩, ⟨(some 11), (.bin .lss (.t 8) (.t 10)), none, false⟩] [])
@[simp] theorem ref11_Add_c1_eq {P m Q st} {p : Nums} : AW P m (ref11_Add_c1 p) Q st ↔ AW P m (.region [⟨(some 8), (.mov (.t 7)), none, false⟩, ⟨(some 9), (.mov (.t 0)), none, false⟩, ⟨(some 10), (.len (.t 9)), none, false⟩, ⟨(some 11), (.bin .lss (.t 8) (.t 10)), none, false⟩] []) Q st := Iff.rfl
def ref11_Add_c2 (p : Nums) : IC := (.region [⟨(some 14), (.mov (.t 6)), none, false⟩, ⟨(some 15), (.un .not (.t 14)), none, false⟩, ⟨(some 16), (.mov (.t 15)), none, false⟩, ⟨(some 17), (.mov (.t 0)), (some (16, true)), true⟩, ⟨(some 18), (.mov (.t 7)), (some (16, true)), true⟩, ⟨(some 19), (.iaddr 2 (.t 17) (.t 18)), (some (16, true)), true⟩, ⟨(some 20), (.load (some 2) (.t 19)), (some (16, true)), true⟩, ⟨(some 21), (.load (some 2) (.t 3)), (some (16, true)), true⟩, ⟨(some 22), (.call p.ref11_Less [(.t 20), (.t 21)]), (some (16, true)), false⟩, ⟨(some 23), (.un .not (.t 22)), (some (16, true)), false⟩, ⟨(some 24), (.pick (.t 16) (.t 23) (.c (.d (.bool false)))), none, false⟩] [])
@[simp] theorem ref11_Add_c2_eq {P m Q st} {p : Nums} : AW P m (ref11_Add_c2 p) Q st ↔ AW P m (.region [⟨(some 14), (.mov (.t 6)), none, false⟩, ⟨(some 15), (.un .not (.t 14)), none, false⟩, ⟨(some 16), (.mov (.t 15)), none, false⟩, ⟨(some 17), (.mov (.t 0)), (some (16, true)), true⟩, ⟨(some 18), (.mov (.t 7)), (some (16, true)), true⟩, ⟨(some 19), (.iaddr 2 (.t 17) (.t 18)), (some (16, true)), true⟩, ⟨(some 20), (.load (some 2) (.t 19)), (some (16, true)), true⟩, ⟨(some 21), (.load (some 2) (.t 3)), (some (16, true)), true⟩, ⟨(some 22), (.call p.ref11_Less [(.t 20), (.t 21)]), (some (16, true)), false⟩, ⟨(some 23), (.un .not (.t 22)), (some (16, true)), false⟩, ⟨(some 24), (.pick (.t 16) (.t 23) (.c (.d (.bool false)))), none, false⟩] []) Q st := Iff.rfl
def ref11_Add_c3 (p : Nums) : IC := (.region [⟨(some 25), (.mov (.t 5)), none, false⟩, ⟨(some 26), (.load (some 2) (.t 3)), none, false⟩, ⟨(some 27), (.bslice 2 1 [(.int .i64 0), (.int .i64 0)] [(0, (.t 26))]), none, false⟩, ⟨(some 28), (.app 2 16 (.t 25) (.t 27)), none, false⟩, ⟨(some 5), (.asg (.t 28)), none, false⟩] [])
@[simp] theorem ref11_Add_c3_eq {P m Q st} {p : Nums} : AW P m (ref11_Add_c3 p) Q st ↔ AW P m (.region [⟨(some 25), (.mov (.t 5)), none, false⟩, ⟨(some 26), (.load (some 2) (.t 3)), none, false⟩, ⟨(some 27), (.bslice 2 1 [(.int .i64 0), (.int .i64 0)] [(0, (.t 26))]), none, false⟩, ⟨(some 28), (.app 2 16 (.t 25) (.t 27)), none, false⟩, ⟨(some 5), (.asg (.t 28)), none, false⟩] []) Q st := Iff.rfl
def ref11_Add_c4 (p : Nums) : IC := (.seq (ref11_Add_c3 p) (.region [⟨(some 6), (.asg (.c (.d (.bool true)))), none, false⟩] []))
@[simp] theorem ref11_Add_c4_eq {P m Q st} {p : Nums} : AW P m (ref11_Add_c4 p) Q st ↔ AW P m (.seq (ref11_Add_c3 p) (.region [⟨(some 6), (.asg (.c (.d (.bool true)))), none, false⟩] [])) Q st := Iff.rfl
def ref11_Add_c5 (p : Nums) : IC := (.region [⟨(some 29), (.mov (.t 0)), none, true⟩, ⟨(some 30), (.mov (.t 7)), none, true⟩, ⟨(some 31), (.iaddr 2 (.t 29) (.t 30)), none, true⟩, ⟨(some 32), (.load (some 2) (.t 31)), none, true⟩, ⟨(some 33), (.load (some 2) (.t 3)), none, true⟩, ⟨(some 34), (.eqs true [.int, .int] (.t 32) (.t 33)), none, false⟩] [])
@[simp] theorem ref11_Add_c5_eq {P m Q st} {p : Nums} : AW P m (ref11_Add_c5 p) Q st ↔ AW P m (.region [⟨(some 29), (.mov (.t 0)), none, true⟩, ⟨(some 30), (.mov (.t 7)), none, true⟩, ⟨(some 31), (.iaddr 2 (.t 29) (.t 30)), none, true⟩, ⟨(some 32), (.load (some 2) (.t 31)), none, true⟩, ⟨(some 33), (.load (some 2) (.t 3)), none, true⟩, ⟨(some 34), (.eqs true [.int, .int] (.t 32) (.t 33)), none, false⟩] []) Q st := Iff.rfl
def ref11_Add_c6 (p : Nums) : IC := (.region [⟨(some 35), (.mov (.t 5)), none, false⟩, ⟨(some 36), (.mov (.t 0)), none, false⟩, ⟨(some 37), (.mov (.t 7)), none, false⟩, ⟨(some 38), (.iaddr 2 (.t 36) (.t 37)), none, false⟩, ⟨(some 39), (.load (some 2) (.t 38)), none, false⟩, ⟨(some 40), (.bslice 2 1 [(.int .i64 0), (.int .i64 0)] [(0, (.t 39))]), none, false⟩, ⟨(some 41), (.app 2 16 (.t 35) (.t 40)), none, false⟩, ⟨(some 5), (.asg (.t 41)), none, false⟩] [])
@[simp] theorem ref11_Add_c6_eq {P m Q st} {p : Nums} : AW P m (ref11_Add_c6 p) Q st ↔ AW P m (.region [⟨(some 35), (.mov (.t 5)), none, false⟩, ⟨(some 36), (.mov (.t 0)), none, false⟩, ⟨(some 37), (.mov (.t 7)), none, false⟩, ⟨(some 38), (.iaddr 2 (.t 36) (.t 37)), none, false⟩, ⟨(some 39), (.load (some 2) (.t 38)), none, false⟩, ⟨(some 40), (.bslice 2 1 [(.int .i64 0), (.int .i64 0)] [(0, (.t 39))]), none, false⟩, ⟨(some 41), (.app 2 16 (.t 35) (.t 40)), none, false⟩, ⟨(some 5), (.asg (.t 41)), none, false⟩] []) Q st := Iff.rfl
def ref11_Add_c7 (p : Nums) : IC := (.seq (.seq (ref11_Add_c2 p) (.cond (.t 24) (ref11_Add_c4 p) .skip)) (.seq (ref11_Add_c5 p) (.cond (.t 34) (ref11_Add_c6 p) .skip)))
@[simp] theorem ref11_Add_c7_eq {P m Q st} {p : Nums} : AW P m (ref11_Add_c7 p) Q st ↔ AW P m (.seq (.seq (ref11_Add_c2 p) (.cond (.t 24) (ref11_Add_c4 p) .skip)) (.seq (ref11_Add_c5 p) (.cond (.t 34) (ref11_Add_c6 p) .skip))) Q st := Iff.rfl
def ref11_Add_c8 (p : Nums) : IC := (.region [⟨(some 12), (.mov (.t 7)), none, false⟩, ⟨(some 13), (.bin .add (.t 12) (.c (.d (.int .i64 1)))), none, false⟩, ⟨(some 7), (.asg (.t 13)), none, false⟩] [])
@[simp] theorem ref11_Add_c8_eq {P m Q st} {p : Nums} : AW P m (ref11_Add_c8 p) Q st ↔ AW P m (.region [⟨(some 12), (.mov (.t 7)), none, false⟩, ⟨(some 13), (.bin .add (.t 12) (.c (.d (.int .i64 1)))), none, false⟩, ⟨(some 7), (.asg (.t 13)), none, false⟩] []) Q st := Iff.rfl
def ref11_Add_c9 (p : Nums) : IC := (.seq (.seq (ref11_Add_c1 p) (.cond (.t 11) .skip (.exit 0))) (.seq (.block 1 (ref11_Add_c7 p)) (ref11_Add_c8 p)))
@[simp] theorem ref11_Add_c9_eq {P m Q st} {p : Nums} : AW P m (ref11_Add_c9 p) Q st ↔ AW P m (.seq (.seq (ref11_Add_c1 p) (.cond (.t 11) .skip (.exit 0))) (.seq (.block 1 (ref11_Add_c7 p)) (ref11_Add_c8 p))) Q st := Iff.rfl
def ref11_Add_c10 (p : Nums) : IC := (.region [⟨(some 44), (.mov (.t 5)), none, false⟩, ⟨(some 45), (.load (some 2) (.t 3)), none, false⟩, ⟨(some 46), (.bslice 2 1 [(.int .i64 0), (.int .i64 0)] [(0, (.t 45))]), none, false⟩, ⟨(some 47), (.app 2 16 (.t 44) (.t 46)), none, false⟩, ⟨(some 5), (.asg (.t 47)), none, false⟩] [])
@[simp] theorem ref11_Add_c10_eq {P m Q st} {p : Nums} : AW P m (ref11_Add_c10 p) Q st ↔ AW P m (.region [⟨(some 44), (.mov (.t 5)), none, false⟩, ⟨(some 45), (.load (some 2) (.t 3)), none, false⟩, ⟨(some 46), (.bslice 2 1 [(.int .i64 0), (.int .i64 0)] [(0, (.t 45))]), none, false⟩, ⟨(some 47), (.app 2 16 (.t 44) (.t 46)), none, false⟩, ⟨(some 5), (.asg (.t 47)), none, false⟩] []) Q st := Iff.rfl
def ic_ref11_Add (p : Nums) : IC := (.seq (.region [⟨(some 3), (.box (.t 1)), none, false⟩, ⟨(some 4), (.asg (.c .nils)), none, false⟩] []) (.seq (.region [⟨(some 5), (.asg (.c .nils)), none, false⟩] []) (.seq (.region [⟨(some 6), (.asg (.c (.d (.bool false)))), none, false⟩] []) (.seq (.seq (.region [⟨(some 7), (.asg (.c (.d (.int .i64 0)))), none, false⟩] []) (.block 0 (.loop (ref11_Add_c9 p)))) (.seq (.seq (.region [⟨(some 42), (.mov (.t 6)), none, false⟩, ⟨(some 43), (.un .not (.t 42)), none, false⟩] []) (.cond (.t 43) (ref11_Add_c10 p) .skip)) (.seq (.region [⟨(some 48), (.mov (.t 5)), none, false⟩, ⟨(some 4), (.asg (.t 48)), none, false⟩] []) .ret))))))
def pairset_Union_c1 (p : Nums) : IC := (.region [⟨(some 7), (.mov (.t 0)), none, false⟩, ⟨(some 8), (.len (.t 7)), none, false⟩, ⟨(some 9), (.mov (.t 1)), none, false⟩, ⟨(some 10), (.len (.t 9)), none, false⟩, ⟨(some 11), (.bin .add (.t 8) (.t 10)), none, false⟩, ⟨(some 12), (.mkslice 2 16 [(.int .i64 0), (.int .i64 0)] (.c (.d (.int .i64 0))) (.t 11)), none, false⟩, ⟨(some 5), (.asg (.t 12)), none, false⟩] [])
@[simp] theorem pairset_Union_c1_eq {P m Q st} {p : Nums} : AW P m (pairset_Union_c1 p) Q st ↔ AW P m (.region [⟨(some 7), (.mov (.t 0)), none, false⟩, ⟨(some 8), (.len (.t 7)), none, false⟩, ⟨(some 9), (.mov (.t 1)), none, false⟩, ⟨(some 10), (.len (.t 9)), none, false⟩, ⟨(some 11), (.bin .add (.t 8) (.t 10)), none, false⟩, ⟨(some 12), (.mkslice 2 16 [(.int .i64 0), (.int .i64 0)] (.c (.d (.int .i64 0))) (.t 11)), none, false⟩, ⟨(some 5), (.asg (.t 12)), none, false⟩] []) Q st := Iff.rfl
def pairset_Union_c2 (p : Nums) : IC := (.region [⟨(some 13), (.mov (.t 0)), none, false⟩, ⟨(some 14), (.len (.t 13)), none, false⟩, ⟨(some 15), (.bin .gtr (.t 14) (.c (.d (.int .i64 0)))), none, false⟩, ⟨(some 16), (.mov (.t 15)), none, false⟩, ⟨(some 17), (.mov (.t 1)), (some (16, true)), false⟩, ⟨(some 18), (.len (.t 17)), (some (16, true)), false⟩, ⟨(some 19), (.bin .gtr (.t 18) (.c (.d (.int .i64 0)))), (some (16, true)), false⟩, ⟨(some 20), (.pick (.t 16) (.t 19) (.c (.d (.bool false)))), none, false⟩] [])
@[simp] theorem pairset_Union_c2_eq {P m Q st} {p : Nums} : AW P m (pairset_Union_c2 p) Q st ↔ AW P m (.region [⟨(some 13), (.mov (.t 0)), none, false⟩, ⟨(some 14), (.len (.t 13)), none, false⟩, ⟨(some 15), (.bin .gtr (.t 14) (.c (.d (.int .i64 0)))), none, false⟩, ⟨(some 16), (.mov (.t 15)), none, false⟩, ⟨(some 17), (.mov (.t 1)), (some (16, true)), false⟩, ⟨(some 18), (.len (.t 17)), (some (16, true)), false⟩, ⟨(some 19), (.bin .gtr (.t 18) (.c (.d (.int .i64 0)))), (some (16, true)), false⟩, ⟨(some 20), (.pick (.t 16) (.t 19) (.c (.d (.bool false)))), none, false⟩] []) Q st := Iff.rfl
def pairset_Union_c3 (p : Nums) : IC := (.region [⟨(some 21), (.mov (.t 0)), none, false⟩, ⟨(some 22), (.iaddr 2 (.t 21) (.c (.d (.int .i64 0)))), none, false⟩, ⟨(some 23), (.load (some 2) (.t 22)), none, false⟩, ⟨(some 6), (.alloc [(.d (.int .i64 0)), (.d (.int .i64 0))]), none, false⟩, ⟨none, (.store 2 (.t 6) (.t 23)), none, false⟩] [])
@[simp] theorem pairset_Union_c3_eq {P m Q st} {p : Nums} : AW P m (pairset_Union_c3 p) Q st ↔ AW P m (.region [⟨(some 21), (.mov (.t 0)), none, false⟩, ⟨(some 22), (.iaddr 2 (.t 21) (.c (.d (.int .i64 0)))), none, false⟩, ⟨(some 23), (.load (some 2) (.t 22)), none, false⟩, ⟨(some 6), (.alloc [(.d (.int .i64 0)), (.d (.int .i64 0))]), none, false⟩, ⟨none, (.store 2 (.t 6) (.t 23)), none, false⟩] []) Q st := Iff.rfl
def pairset_Union_c4 (p : Nums) : IC := (.region [⟨(some 24), (.mov (.t 1)), none, true⟩, ⟨(some 25), (.iaddr 2 (.t 24) (.c (.d (.int .i64 0)))), none, true⟩, ⟨(some 26), (.load (some 2) (.t 25)), none, true⟩, ⟨(some 27), (.load (some 2) (.t 6)), none, true⟩, ⟨(some 28), (.call p.pairset_Less [(.t 26), (.t 27)]), none, false⟩] [])
@[simp] theorem pairset_Union_c4_eq {P m Q st} {p : Nums} : AW P m (pairset_Union_c4 p) Q st ↔ AW P m (.region [⟨(some 24), (.mov (.t 1)), none, true⟩, ⟨(some 25), (.iaddr 2 (.t 24) (.c (.d (.int .i64 0)))), none, true⟩, ⟨(some 26), (.load (some 2) (.t 25)), none, true⟩, ⟨(some 27), (.load (some 2) (.t 6)), none, true⟩, ⟨(some 28), (.call p.pairset_Less [(.t 26), (.t 27)]), none, false⟩] []) Q st := Iff.rfl
def pairset_Union_c5 (p : Nums) : IC := (.region [⟨(some 29), (.mov (.t 1)), none, false⟩, ⟨(some 30), (.iaddr 2 (.t 29) (.c (.d (.int .i64 0)))), none, false⟩, ⟨(some 31), (.load (some 2) (.t 30)), none, false⟩, ⟨none, (.store 2 (.t 6) (.t 31)), none, false⟩] [])
@[simp] theorem pairset_Union_c5_eq {P m Q st} {p : Nums} : AW P m (pairset_Union_c5 p) Q st ↔ AW P m (.region [⟨(some 29), (.mov (.t 1)), none, false⟩, ⟨(some 30), (.iaddr 2 (.t 29) (.c (.d (.int .i64 0)))), none, false⟩, ⟨(some 31), (.load (some 2) (.t 30)), none, false⟩, ⟨none, (.store 2 (.t 6) (.t 31)), none, false⟩] []) Q st := Iff.rfl
def pairset_Union_c6 (p : Nums) : IC := (.region [⟨(some 32), (.mov (.t 5)), none, false⟩, ⟨(some 33), (.load (some 2) (.t 6)), none, false⟩, ⟨(some 34), (.bslice 2 1 [(.int .i64 0), (.int .i64 0)] [(0, (.t 33))]), none, false⟩, ⟨(some 35), (.app 2 16 (.t 32) (.t 34)), none, false⟩, ⟨(some 5), (.asg (.t 35)), none, false⟩] [])
@[simp] theorem pairset_Union_c6_eq {P m Q st} {p : Nums} : AW P m (pairset_Union_c6 p) Q st ↔ AW P m (.region [⟨(some 32), (.mov (.t 5)), none, false⟩, ⟨(some 33), (.load (some 2) (.t 6)), none, false⟩, ⟨(some 34), (.bslice 2 1 [(.int .i64 0), (.int .i64 0)] [(0, (.t 33))]), none, false⟩, ⟨(some 35), (.app 2 16 (.t 32) (.t 34)), none, false⟩, ⟨(some 5), (.asg (.t 35)), none, false⟩] []) Q st := Iff.rfl
def pairset_Union_c7 (p : Nums) : IC := (.region [⟨(some 36), (.mov (.t 0)), none, true⟩, ⟨(some 37), (.iaddr 2 (.t 36) (.c (.d (.int .i64 0)))), none, true⟩, ⟨(some 38), (.load (some 2) (.t 37)), none, true⟩, ⟨(some 39), (.load (some 2) (.t 6)), none, true⟩, ⟨(some 40), (.eqs false [.int, .int] (.t 38) (.t 39)), none, false⟩] [])
@[simp] theorem pairset_Union_c7_eq {P m Q st} {p : Nums} : AW P m (pairset_Union_c7 p) Q st ↔ AW P m (.region [⟨(some 36), (.mov (.t 0)), none, true⟩, ⟨(some 37), (.iaddr 2 (.t 36) (.c (.d (.int .i64 0)))), none, true⟩, ⟨(some 38), (.load (some 2) (.t 37)), none, true⟩, ⟨(some 39), (.load (some 2) (.t 6)), none, true⟩, ⟨(some 40), (.eqs false [.int, .int] (.t 38) (.t 39)), none, false⟩] []) Q st := Iff.rfl
def pairset_Union_c8 (p : Nums) : IC := (.region [⟨(some 41), (.mov (.t 0)), none, false⟩, ⟨(some 42), (.slc 2 (.t 41) (some (.c (.d (.int .i64 1)))) none), none, false⟩, ⟨(some 0), (.asg (.t 42)), none, false⟩] [])
@[simp] theorem pairset_Union_c8_eq {P m Q st} {p : Nums} : AW P m (pairset_Union_c8 p) Q st ↔ AW P m (.region [⟨(some 41), (.mov (.t 0)), none, false⟩, ⟨(some 42), (.slc 2 (.t 41) (some (.c (.d (.int .i64 1)))) none), none, false⟩, ⟨(some 0), (.asg (.t 42)), none, false⟩] []) Q st := Iff.rfl
def pairset_Union_c9 (p : Nums) : IC := (.region [⟨(some 43), (.mov (.t 1)), none, true⟩, ⟨(some 44), (.iaddr 2 (.t 43) (.c (.d (.int .i64 0)))), none, true⟩, ⟨(some 45), (.load (some 2) (.t 44)), none, true⟩, ⟨(some 46), (.load (some 2) (.t 6)), none, true⟩, ⟨(some 47), (.eqs false [.int, .int] (.t 45) (.t 46)), none, false⟩] [])
@[simp] theorem pairset_Union_c9_eq {P m Q st} {p : Nums} : AW P m (pairset_Union_c9 p) Q st ↔ AW P m (.region [⟨(some 43), (.mov (.t 1)), none, true⟩, ⟨(some 44), (.iaddr 2 (.t 43) (.c (.d (.int .i64 0)))), none, true⟩, ⟨(some 45), (.load (some 2) (.t 44)), none, true⟩, ⟨(some 46), (.load (some 2) (.t 6)), none, true⟩, ⟨(some 47), (.eqs false [.int, .int] (.t 45) (.t 46)), none, false⟩] []) Q st := Iff.rfl
def pairset_Union_c10 (p : Nums) : IC := (.region [⟨(some 48), (.mov (.t 1)), none, false⟩, ⟨(some 49), (.slc 2 (.t 48) (some (.c (.d (.int .i64 1)))) none), none, false⟩, ⟨(some 1), (.asg (.t 49)), none, false⟩] [])
@[simp] theorem pairset_Union_c10_eq {P m Q st} {p : Nums} : AW P m (pairset_Union_c10 p) Q st ↔ AW P m (.region [⟨(some 48), (.mov (.t 1)), none, false⟩, ⟨(some 49), (.slc 2 (.t 48) (some (.c (.d (.int .i64 1)))) none), none, false⟩, ⟨(some 1), (.asg (.t 49)), none, false⟩] []) Q st := Iff.rfl
def pairset_Union_c11 (p : Nums) : IC := (.seq (pairset_Union_c3 p) (.seq (.seq (pairset_Union_c4 p) (.cond (.t 28) (pairset_Union_c5 p) .skip)) (.seq (pairset_Union_c6 p) (.seq (.seq (pairset_Union_c7 p) (.cond (.t 40) (pairset_Union_c8 p) .skip)) (.seq (pairset_Union_c9 p) (.cond (.t 47) (pairset_Union_c10 p) .skip))))))
@[simp] theorem pairset_Union_c11_eq {P m Q st} {p : Nums} : AW P m (pairset_Union_c11 p) Q st ↔ AW P m (.seq (pairset_Union_c3 p) (.seq (.seq (pairset_Union_c4 p) (.cond (.t 28) (pairset_Union_c5 p) .skip)) (.seq (pairset_Union_c6 p) (.seq (.seq (pairset_Union_c7 p) (.cond (.t 40) (pairset_Union_c8 p) .skip)) (.seq (pairset_Union_c9 p) (.cond (.t 47) (pairset_Union_c10 p) .skip)))))) Q st := Iff.rfl
def pairset_Union_c12 (p : Nums) : IC := (.seq (.seq (pairset_Union_c2 p) (.cond (.t 20) .skip (.exit 0))) (.block 1 (pairset_Union_c11 p)))
@[simp] theorem pairset_Union_c12_eq {P m Q st} {p : Nums} : AW P m (pairset_Union_c12 p) Q st ↔ AW P m (.seq (.seq (pairset_Union_c2 p) (.cond (.t 20) .skip (.exit 0))) (.block 1 (pairset_Union_c11 p))) Q st := Iff.rfl
def pairset_Union_c13 (p : Nums) : IC := (.region [⟨(some 50), (.mov (.t 5)), none, false⟩, ⟨(some 51), (.mov (.t 0)), none, false⟩, ⟨(some 52), (.app 2 16 (.t 50) (.t 51)), none, false⟩, ⟨(some 53), (.mov (.t 1)), none, false⟩, ⟨(some 54), (.app 2 16 (.t 52) (.t 53)), none, false⟩, ⟨(some 4), (.asg (.t 54)), none, false⟩] [])
@[simp] theorem pairset_Union_c13_eq {P m Q st} {p : Nums} : AW P m (pairset_Union_c13 p) Q st ↔ AW P m (.region [⟨(some 50), (.mov (.t 5)), none, false⟩, ⟨(some 51), (.mov (.t 0)), none, false⟩, ⟨(some 52), (.app 2 16 (.t 50) (.t 51)), none, false⟩, ⟨(some 53), (.mov (.t 1)), none, false⟩, ⟨(some 54), (.app 2 16 (.t 52) (.t 53)), none, false⟩, ⟨(some 4), (.asg (.t 54)), none, false⟩] []) Q st := Iff.rfl
def ic_pairset_Union (p : Nums) : IC := (.seq (.region [⟨(some 4), (.asg (.c .nils)), none, false⟩] []) (.seq (pairset_Union_c1 p) (.seq (.block 0 (.loop (pairset_Union_c12 p))) (.seq (pairset_Union_c13 p) .ret))))
def pairset_Less_c1 (p : Nums) : IC := (.region [⟨(some 2), (.box (.t 0)), none, false⟩, ⟨(some 3), (.box (.t 1)), none, false⟩, ⟨(some 4), (.asg (.c (.d (.bool false)))), none, false⟩] [])
@[simp] theorem pairset_Less_c1_eq {P m Q st} {p : Nums} : AW P m (pairset_Less_c1 p) Q st ↔ AW P m (.region [⟨(some 2), (.box (.t 0)), none, false⟩, ⟨(some 3), (.box (.t 1)), none, false⟩, ⟨(some 4), (.asg (.c (.d (.bool false)))), none, false⟩] []) Q st := Iff.rfl
def pairset_Less_c2 (p : Nums) : IC := (.region [⟨(some 5), (.faddr 0 (.t 2)), none, false⟩, ⟨(some 6), (.load none (.t 5)), none, false⟩, ⟨(some 7), (.faddr 0 (.t 3)), none, false⟩, ⟨(some 8), (.load none (.t 7)), none, false⟩, ⟨(some 9), (.bin .lss (.t 6) (.t 8)), none, false⟩, ⟨(some 10), (.mov (.t 9)), none, false⟩, ⟨(some 11), (.faddr 0 (.t 2)), (some (10, false)), false⟩, ⟨(some 12), (.load none (.t 11)), (some (10, false)), false⟩, ⟨(some 13), (.faddr 0 (.t 3)), (some (10, false)), false⟩, ⟨(some 14), (.load none (.t 13)), (some (10, false)), false⟩, ⟨(some 15), (.bin .eql (.t 12) (.t 14)), (some (10, false)), false⟩, ⟨(some 16), (.mov (.t 15)), (some (10, false)), false⟩, ⟨(some 17), (.faddr 1 (.t 2)), (some (16, true)), false⟩, ⟨(some 18), (.load none (.t 17)), (some (16, true)), false⟩, ⟨(some 19), (.faddr 1 (.t 3)), (some (16, true)), false⟩, ⟨(some 20), (.load none (.t 19)), (some (16, true)), false⟩, ⟨(some 21), (.bin .lss (.t 18) (.t 20)), (some (16, true)), false⟩, ⟨(some 22), (.pick (.t 16) (.t 21) (.c (.d (.bool false)))), (some (10, false)), false⟩, ⟨(some 23), (.pick (.t 10) (.c (.d (.bool true))) (.t 22)), none, false⟩, ⟨(some 4), (.asg (.t 23)), none, false⟩] [])
@[simp] theorem pairset_Less_c2_eq {P m Q st} {p : Nums} : AW P m (pairset_Less_c2 p) Q st ↔ AW P m (.region [⟨(some 5), (.faddr 0 (.t 2)), none, false⟩, ⟨(some 6), (.load none (.t 5)), none, false⟩, ⟨(some 7), (.faddr 0 (.t 3)), none, false⟩, ⟨(some 8), (.load none (.t 7)), none, false⟩, ⟨(some 9), (.bin .lss (.t 6) (.t 8)), none, false⟩, ⟨(some 10), (.mov (.t 9)), none, false⟩, ⟨(some 11), (.faddr 0 (.t 2)), (some (10, false)), false⟩, ⟨(some 12), (.load none (.t 11)), (some (10, false)), false⟩, ⟨(some 13), (.faddr 0 (.t 3)), (some (10, false)), false⟩, ⟨(some 14), (.load none (.t 13)), (some (10, false)), false⟩, ⟨(some 15), (.bin .eql (.t 12) (.t 14)), (some (10, false)), false⟩, ⟨(some 16), (.mov (.t 15)), (some (10, false)), false⟩, ⟨(some 17), (.faddr 1 (.t 2)), (some (16, true)), false⟩, ⟨(some 18), (.load none (.t 17)), (some (16, true)), false⟩, ⟨(some 19), (.faddr 1 (.t 3)), (some (16, true)), false⟩, ⟨(some 20), (.load none (.t 19)), (some (16, true)), false⟩, ⟨(some 21), (.bin .lss (.t 18) (.t 20)), (some (16, true)), false⟩, ⟨(some 22), (.pick (.t 16) (.t 21) (.c (.d (.bool false)))), (some (10, false)), false⟩, ⟨(some 23), (.pick (.t 10) (.c (.d (.bool true))) (.t 22)), none, false⟩, ⟨(some 4), (.asg (.t 23)), none, false⟩] []) Q st := Iff.rfl
def ic_pairset_Less (p : Nums) : IC := (.seq (pairset_Less_c1 p) (.seq (pairset_Less_c2 p) .ret))
def pairset_DropV_c1 (p : Nums) : IC := (.region [⟨(some 5), (.mov (.t 0)), none, false⟩, ⟨(some 6), (.mkfn (.func p.pairset_DropV_1) [] [(.t 3)]), none, false⟩, ⟨(some 7), (.call p.pairset_filter [(.t 5), (.t 6)]), none, false⟩, ⟨(some 4), (.asg (.t 7)), none, false⟩] [])
@[simp] theorem pairset_DropV_c1_eq {P m Q st} {p : Nums} : AW P m (pairset_DropV_c1 p) Q st ↔ AW P m (.region [⟨(some 5), (.mov (.t 0)), none, false⟩, ⟨(some 6), (.mkfn (.func p.pairset_DropV_1) [] [(.t 3)]), none, false⟩, ⟨(some 7), (.call p.pairset_filter [(.t 5), (.t 6)]), none, false⟩, ⟨(some 4), (.asg (.t 7)), none, false⟩] []) Q st := Iff.rfl
def ic_pairset_DropV (p : Nums) : IC := (.seq (.region [⟨(some 3), (.box (.t 1)), none, false⟩, ⟨(some 4), (.asg (.c .nils)), none, false⟩] []) (.seq (pairset_DropV_c1 p) .ret))
def pairset_DropL_c1 (p : Nums) : IC := (.region [⟨(some 5), (.mov (.t 0)), none, false⟩, ⟨(some 6), (.mkfn (.func p.pairset_DropL_1) [] [(.t 3)]), none, false⟩, ⟨(some 7), (.call p.pairset_filter [(.t 5), (.t 6)]), none, false⟩, ⟨(some 4), (.asg (.t 7)), none, false⟩] [])
@[simp] theorem pairset_DropL_c1_eq {P m Q st} {p : Nums} : AW P m (pairset_DropL_c1 p) Q st ↔ AW P m (.region [⟨(some 5), (.mov (.t 0)), none, false⟩, ⟨(some 6), (.mkfn (.func p.pairset_DropL_1) [] [(.t 3)]), none, false⟩, ⟨(some 7), (.call p.pairset_filter [(.t 5), (.t 6)]), none, false⟩, ⟨(some 4), (.asg (.t 7)), none, false⟩] []) Q st := Iff.rfl
def ic_pairset_DropL (p : Nums) : IC := (.seq (.region [⟨(some 3), (.box (.t 1)), none, false⟩, ⟨(some 4), (.asg (.c .nils)), none, false⟩] []) (.seq (pairset_DropL_c1 p) .ret))
def ref11_Less_c1 (p : Nums) : IC := (.region [⟨(some 2), (.box (.t 0)), none, false⟩, ⟨(some 3), (.box (.t 1)), none, false⟩, ⟨(some 4), (.asg (.c (.d (.bool false)))), none, false⟩] [])
@[simp] theorem ref11_Less_c1_eq {P m Q st} {p : Nums} : AW P m (ref11_Less_c1 p) Q st ↔ AW P m (.region [⟨(some 2), (.box (.t 0)), none, false⟩, ⟨(some 3), (.box (.t 1)), none, false⟩, ⟨(some 4), (.asg (.c (.d (.bool false)))), none, false⟩] []) Q st := Iff.rfl
def ref11_Less_c2 (p : Nums) : IC := (.region [⟨(some 5), (.faddr 0 (.t 2)), none, false⟩, ⟨(some 6), (.load none (.t 5)), none, false⟩, ⟨(some 7), (.faddr 0 (.t 3)), none, false⟩, ⟨(some 8), (.load none (.t 7)), none, false⟩, ⟨(some 9), (.bin .neq (.t 6) (.t 8)), none, false⟩] [])
@[simp] theorem ref11_Less_c2_eq {P m Q st} {p : Nums} : AW P m (ref11_Less_c2 p) Q st ↔ AW P m (.region [⟨(some 5), (.faddr 0 (.t 2)), none, false⟩, ⟨(some 6), (.load none (.t 5)), none, false⟩, ⟨(some 7), (.faddr 0 (.t 3)), none, false⟩, ⟨(some 8), (.load none (.t 7)), none, false⟩, ⟨(some 9), (.bin .neq (.t 6) (.t 8)), none, false⟩] []) Q st := Iff.rfl
def ref11_Less_c3 (p : Nums) : IC := (.region [⟨(some 10), (.faddr 0 (.t 2)), none, false⟩, ⟨(some 11), (.load none (.t 10)), none, false⟩, ⟨(some 12), (.faddr 0 (.t 3)), none, false⟩, ⟨(some 13), (.load none (.t 12)), none, false⟩, ⟨(some 14), (.bin .lss (.t 11) (.t 13)), none, false⟩, ⟨(some 4), (.asg (.t 14)), none, false⟩] [])
@[simp] theorem ref11_Less_c3_eq {P m Q st} {p : Nums} : AW P m (ref11_Less_c3 p) Q st ↔ AW P m (.region [⟨(some 10), (.faddr 0 (.t 2)), none, false⟩, ⟨(some 11), (.load none (.t 10)), none, false⟩, ⟨(some 12), (.faddr 0 (.t 3)), none, false⟩, ⟨(some 13), (.load none (.t 12)), none, false⟩, ⟨(some 14), (.bin .lss (.t 11) (.t 13)), none, false⟩, ⟨(some 4), (.asg (.t 14)), none, false⟩] []) Q st := Iff.rfl
def ref11_Less_c4 (p : Nums) : IC := (.region [⟨(some 15), (.faddr 1 (.t 2)), none, false⟩, ⟨(some 16), (.load none (.t 15)), none, false⟩, ⟨(some 17), (.faddr 1 (.t 3)), none, false⟩, ⟨(some 18), (.load none (.t 17)), none, false⟩, ⟨(some 19), (.bin .lss (.t 16) (.t 18)), none, false⟩, ⟨(some 4), (.asg (.t 19)), none, false⟩] [])
@[simp] theorem ref11_Less_c4_eq {P m Q st} {p : Nums} : AW P m (ref11_Less_c4 p) Q st ↔ AW P m (.region [⟨(some 15), (.faddr 1 (.t 2)), none, false⟩, ⟨(some 16), (.load none (.t 15)), none, false⟩, ⟨(some 17), (.faddr 1 (.t 3)), none, false⟩, ⟨(some 18), (.load none (.t 17)), none, false⟩, ⟨(some 19), (.bin .lss (.t 16) (.t 18)), none, false⟩, ⟨(some 4), (.asg (.t 19)), none, false⟩] []) Q st := Iff.rfl
def ic_ref11_Less (p : Nums) : IC := (.seq (ref11_Less_c1 p) (.seq (.seq (ref11_Less_c2 p) (.cond (.t 9) (.seq (ref11_Less_c3 p) .ret) .skip)) (.seq (ref11_Less_c4 p) .ret)))
def slices_Clone_Pair_c1 (p : Nums) : IC := (.seq (.region [⟨(some 2), (.asg (.c .nils)), none, false⟩] []) .ret)
@[simp] theorem slices_Clone_Pair_c1_eq {P m Q st} {p : Nums} : AW P m (slices_Clone_Pair_c1 p) Q st ↔ AW P m (.seq (.region [⟨(some 2), (.asg (.c .nils)), none, false⟩] []) .ret) Q st := Iff.rfl
def slices_Clone_Pair_c2 (p : Nums) : IC := (.region [⟨(some 5), (.bslice 2 0 [(.int .i64 0), (.int .i64 0)] []), none, false⟩, ⟨(some 6), (.mov (.t 0)), none, false⟩, ⟨(some 7), (.app 2 16 (.t 5) (.t 6)), none, false⟩, ⟨(some 2), (.asg (.t 7)), none, false⟩] [])
@[simp] theorem slices_Clone_Pair_c2_eq {P m Q st} {p : Nums} : AW P m (slices_Clone_Pair_c2 p) Q st ↔ AW P m (.region [⟨(some 5), (.bslice 2 0 [(.int .i64 0), (.int .i64 0)] []), none, false⟩, ⟨(some 6), (.mov (.t 0)), none, false⟩, ⟨(some 7), (.app 2 16 (.t 5) (.t 6)), none, false⟩, ⟨(some 2), (.asg (.t 7)), none, false⟩] []) Q st := Iff.rfl
def ic_slices_Clone_Pair (p : Nums) : IC := (.seq (.region [⟨(some 2), (.asg (.c .nils)), none, false⟩] []) (.seq (.seq (.region [⟨(some 3), (.mov (.t 0)), none, false⟩, ⟨(some 4), (.isnil false (.t 3)), none, false⟩] []) (.cond (.t 4) (slices_Clone_Pair_c1 p) .skip)) (.seq (slices_Clone_Pair_c2 p) .ret)))
def pairset_compare_c1 (p : Nums) : IC := (.region [⟨(some 2), (.box (.t 0)), none, false⟩, ⟨(some 3), (.box (.t 1)), none, false⟩, ⟨(some 4), (.asg (.c (.d (.int .i64 0)))), none, false⟩] [])
@[simp] theorem pairset_compare_c1_eq {P m Q st} {p : Nums} : AW P m (pairset_compare_c1 p) Q st ↔ AW P m (.region [⟨(some 2), (.box (.t 0)), none, false⟩, ⟨(some 3), (.box (.t 1)), none, false⟩, ⟨(some 4), (.asg (.c (.d (.int .i64 0)))), none, false⟩] []) Q st := Iff.rfl
def pairset_compare_c2 (p : Nums) : IC := (.region [⟨(some 6), (.load (some 2) (.t 2)), none, false⟩, ⟨(some 7), (.load (some 2) (.t 3)), none, false⟩, ⟨(some 8), (.call p.pairset_Less [(.t 6), (.t 7)]), none, false⟩, ⟨(some 5), (.asg (.t 8)), none, false⟩] [])
@[simp] theorem pairset_compare_c2_eq {P m Q st} {p : Nums} : AW P m (pairset_compare_c2 p) Q st ↔ AW P m (.region [⟨(some 6), (.load (some 2) (.t 2)), none, false⟩, ⟨(some 7), (.load (some 2) (.t 3)), none, false⟩, ⟨(some 8), (.call p.pairset_Less [(.t 6), (.t 7)]), none, false⟩, ⟨(some 5), (.asg (.t 8)), none, false⟩] []) Q st := Iff.rfl
def pairset_compare_c3 (p : Nums) : IC := (.region [⟨(some 10), (.load (some 2) (.t 3)), none, false⟩, ⟨(some 11), (.load (some 2) (.t 2)), none, false⟩, ⟨(some 12), (.call p.pairset_Less [(.t 10), (.t 11)]), none, false⟩, ⟨(some 9), (.asg (.t 12)), none, false⟩] [])
@[simp] theorem pairset_compare_c3_eq {P m Q st} {p : Nums} : AW P m (pairset_compare_c3 p) Q st ↔ AW P m (.region [⟨(some 10), (.load (some 2) (.t 3)), none, false⟩, ⟨(some 11), (.load (some 2) (.t 2)), none, false⟩, ⟨(some 12), (.call p.pairset_Less [(.t 10), (.t 11)]), none, false⟩, ⟨(some 9), (.asg (.t 12)), none, false⟩] []) Q st := Iff.rfl
def pairset_compare_c4 (p : Nums) : IC := (.seq (.region [⟨(some 4), (.asg (.c (.d (.int .i64 1)))), none, false⟩] []) .ret)
@[simp] theorem pairset_compare_c4_eq {P m Q st} {p : Nums} : AW P m (pairset_compare_c4 p) Q st ↔ AW P m (.seq (.region [⟨(some 4), (.asg (.c (.d (.int .i64 1)))), none, false⟩] []) .ret) Q st := Iff.rfl
def pairset_compare_c5 (p : Nums) : IC := (.seq (.region [⟨(some 4), (.asg (.c (.d (.int .i64 (-1))))), none, false⟩] []) .ret)
@[simp] theorem pairset_compare_c5_eq {P m Q st} {p : Nums} : AW P m (pairset_compare_c5 p) Q st ↔ AW P m (.seq (.region [⟨(some 4), (.asg (.c (.d (.int .i64 (-1))))), none, false⟩] []) .ret) Q st := Iff.rfl
def pairset_compare_c6 (p : Nums) : IC := (.seq (pairset_compare_c3 p) (.cond (.t 9) (pairset_compare_c4 p) .skip))
@[simp] theorem pairset_compare_c6_eq {P m Q st} {p : Nums} : AW P m (pairset_compare_c6 p) Q st ↔ AW P m (.seq (pairset_compare_c3 p) (.cond (.t 9) (pairset_compare_c4 p) .skip)) Q st := Iff.rfl
def pairset_compare_c7 (p : Nums) : IC := (.seq (pairset_compare_c2 p) (.cond (.t 5) (pairset_compare_c5 p) (pairset_compare_c6 p)))
@[simp] theorem pairset_compare_c7_eq {P m Q st} {p : Nums} : AW P m (pairset_compare_c7 p) Q st ↔ AW P m (.seq (pairset_compare_c2 p) (.cond (.t 5) (pairset_compare_c5 p) (pairset_compare_c6 p))) Q st := Iff.rfl
def ic_pairset_compare (p : Nums) : IC := (.seq (pairset_compare_c1 p) (.seq (.block 0 (pairset_compare_c7 p)) (.seq (.region [⟨(some 4), (.asg (.c (.d (.int .i64 0)))), none, false⟩] []) .ret)))
def slices_Compact_Pair_c1 (p : Nums) : IC := (.region [⟨(some 6), (.mov (.t 0)), none, false⟩, ⟨(some 7), (.len (.t 6)), none, false⟩, ⟨(some 8), (.bin .lss (.t 7) (.c (.d (.int .i64 2)))), none, false⟩] [])
@[simp] theorem slices_Compact_Pair_c1_eq {P m Q st} {p : Nums} : AW P m (slices_Compact_Pair_c1 p) Q st ↔ AW P m (.region [⟨(some 6), (.mov (.t 0)), none, false⟩, ⟨(some 7), (.len (.t 6)), none, false⟩, ⟨(some 8), (.bin .lss (.t 7) (.c (.d (.int .i64 2)))), none, false⟩] []) Q st := Iff.rfl
def slices_Compact_Pair_c2 (p : Nums) : IC := (.seq (.region [⟨(some 9), (.mov (.t 0)), none, false⟩, ⟨(some 2), (.asg (.t 9)), none, false⟩] []) .ret)
@[simp] theorem slices_Compact_Pair_c2_eq {P m Q st} {p : Nums} : AW P m (slices_Compact_Pair_c2 p) Q st ↔ AW P m (.seq (.region [⟨(some 9), (.mov (.t 0)), none, false⟩, ⟨(some 2), (.asg (.t 9)), none, false⟩] []) .ret) Q st := Iff.rfl
def slices_Compact_Pair_c3 (p : Nums) : IC := (.region [⟨(some 10), (.mov (.t 3)), none, false⟩, ⟨(some 11), (.mov (.t 0)), none, false⟩, ⟨(some 12), (.len (.t 11)), none, false⟩, ⟨(some 13), (.bin .lss (.t 10) (.t 12)), none, false⟩] [])
@[simp] theorem slices_Compact_Pair_c3_eq {P m Q st} {p : Nums} : AW P m (slices_Compact_Pair_c3 p) Q st ↔ AW P m (.region [⟨(some 10), (.mov (.t 3)), none, false⟩, ⟨(some 11), (.mov (.t 0)), none, false⟩, ⟨(some 12), (.len (.t 11)), none, false⟩, ⟨(some 13), (.bin .lss (.t 10) (.t 12)), none, false⟩] []) Q st := Iff.rfl
def slices_Compact_Pair_c4 (p : Nums) : IC := (.region [⟨(some 16), (.mov (.t 0)), none, true⟩, ⟨(some 17), (.mov (.t 3)), none, true⟩, ⟨(some 18), (.iaddr 2 (.t 16) (.t 17)), none, true⟩, ⟨(some 19), (.load (some 2) (.t 18)), none, true⟩, ⟨(some 20), (.mov (.t 0)), none, true⟩, ⟨(some 21), (.mov (.t 3)), none, true⟩, ⟨(some 22), (.bin .sub (.t 21) (.c (.d (.int .i64 1)))), none, true⟩, ⟨(some 23), (.iaddr 2 (.t 20) (.t 22)), none, true⟩, ⟨(some 24), (.load (some 2) (.t 23)), none, true⟩, ⟨(some 25), (.eqs false [.int, .int] (.t 19) (.t 24)), none, false⟩] [])
@[simp] theorem slices_Compact_Pair_c4_eq {P m Q st} {p : Nums} : AW P m (slices_Compact_Pair_c4 p) Q st ↔ AW P m (.region [⟨(some 16), (.mov (.t 0)), none, true⟩, ⟨(some 17), (.mov (.t 3)), none, true⟩, ⟨(some 18), (.iaddr 2 (.t 16) (.t 17)), none, true⟩, ⟨(some 19), (.load (some 2) (.t 18)), none, true⟩, ⟨(some 20), (.mov (.t 0)), none, true⟩, ⟨(some 21), (.mov (.t 3)), none, true⟩, ⟨(some 22), (.bin .sub (.t 21) (.c (.d (.int .i64 1)))), none, true⟩, ⟨(some 23), (.iaddr 2 (.t 20) (.t 22)), none, true⟩, ⟨(some 24), (.load (some 2) (.t 23)), none, true⟩, ⟨(some 25), (.eqs false [.int, .int] (.t 19) (.t 24)), none, false⟩] []) Q st := Iff.rfl
def slices_Compact_Pair_c5 (p : Nums) : IC := (.region [⟨(some 26), (.mov (.t 0)), none, false⟩, ⟨(some 27), (.mov (.t 3)), none, false⟩, ⟨(some 28), (.slc 2 (.t 26) (some (.t 27)) none), none, false⟩, ⟨(some 4), (.asg (.t 28)), none, false⟩] [])
@[simp] theorem slices_Compact_Pair_c5_eq {P m Q st} {p : Nums} : AW P m (slices_Compact_Pair_c5 p) Q st ↔ AW P m (.region [⟨(some 26), (.mov (.t 0)), none, false⟩, ⟨(some 27), (.mov (.t 3)), none, false⟩, ⟨(some 28), (.slc 2 (.t 26) (some (.t 27)) none), none, false⟩, ⟨(some 4), (.asg (.t 28)), none, false⟩] []) Q st := Iff.rfl
def slices_Compact_Pair_c6 (p : Nums) : IC := (.region [⟨(some 29), (.mov (.t 5)), none, false⟩, ⟨(some 30), (.mov (.t 4)), none, false⟩, ⟨(some 31), (.len (.t 30)), none, false⟩, ⟨(some 32), (.bin .lss (.t 29) (.t 31)), none, false⟩] [])
@[simp] theorem slices_Compact_Pair_c6_eq {P m Q st} {p : Nums} : AW P m (slices_Compact_Pair_c6 p) Q st ↔ AW P m (.region [⟨(some 29), (.mov (.t 5)), none, false⟩, ⟨(some 30), (.mov (.t 4)), none, false⟩, ⟨(some 31), (.len (.t 30)), none, false⟩, ⟨(some 32), (.bin .lss (.t 29) (.t 31)), none, false⟩] []) Q st := Iff.rfl
def slices_Compact_Pair_c7 (p : Nums) : IC := (.region [⟨(some 35), (.mov (.t 4)), none, true⟩, ⟨(some 36), (.mov (.t 5)), none, true⟩, ⟨(some 37), (.iaddr 2 (.t 35) (.t 36)), none, true⟩, ⟨(some 38), (.load (some 2) (.t 37)), none, true⟩, ⟨(some 39), (.mov (.t 4)), none, true⟩, ⟨(some 40), (.mov (.t 5)), none, true⟩, ⟨(some 41), (.bin .sub (.t 40) (.c (.d (.int .i64 1)))), none, true⟩, ⟨(some 42), (.iaddr 2 (.t 39) (.t 41)), none, true⟩, ⟨(some 43), (.load (some 2) (.t 42)), none, true⟩, ⟨(some 44), (.eqs true [.int, .int] (.t 38) (.t 43)), none, false⟩] [])
@[simp] theorem slices_Compact_Pair_c7_eq {P m Q st} {p : Nums} : AW P m (slices_Compact_Pair_c7 p) Q st ↔ AW P m (.region [⟨(some 35), (.mov (.t 4)), none, true⟩, ⟨(some 36), (.mov (.t 5)), none, true⟩, ⟨(some 37), (.iaddr 2 (.t 35) (.t 36)), none, true⟩, ⟨(some 38), (.load (some 2) (.t 37)), none, true⟩, ⟨(some 39), (.mov (.t 4)), none, true⟩, ⟨(some 40), (.mov (.t 5)), none, true⟩, ⟨(some 41), (.bin .sub (.t 40) (.c (.d (.int .i64 1)))), none, true⟩, ⟨(some 42), (.iaddr 2 (.t 39) (.t 41)), none, true⟩, ⟨(some 43), (.load (some 2) (.t 42)), none, true⟩, ⟨(some 44), (.eqs true [.int, .int] (.t 38) (.t 43)), none, false⟩] []) Q st := Iff.rfl
def slices_Compact_Pair_c8 (p : Nums) : IC := (.region [⟨(some 45), (.mov (.t 0)), none, false⟩, ⟨(some 46), (.mov (.t 3)), none, false⟩, ⟨(some 47), (.mov (.t 4)), none, false⟩, ⟨(some 48), (.mov (.t 5)), none, false⟩, ⟨(some 49), (.iaddr 2 (.t 47) (.t 48)), none, false⟩, ⟨(some 50), (.load (some 2) (.t 49)), none, false⟩, ⟨(some 51), (.iaddr 2 (.t 45) (.t 46)), none, false⟩, ⟨none, (.store 2 (.t 51) (.t 50)), none, false⟩] [])
@[simp] theorem slices_Compact_Pair_c8_eq {P m Q st} {p : Nums} : AW P m (slices_Compact_Pair_c8 p) Q st ↔ AW P m (.region [⟨(some 45), (.mov (.t 0)), none, false⟩, ⟨(some 46), (.mov (.t 3)), none, false⟩, ⟨(some 47), (.mov (.t 4)), none, false⟩, ⟨(some 48), (.mov (.t 5)), none, false⟩, ⟨(some 49), (.iaddr 2 (.t 47) (.t 48)), none, false⟩, ⟨(some 50), (.load (some 2) (.t 49)), none, false⟩, ⟨(some 51), (.iaddr 2 (.t 45) (.t 46)), none, false⟩, ⟨none, (.store 2 (.t 51) (.t 50)), none, false⟩] []) Q st := Iff.rfl
def slices_Compact_Pair_c9 (p : Nums) : IC := (.region [⟨(some 52), (.mov (.t 3)), none, false⟩, ⟨(some 53), (.bin .add (.t 52) (.c (.d (.int .i64 1)))), none, false⟩, ⟨(some 3), (.asg (.t 53)), none, false⟩] [])
@[simp] theorem slices_Compact_Pair_c9_eq {P m Q st} {p : Nums} : AW P m (slices_Compact_Pair_c9 p) Q st ↔ AW P m (.region [⟨(some 52), (.mov (.t 3)), none, false⟩, ⟨(some 53), (.bin .add (.t 52) (.c (.d (.int .i64 1)))), none, false⟩, ⟨(some 3), (.asg (.t 53)), none, false⟩] []) Q st := Iff.rfl
def slices_Compact_Pair_c10 (p : Nums) : IC := (.seq (slices_Compact_Pair_c7 p) (.cond (.t 44) (.seq (slices_Compact_Pair_c8 p) (slices_Compact_Pair_c9 p)) .skip))
@[simp] theorem slices_Compact_Pair_c10_eq {P m Q st} {p : Nums} : AW P m (slices_Compact_Pair_c10 p) Q st ↔ AW P m (.seq (slices_Compact_Pair_c7 p) (.cond (.t 44) (.seq (slices_Compact_Pair_c8 p) (slices_Compact_Pair_c9 p)) .skip)) Q st := Iff.rfl
def slices_Compact_Pair_c11 (p : Nums) : IC := (.region [⟨(some 33), (.mov (.t 5)), none, false⟩, ⟨(some 34), (.bin .add (.t 33) (.c (.d (.int .i64 1)))), none, false⟩, ⟨(some 5), (.asg (.t 34)), none, false⟩] [])
@[simp] theorem slices_Compact_Pair_c11_eq {P m Q st} {p : Nums} : AW P m (slices_Compact_Pair_c11 p) Q st ↔ AW P m (.region [⟨(some 33), (.mov (.t 5)), none, false⟩, ⟨(some 34), (.bin .add (.t 33) (.c (.d (.int .i64 1)))), none, false⟩, ⟨(some 5), (.asg (.t 34)), none, false⟩] []) Q st := Iff.rfl
def slices_Compact_Pair_c12 (p : Nums) : IC := (.seq (.seq (slices_Compact_Pair_c6 p) (.cond (.t 32) .skip (.exit 2))) (.seq (.block 3 (slices_Compact_Pair_c10 p)) (slices_Compact_Pair_c11 p)))
@[simp] theorem slices_Compact_Pair_c12_eq {P m Q st} {p : Nums} : AW P m (slices_Compact_Pair_c12 p) Q st ↔ AW P m (.seq (.seq (slices_Compact_Pair_c6 p) (.cond (.t 32) .skip (.exit 2))) (.seq (.block 3 (slices_Compact_Pair_c10 p)) (slices_Compact_Pair_c11 p))) Q st := Iff.rfl
def slices_Compact_Pair_c13 (p : Nums) : IC := (.region [⟨(some 54), (.mov (.t 0)), none, false⟩, ⟨(some 55), (.mov (.t 3)), none, false⟩, ⟨(some 56), (.slc 2 (.t 54) (some (.t 55)) none), none, false⟩, ⟨none, (.clr 2 [(.int .i64 0), (.int .i64 0)] (.t 56)), none, false⟩] [])
@[simp] theorem slices_Compact_Pair_c13_eq {P m Q st} {p : Nums} : AW P m (slices_Compact_Pair_c13 p) Q st ↔ AW P m (.region [⟨(some 54), (.mov (.t 0)), none, false⟩, ⟨(some 55), (.mov (.t 3)), none, false⟩, ⟨(some 56), (.slc 2 (.t 54) (some (.t 55)) none), none, false⟩, ⟨none, (.clr 2 [(.int .i64 0), (.int .i64 0)] (.t 56)), none, false⟩] []) Q st := Iff.rfl
def slices_Compact_Pair_c14 (p : Nums) : IC := (.region [⟨(some 57), (.mov (.t 0)), none, false⟩, ⟨(some 58), (.mov (.t 3)), none, false⟩, ⟨(some 59), (.slc 2 (.t 57) none (some (.t 58))), none, false⟩, ⟨(some 2), (.asg (.t 59)), none, false⟩] [])
@[simp] theorem slices_Compact_Pair_c14_eq {P m Q st} {p : Nums} : AW P m (slices_Compact_Pair_c14 p) Q st ↔ AW P m (.region [⟨(some 57), (.mov (.t 0)), none, false⟩, ⟨(some 58), (.mov (.t 3)), none, false⟩, ⟨(some 59), (.slc 2 (.t 57) none (some (.t 58))), none, false⟩, ⟨(some 2), (.asg (.t 59)), none, false⟩] []) Q st := Iff.rfl
def slices_Compact_Pair_c15 (p : Nums) : IC := (.seq (slices_Compact_Pair_c5 p) (.seq (.seq (.region [⟨(some 5), (.asg (.c (.d (.int .i64 1)))), none, false⟩] []) (.block 2 (.loop (slices_Compact_Pair_c12 p)))) (.seq (slices_Compact_Pair_c13 p) (.seq (slices_Compact_Pair_c14 p) .ret))))
@[simp] theorem slices_Compact_Pair_c15_eq {P m Q st} {p : Nums} : AW P m (slices_Compact_Pair_c15 p) Q st ↔ AW P m (.seq (slices_Compact_Pair_c5 p) (.seq (.seq (.region [⟨(some 5), (.asg (.c (.d (.int .i64 1)))), none, false⟩] []) (.block 2 (.loop (slices_Compact_Pair_c12 p)))) (.seq (slices_Compact_Pair_c13 p) (.seq (slices_Compact_Pair_c14 p) .ret)))) Q st := Iff.rfl
def slices_Compact_Pair_c16 (p : Nums) : IC := (.seq (slices_Compact_Pair_c4 p) (.cond (.t 25) (slices_Compact_Pair_c15 p) .skip))
@[simp] theorem slices_Compact_Pair_c16_eq {P m Q st} {p : Nums} : AW P m (slices_Compact_Pair_c16 p) Q st ↔ AW P m (.seq (slices_Compact_Pair_c4 p) (.cond (.t 25) (slices_Compact_Pair_c15 p) .skip)) Q st := Iff.rfl
def slices_Compact_Pair_c17 (p : Nums) : IC := (.region [⟨(some 14), (.mov (.t 3)), none, false⟩, ⟨(some 15), (.bin .add (.t 14) (.c (.d (.int .i64 1)))), none, false⟩, ⟨(some 3), (.asg (.t 15)), none, false⟩] [])
@[simp] theorem slices_Compact_Pair_c17_eq {P m Q st} {p : Nums} : AW P m (slices_Compact_Pair_c17 p) Q st ↔ AW P m (.region [⟨(some 14), (.mov (.t 3)), none, false⟩, ⟨(some 15), (.bin .add (.t 14) (.c (.d (.int .i64 1)))), none, false⟩, ⟨(some 3), (.asg (.t 15)), none, false⟩] []) Q st := Iff.rfl
def slices_Compact_Pair_c18 (p : Nums) : IC := (.seq (.seq (slices_Compact_Pair_c3 p) (.cond (.t 13) .skip (.exit 0))) (.seq (.block 1 (slices_Compact_Pair_c16 p)) (slices_Compact_Pair_c17 p)))
@[simp] theorem slices_Compact_Pair_c18_eq {P m Q st} {p : Nums} : AW P m (slices_Compact_Pair_c18 p) Q st ↔ AW P m (.seq (.seq (slices_Compact_Pair_c3 p) (.cond (.t 13) .skip (.exit 0))) (.seq (.block 1 (slices_Compact_Pair_c16 p)) (slices_Compact_Pair_c17 p))) Q st := Iff.rfl
def ic_slices_Compact_Pair (p : Nums) : IC := (.seq (.region [⟨(some 2), (.asg (.c .nils)), none, false⟩] []) (.seq (.seq (slices_Compact_Pair_c1 p) (.cond (.t 8) (slices_Compact_Pair_c2 p) .skip)) (.seq (.seq (.region [⟨(some 3), (.asg (.c (.d (.int .i64 1)))), none, false⟩] []) (.block 0 (.loop (slices_Compact_Pair_c18 p)))) (.seq (.region [⟨(some 60), (.mov (.t 0)), none, false⟩, ⟨(some 2), (.asg (.t 60)), none, false⟩] []) .ret))))
def pairset_find_c1 (p : Nums) : IC := (.region [⟨(some 8), (.mov (.t 0)), none, false⟩, ⟨(some 9), (.len (.t 8)), none, false⟩, ⟨(some 5), (.asg (.c (.d (.int .i64 0)))), none, false⟩, ⟨(some 6), (.asg (.t 9)), none, false⟩] [])
@[simp] theorem pairset_find_c1_eq {P m Q st} {p : Nums} : AW P m (pairset_find_c1 p) Q st ↔ AW P m (.region [⟨(some 8), (.mov (.t 0)), none, false⟩, ⟨(some 9), (.len (.t 8)), none, false⟩, ⟨(some 5), (.asg (.c (.d (.int .i64 0)))), none, false⟩, ⟨(some 6), (.asg (.t 9)), none, false⟩] []) Q st := Iff.rfl
def pairset_find_c2 (p : Nums) : IC := (.region [⟨(some 10), (.mov (.t 5)), none, false⟩, ⟨(some 11), (.mov (.t 6)), none, false⟩, ⟨(some 12), (.bin .lss (.t 10) (.t 11)), none, false⟩] [])
@[simp] theorem pairset_find_c2_eq {P m Q st} {p : Nums} : AW P m (pairset_find_c2 p) Q st ↔ AW P m (.region [⟨(some 10), (.mov (.t 5)), none, false⟩, ⟨(some 11), (.mov (.t 6)), none, false⟩, ⟨(some 12), (.bin .lss (.t 10) (.t 11)), none, false⟩] []) Q st := Iff.rfl
def pairset_find_c3 (p : Nums) : IC := (.region [⟨(some 13), (.mov (.t 5)), none, false⟩, ⟨(some 14), (.mov (.t 6)), none, false⟩, ⟨(some 15), (.mov (.t 5)), none, false⟩, ⟨(some 16), (.bin .sub (.t 14) (.t 15)), none, false⟩, ⟨(some 17), (.bin .quo (.t 16) (.c (.d (.int .i64 2)))), none, false⟩, ⟨(some 18), (.bin .add (.t 13) (.t 17)), none, false⟩, ⟨(some 7), (.asg (.t 18)), none, false⟩] [])
@[simp] theorem pairset_find_c3_eq {P m Q st} {p : Nums} : AW P m (pairset_find_c3 p) Q st ↔ AW P m (.region [⟨(some 13), (.mov (.t 5)), none, false⟩, ⟨(some 14), (.mov (.t 6)), none, false⟩, ⟨(some 15), (.mov (.t 5)), none, false⟩, ⟨(some 16), (.bin .sub (.t 14) (.t 15)), none, false⟩, ⟨(some 17), (.bin .quo (.t 16) (.c (.d (.int .i64 2)))), none, false⟩, ⟨(some 18), (.bin .add (.t 13) (.t 17)), none, false⟩, ⟨(some 7), (.asg (.t 18)), none, false⟩] []) Q st := Iff.rfl
def pairset_find_c4 (p : Nums) : IC := (.region [⟨(some 19), (.mov (.t 0)), none, true⟩, ⟨(some 20), (.mov (.t 7)), none, true⟩, ⟨(some 21), (.iaddr 2 (.t 19) (.t 20)), none, true⟩, ⟨(some 22), (.load (some 2) (.t 21)), none, true⟩, ⟨(some 23), (.load (some 2) (.t 3)), none, true⟩, ⟨(some 24), (.call p.pairset_Less [(.t 22), (.t 23)]), none, false⟩] [])
@[simp] theorem pairset_find_c4_eq {P m Q st} {p : Nums} : AW P m (pairset_find_c4 p) Q st ↔ AW P m (.region [⟨(some 19), (.mov (.t 0)), none, true⟩, ⟨(some 20), (.mov (.t 7)), none, true⟩, ⟨(some 21), (.iaddr 2 (.t 19) (.t 20)), none, true⟩, ⟨(some 22), (.load (some 2) (.t 21)), none, true⟩, ⟨(some 23), (.load (some 2) (.t 3)), none, true⟩, ⟨(some 24), (.call p.pairset_Less [(.t 22), (.t 23)]), none, false⟩] []) Q st := Iff.rfl
def pairset_find_c5 (p : Nums) : IC := (.region [⟨(some 25), (.mov (.t 7)), none, false⟩, ⟨(some 26), (.bin .add (.t 25) (.c (.d (.int .i64 1)))), none, false⟩, ⟨(some 5), (.asg (.t 26)), none, false⟩] [])
@[simp] theorem pairset_find_c5_eq {P m Q st} {p : Nums} : AW P m (pairset_find_c5 p) Q st ↔ AW P m (.region [⟨(some 25), (.mov (.t 7)), none, false⟩, ⟨(some 26), (.bin .add (.t 25) (.c (.d (.int .i64 1)))), none, false⟩, ⟨(some 5), (.asg (.t 26)), none, false⟩] []) Q st := Iff.rfl
def pairset_find_c6 (p : Nums) : IC := (.region [⟨(some 27), (.mov (.t 7)), none, false⟩, ⟨(some 6), (.asg (.t 27)), none, false⟩] [])
@[simp] theorem pairset_find_c6_eq {P m Q st} {p : Nums} : AW P m (pairset_find_c6 p) Q st ↔ AW P m (.region [⟨(some 27), (.mov (.t 7)), none, false⟩, ⟨(some 6), (.asg (.t 27)), none, false⟩] []) Q st := Iff.rfl
def pairset_find_c7 (p : Nums) : IC := (.seq (pairset_find_c3 p) (.seq (pairset_find_c4 p) (.cond (.t 24) (pairset_find_c5 p) (pairset_find_c6 p))))
@[simp] theorem pairset_find_c7_eq {P m Q st} {p : Nums} : AW P m (pairset_find_c7 p) Q st ↔ AW P m (.seq (pairset_find_c3 p) (.seq (pairset_find_c4 p) (.cond (.t 24) (pairset_find_c5 p) (pairset_find_c6 p)))) Q st := Iff.rfl
def pairset_find_c8 (p : Nums) : IC := (.seq (.seq (pairset_find_c2 p) (.cond (.t 12) .skip (.exit 0))) (.block 1 (pairset_find_c7 p)))
@[simp] theorem pairset_find_c8_eq {P m Q st} {p : Nums} : AW P m (pairset_find_c8 p) Q st ↔ AW P m (.seq (.seq (pairset_find_c2 p) (.cond (.t 12) .skip (.exit 0))) (.block 1 (pairset_find_c7 p))) Q st := Iff.rfl
def ic_pairset_find (p : Nums) : IC := (.seq (.region [⟨(some 3), (.box (.t 1)), none, false⟩, ⟨(some 4), (.asg (.c (.d (.int .i64 0)))), none, false⟩] []) (.seq (pairset_find_c1 p) (.seq (.block 0 (.loop (pairset_find_c8 p))) (.seq (.region [⟨(some 28), (.mov (.t 5)), none, false⟩, ⟨(some 4), (.asg (.t 28)), none, false⟩] []) .ret))))
def pairset_filter_c1 (p : Nums) : IC := (.region [⟨(some 8), (.mov (.t 0)), none, false⟩, ⟨(some 9), (.len (.t 8)), none, false⟩, ⟨(some 10), (.mkslice 2 16 [(.int .i64 0), (.int .i64 0)] (.c (.d (.int .i64 0))) (.t 9)), none, false⟩, ⟨(some 5), (.take (.t 10)), none, false⟩] [])
@[simp] theorem pairset_filter_c1_eq {P m Q st} {p : Nums} : AW P m (pairset_filter_c1 p) Q st ↔ AW P m (.region [⟨(some 8), (.mov (.t 0)), none, false⟩, ⟨(some 9), (.len (.t 8)), none, false⟩, ⟨(some 10), (.mkslice 2 16 [(.int .i64 0), (.int .i64 0)] (.c (.d (.int .i64 0))) (.t 9)), none, false⟩, ⟨(some 5), (.take (.t 10)), none, false⟩] []) Q st := Iff.rfl
def pairset_filter_c2 (p : Nums) : IC := (.region [⟨(some 11), (.mov (.t 0)), none, false⟩, ⟨(some 12), (.len (.t 11)), none, false⟩, ⟨(some 13), (.mov (.c (.d (.int .i64 0)))), none, false⟩] [])
@[simp] theorem pairset_filter_c2_eq {P m Q st} {p : Nums} : AW P m (pairset_filter_c2 p) Q st ↔ AW P m (.region [⟨(some 11), (.mov (.t 0)), none, false⟩, ⟨(some 12), (.len (.t 11)), none, false⟩, ⟨(some 13), (.mov (.c (.d (.int .i64 0)))), none, false⟩] []) Q st := Iff.rfl
def pairset_filter_c3 (p : Nums) : IC := (.region [⟨(some 15), (.iaddr 2 (.t 11) (.t 13)), none, false⟩, ⟨(some 16), (.load (some 2) (.t 15)), none, false⟩, ⟨(some 7), (.alloc [(.d (.int .i64 0)), (.d (.int .i64 0))]), none, false⟩, ⟨none, (.store 2 (.t 7) (.t 16)), none, false⟩] [])
@[simp] theorem pairset_filter_c3_eq {P m Q st} {p : Nums} : AW P m (pairset_filter_c3 p) Q st ↔ AW P m (.region [⟨(some 15), (.iaddr 2 (.t 11) (.t 13)), none, false⟩, ⟨(some 16), (.load (some 2) (.t 15)), none, false⟩, ⟨(some 7), (.alloc [(.d (.int .i64 0)), (.d (.int .i64 0))]), none, false⟩, ⟨none, (.store 2 (.t 7) (.t 16)), none, false⟩] []) Q st := Iff.rfl
def pairset_filter_c4 (p : Nums) : IC := (.region [⟨(some 17), (.mov (.t 1)), none, false⟩, ⟨(some 18), (.load (some 2) (.t 7)), none, false⟩, ⟨(some 19), (.callv (.t 17) [(.t 18)]), none, false⟩] [])
@[simp] theorem pairset_filter_c4_eq {P m Q st} {p : Nums} : AW P m (pairset_filter_c4 p) Q st ↔ AW P m (.region [⟨(some 17), (.mov (.t 1)), none, false⟩, ⟨(some 18), (.load (some 2) (.t 7)), none, false⟩, ⟨(some 19), (.callv (.t 17) [(.t 18)]), none, false⟩] []) Q st := Iff.rfl
def pairset_filter_c5 (p : Nums) : IC := (.region [⟨(some 20), (.mov (.t 5)), none, false⟩, ⟨(some 21), (.load (some 2) (.t 7)), none, false⟩, ⟨(some 22), (.bslice 2 1 [(.int .i64 0), (.int .i64 0)] [(0, (.t 21))]), none, false⟩, ⟨(some 23), (.app 2 16 (.t 20) (.t 22)), none, false⟩, ⟨(some 5), (.take (.t 23)), none, false⟩] [])
@[simp] theorem pairset_filter_c5_eq {P m Q st} {p : Nums} : AW P m (pairset_filter_c5 p) Q st ↔ AW P m (.region [⟨(some 20), (.mov (.t 5)), none, false⟩, ⟨(some 21), (.load (some 2) (.t 7)), none, false⟩, ⟨(some 22), (.bslice 2 1 [(.int .i64 0), (.int .i64 0)] [(0, (.t 21))]), none, false⟩, ⟨(some 23), (.app 2 16 (.t 20) (.t 22)), none, false⟩, ⟨(some 5), (.take (.t 23)), none, false⟩] []) Q st := Iff.rfl
def pairset_filter_c6 (p : Nums) : IC := (.seq (pairset_filter_c3 p) (.seq (pairset_filter_c4 p) (.cond (.t 19) (pairset_filter_c5 p) .skip)))
@[simp] theorem pairset_filter_c6_eq {P m Q st} {p : Nums} : AW P m (pairset_filter_c6 p) Q st ↔ AW P m (.seq (pairset_filter_c3 p) (.seq (pairset_filter_c4 p) (.cond (.t 19) (pairset_filter_c5 p) .skip))) Q st := Iff.rfl
def pairset_filter_c7 (p : Nums) : IC := (.seq (.region [⟨(some 14), (.bin .lss (.t 13) (.t 12)), none, false⟩] []) (.seq (.cond (.t 14) .skip (.exit 0)) (.seq (.block 1 (pairset_filter_c6 p)) (.region [⟨(some 24), (.bin .add (.t 13) (.c (.d (.int .i64 1)))), none, false⟩, ⟨(some 13), (.mov (.t 24)), none, false⟩] []))))
@[simp] theorem pairset_filter_c7_eq {P m Q st} {p : Nums} : AW P m (pairset_filter_c7 p) Q st ↔ AW P m (.seq (.region [⟨(some 14), (.bin .lss (.t 13) (.t 12)), none, false⟩] []) (.seq (.cond (.t 14) .skip (.exit 0)) (.seq (.block 1 (pairset_filter_c6 p)) (.region [⟨(some 24), (.bin .add (.t 13) (.c (.d (.int .i64 1)))), none, false⟩, ⟨(some 13), (.mov (.t 24)), none, false⟩] [])))) Q st := Iff.rfl
def ic_pairset_filter (p : Nums) : IC := (.seq (.region [⟨(some 4), (.asg (.c .nils)), none, false⟩] []) (.seq (pairset_filter_c1 p) (.seq (.seq (pairset_filter_c2 p) (.block 0 (.loop (pairset_filter_c7 p)))) (.seq (.region [⟨(some 25), (.mov (.t 5)), none, false⟩, ⟨(some 4), (.take (.t 25)), none, false⟩] []) .ret))))
def pairset_DropV_1_c1 (p : Nums) : IC := (.region [⟨(some 4), (.faddr 0 (.t 2)), none, false⟩, ⟨(some 5), (.load none (.t 4)), none, false⟩, ⟨(some 6), (.load none (.t 1)), none, false⟩, ⟨(some 7), (.bin .neq (.t 5) (.t 6)), none, false⟩, ⟨(some 3), (.asg (.t 7)), none, false⟩] [])
@[simp] theorem pairset_DropV_1_c1_eq {P m Q st} {p : Nums} : AW P m (pairset_DropV_1_c1 p) Q st ↔ AW P m (.region [⟨(some 4), (.faddr 0 (.t 2)), none, false⟩, ⟨(some 5), (.load none (.t 4)), none, false⟩, ⟨(some 6), (.load none (.t 1)), none, false⟩, ⟨(some 7), (.bin .neq (.t 5) (.t 6)), none, false⟩, ⟨(some 3), (.asg (.t 7)), none, false⟩] []) Q st := Iff.rfl
def ic_pairset_DropV_1 (p : Nums) : IC := (.seq (.region [⟨(some 2), (.box (.t 0)), none, false⟩, ⟨(some 3), (.asg (.c (.d (.bool false)))), none, false⟩] []) (.seq (pairset_DropV_1_c1 p) .ret))
def pairset_DropL_1_c1 (p : Nums) : IC := (.region [⟨(some 4), (.faddr 1 (.t 2)), none, false⟩, ⟨(some 5), (.load none (.t 4)), none, false⟩, ⟨(some 6), (.load none (.t 1)), none, false⟩, ⟨(some 7), (.bin .neq (.t 5) (.t 6)), none, false⟩, ⟨(some 3), (.asg (.t 7)), none, false⟩] [])
@[simp] theorem pairset_DropL_1_c1_eq {P m Q st} {p : Nums} : AW P m (pairset_DropL_1_c1 p) Q st ↔ AW P m (.region [⟨(some 4), (.faddr 1 (.t 2)), none, false⟩, ⟨(some 5), (.load none (.t 4)), none, false⟩, ⟨(some 6), (.load none (.t 1)), none, false⟩, ⟨(some 7), (.bin .neq (.t 5) (.t 6)), none, false⟩, ⟨(some 3), (.asg (.t 7)), none, false⟩] []) Q st := Iff.rfl
def ic_pairset_DropL_1 (p : Nums) : IC := (.seq (.region [⟨(some 2), (.box (.t 0)), none, false⟩, ⟨(some 3), (.asg (.c (.d (.bool false)))), none, false⟩] []) (.seq (pairset_DropL_1_c1 p) .ret))
def law12_TransferMatchesReference_c1 (p : Nums) : IC := (.region [⟨(some 12), (.call p.law12_awake []), none, false⟩, ⟨(some 13), (.un .not (.t 12)), none, false⟩, ⟨(some 14), (.mov (.t 13)), none, false⟩, ⟨(some 15), (.mov (.t 0)), (some (14, false)), false⟩, ⟨(some 16), (.len (.t 15)), (some (14, false)), false⟩, ⟨(some 17), (.bin .gtr (.t 16) (.c (.d (.int .i64 60)))), (some (14, false)), false⟩, ⟨(some 18), (.pick (.t 14) (.c (.d (.bool true))) (.t 17)), none, false⟩] [])
@[simp] theorem law12_TransferMatchesReference_c1_eq {P m Q st} {p : Nums} : AW P m (law12_TransferMatchesReference_c1 p) Q st ↔ AW P m (.region [⟨(some 12), (.call p.law12_awake []), none, false⟩, ⟨(some 13), (.un .not (.t 12)), none, false⟩, ⟨(some 14), (.mov (.t 13)), none, false⟩, ⟨(some 15), (.mov (.t 0)), (some (14, false)), false⟩, ⟨(some 16), (.len (.t 15)), (some (14, false)), false⟩, ⟨(some 17), (.bin .gtr (.t 16) (.c (.d (.int .i64 60)))), (some (14, false)), false⟩, ⟨(some 18), (.pick (.t 14) (.c (.d (.bool true))) (.t 17)), none, false⟩] []) Q st := Iff.rfl
def law12_TransferMatchesReference_c2 (p : Nums) : IC := (.seq (.region [⟨(some 19), (.call p.law12_awake []), none, false⟩, ⟨(some 10), (.asg (.t 19)), none, false⟩] []) .ret)
@[simp] theorem law12_TransferMatchesReference_c2_eq {P m Q st} {p : Nums} : AW P m (law12_TransferMatchesReference_c2 p) Q st ↔ AW P m (.seq (.region [⟨(some 19), (.call p.law12_awake []), none, false⟩, ⟨(some 10), (.asg (.t 19)), none, false⟩] []) .ret) Q st := Iff.rfl
def law12_TransferMatchesReference_c3 (p : Nums) : IC := (.region [⟨(some 20), (.mov (.t 0)), none, false⟩, ⟨(some 21), (.call p.ref11_Make [(.t 20)]), none, false⟩, ⟨(some 11), (.asg (.t 21)), none, false⟩] [])
@[simp] theorem law12_TransferMatchesReference_c3_eq {P m Q st} {p : Nums} : AW P m (law12_TransferMatchesReference_c3 p) Q st ↔ AW P m (.region [⟨(some 20), (.mov (.t 0)), none, false⟩, ⟨(some 21), (.call p.ref11_Make [(.t 20)]), none, false⟩, ⟨(some 11), (.asg (.t 21)), none, false⟩] []) Q st := Iff.rfl
def law12_TransferMatchesReference_c4 (p : Nums) : IC := (.region [⟨(some 22), (.mov (.t 11)), none, false⟩, ⟨(some 23), (.mov (.t 1)), none, false⟩, ⟨(some 24), (.mov (.t 2)), none, false⟩, ⟨(some 25), (.call p.transfer_Copy [(.t 22), (.t 23), (.t 24)]), none, false⟩, ⟨(some 26), (.mov (.t 11)), none, false⟩, ⟨(some 27), (.mov (.t 1)), none, false⟩, ⟨(some 28), (.mov (.t 2)), none, false⟩, ⟨(some 29), (.call p.ref12_Copy [(.t 26), (.t 27), (.t 28)]), none, false⟩, ⟨(some 30), (.call p.ref11_Same [(.t 25), (.t 29)]), none, false⟩, ⟨(some 31), (.mov (.t 30)), none, false⟩, ⟨(some 32), (.mov (.t 11)), (some (31, true)), false⟩, ⟨(some 33), (.mov (.t 3)), (some (31, true)), false⟩, ⟨(some 34), (.mov (.t 4)), (some (31, true)), false⟩, ⟨(some 35), (.call p.transfer_Move [(.t 32), (.t 33), (.t 34)]), (some (31, true)), false⟩, ⟨(some 36), (.mov (.t 11)), (some (31, true)), false⟩, ⟨(some 37), (.mov (.t 3)), (some (31, true)), false⟩, ⟨(some 38), (.mov (.t 4)), (some (31, true)), false⟩, ⟨(some 39), (.call p.ref12_Move [(.t 36), (.t 37), (.t 38)]), (some (31, true)), false⟩, ⟨(some 40), (.call p.ref11_Same [(.t 35), (.t 39)]), (some (31, true)), false⟩, ⟨(some 41), (.pick (.t 31) (.t 40) (.c (.d (.bool false)))), none, false⟩, ⟨(some 42), (.mov (.t 41)), none, false⟩, ⟨(some 43), (.mov (.t 11)), (some (42, true)), false⟩, ⟨(some 44), (.mov (.t 1)), (some (42, true)), false⟩, ⟨(some 45), (.mov (.t 3)), (some (42, true)), false⟩, ⟨(some 46), (.call p.transfer_Define [(.t 43), (.t 44), (.t 45)]), (some (42, true)), false⟩, ⟨(some 47), (.mov (.t 11)), (some (42, true)), false⟩, ⟨(some 48), (.mov (.t 1)), (some (42, true)), false⟩, ⟨(some 49), (.mov (.t 3)), (some (42, true)), false⟩, ⟨(some 50), (.call p.ref12_Define [(.t 47), (.t 48), (.t 49)]), (some (42, true)), false⟩, ⟨(some 51), (.call p.ref11_Same [(.t 46), (.t 50)]), (some (42, true)), false⟩, ⟨(some 52), (.pick (.t 42) (.t 51) (.c (.d (.bool false)))), none, false⟩, ⟨(some 10), (.asg (.t 52)), none, false⟩] [])
@[simp] theorem law12_TransferMatchesReference_c4_eq {P m Q st} {p : Nums} : AW P m (law12_TransferMatchesReference_c4 p) Q st ↔ AW P m (.region [⟨(some 22), (.mov (.t 11)), none, false⟩, ⟨(some 23), (.mov (.t 1)), none, false⟩, ⟨(some 24), (.mov (.t 2)), none, false⟩, ⟨(some 25), (.call p.transfer_Copy [(.t 22), (.t 23), (.t 24)]), none, false⟩, ⟨(some 26), (.mov (.t 11)), none, false⟩, ⟨(some 27), (.mov (.t 1)), none, false⟩, ⟨(some 28), (.mov (.t 2)), none, false⟩, ⟨(some 29), (.call p.ref12_Copy [(.t 26), (.t 27), (.t 28)]), none, false⟩, ⟨(some 30), (.call p.ref11_Same [(.t 25), (.t 29)]), none, false⟩, ⟨(some 31), (.mov (.t 30)), none, false⟩, ⟨(some 32), (.mov (.t 11)), (some (31, true)), false⟩, ⟨(some 33), (.mov (.t 3)), (some (31, true)), false⟩, ⟨(some 34), (.mov (.t 4)), (some (31, true)), false⟩, ⟨(some 35), (.call p.transfer_Move [(.t 32), (.t 33), (.t 34)]), (some (31, true)), false⟩, ⟨(some 36), (.mov (.t 11)), (some (31, true)), false⟩, ⟨(some 37), (.mov (.t 3)), (some (31, true)), false⟩, ⟨(some 38), (.mov (.t 4)), (some (31, true)), false⟩, ⟨(some 39), (.call p.ref12_Move [(.t 36), (.t 37), (.t 38)]), (some (31, true)), false⟩, ⟨(some 40), (.call p.ref11_Same [(.t 35), (.t 39)]), (some (31, true)), false⟩, ⟨(some 41), (.pick (.t 31) (.t 40) (.c (.d (.bool false)))), none, false⟩, ⟨(some 42), (.mov (.t 41)), none, false⟩, ⟨(some 43), (.mov (.t 11)), (some (42, true)), false⟩, ⟨(some 44), (.mov (.t 1)), (some (42, true)), false⟩, ⟨(some 45), (.mov (.t 3)), (some (42, true)), false⟩, ⟨(some 46), (.call p.transfer_Define [(.t 43), (.t 44), (.t 45)]), (some (42, true)), false⟩, ⟨(some 47), (.mov (.t 11)), (some (42, true)), false⟩, ⟨(some 48), (.mov (.t 1)), (some (42, true)), false⟩, ⟨(some 49), (.mov (.t 3)), (some (42, true)), false⟩, ⟨(some 50), (.call p.ref12_Define [(.t 47), (.t 48), (.t 49)]), (some (42, true)), false⟩, ⟨(some 51), (.call p.ref11_Same [(.t 46), (.t 50)]), (some (42, true)), false⟩, ⟨(some 52), (.pick (.t 42) (.t 51) (.c (.d (.bool false)))), none, false⟩, ⟨(some 10), (.asg (.t 52)), none, false⟩] []) Q st := Iff.rfl
def ic_law12_TransferMatchesReference (p : Nums) : IC := (.seq (.region [⟨(some 10), (.asg (.c (.d (.bool false)))), none, false⟩] []) (.seq (.seq (law12_TransferMatchesReference_c1 p) (.cond (.t 18) (law12_TransferMatchesReference_c2 p) .skip)) (.seq (law12_TransferMatchesReference_c3 p) (.seq (law12_TransferMatchesReference_c4 p) .ret))))
def law12_TransferSound_c1 (p : Nums) : IC := (.region [⟨(some 28), (.call p.law12_awake []), none, false⟩, ⟨(some 29), (.un .not (.t 28)), none, false⟩, ⟨(some 30), (.mov (.t 29)), none, false⟩, ⟨(some 31), (.mov (.t 0)), (some (30, false)), false⟩, ⟨(some 32), (.len (.t 31)), (some (30, false)), false⟩, ⟨(some 33), (.bin .eql (.t 32) (.c (.d (.int .i64 0)))), (some (30, false)), false⟩, ⟨(some 34), (.pick (.t 30) (.c (.d (.bool true))) (.t 33)), none, false⟩, ⟨(some 35), (.mov (.t 34)), none, false⟩, ⟨(some 36), (.mov (.t 1)), (some (35, false)), false⟩, ⟨(some 37), (.len (.t 36)), (some (35, false)), false⟩, ⟨(some 38), (.bin .eql (.t 37) (.c (.d (.int .i64 0)))), (some (35, false)), false⟩, ⟨(some 39), (.pick (.t 35) (.c (.d (.bool true))) (.t 38)), none, false⟩, ⟨(some 40), (.mov (.t 39)), none, false⟩, ⟨(some 41), (.mov (.t 0)), (some (40, false)), false⟩, ⟨(some 42), (.len (.t 41)), (some (40, false)), false⟩, ⟨(some 43), (.bin .gtr (.t 42) (.c (.d (.int .i64 20)))), (some (40, false)), false⟩, ⟨(some 44), (.pick (.t 40) (.c (.d (.bool true))) (.t 43)), none, false⟩, ⟨(some 45), (.mov (.t 44)), none, false⟩, ⟨(some 46), (.mov (.t 1)), (some (45, false)), false⟩, ⟨(some 47), (.len (.t 46)), (some (45, false)), false⟩, ⟨(some 48), (.bin .gtr (.t 47) (.c (.d (.int .i64 20)))), (some (45, false)), false⟩, ⟨(some 49), (.pick (.t 45) (.c (.d (.bool true))) (.t 48)), none, false⟩] [])
@[simp] theorem law12_TransferSound_c1_eq {P m Q st} {p : Nums} : AW P m (law12_TransferSound_c1 p) Q st ↔ AW P m (.region [⟨(some 28), (.call p.law12_awake []), none, false⟩, ⟨(some 29), (.un .not (.t 28)), none, false⟩, ⟨(some 30), (.mov (.t 29)), none, false⟩, ⟨(some 31), (.mov (.t 0)), (some (30, false)), false⟩, ⟨(some 32), (.len (.t 31)), (some (30, false)), false⟩, ⟨(some 33), (.bin .eql (.t 32) (.c (.d (.int .i64 0)))), (some (30, false)), false⟩, ⟨(some 34), (.pick (.t 30) (.c (.d (.bool true))) (.t 33)), none, false⟩, ⟨(some 35), (.mov (.t 34)), none, false⟩, ⟨(some 36), (.mov (.t 1)), (some (35, false)), false⟩, ⟨(some 37), (.len (.t 36)), (some (35, false)), false⟩, ⟨(some 38), (.bin .eql (.t 37) (.c (.d (.int .i64 0)))), (some (35, false)), false⟩, ⟨(some 39), (.pick (.t 35) (.c (.d (.bool true))) (.t 38)), none, false⟩, ⟨(some 40), (.mov (.t 39)), none, false⟩, ⟨(some 41), (.mov (.t 0)), (some (40, false)), false⟩, ⟨(some 42), (.len (.t 41)), (some (40, false)), false⟩, ⟨(some 43), (.bin .gtr (.t 42) (.c (.d (.int .i64 20)))), (some (40, false)), false⟩, ⟨(some 44), (.pick (.t 40) (.c (.d (.bool true))) (.t 43)), none, false⟩, ⟨(some 45), (.mov (.t 44)), none, false⟩, ⟨(some 46), (.mov (.t 1)), (some (45, false)), false⟩, ⟨(some 47), (.len (.t 46)), (some (45, false)), false⟩, ⟨(some 48), (.bin .gtr (.t 47) (.c (.d (.int .i64 20)))), (some (45, false)), false⟩, ⟨(some 49), (.pick (.t 45) (.c (.d (.bool true))) (.t 48)), none, false⟩] []) Q st := Iff.rfl
def law12_TransferSound_c2 (p : Nums) : IC := (.seq (.region [⟨(some 50), (.call p.law12_awake []), none, false⟩, ⟨(some 16), (.asg (.t 50)), none, false⟩] []) .ret)
@[simp] theorem law12_TransferSound_c2_eq {P m Q st} {p : Nums} : AW P m (law12_TransferSound_c2 p) Q st ↔ AW P m (.seq (.region [⟨(some 50), (.call p.law12_awake []), none, false⟩, ⟨(some 16), (.asg (.t 50)), none, false⟩] []) .ret) Q st := Iff.rfl
def law12_TransferSound_c3 (p : Nums) : IC := (.region [⟨(some 51), (.mov (.t 0)), none, false⟩, ⟨(some 52), (.mov (.t 1)), none, false⟩, ⟨(some 53), (.call p.law12_known [(.t 51), (.t 52)]), none, false⟩, ⟨(some 17), (.asg (.t 53)), none, false⟩] [])
@[simp] theorem law12_TransferSound_c3_eq {P m Q st} {p : Nums} : AW P m (law12_TransferSound_c3 p) Q st ↔ AW P m (.region [⟨(some 51), (.mov (.t 0)), none, false⟩, ⟨(some 52), (.mov (.t 1)), none, false⟩, ⟨(some 53), (.call p.law12_known [(.t 51), (.t 52)]), none, false⟩, ⟨(some 17), (.asg (.t 53)), none, false⟩] []) Q st := Iff.rfl
def law12_TransferSound_c4 (p : Nums) : IC := (.region [⟨(some 54), (.mov (.t 19)), none, false⟩, ⟨(some 55), (.mov (.t 17)), none, false⟩, ⟨(some 56), (.len (.t 55)), none, false⟩, ⟨(some 57), (.bin .lss (.t 54) (.t 56)), none, false⟩] [])
@[simp] theorem law12_TransferSound_c4_eq {P m Q st} {p : Nums} : AW P m (law12_TransferSound_c4 p) Q st ↔ AW P m (.region [⟨(some 54), (.mov (.t 19)), none, false⟩, ⟨(some 55), (.mov (.t 17)), none, false⟩, ⟨(some 56), (.len (.t 55)), none, false⟩, ⟨(some 57), (.bin .lss (.t 54) (.t 56)), none, false⟩] []) Q st := Iff.rfl
def law12_TransferSound_c5 (p : Nums) : IC := (.region [⟨(some 60), (.mov (.t 19)), none, false⟩, ⟨(some 61), (.mov (.t 2)), none, false⟩, ⟨(some 62), (.len (.t 61)), none, false⟩, ⟨(some 63), (.bin .geq (.t 60) (.t 62)), none, false⟩, ⟨(some 64), (.mov (.t 63)), none, false⟩, ⟨(some 65), (.mov (.t 2)), (some (64, false)), false⟩, ⟨(some 66), (.mov (.t 19)), (some (64, false)), false⟩, ⟨(some 67), (.iaddr 1 (.t 65) (.t 66)), (some (64, false)), false⟩, ⟨(some 68), (.load none (.t 67)), (some (64, false)), false⟩, ⟨(some 69), (.un .not (.t 68)), (some (64, false)), false⟩, ⟨(some 70), (.pick (.t 64) (.c (.d (.bool true))) (.t 69)), none, false⟩] [])
@[simp] theorem law12_TransferSound_c5_eq {P m Q st} {p : Nums} : AW P m (law12_TransferSound_c5 p) Q st ↔ AW P m (.region [⟨(some 60), (.mov (.t 19)), none, false⟩, ⟨(some 61), (.mov (.t 2)), none, false⟩, ⟨(some 62), (.len (.t 61)), none, false⟩, ⟨(some 63), (.bin .geq (.t 60) (.t 62)), none, false⟩, ⟨(some 64), (.mov (.t 63)), none, false⟩, ⟨(some 65), (.mov (.t 2)), (some (64, false)), false⟩, ⟨(some 66), (.mov (.t 19)), (some (64, false)), false⟩, ⟨(some 67), (.iaddr 1 (.t 65) (.t 66)), (some (64, false)), false⟩, ⟨(some 68), (.load none (.t 67)), (some (64, false)), false⟩, ⟨(some 69), (.un .not (.t 68)), (some (64, false)), false⟩, ⟨(some 70), (.pick (.t 64) (.c (.d (.bool true))) (.t 69)), none, false⟩] []) Q st := Iff.rfl
def law12_TransferSound_c6 (p : Nums) : IC := (.region [⟨(some 71), (.mov (.t 18)), none, false⟩, ⟨(some 72), (.mov (.t 17)), none, false⟩, ⟨(some 73), (.mov (.t 19)), none, false⟩, ⟨(some 74), (.iaddr 2 (.t 72) (.t 73)), none, false⟩, ⟨(some 75), (.load (some 2) (.t 74)), none, false⟩, ⟨(some 76), (.bslice 2 1 [(.int .i64 0), (.int .i64 0)] [(0, (.t 75))]), none, false⟩, ⟨(some 77), (.app 2 16 (.t 71) (.t 76)), none, false⟩, ⟨(some 18), (.asg (.t 77)), none, false⟩] [])
@[simp] theorem law12_TransferSound_c6_eq {P m Q st} {p : Nums} : AW P m (law12_TransferSound_c6 p) Q st ↔ AW P m (.region [⟨(some 71), (.mov (.t 18)), none, false⟩, ⟨(some 72), (.mov (.t 17)), none, false⟩, ⟨(some 73), (.mov (.t 19)), none, false⟩, ⟨(some 74), (.iaddr 2 (.t 72) (.t 73)), none, false⟩, ⟨(some 75), (.load (some 2) (.t 74)), none, false⟩, ⟨(some 76), (.bslice 2 1 [(.int .i64 0), (.int .i64 0)] [(0, (.t 75))]), none, false⟩, ⟨(some 77), (.app 2 16 (.t 71) (.t 76)), none, false⟩, ⟨(some 18), (.asg (.t 77)), none, false⟩] []) Q st := Iff.rfl
def law12_TransferSound_c7 (p : Nums) : IC := (.seq (law12_TransferSound_c5 p) (.cond (.t 70) (law12_TransferSound_c6 p) .skip))
@[simp] theorem law12_TransferSound_c7_eq {P m Q st} {p : Nums} : AW P m (law12_TransferSound_c7 p) Q st ↔ AW P m (.seq (law12_TransferSound_c5 p) (.cond (.t 70) (law12_TransferSound_c6 p) .skip)) Q st := Iff.rfl
def law12_TransferSound_c8 (p : Nums) : IC := (.region [⟨(some 58), (.mov (.t 19)), none, false⟩, ⟨(some 59), (.bin .add (.t 58) (.c (.d (.int .i64 1)))), none, false⟩, ⟨(some 19), (.asg (.t 59)), none, false⟩] [])
@[simp] theorem law12_TransferSound_c8_eq {P m Q st} {p : Nums} : AW P m (law12_TransferSound_c8 p) Q st ↔ AW P m (.region [⟨(some 58), (.mov (.t 19)), none, false⟩, ⟨(some 59), (.bin .add (.t 58) (.c (.d (.int .i64 1)))), none, false⟩, ⟨(some 19), (.asg (.t 59)), none, false⟩] []) Q st := Iff.rfl
def law12_TransferSound_c9 (p : Nums) : IC := (.seq (.seq (law12_TransferSound_c4 p) (.cond (.t 57) .skip (.exit 0))) (.seq (.block 1 (law12_TransferSound_c7 p)) (law12_TransferSound_c8 p)))
@[simp] theorem law12_TransferSound_c9_eq {P m Q st} {p : Nums} : AW P m (law12_TransferSound_c9 p) Q st ↔ AW P m (.seq (.seq (law12_TransferSound_c4 p) (.cond (.t 57) .skip (.exit 0))) (.seq (.block 1 (law12_TransferSound_c7 p)) (law12_TransferSound_c8 p))) Q st := Iff.rfl
def law12_TransferSound_c10 (p : Nums) : IC := (.region [⟨(some 78), (.mov (.t 3)), none, false⟩, ⟨(some 79), (.conv .i64 (.t 78)), none, false⟩, ⟨(some 80), (.mov (.t 0)), none, false⟩, ⟨(some 81), (.len (.t 80)), none, false⟩, ⟨(some 82), (.bin .rem (.t 79) (.t 81)), none, false⟩, ⟨(some 20), (.asg (.t 82)), none, false⟩] [])
@[simp] theorem law12_TransferSound_c10_eq {P m Q st} {p : Nums} : AW P m (law12_TransferSound_c10 p) Q st ↔ AW P m (.region [⟨(some 78), (.mov (.t 3)), none, false⟩, ⟨(some 79), (.conv .i64 (.t 78)), none, false⟩, ⟨(some 80), (.mov (.t 0)), none, false⟩, ⟨(some 81), (.len (.t 80)), none, false⟩, ⟨(some 82), (.bin .rem (.t 79) (.t 81)), none, false⟩, ⟨(some 20), (.asg (.t 82)), none, false⟩] []) Q st := Iff.rfl
def law12_TransferSound_c11 (p : Nums) : IC := (.region [⟨(some 83), (.mov (.t 4)), none, false⟩, ⟨(some 84), (.conv .i64 (.t 83)), none, false⟩, ⟨(some 85), (.mov (.t 0)), none, false⟩, ⟨(some 86), (.len (.t 85)), none, false⟩, ⟨(some 87), (.bin .rem (.t 84) (.t 86)), none, false⟩, ⟨(some 21), (.asg (.t 87)), none, false⟩] [])
@[simp] theorem law12_TransferSound_c11_eq {P m Q st} {p : Nums} : AW P m (law12_TransferSound_c11 p) Q st ↔ AW P m (.region [⟨(some 83), (.mov (.t 4)), none, false⟩, ⟨(some 84), (.conv .i64 (.t 83)), none, false⟩, ⟨(some 85), (.mov (.t 0)), none, false⟩, ⟨(some 86), (.len (.t 85)), none, false⟩, ⟨(some 87), (.bin .rem (.t 84) (.t 86)), none, false⟩, ⟨(some 21), (.asg (.t 87)), none, false⟩] []) Q st := Iff.rfl
def law12_TransferSound_c12 (p : Nums) : IC := (.region [⟨(some 88), (.mov (.t 5)), none, false⟩, ⟨(some 89), (.conv .i64 (.t 88)), none, false⟩, ⟨(some 90), (.mov (.t 1)), none, false⟩, ⟨(some 91), (.len (.t 90)), none, false⟩, ⟨(some 92), (.bin .rem (.t 89) (.t 91)), none, false⟩, ⟨(some 22), (.asg (.t 92)), none, false⟩] [])
@[simp] theorem law12_TransferSound_c12_eq {P m Q st} {p : Nums} : AW P m (law12_TransferSound_c12 p) Q st ↔ AW P m (.region [⟨(some 88), (.mov (.t 5)), none, false⟩, ⟨(some 89), (.conv .i64 (.t 88)), none, false⟩, ⟨(some 90), (.mov (.t 1)), none, false⟩, ⟨(some 91), (.len (.t 90)), none, false⟩, ⟨(some 92), (.bin .rem (.t 89) (.t 91)), none, false⟩, ⟨(some 22), (.asg (.t 92)), none, false⟩] []) Q st := Iff.rfl
def law12_TransferSound_c13 (p : Nums) : IC := (.region [⟨(some 93), (.mov (.t 6)), none, false⟩, ⟨(some 94), (.conv .i64 (.t 93)), none, false⟩, ⟨(some 95), (.mov (.t 1)), none, false⟩, ⟨(some 96), (.len (.t 95)), none, false⟩, ⟨(some 97), (.bin .rem (.t 94) (.t 96)), none, false⟩, ⟨(some 23), (.asg (.t 97)), none, false⟩] [])
@[simp] theorem law12_TransferSound_c13_eq {P m Q st} {p : Nums} : AW P m (law12_TransferSound_c13 p) Q st ↔ AW P m (.region [⟨(some 93), (.mov (.t 6)), none, false⟩, ⟨(some 94), (.conv .i64 (.t 93)), none, false⟩, ⟨(some 95), (.mov (.t 1)), none, false⟩, ⟨(some 96), (.len (.t 95)), none, false⟩, ⟨(some 97), (.bin .rem (.t 94) (.t 96)), none, false⟩, ⟨(some 23), (.asg (.t 97)), none, false⟩] []) Q st := Iff.rfl
def law12_TransferSound_c14 (p : Nums) : IC := (.region [⟨(some 98), (.bslice 1 0 [(.int .i64 0)] []), none, false⟩, ⟨(some 99), (.mov (.t 0)), none, false⟩, ⟨(some 100), (.app 1 8 (.t 98) (.t 99)), none, false⟩, ⟨(some 24), (.asg (.t 100)), none, false⟩] [])
@[simp] theorem law12_TransferSound_c14_eq {P m Q st} {p : Nums} : AW P m (law12_TransferSound_c14 p) Q st ↔ AW P m (.region [⟨(some 98), (.bslice 1 0 [(.int .i64 0)] []), none, false⟩, ⟨(some 99), (.mov (.t 0)), none, false⟩, ⟨(some 100), (.app 1 8 (.t 98) (.t 99)), none, false⟩, ⟨(some 24), (.asg (.t 100)), none, false⟩] []) Q st := Iff.rfl
def law12_TransferSound_c15 (p : Nums) : IC := (.region [⟨(some 101), (.mov (.t 24)), none, false⟩, ⟨(some 102), (.mov (.t 20)), none, false⟩, ⟨(some 103), (.mov (.t 0)), none, false⟩, ⟨(some 104), (.mov (.t 21)), none, false⟩, ⟨(some 105), (.iaddr 1 (.t 103) (.t 104)), none, false⟩, ⟨(some 106), (.load none (.t 105)), none, false⟩, ⟨(some 107), (.iaddr 1 (.t 101) (.t 102)), none, false⟩, ⟨none, (.store 1 (.t 107) (.t 106)), none, false⟩] [])
@[simp] theorem law12_TransferSound_c15_eq {P m Q st} {p : Nums} : AW P m (law12_TransferSound_c15 p) Q st ↔ AW P m (.region [⟨(some 101), (.mov (.t 24)), none, false⟩, ⟨(some 102), (.mov (.t 20)), none, false⟩, ⟨(some 103), (.mov (.t 0)), none, false⟩, ⟨(some 104), (.mov (.t 21)), none, false⟩, ⟨(some 105), (.iaddr 1 (.t 103) (.t 104)), none, false⟩, ⟨(some 106), (.load none (.t 105)), none, false⟩, ⟨(some 107), (.iaddr 1 (.t 101) (.t 102)), none, false⟩, ⟨none, (.store 1 (.t 107) (.t 106)), none, false⟩] []) Q st := Iff.rfl
def law12_TransferSound_c16 (p : Nums) : IC := (.region [⟨(some 108), (.bslice 1 0 [(.int .i64 0)] []), none, false⟩, ⟨(some 109), (.mov (.t 1)), none, false⟩, ⟨(some 110), (.app 1 8 (.t 108) (.t 109)), none, false⟩, ⟨(some 25), (.asg (.t 110)), none, false⟩] [])
@[simp] theorem law12_TransferSound_c16_eq {P m Q st} {p : Nums} : AW P m (law12_TransferSound_c16 p) Q st ↔ AW P m (.region [⟨(some 108), (.bslice 1 0 [(.int .i64 0)] []), none, false⟩, ⟨(some 109), (.mov (.t 1)), none, false⟩, ⟨(some 110), (.app 1 8 (.t 108) (.t 109)), none, false⟩, ⟨(some 25), (.asg (.t 110)), none, false⟩] []) Q st := Iff.rfl
def law12_TransferSound_c17 (p : Nums) : IC := (.region [⟨(some 111), (.mov (.t 25)), none, false⟩, ⟨(some 112), (.mov (.t 22)), none, false⟩, ⟨(some 113), (.mov (.t 1)), none, false⟩, ⟨(some 114), (.mov (.t 23)), none, false⟩, ⟨(some 115), (.iaddr 1 (.t 113) (.t 114)), none, false⟩, ⟨(some 116), (.load none (.t 115)), none, false⟩, ⟨(some 117), (.iaddr 1 (.t 111) (.t 112)), none, false⟩, ⟨none, (.store 1 (.t 117) (.t 116)), none, false⟩] [])
@[simp] theorem law12_TransferSound_c17_eq {P m Q st} {p : Nums} : AW P m (law12_TransferSound_c17 p) Q st ↔ AW P m (.region [⟨(some 111), (.mov (.t 25)), none, false⟩, ⟨(some 112), (.mov (.t 22)), none, false⟩, ⟨(some 113), (.mov (.t 1)), none, false⟩, ⟨(some 114), (.mov (.t 23)), none, false⟩, ⟨(some 115), (.iaddr 1 (.t 113) (.t 114)), none, false⟩, ⟨(some 116), (.load none (.t 115)), none, false⟩, ⟨(some 117), (.iaddr 1 (.t 111) (.t 112)), none, false⟩, ⟨none, (.store 1 (.t 117) (.t 116)), none, false⟩] []) Q st := Iff.rfl
def law12_TransferSound_c18 (p : Nums) : IC := (.region [⟨(some 118), (.bslice 1 0 [(.int .i64 0)] []), none, false⟩, ⟨(some 119), (.mov (.t 0)), none, false⟩, ⟨(some 120), (.app 1 8 (.t 118) (.t 119)), none, false⟩, ⟨(some 26), (.asg (.t 120)), none, false⟩] [])
@[simp] theorem law12_TransferSound_c18_eq {P m Q st} {p : Nums} : AW P m (law12_TransferSound_c18 p) Q st ↔ AW P m (.region [⟨(some 118), (.bslice 1 0 [(.int .i64 0)] []), none, false⟩, ⟨(some 119), (.mov (.t 0)), none, false⟩, ⟨(some 120), (.app 1 8 (.t 118) (.t 119)), none, false⟩, ⟨(some 26), (.asg (.t 120)), none, false⟩] []) Q st := Iff.rfl
def law12_TransferSound_c19 (p : Nums) : IC := (.region [⟨(some 121), (.mov (.t 26)), none, false⟩, ⟨(some 122), (.mov (.t 20)), none, false⟩, ⟨(some 123), (.mov (.t 7)), none, false⟩, ⟨(some 124), (.iaddr 1 (.t 121) (.t 122)), none, false⟩, ⟨none, (.store 1 (.t 124) (.t 123)), none, false⟩] [])
@[simp] theorem law12_TransferSound_c19_eq {P m Q st} {p : Nums} : AW P m (law12_TransferSound_c19 p) Q st ↔ AW P m (.region [⟨(some 121), (.mov (.t 26)), none, false⟩, ⟨(some 122), (.mov (.t 20)), none, false⟩, ⟨(some 123), (.mov (.t 7)), none, false⟩, ⟨(some 124), (.iaddr 1 (.t 121) (.t 122)), none, false⟩, ⟨none, (.store 1 (.t 124) (.t 123)), none, false⟩] []) Q st := Iff.rfl
def law12_TransferSound_c20 (p : Nums) : IC := (.region [⟨(some 125), (.bslice 1 0 [(.int .i64 0)] []), none, false⟩, ⟨(some 126), (.mov (.t 1)), none, false⟩, ⟨(some 127), (.app 1 8 (.t 125) (.t 126)), none, false⟩, ⟨(some 27), (.asg (.t 127)), none, false⟩] [])
@[simp] theorem law12_TransferSound_c20_eq {P m Q st} {p : Nums} : AW P m (law12_TransferSound_c20 p) Q st ↔ AW P m (.region [⟨(some 125), (.bslice 1 0 [(.int .i64 0)] []), none, false⟩, ⟨(some 126), (.mov (.t 1)), none, false⟩, ⟨(some 127), (.app 1 8 (.t 125) (.t 126)), none, false⟩, ⟨(some 27), (.asg (.t 127)), none, false⟩] []) Q st := Iff.rfl
def law12_TransferSound_c21 (p : Nums) : IC := (.region [⟨(some 128), (.mov (.t 27)), none, false⟩, ⟨(some 129), (.mov (.t 22)), none, false⟩, ⟨(some 130), (.mov (.t 7)), none, false⟩, ⟨(some 131), (.iaddr 1 (.t 128) (.t 129)), none, false⟩, ⟨none, (.store 1 (.t 131) (.t 130)), none, false⟩] [])
@[simp] theorem law12_TransferSound_c21_eq {P m Q st} {p : Nums} : AW P m (law12_TransferSound_c21 p) Q st ↔ AW P m (.region [⟨(some 128), (.mov (.t 27)), none, false⟩, ⟨(some 129), (.mov (.t 22)), none, false⟩, ⟨(some 130), (.mov (.t 7)), none, false⟩, ⟨(some 131), (.iaddr 1 (.t 128) (.t 129)), none, false⟩, ⟨none, (.store 1 (.t 131) (.t 130)), none, false⟩] []) Q st := Iff.rfl
def law12_TransferSound_c22 (p : Nums) : IC := (.region [⟨(some 132), (.mov (.t 18)), none, false⟩, ⟨(some 133), (.mov (.t 20)), none, false⟩, ⟨(some 134), (.mov (.t 21)), none, false⟩, ⟨(some 135), (.call p.transfer_Copy [(.t 132), (.t 133), (.t 134)]), none, false⟩, ⟨(some 136), (.mov (.t 24)), none, false⟩, ⟨(some 137), (.mov (.t 1)), none, false⟩, ⟨(some 138), (.call p.law12_holds [(.t 135), (.t 136), (.t 137)]), none, false⟩, ⟨(some 139), (.mov (.t 138)), none, false⟩, ⟨(some 140), (.mov (.t 18)), (some (139, true)), false⟩, ⟨(some 141), (.mov (.t 22)), (some (139, true)), false⟩, ⟨(some 142), (.mov (.t 23)), (some (139, true)), false⟩, ⟨(some 143), (.call p.transfer_Move [(.t 140), (.t 141), (.t 142)]), (some (139, true)), false⟩, ⟨(some 144), (.mov (.t 0)), (some (139, true)), false⟩, ⟨(some 145), (.mov (.t 25)), (some (139, true)), false⟩, ⟨(some 146), (.call p.law12_holds [(.t 143), (.t 144), (.t 145)]), (some (139, true)), false⟩, ⟨(some 147), (.pick (.t 139) (.t 146) (.c (.d (.bool false)))), none, false⟩, ⟨(some 148), (.mov (.t 147)), none, false⟩, ⟨(some 149), (.mov (.t 18)), (some (148, true)), false⟩, ⟨(some 150), (.mov (.t 20)), (some (148, true)), false⟩, ⟨(some 151), (.mov (.t 22)), (some (148, true)), false⟩, ⟨(some 152), (.call p.transfer_Define [(.t 149), (.t 150), (.t 151)]), (some (148, true)), false⟩, ⟨(some 153), (.mov (.t 26)), (some (148, true)), false⟩, ⟨(some 154), (.mov (.t 27)), (some (148, true)), false⟩, ⟨(some 155), (.call p.law12_holds [(.t 152), (.t 153), (.t 154)]), (some (148, true)), false⟩, ⟨(some 156), (.pick (.t 148) (.t 155) (.c (.d (.bool false)))), none, false⟩, ⟨(some 16), (.asg (.t 156)), none, false⟩] [])
@[simp] theorem law12_TransferSound_c22_eq {P m Q st} {p : Nums} : AW P m (law12_TransferSound_c22 p) Q st ↔ AW P m (.region [⟨(some 132), (.mov (.t 18)), none, false⟩, ⟨(some 133), (.mov (.t 20)), none, false⟩, ⟨(some 134), (.mov (.t 21)), none, false⟩, ⟨(some 135), (.call p.transfer_Copy [(.t 132), (.t 133), (.t 134)]), none, false⟩, ⟨(some 136), (.mov (.t 24)), none, false⟩, ⟨(some 137), (.mov (.t 1)), none, false⟩, ⟨(some 138), (.call p.law12_holds [(.t 135), (.t 136), (.t 137)]), none, false⟩, ⟨(some 139), (.mov (.t 138)), none, false⟩, ⟨(some 140), (.mov (.t 18)), (some (139, true)), false⟩, ⟨(some 141), (.mov (.t 22)), (some (139, true)), false⟩, ⟨(some 142), (.mov (.t 23)), (some (139, true)), false⟩, ⟨(some 143), (.call p.transfer_Move [(.t 140), (.t 141), (.t 142)]), (some (139, true)), false⟩, ⟨(some 144), (.mov (.t 0)), (some (139, true)), false⟩, ⟨(some 145), (.mov (.t 25)), (some (139, true)), false⟩, ⟨(some 146), (.call p.law12_holds [(.t 143), (.t 144), (.t 145)]), (some (139, true)), false⟩, ⟨(some 147), (.pick (.t 139) (.t 146) (.c (.d (.bool false)))), none, false⟩, ⟨(some 148), (.mov (.t 147)), none, false⟩, ⟨(some 149), (.mov (.t 18)), (some (148, true)), false⟩, ⟨(some 150), (.mov (.t 20)), (some (148, true)), false⟩, ⟨(some 151), (.mov (.t 22)), (some (148, true)), false⟩, ⟨(some 152), (.call p.transfer_Define [(.t 149), (.t 150), (.t 151)]), (some (148, true)), false⟩, ⟨(some 153), (.mov (.t 26)), (some (148, true)), false⟩, ⟨(some 154), (.mov (.t 27)), (some (148, true)), false⟩, ⟨(some 155), (.call p.law12_holds [(.t 152), (.t 153), (.t 154)]), (some (148, true)), false⟩, ⟨(some 156), (.pick (.t 148) (.t 155) (.c (.d (.bool false)))), none, false⟩, ⟨(some 16), (.asg (.t 156)), none, false⟩] []) Q st := Iff.rfl
def law12_TransferSound_m23 (p : Nums) : IC := (.seq (.seq (law12_TransferSound_c21 p) .cut) (.seq (law12_TransferSound_c22 p) .ret))
theorem law12_TransferSound_m23_eq {P m Q st} {p : Nums} : AW P m (law12_TransferSound_m23 p) Q st ↔ AW P m (.seq (.seq (law12_TransferSound_c21 p) .cut) (.seq (law12_TransferSound_c22 p) .ret)) Q st := Iff.rfl
def law12_TransferSound_m24 (p : Nums) : IC := (.seq (.seq (law12_TransferSound_c19 p) .cut) (.seq (law12_TransferSound_c20 p) (law12_TransferSound_m23 p)))
theorem law12_TransferSound_m24_eq {P m Q st} {p : Nums} : AW P m (law12_TransferSound_m24 p) Q st ↔ AW P m (.seq (.seq (law12_TransferSound_c19 p) .cut) (.seq (law12_TransferSound_c20 p) (law12_TransferSound_m23 p))) Q st := Iff.rfl
def law12_TransferSound_m25 (p : Nums) : IC := (.seq (.seq (law12_TransferSound_c17 p) .cut) (.seq (law12_TransferSound_c18 p) (law12_TransferSound_m24 p)))
theorem law12_TransferSound_m25_eq {P m Q st} {p : Nums} : AW P m (law12_TransferSound_m25 p) Q st ↔ AW P m (.seq (.seq (law12_TransferSound_c17 p) .cut) (.seq (law12_TransferSound_c18 p) (law12_TransferSound_m24 p))) Q st := Iff.rfl
def law12_TransferSound_m26 (p : Nums) : IC := (.seq (.seq (law12_TransferSound_c15 p) .cut) (.seq (law12_TransferSound_c16 p) (law12_TransferSound_m25 p)))
theorem law12_TransferSound_m26_eq {P m Q st} {p : Nums} : AW P m (law12_TransferSound_m26 p) Q st ↔ AW P m (.seq (.seq (law12_TransferSound_c15 p) .cut) (.seq (law12_TransferSound_c16 p) (law12_TransferSound_m25 p))) Q st := Iff.rfl
def ic_law12_TransferSound (p : Nums) : IC := (.seq (.region [⟨(some 16), (.asg (.c (.d (.bool false)))), none, false⟩] []) (.seq (.seq (law12_TransferSound_c1 p) (.cond (.t 49) (law12_TransferSound_c2 p) .skip)) (.seq (law12_TransferSound_c3 p) (.seq (.region [⟨(some 18), (.asg (.c .nils)), none, false⟩] []) (.seq (.seq (.region [⟨(some 19), (.asg (.c (.d (.int .i64 0)))), none, false⟩] []) (.block 0 (.loop (law12_TransferSound_c9 p)))) (.seq (law12_TransferSound_c10 p) (.seq (law12_TransferSound_c11 p) (.seq (law12_TransferSound_c12 p) (.seq (law12_TransferSound_c13 p) (.seq (law12_TransferSound_c14 p) (law12_TransferSound_m26 p)))))))))))
def law12_TransferComplete_c1 (p : Nums) : IC := (.region [⟨(some 26), (.call p.law12_awake []), none, false⟩, ⟨(some 27), (.un .not (.t 26)), none, false⟩, ⟨(some 28), (.mov (.t 27)), none, false⟩, ⟨(some 29), (.mov (.t 0)), (some (28, false)), false⟩, ⟨(some 30), (.len (.t 29)), (some (28, false)), false⟩, ⟨(some 31), (.bin .eql (.t 30) (.c (.d (.int .i64 0)))), (some (28, false)), false⟩, ⟨(some 32), (.pick (.t 28) (.c (.d (.bool true))) (.t 31)), none, false⟩, ⟨(some 33), (.mov (.t 32)), none, false⟩, ⟨(some 34), (.mov (.t 1)), (some (33, false)), false⟩, ⟨(some 35), (.len (.t 34)), (some (33, false)), false⟩, ⟨(some 36), (.bin .eql (.t 35) (.c (.d (.int .i64 0)))), (some (33, false)), false⟩, ⟨(some 37), (.pick (.t 33) (.c (.d (.bool true))) (.t 36)), none, false⟩, ⟨(some 38), (.mov (.t 37)), none, false⟩, ⟨(some 39), (.mov (.t 0)), (some (38, false)), false⟩, ⟨(some 40), (.len (.t 39)), (some (38, false)), false⟩, ⟨(some 41), (.bin .gtr (.t 40) (.c (.d (.int .i64 20)))), (some (38, false)), false⟩, ⟨(some 42), (.pick (.t 38) (.c (.d (.bool true))) (.t 41)), none, false⟩, ⟨(some 43), (.mov (.t 42)), none, false⟩, ⟨(some 44), (.mov (.t 1)), (some (43, false)), false⟩, ⟨(some 45), (.len (.t 44)), (some (43, false)), false⟩, ⟨(some 46), (.bin .gtr (.t 45) (.c (.d (.int .i64 20)))), (some (43, false)), false⟩, ⟨(some 47), (.pick (.t 43) (.c (.d (.bool true))) (.t 46)), none, false⟩] [])
@[simp] theorem law12_TransferComplete_c1_eq {P m Q st} {p : Nums} : AW P m (law12_TransferComplete_c1 p) Q st ↔ AW P m (.region [⟨(some 26), (.call p.law12_awake []), none, false⟩, ⟨(some 27), (.un .not (.t 26)), none, false⟩, ⟨(some 28), (.mov (.t 27)), none, false⟩, ⟨(some 29), (.mov (.t 0)), (some (28, false)), false⟩, ⟨(some 30), (.len (.t 29)), (some (28, false)), false⟩, ⟨(some 31), (.bin .eql (.t 30) (.c (.d (.int .i64 0)))), (some (28, false)), false⟩, ⟨(some 32), (.pick (.t 28) (.c (.d (.bool true))) (.t 31)), none, false⟩, ⟨(some 33), (.mov (.t 32)), none, false⟩, ⟨(some 34), (.mov (.t 1)), (some (33, false)), false⟩, ⟨(some 35), (.len (.t 34)), (some (33, false)), false⟩, ⟨(some 36), (.bin .eql (.t 35) (.c (.d (.int .i64 0)))), (some (33, false)), false⟩, ⟨(some 37), (.pick (.t 33) (.c (.d (.bool true))) (.t 36)), none, false⟩, ⟨(some 38), (.mov (.t 37)), none, false⟩, ⟨(some 39), (.mov (.t 0)), (some (38, false)), false⟩, ⟨(some 40), (.len (.t 39)), (some (38, false)), false⟩, ⟨(some 41), (.bin .gtr (.t 40) (.c (.d (.int .i64 20)))), (some (38, false)), false⟩, ⟨(some 42), (.pick (.t 38) (.c (.d (.bool true))) (.t 41)), none, false⟩, ⟨(some 43), (.mov (.t 42)), none, false⟩, ⟨(some 44), (.mov (.t 1)), (some (43, false)), false⟩, ⟨(some 45), (.len (.t 44)), (some (43, false)), false⟩, ⟨(some 46), (.bin .gtr (.t 45) (.c (.d (.int .i64 20)))), (some (43, false)), false⟩, ⟨(some 47), (.pick (.t 43) (.c (.d (.bool true))) (.t 46)), none, false⟩] []) Q st := Iff.rfl
def law12_TransferComplete_c2 (p : Nums) : IC := (.seq (.region [⟨(some 48), (.call p.law12_awake []), none, false⟩, ⟨(some 12), (.asg (.t 48)), none, false⟩] []) .ret)
@[simp] theorem law12_TransferComplete_c2_eq {P m Q st} {p : Nums} : AW P m (law12_TransferComplete_c2 p) Q st ↔ AW P m (.seq (.region [⟨(some 48), (.call p.law12_awake []), none, false⟩, ⟨(some 12), (.asg (.t 48)), none, false⟩] []) .ret) Q st := Iff.rfl
def law12_TransferComplete_c3 (p : Nums) : IC := (.region [⟨(some 49), (.mov (.t 15)), none, false⟩, ⟨(some 50), (.mov (.t 0)), none, false⟩, ⟨(some 51), (.len (.t 50)), none, false⟩, ⟨(some 52), (.bin .lss (.t 49) (.t 51)), none, false⟩] [])
@[simp] theorem law12_TransferComplete_c3_eq {P m Q st} {p : Nums} : AW P m (law12_TransferComplete_c3 p) Q st ↔ AW P m (.region [⟨(some 49), (.mov (.t 15)), none, false⟩, ⟨(some 50), (.mov (.t 0)), none, false⟩, ⟨(some 51), (.len (.t 50)), none, false⟩, ⟨(some 52), (.bin .lss (.t 49) (.t 51)), none, false⟩] []) Q st := Iff.rfl
def law12_TransferComplete_c4 (p : Nums) : IC := (.region [⟨(some 55), (.mov (.t 13)), none, false⟩, ⟨(some 56), (.mov (.t 0)), none, false⟩, ⟨(some 57), (.mov (.t 15)), none, false⟩, ⟨(some 58), (.iaddr 1 (.t 56) (.t 57)), none, false⟩, ⟨(some 59), (.load none (.t 58)), none, false⟩, ⟨(some 60), (.conv .i64 (.t 59)), none, false⟩, ⟨(some 61), (.bslice 1 1 [(.int .i64 0)] [(0, (.t 60))]), none, false⟩, ⟨(some 62), (.app 1 8 (.t 55) (.t 61)), none, false⟩, ⟨(some 13), (.asg (.t 62)), none, false⟩] [])
@[simp] theorem law12_TransferComplete_c4_eq {P m Q st} {p : Nums} : AW P m (law12_TransferComplete_c4 p) Q st ↔ AW P m (.region [⟨(some 55), (.mov (.t 13)), none, false⟩, ⟨(some 56), (.mov (.t 0)), none, false⟩, ⟨(some 57), (.mov (.t 15)), none, false⟩, ⟨(some 58), (.iaddr 1 (.t 56) (.t 57)), none, false⟩, ⟨(some 59), (.load none (.t 58)), none, false⟩, ⟨(some 60), (.conv .i64 (.t 59)), none, false⟩, ⟨(some 61), (.bslice 1 1 [(.int .i64 0)] [(0, (.t 60))]), none, false⟩, ⟨(some 62), (.app 1 8 (.t 55) (.t 61)), none, false⟩, ⟨(some 13), (.asg (.t 62)), none, false⟩] []) Q st := Iff.rfl
def law12_TransferComplete_c5 (p : Nums) : IC := (.region [⟨(some 53), (.mov (.t 15)), none, false⟩, ⟨(some 54), (.bin .add (.t 53) (.c (.d (.int .i64 1)))), none, false⟩, ⟨(some 15), (.asg (.t 54)), none, false⟩] [])
@[simp] theorem law12_TransferComplete_c5_eq {P m Q st} {p : Nums} : AW P m (law12_TransferComplete_c5 p) Q st ↔ AW P m (.region [⟨(some 53), (.mov (.t 15)), none, false⟩, ⟨(some 54), (.bin .add (.t 53) (.c (.d (.int .i64 1)))), none, false⟩, ⟨(some 15), (.asg (.t 54)), none, false⟩] []) Q st := Iff.rfl
def law12_TransferComplete_c6 (p : Nums) : IC := (.seq (.seq (law12_TransferComplete_c3 p) (.cond (.t 52) .skip (.exit 0))) (.seq (.block 1 (law12_TransferComplete_c4 p)) (law12_TransferComplete_c5 p)))
@[simp] theorem law12_TransferComplete_c6_eq {P m Q st} {p : Nums} : AW P m (law12_TransferComplete_c6 p) Q st ↔ AW P m (.seq (.seq (law12_TransferComplete_c3 p) (.cond (.t 52) .skip (.exit 0))) (.seq (.block 1 (law12_TransferComplete_c4 p)) (law12_TransferComplete_c5 p))) Q st := Iff.rfl
def law12_TransferComplete_c7 (p : Nums) : IC := (.region [⟨(some 63), (.mov (.t 16)), none, false⟩, ⟨(some 64), (.mov (.t 1)), none, false⟩, ⟨(some 65), (.len (.t 64)), none, false⟩, ⟨(some 66), (.bin .lss (.t 63) (.t 65)), none, false⟩] [])
@[simp] theorem law12_TransferComplete_c7_eq {P m Q st} {p : Nums} : AW P m (law12_TransferComplete_c7 p) Q st ↔ AW P m (.region [⟨(some 63), (.mov (.t 16)), none, false⟩, ⟨(some 64), (.mov (.t 1)), none, false⟩, ⟨(some 65), (.len (.t 64)), none, false⟩, ⟨(some 66), (.bin .lss (.t 63) (.t 65)), none, false⟩] []) Q st := Iff.rfl
def law12_TransferComplete_c8 (p : Nums) : IC := (.region [⟨(some 69), (.mov (.t 14)), none, false⟩, ⟨(some 70), (.mov (.t 1)), none, false⟩, ⟨(some 71), (.mov (.t 16)), none, false⟩, ⟨(some 72), (.iaddr 1 (.t 70) (.t 71)), none, false⟩, ⟨(some 73), (.load none (.t 72)), none, false⟩, ⟨(some 74), (.conv .i64 (.t 73)), none, false⟩, ⟨(some 75), (.bslice 1 1 [(.int .i64 0)] [(0, (.t 74))]), none, false⟩, ⟨(some 76), (.app 1 8 (.t 69) (.t 75)), none, false⟩, ⟨(some 14), (.asg (.t 76)), none, false⟩] [])
@[simp] theorem law12_TransferComplete_c8_eq {P m Q st} {p : Nums} : AW P m (law12_TransferComplete_c8 p) Q st ↔ AW P m (.region [⟨(some 69), (.mov (.t 14)), none, false⟩, ⟨(some 70), (.mov (.t 1)), none, false⟩, ⟨(some 71), (.mov (.t 16)), none, false⟩, ⟨(some 72), (.iaddr 1 (.t 70) (.t 71)), none, false⟩, ⟨(some 73), (.load none (.t 72)), none, false⟩, ⟨(some 74), (.conv .i64 (.t 73)), none, false⟩, ⟨(some 75), (.bslice 1 1 [(.int .i64 0)] [(0, (.t 74))]), none, false⟩, ⟨(some 76), (.app 1 8 (.t 69) (.t 75)), none, false⟩, ⟨(some 14), (.asg (.t 76)), none, false⟩] []) Q st := Iff.rfl
def law12_TransferComplete_c9 (p : Nums) : IC := (.region [⟨(some 67), (.mov (.t 16)), none, false⟩, ⟨(some 68), (.bin .add (.t 67) (.c (.d (.int .i64 1)))), none, false⟩, ⟨(some 16), (.asg (.t 68)), none, false⟩] [])
@[simp] theorem law12_TransferComplete_c9_eq {P m Q st} {p : Nums} : AW P m (law12_TransferComplete_c9 p) Q st ↔ AW P m (.region [⟨(some 67), (.mov (.t 16)), none, false⟩, ⟨(some 68), (.bin .add (.t 67) (.c (.d (.int .i64 1)))), none, false⟩, ⟨(some 16), (.asg (.t 68)), none, false⟩] []) Q st := Iff.rfl
def law12_TransferComplete_c10 (p : Nums) : IC := (.seq (.seq (law12_TransferComplete_c7 p) (.cond (.t 66) .skip (.exit 2))) (.seq (.block 3 (law12_TransferComplete_c8 p)) (law12_TransferComplete_c9 p)))
@[simp] theorem law12_TransferComplete_c10_eq {P m Q st} {p : Nums} : AW P m (law12_TransferComplete_c10 p) Q st ↔ AW P m (.seq (.seq (law12_TransferComplete_c7 p) (.cond (.t 66) .skip (.exit 2))) (.seq (.block 3 (law12_TransferComplete_c8 p)) (law12_TransferComplete_c9 p))) Q st := Iff.rfl
def law12_TransferComplete_c11 (p : Nums) : IC := (.region [⟨(some 77), (.mov (.t 13)), none, false⟩, ⟨(some 78), (.mov (.t 14)), none, false⟩, ⟨(some 79), (.call p.law12_known [(.t 77), (.t 78)]), none, false⟩, ⟨(some 17), (.asg (.t 79)), none, false⟩] [])
@[simp] theorem law12_TransferComplete_c11_eq {P m Q st} {p : Nums} : AW P m (law12_TransferComplete_c11 p) Q st ↔ AW P m (.region [⟨(some 77), (.mov (.t 13)), none, false⟩, ⟨(some 78), (.mov (.t 14)), none, false⟩, ⟨(some 79), (.call p.law12_known [(.t 77), (.t 78)]), none, false⟩, ⟨(some 17), (.asg (.t 79)), none, false⟩] []) Q st := Iff.rfl
def law12_TransferComplete_c12 (p : Nums) : IC := (.region [⟨(some 80), (.mov (.t 2)), none, false⟩, ⟨(some 81), (.conv .i64 (.t 80)), none, false⟩, ⟨(some 82), (.mov (.t 13)), none, false⟩, ⟨(some 83), (.len (.t 82)), none, false⟩, ⟨(some 84), (.bin .rem (.t 81) (.t 83)), none, false⟩, ⟨(some 18), (.asg (.t 84)), none, false⟩] [])
@[simp] theorem law12_TransferComplete_c12_eq {P m Q st} {p : Nums} : AW P m (law12_TransferComplete_c12 p) Q st ↔ AW P m (.region [⟨(some 80), (.mov (.t 2)), none, false⟩, ⟨(some 81), (.conv .i64 (.t 80)), none, false⟩, ⟨(some 82), (.mov (.t 13)), none, false⟩, ⟨(some 83), (.len (.t 82)), none, false⟩, ⟨(some 84), (.bin .rem (.t 81) (.t 83)), none, false⟩, ⟨(some 18), (.asg (.t 84)), none, false⟩] []) Q st := Iff.rfl
def law12_TransferComplete_c13 (p : Nums) : IC := (.region [⟨(some 85), (.mov (.t 3)), none, false⟩, ⟨(some 86), (.conv .i64 (.t 85)), none, false⟩, ⟨(some 87), (.mov (.t 13)), none, false⟩, ⟨(some 88), (.len (.t 87)), none, false⟩, ⟨(some 89), (.bin .rem (.t 86) (.t 88)), none, false⟩, ⟨(some 19), (.asg (.t 89)), none, false⟩] [])
@[simp] theorem law12_TransferComplete_c13_eq {P m Q st} {p : Nums} : AW P m (law12_TransferComplete_c13 p) Q st ↔ AW P m (.region [⟨(some 85), (.mov (.t 3)), none, false⟩, ⟨(some 86), (.conv .i64 (.t 85)), none, false⟩, ⟨(some 87), (.mov (.t 13)), none, false⟩, ⟨(some 88), (.len (.t 87)), none, false⟩, ⟨(some 89), (.bin .rem (.t 86) (.t 88)), none, false⟩, ⟨(some 19), (.asg (.t 89)), none, false⟩] []) Q st := Iff.rfl
def law12_TransferComplete_c14 (p : Nums) : IC := (.region [⟨(some 90), (.mov (.t 4)), none, false⟩, ⟨(some 91), (.conv .i64 (.t 90)), none, false⟩, ⟨(some 92), (.mov (.t 14)), none, false⟩, ⟨(some 93), (.len (.t 92)), none, false⟩, ⟨(some 94), (.bin .rem (.t 91) (.t 93)), none, false⟩, ⟨(some 20), (.asg (.t 94)), none, false⟩] [])
@[simp] theorem law12_TransferComplete_c14_eq {P m Q st} {p : Nums} : AW P m (law12_TransferComplete_c14 p) Q st ↔ AW P m (.region [⟨(some 90), (.mov (.t 4)), none, false⟩, ⟨(some 91), (.conv .i64 (.t 90)), none, false⟩, ⟨(some 92), (.mov (.t 14)), none, false⟩, ⟨(some 93), (.len (.t 92)), none, false⟩, ⟨(some 94), (.bin .rem (.t 91) (.t 93)), none, false⟩, ⟨(some 20), (.asg (.t 94)), none, false⟩] []) Q st := Iff.rfl
def law12_TransferComplete_c15 (p : Nums) : IC := (.region [⟨(some 95), (.mov (.t 5)), none, false⟩, ⟨(some 96), (.conv .i64 (.t 95)), none, false⟩, ⟨(some 97), (.mov (.t 14)), none, false⟩, ⟨(some 98), (.len (.t 97)), none, false⟩, ⟨(some 99), (.bin .rem (.t 96) (.t 98)), none, false⟩, ⟨(some 21), (.asg (.t 99)), none, false⟩] [])
@[simp] theorem law12_TransferComplete_c15_eq {P m Q st} {p : Nums} : AW P m (law12_TransferComplete_c15 p) Q st ↔ AW P m (.region [⟨(some 95), (.mov (.t 5)), none, false⟩, ⟨(some 96), (.conv .i64 (.t 95)), none, false⟩, ⟨(some 97), (.mov (.t 14)), none, false⟩, ⟨(some 98), (.len (.t 97)), none, false⟩, ⟨(some 99), (.bin .rem (.t 96) (.t 98)), none, false⟩, ⟨(some 21), (.asg (.t 99)), none, false⟩] []) Q st := Iff.rfl
def law12_TransferComplete_c16 (p : Nums) : IC := (.region [⟨(some 100), (.bslice 1 0 [(.int .i64 0)] []), none, false⟩, ⟨(some 101), (.mov (.t 13)), none, false⟩, ⟨(some 102), (.app 1 8 (.t 100) (.t 101)), none, false⟩, ⟨(some 22), (.asg (.t 102)), none, false⟩] [])
@[simp] theorem law12_TransferComplete_c16_eq {P m Q st} {p : Nums} : AW P m (law12_TransferComplete_c16 p) Q st ↔ AW P m (.region [⟨(some 100), (.bslice 1 0 [(.int .i64 0)] []), none, false⟩, ⟨(some 101), (.mov (.t 13)), none, false⟩, ⟨(some 102), (.app 1 8 (.t 100) (.t 101)), none, false⟩, ⟨(some 22), (.asg (.t 102)), none, false⟩] []) Q st := Iff.rfl
def law12_TransferComplete_c17 (p : Nums) : IC := (.region [⟨(some 103), (.mov (.t 22)), none, false⟩, ⟨(some 104), (.mov (.t 18)), none, false⟩, ⟨(some 105), (.mov (.t 13)), none, false⟩, ⟨(some 106), (.mov (.t 19)), none, false⟩, ⟨(some 107), (.iaddr 1 (.t 105) (.t 106)), none, false⟩, ⟨(some 108), (.load none (.t 107)), none, false⟩, ⟨(some 109), (.iaddr 1 (.t 103) (.t 104)), none, false⟩, ⟨none, (.store 1 (.t 109) (.t 108)), none, false⟩] [])
@[simp] theorem law12_TransferComplete_c17_eq {P m Q st} {p : Nums} : AW P m (law12_TransferComplete_c17 p) Q st ↔ AW P m (.region [⟨(some 103), (.mov (.t 22)), none, false⟩, ⟨(some 104), (.mov (.t 18)), none, false⟩, ⟨(some 105), (.mov (.t 13)), none, false⟩, ⟨(some 106), (.mov (.t 19)), none, false⟩, ⟨(some 107), (.iaddr 1 (.t 105) (.t 106)), none, false⟩, ⟨(some 108), (.load none (.t 107)), none, false⟩, ⟨(some 109), (.iaddr 1 (.t 103) (.t 104)), none, false⟩, ⟨none, (.store 1 (.t 109) (.t 108)), none, false⟩] []) Q st := Iff.rfl
def law12_TransferComplete_c18 (p : Nums) : IC := (.region [⟨(some 110), (.bslice 1 0 [(.int .i64 0)] []), none, false⟩, ⟨(some 111), (.mov (.t 14)), none, false⟩, ⟨(some 112), (.app 1 8 (.t 110) (.t 111)), none, false⟩, ⟨(some 23), (.asg (.t 112)), none, false⟩] [])
@[simp] theorem law12_TransferComplete_c18_eq {P m Q st} {p : Nums} : AW P m (law12_TransferComplete_c18 p) Q st ↔ AW P m (.region [⟨(some 110), (.bslice 1 0 [(.int .i64 0)] []), none, false⟩, ⟨(some 111), (.mov (.t 14)), none, false⟩, ⟨(some 112), (.app 1 8 (.t 110) (.t 111)), none, false⟩, ⟨(some 23), (.asg (.t 112)), none, false⟩] []) Q st := Iff.rfl
def law12_TransferComplete_c19 (p : Nums) : IC := (.region [⟨(some 113), (.mov (.t 23)), none, false⟩, ⟨(some 114), (.mov (.t 20)), none, false⟩, ⟨(some 115), (.mov (.t 14)), none, false⟩, ⟨(some 116), (.mov (.t 21)), none, false⟩, ⟨(some 117), (.iaddr 1 (.t 115) (.t 116)), none, false⟩, ⟨(some 118), (.load none (.t 117)), none, false⟩, ⟨(some 119), (.iaddr 1 (.t 113) (.t 114)), none, false⟩, ⟨none, (.store 1 (.t 119) (.t 118)), none, false⟩] [])
@[simp] theorem law12_TransferComplete_c19_eq {P m Q st} {p : Nums} : AW P m (law12_TransferComplete_c19 p) Q st ↔ AW P m (.region [⟨(some 113), (.mov (.t 23)), none, false⟩, ⟨(some 114), (.mov (.t 20)), none, false⟩, ⟨(some 115), (.mov (.t 14)), none, false⟩, ⟨(some 116), (.mov (.t 21)), none, false⟩, ⟨(some 117), (.iaddr 1 (.t 115) (.t 116)), none, false⟩, ⟨(some 118), (.load none (.t 117)), none, false⟩, ⟨(some 119), (.iaddr 1 (.t 113) (.t 114)), none, false⟩, ⟨none, (.store 1 (.t 119) (.t 118)), none, false⟩] []) Q st := Iff.rfl
def law12_TransferComplete_c20 (p : Nums) : IC := (.region [⟨(some 120), (.bslice 1 0 [(.int .i64 0)] []), none, false⟩, ⟨(some 121), (.mov (.t 13)), none, false⟩, ⟨(some 122), (.app 1 8 (.t 120) (.t 121)), none, false⟩, ⟨(some 24), (.asg (.t 122)), none, false⟩] [])
@[simp] theorem law12_TransferComplete_c20_eq {P m Q st} {p : Nums} : AW P m (law12_TransferComplete_c20 p) Q st ↔ AW P m (.region [⟨(some 120), (.bslice 1 0 [(.int .i64 0)] []), none, false⟩, ⟨(some 121), (.mov (.t 13)), none, false⟩, ⟨(some 122), (.app 1 8 (.t 120) (.t 121)), none, false⟩, ⟨(some 24), (.asg (.t 122)), none, false⟩] []) Q st := Iff.rfl
def law12_TransferComplete_c21 (p : Nums) : IC := (.region [⟨(some 123), (.mov (.t 24)), none, false⟩, ⟨(some 124), (.mov (.t 18)), none, false⟩, ⟨(some 125), (.iaddr 1 (.t 123) (.t 124)), none, false⟩, ⟨none, (.store 1 (.t 125) (.c (.d (.int .i64 1000)))), none, false⟩] [])
@[simp] theorem law12_TransferComplete_c21_eq {P m Q st} {p : Nums} : AW P m (law12_TransferComplete_c21 p) Q st ↔ AW P m (.region [⟨(some 123), (.mov (.t 24)), none, false⟩, ⟨(some 124), (.mov (.t 18)), none, false⟩, ⟨(some 125), (.iaddr 1 (.t 123) (.t 124)), none, false⟩, ⟨none, (.store 1 (.t 125) (.c (.d (.int .i64 1000)))), none, false⟩] []) Q st := Iff.rfl
def law12_TransferComplete_c22 (p : Nums) : IC := (.region [⟨(some 126), (.bslice 1 0 [(.int .i64 0)] []), none, false⟩, ⟨(some 127), (.mov (.t 14)), none, false⟩, ⟨(some 128), (.app 1 8 (.t 126) (.t 127)), none, false⟩, ⟨(some 25), (.asg (.t 128)), none, false⟩] [])
@[simp] theorem law12_TransferComplete_c22_eq {P m Q st} {p : Nums} : AW P m (law12_TransferComplete_c22 p) Q st ↔ AW P m (.region [⟨(some 126), (.bslice 1 0 [(.int .i64 0)] []), none, false⟩, ⟨(some 127), (.mov (.t 14)), none, false⟩, ⟨(some 128), (.app 1 8 (.t 126) (.t 127)), none, false⟩, ⟨(some 25), (.asg (.t 128)), none, false⟩] []) Q st := Iff.rfl
def law12_TransferComplete_c23 (p : Nums) : IC := (.region [⟨(some 129), (.mov (.t 25)), none, false⟩, ⟨(some 130), (.mov (.t 20)), none, false⟩, ⟨(some 131), (.iaddr 1 (.t 129) (.t 130)), none, false⟩, ⟨none, (.store 1 (.t 131) (.c (.d (.int .i64 1000)))), none, false⟩] [])
@[simp] theorem law12_TransferComplete_c23_eq {P m Q st} {p : Nums} : AW P m (law12_TransferComplete_c23 p) Q st ↔ AW P m (.region [⟨(some 129), (.mov (.t 25)), none, false⟩, ⟨(some 130), (.mov (.t 20)), none, false⟩, ⟨(some 131), (.iaddr 1 (.t 129) (.t 130)), none, false⟩, ⟨none, (.store 1 (.t 131) (.c (.d (.int .i64 1000)))), none, false⟩] []) Q st := Iff.rfl
def law12_TransferComplete_c24 (p : Nums) : IC := (.region [⟨(some 132), (.mov (.t 17)), none, false⟩, ⟨(some 133), (.mov (.t 18)), none, false⟩, ⟨(some 134), (.mov (.t 19)), none, false⟩, ⟨(some 135), (.call p.transfer_Copy [(.t 132), (.t 133), (.t 134)]), none, false⟩, ⟨(some 136), (.mov (.t 22)), none, false⟩, ⟨(some 137), (.mov (.t 14)), none, false⟩, ⟨(some 138), (.call p.law12_known [(.t 136), (.t 137)]), none, false⟩, ⟨(some 139), (.call p.ref11_Same [(.t 135), (.t 138)]), none, false⟩, ⟨(some 140), (.mov (.t 139)), none, false⟩, ⟨(some 141), (.mov (.t 17)), (some (140, true)), false⟩, ⟨(some 142), (.mov (.t 20)), (some (140, true)), false⟩, ⟨(some 143), (.mov (.t 21)), (some (140, true)), false⟩, ⟨(some 144), (.call p.transfer_Move [(.t 141), (.t 142), (.t 143)]), (some (140, true)), false⟩, ⟨(some 145), (.mov (.t 13)), (some (140, true)), false⟩, ⟨(some 146), (.mov (.t 23)), (some (140, true)), false⟩, ⟨(some 147), (.call p.law12_known [(.t 145), (.t 146)]), (some (140, true)), false⟩, ⟨(some 148), (.call p.ref11_Same [(.t 144), (.t 147)]), (some (140, true)), false⟩, ⟨(some 149), (.pick (.t 140) (.t 148) (.c (.d (.bool false)))), none, false⟩, ⟨(some 150), (.mov (.t 149)), none, false⟩, ⟨(some 151), (.mov (.t 17)), (some (150, true)), false⟩, ⟨(some 152), (.mov (.t 18)), (some (150, true)), false⟩, ⟨(some 153), (.mov (.t 20)), (some (150, true)), false⟩, ⟨(some 154), (.call p.transfer_Define [(.t 151), (.t 152), (.t 153)]), (some (150, true)), false⟩, ⟨(some 155), (.mov (.t 24)), (some (150, true)), false⟩, ⟨(some 156), (.mov (.t 25)), (some (150, true)), false⟩, ⟨(some 157), (.call p.law12_known [(.t 155), (.t 156)]), (some (150, true)), false⟩, ⟨(some 158), (.call p.ref11_Same [(.t 154), (.t 157)]), (some (150, true)), false⟩, ⟨(some 159), (.pick (.t 150) (.t 158) (.c (.d (.bool false)))), none, false⟩, ⟨(some 12), (.asg (.t 159)), none, false⟩] [])
@[simp] theorem law12_TransferComplete_c24_eq {P m Q st} {p : Nums} : AW P m (law12_TransferComplete_c24 p) Q st ↔ AW P m (.region [⟨(some 132), (.mov (.t 17)), none, false⟩, ⟨(some 133), (.mov (.t 18)), none, false⟩, ⟨(some 134), (.mov (.t 19)), none, false⟩, ⟨(some 135), (.call p.transfer_Copy [(.t 132), (.t 133), (.t 134)]), none, false⟩, ⟨(some 136), (.mov (.t 22)), none, false⟩, ⟨(some 137), (.mov (.t 14)), none, false⟩, ⟨(some 138), (.call p.law12_known [(.t 136), (.t 137)]), none, false⟩, ⟨(some 139), (.call p.ref11_Same [(.t 135), (.t 138)]), none, false⟩, ⟨(some 140), (.mov (.t 139)), none, false⟩, ⟨(some 141), (.mov (.t 17)), (some (140, true)), false⟩, ⟨(some 142), (.mov (.t 20)), (some (140, true)), false⟩, ⟨(some 143), (.mov (.t 21)), (some (140, true)), false⟩, ⟨(some 144), (.call p.transfer_Move [(.t 141), (.t 142), (.t 143)]), (some (140, true)), false⟩, ⟨(some 145), (.mov (.t 13)), (some (140, true)), false⟩, ⟨(some 146), (.mov (.t 23)), (some (140, true)), false⟩, ⟨(some 147), (.call p.law12_known [(.t 145), (.t 146)]), (some (140, true)), false⟩, ⟨(some 148), (.call p.ref11_Same [(.t 144), (.t 147)]), (some (140, true)), false⟩, ⟨(some 149), (.pick (.t 140) (.t 148) (.c (.d (.bool false)))), none, false⟩, ⟨(some 150), (.mov (.t 149)), none, false⟩, ⟨(some 151), (.mov (.t 17)), (some (150, true)), false⟩, ⟨(some 152), (.mov (.t 18)), (some (150, true)), false⟩, ⟨(some 153), (.mov (.t 20)), (some (150, true)), false⟩, ⟨(some 154), (.call p.transfer_Define [(.t 151), (.t 152), (.t 153)]), (some (150, true)), false⟩, ⟨(some 155), (.mov (.t 24)), (some (150, true)), false⟩, ⟨(some 156), (.mov (.t 25)), (some (150, true)), false⟩, ⟨(some 157), (.call p.law12_known [(.t 155), (.t 156)]), (some (150, true)), false⟩, ⟨(some 158), (.call p.ref11_Same [(.t 154), (.t 157)]), (some (150, true)), false⟩, ⟨(some 159), (.pick (.t 150) (.t 158) (.c (.d (.bool false)))), none, false⟩, ⟨(some 12), (.asg (.t 159)), none, false⟩] []) Q st := Iff.rfl
def law12_TransferComplete_m25 (p : Nums) : IC := (.seq (.seq (law12_TransferComplete_c23 p) .cut) (.seq (law12_TransferComplete_c24 p) .ret))
theorem law12_TransferComplete_m25_eq {P m Q st} {p : Nums} : AW P m (law12_TransferComplete_m25 p) Q st ↔ AW P m (.seq (.seq (law12_TransferComplete_c23 p) .cut) (.seq (law12_TransferComplete_c24 p) .ret)) Q st := Iff.rfl
def law12_TransferComplete_m26 (p : Nums) : IC := (.seq (.seq (law12_TransferComplete_c21 p) .cut) (.seq (law12_TransferComplete_c22 p) (law12_TransferComplete_m25 p)))
theorem law12_TransferComplete_m26_eq {P m Q st} {p : Nums} : AW P m (law12_TransferComplete_m26 p) Q st ↔ AW P m (.seq (.seq (law12_TransferComplete_c21 p) .cut) (.seq (law12_TransferComplete_c22 p) (law12_TransferComplete_m25 p))) Q st := Iff.rfl
def law12_TransferComplete_m27 (p : Nums) : IC := (.seq (.seq (law12_TransferComplete_c19 p) .cut) (.seq (law12_TransferComplete_c20 p) (law12_TransferComplete_m26 p)))
theorem law12_TransferComplete_m27_eq {P m Q st} {p : Nums} : AW P m (law12_TransferComplete_m27 p) Q st ↔ AW P m (.seq (.seq (law12_TransferComplete_c19 p) .cut) (.seq (law12_TransferComplete_c20 p) (law12_TransferComplete_m26 p))) Q st := Iff.rfl
def law12_TransferComplete_m28 (p : Nums) : IC := (.seq (.seq (law12_TransferComplete_c17 p) .cut) (.seq (law12_TransferComplete_c18 p) (law12_TransferComplete_m27 p)))
theorem law12_TransferComplete_m28_eq {P m Q st} {p : Nums} : AW P m (law12_TransferComplete_m28 p) Q st ↔ AW P m (.seq (.seq (law12_TransferComplete_c17 p) .cut) (.seq (law12_TransferComplete_c18 p) (law12_TransferComplete_m27 p))) Q st := Iff.rfl
def ic_law12_TransferComplete (p : Nums) : IC := (.seq (.region [⟨(some 12), (.asg (.c (.d (.bool false)))), none, false⟩] []) (.seq (.seq (law12_TransferComplete_c1 p) (.cond (.t 47) (law12_TransferComplete_c2 p) .skip)) (.seq (.region [⟨(some 13), (.asg (.c .nils)), none, false⟩, ⟨(some 14), (.asg (.c .nils)), none, false⟩] []) (.seq (.seq (.region [⟨(some 15), (.asg (.c (.d (.int .i64 0)))), none, false⟩] []) (.block 0 (.loop (law12_TransferComplete_c6 p)))) (.seq (.seq (.region [⟨(some 16), (.asg (.c (.d (.int .i64 0)))), none, false⟩] []) (.block 2 (.loop (law12_TransferComplete_c10 p)))) (.seq (law12_TransferComplete_c11 p) (.seq (law12_TransferComplete_c12 p) (.seq (law12_TransferComplete_c13 p) (.seq (law12_TransferComplete_c14 p) (.seq (law12_TransferComplete_c15 p) (.seq (law12_TransferComplete_c16 p) (law12_TransferComplete_m28 p))))))))))))
def law12_TransferMonotone_c1 (p : Nums) : IC := (.region [⟨(some 15), (.call p.law12_awake []), none, false⟩, ⟨(some 16), (.un .not (.t 15)), none, false⟩, ⟨(some 17), (.mov (.t 16)), none, false⟩, ⟨(some 18), (.mov (.t 0)), (some (17, false)), false⟩, ⟨(some 19), (.len (.t 18)), (some (17, false)), false⟩, ⟨(some 20), (.bin .gtr (.t 19) (.c (.d (.int .i64 40)))), (some (17, false)), false⟩, ⟨(some 21), (.pick (.t 17) (.c (.d (.bool true))) (.t 20)), none, false⟩, ⟨(some 22), (.mov (.t 21)), none, false⟩, ⟨(some 23), (.mov (.t 1)), (some (22, false)), false⟩, ⟨(some 24), (.len (.t 23)), (some (22, false)), false⟩, ⟨(some 25), (.bin .gtr (.t 24) (.c (.d (.int .i64 40)))), (some (22, false)), false⟩, ⟨(some 26), (.pick (.t 22) (.c (.d (.bool true))) (.t 25)), none, false⟩] [])
@[simp] theorem law12_TransferMonotone_c1_eq {P m Q st} {p : Nums} : AW P m (law12_TransferMonotone_c1 p) Q st ↔ AW P m (.region [⟨(some 15), (.call p.law12_awake []), none, false⟩, ⟨(some 16), (.un .not (.t 15)), none, false⟩, ⟨(some 17), (.mov (.t 16)), none, false⟩, ⟨(some 18), (.mov (.t 0)), (some (17, false)), false⟩, ⟨(some 19), (.len (.t 18)), (some (17, false)), false⟩, ⟨(some 20), (.bin .gtr (.t 19) (.c (.d (.int .i64 40)))), (some (17, false)), false⟩, ⟨(some 21), (.pick (.t 17) (.c (.d (.bool true))) (.t 20)), none, false⟩, ⟨(some 22), (.mov (.t 21)), none, false⟩, ⟨(some 23), (.mov (.t 1)), (some (22, false)), false⟩, ⟨(some 24), (.len (.t 23)), (some (22, false)), false⟩, ⟨(some 25), (.bin .gtr (.t 24) (.c (.d (.int .i64 40)))), (some (22, false)), false⟩, ⟨(some 26), (.pick (.t 22) (.c (.d (.bool true))) (.t 25)), none, false⟩] []) Q st := Iff.rfl
def law12_TransferMonotone_c2 (p : Nums) : IC := (.seq (.region [⟨(some 27), (.call p.law12_awake []), none, false⟩, ⟨(some 12), (.asg (.t 27)), none, false⟩] []) .ret)
@[simp] theorem law12_TransferMonotone_c2_eq {P m Q st} {p : Nums} : AW P m (law12_TransferMonotone_c2 p) Q st ↔ AW P m (.seq (.region [⟨(some 27), (.call p.law12_awake []), none, false⟩, ⟨(some 12), (.asg (.t 27)), none, false⟩] []) .ret) Q st := Iff.rfl
def law12_TransferMonotone_c3 (p : Nums) : IC := (.region [⟨(some 28), (.mov (.t 0)), none, false⟩, ⟨(some 29), (.call p.ref11_Make [(.t 28)]), none, false⟩, ⟨(some 13), (.asg (.t 29)), none, false⟩] [])
@[simp] theorem law12_TransferMonotone_c3_eq {P m Q st} {p : Nums} : AW P m (law12_TransferMonotone_c3 p) Q st ↔ AW P m (.region [⟨(some 28), (.mov (.t 0)), none, false⟩, ⟨(some 29), (.call p.ref11_Make [(.t 28)]), none, false⟩, ⟨(some 13), (.asg (.t 29)), none, false⟩] []) Q st := Iff.rfl
def law12_TransferMonotone_c4 (p : Nums) : IC := (.region [⟨(some 30), (.bslice 2 0 [(.int .i64 0), (.int .i64 0)] []), none, false⟩, ⟨(some 31), (.mov (.t 0)), none, false⟩, ⟨(some 32), (.app 2 16 (.t 30) (.t 31)), none, false⟩, ⟨(some 33), (.mov (.t 1)), none, false⟩, ⟨(some 34), (.app 2 16 (.t 32) (.t 33)), none, false⟩, ⟨(some 35), (.call p.ref11_Make [(.t 34)]), none, false⟩, ⟨(some 14), (.asg (.t 35)), none, false⟩] [])
@[simp] theorem law12_TransferMonotone_c4_eq {P m Q st} {p : Nums} : AW P m (law12_TransferMonotone_c4 p) Q st ↔ AW P m (.region [⟨(some 30), (.bslice 2 0 [(.int .i64 0), (.int .i64 0)] []), none, false⟩, ⟨(some 31), (.mov (.t 0)), none, false⟩, ⟨(some 32), (.app 2 16 (.t 30) (.t 31)), none, false⟩, ⟨(some 33), (.mov (.t 1)), none, false⟩, ⟨(some 34), (.app 2 16 (.t 32) (.t 33)), none, false⟩, ⟨(some 35), (.call p.ref11_Make [(.t 34)]), none, false⟩, ⟨(some 14), (.asg (.t 35)), none, false⟩] []) Q st := Iff.rfl
def law12_TransferMonotone_c5 (p : Nums) : IC := (.region [⟨(some 36), (.mov (.t 13)), none, false⟩, ⟨(some 37), (.mov (.t 2)), none, false⟩, ⟨(some 38), (.mov (.t 3)), none, false⟩, ⟨(some 39), (.call p.transfer_Copy [(.t 36), (.t 37), (.t 38)]), none, false⟩, ⟨(some 40), (.mov (.t 14)), none, false⟩, ⟨(some 41), (.mov (.t 2)), none, false⟩, ⟨(some 42), (.mov (.t 3)), none, false⟩, ⟨(some 43), (.call p.transfer_Copy [(.t 40), (.t 41), (.t 42)]), none, false⟩, ⟨(some 44), (.call p.law12_subset [(.t 39), (.t 43)]), none, false⟩, ⟨(some 45), (.mov (.t 44)), none, false⟩, ⟨(some 46), (.mov (.t 13)), (some (45, true)), false⟩, ⟨(some 47), (.mov (.t 4)), (some (45, true)), false⟩, ⟨(some 48), (.mov (.t 5)), (some (45, true)), false⟩, ⟨(some 49), (.call p.transfer_Move [(.t 46), (.t 47), (.t 48)]), (some (45, true)), false⟩, ⟨(some 50), (.mov (.t 14)), (some (45, true)), false⟩, ⟨(some 51), (.mov (.t 4)), (some (45, true)), false⟩, ⟨(some 52), (.mov (.t 5)), (some (45, true)), false⟩, ⟨(some 53), (.call p.transfer_Move [(.t 50), (.t 51), (.t 52)]), (some (45, true)), false⟩, ⟨(some 54), (.call p.law12_subset [(.t 49), (.t 53)]), (some (45, true)), false⟩, ⟨(some 55), (.pick (.t 45) (.t 54) (.c (.d (.bool false)))), none, false⟩, ⟨(some 56), (.mov (.t 55)), none, false⟩, ⟨(some 57), (.mov (.t 13)), (some (56, true)), false⟩, ⟨(some 58), (.mov (.t 2)), (some (56, true)), false⟩, ⟨(some 59), (.mov (.t 4)), (some (56, true)), false⟩, ⟨(some 60), (.call p.transfer_Define [(.t 57), (.t 58), (.t 59)]), (some (56, true)), false⟩, ⟨(some 61), (.mov (.t 14)), (some (56, true)), false⟩, ⟨(some 62), (.mov (.t 2)), (some (56, true)), false⟩, ⟨(some 63), (.mov (.t 4)), (some (56, true)), false⟩, ⟨(some 64), (.call p.transfer_Define [(.t 61), (.t 62), (.t 63)]), (some (56, true)), false⟩, ⟨(some 65), (.call p.law12_subset [(.t 60), (.t 64)]), (some (56, true)), false⟩, ⟨(some 66), (.pick (.t 56) (.t 65) (.c (.d (.bool false)))), none, false⟩, ⟨(some 12), (.asg (.t 66)), none, false⟩] [])
@[simp] theorem law12_TransferMonotone_c5_eq {P m Q st} {p : Nums} : AW P m (law12_TransferMonotone_c5 p) Q st ↔ AW P m (.region [⟨(some 36), (.mov (.t 13)), none, false⟩, ⟨(some 37), (.mov (.t 2)), none, false⟩, ⟨(some 38), (.mov (.t 3)), none, false⟩, ⟨(some 39), (.call p.transfer_Copy [(.t 36), (.t 37), (.t 38)]), none, false⟩, ⟨(some 40), (.mov (.t 14)), none, false⟩, ⟨(some 41), (.mov (.t 2)), none, false⟩, ⟨(some 42), (.mov (.t 3)), none, false⟩, ⟨(some 43), (.call p.transfer_Copy [(.t 40), (.t 41), (.t 42)]), none, false⟩, ⟨(some 44), (.call p.law12_subset [(.t 39), (.t 43)]), none, false⟩, ⟨(some 45), (.mov (.t 44)), none, false⟩, ⟨(some 46), (.mov (.t 13)), (some (45, true)), false⟩, ⟨(some 47), (.mov (.t 4)), (some (45, true)), false⟩, ⟨(some 48), (.mov (.t 5)), (some (45, true)), false⟩, ⟨(some 49), (.call p.transfer_Move [(.t 46), (.t 47), (.t 48)]), (some (45, true)), false⟩, ⟨(some 50), (.mov (.t 14)), (some (45, true)), false⟩, ⟨(some 51), (.mov (.t 4)), (some (45, true)), false⟩, ⟨(some 52), (.mov (.t 5)), (some (45, true)), false⟩, ⟨(some 53), (.call p.transfer_Move [(.t 50), (.t 51), (.t 52)]), (some (45, true)), false⟩, ⟨(some 54), (.call p.law12_subset [(.t 49), (.t 53)]), (some (45, true)), false⟩, ⟨(some 55), (.pick (.t 45) (.t 54) (.c (.d (.bool false)))), none, false⟩, ⟨(some 56), (.mov (.t 55)), none, false⟩, ⟨(some 57), (.mov (.t 13)), (some (56, true)), false⟩, ⟨(some 58), (.mov (.t 2)), (some (56, true)), false⟩, ⟨(some 59), (.mov (.t 4)), (some (56, true)), false⟩, ⟨(some 60), (.call p.transfer_Define [(.t 57), (.t 58), (.t 59)]), (some (56, true)), false⟩, ⟨(some 61), (.mov (.t 14)), (some (56, true)), false⟩, ⟨(some 62), (.mov (.t 2)), (some (56, true)), false⟩, ⟨(some 63), (.mov (.t 4)), (some (56, true)), false⟩, ⟨(some 64), (.call p.transfer_Define [(.t 61), (.t 62), (.t 63)]), (some (56, true)), false⟩, ⟨(some 65), (.call p.law12_subset [(.t 60), (.t 64)]), (some (56, true)), false⟩, ⟨(some 66), (.pick (.t 56) (.t 65) (.c (.d (.bool false)))), none, false⟩, ⟨(some 12), (.asg (.t 66)), none, false⟩] []) Q st := Iff.rfl
def ic_law12_TransferMonotone (p : Nums) : IC := (.seq (.region [⟨(some 12), (.asg (.c (.d (.bool false)))), none, false⟩] []) (.seq (.seq (law12_TransferMonotone_c1 p) (.cond (.t 26) (law12_TransferMonotone_c2 p) .skip)) (.seq (law12_TransferMonotone_c3 p) (.seq (law12_TransferMonotone_c4 p) (.seq (law12_TransferMonotone_c5 p) .ret)))))
def law12_TransferKeeps_c1 (p : Nums) : IC := (.region [⟨(some 19), (.call p.law12_awake []), none, false⟩, ⟨(some 20), (.un .not (.t 19)), none, false⟩, ⟨(some 21), (.mov (.t 20)), none, false⟩, ⟨(some 22), (.mov (.t 0)), (some (21, false)), false⟩, ⟨(some 23), (.len (.t 22)), (some (21, false)), false⟩, ⟨(some 24), (.bin .gtr (.t 23) (.c (.d (.int .i64 60)))), (some (21, false)), false⟩, ⟨(some 25), (.pick (.t 21) (.c (.d (.bool true))) (.t 24)), none, false⟩] [])
@[simp] theorem law12_TransferKeeps_c1_eq {P m Q st} {p : Nums} : AW P m (law12_TransferKeeps_c1 p) Q st ↔ AW P m (.region [⟨(some 19), (.call p.law12_awake []), none, false⟩, ⟨(some 20), (.un .not (.t 19)), none, false⟩, ⟨(some 21), (.mov (.t 20)), none, false⟩, ⟨(some 22), (.mov (.t 0)), (some (21, false)), false⟩, ⟨(some 23), (.len (.t 22)), (some (21, false)), false⟩, ⟨(some 24), (.bin .gtr (.t 23) (.c (.d (.int .i64 60)))), (some (21, false)), false⟩, ⟨(some 25), (.pick (.t 21) (.c (.d (.bool true))) (.t 24)), none, false⟩] []) Q st := Iff.rfl
def law12_TransferKeeps_c2 (p : Nums) : IC := (.seq (.region [⟨(some 26), (.call p.law12_awake []), none, false⟩, ⟨(some 10), (.asg (.t 26)), none, false⟩] []) .ret)
@[simp] theorem law12_TransferKeeps_c2_eq {P m Q st} {p : Nums} : AW P m (law12_TransferKeeps_c2 p) Q st ↔ AW P m (.seq (.region [⟨(some 26), (.call p.law12_awake []), none, false⟩, ⟨(some 10), (.asg (.t 26)), none, false⟩] []) .ret) Q st := Iff.rfl
def law12_TransferKeeps_c3 (p : Nums) : IC := (.region [⟨(some 27), (.mov (.t 0)), none, false⟩, ⟨(some 28), (.call p.ref11_Make [(.t 27)]), none, false⟩, ⟨(some 11), (.asg (.t 28)), none, false⟩] [])
@[simp] theorem law12_TransferKeeps_c3_eq {P m Q st} {p : Nums} : AW P m (law12_TransferKeeps_c3 p) Q st ↔ AW P m (.region [⟨(some 27), (.mov (.t 0)), none, false⟩, ⟨(some 28), (.call p.ref11_Make [(.t 27)]), none, false⟩, ⟨(some 11), (.asg (.t 28)), none, false⟩] []) Q st := Iff.rfl
def law12_TransferKeeps_c4 (p : Nums) : IC := (.region [⟨(some 29), (.bslice 2 0 [(.int .i64 0), (.int .i64 0)] []), none, false⟩, ⟨(some 30), (.mov (.t 11)), none, false⟩, ⟨(some 31), (.app 2 16 (.t 29) (.t 30)), none, false⟩, ⟨(some 12), (.asg (.t 31)), none, false⟩] [])
@[simp] theorem law12_TransferKeeps_c4_eq {P m Q st} {p : Nums} : AW P m (law12_TransferKeeps_c4 p) Q st ↔ AW P m (.region [⟨(some 29), (.bslice 2 0 [(.int .i64 0), (.int .i64 0)] []), none, false⟩, ⟨(some 30), (.mov (.t 11)), none, false⟩, ⟨(some 31), (.app 2 16 (.t 29) (.t 30)), none, false⟩, ⟨(some 12), (.asg (.t 31)), none, false⟩] []) Q st := Iff.rfl
def law12_TransferKeeps_c5 (p : Nums) : IC := (.region [⟨(some 32), (.mov (.t 11)), none, false⟩, ⟨(some 33), (.mov (.t 1)), none, false⟩, ⟨(some 34), (.mov (.t 2)), none, false⟩, ⟨(some 35), (.call p.transfer_Copy [(.t 32), (.t 33), (.t 34)]), none, false⟩, ⟨(some 13), (.asg (.t 35)), none, false⟩] [])
@[simp] theorem law12_TransferKeeps_c5_eq {P m Q st} {p : Nums} : AW P m (law12_TransferKeeps_c5 p) Q st ↔ AW P m (.region [⟨(some 32), (.mov (.t 11)), none, false⟩, ⟨(some 33), (.mov (.t 1)), none, false⟩, ⟨(some 34), (.mov (.t 2)), none, false⟩, ⟨(some 35), (.call p.transfer_Copy [(.t 32), (.t 33), (.t 34)]), none, false⟩, ⟨(some 13), (.asg (.t 35)), none, false⟩] []) Q st := Iff.rfl
def law12_TransferKeeps_c6 (p : Nums) : IC := (.region [⟨(some 36), (.mov (.t 11)), none, false⟩, ⟨(some 37), (.mov (.t 3)), none, false⟩, ⟨(some 38), (.mov (.t 4)), none, false⟩, ⟨(some 39), (.call p.transfer_Move [(.t 36), (.t 37), (.t 38)]), none, false⟩, ⟨(some 14), (.asg (.t 39)), none, false⟩] [])
@[simp] theorem law12_TransferKeeps_c6_eq {P m Q st} {p : Nums} : AW P m (law12_TransferKeeps_c6 p) Q st ↔ AW P m (.region [⟨(some 36), (.mov (.t 11)), none, false⟩, ⟨(some 37), (.mov (.t 3)), none, false⟩, ⟨(some 38), (.mov (.t 4)), none, false⟩, ⟨(some 39), (.call p.transfer_Move [(.t 36), (.t 37), (.t 38)]), none, false⟩, ⟨(some 14), (.asg (.t 39)), none, false⟩] []) Q st := Iff.rfl
def law12_TransferKeeps_c7 (p : Nums) : IC := (.region [⟨(some 40), (.mov (.t 11)), none, false⟩, ⟨(some 41), (.mov (.t 1)), none, false⟩, ⟨(some 42), (.mov (.t 3)), none, false⟩, ⟨(some 43), (.call p.transfer_Define [(.t 40), (.t 41), (.t 42)]), none, false⟩, ⟨(some 15), (.asg (.t 43)), none, false⟩] [])
@[simp] theorem law12_TransferKeeps_c7_eq {P m Q st} {p : Nums} : AW P m (law12_TransferKeeps_c7 p) Q st ↔ AW P m (.region [⟨(some 40), (.mov (.t 11)), none, false⟩, ⟨(some 41), (.mov (.t 1)), none, false⟩, ⟨(some 42), (.mov (.t 3)), none, false⟩, ⟨(some 43), (.call p.transfer_Define [(.t 40), (.t 41), (.t 42)]), none, false⟩, ⟨(some 15), (.asg (.t 43)), none, false⟩] []) Q st := Iff.rfl
def law12_TransferKeeps_c8 (p : Nums) : IC := (.region [⟨(some 44), (.mov (.t 16)), none, false⟩, ⟨(some 45), (.mov (.t 13)), none, false⟩, ⟨(some 46), (.len (.t 45)), none, false⟩, ⟨(some 47), (.bin .lss (.t 44) (.t 46)), none, false⟩] [])
@[simp] theorem law12_TransferKeeps_c8_eq {P m Q st} {p : Nums} : AW P m (law12_TransferKeeps_c8 p) Q st ↔ AW P m (.region [⟨(some 44), (.mov (.t 16)), none, false⟩, ⟨(some 45), (.mov (.t 13)), none, false⟩, ⟨(some 46), (.len (.t 45)), none, false⟩, ⟨(some 47), (.bin .lss (.t 44) (.t 46)), none, false⟩] []) Q st := Iff.rfl
def law12_TransferKeeps_c9 (p : Nums) : IC := (.region [⟨(some 50), (.mov (.t 13)), none, false⟩, ⟨(some 51), (.mov (.t 16)), none, false⟩, ⟨(some 52), (.iaddr 2 (.t 50) (.t 51)), none, false⟩, ⟨(some 53), (.faddr 0 (.t 52)), none, false⟩, ⟨none, (.store 1 (.t 53) (.c (.d (.int .i64 (-5))))), none, false⟩] [])
@[simp] theorem law12_TransferKeeps_c9_eq {P m Q st} {p : Nums} : AW P m (law12_TransferKeeps_c9 p) Q st ↔ AW P m (.region [⟨(some 50), (.mov (.t 13)), none, false⟩, ⟨(some 51), (.mov (.t 16)), none, false⟩, ⟨(some 52), (.iaddr 2 (.t 50) (.t 51)), none, false⟩, ⟨(some 53), (.faddr 0 (.t 52)), none, false⟩, ⟨none, (.store 1 (.t 53) (.c (.d (.int .i64 (-5))))), none, false⟩] []) Q st := Iff.rfl
def law12_TransferKeeps_c10 (p : Nums) : IC := (.region [⟨(some 48), (.mov (.t 16)), none, false⟩, ⟨(some 49), (.bin .add (.t 48) (.c (.d (.int .i64 1)))), none, false⟩, ⟨(some 16), (.asg (.t 49)), none, false⟩] [])
@[simp] theorem law12_TransferKeeps_c10_eq {P m Q st} {p : Nums} : AW P m (law12_TransferKeeps_c10 p) Q st ↔ AW P m (.region [⟨(some 48), (.mov (.t 16)), none, false⟩, ⟨(some 49), (.bin .add (.t 48) (.c (.d (.int .i64 1)))), none, false⟩, ⟨(some 16), (.asg (.t 49)), none, false⟩] []) Q st := Iff.rfl
def law12_TransferKeeps_c11 (p : Nums) : IC := (.seq (.seq (law12_TransferKeeps_c8 p) (.cond (.t 47) .skip (.exit 0))) (.seq (.block 1 (law12_TransferKeeps_c9 p)) (law12_TransferKeeps_c10 p)))
@[simp] theorem law12_TransferKeeps_c11_eq {P m Q st} {p : Nums} : AW P m (law12_TransferKeeps_c11 p) Q st ↔ AW P m (.seq (.seq (law12_TransferKeeps_c8 p) (.cond (.t 47) .skip (.exit 0))) (.seq (.block 1 (law12_TransferKeeps_c9 p)) (law12_TransferKeeps_c10 p))) Q st := Iff.rfl
def law12_TransferKeeps_c12 (p : Nums) : IC := (.region [⟨(some 54), (.mov (.t 17)), none, false⟩, ⟨(some 55), (.mov (.t 14)), none, false⟩, ⟨(some 56), (.len (.t 55)), none, false⟩, ⟨(some 57), (.bin .lss (.t 54) (.t 56)), none, false⟩] [])
@[simp] theorem law12_TransferKeeps_c12_eq {P m Q st} {p : Nums} : AW P m (law12_TransferKeeps_c12 p) Q st ↔ AW P m (.region [⟨(some 54), (.mov (.t 17)), none, false⟩, ⟨(some 55), (.mov (.t 14)), none, false⟩, ⟨(some 56), (.len (.t 55)), none, false⟩, ⟨(some 57), (.bin .lss (.t 54) (.t 56)), none, false⟩] []) Q st := Iff.rfl
def law12_TransferKeeps_c13 (p : Nums) : IC := (.region [⟨(some 60), (.mov (.t 14)), none, false⟩, ⟨(some 61), (.mov (.t 17)), none, false⟩, ⟨(some 62), (.iaddr 2 (.t 60) (.t 61)), none, false⟩, ⟨(some 63), (.faddr 0 (.t 62)), none, false⟩, ⟨none, (.store 1 (.t 63) (.c (.d (.int .i64 (-5))))), none, false⟩] [])
@[simp] theorem law12_TransferKeeps_c13_eq {P m Q st} {p : Nums} : AW P m (law12_TransferKeeps_c13 p) Q st ↔ AW P m (.region [⟨(some 60), (.mov (.t 14)), none, false⟩, ⟨(some 61), (.mov (.t 17)), none, false⟩, ⟨(some 62), (.iaddr 2 (.t 60) (.t 61)), none, false⟩, ⟨(some 63), (.faddr 0 (.t 62)), none, false⟩, ⟨none, (.store 1 (.t 63) (.c (.d (.int .i64 (-5))))), none, false⟩] []) Q st := Iff.rfl
def law12_TransferKeeps_c14 (p : Nums) : IC := (.region [⟨(some 58), (.mov (.t 17)), none, false⟩, ⟨(some 59), (.bin .add (.t 58) (.c (.d (.int .i64 1)))), none, false⟩, ⟨(some 17), (.asg (.t 59)), none, false⟩] [])
@[simp] theorem law12_TransferKeeps_c14_eq {P m Q st} {p : Nums} : AW P m (law12_TransferKeeps_c14 p) Q st ↔ AW P m (.region [⟨(some 58), (.mov (.t 17)), none, false⟩, ⟨(some 59), (.bin .add (.t 58) (.c (.d (.int .i64 1)))), none, false⟩, ⟨(some 17), (.asg (.t 59)), none, false⟩] []) Q st := Iff.rfl
def law12_TransferKeeps_c15 (p : Nums) : IC := (.seq (.seq (law12_TransferKeeps_c12 p) (.cond (.t 57) .skip (.exit 2))) (.seq (.block 3 (law12_TransferKeeps_c13 p)) (law12_TransferKeeps_c14 p)))
@[simp] theorem law12_TransferKeeps_c15_eq {P m Q st} {p : Nums} : AW P m (law12_TransferKeeps_c15 p) Q st ↔ AW P m (.seq (.seq (law12_TransferKeeps_c12 p) (.cond (.t 57) .skip (.exit 2))) (.seq (.block 3 (law12_TransferKeeps_c13 p)) (law12_TransferKeeps_c14 p))) Q st := Iff.rfl
def law12_TransferKeeps_c16 (p : Nums) : IC := (.region [⟨(some 64), (.mov (.t 18)), none, false⟩, ⟨(some 65), (.mov (.t 15)), none, false⟩, ⟨(some 66), (.len (.t 65)), none, false⟩, ⟨(some 67), (.bin .lss (.t 64) (.t 66)), none, false⟩] [])
@[simp] theorem law12_TransferKeeps_c16_eq {P m Q st} {p : Nums} : AW P m (law12_TransferKeeps_c16 p) Q st ↔ AW P m (.region [⟨(some 64), (.mov (.t 18)), none, false⟩, ⟨(some 65), (.mov (.t 15)), none, false⟩, ⟨(some 66), (.len (.t 65)), none, false⟩, ⟨(some 67), (.bin .lss (.t 64) (.t 66)), none, false⟩] []) Q st := Iff.rfl
def law12_TransferKeeps_c17 (p : Nums) : IC := (.region [⟨(some 70), (.mov (.t 15)), none, false⟩, ⟨(some 71), (.mov (.t 18)), none, false⟩, ⟨(some 72), (.iaddr 2 (.t 70) (.t 71)), none, false⟩, ⟨(some 73), (.faddr 0 (.t 72)), none, false⟩, ⟨none, (.store 1 (.t 73) (.c (.d (.int .i64 (-5))))), none, false⟩] [])
@[simp] theorem law12_TransferKeeps_c17_eq {P m Q st} {p : Nums} : AW P m (law12_TransferKeeps_c17 p) Q st ↔ AW P m (.region [⟨(some 70), (.mov (.t 15)), none, false⟩, ⟨(some 71), (.mov (.t 18)), none, false⟩, ⟨(some 72), (.iaddr 2 (.t 70) (.t 71)), none, false⟩, ⟨(some 73), (.faddr 0 (.t 72)), none, false⟩, ⟨none, (.store 1 (.t 73) (.c (.d (.int .i64 (-5))))), none, false⟩] []) Q st := Iff.rfl
def law12_TransferKeeps_c18 (p : Nums) : IC := (.region [⟨(some 68), (.mov (.t 18)), none, false⟩, ⟨(some 69), (.bin .add (.t 68) (.c (.d (.int .i64 1)))), none, false⟩, ⟨(some 18), (.asg (.t 69)), none, false⟩] [])
@[simp] theorem law12_TransferKeeps_c18_eq {P m Q st} {p : Nums} : AW P m (law12_TransferKeeps_c18 p) Q st ↔ AW P m (.region [⟨(some 68), (.mov (.t 18)), none, false⟩, ⟨(some 69), (.bin .add (.t 68) (.c (.d (.int .i64 1)))), none, false⟩, ⟨(some 18), (.asg (.t 69)), none, false⟩] []) Q st := Iff.rfl
def law12_TransferKeeps_c19 (p : Nums) : IC := (.seq (.seq (law12_TransferKeeps_c16 p) (.cond (.t 67) .skip (.exit 4))) (.seq (.block 5 (law12_TransferKeeps_c17 p)) (law12_TransferKeeps_c18 p)))
@[simp] theorem law12_TransferKeeps_c19_eq {P m Q st} {p : Nums} : AW P m (law12_TransferKeeps_c19 p) Q st ↔ AW P m (.seq (.seq (law12_TransferKeeps_c16 p) (.cond (.t 67) .skip (.exit 4))) (.seq (.block 5 (law12_TransferKeeps_c17 p)) (law12_TransferKeeps_c18 p))) Q st := Iff.rfl
def law12_TransferKeeps_c20 (p : Nums) : IC := (.region [⟨(some 74), (.mov (.t 11)), none, false⟩, ⟨(some 75), (.mov (.t 12)), none, false⟩, ⟨(some 76), (.call p.ref11_Same [(.t 74), (.t 75)]), none, false⟩, ⟨(some 10), (.asg (.t 76)), none, false⟩] [])
@[simp] theorem law12_TransferKeeps_c20_eq {P m Q st} {p : Nums} : AW P m (law12_TransferKeeps_c20 p) Q st ↔ AW P m (.region [⟨(some 74), (.mov (.t 11)), none, false⟩, ⟨(some 75), (.mov (.t 12)), none, false⟩, ⟨(some 76), (.call p.ref11_Same [(.t 74), (.t 75)]), none, false⟩, ⟨(some 10), (.asg (.t 76)), none, false⟩] []) Q st := Iff.rfl
def ic_law12_TransferKeeps (p : Nums) : IC := (.seq (.region [⟨(some 10), (.asg (.c (.d (.bool false)))), none, false⟩] []) (.seq (.seq (law12_TransferKeeps_c1 p) (.cond (.t 25) (law12_TransferKeeps_c2 p) .skip)) (.seq (law12_TransferKeeps_c3 p) (.seq (law12_TransferKeeps_c4 p) (.seq (law12_TransferKeeps_c5 p) (.seq (law12_TransferKeeps_c6 p) (.seq (law12_TransferKeeps_c7 p) (.seq (.seq (.region [⟨(some 16), (.asg (.c (.d (.int .i64 0)))), none, false⟩] []) (.block 0 (.loop (law12_TransferKeeps_c11 p)))) (.seq (.seq (.region [⟨(some 17), (.asg (.c (.d (.int .i64 0)))), none, false⟩] []) (.block 2 (.loop (law12_TransferKeeps_c15 p)))) (.seq (.seq (.region [⟨(some 18), (.asg (.c (.d (.int .i64 0)))), none, false⟩] []) (.block 4 (.loop (law12_TransferKeeps_c19 p)))) (.seq (law12_TransferKeeps_c20 p) .ret)))))))))))
def law12_awake_c1 (p : Nums) : IC := (.region [⟨(some 2), (.build [(.d (.int .i64 0)), (.d (.int .i64 0))] [(0, 1, (.c (.d (.int .i64 0)))), (1, 1, (.c (.d (.int .i64 2))))]), none, false⟩, ⟨(some 3), (.build [(.d (.int .i64 0)), (.d (.int .i64 0))] [(0, 1, (.c (.d (.int .i64 1)))), (1, 1, (.c (.d (.int .i64 4))))]), none, false⟩, ⟨(some 4), (.bslice 2 2 [(.int .i64 0), (.int .i64 0)] [(0, (.t 2)), (1, (.t 3))]), none, false⟩, ⟨(some 1), (.asg (.t 4)), none, false⟩] [])
@[simp] theorem law12_awake_c1_eq {P m Q st} {p : Nums} : AW P m (law12_awake_c1 p) Q st ↔ AW P m (.region [⟨(some 2), (.build [(.d (.int .i64 0)), (.d (.int .i64 0))] [(0, 1, (.c (.d (.int .i64 0)))), (1, 1, (.c (.d (.int .i64 2))))]), none, false⟩, ⟨(some 3), (.build [(.d (.int .i64 0)), (.d (.int .i64 0))] [(0, 1, (.c (.d (.int .i64 1)))), (1, 1, (.c (.d (.int .i64 4))))]), none, false⟩, ⟨(some 4), (.bslice 2 2 [(.int .i64 0), (.int .i64 0)] [(0, (.t 2)), (1, (.t 3))]), none, false⟩, ⟨(some 1), (.asg (.t 4)), none, false⟩] []) Q st := Iff.rfl
def law12_awake_c2 (p : Nums) : IC := (.region [⟨(some 5), (.mov (.t 1)), none, false⟩, ⟨(some 6), (.call p.transfer_Copy [(.t 5), (.c (.d (.int .i64 1))), (.c (.d (.int .i64 0)))]), none, false⟩, ⟨(some 7), (.build [(.d (.int .i64 0)), (.d (.int .i64 0))] [(0, 1, (.c (.d (.int .i64 0)))), (1, 1, (.c (.d (.int .i64 2))))]), none, false⟩, ⟨(some 8), (.build [(.d (.int .i64 0)), (.d (.int .i64 0))] [(0, 1, (.c (.d (.int .i64 1)))), (1, 1, (.c (.d (.int .i64 2))))]), none, false⟩, ⟨(some 9), (.bslice 2 2 [(.int .i64 0), (.int .i64 0)] [(0, (.t 7)), (1, (.t 8))]), none, false⟩, ⟨(some 10), (.call p.ref11_Same [(.t 6), (.t 9)]), none, false⟩, ⟨(some 11), (.mov (.t 10)), none, false⟩, ⟨(some 12), (.mov (.t 1)), (some (11, true)), false⟩, ⟨(some 13), (.call p.transfer_Move [(.t 12), (.c (.d (.int .i64 4))), (.c (.d (.int .i64 2)))]), (some (11, true)), false⟩, ⟨(some 14), (.build [(.d (.int .i64 0)), (.d (.int .i64 0))] [(0, 1, (.c (.d (.int .i64 0)))), (1, 1, (.c (.d (.int .i64 2))))]), (some (11, true)), false⟩, ⟨(some 15), (.build [(.d (.int .i64 0)), (.d (.int .i64 0))] [(0, 1, (.c (.d (.int .i64 0)))), (1, 1, (.c (.d (.int .i64 4))))]), (some (11, true)), false⟩, ⟨(some 16), (.bslice 2 2 [(.int .i64 0), (.int .i64 0)] [(0, (.t 14)), (1, (.t 15))]), (some (11, true)), false⟩, ⟨(some 17), (.call p.ref11_Same [(.t 13), (.t 16)]), (some (11, true)), false⟩, ⟨(some 18), (.pick (.t 11) (.t 17) (.c (.d (.bool false)))), none, false⟩, ⟨(some 19), (.mov (.t 18)), none, false⟩, ⟨(some 20), (.mov (.t 1)), (some (19, true)), false⟩, ⟨(some 21), (.call p.transfer_Define [(.t 20), (.c (.d (.int .i64 1))), (.c (.d (.int .i64 2)))]), (some (19, true)), false⟩, ⟨(some 22), (.build [(.d (.int .i64 0)), (.d (.int .i64 0))] [(0, 1, (.c (.d (.int .i64 1)))), (1, 1, (.c (.d (.int .i64 2))))]), (some (19, true)), false⟩, ⟨(some 23), (.bslice 2 1 [(.int .i64 0), (.int .i64 0)] [(0, (.t 22))]), (some (19, true)), false⟩, ⟨(some 24), (.call p.ref11_Same [(.t 21), (.t 23)]), (some (19, true)), false⟩, ⟨(some 25), (.pick (.t 19) (.t 24) (.c (.d (.bool false)))), none, false⟩, ⟨(some 26), (.mov (.t 25)), none, false⟩, ⟨(some 27), (.mov (.t 1)), (some (26, true)), false⟩, ⟨(some 28), (.call p.transfer_Copy [(.t 27), (.c (.d (.int .i64 1))), (.c (.d (.int .i64 1)))]), (some (26, true)), false⟩, ⟨(some 29), (.mov (.t 1)), (some (26, true)), false⟩, ⟨(some 30), (.call p.ref11_Same [(.t 28), (.t 29)]), (some (26, true)), false⟩, ⟨(some 31), (.pick (.t 26) (.t 30) (.c (.d (.bool false)))), none, false⟩, ⟨(some 0), (.asg (.t 31)), none, false⟩] [])
@[simp] theorem law12_awake_c2_eq {P m Q st} {p : Nums} : AW P m (law12_awake_c2 p) Q st ↔ AW P m (.region [⟨(some 5), (.mov (.t 1)), none, false⟩, ⟨(some 6), (.call p.transfer_Copy [(.t 5), (.c (.d (.int .i64 1))), (.c (.d (.int .i64 0)))]), none, false⟩, ⟨(some 7), (.build [(.d (.int .i64 0)), (.d (.int .i64 0))] [(0, 1, (.c (.d (.int .i64 0)))), (1, 1, (.c (.d (.int .i64 2))))]), none, false⟩, ⟨(some 8), (.build [(.d (.int .i64 0)), (.d (.int .i64 0))] [(0, 1, (.c (.d (.int .i64 1)))), (1, 1, (.c (.d (.int .i64 2))))]), none, false⟩, ⟨(some 9), (.bslice 2 2 [(.int .i64 0), (.int .i64 0)] [(0, (.t 7)), (1, (.t 8))]), none, false⟩, ⟨(some 10), (.call p.ref11_Same [(.t 6), (.t 9)]), none, false⟩, ⟨(some 11), (.mov (.t 10)), none, false⟩, ⟨(some 12), (.mov (.t 1)), (some (11, true)), false⟩, ⟨(some 13), (.call p.transfer_Move [(.t 12), (.c (.d (.int .i64 4))), (.c (.d (.int .i64 2)))]), (some (11, true)), false⟩, ⟨(some 14), (.build [(.d (.int .i64 0)), (.d (.int .i64 0))] [(0, 1, (.c (.d (.int .i64 0)))), (1, 1, (.c (.d (.int .i64 2))))]), (some (11, true)), false⟩, ⟨(some 15), (.build [(.d (.int .i64 0)), (.d (.int .i64 0))] [(0, 1, (.c (.d (.int .i64 0)))), (1, 1, (.c (.d (.int .i64 4))))]), (some (11, true)), false⟩, ⟨(some 16), (.bslice 2 2 [(.int .i64 0), (.int .i64 0)] [(0, (.t 14)), (1, (.t 15))]), (some (11, true)), false⟩, ⟨(some 17), (.call p.ref11_Same [(.t 13), (.t 16)]), (some (11, true)), false⟩, ⟨(some 18), (.pick (.t 11) (.t 17) (.c (.d (.bool false)))), none, false⟩, ⟨(some 19), (.mov (.t 18)), none, false⟩, ⟨(some 20), (.mov (.t 1)), (some (19, true)), false⟩, ⟨(some 21), (.call p.transfer_Define [(.t 20), (.c (.d (.int .i64 1))), (.c (.d (.int .i64 2)))]), (some (19, true)), false⟩, ⟨(some 22), (.build [(.d (.int .i64 0)), (.d (.int .i64 0))] [(0, 1, (.c (.d (.int .i64 1)))), (1, 1, (.c (.d (.int .i64 2))))]), (some (19, true)), false⟩, ⟨(some 23), (.bslice 2 1 [(.int .i64 0), (.int .i64 0)] [(0, (.t 22))]), (some (19, true)), false⟩, ⟨(some 24), (.call p.ref11_Same [(.t 21), (.t 23)]), (some (19, true)), false⟩, ⟨(some 25), (.pick (.t 19) (.t 24) (.c (.d (.bool false)))), none, false⟩, ⟨(some 26), (.mov (.t 25)), none, false⟩, ⟨(some 27), (.mov (.t 1)), (some (26, true)), false⟩, ⟨(some 28), (.call p.transfer_Copy [(.t 27), (.c (.d (.int .i64 1))), (.c (.d (.int .i64 1)))]), (some (26, true)), false⟩, ⟨(some 29), (.mov (.t 1)), (some (26, true)), false⟩, ⟨(some 30), (.call p.ref11_Same [(.t 28), (.t 29)]), (some (26, true)), false⟩, ⟨(some 31), (.pick (.t 26) (.t 30) (.c (.d (.bool false)))), none, false⟩, ⟨(some 0), (.asg (.t 31)), none, false⟩] []) Q st := Iff.rfl
def ic_law12_awake (p : Nums) : IC := (.seq (.region [⟨(some 0), (.asg (.c (.d (.bool false)))), none, false⟩] []) (.seq (law12_awake_c1 p) (.seq (law12_awake_c2 p) .ret)))
def transfer_Copy_c1 (p : Nums) : IC := (.region [⟨(some 7), (.load none (.t 4)), none, false⟩, ⟨(some 8), (.load none (.t 5)), none, false⟩, ⟨(some 9), (.bin .eql (.t 7) (.t 8)), none, false⟩] [])
@[simp] theorem transfer_Copy_c1_eq {P m Q st} {p : Nums} : AW P m (transfer_Copy_c1 p) Q st ↔ AW P m (.region [⟨(some 7), (.load none (.t 4)), none, false⟩, ⟨(some 8), (.load none (.t 5)), none, false⟩, ⟨(some 9), (.bin .eql (.t 7) (.t 8)), none, false⟩] []) Q st := Iff.rfl
def transfer_Copy_c2 (p : Nums) : IC := (.region [⟨(some 10), (.mov (.t 0)), none, false⟩, ⟨(some 11), (.call p.pairset_Make [(.t 10)]), none, false⟩, ⟨(some 6), (.asg (.t 11)), none, false⟩] [])
@[simp] theorem transfer_Copy_c2_eq {P m Q st} {p : Nums} : AW P m (transfer_Copy_c2 p) Q st ↔ AW P m (.region [⟨(some 10), (.mov (.t 0)), none, false⟩, ⟨(some 11), (.call p.pairset_Make [(.t 10)]), none, false⟩, ⟨(some 6), (.asg (.t 11)), none, false⟩] []) Q st := Iff.rfl
def transfer_Copy_c3 (p : Nums) : IC := (.region [⟨(some 12), (.mov (.t 0)), none, false⟩, ⟨(some 13), (.load none (.t 4)), none, false⟩, ⟨(some 14), (.call p.pairset_DropV [(.t 12), (.t 13)]), none, false⟩, ⟨(some 15), (.mov (.t 0)), none, false⟩, ⟨(some 16), (.mkfn (.func p.transfer_Copy_1) [] [(.t 4), (.t 5)]), none, false⟩, ⟨(some 17), (.call p.transfer_rename [(.t 14), (.t 15), (.t 16)]), none, false⟩, ⟨(some 6), (.asg (.t 17)), none, false⟩] [])
@[simp] theorem transfer_Copy_c3_eq {P m Q st} {p : Nums} : AW P m (transfer_Copy_c3 p) Q st ↔ AW P m (.region [⟨(some 12), (.mov (.t 0)), none, false⟩, ⟨(some 13), (.load none (.t 4)), none, false⟩, ⟨(some 14), (.call p.pairset_DropV [(.t 12), (.t 13)]), none, false⟩, ⟨(some 15), (.mov (.t 0)), none, false⟩, ⟨(some 16), (.mkfn (.func p.transfer_Copy_1) [] [(.t 4), (.t 5)]), none, false⟩, ⟨(some 17), (.call p.transfer_rename [(.t 14), (.t 15), (.t 16)]), none, false⟩, ⟨(some 6), (.asg (.t 17)), none, false⟩] []) Q st := Iff.rfl
def ic_transfer_Copy (p : Nums) : IC := (.seq (.region [⟨(some 4), (.box (.t 1)), none, false⟩, ⟨(some 5), (.box (.t 2)), none, false⟩, ⟨(some 6), (.asg (.c .nils)), none, false⟩] []) (.seq (.seq (transfer_Copy_c1 p) (.cond (.t 9) (.seq (transfer_Copy_c2 p) .ret) .skip)) (.seq (transfer_Copy_c3 p) .ret)))
def ref12_Copy_c1 (p : Nums) : IC := (.region [⟨(some 9), (.mov (.t 8)), none, false⟩, ⟨(some 10), (.mov (.t 0)), none, false⟩, ⟨(some 11), (.len (.t 10)), none, false⟩, ⟨(some 12), (.bin .lss (.t 9) (.t 11)), none, false⟩] [])
@[simp] theorem ref12_Copy_c1_eq {P m Q st} {p : Nums} : AW P m (ref12_Copy_c1 p) Q st ↔ AW P m (.region [⟨(some 9), (.mov (.t 8)), none, false⟩, ⟨(some 10), (.mov (.t 0)), none, false⟩, ⟨(some 11), (.len (.t 10)), none, false⟩, ⟨(some 12), (.bin .lss (.t 9) (.t 11)), none, false⟩] []) Q st := Iff.rfl
def ref12_Copy_c2 (p : Nums) : IC := (.region [⟨(some 15), (.mov (.t 1)), none, false⟩, ⟨(some 16), (.mov (.t 2)), none, false⟩, ⟨(some 17), (.bin .eql (.t 15) (.t 16)), none, false⟩, ⟨(some 18), (.mov (.t 17)), none, false⟩, ⟨(some 19), (.mov (.t 0)), (some (18, false)), false⟩, ⟨(some 20), (.mov (.t 8)), (some (18, false)), false⟩, ⟨(some 21), (.iaddr 2 (.t 19) (.t 20)), (some (18, false)), false⟩, ⟨(some 22), (.faddr 0 (.t 21)), (some (18, false)), false⟩, ⟨(some 23), (.load none (.t 22)), (some (18, false)), false⟩, ⟨(some 24), (.mov (.t 1)), (some (18, false)), false⟩, ⟨(some 25), (.bin .neq (.t 23) (.t 24)), (some (18, false)), false⟩, ⟨(some 26), (.pick (.t 18) (.c (.d (.bool true))) (.t 25)), none, false⟩] [])
@[simp] theorem ref12_Copy_c2_eq {P m Q st} {p : Nums} : AW P m (ref12_Copy_c2 p) Q st ↔ AW P m (.region [⟨(some 15), (.mov (.t 1)), none, false⟩, ⟨(some 16), (.mov (.t 2)), none, false⟩, ⟨(some 17), (.bin .eql (.t 15) (.t 16)), none, false⟩, ⟨(some 18), (.mov (.t 17)), none, false⟩, ⟨(some 19), (.mov (.t 0)), (some (18, false)), false⟩, ⟨(some 20), (.mov (.t 8)), (some (18, false)), false⟩, ⟨(some 21), (.iaddr 2 (.t 19) (.t 20)), (some (18, false)), false⟩, ⟨(some 22), (.faddr 0 (.t 21)), (some (18, false)), false⟩, ⟨(some 23), (.load none (.t 22)), (some (18, false)), false⟩, ⟨(some 24), (.mov (.t 1)), (some (18, false)), false⟩, ⟨(some 25), (.bin .neq (.t 23) (.t 24)), (some (18, false)), false⟩, ⟨(some 26), (.pick (.t 18) (.c (.d (.bool true))) (.t 25)), none, false⟩] []) Q st := Iff.rfl
def ref12_Copy_c3 (p : Nums) : IC := (.region [⟨(some 27), (.mov (.t 7)), none, false⟩, ⟨(some 28), (.mov (.t 0)), none, false⟩, ⟨(some 29), (.mov (.t 8)), none, false⟩, ⟨(some 30), (.iaddr 2 (.t 28) (.t 29)), none, false⟩, ⟨(some 31), (.load (some 2) (.t 30)), none, false⟩, ⟨(some 32), (.call p.ref11_Add [(.t 27), (.t 31)]), none, false⟩, ⟨(some 7), (.asg (.t 32)), none, false⟩] [])
@[simp] theorem ref12_Copy_c3_eq {P m Q st} {p : Nums} : AW P m (ref12_Copy_c3 p) Q st ↔ AW P m (.region [⟨(some 27), (.mov (.t 7)), none, false⟩, ⟨(some 28), (.mov (.t 0)), none, false⟩, ⟨(some 29), (.mov (.t 8)), none, false⟩, ⟨(some 30), (.iaddr 2 (.t 28) (.t 29)), none, false⟩, ⟨(some 31), (.load (some 2) (.t 30)), none, false⟩, ⟨(some 32), (.call p.ref11_Add [(.t 27), (.t 31)]), none, false⟩, ⟨(some 7), (.asg (.t 32)), none, false⟩] []) Q st := Iff.rfl
def ref12_Copy_c4 (p : Nums) : IC := (.region [⟨(some 33), (.mov (.t 0)), none, false⟩, ⟨(some 34), (.mov (.t 8)), none, false⟩, ⟨(some 35), (.iaddr 2 (.t 33) (.t 34)), none, false⟩, ⟨(some 36), (.faddr 0 (.t 35)), none, false⟩, ⟨(some 37), (.load none (.t 36)), none, false⟩, ⟨(some 38), (.mov (.t 2)), none, false⟩, ⟨(some 39), (.bin .eql (.t 37) (.t 38)), none, false⟩] [])
@[simp] theorem ref12_Copy_c4_eq {P m Q st} {p : Nums} : AW P m (ref12_Copy_c4 p) Q st ↔ AW P m (.region [⟨(some 33), (.mov (.t 0)), none, false⟩, ⟨(some 34), (.mov (.t 8)), none, false⟩, ⟨(some 35), (.iaddr 2 (.t 33) (.t 34)), none, false⟩, ⟨(some 36), (.faddr 0 (.t 35)), none, false⟩, ⟨(some 37), (.load none (.t 36)), none, false⟩, ⟨(some 38), (.mov (.t 2)), none, false⟩, ⟨(some 39), (.bin .eql (.t 37) (.t 38)), none, false⟩] []) Q st := Iff.rfl
def ref12_Copy_c5 (p : Nums) : IC := (.region [⟨(some 40), (.mov (.t 7)), none, false⟩, ⟨(some 41), (.mov (.t 1)), none, false⟩, ⟨(some 42), (.mov (.t 0)), none, false⟩, ⟨(some 43), (.mov (.t 8)), none, false⟩, ⟨(some 44), (.iaddr 2 (.t 42) (.t 43)), none, false⟩, ⟨(some 45), (.faddr 1 (.t 44)), none, false⟩, ⟨(some 46), (.load none (.t 45)), none, false⟩, ⟨(some 47), (.build [(.d (.int .i64 0)), (.d (.int .i64 0))] [(0, 1, (.t 41)), (1, 1, (.t 46))]), none, false⟩, ⟨(some 48), (.call p.ref11_Add [(.t 40), (.t 47)]), none, false⟩, ⟨(some 7), (.asg (.t 48)), none, false⟩] [])
@[simp] theorem ref12_Copy_c5_eq {P m Q st} {p : Nums} : AW P m (ref12_Copy_c5 p) Q st ↔ AW P m (.region [⟨(some 40), (.mov (.t 7)), none, false⟩, ⟨(some 41), (.mov (.t 1)), none, false⟩, ⟨(some 42), (.mov (.t 0)), none, false⟩, ⟨(some 43), (.mov (.t 8)), none, false⟩, ⟨(some 44), (.iaddr 2 (.t 42) (.t 43)), none, false⟩, ⟨(some 45), (.faddr 1 (.t 44)), none, false⟩, ⟨(some 46), (.load none (.t 45)), none, false⟩, ⟨(some 47), (.build [(.d (.int .i64 0)), (.d (.int .i64 0))] [(0, 1, (.t 41)), (1, 1, (.t 46))]), none, false⟩, ⟨(some 48), (.call p.ref11_Add [(.t 40), (.t 47)]), none, false⟩, ⟨(some 7), (.asg (.t 48)), none, false⟩] []) Q st := Iff.rfl
def ref12_Copy_c6 (p : Nums) : IC := (.seq (.seq (ref12_Copy_c2 p) (.cond (.t 26) (ref12_Copy_c3 p) .skip)) (.seq (ref12_Copy_c4 p) (.cond (.t 39) (ref12_Copy_c5 p) .skip)))
@[simp] theorem ref12_Copy_c6_eq {P m Q st} {p : Nums} : AW P m (ref12_Copy_c6 p) Q st ↔ AW P m (.seq (.seq (ref12_Copy_c2 p) (.cond (.t 26) (ref12_Copy_c3 p) .skip)) (.seq (ref12_Copy_c4 p) (.cond (.t 39) (ref12_Copy_c5 p) .skip))) Q st := Iff.rfl
def ref12_Copy_c7 (p : Nums) : IC := (.region [⟨(some 13), (.mov (.t 8)), none, false⟩, ⟨(some 14), (.bin .add (.t 13) (.c (.d (.int .i64 1)))), none, false⟩, ⟨(some 8), (.asg (.t 14)), none, false⟩] [])
@[simp] theorem ref12_Copy_c7_eq {P m Q st} {p : Nums} : AW P m (ref12_Copy_c7 p) Q st ↔ AW P m (.region [⟨(some 13), (.mov (.t 8)), none, false⟩, ⟨(some 14), (.bin .add (.t 13) (.c (.d (.int .i64 1)))), none, false⟩, ⟨(some 8), (.asg (.t 14)), none, false⟩] []) Q st := Iff.rfl
def ref12_Copy_c8 (p : Nums) : IC := (.seq (.seq (ref12_Copy_c1 p) (.cond (.t 12) .skip (.exit 0))) (.seq (.block 1 (ref12_Copy_c6 p)) (ref12_Copy_c7 p)))
@[simp] theorem ref12_Copy_c8_eq {P m Q st} {p : Nums} : AW P m (ref12_Copy_c8 p) Q st ↔ AW P m (.seq (.seq (ref12_Copy_c1 p) (.cond (.t 12) .skip (.exit 0))) (.seq (.block 1 (ref12_Copy_c6 p)) (ref12_Copy_c7 p))) Q st := Iff.rfl
def ic_ref12_Copy (p : Nums) : IC := (.seq (.region [⟨(some 6), (.asg (.c .nils)), none, false⟩] []) (.seq (.region [⟨(some 7), (.asg (.c .nils)), none, false⟩] []) (.seq (.seq (.region [⟨(some 8), (.asg (.c (.d (.int .i64 0)))), none, false⟩] []) (.block 0 (.loop (ref12_Copy_c8 p)))) (.seq (.region [⟨(some 49), (.mov (.t 7)), none, false⟩, ⟨(some 6), (.asg (.t 49)), none, false⟩] []) .ret))))
def transfer_Move_c1 (p : Nums) : IC := (.region [⟨(some 7), (.load none (.t 4)), none, false⟩, ⟨(some 8), (.load none (.t 5)), none, false⟩, ⟨(some 9), (.bin .eql (.t 7) (.t 8)), none, false⟩] [])
@[simp] theorem transfer_Move_c1_eq {P m Q st} {p : Nums} : AW P m (transfer_Move_c1 p) Q st ↔ AW P m (.region [⟨(some 7), (.load none (.t 4)), none, false⟩, ⟨(some 8), (.load none (.t 5)), none, false⟩, ⟨(some 9), (.bin .eql (.t 7) (.t 8)), none, false⟩] []) Q st := Iff.rfl
def transfer_Move_c2 (p : Nums) : IC := (.region [⟨(some 10), (.mov (.t 0)), none, false⟩, ⟨(some 11), (.call p.pairset_Make [(.t 10)]), none, false⟩, ⟨(some 6), (.asg (.t 11)), none, false⟩] [])
@[simp] theorem transfer_Move_c2_eq {P m Q st} {p : Nums} : AW P m (transfer_Move_c2 p) Q st ↔ AW P m (.region [⟨(some 10), (.mov (.t 0)), none, false⟩, ⟨(some 11), (.call p.pairset_Make [(.t 10)]), none, false⟩, ⟨(some 6), (.asg (.t 11)), none, false⟩] []) Q st := Iff.rfl
def transfer_Move_c3 (p : Nums) : IC := (.region [⟨(some 12), (.mov (.t 0)), none, false⟩, ⟨(some 13), (.load none (.t 4)), none, false⟩, ⟨(some 14), (.call p.pairset_DropL [(.t 12), (.t 13)]), none, false⟩, ⟨(some 15), (.mov (.t 0)), none, false⟩, ⟨(some 16), (.mkfn (.func p.transfer_Move_1) [] [(.t 4), (.t 5)]), none, false⟩, ⟨(some 17), (.call p.transfer_rename [(.t 14), (.t 15), (.t 16)]), none, false⟩, ⟨(some 6), (.asg (.t 17)), none, false⟩] [])
@[simp] theorem transfer_Move_c3_eq {P m Q st} {p : Nums} : AW P m (transfer_Move_c3 p) Q st ↔ AW P m (.region [⟨(some 12), (.mov (.t 0)), none, false⟩, ⟨(some 13), (.load none (.t 4)), none, false⟩, ⟨(some 14), (.call p.pairset_DropL [(.t 12), (.t 13)]), none, false⟩, ⟨(some 15), (.mov (.t 0)), none, false⟩, ⟨(some 16), (.mkfn (.func p.transfer_Move_1) [] [(.t 4), (.t 5)]), none, false⟩, ⟨(some 17), (.call p.transfer_rename [(.t 14), (.t 15), (.t 16)]), none, false⟩, ⟨(some 6), (.asg (.t 17)), none, false⟩] []) Q st := Iff.rfl
def ic_transfer_Move (p : Nums) : IC := (.seq (.region [⟨(some 4), (.box (.t 1)), none, false⟩, ⟨(some 5), (.box (.t 2)), none, false⟩, ⟨(some 6), (.asg (.c .nils)), none, false⟩] []) (.seq (.seq (transfer_Move_c1 p) (.cond (.t 9) (.seq (transfer_Move_c2 p) .ret) .skip)) (.seq (transfer_Move_c3 p) .ret)))
def ref12_Move_c1 (p : Nums) : IC := (.region [⟨(some 9), (.mov (.t 8)), none, false⟩, ⟨(some 10), (.mov (.t 0)), none, false⟩, ⟨(some 11), (.len (.t 10)), none, false⟩, ⟨(some 12), (.bin .lss (.t 9) (.t 11)), none, false⟩] [])
@[simp] theorem ref12_Move_c1_eq {P m Q st} {p : Nums} : AW P m (ref12_Move_c1 p) Q st ↔ AW P m (.region [⟨(some 9), (.mov (.t 8)), none, false⟩, ⟨(some 10), (.mov (.t 0)), none, false⟩, ⟨(some 11), (.len (.t 10)), none, false⟩, ⟨(some 12), (.bin .lss (.t 9) (.t 11)), none, false⟩] []) Q st := Iff.rfl
def ref12_Move_c2 (p : Nums) : IC := (.region [⟨(some 15), (.mov (.t 1)), none, false⟩, ⟨(some 16), (.mov (.t 2)), none, false⟩, ⟨(some 17), (.bin .eql (.t 15) (.t 16)), none, false⟩, ⟨(some 18), (.mov (.t 17)), none, false⟩, ⟨(some 19), (.mov (.t 0)), (some (18, false)), false⟩, ⟨(some 20), (.mov (.t 8)), (some (18, false)), false⟩, ⟨(some 21), (.iaddr 2 (.t 19) (.t 20)), (some (18, false)), false⟩, ⟨(some 22), (.faddr 1 (.t 21)), (some (18, false)), false⟩, ⟨(some 23), (.load none (.t 22)), (some (18, false)), false⟩, ⟨(some 24), (.mov (.t 1)), (some (18, false)), false⟩, ⟨(some 25), (.bin .neq (.t 23) (.t 24)), (some (18, false)), false⟩, ⟨(some 26), (.pick (.t 18) (.c (.d (.bool true))) (.t 25)), none, false⟩] [])
@[simp] theorem ref12_Move_c2_eq {P m Q st} {p : Nums} : AW P m (ref12_Move_c2 p) Q st ↔ AW P m (.region [⟨(some 15), (.mov (.t 1)), none, false⟩, ⟨(some 16), (.mov (.t 2)), none, false⟩, ⟨(some 17), (.bin .eql (.t 15) (.t 16)), none, false⟩, ⟨(some 18), (.mov (.t 17)), none, false⟩, ⟨(some 19), (.mov (.t 0)), (some (18, false)), false⟩, ⟨(some 20), (.mov (.t 8)), (some (18, false)), false⟩, ⟨(some 21), (.iaddr 2 (.t 19) (.t 20)), (some (18, false)), false⟩, ⟨(some 22), (.faddr 1 (.t 21)), (some (18, false)), false⟩, ⟨(some 23), (.load none (.t 22)), (some (18, false)), false⟩, ⟨(some 24), (.mov (.t 1)), (some (18, false)), false⟩, ⟨(some 25), (.bin .neq (.t 23) (.t 24)), (some (18, false)), false⟩, ⟨(some 26), (.pick (.t 18) (.c (.d (.bool true))) (.t 25)), none, false⟩] []) Q st := Iff.rfl
def ref12_Move_c3 (p : Nums) : IC := (.region [⟨(some 27), (.mov (.t 7)), none, false⟩, ⟨(some 28), (.mov (.t 0)), none, false⟩, ⟨(some 29), (.mov (.t 8)), none, false⟩, ⟨(some 30), (.iaddr 2 (.t 28) (.t 29)), none, false⟩, ⟨(some 31), (.load (some 2) (.t 30)), none, false⟩, ⟨(some 32), (.call p.ref11_Add [(.t 27), (.t 31)]), none, false⟩, ⟨(some 7), (.asg (.t 32)), none, false⟩] [])
@[simp] theorem ref12_Move_c3_eq {P m Q st} {p : Nums} : AW P m (ref12_Move_c3 p) Q st ↔ AW P m (.region [⟨(some 27), (.mov (.t 7)), none, false⟩, ⟨(some 28), (.mov (.t 0)), none, false⟩, ⟨(some 29), (.mov (.t 8)), none, false⟩, ⟨(some 30), (.iaddr 2 (.t 28) (.t 29)), none, false⟩, ⟨(some 31), (.load (some 2) (.t 30)), none, false⟩, ⟨(some 32), (.call p.ref11_Add [(.t 27), (.t 31)]), none, false⟩, ⟨(some 7), (.asg (.t 32)), none, false⟩] []) Q st := Iff.rfl
def ref12_Move_c4 (p : Nums) : IC := (.region [⟨(some 33), (.mov (.t 0)), none, false⟩, ⟨(some 34), (.mov (.t 8)), none, false⟩, ⟨(some 35), (.iaddr 2 (.t 33) (.t 34)), none, false⟩, ⟨(some 36), (.faddr 1 (.t 35)), none, false⟩, ⟨(some 37), (.load none (.t 36)), none, false⟩, ⟨(some 38), (.mov (.t 2)), none, false⟩, ⟨(some 39), (.bin .eql (.t 37) (.t 38)), none, false⟩] [])
@[simp] theorem ref12_Move_c4_eq {P m Q st} {p : Nums} : AW P m (ref12_Move_c4 p) Q st ↔ AW P m (.region [⟨(some 33), (.mov (.t 0)), none, false⟩, ⟨(some 34), (.mov (.t 8)), none, false⟩, ⟨(some 35), (.iaddr 2 (.t 33) (.t 34)), none, false⟩, ⟨(some 36), (.faddr 1 (.t 35)), none, false⟩, ⟨(some 37), (.load none (.t 36)), none, false⟩, ⟨(some 38), (.mov (.t 2)), none, false⟩, ⟨(some 39), (.bin .eql (.t 37) (.t 38)), none, false⟩] []) Q st := Iff.rfl
def ref12_Move_c5 (p : Nums) : IC := (.region [⟨(some 40), (.mov (.t 7)), none, false⟩, ⟨(some 41), (.mov (.t 0)), none, false⟩, ⟨(some 42), (.mov (.t 8)), none, false⟩, ⟨(some 43), (.iaddr 2 (.t 41) (.t 42)), none, false⟩, ⟨(some 44), (.faddr 0 (.t 43)), none, false⟩, ⟨(some 45), (.load none (.t 44)), none, false⟩, ⟨(some 46), (.mov (.t 1)), none, false⟩, ⟨(some 47), (.build [(.d (.int .i64 0)), (.d (.int .i64 0))] [(0, 1, (.t 45)), (1, 1, (.t 46))]), none, false⟩, ⟨(some 48), (.call p.ref11_Add [(.t 40), (.t 47)]), none, false⟩, ⟨(some 7), (.asg (.t 48)), none, false⟩] [])
@[simp] theorem ref12_Move_c5_eq {P m Q st} {p : Nums} : AW P m (ref12_Move_c5 p) Q st ↔ AW P m (.region [⟨(some 40), (.mov (.t 7)), none, false⟩, ⟨(some 41), (.mov (.t 0)), none, false⟩, ⟨(some 42), (.mov (.t 8)), none, false⟩, ⟨(some 43), (.iaddr 2 (.t 41) (.t 42)), none, false⟩, ⟨(some 44), (.faddr 0 (.t 43)), none, false⟩, ⟨(some 45), (.load none (.t 44)), none, false⟩, ⟨(some 46), (.mov (.t 1)), none, false⟩, ⟨(some 47), (.build [(.d (.int .i64 0)), (.d (.int .i64 0))] [(0, 1, (.t 45)), (1, 1, (.t 46))]), none, false⟩, ⟨(some 48), (.call p.ref11_Add [(.t 40), (.t 47)]), none, false⟩, ⟨(some 7), (.asg (.t 48)), none, false⟩] []) Q st := Iff.rfl
def ref12_Move_c6 (p : Nums) : IC := (.seq (.seq (ref12_Move_c2 p) (.cond (.t 26) (ref12_Move_c3 p) .skip)) (.seq (ref12_Move_c4 p) (.cond (.t 39) (ref12_Move_c5 p) .skip)))
@[simp] theorem ref12_Move_c6_eq {P m Q st} {p : Nums} : AW P m (ref12_Move_c6 p) Q st ↔ AW P m (.seq (.seq (ref12_Move_c2 p) (.cond (.t 26) (ref12_Move_c3 p) .skip)) (.seq (ref12_Move_c4 p) (.cond (.t 39) (ref12_Move_c5 p) .skip))) Q st := Iff.rfl
def ref12_Move_c7 (p : Nums) : IC := (.region [⟨(some 13), (.mov (.t 8)), none, false⟩, ⟨(some 14), (.bin .add (.t 13) (.c (.d (.int .i64 1)))), none, false⟩, ⟨(some 8), (.asg (.t 14)), none, false⟩] [])
@[simp] theorem ref12_Move_c7_eq {P m Q st} {p : Nums} : AW P m (ref12_Move_c7 p) Q st ↔ AW P m (.region [⟨(some 13), (.mov (.t 8)), none, false⟩, ⟨(some 14), (.bin .add (.t 13) (.c (.d (.int .i64 1)))), none, false⟩, ⟨(some 8), (.asg (.t 14)), none, false⟩] []) Q st := Iff.rfl
def ref12_Move_c8 (p : Nums) : IC := (.seq (.seq (ref12_Move_c1 p) (.cond (.t 12) .skip (.exit 0))) (.seq (.block 1 (ref12_Move_c6 p)) (ref12_Move_c7 p)))
@[simp] theorem ref12_Move_c8_eq {P m Q st} {p : Nums} : AW P m (ref12_Move_c8 p) Q st ↔ AW P m (.seq (.seq (ref12_Move_c1 p) (.cond (.t 12) .skip (.exit 0))) (.seq (.block 1 (ref12_Move_c6 p)) (ref12_Move_c7 p))) Q st := Iff.rfl
def ic_ref12_Move (p : Nums) : IC := (.seq (.region [⟨(some 6), (.asg (.c .nils)), none, false⟩] []) (.seq (.region [⟨(some 7), (.asg (.c .nils)), none, false⟩] []) (.seq (.seq (.region [⟨(some 8), (.asg (.c (.d (.int .i64 0)))), none, false⟩] []) (.block 0 (.loop (ref12_Move_c8 p)))) (.seq (.region [⟨(some 49), (.mov (.t 7)), none, false⟩, ⟨(some 6), (.asg (.t 49)), none, false⟩] []) .ret))))
def transfer_Define_c1 (p : Nums) : IC := (.region [⟨(some 8), (.mov (.t 0)), none, false⟩, ⟨(some 9), (.mov (.t 1)), none, false⟩, ⟨(some 10), (.call p.pairset_DropV [(.t 8), (.t 9)]), none, false⟩, ⟨(some 11), (.mov (.t 2)), none, false⟩, ⟨(some 12), (.call p.pairset_DropL [(.t 10), (.t 11)]), none, false⟩, ⟨(some 7), (.asg (.t 12)), none, false⟩] [])
@[simp] theorem transfer_Define_c1_eq {P m Q st} {p : Nums} : AW P m (transfer_Define_c1 p) Q st ↔ AW P m (.region [⟨(some 8), (.mov (.t 0)), none, false⟩, ⟨(some 9), (.mov (.t 1)), none, false⟩, ⟨(some 10), (.call p.pairset_DropV [(.t 8), (.t 9)]), none, false⟩, ⟨(some 11), (.mov (.t 2)), none, false⟩, ⟨(some 12), (.call p.pairset_DropL [(.t 10), (.t 11)]), none, false⟩, ⟨(some 7), (.asg (.t 12)), none, false⟩] []) Q st := Iff.rfl
def transfer_Define_c2 (p : Nums) : IC := (.region [⟨(some 13), (.mov (.t 7)), none, false⟩, ⟨(some 14), (.mov (.t 1)), none, false⟩, ⟨(some 15), (.mov (.t 2)), none, false⟩, ⟨(some 16), (.build [(.d (.int .i64 0)), (.d (.int .i64 0))] [(0, 1, (.t 14)), (1, 1, (.t 15))]), none, false⟩, ⟨(some 17), (.call p.pairset_Add [(.t 13), (.t 16)]), none, false⟩, ⟨(some 6), (.asg (.t 17)), none, false⟩] [])
@[simp] theorem transfer_Define_c2_eq {P m Q st} {p : Nums} : AW P m (transfer_Define_c2 p) Q st ↔ AW P m (.region [⟨(some 13), (.mov (.t 7)), none, false⟩, ⟨(some 14), (.mov (.t 1)), none, false⟩, ⟨(some 15), (.mov (.t 2)), none, false⟩, ⟨(some 16), (.build [(.d (.int .i64 0)), (.d (.int .i64 0))] [(0, 1, (.t 14)), (1, 1, (.t 15))]), none, false⟩, ⟨(some 17), (.call p.pairset_Add [(.t 13), (.t 16)]), none, false⟩, ⟨(some 6), (.asg (.t 17)), none, false⟩] []) Q st := Iff.rfl
def ic_transfer_Define (p : Nums) : IC := (.seq (.region [⟨(some 6), (.asg (.c .nils)), none, false⟩] []) (.seq (transfer_Define_c1 p) (.seq (transfer_Define_c2 p) .ret)))
def ref12_Define_c1 (p : Nums) : IC := (.region [⟨(some 9), (.mov (.t 1)), none, false⟩, ⟨(some 10), (.mov (.t 2)), none, false⟩, ⟨(some 11), (.build [(.d (.int .i64 0)), (.d (.int .i64 0))] [(0, 1, (.t 9)), (1, 1, (.t 10))]), none, false⟩, ⟨(some 12), (.bslice 2 1 [(.int .i64 0), (.int .i64 0)] [(0, (.t 11))]), none, false⟩, ⟨(some 7), (.asg (.t 12)), none, false⟩] [])
@[simp] theorem ref12_Define_c1_eq {P m Q st} {p : Nums} : AW P m (ref12_Define_c1 p) Q st ↔ AW P m (.region [⟨(some 9), (.mov (.t 1)), none, false⟩, ⟨(some 10), (.mov (.t 2)), none, false⟩, ⟨(some 11), (.build [(.d (.int .i64 0)), (.d (.int .i64 0))] [(0, 1, (.t 9)), (1, 1, (.t 10))]), none, false⟩, ⟨(some 12), (.bslice 2 1 [(.int .i64 0), (.int .i64 0)] [(0, (.t 11))]), none, false⟩, ⟨(some 7), (.asg (.t 12)), none, false⟩] []) Q st := Iff.rfl
def ref12_Define_c2 (p : Nums) : IC := (.region [⟨(some 13), (.mov (.t 8)), none, false⟩, ⟨(some 14), (.mov (.t 0)), none, false⟩, ⟨(some 15), (.len (.t 14)), none, false⟩, ⟨(some 16), (.bin .lss (.t 13) (.t 15)), none, false⟩] [])
@[simp] theorem ref12_Define_c2_eq {P m Q st} {p : Nums} : AW P m (ref12_Define_c2 p) Q st ↔ AW P m (.region [⟨(some 13), (.mov (.t 8)), none, false⟩, ⟨(some 14), (.mov (.t 0)), none, false⟩, ⟨(some 15), (.len (.t 14)), none, false⟩, ⟨(some 16), (.bin .lss (.t 13) (.t 15)), none, false⟩] []) Q st := Iff.rfl
def ref12_Define_c3 (p : Nums) : IC := (.region [⟨(some 19), (.mov (.t 0)), none, false⟩, ⟨(some 20), (.mov (.t 8)), none, false⟩, ⟨(some 21), (.iaddr 2 (.t 19) (.t 20)), none, false⟩, ⟨(some 22), (.faddr 0 (.t 21)), none, false⟩, ⟨(some 23), (.load none (.t 22)), none, false⟩, ⟨(some 24), (.mov (.t 1)), none, false⟩, ⟨(some 25), (.bin .neq (.t 23) (.t 24)), none, false⟩, ⟨(some 26), (.mov (.t 25)), none, false⟩, ⟨(some 27), (.mov (.t 0)), (some (26, true)), false⟩, ⟨(some 28), (.mov (.t 8)), (some (26, true)), false⟩, ⟨(some 29), (.iaddr 2 (.t 27) (.t 28)), (some (26, true)), false⟩, ⟨(some 30), (.faddr 1 (.t 29)), (some (26, true)), false⟩, ⟨(some 31), (.load none (.t 30)), (some (26, true)), false⟩, ⟨(some 32), (.mov (.t 2)), (some (26, true)), false⟩, ⟨(some 33), (.bin .neq (.t 31) (.t 32)), (some (26, true)), false⟩, ⟨(some 34), (.pick (.t 26) (.t 33) (.c (.d (.bool false)))), none, false⟩] [])
@[simp] theorem ref12_Define_c3_eq {P m Q st} {p : Nums} : AW P m (ref12_Define_c3 p) Q st ↔ AW P m (.region [⟨(some 19), (.mov (.t 0)), none, false⟩, ⟨(some 20), (.mov (.t 8)), none, false⟩, ⟨(some 21), (.iaddr 2 (.t 19) (.t 20)), none, false⟩, ⟨(some 22), (.faddr 0 (.t 21)), none, false⟩, ⟨(some 23), (.load none (.t 22)), none, false⟩, ⟨(some 24), (.mov (.t 1)), none, false⟩, ⟨(some 25), (.bin .neq (.t 23) (.t 24)), none, false⟩, ⟨(some 26), (.mov (.t 25)), none, false⟩, ⟨(some 27), (.mov (.t 0)), (some (26, true)), false⟩, ⟨(some 28), (.mov (.t 8)), (some (26, true)), false⟩, ⟨(some 29), (.iaddr 2 (.t 27) (.t 28)), (some (26, true)), false⟩, ⟨(some 30), (.faddr 1 (.t 29)), (some (26, true)), false⟩, ⟨(some 31), (.load none (.t 30)), (some (26, true)), false⟩, ⟨(some 32), (.mov (.t 2)), (some (26, true)), false⟩, ⟨(some 33), (.bin .neq (.t 31) (.t 32)), (some (26, true)), false⟩, ⟨(some 34), (.pick (.t 26) (.t 33) (.c (.d (.bool false)))), none, false⟩] []) Q st := Iff.rfl
def ref12_Define_c4 (p : Nums) : IC := (.region [⟨(some 35), (.mov (.t 7)), none, false⟩, ⟨(some 36), (.mov (.t 0)), none, false⟩, ⟨(some 37), (.mov (.t 8)), none, false⟩, ⟨(some 38), (.iaddr 2 (.t 36) (.t 37)), none, false⟩, ⟨(some 39), (.load (some 2) (.t 38)), none, false⟩, ⟨(some 40), (.call p.ref11_Add [(.t 35), (.t 39)]), none, false⟩, ⟨(some 7), (.asg (.t 40)), none, false⟩] [])
@[simp] theorem ref12_Define_c4_eq {P m Q st} {p : Nums} : AW P m (ref12_Define_c4 p) Q st ↔ AW P m (.region [⟨(some 35), (.mov (.t 7)), none, false⟩, ⟨(some 36), (.mov (.t 0)), none, false⟩, ⟨(some 37), (.mov (.t 8)), none, false⟩, ⟨(some 38), (.iaddr 2 (.t 36) (.t 37)), none, false⟩, ⟨(some 39), (.load (some 2) (.t 38)), none, false⟩, ⟨(some 40), (.call p.ref11_Add [(.t 35), (.t 39)]), none, false⟩, ⟨(some 7), (.asg (.t 40)), none, false⟩] []) Q st := Iff.rfl
def ref12_Define_c5 (p : Nums) : IC := (.seq (ref12_Define_c3 p) (.cond (.t 34) (ref12_Define_c4 p) .skip))
@[simp] theorem ref12_Define_c5_eq {P m Q st} {p : Nums} : AW P m (ref12_Define_c5 p) Q st ↔ AW P m (.seq (ref12_Define_c3 p) (.cond (.t 34) (ref12_Define_c4 p) .skip)) Q st := Iff.rfl
def ref12_Define_c6 (p : Nums) : IC := (.region [⟨(some 17), (.mov (.t 8)), none, false⟩, ⟨(some 18), (.bin .add (.t 17) (.c (.d (.int .i64 1)))), none, false⟩, ⟨(some 8), (.asg (.t 18)), none, false⟩] [])
@[simp] theorem ref12_Define_c6_eq {P m Q st} {p : Nums} : AW P m (ref12_Define_c6 p) Q st ↔ AW P m (.region [⟨(some 17), (.mov (.t 8)), none, false⟩, ⟨(some 18), (.bin .add (.t 17) (.c (.d (.int .i64 1)))), none, false⟩, ⟨(some 8), (.asg (.t 18)), none, false⟩] []) Q st := Iff.rfl
def ref12_Define_c7 (p : Nums) : IC := (.seq (.seq (ref12_Define_c2 p) (.cond (.t 16) .skip (.exit 0))) (.seq (.block 1 (ref12_Define_c5 p)) (ref12_Define_c6 p)))
@[simp] theorem ref12_Define_c7_eq {P m Q st} {p : Nums} : AW P m (ref12_Define_c7 p) Q st ↔ AW P m (.seq (.seq (ref12_Define_c2 p) (.cond (.t 16) .skip (.exit 0))) (.seq (.block 1 (ref12_Define_c5 p)) (ref12_Define_c6 p))) Q st := Iff.rfl
def ic_ref12_Define (p : Nums) : IC := (.seq (.region [⟨(some 6), (.asg (.c .nils)), none, false⟩] []) (.seq (ref12_Define_c1 p) (.seq (.seq (.region [⟨(some 8), (.asg (.c (.d (.int .i64 0)))), none, false⟩] []) (.block 0 (.loop (ref12_Define_c7 p)))) (.seq (.region [⟨(some 41), (.mov (.t 7)), none, false⟩, ⟨(some 6), (.asg (.t 41)), none, false⟩] []) .ret))))
def law12_known_c1 (p : Nums) : IC := (.region [⟨(some 8), (.mov (.t 6)), none, false⟩, ⟨(some 9), (.mov (.t 0)), none, false⟩, ⟨(some 10), (.len (.t 9)), none, false⟩, ⟨(some 11), (.bin .lss (.t 8) (.t 10)), none, false⟩] [])
@[simp] theorem law12_known_c1_eq {P m Q st} {p : Nums} : AW P m (law12_known_c1 p) Q st ↔ AW P m (.region [⟨(some 8), (.mov (.t 6)), none, false⟩, ⟨(some 9), (.mov (.t 0)), none, false⟩, ⟨(some 10), (.len (.t 9)), none, false⟩, ⟨(some 11), (.bin .lss (.t 8) (.t 10)), none, false⟩] []) Q st := Iff.rfl
def law12_known_c2 (p : Nums) : IC := (.region [⟨(some 14), (.mov (.t 7)), none, false⟩, ⟨(some 15), (.mov (.t 1)), none, false⟩, ⟨(some 16), (.len (.t 15)), none, false⟩, ⟨(some 17), (.bin .lss (.t 14) (.t 16)), none, false⟩] [])
@[simp] theorem law12_known_c2_eq {P m Q st} {p : Nums} : AW P m (law12_known_c2 p) Q st ↔ AW P m (.region [⟨(some 14), (.mov (.t 7)), none, false⟩, ⟨(some 15), (.mov (.t 1)), none, false⟩, ⟨(some 16), (.len (.t 15)), none, false⟩, ⟨(some 17), (.bin .lss (.t 14) (.t 16)), none, false⟩] []) Q st := Iff.rfl
def law12_known_c3 (p : Nums) : IC := (.region [⟨(some 20), (.mov (.t 0)), none, true⟩, ⟨(some 21), (.mov (.t 6)), none, true⟩, ⟨(some 22), (.iaddr 1 (.t 20) (.t 21)), none, true⟩, ⟨(some 23), (.load none (.t 22)), none, true⟩, ⟨(some 24), (.mov (.t 1)), none, true⟩, ⟨(some 25), (.mov (.t 7)), none, true⟩, ⟨(some 26), (.iaddr 1 (.t 24) (.t 25)), none, true⟩, ⟨(some 27), (.load none (.t 26)), none, true⟩, ⟨(some 28), (.bin .eql (.t 23) (.t 27)), none, false⟩] [])
@[simp] theorem law12_known_c3_eq {P m Q st} {p : Nums} : AW P m (law12_known_c3 p) Q st ↔ AW P m (.region [⟨(some 20), (.mov (.t 0)), none, true⟩, ⟨(some 21), (.mov (.t 6)), none, true⟩, ⟨(some 22), (.iaddr 1 (.t 20) (.t 21)), none, true⟩, ⟨(some 23), (.load none (.t 22)), none, true⟩, ⟨(some 24), (.mov (.t 1)), none, true⟩, ⟨(some 25), (.mov (.t 7)), none, true⟩, ⟨(some 26), (.iaddr 1 (.t 24) (.t 25)), none, true⟩, ⟨(some 27), (.load none (.t 26)), none, true⟩, ⟨(some 28), (.bin .eql (.t 23) (.t 27)), none, false⟩] []) Q st := Iff.rfl
def law12_known_c4 (p : Nums) : IC := (.region [⟨(some 29), (.mov (.t 5)), none, false⟩, ⟨(some 30), (.mov (.t 6)), none, false⟩, ⟨(some 31), (.mov (.t 7)), none, false⟩, ⟨(some 32), (.build [(.d (.int .i64 0)), (.d (.int .i64 0))] [(0, 1, (.t 30)), (1, 1, (.t 31))]), none, false⟩, ⟨(some 33), (.bslice 2 1 [(.int .i64 0), (.int .i64 0)] [(0, (.t 32))]), none, false⟩, ⟨(some 34), (.app 2 16 (.t 29) (.t 33)), none, false⟩, ⟨(some 5), (.asg (.t 34)), none, false⟩] [])
@[simp] theorem law12_known_c4_eq {P m Q st} {p : Nums} : AW P m (law12_known_c4 p) Q st ↔ AW P m (.region [⟨(some 29), (.mov (.t 5)), none, false⟩, ⟨(some 30), (.mov (.t 6)), none, false⟩, ⟨(some 31), (.mov (.t 7)), none, false⟩, ⟨(some 32), (.build [(.d (.int .i64 0)), (.d (.int .i64 0))] [(0, 1, (.t 30)), (1, 1, (.t 31))]), none, false⟩, ⟨(some 33), (.bslice 2 1 [(.int .i64 0), (.int .i64 0)] [(0, (.t 32))]), none, false⟩, ⟨(some 34), (.app 2 16 (.t 29) (.t 33)), none, false⟩, ⟨(some 5), (.asg (.t 34)), none, false⟩] []) Q st := Iff.rfl
def law12_known_c5 (p : Nums) : IC := (.seq (law12_known_c3 p) (.cond (.t 28) (law12_known_c4 p) .skip))
@[simp] theorem law12_known_c5_eq {P m Q st} {p : Nums} : AW P m (law12_known_c5 p) Q st ↔ AW P m (.seq (law12_known_c3 p) (.cond (.t 28) (law12_known_c4 p) .skip)) Q st := Iff.rfl
def law12_known_c6 (p : Nums) : IC := (.region [⟨(some 18), (.mov (.t 7)), none, false⟩, ⟨(some 19), (.bin .add (.t 18) (.c (.d (.int .i64 1)))), none, false⟩, ⟨(some 7), (.asg (.t 19)), none, false⟩] [])
@[simp] theorem law12_known_c6_eq {P m Q st} {p : Nums} : AW P m (law12_known_c6 p) Q st ↔ AW P m (.region [⟨(some 18), (.mov (.t 7)), none, false⟩, ⟨(some 19), (.bin .add (.t 18) (.c (.d (.int .i64 1)))), none, false⟩, ⟨(some 7), (.asg (.t 19)), none, false⟩] []) Q st := Iff.rfl
def law12_known_c7 (p : Nums) : IC := (.seq (.seq (law12_known_c2 p) (.cond (.t 17) .skip (.exit 2))) (.seq (.block 3 (law12_known_c5 p)) (law12_known_c6 p)))
@[simp] theorem law12_known_c7_eq {P m Q st} {p : Nums} : AW P m (law12_known_c7 p) Q st ↔ AW P m (.seq (.seq (law12_known_c2 p) (.cond (.t 17) .skip (.exit 2))) (.seq (.block 3 (law12_known_c5 p)) (law12_known_c6 p))) Q st := Iff.rfl
def law12_known_c8 (p : Nums) : IC := (.seq (.region [⟨(some 7), (.asg (.c (.d (.int .i64 0)))), none, false⟩] []) (.block 2 (.loop (law12_known_c7 p))))
@[simp] theorem law12_known_c8_eq {P m Q st} {p : Nums} : AW P m (law12_known_c8 p) Q st ↔ AW P m (.seq (.region [⟨(some 7), (.asg (.c (.d (.int .i64 0)))), none, false⟩] []) (.block 2 (.loop (law12_known_c7 p)))) Q st := Iff.rfl
def law12_known_c9 (p : Nums) : IC := (.region [⟨(some 12), (.mov (.t 6)), none, false⟩, ⟨(some 13), (.bin .add (.t 12) (.c (.d (.int .i64 1)))), none, false⟩, ⟨(some 6), (.asg (.t 13)), none, false⟩] [])
@[simp] theorem law12_known_c9_eq {P m Q st} {p : Nums} : AW P m (law12_known_c9 p) Q st ↔ AW P m (.region [⟨(some 12), (.mov (.t 6)), none, false⟩, ⟨(some 13), (.bin .add (.t 12) (.c (.d (.int .i64 1)))), none, false⟩, ⟨(some 6), (.asg (.t 13)), none, false⟩] []) Q st := Iff.rfl
def law12_known_c10 (p : Nums) : IC := (.seq (.seq (law12_known_c1 p) (.cond (.t 11) .skip (.exit 0))) (.seq (.block 1 (law12_known_c8 p)) (law12_known_c9 p)))
@[simp] theorem law12_known_c10_eq {P m Q st} {p : Nums} : AW P m (law12_known_c10 p) Q st ↔ AW P m (.seq (.seq (law12_known_c1 p) (.cond (.t 11) .skip (.exit 0))) (.seq (.block 1 (law12_known_c8 p)) (law12_known_c9 p))) Q st := Iff.rfl
def ic_law12_known (p : Nums) : IC := (.seq (.region [⟨(some 4), (.asg (.c .nils)), none, false⟩] []) (.seq (.region [⟨(some 5), (.asg (.c .nils)), none, false⟩] []) (.seq (.seq (.region [⟨(some 6), (.asg (.c (.d (.int .i64 0)))), none, false⟩] []) (.block 0 (.loop (law12_known_c10 p)))) (.seq (.region [⟨(some 35), (.mov (.t 5)), none, false⟩, ⟨(some 4), (.asg (.t 35)), none, false⟩] []) .ret))))
def law12_holds_c1 (p : Nums) : IC := (.region [⟨(some 8), (.mov (.t 7)), none, false⟩, ⟨(some 9), (.mov (.t 0)), none, false⟩, ⟨(some 10), (.len (.t 9)), none, false⟩, ⟨(some 11), (.bin .lss (.t 8) (.t 10)), none, false⟩] [])
@[simp] theorem law12_holds_c1_eq {P m Q st} {p : Nums} : AW P m (law12_holds_c1 p) Q st ↔ AW P m (.region [⟨(some 8), (.mov (.t 7)), none, false⟩, ⟨(some 9), (.mov (.t 0)), none, false⟩, ⟨(some 10), (.len (.t 9)), none, false⟩, ⟨(some 11), (.bin .lss (.t 8) (.t 10)), none, false⟩] []) Q st := Iff.rfl
def law12_holds_c2 (p : Nums) : IC := (.region [⟨(some 14), (.mov (.t 0)), none, true⟩, ⟨(some 15), (.mov (.t 7)), none, true⟩, ⟨(some 16), (.iaddr 2 (.t 14) (.t 15)), none, false⟩, ⟨(some 17), (.faddr 0 (.t 16)), none, false⟩, ⟨(some 18), (.load none (.t 17)), none, false⟩, ⟨(some 19), (.bin .lss (.t 18) (.c (.d (.int .i64 0)))), none, false⟩, ⟨(some 20), (.mov (.t 19)), none, false⟩, ⟨(some 21), (.mov (.t 0)), (some (20, false)), true⟩, ⟨(some 22), (.mov (.t 7)), (some (20, false)), true⟩, ⟨(some 23), (.iaddr 2 (.t 21) (.t 22)), (some (20, false)), true⟩, ⟨(some 24), (.faddr 0 (.t 23)), (some (20, false)), true⟩, ⟨(some 25), (.load none (.t 24)), (some (20, false)), true⟩, ⟨(some 26), (.mov (.t 1)), (some (20, false)), true⟩, ⟨(some 27), (.len (.t 26)), (some (20, false)), true⟩, ⟨(some 28), (.bin .geq (.t 25) (.t 27)), (some (20, false)), false⟩, ⟨(some 29), (.pick (.t 20) (.c (.d (.bool true))) (.t 28)), none, false⟩, ⟨(some 30), (.mov (.t 29)), none, false⟩, ⟨(some 31), (.mov (.t 0)), (some (30, false)), true⟩, ⟨(some 32), (.mov (.t 7)), (some (30, false)), true⟩, ⟨(some 33), (.iaddr 2 (.t 31) (.t 32)), (some (30, false)), false⟩, ⟨(some 34), (.faddr 1 (.t 33)), (some (30, false)), false⟩, ⟨(some 35), (.load none (.t 34)), (some (30, false)), false⟩, ⟨(some 36), (.bin .lss (.t 35) (.c (.d (.int .i64 0)))), (some (30, false)), false⟩, ⟨(some 37), (.pick (.t 30) (.c (.d (.bool true))) (.t 36)), none, false⟩, ⟨(some 38), (.mov (.t 37)), none, false⟩, ⟨(some 39), (.mov (.t 0)), (some (38, false)), true⟩, ⟨(some 40), (.mov (.t 7)), (some (38, false)), true⟩, ⟨(some 41), (.iaddr 2 (.t 39) (.t 40)), (some (38, false)), true⟩, ⟨(some 42), (.faddr 1 (.t 41)), (some (38, false)), true⟩, ⟨(some 43), (.load none (.t 42)), (some (38, false)), true⟩, ⟨(some 44), (.mov (.t 2)), (some (38, false)), true⟩, ⟨(some 45), (.len (.t 44)), (some (38, false)), true⟩, ⟨(some 46), (.bin .geq (.t 43) (.t 45)), (some (38, false)), false⟩, ⟨(some 47), (.pick (.t 38) (.c (.d (.bool true))) (.t 46)), none, false⟩, ⟨(some 48), (.mov (.t 47)), none, false⟩, ⟨(some 49), (.mov (.t 1)), (some (48, false)), true⟩, ⟨(some 50), (.mov (.t 0)), (some (48, false)), true⟩, ⟨(some 51), (.mov (.t 7)), (some (48, false)), true⟩, ⟨(some 52), (.iaddr 2 (.t 50) (.t 51)), (some (48, false)), true⟩, ⟨(some 53), (.faddr 0 (.t 52)), (some (48, false)), true⟩, ⟨(some 54), (.load none (.t 53)), (some (48, false)), true⟩, ⟨(some 55), (.iaddr 1 (.t 49) (.t 54)), (some (48, false)), true⟩, ⟨(some 56), (.load none (.t 55)), (some (48, false)), true⟩, ⟨(some 57), (.mov (.t 2)), (some (48, false)), true⟩, ⟨(some 58), (.mov (.t 0)), (some (48, false)), true⟩, ⟨(some 59), (.mov (.t 7)), (some (48, false)), true⟩, ⟨(some 60), (.iaddr 2 (.t 58) (.t 59)), (some (48, false)), true⟩, ⟨(some 61), (.faddr 1 (.t 60)), (some (48, false)), true⟩, ⟨(some 62), (.load none (.t 61)), (some (48, false)), true⟩, ⟨(some 63), (.iaddr 1 (.t 57) (.t 62)), (some (48, false)), true⟩, ⟨(some 64), (.load none (.t 63)), (some (48, false)), true⟩, ⟨(some 65), (.bin .neq (.t 56) (.t 64)), (some (48, false)), false⟩, ⟨(some 66), (.pick (.t 48) (.c (.d (.bool true))) (.t 65)), none, false⟩] [])
@[simp] theorem law12_holds_c2_eq {P m Q st} {p : Nums} : AW P m (law12_holds_c2 p) Q st ↔ AW P m (.region [⟨(some 14), (.mov (.t 0)), none, true⟩, ⟨(some 15), (.mov (.t 7)), none, true⟩, ⟨(some 16), (.iaddr 2 (.t 14) (.t 15)), none, false⟩, ⟨(some 17), (.faddr 0 (.t 16)), none, false⟩, ⟨(some 18), (.load none (.t 17)), none, false⟩, ⟨(some 19), (.bin .lss (.t 18) (.c (.d (.int .i64 0)))), none, false⟩, ⟨(some 20), (.mov (.t 19)), none, false⟩, ⟨(some 21), (.mov (.t 0)), (some (20, false)), true⟩, ⟨(some 22), (.mov (.t 7)), (some (20, false)), true⟩, ⟨(some 23), (.iaddr 2 (.t 21) (.t 22)), (some (20, false)), true⟩, ⟨(some 24), (.faddr 0 (.t 23)), (some (20, false)), true⟩, ⟨(some 25), (.load none (.t 24)), (some (20, false)), true⟩, ⟨(some 26), (.mov (.t 1)), (some (20, false)), true⟩, ⟨(some 27), (.len (.t 26)), (some (20, false)), true⟩, ⟨(some 28), (.bin .geq (.t 25) (.t 27)), (some (20, false)), false⟩, ⟨(some 29), (.pick (.t 20) (.c (.d (.bool true))) (.t 28)), none, false⟩, ⟨(some 30), (.mov (.t 29)), none, false⟩, ⟨(some 31), (.mov (.t 0)), (some (30, false)), true⟩, ⟨(some 32), (.mov (.t 7)), (some (30, false)), true⟩, ⟨(some 33), (.iaddr 2 (.t 31) (.t 32)), (some (30, false)), false⟩, ⟨(some 34), (.faddr 1 (.t 33)), (some (30, false)), false⟩, ⟨(some 35), (.load none (.t 34)), (some (30, false)), false⟩, ⟨(some 36), (.bin .lss (.t 35) (.c (.d (.int .i64 0)))), (some (30, false)), false⟩, ⟨(some 37), (.pick (.t 30) (.c (.d (.bool true))) (.t 36)), none, false⟩, ⟨(some 38), (.mov (.t 37)), none, false⟩, ⟨(some 39), (.mov (.t 0)), (some (38, false)), true⟩, ⟨(some 40), (.mov (.t 7)), (some (38, false)), true⟩, ⟨(some 41), (.iaddr 2 (.t 39) (.t 40)), (some (38, false)), true⟩, ⟨(some 42), (.faddr 1 (.t 41)), (some (38, false)), true⟩, ⟨(some 43), (.load none (.t 42)), (some (38, false)), true⟩, ⟨(some 44), (.mov (.t 2)), (some (38, false)), true⟩, ⟨(some 45), (.len (.t 44)), (some (38, false)), true⟩, ⟨(some 46), (.bin .geq (.t 43) (.t 45)), (some (38, false)), false⟩, ⟨(some 47), (.pick (.t 38) (.c (.d (.bool true))) (.t 46)), none, false⟩, ⟨(some 48), (.mov (.t 47)), none, false⟩, ⟨(some 49), (.mov (.t 1)), (some (48, false)), true⟩, ⟨(some 50), (.mov (.t 0)), (some (48, false)), true⟩, ⟨(some 51), (.mov (.t 7)), (some (48, false)), true⟩, ⟨(some 52), (.iaddr 2 (.t 50) (.t 51)), (some (48, false)), true⟩, ⟨(some 53), (.faddr 0 (.t 52)), (some (48, false)), true⟩, ⟨(some 54), (.load none (.t 53)), (some (48, false)), true⟩, ⟨(some 55), (.iaddr 1 (.t 49) (.t 54)), (some (48, false)), true⟩, ⟨(some 56), (.load none (.t 55)), (some (48, false)), true⟩, ⟨(some 57), (.mov (.t 2)), (some (48, false)), true⟩, ⟨(some 58), (.mov (.t 0)), (some (48, false)), true⟩, ⟨(some 59), (.mov (.t 7)), (some (48, false)), true⟩, ⟨(some 60), (.iaddr 2 (.t 58) (.t 59)), (some (48, false)), true⟩, ⟨(some 61), (.faddr 1 (.t 60)), (some (48, false)), true⟩, ⟨(some 62), (.load none (.t 61)), (some (48, false)), true⟩, ⟨(some 63), (.iaddr 1 (.t 57) (.t 62)), (some (48, false)), true⟩, ⟨(some 64), (.load none (.t 63)), (some (48, false)), true⟩, ⟨(some 65), (.bin .neq (.t 56) (.t 64)), (some (48, false)), false⟩, ⟨(some 66), (.pick (.t 48) (.c (.d (.bool true))) (.t 65)), none, false⟩] []) Q st := Iff.rfl
def law12_holds_c3 (p : Nums) : IC := (.seq (.region [⟨(some 6), (.asg (.c (.d (.bool false)))), none, false⟩] []) .ret)
@[simp] theorem law12_holds_c3_eq {P m Q st} {p : Nums} : AW P m (law12_holds_c3 p) Q st ↔ AW P m (.seq (.region [⟨(some 6), (.asg (.c (.d (.bool false)))), none, false⟩] []) .ret) Q st := Iff.rfl
def law12_holds_c4 (p : Nums) : IC := (.seq (law12_holds_c2 p) (.cond (.t 66) (law12_holds_c3 p) .skip))
@[simp] theorem law12_holds_c4_eq {P m Q st} {p : Nums} : AW P m (law12_holds_c4 p) Q st ↔ AW P m (.seq (law12_holds_c2 p) (.cond (.t 66) (law12_holds_c3 p) .skip)) Q st := Iff.rfl
def law12_holds_c5 (p : Nums) : IC := (.region [⟨(some 12), (.mov (.t 7)), none, false⟩, ⟨(some 13), (.bin .add (.t 12) (.c (.d (.int .i64 1)))), none, false⟩, ⟨(some 7), (.asg (.t 13)), none, false⟩] [])
@[simp] theorem law12_holds_c5_eq {P m Q st} {p : Nums} : AW P m (law12_holds_c5 p) Q st ↔ AW P m (.region [⟨(some 12), (.mov (.t 7)), none, false⟩, ⟨(some 13), (.bin .add (.t 12) (.c (.d (.int .i64 1)))), none, false⟩, ⟨(some 7), (.asg (.t 13)), none, false⟩] []) Q st := Iff.rfl
def law12_holds_c6 (p : Nums) : IC := (.seq (.seq (law12_holds_c1 p) (.cond (.t 11) .skip (.exit 0))) (.seq (.block 1 (law12_holds_c4 p)) (law12_holds_c5 p)))
@[simp] theorem law12_holds_c6_eq {P m Q st} {p : Nums} : AW P m (law12_holds_c6 p) Q st ↔ AW P m (.seq (.seq (law12_holds_c1 p) (.cond (.t 11) .skip (.exit 0))) (.seq (.block 1 (law12_holds_c4 p)) (law12_holds_c5 p))) Q st := Iff.rfl
def ic_law12_holds (p : Nums) : IC := (.seq (.region [⟨(some 6), (.asg (.c (.d (.bool false)))), none, false⟩] []) (.seq (.seq (.region [⟨(some 7), (.asg (.c (.d (.int .i64 0)))), none, false⟩] []) (.block 0 (.loop (law12_holds_c6 p)))) (.seq (.region [⟨(some 6), (.asg (.c (.d (.bool true)))), none, false⟩] []) .ret)))
def law12_subset_c1 (p : Nums) : IC := (.region [⟨(some 8), (.mov (.t 0)), none, false⟩, ⟨(some 9), (.mov (.t 1)), none, false⟩, ⟨(some 10), (.call p.ref11_Missing [(.t 8), (.t 9)]), none, false⟩, ⟨(some 7), (.mov (.t 10)), none, false⟩, ⟨(some 11), (.ext (.t 7) 0), none, false⟩, ⟨(some 12), (.ext (.t 7) 1), none, false⟩, ⟨(some 5), (.alloc [(.d (.int .i64 0)), (.d (.int .i64 0))]), none, false⟩, ⟨none, (.store 2 (.t 5) (.t 11)), none, false⟩, ⟨(some 6), (.asg (.t 12)), none, false⟩] [])
@[simp] theorem law12_subset_c1_eq {P m Q st} {p : Nums} : AW P m (law12_subset_c1 p) Q st ↔ AW P m (.region [⟨(some 8), (.mov (.t 0)), none, false⟩, ⟨(some 9), (.mov (.t 1)), none, false⟩, ⟨(some 10), (.call p.ref11_Missing [(.t 8), (.t 9)]), none, false⟩, ⟨(some 7), (.mov (.t 10)), none, false⟩, ⟨(some 11), (.ext (.t 7) 0), none, false⟩, ⟨(some 12), (.ext (.t 7) 1), none, false⟩, ⟨(some 5), (.alloc [(.d (.int .i64 0)), (.d (.int .i64 0))]), none, false⟩, ⟨none, (.store 2 (.t 5) (.t 11)), none, false⟩, ⟨(some 6), (.asg (.t 12)), none, false⟩] []) Q st := Iff.rfl
def law12_subset_c2 (p : Nums) : IC := (.region [⟨(some 13), (.mov (.t 6)), none, false⟩, ⟨(some 14), (.un .not (.t 13)), none, false⟩, ⟨(some 4), (.asg (.t 14)), none, false⟩] [])
@[simp] theorem law12_subset_c2_eq {P m Q st} {p : Nums} : AW P m (law12_subset_c2 p) Q st ↔ AW P m (.region [⟨(some 13), (.mov (.t 6)), none, false⟩, ⟨(some 14), (.un .not (.t 13)), none, false⟩, ⟨(some 4), (.asg (.t 14)), none, false⟩] []) Q st := Iff.rfl
def ic_law12_subset (p : Nums) : IC := (.seq (.region [⟨(some 4), (.asg (.c (.d (.bool false)))), none, false⟩] []) (.seq (law12_subset_c1 p) (.seq (law12_subset_c2 p) .ret)))
def transfer_rename_c1 (p : Nums) : IC := (.region [⟨(some 12), (.mov (.t 1)), none, false⟩, ⟨(some 13), (.len (.t 12)), none, false⟩, ⟨(some 14), (.mov (.c (.d (.int .i64 0)))), none, false⟩] [])
@[simp] theorem transfer_rename_c1_eq {P m Q st} {p : Nums} : AW P m (transfer_rename_c1 p) Q st ↔ AW P m (.region [⟨(some 12), (.mov (.t 1)), none, false⟩, ⟨(some 13), (.len (.t 12)), none, false⟩, ⟨(some 14), (.mov (.c (.d (.int .i64 0)))), none, false⟩] []) Q st := Iff.rfl
def transfer_rename_c2 (p : Nums) : IC := (.region [⟨(some 16), (.iaddr 2 (.t 12) (.t 14)), none, false⟩, ⟨(some 17), (.load (some 2) (.t 16)), none, false⟩, ⟨(some 9), (.alloc [(.d (.int .i64 0)), (.d (.int .i64 0))]), none, false⟩, ⟨none, (.store 2 (.t 9) (.t 17)), none, false⟩] [])
@[simp] theorem transfer_rename_c2_eq {P m Q st} {p : Nums} : AW P m (transfer_rename_c2 p) Q st ↔ AW P m (.region [⟨(some 16), (.iaddr 2 (.t 12) (.t 14)), none, false⟩, ⟨(some 17), (.load (some 2) (.t 16)), none, false⟩, ⟨(some 9), (.alloc [(.d (.int .i64 0)), (.d (.int .i64 0))]), none, false⟩, ⟨none, (.store 2 (.t 9) (.t 17)), none, false⟩] []) Q st := Iff.rfl
def transfer_rename_c3 (p : Nums) : IC := (.region [⟨(some 19), (.mov (.t 2)), none, false⟩, ⟨(some 20), (.load (some 2) (.t 9)), none, false⟩, ⟨(some 21), (.callv (.t 19) [(.t 20)]), none, false⟩, ⟨(some 18), (.mov (.t 21)), none, false⟩, ⟨(some 22), (.ext (.t 18) 0), none, false⟩, ⟨(some 23), (.ext (.t 18) 1), none, false⟩, ⟨(some 10), (.alloc [(.d (.int .i64 0)), (.d (.int .i64 0))]), none, false⟩, ⟨none, (.store 2 (.t 10) (.t 22)), none, false⟩, ⟨(some 11), (.asg (.t 23)), none, false⟩] [])
@[simp] theorem transfer_rename_c3_eq {P m Q st} {p : Nums} : AW P m (transfer_rename_c3 p) Q st ↔ AW P m (.region [⟨(some 19), (.mov (.t 2)), none, false⟩, ⟨(some 20), (.load (some 2) (.t 9)), none, false⟩, ⟨(some 21), (.callv (.t 19) [(.t 20)]), none, false⟩, ⟨(some 18), (.mov (.t 21)), none, false⟩, ⟨(some 22), (.ext (.t 18) 0), none, false⟩, ⟨(some 23), (.ext (.t 18) 1), none, false⟩, ⟨(some 10), (.alloc [(.d (.int .i64 0)), (.d (.int .i64 0))]), none, false⟩, ⟨none, (.store 2 (.t 10) (.t 22)), none, false⟩, ⟨(some 11), (.asg (.t 23)), none, false⟩] []) Q st := Iff.rfl
def transfer_rename_c4 (p : Nums) : IC := (.region [⟨(some 25), (.mov (.t 7)), none, false⟩, ⟨(some 26), (.load (some 2) (.t 10)), none, false⟩, ⟨(some 27), (.bslice 2 1 [(.int .i64 0), (.int .i64 0)] [(0, (.t 26))]), none, false⟩, ⟨(some 28), (.app 2 16 (.t 25) (.t 27)), none, false⟩, ⟨(some 7), (.asg (.t 28)), none, false⟩] [])
@[simp] theorem transfer_rename_c4_eq {P m Q st} {p : Nums} : AW P m (transfer_rename_c4 p) Q st ↔ AW P m (.region [⟨(some 25), (.mov (.t 7)), none, false⟩, ⟨(some 26), (.load (some 2) (.t 10)), none, false⟩, ⟨(some 27), (.bslice 2 1 [(.int .i64 0), (.int .i64 0)] [(0, (.t 26))]), none, false⟩, ⟨(some 28), (.app 2 16 (.t 25) (.t 27)), none, false⟩, ⟨(some 7), (.asg (.t 28)), none, false⟩] []) Q st := Iff.rfl
def transfer_rename_c5 (p : Nums) : IC := (.seq (transfer_rename_c2 p) (.seq (transfer_rename_c3 p) (.seq (.region [⟨(some 24), (.mov (.t 11)), none, false⟩] []) (.cond (.t 24) (transfer_rename_c4 p) .skip))))
@[simp] theorem transfer_rename_c5_eq {P m Q st} {p : Nums} : AW P m (transfer_rename_c5 p) Q st ↔ AW P m (.seq (transfer_rename_c2 p) (.seq (transfer_rename_c3 p) (.seq (.region [⟨(some 24), (.mov (.t 11)), none, false⟩] []) (.cond (.t 24) (transfer_rename_c4 p) .skip)))) Q st := Iff.rfl
def transfer_rename_c6 (p : Nums) : IC := (.seq (.region [⟨(some 15), (.bin .lss (.t 14) (.t 13)), none, false⟩] []) (.seq (.cond (.t 15) .skip (.exit 0)) (.seq (.block 1 (transfer_rename_c5 p)) (.region [⟨(some 29), (.bin .add (.t 14) (.c (.d (.int .i64 1)))), none, false⟩, ⟨(some 14), (.mov (.t 29)), none, false⟩] []))))
@[simp] theorem transfer_rename_c6_eq {P m Q st} {p : Nums} : AW P m (transfer_rename_c6 p) Q st ↔ AW P m (.seq (.region [⟨(some 15), (.bin .lss (.t 14) (.t 13)), none, false⟩] []) (.seq (.cond (.t 15) .skip (.exit 0)) (.seq (.block 1 (transfer_rename_c5 p)) (.region [⟨(some 29), (.bin .add (.t 14) (.c (.d (.int .i64 1)))), none, false⟩, ⟨(some 14), (.mov (.t 29)), none, false⟩] [])))) Q st := Iff.rfl
def transfer_rename_c7 (p : Nums) : IC := (.region [⟨(some 30), (.mov (.t 0)), none, false⟩, ⟨(some 31), (.mov (.t 7)), none, false⟩, ⟨(some 32), (.call p.pairset_Make [(.t 31)]), none, false⟩, ⟨(some 33), (.call p.pairset_Union [(.t 30), (.t 32)]), none, false⟩, ⟨(some 6), (.asg (.t 33)), none, false⟩] [])
@[simp] theorem transfer_rename_c7_eq {P m Q st} {p : Nums} : AW P m (transfer_rename_c7 p) Q st ↔ AW P m (.region [⟨(some 30), (.mov (.t 0)), none, false⟩, ⟨(some 31), (.mov (.t 7)), none, false⟩, ⟨(some 32), (.call p.pairset_Make [(.t 31)]), none, false⟩, ⟨(some 33), (.call p.pairset_Union [(.t 30), (.t 32)]), none, false⟩, ⟨(some 6), (.asg (.t 33)), none, false⟩] []) Q st := Iff.rfl
def ic_transfer_rename (p : Nums) : IC := (.seq (.region [⟨(some 6), (.asg (.c .nils)), none, false⟩] []) (.seq (.region [⟨(some 7), (.asg (.c .nils)), none, false⟩] []) (.seq (.seq (transfer_rename_c1 p) (.block 0 (.loop (transfer_rename_c6 p)))) (.seq (transfer_rename_c7 p) .ret))))
structure All (P : Program) (p : Nums) : Prop where
  ref11_Make : Has P p.ref11_Make 1 [(.tmp 2)] (ic_ref11_Make p)
  ref11_Missing : Has P p.ref11_Missing 2 [(.cell 4 (some 2)), (.tmp 5)] (ic_ref11_Missing p)
  ref11_Same : Has P p.ref11_Same 2 [(.tmp 4)] (ic_ref11_Same p)
  pairset_Make : Has P p.pairset_Make 1 [(.tmp 2)] (ic_pairset_Make p)
  pairset_Has : Has P p.pairset_Has 2 [(.tmp 4)] (ic_pairset_Has p)
  ref11_Has : Has P p.ref11_Has 2 [(.tmp 4)] (ic_ref11_Has p)
  pairset_Add : Has P p.pairset_Add 2 [(.tmp 4)] (ic_pairset_Add p)
  ref11_Add : Has P p.ref11_Add 2 [(.tmp 4)] (ic_ref11_Add p)
  pairset_Union : Has P p.pairset_Union 2 [(.tmp 4)] (ic_pairset_Union p)
  pairset_Less : Has P p.pairset_Less 2 [(.tmp 4)] (ic_pairset_Less p)
  pairset_DropV : Has P p.pairset_DropV 2 [(.tmp 4)] (ic_pairset_DropV p)
  pairset_DropL : Has P p.pairset_DropL 2 [(.tmp 4)] (ic_pairset_DropL p)
  ref11_Less : Has P p.ref11_Less 2 [(.tmp 4)] (ic_ref11_Less p)
  slices_Clone_Pair : Has P p.slices_Clone_Pair 1 [(.tmp 2)] (ic_slices_Clone_Pair p)
  pairset_compare : Has P p.pairset_compare 2 [(.tmp 4)] (ic_pairset_compare p)
  slices_Compact_Pair : Has P p.slices_Compact_Pair 1 [(.tmp 2)] (ic_slices_Compact_Pair p)
  pairset_find : Has P p.pairset_find 2 [(.tmp 4)] (ic_pairset_find p)
  pairset_filter : Has P p.pairset_filter 2 [(.tmp 4)] (ic_pairset_filter p)
  pairset_DropV_1 : Has P p.pairset_DropV_1 2 [(.tmp 3)] (ic_pairset_DropV_1 p)
  pairset_DropL_1 : Has P p.pairset_DropL_1 2 [(.tmp 3)] (ic_pairset_DropL_1 p)
  law12_TransferMatchesReference : Has P p.law12_TransferMatchesReference 5 [(.tmp 10)] (ic_law12_TransferMatchesReference p)
  law12_TransferSound : Has P p.law12_TransferSound 8 [(.tmp 16)] (ic_law12_TransferSound p)
  law12_TransferComplete : Has P p.law12_TransferComplete 6 [(.tmp 12)] (ic_law12_TransferComplete p)
  law12_TransferMonotone : Has P p.law12_TransferMonotone 6 [(.tmp 12)] (ic_law12_TransferMonotone p)
  law12_TransferKeeps : Has P p.law12_TransferKeeps 5 [(.tmp 10)] (ic_law12_TransferKeeps p)
  law12_awake : Has P p.law12_awake 0 [(.tmp 0)] (ic_law12_awake p)
  transfer_Copy : Has P p.transfer_Copy 3 [(.tmp 6)] (ic_transfer_Copy p)
  ref12_Copy : Has P p.ref12_Copy 3 [(.tmp 6)] (ic_ref12_Copy p)
  transfer_Move : Has P p.transfer_Move 3 [(.tmp 6)] (ic_transfer_Move p)
  ref12_Move : Has P p.ref12_Move 3 [(.tmp 6)] (ic_ref12_Move p)
  transfer_Define : Has P p.transfer_Define 3 [(.tmp 6)] (ic_transfer_Define p)
  ref12_Define : Has P p.ref12_Define 3 [(.tmp 6)] (ic_ref12_Define p)
  law12_known : Has P p.law12_known 2 [(.tmp 4)] (ic_law12_known p)
  law12_holds : Has P p.law12_holds 3 [(.tmp 6)] (ic_law12_holds p)
  law12_subset : Has P p.law12_subset 2 [(.tmp 4)] (ic_law12_subset p)
  transfer_rename : Has P p.transfer_rename 3 [(.tmp 6)] (ic_transfer_rename p)
end Go.AE

/- From a walk of the kit's to a contract: a call that turns no block, and whose result names none. -/
set_option linter.unusedVariables false
namespace Go.AE
open Go Go.Sort
theorem callsTo_of_walk {P : Program} {f : Nat} {args : List AV} {H : List Blk} {x : AV} (hx : ∀ e rows, x ≠ .own e rows) (hxv : ∀ org e rows, x ≠ .view org e rows)
    (hH : ∀ (b : Nat) (cells : List AV) (j e : Nat) (rows : List (List D)), H[b]? = some (Blk.mem cells) → cells[j]? ≠ some (AV.own e rows))
    (h : ∀ (g : Gh) (vs : Array Value) (w : World), vs.size = args.length → Sim args.length ⟨enum 0 args, H⟩ g ⟨vs, []⟩ w → ∃ v, (∀ F φ w, Rel F φ w x.erase v) ∧ Calls P f vs w fun e w' => e = .returned v ∧ ∃ q os, w' = grow (w.drewN q) os) :
    CallsTo P f args H fun o H' => o = .ret x ∧ H' = H := by
  intro g vs w hvs hs
  obtain ⟨v, hv, hc⟩ := h g vs w hvs hs
  refine hc.mono ?_
  rintro e w' ⟨rfl, q, os, rfl⟩
  have hheap : (grow (w.drewN q) os).heap = w.heap ++ os := rfl
  have hsame : ∀ r, r < w.heap.size → (grow (w.drewN q) os).heap[r]? = w.heap[r]? := by
    intro r hr; rw [hheap, Array.getElem?_append, if_pos hr]
  have hst : Stab g.F w g.F (grow (w.drewN q) os) := by
    refine ⟨fun _ _ => Nat.le_refl _, fun r j u hj hu => ?_⟩
    have hlt := World.block_lt_of_cell? w ⟨r, j, none⟩ hu
    simp only [World.cell?] at hu ⊢
    rw [hsame r hlt]; exact hu
  have hno : ∀ p e rows, AP ⟨[(0, x)], H⟩ p ≠ some (.own e rows) := by
    intro p e rows hp
    cases p with
    | tmp t =>
      simp only [AP, get] at hp
      split at hp
      · injection hp with hp; exact hx e rows hp
      · cases hp
    | cell b j =>
      simp only [AP] at hp
      split at hp
      · rename_i cells hb; exact hH b cells j e rows hb hp
      · cases hp
  refine ⟨.ret x, H, g, v, ⟨rfl, rfl⟩, rfl, ?_, ⟨rfl, rfl, rfl, ?_, fun r hr _ => ⟨hsame r hr, rfl⟩, hst⟩, fun _ _ _ h => h, Nat.le_refl _, ?_⟩
  · refine { size := by simp, env := ?_, defers := rfl, inj := hs.inj, lt := ?_, dom := hs.dom, mem := ?_, iter := ?_, own := ?_, excl := ?_, apart := ?_, view := ?_ }
    · intro t y hy
      simp only [AOut.val, get] at hy
      split at hy
      · rename_i h0; subst h0; injection hy with hy; subst hy; exact hv _ _ _
      · cases hy
    · intro b r hb
      obtain ⟨h1, h2, h3⟩ := hs.lt b r hb
      refine ⟨?_, h2, h3⟩
      rw [hheap]; simp only [Array.size_append]; omega
    · intro b cells r hb hr
      obtain ⟨c, e, h1, h2, h3⟩ := hs.mem b cells r hb hr
      refine ⟨c, e, by rw [hsame r (hs.lt b r hr).1]; exact h1, h2, fun j y hy => ?_⟩
      obtain ⟨k1, u, k2, k3⟩ := h3 j y hy
      exact ⟨k1, u, k2, k3.stab hst fun _ _ h => h⟩
    · intro b s pos r hb hr
      rw [hsame r (hs.lt b r hr).1]; exact hs.iter b s pos r hb hr
    · exact fun p e rows v hp _ => absurd hp (hno p e rows)
    · rintro p p' r ⟨e, rows, _, hp, _⟩; exact absurd hp (hno p e rows)
    · rintro p r b ⟨e, rows, _, hp, _⟩; exact absurd hp (hno p e rows)
    · intro t org e rows hy
      simp only [AOut.val, get] at hy
      split at hy
      · injection hy with hy; exact absurd hy (hxv org e rows)
      · cases hy
  · rw [hheap]; simp only [Array.size_append]; exact Nat.le_add_right _ _
  · rintro r (⟨b, hb⟩ | ⟨p, e, rows, _, hp, _⟩)
    · exact .inl (.inl ⟨b, hb⟩)
    · exact absurd hp (hno p e rows)
end Go.AE

/- Integers, booleans, pairs. -/
set_option linter.unusedVariables false
namespace Go.AE
open Go
abbrev I (n : Int) : D := .int .i64 n
abbrev AI (n : Int) : AV := .d (.int .i64 n)
abbrev AB (b : Bool) : AV := .d (.bool b)
structure Pair where (v l : Int)
  deriving DecidableEq, Inhabited
def Pair.row (q : Pair) : List D := [I q.v, I q.l]
def Pair.av (q : Pair) : AV := .agg [AI q.v, AI q.l]
def pairsD (l : List Pair) : D := .sl (l.map Pair.row)
end Go.AE

/- The readings of integers, pairs and sets of pairs. -/
set_option linter.unusedVariables false
namespace Go.AE
open Go
theorem HasL.cons_inv {l : LT} {ls : List LT} {ds : List D} (h : HasL (l :: ls) ds) : ∃ d ds', ds = d :: ds' ∧ HasT l d ∧ HasL ls ds' := by
  obtain ⟨h1, h2⟩ := h
  cases ds with
  | nil => simp at h1
  | cons d ds => exact ⟨d, ds, rfl, h2 0 l d rfl rfl, by simpa using h1, fun j l' x a b => h2 (j + 1) l' x (by simpa using a) (by simpa using b)⟩
theorem HasL.nil_inv {ds : List D} (h : HasL [] ds) : ds = [] := by
  have := h.1; simpa using this
theorem HasT.int_inv {k : IntKind} {d : D} (h : HasT (.int k) d) : ∃ n, d = .int k n ∧ (Lit.int k n).wf = true := by
  cases h with
  | int _ n h => exact ⟨n, rfl, h⟩
theorem HasT.sl_inv {ls : List LT} {d : D} (h : HasT (.sl ls) d) : ∃ rows, d = .sl rows ∧ rows.length ≤ maxLen ∧ ∀ r ∈ rows, HasL ls r := by
  cases h with
  | sl _ rows hl h0 h => exact ⟨rows, rfl, hl, fun r hr => ⟨h0 r hr, h r hr⟩⟩
theorem rows_of {α : Type} {g : α → List D} {Q : List D → Prop} (h : ∀ r, Q r → ∃ x, r = g x) : ∀ {rows : List (List D)}, (∀ r ∈ rows, Q r) → ∃ l : List α, rows = l.map g := by
  intro rows
  induction rows with
  | nil => intro _; exact ⟨[], rfl⟩
  | cons r rows ih =>
    intro hq
    obtain ⟨x, rfl⟩ := h r (hq r (by simp))
    obtain ⟨l, rfl⟩ := ih fun r hr => hq r (by simp [hr])
    exact ⟨x :: l, rfl⟩
def ltI : LT := .int .i64
def ltPair : List LT := [ltI, ltI]
theorem pairRow_of {r : List D} (h : HasL ltPair r) : ∃ i : Pair, r = i.row := by
  obtain ⟨_, _, rfl, h0, h⟩ := h.cons_inv
  obtain ⟨_, _, rfl, h1, h⟩ := h.cons_inv
  obtain rfl := h.nil_inv
  obtain ⟨a, rfl, _⟩ := h0.int_inv
  obtain ⟨b, rfl, _⟩ := h1.int_inv
  exact ⟨⟨a, b⟩, rfl⟩
theorem pair_of {ds : List D} (h : HasL ltPair ds) : ∃ f : Pair, .agg (ds.map AV.d) = f.av := by
  obtain ⟨f, rfl⟩ := pairRow_of h
  exact ⟨f, rfl⟩
theorem pairs_of {d : D} (h : HasT (.sl ltPair) d) : ∃ l : List Pair, AV.d d = .d (pairsD l) ∧ l.length ≤ maxLen := by
  obtain ⟨rows, rfl, hl, hr⟩ := h.sl_inv
  obtain ⟨l, rfl⟩ := rows_of (fun r hr => pairRow_of hr) hr
  exact ⟨l, rfl, by simpa using hl⟩
theorem int_of {d : D} (h : HasT ltI d) : ∃ n : Int, AV.d d = AI n ∧ -9223372036854775808 ≤ n ∧ n ≤ 9223372036854775807 := by
  obtain ⟨n, rfl, hw⟩ := h.int_inv
  refine ⟨n, rfl, ?_⟩
  simp [Lit.wf, IntKind.min, IntKind.max, IntKind.signed, IntKind.bits] at hw
  omega
end Go.AE

/- Sets of pairs: lists in order. -/
set_option linter.unusedVariables false
namespace Go.AE
open Go
def lessP (a b : Pair) : Bool := if a.v = b.v then decide (a.l < b.l) else decide (a.v < b.v)
theorem lessP_iff {a b : Pair} : lessP a b = true ↔ a.v < b.v ∨ (a.v = b.v ∧ a.l < b.l) := by
  unfold lessP; split <;> simp <;> omega
theorem lessP_total {a b : Pair} (h1 : lessP a b = false) (h2 : lessP b a = false) : a = b := by
  have h1 : ¬ lessP a b = true := by simp [h1]
  have h2 : ¬ lessP b a = true := by simp [h2]
  rw [lessP_iff] at h1 h2
  obtain ⟨a1, a2⟩ := a; obtain ⟨b1, b2⟩ := b
  simp only [Pair.mk.injEq]; simp only at h1 h2; omega
theorem lessP_trans {a b c : Pair} (h1 : lessP a b = true) (h2 : lessP b c = true) : lessP a c = true := by
  rw [lessP_iff] at *; omega
theorem lessP_irrefl (a : Pair) : lessP a a = false := by
  cases h : lessP a a with
  | false => rfl
  | true => rw [lessP_iff] at h; omega
theorem lessP_asymm {a b : Pair} (h1 : lessP a b = true) : lessP b a = false := by
  cases h : lessP b a with
  | false => rfl
  | true => have := lessP_trans h1 h; rw [lessP_irrefl] at this; cases this
def sortedP (l : List Pair) : Bool := (List.range l.length).all fun k => if h : k + 1 < l.length then lessP (l[k]) (l[k+1]) else true
theorem sortedP_iff {l : List Pair} : sortedP l = true ↔ ∀ k, (h : k + 1 < l.length) → lessP (l[k]) (l[k+1]) = true := by
  simp only [sortedP, List.all_eq_true, List.mem_range]
  constructor
  · intro h k hk; have := h k (by omega); rwa [dif_pos hk] at this
  · intro h k hk
    split
    · exact h k _
    · rfl
def stepA (p : Pair) (s : List Pair × Bool) (q : Pair) : List Pair × Bool :=
  let s := if s.2 = false ∧ lessP q p = false then (s.1 ++ [p], true) else s
  if q = p then s else (s.1 ++ [q], s.2)
def foldA (p : Pair) (l : List Pair) : List Pair × Bool := l.foldl (stepA p) ([], false)
def addP (l : List Pair) (p : Pair) : List Pair := if (foldA p l).2 = true then (foldA p l).1 else (foldA p l).1 ++ [p]
def makeP (l : List Pair) : List Pair := l.foldl addP []
def missP (a b : List Pair) : Option Pair := a.find? fun q => !decide (q ∈ b)
theorem foldA_succ {p : Pair} {l : List Pair} {k : Nat} (h : k < l.length) : foldA p (l.take (k + 1)) = stepA p (foldA p (l.take k)) l[k] := by
  rw [foldA, foldA, List.take_add_one, List.foldl_append]; simp [h]
theorem makeP_succ {l : List Pair} {k : Nat} (h : k < l.length) : makeP (l.take (k + 1)) = addP (makeP (l.take k)) l[k] := by
  rw [makeP, makeP, List.take_add_one, List.foldl_append]; simp [h]
theorem stepA_len (p : Pair) (s : List Pair × Bool) (q : Pair) : (stepA p s q).1.length ≤ s.1.length + 2 := by
  unfold stepA; dsimp only; split <;> split <;> simp
theorem foldA_len (p : Pair) (l : List Pair) (s : List Pair × Bool) : (l.foldl (stepA p) s).1.length ≤ s.1.length + 2 * l.length := by
  induction l generalizing s with
  | nil => simp
  | cons q l ih => have := ih (stepA p s q); have := stepA_len p s q; simp only [List.foldl_cons, List.length_cons]; omega
theorem eq_pair {a b : Pair} (h1 : a.v = b.v) (h2 : a.l = b.l) : a = b := by cases a; cases b; simp_all
theorem pair_eqd (a b : Pair) : (decide (a.v = b.v) && decide (a.l = b.l)) = decide (a = b) := by
  by_cases h : a = b
  · subst h; simp
  · rw [decide_eq_false h]
    cases h1 : decide (a.v = b.v) <;> cases h2 : decide (a.l = b.l) <;> simp_all
    exact h (eq_pair h1 h2)
theorem addP_len (l : List Pair) (q : Pair) : (addP l q).length ≤ 2 * l.length + 1 := by
  have := foldA_len q l ([], false)
  have : (foldA q l).1.length ≤ 0 + 2 * l.length := this
  unfold addP; split <;> simp <;> omega

theorem pair_beq (a b : Pair) : (a.v == b.v && a.l == b.l) = decide (a = b) := by
  rw [← pair_eqd]; rfl
def Srt (l : List Pair) : Prop := l.Pairwise fun a b => lessP a b = true
theorem srt_cons {a : Pair} {l : List Pair} : Srt (a :: l) ↔ (∀ b ∈ l, lessP a b = true) ∧ Srt l := List.pairwise_cons
theorem srt_get {l : List Pair} (h : Srt l) {i j : Nat} (hij : i < j) (hj : j < l.length) : lessP (l[i]'(by omega)) l[j] = true := List.pairwise_iff_getElem.1 h i j (by omega) hj hij
theorem srt_adj {l : List Pair} : Srt l ↔ ∀ k, (h : k + 1 < l.length) → lessP (l[k]) (l[k+1]) = true := by
  constructor
  · intro h k hk; exact srt_get h (by omega) hk
  · intro h
    refine List.pairwise_iff_getElem.2 fun i j hi hj hij => ?_
    obtain ⟨n, rfl⟩ : ∃ n, j = i + 1 + n := ⟨j - (i + 1), by omega⟩
    induction n with
    | zero => exact h i hj
    | succ n ih => exact lessP_trans (ih (by omega) (by omega)) (h (i + 1 + n) (by omega))
theorem sortedP_srt {l : List Pair} : sortedP l = true ↔ Srt l := by rw [sortedP_iff, srt_adj]
theorem srt_ext : ∀ {a b : List Pair}, Srt a → Srt b → (∀ q, q ∈ a ↔ q ∈ b) → a = b := by
  intro a
  induction a with
  | nil =>
    intro b _ _ h
    cases b with
    | nil => rfl
    | cons y b => have := (h y).2 (by simp); cases this
  | cons x a ih =>
    intro b ha hb h
    cases b with
    | nil => have := (h x).1 (by simp); cases this
    | cons y b =>
      rw [srt_cons] at ha hb
      have exy : x = y := by
        have h1 := (h x).1 (by simp)
        have h2 := (h y).2 (by simp)
        rw [List.mem_cons] at h1 h2
        rcases h1 with h1 | h1
        · exact h1
        · rcases h2 with h2 | h2
          · exact h2.symm
          · have := lessP_asymm (hb.1 x h1); rw [ha.1 y h2] at this; cases this
      subst exy
      have : a = b := by
        refine ih ha.2 hb.2 fun q => ?_
        have hq := h q
        rw [List.mem_cons, List.mem_cons] at hq
        constructor
        · intro hqa
          rcases hq.1 (.inr hqa) with e | e
          · subst e; have := ha.1 q hqa; rw [lessP_irrefl] at this; cases this
          · exact e
        · intro hqb
          rcases hq.2 (.inr hqb) with e | e
          · subst e; have := hb.1 q hqb; rw [lessP_irrefl] at this; cases this
          · exact e
      rw [this]
/-- Where p belongs. -/
def posP (l : List Pair) (p : Pair) : Nat := (l.takeWhile fun q => lessP q p).length
def insP (l : List Pair) (p : Pair) : List Pair := (l.takeWhile fun q => lessP q p) ++ p :: (l.dropWhile fun q => lessP q p).filter fun q => decide (q ≠ p)
theorem lessP_ne {a b : Pair} (h : lessP a b = true) : a ≠ b := by rintro rfl; rw [lessP_irrefl] at h; cases h
theorem fold_done (p : Pair) (l out : List Pair) : l.foldl (stepA p) (out, true) = (out ++ l.filter (fun q => decide (q ≠ p)), true) := by
  induction l generalizing out with
  | nil => simp
  | cons q l ih =>
    by_cases e : q = p
    · simp [stepA, e, ih]
    · simp [stepA, e, ih]
theorem fold_not (p : Pair) (l out : List Pair) : l.foldl (stepA p) (out, false) = if (l.dropWhile fun q => lessP q p) = [] then (out ++ l, false) else (out ++ insP l p, true) := by
  induction l generalizing out with
  | nil => simp
  | cons q l ih =>
    cases h : lessP q p with
    | true =>
      have hne := lessP_ne h
      simp only [List.foldl_cons, stepA, h, hne, if_false, and_false, ih, List.dropWhile_cons, if_true, Bool.true_eq_false, insP, List.takeWhile_cons]
      split <;> simp [List.append_assoc]
    | false =>
      simp only [List.foldl_cons, stepA, h, and_self, if_true, List.dropWhile_cons, Bool.false_eq_true, if_false, reduceCtorEq, insP, List.takeWhile_cons, List.nil_append]
      by_cases e : q = p
      · simp [e, fold_done]
      · simp [e, fold_done]
theorem addP_ins (l : List Pair) (p : Pair) : addP l p = insP l p := by
  unfold addP foldA
  rw [fold_not]
  split
  · rename_i h
    simp only [List.nil_append, Bool.false_eq_true, if_false, insP, h, List.filter_nil]
    have : l.takeWhile (fun q => lessP q p) = l := by
      have e := List.takeWhile_append_dropWhile (p := fun q => lessP q p) (l := l)
      rw [h, List.append_nil] at e; exact e
    rw [this]
  · simp
theorem mem_addP {l : List Pair} {p q : Pair} : q ∈ addP l p ↔ q = p ∨ q ∈ l := by
  rw [addP_ins, insP]
  have e := List.takeWhile_append_dropWhile (p := fun q => lessP q p) (l := l)
  have e2 : q ∈ l ↔ q ∈ l.takeWhile (fun q => lessP q p) ∨ q ∈ l.dropWhile (fun q => lessP q p) := by
    rw [← List.mem_append, e]
  simp only [List.mem_append, List.mem_cons, List.mem_filter, decide_eq_true_eq, e2]
  by_cases h : q = p <;> simp [h]
theorem drop_ge {l : List Pair} {p : Pair} (h : Srt l) : ∀ q ∈ l.dropWhile (fun q => lessP q p), lessP q p = false := by
  induction l with
  | nil => intro q hq; simp at hq
  | cons x l ih =>
    intro q hq
    rw [srt_cons] at h
    cases hx : lessP x p with
    | true => rw [List.dropWhile_cons, hx, if_pos rfl] at hq; exact ih h.2 q hq
    | false =>
      rw [List.dropWhile_cons, hx, if_neg (by simp)] at hq
      rcases List.mem_cons.1 hq with rfl | hq
      · exact hx
      · cases hqp : lessP q p with
        | false => rfl
        | true => rw [lessP_trans (h.1 q hq) hqp] at hx; cases hx
theorem take_lt {l : List Pair} {p : Pair} : ∀ q ∈ l.takeWhile (fun q => lessP q p), lessP q p = true := by
  induction l with
  | nil => intro q hq; simp at hq
  | cons x l ih =>
    intro q hq
    cases hx : lessP x p with
    | true =>
      rw [List.takeWhile_cons, hx, if_pos rfl] at hq
      rcases List.mem_cons.1 hq with rfl | hq
      · exact hx
      · exact ih q hq
    | false => rw [List.takeWhile_cons, hx, if_neg (by simp)] at hq; simp at hq
theorem srt_sub {a b : List Pair} (h : a.Sublist b) (hb : Srt b) : Srt a := List.Pairwise.sublist h hb
theorem srt_addP {l : List Pair} {p : Pair} (h : Srt l) : Srt (addP l p) := by
  rw [addP_ins, insP]
  refine List.pairwise_append.2 ⟨srt_sub (List.takeWhile_sublist _) h, srt_cons.2 ⟨?_, ?_⟩, ?_⟩
  · intro b hb
    rw [List.mem_filter, decide_eq_true_eq] at hb
    have h1 := drop_ge h b hb.1
    cases h2 : lessP p b with
    | true => rfl
    | false => exact absurd (lessP_total h2 h1).symm hb.2
  · exact srt_sub (List.filter_sublist.trans (List.dropWhile_sublist _)) h
  · intro a ha b hb
    have h1 := take_lt a ha
    rcases List.mem_cons.1 hb with rfl | hb
    · exact h1
    · rw [List.mem_filter, decide_eq_true_eq] at hb
      have h2 := drop_ge h b hb.1
      cases h3 : lessP p b with
      | true => exact lessP_trans h1 h3
      | false => exact absurd (lessP_total h3 h2).symm hb.2
theorem makeP_nil : makeP [] = [] := rfl
theorem makeP_snoc (l : List Pair) (q : Pair) : makeP (l ++ [q]) = addP (makeP l) q := by simp [makeP]
theorem makeP_rec {motive : List Pair → Prop} (h0 : motive []) (h1 : ∀ l q, motive l → motive (l ++ [q])) (l : List Pair) : motive l := by
  generalize hn : l.length = n
  induction n generalizing l with
  | zero => have : l = [] := List.length_eq_zero_iff.1 hn; subst this; exact h0
  | succ n ih =>
    have hne : l ≠ [] := by rintro rfl; simp at hn
    rw [← List.dropLast_concat_getLast hne]
    exact h1 _ _ (ih _ (by simp [hn]))
theorem srt_makeP (l : List Pair) : Srt (makeP l) := by
  induction l using makeP_rec with
  | h0 => exact List.Pairwise.nil
  | h1 l q ih => rw [makeP_snoc]; exact srt_addP ih
theorem mem_makeP {l : List Pair} {q : Pair} : q ∈ makeP l ↔ q ∈ l := by
  induction l using makeP_rec with
  | h0 => simp [makeP]
  | h1 l x ih => rw [makeP_snoc, mem_addP, ih]; simp [or_comm]
theorem makeP_srt {l : List Pair} (h : Srt l) : makeP l = l := srt_ext (srt_makeP l) h fun q => mem_makeP
theorem srt_nodup {l : List Pair} (h : Srt l) : l.Nodup := List.Pairwise.imp (fun h => lessP_ne h) h
theorem addP_len1 (l : List Pair) (p : Pair) : (addP l p).length ≤ l.length + 1 := by
  rw [addP_ins, insP]
  have e := congrArg List.length (List.takeWhile_append_dropWhile (p := fun q => lessP q p) (l := l))
  have e2 := List.length_filter_le (fun q => decide (q ≠ p)) (l.dropWhile fun q => lessP q p)
  simp only [List.length_append, List.length_cons] at e ⊢; omega
theorem makeP_len (l : List Pair) : (makeP l).length ≤ l.length := by
  induction l using makeP_rec with
  | h0 => simp [makeP]
  | h1 l x ih => rw [makeP_snoc]; have := addP_len1 (makeP l) x; simp only [List.length_append, List.length_cons, List.length_nil]; omega
end Go.AE
