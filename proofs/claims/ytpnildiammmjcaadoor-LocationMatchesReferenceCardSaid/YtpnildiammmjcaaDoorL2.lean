/- A part of the proof: the evaluator over abstract values, its codes, the contracts of the functions. -/
import Derived.Test.YtpnildiammmjcaaDoorL1
import Derived.ProofKit
import Derived.Below
import Derived.ChangeArms
import Derived.Sort.Grow
import Derived.Deep.Draws
import Derived.Lib.ItoaNum
import Derived.Lib.ItoaMem
set_option linter.unusedVariables false
set_option linter.unusedSimpArgs false
/- More of the rules by which an abstract run is worked out. -/
set_option linter.unusedVariables false
namespace Go.AE
open Go
section
variable {P : Program} {m : Nat} {Q : AExit → ASt → Prop} {st : ASt} {K : ASt → Prop} {QP : AV → ASt → Prop} {dst : Option Nat} {io : AO}
theorem AWop_q_on {t : Nat} {want : Bool} (h : get st.env t = some (.d (.bool want))) : AWop P ⟨dst, io, some (t, want), true⟩ K QP st ↔ qOk true dst st ∧ AWio P true io dst K QP st := by
  unfold AWop; simp [h]
theorem AWop_q_off {t : Nat} {want : Bool} (h : get st.env t = some (.d (.bool !want))) : AWop P ⟨dst, io, some (t, want), true⟩ K QP st ↔ qOk true dst st ∧ K (put dst (.tup []) st) := by
  unfold AWop; cases want <;> simp [h]
theorem AWop_q_off1 {t : Nat} (h : get st.env t = some (.d (.bool false))) : AWop P ⟨dst, io, some (t, true), true⟩ K QP st ↔ qOk true dst st ∧ K (put dst (.tup []) st) := AWop_q_off h
theorem AWop_q_off2 {t : Nat} (h : get st.env t = some (.d (.bool true))) : AWop P ⟨dst, io, some (t, false), true⟩ K QP st ↔ qOk true dst st ∧ K (put dst (.tup []) st) := AWop_q_off h
theorem AWop_q_none {t : Nat} {want : Bool} (h : get st.env t = some (.tup [])) : AWop P ⟨dst, io, some (t, want), true⟩ K QP st ↔ qOk true dst st ∧ K (put dst (.tup []) st) := by
  unfold AWop; simp [h]
attribute [simp] AWop_q_on AWop_q_off1 AWop_q_off2 AWop_q_none
attribute [simp] wback

/-- A call over some of the caller's blocks, with one known end. -/
theorem AWcall_loc (bs : List Nat) {f : Nat} {args cargs : List AV} {Hp Hc Hc' Hb : List Blk} {x y : AV} (h : CallsTo P f cargs Hc fun o H' => o = .ret x ∧ H' = Hc')
    (hnd : bs.Nodup) (ha : renL (idx bs) args = some cargs) (hp : picks st.H bs = some Hp) (hc : renB (idx bs) Hp = some Hc) (hb : renB (back bs st.H.length 0) Hc' = some Hb)
    (hl : Hc'.length = bs.length) (hx : x.ren (back bs st.H.length 0) = some y) (hK : K (put dst y ⟨unview st.env, wback st.H bs Hb⟩)) : AWcall P false f args dst K QP st := by
  refine .inr ⟨rfl, .inr ⟨bs, hnd, cargs, Hp, Hc, ha, hp, hc, h.mono ?_⟩⟩
  rintro o H' ⟨rfl, he⟩
  subst he
  have ht : H'.take (bs.length + 0) = H' := by rw [Nat.add_zero, ← hl, List.take_length]
  have hlen : ∀ {l l' : List Blk}, renB (back bs st.H.length 0) l = some l' → l'.length = l.length := by
    intro l
    induction l with
    | nil => intro l' h; simp [renB] at h; subst h; rfl
    | cons k l ih =>
      intro l' h
      simp only [renB] at h
      split at h
      · rename_i a b h1 h2; injection h with h; subst h; simp [ih h2]
      · cases h
  refine ⟨0, Hb, y, by rw [ht]; exact hb, by omega, hx, ?_⟩
  have e : Hb.length = bs.length := by rw [hlen hb, hl]
  rw [← e, List.take_length, List.drop_length, List.append_nil]
  exact hK
theorem renB_len {ρ : Nat → Option Nat} : ∀ {l l' : List Blk}, renB ρ l = some l' → l'.length = l.length := by
  intro l
  induction l with
  | nil => intro l' h; simp [renB] at h; subst h; rfl
  | cons k l ih =>
    intro l' h
    simp only [renB] at h
    split at h
    · rename_i a b h1 h2; injection h with h; subst h; simp [ih h2]
    · cases h
/-- The same, with e new blocks that are kept. -/
theorem AWcall_locn (bs : List Nat) (e : Nat) {f : Nat} {args cargs : List AV} {Hp Hc Hc' Hb : List Blk} {x y : AV} (h : CallsTo P f cargs Hc fun o H' => o = .ret x ∧ H' = Hc')
    (hnd : bs.Nodup) (ha : renL (idx bs) args = some cargs) (hp : picks st.H bs = some Hp) (hc : renB (idx bs) Hp = some Hc) (hb : renB (back bs st.H.length e) Hc' = some Hb)
    (hl : Hc'.length = bs.length + e) (hx : x.ren (back bs st.H.length e) = some y) (hK : K (put dst y ⟨unview st.env, wback st.H bs (Hb.take bs.length) ++ Hb.drop bs.length⟩)) : AWcall P false f args dst K QP st := by
  refine .inr ⟨rfl, .inr ⟨bs, hnd, cargs, Hp, Hc, ha, hp, hc, h.mono ?_⟩⟩
  rintro o H' ⟨rfl, he⟩
  subst he
  have ht : H'.take (bs.length + e) = H' := by rw [← hl, List.take_length]
  exact ⟨e, Hb, y, by rw [ht]; exact hb, by omega, hx, hK⟩
theorem Fin_wk {rs : List RV} {m : Nat} {Q : AOut → List Blk → Prop} {st : ASt} (x x' : AV) (H' : List Blk) (h : rV st rs = some x) (hw : Wk m ⟨[(0, x)], st.H⟩ ⟨[(0, x')], H'⟩) (hq : Q (.ret x') H') : Fin rs m Q .normal st := ⟨x, h, x', H', hw, hq⟩
theorem Fin_wk' {rs : List RV} {m : Nat} {Q : AOut → List Blk → Prop} {st : ASt} (x x' : AV) (H' : List Blk) (h : rV st rs = some x) (hw : Wk m ⟨[(0, x)], st.H⟩ ⟨[(0, x')], H'⟩) (hq : Q (.ret x') H') : Fin rs m Q .ret st := ⟨x, h, x', H', hw, hq⟩
@[simp] theorem AWio_asgq {q : Bool} {x : Opd} : AWio P q (.asg x) dst K QP st ↔ goG K dst st q x (ev st.env x) := by
  cases x with
  | c y =>
    simp only [AWio, AWval_go, opV, ev]
    cases y <;> simp [goG, go1, AV.erase]
  | t i =>
    simp only [AWio, AWval_go, opV, ev]
    cases hg : get st.env i with
    | none => simp [goG, go1]
    | some y => cases y <;> simp [goG, go1, AV.erase]
/-- An iterator over a string. -/
@[simp] theorem AWio_rng {x : Opd} : AWio P false (.rng x) dst K QP st ↔ AWrng x dst K st := by simp [AWio]
theorem AWio_nxt {x : Opd} {b pos : Nat} {s : List UInt8} (h : evr st.env x = some (.ptr b 0)) (hb : st.H[b]? = some (.iter s pos))
    (h1 : pos < s.length → K (put dst (.tup [.d (.bool true), .d (.int .i64 pos), .d (.int .i32 (decS s pos).1)]) ⟨unview st.env, st.H.set b (.iter s (pos + (decS s pos).2))⟩))
    (h2 : ¬ pos < s.length → K (put dst (.tup [.d (.bool false)]) ⟨unview st.env, st.H⟩)) : AWio P false (.nxt x) dst K QP st := by
  refine ⟨rfl, ?_⟩
  unfold AWnxt
  rw [h]; simp only [hb]
  exact ⟨h1, h2⟩
attribute [simp] AWrng
def goT (K : ASt → Prop) (dst : Option Nat) (st : ASt) (q : Bool) (i : Nat) : Option AV → Prop
  | some (.own e rows) => q = false ∧ ∃ d, dst = some d ∧ d ≠ i ∧ K ⟨(d, .own e rows) :: (i, .d (.sl rows)) :: unview st.env, st.H⟩
  | some (.view (.tmp j) e rows) => q = false ∧ ∃ d, dst = some d ∧ d ≠ j ∧ K ⟨(d, .own e rows) :: (j, .d (.sl rows)) :: unview st.env, st.H⟩
  | some y => K (put dst y.erase st)
  | none => False
@[simp] theorem AWio_take {q : Bool} {i : Nat} : AWio P q (.take (.t i)) dst K QP st ↔ goT K dst st q i (get st.env i) := by
  simp only [AWio, AWval_go, opV, ev]
  cases hg : get st.env i with
  | none => simp [goT, go1]
  | some y =>
    cases y <;> try simp [goT, go1, AV.erase]
    rename_i org e rows
    cases org <;> simp [goT, go1, AV.erase]
attribute [simp] goT
theorem AWio_app_own {esz bytes : Nat} {x y : Opd} {org : Place} {rows rows' ys : List (List D)} (h : evr st.env x = some (.d (.sl rows'))) (hg : growing st.env x = some (some org, esz, rows)) (hy : appended st.env y = some ys)
    (hr : ∀ r ∈ ys, r.length = esz) (hz : 0 < esz) (hn : rows.length + ys.length ≤ 1000000000000000000) (hb : (rows.length + ys.length) * bytes ≤ 140737488355328) (hK : K (put dst (.own esz (rows ++ ys)) (dropOwn org rows st))) :
    AWio P false (.app esz bytes x y) dst K QP st := by
  simp only [AWio, h]
  exact ⟨trivial, some org, esz, rows, ys, hg, hy, fun _ => rfl, hr, hz, hn, hb, hK⟩
theorem AWio_app_nils {esz bytes : Nat} {x y : Opd} {ys : List (List D)} (h : evr st.env x = some .nils) (hg : growing st.env x = some (none, 0, [])) (hy : appended st.env y = some ys)
    (hr : ∀ r ∈ ys, r.length = esz) (hz : 0 < esz) (hn : ys.length ≤ 1000000000000000000) (hb : ys.length * bytes ≤ 140737488355328) (hK : K (put dst (.own esz ys) st)) :
    AWio P false (.app esz bytes x y) dst K QP st := by
  simp only [AWio, h]
  exact .inr ⟨trivial, .inl ⟨none, 0, [], ys, hg, hy, fun h => (by cases h), hr, hz, by simpa using hn, by simpa using hb, by simpa using hK⟩⟩
theorem AWio_app_nile {q : Bool} {esz bytes : Nat} {x y : Opd} {ys : List (List D)} (h : evr st.env x = some .nile) (hy : appended st.env y = some ys)
    (hr : ∀ r ∈ ys, r.length = esz) (hz : 0 < esz) (hn : ys.length ≤ 1000000000000000000) (hb : ys.length * bytes ≤ 140737488355328) (hK : ys = [] → K (put dst .nile st)) (hK' : ys ≠ [] → K (put dst (.own esz ys) st)) :
    AWio P q (.app esz bytes x y) dst K QP st := by
  simp only [AWio, h]
  exact .inl ⟨ys, hy, hr, hz, hn, hb, hK, hK'⟩
theorem AWio_app_h {esz bytes : Nat} {x y : Opd} {ys : List (List D)} (h : evr st.env x = some .nile ∨ evr st.env x = some .nils) (hy : appended st.env y = some ys)
    (hr : ∀ r ∈ ys, r.length = esz) (hz : 0 < esz) (hn : ys.length ≤ 1000000000000000000) (hb : ys.length * bytes ≤ 140737488355328) (hne : ys ≠ []) (hK : K (put dst (.hsl st.H.length 0 esz ys.length) ⟨st.env, st.H ++ [.mem (rowCells ys)]⟩)) :
    AWio P false (.app esz bytes x y) dst K QP st := by
  rcases h with h | h
  · simp only [AWio, h]
    exact .inr ⟨trivial, ys, hy, hr, hz, hn, hb, hne, hK⟩
  · simp only [AWio, h]
    exact .inr ⟨trivial, .inr ⟨ys, hy, hr, hz, hn, hb, hne, hK⟩⟩
theorem AWio_mks {esz bytes n : Nat} {z : List D} {l c : Opd} (hl : asIx st.env l = some (n : Int)) (hc : asIx st.env c = some (n : Int)) (h1 : n ≤ 1000000000000000000) (h2 : n * bytes ≤ 140737488355328) (hz : 0 < esz)
    (hzl : z.length = esz) (hK : K (put dst (.hsl st.H.length 0 esz n) ⟨st.env, st.H ++ [.mem (rowCells (List.replicate n z))]⟩)) : AWio P false (.mkslice esz bytes z l c) dst K QP st :=
  ⟨rfl, n, n, hl, hc, h1, h2, hz, hzl, .inr ⟨rfl, hK⟩⟩
theorem AWio_mks0 {esz bytes n : Nat} {z : List D} {l c : Opd} (hl : asIx st.env l = some 0) (hc : asIx st.env c = some (n : Int)) (h1 : n ≤ 1000000000000000000) (h2 : n * bytes ≤ 140737488355328) (hz : 0 < esz)
    (hzl : z.length = esz) (hK : K (put dst (.own esz []) st)) : AWio P false (.mkslice esz bytes z l c) dst K QP st :=
  ⟨rfl, 0, n, hl, hc, h1, h2, hz, hzl, .inl ⟨rfl, hK⟩⟩
theorem flatten_len {rows : List (List D)} {e : Nat} (he : ∀ r ∈ rows, r.length = e) : rows.flatten.length = rows.length * e := by
  induction rows with
  | nil => simp
  | cons r rows ih =>
    have h1 := he r (by simp)
    have h2 := ih fun r hr => he r (by simp [hr])
    simp only [List.flatten_cons, List.length_append, List.length_cons, h1, h2, Nat.add_mul, Nat.one_mul]; omega
theorem rowCells_len {rows : List (List D)} {e : Nat} (he : ∀ r ∈ rows, r.length = e) : (rowCells rows).length = rows.length * e := by simp only [rowCells, List.length_map, flatten_len he]
theorem spl_row {rows : List (List D)} {e k : Nat} {row : List D} (he : ∀ r ∈ rows, r.length = e) (hr : row.length = e) (hk : k < rows.length) : spl (rowCells rows) (k * e) (row.map AV.d) = rowCells (rows.set k row) := by
  unfold rowCells
  induction rows generalizing k with
  | nil => simp at hk
  | cons r rows ih =>
    have h1 := he r (by simp)
    cases k with
    | zero =>
      simp only [Nat.zero_mul, List.set_cons_zero, List.flatten_cons, List.map_append, spl, List.take_zero, List.nil_append, List.length_map, Nat.zero_add, hr]
      rw [List.drop_left' (by simp [h1])]
    | succ k =>
      have h2 := ih (fun r hr => he r (by simp [hr])) (k := k) (by simpa using hk)
      simp only [List.set_cons_succ, List.flatten_cons, List.map_append, ← h2, spl, List.length_map, hr]
      have e1 : (k + 1) * e = (r.map AV.d).length + k * e := by rw [Nat.add_mul]; simp [h1]; omega
      rw [e1, List.take_length_add_append, Nat.add_assoc, List.drop_length_add_append]
      simp only [List.append_assoc]
theorem AWio_clr {esz b off len : Nat} {z : List D} {x : Opd} {cells : List AV} (h : evr st.env x = some (.hsl b off esz len)) (hz : z.length = esz) (h0 : 0 < esz) (h1 : 0 < len) (hb : st.H[b]? = some (.mem cells)) (hle : off + len * esz ≤ cells.length)
    (hK : K (put dst (.tup []) ⟨unview st.env, st.H.set b (.mem (spl cells off (rowCells (List.replicate len z))))⟩)) : AWio P false (.clr esz z x) dst K QP st := by
  refine ⟨rfl, hz, h0, ?_⟩
  rw [h]
  exact ⟨rfl, h1, cells, hb, by simpa using hle, fun r hr => by rw [List.eq_of_mem_replicate hr]; exact hz, hK⟩
theorem renB_rows {ρ : Nat → Option Nat} {rows : List (List D)} : renB ρ [.mem (rowCells rows)] = some [.mem (rowCells rows)] := by
  have : renL ρ (rowCells rows) = some (rowCells rows) := renL_d _
  simp only [renB, Blk.ren, this]
theorem rowCells_take {rows : List (List D)} {e k : Nat} (he : ∀ r ∈ rows, r.length = e) : (rowCells rows).take (k * e) = rowCells (rows.take k) := by
  unfold rowCells
  induction rows generalizing k with
  | nil => simp
  | cons r rows ih =>
    have h1 := he r (by simp)
    cases k with
    | zero => simp
    | succ k =>
      have h2 := ih (fun r hr => he r (by simp [hr])) (k := k)
      simp only [List.take_succ_cons, List.flatten_cons, List.map_append, ← h2]
      have e1 : (k + 1) * e = (r.map AV.d).length + k * e := by rw [Nat.add_mul]; simp [h1]; omega
      rw [e1, List.take_length_add_append]
theorem AWio_isnil_d {neg : Bool} {x : Opd} {rows : List (List D)} (h : evr st.env x = some (.d (.sl rows))) (h1 : rows = [] → K (put dst (.d (.bool !neg)) st)) (h2 : K (put dst (.d (.bool neg)) st)) : AWio P false (.isnil neg x) dst K QP st := by
  refine ⟨rfl, ?_⟩
  unfold AWisnil; rw [h]; exact ⟨h1, h2⟩
theorem rows_len {α : Type} {f : α → List D} {n : Nat} {l : List α} (h : ∀ x, (f x).length = n) : ∀ r ∈ l.map f, r.length = n := by
  intro r hr
  obtain ⟨x, _, rfl⟩ := List.mem_map.1 hr
  exact h x
def WkVs (H : List Blk) (n : Nat) : List AV → List AV → Prop
  | [], [] => True
  | x :: xs, y :: ys => WkV H n x y ∧ WkVs H n xs ys
  | _, _ => False
theorem WkVs_get {H : List Blk} {n : Nat} : ∀ {as bs : List AV}, WkVs H n as bs → as.length = bs.length ∧ ∀ (j : Nat) (x y : AV), as[j]? = some x → bs[j]? = some y → WkV H n x y := by
  intro as
  induction as with
  | nil => intro bs h; cases bs with
    | nil => exact ⟨rfl, fun j x y h => by simp at h⟩
    | cons => exact h.elim
  | cons a as ih => intro bs h; cases bs with
    | nil => exact h.elim
    | cons b bs =>
      obtain ⟨h1, h2⟩ := ih h.2
      refine ⟨by simp [h1], fun j x y hx hy => ?_⟩
      cases j with
      | zero => simp at hx hy; subst hx; subst hy; exact h.1
      | succ j => simp at hx hy; exact h2 j x y hx hy
theorem WkV_agg {H : List Blk} {n : Nat} {as bs : List AV} (h : WkVs H n as bs) : WkV H n (.agg as) (.agg bs) := .agg as bs (WkVs_get h).1 (WkVs_get h).2
theorem WkV_tup {H : List Blk} {n : Nat} {as bs : List AV} (h : WkVs H n as bs) : WkV H n (.tup as) (.tup bs) := .tup as bs (WkVs_get h).1 (WkVs_get h).2
/-- A result told more weakly. -/
theorem Fin_wkv {rs : List RV} {Q : AOut → List Blk → Prop} {st : ASt} (x x' : AV) (h : rV st rs = some x) (hw : WkV st.H 0 x x') (hq : Q (.ret x') []) : Fin rs 0 Q .ret st :=
  Fin_wk' x x' [] h (Wk.of ⟨⟨x, rfl, .inl hw⟩, trivial⟩ (by simp [WkHs]) (by simp)) hq
theorem Fin_wkvn {rs : List RV} {Q : AOut → List Blk → Prop} {st : ASt} (x x' : AV) (h : rV st rs = some x) (hw : WkV st.H 0 x x') (hq : Q (.ret x') []) : Fin rs 0 Q .normal st :=
  Fin_wk x x' [] h (Wk.of ⟨⟨x, rfl, .inl hw⟩, trivial⟩ (by simp [WkHs]) (by simp)) hq
theorem WkVs_enum {as bs : List AV} (h : WkVs [] 0 as bs) (n : Nat) : ∀ p ∈ enum n bs, ∃ x, get (enum n as) p.1 = some x ∧ WkT [] 0 x p.2 := by
  induction as generalizing n bs with
  | nil => cases bs with
    | nil => intro p hp; simp [enum] at hp
    | cons => exact h.elim
  | cons a as ih => cases bs with
    | nil => exact h.elim
    | cons b bs =>
      intro p hp
      simp only [enum, List.mem_cons] at hp
      rcases hp with rfl | hp
      · exact ⟨a, by simp [enum, get], .inl h.1⟩
      · obtain ⟨x, hx, hk⟩ := ih h.2 (n + 1) p hp
        refine ⟨x, ?_, hk⟩
        have hne : n ≠ p.1 := by
          intro e
          have : ∀ (l : List AV) (m : Nat), p ∈ enum m l → m ≤ p.1 := by
            intro l
            induction l with
            | nil => intro m h; simp [enum] at h
            | cons y l ih2 =>
              intro m h
              simp only [enum, List.mem_cons] at h
              rcases h with rfl | h
              · exact Nat.le_refl _
              · have := ih2 (m + 1) h; omega
          have := this bs (n + 1) hp
          omega
        simp only [enum, get, if_neg hne]; exact hx
/-- A function may be called with more than its contract asks. -/
theorem CallsTo.wk {P : Program} {f : Nat} {args args' : List AV} {Q : AOut → List Blk → Prop} (h : CallsTo P f args' [] Q) (hw : WkVs [] 0 args args') : CallsTo P f args [] Q := by
  intro g vs w hvs hs
  have hl := (WkVs_get hw).1
  have hwk : Wk 0 ⟨enum 0 args, []⟩ ⟨enum 0 args', []⟩ := ⟨WkVs_enum hw 0, by simp, by simp, by simp⟩
  obtain ⟨h1, h2, h3, h4⟩ := hs.weak hwk
  refine (h _ vs w (by omega) (by rw [← hl]; exact h1)).mono ?_
  rintro e w' ⟨o, H', g', v, hq, he, hsim, htr, hφ, hlen, hmine⟩
  exact ⟨o, H', g', v, hq, he, hsim, h2.trans htr fun r hr => .inl (h3 r hr), fun b r hb => absurd hb (by simp), hlen, fun r hr => (hmine r hr).imp (h3 r) id⟩
theorem AWcall_detw {q : Bool} {f : Nat} {args cargs cargs' : List AV} {x : AV} (h : CallsTo P f cargs' [] fun o _ => o = .ret x) (ha : renL none1 args = some cargs) (hw : WkVs [] 0 cargs cargs') (hx : x.ren none1 = some x)
    (hK : K (put dst x st)) : AWcall P q f args dst K QP st := AWcall_det (h.wk hw) ha hx hK
end
end Go.AE

/- A growing result, opened: a block of the caller's own. -/
set_option linter.unusedVariables false
namespace Go.AE
open Go
def D.flat : D → Bool
  | .sl _ => false
  | _ => true
theorem PRel.flat {F F' : Nat → Nat} {w w' : World} {x : D} {v : Value} (hx : x.flat = true) (h : PRel F w x v) : PRel F' w' x v := by
  cases h with
  | int k n => exact .int k n
  | bool b => exact .bool b
  | str s => exact .str s
  | nil a cap => cases hx
  | sl => cases hx
/-- A result that grows told as what it reads as. -/
theorem CallsTo.unown {P : Program} {f : Nat} {args : List AV} {e : Nat} {rows : List (List D)} (h : CallsTo P f args [] fun o H' => o = .ret (.own e rows) ∧ H' = []) :
    CallsTo P f args [] fun o H' => o = .ret (.d (.sl rows)) ∧ H' = [] := by
  intro g vs w hvs hs
  refine (h g vs w hvs hs).mono ?_
  rintro e' w' ⟨o, H', g', v, ⟨rfl, rfl⟩, he, hsim, htr, hφ, hlen, hmine⟩
  have hwk : Wk 0 ⟨[(0, .own e rows)], []⟩ ⟨[(0, .d (.sl rows))], []⟩ := by (refine Wk.of ?_ ?_ (by simp) <;> repeat' (first | exact True.intro | exact ⟨_, rfl, wkt_same rfl⟩ | exact ⟨_, rfl, wkt_erase rfl⟩ | exact ⟨_, rfl, .inl .nild⟩ | exact ⟨_, rfl, .inl .nile⟩ | exact ⟨_, rfl, wkt_nils⟩ | exact wkt_same rfl | exact wkt_erase rfl | exact .inl .nild | exact .inl .nile | exact wkt_nils | exact WkB.same rfl | exact WkB_rows | exact WkB_nil | exact .dead _ | exact .iter _ _ | exact .glob _ _ | refine WkB_cons ?_ ?_ | refine And.intro ?_ ?_))
  obtain ⟨h1, h2, h3, h4⟩ := hsim.weak hwk
  exact ⟨_, _, _, v, ⟨rfl, rfl⟩, he, h1, htr.trans h2 hmine, fun b r hb => absurd hb (by simp), Nat.le_refl _, fun r hr => hmine r (h3 r hr)⟩
/-- A growing result of a call that is handed no right to grow is new: it may be written. -/
theorem CallsTo.opened {P : Program} {f : Nat} {args : List AV} {e : Nat} {rows : List (List D)} (h : CallsTo P f args [] fun o H' => o = .ret (.own e rows) ∧ H' = []) (hne : rows ≠ [])
    (hfl : ∀ r ∈ rows, ∀ x ∈ r, x.flat = true) (hargs : ∀ (t e : Nat) (r : List (List D)), args[t]? ≠ some (.own e r)) :
    CallsTo P f args [] fun o H' => o = .ret (.hsl 0 0 e rows.length) ∧ H' = [.mem (rowCells rows)] := by
  intro g vs w hvs hs
  refine (h g vs w hvs hs).mono ?_
  rintro e' w' ⟨o, H', g', v, ⟨rfl, rfl⟩, he, hsim, htr, hφ, hlen, hmine⟩
  have hown := hsim.own (.tmp 0) e rows v (by simp [AP, get, AOut.val]) (by simp [RP])
  have hn : ∀ b, g'.φ b = none := by
    intro b
    cases hb : g'.φ b with
    | none => rfl
    | some r => exact absurd (hsim.lt b r hb).2.2 (by simp)
  rcases hown with ⟨_, h0⟩ | ⟨r, cap, c, te, hv, hblk, hF, hle, hcap, hcs, hrows⟩
  · exact absurd h0 hne
  have howner : Owner ⟨[(0, .own e rows)], []⟩ g'.φ ⟨#[v], []⟩ w' (.tmp 0) r := ⟨e, rows, v, by simp [AP, get, AOut.val], by simp [RP], _, _, hv⟩
  have hfresh : w.heap.size ≤ r := by
    rcases hmine r (.inr ⟨_, howner⟩) with h1 | h1
    · exfalso
      rcases h1 with ⟨b, hb⟩ | ⟨p, e1, rows1, v1, hp, _⟩
      · exact absurd (hs.lt b r hb).2.2 (by simp)
      · cases p with
        | tmp t =>
          simp only [AP, get_enum0] at hp
          exact hargs t e1 rows1 hp
        | cell b j => simp [AP] at hp
    · exact h1
  have hlt : r < w'.heap.size := by
    have := (Array.getElem?_eq_some_iff.1 hblk).1; exact this
  have hrel := hsim.env 0 (.own e rows) (by simp [get, AOut.val])
  simp only [AV.erase] at hrel
  have hv0 : (⟨#[v], []⟩ : Act).tmps.getD 0 undef = v := by simp
  rw [hv0] at hrel
  have hcells : ∀ (j : Nat) (x : AV), (rowCells rows)[j]? = some x → x.leaf = true ∧ ∃ u, c[j]? = some u ∧ ∀ F φ w, Rel F φ w x.erase u := by
    cases hrel with
    | d _ _ h =>
      cases h with
      | nil => exact absurd rfl hne
      | sl _ ad cap' esz vs' hesz hl1 _ hfix hc hr =>
        injection hv with hv1 hv2
        injection hv1 with hv1
        subst hv1
        intro j x hx
        unfold rowCells at hx
        rw [List.getElem?_map, Option.map_eq_some_iff] at hx
        obtain ⟨y, hy, rfl⟩ := hx
        have hes : esz = e := by
          obtain ⟨r0, hr0⟩ := List.exists_mem_of_ne_nil _ hne
          rw [← hesz r0 hr0, hrows r0 hr0]
        subst hes
        have hj : j < vs'.length := by
          rw [hl1, ← flatten_len hrows]; exact (List.getElem?_eq_some_iff.1 hy).1
        have hu : vs'[j]? = some vs'[j] := by simp [hj]
        have hcell := hc j _ hu
        have hyf : y.flat = true := by
          obtain ⟨r1, hr1, hy1⟩ := List.mem_flatten.1 (List.mem_of_getElem? hy)
          exact hfl r1 hr1 y hy1
        refine ⟨rfl, vs'[j], ?_, fun F φ w => .d _ _ ((hr j y _ hy hu).flat hyf)⟩
        have e1 : (⟨r, 0, none⟩ : Addr).add j = ⟨r, j, none⟩ := by
          unfold Addr.add; split
          · rename_i h0; subst h0; rfl
          · simp
        rw [e1, cell_of_row w' r j c te (0, 0) hblk] at hcell
        exact hcell
  have hno : ∀ (p : Place) (e1 : Nat) (rows1 : List (List D)), AP ⟨[(0, (AOut.ret (.hsl 0 0 e rows.length)).val)], [.mem (rowCells rows)]⟩ p ≠ some (.own e1 rows1) := by
    intro p e1 rows1 hp
    cases p with
    | tmp t =>
      simp only [AP, AOut.val, get] at hp
      split at hp <;> cases hp
    | cell b j =>
      simp only [AP] at hp
      split at hp
      · rename_i cells hb
        have : b = 0 := by have := (List.getElem?_eq_some_iff.1 hb).1; simpa using this
        subst this
        simp only [List.getElem?_cons_zero, Option.some.injEq, Blk.mem.injEq] at hb
        subst hb
        unfold rowCells at hp
        rw [List.getElem?_map, Option.map_eq_some_iff] at hp
        obtain ⟨y, _, hy⟩ := hp
        cases hy
      · cases hp
  refine ⟨.ret (.hsl 0 0 e rows.length), [.mem (rowCells rows)], ⟨fun b => if b = 0 then some r else none, fun i => if i = r then 0 else g'.F i⟩, v, ⟨rfl, rfl⟩, he, ?_, ?_, fun b r hb => absurd hb (by simp), by simp, ?_⟩
  · refine { size := by simp, env := ?_, defers := rfl, inj := ?_, lt := ?_, dom := ?_, mem := ?_, iter := ?_, glob := ?_, own := ?_, excl := ?_, apart := ?_, view := ?_ }
    · intro t x hx
      simp only [AOut.val, get] at hx
      split at hx
      · rename_i ht; subst ht
        injection hx with hx; subst hx
        rw [hv0, hv]
        exact .hsl 0 0 e rows.length r cap _ (by simp) hle (fun _ => rfl)
      · cases hx
    · intro b b' q hb hb'
      simp only at hb hb'
      split at hb <;> split at hb' <;> simp_all
    · intro b q hb
      simp only at hb ⊢
      split at hb
      · rename_i h0; subst h0; injection hb with hb; subst hb; exact ⟨hlt, by simp, by simp⟩
      · cases hb
    · intro b k hk _
      have : b = 0 := by have := (List.getElem?_eq_some_iff.1 hk).1; simpa using this
      subst this
      exact ⟨r, by simp⟩
    · intro b cells q hb hq
      have : b = 0 := by have := (List.getElem?_eq_some_iff.1 hb).1; simpa using this
      subst this
      simp only [List.getElem?_cons_zero, Option.some.injEq, Blk.mem.injEq] at hb
      subst hb
      simp only [if_true, Option.some.injEq] at hq
      subst hq
      refine ⟨c, te, hblk, ?_, fun j x hx => ?_⟩
      · rw [rowCells_len hrows, hcs]; exact Nat.mul_le_mul_right _ hle
      · obtain ⟨k1, u, k2, k3⟩ := hcells j x hx
        exact ⟨k1, u, k2, k3 _ _ _⟩
    · intro b s pos q hb
      have : b = 0 := by have := (List.getElem?_eq_some_iff.1 hb).1; simpa using this
      subst this
      simp at hb
    · intro b s pos q hb
      have : b = 0 := by have := (List.getElem?_eq_some_iff.1 hb).1; simpa using this
      subst this
      simp at hb
    · exact fun p e1 rows1 v1 hp _ => absurd hp (hno p e1 rows1)
    · rintro p p' q ⟨e1, rows1, v1, hp, _⟩
      exact absurd hp (hno p e1 rows1)
    · rintro p q b ⟨e1, rows1, v1, hp, _⟩
      exact absurd hp (hno p e1 rows1)
    · intro t org e1 rows1 hx
      simp only [AOut.val, get] at hx
      split at hx <;> cases hx
  · refine ⟨htr.os, htr.tape, htr.output, htr.size, fun q hq hn' => ?_, ⟨fun q hq => ?_, htr.stab.cell⟩⟩
    · have := htr.other q hq hn'
      refine ⟨this.1, ?_⟩
      have hqr : q ≠ r := by omega
      simp only [if_neg hqr]; exact this.2
    · have hqr : q ≠ r := by omega
      simp only [if_neg hqr]; exact htr.stab.le q hq
  · rintro q (⟨b, hb⟩ | ⟨p, e1, rows1, v1, hp, _⟩)
    · simp only at hb
      split at hb
      · injection hb with hb; subst hb; exact .inr hfresh
      · cases hb
    · exact absurd hp (hno p e1 rows1)
end Go.AE

/- From a reading of the arguments to abstract values; from a call's contract to what the row asks. -/
set_option linter.unusedVariables false
namespace Go.AE
open Go

/-- The cells of a plain type. -/
inductive LT where
  | int (k : IntKind)
  | bool
  | str
  | sl (ls : List LT)
  deriving Inhabited

def flatFs (flat : TypeId → Option (List LT)) (sz : TypeId → Nat) : List Field → Nat → Option (List LT)
  | [], _ => some []
  | f :: fs, o => if f.offset = o then (match flat f.type with
      | some l => if l.length = sz f.type then (match flatFs flat sz fs (o + l.length) with | some r => some (l ++ r) | none => none) else none
      | none => none) else none

def flatT (P : Program) : Nat → TypeId → Option (List LT)
  | 0, _ => none
  | n + 1, t => match P.underlying t with
    | some (.int k) => some [.int k]
    | some .bool => some [.bool]
    | some .string => some [.str]
    | some (.slice e) => match flatT P n e with
      | some ls => if 0 < ls.length ∧ ls.length = P.cellsOf e then some [.sl ls] else none
      | none => none
    | some (.struct fs) => match flatFs (flatT P n) P.cellsOf fs.toList 0 with
      | some ls => if ls.length = P.cellsOf t then some ls else none
      | none => none
    | _ => none

inductive HasT : LT → D → Prop where
  | int (k : IntKind) (n : Int) (h : (Lit.int k n).wf = true) : HasT (.int k) (.int k n)
  | bool (b : Bool) : HasT .bool (.bool b)
  | str (s : List UInt8) (h : s.length ≤ maxLen) : HasT .str (.str s)
  | sl (ls : List LT) (rows : List (List D)) (hl : rows.length ≤ maxLen) (h0 : ∀ r ∈ rows, r.length = ls.length) (h : ∀ r ∈ rows, ∀ (j : Nat) (l : LT) (x : D), ls[j]? = some l → r[j]? = some x → HasT l x) : HasT (.sl ls) (.sl rows)
def HasL (ls : List LT) (ds : List D) : Prop := ds.length = ls.length ∧ ∀ (j : Nat) (l : LT) (x : D), ls[j]? = some l → ds[j]? = some x → HasT l x
theorem HasL.nil : HasL [] [] := ⟨rfl, fun j l x h => by simp at h⟩
theorem HasL.one {l : LT} {x : D} (h : HasT l x) : HasL [l] [x] := ⟨rfl, fun j l' x' h1 h2 => by
  cases j with
  | zero => simp at h1 h2; subst h1; subst h2; exact h
  | succ j => simp at h1⟩
theorem HasL.append {l l' : List LT} {d d' : List D} (h : HasL l d) (h' : HasL l' d') : HasL (l ++ l') (d ++ d') := by
  refine ⟨by simp [h.1, h'.1], fun j x y h1 h2 => ?_⟩
  by_cases hj : j < l.length
  · rw [List.getElem?_append_left hj] at h1
    rw [List.getElem?_append_left (by rw [h.1]; exact hj)] at h2
    exact h.2 j x y h1 h2
  · rw [List.getElem?_append_right (by omega)] at h1
    rw [List.getElem?_append_right (by rw [h.1]; omega), h.1] at h2
    exact h'.2 _ x y h1 h2

noncomputable def sizes (w : World) (r : Nat) : Nat := match w.heap[r]? with | some (.cells c _ _) => c.size | _ => 0
theorem fixed_of_cells {w : World} {ad : Addr} {vs : List Value} (h : cellsAt w ad vs) : fixedAt (sizes w) ad vs.length := by
  intro j hj
  have h1 := h j vs[j] (by simp [hj])
  obtain ⟨h2, _⟩ := cell_add h1
  rw [h2] at h1
  unfold World.cell? at h1
  unfold sizes
  simp only at h1
  split at h1
  · rename_i c e fr hc
    simp only [hc]
    simp at h1
    exact (Array.getElem?_eq_some_iff.1 h1).1
  · cases h1

section
variable {H : Type} {enc : TypeId × Value → H} {P : Program} {w : World} {base : Nat} {spare : Nat → Bool} {held : Bool}

/-- What a list of cells reads as. -/
def Reads (w : World) (ls : List LT) (cs : List Value) : Prop := ∃ ds : List D, cs.length = ds.length ∧ HasL ls ds ∧ ∀ (j : Nat) (y : D) (u : Value), ds[j]? = some y → cs[j]? = some u → PRel (sizes w) w y u

theorem reads_fs {flat : TypeId → Option (List LT)} {sz : TypeId → Nat} {cs : List Value} : ∀ (fs : List Field) (o : Nat) (ls : List LT), flatFs flat sz fs o = some ls →
    (∀ f ∈ fs, ∀ l, flat f.type = some l → Reads w l ((cs.drop f.offset).take (sz f.type))) → cs.length = o + ls.length → Reads w ls (cs.drop o) := by
  intro fs
  induction fs with
  | nil =>
    intro o ls h _ hl
    simp [flatFs] at h; subst h
    refine ⟨[], by simp at hl ⊢; omega, .nil, fun j y u h => by simp at h⟩
  | cons f fs ih =>
    intro o ls h hf hl
    simp only [flatFs] at h
    split at h
    · rename_i ho
      split at h
      · rename_i l hfl
        split at h
        · rename_i hls
          split at h
          · rename_i r hr
            injection h with h; subst h
            rw [List.length_append] at hl
            obtain ⟨d1, e1, h1, p1⟩ := hf f (by simp) l hfl
            obtain ⟨d2, e2, h2, p2⟩ := ih (o + l.length) r hr (fun g hg => hf g (by simp [hg])) (by omega)
            rw [ho, ← hls] at e1 p1
            have hd1 : d1.length = l.length := h1.1
            have hcs : cs.drop o = (cs.drop o).take l.length ++ cs.drop (o + l.length) := by
              conv => lhs; rw [← List.take_append_drop l.length (cs.drop o), List.drop_drop]
            have htl : ((cs.drop o).take l.length).length = l.length := by rw [e1, hd1]
            refine ⟨d1 ++ d2, ?_, h1.append h2, ?_⟩
            · rw [hcs, List.length_append, List.length_append, e1, e2]
            · intro j y u hy hu
              rw [hcs] at hu
              by_cases hj : j < l.length
              · rw [List.getElem?_append_left (by omega)] at hy
                rw [List.getElem?_append_left (by omega)] at hu
                exact p1 j y u hy hu
              · rw [List.getElem?_append_right (by omega), hd1] at hy
                rw [List.getElem?_append_right (by omega), htl] at hu
                exact p2 _ y u hy hu
          · cases h
        · cases h
      · cases h
    · cases h

theorem choose_rows {Q : Nat → List D → List Value → Prop} : ∀ (n : Nat), (∀ i, i < n → ∃ r c, Q i r c) → ∃ (R : List (List D)) (C : List (List Value)), R.length = n ∧ C.length = n ∧ ∀ i r c, R[i]? = some r → C[i]? = some c → Q i r c := by
  intro n
  induction n with
  | zero => intro _; exact ⟨[], [], rfl, rfl, fun i r c h => by simp at h⟩
  | succ n ih =>
    intro h
    obtain ⟨R, C, h1, h2, h3⟩ := ih fun i hi => h i (by omega)
    obtain ⟨r, c, hq⟩ := h n (by omega)
    refine ⟨R ++ [r], C ++ [c], by simp [h1], by simp [h2], fun i r' c' hr hc => ?_⟩
    by_cases hi : i < n
    · rw [List.getElem?_append_left (by omega)] at hr hc
      exact h3 i r' c' hr hc
    · have hin : i = n := by
        have := (List.getElem?_eq_some_iff.1 hr).1
        simp [h1] at this; omega
      subst hin
      rw [List.getElem?_append_right (by omega)] at hr hc
      simp [h1] at hr; simp [h2] at hc
      subst hr; subst hc; exact hq

theorem reads : ∀ (n m : Nat) (t : TypeId) (cs : List Value) (x : DataW H × List MemPlace) (ls : List LT), DataW.trod enc P w base spare held n t cs = some x → flatT P m t = some ls → Reads w ls cs := by
  intro n
  induction n with
  | zero => intro m t cs x ls h; simp [DataW.trod] at h
  | succ n ih =>
    intro m t cs x ls h hf
    cases m with
    | zero => simp [flatT] at hf
    | succ m =>
      unfold flatT at hf
      split at hf
      · rename_i k hk
        injection hf with hf; subst hf
        obtain ⟨z, rfl, _, hw⟩ := DataW.trod_int hk h
        exact ⟨[.int k z], rfl, .one (.int k z hw), fun j y u hy hu => by
          cases j with
          | zero => simp at hy hu; subst hy; subst hu; exact .int k z
          | succ j => simp at hy⟩
      · rename_i hk
        injection hf with hf; subst hf
        obtain ⟨b, rfl, _⟩ := DataW.trod_bool hk h
        exact ⟨[.bool b], rfl, .one (.bool b), fun j y u hy hu => by
          cases j with
          | zero => simp at hy hu; subst hy; subst hu; exact .bool b
          | succ j => simp at hy⟩
      · rename_i hk
        injection hf with hf; subst hf
        obtain ⟨s, rfl, _, hw⟩ := DataW.trod_string hk h
        have es : s = ⟨s.data.toList.toArray⟩ := by cases s; simp
        refine ⟨[.str s.data.toList], rfl, .one (.str _ (by rw [Array.length_toList]; exact hw)), fun j y u hy hu => ?_⟩
        cases j with
        | zero =>
          simp at hy hu; subst hy; subst hu
          have := PRel.str (F := sizes w) (w := w) s.data.toList
          rwa [← es] at this
        | succ j => simp at hy
      · rename_i e hk
        split at hf
        · rename_i l hl
          split at hf
          · rename_i hls
            injection hf with hf; subst hf
            obtain ⟨hpos, hce⟩ := hls
            rcases DataW.trod_slice hk h with ⟨rfl, _⟩ | ⟨a, len, cap, elems, rest, n', hn, rfl, hx, hb, hlc, hcm, hel, hget, _, _⟩
            · refine ⟨[.sl []], rfl, .one (.sl l [] (by simp) (by simp) (by simp)), fun j y u hy hu => ?_⟩
              cases j with
              | zero => simp at hy hu; subst hy; subst hu; exact .nil _ _
              | succ j => simp at hy
            · injection hn with hn; subst hn
              have hrow : ∀ i, i < len → ∃ (r : List D) (c : List Value), c.length = r.length ∧ HasL l r ∧ (∀ (j : Nat) (y : D) (u : Value), r[j]? = some y → c[j]? = some u → PRel (sizes w) w y u) ∧ ∀ k u, c[k]? = some u → w.cell? (a.add (i * l.length + k)) = some u := by
                intro i hi
                have hg := hget i hi
                have : i < elems.length := by omega
                rw [List.getElem?_eq_getElem this, Option.bind_eq_some_iff] at hg
                obtain ⟨c, hc, ht⟩ := hg
                obtain ⟨r, h1, h2, h3⟩ := ih m e c _ l ht hl
                refine ⟨r, c, h1, h2, h3, fun k u hu => ?_⟩
                obtain ⟨_, hclen, hcell⟩ := World.cells?_some hc
                have hk' : k < P.cellsOf e := by have := (List.getElem?_eq_some_iff.1 hu).1; omega
                have := hcell k hk'
                rw [Addr.add_add, ← hce] at this
                rw [this]; exact hu
              obtain ⟨R, C, hR, hC, hRC⟩ := choose_rows len hrow
              have hRl : ∀ r ∈ R, r.length = l.length := by
                intro r hr
                obtain ⟨i, hi, rfl⟩ := List.mem_iff_getElem.1 hr
                exact (hRC i _ C[i] (List.getElem?_eq_getElem hi) (List.getElem?_eq_getElem (by omega))).2.1.1
              have hCl : ∀ c ∈ C, c.length = l.length := by
                intro c hc
                obtain ⟨i, hi, rfl⟩ := List.mem_iff_getElem.1 hc
                have := hRC i R[i] _ (List.getElem?_eq_getElem (by omega)) (List.getElem?_eq_getElem hi)
                rw [this.1, this.2.1.1]
              have hsplit : ∀ j : Nat, j = j / l.length * l.length + j % l.length := fun j => by rw [Nat.mul_comm]; exact (Nat.div_add_mod j l.length).symm
              have hcells : cellsAt w a C.flatten := by
                intro j u hu
                rw [hsplit j, flatten_get C l.length hCl _ _ (Nat.mod_lt _ hpos), Option.bind_eq_some_iff] at hu
                obtain ⟨c, hc, hu⟩ := hu
                have hi : j / l.length < len := by have := (List.getElem?_eq_some_iff.1 hc).1; omega
                have := (hRC _ R[j / l.length] c (by simp [hR, hi]) hc).2.2.2 _ u hu
                rw [← hsplit j] at this; exact this
              have hflen : ∀ {α : Type} (L : List (List α)) (k : Nat), (∀ r ∈ L, r.length = k) → L.flatten.length = L.length * k := by
                intro α L k hL
                induction L with
                | nil => simp
                | cons r L ih3 =>
                  have h1 := hL r (by simp)
                  have h2 := ih3 fun r hr => hL r (by simp [hr])
                  simp only [List.flatten_cons, List.length_append, List.length_cons, h1, h2, Nat.add_mul, Nat.one_mul]; omega
              refine ⟨[.sl R], rfl, .one (.sl l R (by omega) hRl ?_), fun j y u hy hu => ?_⟩
              · intro r hr j l' x' h1 h2
                obtain ⟨i, hi, rfl⟩ := List.mem_iff_getElem.1 hr
                exact (hRC i _ C[i] (List.getElem?_eq_getElem hi) (List.getElem?_eq_getElem (by omega))).2.1.2 j l' x' h1 h2
              · cases j with
                | succ j => simp at hy
                | zero =>
                  simp at hy hu; subst hy; subst hu
                  have := PRel.sl (F := sizes w) (w := w) R a cap l.length C.flatten hRl (by rw [hflen C _ hCl, hC, hR]) (by omega) (fixed_of_cells hcells) hcells ?_
                  · rwa [hR] at this
                  · intro j y u hy hu
                    rw [hsplit j, flatten_get R l.length hRl _ _ (Nat.mod_lt _ hpos), Option.bind_eq_some_iff] at hy
                    rw [hsplit j, flatten_get C l.length hCl _ _ (Nat.mod_lt _ hpos), Option.bind_eq_some_iff] at hu
                    obtain ⟨r, hr, hy⟩ := hy
                    obtain ⟨c, hc, hu⟩ := hu
                    exact (hRC _ r c hr hc).2.2.1 _ y u hy hu
          · cases hf
        · cases hf
      · rename_i fs hk
        split at hf
        · rename_i l hl
          split at hf
          · rename_i hls
            injection hf with hf; subst hf
            obtain ⟨xs, n', hn, _, hcl, hxl, hget⟩ := DataW.trod_struct hk h
            injection hn with hn; subst hn
            have := reads_fs (w := w) (cs := cs) fs.toList 0 l hl ?_ (by omega)
            · simpa using this
            · intro f hfm l' hl'
              obtain ⟨i, hi, rfl⟩ := List.mem_iff_getElem.1 hfm
              have hi' : i < fs.size := by simpa using hi
              have hg := hget i fs[i] (by simp [hi'])
              have : i < xs.length := by omega
              rw [List.getElem?_eq_getElem this] at hg
              exact ih m _ _ _ l' hg hl'
          · cases hf
        · cases hf
      · cases hf
end

def AV.plain : AV → Bool
  | .d _ => true
  | .agg _ => true
  | _ => false
theorem AV.plain_erase {x : AV} (h : x.plain = true) : x.erase = x := by cases x <;> simp_all [AV.plain, AV.erase]
theorem sim_start {w : World} {args : List AV} {vs : Array Value} (hs : vs.size = args.length) (hp : ∀ x ∈ args, x.plain = true)
    (hr : ∀ (j : Nat) (x : AV) (v : Value), args[j]? = some x → vs[j]? = some v → Rel (sizes w) (fun _ => none) w x v) : Sim args.length ⟨enum 0 args, []⟩ ⟨fun _ => none, sizes w⟩ ⟨vs, []⟩ w ∧ ∀ r, ¬ Mine ⟨enum 0 args, []⟩ ⟨fun _ => none, sizes w⟩ ⟨vs, []⟩ w r := by
  have hno : ∀ p e rows, AP ⟨enum 0 args, []⟩ p ≠ some (.own e rows) := by
    intro p e rows h
    cases p with
    | tmp t =>
      simp only [AP, get_enum0] at h
      have := hp _ (List.mem_of_getElem? h)
      simp [AV.plain] at this
    | cell b j => simp [AP] at h
  have hown : ∀ p r, ¬ Owner ⟨enum 0 args, []⟩ (fun _ => none) ⟨vs, []⟩ w p r := by
    rintro p r ⟨e, rows, v, h, _⟩
    exact hno p e rows h
  refine ⟨⟨by simp [hs], ?_, rfl, ?_, ?_, ?_, ?_, ?_, ?_, ?_, ?_, ?_, ?_⟩, ?_⟩
  · intro t x h
    rw [get_enum0] at h
    rw [AV.plain_erase (hp x (List.mem_of_getElem? h))]
    have ht : t < vs.size := by have := (List.getElem?_eq_some_iff.1 h).1; omega
    refine hr t x _ h ?_
    simp [Array.getD_eq_getD_getElem?, ht]
  · intro b b' r h; cases h
  · intro b r h; cases h
  · intro b k h; simp at h
  · intro b cells r h; simp at h
  · intro b s pos r h; simp at h
  · intro b s pos r h; simp at h
  · intro p e rows v h; exact absurd h (hno p e rows)
  · intro p p' r h; exact absurd h (hown p r)
  · intro p r b h; exact absurd h (hown p r)
  · intro t org e rows h
    rw [get_enum0] at h
    have := hp _ (List.mem_of_getElem? h)
    simp [AV.plain] at this
  · rintro r (⟨b, h⟩ | ⟨p, h⟩)
    · cases h
    · exact hown p r h

/-- A law's call: true, and what was there is as it was. -/
theorem CallsTo.law {P : Program} {f : Nat} {args : List AV} (h : CallsTo P f args [] fun o _ => o = .ret (.d (.bool true))) {w : World} {vs : Array Value} (hs : vs.size = args.length) (hp : ∀ x ∈ args, x.plain = true)
    (hr : ∀ (j : Nat) (x : AV) (v : Value), args[j]? = some x → vs[j]? = some v → Rel (sizes w) (fun _ => none) w x v) : Calls P f vs w fun e w' => e = .returned (.bool true) ∧ RowKit.Below w.heap.size w w' := by
  obtain ⟨h1, h2⟩ := sim_start hs hp hr
  refine (h _ vs w hs h1).mono ?_
  rintro e w' ⟨o, H', g', v, rfl, rfl, hsim, htr, _, _, _⟩
  have hv : Rel g'.F g'.φ w' (.d (.bool true)) v := hsim.env 0 (.d (.bool true)) (by simp [get, AOut.val])
  cases hv with
  | d _ _ hv =>
    cases hv
    exact ⟨rfl, ⟨htr.os, htr.tape, htr.output, htr.size, fun k hk => (htr.other k hk (h2 k)).1⟩⟩

/-- The same where a package variable is read: the arguments lie in no memory. -/
theorem CallsTo.lawG {P : Program} {f : Nat} {args : List AV} {ob : Obj} (h : CallsTo P f args [.glob 0 ob] fun o H' => o = .ret (.d (.bool true)) ∧ H' = [.glob 0 ob]) {w : World} (h0 : w.heap[0]? = some ob) {vs : Array Value} (hs : vs.size = args.length)
    (hp : ∀ x ∈ args, x.plain = true) (hr : ∀ (j : Nat) (x : AV) (v : Value), args[j]? = some x → vs[j]? = some v → ∀ F φ, Rel F φ w x v) : Calls P f vs w fun e w' => e = .returned (.bool true) ∧ RowKit.Below w.heap.size w w' := by
  have hlt : 0 < w.heap.size := (Array.getElem?_eq_some_iff.1 h0).1
  have hno : ∀ p e rows, AP ⟨enum 0 args, [.glob 0 ob]⟩ p ≠ some (.own e rows) := by
    intro p e rows h
    cases p with
    | tmp t =>
      simp only [AP, get_enum0] at h
      have := hp _ (List.mem_of_getElem? h)
      simp [AV.plain] at this
    | cell b j =>
      simp only [AP] at h
      match b with
      | 0 => simp at h
      | b + 1 => simp at h
  have hown : ∀ φ p r, ¬ Owner ⟨enum 0 args, [.glob 0 ob]⟩ φ ⟨vs, []⟩ w p r := by
    rintro φ p r ⟨e, rows, v, h, _⟩
    exact hno p e rows h
  have hs0 : Sim args.length ⟨enum 0 args, [.glob 0 ob]⟩ ⟨fun b => if b = 0 then some 0 else none, fun _ => 0⟩ ⟨vs, []⟩ w := by
    refine { size := by simp [hs], env := ?_, defers := rfl, inj := ?_, lt := ?_, dom := ?_, mem := ?_, iter := ?_, glob := ?_, own := ?_, excl := ?_, apart := ?_, view := ?_ }
    · intro t x h
      rw [get_enum0] at h
      rw [AV.plain_erase (hp x (List.mem_of_getElem? h))]
      have ht : t < vs.size := by have := (List.getElem?_eq_some_iff.1 h).1; omega
      refine hr t x _ h ?_ _ _
      simp [Array.getD_eq_getD_getElem?, ht]
    · intro b b' r h h'
      simp only at h h'
      split at h <;> split at h' <;> simp_all
    · intro b r h
      simp only at h
      split at h
      · rename_i hb; subst hb; injection h with h; subst h; exact ⟨hlt, rfl, by simp⟩
      · cases h
    · intro b k h _
      match b with
      | 0 => exact ⟨0, by simp⟩
      | b + 1 => simp at h
    · intro b cells r h
      match b with
      | 0 => simp at h
      | b + 1 => simp at h
    · intro b s pos r h
      match b with
      | 0 => simp at h
      | b + 1 => simp at h
    · intro b r0 o r h hr
      match b with
      | 0 =>
        simp at h; obtain ⟨rfl, rfl⟩ := h
        simp at hr; subst hr; exact ⟨rfl, h0⟩
      | b + 1 => simp at h
    · intro p e rows v h; exact absurd h (hno p e rows)
    · intro p p' r h; exact absurd h (hown _ p r)
    · intro p r b h; exact absurd h (hown _ p r)
    · intro t org e rows h
      rw [get_enum0] at h
      have := hp _ (List.mem_of_getElem? h)
      simp [AV.plain] at this
  refine (h _ vs w hs hs0).mono ?_
  rintro e w' ⟨o, H', g', v, ⟨rfl, rfl⟩, rfl, hsim, htr, hφ, _, _⟩
  have hv : Rel g'.F g'.φ w' (.d (.bool true)) v := hsim.env 0 (.d (.bool true)) (by simp [get, AOut.val])
  cases hv with
  | d _ _ hv =>
    cases hv
    refine ⟨rfl, ⟨htr.os, htr.tape, htr.output, htr.size, fun k hk => ?_⟩⟩
    by_cases hk0 : k = 0
    · subst hk0
      have := (hsim.glob 0 0 ob 0 rfl (hφ 0 0 (by simp) (by simp))).2
      rw [this, h0]
    · refine (htr.other k hk ?_).1
      rintro (⟨b, hb⟩ | ⟨p, hpo⟩)
      · simp only at hb
        split at hb
        · injection hb with hb; exact hk0 hb.symm
        · cases hb
      · exact hown _ p k hpo

/-- An argument's cells as one abstract value. -/
theorem rel_agg {w : World} {ls : List LT} {cs : Array Value} (h : Reads w ls cs.toList) : ∃ ds, HasL ls ds ∧ Rel (sizes w) (fun _ => none) w (.agg (ds.map AV.d)) (.agg cs) := by
  obtain ⟨ds, h1, h2, h3⟩ := h
  refine ⟨ds, h2, ?_⟩
  have := Rel.agg (F := sizes w) (φ := fun _ => none) (w := w) (ds.map AV.d) cs.toList (by simp [h1]) ?_
  · simpa using this
  · intro j x u hx hu
    rw [List.getElem?_map, Option.map_eq_some_iff] at hx
    obtain ⟨y, hy, rfl⟩ := hx
    exact .d _ _ (h3 j y u hy hu)
theorem rel_one {w : World} {l : LT} {v : Value} (h : Reads w [l] [v]) : ∃ d, HasT l d ∧ Rel (sizes w) (fun _ => none) w (.d d) v := by
  obtain ⟨ds, h1, h2, h3⟩ := h
  match ds, h1 with
  | [d], _ => exact ⟨d, h2.2 0 l d rfl rfl, .d _ _ (h3 0 d v rfl rfl)⟩
theorem struct_val {P : Program} {w : World} {base : Nat} {t : TypeId} {fs : Array Field} {v : Value} (hu : P.underlying t = some (.struct fs)) (h : Value.okWide P w .any base t v) : ∃ cs, v = .agg cs := by
  unfold Value.okWide at h
  rw [hu] at h
  obtain ⟨cs, h, _⟩ := h
  exact ⟨cs, h⟩
theorem trodAll_consP {H : Type} {enc : TypeId × Value → H} {P : Program} {w : World} {base : Nat} {spare : Nat → Bool} {held : Bool} {t : TypeId} {ts : List TypeId} {v : Value} {vs : List Value} {d : DataW H} {ds : List (DataW H)} {p p' : List MemPlace}
    (h : DataW.Trod enc P w base spare held t v d p) (hs : DataW.TrodAll enc P w base spare held ts vs ds p') : DataW.TrodAll enc P w base spare held (t :: ts) (v :: vs) (d :: ds) (p ++ p') := ⟨p, p', h, hs, rfl⟩
end Go.AE

/- The codes of the functions, as the evaluator has them, in pieces (printed by gen2.py). -/
set_option maxRecDepth 100000
set_option linter.unusedVariables false
namespace Go.AE
structure Nums where
  law11_PairsetMatchesReference : Nat
  law11_PairsetMatchesSets : Nat
  law11_PairsetOrder : Nat
  law11_PairsetSubsets : Nat
  law23_LivenessMatchesReference : Nat
  law23_LivenessEquations : Nat
  law23_LivenessSound : Nat
  law23_LivenessNecessary : Nat
  law23_LivenessAppended : Nat
  law11_PairsetDrops : Nat
  law11_PairsetKeeps : Nat
  law11_awake : Nat
  ref11_Make : Nat
  pairset_Missing : Nat
  ref11_Missing : Nat
  pairset_Sorted : Nat
  ref11_Sorted : Nat
  ref11_Same : Nat
  pairset_Make : Nat
  pairset_Has : Nat
  ref11_Has : Nat
  pairset_Add : Nat
  ref11_Add : Nat
  pairset_Subset : Nat
  pairset_Union : Nat
  pairset_Less : Nat
  law23_awake : Nat
  ref07_Few : Nat
  ref07_Check : Nat
  ref23_Used : Nat
  ref23_Defines : Nat
  ref07_Numbers : Nat
  liveness_Uses : Nat
  liveness_Defs : Nat
  ref23_Same : Nat
  liveness_In : Nat
  ref23_In : Nat
  liveness_Out : Nat
  ref23_Out : Nat
  ref07_Successors : Nat
  ref23_Has : Nat
  ref09_Right : Nat
  ref09_Exec : Nat
  ref09_Step : Nat
  ref09_Copy : Nat
  ref09_Values : Nat
  ref07_Copy : Nat
  pairset_DropV : Nat
  pairset_DropL : Nat
  law11_spoil : Nat
  ref11_Less : Nat
  slices_Clone_Pair : Nat
  slices_SortFunc_Pair : Nat
  pairset_compare : Nat
  slices_Compact_Pair : Nat
  pairset_find : Nat
  ref07_Code : Nat
  ref07_Instr : Nat
  ref07_Term : Nat
  ref05_UsesA : Nat
  ref05_UsesB : Nat
  ref05_UsesD : Nat
  liveness_scan : Nat
  liveness_set_sorted : Nat
  liveness_solve : Nat
  ref23_live : Nat
  liveness_exit : Nat
  ref09_Start : Nat
  ref06_Eval : Nat
  pairset_filter : Nat
  pairset_DropV_1 : Nat
  pairset_DropL_1 : Nat
  slices_pdqsortCmpFunc_Pair : Nat
  math_bits_Len : Nat
  ref07_in : Nat
  liveness_scan_1 : Nat
  opcode_Of : Nat
  slices_Sort_int : Nat
  source_Successors : Nat
  ref06_bits : Nat
  ref06_half : Nat
  ref06_truth : Nat
  slices_insertionSortCmpFunc_Pair : Nat
  slices_heapSortCmpFunc_Pair : Nat
  slices_breakPatternsCmpFunc_Pair : Nat
  slices_choosePivotCmpFunc_Pair : Nat
  slices_reverseRangeCmpFunc_Pair : Nat
  slices_partialInsertionSortCmpFunc_Pair : Nat
  slices_partitionEqualCmpFunc_Pair : Nat
  slices_partitionCmpFunc_Pair : Nat
  math_bits_Len32 : Nat
  math_bits_Len64 : Nat
  opcode_known : Nat
  slices_pdqsortOrdered_int : Nat
  ref06_bit : Nat
  slices_siftDownCmpFunc_Pair : Nat
  slices_nextPowerOfTwo : Nat
  slices_xorshift_Next : Nat
  slices_medianAdjacentCmpFunc_Pair : Nat
  slices_medianCmpFunc_Pair : Nat
  slices_insertionSortOrdered_int : Nat
  slices_heapSortOrdered_int : Nat
  slices_breakPatternsOrdered_int : Nat
  slices_choosePivotOrdered_int : Nat
  slices_reverseRangeOrdered_int : Nat
  slices_partialInsertionSortOrdered_int : Nat
  cmp_Less_int : Nat
  slices_partitionEqualOrdered_int : Nat
  slices_partitionOrdered_int : Nat
  slices_order2CmpFunc_Pair : Nat
  slices_siftDownOrdered_int : Nat
  slices_medianAdjacentOrdered_int : Nat
  slices_medianOrdered_int : Nat
  cmp_isNaN_int : Nat
  slices_order2Ordered_int : Nat
  law12_TransferMatchesReference : Nat
  law12_TransferSound : Nat
  law12_TransferComplete : Nat
  law12_TransferMonotone : Nat
  law12_TransferKeeps : Nat
  law14_BlockcheckMatchesReference : Nat
  law14_BlockcheckSound : Nat
  law14_BlockcheckMonotone : Nat
  law14_BlockcheckSteps : Nat
  law14_BlockcheckKeeps : Nat
  law12_awake : Nat
  transfer_Copy : Nat
  ref12_Copy : Nat
  transfer_Move : Nat
  ref12_Move : Nat
  transfer_Define : Nat
  ref12_Define : Nat
  law12_known : Nat
  law12_holds : Nat
  law12_subset : Nat
  law14_awake : Nat
  law14_right : Nat
  ref14_Same : Nat
  law14_result : Nat
  blockcheck_Check : Nat
  ref14_Check : Nat
  ref10_Step : Nat
  ref10_Read : Nat
  transfer_rename : Nat
  transfer_Copy_1 : Nat
  transfer_Move_1 : Nat
  ref08_Check : Nat
  align_Code : Nat
  align_Terms : Nat
  blockcheck_checker_run : Nat
  ref14_fail : Nat
  ref13_Code : Nat
  ref13_Terms : Nat
  ref14_grow : Nat
  ref14_use : Nat
  ref08_Code : Nat
  ref08_Instr : Nat
  ref08_Moves : Nat
  align_skip_Instr : Nat
  align_copied : Nat
  align_skip_Mach : Nat
  align_moved : Nat
  align_Same : Nat
  blockcheck_checker_run_1 : Nat
  blockcheck_checker_row : Nat
  blockcheck_checker_use : Nat
  ref13_Operations : Nat
  ref13_Others : Nat
  ref13_Same : Nat
  ref04_InRange : Nat
  blockcheck_checker_cost : Nat
  blockcheck_checker_become : Nat
  blockcheck_checker_instr : Nat
  location_Reg : Nat
  law04_LocationBijection : Nat
  law04_LocationTexts : Nat
  law04_LocationMatchesReference : Nat
  law04_LocationRange : Nat
  law04_awake : Nat
  location_Slot : Nat
  location_Parse : Nat
  location_Text : Nat
  location_Index : Nat
  location_IsSlot : Nat
  ref04_Parse : Nat
  ref04_Text : Nat
  location_InRange : Nat
  strconv_Itoa : Nat
  ref04_Number : Nat
  ref04_Decimal : Nat
def ref04_InRange_c1 (p : Nums) : IC := (.seq (.region [⟨(some 6), (.asg (.c (.d (.bool false)))), none, false⟩] []) .ret)
@[simp] theorem ref04_InRange_c1_eq {P m Q st} {p : Nums} : AW P m (ref04_InRange_c1 p) Q st ↔ AW P m (.seq (.region [⟨(some 6), (.asg (.c (.d (.bool false)))), none, false⟩] []) .ret) Q st := Iff.rfl
def ref04_InRange_c2 (p : Nums) : IC := (.region [⟨(some 9), (.mov (.t 0)), none, false⟩, ⟨(some 10), (.bin .rem (.t 9) (.c (.d (.int .i64 2)))), none, false⟩, ⟨(some 11), (.bin .eql (.t 10) (.c (.d (.int .i64 1)))), none, false⟩] [])
@[simp] theorem ref04_InRange_c2_eq {P m Q st} {p : Nums} : AW P m (ref04_InRange_c2 p) Q st ↔ AW P m (.region [⟨(some 9), (.mov (.t 0)), none, false⟩, ⟨(some 10), (.bin .rem (.t 9) (.c (.d (.int .i64 2)))), none, false⟩, ⟨(some 11), (.bin .eql (.t 10) (.c (.d (.int .i64 1)))), none, false⟩] []) Q st := Iff.rfl
def ref04_InRange_c3 (p : Nums) : IC := (.region [⟨(some 12), (.mov (.t 0)), none, false⟩, ⟨(some 13), (.bin .quo (.t 12) (.c (.d (.int .i64 2)))), none, false⟩, ⟨(some 14), (.mov (.t 2)), none, false⟩, ⟨(some 15), (.bin .lss (.t 13) (.t 14)), none, false⟩, ⟨(some 6), (.asg (.t 15)), none, false⟩] [])
@[simp] theorem ref04_InRange_c3_eq {P m Q st} {p : Nums} : AW P m (ref04_InRange_c3 p) Q st ↔ AW P m (.region [⟨(some 12), (.mov (.t 0)), none, false⟩, ⟨(some 13), (.bin .quo (.t 12) (.c (.d (.int .i64 2)))), none, false⟩, ⟨(some 14), (.mov (.t 2)), none, false⟩, ⟨(some 15), (.bin .lss (.t 13) (.t 14)), none, false⟩, ⟨(some 6), (.asg (.t 15)), none, false⟩] []) Q st := Iff.rfl
def ref04_InRange_c4 (p : Nums) : IC := (.region [⟨(some 16), (.mov (.t 0)), none, false⟩, ⟨(some 17), (.bin .quo (.t 16) (.c (.d (.int .i64 2)))), none, false⟩, ⟨(some 18), (.mov (.t 1)), none, false⟩, ⟨(some 19), (.bin .lss (.t 17) (.t 18)), none, false⟩, ⟨(some 6), (.asg (.t 19)), none, false⟩] [])
@[simp] theorem ref04_InRange_c4_eq {P m Q st} {p : Nums} : AW P m (ref04_InRange_c4 p) Q st ↔ AW P m (.region [⟨(some 16), (.mov (.t 0)), none, false⟩, ⟨(some 17), (.bin .quo (.t 16) (.c (.d (.int .i64 2)))), none, false⟩, ⟨(some 18), (.mov (.t 1)), none, false⟩, ⟨(some 19), (.bin .lss (.t 17) (.t 18)), none, false⟩, ⟨(some 6), (.asg (.t 19)), none, false⟩] []) Q st := Iff.rfl
def ic_ref04_InRange (p : Nums) : IC := (.seq (.region [⟨(some 6), (.asg (.c (.d (.bool false)))), none, false⟩] []) (.seq (.seq (.region [⟨(some 7), (.mov (.t 0)), none, false⟩, ⟨(some 8), (.bin .lss (.t 7) (.c (.d (.int .i64 0)))), none, false⟩] []) (.cond (.t 8) (ref04_InRange_c1 p) .skip)) (.seq (.seq (ref04_InRange_c2 p) (.cond (.t 11) (.seq (ref04_InRange_c3 p) .ret) .skip)) (.seq (ref04_InRange_c4 p) .ret))))
def location_Reg_c1 (p : Nums) : IC := (.region [⟨(some 3), (.mov (.t 0)), none, false⟩, ⟨(some 4), (.bin .mul (.c (.d (.int .i64 2))) (.t 3)), none, false⟩, ⟨(some 2), (.asg (.t 4)), none, false⟩] [])
@[simp] theorem location_Reg_c1_eq {P m Q st} {p : Nums} : AW P m (location_Reg_c1 p) Q st ↔ AW P m (.region [⟨(some 3), (.mov (.t 0)), none, false⟩, ⟨(some 4), (.bin .mul (.c (.d (.int .i64 2))) (.t 3)), none, false⟩, ⟨(some 2), (.asg (.t 4)), none, false⟩] []) Q st := Iff.rfl
def ic_location_Reg (p : Nums) : IC := (.seq (.region [⟨(some 2), (.asg (.c (.d (.int .i64 0)))), none, false⟩] []) (.seq (location_Reg_c1 p) .ret))
def law04_LocationBijection_c1 (p : Nums) : IC := (.seq (.region [⟨(some 4), (.asg (.c (.d (.bool false)))), none, false⟩] []) .ret)
@[simp] theorem law04_LocationBijection_c1_eq {P m Q st} {p : Nums} : AW P m (law04_LocationBijection_c1 p) Q st ↔ AW P m (.seq (.region [⟨(some 4), (.asg (.c (.d (.bool false)))), none, false⟩] []) .ret) Q st := Iff.rfl
def law04_LocationBijection_c2 (p : Nums) : IC := (.region [⟨(some 15), (.mov (.t 0)), none, false⟩, ⟨(some 16), (.bin .rem (.t 15) (.c (.d (.int .u64 1099511627776)))), none, false⟩, ⟨(some 17), (.conv .i64 (.t 16)), none, false⟩, ⟨(some 5), (.asg (.t 17)), none, false⟩] [])
@[simp] theorem law04_LocationBijection_c2_eq {P m Q st} {p : Nums} : AW P m (law04_LocationBijection_c2 p) Q st ↔ AW P m (.region [⟨(some 15), (.mov (.t 0)), none, false⟩, ⟨(some 16), (.bin .rem (.t 15) (.c (.d (.int .u64 1099511627776)))), none, false⟩, ⟨(some 17), (.conv .i64 (.t 16)), none, false⟩, ⟨(some 5), (.asg (.t 17)), none, false⟩] []) Q st := Iff.rfl
def law04_LocationBijection_c3 (p : Nums) : IC := (.region [⟨(some 18), (.mov (.t 1)), none, false⟩, ⟨(some 19), (.bin .rem (.t 18) (.c (.d (.int .u64 1099511627776)))), none, false⟩, ⟨(some 20), (.conv .i64 (.t 19)), none, false⟩, ⟨(some 6), (.asg (.t 20)), none, false⟩] [])
@[simp] theorem law04_LocationBijection_c3_eq {P m Q st} {p : Nums} : AW P m (law04_LocationBijection_c3 p) Q st ↔ AW P m (.region [⟨(some 18), (.mov (.t 1)), none, false⟩, ⟨(some 19), (.bin .rem (.t 18) (.c (.d (.int .u64 1099511627776)))), none, false⟩, ⟨(some 20), (.conv .i64 (.t 19)), none, false⟩, ⟨(some 6), (.asg (.t 20)), none, false⟩] []) Q st := Iff.rfl
def law04_LocationBijection_c4 (p : Nums) : IC := (.region [⟨(some 21), (.mov (.t 5)), none, false⟩, ⟨(some 22), (.call p.location_Reg [(.t 21)]), none, false⟩, ⟨(some 7), (.asg (.t 22)), none, false⟩] [])
@[simp] theorem law04_LocationBijection_c4_eq {P m Q st} {p : Nums} : AW P m (law04_LocationBijection_c4 p) Q st ↔ AW P m (.region [⟨(some 21), (.mov (.t 5)), none, false⟩, ⟨(some 22), (.call p.location_Reg [(.t 21)]), none, false⟩, ⟨(some 7), (.asg (.t 22)), none, false⟩] []) Q st := Iff.rfl
def law04_LocationBijection_c5 (p : Nums) : IC := (.region [⟨(some 23), (.mov (.t 6)), none, false⟩, ⟨(some 24), (.call p.location_Slot [(.t 23)]), none, false⟩, ⟨(some 8), (.asg (.t 24)), none, false⟩] [])
@[simp] theorem law04_LocationBijection_c5_eq {P m Q st} {p : Nums} : AW P m (law04_LocationBijection_c5 p) Q st ↔ AW P m (.region [⟨(some 23), (.mov (.t 6)), none, false⟩, ⟨(some 24), (.call p.location_Slot [(.t 23)]), none, false⟩, ⟨(some 8), (.asg (.t 24)), none, false⟩] []) Q st := Iff.rfl
def law04_LocationBijection_c6 (p : Nums) : IC := (.region [⟨(some 26), (.mov (.t 7)), none, false⟩, ⟨(some 27), (.call p.location_Text [(.t 26)]), none, false⟩, ⟨(some 28), (.call p.location_Parse [(.t 27)]), none, false⟩, ⟨(some 25), (.mov (.t 28)), none, false⟩, ⟨(some 29), (.ext (.t 25) 0), none, false⟩, ⟨(some 30), (.ext (.t 25) 1), none, false⟩, ⟨(some 9), (.asg (.t 29)), none, false⟩, ⟨(some 10), (.asg (.t 30)), none, false⟩] [])
@[simp] theorem law04_LocationBijection_c6_eq {P m Q st} {p : Nums} : AW P m (law04_LocationBijection_c6 p) Q st ↔ AW P m (.region [⟨(some 26), (.mov (.t 7)), none, false⟩, ⟨(some 27), (.call p.location_Text [(.t 26)]), none, false⟩, ⟨(some 28), (.call p.location_Parse [(.t 27)]), none, false⟩, ⟨(some 25), (.mov (.t 28)), none, false⟩, ⟨(some 29), (.ext (.t 25) 0), none, false⟩, ⟨(some 30), (.ext (.t 25) 1), none, false⟩, ⟨(some 9), (.asg (.t 29)), none, false⟩, ⟨(some 10), (.asg (.t 30)), none, false⟩] []) Q st := Iff.rfl
def law04_LocationBijection_c7 (p : Nums) : IC := (.region [⟨(some 32), (.mov (.t 8)), none, false⟩, ⟨(some 33), (.call p.location_Text [(.t 32)]), none, false⟩, ⟨(some 34), (.call p.location_Parse [(.t 33)]), none, false⟩, ⟨(some 31), (.mov (.t 34)), none, false⟩, ⟨(some 35), (.ext (.t 31) 0), none, false⟩, ⟨(some 36), (.ext (.t 31) 1), none, false⟩, ⟨(some 11), (.asg (.t 35)), none, false⟩, ⟨(some 12), (.asg (.t 36)), none, false⟩] [])
@[simp] theorem law04_LocationBijection_c7_eq {P m Q st} {p : Nums} : AW P m (law04_LocationBijection_c7 p) Q st ↔ AW P m (.region [⟨(some 32), (.mov (.t 8)), none, false⟩, ⟨(some 33), (.call p.location_Text [(.t 32)]), none, false⟩, ⟨(some 34), (.call p.location_Parse [(.t 33)]), none, false⟩, ⟨(some 31), (.mov (.t 34)), none, false⟩, ⟨(some 35), (.ext (.t 31) 0), none, false⟩, ⟨(some 36), (.ext (.t 31) 1), none, false⟩, ⟨(some 11), (.asg (.t 35)), none, false⟩, ⟨(some 12), (.asg (.t 36)), none, false⟩] []) Q st := Iff.rfl
def law04_LocationBijection_c8 (p : Nums) : IC := (.region [⟨(some 37), (.mov (.t 7)), none, false⟩, ⟨(some 38), (.mov (.t 8)), none, false⟩, ⟨(some 39), (.bin .neq (.t 37) (.t 38)), none, false⟩, ⟨(some 40), (.mov (.t 39)), none, false⟩, ⟨(some 41), (.mov (.t 7)), (some (40, true)), false⟩, ⟨(some 42), (.bin .geq (.t 41) (.c (.d (.int .i64 0)))), (some (40, true)), false⟩, ⟨(some 43), (.pick (.t 40) (.t 42) (.c (.d (.bool false)))), none, false⟩, ⟨(some 44), (.mov (.t 43)), none, false⟩, ⟨(some 45), (.mov (.t 8)), (some (44, true)), false⟩, ⟨(some 46), (.bin .geq (.t 45) (.c (.d (.int .i64 0)))), (some (44, true)), false⟩, ⟨(some 47), (.pick (.t 44) (.t 46) (.c (.d (.bool false)))), none, false⟩, ⟨(some 48), (.mov (.t 47)), none, false⟩, ⟨(some 49), (.mov (.t 7)), (some (48, true)), false⟩, ⟨(some 50), (.call p.location_Index [(.t 49)]), (some (48, true)), false⟩, ⟨(some 51), (.mov (.t 5)), (some (48, true)), false⟩, ⟨(some 52), (.bin .eql (.t 50) (.t 51)), (some (48, true)), false⟩, ⟨(some 53), (.pick (.t 48) (.t 52) (.c (.d (.bool false)))), none, false⟩, ⟨(some 54), (.mov (.t 53)), none, false⟩, ⟨(some 55), (.mov (.t 8)), (some (54, true)), false⟩, ⟨(some 56), (.call p.location_Index [(.t 55)]), (some (54, true)), false⟩, ⟨(some 57), (.mov (.t 6)), (some (54, true)), false⟩, ⟨(some 58), (.bin .eql (.t 56) (.t 57)), (some (54, true)), false⟩, ⟨(some 59), (.pick (.t 54) (.t 58) (.c (.d (.bool false)))), none, false⟩, ⟨(some 60), (.mov (.t 59)), none, false⟩, ⟨(some 61), (.mov (.t 7)), (some (60, true)), false⟩, ⟨(some 62), (.call p.location_IsSlot [(.t 61)]), (some (60, true)), false⟩, ⟨(some 63), (.un .not (.t 62)), (some (60, true)), false⟩, ⟨(some 64), (.pick (.t 60) (.t 63) (.c (.d (.bool false)))), none, false⟩, ⟨(some 65), (.mov (.t 64)), none, false⟩, ⟨(some 66), (.mov (.t 8)), (some (65, true)), false⟩, ⟨(some 67), (.call p.location_IsSlot [(.t 66)]), (some (65, true)), false⟩, ⟨(some 68), (.pick (.t 65) (.t 67) (.c (.d (.bool false)))), none, false⟩, ⟨(some 69), (.mov (.t 68)), none, false⟩, ⟨(some 70), (.mov (.t 10)), (some (69, true)), false⟩, ⟨(some 71), (.pick (.t 69) (.t 70) (.c (.d (.bool false)))), none, false⟩, ⟨(some 72), (.mov (.t 71)), none, false⟩, ⟨(some 73), (.mov (.t 12)), (some (72, true)), false⟩, ⟨(some 74), (.pick (.t 72) (.t 73) (.c (.d (.bool false)))), none, false⟩, ⟨(some 75), (.mov (.t 74)), none, false⟩, ⟨(some 76), (.mov (.t 9)), (some (75, true)), false⟩, ⟨(some 77), (.mov (.t 7)), (some (75, true)), false⟩, ⟨(some 78), (.bin .eql (.t 76) (.t 77)), (some (75, true)), false⟩, ⟨(some 79), (.pick (.t 75) (.t 78) (.c (.d (.bool false)))), none, false⟩, ⟨(some 80), (.mov (.t 79)), none, false⟩, ⟨(some 81), (.mov (.t 11)), (some (80, true)), false⟩, ⟨(some 82), (.mov (.t 8)), (some (80, true)), false⟩, ⟨(some 83), (.bin .eql (.t 81) (.t 82)), (some (80, true)), false⟩, ⟨(some 84), (.pick (.t 80) (.t 83) (.c (.d (.bool false)))), none, false⟩, ⟨(some 85), (.mov (.t 84)), none, false⟩, ⟨(some 86), (.mov (.t 5)), (some (85, true)), false⟩, ⟨(some 87), (.call p.location_Reg [(.t 86)]), (some (85, true)), false⟩, ⟨(some 88), (.mov (.t 6)), (some (85, true)), false⟩, ⟨(some 89), (.call p.location_Reg [(.t 88)]), (some (85, true)), false⟩, ⟨(some 90), (.bin .eql (.t 87) (.t 89)), (some (85, true)), false⟩, ⟨(some 91), (.mov (.t 5)), (some (85, true)), false⟩, ⟨(some 92), (.mov (.t 6)), (some (85, true)), false⟩, ⟨(some 93), (.bin .eql (.t 91) (.t 92)), (some (85, true)), false⟩, ⟨(some 94), (.eqb false (.t 90) (.t 93)), (some (85, true)), false⟩, ⟨(some 95), (.pick (.t 85) (.t 94) (.c (.d (.bool false)))), none, false⟩, ⟨(some 4), (.asg (.t 95)), none, false⟩] [])
@[simp] theorem law04_LocationBijection_c8_eq {P m Q st} {p : Nums} : AW P m (law04_LocationBijection_c8 p) Q st ↔ AW P m (.region [⟨(some 37), (.mov (.t 7)), none, false⟩, ⟨(some 38), (.mov (.t 8)), none, false⟩, ⟨(some 39), (.bin .neq (.t 37) (.t 38)), none, false⟩, ⟨(some 40), (.mov (.t 39)), none, false⟩, ⟨(some 41), (.mov (.t 7)), (some (40, true)), false⟩, ⟨(some 42), (.bin .geq (.t 41) (.c (.d (.int .i64 0)))), (some (40, true)), false⟩, ⟨(some 43), (.pick (.t 40) (.t 42) (.c (.d (.bool false)))), none, false⟩, ⟨(some 44), (.mov (.t 43)), none, false⟩, ⟨(some 45), (.mov (.t 8)), (some (44, true)), false⟩, ⟨(some 46), (.bin .geq (.t 45) (.c (.d (.int .i64 0)))), (some (44, true)), false⟩, ⟨(some 47), (.pick (.t 44) (.t 46) (.c (.d (.bool false)))), none, false⟩, ⟨(some 48), (.mov (.t 47)), none, false⟩, ⟨(some 49), (.mov (.t 7)), (some (48, true)), false⟩, ⟨(some 50), (.call p.location_Index [(.t 49)]), (some (48, true)), false⟩, ⟨(some 51), (.mov (.t 5)), (some (48, true)), false⟩, ⟨(some 52), (.bin .eql (.t 50) (.t 51)), (some (48, true)), false⟩, ⟨(some 53), (.pick (.t 48) (.t 52) (.c (.d (.bool false)))), none, false⟩, ⟨(some 54), (.mov (.t 53)), none, false⟩, ⟨(some 55), (.mov (.t 8)), (some (54, true)), false⟩, ⟨(some 56), (.call p.location_Index [(.t 55)]), (some (54, true)), false⟩, ⟨(some 57), (.mov (.t 6)), (some (54, true)), false⟩, ⟨(some 58), (.bin .eql (.t 56) (.t 57)), (some (54, true)), false⟩, ⟨(some 59), (.pick (.t 54) (.t 58) (.c (.d (.bool false)))), none, false⟩, ⟨(some 60), (.mov (.t 59)), none, false⟩, ⟨(some 61), (.mov (.t 7)), (some (60, true)), false⟩, ⟨(some 62), (.call p.location_IsSlot [(.t 61)]), (some (60, true)), false⟩, ⟨(some 63), (.un .not (.t 62)), (some (60, true)), false⟩, ⟨(some 64), (.pick (.t 60) (.t 63) (.c (.d (.bool false)))), none, false⟩, ⟨(some 65), (.mov (.t 64)), none, false⟩, ⟨(some 66), (.mov (.t 8)), (some (65, true)), false⟩, ⟨(some 67), (.call p.location_IsSlot [(.t 66)]), (some (65, true)), false⟩, ⟨(some 68), (.pick (.t 65) (.t 67) (.c (.d (.bool false)))), none, false⟩, ⟨(some 69), (.mov (.t 68)), none, false⟩, ⟨(some 70), (.mov (.t 10)), (some (69, true)), false⟩, ⟨(some 71), (.pick (.t 69) (.t 70) (.c (.d (.bool false)))), none, false⟩, ⟨(some 72), (.mov (.t 71)), none, false⟩, ⟨(some 73), (.mov (.t 12)), (some (72, true)), false⟩, ⟨(some 74), (.pick (.t 72) (.t 73) (.c (.d (.bool false)))), none, false⟩, ⟨(some 75), (.mov (.t 74)), none, false⟩, ⟨(some 76), (.mov (.t 9)), (some (75, true)), false⟩, ⟨(some 77), (.mov (.t 7)), (some (75, true)), false⟩, ⟨(some 78), (.bin .eql (.t 76) (.t 77)), (some (75, true)), false⟩, ⟨(some 79), (.pick (.t 75) (.t 78) (.c (.d (.bool false)))), none, false⟩, ⟨(some 80), (.mov (.t 79)), none, false⟩, ⟨(some 81), (.mov (.t 11)), (some (80, true)), false⟩, ⟨(some 82), (.mov (.t 8)), (some (80, true)), false⟩, ⟨(some 83), (.bin .eql (.t 81) (.t 82)), (some (80, true)), false⟩, ⟨(some 84), (.pick (.t 80) (.t 83) (.c (.d (.bool false)))), none, false⟩, ⟨(some 85), (.mov (.t 84)), none, false⟩, ⟨(some 86), (.mov (.t 5)), (some (85, true)), false⟩, ⟨(some 87), (.call p.location_Reg [(.t 86)]), (some (85, true)), false⟩, ⟨(some 88), (.mov (.t 6)), (some (85, true)), false⟩, ⟨(some 89), (.call p.location_Reg [(.t 88)]), (some (85, true)), false⟩, ⟨(some 90), (.bin .eql (.t 87) (.t 89)), (some (85, true)), false⟩, ⟨(some 91), (.mov (.t 5)), (some (85, true)), false⟩, ⟨(some 92), (.mov (.t 6)), (some (85, true)), false⟩, ⟨(some 93), (.bin .eql (.t 91) (.t 92)), (some (85, true)), false⟩, ⟨(some 94), (.eqb false (.t 90) (.t 93)), (some (85, true)), false⟩, ⟨(some 95), (.pick (.t 85) (.t 94) (.c (.d (.bool false)))), none, false⟩, ⟨(some 4), (.asg (.t 95)), none, false⟩] []) Q st := Iff.rfl
def ic_law04_LocationBijection (p : Nums) : IC := (.seq (.region [⟨(some 4), (.asg (.c (.d (.bool false)))), none, false⟩] []) (.seq (.seq (.region [⟨(some 13), (.call p.law04_awake []), none, false⟩, ⟨(some 14), (.un .not (.t 13)), none, false⟩] []) (.cond (.t 14) (law04_LocationBijection_c1 p) .skip)) (.seq (law04_LocationBijection_c2 p) (.seq (law04_LocationBijection_c3 p) (.seq (law04_LocationBijection_c4 p) (.seq (law04_LocationBijection_c5 p) (.seq (law04_LocationBijection_c6 p) (.seq (law04_LocationBijection_c7 p) (.seq (law04_LocationBijection_c8 p) .ret)))))))))
def law04_LocationTexts_c1 (p : Nums) : IC := (.region [⟨(some 13), (.call p.law04_awake []), none, false⟩, ⟨(some 14), (.un .not (.t 13)), none, false⟩, ⟨(some 15), (.mov (.t 14)), none, false⟩, ⟨(some 16), (.mov (.t 0)), (some (15, false)), false⟩, ⟨(some 17), (.lenS (.t 16)), (some (15, false)), false⟩, ⟨(some 18), (.bin .gtr (.t 17) (.c (.d (.int .i64 1000)))), (some (15, false)), false⟩, ⟨(some 19), (.pick (.t 15) (.c (.d (.bool true))) (.t 18)), none, false⟩] [])
@[simp] theorem law04_LocationTexts_c1_eq {P m Q st} {p : Nums} : AW P m (law04_LocationTexts_c1 p) Q st ↔ AW P m (.region [⟨(some 13), (.call p.law04_awake []), none, false⟩, ⟨(some 14), (.un .not (.t 13)), none, false⟩, ⟨(some 15), (.mov (.t 14)), none, false⟩, ⟨(some 16), (.mov (.t 0)), (some (15, false)), false⟩, ⟨(some 17), (.lenS (.t 16)), (some (15, false)), false⟩, ⟨(some 18), (.bin .gtr (.t 17) (.c (.d (.int .i64 1000)))), (some (15, false)), false⟩, ⟨(some 19), (.pick (.t 15) (.c (.d (.bool true))) (.t 18)), none, false⟩] []) Q st := Iff.rfl
def law04_LocationTexts_c2 (p : Nums) : IC := (.seq (.region [⟨(some 20), (.call p.law04_awake []), none, false⟩, ⟨(some 2), (.asg (.t 20)), none, false⟩] []) .ret)
@[simp] theorem law04_LocationTexts_c2_eq {P m Q st} {p : Nums} : AW P m (law04_LocationTexts_c2 p) Q st ↔ AW P m (.seq (.region [⟨(some 20), (.call p.law04_awake []), none, false⟩, ⟨(some 2), (.asg (.t 20)), none, false⟩] []) .ret) Q st := Iff.rfl
def law04_LocationTexts_c3 (p : Nums) : IC := (.region [⟨(some 22), (.mov (.t 0)), none, false⟩, ⟨(some 23), (.call p.location_Parse [(.t 22)]), none, false⟩, ⟨(some 21), (.mov (.t 23)), none, false⟩, ⟨(some 24), (.ext (.t 21) 0), none, false⟩, ⟨(some 25), (.ext (.t 21) 1), none, false⟩, ⟨(some 3), (.asg (.t 24)), none, false⟩, ⟨(some 4), (.asg (.t 25)), none, false⟩] [])
@[simp] theorem law04_LocationTexts_c3_eq {P m Q st} {p : Nums} : AW P m (law04_LocationTexts_c3 p) Q st ↔ AW P m (.region [⟨(some 22), (.mov (.t 0)), none, false⟩, ⟨(some 23), (.call p.location_Parse [(.t 22)]), none, false⟩, ⟨(some 21), (.mov (.t 23)), none, false⟩, ⟨(some 24), (.ext (.t 21) 0), none, false⟩, ⟨(some 25), (.ext (.t 21) 1), none, false⟩, ⟨(some 3), (.asg (.t 24)), none, false⟩, ⟨(some 4), (.asg (.t 25)), none, false⟩] []) Q st := Iff.rfl
def law04_LocationTexts_c4 (p : Nums) : IC := (.region [⟨(some 28), (.mov (.t 3)), none, false⟩, ⟨(some 29), (.bin .eql (.t 28) (.c (.d (.int .i64 0)))), none, false⟩, ⟨(some 2), (.asg (.t 29)), none, false⟩] [])
@[simp] theorem law04_LocationTexts_c4_eq {P m Q st} {p : Nums} : AW P m (law04_LocationTexts_c4 p) Q st ↔ AW P m (.region [⟨(some 28), (.mov (.t 3)), none, false⟩, ⟨(some 29), (.bin .eql (.t 28) (.c (.d (.int .i64 0)))), none, false⟩, ⟨(some 2), (.asg (.t 29)), none, false⟩] []) Q st := Iff.rfl
def law04_LocationTexts_c5 (p : Nums) : IC := (.region [⟨(some 30), (.mov (.t 3)), none, false⟩, ⟨(some 31), (.bin .lss (.t 30) (.c (.d (.int .i64 0)))), none, false⟩, ⟨(some 32), (.mov (.t 31)), none, false⟩, ⟨(some 33), (.mov (.t 3)), (some (32, false)), false⟩, ⟨(some 34), (.bin .geq (.t 33) (.c (.d (.int .i64 2199023255552)))), (some (32, false)), false⟩, ⟨(some 35), (.pick (.t 32) (.c (.d (.bool true))) (.t 34)), none, false⟩, ⟨(some 36), (.mov (.t 35)), none, false⟩, ⟨(some 37), (.mov (.t 3)), (some (36, false)), false⟩, ⟨(some 38), (.call p.location_Text [(.t 37)]), (some (36, false)), false⟩, ⟨(some 39), (.mov (.t 0)), (some (36, false)), false⟩, ⟨(some 40), (.bin .neq (.t 38) (.t 39)), (some (36, false)), false⟩, ⟨(some 41), (.pick (.t 36) (.c (.d (.bool true))) (.t 40)), none, false⟩] [])
@[simp] theorem law04_LocationTexts_c5_eq {P m Q st} {p : Nums} : AW P m (law04_LocationTexts_c5 p) Q st ↔ AW P m (.region [⟨(some 30), (.mov (.t 3)), none, false⟩, ⟨(some 31), (.bin .lss (.t 30) (.c (.d (.int .i64 0)))), none, false⟩, ⟨(some 32), (.mov (.t 31)), none, false⟩, ⟨(some 33), (.mov (.t 3)), (some (32, false)), false⟩, ⟨(some 34), (.bin .geq (.t 33) (.c (.d (.int .i64 2199023255552)))), (some (32, false)), false⟩, ⟨(some 35), (.pick (.t 32) (.c (.d (.bool true))) (.t 34)), none, false⟩, ⟨(some 36), (.mov (.t 35)), none, false⟩, ⟨(some 37), (.mov (.t 3)), (some (36, false)), false⟩, ⟨(some 38), (.call p.location_Text [(.t 37)]), (some (36, false)), false⟩, ⟨(some 39), (.mov (.t 0)), (some (36, false)), false⟩, ⟨(some 40), (.bin .neq (.t 38) (.t 39)), (some (36, false)), false⟩, ⟨(some 41), (.pick (.t 36) (.c (.d (.bool true))) (.t 40)), none, false⟩] []) Q st := Iff.rfl
def law04_LocationTexts_c6 (p : Nums) : IC := (.seq (.region [⟨(some 2), (.asg (.c (.d (.bool false)))), none, false⟩] []) .ret)
@[simp] theorem law04_LocationTexts_c6_eq {P m Q st} {p : Nums} : AW P m (law04_LocationTexts_c6 p) Q st ↔ AW P m (.seq (.region [⟨(some 2), (.asg (.c (.d (.bool false)))), none, false⟩] []) .ret) Q st := Iff.rfl
def law04_LocationTexts_c7 (p : Nums) : IC := (.region [⟨(some 43), (.mov (.t 0)), none, true⟩, ⟨(some 44), (.slcS (.t 43) none (some (.c (.d (.int .i64 1))))), none, true⟩, ⟨(some 45), (.bin .add (.t 44) (.c (.d (.str [48])))), none, true⟩, ⟨(some 46), (.mov (.t 0)), none, true⟩, ⟨(some 47), (.slcS (.t 46) (some (.c (.d (.int .i64 1)))) none), none, true⟩, ⟨(some 48), (.bin .add (.t 45) (.t 47)), none, false⟩, ⟨(some 49), (.call p.location_Parse [(.t 48)]), none, false⟩, ⟨(some 42), (.mov (.t 49)), none, false⟩, ⟨(some 50), (.ext (.t 42) 0), none, true⟩, ⟨(some 51), (.ext (.t 42) 1), none, true⟩, ⟨(some 5), (.asg (.t 50)), none, true⟩, ⟨(some 6), (.asg (.t 51)), none, false⟩] [])
@[simp] theorem law04_LocationTexts_c7_eq {P m Q st} {p : Nums} : AW P m (law04_LocationTexts_c7 p) Q st ↔ AW P m (.region [⟨(some 43), (.mov (.t 0)), none, true⟩, ⟨(some 44), (.slcS (.t 43) none (some (.c (.d (.int .i64 1))))), none, true⟩, ⟨(some 45), (.bin .add (.t 44) (.c (.d (.str [48])))), none, true⟩, ⟨(some 46), (.mov (.t 0)), none, true⟩, ⟨(some 47), (.slcS (.t 46) (some (.c (.d (.int .i64 1)))) none), none, true⟩, ⟨(some 48), (.bin .add (.t 45) (.t 47)), none, false⟩, ⟨(some 49), (.call p.location_Parse [(.t 48)]), none, false⟩, ⟨(some 42), (.mov (.t 49)), none, false⟩, ⟨(some 50), (.ext (.t 42) 0), none, true⟩, ⟨(some 51), (.ext (.t 42) 1), none, true⟩, ⟨(some 5), (.asg (.t 50)), none, true⟩, ⟨(some 6), (.asg (.t 51)), none, false⟩] []) Q st := Iff.rfl
def law04_LocationTexts_c8 (p : Nums) : IC := (.region [⟨(some 53), (.mov (.t 0)), none, false⟩, ⟨(some 54), (.bin .add (.t 53) (.c (.d (.str [32])))), none, false⟩, ⟨(some 55), (.call p.location_Parse [(.t 54)]), none, false⟩, ⟨(some 52), (.mov (.t 55)), none, false⟩, ⟨(some 56), (.ext (.t 52) 0), none, false⟩, ⟨(some 57), (.ext (.t 52) 1), none, false⟩, ⟨(some 7), (.asg (.t 56)), none, false⟩, ⟨(some 8), (.asg (.t 57)), none, false⟩] [])
@[simp] theorem law04_LocationTexts_c8_eq {P m Q st} {p : Nums} : AW P m (law04_LocationTexts_c8 p) Q st ↔ AW P m (.region [⟨(some 53), (.mov (.t 0)), none, false⟩, ⟨(some 54), (.bin .add (.t 53) (.c (.d (.str [32])))), none, false⟩, ⟨(some 55), (.call p.location_Parse [(.t 54)]), none, false⟩, ⟨(some 52), (.mov (.t 55)), none, false⟩, ⟨(some 56), (.ext (.t 52) 0), none, false⟩, ⟨(some 57), (.ext (.t 52) 1), none, false⟩, ⟨(some 7), (.asg (.t 56)), none, false⟩, ⟨(some 8), (.asg (.t 57)), none, false⟩] []) Q st := Iff.rfl
def law04_LocationTexts_c9 (p : Nums) : IC := (.region [⟨(some 59), (.mov (.t 0)), none, false⟩, ⟨(some 60), (.bin .add (.c (.d (.str [32]))) (.t 59)), none, false⟩, ⟨(some 61), (.call p.location_Parse [(.t 60)]), none, false⟩, ⟨(some 58), (.mov (.t 61)), none, false⟩, ⟨(some 62), (.ext (.t 58) 0), none, false⟩, ⟨(some 63), (.ext (.t 58) 1), none, false⟩, ⟨(some 9), (.asg (.t 62)), none, false⟩, ⟨(some 10), (.asg (.t 63)), none, false⟩] [])
@[simp] theorem law04_LocationTexts_c9_eq {P m Q st} {p : Nums} : AW P m (law04_LocationTexts_c9 p) Q st ↔ AW P m (.region [⟨(some 59), (.mov (.t 0)), none, false⟩, ⟨(some 60), (.bin .add (.c (.d (.str [32]))) (.t 59)), none, false⟩, ⟨(some 61), (.call p.location_Parse [(.t 60)]), none, false⟩, ⟨(some 58), (.mov (.t 61)), none, false⟩, ⟨(some 62), (.ext (.t 58) 0), none, false⟩, ⟨(some 63), (.ext (.t 58) 1), none, false⟩, ⟨(some 9), (.asg (.t 62)), none, false⟩, ⟨(some 10), (.asg (.t 63)), none, false⟩] []) Q st := Iff.rfl
def law04_LocationTexts_c10 (p : Nums) : IC := (.region [⟨(some 65), (.mov (.t 0)), none, false⟩, ⟨(some 66), (.slcS (.t 65) none (some (.c (.d (.int .i64 1))))), none, false⟩, ⟨(some 67), (.call p.location_Parse [(.t 66)]), none, false⟩, ⟨(some 64), (.mov (.t 67)), none, false⟩, ⟨(some 68), (.ext (.t 64) 0), none, false⟩, ⟨(some 69), (.ext (.t 64) 1), none, false⟩, ⟨(some 11), (.asg (.t 68)), none, false⟩, ⟨(some 12), (.asg (.t 69)), none, false⟩] [])
@[simp] theorem law04_LocationTexts_c10_eq {P m Q st} {p : Nums} : AW P m (law04_LocationTexts_c10 p) Q st ↔ AW P m (.region [⟨(some 65), (.mov (.t 0)), none, false⟩, ⟨(some 66), (.slcS (.t 65) none (some (.c (.d (.int .i64 1))))), none, false⟩, ⟨(some 67), (.call p.location_Parse [(.t 66)]), none, false⟩, ⟨(some 64), (.mov (.t 67)), none, false⟩, ⟨(some 68), (.ext (.t 64) 0), none, false⟩, ⟨(some 69), (.ext (.t 64) 1), none, false⟩, ⟨(some 11), (.asg (.t 68)), none, false⟩, ⟨(some 12), (.asg (.t 69)), none, false⟩] []) Q st := Iff.rfl
def law04_LocationTexts_c11 (p : Nums) : IC := (.region [⟨(some 70), (.mov (.t 6)), none, false⟩, ⟨(some 71), (.un .not (.t 70)), none, false⟩, ⟨(some 72), (.mov (.t 71)), none, false⟩, ⟨(some 73), (.mov (.t 8)), (some (72, true)), false⟩, ⟨(some 74), (.un .not (.t 73)), (some (72, true)), false⟩, ⟨(some 75), (.pick (.t 72) (.t 74) (.c (.d (.bool false)))), none, false⟩, ⟨(some 76), (.mov (.t 75)), none, false⟩, ⟨(some 77), (.mov (.t 10)), (some (76, true)), false⟩, ⟨(some 78), (.un .not (.t 77)), (some (76, true)), false⟩, ⟨(some 79), (.pick (.t 76) (.t 78) (.c (.d (.bool false)))), none, false⟩, ⟨(some 80), (.mov (.t 79)), none, false⟩, ⟨(some 81), (.mov (.t 12)), (some (80, true)), false⟩, ⟨(some 82), (.un .not (.t 81)), (some (80, true)), false⟩, ⟨(some 83), (.pick (.t 80) (.t 82) (.c (.d (.bool false)))), none, false⟩, ⟨(some 2), (.asg (.t 83)), none, false⟩] [])
@[simp] theorem law04_LocationTexts_c11_eq {P m Q st} {p : Nums} : AW P m (law04_LocationTexts_c11 p) Q st ↔ AW P m (.region [⟨(some 70), (.mov (.t 6)), none, false⟩, ⟨(some 71), (.un .not (.t 70)), none, false⟩, ⟨(some 72), (.mov (.t 71)), none, false⟩, ⟨(some 73), (.mov (.t 8)), (some (72, true)), false⟩, ⟨(some 74), (.un .not (.t 73)), (some (72, true)), false⟩, ⟨(some 75), (.pick (.t 72) (.t 74) (.c (.d (.bool false)))), none, false⟩, ⟨(some 76), (.mov (.t 75)), none, false⟩, ⟨(some 77), (.mov (.t 10)), (some (76, true)), false⟩, ⟨(some 78), (.un .not (.t 77)), (some (76, true)), false⟩, ⟨(some 79), (.pick (.t 76) (.t 78) (.c (.d (.bool false)))), none, false⟩, ⟨(some 80), (.mov (.t 79)), none, false⟩, ⟨(some 81), (.mov (.t 12)), (some (80, true)), false⟩, ⟨(some 82), (.un .not (.t 81)), (some (80, true)), false⟩, ⟨(some 83), (.pick (.t 80) (.t 82) (.c (.d (.bool false)))), none, false⟩, ⟨(some 2), (.asg (.t 83)), none, false⟩] []) Q st := Iff.rfl
def ic_law04_LocationTexts (p : Nums) : IC := (.seq (.region [⟨(some 2), (.asg (.c (.d (.bool false)))), none, false⟩] []) (.seq (.seq (law04_LocationTexts_c1 p) (.cond (.t 19) (law04_LocationTexts_c2 p) .skip)) (.seq (law04_LocationTexts_c3 p) (.seq (.seq (.region [⟨(some 26), (.mov (.t 4)), none, false⟩, ⟨(some 27), (.un .not (.t 26)), none, false⟩] []) (.cond (.t 27) (.seq (law04_LocationTexts_c4 p) .ret) .skip)) (.seq (.seq (law04_LocationTexts_c5 p) (.cond (.t 41) (law04_LocationTexts_c6 p) .skip)) (.seq (law04_LocationTexts_c7 p) (.seq (law04_LocationTexts_c8 p) (.seq (law04_LocationTexts_c9 p) (.seq (law04_LocationTexts_c10 p) (.seq (law04_LocationTexts_c11 p) .ret))))))))))
def law04_LocationMatchesReference_c1 (p : Nums) : IC := (.region [⟨(some 16), (.call p.law04_awake []), none, false⟩, ⟨(some 17), (.un .not (.t 16)), none, false⟩, ⟨(some 18), (.mov (.t 17)), none, false⟩, ⟨(some 19), (.mov (.t 2)), (some (18, false)), false⟩, ⟨(some 20), (.lenS (.t 19)), (some (18, false)), false⟩, ⟨(some 21), (.bin .gtr (.t 20) (.c (.d (.int .i64 1000)))), (some (18, false)), false⟩, ⟨(some 22), (.pick (.t 18) (.c (.d (.bool true))) (.t 21)), none, false⟩] [])
@[simp] theorem law04_LocationMatchesReference_c1_eq {P m Q st} {p : Nums} : AW P m (law04_LocationMatchesReference_c1 p) Q st ↔ AW P m (.region [⟨(some 16), (.call p.law04_awake []), none, false⟩, ⟨(some 17), (.un .not (.t 16)), none, false⟩, ⟨(some 18), (.mov (.t 17)), none, false⟩, ⟨(some 19), (.mov (.t 2)), (some (18, false)), false⟩, ⟨(some 20), (.lenS (.t 19)), (some (18, false)), false⟩, ⟨(some 21), (.bin .gtr (.t 20) (.c (.d (.int .i64 1000)))), (some (18, false)), false⟩, ⟨(some 22), (.pick (.t 18) (.c (.d (.bool true))) (.t 21)), none, false⟩] []) Q st := Iff.rfl
def law04_LocationMatchesReference_c2 (p : Nums) : IC := (.seq (.region [⟨(some 23), (.call p.law04_awake []), none, false⟩, ⟨(some 10), (.asg (.t 23)), none, false⟩] []) .ret)
@[simp] theorem law04_LocationMatchesReference_c2_eq {P m Q st} {p : Nums} : AW P m (law04_LocationMatchesReference_c2 p) Q st ↔ AW P m (.seq (.region [⟨(some 23), (.call p.law04_awake []), none, false⟩, ⟨(some 10), (.asg (.t 23)), none, false⟩] []) .ret) Q st := Iff.rfl
def law04_LocationMatchesReference_c3 (p : Nums) : IC := (.region [⟨(some 24), (.mov (.t 0)), none, false⟩, ⟨(some 25), (.bin .rem (.t 24) (.c (.d (.int .u64 2199023255552)))), none, false⟩, ⟨(some 26), (.conv .i64 (.t 25)), none, false⟩, ⟨(some 11), (.asg (.t 26)), none, false⟩] [])
@[simp] theorem law04_LocationMatchesReference_c3_eq {P m Q st} {p : Nums} : AW P m (law04_LocationMatchesReference_c3 p) Q st ↔ AW P m (.region [⟨(some 24), (.mov (.t 0)), none, false⟩, ⟨(some 25), (.bin .rem (.t 24) (.c (.d (.int .u64 2199023255552)))), none, false⟩, ⟨(some 26), (.conv .i64 (.t 25)), none, false⟩, ⟨(some 11), (.asg (.t 26)), none, false⟩] []) Q st := Iff.rfl
def law04_LocationMatchesReference_c4 (p : Nums) : IC := (.region [⟨(some 28), (.mov (.t 2)), none, false⟩, ⟨(some 29), (.call p.location_Parse [(.t 28)]), none, false⟩, ⟨(some 27), (.mov (.t 29)), none, false⟩, ⟨(some 30), (.ext (.t 27) 0), none, false⟩, ⟨(some 31), (.ext (.t 27) 1), none, false⟩, ⟨(some 12), (.asg (.t 30)), none, false⟩, ⟨(some 13), (.asg (.t 31)), none, false⟩] [])
@[simp] theorem law04_LocationMatchesReference_c4_eq {P m Q st} {p : Nums} : AW P m (law04_LocationMatchesReference_c4 p) Q st ↔ AW P m (.region [⟨(some 28), (.mov (.t 2)), none, false⟩, ⟨(some 29), (.call p.location_Parse [(.t 28)]), none, false⟩, ⟨(some 27), (.mov (.t 29)), none, false⟩, ⟨(some 30), (.ext (.t 27) 0), none, false⟩, ⟨(some 31), (.ext (.t 27) 1), none, false⟩, ⟨(some 12), (.asg (.t 30)), none, false⟩, ⟨(some 13), (.asg (.t 31)), none, false⟩] []) Q st := Iff.rfl
def law04_LocationMatchesReference_c5 (p : Nums) : IC := (.region [⟨(some 33), (.mov (.t 2)), none, false⟩, ⟨(some 34), (.call p.ref04_Parse [(.t 33)]), none, false⟩, ⟨(some 32), (.mov (.t 34)), none, false⟩, ⟨(some 35), (.ext (.t 32) 0), none, false⟩, ⟨(some 36), (.ext (.t 32) 1), none, false⟩, ⟨(some 14), (.asg (.t 35)), none, false⟩, ⟨(some 15), (.asg (.t 36)), none, false⟩] [])
@[simp] theorem law04_LocationMatchesReference_c5_eq {P m Q st} {p : Nums} : AW P m (law04_LocationMatchesReference_c5 p) Q st ↔ AW P m (.region [⟨(some 33), (.mov (.t 2)), none, false⟩, ⟨(some 34), (.call p.ref04_Parse [(.t 33)]), none, false⟩, ⟨(some 32), (.mov (.t 34)), none, false⟩, ⟨(some 35), (.ext (.t 32) 0), none, false⟩, ⟨(some 36), (.ext (.t 32) 1), none, false⟩, ⟨(some 14), (.asg (.t 35)), none, false⟩, ⟨(some 15), (.asg (.t 36)), none, false⟩] []) Q st := Iff.rfl
def law04_LocationMatchesReference_c6 (p : Nums) : IC := (.region [⟨(some 37), (.mov (.t 11)), none, false⟩, ⟨(some 38), (.call p.location_IsSlot [(.t 37)]), none, false⟩, ⟨(some 39), (.mov (.t 11)), none, false⟩, ⟨(some 40), (.bin .rem (.t 39) (.c (.d (.int .i64 2)))), none, false⟩, ⟨(some 41), (.bin .eql (.t 40) (.c (.d (.int .i64 1)))), none, false⟩, ⟨(some 42), (.eqb false (.t 38) (.t 41)), none, false⟩, ⟨(some 43), (.mov (.t 42)), none, false⟩, ⟨(some 44), (.mov (.t 11)), (some (43, true)), false⟩, ⟨(some 45), (.call p.location_Index [(.t 44)]), (some (43, true)), false⟩, ⟨(some 46), (.mov (.t 11)), (some (43, true)), false⟩, ⟨(some 47), (.bin .quo (.t 46) (.c (.d (.int .i64 2)))), (some (43, true)), false⟩, ⟨(some 48), (.bin .eql (.t 45) (.t 47)), (some (43, true)), false⟩, ⟨(some 49), (.pick (.t 43) (.t 48) (.c (.d (.bool false)))), none, false⟩, ⟨(some 50), (.mov (.t 49)), none, false⟩, ⟨(some 51), (.mov (.t 11)), (some (50, true)), false⟩, ⟨(some 52), (.call p.location_Text [(.t 51)]), (some (50, true)), false⟩, ⟨(some 53), (.mov (.t 11)), (some (50, true)), false⟩, ⟨(some 54), (.call p.ref04_Text [(.t 53)]), (some (50, true)), false⟩, ⟨(some 55), (.bin .eql (.t 52) (.t 54)), (some (50, true)), false⟩, ⟨(some 56), (.pick (.t 50) (.t 55) (.c (.d (.bool false)))), none, false⟩, ⟨(some 57), (.mov (.t 56)), none, false⟩, ⟨(some 58), (.mov (.t 12)), (some (57, true)), false⟩, ⟨(some 59), (.mov (.t 14)), (some (57, true)), false⟩, ⟨(some 60), (.bin .eql (.t 58) (.t 59)), (some (57, true)), false⟩, ⟨(some 61), (.pick (.t 57) (.t 60) (.c (.d (.bool false)))), none, false⟩, ⟨(some 62), (.mov (.t 61)), none, false⟩, ⟨(some 63), (.mov (.t 13)), (some (62, true)), false⟩, ⟨(some 64), (.mov (.t 15)), (some (62, true)), false⟩, ⟨(some 65), (.eqb false (.t 63) (.t 64)), (some (62, true)), false⟩, ⟨(some 66), (.pick (.t 62) (.t 65) (.c (.d (.bool false)))), none, false⟩, ⟨(some 67), (.mov (.t 66)), none, false⟩, ⟨(some 68), (.mov (.t 1)), (some (67, true)), false⟩, ⟨(some 69), (.mov (.t 3)), (some (67, true)), false⟩, ⟨(some 70), (.mov (.t 4)), (some (67, true)), false⟩, ⟨(some 71), (.call p.location_InRange [(.t 68), (.t 69), (.t 70)]), (some (67, true)), false⟩, ⟨(some 72), (.mov (.t 1)), (some (67, true)), false⟩, ⟨(some 73), (.mov (.t 3)), (some (67, true)), false⟩, ⟨(some 74), (.mov (.t 4)), (some (67, true)), false⟩, ⟨(some 75), (.call p.ref04_InRange [(.t 72), (.t 73), (.t 74)]), (some (67, true)), false⟩, ⟨(some 76), (.eqb false (.t 71) (.t 75)), (some (67, true)), false⟩, ⟨(some 77), (.pick (.t 67) (.t 76) (.c (.d (.bool false)))), none, false⟩, ⟨(some 10), (.asg (.t 77)), none, false⟩] [])
@[simp] theorem law04_LocationMatchesReference_c6_eq {P m Q st} {p : Nums} : AW P m (law04_LocationMatchesReference_c6 p) Q st ↔ AW P m (.region [⟨(some 37), (.mov (.t 11)), none, false⟩, ⟨(some 38), (.call p.location_IsSlot [(.t 37)]), none, false⟩, ⟨(some 39), (.mov (.t 11)), none, false⟩, ⟨(some 40), (.bin .rem (.t 39) (.c (.d (.int .i64 2)))), none, false⟩, ⟨(some 41), (.bin .eql (.t 40) (.c (.d (.int .i64 1)))), none, false⟩, ⟨(some 42), (.eqb false (.t 38) (.t 41)), none, false⟩, ⟨(some 43), (.mov (.t 42)), none, false⟩, ⟨(some 44), (.mov (.t 11)), (some (43, true)), false⟩, ⟨(some 45), (.call p.location_Index [(.t 44)]), (some (43, true)), false⟩, ⟨(some 46), (.mov (.t 11)), (some (43, true)), false⟩, ⟨(some 47), (.bin .quo (.t 46) (.c (.d (.int .i64 2)))), (some (43, true)), false⟩, ⟨(some 48), (.bin .eql (.t 45) (.t 47)), (some (43, true)), false⟩, ⟨(some 49), (.pick (.t 43) (.t 48) (.c (.d (.bool false)))), none, false⟩, ⟨(some 50), (.mov (.t 49)), none, false⟩, ⟨(some 51), (.mov (.t 11)), (some (50, true)), false⟩, ⟨(some 52), (.call p.location_Text [(.t 51)]), (some (50, true)), false⟩, ⟨(some 53), (.mov (.t 11)), (some (50, true)), false⟩, ⟨(some 54), (.call p.ref04_Text [(.t 53)]), (some (50, true)), false⟩, ⟨(some 55), (.bin .eql (.t 52) (.t 54)), (some (50, true)), false⟩, ⟨(some 56), (.pick (.t 50) (.t 55) (.c (.d (.bool false)))), none, false⟩, ⟨(some 57), (.mov (.t 56)), none, false⟩, ⟨(some 58), (.mov (.t 12)), (some (57, true)), false⟩, ⟨(some 59), (.mov (.t 14)), (some (57, true)), false⟩, ⟨(some 60), (.bin .eql (.t 58) (.t 59)), (some (57, true)), false⟩, ⟨(some 61), (.pick (.t 57) (.t 60) (.c (.d (.bool false)))), none, false⟩, ⟨(some 62), (.mov (.t 61)), none, false⟩, ⟨(some 63), (.mov (.t 13)), (some (62, true)), false⟩, ⟨(some 64), (.mov (.t 15)), (some (62, true)), false⟩, ⟨(some 65), (.eqb false (.t 63) (.t 64)), (some (62, true)), false⟩, ⟨(some 66), (.pick (.t 62) (.t 65) (.c (.d (.bool false)))), none, false⟩, ⟨(some 67), (.mov (.t 66)), none, false⟩, ⟨(some 68), (.mov (.t 1)), (some (67, true)), false⟩, ⟨(some 69), (.mov (.t 3)), (some (67, true)), false⟩, ⟨(some 70), (.mov (.t 4)), (some (67, true)), false⟩, ⟨(some 71), (.call p.location_InRange [(.t 68), (.t 69), (.t 70)]), (some (67, true)), false⟩, ⟨(some 72), (.mov (.t 1)), (some (67, true)), false⟩, ⟨(some 73), (.mov (.t 3)), (some (67, true)), false⟩, ⟨(some 74), (.mov (.t 4)), (some (67, true)), false⟩, ⟨(some 75), (.call p.ref04_InRange [(.t 72), (.t 73), (.t 74)]), (some (67, true)), false⟩, ⟨(some 76), (.eqb false (.t 71) (.t 75)), (some (67, true)), false⟩, ⟨(some 77), (.pick (.t 67) (.t 76) (.c (.d (.bool false)))), none, false⟩, ⟨(some 10), (.asg (.t 77)), none, false⟩] []) Q st := Iff.rfl
def ic_law04_LocationMatchesReference (p : Nums) : IC := (.seq (.region [⟨(some 10), (.asg (.c (.d (.bool false)))), none, false⟩] []) (.seq (.seq (law04_LocationMatchesReference_c1 p) (.cond (.t 22) (law04_LocationMatchesReference_c2 p) .skip)) (.seq (law04_LocationMatchesReference_c3 p) (.seq (law04_LocationMatchesReference_c4 p) (.seq (law04_LocationMatchesReference_c5 p) (.seq (law04_LocationMatchesReference_c6 p) .ret))))))
def law04_LocationRange_c1 (p : Nums) : IC := (.seq (.region [⟨(some 8), (.asg (.c (.d (.bool false)))), none, false⟩] []) .ret)
@[simp] theorem law04_LocationRange_c1_eq {P m Q st} {p : Nums} : AW P m (law04_LocationRange_c1 p) Q st ↔ AW P m (.seq (.region [⟨(some 8), (.asg (.c (.d (.bool false)))), none, false⟩] []) .ret) Q st := Iff.rfl
def law04_LocationRange_c2 (p : Nums) : IC := (.region [⟨(some 15), (.mov (.t 0)), none, false⟩, ⟨(some 16), (.conv .i64 (.t 15)), none, false⟩, ⟨(some 17), (.call p.location_Reg [(.t 16)]), none, false⟩, ⟨(some 9), (.asg (.t 17)), none, false⟩] [])
@[simp] theorem law04_LocationRange_c2_eq {P m Q st} {p : Nums} : AW P m (law04_LocationRange_c2 p) Q st ↔ AW P m (.region [⟨(some 15), (.mov (.t 0)), none, false⟩, ⟨(some 16), (.conv .i64 (.t 15)), none, false⟩, ⟨(some 17), (.call p.location_Reg [(.t 16)]), none, false⟩, ⟨(some 9), (.asg (.t 17)), none, false⟩] []) Q st := Iff.rfl
def law04_LocationRange_c3 (p : Nums) : IC := (.region [⟨(some 18), (.mov (.t 0)), none, false⟩, ⟨(some 19), (.conv .i64 (.t 18)), none, false⟩, ⟨(some 20), (.call p.location_Slot [(.t 19)]), none, false⟩, ⟨(some 10), (.asg (.t 20)), none, false⟩] [])
@[simp] theorem law04_LocationRange_c3_eq {P m Q st} {p : Nums} : AW P m (law04_LocationRange_c3 p) Q st ↔ AW P m (.region [⟨(some 18), (.mov (.t 0)), none, false⟩, ⟨(some 19), (.conv .i64 (.t 18)), none, false⟩, ⟨(some 20), (.call p.location_Slot [(.t 19)]), none, false⟩, ⟨(some 10), (.asg (.t 20)), none, false⟩] []) Q st := Iff.rfl
def law04_LocationRange_c4 (p : Nums) : IC := (.region [⟨(some 21), (.mov (.t 9)), none, false⟩, ⟨(some 22), (.mov (.t 1)), none, false⟩, ⟨(some 23), (.conv .i64 (.t 22)), none, false⟩, ⟨(some 24), (.mov (.t 2)), none, false⟩, ⟨(some 25), (.conv .i64 (.t 24)), none, false⟩, ⟨(some 26), (.call p.location_InRange [(.t 21), (.t 23), (.t 25)]), none, false⟩, ⟨(some 11), (.asg (.t 26)), none, false⟩] [])
@[simp] theorem law04_LocationRange_c4_eq {P m Q st} {p : Nums} : AW P m (law04_LocationRange_c4 p) Q st ↔ AW P m (.region [⟨(some 21), (.mov (.t 9)), none, false⟩, ⟨(some 22), (.mov (.t 1)), none, false⟩, ⟨(some 23), (.conv .i64 (.t 22)), none, false⟩, ⟨(some 24), (.mov (.t 2)), none, false⟩, ⟨(some 25), (.conv .i64 (.t 24)), none, false⟩, ⟨(some 26), (.call p.location_InRange [(.t 21), (.t 23), (.t 25)]), none, false⟩, ⟨(some 11), (.asg (.t 26)), none, false⟩] []) Q st := Iff.rfl
def law04_LocationRange_c5 (p : Nums) : IC := (.region [⟨(some 27), (.mov (.t 10)), none, false⟩, ⟨(some 28), (.mov (.t 1)), none, false⟩, ⟨(some 29), (.conv .i64 (.t 28)), none, false⟩, ⟨(some 30), (.mov (.t 2)), none, false⟩, ⟨(some 31), (.conv .i64 (.t 30)), none, false⟩, ⟨(some 32), (.call p.location_InRange [(.t 27), (.t 29), (.t 31)]), none, false⟩, ⟨(some 12), (.asg (.t 32)), none, false⟩] [])
@[simp] theorem law04_LocationRange_c5_eq {P m Q st} {p : Nums} : AW P m (law04_LocationRange_c5 p) Q st ↔ AW P m (.region [⟨(some 27), (.mov (.t 10)), none, false⟩, ⟨(some 28), (.mov (.t 1)), none, false⟩, ⟨(some 29), (.conv .i64 (.t 28)), none, false⟩, ⟨(some 30), (.mov (.t 2)), none, false⟩, ⟨(some 31), (.conv .i64 (.t 30)), none, false⟩, ⟨(some 32), (.call p.location_InRange [(.t 27), (.t 29), (.t 31)]), none, false⟩, ⟨(some 12), (.asg (.t 32)), none, false⟩] []) Q st := Iff.rfl
def law04_LocationRange_c6 (p : Nums) : IC := (.region [⟨(some 33), (.mov (.t 11)), none, false⟩, ⟨(some 34), (.mov (.t 0)), none, false⟩, ⟨(some 35), (.mov (.t 1)), none, false⟩, ⟨(some 36), (.bin .lss (.t 34) (.t 35)), none, false⟩, ⟨(some 37), (.eqb true (.t 33) (.t 36)), none, false⟩, ⟨(some 38), (.mov (.t 37)), none, false⟩, ⟨(some 39), (.mov (.t 12)), (some (38, false)), false⟩, ⟨(some 40), (.mov (.t 0)), (some (38, false)), false⟩, ⟨(some 41), (.mov (.t 2)), (some (38, false)), false⟩, ⟨(some 42), (.bin .lss (.t 40) (.t 41)), (some (38, false)), false⟩, ⟨(some 43), (.eqb true (.t 39) (.t 42)), (some (38, false)), false⟩, ⟨(some 44), (.pick (.t 38) (.c (.d (.bool true))) (.t 43)), none, false⟩] [])
@[simp] theorem law04_LocationRange_c6_eq {P m Q st} {p : Nums} : AW P m (law04_LocationRange_c6 p) Q st ↔ AW P m (.region [⟨(some 33), (.mov (.t 11)), none, false⟩, ⟨(some 34), (.mov (.t 0)), none, false⟩, ⟨(some 35), (.mov (.t 1)), none, false⟩, ⟨(some 36), (.bin .lss (.t 34) (.t 35)), none, false⟩, ⟨(some 37), (.eqb true (.t 33) (.t 36)), none, false⟩, ⟨(some 38), (.mov (.t 37)), none, false⟩, ⟨(some 39), (.mov (.t 12)), (some (38, false)), false⟩, ⟨(some 40), (.mov (.t 0)), (some (38, false)), false⟩, ⟨(some 41), (.mov (.t 2)), (some (38, false)), false⟩, ⟨(some 42), (.bin .lss (.t 40) (.t 41)), (some (38, false)), false⟩, ⟨(some 43), (.eqb true (.t 39) (.t 42)), (some (38, false)), false⟩, ⟨(some 44), (.pick (.t 38) (.c (.d (.bool true))) (.t 43)), none, false⟩] []) Q st := Iff.rfl
def law04_LocationRange_c7 (p : Nums) : IC := (.seq (.region [⟨(some 8), (.asg (.c (.d (.bool false)))), none, false⟩] []) .ret)
@[simp] theorem law04_LocationRange_c7_eq {P m Q st} {p : Nums} : AW P m (law04_LocationRange_c7 p) Q st ↔ AW P m (.seq (.region [⟨(some 8), (.asg (.c (.d (.bool false)))), none, false⟩] []) .ret) Q st := Iff.rfl
def law04_LocationRange_c8 (p : Nums) : IC := (.region [⟨(some 45), (.mov (.t 11)), none, false⟩, ⟨(some 46), (.un .not (.t 45)), none, false⟩, ⟨(some 47), (.mov (.t 46)), none, false⟩, ⟨(some 48), (.mov (.t 9)), (some (47, false)), false⟩, ⟨(some 49), (.mov (.t 1)), (some (47, false)), false⟩, ⟨(some 50), (.conv .i64 (.t 49)), (some (47, false)), false⟩, ⟨(some 51), (.mov (.t 3)), (some (47, false)), false⟩, ⟨(some 52), (.conv .i64 (.t 51)), (some (47, false)), false⟩, ⟨(some 53), (.bin .add (.t 50) (.t 52)), (some (47, false)), false⟩, ⟨(some 54), (.call p.location_InRange [(.t 48), (.t 53), (.c (.d (.int .i64 0)))]), (some (47, false)), false⟩, ⟨(some 55), (.pick (.t 47) (.c (.d (.bool true))) (.t 54)), none, false⟩, ⟨(some 56), (.mov (.t 55)), none, false⟩, ⟨(some 57), (.mov (.t 12)), (some (56, true)), false⟩, ⟨(some 58), (.un .not (.t 57)), (some (56, true)), false⟩, ⟨(some 59), (.mov (.t 58)), (some (56, true)), false⟩, ⟨(some 60), (.mov (.t 10)), (some (59, false)), false⟩, ⟨(some 61), (.mov (.t 2)), (some (59, false)), false⟩, ⟨(some 62), (.conv .i64 (.t 61)), (some (59, false)), false⟩, ⟨(some 63), (.mov (.t 3)), (some (59, false)), false⟩, ⟨(some 64), (.conv .i64 (.t 63)), (some (59, false)), false⟩, ⟨(some 65), (.bin .add (.t 62) (.t 64)), (some (59, false)), false⟩, ⟨(some 66), (.call p.location_InRange [(.t 60), (.c (.d (.int .i64 0))), (.t 65)]), (some (59, false)), false⟩, ⟨(some 67), (.pick (.t 59) (.c (.d (.bool true))) (.t 66)), (some (56, true)), false⟩, ⟨(some 68), (.pick (.t 56) (.t 67) (.c (.d (.bool false)))), none, false⟩, ⟨(some 8), (.asg (.t 68)), none, false⟩] [])
@[simp] theorem law04_LocationRange_c8_eq {P m Q st} {p : Nums} : AW P m (law04_LocationRange_c8 p) Q st ↔ AW P m (.region [⟨(some 45), (.mov (.t 11)), none, false⟩, ⟨(some 46), (.un .not (.t 45)), none, false⟩, ⟨(some 47), (.mov (.t 46)), none, false⟩, ⟨(some 48), (.mov (.t 9)), (some (47, false)), false⟩, ⟨(some 49), (.mov (.t 1)), (some (47, false)), false⟩, ⟨(some 50), (.conv .i64 (.t 49)), (some (47, false)), false⟩, ⟨(some 51), (.mov (.t 3)), (some (47, false)), false⟩, ⟨(some 52), (.conv .i64 (.t 51)), (some (47, false)), false⟩, ⟨(some 53), (.bin .add (.t 50) (.t 52)), (some (47, false)), false⟩, ⟨(some 54), (.call p.location_InRange [(.t 48), (.t 53), (.c (.d (.int .i64 0)))]), (some (47, false)), false⟩, ⟨(some 55), (.pick (.t 47) (.c (.d (.bool true))) (.t 54)), none, false⟩, ⟨(some 56), (.mov (.t 55)), none, false⟩, ⟨(some 57), (.mov (.t 12)), (some (56, true)), false⟩, ⟨(some 58), (.un .not (.t 57)), (some (56, true)), false⟩, ⟨(some 59), (.mov (.t 58)), (some (56, true)), false⟩, ⟨(some 60), (.mov (.t 10)), (some (59, false)), false⟩, ⟨(some 61), (.mov (.t 2)), (some (59, false)), false⟩, ⟨(some 62), (.conv .i64 (.t 61)), (some (59, false)), false⟩, ⟨(some 63), (.mov (.t 3)), (some (59, false)), false⟩, ⟨(some 64), (.conv .i64 (.t 63)), (some (59, false)), false⟩, ⟨(some 65), (.bin .add (.t 62) (.t 64)), (some (59, false)), false⟩, ⟨(some 66), (.call p.location_InRange [(.t 60), (.c (.d (.int .i64 0))), (.t 65)]), (some (59, false)), false⟩, ⟨(some 67), (.pick (.t 59) (.c (.d (.bool true))) (.t 66)), (some (56, true)), false⟩, ⟨(some 68), (.pick (.t 56) (.t 67) (.c (.d (.bool false)))), none, false⟩, ⟨(some 8), (.asg (.t 68)), none, false⟩] []) Q st := Iff.rfl
def ic_law04_LocationRange (p : Nums) : IC := (.seq (.region [⟨(some 8), (.asg (.c (.d (.bool false)))), none, false⟩] []) (.seq (.seq (.region [⟨(some 13), (.call p.law04_awake []), none, false⟩, ⟨(some 14), (.un .not (.t 13)), none, false⟩] []) (.cond (.t 14) (law04_LocationRange_c1 p) .skip)) (.seq (law04_LocationRange_c2 p) (.seq (law04_LocationRange_c3 p) (.seq (law04_LocationRange_c4 p) (.seq (law04_LocationRange_c5 p) (.seq (.seq (law04_LocationRange_c6 p) (.cond (.t 44) (law04_LocationRange_c7 p) .skip)) (.seq (law04_LocationRange_c8 p) .ret))))))))
def law04_awake_c1 (p : Nums) : IC := (.region [⟨(some 8), (.call p.location_Parse [(.c (.d (.str [115, 50])))]), none, false⟩, ⟨(some 7), (.mov (.t 8)), none, false⟩, ⟨(some 9), (.ext (.t 7) 0), none, false⟩, ⟨(some 10), (.ext (.t 7) 1), none, false⟩, ⟨(some 1), (.asg (.t 9)), none, false⟩, ⟨(some 2), (.asg (.t 10)), none, false⟩] [])
@[simp] theorem law04_awake_c1_eq {P m Q st} {p : Nums} : AW P m (law04_awake_c1 p) Q st ↔ AW P m (.region [⟨(some 8), (.call p.location_Parse [(.c (.d (.str [115, 50])))]), none, false⟩, ⟨(some 7), (.mov (.t 8)), none, false⟩, ⟨(some 9), (.ext (.t 7) 0), none, false⟩, ⟨(some 10), (.ext (.t 7) 1), none, false⟩, ⟨(some 1), (.asg (.t 9)), none, false⟩, ⟨(some 2), (.asg (.t 10)), none, false⟩] []) Q st := Iff.rfl
def law04_awake_c2 (p : Nums) : IC := (.region [⟨(some 12), (.call p.location_Parse [(.c (.d (.str [114, 48, 50])))]), none, false⟩, ⟨(some 11), (.mov (.t 12)), none, false⟩, ⟨(some 13), (.ext (.t 11) 0), none, false⟩, ⟨(some 14), (.ext (.t 11) 1), none, false⟩, ⟨(some 3), (.asg (.t 13)), none, false⟩, ⟨(some 4), (.asg (.t 14)), none, false⟩] [])
@[simp] theorem law04_awake_c2_eq {P m Q st} {p : Nums} : AW P m (law04_awake_c2 p) Q st ↔ AW P m (.region [⟨(some 12), (.call p.location_Parse [(.c (.d (.str [114, 48, 50])))]), none, false⟩, ⟨(some 11), (.mov (.t 12)), none, false⟩, ⟨(some 13), (.ext (.t 11) 0), none, false⟩, ⟨(some 14), (.ext (.t 11) 1), none, false⟩, ⟨(some 3), (.asg (.t 13)), none, false⟩, ⟨(some 4), (.asg (.t 14)), none, false⟩] []) Q st := Iff.rfl
def law04_awake_c3 (p : Nums) : IC := (.region [⟨(some 16), (.call p.location_Parse [(.c (.d (.str [120, 49])))]), none, false⟩, ⟨(some 15), (.mov (.t 16)), none, false⟩, ⟨(some 17), (.ext (.t 15) 0), none, false⟩, ⟨(some 18), (.ext (.t 15) 1), none, false⟩, ⟨(some 5), (.asg (.t 17)), none, false⟩, ⟨(some 6), (.asg (.t 18)), none, false⟩] [])
@[simp] theorem law04_awake_c3_eq {P m Q st} {p : Nums} : AW P m (law04_awake_c3 p) Q st ↔ AW P m (.region [⟨(some 16), (.call p.location_Parse [(.c (.d (.str [120, 49])))]), none, false⟩, ⟨(some 15), (.mov (.t 16)), none, false⟩, ⟨(some 17), (.ext (.t 15) 0), none, false⟩, ⟨(some 18), (.ext (.t 15) 1), none, false⟩, ⟨(some 5), (.asg (.t 17)), none, false⟩, ⟨(some 6), (.asg (.t 18)), none, false⟩] []) Q st := Iff.rfl
def law04_awake_c4 (p : Nums) : IC := (.region [⟨(some 19), (.call p.location_Reg [(.c (.d (.int .i64 2)))]), none, false⟩, ⟨(some 20), (.bin .eql (.t 19) (.c (.d (.int .i64 4)))), none, false⟩, ⟨(some 21), (.mov (.t 20)), none, false⟩, ⟨(some 22), (.call p.location_Slot [(.c (.d (.int .i64 2)))]), (some (21, true)), false⟩, ⟨(some 23), (.bin .eql (.t 22) (.c (.d (.int .i64 5)))), (some (21, true)), false⟩, ⟨(some 24), (.pick (.t 21) (.t 23) (.c (.d (.bool false)))), none, false⟩, ⟨(some 25), (.mov (.t 24)), none, false⟩, ⟨(some 26), (.call p.location_Text [(.c (.d (.int .i64 4)))]), (some (25, true)), false⟩, ⟨(some 27), (.bin .eql (.t 26) (.c (.d (.str [114, 50])))), (some (25, true)), false⟩, ⟨(some 28), (.pick (.t 25) (.t 27) (.c (.d (.bool false)))), none, false⟩, ⟨(some 29), (.mov (.t 28)), none, false⟩, ⟨(some 30), (.call p.location_Text [(.c (.d (.int .i64 5)))]), (some (29, true)), false⟩, ⟨(some 31), (.bin .eql (.t 30) (.c (.d (.str [115, 50])))), (some (29, true)), false⟩, ⟨(some 32), (.pick (.t 29) (.t 31) (.c (.d (.bool false)))), none, false⟩, ⟨(some 33), (.mov (.t 32)), none, false⟩, ⟨(some 34), (.mov (.t 1)), (some (33, true)), false⟩, ⟨(some 35), (.bin .eql (.t 34) (.c (.d (.int .i64 5)))), (some (33, true)), false⟩, ⟨(some 36), (.pick (.t 33) (.t 35) (.c (.d (.bool false)))), none, false⟩, ⟨(some 37), (.mov (.t 36)), none, false⟩, ⟨(some 38), (.mov (.t 2)), (some (37, true)), false⟩, ⟨(some 39), (.pick (.t 37) (.t 38) (.c (.d (.bool false)))), none, false⟩, ⟨(some 40), (.mov (.t 39)), none, false⟩, ⟨(some 41), (.mov (.t 4)), (some (40, true)), false⟩, ⟨(some 42), (.un .not (.t 41)), (some (40, true)), false⟩, ⟨(some 43), (.pick (.t 40) (.t 42) (.c (.d (.bool false)))), none, false⟩, ⟨(some 44), (.mov (.t 43)), none, false⟩, ⟨(some 45), (.mov (.t 6)), (some (44, true)), false⟩, ⟨(some 46), (.un .not (.t 45)), (some (44, true)), false⟩, ⟨(some 47), (.pick (.t 44) (.t 46) (.c (.d (.bool false)))), none, false⟩, ⟨(some 48), (.mov (.t 47)), none, false⟩, ⟨(some 49), (.call p.location_IsSlot [(.c (.d (.int .i64 5)))]), (some (48, true)), false⟩, ⟨(some 50), (.pick (.t 48) (.t 49) (.c (.d (.bool false)))), none, false⟩, ⟨(some 51), (.mov (.t 50)), none, false⟩, ⟨(some 52), (.call p.location_IsSlot [(.c (.d (.int .i64 4)))]), (some (51, true)), false⟩, ⟨(some 53), (.un .not (.t 52)), (some (51, true)), false⟩, ⟨(some 54), (.pick (.t 51) (.t 53) (.c (.d (.bool false)))), none, false⟩, ⟨(some 55), (.mov (.t 54)), none, false⟩, ⟨(some 56), (.call p.location_Index [(.c (.d (.int .i64 5)))]), (some (55, true)), false⟩, ⟨(some 57), (.bin .eql (.t 56) (.c (.d (.int .i64 2)))), (some (55, true)), false⟩, ⟨(some 58), (.pick (.t 55) (.t 57) (.c (.d (.bool false)))), none, false⟩, ⟨(some 0), (.asg (.t 58)), none, false⟩] [])
@[simp] theorem law04_awake_c4_eq {P m Q st} {p : Nums} : AW P m (law04_awake_c4 p) Q st ↔ AW P m (.region [⟨(some 19), (.call p.location_Reg [(.c (.d (.int .i64 2)))]), none, false⟩, ⟨(some 20), (.bin .eql (.t 19) (.c (.d (.int .i64 4)))), none, false⟩, ⟨(some 21), (.mov (.t 20)), none, false⟩, ⟨(some 22), (.call p.location_Slot [(.c (.d (.int .i64 2)))]), (some (21, true)), false⟩, ⟨(some 23), (.bin .eql (.t 22) (.c (.d (.int .i64 5)))), (some (21, true)), false⟩, ⟨(some 24), (.pick (.t 21) (.t 23) (.c (.d (.bool false)))), none, false⟩, ⟨(some 25), (.mov (.t 24)), none, false⟩, ⟨(some 26), (.call p.location_Text [(.c (.d (.int .i64 4)))]), (some (25, true)), false⟩, ⟨(some 27), (.bin .eql (.t 26) (.c (.d (.str [114, 50])))), (some (25, true)), false⟩, ⟨(some 28), (.pick (.t 25) (.t 27) (.c (.d (.bool false)))), none, false⟩, ⟨(some 29), (.mov (.t 28)), none, false⟩, ⟨(some 30), (.call p.location_Text [(.c (.d (.int .i64 5)))]), (some (29, true)), false⟩, ⟨(some 31), (.bin .eql (.t 30) (.c (.d (.str [115, 50])))), (some (29, true)), false⟩, ⟨(some 32), (.pick (.t 29) (.t 31) (.c (.d (.bool false)))), none, false⟩, ⟨(some 33), (.mov (.t 32)), none, false⟩, ⟨(some 34), (.mov (.t 1)), (some (33, true)), false⟩, ⟨(some 35), (.bin .eql (.t 34) (.c (.d (.int .i64 5)))), (some (33, true)), false⟩, ⟨(some 36), (.pick (.t 33) (.t 35) (.c (.d (.bool false)))), none, false⟩, ⟨(some 37), (.mov (.t 36)), none, false⟩, ⟨(some 38), (.mov (.t 2)), (some (37, true)), false⟩, ⟨(some 39), (.pick (.t 37) (.t 38) (.c (.d (.bool false)))), none, false⟩, ⟨(some 40), (.mov (.t 39)), none, false⟩, ⟨(some 41), (.mov (.t 4)), (some (40, true)), false⟩, ⟨(some 42), (.un .not (.t 41)), (some (40, true)), false⟩, ⟨(some 43), (.pick (.t 40) (.t 42) (.c (.d (.bool false)))), none, false⟩, ⟨(some 44), (.mov (.t 43)), none, false⟩, ⟨(some 45), (.mov (.t 6)), (some (44, true)), false⟩, ⟨(some 46), (.un .not (.t 45)), (some (44, true)), false⟩, ⟨(some 47), (.pick (.t 44) (.t 46) (.c (.d (.bool false)))), none, false⟩, ⟨(some 48), (.mov (.t 47)), none, false⟩, ⟨(some 49), (.call p.location_IsSlot [(.c (.d (.int .i64 5)))]), (some (48, true)), false⟩, ⟨(some 50), (.pick (.t 48) (.t 49) (.c (.d (.bool false)))), none, false⟩, ⟨(some 51), (.mov (.t 50)), none, false⟩, ⟨(some 52), (.call p.location_IsSlot [(.c (.d (.int .i64 4)))]), (some (51, true)), false⟩, ⟨(some 53), (.un .not (.t 52)), (some (51, true)), false⟩, ⟨(some 54), (.pick (.t 51) (.t 53) (.c (.d (.bool false)))), none, false⟩, ⟨(some 55), (.mov (.t 54)), none, false⟩, ⟨(some 56), (.call p.location_Index [(.c (.d (.int .i64 5)))]), (some (55, true)), false⟩, ⟨(some 57), (.bin .eql (.t 56) (.c (.d (.int .i64 2)))), (some (55, true)), false⟩, ⟨(some 58), (.pick (.t 55) (.t 57) (.c (.d (.bool false)))), none, false⟩, ⟨(some 0), (.asg (.t 58)), none, false⟩] []) Q st := Iff.rfl
def ic_law04_awake (p : Nums) : IC := (.seq (.region [⟨(some 0), (.asg (.c (.d (.bool false)))), none, false⟩] []) (.seq (law04_awake_c1 p) (.seq (law04_awake_c2 p) (.seq (law04_awake_c3 p) (.seq (law04_awake_c4 p) .ret)))))
def location_Slot_c1 (p : Nums) : IC := (.region [⟨(some 3), (.mov (.t 0)), none, false⟩, ⟨(some 4), (.bin .mul (.c (.d (.int .i64 2))) (.t 3)), none, false⟩, ⟨(some 5), (.bin .add (.t 4) (.c (.d (.int .i64 1)))), none, false⟩, ⟨(some 2), (.asg (.t 5)), none, false⟩] [])
@[simp] theorem location_Slot_c1_eq {P m Q st} {p : Nums} : AW P m (location_Slot_c1 p) Q st ↔ AW P m (.region [⟨(some 3), (.mov (.t 0)), none, false⟩, ⟨(some 4), (.bin .mul (.c (.d (.int .i64 2))) (.t 3)), none, false⟩, ⟨(some 5), (.bin .add (.t 4) (.c (.d (.int .i64 1)))), none, false⟩, ⟨(some 2), (.asg (.t 5)), none, false⟩] []) Q st := Iff.rfl
def ic_location_Slot (p : Nums) : IC := (.seq (.region [⟨(some 2), (.asg (.c (.d (.int .i64 0)))), none, false⟩] []) (.seq (location_Slot_c1 p) .ret))
def location_Parse_c1 (p : Nums) : IC := (.region [⟨(some 4), (.asg (.c (.d (.int .i64 0)))), none, false⟩, ⟨(some 5), (.asg (.c (.d (.int .i64 0)))), none, false⟩, ⟨(some 6), (.asg (.c (.d (.int .i32 0)))), none, false⟩] [])
@[simp] theorem location_Parse_c1_eq {P m Q st} {p : Nums} : AW P m (location_Parse_c1 p) Q st ↔ AW P m (.region [⟨(some 4), (.asg (.c (.d (.int .i64 0)))), none, false⟩, ⟨(some 5), (.asg (.c (.d (.int .i64 0)))), none, false⟩, ⟨(some 6), (.asg (.c (.d (.int .i32 0)))), none, false⟩] []) Q st := Iff.rfl
def location_Parse_c2 (p : Nums) : IC := (.region [⟨(some 13), (.ext (.t 11) 1), none, false⟩, ⟨(some 14), (.ext (.t 11) 2), none, false⟩, ⟨(some 7), (.asg (.t 13)), none, false⟩, ⟨(some 8), (.asg (.t 14)), none, false⟩] [])
@[simp] theorem location_Parse_c2_eq {P m Q st} {p : Nums} : AW P m (location_Parse_c2 p) Q st ↔ AW P m (.region [⟨(some 13), (.ext (.t 11) 1), none, false⟩, ⟨(some 14), (.ext (.t 11) 2), none, false⟩, ⟨(some 7), (.asg (.t 13)), none, false⟩, ⟨(some 8), (.asg (.t 14)), none, false⟩] []) Q st := Iff.rfl
def location_Parse_c3 (p : Nums) : IC := (.region [⟨(some 16), (.mov (.t 7)), none, false⟩, ⟨(some 17), (.bin .eql (.t 16) (.c (.d (.int .i64 0)))), none, false⟩, ⟨(some 18), (.mov (.t 17)), none, false⟩, ⟨(some 19), (.mov (.t 8)), (some (18, true)), false⟩, ⟨(some 20), (.bin .eql (.t 19) (.c (.d (.int .i32 114)))), (some (18, true)), false⟩, ⟨(some 21), (.mov (.t 20)), (some (18, true)), false⟩, ⟨(some 22), (.mov (.t 8)), (some (21, false)), false⟩, ⟨(some 23), (.bin .eql (.t 22) (.c (.d (.int .i32 115)))), (some (21, false)), false⟩, ⟨(some 24), (.pick (.t 21) (.c (.d (.bool true))) (.t 23)), (some (18, true)), false⟩, ⟨(some 25), (.pick (.t 18) (.t 24) (.c (.d (.bool false)))), none, false⟩, ⟨(some 15), (.asg (.t 25)), none, false⟩] [])
@[simp] theorem location_Parse_c3_eq {P m Q st} {p : Nums} : AW P m (location_Parse_c3 p) Q st ↔ AW P m (.region [⟨(some 16), (.mov (.t 7)), none, false⟩, ⟨(some 17), (.bin .eql (.t 16) (.c (.d (.int .i64 0)))), none, false⟩, ⟨(some 18), (.mov (.t 17)), none, false⟩, ⟨(some 19), (.mov (.t 8)), (some (18, true)), false⟩, ⟨(some 20), (.bin .eql (.t 19) (.c (.d (.int .i32 114)))), (some (18, true)), false⟩, ⟨(some 21), (.mov (.t 20)), (some (18, true)), false⟩, ⟨(some 22), (.mov (.t 8)), (some (21, false)), false⟩, ⟨(some 23), (.bin .eql (.t 22) (.c (.d (.int .i32 115)))), (some (21, false)), false⟩, ⟨(some 24), (.pick (.t 21) (.c (.d (.bool true))) (.t 23)), (some (18, true)), false⟩, ⟨(some 25), (.pick (.t 18) (.t 24) (.c (.d (.bool false)))), none, false⟩, ⟨(some 15), (.asg (.t 25)), none, false⟩] []) Q st := Iff.rfl
def location_Parse_c4 (p : Nums) : IC := (.region [⟨(some 28), (.mov (.t 7)), none, false⟩, ⟨(some 29), (.bin .gtr (.t 28) (.c (.d (.int .i64 0)))), none, false⟩, ⟨(some 30), (.mov (.t 29)), none, false⟩, ⟨(some 31), (.mov (.t 8)), (some (30, true)), false⟩, ⟨(some 32), (.bin .geq (.t 31) (.c (.d (.int .i32 48)))), (some (30, true)), false⟩, ⟨(some 33), (.pick (.t 30) (.t 32) (.c (.d (.bool false)))), none, false⟩, ⟨(some 34), (.mov (.t 33)), none, false⟩, ⟨(some 35), (.mov (.t 8)), (some (34, true)), false⟩, ⟨(some 36), (.bin .leq (.t 35) (.c (.d (.int .i32 57)))), (some (34, true)), false⟩, ⟨(some 37), (.pick (.t 34) (.t 36) (.c (.d (.bool false)))), none, false⟩, ⟨(some 38), (.mov (.t 37)), none, false⟩, ⟨(some 39), (.mov (.t 5)), (some (38, true)), false⟩, ⟨(some 40), (.bin .eql (.t 39) (.c (.d (.int .i64 0)))), (some (38, true)), false⟩, ⟨(some 41), (.mov (.t 40)), (some (38, true)), false⟩, ⟨(some 42), (.mov (.t 4)), (some (41, false)), false⟩, ⟨(some 43), (.bin .gtr (.t 42) (.c (.d (.int .i64 0)))), (some (41, false)), false⟩, ⟨(some 44), (.pick (.t 41) (.c (.d (.bool true))) (.t 43)), (some (38, true)), false⟩, ⟨(some 45), (.pick (.t 38) (.t 44) (.c (.d (.bool false)))), none, false⟩, ⟨(some 27), (.asg (.t 45)), none, false⟩] [])
@[simp] theorem location_Parse_c4_eq {P m Q st} {p : Nums} : AW P m (location_Parse_c4 p) Q st ↔ AW P m (.region [⟨(some 28), (.mov (.t 7)), none, false⟩, ⟨(some 29), (.bin .gtr (.t 28) (.c (.d (.int .i64 0)))), none, false⟩, ⟨(some 30), (.mov (.t 29)), none, false⟩, ⟨(some 31), (.mov (.t 8)), (some (30, true)), false⟩, ⟨(some 32), (.bin .geq (.t 31) (.c (.d (.int .i32 48)))), (some (30, true)), false⟩, ⟨(some 33), (.pick (.t 30) (.t 32) (.c (.d (.bool false)))), none, false⟩, ⟨(some 34), (.mov (.t 33)), none, false⟩, ⟨(some 35), (.mov (.t 8)), (some (34, true)), false⟩, ⟨(some 36), (.bin .leq (.t 35) (.c (.d (.int .i32 57)))), (some (34, true)), false⟩, ⟨(some 37), (.pick (.t 34) (.t 36) (.c (.d (.bool false)))), none, false⟩, ⟨(some 38), (.mov (.t 37)), none, false⟩, ⟨(some 39), (.mov (.t 5)), (some (38, true)), false⟩, ⟨(some 40), (.bin .eql (.t 39) (.c (.d (.int .i64 0)))), (some (38, true)), false⟩, ⟨(some 41), (.mov (.t 40)), (some (38, true)), false⟩, ⟨(some 42), (.mov (.t 4)), (some (41, false)), false⟩, ⟨(some 43), (.bin .gtr (.t 42) (.c (.d (.int .i64 0)))), (some (41, false)), false⟩, ⟨(some 44), (.pick (.t 41) (.c (.d (.bool true))) (.t 43)), (some (38, true)), false⟩, ⟨(some 45), (.pick (.t 38) (.t 44) (.c (.d (.bool false)))), none, false⟩, ⟨(some 27), (.asg (.t 45)), none, false⟩] []) Q st := Iff.rfl
def location_Parse_c5 (p : Nums) : IC := (.region [⟨(some 46), (.mov (.t 4)), none, false⟩, ⟨(some 47), (.bin .mul (.c (.d (.int .i64 10))) (.t 46)), none, false⟩, ⟨(some 48), (.mov (.t 8)), none, false⟩, ⟨(some 49), (.bin .sub (.t 48) (.c (.d (.int .i32 48)))), none, false⟩, ⟨(some 50), (.conv .i64 (.t 49)), none, false⟩, ⟨(some 51), (.bin .add (.t 47) (.t 50)), none, false⟩, ⟨(some 52), (.mov (.t 5)), none, false⟩, ⟨(some 53), (.bin .add (.t 52) (.c (.d (.int .i64 1)))), none, false⟩, ⟨(some 4), (.asg (.t 51)), none, false⟩, ⟨(some 5), (.asg (.t 53)), none, false⟩] [])
@[simp] theorem location_Parse_c5_eq {P m Q st} {p : Nums} : AW P m (location_Parse_c5 p) Q st ↔ AW P m (.region [⟨(some 46), (.mov (.t 4)), none, false⟩, ⟨(some 47), (.bin .mul (.c (.d (.int .i64 10))) (.t 46)), none, false⟩, ⟨(some 48), (.mov (.t 8)), none, false⟩, ⟨(some 49), (.bin .sub (.t 48) (.c (.d (.int .i32 48)))), none, false⟩, ⟨(some 50), (.conv .i64 (.t 49)), none, false⟩, ⟨(some 51), (.bin .add (.t 47) (.t 50)), none, false⟩, ⟨(some 52), (.mov (.t 5)), none, false⟩, ⟨(some 53), (.bin .add (.t 52) (.c (.d (.int .i64 1)))), none, false⟩, ⟨(some 4), (.asg (.t 51)), none, false⟩, ⟨(some 5), (.asg (.t 53)), none, false⟩] []) Q st := Iff.rfl
def location_Parse_c6 (p : Nums) : IC := (.seq (.region [⟨(some 2), (.asg (.c (.d (.int .i64 0)))), none, false⟩, ⟨(some 3), (.asg (.c (.d (.bool false)))), none, false⟩] []) .ret)
@[simp] theorem location_Parse_c6_eq {P m Q st} {p : Nums} : AW P m (location_Parse_c6 p) Q st ↔ AW P m (.seq (.region [⟨(some 2), (.asg (.c (.d (.int .i64 0)))), none, false⟩, ⟨(some 3), (.asg (.c (.d (.bool false)))), none, false⟩] []) .ret) Q st := Iff.rfl
def location_Parse_c7 (p : Nums) : IC := (.region [⟨(some 26), (.mov (.t 8)), none, false⟩, ⟨(some 6), (.asg (.t 26)), none, false⟩] [])
@[simp] theorem location_Parse_c7_eq {P m Q st} {p : Nums} : AW P m (location_Parse_c7 p) Q st ↔ AW P m (.region [⟨(some 26), (.mov (.t 8)), none, false⟩, ⟨(some 6), (.asg (.t 26)), none, false⟩] []) Q st := Iff.rfl
def location_Parse_c8 (p : Nums) : IC := (.seq (location_Parse_c4 p) (.cond (.t 27) (location_Parse_c5 p) (location_Parse_c6 p)))
@[simp] theorem location_Parse_c8_eq {P m Q st} {p : Nums} : AW P m (location_Parse_c8 p) Q st ↔ AW P m (.seq (location_Parse_c4 p) (.cond (.t 27) (location_Parse_c5 p) (location_Parse_c6 p))) Q st := Iff.rfl
def location_Parse_c9 (p : Nums) : IC := (.seq (location_Parse_c3 p) (.cond (.t 15) (location_Parse_c7 p) (location_Parse_c8 p)))
@[simp] theorem location_Parse_c9_eq {P m Q st} {p : Nums} : AW P m (location_Parse_c9 p) Q st ↔ AW P m (.seq (location_Parse_c3 p) (.cond (.t 15) (location_Parse_c7 p) (location_Parse_c8 p))) Q st := Iff.rfl
def location_Parse_c10 (p : Nums) : IC := (.seq (.region [⟨(some 2), (.asg (.c (.d (.int .i64 0)))), none, false⟩, ⟨(some 3), (.asg (.c (.d (.bool false)))), none, false⟩] []) .ret)
@[simp] theorem location_Parse_c10_eq {P m Q st} {p : Nums} : AW P m (location_Parse_c10 p) Q st ↔ AW P m (.seq (.region [⟨(some 2), (.asg (.c (.d (.int .i64 0)))), none, false⟩, ⟨(some 3), (.asg (.c (.d (.bool false)))), none, false⟩] []) .ret) Q st := Iff.rfl
def location_Parse_c11 (p : Nums) : IC := (.seq (location_Parse_c2 p) (.seq (.block 2 (location_Parse_c9 p)) (.seq (.region [⟨(some 54), (.mov (.t 4)), none, false⟩, ⟨(some 55), (.bin .geq (.t 54) (.c (.d (.int .i64 1099511627776)))), none, false⟩] []) (.cond (.t 55) (location_Parse_c10 p) .skip))))
@[simp] theorem location_Parse_c11_eq {P m Q st} {p : Nums} : AW P m (location_Parse_c11 p) Q st ↔ AW P m (.seq (location_Parse_c2 p) (.seq (.block 2 (location_Parse_c9 p)) (.seq (.region [⟨(some 54), (.mov (.t 4)), none, false⟩, ⟨(some 55), (.bin .geq (.t 54) (.c (.d (.int .i64 1099511627776)))), none, false⟩] []) (.cond (.t 55) (location_Parse_c10 p) .skip)))) Q st := Iff.rfl
def location_Parse_c12 (p : Nums) : IC := (.seq (.region [⟨(some 11), (.nxt (.t 10)), none, false⟩, ⟨(some 12), (.ext (.t 11) 0), none, false⟩] []) (.seq (.cond (.t 12) .skip (.exit 0)) (.block 1 (location_Parse_c11 p))))
@[simp] theorem location_Parse_c12_eq {P m Q st} {p : Nums} : AW P m (location_Parse_c12 p) Q st ↔ AW P m (.seq (.region [⟨(some 11), (.nxt (.t 10)), none, false⟩, ⟨(some 12), (.ext (.t 11) 0), none, false⟩] []) (.seq (.cond (.t 12) .skip (.exit 0)) (.block 1 (location_Parse_c11 p)))) Q st := Iff.rfl
def location_Parse_c13 (p : Nums) : IC := (.seq (.region [⟨(some 2), (.asg (.c (.d (.int .i64 0)))), none, false⟩, ⟨(some 3), (.asg (.c (.d (.bool false)))), none, false⟩] []) .ret)
@[simp] theorem location_Parse_c13_eq {P m Q st} {p : Nums} : AW P m (location_Parse_c13 p) Q st ↔ AW P m (.seq (.region [⟨(some 2), (.asg (.c (.d (.int .i64 0)))), none, false⟩, ⟨(some 3), (.asg (.c (.d (.bool false)))), none, false⟩] []) .ret) Q st := Iff.rfl
def location_Parse_c14 (p : Nums) : IC := (.region [⟨(some 60), (.mov (.t 4)), none, false⟩, ⟨(some 61), (.call p.location_Slot [(.t 60)]), none, false⟩, ⟨(some 2), (.asg (.t 61)), none, false⟩, ⟨(some 3), (.asg (.c (.d (.bool true)))), none, false⟩] [])
@[simp] theorem location_Parse_c14_eq {P m Q st} {p : Nums} : AW P m (location_Parse_c14 p) Q st ↔ AW P m (.region [⟨(some 60), (.mov (.t 4)), none, false⟩, ⟨(some 61), (.call p.location_Slot [(.t 60)]), none, false⟩, ⟨(some 2), (.asg (.t 61)), none, false⟩, ⟨(some 3), (.asg (.c (.d (.bool true)))), none, false⟩] []) Q st := Iff.rfl
def location_Parse_c15 (p : Nums) : IC := (.region [⟨(some 62), (.mov (.t 4)), none, false⟩, ⟨(some 63), (.call p.location_Reg [(.t 62)]), none, false⟩, ⟨(some 2), (.asg (.t 63)), none, false⟩, ⟨(some 3), (.asg (.c (.d (.bool true)))), none, false⟩] [])
@[simp] theorem location_Parse_c15_eq {P m Q st} {p : Nums} : AW P m (location_Parse_c15 p) Q st ↔ AW P m (.region [⟨(some 62), (.mov (.t 4)), none, false⟩, ⟨(some 63), (.call p.location_Reg [(.t 62)]), none, false⟩, ⟨(some 2), (.asg (.t 63)), none, false⟩, ⟨(some 3), (.asg (.c (.d (.bool true)))), none, false⟩] []) Q st := Iff.rfl
def ic_location_Parse (p : Nums) : IC := (.seq (.region [⟨(some 2), (.asg (.c (.d (.int .i64 0)))), none, false⟩, ⟨(some 3), (.asg (.c (.d (.bool false)))), none, false⟩] []) (.seq (location_Parse_c1 p) (.seq (.seq (.region [⟨(some 9), (.mov (.t 0)), none, false⟩, ⟨(some 10), (.rng (.t 9)), none, false⟩] []) (.block 0 (.loop (location_Parse_c12 p)))) (.seq (.seq (.region [⟨(some 56), (.mov (.t 5)), none, false⟩, ⟨(some 57), (.bin .eql (.t 56) (.c (.d (.int .i64 0)))), none, false⟩] []) (.cond (.t 57) (location_Parse_c13 p) .skip)) (.seq (.seq (.region [⟨(some 58), (.mov (.t 6)), none, false⟩, ⟨(some 59), (.bin .eql (.t 58) (.c (.d (.int .i32 115)))), none, false⟩] []) (.cond (.t 59) (.seq (location_Parse_c14 p) .ret) .skip)) (.seq (location_Parse_c15 p) .ret))))))
def location_Text_c1 (p : Nums) : IC := (.region [⟨(some 3), (.asg (.c (.d (.str [115])))), none, false⟩] [])
@[simp] theorem location_Text_c1_eq {P m Q st} {p : Nums} : AW P m (location_Text_c1 p) Q st ↔ AW P m (.region [⟨(some 3), (.asg (.c (.d (.str [115])))), none, false⟩] []) Q st := Iff.rfl
def location_Text_c2 (p : Nums) : IC := (.region [⟨(some 6), (.mov (.t 3)), none, false⟩, ⟨(some 7), (.mov (.t 0)), none, false⟩, ⟨(some 8), (.call p.location_Index [(.t 7)]), none, false⟩, ⟨(some 9), (.call p.strconv_Itoa [(.t 8)]), none, false⟩, ⟨(some 10), (.bin .add (.t 6) (.t 9)), none, false⟩, ⟨(some 2), (.asg (.t 10)), none, false⟩] [])
@[simp] theorem location_Text_c2_eq {P m Q st} {p : Nums} : AW P m (location_Text_c2 p) Q st ↔ AW P m (.region [⟨(some 6), (.mov (.t 3)), none, false⟩, ⟨(some 7), (.mov (.t 0)), none, false⟩, ⟨(some 8), (.call p.location_Index [(.t 7)]), none, false⟩, ⟨(some 9), (.call p.strconv_Itoa [(.t 8)]), none, false⟩, ⟨(some 10), (.bin .add (.t 6) (.t 9)), none, false⟩, ⟨(some 2), (.asg (.t 10)), none, false⟩] []) Q st := Iff.rfl
def ic_location_Text (p : Nums) : IC := (.seq (.region [⟨(some 2), (.asg (.c (.d (.str [])))), none, false⟩] []) (.seq (.region [⟨(some 3), (.asg (.c (.d (.str [114])))), none, false⟩] []) (.seq (.seq (.region [⟨(some 4), (.mov (.t 0)), none, false⟩, ⟨(some 5), (.call p.location_IsSlot [(.t 4)]), none, false⟩] []) (.cond (.t 5) (location_Text_c1 p) .skip)) (.seq (location_Text_c2 p) .ret))))
def location_Index_c1 (p : Nums) : IC := (.region [⟨(some 3), (.mov (.t 0)), none, false⟩, ⟨(some 4), (.bin .quo (.t 3) (.c (.d (.int .i64 2)))), none, false⟩, ⟨(some 2), (.asg (.t 4)), none, false⟩] [])
@[simp] theorem location_Index_c1_eq {P m Q st} {p : Nums} : AW P m (location_Index_c1 p) Q st ↔ AW P m (.region [⟨(some 3), (.mov (.t 0)), none, false⟩, ⟨(some 4), (.bin .quo (.t 3) (.c (.d (.int .i64 2)))), none, false⟩, ⟨(some 2), (.asg (.t 4)), none, false⟩] []) Q st := Iff.rfl
def ic_location_Index (p : Nums) : IC := (.seq (.region [⟨(some 2), (.asg (.c (.d (.int .i64 0)))), none, false⟩] []) (.seq (location_Index_c1 p) .ret))
def location_IsSlot_c1 (p : Nums) : IC := (.region [⟨(some 3), (.mov (.t 0)), none, false⟩, ⟨(some 4), (.bin .rem (.t 3) (.c (.d (.int .i64 2)))), none, false⟩, ⟨(some 5), (.bin .eql (.t 4) (.c (.d (.int .i64 1)))), none, false⟩, ⟨(some 2), (.asg (.t 5)), none, false⟩] [])
@[simp] theorem location_IsSlot_c1_eq {P m Q st} {p : Nums} : AW P m (location_IsSlot_c1 p) Q st ↔ AW P m (.region [⟨(some 3), (.mov (.t 0)), none, false⟩, ⟨(some 4), (.bin .rem (.t 3) (.c (.d (.int .i64 2)))), none, false⟩, ⟨(some 5), (.bin .eql (.t 4) (.c (.d (.int .i64 1)))), none, false⟩, ⟨(some 2), (.asg (.t 5)), none, false⟩] []) Q st := Iff.rfl
def ic_location_IsSlot (p : Nums) : IC := (.seq (.region [⟨(some 2), (.asg (.c (.d (.bool false)))), none, false⟩] []) (.seq (location_IsSlot_c1 p) .ret))
def ref04_Parse_c1 (p : Nums) : IC := (.region [⟨(some 6), (.mov (.t 0)), none, false⟩, ⟨(some 7), (.lenS (.t 6)), none, false⟩, ⟨(some 8), (.bin .eql (.t 7) (.c (.d (.int .i64 0)))), none, false⟩, ⟨(some 9), (.mov (.t 8)), none, false⟩, ⟨(some 10), (.mov (.t 0)), (some (9, false)), false⟩, ⟨(some 11), (.ixS (.t 10) (.c (.d (.int .i64 0)))), (some (9, false)), false⟩, ⟨(some 12), (.bin .neq (.t 11) (.c (.d (.int .u8 114)))), (some (9, false)), false⟩, ⟨(some 13), (.mov (.t 12)), (some (9, false)), false⟩, ⟨(some 14), (.mov (.t 0)), (some (13, true)), false⟩, ⟨(some 15), (.ixS (.t 14) (.c (.d (.int .i64 0)))), (some (13, true)), false⟩, ⟨(some 16), (.bin .neq (.t 15) (.c (.d (.int .u8 115)))), (some (13, true)), false⟩, ⟨(some 17), (.pick (.t 13) (.t 16) (.c (.d (.bool false)))), (some (9, false)), false⟩, ⟨(some 18), (.pick (.t 9) (.c (.d (.bool true))) (.t 17)), none, false⟩] [])
@[simp] theorem ref04_Parse_c1_eq {P m Q st} {p : Nums} : AW P m (ref04_Parse_c1 p) Q st ↔ AW P m (.region [⟨(some 6), (.mov (.t 0)), none, false⟩, ⟨(some 7), (.lenS (.t 6)), none, false⟩, ⟨(some 8), (.bin .eql (.t 7) (.c (.d (.int .i64 0)))), none, false⟩, ⟨(some 9), (.mov (.t 8)), none, false⟩, ⟨(some 10), (.mov (.t 0)), (some (9, false)), false⟩, ⟨(some 11), (.ixS (.t 10) (.c (.d (.int .i64 0)))), (some (9, false)), false⟩, ⟨(some 12), (.bin .neq (.t 11) (.c (.d (.int .u8 114)))), (some (9, false)), false⟩, ⟨(some 13), (.mov (.t 12)), (some (9, false)), false⟩, ⟨(some 14), (.mov (.t 0)), (some (13, true)), false⟩, ⟨(some 15), (.ixS (.t 14) (.c (.d (.int .i64 0)))), (some (13, true)), false⟩, ⟨(some 16), (.bin .neq (.t 15) (.c (.d (.int .u8 115)))), (some (13, true)), false⟩, ⟨(some 17), (.pick (.t 13) (.t 16) (.c (.d (.bool false)))), (some (9, false)), false⟩, ⟨(some 18), (.pick (.t 9) (.c (.d (.bool true))) (.t 17)), none, false⟩] []) Q st := Iff.rfl
def ref04_Parse_c2 (p : Nums) : IC := (.seq (.region [⟨(some 2), (.asg (.c (.d (.int .i64 0)))), none, false⟩, ⟨(some 3), (.asg (.c (.d (.bool false)))), none, false⟩] []) .ret)
@[simp] theorem ref04_Parse_c2_eq {P m Q st} {p : Nums} : AW P m (ref04_Parse_c2 p) Q st ↔ AW P m (.seq (.region [⟨(some 2), (.asg (.c (.d (.int .i64 0)))), none, false⟩, ⟨(some 3), (.asg (.c (.d (.bool false)))), none, false⟩] []) .ret) Q st := Iff.rfl
def ref04_Parse_c3 (p : Nums) : IC := (.region [⟨(some 20), (.mov (.t 0)), none, false⟩, ⟨(some 21), (.slcS (.t 20) (some (.c (.d (.int .i64 1)))) none), none, false⟩, ⟨(some 22), (.call p.ref04_Number [(.t 21)]), none, false⟩, ⟨(some 19), (.mov (.t 22)), none, false⟩, ⟨(some 23), (.ext (.t 19) 0), none, false⟩, ⟨(some 24), (.ext (.t 19) 1), none, false⟩, ⟨(some 4), (.asg (.t 23)), none, false⟩, ⟨(some 5), (.asg (.t 24)), none, false⟩] [])
@[simp] theorem ref04_Parse_c3_eq {P m Q st} {p : Nums} : AW P m (ref04_Parse_c3 p) Q st ↔ AW P m (.region [⟨(some 20), (.mov (.t 0)), none, false⟩, ⟨(some 21), (.slcS (.t 20) (some (.c (.d (.int .i64 1)))) none), none, false⟩, ⟨(some 22), (.call p.ref04_Number [(.t 21)]), none, false⟩, ⟨(some 19), (.mov (.t 22)), none, false⟩, ⟨(some 23), (.ext (.t 19) 0), none, false⟩, ⟨(some 24), (.ext (.t 19) 1), none, false⟩, ⟨(some 4), (.asg (.t 23)), none, false⟩, ⟨(some 5), (.asg (.t 24)), none, false⟩] []) Q st := Iff.rfl
def ref04_Parse_c4 (p : Nums) : IC := (.seq (.region [⟨(some 2), (.asg (.c (.d (.int .i64 0)))), none, false⟩, ⟨(some 3), (.asg (.c (.d (.bool false)))), none, false⟩] []) .ret)
@[simp] theorem ref04_Parse_c4_eq {P m Q st} {p : Nums} : AW P m (ref04_Parse_c4 p) Q st ↔ AW P m (.seq (.region [⟨(some 2), (.asg (.c (.d (.int .i64 0)))), none, false⟩, ⟨(some 3), (.asg (.c (.d (.bool false)))), none, false⟩] []) .ret) Q st := Iff.rfl
def ref04_Parse_c5 (p : Nums) : IC := (.region [⟨(some 27), (.mov (.t 0)), none, false⟩, ⟨(some 28), (.ixS (.t 27) (.c (.d (.int .i64 0)))), none, false⟩, ⟨(some 29), (.bin .eql (.t 28) (.c (.d (.int .u8 115)))), none, false⟩] [])
@[simp] theorem ref04_Parse_c5_eq {P m Q st} {p : Nums} : AW P m (ref04_Parse_c5 p) Q st ↔ AW P m (.region [⟨(some 27), (.mov (.t 0)), none, false⟩, ⟨(some 28), (.ixS (.t 27) (.c (.d (.int .i64 0)))), none, false⟩, ⟨(some 29), (.bin .eql (.t 28) (.c (.d (.int .u8 115)))), none, false⟩] []) Q st := Iff.rfl
def ref04_Parse_c6 (p : Nums) : IC := (.region [⟨(some 30), (.mov (.t 4)), none, false⟩, ⟨(some 31), (.bin .mul (.c (.d (.int .i64 2))) (.t 30)), none, false⟩, ⟨(some 32), (.bin .add (.t 31) (.c (.d (.int .i64 1)))), none, false⟩, ⟨(some 2), (.asg (.t 32)), none, false⟩, ⟨(some 3), (.asg (.c (.d (.bool true)))), none, false⟩] [])
@[simp] theorem ref04_Parse_c6_eq {P m Q st} {p : Nums} : AW P m (ref04_Parse_c6 p) Q st ↔ AW P m (.region [⟨(some 30), (.mov (.t 4)), none, false⟩, ⟨(some 31), (.bin .mul (.c (.d (.int .i64 2))) (.t 30)), none, false⟩, ⟨(some 32), (.bin .add (.t 31) (.c (.d (.int .i64 1)))), none, false⟩, ⟨(some 2), (.asg (.t 32)), none, false⟩, ⟨(some 3), (.asg (.c (.d (.bool true)))), none, false⟩] []) Q st := Iff.rfl
def ref04_Parse_c7 (p : Nums) : IC := (.region [⟨(some 33), (.mov (.t 4)), none, false⟩, ⟨(some 34), (.bin .mul (.c (.d (.int .i64 2))) (.t 33)), none, false⟩, ⟨(some 2), (.asg (.t 34)), none, false⟩, ⟨(some 3), (.asg (.c (.d (.bool true)))), none, false⟩] [])
@[simp] theorem ref04_Parse_c7_eq {P m Q st} {p : Nums} : AW P m (ref04_Parse_c7 p) Q st ↔ AW P m (.region [⟨(some 33), (.mov (.t 4)), none, false⟩, ⟨(some 34), (.bin .mul (.c (.d (.int .i64 2))) (.t 33)), none, false⟩, ⟨(some 2), (.asg (.t 34)), none, false⟩, ⟨(some 3), (.asg (.c (.d (.bool true)))), none, false⟩] []) Q st := Iff.rfl
def ic_ref04_Parse (p : Nums) : IC := (.seq (.region [⟨(some 2), (.asg (.c (.d (.int .i64 0)))), none, false⟩, ⟨(some 3), (.asg (.c (.d (.bool false)))), none, false⟩] []) (.seq (.seq (ref04_Parse_c1 p) (.cond (.t 18) (ref04_Parse_c2 p) .skip)) (.seq (ref04_Parse_c3 p) (.seq (.seq (.region [⟨(some 25), (.mov (.t 5)), none, false⟩, ⟨(some 26), (.un .not (.t 25)), none, false⟩] []) (.cond (.t 26) (ref04_Parse_c4 p) .skip)) (.seq (.seq (ref04_Parse_c5 p) (.cond (.t 29) (.seq (ref04_Parse_c6 p) .ret) .skip)) (.seq (ref04_Parse_c7 p) .ret))))))
def ref04_Text_c1 (p : Nums) : IC := (.region [⟨(some 3), (.mov (.t 0)), none, false⟩, ⟨(some 4), (.bin .rem (.t 3) (.c (.d (.int .i64 2)))), none, false⟩, ⟨(some 5), (.bin .eql (.t 4) (.c (.d (.int .i64 1)))), none, false⟩] [])
@[simp] theorem ref04_Text_c1_eq {P m Q st} {p : Nums} : AW P m (ref04_Text_c1 p) Q st ↔ AW P m (.region [⟨(some 3), (.mov (.t 0)), none, false⟩, ⟨(some 4), (.bin .rem (.t 3) (.c (.d (.int .i64 2)))), none, false⟩, ⟨(some 5), (.bin .eql (.t 4) (.c (.d (.int .i64 1)))), none, false⟩] []) Q st := Iff.rfl
def ref04_Text_c2 (p : Nums) : IC := (.region [⟨(some 6), (.mov (.t 0)), none, false⟩, ⟨(some 7), (.bin .quo (.t 6) (.c (.d (.int .i64 2)))), none, false⟩, ⟨(some 8), (.call p.ref04_Decimal [(.t 7)]), none, false⟩, ⟨(some 9), (.bin .add (.c (.d (.str [115]))) (.t 8)), none, false⟩, ⟨(some 2), (.asg (.t 9)), none, false⟩] [])
@[simp] theorem ref04_Text_c2_eq {P m Q st} {p : Nums} : AW P m (ref04_Text_c2 p) Q st ↔ AW P m (.region [⟨(some 6), (.mov (.t 0)), none, false⟩, ⟨(some 7), (.bin .quo (.t 6) (.c (.d (.int .i64 2)))), none, false⟩, ⟨(some 8), (.call p.ref04_Decimal [(.t 7)]), none, false⟩, ⟨(some 9), (.bin .add (.c (.d (.str [115]))) (.t 8)), none, false⟩, ⟨(some 2), (.asg (.t 9)), none, false⟩] []) Q st := Iff.rfl
def ref04_Text_c3 (p : Nums) : IC := (.region [⟨(some 10), (.mov (.t 0)), none, false⟩, ⟨(some 11), (.bin .quo (.t 10) (.c (.d (.int .i64 2)))), none, false⟩, ⟨(some 12), (.call p.ref04_Decimal [(.t 11)]), none, false⟩, ⟨(some 13), (.bin .add (.c (.d (.str [114]))) (.t 12)), none, false⟩, ⟨(some 2), (.asg (.t 13)), none, false⟩] [])
@[simp] theorem ref04_Text_c3_eq {P m Q st} {p : Nums} : AW P m (ref04_Text_c3 p) Q st ↔ AW P m (.region [⟨(some 10), (.mov (.t 0)), none, false⟩, ⟨(some 11), (.bin .quo (.t 10) (.c (.d (.int .i64 2)))), none, false⟩, ⟨(some 12), (.call p.ref04_Decimal [(.t 11)]), none, false⟩, ⟨(some 13), (.bin .add (.c (.d (.str [114]))) (.t 12)), none, false⟩, ⟨(some 2), (.asg (.t 13)), none, false⟩] []) Q st := Iff.rfl
def ic_ref04_Text (p : Nums) : IC := (.seq (.region [⟨(some 2), (.asg (.c (.d (.str [])))), none, false⟩] []) (.seq (.seq (ref04_Text_c1 p) (.cond (.t 5) (.seq (ref04_Text_c2 p) .ret) .skip)) (.seq (ref04_Text_c3 p) .ret)))
def location_InRange_c1 (p : Nums) : IC := (.region [⟨(some 9), (.mov (.t 0)), none, false⟩, ⟨(some 10), (.bin .geq (.t 9) (.c (.d (.int .i64 0)))), none, false⟩, ⟨(some 11), (.mov (.t 10)), none, false⟩, ⟨(some 12), (.mov (.t 0)), (some (11, true)), false⟩, ⟨(some 13), (.call p.location_Index [(.t 12)]), (some (11, true)), false⟩, ⟨(some 14), (.mov (.t 2)), (some (11, true)), false⟩, ⟨(some 15), (.bin .lss (.t 13) (.t 14)), (some (11, true)), false⟩, ⟨(some 16), (.pick (.t 11) (.t 15) (.c (.d (.bool false)))), none, false⟩, ⟨(some 6), (.asg (.t 16)), none, false⟩] [])
@[simp] theorem location_InRange_c1_eq {P m Q st} {p : Nums} : AW P m (location_InRange_c1 p) Q st ↔ AW P m (.region [⟨(some 9), (.mov (.t 0)), none, false⟩, ⟨(some 10), (.bin .geq (.t 9) (.c (.d (.int .i64 0)))), none, false⟩, ⟨(some 11), (.mov (.t 10)), none, false⟩, ⟨(some 12), (.mov (.t 0)), (some (11, true)), false⟩, ⟨(some 13), (.call p.location_Index [(.t 12)]), (some (11, true)), false⟩, ⟨(some 14), (.mov (.t 2)), (some (11, true)), false⟩, ⟨(some 15), (.bin .lss (.t 13) (.t 14)), (some (11, true)), false⟩, ⟨(some 16), (.pick (.t 11) (.t 15) (.c (.d (.bool false)))), none, false⟩, ⟨(some 6), (.asg (.t 16)), none, false⟩] []) Q st := Iff.rfl
def location_InRange_c2 (p : Nums) : IC := (.region [⟨(some 17), (.mov (.t 0)), none, false⟩, ⟨(some 18), (.bin .geq (.t 17) (.c (.d (.int .i64 0)))), none, false⟩, ⟨(some 19), (.mov (.t 18)), none, false⟩, ⟨(some 20), (.mov (.t 0)), (some (19, true)), false⟩, ⟨(some 21), (.call p.location_Index [(.t 20)]), (some (19, true)), false⟩, ⟨(some 22), (.mov (.t 1)), (some (19, true)), false⟩, ⟨(some 23), (.bin .lss (.t 21) (.t 22)), (some (19, true)), false⟩, ⟨(some 24), (.pick (.t 19) (.t 23) (.c (.d (.bool false)))), none, false⟩, ⟨(some 6), (.asg (.t 24)), none, false⟩] [])
@[simp] theorem location_InRange_c2_eq {P m Q st} {p : Nums} : AW P m (location_InRange_c2 p) Q st ↔ AW P m (.region [⟨(some 17), (.mov (.t 0)), none, false⟩, ⟨(some 18), (.bin .geq (.t 17) (.c (.d (.int .i64 0)))), none, false⟩, ⟨(some 19), (.mov (.t 18)), none, false⟩, ⟨(some 20), (.mov (.t 0)), (some (19, true)), false⟩, ⟨(some 21), (.call p.location_Index [(.t 20)]), (some (19, true)), false⟩, ⟨(some 22), (.mov (.t 1)), (some (19, true)), false⟩, ⟨(some 23), (.bin .lss (.t 21) (.t 22)), (some (19, true)), false⟩, ⟨(some 24), (.pick (.t 19) (.t 23) (.c (.d (.bool false)))), none, false⟩, ⟨(some 6), (.asg (.t 24)), none, false⟩] []) Q st := Iff.rfl
def ic_location_InRange (p : Nums) : IC := (.seq (.region [⟨(some 6), (.asg (.c (.d (.bool false)))), none, false⟩] []) (.seq (.seq (.region [⟨(some 7), (.mov (.t 0)), none, false⟩, ⟨(some 8), (.call p.location_IsSlot [(.t 7)]), none, false⟩] []) (.cond (.t 8) (.seq (location_InRange_c1 p) .ret) .skip)) (.seq (location_InRange_c2 p) .ret)))
def ref04_Number_c1 (p : Nums) : IC := (.region [⟨(some 6), (.mov (.t 0)), none, false⟩, ⟨(some 7), (.lenS (.t 6)), none, false⟩, ⟨(some 8), (.bin .eql (.t 7) (.c (.d (.int .i64 0)))), none, false⟩, ⟨(some 9), (.mov (.t 8)), none, false⟩, ⟨(some 10), (.mov (.t 0)), (some (9, false)), false⟩, ⟨(some 11), (.lenS (.t 10)), (some (9, false)), false⟩, ⟨(some 12), (.bin .gtr (.t 11) (.c (.d (.int .i64 13)))), (some (9, false)), false⟩, ⟨(some 13), (.pick (.t 9) (.c (.d (.bool true))) (.t 12)), none, false⟩, ⟨(some 14), (.mov (.t 13)), none, false⟩, ⟨(some 15), (.mov (.t 0)), (some (14, false)), false⟩, ⟨(some 16), (.lenS (.t 15)), (some (14, false)), false⟩, ⟨(some 17), (.bin .gtr (.t 16) (.c (.d (.int .i64 1)))), (some (14, false)), false⟩, ⟨(some 18), (.mov (.t 17)), (some (14, false)), false⟩, ⟨(some 19), (.mov (.t 0)), (some (18, true)), false⟩, ⟨(some 20), (.ixS (.t 19) (.c (.d (.int .i64 0)))), (some (18, true)), false⟩, ⟨(some 21), (.bin .eql (.t 20) (.c (.d (.int .u8 48)))), (some (18, true)), false⟩, ⟨(some 22), (.pick (.t 18) (.t 21) (.c (.d (.bool false)))), (some (14, false)), false⟩, ⟨(some 23), (.pick (.t 14) (.c (.d (.bool true))) (.t 22)), none, false⟩] [])
@[simp] theorem ref04_Number_c1_eq {P m Q st} {p : Nums} : AW P m (ref04_Number_c1 p) Q st ↔ AW P m (.region [⟨(some 6), (.mov (.t 0)), none, false⟩, ⟨(some 7), (.lenS (.t 6)), none, false⟩, ⟨(some 8), (.bin .eql (.t 7) (.c (.d (.int .i64 0)))), none, false⟩, ⟨(some 9), (.mov (.t 8)), none, false⟩, ⟨(some 10), (.mov (.t 0)), (some (9, false)), false⟩, ⟨(some 11), (.lenS (.t 10)), (some (9, false)), false⟩, ⟨(some 12), (.bin .gtr (.t 11) (.c (.d (.int .i64 13)))), (some (9, false)), false⟩, ⟨(some 13), (.pick (.t 9) (.c (.d (.bool true))) (.t 12)), none, false⟩, ⟨(some 14), (.mov (.t 13)), none, false⟩, ⟨(some 15), (.mov (.t 0)), (some (14, false)), false⟩, ⟨(some 16), (.lenS (.t 15)), (some (14, false)), false⟩, ⟨(some 17), (.bin .gtr (.t 16) (.c (.d (.int .i64 1)))), (some (14, false)), false⟩, ⟨(some 18), (.mov (.t 17)), (some (14, false)), false⟩, ⟨(some 19), (.mov (.t 0)), (some (18, true)), false⟩, ⟨(some 20), (.ixS (.t 19) (.c (.d (.int .i64 0)))), (some (18, true)), false⟩, ⟨(some 21), (.bin .eql (.t 20) (.c (.d (.int .u8 48)))), (some (18, true)), false⟩, ⟨(some 22), (.pick (.t 18) (.t 21) (.c (.d (.bool false)))), (some (14, false)), false⟩, ⟨(some 23), (.pick (.t 14) (.c (.d (.bool true))) (.t 22)), none, false⟩] []) Q st := Iff.rfl
def ref04_Number_c2 (p : Nums) : IC := (.seq (.region [⟨(some 2), (.asg (.c (.d (.int .i64 0)))), none, false⟩, ⟨(some 3), (.asg (.c (.d (.bool false)))), none, false⟩] []) .ret)
@[simp] theorem ref04_Number_c2_eq {P m Q st} {p : Nums} : AW P m (ref04_Number_c2 p) Q st ↔ AW P m (.seq (.region [⟨(some 2), (.asg (.c (.d (.int .i64 0)))), none, false⟩, ⟨(some 3), (.asg (.c (.d (.bool false)))), none, false⟩] []) .ret) Q st := Iff.rfl
def ref04_Number_c3 (p : Nums) : IC := (.region [⟨(some 24), (.mov (.t 5)), none, false⟩, ⟨(some 25), (.mov (.t 0)), none, false⟩, ⟨(some 26), (.lenS (.t 25)), none, false⟩, ⟨(some 27), (.bin .lss (.t 24) (.t 26)), none, false⟩] [])
@[simp] theorem ref04_Number_c3_eq {P m Q st} {p : Nums} : AW P m (ref04_Number_c3 p) Q st ↔ AW P m (.region [⟨(some 24), (.mov (.t 5)), none, false⟩, ⟨(some 25), (.mov (.t 0)), none, false⟩, ⟨(some 26), (.lenS (.t 25)), none, false⟩, ⟨(some 27), (.bin .lss (.t 24) (.t 26)), none, false⟩] []) Q st := Iff.rfl
def ref04_Number_c4 (p : Nums) : IC := (.region [⟨(some 30), (.mov (.t 0)), none, false⟩, ⟨(some 31), (.mov (.t 5)), none, false⟩, ⟨(some 32), (.ixS (.t 30) (.t 31)), none, false⟩, ⟨(some 33), (.bin .lss (.t 32) (.c (.d (.int .u8 48)))), none, false⟩, ⟨(some 34), (.mov (.t 33)), none, false⟩, ⟨(some 35), (.mov (.t 0)), (some (34, false)), false⟩, ⟨(some 36), (.mov (.t 5)), (some (34, false)), false⟩, ⟨(some 37), (.ixS (.t 35) (.t 36)), (some (34, false)), false⟩, ⟨(some 38), (.bin .gtr (.t 37) (.c (.d (.int .u8 57)))), (some (34, false)), false⟩, ⟨(some 39), (.pick (.t 34) (.c (.d (.bool true))) (.t 38)), none, false⟩] [])
@[simp] theorem ref04_Number_c4_eq {P m Q st} {p : Nums} : AW P m (ref04_Number_c4 p) Q st ↔ AW P m (.region [⟨(some 30), (.mov (.t 0)), none, false⟩, ⟨(some 31), (.mov (.t 5)), none, false⟩, ⟨(some 32), (.ixS (.t 30) (.t 31)), none, false⟩, ⟨(some 33), (.bin .lss (.t 32) (.c (.d (.int .u8 48)))), none, false⟩, ⟨(some 34), (.mov (.t 33)), none, false⟩, ⟨(some 35), (.mov (.t 0)), (some (34, false)), false⟩, ⟨(some 36), (.mov (.t 5)), (some (34, false)), false⟩, ⟨(some 37), (.ixS (.t 35) (.t 36)), (some (34, false)), false⟩, ⟨(some 38), (.bin .gtr (.t 37) (.c (.d (.int .u8 57)))), (some (34, false)), false⟩, ⟨(some 39), (.pick (.t 34) (.c (.d (.bool true))) (.t 38)), none, false⟩] []) Q st := Iff.rfl
def ref04_Number_c5 (p : Nums) : IC := (.seq (.region [⟨(some 2), (.asg (.c (.d (.int .i64 0)))), none, false⟩, ⟨(some 3), (.asg (.c (.d (.bool false)))), none, false⟩] []) .ret)
@[simp] theorem ref04_Number_c5_eq {P m Q st} {p : Nums} : AW P m (ref04_Number_c5 p) Q st ↔ AW P m (.seq (.region [⟨(some 2), (.asg (.c (.d (.int .i64 0)))), none, false⟩, ⟨(some 3), (.asg (.c (.d (.bool false)))), none, false⟩] []) .ret) Q st := Iff.rfl
def ref04_Number_c6 (p : Nums) : IC := (.region [⟨(some 40), (.mov (.t 4)), none, false⟩, ⟨(some 41), (.bin .mul (.c (.d (.int .i64 10))) (.t 40)), none, false⟩, ⟨(some 42), (.mov (.t 0)), none, false⟩, ⟨(some 43), (.mov (.t 5)), none, false⟩, ⟨(some 44), (.ixS (.t 42) (.t 43)), none, false⟩, ⟨(some 45), (.conv .i64 (.t 44)), none, false⟩, ⟨(some 46), (.bin .add (.t 41) (.t 45)), none, false⟩, ⟨(some 47), (.bin .sub (.t 46) (.c (.d (.int .i64 48)))), none, false⟩, ⟨(some 4), (.asg (.t 47)), none, false⟩] [])
@[simp] theorem ref04_Number_c6_eq {P m Q st} {p : Nums} : AW P m (ref04_Number_c6 p) Q st ↔ AW P m (.region [⟨(some 40), (.mov (.t 4)), none, false⟩, ⟨(some 41), (.bin .mul (.c (.d (.int .i64 10))) (.t 40)), none, false⟩, ⟨(some 42), (.mov (.t 0)), none, false⟩, ⟨(some 43), (.mov (.t 5)), none, false⟩, ⟨(some 44), (.ixS (.t 42) (.t 43)), none, false⟩, ⟨(some 45), (.conv .i64 (.t 44)), none, false⟩, ⟨(some 46), (.bin .add (.t 41) (.t 45)), none, false⟩, ⟨(some 47), (.bin .sub (.t 46) (.c (.d (.int .i64 48)))), none, false⟩, ⟨(some 4), (.asg (.t 47)), none, false⟩] []) Q st := Iff.rfl
def ref04_Number_c7 (p : Nums) : IC := (.seq (.seq (ref04_Number_c4 p) (.cond (.t 39) (ref04_Number_c5 p) .skip)) (ref04_Number_c6 p))
@[simp] theorem ref04_Number_c7_eq {P m Q st} {p : Nums} : AW P m (ref04_Number_c7 p) Q st ↔ AW P m (.seq (.seq (ref04_Number_c4 p) (.cond (.t 39) (ref04_Number_c5 p) .skip)) (ref04_Number_c6 p)) Q st := Iff.rfl
def ref04_Number_c8 (p : Nums) : IC := (.region [⟨(some 28), (.mov (.t 5)), none, false⟩, ⟨(some 29), (.bin .add (.t 28) (.c (.d (.int .i64 1)))), none, false⟩, ⟨(some 5), (.asg (.t 29)), none, false⟩] [])
@[simp] theorem ref04_Number_c8_eq {P m Q st} {p : Nums} : AW P m (ref04_Number_c8 p) Q st ↔ AW P m (.region [⟨(some 28), (.mov (.t 5)), none, false⟩, ⟨(some 29), (.bin .add (.t 28) (.c (.d (.int .i64 1)))), none, false⟩, ⟨(some 5), (.asg (.t 29)), none, false⟩] []) Q st := Iff.rfl
def ref04_Number_c9 (p : Nums) : IC := (.seq (.seq (ref04_Number_c3 p) (.cond (.t 27) .skip (.exit 0))) (.seq (.block 1 (ref04_Number_c7 p)) (ref04_Number_c8 p)))
@[simp] theorem ref04_Number_c9_eq {P m Q st} {p : Nums} : AW P m (ref04_Number_c9 p) Q st ↔ AW P m (.seq (.seq (ref04_Number_c3 p) (.cond (.t 27) .skip (.exit 0))) (.seq (.block 1 (ref04_Number_c7 p)) (ref04_Number_c8 p))) Q st := Iff.rfl
def ref04_Number_c10 (p : Nums) : IC := (.seq (.region [⟨(some 2), (.asg (.c (.d (.int .i64 0)))), none, false⟩, ⟨(some 3), (.asg (.c (.d (.bool false)))), none, false⟩] []) .ret)
@[simp] theorem ref04_Number_c10_eq {P m Q st} {p : Nums} : AW P m (ref04_Number_c10 p) Q st ↔ AW P m (.seq (.region [⟨(some 2), (.asg (.c (.d (.int .i64 0)))), none, false⟩, ⟨(some 3), (.asg (.c (.d (.bool false)))), none, false⟩] []) .ret) Q st := Iff.rfl
def ref04_Number_c11 (p : Nums) : IC := (.region [⟨(some 50), (.mov (.t 4)), none, false⟩, ⟨(some 2), (.asg (.t 50)), none, false⟩, ⟨(some 3), (.asg (.c (.d (.bool true)))), none, false⟩] [])
@[simp] theorem ref04_Number_c11_eq {P m Q st} {p : Nums} : AW P m (ref04_Number_c11 p) Q st ↔ AW P m (.region [⟨(some 50), (.mov (.t 4)), none, false⟩, ⟨(some 2), (.asg (.t 50)), none, false⟩, ⟨(some 3), (.asg (.c (.d (.bool true)))), none, false⟩] []) Q st := Iff.rfl
def ic_ref04_Number (p : Nums) : IC := (.seq (.region [⟨(some 2), (.asg (.c (.d (.int .i64 0)))), none, false⟩, ⟨(some 3), (.asg (.c (.d (.bool false)))), none, false⟩] []) (.seq (.seq (ref04_Number_c1 p) (.cond (.t 23) (ref04_Number_c2 p) .skip)) (.seq (.region [⟨(some 4), (.asg (.c (.d (.int .i64 0)))), none, false⟩] []) (.seq (.seq (.region [⟨(some 5), (.asg (.c (.d (.int .i64 0)))), none, false⟩] []) (.block 0 (.loop (ref04_Number_c9 p)))) (.seq (.seq (.region [⟨(some 48), (.mov (.t 4)), none, false⟩, ⟨(some 49), (.bin .geq (.t 48) (.c (.d (.int .i64 1099511627776)))), none, false⟩] []) (.cond (.t 49) (ref04_Number_c10 p) .skip)) (.seq (ref04_Number_c11 p) .ret))))))
def ref04_Decimal_c1 (p : Nums) : IC := (.region [⟨(some 5), (.mov (.t 3)), none, false⟩, ⟨(some 6), (.mov (.t 0)), none, false⟩, ⟨(some 7), (.bin .rem (.t 6) (.c (.d (.int .i64 10)))), none, false⟩, ⟨(some 8), (.mov (.t 0)), none, false⟩, ⟨(some 9), (.bin .rem (.t 8) (.c (.d (.int .i64 10)))), none, false⟩, ⟨(some 10), (.bin .add (.t 9) (.c (.d (.int .i64 1)))), none, false⟩, ⟨(some 11), (.slcS (.t 5) (some (.t 7)) (some (.t 10))), none, false⟩, ⟨(some 4), (.asg (.t 11)), none, false⟩] [])
@[simp] theorem ref04_Decimal_c1_eq {P m Q st} {p : Nums} : AW P m (ref04_Decimal_c1 p) Q st ↔ AW P m (.region [⟨(some 5), (.mov (.t 3)), none, false⟩, ⟨(some 6), (.mov (.t 0)), none, false⟩, ⟨(some 7), (.bin .rem (.t 6) (.c (.d (.int .i64 10)))), none, false⟩, ⟨(some 8), (.mov (.t 0)), none, false⟩, ⟨(some 9), (.bin .rem (.t 8) (.c (.d (.int .i64 10)))), none, false⟩, ⟨(some 10), (.bin .add (.t 9) (.c (.d (.int .i64 1)))), none, false⟩, ⟨(some 11), (.slcS (.t 5) (some (.t 7)) (some (.t 10))), none, false⟩, ⟨(some 4), (.asg (.t 11)), none, false⟩] []) Q st := Iff.rfl
def ref04_Decimal_c2 (p : Nums) : IC := (.seq (.region [⟨(some 14), (.mov (.t 4)), none, false⟩, ⟨(some 2), (.asg (.t 14)), none, false⟩] []) .ret)
@[simp] theorem ref04_Decimal_c2_eq {P m Q st} {p : Nums} : AW P m (ref04_Decimal_c2 p) Q st ↔ AW P m (.seq (.region [⟨(some 14), (.mov (.t 4)), none, false⟩, ⟨(some 2), (.asg (.t 14)), none, false⟩] []) .ret) Q st := Iff.rfl
def ref04_Decimal_c3 (p : Nums) : IC := (.region [⟨(some 15), (.mov (.t 0)), none, false⟩, ⟨(some 16), (.bin .quo (.t 15) (.c (.d (.int .i64 10)))), none, false⟩, ⟨(some 17), (.call p.ref04_Decimal [(.t 16)]), none, false⟩, ⟨(some 18), (.mov (.t 4)), none, false⟩, ⟨(some 19), (.bin .add (.t 17) (.t 18)), none, false⟩, ⟨(some 2), (.asg (.t 19)), none, false⟩] [])
@[simp] theorem ref04_Decimal_c3_eq {P m Q st} {p : Nums} : AW P m (ref04_Decimal_c3 p) Q st ↔ AW P m (.region [⟨(some 15), (.mov (.t 0)), none, false⟩, ⟨(some 16), (.bin .quo (.t 15) (.c (.d (.int .i64 10)))), none, false⟩, ⟨(some 17), (.call p.ref04_Decimal [(.t 16)]), none, false⟩, ⟨(some 18), (.mov (.t 4)), none, false⟩, ⟨(some 19), (.bin .add (.t 17) (.t 18)), none, false⟩, ⟨(some 2), (.asg (.t 19)), none, false⟩] []) Q st := Iff.rfl
def ic_ref04_Decimal (p : Nums) : IC := (.seq (.region [⟨(some 2), (.asg (.c (.d (.str [])))), none, false⟩] []) (.seq (.region [⟨(some 3), (.asg (.c (.d (.str [48, 49, 50, 51, 52, 53, 54, 55, 56, 57])))), none, false⟩] []) (.seq (ref04_Decimal_c1 p) (.seq (.seq (.region [⟨(some 12), (.mov (.t 0)), none, false⟩, ⟨(some 13), (.bin .lss (.t 12) (.c (.d (.int .i64 10)))), none, false⟩] []) (.cond (.t 13) (ref04_Decimal_c2 p) .skip)) (.seq (ref04_Decimal_c3 p) .ret)))))
structure All (P : Program) (p : Nums) : Prop where
  ref04_InRange : Has P p.ref04_InRange 3 [(.tmp 6)] (ic_ref04_InRange p)
  location_Reg : Has P p.location_Reg 1 [(.tmp 2)] (ic_location_Reg p)
  law04_LocationBijection : Has P p.law04_LocationBijection 2 [(.tmp 4)] (ic_law04_LocationBijection p)
  law04_LocationTexts : Has P p.law04_LocationTexts 1 [(.tmp 2)] (ic_law04_LocationTexts p)
  law04_LocationMatchesReference : Has P p.law04_LocationMatchesReference 5 [(.tmp 10)] (ic_law04_LocationMatchesReference p)
  law04_LocationRange : Has P p.law04_LocationRange 4 [(.tmp 8)] (ic_law04_LocationRange p)
  law04_awake : Has P p.law04_awake 0 [(.tmp 0)] (ic_law04_awake p)
  location_Slot : Has P p.location_Slot 1 [(.tmp 2)] (ic_location_Slot p)
  location_Parse : Has P p.location_Parse 1 [(.tmp 2), (.tmp 3)] (ic_location_Parse p)
  location_Text : Has P p.location_Text 1 [(.tmp 2)] (ic_location_Text p)
  location_Index : Has P p.location_Index 1 [(.tmp 2)] (ic_location_Index p)
  location_IsSlot : Has P p.location_IsSlot 1 [(.tmp 2)] (ic_location_IsSlot p)
  ref04_Parse : Has P p.ref04_Parse 1 [(.tmp 2), (.tmp 3)] (ic_ref04_Parse p)
  ref04_Text : Has P p.ref04_Text 1 [(.tmp 2)] (ic_ref04_Text p)
  location_InRange : Has P p.location_InRange 3 [(.tmp 6)] (ic_location_InRange p)
  ref04_Number : Has P p.ref04_Number 1 [(.tmp 2), (.tmp 3)] (ic_ref04_Number p)
  ref04_Decimal : Has P p.ref04_Decimal 1 [(.tmp 2)] (ic_ref04_Decimal p)
end Go.AE

/- A block of a result, put into the first place. -/
set_option linter.unusedVariables false
namespace Go.AE
open Go
theorem rowCells_notOwn (rows : List (List D)) (j e1 : Nat) (rows1 : List (List D)) : (rowCells rows)[j]? ≠ some (.own e1 rows1) := by
  intro hp
  unfold rowCells at hp
  rw [List.getElem?_map, Option.map_eq_some_iff] at hp
  obtain ⟨y, _, hy⟩ := hp
  cases hy
theorem CallsTo.shift {P : Program} {f : Nat} {args : List AV} {e n k : Nat} {rows : List (List D)} (h : CallsTo P f args [] fun o H' => o = .ret (.hsl k 0 e n) ∧ H' = List.replicate k .dead ++ [.mem (rowCells rows)]) :
    CallsTo P f args [] fun o H' => o = .ret (.hsl 0 0 e n) ∧ H' = [.mem (rowCells rows)] := by
  intro g vs w hvs hs
  refine (h g vs w hvs hs).mono ?_
  rintro e' w' ⟨o, H', g', v, ⟨rfl, rfl⟩, he, hsim, htr, hφ, hlen, hmine⟩
  have hk : (List.replicate k Blk.dead ++ [Blk.mem (rowCells rows)])[k]? = some (.mem (rowCells rows)) := by
    rw [List.getElem?_append_right (by simp)]; simp
  obtain ⟨r, hr⟩ := hsim.dom k _ hk (by simp)
  obtain ⟨hlt, hF, _⟩ := hsim.lt k r hr
  obtain ⟨c, te, m1, m2, m3⟩ := hsim.mem k _ r hk hr
  have hrel := hsim.env 0 (.hsl k 0 e n) (by simp [get, AOut.val])
  simp only [AV.erase] at hrel
  have hv0 : (⟨#[v], []⟩ : Act).tmps.getD 0 undef = v := by simp
  rw [hv0] at hrel
  have hno : ∀ (p : Place) (e1 : Nat) (rows1 : List (List D)), AP ⟨[(0, (AOut.ret (.hsl 0 0 e n)).val)], [.mem (rowCells rows)]⟩ p ≠ some (.own e1 rows1) := by
    intro p e1 rows1 hp
    cases p with
    | tmp t =>
      simp only [AP, AOut.val, get] at hp
      split at hp <;> cases hp
    | cell b j =>
      simp only [AP] at hp
      split at hp
      · rename_i cells hb
        have : b = 0 := by have := (List.getElem?_eq_some_iff.1 hb).1; simpa using this
        subst this
        simp only [List.getElem?_cons_zero, Option.some.injEq, Blk.mem.injEq] at hb
        subst hb
        exact rowCells_notOwn _ _ _ _ hp
      · cases hp
  refine ⟨.ret (.hsl 0 0 e n), [.mem (rowCells rows)], ⟨fun b => if b = 0 then some r else none, g'.F⟩, v, ⟨rfl, rfl⟩, he, ?_, ⟨htr.os, htr.tape, htr.output, htr.size, htr.other, htr.stab⟩, fun b r hb => absurd hb (by simp), by simp, ?_⟩
  · refine { size := by simp, env := ?_, defers := rfl, inj := ?_, lt := ?_, dom := ?_, mem := ?_, iter := ?_, glob := ?_, own := ?_, excl := ?_, apart := ?_, view := ?_ }
    · intro t x hx
      simp only [AOut.val, get] at hx
      split at hx
      · rename_i ht; subst ht
        injection hx with hx; subst hx
        rw [hv0]
        cases hrel with
        | hsl _ _ _ _ r' cap a hφ' hcap ha =>
          rw [hr] at hφ'; injection hφ' with hφ'; subst hφ'
          exact .hsl 0 0 e n r cap a (by simp) hcap ha
      · cases hx
    · intro b b' q hb hb'
      simp only at hb hb'
      split at hb <;> split at hb' <;> simp_all
    · intro b q hb
      simp only at hb ⊢
      split at hb
      · rename_i h0; subst h0; injection hb with hb; subst hb; exact ⟨hlt, hF, by simp⟩
      · cases hb
    · intro b k' hk' _
      have : b = 0 := by have := (List.getElem?_eq_some_iff.1 hk').1; simpa using this
      subst this
      exact ⟨r, by simp⟩
    · intro b cells q hb hq
      have : b = 0 := by have := (List.getElem?_eq_some_iff.1 hb).1; simpa using this
      subst this
      simp only [List.getElem?_cons_zero, Option.some.injEq, Blk.mem.injEq] at hb
      subst hb
      simp only [if_true, Option.some.injEq] at hq
      subst hq
      refine ⟨c, te, m1, m2, fun j x hx => ?_⟩
      obtain ⟨k1, u, k2, k3⟩ := m3 j x hx
      refine ⟨k1, u, k2, ?_⟩
      unfold rowCells at hx
      rw [List.getElem?_map, Option.map_eq_some_iff] at hx
      obtain ⟨y, _, rfl⟩ := hx
      cases k3 with
      | d _ _ h => exact .d _ _ h
    · intro b s pos q hb
      have : b = 0 := by have := (List.getElem?_eq_some_iff.1 hb).1; simpa using this
      subst this
      simp at hb
    · intro b s pos q hb
      have : b = 0 := by have := (List.getElem?_eq_some_iff.1 hb).1; simpa using this
      subst this
      simp at hb
    · exact fun p e1 rows1 v1 hp _ => absurd hp (hno p e1 rows1)
    · rintro p p' q ⟨e1, rows1, v1, hp, _⟩
      exact absurd hp (hno p e1 rows1)
    · rintro p q b ⟨e1, rows1, v1, hp, _⟩
      exact absurd hp (hno p e1 rows1)
    · intro t org e1 rows1 hx
      simp only [AOut.val, get] at hx
      split at hx <;> cases hx
  · rintro q (⟨b, hb⟩ | ⟨p, e1, rows1, v1, hp, _⟩)
    · simp only at hb
      split at hb
      · injection hb with hb; subst hb; exact hmine _ (.inl ⟨k, hr⟩)
      · cases hb
    · exact absurd hp (hno p e1 rows1)
end Go.AE

/- From a walk of the kit's to a contract: a call that turns no block, and whose result names none. -/
set_option linter.unusedVariables false
namespace Go.AE
open Go Go.Sort
theorem callsTo_of_walk {P : Program} {f : Nat} {args : List AV} {H : List Blk} {x : AV} (hx : ∀ e rows, x ≠ .own e rows) (hxv : ∀ org e rows, x ≠ .view org e rows)
    (hH : ∀ (b : Nat) (cells : List AV) (j e : Nat) (rows : List (List D)), H[b]? = some (Blk.mem cells) → cells[j]? ≠ some (AV.own e rows))
    (h : ∀ (g : Gh) (vs : Array Value) (w : World), vs.size = args.length → Sim args.length ⟨enum 0 args, H⟩ g ⟨vs, []⟩ w → ∃ v, (∀ F φ w, Rel F φ w x.erase v) ∧ Calls P f vs w fun e w' => e = .returned v ∧ ∃ q os, w' = grow (w.drewN q) os) :
    CallsTo P f args H fun o H' => o = .ret x ∧ H' = H := by
  intro g vs w hvs hs
  obtain ⟨v, hv, hc⟩ := h g vs w hvs hs
  refine hc.mono ?_
  rintro e w' ⟨rfl, q, os, rfl⟩
  have hheap : (grow (w.drewN q) os).heap = w.heap ++ os := rfl
  have hsame : ∀ r, r < w.heap.size → (grow (w.drewN q) os).heap[r]? = w.heap[r]? := by
    intro r hr; rw [hheap, Array.getElem?_append, if_pos hr]
  have hst : Stab g.F w g.F (grow (w.drewN q) os) := by
    refine ⟨fun _ _ => Nat.le_refl _, fun r j u hj hu => ?_⟩
    have hlt := World.block_lt_of_cell? w ⟨r, j, none⟩ hu
    simp only [World.cell?] at hu ⊢
    rw [hsame r hlt]; exact hu
  have hno : ∀ p e rows, AP ⟨[(0, x)], H⟩ p ≠ some (.own e rows) := by
    intro p e rows hp
    cases p with
    | tmp t =>
      simp only [AP, get] at hp
      split at hp
      · injection hp with hp; exact hx e rows hp
      · cases hp
    | cell b j =>
      simp only [AP] at hp
      split at hp
      · rename_i cells hb; exact hH b cells j e rows hb hp
      · cases hp
  refine ⟨.ret x, H, g, v, ⟨rfl, rfl⟩, rfl, ?_, ⟨rfl, rfl, rfl, ?_, fun r hr _ => ⟨hsame r hr, rfl⟩, hst⟩, fun _ _ _ h => h, Nat.le_refl _, ?_⟩
  · refine { size := by simp, env := ?_, defers := rfl, inj := hs.inj, lt := ?_, dom := hs.dom, mem := ?_, iter := ?_, glob := ?_, own := ?_, excl := ?_, apart := ?_, view := ?_ }
    · intro t y hy
      simp only [AOut.val, get] at hy
      split at hy
      · rename_i h0; subst h0; injection hy with hy; subst hy; exact hv _ _ _
      · cases hy
    · intro b r hb
      obtain ⟨h1, h2, h3⟩ := hs.lt b r hb
      refine ⟨?_, h2, h3⟩
      rw [hheap]; simp only [Array.size_append]; omega
    · intro b cells r hb hr
      obtain ⟨c, e, h1, h2, h3⟩ := hs.mem b cells r hb hr
      refine ⟨c, e, by rw [hsame r (hs.lt b r hr).1]; exact h1, h2, fun j y hy => ?_⟩
      obtain ⟨k1, u, k2, k3⟩ := h3 j y hy
      exact ⟨k1, u, k2, k3.stab hst fun _ _ h => h⟩
    · intro b s pos r hb hr
      rw [hsame r (hs.lt b r hr).1]; exact hs.iter b s pos r hb hr
    · intro b s pos r hb hr
      rw [hsame r (hs.lt b r hr).1]; exact hs.glob b s pos r hb hr
    · exact fun p e rows v hp _ => absurd hp (hno p e rows)
    · rintro p p' r ⟨e, rows, _, hp, _⟩; exact absurd hp (hno p e rows)
    · rintro p r b ⟨e, rows, _, hp, _⟩; exact absurd hp (hno p e rows)
    · intro t org e rows hy
      simp only [AOut.val, get] at hy
      split at hy
      · injection hy with hy; exact absurd hy (hxv org e rows)
      · cases hy
  · rw [hheap]; simp only [Array.size_append]; exact Nat.le_add_right _ _
  · rintro r (⟨b, hb⟩ | ⟨p, e, rows, _, hp, _⟩)
    · exact .inl (.inl ⟨b, hb⟩)
    · exact absurd hp (hno p e rows)
end Go.AE

/- Integers, booleans, pairs. -/
set_option linter.unusedVariables false
namespace Go.AE
open Go
abbrev I (n : Int) : D := .int .i64 n
abbrev AI (n : Int) : AV := .d (.int .i64 n)
abbrev AB (b : Bool) : AV := .d (.bool b)
structure Pair where (v l : Int)
  deriving DecidableEq, Inhabited
def Pair.row (q : Pair) : List D := [I q.v, I q.l]
def Pair.av (q : Pair) : AV := .agg [AI q.v, AI q.l]
def pairsD (l : List Pair) : D := .sl (l.map Pair.row)
end Go.AE

/- The readings of integers, pairs and sets of pairs. -/
set_option linter.unusedVariables false
namespace Go.AE
open Go
theorem HasL.cons_inv {l : LT} {ls : List LT} {ds : List D} (h : HasL (l :: ls) ds) : ∃ d ds', ds = d :: ds' ∧ HasT l d ∧ HasL ls ds' := by
  obtain ⟨h1, h2⟩ := h
  cases ds with
  | nil => simp at h1
  | cons d ds => exact ⟨d, ds, rfl, h2 0 l d rfl rfl, by simpa using h1, fun j l' x a b => h2 (j + 1) l' x (by simpa using a) (by simpa using b)⟩
theorem HasL.nil_inv {ds : List D} (h : HasL [] ds) : ds = [] := by
  have := h.1; simpa using this
theorem HasT.int_inv {k : IntKind} {d : D} (h : HasT (.int k) d) : ∃ n, d = .int k n ∧ (Lit.int k n).wf = true := by
  cases h with
  | int _ n h => exact ⟨n, rfl, h⟩
theorem HasT.sl_inv {ls : List LT} {d : D} (h : HasT (.sl ls) d) : ∃ rows, d = .sl rows ∧ rows.length ≤ maxLen ∧ ∀ r ∈ rows, HasL ls r := by
  cases h with
  | sl _ rows hl h0 h => exact ⟨rows, rfl, hl, fun r hr => ⟨h0 r hr, h r hr⟩⟩
theorem rows_of {α : Type} {g : α → List D} {Q : List D → Prop} (h : ∀ r, Q r → ∃ x, r = g x) : ∀ {rows : List (List D)}, (∀ r ∈ rows, Q r) → ∃ l : List α, rows = l.map g := by
  intro rows
  induction rows with
  | nil => intro _; exact ⟨[], rfl⟩
  | cons r rows ih =>
    intro hq
    obtain ⟨x, rfl⟩ := h r (hq r (by simp))
    obtain ⟨l, rfl⟩ := ih fun r hr => hq r (by simp [hr])
    exact ⟨x :: l, rfl⟩
def ltI : LT := .int .i64
def ltPair : List LT := [ltI, ltI]
theorem pairRow_of {r : List D} (h : HasL ltPair r) : ∃ i : Pair, r = i.row := by
  obtain ⟨_, _, rfl, h0, h⟩ := h.cons_inv
  obtain ⟨_, _, rfl, h1, h⟩ := h.cons_inv
  obtain rfl := h.nil_inv
  obtain ⟨a, rfl, _⟩ := h0.int_inv
  obtain ⟨b, rfl, _⟩ := h1.int_inv
  exact ⟨⟨a, b⟩, rfl⟩
theorem pair_of {ds : List D} (h : HasL ltPair ds) : ∃ f : Pair, .agg (ds.map AV.d) = f.av := by
  obtain ⟨f, rfl⟩ := pairRow_of h
  exact ⟨f, rfl⟩
theorem pairs_of {d : D} (h : HasT (.sl ltPair) d) : ∃ l : List Pair, AV.d d = .d (pairsD l) ∧ l.length ≤ maxLen := by
  obtain ⟨rows, rfl, hl, hr⟩ := h.sl_inv
  obtain ⟨l, rfl⟩ := rows_of (fun r hr => pairRow_of hr) hr
  exact ⟨l, rfl, by simpa using hl⟩
theorem int_of {d : D} (h : HasT ltI d) : ∃ n : Int, AV.d d = AI n ∧ -9223372036854775808 ≤ n ∧ n ≤ 9223372036854775807 := by
  obtain ⟨n, rfl, hw⟩ := h.int_inv
  refine ⟨n, rfl, ?_⟩
  simp [Lit.wf, IntKind.min, IntKind.max, IntKind.signed, IntKind.bits] at hw
  omega
end Go.AE

/- Texts of locations: what is parsed. -/
set_option linter.unusedVariables false
namespace Go.AE
open Go
def isDig (c : UInt8) : Bool := decide (48 ≤ c.toNat) && decide (c.toNat ≤ 57)
def valD (ds : List UInt8) : Nat := ds.foldl (fun n c => 10 * n + (c.toNat - 48)) 0
def okD (ds : List UInt8) : Prop := ds ≠ [] ∧ (∀ c ∈ ds, isDig c = true) ∧ (ds.length ≤ 1 ∨ ds.head? ≠ some 48) ∧ valD ds < 1099511627776
instance (ds : List UInt8) : Decidable (okD ds) := by unfold okD; infer_instance
def locP : List UInt8 → Option (UInt8 × Nat)
  | [] => none
  | c :: ds => if (c = 114 ∨ c = 115) ∧ okD ds then some (c, valD ds) else none
theorem locP_cons (c : UInt8) (ds : List UInt8) : locP (c :: ds) = if (c = 114 ∨ c = 115) ∧ okD ds then some (c, valD ds) else none := rfl
def locN : UInt8 × Nat → Int
  | (c, n) => 2 * (n : Int) + (if c = 115 then 1 else 0)
def locV : Option (UInt8 × Nat) → AV
  | none => .tup [AI 0, AB false]
  | some x => .tup [AI (locN x), AB true]
theorem isDig_iff {c : UInt8} : isDig c = true ↔ 48 ≤ c.toNat ∧ c.toNat ≤ 57 := by unfold isDig; simp
theorem valD_nil : valD [] = 0 := rfl
theorem valD_snoc (ds : List UInt8) (c : UInt8) : valD (ds ++ [c]) = 10 * valD ds + (c.toNat - 48) := by unfold valD; rw [List.foldl_append]; rfl
theorem snoc_rec {α : Type} {motive : List α → Prop} (h0 : motive []) (h1 : ∀ l q, motive l → motive (l ++ [q])) (l : List α) : motive l := by
  have : ∀ r : List α, motive r.reverse := by
    intro r
    induction r with
    | nil => exact h0
    | cons x r ih => rw [List.reverse_cons]; exact h1 _ _ ih
  have h := this l.reverse
  rwa [List.reverse_reverse] at h
theorem valD_app (a b : List UInt8) : valD a ≤ valD (a ++ b) := by
  induction b using snoc_rec with
  | h0 => simp
  | h1 b c ih => rw [← List.append_assoc, valD_snoc]; omega
theorem valD_take (ds : List UInt8) (k : Nat) : valD (ds.take k) ≤ valD ds := by
  have := valD_app (ds.take k) (ds.drop k)
  rwa [List.take_append_drop] at this
theorem valD_lb {ds : List UInt8} (hd : ∀ c ∈ ds, isDig c = true) (hh : ds.head? ≠ some 48) (hne : ds ≠ []) : 10 ^ (ds.length - 1) ≤ valD ds := by
  induction ds using snoc_rec with
  | h0 => exact absurd rfl hne
  | h1 ds c ih =>
    rw [valD_snoc, List.length_append, List.length_singleton, Nat.add_sub_cancel]
    have hc := isDig_iff.1 (hd c (by simp))
    cases ds with
    | nil =>
      have : c ≠ 48 := by simpa using hh
      have : c.toNat ≠ 48 := fun h => this (UInt8.toNat_inj.1 h)
      simp [valD_nil]; omega
    | cons x ds =>
      have h := ih (fun c hc => hd c (by simp only [List.mem_append]; exact .inl hc)) (by simpa using hh) (by simp)
      simp only [List.length_cons, Nat.add_sub_cancel] at h ⊢
      rw [Nat.pow_succ]; omega
theorem okD_len {ds : List UInt8} (h : okD ds) : ds.length ≤ 13 := by
  obtain ⟨h1, h2, h3, h4⟩ := h
  by_cases hl : ds.length ≤ 13
  · exact hl
  · rcases h3 with h3 | h3
    · omega
    · have := valD_lb h2 h3 h1
      have h5 : 10 ^ 13 ≤ 10 ^ (ds.length - 1) := Nat.pow_le_pow_right (by omega) (by omega)
      omega
theorem dec_props (u : Nat) : Lib.decDigits u ≠ [] ∧ (∀ c ∈ Lib.decDigits u, isDig c = true) ∧ valD (Lib.decDigits u) = u ∧ (0 < u → (Lib.decDigits u).head? ≠ some 48) := by
  induction u using Nat.strongRecOn with
  | _ u ih =>
    have hof : ∀ d, d < 10 → (UInt8.ofNat (48 + d)).toNat = 48 + d := fun d hd => by
      rw [UInt8.toNat_ofNat']; omega
    by_cases h : u < 10
    · rw [Lib.decDigits_one h]
      refine ⟨by simp, ?_, ?_, ?_⟩
      · intro c hc
        rw [List.mem_singleton] at hc; subst hc
        rw [isDig_iff, hof u h]; omega
      · show 10 * 0 + ((UInt8.ofNat (48 + u)).toNat - 48) = u
        rw [hof u h]; omega
      · intro hu e
        simp only [List.head?_cons, Option.some.injEq] at e
        have := congrArg UInt8.toNat e
        rw [hof u h] at this
        have e48 : (48 : UInt8).toNat = 48 := rfl
        omega
    · obtain ⟨i1, i2, i3, i4⟩ := ih (u / 10) (by omega)
      rw [Lib.decDigits, dif_neg h]
      have hm : u % 10 < 10 := Nat.mod_lt _ (by omega)
      refine ⟨by simp, ?_, ?_, ?_⟩
      · intro c hc
        rw [List.mem_append, List.mem_singleton] at hc
        rcases hc with hc | rfl
        · exact i2 c hc
        · rw [isDig_iff, hof _ hm]; omega
      · rw [valD_snoc, i3, hof _ hm]; omega
      · intro _
        have := i4 (by omega)
        cases hd : Lib.decDigits (u / 10) with
        | nil => exact absurd hd i1
        | cons x l => rw [hd] at this; simpa using this
theorem okD_dec {u : Nat} (h : u < 1099511627776) : okD (Lib.decDigits u) := by
  obtain ⟨h1, h2, h3, h4⟩ := dec_props u
  refine ⟨h1, h2, ?_, by rw [h3]; exact h⟩
  by_cases hu : 0 < u
  · exact .inr (h4 hu)
  · have : u = 0 := by omega
    subst this
    rw [Lib.decDigits_one (by omega)]; simp
theorem dec_val {ds : List UInt8} (h1 : ds ≠ []) (h2 : ∀ c ∈ ds, isDig c = true) (h3 : ds.length ≤ 1 ∨ ds.head? ≠ some 48) : Lib.decDigits (valD ds) = ds := by
  induction ds using snoc_rec with
  | h0 => exact absurd rfl h1
  | h1 ds c ih =>
    have hc := isDig_iff.1 (h2 c (by simp))
    have hcc : UInt8.ofNat (48 + (c.toNat - 48)) = c := by
      rw [show 48 + (c.toNat - 48) = c.toNat by omega]; exact UInt8.ofNat_toNat
    cases ds with
    | nil =>
      have : valD [c] = c.toNat - 48 := by show 10 * 0 + _ = _; omega
      rw [List.nil_append, this, Lib.decDigits_one (by omega), hcc]
    | cons x ds =>
      have hd : ∀ c ∈ x :: ds, isDig c = true := fun c hc => h2 c (by simp only [List.mem_append]; exact .inl hc)
      have hh : (x :: ds).head? ≠ some 48 := by
        rcases h3 with h3 | h3
        · simp at h3
        · simpa using h3
      have hi := ih (by simp) hd (.inr hh)
      have hp := valD_lb hd hh (by simp)
      have hp1 : 1 ≤ 10 ^ ((x :: ds).length - 1) := Nat.one_le_pow _ _ (by omega)
      rw [valD_snoc]
      have e1 : (10 * valD (x :: ds) + (c.toNat - 48)) / 10 = valD (x :: ds) := by omega
      have e2 : (10 * valD (x :: ds) + (c.toNat - 48)) % 10 = c.toNat - 48 := by omega
      rw [Lib.decDigits, dif_neg (by omega), e1, e2, hi, hcc]
theorem locP_text {b : Bool} {n : Nat} (hn : n < 1099511627776) : locP ((if b then 115 else 114) :: Lib.decDigits n) = some ((if b then 115 else 114), n) := by
  have h := (dec_props n).2.2.1
  rw [locP_cons]
  rw [if_pos ⟨by cases b <;> simp, okD_dec hn⟩, h]
theorem locP_some {s : List UInt8} {c : UInt8} {n : Nat} (h : locP s = some (c, n)) : (c = 114 ∨ c = 115) ∧ n < 1099511627776 ∧ s = c :: Lib.decDigits n ∧ okD (Lib.decDigits n) := by
  cases s with
  | nil => cases h
  | cons x ds =>
    rw [locP_cons] at h
    split at h
    · rename_i hx
      injection h with h; injection h with h1 h2; subst h1; subst h2
      have hv := dec_val hx.2.1 hx.2.2.1 hx.2.2.2.1
      exact ⟨hx.1, hx.2.2.2.2, by rw [hv], by rw [hv]; exact hx.2⟩
    · cases h
/-! What is not a text of a location. -/
theorem locP_zero {c : UInt8} {ds : List UInt8} (h : ds ≠ []) : locP (c :: 48 :: ds) = none := by
  rw [locP_cons]
  rw [if_neg]
  rintro ⟨_, _, _, h3, _⟩
  rcases h3 with h3 | h3
  · cases ds with
    | nil => exact h rfl
    | cons => simp at h3
  · simp at h3
theorem locP_space {s : List UInt8} (h : s ≠ []) : locP (s ++ [32]) = none := by
  cases s with
  | nil => exact absurd rfl h
  | cons c ds =>
    rw [List.cons_append]; rw [locP_cons]
    rw [if_neg]
    rintro ⟨_, _, h2, _⟩
    exact absurd (h2 32 (by simp)) (by decide)
theorem locP_space0 (s : List UInt8) : locP (32 :: s) = none := by
  rw [locP_cons]
  rw [if_neg]
  rintro ⟨h, _⟩
  rcases h with h | h <;> exact absurd h (by decide)
theorem locP_one (c : UInt8) : locP [c] = none := by
  rw [locP_cons]
  rw [if_neg]
  rintro ⟨_, h, _⟩
  exact h rfl
/-! Letters of a string. -/
theorem decS_ascii {s : List UInt8} {j : Nat} (h : j < s.length) (ha : s[j].toNat < 128) : decS s j = (s[j].toNat, 1) := by
  have := decode_ascii ⟨s.toArray⟩ j (by simpa [ByteArray.size] using h) (by exact ha)
  unfold decS; rw [this]; rfl
theorem decS_other {s : List UInt8} {j : Nat} (h : j < s.length) (ha : ¬ s[j].toNat < 128) : 128 ≤ (decS s j).1 := by
  have e : (⟨s.toArray⟩ : ByteArray).get! (j + 0) = s[j] := by
    show (⟨s.toArray⟩ : ByteArray).get! j = _
    simp [ByteArray.get!, h]
  unfold decS Utf8.decode
  simp only [e]
  have ha' : ¬ s[j].toNat < 0x80 := ha
  simp only [ha', if_false]
  repeat' split
  all_goals simp_all [Utf8.runeError]
  all_goals omega
end Go.AE

/- Locations: the small functions, and Parse. -/
set_option linter.unusedVariables false
namespace Go.AE
open Go
/-- The digits that are read so far. -/
def preOk (s : List UInt8) (j : Nat) : Prop := j = 0 ∨ ∃ c ds, s = c :: ds ∧ (c = 114 ∨ c = 115) ∧ (∀ x ∈ ds.take (j - 1), isDig x = true) ∧ valD (ds.take (j - 1)) < 1099511627776 ∧ (j - 1 ≤ 1 ∨ ds.head? ≠ some 48)
def tagI (s : List UInt8) (j : Nat) : Int := if j = 0 then 0 else ((s.headD 0).toNat : Int)
def numI (s : List UInt8) (j : Nat) : Nat := valD (s.tail.take (j - 1))
theorem tdiv2_nat (k : Nat) : ((k : Int)).tdiv 2 = ((k / 2 : Nat) : Int) := rfl
theorem tdiv2_bd (l : Int) (h0 : -9223372036854775808 ≤ l) (h1 : l ≤ 9223372036854775807) : IntKind.i64.wrap (l.tdiv 2) = l.tdiv 2 := by
  rcases Int.le_total 0 l with h | h
  · obtain ⟨k, rfl⟩ := Int.eq_ofNat_of_zero_le h
    rw [tdiv2_nat]; exact wrap_i64 (by omega) (by omega)
  · obtain ⟨k, hk⟩ := Int.eq_ofNat_of_zero_le (show 0 ≤ -l by omega)
    have : l = -(k : Int) := by omega
    subst this
    rw [Int.neg_tdiv, tdiv2_nat]; exact wrap_i64 (by omega) (by omega)
theorem wrap_i32 {n : Int} (h1 : -2147483648 ≤ n) (h2 : n ≤ 2147483647) : IntKind.i32.wrap n = n := by
  unfold IntKind.wrap
  simp only [IntKind.bits, IntKind.signed, Bool.true_and]
  split
  · rename_i h; simp at h; omega
  · rename_i h; simp at h; omega
theorem head_pos {ds : List UInt8} {k : Nat} (hd : ∀ x ∈ ds.take k, isDig x = true) (hh : ds.head? ≠ some 48) (hk : k ≠ 0) (hne : ds ≠ []) : 0 < valD (ds.take k) := by
  cases k with
  | zero => exact absurd rfl hk
  | succ k =>
    cases ds with
    | nil => exact absurd rfl hne
    | cons x ds =>
      have := valD_lb hd (by simpa using hh) (by simp)
      have h1 : 1 ≤ 10 ^ (((x :: ds).take (k + 1)).length - 1) := Nat.one_le_pow _ _ (by omega)
      omega
theorem u8_nat {c : UInt8} {n : Nat} (h : c.toNat = n) (hn : n < 256) : c = UInt8.ofNat n := by
  rw [← h]; exact UInt8.ofNat_toNat.symm
theorem take_snoc {α : Type} {l : List α} {k : Nat} (h : k < l.length) : l.take (k + 1) = l.take k ++ [l[k]] := by
  rw [List.take_add_one, List.getElem?_eq_getElem h]; rfl
theorem locP_bad1 {c : UInt8} {ds : List UInt8} (h : ¬ (c = 114 ∨ c = 115)) : locP (c :: ds) = none := by
  rw [locP_cons, if_neg fun k => h k.1]
theorem locP_bad2 {c x : UInt8} {ds : List UInt8} (hx : x ∈ ds) (h : isDig x ≠ true) : locP (c :: ds) = none := by
  rw [locP_cons, if_neg fun k => h (k.2.2.1 x hx)]
theorem locP_bad3 {c : UInt8} {ds : List UInt8} {k : Nat} (h : 1099511627776 ≤ valD (ds.take k)) : locP (c :: ds) = none := by
  rw [locP_cons, if_neg]
  intro hk
  have := valD_take ds k
  have := hk.2.2.2.2
  omega
section
theorem location_Reg_calls {P : Program} {p : Nums} (A : All P p) (n : Int) (h0 : -1000000000000000 ≤ n) (h1 : n ≤ 1000000000000000) : CallsTo P p.location_Reg [AI n] [] fun o _ => o = .ret (AI (2 * n)) := by
  refine A.location_Reg.run rfl fun R hR => ?_
  have hw : IntKind.i64.wrap (2 * n) = 2 * n := wrap_i64 (by omega) (by omega)
  (simp (config := { maxSteps := 1000000 }) [ic_location_Reg, hw])
  (first | exact hR _ _ (Fin_ret _ rfl rfl rfl) | exact hR _ _ (Fin_normal _ rfl rfl rfl) | exact hR _ _ (Fin_ret _ rfl rfl (by simp [AV.erase, AV.unview]; done)) | exact hR _ _ (Fin_normal _ rfl rfl (by simp [AV.erase, AV.unview]; done)) | fail "no end")
theorem location_Slot_calls {P : Program} {p : Nums} (A : All P p) (n : Int) (h0 : -1000000000000000 ≤ n) (h1 : n ≤ 1000000000000000) : CallsTo P p.location_Slot [AI n] [] fun o _ => o = .ret (AI (2 * n + 1)) := by
  refine A.location_Slot.run rfl fun R hR => ?_
  have hw : IntKind.i64.wrap (2 * n) = 2 * n := wrap_i64 (by omega) (by omega)
  have hw2 : IntKind.i64.wrap (2 * n + 1) = 2 * n + 1 := wrap_i64 (by omega) (by omega)
  (simp (config := { maxSteps := 1000000 }) [ic_location_Slot, hw, hw2])
  (first | exact hR _ _ (Fin_ret _ rfl rfl rfl) | exact hR _ _ (Fin_normal _ rfl rfl rfl) | exact hR _ _ (Fin_ret _ rfl rfl (by simp [AV.erase, AV.unview]; done)) | exact hR _ _ (Fin_normal _ rfl rfl (by simp [AV.erase, AV.unview]; done)) | fail "no end")
theorem location_IsSlot_calls {P : Program} {p : Nums} (A : All P p) (l : Int) : CallsTo P p.location_IsSlot [AI l] [] fun o _ => o = .ret (AB (l.tmod 2 == 1)) := by
  refine A.location_IsSlot.run rfl fun R hR => ?_
  (simp (config := { maxSteps := 1000000 }) [ic_location_IsSlot])
  (first | exact hR _ _ (Fin_ret _ rfl rfl rfl) | exact hR _ _ (Fin_normal _ rfl rfl rfl) | exact hR _ _ (Fin_ret _ rfl rfl (by simp [AV.erase, AV.unview]; done)) | exact hR _ _ (Fin_normal _ rfl rfl (by simp [AV.erase, AV.unview]; done)) | fail "no end")
theorem location_Index_calls {P : Program} {p : Nums} (A : All P p) (l : Int) (h0 : -9223372036854775808 ≤ l) (h1 : l ≤ 9223372036854775807) : CallsTo P p.location_Index [AI l] [] fun o _ => o = .ret (AI (l.tdiv 2)) := by
  refine A.location_Index.run rfl fun R hR => ?_
  have hw := tdiv2_bd l h0 h1
  (simp (config := { maxSteps := 1000000 }) [ic_location_Index, hw])
  (first | exact hR _ _ (Fin_ret _ rfl rfl rfl) | exact hR _ _ (Fin_normal _ rfl rfl rfl) | exact hR _ _ (Fin_ret _ rfl rfl (by simp [AV.erase, AV.unview]; done)) | exact hR _ _ (Fin_normal _ rfl rfl (by simp [AV.erase, AV.unview]; done)) | fail "no end")
def rngZ (l r s : Int) : Bool := if l.tmod 2 = 1 then decide (0 ≤ l) && decide (l.tdiv 2 < s) else decide (0 ≤ l) && decide (l.tdiv 2 < r)
theorem location_InRange_calls {P : Program} {p : Nums} (A : All P p) (l r s : Int) (h0 : -9223372036854775808 ≤ l) (h1 : l ≤ 9223372036854775807) : CallsTo P p.location_InRange [AI l, AI r, AI s] [] fun o _ => o = .ret (AB (rngZ l r s)) := by
  refine A.location_InRange.run rfl fun R hR => ?_
  (simp (config := { maxSteps := 1000000 }) [ic_location_InRange])
  (refine AWcall_det (location_IsSlot_calls A l) (by rfl) (by rfl) ?_)
  (simp (config := { maxSteps := 1000000 }) [])
  by_cases hm : l.tmod 2 = 1 <;> by_cases hl : 0 ≤ l
  · (simp (config := { maxSteps := 1000000 }) [hm, hl])
    (refine AWcall_det (location_Index_calls A l h0 h1) (by rfl) (by rfl) ?_)
    (simp (config := { maxSteps := 1000000 }) [])
    (first | exact hR _ _ (Fin_ret _ rfl rfl rfl) | exact hR _ _ (Fin_normal _ rfl rfl rfl) | exact hR _ _ (Fin_ret _ rfl rfl (by simp [AV.erase, AV.unview, rngZ, hm, hl]; done)) | exact hR _ _ (Fin_normal _ rfl rfl (by simp [AV.erase, AV.unview, rngZ, hm, hl]; done)) | fail "no end")
  · (simp (config := { maxSteps := 1000000 }) [hm, hl])
    (first | exact hR _ _ (Fin_ret _ rfl rfl rfl) | exact hR _ _ (Fin_normal _ rfl rfl rfl) | exact hR _ _ (Fin_ret _ rfl rfl (by simp [AV.erase, AV.unview, rngZ, hm, hl]; done)) | exact hR _ _ (Fin_normal _ rfl rfl (by simp [AV.erase, AV.unview, rngZ, hm, hl]; done)) | fail "no end")
  · (simp (config := { maxSteps := 1000000 }) [hm, hl])
    (refine AWcall_det (location_Index_calls A l h0 h1) (by rfl) (by rfl) ?_)
    (simp (config := { maxSteps := 1000000 }) [])
    (first | exact hR _ _ (Fin_ret _ rfl rfl rfl) | exact hR _ _ (Fin_normal _ rfl rfl rfl) | exact hR _ _ (Fin_ret _ rfl rfl (by simp [AV.erase, AV.unview, rngZ, hm, hl]; done)) | exact hR _ _ (Fin_normal _ rfl rfl (by simp [AV.erase, AV.unview, rngZ, hm, hl]; done)) | fail "no end")
  · (simp (config := { maxSteps := 1000000 }) [hm, hl])
    (first | exact hR _ _ (Fin_ret _ rfl rfl rfl) | exact hR _ _ (Fin_normal _ rfl rfl rfl) | exact hR _ _ (Fin_ret _ rfl rfl (by simp [AV.erase, AV.unview, rngZ, hm, hl]; done)) | exact hR _ _ (Fin_normal _ rfl rfl (by simp [AV.erase, AV.unview, rngZ, hm, hl]; done)) | fail "no end")
theorem ref04_InRange_calls {P : Program} {p : Nums} (A : All P p) (l r s : Int) (h0 : -9223372036854775808 ≤ l) (h1 : l ≤ 9223372036854775807) : CallsTo P p.ref04_InRange [AI l, AI r, AI s] [] fun o _ => o = .ret (AB (rngZ l r s)) := by
  refine A.ref04_InRange.run rfl fun R hR => ?_
  have hw := tdiv2_bd l h0 h1
  (simp (config := { maxSteps := 1000000 }) [ic_ref04_InRange, hw])
  by_cases hl : l < 0
  · have hl' : ¬ 0 ≤ l := by omega
    (simp (config := { maxSteps := 1000000 }) [hl])
    (first | exact hR _ _ (Fin_ret _ rfl rfl rfl) | exact hR _ _ (Fin_normal _ rfl rfl rfl) | exact hR _ _ (Fin_ret _ rfl rfl (by simp [AV.erase, AV.unview, rngZ, hl']; done)) | exact hR _ _ (Fin_normal _ rfl rfl (by simp [AV.erase, AV.unview, rngZ, hl']; done)) | fail "no end")
  · have hl' : 0 ≤ l := by omega
    by_cases hm : l.tmod 2 = 1
    · (simp (config := { maxSteps := 1000000 }) [hm, hl, hw])
      (first | exact hR _ _ (Fin_ret _ rfl rfl rfl) | exact hR _ _ (Fin_normal _ rfl rfl rfl) | exact hR _ _ (Fin_ret _ rfl rfl (by simp [AV.erase, AV.unview, rngZ, hm, hl', hw]; done)) | exact hR _ _ (Fin_normal _ rfl rfl (by simp [AV.erase, AV.unview, rngZ, hm, hl', hw]; done)) | fail "no end")
    · (simp (config := { maxSteps := 1000000 }) [hm, hl, hw])
      (first | exact hR _ _ (Fin_ret _ rfl rfl rfl) | exact hR _ _ (Fin_normal _ rfl rfl rfl) | exact hR _ _ (Fin_ret _ rfl rfl (by simp [AV.erase, AV.unview, rngZ, hm, hl', hw]; done)) | exact hR _ _ (Fin_normal _ rfl rfl (by simp [AV.erase, AV.unview, rngZ, hm, hl', hw]; done)) | fail "no end")
end
end Go.AE

/- Locations: Parse. -/
set_option linter.unusedVariables false
namespace Go.AE
open Go
section
set_option maxHeartbeats 2000000 in
theorem location_Parse_calls {P : Program} {p : Nums} (A : All P p) (s : List UInt8) (hl : s.length < 1000000) : CallsTo P p.location_Parse [.d (.str s)] [] fun o _ => o = .ret (locV (locP s)) := by
  refine A.location_Parse.run rfl fun R hR => ?_
  (simp (config := { maxSteps := 1000000 }) [ic_location_Parse])
  refine AW_loop (fun j : Nat => ⟨[(10, .ptr 0 0), (6, .d (.int .i32 (tagI s j))), (5, AI ((j - 1 : Nat) : Int)), (4, AI ((numI s j : Nat) : Int)), (3, AB false), (2, AI 0)], [.iter s j]⟩) (fun j => j ≤ s.length ∧ preOk s j) (fun j => s.length - j) 0 ⟨Nat.zero_le _, .inl rfl⟩
    (by simp only [tagI, numI, if_true, Nat.zero_sub, List.take_zero, valD_nil]; (refine Wk.of ?_ ?_ (by simp) <;> repeat' (first | exact True.intro | exact ⟨_, rfl, wkt_same rfl⟩ | exact ⟨_, rfl, wkt_erase rfl⟩ | exact ⟨_, rfl, .inl .nild⟩ | exact ⟨_, rfl, .inl .nile⟩ | exact ⟨_, rfl, wkt_nils⟩ | exact wkt_same rfl | exact wkt_erase rfl | exact .inl .nild | exact .inl .nile | exact wkt_nils | exact WkB.same rfl | exact WkB_rows | exact WkB_nil | exact .dead _ | exact .iter _ _ | exact .glob _ _ | refine WkB_cons ?_ ?_ | refine And.intro ?_ ?_))) ?_
  rintro j ⟨hj, hpre⟩ N hN
  (simp (config := { maxSteps := 1000000 }) [])
  refine AWio_nxt (by rfl) (by rfl) (fun hjl => ?_) (fun hjl => ?_)
  · obtain ⟨c, w, hdec⟩ : ∃ c w, decS s j = (c, w) := ⟨_, _, rfl⟩
    rw [hdec]
    have hasc : s[j].toNat < 128 → c = s[j].toNat ∧ w = 1 := fun h => by
      have := decS_ascii hjl h
      rw [hdec] at this; injection this with h1 h2; exact ⟨h1, h2⟩
    have hoth : ¬ s[j].toNat < 128 → 128 ≤ c := fun h => by
      have := decS_other hjl h
      rw [hdec] at this; exact this
    have hlow : c < 128 → c = s[j].toNat ∧ w = 1 := fun h => by
      by_cases ha : s[j].toNat < 128
      · exact hasc ha
      · have := hoth ha; omega
    cases j with
    | zero =>
      cases s with
      | nil => simp at hjl
      | cons c0 ds =>
        simp only [List.getElem_cons_zero] at hasc hoth hlow
        have h40 : numI (c0 :: ds) 0 = 0 := rfl
        by_cases h1 : c = 114
        · obtain ⟨e1, e2⟩ := hlow (by omega)
          have e3 : c0 = 114 := u8_nat (n := 114) (by omega) (by omega)
          subst h1; subst e2
          (simp (config := { maxSteps := 1000000 }) [h40])
          refine hN _ 1 ⟨by simp, .inr ⟨c0, ds, rfl, .inl e3, by simp, by simp [valD_nil], .inl (by simp)⟩⟩ ?_ (by simp)
          have t1 : tagI (c0 :: ds) 1 = 114 := by rw [e3]; rfl
          have n1 : numI (c0 :: ds) 1 = 0 := rfl
          rw [t1, n1]
          (refine Wk.of ?_ ?_ (by simp) <;> repeat' (first | exact True.intro | exact ⟨_, rfl, wkt_same rfl⟩ | exact ⟨_, rfl, wkt_erase rfl⟩ | exact ⟨_, rfl, .inl .nild⟩ | exact ⟨_, rfl, .inl .nile⟩ | exact ⟨_, rfl, wkt_nils⟩ | exact wkt_same rfl | exact wkt_erase rfl | exact .inl .nild | exact .inl .nile | exact wkt_nils | exact WkB.same rfl | exact WkB_rows | exact WkB_nil | exact .dead _ | exact .iter _ _ | exact .glob _ _ | refine WkB_cons ?_ ?_ | refine And.intro ?_ ?_))
        · by_cases h2 : c = 115
          · obtain ⟨e1, e2⟩ := hlow (by omega)
            have e3 : c0 = 115 := u8_nat (n := 115) (by omega) (by omega)
            subst h2; subst e2
            (simp (config := { maxSteps := 1000000 }) [h40])
            refine hN _ 1 ⟨by simp, .inr ⟨c0, ds, rfl, .inr e3, by simp, by simp [valD_nil], .inl (by simp)⟩⟩ ?_ (by simp)
            have t1 : tagI (c0 :: ds) 1 = 115 := by rw [e3]; rfl
            have n1 : numI (c0 :: ds) 1 = 0 := rfl
            rw [t1, n1]
            (refine Wk.of ?_ ?_ (by simp) <;> repeat' (first | exact True.intro | exact ⟨_, rfl, wkt_same rfl⟩ | exact ⟨_, rfl, wkt_erase rfl⟩ | exact ⟨_, rfl, .inl .nild⟩ | exact ⟨_, rfl, .inl .nile⟩ | exact ⟨_, rfl, wkt_nils⟩ | exact wkt_same rfl | exact wkt_erase rfl | exact .inl .nild | exact .inl .nile | exact wkt_nils | exact WkB.same rfl | exact WkB_rows | exact WkB_nil | exact .dead _ | exact .iter _ _ | exact .glob _ _ | refine WkB_cons ?_ ?_ | refine And.intro ?_ ?_))
          · have hn : locP (c0 :: ds) = none := locP_bad1 (by
              rintro (h | h)
              · subst h; exact h1 (hasc (by decide)).1
              · subst h; exact h2 (hasc (by decide)).1)
            have h1' : ¬ ((c : Int) = 114) := by omega
            have h2' : ¬ ((c : Int) = 115) := by omega
            (simp (config := { maxSteps := 1000000 }) [h1', h2'])
            (first | exact hR _ _ (Fin_ret _ rfl rfl rfl) | exact hR _ _ (Fin_normal _ rfl rfl rfl) | exact hR _ _ (Fin_ret _ rfl rfl (by simp [AV.erase, AV.unview, locV, hn]; done)) | exact hR _ _ (Fin_normal _ rfl rfl (by simp [AV.erase, AV.unview, locV, hn]; done)) | fail "no end")
    | succ k =>
      rcases hpre with hpre | ⟨c0, ds, rfl, hc0, hd, hv, hz⟩
      · omega
      simp only [Nat.add_sub_cancel] at hd hv hz
      simp only [List.length_cons, Nat.add_lt_add_iff_right] at hjl
      simp only [List.getElem_cons_succ] at hasc hoth hlow
      have hnI : numI (c0 :: ds) (k + 1) = valD (ds.take k) := rfl
      have hnI2 : numI (c0 :: ds) (k + 1 + 1) = valD (ds.take (k + 1)) := rfl
      have hsn := take_snoc hjl
      have hvs : valD (ds.take (k + 1)) = 10 * valD (ds.take k) + (ds[k].toNat - 48) := by rw [hsn, valD_snoc]
      rw [hnI]
      have hkl : k < 1000000 := by simp only [List.length_cons] at hl; omega
      obtain ⟨n, hn⟩ : ∃ n, n = valD (ds.take k) := ⟨_, rfl⟩
      rw [← hn] at hv hvs ⊢
      have hk1 : (0 : Int) < (k : Int) + 1 := by omega
      have hk0 : ¬ ((k : Int) + 1 = 0) := by omega
      by_cases hdig : 48 ≤ c ∧ c ≤ 57
      · obtain ⟨e1, e2⟩ := hlow (by omega)
        subst e2
        rw [← e1] at hvs
        have hdk : isDig ds[k] = true := by rw [isDig_iff, ← e1]; exact hdig
        obtain ⟨g1, g2⟩ := hdig
        have g1' : (48 : Int) ≤ (c : Int) := by omega
        have g2' : (c : Int) ≤ 57 := by omega
        have w1 : IntKind.i64.wrap (10 * (n : Int)) = 10 * (n : Int) := wrap_i64 (by omega) (by omega)
        have w2 : IntKind.i32.wrap ((c : Int) - 48) = (c : Int) - 48 := wrap_i32 (by omega) (by omega)
        have w3 : IntKind.i64.wrap ((c : Int) - 48) = (c : Int) - 48 := wrap_i64 (by omega) (by omega)
        obtain ⟨n2, hn2⟩ : ∃ n2, n2 = 10 * n + (c - 48) := ⟨_, rfl⟩
        have w4 : IntKind.i64.wrap (10 * (n : Int) + ((c : Int) - 48)) = (n2 : Int) := by
          rw [show 10 * (n : Int) + ((c : Int) - 48) = (n2 : Int) by omega]; exact wrap_i64 (by omega) (by omega)
        have w5 := wrap_succ (k := k) (by omega)
        rw [← hn2] at hvs
        have go : (k = 0 ∨ 0 < n) → n2 < 1099511627776 → preOk (c0 :: ds) (k + 1 + 1) := fun hcond hlt => by
          refine .inr ⟨c0, ds, rfl, hc0, ?_, by rw [Nat.add_sub_cancel, hvs]; exact hlt, ?_⟩
          · intro x hx
            rw [Nat.add_sub_cancel, hsn, List.mem_append, List.mem_singleton] at hx
            rcases hx with hx | rfl
            · exact hd x hx
            · exact hdk
          · rw [Nat.add_sub_cancel]
            by_cases hk : k = 0
            · left; omega
            · right
              rcases hz with h | h
              · have hk1 : k = 1 := by omega
                subst hk1
                have hpos : 0 < n := hcond.resolve_left hk
                cases ds with
                | nil => simp
                | cons x ds =>
                  intro h
                  simp only [List.head?_cons, Option.some.injEq] at h
                  subst h
                  have : valD [(48 : UInt8)] = 0 := rfl
                  simp only [List.take_succ_cons, List.take_zero] at hn
                  omega
              · exact h
        by_cases hcond : k = 0 ∨ 0 < n
        · by_cases hlt : n2 < 1099511627776
          · have hlt' : ¬ ((1099511627776 : Int) ≤ (n2 : Int)) := by omega
            have fin : ∀ st', Wk 0 st' ⟨[(10, .ptr 0 0), (6, .d (.int .i32 (tagI (c0 :: ds) (k + 1)))), (5, AI ((k + 1 : Nat) : Int)), (4, AI (n2 : Int)), (3, AB false), (2, AI 0)], [.iter (c0 :: ds) (k + 1 + 1)]⟩ → N st' := fun st' h => by
              refine hN st' (k + 1 + 1) ⟨by simp only [List.length_cons]; omega, go hcond hlt⟩ ?_ (by simp only [List.length_cons]; omega)
              rw [hnI2, hvs]
              exact h
            rcases hcond with hk | hk
            · subst hk
              (simp (config := { maxSteps := 1000000 }) [g1', g2', w1, w2, w3, w4, w5, hlt', hlt])
              exact fin _ (by (refine Wk.of ?_ ?_ (by simp) <;> repeat' (first | exact True.intro | exact ⟨_, rfl, wkt_same rfl⟩ | exact ⟨_, rfl, wkt_erase rfl⟩ | exact ⟨_, rfl, .inl .nild⟩ | exact ⟨_, rfl, .inl .nile⟩ | exact ⟨_, rfl, wkt_nils⟩ | exact wkt_same rfl | exact wkt_erase rfl | exact .inl .nild | exact .inl .nile | exact wkt_nils | exact WkB.same rfl | exact WkB_rows | exact WkB_nil | exact .dead _ | exact .iter _ _ | exact .glob _ _ | refine WkB_cons ?_ ?_ | refine And.intro ?_ ?_)))
            · have hk' : (0 : Int) < (n : Int) := by omega
              by_cases hkz : k = 0
              · subst hkz
                (simp (config := { maxSteps := 1000000 }) [g1', g2', w1, w2, w3, w4, w5, hlt', hlt])
                exact fin _ (by (refine Wk.of ?_ ?_ (by simp) <;> repeat' (first | exact True.intro | exact ⟨_, rfl, wkt_same rfl⟩ | exact ⟨_, rfl, wkt_erase rfl⟩ | exact ⟨_, rfl, .inl .nild⟩ | exact ⟨_, rfl, .inl .nile⟩ | exact ⟨_, rfl, wkt_nils⟩ | exact wkt_same rfl | exact wkt_erase rfl | exact .inl .nild | exact .inl .nile | exact wkt_nils | exact WkB.same rfl | exact WkB_rows | exact WkB_nil | exact .dead _ | exact .iter _ _ | exact .glob _ _ | refine WkB_cons ?_ ?_ | refine And.intro ?_ ?_)))
              · have hkz' : ¬ ((k : Int) = 0) := by omega
                (simp (config := { maxSteps := 1000000 }) [hk1, hk0, hkz', hkz, hk', hk, g1', g2', w1, w2, w3, w4, w5, hlt', hlt])
                exact fin _ (by (refine Wk.of ?_ ?_ (by simp) <;> repeat' (first | exact True.intro | exact ⟨_, rfl, wkt_same rfl⟩ | exact ⟨_, rfl, wkt_erase rfl⟩ | exact ⟨_, rfl, .inl .nild⟩ | exact ⟨_, rfl, .inl .nile⟩ | exact ⟨_, rfl, wkt_nils⟩ | exact wkt_same rfl | exact wkt_erase rfl | exact .inl .nild | exact .inl .nile | exact wkt_nils | exact WkB.same rfl | exact WkB_rows | exact WkB_nil | exact .dead _ | exact .iter _ _ | exact .glob _ _ | refine WkB_cons ?_ ?_ | refine And.intro ?_ ?_)))
          · have hlt' : (1099511627776 : Int) ≤ (n2 : Int) := by omega
            have hlt2 : 1099511627776 ≤ n2 := by omega
            have hnone : locP (c0 :: ds) = none := locP_bad3 (k := k + 1) (by rw [hvs]; exact hlt2)
            rcases hcond with hk | hk
            · subst hk
              (simp (config := { maxSteps := 1000000 }) [g1', g2', w1, w2, w3, w4, w5, hlt', hlt2])
              (first | exact hR _ _ (Fin_ret _ rfl rfl rfl) | exact hR _ _ (Fin_normal _ rfl rfl rfl) | exact hR _ _ (Fin_ret _ rfl rfl (by simp [AV.erase, AV.unview, locV, hnone]; done)) | exact hR _ _ (Fin_normal _ rfl rfl (by simp [AV.erase, AV.unview, locV, hnone]; done)) | fail "no end")
            · have hk' : (0 : Int) < (n : Int) := by omega
              by_cases hkz : k = 0
              · subst hkz
                (simp (config := { maxSteps := 1000000 }) [g1', g2', w1, w2, w3, w4, w5, hlt', hlt2])
                (first | exact hR _ _ (Fin_ret _ rfl rfl rfl) | exact hR _ _ (Fin_normal _ rfl rfl rfl) | exact hR _ _ (Fin_ret _ rfl rfl (by simp [AV.erase, AV.unview, locV, hnone]; done)) | exact hR _ _ (Fin_normal _ rfl rfl (by simp [AV.erase, AV.unview, locV, hnone]; done)) | fail "no end")
              · have hkz' : ¬ ((k : Int) = 0) := by omega
                (simp (config := { maxSteps := 1000000 }) [hk1, hk0, hkz', hkz, hk', hk, g1', g2', w1, w2, w3, w4, w5, hlt', hlt2])
                (first | exact hR _ _ (Fin_ret _ rfl rfl rfl) | exact hR _ _ (Fin_normal _ rfl rfl rfl) | exact hR _ _ (Fin_ret _ rfl rfl (by simp [AV.erase, AV.unview, locV, hnone]; done)) | exact hR _ _ (Fin_normal _ rfl rfl (by simp [AV.erase, AV.unview, locV, hnone]; done)) | fail "no end")
        · have hk0' : k ≠ 0 := fun h => hcond (.inl h)
          have hn0 : n = 0 := by omega
          have hk1' : k = 1 := by
            rcases hz with h | h
            · omega
            · have := head_pos hd h hk0' (by intro h; subst h; simp at hjl)
              omega
          subst hk1'
          have hnone : locP (c0 :: ds) = none := by
            cases ds with
            | nil => simp at hjl
            | cons x ds =>
              have hx := isDig_iff.1 (hd x (by simp))
              have : valD [x] = x.toNat - 48 := by show 10 * 0 + _ = _; omega
              have hx0 : x.toNat - 48 = 0 := by rw [← this]; simpa [hn0] using hn.symm
              have : x = 48 := u8_nat (n := 48) (by omega) (by omega)
              subst this
              exact locP_zero (by intro h; subst h; simp at hjl)
          subst hn0
          (simp (config := { maxSteps := 1000000 }) [g1', g2'])
          (first | exact hR _ _ (Fin_ret _ rfl rfl rfl) | exact hR _ _ (Fin_normal _ rfl rfl rfl) | exact hR _ _ (Fin_ret _ rfl rfl (by simp [AV.erase, AV.unview, locV, hnone]; done)) | exact hR _ _ (Fin_normal _ rfl rfl (by simp [AV.erase, AV.unview, locV, hnone]; done)) | fail "no end")
      · have hnone : locP (c0 :: ds) = none := locP_bad2 (List.getElem_mem hjl) (by
          intro h
          rw [isDig_iff] at h
          have := (hasc (by omega)).1
          exact hdig (by omega))
        by_cases g1 : 48 ≤ c
        · have g1' : (48 : Int) ≤ (c : Int) := by omega
          have g2' : ¬ ((c : Int) ≤ 57) := by omega
          (simp (config := { maxSteps := 1000000 }) [hk1, hk0, g1', g2'])
          (first | exact hR _ _ (Fin_ret _ rfl rfl rfl) | exact hR _ _ (Fin_normal _ rfl rfl rfl) | exact hR _ _ (Fin_ret _ rfl rfl (by simp [AV.erase, AV.unview, locV, hnone]; done)) | exact hR _ _ (Fin_normal _ rfl rfl (by simp [AV.erase, AV.unview, locV, hnone]; done)) | fail "no end")
        · have g1' : ¬ ((48 : Int) ≤ (c : Int)) := by omega
          (simp (config := { maxSteps := 1000000 }) [hk1, hk0, g1'])
          (first | exact hR _ _ (Fin_ret _ rfl rfl rfl) | exact hR _ _ (Fin_normal _ rfl rfl rfl) | exact hR _ _ (Fin_ret _ rfl rfl (by simp [AV.erase, AV.unview, locV, hnone]; done)) | exact hR _ _ (Fin_normal _ rfl rfl (by simp [AV.erase, AV.unview, locV, hnone]; done)) | fail "no end")
  · (simp (config := { maxSteps := 1000000 }) [])
    have hje : j = s.length := by omega
    subst hje
    cases s with
    | nil =>
      (simp (config := { maxSteps := 1000000 }) [])
      (first | exact hR _ _ (Fin_ret _ rfl rfl rfl) | exact hR _ _ (Fin_normal _ rfl rfl rfl) | exact hR _ _ (Fin_ret _ rfl rfl (by simp [AV.erase, AV.unview, locV, locP]; done)) | exact hR _ _ (Fin_normal _ rfl rfl (by simp [AV.erase, AV.unview, locV, locP]; done)) | fail "no end")
    | cons c0 ds =>
      rcases hpre with hpre | ⟨c1, ds1, he, hc0, hd, hv, hz⟩
      · simp at hpre
      injection he with he1 he2
      subst he1; subst he2
      simp only [List.length_cons, Nat.add_sub_cancel, List.take_length] at hd hv hz
      have hnI : numI (c0 :: ds) (ds.length + 1) = valD ds := by unfold numI; simp
      have htI : tagI (c0 :: ds) (ds.length + 1) = (c0.toNat : Int) := rfl
      cases ds with
      | nil =>
        have hnone := locP_one c0
        (simp (config := { maxSteps := 1000000 }) [])
        (first | exact hR _ _ (Fin_ret _ rfl rfl rfl) | exact hR _ _ (Fin_normal _ rfl rfl rfl) | exact hR _ _ (Fin_ret _ rfl rfl (by simp [AV.erase, AV.unview, locV, hnone]; done)) | exact hR _ _ (Fin_normal _ rfl rfl (by simp [AV.erase, AV.unview, locV, hnone]; done)) | fail "no end")
      | cons x ds =>
        have hsome : locP (c0 :: x :: ds) = some (c0, valD (x :: ds)) := by
          rw [locP_cons, if_pos ⟨hc0, by simp, hd, hz, hv⟩]
        have h0 : ¬ ((ds.length : Int) + 1 = 0) := by omega
        obtain ⟨n, hn⟩ : ∃ n, n = valD (x :: ds) := ⟨_, rfl⟩
        simp only [List.length_cons] at hnI htI ⊢
        rw [← hn] at hnI hsome hv
        rw [hnI, htI]
        rcases hc0 with rfl | rfl
        · have e114 : ((114 : UInt8).toNat : Int) = 114 := rfl
          rw [e114]
          (simp (config := { maxSteps := 1000000 }) [h0])
          (refine AWcall_det (location_Reg_calls A (n : Int) (by omega) (by omega)) (by rfl) (by rfl) ?_)
          (simp (config := { maxSteps := 1000000 }) [])
          (first | exact hR _ _ (Fin_ret _ rfl rfl rfl) | exact hR _ _ (Fin_normal _ rfl rfl rfl) | exact hR _ _ (Fin_ret _ rfl rfl (by simp [AV.erase, AV.unview, locV, locN, hsome]; done)) | exact hR _ _ (Fin_normal _ rfl rfl (by simp [AV.erase, AV.unview, locV, locN, hsome]; done)) | fail "no end")
        · have e115 : ((115 : UInt8).toNat : Int) = 115 := rfl
          rw [e115]
          (simp (config := { maxSteps := 1000000 }) [h0])
          (refine AWcall_det (location_Slot_calls A (n : Int) (by omega) (by omega)) (by rfl) (by rfl) ?_)
          (simp (config := { maxSteps := 1000000 }) [])
          (first | exact hR _ _ (Fin_ret _ rfl rfl rfl) | exact hR _ _ (Fin_normal _ rfl rfl rfl) | exact hR _ _ (Fin_ret _ rfl rfl (by simp [AV.erase, AV.unview, locV, locN, hsome]; done)) | exact hR _ _ (Fin_normal _ rfl rfl (by simp [AV.erase, AV.unview, locV, locN, hsome]; done)) | fail "no end")
end
end Go.AE

/- Locations: Text; the reference's numerals, texts and Parse. -/
set_option linter.unusedVariables false
namespace Go.AE
open Go
/-- What is asked of strconv.Itoa, where the package variable that it reads lies in block 0. -/
structure ItoaOk (P : Program) (p : Nums) (ob : Obj) : Prop where
  itoa : ∀ n : Int, -9223372036854775808 ≤ n → n ≤ 9223372036854775807 → CallsTo P p.strconv_Itoa [AI n] [.glob 0 ob] fun o H' => o = .ret (.d (.str (Lib.itoa n))) ∧ H' = [.glob 0 ob]
def textN (k : Nat) : List UInt8 := (if k % 2 = 1 then 115 else 114) :: Lib.decDigits (k / 2)
theorem dec_len {u : Nat} (h : u < 1099511627776) : (Lib.decDigits u).length ≤ 13 := okD_len (okD_dec h)
theorem tmod2_nat (k : Nat) : ((k : Int)).tmod 2 = ((k % 2 : Nat) : Int) := rfl
theorem tmod10_nat (k : Nat) : ((k : Int)).tmod 10 = ((k % 10 : Nat) : Int) := rfl
theorem tdiv10_nat (k : Nat) : ((k : Int)).tdiv 10 = ((k / 10 : Nat) : Int) := rfl
theorem digit_piece : ∀ d, d < 10 → (List.drop d (List.take (d + 1) [48, 49, 50, 51, 52, 53, 54, 55, 56, 57])) = [UInt8.ofNat (48 + d)] := by decide
theorem digit_piece2 : ∀ d, d < 10 → (List.drop d (48 :: List.take d [49, 50, 51, 52, 53, 54, 55, 56, 57])) = [UInt8.ofNat (48 + d)] := by decide
theorem valD_ub {ds : List UInt8} (hd : ∀ c ∈ ds, isDig c = true) : valD ds < 10 ^ ds.length := by
  induction ds using snoc_rec with
  | h0 => decide
  | h1 ds c ih =>
    have h := ih fun c hc => hd c (by simp only [List.mem_append]; exact .inl hc)
    have hc := isDig_iff.1 (hd c (by simp))
    rw [valD_snoc, List.length_append, List.length_singleton, Nat.pow_succ]; omega
section
theorem location_Text_calls {P : Program} {p : Nums} (A : All P p) (ob : Obj) (T : ItoaOk P p ob) (k : Nat) (hk : k < 2199023255552) : CallsTo P p.location_Text [AI (k : Int)] [.glob 0 ob] fun o H' => o = .ret (.d (.str (textN k))) ∧ H' = [.glob 0 ob] := by
  refine A.location_Text.run rfl fun R hR => ?_
  (simp (config := { maxSteps := 1000000 }) [ic_location_Text])
  have h1 := location_IsSlot_calls A (k : Int)
  have h2 := location_Index_calls A (k : Int) (by omega) (by omega)
  have h3 := T.itoa ((k / 2 : Nat) : Int) (by omega) (by omega)
  have hl := dec_len (u := k / 2) (by omega)
  rw [tmod2_nat] at h1
  rw [tdiv2_nat] at h2
  rw [Lib.itoa_nonneg] at h3
  obtain ⟨u, hu⟩ : ∃ u, u = k / 2 := ⟨_, rfl⟩
  obtain ⟨D, hD⟩ : ∃ D, D = Lib.decDigits (k / 2) := ⟨_, rfl⟩
  rw [← hu] at h2 h3
  rw [hu, ← hD, ← hu] at h3
  rw [← hD] at hl
  (refine AWcall_det h1 (by rfl) (by rfl) ?_)
  by_cases hm : k % 2 = 1
  · have hm' : (((k % 2 : Nat) : Int) == 1) = true := by rw [hm]; rfl
    rw [hm']
    have ht : textN k = 115 :: D := by unfold textN; rw [if_pos hm, hD]
    (simp (config := { maxSteps := 1000000 }) [])
    (refine AWcall_det h2 (by rfl) (by rfl) ?_)
    (simp (config := { maxSteps := 1000000 }) [])
    refine AWcall_loc [0] h3 (by decide) (by rfl) (by rfl) (by rfl) (by rfl) (by rfl) (by rfl) ?_
    have hle : D.length + 1 ≤ 9223372036854775807 := by omega
    (simp (config := { maxSteps := 1000000 }) [hle, Nat.add_comm])
    exact hR _ _ (Fin_wk' _ (.d (.str (115 :: D))) [.glob 0 ob] rfl (by (refine Wk.of ?_ ?_ (by simp) <;> repeat' (first | exact True.intro | exact ⟨_, rfl, wkt_same rfl⟩ | exact ⟨_, rfl, wkt_erase rfl⟩ | exact ⟨_, rfl, .inl .nild⟩ | exact ⟨_, rfl, .inl .nile⟩ | exact ⟨_, rfl, wkt_nils⟩ | exact wkt_same rfl | exact wkt_erase rfl | exact .inl .nild | exact .inl .nile | exact wkt_nils | exact WkB.same rfl | exact WkB_rows | exact WkB_nil | exact .dead _ | exact .iter _ _ | exact .glob _ _ | refine WkB_cons ?_ ?_ | refine And.intro ?_ ?_))) ⟨by rw [ht], rfl⟩)
  · have hm' : (((k % 2 : Nat) : Int) == 1) = false := by
      have : k % 2 = 0 := by omega
      rw [this]; rfl
    rw [hm']
    have ht : textN k = 114 :: D := by unfold textN; rw [if_neg hm, hD]
    (simp (config := { maxSteps := 1000000 }) [])
    (refine AWcall_det h2 (by rfl) (by rfl) ?_)
    (simp (config := { maxSteps := 1000000 }) [])
    refine AWcall_loc [0] h3 (by decide) (by rfl) (by rfl) (by rfl) (by rfl) (by rfl) (by rfl) ?_
    have hle : D.length + 1 ≤ 9223372036854775807 := by omega
    (simp (config := { maxSteps := 1000000 }) [hle, Nat.add_comm])
    exact hR _ _ (Fin_wk' _ (.d (.str (114 :: D))) [.glob 0 ob] rfl (by (refine Wk.of ?_ ?_ (by simp) <;> repeat' (first | exact True.intro | exact ⟨_, rfl, wkt_same rfl⟩ | exact ⟨_, rfl, wkt_erase rfl⟩ | exact ⟨_, rfl, .inl .nild⟩ | exact ⟨_, rfl, .inl .nile⟩ | exact ⟨_, rfl, wkt_nils⟩ | exact wkt_same rfl | exact wkt_erase rfl | exact .inl .nild | exact .inl .nile | exact wkt_nils | exact WkB.same rfl | exact WkB_rows | exact WkB_nil | exact .dead _ | exact .iter _ _ | exact .glob _ _ | refine WkB_cons ?_ ?_ | refine And.intro ?_ ?_))) ⟨by rw [ht], rfl⟩)
theorem ref04_Decimal_calls {P : Program} {p : Nums} (A : All P p) (u : Nat) : u < 1099511627776 → CallsTo P p.ref04_Decimal [AI (u : Int)] [] fun o _ => o = .ret (.d (.str (Lib.decDigits u))) := by
  induction u using Nat.strongRecOn with
  | _ u ih =>
    intro hu
    refine A.ref04_Decimal.run rfl fun R hR => ?_
    have hm : u % 10 < 10 := Nat.mod_lt _ (by omega)
    have hp := digit_piece (u % 10) hm
    have hp2 := digit_piece2 (u % 10) hm
    obtain ⟨m, hmm⟩ : ∃ m, m = u % 10 := ⟨_, rfl⟩
    have w1 : IntKind.i64.wrap ((m : Int) + 1) = ((m + 1 : Nat) : Int) := wrap_succ (by omega)
    have hmt : (u : Int).tmod 10 = (m : Int) := by rw [tmod10_nat, hmm]
    rw [← hmm] at hp hp2 hm
    have b1 : m + 1 ≤ 10 := hm
    have b2 : (m : Int) ≤ (m : Int) + 1 := by omega
    have b3 : (m : Int) + 1 ≤ 10 := by omega
    (simp (config := { maxSteps := 1000000 }) [ic_ref04_Decimal, hmt, w1, b1, b2, b3, hp, hp2])
    by_cases h : u < 10
    · have hd := Lib.decDigits_one h
      have e : m = u := by omega
      have h' : (u : Int) < 10 := by omega
      (simp (config := { maxSteps := 1000000 }) [h', h])
      (first | exact hR _ _ (Fin_ret _ rfl rfl rfl) | exact hR _ _ (Fin_normal _ rfl rfl rfl) | exact hR _ _ (Fin_ret _ rfl rfl (by simp [AV.erase, AV.unview, hd, e]; done)) | exact hR _ _ (Fin_normal _ rfl rfl (by simp [AV.erase, AV.unview, hd, e]; done)) | fail "no end")
    · have hd : Lib.decDigits u = Lib.decDigits (u / 10) ++ [UInt8.ofNat (48 + m)] := by rw [Lib.decDigits, dif_neg h, hmm]
      have hi := ih (u / 10) (by omega) (by omega)
      have hl := dec_len (u := u / 10) (by omega)
      have hq : (u : Int).tdiv 10 = ((u / 10 : Nat) : Int) := rfl
      obtain ⟨v, hv⟩ : ∃ v, v = u / 10 := ⟨_, rfl⟩
      rw [← hv] at hi hl hd hq
      have w2 : IntKind.i64.wrap (v : Int) = (v : Int) := wrap_i64 (by omega) (by omega)
      have h' : ¬ ((u : Int) < 10) := by omega
      (simp (config := { maxSteps := 1000000 }) [h', h, hq, w2])
      (refine AWcall_det hi (by rfl) (by rfl) ?_)
      have hle : (Lib.decDigits v).length + 1 ≤ 9223372036854775807 := by omega
      have hle3 : (Lib.decDigits v).length + (min m 9 + 1 - m) ≤ 9223372036854775807 := by omega
      (simp (config := { maxSteps := 1000000 }) [hle, hle3, hp2])
      (first | exact hR _ _ (Fin_ret _ rfl rfl rfl) | exact hR _ _ (Fin_normal _ rfl rfl rfl) | exact hR _ _ (Fin_ret _ rfl rfl (by simp [AV.erase, AV.unview, hd]; done)) | exact hR _ _ (Fin_normal _ rfl rfl (by simp [AV.erase, AV.unview, hd]; done)) | fail "no end")
theorem ref04_Text_calls {P : Program} {p : Nums} (A : All P p) (k : Nat) (hk : k < 2199023255552) : CallsTo P p.ref04_Text [AI (k : Int)] [] fun o _ => o = .ret (.d (.str (textN k))) := by
  refine A.ref04_Text.run rfl fun R hR => ?_
  have h2 := ref04_Decimal_calls A (k / 2) (by omega)
  have hl := dec_len (u := k / 2) (by omega)
  have hq : (k : Int).tdiv 2 = ((k / 2 : Nat) : Int) := rfl
  obtain ⟨u, hu⟩ : ∃ u, u = k / 2 := ⟨_, rfl⟩
  have ht0 : textN k = (if k % 2 = 1 then 115 else 114) :: Lib.decDigits u := by rw [hu]; rfl
  rw [← hu] at h2 hl hq
  have w2 : IntKind.i64.wrap (u : Int) = (u : Int) := wrap_i64 (by omega) (by omega)
  obtain ⟨D, hD⟩ : ∃ D, D = Lib.decDigits u := ⟨_, rfl⟩
  rw [← hD] at h2 hl ht0
  have hle : 1 + D.length ≤ 9223372036854775807 := by omega
  have hle2 : D.length + 1 ≤ 9223372036854775807 := by omega
  by_cases hm : k % 2 = 1
  · have hmt : (k : Int).tmod 2 = 1 := by rw [tmod2_nat, hm]; rfl
    rw [if_pos hm] at ht0
    (simp (config := { maxSteps := 1000000 }) [ic_ref04_Text, hmt, hq, w2])
    (refine AWcall_det h2 (by rfl) (by rfl) ?_)
    (simp (config := { maxSteps := 1000000 }) [hle, hle2])
    (first | exact hR _ _ (Fin_ret _ rfl rfl rfl) | exact hR _ _ (Fin_normal _ rfl rfl rfl) | exact hR _ _ (Fin_ret _ rfl rfl (by simp [AV.erase, AV.unview, ht0]; done)) | exact hR _ _ (Fin_normal _ rfl rfl (by simp [AV.erase, AV.unview, ht0]; done)) | fail "no end")
  · have hmt : (k : Int).tmod 2 = 0 := by rw [tmod2_nat, show k % 2 = 0 by omega]; rfl
    rw [if_neg hm] at ht0
    (simp (config := { maxSteps := 1000000 }) [ic_ref04_Text, hmt, hq, w2])
    (refine AWcall_det h2 (by rfl) (by rfl) ?_)
    (simp (config := { maxSteps := 1000000 }) [hle, hle2])
    (first | exact hR _ _ (Fin_ret _ rfl rfl rfl) | exact hR _ _ (Fin_normal _ rfl rfl rfl) | exact hR _ _ (Fin_ret _ rfl rfl (by simp [AV.erase, AV.unview, ht0]; done)) | exact hR _ _ (Fin_normal _ rfl rfl (by simp [AV.erase, AV.unview, ht0]; done)) | fail "no end")
end
end Go.AE

/- Locations: the reference's Number and Parse. -/
set_option linter.unusedVariables false
namespace Go.AE
open Go
def numV (ds : List UInt8) : AV := if okD ds then .tup [AI ((valD ds : Nat) : Int), AB true] else .tup [AI 0, AB false]
theorem numV_no {ds : List UInt8} (h : ¬ okD ds) : numV ds = .tup [AI 0, AB false] := by unfold numV; rw [if_neg h]
theorem numV_ok {ds : List UInt8} (h : okD ds) : numV ds = .tup [AI ((valD ds : Nat) : Int), AB true] := by unfold numV; rw [if_pos h]
section
set_option maxHeartbeats 1000000 in
theorem ref04_Number_calls {P : Program} {p : Nums} (A : All P p) (ds : List UInt8) (hl : ds.length < 1000000) : CallsTo P p.ref04_Number [.d (.str ds)] [] fun o _ => o = .ret (numV ds) := by
  refine A.ref04_Number.run rfl fun R hR => ?_
  (simp (config := { maxSteps := 1000000 }) [ic_ref04_Number])
  cases ds with
  | nil =>
    have hn := numV_no (ds := []) (fun h => h.1 rfl)
    (simp (config := { maxSteps := 1000000 }) [])
    (first | exact hR _ _ (Fin_ret _ rfl rfl rfl) | exact hR _ _ (Fin_normal _ rfl rfl rfl) | exact hR _ _ (Fin_ret _ rfl rfl (by simp [AV.erase, AV.unview, hn]; done)) | exact hR _ _ (Fin_normal _ rfl rfl (by simp [AV.erase, AV.unview, hn]; done)) | fail "no end")
  | cons x ds =>
    have z0 : ¬ ((ds.length : Int) + 1 = 0) := by omega
    by_cases h13 : 13 < ds.length + 1
    · have hn := numV_no (ds := x :: ds) (fun h => by have := okD_len h; simp only [List.length_cons] at this; omega)
      have h13' : (13 : Int) < (ds.length : Int) + 1 := by omega
      (simp (config := { maxSteps := 1000000 }) [z0, h13, h13'])
      (first | exact hR _ _ (Fin_ret _ rfl rfl rfl) | exact hR _ _ (Fin_normal _ rfl rfl rfl) | exact hR _ _ (Fin_ret _ rfl rfl (by simp [AV.erase, AV.unview, hn]; done)) | exact hR _ _ (Fin_normal _ rfl rfl (by simp [AV.erase, AV.unview, hn]; done)) | fail "no end")
    have h13' : ¬ ((13 : Int) < (ds.length : Int) + 1) := by omega
    by_cases h0 : ds ≠ [] ∧ x = 48
    · have hn := numV_no (ds := x :: ds) (fun h => by
        rcases h.2.2.1 with h1 | h1
        · have : ds = [] := by cases ds with
            | nil => rfl
            | cons => simp at h1
          exact h0.1 this
        · exact h1 (by rw [h0.2]; rfl))
      have hd : 0 < ds.length := by
        cases ds with
        | nil => exact absurd rfl h0.1
        | cons => simp
      have hd' : (1 : Int) < (ds.length : Int) + 1 := by omega
      obtain ⟨_, rfl⟩ := h0
      (simp (config := { maxSteps := 1000000 }) [z0, h13, h13', hd', hd])
      (first | exact hR _ _ (Fin_ret _ rfl rfl rfl) | exact hR _ _ (Fin_normal _ rfl rfl rfl) | exact hR _ _ (Fin_ret _ rfl rfl (by simp [AV.erase, AV.unview, hn]; done)) | exact hR _ _ (Fin_normal _ rfl rfl (by simp [AV.erase, AV.unview, hn]; done)) | fail "no end")
    have hL13 : ds.length ≤ 12 := by omega
    obtain ⟨L, hL⟩ : ∃ L, L = x :: ds := ⟨_, rfl⟩
    have hLl : L.length ≤ 13 := by rw [hL]; simp only [List.length_cons]; omega
    by_cases hd : ds = []
    · have hh : L.length ≤ 1 ∨ L.head? ≠ some 48 := by left; rw [hL, hd]; simp
      subst hd
      rw [← hL] at hR
      (simp (config := { maxSteps := 1000000 }) [])
      refine AW_loop (fun k : Nat => ⟨[(5, AI (k : Int)), (4, AI ((valD (L.take k) : Nat) : Int)), (3, AB false), (2, AI 0), (0, .d (.str L))], []⟩) (fun k => k ≤ L.length ∧ ∀ c ∈ L.take k, isDig c = true) (fun k => L.length - k) 0 ⟨Nat.zero_le _, by simp⟩ (by simp only [List.take_zero, valD_nil]; rw [hL]; (refine Wk.of ?_ ?_ (by simp) <;> repeat' (first | exact True.intro | exact ⟨_, rfl, wkt_same rfl⟩ | exact ⟨_, rfl, wkt_erase rfl⟩ | exact ⟨_, rfl, .inl .nild⟩ | exact ⟨_, rfl, .inl .nile⟩ | exact ⟨_, rfl, wkt_nils⟩ | exact wkt_same rfl | exact wkt_erase rfl | exact .inl .nild | exact .inl .nile | exact wkt_nils | exact WkB.same rfl | exact WkB_rows | exact WkB_nil | exact .dead _ | exact .iter _ _ | exact .glob _ _ | refine WkB_cons ?_ ?_ | refine And.intro ?_ ?_))) ?_
      rintro k ⟨hk, hd⟩ N hN
      (simp (config := { maxSteps := 1000000 }) [])
      ((first | refine AW_cond_split _ (by rfl) (fun h7 => ?_) (fun h7 => ?_) | refine AWop_split _ (by rfl) (fun h7 => ?_) (fun h7 => ?_)) <;> (try simp only [decide_eq_true_eq, decide_eq_false_iff_not, Bool.not_eq_true', Bool.not_eq_false', Bool.and_eq_true, Bool.or_eq_true, beq_iff_eq, bne_iff_ne, ne_eq, beq_eq_false_iff_ne, bne_eq_false_iff_eq] at h7))
      · have hkl : k < L.length := by omega
        have hb : L[k]? = some L[k] := List.getElem?_eq_getElem hkl
        have hsn := take_snoc hkl
        have hvs : valD (L.take (k + 1)) = 10 * valD (L.take k) + (L[k].toNat - 48) := by rw [hsn, valD_snoc]
        have hub := valD_ub hd
        have hub2 : 10 ^ (L.take k).length ≤ 10 ^ 13 := Nat.pow_le_pow_right (by omega) (by rw [List.length_take]; omega)
        have w5 := wrap_succ (k := k) (by omega)
        obtain ⟨n, hn⟩ : ∃ n, n = valD (L.take k) := ⟨_, rfl⟩
        obtain ⟨c, hc⟩ : ∃ c, c = L[k].toNat := ⟨_, rfl⟩
        have hc256 : c < 256 := by rw [hc]; exact L[k].toNat_lt
        rw [← hn] at hub hvs ⊢
        rw [← hc] at hvs
        by_cases g1 : c < 48
        · have hno : numV L = .tup [AI 0, AB false] := numV_no fun h => by
            have := isDig_iff.1 (h.2.1 L[k] (List.getElem_mem hkl))
            omega
          rw [hc] at g1
          have g1' : ((L[k].toNat : Nat) : Int) < 48 := by omega
          (simp (config := { maxSteps := 1000000 }) [h7, hkl, hb, g1', g1])
          (first | exact hR _ _ (Fin_ret _ rfl rfl rfl) | exact hR _ _ (Fin_normal _ rfl rfl rfl) | exact hR _ _ (Fin_ret _ rfl rfl (by simp [AV.erase, AV.unview, hno]; done)) | exact hR _ _ (Fin_normal _ rfl rfl (by simp [AV.erase, AV.unview, hno]; done)) | fail "no end")
        · by_cases g2 : 57 < c
          · have hno : numV L = .tup [AI 0, AB false] := numV_no fun h => by
              have := isDig_iff.1 (h.2.1 L[k] (List.getElem_mem hkl))
              omega
            rw [hc] at g1 g2
            have g1' : ¬ (((L[k].toNat : Nat) : Int) < 48) := by omega
            have g2' : (57 : Int) < ((L[k].toNat : Nat) : Int) := by omega
            (simp (config := { maxSteps := 1000000 }) [h7, hkl, hb, g1', g2', g1, g2])
            (first | exact hR _ _ (Fin_ret _ rfl rfl rfl) | exact hR _ _ (Fin_normal _ rfl rfl rfl) | exact hR _ _ (Fin_ret _ rfl rfl (by simp [AV.erase, AV.unview, hno]; done)) | exact hR _ _ (Fin_normal _ rfl rfl (by simp [AV.erase, AV.unview, hno]; done)) | fail "no end")
          · have hdk : isDig L[k] = true := by rw [isDig_iff]; omega
            have w1 : IntKind.i64.wrap (10 * (n : Int)) = 10 * (n : Int) := wrap_i64 (by omega) (by omega)
            have w2 : IntKind.i64.wrap ((L[k].toNat : Nat) : Int) = (L[k].toNat : Int) := wrap_i64 (by omega) (by omega)
            have w3 : IntKind.i64.wrap (10 * (n : Int) + ((L[k].toNat : Nat) : Int)) = 10 * (n : Int) + (L[k].toNat : Int) := wrap_i64 (by omega) (by omega)
            have w4 : IntKind.i64.wrap (10 * (n : Int) + ((L[k].toNat : Nat) : Int) - 48) = ((valD (L.take (k + 1)) : Nat) : Int) := by
              rw [wrap_i64 (by omega) (by omega), hvs]; omega
            have g1' : ¬ (((L[k].toNat : Nat) : Int) < 48) := by omega
            have g2' : ¬ ((57 : Int) < ((L[k].toNat : Nat) : Int)) := by omega
            have g3 : ¬ (L[k].toNat < 48) := by omega
            have g4 : ¬ (57 < L[k].toNat) := by omega
            obtain ⟨m, hm⟩ : ∃ m, m = valD (L.take (k + 1)) := ⟨_, rfl⟩
            have hN' : ∀ st', Wk 0 st' ⟨[(5, AI ((k + 1 : Nat) : Int)), (4, AI (m : Int)), (3, AB false), (2, AI 0), (0, .d (.str L))], []⟩ → N st' := fun st' h => by
              refine hN st' (k + 1) ⟨hkl, ?_⟩ (by rw [← hm]; exact h) (by omega)
              intro c hc
              rw [hsn, List.mem_append, List.mem_singleton] at hc
              rcases hc with hc | rfl
              · exact hd c hc
              · exact hdk
            rw [← hm] at w4
            (simp (config := { maxSteps := 1000000 }) [h7, hkl, hb, g1', g2', g3, g4, w1, w2, w3, w4, w5])
            exact hN' _ (by (refine Wk.of ?_ ?_ (by simp) <;> repeat' (first | exact True.intro | exact ⟨_, rfl, wkt_same rfl⟩ | exact ⟨_, rfl, wkt_erase rfl⟩ | exact ⟨_, rfl, .inl .nild⟩ | exact ⟨_, rfl, .inl .nile⟩ | exact ⟨_, rfl, wkt_nils⟩ | exact wkt_same rfl | exact wkt_erase rfl | exact .inl .nild | exact .inl .nile | exact wkt_nils | exact WkB.same rfl | exact WkB_rows | exact WkB_nil | exact .dead _ | exact .iter _ _ | exact .glob _ _ | refine WkB_cons ?_ ?_ | refine And.intro ?_ ?_)))
      · clear hN
        have hk' : k = L.length := by omega
        subst hk'
        rw [List.take_length] at hd ⊢
        have hub := valD_ub hd
        have hub2 : 10 ^ L.length ≤ 10 ^ 13 := Nat.pow_le_pow_right (by omega) (by omega)
        obtain ⟨n, hn⟩ : ∃ n, n = valD L := ⟨_, rfl⟩
        by_cases hbig : valD L < 1099511627776
        · have hyes : numV L = .tup [AI (n : Int), AB true] := by rw [hn]; exact numV_ok ⟨by rw [hL]; simp, hd, hh, hbig⟩
          rw [← hn] at hbig ⊢
          have hb1 : ¬ ((1099511627776 : Int) ≤ (n : Int)) := by omega
          (simp (config := { maxSteps := 1000000 }) [hb1, hbig])
          (first | exact hR _ _ (Fin_ret _ rfl rfl rfl) | exact hR _ _ (Fin_normal _ rfl rfl rfl) | exact hR _ _ (Fin_ret _ rfl rfl (by simp [AV.erase, AV.unview, hyes]; done)) | exact hR _ _ (Fin_normal _ rfl rfl (by simp [AV.erase, AV.unview, hyes]; done)) | fail "no end")
        · have hno : numV L = .tup [AI 0, AB false] := numV_no fun h => hbig h.2.2.2
          rw [← hn] at hbig ⊢
          have hb1 : (1099511627776 : Int) ≤ (n : Int) := by omega
          have hb2 : 1099511627776 ≤ n := by omega
          (simp (config := { maxSteps := 1000000 }) [hb1, hb2])
          (first | exact hR _ _ (Fin_ret _ rfl rfl rfl) | exact hR _ _ (Fin_normal _ rfl rfl rfl) | exact hR _ _ (Fin_ret _ rfl rfl (by simp [AV.erase, AV.unview, hno]; done)) | exact hR _ _ (Fin_normal _ rfl rfl (by simp [AV.erase, AV.unview, hno]; done)) | fail "no end")
    · have hh : L.length ≤ 1 ∨ L.head? ≠ some 48 := by
        right; rw [hL]; intro h; simp at h; exact h0 ⟨hd, h⟩
      have hx : ¬ (x.toNat = 48) := fun h => h0 ⟨hd, u8_nat (n := 48) h (by omega)⟩
      have hx' : ¬ ((x.toNat : Int) = 48) := by omega
      have hd1 : 0 < ds.length := by
        cases ds with
        | nil => exact absurd rfl hd
        | cons => simp
      have hd' : (1 : Int) < (ds.length : Int) + 1 := by omega
      rw [← hL] at hR
      (simp (config := { maxSteps := 1000000 }) [z0, h13, h13', hd', hd1, hx', hx])
      refine AW_loop (fun k : Nat => ⟨[(5, AI (k : Int)), (4, AI ((valD (L.take k) : Nat) : Int)), (3, AB false), (2, AI 0), (0, .d (.str L))], []⟩) (fun k => k ≤ L.length ∧ ∀ c ∈ L.take k, isDig c = true) (fun k => L.length - k) 0 ⟨Nat.zero_le _, by simp⟩ (by simp only [List.take_zero, valD_nil]; rw [hL]; (refine Wk.of ?_ ?_ (by simp) <;> repeat' (first | exact True.intro | exact ⟨_, rfl, wkt_same rfl⟩ | exact ⟨_, rfl, wkt_erase rfl⟩ | exact ⟨_, rfl, .inl .nild⟩ | exact ⟨_, rfl, .inl .nile⟩ | exact ⟨_, rfl, wkt_nils⟩ | exact wkt_same rfl | exact wkt_erase rfl | exact .inl .nild | exact .inl .nile | exact wkt_nils | exact WkB.same rfl | exact WkB_rows | exact WkB_nil | exact .dead _ | exact .iter _ _ | exact .glob _ _ | refine WkB_cons ?_ ?_ | refine And.intro ?_ ?_))) ?_
      rintro k ⟨hk, hd⟩ N hN
      (simp (config := { maxSteps := 1000000 }) [])
      ((first | refine AW_cond_split _ (by rfl) (fun h7 => ?_) (fun h7 => ?_) | refine AWop_split _ (by rfl) (fun h7 => ?_) (fun h7 => ?_)) <;> (try simp only [decide_eq_true_eq, decide_eq_false_iff_not, Bool.not_eq_true', Bool.not_eq_false', Bool.and_eq_true, Bool.or_eq_true, beq_iff_eq, bne_iff_ne, ne_eq, beq_eq_false_iff_ne, bne_eq_false_iff_eq] at h7))
      · have hkl : k < L.length := by omega
        have hb : L[k]? = some L[k] := List.getElem?_eq_getElem hkl
        have hsn := take_snoc hkl
        have hvs : valD (L.take (k + 1)) = 10 * valD (L.take k) + (L[k].toNat - 48) := by rw [hsn, valD_snoc]
        have hub := valD_ub hd
        have hub2 : 10 ^ (L.take k).length ≤ 10 ^ 13 := Nat.pow_le_pow_right (by omega) (by rw [List.length_take]; omega)
        have w5 := wrap_succ (k := k) (by omega)
        obtain ⟨n, hn⟩ : ∃ n, n = valD (L.take k) := ⟨_, rfl⟩
        obtain ⟨c, hc⟩ : ∃ c, c = L[k].toNat := ⟨_, rfl⟩
        have hc256 : c < 256 := by rw [hc]; exact L[k].toNat_lt
        rw [← hn] at hub hvs ⊢
        rw [← hc] at hvs
        by_cases g1 : c < 48
        · have hno : numV L = .tup [AI 0, AB false] := numV_no fun h => by
            have := isDig_iff.1 (h.2.1 L[k] (List.getElem_mem hkl))
            omega
          rw [hc] at g1
          have g1' : ((L[k].toNat : Nat) : Int) < 48 := by omega
          (simp (config := { maxSteps := 1000000 }) [h7, hkl, hb, g1', g1])
          (first | exact hR _ _ (Fin_ret _ rfl rfl rfl) | exact hR _ _ (Fin_normal _ rfl rfl rfl) | exact hR _ _ (Fin_ret _ rfl rfl (by simp [AV.erase, AV.unview, hno]; done)) | exact hR _ _ (Fin_normal _ rfl rfl (by simp [AV.erase, AV.unview, hno]; done)) | fail "no end")
        · by_cases g2 : 57 < c
          · have hno : numV L = .tup [AI 0, AB false] := numV_no fun h => by
              have := isDig_iff.1 (h.2.1 L[k] (List.getElem_mem hkl))
              omega
            rw [hc] at g1 g2
            have g1' : ¬ (((L[k].toNat : Nat) : Int) < 48) := by omega
            have g2' : (57 : Int) < ((L[k].toNat : Nat) : Int) := by omega
            (simp (config := { maxSteps := 1000000 }) [h7, hkl, hb, g1', g2', g1, g2])
            (first | exact hR _ _ (Fin_ret _ rfl rfl rfl) | exact hR _ _ (Fin_normal _ rfl rfl rfl) | exact hR _ _ (Fin_ret _ rfl rfl (by simp [AV.erase, AV.unview, hno]; done)) | exact hR _ _ (Fin_normal _ rfl rfl (by simp [AV.erase, AV.unview, hno]; done)) | fail "no end")
          · have hdk : isDig L[k] = true := by rw [isDig_iff]; omega
            have w1 : IntKind.i64.wrap (10 * (n : Int)) = 10 * (n : Int) := wrap_i64 (by omega) (by omega)
            have w2 : IntKind.i64.wrap ((L[k].toNat : Nat) : Int) = (L[k].toNat : Int) := wrap_i64 (by omega) (by omega)
            have w3 : IntKind.i64.wrap (10 * (n : Int) + ((L[k].toNat : Nat) : Int)) = 10 * (n : Int) + (L[k].toNat : Int) := wrap_i64 (by omega) (by omega)
            have w4 : IntKind.i64.wrap (10 * (n : Int) + ((L[k].toNat : Nat) : Int) - 48) = ((valD (L.take (k + 1)) : Nat) : Int) := by
              rw [wrap_i64 (by omega) (by omega), hvs]; omega
            have g1' : ¬ (((L[k].toNat : Nat) : Int) < 48) := by omega
            have g2' : ¬ ((57 : Int) < ((L[k].toNat : Nat) : Int)) := by omega
            have g3 : ¬ (L[k].toNat < 48) := by omega
            have g4 : ¬ (57 < L[k].toNat) := by omega
            obtain ⟨m, hm⟩ : ∃ m, m = valD (L.take (k + 1)) := ⟨_, rfl⟩
            have hN' : ∀ st', Wk 0 st' ⟨[(5, AI ((k + 1 : Nat) : Int)), (4, AI (m : Int)), (3, AB false), (2, AI 0), (0, .d (.str L))], []⟩ → N st' := fun st' h => by
              refine hN st' (k + 1) ⟨hkl, ?_⟩ (by rw [← hm]; exact h) (by omega)
              intro c hc
              rw [hsn, List.mem_append, List.mem_singleton] at hc
              rcases hc with hc | rfl
              · exact hd c hc
              · exact hdk
            rw [← hm] at w4
            (simp (config := { maxSteps := 1000000 }) [h7, hkl, hb, g1', g2', g3, g4, w1, w2, w3, w4, w5])
            exact hN' _ (by (refine Wk.of ?_ ?_ (by simp) <;> repeat' (first | exact True.intro | exact ⟨_, rfl, wkt_same rfl⟩ | exact ⟨_, rfl, wkt_erase rfl⟩ | exact ⟨_, rfl, .inl .nild⟩ | exact ⟨_, rfl, .inl .nile⟩ | exact ⟨_, rfl, wkt_nils⟩ | exact wkt_same rfl | exact wkt_erase rfl | exact .inl .nild | exact .inl .nile | exact wkt_nils | exact WkB.same rfl | exact WkB_rows | exact WkB_nil | exact .dead _ | exact .iter _ _ | exact .glob _ _ | refine WkB_cons ?_ ?_ | refine And.intro ?_ ?_)))
      · clear hN
        have hk' : k = L.length := by omega
        subst hk'
        rw [List.take_length] at hd ⊢
        have hub := valD_ub hd
        have hub2 : 10 ^ L.length ≤ 10 ^ 13 := Nat.pow_le_pow_right (by omega) (by omega)
        obtain ⟨n, hn⟩ : ∃ n, n = valD L := ⟨_, rfl⟩
        by_cases hbig : valD L < 1099511627776
        · have hyes : numV L = .tup [AI (n : Int), AB true] := by rw [hn]; exact numV_ok ⟨by rw [hL]; simp, hd, hh, hbig⟩
          rw [← hn] at hbig ⊢
          have hb1 : ¬ ((1099511627776 : Int) ≤ (n : Int)) := by omega
          (simp (config := { maxSteps := 1000000 }) [hb1, hbig])
          (first | exact hR _ _ (Fin_ret _ rfl rfl rfl) | exact hR _ _ (Fin_normal _ rfl rfl rfl) | exact hR _ _ (Fin_ret _ rfl rfl (by simp [AV.erase, AV.unview, hyes]; done)) | exact hR _ _ (Fin_normal _ rfl rfl (by simp [AV.erase, AV.unview, hyes]; done)) | fail "no end")
        · have hno : numV L = .tup [AI 0, AB false] := numV_no fun h => hbig h.2.2.2
          rw [← hn] at hbig ⊢
          have hb1 : (1099511627776 : Int) ≤ (n : Int) := by omega
          have hb2 : 1099511627776 ≤ n := by omega
          (simp (config := { maxSteps := 1000000 }) [hb1, hb2])
          (first | exact hR _ _ (Fin_ret _ rfl rfl rfl) | exact hR _ _ (Fin_normal _ rfl rfl rfl) | exact hR _ _ (Fin_ret _ rfl rfl (by simp [AV.erase, AV.unview, hno]; done)) | exact hR _ _ (Fin_normal _ rfl rfl (by simp [AV.erase, AV.unview, hno]; done)) | fail "no end")
theorem ref04_Parse_calls {P : Program} {p : Nums} (A : All P p) (s : List UInt8) (hl : s.length < 1000000) : CallsTo P p.ref04_Parse [.d (.str s)] [] fun o _ => o = .ret (locV (locP s)) := by
  refine A.ref04_Parse.run rfl fun R hR => ?_
  (simp (config := { maxSteps := 1000000 }) [ic_ref04_Parse])
  cases s with
  | nil =>
    (simp (config := { maxSteps := 1000000 }) [])
    (first | exact hR _ _ (Fin_ret _ rfl rfl rfl) | exact hR _ _ (Fin_normal _ rfl rfl rfl) | exact hR _ _ (Fin_ret _ rfl rfl (by simp [AV.erase, AV.unview, locV, locP]; done)) | exact hR _ _ (Fin_normal _ rfl rfl (by simp [AV.erase, AV.unview, locV, locP]; done)) | fail "no end")
  | cons c ds =>
    have z0 : ¬ ((ds.length : Int) + 1 = 0) := by omega
    have z1 : (1 : Int) ≤ (ds.length : Int) + 1 := by omega
    have hnum := ref04_Number_calls A ds (by simp only [List.length_cons] at hl; omega)
    by_cases hok : okD ds
    · have hv := hok.2.2.2
      rw [numV_ok hok] at hnum
      obtain ⟨n, hn⟩ : ∃ n, n = valD ds := ⟨_, rfl⟩
      rw [← hn] at hnum hv
      have w1 : IntKind.i64.wrap (2 * (n : Int)) = 2 * (n : Int) := wrap_i64 (by omega) (by omega)
      have w2 : IntKind.i64.wrap (2 * (n : Int) + 1) = 2 * (n : Int) + 1 := wrap_i64 (by omega) (by omega)
      by_cases h1 : c = 114
      · subst h1
        have hs : locP (114 :: ds) = some (114, n) := by rw [locP_cons, if_pos ⟨.inl rfl, hok⟩, hn]
        (simp (config := { maxSteps := 1000000 }) [z0, z1])
        (refine AWcall_det hnum (by rfl) (by rfl) ?_)
        (simp (config := { maxSteps := 1000000 }) [w1])
        (first | exact hR _ _ (Fin_ret _ rfl rfl rfl) | exact hR _ _ (Fin_normal _ rfl rfl rfl) | exact hR _ _ (Fin_ret _ rfl rfl (by simp [AV.erase, AV.unview, locV, locN, hs]; done)) | exact hR _ _ (Fin_normal _ rfl rfl (by simp [AV.erase, AV.unview, locV, locN, hs]; done)) | fail "no end")
      · by_cases h2 : c = 115
        · subst h2
          have hs : locP (115 :: ds) = some (115, n) := by rw [locP_cons, if_pos ⟨.inr rfl, hok⟩, hn]
          (simp (config := { maxSteps := 1000000 }) [z0, z1])
          (refine AWcall_det hnum (by rfl) (by rfl) ?_)
          (simp (config := { maxSteps := 1000000 }) [w1, w2])
          (first | exact hR _ _ (Fin_ret _ rfl rfl rfl) | exact hR _ _ (Fin_normal _ rfl rfl rfl) | exact hR _ _ (Fin_ret _ rfl rfl (by simp [AV.erase, AV.unview, locV, locN, hs]; done)) | exact hR _ _ (Fin_normal _ rfl rfl (by simp [AV.erase, AV.unview, locV, locN, hs]; done)) | fail "no end")
        · have hs : locP (c :: ds) = none := locP_bad1 (fun h => h.elim h1 h2)
          have h1' : ¬ (c.toNat = 114) := fun h => h1 (u8_nat (n := 114) h (by omega))
          have h2' : ¬ (c.toNat = 115) := fun h => h2 (u8_nat (n := 115) h (by omega))
          have h1i : ¬ ((c.toNat : Int) = 114) := by omega
          have h2i : ¬ ((c.toNat : Int) = 115) := by omega
          (simp (config := { maxSteps := 1000000 }) [z0, h1i, h2i, h1', h2'])
          (first | exact hR _ _ (Fin_ret _ rfl rfl rfl) | exact hR _ _ (Fin_normal _ rfl rfl rfl) | exact hR _ _ (Fin_ret _ rfl rfl (by simp [AV.erase, AV.unview, locV, hs]; done)) | exact hR _ _ (Fin_normal _ rfl rfl (by simp [AV.erase, AV.unview, locV, hs]; done)) | fail "no end")
    · rw [numV_no hok] at hnum
      have hs : locP (c :: ds) = none := by rw [locP_cons, if_neg fun h => hok h.2]
      by_cases h1 : c = 114
      · subst h1
        (simp (config := { maxSteps := 1000000 }) [z0, z1])
        (refine AWcall_det hnum (by rfl) (by rfl) ?_)
        (simp (config := { maxSteps := 1000000 }) [])
        (first | exact hR _ _ (Fin_ret _ rfl rfl rfl) | exact hR _ _ (Fin_normal _ rfl rfl rfl) | exact hR _ _ (Fin_ret _ rfl rfl (by simp [AV.erase, AV.unview, locV, hs]; done)) | exact hR _ _ (Fin_normal _ rfl rfl (by simp [AV.erase, AV.unview, locV, hs]; done)) | fail "no end")
      · by_cases h2 : c = 115
        · subst h2
          (simp (config := { maxSteps := 1000000 }) [z0, z1])
          (refine AWcall_det hnum (by rfl) (by rfl) ?_)
          (simp (config := { maxSteps := 1000000 }) [])
          (first | exact hR _ _ (Fin_ret _ rfl rfl rfl) | exact hR _ _ (Fin_normal _ rfl rfl rfl) | exact hR _ _ (Fin_ret _ rfl rfl (by simp [AV.erase, AV.unview, locV, hs]; done)) | exact hR _ _ (Fin_normal _ rfl rfl (by simp [AV.erase, AV.unview, locV, hs]; done)) | fail "no end")
        · have h1' : ¬ (c.toNat = 114) := fun h => h1 (u8_nat (n := 114) h (by omega))
          have h2' : ¬ (c.toNat = 115) := fun h => h2 (u8_nat (n := 115) h (by omega))
          have h1i : ¬ ((c.toNat : Int) = 114) := by omega
          have h2i : ¬ ((c.toNat : Int) = 115) := by omega
          (simp (config := { maxSteps := 1000000 }) [z0, h1i, h2i, h1', h2'])
          (first | exact hR _ _ (Fin_ret _ rfl rfl rfl) | exact hR _ _ (Fin_normal _ rfl rfl rfl) | exact hR _ _ (Fin_ret _ rfl rfl (by simp [AV.erase, AV.unview, locV, hs]; done)) | exact hR _ _ (Fin_normal _ rfl rfl (by simp [AV.erase, AV.unview, locV, hs]; done)) | fail "no end")
end
end Go.AE

/- Locations: the documented examples, and the laws. -/
set_option linter.unusedVariables false
namespace Go.AE
open Go
def AU64 (n : Int) : AV := .d (.int .u64 n)
def AU32 (n : Int) : AV := .d (.int .u32 n)
def AU16 (n : Int) : AV := .d (.int .u16 n)
theorem text4 : textN 4 = [114, 50] := by unfold textN; rw [Lib.decDigits_one (by decide)]; rfl
theorem text5 : textN 5 = [115, 50] := by unfold textN; rw [Lib.decDigits_one (by decide)]; rfl
theorem rngZ_reg {n r s : Int} (h : 0 ≤ n) : rngZ (2 * n) r s = decide (n < r) := by
  obtain ⟨k, rfl⟩ := Int.eq_ofNat_of_zero_le h
  have e1 : (2 * (k : Int)).tmod 2 = 0 := by rw [show 2 * (k : Int) = ((2 * k : Nat) : Int) by omega, tmod2_nat]; omega
  have e2 : (2 * (k : Int)).tdiv 2 = (k : Int) := by rw [show 2 * (k : Int) = ((2 * k : Nat) : Int) by omega, tdiv2_nat]; omega
  have e3 : (0 : Int) ≤ 2 * (k : Int) := by omega
  unfold rngZ; rw [e1, e2]; simp [e3]
theorem rngZ_slot {n r s : Int} (h : 0 ≤ n) : rngZ (2 * n + 1) r s = decide (n < s) := by
  obtain ⟨k, rfl⟩ := Int.eq_ofNat_of_zero_le h
  have e1 : (2 * (k : Int) + 1).tmod 2 = 1 := by rw [show 2 * (k : Int) + 1 = ((2 * k + 1 : Nat) : Int) by omega, tmod2_nat]; omega
  have e2 : (2 * (k : Int) + 1).tdiv 2 = (k : Int) := by rw [show 2 * (k : Int) + 1 = ((2 * k + 1 : Nat) : Int) by omega, tdiv2_nat]; omega
  have e3 : (0 : Int) ≤ 2 * (k : Int) + 1 := by omega
  unfold rngZ; rw [e1, e2]; simp [e3]
section
theorem law04_awake_calls {P : Program} {p : Nums} (A : All P p) (ob : Obj) (T : ItoaOk P p ob) : CallsTo P p.law04_awake [] [.glob 0 ob] fun o H' => o = .ret (AB true) ∧ H' = [.glob 0 ob] := by
  refine A.law04_awake.run rfl fun R hR => ?_
  (simp (config := { maxSteps := 1000000 }) [ic_law04_awake])
  have h1 := location_Parse_calls A [115, 50] (by decide)
  rw [show locP [115, 50] = some (115, 2) by decide] at h1
  (refine AWcall_det h1 (by rfl) (by rfl) ?_)
  (simp (config := { maxSteps := 1000000 }) [locV, locN])
  have h2 := location_Parse_calls A [114, 48, 50] (by decide)
  rw [show locP [114, 48, 50] = none by decide] at h2
  (refine AWcall_det h2 (by rfl) (by rfl) ?_)
  (simp (config := { maxSteps := 1000000 }) [locV])
  have h3 := location_Parse_calls A [120, 49] (by decide)
  rw [show locP [120, 49] = none by decide] at h3
  (refine AWcall_det h3 (by rfl) (by rfl) ?_)
  (simp (config := { maxSteps := 1000000 }) [locV])
  (refine AWcall_det (location_Reg_calls A 2 (by decide) (by decide)) (by rfl) (by rfl) ?_)
  (simp (config := { maxSteps := 1000000 }) [])
  (refine AWcall_det (location_Slot_calls A 2 (by decide) (by decide)) (by rfl) (by rfl) ?_)
  (simp (config := { maxSteps := 1000000 }) [])
  have h4 := location_Text_calls A ob T 4 (by decide)
  rw [text4] at h4
  refine AWcall_loc [0] h4 (by decide) (by rfl) (by rfl) (by rfl) (by rfl) (by rfl) (by rfl) ?_
  (simp (config := { maxSteps := 1000000 }) [])
  have h5 := location_Text_calls A ob T 5 (by decide)
  rw [text5] at h5
  refine AWcall_loc [0] h5 (by decide) (by rfl) (by rfl) (by rfl) (by rfl) (by rfl) (by rfl) ?_
  (simp (config := { maxSteps := 1000000 }) [])
  have h6 := location_IsSlot_calls A 5
  rw [show ((5 : Int).tmod 2 == 1) = true by decide] at h6
  (refine AWcall_det h6 (by rfl) (by rfl) ?_)
  (simp (config := { maxSteps := 1000000 }) [])
  have h7 := location_IsSlot_calls A 4
  rw [show ((4 : Int).tmod 2 == 1) = false by decide] at h7
  (refine AWcall_det h7 (by rfl) (by rfl) ?_)
  (simp (config := { maxSteps := 1000000 }) [])
  have h8 := location_Index_calls A 5 (by decide) (by decide)
  rw [show (5 : Int).tdiv 2 = 2 by decide] at h8
  (refine AWcall_det h8 (by rfl) (by rfl) ?_)
  (simp (config := { maxSteps := 1000000 }) [])
  exact hR _ _ (Fin_wk' _ (AB true) [.glob 0 ob] rfl (by (refine Wk.of ?_ ?_ (by simp) <;> repeat' (first | exact True.intro | exact ⟨_, rfl, wkt_same rfl⟩ | exact ⟨_, rfl, wkt_erase rfl⟩ | exact ⟨_, rfl, .inl .nild⟩ | exact ⟨_, rfl, .inl .nile⟩ | exact ⟨_, rfl, wkt_nils⟩ | exact wkt_same rfl | exact wkt_erase rfl | exact .inl .nild | exact .inl .nile | exact wkt_nils | exact WkB.same rfl | exact WkB_rows | exact WkB_nil | exact .dead _ | exact .iter _ _ | exact .glob _ _ | refine WkB_cons ?_ ?_ | refine And.intro ?_ ?_))) ⟨rfl, rfl⟩)
theorem law04_LocationRange_calls {P : Program} {p : Nums} (A : All P p) (ob : Obj) (T : ItoaOk P p ob) (n r s m : Int) (hn : 0 ≤ n ∧ n < 4294967296) (hr : 0 ≤ r ∧ r < 4294967296) (hs : 0 ≤ s ∧ s < 4294967296) (hm : 0 ≤ m ∧ m < 65536) :
    CallsTo P p.law04_LocationRange [AU32 n, AU32 r, AU32 s, AU16 m] [.glob 0 ob] fun o H' => o = .ret (AB true) ∧ H' = [.glob 0 ob] := by
  refine A.law04_LocationRange.run rfl fun R hR => ?_
  have w1 : IntKind.i64.wrap n = n := wrap_i64 (by omega) (by omega)
  have w2 : IntKind.i64.wrap r = r := wrap_i64 (by omega) (by omega)
  have w3 : IntKind.i64.wrap s = s := wrap_i64 (by omega) (by omega)
  have w4 : IntKind.i64.wrap m = m := wrap_i64 (by omega) (by omega)
  have w5 : IntKind.i64.wrap (r + m) = r + m := wrap_i64 (by omega) (by omega)
  have w6 : IntKind.i64.wrap (s + m) = s + m := wrap_i64 (by omega) (by omega)
  (simp (config := { maxSteps := 1000000 }) [ic_law04_LocationRange, AU32, AU16])
  refine AWcall_loc [0] (law04_awake_calls A ob T) (by decide) (by rfl) (by rfl) (by rfl) (by rfl) (by rfl) (by rfl) ?_
  (simp (config := { maxSteps := 1000000 }) [w1])
  (refine AWcall_det (location_Reg_calls A n (by omega) (by omega)) (by rfl) (by rfl) ?_)
  (simp (config := { maxSteps := 1000000 }) [w1])
  (refine AWcall_det (location_Slot_calls A n (by omega) (by omega)) (by rfl) (by rfl) ?_)
  (simp (config := { maxSteps := 1000000 }) [w2, w3])
  have c1 := location_InRange_calls A (2 * n) r s (by omega) (by omega)
  rw [rngZ_reg hn.1] at c1
  have c2 := location_InRange_calls A (2 * n + 1) r s (by omega) (by omega)
  rw [rngZ_slot hn.1] at c2
  have c3 := location_InRange_calls A (2 * n) (r + m) 0 (by omega) (by omega)
  rw [rngZ_reg hn.1] at c3
  have c4 := location_InRange_calls A (2 * n + 1) 0 (s + m) (by omega) (by omega)
  rw [rngZ_slot hn.1] at c4
  (refine AWcall_det c1 (by rfl) (by rfl) ?_)
  (simp (config := { maxSteps := 1000000 }) [w2, w3])
  (refine AWcall_det c2 (by rfl) (by rfl) ?_)
  by_cases ha : n < r <;> by_cases hb : n < s
  · have ha2 : n < r + m := by omega
    have hb2 : n < s + m := by omega
    rw [decide_eq_true ha2] at c3
    rw [decide_eq_true hb2] at c4
    (simp (config := { maxSteps := 1000000 }) [ha, hb, w2, w4, w5])
    (refine AWcall_det c3 (by rfl) (by rfl) ?_)
    (simp (config := { maxSteps := 1000000 }) [w3, w4, w6])
    (refine AWcall_det c4 (by rfl) (by rfl) ?_)
    (simp (config := { maxSteps := 1000000 }) [])
    exact hR _ _ (Fin_wk' _ (AB true) [.glob 0 ob] rfl (by (refine Wk.of ?_ ?_ (by simp) <;> repeat' (first | exact True.intro | exact ⟨_, rfl, wkt_same rfl⟩ | exact ⟨_, rfl, wkt_erase rfl⟩ | exact ⟨_, rfl, .inl .nild⟩ | exact ⟨_, rfl, .inl .nile⟩ | exact ⟨_, rfl, wkt_nils⟩ | exact wkt_same rfl | exact wkt_erase rfl | exact .inl .nild | exact .inl .nile | exact wkt_nils | exact WkB.same rfl | exact WkB_rows | exact WkB_nil | exact .dead _ | exact .iter _ _ | exact .glob _ _ | refine WkB_cons ?_ ?_ | refine And.intro ?_ ?_))) ⟨rfl, rfl⟩)
  · have ha2 : n < r + m := by omega
    rw [decide_eq_true ha2] at c3
    (simp (config := { maxSteps := 1000000 }) [ha, hb, w2, w4, w5])
    (refine AWcall_det c3 (by rfl) (by rfl) ?_)
    (simp (config := { maxSteps := 1000000 }) [])
    exact hR _ _ (Fin_wk' _ (AB true) [.glob 0 ob] rfl (by (refine Wk.of ?_ ?_ (by simp) <;> repeat' (first | exact True.intro | exact ⟨_, rfl, wkt_same rfl⟩ | exact ⟨_, rfl, wkt_erase rfl⟩ | exact ⟨_, rfl, .inl .nild⟩ | exact ⟨_, rfl, .inl .nile⟩ | exact ⟨_, rfl, wkt_nils⟩ | exact wkt_same rfl | exact wkt_erase rfl | exact .inl .nild | exact .inl .nile | exact wkt_nils | exact WkB.same rfl | exact WkB_rows | exact WkB_nil | exact .dead _ | exact .iter _ _ | exact .glob _ _ | refine WkB_cons ?_ ?_ | refine And.intro ?_ ?_))) ⟨rfl, rfl⟩)
  · have hb2 : n < s + m := by omega
    rw [decide_eq_true hb2] at c4
    (simp (config := { maxSteps := 1000000 }) [ha, hb, w3, w4, w6])
    (refine AWcall_det c4 (by rfl) (by rfl) ?_)
    (simp (config := { maxSteps := 1000000 }) [])
    exact hR _ _ (Fin_wk' _ (AB true) [.glob 0 ob] rfl (by (refine Wk.of ?_ ?_ (by simp) <;> repeat' (first | exact True.intro | exact ⟨_, rfl, wkt_same rfl⟩ | exact ⟨_, rfl, wkt_erase rfl⟩ | exact ⟨_, rfl, .inl .nild⟩ | exact ⟨_, rfl, .inl .nile⟩ | exact ⟨_, rfl, wkt_nils⟩ | exact wkt_same rfl | exact wkt_erase rfl | exact .inl .nild | exact .inl .nile | exact wkt_nils | exact WkB.same rfl | exact WkB_rows | exact WkB_nil | exact .dead _ | exact .iter _ _ | exact .glob _ _ | refine WkB_cons ?_ ?_ | refine And.intro ?_ ?_))) ⟨rfl, rfl⟩)
  · (simp (config := { maxSteps := 1000000 }) [ha, hb])
    exact hR _ _ (Fin_wk' _ (AB true) [.glob 0 ob] rfl (by (refine Wk.of ?_ ?_ (by simp) <;> repeat' (first | exact True.intro | exact ⟨_, rfl, wkt_same rfl⟩ | exact ⟨_, rfl, wkt_erase rfl⟩ | exact ⟨_, rfl, .inl .nild⟩ | exact ⟨_, rfl, .inl .nile⟩ | exact ⟨_, rfl, wkt_nils⟩ | exact wkt_same rfl | exact wkt_erase rfl | exact .inl .nild | exact .inl .nile | exact wkt_nils | exact WkB.same rfl | exact WkB_rows | exact WkB_nil | exact .dead _ | exact .iter _ _ | exact .glob _ _ | refine WkB_cons ?_ ?_ | refine And.intro ?_ ?_))) ⟨rfl, rfl⟩)
theorem law04_LocationBijection_calls {P : Program} {p : Nums} (A : All P p) (ob : Obj) (T : ItoaOk P p ob) (n m : Nat) (hn : n < 18446744073709551616) (hm : m < 18446744073709551616) :
    CallsTo P p.law04_LocationBijection [AU64 (n : Int), AU64 (m : Int)] [.glob 0 ob] fun o H' => o = .ret (AB true) ∧ H' = [.glob 0 ob] := by
  refine A.law04_LocationBijection.run rfl fun R hR => ?_
  have e1 : ((n : Int)).tmod 1099511627776 = ((n % 1099511627776 : Nat) : Int) := rfl
  have e2 : ((m : Int)).tmod 1099511627776 = ((m % 1099511627776 : Nat) : Int) := rfl
  have b1 : n % 1099511627776 < 1099511627776 := Nat.mod_lt _ (by decide)
  have b2 : m % 1099511627776 < 1099511627776 := Nat.mod_lt _ (by decide)
  obtain ⟨x, hx⟩ : ∃ x, x = n % 1099511627776 := ⟨_, rfl⟩
  obtain ⟨y, hy⟩ : ∃ x, x = m % 1099511627776 := ⟨_, rfl⟩
  rw [← hx] at e1 b1
  rw [← hy] at e2 b2
  have w1 : IntKind.i64.wrap (x : Int) = (x : Int) := wrap_i64 (by omega) (by omega)
  have w2 : IntKind.i64.wrap (y : Int) = (y : Int) := wrap_i64 (by omega) (by omega)
  (simp (config := { maxSteps := 1000000 }) [ic_law04_LocationBijection, AU64])
  refine AWcall_loc [0] (law04_awake_calls A ob T) (by decide) (by rfl) (by rfl) (by rfl) (by rfl) (by rfl) (by rfl) ?_
  (simp (config := { maxSteps := 1000000 }) [e1, e2, w1, w2])
  have r1 := location_Reg_calls A (x : Int) (by omega) (by omega)
  have r2 := location_Reg_calls A (y : Int) (by omega) (by omega)
  have s2 := location_Slot_calls A (y : Int) (by omega) (by omega)
  rw [show 2 * (x : Int) = ((2 * x : Nat) : Int) by omega] at r1
  rw [show 2 * (y : Int) = ((2 * y : Nat) : Int) by omega] at r2
  rw [show 2 * (y : Int) + 1 = ((2 * y + 1 : Nat) : Int) by omega] at s2
  have t1 := location_Text_calls A ob T (2 * x) (by omega)
  have t2 := location_Text_calls A ob T (2 * y + 1) (by omega)
  have et1 : textN (2 * x) = (if false = true then 115 else 114) :: Lib.decDigits x := by
    unfold textN; rw [if_neg (by omega), show 2 * x / 2 = x by omega]; rfl
  have et2 : textN (2 * y + 1) = (if true = true then 115 else 114) :: Lib.decDigits y := by
    unfold textN; rw [if_pos (by omega), show (2 * y + 1) / 2 = y by omega]; rfl
  have l1 := dec_len b1
  have l2 := dec_len b2
  have p1 := location_Parse_calls A (textN (2 * x)) (by rw [et1, List.length_cons]; omega)
  have p2 := location_Parse_calls A (textN (2 * y + 1)) (by rw [et2, List.length_cons]; omega)
  have q1 : locV (locP (textN (2 * x))) = .tup [AI ((2 * x : Nat) : Int), AB true] := by
    rw [et1, locP_text b1]; simp [locV, locN]
  have q2 : locV (locP (textN (2 * y + 1))) = .tup [AI ((2 * y + 1 : Nat) : Int), AB true] := by
    rw [et2, locP_text b2]; simp [locV, locN]
  rw [q1] at p1
  rw [q2] at p2
  have i1 := location_Index_calls A ((2 * x : Nat) : Int) (by omega) (by omega)
  have i2 := location_Index_calls A ((2 * y + 1 : Nat) : Int) (by omega) (by omega)
  rw [tdiv2_nat, show 2 * x / 2 = x by omega] at i1
  rw [tdiv2_nat, show (2 * y + 1) / 2 = y by omega] at i2
  have k1 := location_IsSlot_calls A ((2 * x : Nat) : Int)
  have k2 := location_IsSlot_calls A ((2 * y + 1 : Nat) : Int)
  rw [tmod2_nat, show 2 * x % 2 = 0 by omega] at k1
  rw [tmod2_nat, show (2 * y + 1) % 2 = 1 by omega] at k2
  have k1' : (((0 : Nat) : Int) == 1) = false := rfl
  have k2' : (((1 : Nat) : Int) == 1) = true := rfl
  rw [k1'] at k1
  rw [k2'] at k2
  obtain ⟨X, hX⟩ : ∃ X, X = 2 * x := ⟨_, rfl⟩
  obtain ⟨Y, hY⟩ : ∃ Y, Y = 2 * y := ⟨_, rfl⟩
  obtain ⟨Z, hZ⟩ : ∃ Z, Z = 2 * y + 1 := ⟨_, rfl⟩
  rw [← hX] at r1 t1 p1 i1 k1
  rw [← hZ] at s2 t2 p2 i2 k2
  rw [← hY] at r2
  obtain ⟨U, hU⟩ : ∃ U, U = textN X := ⟨_, rfl⟩
  obtain ⟨V, hV⟩ : ∃ V, V = textN Z := ⟨_, rfl⟩
  rw [← hU] at t1 p1
  rw [← hV] at t2 p2
  have d1 : ¬ ((X : Int) = (Z : Int)) := by omega
  have d2 : ¬ (X = Z) := by omega
  have d3 : (decide (X = Y)) = (decide (x = y)) := by
    by_cases h : x = y
    · rw [decide_eq_true h, decide_eq_true (by omega)]
    · rw [decide_eq_false h, decide_eq_false (by omega)]
  (refine AWcall_det r1 (by rfl) (by rfl) ?_)
  (simp (config := { maxSteps := 1000000 }) [])
  (refine AWcall_det s2 (by rfl) (by rfl) ?_)
  (simp (config := { maxSteps := 1000000 }) [])
  refine AWcall_loc [0] t1 (by decide) (by rfl) (by rfl) (by rfl) (by rfl) (by rfl) (by rfl) ?_
  (simp (config := { maxSteps := 1000000 }) [])
  (refine AWcall_det p1 (by rfl) (by rfl) ?_)
  (simp (config := { maxSteps := 1000000 }) [])
  refine AWcall_loc [0] t2 (by decide) (by rfl) (by rfl) (by rfl) (by rfl) (by rfl) (by rfl) ?_
  (simp (config := { maxSteps := 1000000 }) [])
  (refine AWcall_det p2 (by rfl) (by rfl) ?_)
  (simp (config := { maxSteps := 1000000 }) [d1, d2])
  (refine AWcall_det i1 (by rfl) (by rfl) ?_)
  (simp (config := { maxSteps := 1000000 }) [])
  (refine AWcall_det i2 (by rfl) (by rfl) ?_)
  (simp (config := { maxSteps := 1000000 }) [])
  (refine AWcall_det k1 (by rfl) (by rfl) ?_)
  (simp (config := { maxSteps := 1000000 }) [])
  (refine AWcall_det k2 (by rfl) (by rfl) ?_)
  (simp (config := { maxSteps := 1000000 }) [])
  (refine AWcall_det r1 (by rfl) (by rfl) ?_)
  (simp (config := { maxSteps := 1000000 }) [])
  (refine AWcall_det r2 (by rfl) (by rfl) ?_)
  have hb : (((X : Int) == (Y : Int)) == ((x : Int) == (y : Int))) = true := by
    by_cases h : x = y
    · have h' : X = Y := by omega
      rw [h, h']; simp
    · have h2 : ¬ ((X : Int) = (Y : Int)) := by omega
      have h3 : ¬ ((x : Int) = (y : Int)) := by omega
      simp [h2, h3]
      rw [beq_eq_false_iff_ne.2 h2, beq_eq_false_iff_ne.2 h3]
  (simp (config := { maxSteps := 1000000 }) [])
  exact hR _ _ (Fin_wk' _ (AB true) [.glob 0 ob] rfl (by simp only [hb]; (refine Wk.of ?_ ?_ (by simp) <;> repeat' (first | exact True.intro | exact ⟨_, rfl, wkt_same rfl⟩ | exact ⟨_, rfl, wkt_erase rfl⟩ | exact ⟨_, rfl, .inl .nild⟩ | exact ⟨_, rfl, .inl .nile⟩ | exact ⟨_, rfl, wkt_nils⟩ | exact wkt_same rfl | exact wkt_erase rfl | exact .inl .nild | exact .inl .nile | exact wkt_nils | exact WkB.same rfl | exact WkB_rows | exact WkB_nil | exact .dead _ | exact .iter _ _ | exact .glob _ _ | refine WkB_cons ?_ ?_ | refine And.intro ?_ ?_))) ⟨rfl, rfl⟩)
theorem law04_LocationTexts_calls {P : Program} {p : Nums} (A : All P p) (ob : Obj) (T : ItoaOk P p ob) (s : List UInt8) (hs : s.length ≤ 9223372036854775807) :
    CallsTo P p.law04_LocationTexts [.d (.str s)] [.glob 0 ob] fun o H' => o = .ret (AB true) ∧ H' = [.glob 0 ob] := by
  refine A.law04_LocationTexts.run rfl fun R hR => ?_
  (simp (config := { maxSteps := 1000000 }) [ic_law04_LocationTexts])
  refine AWcall_loc [0] (law04_awake_calls A ob T) (by decide) (by rfl) (by rfl) (by rfl) (by rfl) (by rfl) (by rfl) ?_
  (simp (config := { maxSteps := 1000000 }) [])
  by_cases hl : 1000 < s.length
  · have hl' : (1000 : Int) < (s.length : Int) := by omega
    (simp (config := { maxSteps := 1000000 }) [hl', hl])
    refine AWcall_loc [0] (law04_awake_calls A ob T) (by decide) (by rfl) (by rfl) (by rfl) (by rfl) (by rfl) (by rfl) ?_
    (simp (config := { maxSteps := 1000000 }) [])
    exact hR _ _ (Fin_wk' _ (AB true) [.glob 0 ob] rfl (by (refine Wk.of ?_ ?_ (by simp) <;> repeat' (first | exact True.intro | exact ⟨_, rfl, wkt_same rfl⟩ | exact ⟨_, rfl, wkt_erase rfl⟩ | exact ⟨_, rfl, .inl .nild⟩ | exact ⟨_, rfl, .inl .nile⟩ | exact ⟨_, rfl, wkt_nils⟩ | exact wkt_same rfl | exact wkt_erase rfl | exact .inl .nild | exact .inl .nile | exact wkt_nils | exact WkB.same rfl | exact WkB_rows | exact WkB_nil | exact .dead _ | exact .iter _ _ | exact .glob _ _ | refine WkB_cons ?_ ?_ | refine And.intro ?_ ?_))) ⟨rfl, rfl⟩)
  have hl' : ¬ ((1000 : Int) < (s.length : Int)) := by omega
  (simp (config := { maxSteps := 1000000 }) [hl', hl])
  have h1 := location_Parse_calls A s (by omega)
  cases hp : locP s with
  | none =>
    rw [hp] at h1
    (refine AWcall_det h1 (by rfl) (by rfl) ?_)
    (simp (config := { maxSteps := 1000000 }) [locV])
    exact hR _ _ (Fin_wk' _ (AB true) [.glob 0 ob] rfl (by (refine Wk.of ?_ ?_ (by simp) <;> repeat' (first | exact True.intro | exact ⟨_, rfl, wkt_same rfl⟩ | exact ⟨_, rfl, wkt_erase rfl⟩ | exact ⟨_, rfl, .inl .nild⟩ | exact ⟨_, rfl, .inl .nile⟩ | exact ⟨_, rfl, wkt_nils⟩ | exact wkt_same rfl | exact wkt_erase rfl | exact .inl .nild | exact .inl .nile | exact wkt_nils | exact WkB.same rfl | exact WkB_rows | exact WkB_nil | exact .dead _ | exact .iter _ _ | exact .glob _ _ | refine WkB_cons ?_ ?_ | refine And.intro ?_ ?_))) ⟨rfl, rfl⟩)
  | some z =>
    obtain ⟨c, n⟩ := z
    rw [hp] at h1
    obtain ⟨hc, hn, hse, hok⟩ := locP_some hp
    have hdl := dec_len hn
    obtain ⟨k, hk⟩ : ∃ k : Nat, locN (c, n) = (k : Int) ∧ k < 2199023255552 ∧ textN k = s := by
      rcases hc with rfl | rfl
      · refine ⟨2 * n, by simp [locN], by omega, ?_⟩
        unfold textN; rw [if_neg (by omega), show 2 * n / 2 = n by omega, hse]
      · refine ⟨2 * n + 1, by simp [locN], by omega, ?_⟩
        unfold textN; rw [if_pos (by omega), show (2 * n + 1) / 2 = n by omega, hse]
    obtain ⟨hk1, hk2, hk3⟩ := hk
    have hv : locV (some (c, n)) = .tup [AI (k : Int), AB true] := by rw [locV, hk1]
    rw [hv] at h1
    have t1 := location_Text_calls A ob T k hk2
    rw [hk3] at t1
    obtain ⟨D, hD⟩ : ∃ D, D = Lib.decDigits n := ⟨_, rfl⟩
    rw [← hD] at hse hdl
    have hDn : D ≠ [] := by rw [hD]; exact (dec_props n).1
    have p1 := location_Parse_calls A (c :: 48 :: D) (by simp only [List.length_cons]; omega)
    rw [locP_zero hDn] at p1
    have p2 := location_Parse_calls A (c :: (D ++ [32])) (by simp only [List.length_cons, List.length_append, List.length_nil]; omega)
    have hp2 : locP (c :: (D ++ [32])) = none := by
      have := locP_space (s := c :: D) (by simp)
      exact this
    rw [hp2] at p2
    have p3 := location_Parse_calls A (32 :: c :: D) (by simp only [List.length_cons]; omega)
    rw [locP_space0] at p3
    have p4 := location_Parse_calls A [c] (by simp)
    rw [locP_one] at p4
    clear hp hok hk1 hv
    subst hse
    have g1 : ¬ ((k : Int) < 0) := by omega
    have g2 : ¬ ((2199023255552 : Int) ≤ (k : Int)) := by omega
    have g3 : ¬ (2199023255552 ≤ k) := by omega
    (refine AWcall_det h1 (by rfl) (by rfl) ?_)
    (simp (config := { maxSteps := 1000000 }) [g1, g2, g3])
    refine AWcall_loc [0] t1 (by decide) (by rfl) (by rfl) (by rfl) (by rfl) (by rfl) (by rfl) ?_
    have z1 : (1 : Int) ≤ (D.length : Int) + 1 := by omega
    have z2 : D.length + 1 + 1 ≤ 9223372036854775807 := by omega
    have z3 : 1 + (D.length + 1) ≤ 9223372036854775807 := by omega
    have z4 : 2 + D.length ≤ 9223372036854775807 := by omega
    have z5 : 1 + 1 + D.length ≤ 9223372036854775807 := by omega
    have z6 : D.length + 2 ≤ 9223372036854775807 := by omega
    have z7 : D.length ≤ 9223372036854775805 := by omega
    (simp (config := { maxSteps := 1000000 }) [z1, z2, z3, z4, z5, z6])
    (refine AWcall_det p1 (by rfl) (by rfl) ?_)
    (simp (config := { maxSteps := 1000000 }) [locV, z1, z2, z3, z4, z5, z6])
    (refine AWcall_det p2 (by rfl) (by rfl) ?_)
    (simp (config := { maxSteps := 1000000 }) [locV, z1, z2, z3, z4, z5, z6])
    (refine AWcall_det p3 (by rfl) (by rfl) ?_)
    (simp (config := { maxSteps := 1000000 }) [locV, z1, z2, z3, z4, z5, z6])
    (refine AWcall_det p4 (by rfl) (by rfl) ?_)
    (simp (config := { maxSteps := 1000000 }) [locV])
    exact hR _ _ (Fin_wk' _ (AB true) [.glob 0 ob] rfl (by (refine Wk.of ?_ ?_ (by simp) <;> repeat' (first | exact True.intro | exact ⟨_, rfl, wkt_same rfl⟩ | exact ⟨_, rfl, wkt_erase rfl⟩ | exact ⟨_, rfl, .inl .nild⟩ | exact ⟨_, rfl, .inl .nile⟩ | exact ⟨_, rfl, wkt_nils⟩ | exact wkt_same rfl | exact wkt_erase rfl | exact .inl .nild | exact .inl .nile | exact wkt_nils | exact WkB.same rfl | exact WkB_rows | exact WkB_nil | exact .dead _ | exact .iter _ _ | exact .glob _ _ | refine WkB_cons ?_ ?_ | refine And.intro ?_ ?_))) ⟨rfl, rfl⟩)
theorem law04_LocationMatchesReference_calls {P : Program} {p : Nums} (A : All P p) (ob : Obj) (T : ItoaOk P p ob) (l : Nat) (raw : Int) (s : List UInt8) (g h : Int) (h0 : -9223372036854775808 ≤ raw) (h1 : raw ≤ 9223372036854775807) (hs : s.length ≤ 9223372036854775807) :
    CallsTo P p.law04_LocationMatchesReference [AU64 (l : Int), AI raw, .d (.str s), AI g, AI h] [.glob 0 ob] fun o H' => o = .ret (AB true) ∧ H' = [.glob 0 ob] := by
  refine A.law04_LocationMatchesReference.run rfl fun R hR => ?_
  (simp (config := { maxSteps := 1000000 }) [ic_law04_LocationMatchesReference, AU64])
  refine AWcall_loc [0] (law04_awake_calls A ob T) (by decide) (by rfl) (by rfl) (by rfl) (by rfl) (by rfl) (by rfl) ?_
  (simp (config := { maxSteps := 1000000 }) [])
  by_cases hl : 1000 < s.length
  · have hl' : (1000 : Int) < (s.length : Int) := by omega
    (simp (config := { maxSteps := 1000000 }) [hl', hl])
    refine AWcall_loc [0] (law04_awake_calls A ob T) (by decide) (by rfl) (by rfl) (by rfl) (by rfl) (by rfl) (by rfl) ?_
    (simp (config := { maxSteps := 1000000 }) [])
    exact hR _ _ (Fin_wk' _ (AB true) [.glob 0 ob] rfl (by (refine Wk.of ?_ ?_ (by simp) <;> repeat' (first | exact True.intro | exact ⟨_, rfl, wkt_same rfl⟩ | exact ⟨_, rfl, wkt_erase rfl⟩ | exact ⟨_, rfl, .inl .nild⟩ | exact ⟨_, rfl, .inl .nile⟩ | exact ⟨_, rfl, wkt_nils⟩ | exact wkt_same rfl | exact wkt_erase rfl | exact .inl .nild | exact .inl .nile | exact wkt_nils | exact WkB.same rfl | exact WkB_rows | exact WkB_nil | exact .dead _ | exact .iter _ _ | exact .glob _ _ | refine WkB_cons ?_ ?_ | refine And.intro ?_ ?_))) ⟨rfl, rfl⟩)
  have hl' : ¬ ((1000 : Int) < (s.length : Int)) := by omega
  have e1 : ((l : Int)).tmod 2199023255552 = ((l % 2199023255552 : Nat) : Int) := rfl
  have b1 : l % 2199023255552 < 2199023255552 := Nat.mod_lt _ (by decide)
  obtain ⟨x, hx⟩ : ∃ x, x = l % 2199023255552 := ⟨_, rfl⟩
  rw [← hx] at e1 b1
  have w1 : IntKind.i64.wrap (x : Int) = (x : Int) := wrap_i64 (by omega) (by omega)
  (simp (config := { maxSteps := 1000000 }) [hl', hl, e1, w1])
  have p1 := location_Parse_calls A s (by omega)
  have p2 := ref04_Parse_calls A s (by omega)
  have k1 := location_IsSlot_calls A (x : Int)
  have i1 := location_Index_calls A (x : Int) (by omega) (by omega)
  have t1 := location_Text_calls A ob T x b1
  have t2 := ref04_Text_calls A x b1
  have r1 := location_InRange_calls A raw g h h0 h1
  have r2 := ref04_InRange_calls A raw g h h0 h1
  have w2 : IntKind.i64.wrap ((x : Int).tdiv 2) = (x : Int).tdiv 2 := tdiv2_bd _ (by omega) (by omega)
  obtain ⟨mm, hmm⟩ : ∃ m, m = (x : Int).tmod 2 := ⟨_, rfl⟩
  obtain ⟨q, hq⟩ : ∃ m, m = (x : Int).tdiv 2 := ⟨_, rfl⟩
  obtain ⟨U, hU⟩ : ∃ U, U = textN x := ⟨_, rfl⟩
  obtain ⟨B, hB⟩ : ∃ B, B = rngZ raw g h := ⟨_, rfl⟩
  rw [← hmm] at k1
  rw [← hq] at i1 w2
  rw [← hU] at t1 t2
  rw [← hB] at r1 r2
  have main : ∀ (v : Int) (ok : Bool), locV (locP s) = .tup [AI v, AB ok] → AW P 1 .skip R ⟨[], []⟩ ∨ True := fun _ _ _ => .inr trivial
  obtain ⟨v, ok, hvo⟩ : ∃ v ok, locV (locP s) = .tup [AI v, AB ok] := by
    cases locP s with
    | none => exact ⟨0, false, rfl⟩
    | some z => exact ⟨locN z, true, rfl⟩
  rw [hvo] at p1 p2
  (refine AWcall_det p1 (by rfl) (by rfl) ?_)
  (simp (config := { maxSteps := 1000000 }) [])
  (refine AWcall_det p2 (by rfl) (by rfl) ?_)
  (simp (config := { maxSteps := 1000000 }) [])
  (refine AWcall_det k1 (by rfl) (by rfl) ?_)
  (simp (config := { maxSteps := 1000000 }) [← hmm])
  (refine AWcall_det i1 (by rfl) (by rfl) ?_)
  (simp (config := { maxSteps := 1000000 }) [← hq, w2])
  refine AWcall_loc [0] t1 (by decide) (by rfl) (by rfl) (by rfl) (by rfl) (by rfl) (by rfl) ?_
  (simp (config := { maxSteps := 1000000 }) [])
  (refine AWcall_det t2 (by rfl) (by rfl) ?_)
  (simp (config := { maxSteps := 1000000 }) [])
  (refine AWcall_det r1 (by rfl) (by rfl) ?_)
  (simp (config := { maxSteps := 1000000 }) [])
  (refine AWcall_det r2 (by rfl) (by rfl) ?_)
  (simp (config := { maxSteps := 1000000 }) [])
  exact hR _ _ (Fin_wk' _ (AB true) [.glob 0 ob] rfl (by (refine Wk.of ?_ ?_ (by simp) <;> repeat' (first | exact True.intro | exact ⟨_, rfl, wkt_same rfl⟩ | exact ⟨_, rfl, wkt_erase rfl⟩ | exact ⟨_, rfl, .inl .nild⟩ | exact ⟨_, rfl, .inl .nile⟩ | exact ⟨_, rfl, wkt_nils⟩ | exact wkt_same rfl | exact wkt_erase rfl | exact .inl .nild | exact .inl .nile | exact wkt_nils | exact WkB.same rfl | exact WkB_rows | exact WkB_nil | exact .dead _ | exact .iter _ _ | exact .glob _ _ | refine WkB_cons ?_ ?_ | refine And.intro ?_ ?_))) ⟨rfl, rfl⟩)
end
end Go.AE

/- The readings of numbers and strings, in any memory. -/
set_option linter.unusedVariables false
namespace Go.AE
open Go
theorem Rel.flat {F : Nat → Nat} {φ : Nat → Option Nat} {w : World} {x : D} {v : Value} (h : Rel F φ w (.d x) v) (hx : x.flat = true) : ∀ F φ w, Rel F φ w (.d x) v := by
  intro F' φ' w'
  cases h with
  | d _ _ h => exact .d _ _ (h.flat hx)
theorem u64_of {d : D} (h : HasT (.int .u64) d) : ∃ n : Nat, AV.d d = AU64 (n : Int) ∧ n < 18446744073709551616 := by
  obtain ⟨n, rfl, hw⟩ := h.int_inv
  simp [Lit.wf, IntKind.min, IntKind.max, IntKind.signed, IntKind.bits] at hw
  refine ⟨n.toNat, ?_, by omega⟩
  unfold AU64; rw [show ((n.toNat : Nat) : Int) = n by omega]
theorem u32_of {d : D} (h : HasT (.int .u32) d) : ∃ n : Int, AV.d d = AU32 n ∧ (0 ≤ n ∧ n < 4294967296) := by
  obtain ⟨n, rfl, hw⟩ := h.int_inv
  simp [Lit.wf, IntKind.min, IntKind.max, IntKind.signed, IntKind.bits] at hw
  exact ⟨n, rfl, by omega⟩
theorem u16_of {d : D} (h : HasT (.int .u16) d) : ∃ n : Int, AV.d d = AU16 n ∧ (0 ≤ n ∧ n < 65536) := by
  obtain ⟨n, rfl, hw⟩ := h.int_inv
  simp [Lit.wf, IntKind.min, IntKind.max, IntKind.signed, IntKind.bits] at hw
  exact ⟨n, rfl, by omega⟩
theorem str_of {d : D} (h : HasT .str d) : ∃ s : List UInt8, AV.d d = .d (.str s) ∧ s.length ≤ 9223372036854775807 := by
  cases h with
  | str s h => exact ⟨s, rfl, h⟩
end Go.AE
