/- For every function that the statement reads: the law SpillallMatchesReference returns true, and its argument reads as it did. No condition beyond the given statement. -/
import Derived.Test.YtpnildiammmjcaaM2
import Derived.Test.YtpnildiammmjcaaProg
import Derived.Test.YtpnildiammmjcaaRows
set_option linter.unusedVariables false
set_option linter.unusedSimpArgs false
/- Locations, opcodes, moves. -/
set_option linter.unusedVariables false
namespace Go.AE
open Go
abbrev I (n : Int) : D := .int .i64 n
abbrev AI (n : Int) : AV := .d (.int .i64 n)
abbrev AB (b : Bool) : AV := .d (.bool b)
structure Mach where (op d a b imm dst src : Int)
  deriving DecidableEq, Inhabited
def Mach.row (m : Mach) : List D := [I m.op, I m.d, I m.a, I m.b, I m.imm, I m.dst, I m.src]
def Mach.av (m : Mach) : AV := .agg [AI m.op, AI m.d, AI m.a, AI m.b, AI m.imm, AI m.dst, AI m.src]
def regZ (n : Int) : Int := IntKind.i64.wrap (2 * n)
def slotZ (n : Int) : Int := IntKind.i64.wrap (IntKind.i64.wrap (2 * n) + 1)
def mvM (dst src : Int) : Mach := ⟨18, 0, 0, 0, 0, dst, src⟩
section

theorem location_Slot_calls {P : Program} {p : Nums} (A : All P p) (x : Int) : CallsTo P p.location_Slot [AI x] [] fun o _ => o = .ret (AI (slotZ x)) := by
  refine A.location_Slot.run rfl fun R hR => ?_
  (simp (config := { maxSteps := 1000000 }) [ic_location_Slot])
  (first | exact hR _ _ (Fin_ret _ rfl rfl rfl) | exact hR _ _ (Fin_normal _ rfl rfl rfl) | exact hR _ _ (Fin_ret _ rfl rfl (by simp [AV.erase, AV.unview]; done)) | exact hR _ _ (Fin_normal _ rfl rfl (by simp [AV.erase, AV.unview]; done)) | fail "no end")
theorem location_Reg_calls {P : Program} {p : Nums} (A : All P p) (x : Int) : CallsTo P p.location_Reg [AI x] [] fun o _ => o = .ret (AI (regZ x)) := by
  refine A.location_Reg.run rfl fun R hR => ?_
  (simp (config := { maxSteps := 1000000 }) [ic_location_Reg])
  (first | exact hR _ _ (Fin_ret _ rfl rfl rfl) | exact hR _ _ (Fin_normal _ rfl rfl rfl) | exact hR _ _ (Fin_ret _ rfl rfl (by simp [AV.erase, AV.unview]; done)) | exact hR _ _ (Fin_normal _ rfl rfl (by simp [AV.erase, AV.unview]; done)) | fail "no end")
theorem spillall_load_calls {P : Program} {p : Nums} (A : All P p) (x y : Int) : CallsTo P p.spillall_load [AI x, AI y] [] fun o _ => o = .ret (mvM (regZ x) (slotZ y)).av := by
  refine A.spillall_load.run rfl fun R hR => ?_
  (simp (config := { maxSteps := 1000000 }) [ic_spillall_load])
  (refine AWcall_det (location_Reg_calls A _) (by rfl) (by rfl) ?_)
  (simp (config := { maxSteps := 1000000 }) [])
  (refine AWcall_det (location_Slot_calls A _) (by rfl) (by rfl) ?_)
  (simp (config := { maxSteps := 1000000 }) [])
  (first | exact hR _ _ (Fin_ret _ rfl rfl rfl) | exact hR _ _ (Fin_normal _ rfl rfl rfl) | exact hR _ _ (Fin_ret _ rfl rfl (by simp [AV.erase, AV.unview]; done)) | exact hR _ _ (Fin_normal _ rfl rfl (by simp [AV.erase, AV.unview]; done)) | fail "no end")
theorem spillall_store_calls {P : Program} {p : Nums} (A : All P p) (y : Int) : CallsTo P p.spillall_store [AI y] [] fun o _ => o = .ret (mvM (slotZ y) (regZ 0)).av := by
  refine A.spillall_store.run rfl fun R hR => ?_
  (simp (config := { maxSteps := 1000000 }) [ic_spillall_store])
  (refine AWcall_det (location_Slot_calls A _) (by rfl) (by rfl) ?_)
  (simp (config := { maxSteps := 1000000 }) [])
  (refine AWcall_det (location_Reg_calls A _) (by rfl) (by rfl) ?_)
  (simp (config := { maxSteps := 1000000 }) [])
  (first | exact hR _ _ (Fin_ret _ rfl rfl rfl) | exact hR _ _ (Fin_normal _ rfl rfl rfl) | exact hR _ _ (Fin_ret _ rfl rfl (by simp [AV.erase, AV.unview]; done)) | exact hR _ _ (Fin_normal _ rfl rfl (by simp [AV.erase, AV.unview]; done)) | fail "no end")
theorem ref22_move_calls {P : Program} {p : Nums} (A : All P p) (x y : Int) : CallsTo P p.ref22_move [AI x, AI y] [] fun o _ => o = .ret (mvM x y).av := by
  refine A.ref22_move.run rfl fun R hR => ?_
  (simp (config := { maxSteps := 1000000 }) [ic_ref22_move])
  (first | exact hR _ _ (Fin_ret _ rfl rfl rfl) | exact hR _ _ (Fin_normal _ rfl rfl rfl) | exact hR _ _ (Fin_ret _ rfl rfl (by simp [AV.erase, AV.unview]; done)) | exact hR _ _ (Fin_normal _ rfl rfl (by simp [AV.erase, AV.unview]; done)) | fail "no end")
def knownZ (x : Int) : Bool := decide (1 ≤ x ∧ x ≤ 18)
theorem opcode_known_calls {P : Program} {p : Nums} (A : All P p) (x : Int) : CallsTo P p.opcode_known [AI x] [] fun o _ => o = .ret (AB (knownZ x)) := by
  refine A.opcode_known.run rfl fun R hR => ?_
  (simp (config := { maxSteps := 1000000 }) [ic_opcode_known])
  ((first | refine AW_cond_split _ (by rfl) (fun hx => ?_) (fun hx => ?_) | refine AWop_split _ (by rfl) (fun hx => ?_) (fun hx => ?_)) <;> (try simp only [decide_eq_true_eq, decide_eq_false_iff_not, Bool.not_eq_true', Bool.not_eq_false', Bool.and_eq_true, Bool.or_eq_true, beq_iff_eq, bne_iff_ne, ne_eq, beq_eq_false_iff_ne, bne_eq_false_iff_eq] at hx))
  · (simp (config := { maxSteps := 1000000 }) [hx])
    (first | exact hR _ _ (Fin_ret _ rfl rfl rfl) | exact hR _ _ (Fin_normal _ rfl rfl rfl) | exact hR _ _ (Fin_ret _ rfl rfl (by simp [AV.erase, AV.unview, knownZ, hx]; done)) | exact hR _ _ (Fin_normal _ rfl rfl (by simp [AV.erase, AV.unview, knownZ, hx]; done)) | fail "no end")
  · (simp (config := { maxSteps := 1000000 }) [hx])
    (first | exact hR _ _ (Fin_ret _ rfl rfl rfl) | exact hR _ _ (Fin_normal _ rfl rfl rfl) | exact hR _ _ (Fin_ret _ rfl rfl (by simp [AV.erase, AV.unview, knownZ, hx]; done)) | exact hR _ _ (Fin_normal _ rfl rfl (by simp [AV.erase, AV.unview, knownZ, hx]; done)) | fail "no end")
structure Shape where (D A B Imm : Bool)
def shapeZ (x : Int) : Shape :=
  if knownZ x = false then ⟨false, false, false, false⟩ else if x = 1 then ⟨true, false, false, true⟩ else if x ≤ 4 then ⟨true, true, false, false⟩ else if x ≤ 16 then ⟨true, true, true, false⟩ else ⟨false, x == 17, false, false⟩
theorem opcode_Of_calls {P : Program} {p : Nums} (A : All P p) (x : Int) : CallsTo P p.opcode_Of [AI x] [] fun o _ => o = .ret (.tup [.agg [AB (shapeZ x).D, AB (shapeZ x).A, AB (shapeZ x).B, AB (shapeZ x).Imm], AB (knownZ x)]) := by
  refine A.opcode_Of.run rfl fun R hR => ?_
  (simp (config := { maxSteps := 1000000 }) [ic_opcode_Of])
  (refine AWcall_det (opcode_known_calls A _) (by rfl) (by rfl) ?_)
  (simp (config := { maxSteps := 1000000 }) [])
  ((first | refine AW_cond_split _ (by rfl) (fun h1 => ?_) (fun h1 => ?_) | refine AWop_split _ (by rfl) (fun h1 => ?_) (fun h1 => ?_)) <;> (try simp only [decide_eq_true_eq, decide_eq_false_iff_not, Bool.not_eq_true', Bool.not_eq_false', Bool.and_eq_true, Bool.or_eq_true, beq_iff_eq, bne_iff_ne, ne_eq, beq_eq_false_iff_ne, bne_eq_false_iff_eq] at h1))
  · (simp (config := { maxSteps := 1000000 }) [h1])
    (first | exact hR _ _ (Fin_ret _ rfl rfl rfl) | exact hR _ _ (Fin_normal _ rfl rfl rfl) | exact hR _ _ (Fin_ret _ rfl rfl (by simp [AV.erase, AV.unview, shapeZ, h1]; done)) | exact hR _ _ (Fin_normal _ rfl rfl (by simp [AV.erase, AV.unview, shapeZ, h1]; done)) | fail "no end")
  · (simp (config := { maxSteps := 1000000 }) [h1])
    ((first | refine AW_cond_split _ (by rfl) (fun h2 => ?_) (fun h2 => ?_) | refine AWop_split _ (by rfl) (fun h2 => ?_) (fun h2 => ?_)) <;> (try simp only [decide_eq_true_eq, decide_eq_false_iff_not, Bool.not_eq_true', Bool.not_eq_false', Bool.and_eq_true, Bool.or_eq_true, beq_iff_eq, bne_iff_ne, ne_eq, beq_eq_false_iff_ne, bne_eq_false_iff_eq] at h2))
    · subst h2
      (simp (config := { maxSteps := 1000000 }) [])
      (first | exact hR _ _ (Fin_ret _ rfl rfl rfl) | exact hR _ _ (Fin_normal _ rfl rfl rfl) | exact hR _ _ (Fin_ret _ rfl rfl (by simp [AV.erase, AV.unview, shapeZ, h1]; done)) | exact hR _ _ (Fin_normal _ rfl rfl (by simp [AV.erase, AV.unview, shapeZ, h1]; done)) | fail "no end")
    · (simp (config := { maxSteps := 1000000 }) [h2])
      ((first | refine AW_cond_split _ (by rfl) (fun h3 => ?_) (fun h3 => ?_) | refine AWop_split _ (by rfl) (fun h3 => ?_) (fun h3 => ?_)) <;> (try simp only [decide_eq_true_eq, decide_eq_false_iff_not, Bool.not_eq_true', Bool.not_eq_false', Bool.and_eq_true, Bool.or_eq_true, beq_iff_eq, bne_iff_ne, ne_eq, beq_eq_false_iff_ne, bne_eq_false_iff_eq] at h3))
      · (simp (config := { maxSteps := 1000000 }) [h3])
        (first | exact hR _ _ (Fin_ret _ rfl rfl rfl) | exact hR _ _ (Fin_normal _ rfl rfl rfl) | exact hR _ _ (Fin_ret _ rfl rfl (by simp [AV.erase, AV.unview, shapeZ, h1, h2, h3]; done)) | exact hR _ _ (Fin_normal _ rfl rfl (by simp [AV.erase, AV.unview, shapeZ, h1, h2, h3]; done)) | fail "no end")
      · (simp (config := { maxSteps := 1000000 }) [h3])
        ((first | refine AW_cond_split _ (by rfl) (fun h4 => ?_) (fun h4 => ?_) | refine AWop_split _ (by rfl) (fun h4 => ?_) (fun h4 => ?_)) <;> (try simp only [decide_eq_true_eq, decide_eq_false_iff_not, Bool.not_eq_true', Bool.not_eq_false', Bool.and_eq_true, Bool.or_eq_true, beq_iff_eq, bne_iff_ne, ne_eq, beq_eq_false_iff_ne, bne_eq_false_iff_eq] at h4))
        · (simp (config := { maxSteps := 1000000 }) [h4])
          (first | exact hR _ _ (Fin_ret _ rfl rfl rfl) | exact hR _ _ (Fin_normal _ rfl rfl rfl) | exact hR _ _ (Fin_ret _ rfl rfl (by simp [AV.erase, AV.unview, shapeZ, h1, h2, h3, h4]; done)) | exact hR _ _ (Fin_normal _ rfl rfl (by simp [AV.erase, AV.unview, shapeZ, h1, h2, h3, h4]; done)) | fail "no end")
        · (simp (config := { maxSteps := 1000000 }) [h4])
          (first | exact hR _ _ (Fin_ret _ rfl rfl rfl) | exact hR _ _ (Fin_normal _ rfl rfl rfl) | exact hR _ _ (Fin_ret _ rfl rfl (by simp [AV.erase, AV.unview, shapeZ, h1, h2, h3, h4]; done)) | exact hR _ _ (Fin_normal _ rfl rfl (by simp [AV.erase, AV.unview, shapeZ, h1, h2, h3, h4]; done)) | fail "no end")
def sourceZ (x : Int) : Bool := knownZ x && x != 18
theorem opcode_Source_calls {P : Program} {p : Nums} (A : All P p) (x : Int) : CallsTo P p.opcode_Source [AI x] [] fun o _ => o = .ret (AB (sourceZ x)) := by
  refine A.opcode_Source.run rfl fun R hR => ?_
  (simp (config := { maxSteps := 1000000 }) [ic_opcode_Source])
  (refine AWcall_det (opcode_known_calls A _) (by rfl) (by rfl) ?_)
  (simp (config := { maxSteps := 1000000 }) [])
  ((first | refine AW_cond_split _ (by rfl) (fun h1 => ?_) (fun h1 => ?_) | refine AWop_split _ (by rfl) (fun h1 => ?_) (fun h1 => ?_)) <;> (try simp only [decide_eq_true_eq, decide_eq_false_iff_not, Bool.not_eq_true', Bool.not_eq_false', Bool.and_eq_true, Bool.or_eq_true, beq_iff_eq, bne_iff_ne, ne_eq, beq_eq_false_iff_ne, bne_eq_false_iff_eq] at h1))
  · (simp (config := { maxSteps := 1000000 }) [h1])
    (first | exact hR _ _ (Fin_ret _ rfl rfl rfl) | exact hR _ _ (Fin_normal _ rfl rfl rfl) | exact hR _ _ (Fin_ret _ rfl rfl (by simp [AV.erase, AV.unview, h1, sourceZ]; done)) | exact hR _ _ (Fin_normal _ rfl rfl (by simp [AV.erase, AV.unview, h1, sourceZ]; done)) | fail "no end")
  · (simp (config := { maxSteps := 1000000 }) [h1])
    (first | exact hR _ _ (Fin_ret _ rfl rfl rfl) | exact hR _ _ (Fin_normal _ rfl rfl rfl) | exact hR _ _ (Fin_ret _ rfl rfl (by simp [AV.erase, AV.unview, h1, sourceZ]; done)) | exact hR _ _ (Fin_normal _ rfl rfl (by simp [AV.erase, AV.unview, h1, sourceZ]; done)) | fail "no end")
def inZ (x n : Int) : Bool := decide (0 ≤ x ∧ x < n)
theorem ref07_in_calls {P : Program} {p : Nums} (A : All P p) (x n : Int) : CallsTo P p.ref07_in [AI x, AI n] [] fun o _ => o = .ret (AB (inZ x n)) := by
  refine A.ref07_in.run rfl fun R hR => ?_
  (simp (config := { maxSteps := 1000000 }) [ic_ref07_in])
  ((first | refine AW_cond_split _ (by rfl) (fun h1 => ?_) (fun h1 => ?_) | refine AWop_split _ (by rfl) (fun h1 => ?_) (fun h1 => ?_)) <;> (try simp only [decide_eq_true_eq, decide_eq_false_iff_not, Bool.not_eq_true', Bool.not_eq_false', Bool.and_eq_true, Bool.or_eq_true, beq_iff_eq, bne_iff_ne, ne_eq, beq_eq_false_iff_ne, bne_eq_false_iff_eq] at h1))
  · (simp (config := { maxSteps := 1000000 }) [h1])
    (first | exact hR _ _ (Fin_ret _ rfl rfl rfl) | exact hR _ _ (Fin_normal _ rfl rfl rfl) | exact hR _ _ (Fin_ret _ rfl rfl (by simp [AV.erase, AV.unview, h1, inZ]; done)) | exact hR _ _ (Fin_normal _ rfl rfl (by simp [AV.erase, AV.unview, h1, inZ]; done)) | fail "no end")
  · (simp (config := { maxSteps := 1000000 }) [h1])
    (first | exact hR _ _ (Fin_ret _ rfl rfl rfl) | exact hR _ _ (Fin_normal _ rfl rfl rfl) | exact hR _ _ (Fin_ret _ rfl rfl (by simp [AV.erase, AV.unview, h1, inZ]; done)) | exact hR _ _ (Fin_normal _ rfl rfl (by simp [AV.erase, AV.unview, h1, inZ]; done)) | fail "no end")
def usesA (x : Int) : Bool := decide (2 ≤ x ∧ x ≤ 17)
theorem ref05_UsesA_calls {P : Program} {p : Nums} (A : All P p) (x : Int) : CallsTo P p.ref05_UsesA [AI x] [] fun o _ => o = .ret (AB (usesA x)) := by
  refine A.ref05_UsesA.run rfl fun R hR => ?_
  (simp (config := { maxSteps := 1000000 }) [ic_ref05_UsesA])
  ((first | refine AW_cond_split _ (by rfl) (fun hx => ?_) (fun hx => ?_) | refine AWop_split _ (by rfl) (fun hx => ?_) (fun hx => ?_)) <;> (try simp only [decide_eq_true_eq, decide_eq_false_iff_not, Bool.not_eq_true', Bool.not_eq_false', Bool.and_eq_true, Bool.or_eq_true, beq_iff_eq, bne_iff_ne, ne_eq, beq_eq_false_iff_ne, bne_eq_false_iff_eq] at hx))
  · (simp (config := { maxSteps := 1000000 }) [hx])
    (first | exact hR _ _ (Fin_ret _ rfl rfl rfl) | exact hR _ _ (Fin_normal _ rfl rfl rfl) | exact hR _ _ (Fin_ret _ rfl rfl (by simp [AV.erase, AV.unview, usesA, hx]; done)) | exact hR _ _ (Fin_normal _ rfl rfl (by simp [AV.erase, AV.unview, usesA, hx]; done)) | fail "no end")
  · (simp (config := { maxSteps := 1000000 }) [hx])
    (first | exact hR _ _ (Fin_ret _ rfl rfl rfl) | exact hR _ _ (Fin_normal _ rfl rfl rfl) | exact hR _ _ (Fin_ret _ rfl rfl (by simp [AV.erase, AV.unview, usesA, hx]; done)) | exact hR _ _ (Fin_normal _ rfl rfl (by simp [AV.erase, AV.unview, usesA, hx]; done)) | fail "no end")
def usesB (x : Int) : Bool := decide (5 ≤ x ∧ x ≤ 16)
theorem ref05_UsesB_calls {P : Program} {p : Nums} (A : All P p) (x : Int) : CallsTo P p.ref05_UsesB [AI x] [] fun o _ => o = .ret (AB (usesB x)) := by
  refine A.ref05_UsesB.run rfl fun R hR => ?_
  (simp (config := { maxSteps := 1000000 }) [ic_ref05_UsesB])
  ((first | refine AW_cond_split _ (by rfl) (fun hx => ?_) (fun hx => ?_) | refine AWop_split _ (by rfl) (fun hx => ?_) (fun hx => ?_)) <;> (try simp only [decide_eq_true_eq, decide_eq_false_iff_not, Bool.not_eq_true', Bool.not_eq_false', Bool.and_eq_true, Bool.or_eq_true, beq_iff_eq, bne_iff_ne, ne_eq, beq_eq_false_iff_ne, bne_eq_false_iff_eq] at hx))
  · (simp (config := { maxSteps := 1000000 }) [hx])
    (first | exact hR _ _ (Fin_ret _ rfl rfl rfl) | exact hR _ _ (Fin_normal _ rfl rfl rfl) | exact hR _ _ (Fin_ret _ rfl rfl (by simp [AV.erase, AV.unview, usesB, hx]; done)) | exact hR _ _ (Fin_normal _ rfl rfl (by simp [AV.erase, AV.unview, usesB, hx]; done)) | fail "no end")
  · (simp (config := { maxSteps := 1000000 }) [hx])
    (first | exact hR _ _ (Fin_ret _ rfl rfl rfl) | exact hR _ _ (Fin_normal _ rfl rfl rfl) | exact hR _ _ (Fin_ret _ rfl rfl (by simp [AV.erase, AV.unview, usesB, hx]; done)) | exact hR _ _ (Fin_normal _ rfl rfl (by simp [AV.erase, AV.unview, usesB, hx]; done)) | fail "no end")
def usesD (x : Int) : Bool := decide (1 ≤ x ∧ x ≤ 16)
theorem ref05_UsesD_calls {P : Program} {p : Nums} (A : All P p) (x : Int) : CallsTo P p.ref05_UsesD [AI x] [] fun o _ => o = .ret (AB (usesD x)) := by
  refine A.ref05_UsesD.run rfl fun R hR => ?_
  (simp (config := { maxSteps := 1000000 }) [ic_ref05_UsesD])
  ((first | refine AW_cond_split _ (by rfl) (fun hx => ?_) (fun hx => ?_) | refine AWop_split _ (by rfl) (fun hx => ?_) (fun hx => ?_)) <;> (try simp only [decide_eq_true_eq, decide_eq_false_iff_not, Bool.not_eq_true', Bool.not_eq_false', Bool.and_eq_true, Bool.or_eq_true, beq_iff_eq, bne_iff_ne, ne_eq, beq_eq_false_iff_ne, bne_eq_false_iff_eq] at hx))
  · (simp (config := { maxSteps := 1000000 }) [hx])
    (first | exact hR _ _ (Fin_ret _ rfl rfl rfl) | exact hR _ _ (Fin_normal _ rfl rfl rfl) | exact hR _ _ (Fin_ret _ rfl rfl (by simp [AV.erase, AV.unview, usesD, hx]; done)) | exact hR _ _ (Fin_normal _ rfl rfl (by simp [AV.erase, AV.unview, usesD, hx]; done)) | fail "no end")
  · (simp (config := { maxSteps := 1000000 }) [hx])
    (first | exact hR _ _ (Fin_ret _ rfl rfl rfl) | exact hR _ _ (Fin_normal _ rfl rfl rfl) | exact hR _ _ (Fin_ret _ rfl rfl (by simp [AV.erase, AV.unview, usesD, hx]; done)) | exact hR _ _ (Fin_normal _ rfl rfl (by simp [AV.erase, AV.unview, usesD, hx]; done)) | fail "no end")
end
end Go.AE

/- The source functions' check. -/
set_option linter.unusedVariables false
namespace Go.AE
open Go
structure Field where (value : Int) (used : Bool) (bound : Int)
def Field.row (f : Field) : List D := [I f.value, .bool f.used, I f.bound]
def Field.bad (f : Field) : Bool := f.used && (decide (f.value < 0) || decide (f.bound ≤ f.value))
def withinZ (fs : List Field) : Bool := !fs.any Field.bad
section
theorem source_within_calls {P : Program} {p : Nums} (A : All P p) (fs : List Field) (hl : fs.length < 1000000) : CallsTo P p.source_within [.d (.sl (fs.map Field.row))] [] fun o _ => o = .ret (AB (withinZ fs)) := by
  refine A.source_within.run rfl fun R hR => ?_
  (simp (config := { maxSteps := 1000000 }) [ic_source_within])
  refine AW_loop (fun k : Nat => ⟨[(7, AI k), (6, AI fs.length), (5, .d (.sl (fs.map Field.row))), (2, AB false)], []⟩) (fun k => k ≤ fs.length ∧ (fs.take k).any Field.bad = false) (fun k => fs.length - k) 0 (by simp) (by (refine Wk.of ?_ ?_ (by simp) <;> repeat' (first | exact True.intro | exact ⟨_, rfl, wkt_same rfl⟩ | exact ⟨_, rfl, wkt_erase rfl⟩ | exact ⟨_, rfl, .inl .nild⟩ | exact ⟨_, rfl, wkt_nils⟩ | exact wkt_same rfl | exact wkt_erase rfl | exact .inl .nild | exact wkt_nils | exact WkB.same rfl | exact WkB_rows | exact WkB_nil | exact .dead _ | refine WkB_cons ?_ ?_ | refine And.intro ?_ ?_))) ?_
  rintro k ⟨hk, hno⟩ N hN
  (simp (config := { maxSteps := 1000000 }) [])
  ((first | refine AW_cond_split _ (by rfl) (fun h1 => ?_) (fun h1 => ?_) | refine AWop_split _ (by rfl) (fun h1 => ?_) (fun h1 => ?_)) <;> (try simp only [decide_eq_true_eq, decide_eq_false_iff_not, Bool.not_eq_true', Bool.not_eq_false', Bool.and_eq_true, Bool.or_eq_true, beq_iff_eq, bne_iff_ne, ne_eq, beq_eq_false_iff_ne, bne_eq_false_iff_eq] at h1))
  · have hkl : k < fs.length := by simpa using h1
    have hf : fs[k]? = some fs[k] := by simp [hkl]
    have hw := wrap_succ (k := k) (by omega)
    have htk : fs.take (k + 1) = fs.take k ++ [fs[k]] := by rw [List.take_add_one, hf]; rfl
    have hany : withinZ fs = true → fs[k].bad = false := by
      intro h; simp [withinZ] at h; exact h _ (List.getElem_mem hkl)
    have next : ∀ env H, fs[k].bad = false → Wk 0 ⟨env, H⟩ ⟨[(7, AI ((k + 1 : Nat) : Int)), (6, AI fs.length), (5, .d (.sl (fs.map Field.row))), (2, AB false)], []⟩ → N ⟨env, H⟩ :=
      fun env H hb hw => hN _ (k + 1) ⟨hkl, by rw [htk, List.any_append, hno]; simp [hb]⟩ hw (by omega)
    have stop : fs[k].bad = true → withinZ fs = false := by
      intro h; cases hz : withinZ fs with
      | false => rfl
      | true => rw [hany hz] at h; cases h
    (simp (config := { maxSteps := 1000000 }) [h1, hf, Field.row])
    ((first | refine AW_cond_split _ (by rfl) (fun h2 => ?_) (fun h2 => ?_) | refine AWop_split _ (by rfl) (fun h2 => ?_) (fun h2 => ?_)) <;> (try simp only [decide_eq_true_eq, decide_eq_false_iff_not, Bool.not_eq_true', Bool.not_eq_false', Bool.and_eq_true, Bool.or_eq_true, beq_iff_eq, bne_iff_ne, ne_eq, beq_eq_false_iff_ne, bne_eq_false_iff_eq] at h2))
    · (simp (config := { maxSteps := 1000000 }) [h2])
      ((first | refine AW_cond_split _ (by rfl) (fun h3 => ?_) (fun h3 => ?_) | refine AWop_split _ (by rfl) (fun h3 => ?_) (fun h3 => ?_)) <;> (try simp only [decide_eq_true_eq, decide_eq_false_iff_not, Bool.not_eq_true', Bool.not_eq_false', Bool.and_eq_true, Bool.or_eq_true, beq_iff_eq, bne_iff_ne, ne_eq, beq_eq_false_iff_ne, bne_eq_false_iff_eq] at h3))
      · (simp (config := { maxSteps := 1000000 }) [h2, h3])
        (first | exact hR _ _ (Fin_ret _ rfl rfl rfl) | exact hR _ _ (Fin_normal _ rfl rfl rfl) | exact hR _ _ (Fin_ret _ rfl rfl (by simp [AV.erase, AV.unview, stop (by simp [Field.bad, h2, h3])]; done)) | exact hR _ _ (Fin_normal _ rfl rfl (by simp [AV.erase, AV.unview, stop (by simp [Field.bad, h2, h3])]; done)) | fail "no end")
      · (simp (config := { maxSteps := 1000000 }) [h2, h3])
        ((first | refine AW_cond_split _ (by rfl) (fun h4 => ?_) (fun h4 => ?_) | refine AWop_split _ (by rfl) (fun h4 => ?_) (fun h4 => ?_)) <;> (try simp only [decide_eq_true_eq, decide_eq_false_iff_not, Bool.not_eq_true', Bool.not_eq_false', Bool.and_eq_true, Bool.or_eq_true, beq_iff_eq, bne_iff_ne, ne_eq, beq_eq_false_iff_ne, bne_eq_false_iff_eq] at h4))
        · (simp (config := { maxSteps := 1000000 }) [h2, h3, h4])
          (first | exact hR _ _ (Fin_ret _ rfl rfl rfl) | exact hR _ _ (Fin_normal _ rfl rfl rfl) | exact hR _ _ (Fin_ret _ rfl rfl (by simp [AV.erase, AV.unview, stop (by simp [Field.bad, h2, h3, h4])]; done)) | exact hR _ _ (Fin_normal _ rfl rfl (by simp [AV.erase, AV.unview, stop (by simp [Field.bad, h2, h3, h4])]; done)) | fail "no end")
        · (simp (config := { maxSteps := 1000000 }) [h2, h3, h4, hw])
          exact next _ _ (by simp [Field.bad, h2, h3, h4]) (by (refine Wk.of ?_ ?_ (by simp) <;> repeat' (first | exact True.intro | exact ⟨_, rfl, wkt_same rfl⟩ | exact ⟨_, rfl, wkt_erase rfl⟩ | exact ⟨_, rfl, .inl .nild⟩ | exact ⟨_, rfl, wkt_nils⟩ | exact wkt_same rfl | exact wkt_erase rfl | exact .inl .nild | exact wkt_nils | exact WkB.same rfl | exact WkB_rows | exact WkB_nil | exact .dead _ | refine WkB_cons ?_ ?_ | refine And.intro ?_ ?_)))
    · (simp (config := { maxSteps := 1000000 }) [h2, hw])
      exact next _ _ (by simp [Field.bad, h2]) (by (refine Wk.of ?_ ?_ (by simp) <;> repeat' (first | exact True.intro | exact ⟨_, rfl, wkt_same rfl⟩ | exact ⟨_, rfl, wkt_erase rfl⟩ | exact ⟨_, rfl, .inl .nild⟩ | exact ⟨_, rfl, wkt_nils⟩ | exact wkt_same rfl | exact wkt_erase rfl | exact .inl .nild | exact wkt_nils | exact WkB.same rfl | exact WkB_rows | exact WkB_nil | exact .dead _ | refine WkB_cons ?_ ?_ | refine And.intro ?_ ?_)))
  · (simp (config := { maxSteps := 1000000 }) [h1])
    have hk' : k = fs.length := by simp at h1; omega
    subst hk'
    rw [List.take_length] at hno
    (first | exact hR _ _ (Fin_ret _ rfl rfl rfl) | exact hR _ _ (Fin_normal _ rfl rfl rfl) | exact hR _ _ (Fin_ret _ rfl rfl (by simp [AV.erase, AV.unview, withinZ, hno]; done)) | exact hR _ _ (Fin_normal _ rfl rfl (by simp [AV.erase, AV.unview, withinZ, hno]; done)) | fail "no end")
end
end Go.AE

set_option linter.unusedVariables false
namespace Go.AE
open Go
def Field.odd (f : Field) : Bool := !f.used && f.value != 0
def blankZ (fs : List Field) : Bool := !fs.any Field.odd
structure Instr where (op d a b imm : Int)
  deriving DecidableEq, Inhabited
def Instr.row (i : Instr) : List D := [I i.op, I i.d, I i.a, I i.b, I i.imm]
def Instr.av (i : Instr) : AV := .agg [AI i.op, AI i.d, AI i.a, AI i.b, AI i.imm]
structure Term where (kind a to els : Int)
  deriving DecidableEq, Inhabited
def Term.row (i : Term) : List D := [I i.kind, I i.a, I i.to, I i.els]
def Term.av (i : Term) : AV := .agg [AI i.kind, AI i.a, AI i.to, AI i.els]
def flds (i : Instr) (regs : Int) : List Field := [⟨i.d, (shapeZ i.op).D, regs⟩, ⟨i.a, (shapeZ i.op).A, regs⟩, ⟨i.b, (shapeZ i.op).B, regs⟩]
def srcInstrZ (i : Instr) (regs : Int) : Int :=
  if sourceZ i.op = false then 8 else if withinZ (flds i regs) = false then 9 else if blankZ (flds i regs) = false then 12 else if (shapeZ i.op).Imm = false ∧ i.imm ≠ 0 then 12 else 0
section
theorem source_blank_calls {P : Program} {p : Nums} (A : All P p) (fs : List Field) (hl : fs.length < 1000000) : CallsTo P p.source_blank [.d (.sl (fs.map Field.row))] [] fun o _ => o = .ret (AB (blankZ fs)) := by
  refine A.source_blank.run rfl fun R hR => ?_
  (simp (config := { maxSteps := 1000000 }) [ic_source_blank])
  refine AW_loop (fun k : Nat => ⟨[(7, AI k), (6, AI fs.length), (5, .d (.sl (fs.map Field.row))), (2, AB false)], []⟩) (fun k => k ≤ fs.length ∧ (fs.take k).any Field.odd = false) (fun k => fs.length - k) 0 (by simp) (by (refine Wk.of ?_ ?_ (by simp) <;> repeat' (first | exact True.intro | exact ⟨_, rfl, wkt_same rfl⟩ | exact ⟨_, rfl, wkt_erase rfl⟩ | exact ⟨_, rfl, .inl .nild⟩ | exact ⟨_, rfl, wkt_nils⟩ | exact wkt_same rfl | exact wkt_erase rfl | exact .inl .nild | exact wkt_nils | exact WkB.same rfl | exact WkB_rows | exact WkB_nil | exact .dead _ | refine WkB_cons ?_ ?_ | refine And.intro ?_ ?_))) ?_
  rintro k ⟨hk, hno⟩ N hN
  (simp (config := { maxSteps := 1000000 }) [])
  ((first | refine AW_cond_split _ (by rfl) (fun h1 => ?_) (fun h1 => ?_) | refine AWop_split _ (by rfl) (fun h1 => ?_) (fun h1 => ?_)) <;> (try simp only [decide_eq_true_eq, decide_eq_false_iff_not, Bool.not_eq_true', Bool.not_eq_false', Bool.and_eq_true, Bool.or_eq_true, beq_iff_eq, bne_iff_ne, ne_eq, beq_eq_false_iff_ne, bne_eq_false_iff_eq] at h1))
  · have hkl : k < fs.length := by simpa using h1
    have hf : fs[k]? = some fs[k] := by simp [hkl]
    have hw := wrap_succ (k := k) (by omega)
    have htk : fs.take (k + 1) = fs.take k ++ [fs[k]] := by rw [List.take_add_one, hf]; rfl
    have hany : blankZ fs = true → fs[k].odd = false := by
      intro h; simp [blankZ] at h; exact h _ (List.getElem_mem hkl)
    have next : ∀ env H, fs[k].odd = false → Wk 0 ⟨env, H⟩ ⟨[(7, AI ((k + 1 : Nat) : Int)), (6, AI fs.length), (5, .d (.sl (fs.map Field.row))), (2, AB false)], []⟩ → N ⟨env, H⟩ :=
      fun env H hb hw => hN _ (k + 1) ⟨hkl, by rw [htk, List.any_append, hno]; simp [hb]⟩ hw (by omega)
    have stop : fs[k].odd = true → blankZ fs = false := by
      intro h; cases hz : blankZ fs with
      | false => rfl
      | true => rw [hany hz] at h; cases h
    (simp (config := { maxSteps := 1000000 }) [h1, hf, Field.row])
    ((first | refine AW_cond_split _ (by rfl) (fun h2 => ?_) (fun h2 => ?_) | refine AWop_split _ (by rfl) (fun h2 => ?_) (fun h2 => ?_)) <;> (try simp only [decide_eq_true_eq, decide_eq_false_iff_not, Bool.not_eq_true', Bool.not_eq_false', Bool.and_eq_true, Bool.or_eq_true, beq_iff_eq, bne_iff_ne, ne_eq, beq_eq_false_iff_ne, bne_eq_false_iff_eq] at h2))
    · (simp (config := { maxSteps := 1000000 }) [h2])
      ((first | refine AW_cond_split _ (by rfl) (fun h3 => ?_) (fun h3 => ?_) | refine AWop_split _ (by rfl) (fun h3 => ?_) (fun h3 => ?_)) <;> (try simp only [decide_eq_true_eq, decide_eq_false_iff_not, Bool.not_eq_true', Bool.not_eq_false', Bool.and_eq_true, Bool.or_eq_true, beq_iff_eq, bne_iff_ne, ne_eq, beq_eq_false_iff_ne, bne_eq_false_iff_eq] at h3))
      · (simp (config := { maxSteps := 1000000 }) [h2, h3])
        (first | exact hR _ _ (Fin_ret _ rfl rfl rfl) | exact hR _ _ (Fin_normal _ rfl rfl rfl) | exact hR _ _ (Fin_ret _ rfl rfl (by simp [AV.erase, AV.unview, stop (by simp [Field.odd, h2, h3])]; done)) | exact hR _ _ (Fin_normal _ rfl rfl (by simp [AV.erase, AV.unview, stop (by simp [Field.odd, h2, h3])]; done)) | fail "no end")
      · (simp (config := { maxSteps := 1000000 }) [h2, h3, hw])
        exact next _ _ (by simp [Field.odd, h2, h3]) (by (refine Wk.of ?_ ?_ (by simp) <;> repeat' (first | exact True.intro | exact ⟨_, rfl, wkt_same rfl⟩ | exact ⟨_, rfl, wkt_erase rfl⟩ | exact ⟨_, rfl, .inl .nild⟩ | exact ⟨_, rfl, wkt_nils⟩ | exact wkt_same rfl | exact wkt_erase rfl | exact .inl .nild | exact wkt_nils | exact WkB.same rfl | exact WkB_rows | exact WkB_nil | exact .dead _ | refine WkB_cons ?_ ?_ | refine And.intro ?_ ?_)))
    · (simp (config := { maxSteps := 1000000 }) [h2, hw])
      exact next _ _ (by simp [Field.odd, h2]) (by (refine Wk.of ?_ ?_ (by simp) <;> repeat' (first | exact True.intro | exact ⟨_, rfl, wkt_same rfl⟩ | exact ⟨_, rfl, wkt_erase rfl⟩ | exact ⟨_, rfl, .inl .nild⟩ | exact ⟨_, rfl, wkt_nils⟩ | exact wkt_same rfl | exact wkt_erase rfl | exact .inl .nild | exact wkt_nils | exact WkB.same rfl | exact WkB_rows | exact WkB_nil | exact .dead _ | refine WkB_cons ?_ ?_ | refine And.intro ?_ ?_)))
  · (simp (config := { maxSteps := 1000000 }) [h1])
    have hk' : k = fs.length := by simp at h1; omega
    subst hk'
    rw [List.take_length] at hno
    (first | exact hR _ _ (Fin_ret _ rfl rfl rfl) | exact hR _ _ (Fin_normal _ rfl rfl rfl) | exact hR _ _ (Fin_ret _ rfl rfl (by simp [AV.erase, AV.unview, blankZ, hno]; done)) | exact hR _ _ (Fin_normal _ rfl rfl (by simp [AV.erase, AV.unview, blankZ, hno]; done)) | fail "no end")
theorem source_Instr_calls {P : Program} {p : Nums} (A : All P p) (i : Instr) (regs : Int) : CallsTo P p.source_Instr [i.av, AI regs] [] fun o _ => o = .ret (AI (srcInstrZ i regs)) := by
  have hflds : AV.d (.sl [[I i.d, .bool (shapeZ i.op).D, I regs], [I i.a, .bool (shapeZ i.op).A, I regs], [I i.b, .bool (shapeZ i.op).B, I regs]]) = .d (.sl ((flds i regs).map Field.row)) := rfl
  refine A.source_Instr.run rfl fun R hR => ?_
  (simp (config := { maxSteps := 1000000 }) [ic_source_Instr, Instr.av])
  (refine AWcall_det (opcode_Of_calls A _) (by rfl) (by rfl) ?_)
  (simp (config := { maxSteps := 1000000 }) [])
  (refine AWcall_det (opcode_Source_calls A _) (by rfl) (by rfl) ?_)
  (simp (config := { maxSteps := 1000000 }) [])
  ((first | refine AW_cond_split _ (by rfl) (fun h1 => ?_) (fun h1 => ?_) | refine AWop_split _ (by rfl) (fun h1 => ?_) (fun h1 => ?_)) <;> (try simp only [decide_eq_true_eq, decide_eq_false_iff_not, Bool.not_eq_true', Bool.not_eq_false', Bool.and_eq_true, Bool.or_eq_true, beq_iff_eq, bne_iff_ne, ne_eq, beq_eq_false_iff_ne, bne_eq_false_iff_eq] at h1))
  · (simp (config := { maxSteps := 1000000 }) [h1])
    (first | exact hR _ _ (Fin_ret _ rfl rfl rfl) | exact hR _ _ (Fin_normal _ rfl rfl rfl) | exact hR _ _ (Fin_ret _ rfl rfl (by simp [AV.erase, AV.unview, srcInstrZ, h1]; done)) | exact hR _ _ (Fin_normal _ rfl rfl (by simp [AV.erase, AV.unview, srcInstrZ, h1]; done)) | fail "no end")
  · (simp (config := { maxSteps := 1000000 }) [h1])
    (refine AWcall_det (source_within_calls A (flds i regs) (by simp [flds])) (by rfl) (by rfl) ?_)
    (simp (config := { maxSteps := 1000000 }) [])
    ((first | refine AW_cond_split _ (by rfl) (fun h2 => ?_) (fun h2 => ?_) | refine AWop_split _ (by rfl) (fun h2 => ?_) (fun h2 => ?_)) <;> (try simp only [decide_eq_true_eq, decide_eq_false_iff_not, Bool.not_eq_true', Bool.not_eq_false', Bool.and_eq_true, Bool.or_eq_true, beq_iff_eq, bne_iff_ne, ne_eq, beq_eq_false_iff_ne, bne_eq_false_iff_eq] at h2))
    · (simp (config := { maxSteps := 1000000 }) [h2])
      (first | exact hR _ _ (Fin_ret _ rfl rfl rfl) | exact hR _ _ (Fin_normal _ rfl rfl rfl) | exact hR _ _ (Fin_ret _ rfl rfl (by simp [AV.erase, AV.unview, srcInstrZ, h1, h2]; done)) | exact hR _ _ (Fin_normal _ rfl rfl (by simp [AV.erase, AV.unview, srcInstrZ, h1, h2]; done)) | fail "no end")
    · (simp (config := { maxSteps := 1000000 }) [h2])
      (refine AWcall_det (source_blank_calls A (flds i regs) (by simp [flds])) (by rfl) (by rfl) ?_)
      (simp (config := { maxSteps := 1000000 }) [])
      ((first | refine AW_cond_split _ (by rfl) (fun h3 => ?_) (fun h3 => ?_) | refine AWop_split _ (by rfl) (fun h3 => ?_) (fun h3 => ?_)) <;> (try simp only [decide_eq_true_eq, decide_eq_false_iff_not, Bool.not_eq_true', Bool.not_eq_false', Bool.and_eq_true, Bool.or_eq_true, beq_iff_eq, bne_iff_ne, ne_eq, beq_eq_false_iff_ne, bne_eq_false_iff_eq] at h3))
      · (simp (config := { maxSteps := 1000000 }) [h3])
        (first | exact hR _ _ (Fin_ret _ rfl rfl rfl) | exact hR _ _ (Fin_normal _ rfl rfl rfl) | exact hR _ _ (Fin_ret _ rfl rfl (by simp [AV.erase, AV.unview, srcInstrZ, h1, h2, h3]; done)) | exact hR _ _ (Fin_normal _ rfl rfl (by simp [AV.erase, AV.unview, srcInstrZ, h1, h2, h3]; done)) | fail "no end")
      · (simp (config := { maxSteps := 1000000 }) [h3])
        ((first | refine AW_cond_split _ (by rfl) (fun h4 => ?_) (fun h4 => ?_) | refine AWop_split _ (by rfl) (fun h4 => ?_) (fun h4 => ?_)) <;> (try simp only [decide_eq_true_eq, decide_eq_false_iff_not, Bool.not_eq_true', Bool.not_eq_false', Bool.and_eq_true, Bool.or_eq_true, beq_iff_eq, bne_iff_ne, ne_eq, beq_eq_false_iff_ne, bne_eq_false_iff_eq] at h4))
        · (simp (config := { maxSteps := 1000000 }) [h4])
          ((first | refine AW_cond_split _ (by rfl) (fun h5 => ?_) (fun h5 => ?_) | refine AWop_split _ (by rfl) (fun h5 => ?_) (fun h5 => ?_)) <;> (try simp only [decide_eq_true_eq, decide_eq_false_iff_not, Bool.not_eq_true', Bool.not_eq_false', Bool.and_eq_true, Bool.or_eq_true, beq_iff_eq, bne_iff_ne, ne_eq, beq_eq_false_iff_ne, bne_eq_false_iff_eq] at h5))
          · (simp (config := { maxSteps := 1000000 }) [h5])
            (first | exact hR _ _ (Fin_ret _ rfl rfl rfl) | exact hR _ _ (Fin_normal _ rfl rfl rfl) | exact hR _ _ (Fin_ret _ rfl rfl (by simp [AV.erase, AV.unview, srcInstrZ, h1, h2, h3, h4, h5]; done)) | exact hR _ _ (Fin_normal _ rfl rfl (by simp [AV.erase, AV.unview, srcInstrZ, h1, h2, h3, h4, h5]; done)) | fail "no end")
          · (simp (config := { maxSteps := 1000000 }) [h5])
            (first | exact hR _ _ (Fin_ret _ rfl rfl rfl) | exact hR _ _ (Fin_normal _ rfl rfl rfl) | exact hR _ _ (Fin_ret _ rfl rfl (by simp [AV.erase, AV.unview, srcInstrZ, h1, h2, h3, h4, h5]; done)) | exact hR _ _ (Fin_normal _ rfl rfl (by simp [AV.erase, AV.unview, srcInstrZ, h1, h2, h3, h4, h5]; done)) | fail "no end")
        · (simp (config := { maxSteps := 1000000 }) [h4])
          (first | exact hR _ _ (Fin_ret _ rfl rfl rfl) | exact hR _ _ (Fin_normal _ rfl rfl rfl) | exact hR _ _ (Fin_ret _ rfl rfl (by simp [AV.erase, AV.unview, srcInstrZ, h1, h2, h3, h4]; done)) | exact hR _ _ (Fin_normal _ rfl rfl (by simp [AV.erase, AV.unview, srcInstrZ, h1, h2, h3, h4]; done)) | fail "no end")
def fldsT (t : Term) (regs blocks : Int) : List Field := [⟨t.a, t.kind != 1, regs⟩, ⟨t.to, t.kind != 3, blocks⟩, ⟨t.els, t.kind == 2, blocks⟩]
def srcTermZ (t : Term) (regs blocks : Int) : Int :=
  if t.kind < 1 ∨ 3 < t.kind then 16 else if withinZ ((fldsT t regs blocks).take 1) = false then 9 else if withinZ ((fldsT t regs blocks).drop 1) = false then 11 else if blankZ (fldsT t regs blocks) = false then 12 else 0
theorem source_Term_calls {P : Program} {p : Nums} (A : All P p) (t : Term) (regs blocks : Int) : CallsTo P p.source_Term [t.av, AI regs, AI blocks] [] fun o _ => o = .ret (AI (srcTermZ t regs blocks)) := by
  refine A.source_Term.run rfl fun R hR => ?_
  (simp (config := { maxSteps := 1000000 }) [ic_source_Term, Term.av])
  ((first | refine AW_cond_split _ (by rfl) (fun h1 => ?_) (fun h1 => ?_) | refine AWop_split _ (by rfl) (fun h1 => ?_) (fun h1 => ?_)) <;> (try simp only [decide_eq_true_eq, decide_eq_false_iff_not, Bool.not_eq_true', Bool.not_eq_false', Bool.and_eq_true, Bool.or_eq_true, beq_iff_eq, bne_iff_ne, ne_eq, beq_eq_false_iff_ne, bne_eq_false_iff_eq] at h1))
  · (simp (config := { maxSteps := 1000000 }) [h1])
    (first | exact hR _ _ (Fin_ret _ rfl rfl rfl) | exact hR _ _ (Fin_normal _ rfl rfl rfl) | exact hR _ _ (Fin_ret _ rfl rfl (by simp [AV.erase, AV.unview, srcTermZ, h1]; done)) | exact hR _ _ (Fin_normal _ rfl rfl (by simp [AV.erase, AV.unview, srcTermZ, h1]; done)) | fail "no end")
  · (simp (config := { maxSteps := 1000000 }) [h1])
    ((first | refine AW_cond_split _ (by rfl) (fun h2 => ?_) (fun h2 => ?_) | refine AWop_split _ (by rfl) (fun h2 => ?_) (fun h2 => ?_)) <;> (try simp only [decide_eq_true_eq, decide_eq_false_iff_not, Bool.not_eq_true', Bool.not_eq_false', Bool.and_eq_true, Bool.or_eq_true, beq_iff_eq, bne_iff_ne, ne_eq, beq_eq_false_iff_ne, bne_eq_false_iff_eq] at h2))
    · (simp (config := { maxSteps := 1000000 }) [h2])
      (first | exact hR _ _ (Fin_ret _ rfl rfl rfl) | exact hR _ _ (Fin_normal _ rfl rfl rfl) | exact hR _ _ (Fin_ret _ rfl rfl (by simp [AV.erase, AV.unview, srcTermZ, h1, h2]; done)) | exact hR _ _ (Fin_normal _ rfl rfl (by simp [AV.erase, AV.unview, srcTermZ, h1, h2]; done)) | fail "no end")
    · (simp (config := { maxSteps := 1000000 }) [h2])
      (refine AWcall_det (source_within_calls A ((fldsT t regs blocks).take 1) (by simp [fldsT])) (by rfl) (by rfl) ?_)
      (simp (config := { maxSteps := 1000000 }) [])
      ((first | refine AW_cond_split _ (by rfl) (fun h3 => ?_) (fun h3 => ?_) | refine AWop_split _ (by rfl) (fun h3 => ?_) (fun h3 => ?_)) <;> (try simp only [decide_eq_true_eq, decide_eq_false_iff_not, Bool.not_eq_true', Bool.not_eq_false', Bool.and_eq_true, Bool.or_eq_true, beq_iff_eq, bne_iff_ne, ne_eq, beq_eq_false_iff_ne, bne_eq_false_iff_eq] at h3))
      · (simp (config := { maxSteps := 1000000 }) [h3])
        (first | exact hR _ _ (Fin_ret _ rfl rfl rfl) | exact hR _ _ (Fin_normal _ rfl rfl rfl) | exact hR _ _ (Fin_ret _ rfl rfl (by simp [AV.erase, AV.unview, srcTermZ, h1, h2, h3]; done)) | exact hR _ _ (Fin_normal _ rfl rfl (by simp [AV.erase, AV.unview, srcTermZ, h1, h2, h3]; done)) | fail "no end")
      · (simp (config := { maxSteps := 1000000 }) [h3])
        (refine AWcall_det (source_within_calls A ((fldsT t regs blocks).drop 1) (by simp [fldsT])) (by rfl) (by rfl) ?_)
        (simp (config := { maxSteps := 1000000 }) [])
        ((first | refine AW_cond_split _ (by rfl) (fun h4 => ?_) (fun h4 => ?_) | refine AWop_split _ (by rfl) (fun h4 => ?_) (fun h4 => ?_)) <;> (try simp only [decide_eq_true_eq, decide_eq_false_iff_not, Bool.not_eq_true', Bool.not_eq_false', Bool.and_eq_true, Bool.or_eq_true, beq_iff_eq, bne_iff_ne, ne_eq, beq_eq_false_iff_ne, bne_eq_false_iff_eq] at h4))
        · (simp (config := { maxSteps := 1000000 }) [h4])
          (first | exact hR _ _ (Fin_ret _ rfl rfl rfl) | exact hR _ _ (Fin_normal _ rfl rfl rfl) | exact hR _ _ (Fin_ret _ rfl rfl (by simp [AV.erase, AV.unview, srcTermZ, h1, h2, h3, h4]; done)) | exact hR _ _ (Fin_normal _ rfl rfl (by simp [AV.erase, AV.unview, srcTermZ, h1, h2, h3, h4]; done)) | fail "no end")
        · (simp (config := { maxSteps := 1000000 }) [h4])
          (refine AWcall_det (source_blank_calls A (fldsT t regs blocks) (by simp [fldsT])) (by rfl) (by rfl) ?_)
          (simp (config := { maxSteps := 1000000 }) [])
          ((first | refine AW_cond_split _ (by rfl) (fun h5 => ?_) (fun h5 => ?_) | refine AWop_split _ (by rfl) (fun h5 => ?_) (fun h5 => ?_)) <;> (try simp only [decide_eq_true_eq, decide_eq_false_iff_not, Bool.not_eq_true', Bool.not_eq_false', Bool.and_eq_true, Bool.or_eq_true, beq_iff_eq, bne_iff_ne, ne_eq, beq_eq_false_iff_ne, bne_eq_false_iff_eq] at h5))
          · (simp (config := { maxSteps := 1000000 }) [h5])
            (first | exact hR _ _ (Fin_ret _ rfl rfl rfl) | exact hR _ _ (Fin_normal _ rfl rfl rfl) | exact hR _ _ (Fin_ret _ rfl rfl (by simp [AV.erase, AV.unview, srcTermZ, h1, h2, h3, h4, h5]; done)) | exact hR _ _ (Fin_normal _ rfl rfl (by simp [AV.erase, AV.unview, srcTermZ, h1, h2, h3, h4, h5]; done)) | fail "no end")
          · (simp (config := { maxSteps := 1000000 }) [h5])
            (first | exact hR _ _ (Fin_ret _ rfl rfl rfl) | exact hR _ _ (Fin_normal _ rfl rfl rfl) | exact hR _ _ (Fin_ret _ rfl rfl (by simp [AV.erase, AV.unview, srcTermZ, h1, h2, h3, h4, h5]; done)) | exact hR _ _ (Fin_normal _ rfl rfl (by simp [AV.erase, AV.unview, srcTermZ, h1, h2, h3, h4, h5]; done)) | fail "no end")
end
end Go.AE

set_option linter.unusedVariables false
namespace Go.AE
open Go
structure Block where (code : List Instr) (term : Term)
  deriving Inhabited
def Block.row (b : Block) : List D := [.sl (b.code.map Instr.row), I b.term.kind, I b.term.a, I b.term.to, I b.term.els]
def Block.av (b : Block) : AV := .agg [.d (.sl (b.code.map Instr.row)), AI b.term.kind, AI b.term.a, AI b.term.to, AI b.term.els]
structure Func where (args regs : Int) (blocks : List Block)
def Func.av (f : Func) : AV := .agg [AI f.args, AI f.regs, .d (.sl (f.blocks.map Block.row))]
def codeN (bs : List Block) : Nat := (bs.map fun b => b.code.length).sum
theorem codeN_succ {bs : List Block} {k : Nat} {b : Block} (h : bs[k]? = some b) : codeN (bs.take (k + 1)) = codeN (bs.take k) + b.code.length := by
  rw [codeN, List.take_add_one, h]; simp [codeN]
theorem codeN_append (a b : List Block) : codeN (a ++ b) = codeN a + codeN b := by simp [codeN]
theorem codeN_le (bs : List Block) (k : Nat) : codeN (bs.take k) ≤ codeN bs := by
  have h := codeN_append (bs.take k) (bs.drop k)
  rw [List.take_append_drop] at h; omega
theorem wrap_add {a b : Nat} (h : a + b < 4611686018427387904) : IntKind.i64.wrap ((a : Int) + (b : Int)) = ((a + b : Nat) : Int) := by
  rw [wrap_i64 (by omega) (by omega)]; rfl
theorem get_elem {α : Type} {l : List α} {k : Nat} (h : k < l.length) : ∃ x, l[k]? = some x ∧ x ∈ l := ⟨l[k], by simp [h], List.getElem_mem h⟩
def firstErr : List Int → Int
  | [] => 0
  | e :: es => if e ≠ 0 then e else firstErr es
theorem firstErr_take {es : List Int} {k : Nat} (h : ∀ e ∈ es.take k, e = 0) : firstErr es = firstErr (es.drop k) := by
  induction k generalizing es with
  | zero => rfl
  | succ k ih =>
    cases es with
    | nil => rfl
    | cons e es =>
      have : e = 0 := h e (by simp)
      simp only [firstErr, this, ne_eq, not_true_eq_false, if_false, List.drop_succ_cons]
      exact ih fun x hx => h x (by simp [hx])
theorem firstErr_at {es : List Int} {k : Nat} {e : Int} (h : ∀ e ∈ es.take k, e = 0) (hk : es[k]? = some e) (he : e ≠ 0) : firstErr es = e := by
  rw [firstErr_take h]
  have hlt := (List.getElem?_eq_some_iff.1 hk).1
  rw [List.drop_eq_getElem_cons hlt]
  have : es[k] = e := (List.getElem?_eq_some_iff.1 hk).2
  simp [firstErr, this, he]
theorem firstErr_all {es : List Int} (h : ∀ e ∈ es, e = 0) : firstErr es = 0 := by
  rw [firstErr_take (k := es.length) (by simpa using h)]; simp [firstErr]
def srcBlockZ (b : Block) (regs blocks : Int) : Int :=
  let e := firstErr (b.code.map (srcInstrZ · regs))
  if e ≠ 0 then e else srcTermZ b.term regs blocks
theorem take_zero {α : Type} {f : α → Int} {l : List α} {k : Nat} {x : α} (h : ∀ e ∈ (l.map f).take k, e = 0) (hx : l[k]? = some x) (h0 : f x = 0) : ∀ e ∈ (l.map f).take (k + 1), e = 0 := by
  intro e he
  rw [List.take_add_one, List.mem_append] at he
  rcases he with he | he
  · exact h e he
  · rw [List.getElem?_map, hx] at he; simp at he; rw [he]; exact h0
section
theorem source_Code_calls {P : Program} {p : Nums} (A : All P p) (f : Func) (h0 : f.blocks.length < 1000000000) (h1 : codeN f.blocks < 1000000000) : CallsTo P p.source_Code [f.av] [] fun o _ => o = .ret (AI (codeN f.blocks)) := by
  refine A.source_Code.run rfl fun R hR => ?_
  (simp (config := { maxSteps := 1000000 }) [ic_source_Code, Func.av])
  refine AW_loop (fun k : Nat => ⟨[(9, AI k), (8, AI f.blocks.length), (7, .d (.sl (f.blocks.map Block.row))), (3, AI (codeN (f.blocks.take k)))], []⟩) (fun k => k ≤ f.blocks.length) (fun k => f.blocks.length - k) 0 (by simp) (by (refine Wk.of ?_ ?_ (by simp) <;> repeat' (first | exact True.intro | exact ⟨_, rfl, wkt_same rfl⟩ | exact ⟨_, rfl, wkt_erase rfl⟩ | exact ⟨_, rfl, .inl .nild⟩ | exact ⟨_, rfl, wkt_nils⟩ | exact wkt_same rfl | exact wkt_erase rfl | exact .inl .nild | exact wkt_nils | exact WkB.same rfl | exact WkB_rows | exact WkB_nil | exact .dead _ | refine WkB_cons ?_ ?_ | refine And.intro ?_ ?_))) ?_
  intro k hk N hN
  (simp (config := { maxSteps := 1000000 }) [])
  ((first | refine AW_cond_split _ (by rfl) (fun h2 => ?_) (fun h2 => ?_) | refine AWop_split _ (by rfl) (fun h2 => ?_) (fun h2 => ?_)) <;> (try simp only [decide_eq_true_eq, decide_eq_false_iff_not, Bool.not_eq_true', Bool.not_eq_false', Bool.and_eq_true, Bool.or_eq_true, beq_iff_eq, bne_iff_ne, ne_eq, beq_eq_false_iff_ne, bne_eq_false_iff_eq] at h2))
  · have hkl : k < f.blocks.length := by simpa using h2
    have hb : f.blocks[k]? = some f.blocks[k] := by simp [hkl]
    have hw := wrap_succ (k := k) (by omega)
    have hs := codeN_succ hb
    have hle := codeN_le f.blocks (k + 1)
    have hw2 := wrap_add (a := codeN (f.blocks.take k)) (b := f.blocks[k].code.length) (by omega)
    rw [← hs] at hw2
    (simp (config := { maxSteps := 1000000 }) [h2, List.getElem?_map, hb, Block.row, hw, hw2])
    exact hN _ (k + 1) hkl (by (refine Wk.of ?_ ?_ (by simp) <;> repeat' (first | exact True.intro | exact ⟨_, rfl, wkt_same rfl⟩ | exact ⟨_, rfl, wkt_erase rfl⟩ | exact ⟨_, rfl, .inl .nild⟩ | exact ⟨_, rfl, wkt_nils⟩ | exact wkt_same rfl | exact wkt_erase rfl | exact .inl .nild | exact wkt_nils | exact WkB.same rfl | exact WkB_rows | exact WkB_nil | exact .dead _ | refine WkB_cons ?_ ?_ | refine And.intro ?_ ?_))) (by omega)
  · have hk' : k = f.blocks.length := by simp at h2; omega
    subst hk'
    (simp (config := { maxSteps := 1000000 }) [])
    (first | exact hR _ _ (Fin_ret _ rfl rfl rfl) | exact hR _ _ (Fin_normal _ rfl rfl rfl) | exact hR _ _ (Fin_ret _ rfl rfl (by simp [AV.erase, AV.unview, List.take_length]; done)) | exact hR _ _ (Fin_normal _ rfl rfl (by simp [AV.erase, AV.unview, List.take_length]; done)) | fail "no end")
theorem source_block_calls {P : Program} {p : Nums} (A : All P p) (b : Block) (regs blocks : Int) (h0 : b.code.length < 1000000000) : CallsTo P p.source_block [b.av, AI regs, AI blocks] [] fun o _ => o = .ret (AI (srcBlockZ b regs blocks)) := by
  refine A.source_block.run rfl fun R hR => ?_
  (simp (config := { maxSteps := 1000000 }) [ic_source_block, Block.av])
  refine AW_loop (fun k : Nat => ⟨[(13, AI k), (12, AI b.code.length), (11, .d (.sl (b.code.map Instr.row))), (3, .ptr 0 0), (1, AI regs), (2, AI blocks)], [.mem [.d (.sl (b.code.map Instr.row)), AI b.term.kind, AI b.term.a, AI b.term.to, AI b.term.els]]⟩)
    (fun k => k ≤ b.code.length ∧ ∀ e ∈ (b.code.map (srcInstrZ · regs)).take k, e = 0) (fun k => b.code.length - k) 0 (by simp) (by (refine Wk.of ?_ ?_ (by simp) <;> repeat' (first | exact True.intro | exact ⟨_, rfl, wkt_same rfl⟩ | exact ⟨_, rfl, wkt_erase rfl⟩ | exact ⟨_, rfl, .inl .nild⟩ | exact ⟨_, rfl, wkt_nils⟩ | exact wkt_same rfl | exact wkt_erase rfl | exact .inl .nild | exact wkt_nils | exact WkB.same rfl | exact WkB_rows | exact WkB_nil | exact .dead _ | refine WkB_cons ?_ ?_ | refine And.intro ?_ ?_))) ?_
  rintro k ⟨hk, hz⟩ N hN
  (simp (config := { maxSteps := 1000000 }) [])
  ((first | refine AW_cond_split _ (by rfl) (fun h2 => ?_) (fun h2 => ?_) | refine AWop_split _ (by rfl) (fun h2 => ?_) (fun h2 => ?_)) <;> (try simp only [decide_eq_true_eq, decide_eq_false_iff_not, Bool.not_eq_true', Bool.not_eq_false', Bool.and_eq_true, Bool.or_eq_true, beq_iff_eq, bne_iff_ne, ne_eq, beq_eq_false_iff_ne, bne_eq_false_iff_eq] at h2))
  · have hkl : k < b.code.length := by simpa using h2
    have hb : b.code[k]? = some b.code[k] := by simp [hkl]
    have hw := wrap_succ (k := k) (by omega)
    (simp (config := { maxSteps := 1000000 }) [h2, hb, Instr.row])
    (refine AWcall_det (source_Instr_calls A b.code[k] regs) (by rfl) (by rfl) ?_)
    (simp (config := { maxSteps := 1000000 }) [])
    ((first | refine AW_cond_split _ (by rfl) (fun h3 => ?_) (fun h3 => ?_) | refine AWop_split _ (by rfl) (fun h3 => ?_) (fun h3 => ?_)) <;> (try simp only [decide_eq_true_eq, decide_eq_false_iff_not, Bool.not_eq_true', Bool.not_eq_false', Bool.and_eq_true, Bool.or_eq_true, beq_iff_eq, bne_iff_ne, ne_eq, beq_eq_false_iff_ne, bne_eq_false_iff_eq] at h3))
    · (simp (config := { maxSteps := 1000000 }) [h3])
      have : firstErr (b.code.map (srcInstrZ · regs)) = srcInstrZ b.code[k] regs := firstErr_at hz (by simp [hkl]) h3
      (first | exact hR _ _ (Fin_ret _ rfl rfl rfl) | exact hR _ _ (Fin_normal _ rfl rfl rfl) | exact hR _ _ (Fin_ret _ rfl rfl (by simp [AV.erase, AV.unview, srcBlockZ, this, h3]; done)) | exact hR _ _ (Fin_normal _ rfl rfl (by simp [AV.erase, AV.unview, srcBlockZ, this, h3]; done)) | fail "no end")
    · (simp (config := { maxSteps := 1000000 }) [h3, hw])
      exact hN _ (k + 1) ⟨hkl, take_zero hz hb (by simpa using h3)⟩ (by (refine Wk.of ?_ ?_ (by simp) <;> repeat' (first | exact True.intro | exact ⟨_, rfl, wkt_same rfl⟩ | exact ⟨_, rfl, wkt_erase rfl⟩ | exact ⟨_, rfl, .inl .nild⟩ | exact ⟨_, rfl, wkt_nils⟩ | exact wkt_same rfl | exact wkt_erase rfl | exact .inl .nild | exact wkt_nils | exact WkB.same rfl | exact WkB_rows | exact WkB_nil | exact .dead _ | refine WkB_cons ?_ ?_ | refine And.intro ?_ ?_))) (by omega)
  · have hk' : k = b.code.length := by simp at h2; omega
    subst hk'
    have hfe : firstErr (b.code.map (srcInstrZ · regs)) = 0 := firstErr_all (by rw [List.take_of_length_le (by simp)] at hz; exact hz)
    (simp (config := { maxSteps := 1000000 }) [])
    (refine AWcall_det (source_Term_calls A b.term regs blocks) (by rfl) (by rfl) ?_)
    (simp (config := { maxSteps := 1000000 }) [])
    (first | exact hR _ _ (Fin_ret _ rfl rfl rfl) | exact hR _ _ (Fin_normal _ rfl rfl rfl) | exact hR _ _ (Fin_ret _ rfl rfl (by simp [AV.erase, AV.unview, srcBlockZ, hfe]; done)) | exact hR _ _ (Fin_normal _ rfl rfl (by simp [AV.erase, AV.unview, srcBlockZ, hfe]; done)) | fail "no end")
def LimitZ : Int := 1048576
def srcCheckZ (f : Func) : Int :=
  if f.args < 0 ∨ f.regs < f.args then 9 else if 1048576 < f.regs then 6 else if f.blocks.length = 0 then 14 else if 1048576 < f.blocks.length ∨ 1048576 < codeN f.blocks then 6
  else firstErr (f.blocks.map fun b => srcBlockZ b f.regs f.blocks.length)
theorem source_Check_calls {P : Program} {p : Nums} (A : All P p) (f : Func) (h0 : f.blocks.length < 1000000000) (h1 : codeN f.blocks < 1000000000) : CallsTo P p.source_Check [f.av] [] fun o _ => o = .ret (AI (srcCheckZ f)) := by
  refine A.source_Check.run rfl fun R hR => ?_
  (simp (config := { maxSteps := 1000000 }) [ic_source_Check, Func.av])
  ((first | refine AW_cond_split _ (by rfl) (fun a1 => ?_) (fun a1 => ?_) | refine AWop_split _ (by rfl) (fun a1 => ?_) (fun a1 => ?_)) <;> (try simp only [decide_eq_true_eq, decide_eq_false_iff_not, Bool.not_eq_true', Bool.not_eq_false', Bool.and_eq_true, Bool.or_eq_true, beq_iff_eq, bne_iff_ne, ne_eq, beq_eq_false_iff_ne, bne_eq_false_iff_eq] at a1))
  · (simp (config := { maxSteps := 1000000 }) [a1])
    have e : srcCheckZ f = 9 := by unfold srcCheckZ; repeat (first | rw [if_pos (by omega)] | rw [if_neg (by omega)])
    (first | exact hR _ _ (Fin_ret _ rfl rfl rfl) | exact hR _ _ (Fin_normal _ rfl rfl rfl) | exact hR _ _ (Fin_ret _ rfl rfl (by simp [AV.erase, AV.unview, e]; done)) | exact hR _ _ (Fin_normal _ rfl rfl (by simp [AV.erase, AV.unview, e]; done)) | fail "no end")
  (simp (config := { maxSteps := 1000000 }) [a1])
  ((first | refine AW_cond_split _ (by rfl) (fun a2 => ?_) (fun a2 => ?_) | refine AWop_split _ (by rfl) (fun a2 => ?_) (fun a2 => ?_)) <;> (try simp only [decide_eq_true_eq, decide_eq_false_iff_not, Bool.not_eq_true', Bool.not_eq_false', Bool.and_eq_true, Bool.or_eq_true, beq_iff_eq, bne_iff_ne, ne_eq, beq_eq_false_iff_ne, bne_eq_false_iff_eq] at a2))
  · (simp (config := { maxSteps := 1000000 }) [a2])
    have e : srcCheckZ f = 9 := by unfold srcCheckZ; repeat (first | rw [if_pos (by omega)] | rw [if_neg (by omega)])
    (first | exact hR _ _ (Fin_ret _ rfl rfl rfl) | exact hR _ _ (Fin_normal _ rfl rfl rfl) | exact hR _ _ (Fin_ret _ rfl rfl (by simp [AV.erase, AV.unview, e]; done)) | exact hR _ _ (Fin_normal _ rfl rfl (by simp [AV.erase, AV.unview, e]; done)) | fail "no end")
  (simp (config := { maxSteps := 1000000 }) [a2])
  ((first | refine AW_cond_split _ (by rfl) (fun a3 => ?_) (fun a3 => ?_) | refine AWop_split _ (by rfl) (fun a3 => ?_) (fun a3 => ?_)) <;> (try simp only [decide_eq_true_eq, decide_eq_false_iff_not, Bool.not_eq_true', Bool.not_eq_false', Bool.and_eq_true, Bool.or_eq_true, beq_iff_eq, bne_iff_ne, ne_eq, beq_eq_false_iff_ne, bne_eq_false_iff_eq] at a3))
  · (simp (config := { maxSteps := 1000000 }) [a3])
    have e : srcCheckZ f = 6 := by unfold srcCheckZ; repeat (first | rw [if_pos (by omega)] | rw [if_neg (by omega)])
    (first | exact hR _ _ (Fin_ret _ rfl rfl rfl) | exact hR _ _ (Fin_normal _ rfl rfl rfl) | exact hR _ _ (Fin_ret _ rfl rfl (by simp [AV.erase, AV.unview, e]; done)) | exact hR _ _ (Fin_normal _ rfl rfl (by simp [AV.erase, AV.unview, e]; done)) | fail "no end")
  (simp (config := { maxSteps := 1000000 }) [a3])
  ((first | refine AW_cond_split _ (by rfl) (fun a4 => ?_) (fun a4 => ?_) | refine AWop_split _ (by rfl) (fun a4 => ?_) (fun a4 => ?_)) <;> (try simp only [decide_eq_true_eq, decide_eq_false_iff_not, Bool.not_eq_true', Bool.not_eq_false', Bool.and_eq_true, Bool.or_eq_true, beq_iff_eq, bne_iff_ne, ne_eq, beq_eq_false_iff_ne, bne_eq_false_iff_eq] at a4))
  · (simp (config := { maxSteps := 1000000 }) [a4])
    have e : srcCheckZ f = 14 := by unfold srcCheckZ; repeat (first | rw [if_pos (by omega)] | rw [if_neg (by omega)])
    (first | exact hR _ _ (Fin_ret _ rfl rfl rfl) | exact hR _ _ (Fin_normal _ rfl rfl rfl) | exact hR _ _ (Fin_ret _ rfl rfl (by simp [AV.erase, AV.unview, e]; done)) | exact hR _ _ (Fin_normal _ rfl rfl (by simp [AV.erase, AV.unview, e]; done)) | fail "no end")
  (simp (config := { maxSteps := 1000000 }) [a4])
  ((first | refine AW_cond_split _ (by rfl) (fun a5 => ?_) (fun a5 => ?_) | refine AWop_split _ (by rfl) (fun a5 => ?_) (fun a5 => ?_)) <;> (try simp only [decide_eq_true_eq, decide_eq_false_iff_not, Bool.not_eq_true', Bool.not_eq_false', Bool.and_eq_true, Bool.or_eq_true, beq_iff_eq, bne_iff_ne, ne_eq, beq_eq_false_iff_ne, bne_eq_false_iff_eq] at a5))
  · (simp (config := { maxSteps := 1000000 }) [a5])
    have e : srcCheckZ f = 6 := by unfold srcCheckZ; repeat (first | rw [if_pos (by omega)] | rw [if_neg (by omega)])
    (first | exact hR _ _ (Fin_ret _ rfl rfl rfl) | exact hR _ _ (Fin_normal _ rfl rfl rfl) | exact hR _ _ (Fin_ret _ rfl rfl (by simp [AV.erase, AV.unview, e]; done)) | exact hR _ _ (Fin_normal _ rfl rfl (by simp [AV.erase, AV.unview, e]; done)) | fail "no end")
  (simp (config := { maxSteps := 1000000 }) [a5])
  (refine AWcall_det (source_Code_calls A f h0 h1) (by rfl) (by rfl) ?_)
  (simp (config := { maxSteps := 1000000 }) [])
  ((first | refine AW_cond_split _ (by rfl) (fun a6 => ?_) (fun a6 => ?_) | refine AWop_split _ (by rfl) (fun a6 => ?_) (fun a6 => ?_)) <;> (try simp only [decide_eq_true_eq, decide_eq_false_iff_not, Bool.not_eq_true', Bool.not_eq_false', Bool.and_eq_true, Bool.or_eq_true, beq_iff_eq, bne_iff_ne, ne_eq, beq_eq_false_iff_ne, bne_eq_false_iff_eq] at a6))
  · (simp (config := { maxSteps := 1000000 }) [a6])
    have e : srcCheckZ f = 6 := by unfold srcCheckZ; repeat (first | rw [if_pos (by omega)] | rw [if_neg (by omega)])
    (first | exact hR _ _ (Fin_ret _ rfl rfl rfl) | exact hR _ _ (Fin_normal _ rfl rfl rfl) | exact hR _ _ (Fin_ret _ rfl rfl (by simp [AV.erase, AV.unview, e]; done)) | exact hR _ _ (Fin_normal _ rfl rfl (by simp [AV.erase, AV.unview, e]; done)) | fail "no end")
  (simp (config := { maxSteps := 1000000 }) [a6])
  have e : srcCheckZ f = firstErr (f.blocks.map fun b => srcBlockZ b f.regs f.blocks.length) := by
    unfold srcCheckZ; repeat (first | rw [if_pos (by omega)] | rw [if_neg (by omega)])
  refine AW_loop (fun k : Nat => ⟨[(39, AI k), (38, AI f.blocks.length), (37, .d (.sl (f.blocks.map Block.row))), (1, .ptr 0 0)], [.mem [AI f.args, AI f.regs, .d (.sl (f.blocks.map Block.row))]]⟩)
    (fun k => k ≤ f.blocks.length ∧ ∀ e ∈ (f.blocks.map fun b => srcBlockZ b f.regs f.blocks.length).take k, e = 0) (fun k => f.blocks.length - k) 0 (by simp) (by (refine Wk.of ?_ ?_ (by simp) <;> repeat' (first | exact True.intro | exact ⟨_, rfl, wkt_same rfl⟩ | exact ⟨_, rfl, wkt_erase rfl⟩ | exact ⟨_, rfl, .inl .nild⟩ | exact ⟨_, rfl, wkt_nils⟩ | exact wkt_same rfl | exact wkt_erase rfl | exact .inl .nild | exact wkt_nils | exact WkB.same rfl | exact WkB_rows | exact WkB_nil | exact .dead _ | refine WkB_cons ?_ ?_ | refine And.intro ?_ ?_))) ?_
  rintro k ⟨hk, hz⟩ N hN
  (simp (config := { maxSteps := 1000000 }) [])
  ((first | refine AW_cond_split _ (by rfl) (fun h2 => ?_) (fun h2 => ?_) | refine AWop_split _ (by rfl) (fun h2 => ?_) (fun h2 => ?_)) <;> (try simp only [decide_eq_true_eq, decide_eq_false_iff_not, Bool.not_eq_true', Bool.not_eq_false', Bool.and_eq_true, Bool.or_eq_true, beq_iff_eq, bne_iff_ne, ne_eq, beq_eq_false_iff_ne, bne_eq_false_iff_eq] at h2))
  · have hkl : k < f.blocks.length := by simpa using h2
    have hb : f.blocks[k]? = some f.blocks[k] := by simp [hkl]
    have hw := wrap_succ (k := k) (by omega)
    have hbl : f.blocks[k].code.length < 1000000000 := by
      have h3 := codeN_succ hb
      have h4 := codeN_le f.blocks (k + 1)
      omega
    (simp (config := { maxSteps := 1000000 }) [h2, hb, Block.row])
    (refine AWcall_det (source_block_calls A f.blocks[k] f.regs f.blocks.length hbl) (by rfl) (by rfl) ?_)
    (simp (config := { maxSteps := 1000000 }) [])
    ((first | refine AW_cond_split _ (by rfl) (fun h3 => ?_) (fun h3 => ?_) | refine AWop_split _ (by rfl) (fun h3 => ?_) (fun h3 => ?_)) <;> (try simp only [decide_eq_true_eq, decide_eq_false_iff_not, Bool.not_eq_true', Bool.not_eq_false', Bool.and_eq_true, Bool.or_eq_true, beq_iff_eq, bne_iff_ne, ne_eq, beq_eq_false_iff_ne, bne_eq_false_iff_eq] at h3))
    · (simp (config := { maxSteps := 1000000 }) [h3])
      have e2 : firstErr (f.blocks.map fun b => srcBlockZ b f.regs f.blocks.length) = srcBlockZ f.blocks[k] f.regs f.blocks.length := firstErr_at hz (by simp [hkl]) h3
      (first | exact hR _ _ (Fin_ret _ rfl rfl rfl) | exact hR _ _ (Fin_normal _ rfl rfl rfl) | exact hR _ _ (Fin_ret _ rfl rfl (by simp [AV.erase, AV.unview, e, e2]; done)) | exact hR _ _ (Fin_normal _ rfl rfl (by simp [AV.erase, AV.unview, e, e2]; done)) | fail "no end")
    · (simp (config := { maxSteps := 1000000 }) [h3, hw])
      exact hN _ (k + 1) ⟨hkl, take_zero hz hb (by simpa using h3)⟩ (by (refine Wk.of ?_ ?_ (by simp) <;> repeat' (first | exact True.intro | exact ⟨_, rfl, wkt_same rfl⟩ | exact ⟨_, rfl, wkt_erase rfl⟩ | exact ⟨_, rfl, .inl .nild⟩ | exact ⟨_, rfl, wkt_nils⟩ | exact wkt_same rfl | exact wkt_erase rfl | exact .inl .nild | exact wkt_nils | exact WkB.same rfl | exact WkB_rows | exact WkB_nil | exact .dead _ | refine WkB_cons ?_ ?_ | refine And.intro ?_ ?_))) (by omega)
  · have hk' : k = f.blocks.length := by simp at h2; omega
    subst hk'
    have hfe : firstErr (f.blocks.map fun b => srcBlockZ b f.regs f.blocks.length) = 0 := firstErr_all (by rw [List.take_of_length_le (by simp)] at hz; exact hz)
    (simp (config := { maxSteps := 1000000 }) [])
    (first | exact hR _ _ (Fin_ret _ rfl rfl rfl) | exact hR _ _ (Fin_normal _ rfl rfl rfl) | exact hR _ _ (Fin_ret _ rfl rfl (by simp [AV.erase, AV.unview, e, hfe]; done)) | exact hR _ _ (Fin_normal _ rfl rfl (by simp [AV.erase, AV.unview, e, hfe]; done)) | fail "no end")
end
end Go.AE

set_option linter.unusedVariables false
namespace Go.AE
open Go
def bad9 (i : Instr) (regs : Int) : Bool := usesD i.op && !inZ i.d regs || usesA i.op && !inZ i.a regs || usesB i.op && !inZ i.b regs
def bad12 (i : Instr) : Bool := !usesD i.op && i.d != 0 || !usesA i.op && i.a != 0 || !usesB i.op && i.b != 0 || i.op != 1 && i.imm != 0
def refInstrZ (i : Instr) (regs : Int) : Int := if i.op < 1 ∨ 17 < i.op then 8 else if bad9 i regs = true then 9 else if bad12 i = true then 12 else 0
def refTermZ (t : Term) (regs blocks : Int) : Int :=
  if t.kind = 1 then (if inZ t.to blocks = false then 11 else if t.a ≠ 0 ∨ t.els ≠ 0 then 12 else 0)
  else if t.kind = 2 then (if inZ t.a regs = false then 9 else if inZ t.to blocks = false ∨ inZ t.els blocks = false then 11 else 0)
  else if t.kind = 3 then (if inZ t.a regs = false then 9 else if t.to ≠ 0 ∨ t.els ≠ 0 then 12 else 0)
  else 16
section
theorem ref07_Term_calls {P : Program} {p : Nums} (A : All P p) (t : Term) (regs blocks : Int) : CallsTo P p.ref07_Term [t.av, AI regs, AI blocks] [] fun o _ => o = .ret (AI (refTermZ t regs blocks)) := by
  refine A.ref07_Term.run rfl fun R hR => ?_
  (simp (config := { maxSteps := 1000000 }) [ic_ref07_Term, Term.av])
  repeat' (first | ((refine AWcall_det (ref07_in_calls A _ _) (by rfl) (by rfl) ?_); (simp (config := { maxSteps := 1000000 }) [])) | (((first | refine AW_cond_split _ (by rfl) (fun hbr => ?_) (fun hbr => ?_) | refine AWop_split _ (by rfl) (fun hbr => ?_) (fun hbr => ?_)) <;> (try simp only [decide_eq_true_eq, decide_eq_false_iff_not, Bool.not_eq_true', Bool.not_eq_false', Bool.and_eq_true, Bool.or_eq_true, beq_iff_eq, bne_iff_ne, ne_eq, beq_eq_false_iff_ne, bne_eq_false_iff_eq] at hbr)) <;> simp (config := { maxSteps := 1000000 }) [hbr]) | ((first | refine hR _ _ (Fin_ret _ rfl rfl ?_) | refine hR _ _ (Fin_normal _ rfl rfl ?_)); clear hR; (try simp_all [AV.erase, AV.unview, refTermZ])))
end
end Go.AE

set_option linter.unusedVariables false
namespace Go.AE
open Go
section
set_option maxHeartbeats 4000000 in
theorem ref07_Instr_calls {P : Program} {p : Nums} (A : All P p) (i : Instr) (regs : Int) : CallsTo P p.ref07_Instr [i.av, AI regs] [] fun o _ => o = .ret (AI (refInstrZ i regs)) := by
  refine A.ref07_Instr.run rfl fun R hR => ?_
  (simp (config := { maxSteps := 1000000 }) [ic_ref07_Instr, Instr.av])
  rw [ref07_Instr_m3_eq]
  refine AW_merge ⟨[(12, AB (decide (i.op < 1) || decide (17 < i.op))), (2, .ptr 0 0), (4, AI 0), (1, AI regs)], [.mem [AI i.op, AI i.d, AI i.a, AI i.b, AI i.imm]]⟩ (fun N hN => ?_) ?_
  · (simp (config := { maxSteps := 1000000 }) [])
    ((first | refine AW_cond_split _ (by rfl) (fun h => ?_) (fun h => ?_) | refine AWop_split _ (by rfl) (fun h => ?_) (fun h => ?_)) <;> (try simp only [decide_eq_true_eq, decide_eq_false_iff_not, Bool.not_eq_true', Bool.not_eq_false', Bool.and_eq_true, Bool.or_eq_true, beq_iff_eq, bne_iff_ne, ne_eq, beq_eq_false_iff_ne, bne_eq_false_iff_eq] at h))
    · (simp (config := { maxSteps := 1000000 }) [h])
      exact hN _ (by simp only [h]; (refine Wk.of ?_ ?_ (by simp) <;> repeat' (first | exact True.intro | exact ⟨_, rfl, wkt_same rfl⟩ | exact ⟨_, rfl, wkt_erase rfl⟩ | exact ⟨_, rfl, .inl .nild⟩ | exact ⟨_, rfl, wkt_nils⟩ | exact wkt_same rfl | exact wkt_erase rfl | exact .inl .nild | exact wkt_nils | exact WkB.same rfl | exact WkB_rows | exact WkB_nil | exact .dead _ | refine WkB_cons ?_ ?_ | refine And.intro ?_ ?_)))
    · (simp (config := { maxSteps := 1000000 }) [h])
      exact hN _ (by simp only [h]; (refine Wk.of ?_ ?_ (by simp) <;> repeat' (first | exact True.intro | exact ⟨_, rfl, wkt_same rfl⟩ | exact ⟨_, rfl, wkt_erase rfl⟩ | exact ⟨_, rfl, .inl .nild⟩ | exact ⟨_, rfl, wkt_nils⟩ | exact wkt_same rfl | exact wkt_erase rfl | exact .inl .nild | exact wkt_nils | exact WkB.same rfl | exact WkB_rows | exact WkB_nil | exact .dead _ | refine WkB_cons ?_ ?_ | refine And.intro ?_ ?_)))
  ((first | refine AW_cond_split _ (by rfl) (fun h1 => ?_) (fun h1 => ?_) | refine AWop_split _ (by rfl) (fun h1 => ?_) (fun h1 => ?_)) <;> (try simp only [decide_eq_true_eq, decide_eq_false_iff_not, Bool.not_eq_true', Bool.not_eq_false', Bool.and_eq_true, Bool.or_eq_true, beq_iff_eq, bne_iff_ne, ne_eq, beq_eq_false_iff_ne, bne_eq_false_iff_eq] at h1))
  · (simp (config := { maxSteps := 1000000 }) [h1])
    have e : refInstrZ i regs = 8 := by unfold refInstrZ; rw [if_pos h1]
    (first | exact hR _ _ (Fin_ret _ rfl rfl rfl) | exact hR _ _ (Fin_normal _ rfl rfl rfl) | exact hR _ _ (Fin_ret _ rfl rfl (by simp [AV.erase, AV.unview, e]; done)) | exact hR _ _ (Fin_normal _ rfl rfl (by simp [AV.erase, AV.unview, e]; done)) | fail "no end")
  (simp (config := { maxSteps := 1000000 }) [h1])
  rw [ref07_Instr_m6_eq]
  refine AW_merge ⟨[(46, AB (bad9 i regs)), (2, .ptr 0 0), (4, AI 0), (1, AI regs)], [.mem [AI i.op, AI i.d, AI i.a, AI i.b, AI i.imm]]⟩ (fun N hN => ?_) ?_
  · (simp (config := { maxSteps := 1000000 }) [])
    cases uD : usesD i.op <;> cases uA : usesA i.op <;> cases uB : usesB i.op <;> cases nD : inZ i.d regs <;> cases nA : inZ i.a regs <;> cases nB : inZ i.b regs <;>
      (repeat' (first | ((refine AWcall_det (ref07_in_calls A _ _) (by rfl) (by rfl) ?_); (simp (config := { maxSteps := 1000000 }) [nD, nA, nB])) | ((refine AWcall_det (ref05_UsesA_calls A _) (by rfl) (by rfl) ?_); (simp (config := { maxSteps := 1000000 }) [uA])) | ((refine AWcall_det (ref05_UsesB_calls A _) (by rfl) (by rfl) ?_); (simp (config := { maxSteps := 1000000 }) [uB])) | ((refine AWcall_det (ref05_UsesD_calls A _) (by rfl) (by rfl) ?_); (simp (config := { maxSteps := 1000000 }) [uD])))) <;>
      exact hN _ (by simp only [bad9, uD, uA, uB, nD, nA, nB]; (refine Wk.of ?_ ?_ (by simp) <;> repeat' (first | exact True.intro | exact ⟨_, rfl, wkt_same rfl⟩ | exact ⟨_, rfl, wkt_erase rfl⟩ | exact ⟨_, rfl, .inl .nild⟩ | exact ⟨_, rfl, wkt_nils⟩ | exact wkt_same rfl | exact wkt_erase rfl | exact .inl .nild | exact wkt_nils | exact WkB.same rfl | exact WkB_rows | exact WkB_nil | exact .dead _ | refine WkB_cons ?_ ?_ | refine And.intro ?_ ?_)))
  ((first | refine AW_cond_split _ (by rfl) (fun h2 => ?_) (fun h2 => ?_) | refine AWop_split _ (by rfl) (fun h2 => ?_) (fun h2 => ?_)) <;> (try simp only [decide_eq_true_eq, decide_eq_false_iff_not, Bool.not_eq_true', Bool.not_eq_false', Bool.and_eq_true, Bool.or_eq_true, beq_iff_eq, bne_iff_ne, ne_eq, beq_eq_false_iff_ne, bne_eq_false_iff_eq] at h2))
  · (simp (config := { maxSteps := 1000000 }) [h2])
    have e : refInstrZ i regs = 9 := by unfold refInstrZ; rw [if_neg (by simp at h1; omega), if_pos h2]
    (first | exact hR _ _ (Fin_ret _ rfl rfl rfl) | exact hR _ _ (Fin_normal _ rfl rfl rfl) | exact hR _ _ (Fin_ret _ rfl rfl (by simp [AV.erase, AV.unview, e]; done)) | exact hR _ _ (Fin_normal _ rfl rfl (by simp [AV.erase, AV.unview, e]; done)) | fail "no end")
  (simp (config := { maxSteps := 1000000 }) [h2])
  rw [ref07_Instr_m9_eq]
  refine AW_merge ⟨[(87, AB (bad12 i)), (2, .ptr 0 0), (4, AI 0), (1, AI regs)], [.mem [AI i.op, AI i.d, AI i.a, AI i.b, AI i.imm]]⟩ (fun N hN => ?_) ?_
  · clear hR h1 h2
    (simp (config := { maxSteps := 1000000 }) [])
    cases uD : usesD i.op <;> cases uA : usesA i.op <;> cases uB : usesB i.op <;>
      (repeat' (first | ((refine AWcall_det (ref05_UsesA_calls A _) (by rfl) (by rfl) ?_); (simp (config := { maxSteps := 1000000 }) [uA])) | ((refine AWcall_det (ref05_UsesB_calls A _) (by rfl) (by rfl) ?_); (simp (config := { maxSteps := 1000000 }) [uB])) | ((refine AWcall_det (ref05_UsesD_calls A _) (by rfl) (by rfl) ?_); (simp (config := { maxSteps := 1000000 }) [uD])) | (((first | refine AW_cond_split _ (by rfl) (fun hbr => ?_) (fun hbr => ?_) | refine AWop_split _ (by rfl) (fun hbr => ?_) (fun hbr => ?_)) <;> (try simp only [decide_eq_true_eq, decide_eq_false_iff_not, Bool.not_eq_true', Bool.not_eq_false', Bool.and_eq_true, Bool.or_eq_true, beq_iff_eq, bne_iff_ne, ne_eq, beq_eq_false_iff_ne, bne_eq_false_iff_eq] at hbr)) <;> simp (config := { maxSteps := 1000000 }) [hbr]))) <;>
      (refine hN _ ?_; clear hN; cases hb : bad12 i) <;> (first | ((refine Wk.of ?_ ?_ (by simp) <;> repeat' (first | exact True.intro | exact ⟨_, rfl, wkt_same rfl⟩ | exact ⟨_, rfl, wkt_erase rfl⟩ | exact ⟨_, rfl, .inl .nild⟩ | exact ⟨_, rfl, wkt_nils⟩ | exact wkt_same rfl | exact wkt_erase rfl | exact .inl .nild | exact wkt_nils | exact WkB.same rfl | exact WkB_rows | exact WkB_nil | exact .dead _ | refine WkB_cons ?_ ?_ | refine And.intro ?_ ?_)); done) | (exfalso; simp_all [bad12]; done) | (simp_all [bad12]; (refine Wk.of ?_ ?_ (by simp) <;> repeat' (first | exact True.intro | exact ⟨_, rfl, wkt_same rfl⟩ | exact ⟨_, rfl, wkt_erase rfl⟩ | exact ⟨_, rfl, .inl .nild⟩ | exact ⟨_, rfl, wkt_nils⟩ | exact wkt_same rfl | exact wkt_erase rfl | exact .inl .nild | exact wkt_nils | exact WkB.same rfl | exact WkB_rows | exact WkB_nil | exact .dead _ | refine WkB_cons ?_ ?_ | refine And.intro ?_ ?_)); done) | (cases hi : (i.imm != 0) <;> first | ((refine Wk.of ?_ ?_ (by simp) <;> repeat' (first | exact True.intro | exact ⟨_, rfl, wkt_same rfl⟩ | exact ⟨_, rfl, wkt_erase rfl⟩ | exact ⟨_, rfl, .inl .nild⟩ | exact ⟨_, rfl, wkt_nils⟩ | exact wkt_same rfl | exact wkt_erase rfl | exact .inl .nild | exact wkt_nils | exact WkB.same rfl | exact WkB_rows | exact WkB_nil | exact .dead _ | refine WkB_cons ?_ ?_ | refine And.intro ?_ ?_)); done) | (simp only [*]; (refine Wk.of ?_ ?_ (by simp) <;> repeat' (first | exact True.intro | exact ⟨_, rfl, wkt_same rfl⟩ | exact ⟨_, rfl, wkt_erase rfl⟩ | exact ⟨_, rfl, .inl .nild⟩ | exact ⟨_, rfl, wkt_nils⟩ | exact wkt_same rfl | exact wkt_erase rfl | exact .inl .nild | exact wkt_nils | exact WkB.same rfl | exact WkB_rows | exact WkB_nil | exact .dead _ | refine WkB_cons ?_ ?_ | refine And.intro ?_ ?_)); done) | (exfalso; simp_all [bad12]; done)))
  ((first | refine AW_cond_split _ (by rfl) (fun h3 => ?_) (fun h3 => ?_) | refine AWop_split _ (by rfl) (fun h3 => ?_) (fun h3 => ?_)) <;> (try simp only [decide_eq_true_eq, decide_eq_false_iff_not, Bool.not_eq_true', Bool.not_eq_false', Bool.and_eq_true, Bool.or_eq_true, beq_iff_eq, bne_iff_ne, ne_eq, beq_eq_false_iff_ne, bne_eq_false_iff_eq] at h3))
  · (simp (config := { maxSteps := 1000000 }) [h3])
    have e : refInstrZ i regs = 12 := by unfold refInstrZ; rw [if_neg (by simp at h1; omega), if_neg (by simpa using h2), if_pos h3]
    (first | exact hR _ _ (Fin_ret _ rfl rfl rfl) | exact hR _ _ (Fin_normal _ rfl rfl rfl) | exact hR _ _ (Fin_ret _ rfl rfl (by simp [AV.erase, AV.unview, e]; done)) | exact hR _ _ (Fin_normal _ rfl rfl (by simp [AV.erase, AV.unview, e]; done)) | fail "no end")
  (simp (config := { maxSteps := 1000000 }) [h3])
  have e : refInstrZ i regs = 0 := by unfold refInstrZ; rw [if_neg (by simp at h1; omega), if_neg (by simpa using h2), if_neg (by simpa using h3)]
  (first | exact hR _ _ (Fin_ret _ rfl rfl rfl) | exact hR _ _ (Fin_normal _ rfl rfl rfl) | exact hR _ _ (Fin_ret _ rfl rfl (by simp [AV.erase, AV.unview, e]; done)) | exact hR _ _ (Fin_normal _ rfl rfl (by simp [AV.erase, AV.unview, e]; done)) | fail "no end")
end
end Go.AE

set_option linter.unusedVariables false
namespace Go.AE
open Go
def few (f : Func) : Bool := decide (f.blocks.length ≤ 40) && decide (f.regs ≤ 60) && f.blocks.all (fun b => decide (b.code.length ≤ 100)) && decide (codeN f.blocks ≤ 300)
def refBlockZ (b : Block) (regs blocks : Int) : Int :=
  let e := firstErr (b.code.map (refInstrZ · regs))
  if e ≠ 0 then e else refTermZ b.term regs blocks
def refCheckZ (f : Func) : Int :=
  if f.args < 0 ∨ f.regs < f.args then 9 else if 1048576 < f.regs then 6 else if f.blocks.length = 0 then 14 else if 1048576 < f.blocks.length ∨ 1048576 < codeN f.blocks then 6
  else firstErr (f.blocks.map fun b => refBlockZ b f.regs f.blocks.length)
theorem codeN_bound {bs : List Block} (h : ∀ b ∈ bs, b.code.length ≤ 100) : codeN bs ≤ 100 * bs.length := by
  induction bs with
  | nil => simp [codeN]
  | cons b bs ih =>
    have h1 := h b (by simp)
    have h2 := ih fun x hx => h x (by simp [hx])
    simp only [codeN, List.map_cons, List.sum_cons, List.length_cons] at *
    omega
theorem few_iff {f : Func} : few f = true ↔ f.blocks.length ≤ 40 ∧ f.regs ≤ 60 ∧ (∀ b ∈ f.blocks, b.code.length ≤ 100) ∧ codeN f.blocks ≤ 300 := by
  simp [few, and_assoc]
section
theorem ref07_Code_calls {P : Program} {p : Nums} (A : All P p) (f : Func) (h0 : f.blocks.length < 1000000000) (h1 : codeN f.blocks < 1000000000) : CallsTo P p.ref07_Code [f.av] [] fun o _ => o = .ret (AI (codeN f.blocks)) := by
  refine A.ref07_Code.run rfl fun R hR => ?_
  (simp (config := { maxSteps := 1000000 }) [ic_ref07_Code, Func.av])
  refine AW_loop (fun k : Nat => ⟨[(4, AI k), (1, .ptr 0 0), (3, AI (codeN (f.blocks.take k)))], [.mem [AI f.args, AI f.regs, .d (.sl (f.blocks.map Block.row))]]⟩) (fun k => k ≤ f.blocks.length) (fun k => f.blocks.length - k) 0 (by simp) (by (refine Wk.of ?_ ?_ (by simp) <;> repeat' (first | exact True.intro | exact ⟨_, rfl, wkt_same rfl⟩ | exact ⟨_, rfl, wkt_erase rfl⟩ | exact ⟨_, rfl, .inl .nild⟩ | exact ⟨_, rfl, wkt_nils⟩ | exact wkt_same rfl | exact wkt_erase rfl | exact .inl .nild | exact wkt_nils | exact WkB.same rfl | exact WkB_rows | exact WkB_nil | exact .dead _ | refine WkB_cons ?_ ?_ | refine And.intro ?_ ?_))) ?_
  intro k hk N hN
  (simp (config := { maxSteps := 1000000 }) [])
  ((first | refine AW_cond_split _ (by rfl) (fun h2 => ?_) (fun h2 => ?_) | refine AWop_split _ (by rfl) (fun h2 => ?_) (fun h2 => ?_)) <;> (try simp only [decide_eq_true_eq, decide_eq_false_iff_not, Bool.not_eq_true', Bool.not_eq_false', Bool.and_eq_true, Bool.or_eq_true, beq_iff_eq, bne_iff_ne, ne_eq, beq_eq_false_iff_ne, bne_eq_false_iff_eq] at h2))
  · have hkl : k < f.blocks.length := by simpa using h2
    have hb : f.blocks[k]? = some f.blocks[k] := by simp [hkl]
    have hw := wrap_succ (k := k) (by omega)
    have hs := codeN_succ hb
    have hle := codeN_le f.blocks (k + 1)
    have hw2 := wrap_add (a := codeN (f.blocks.take k)) (b := f.blocks[k].code.length) (by omega)
    rw [← hs] at hw2
    (simp (config := { maxSteps := 1000000 }) [h2, List.getElem?_map, hb, Block.row, hw, hw2])
    exact hN _ (k + 1) hkl (by (refine Wk.of ?_ ?_ (by simp) <;> repeat' (first | exact True.intro | exact ⟨_, rfl, wkt_same rfl⟩ | exact ⟨_, rfl, wkt_erase rfl⟩ | exact ⟨_, rfl, .inl .nild⟩ | exact ⟨_, rfl, wkt_nils⟩ | exact wkt_same rfl | exact wkt_erase rfl | exact .inl .nild | exact wkt_nils | exact WkB.same rfl | exact WkB_rows | exact WkB_nil | exact .dead _ | refine WkB_cons ?_ ?_ | refine And.intro ?_ ?_))) (by omega)
  · have hk' : k = f.blocks.length := by simp at h2; omega
    subst hk'
    (simp (config := { maxSteps := 1000000 }) [])
    (first | exact hR _ _ (Fin_ret _ rfl rfl rfl) | exact hR _ _ (Fin_normal _ rfl rfl rfl) | exact hR _ _ (Fin_ret _ rfl rfl (by simp [AV.erase, AV.unview, List.take_length]; done)) | exact hR _ _ (Fin_normal _ rfl rfl (by simp [AV.erase, AV.unview, List.take_length]; done)) | fail "no end")
theorem ref07_Few_calls {P : Program} {p : Nums} (A : All P p) (f : Func) : CallsTo P p.ref07_Few [f.av] [] fun o _ => o = .ret (AB (few f)) := by
  refine A.ref07_Few.run rfl fun R hR => ?_
  (simp (config := { maxSteps := 1000000 }) [ic_ref07_Few, Func.av])
  ((first | refine AW_cond_split _ (by rfl) (fun a1 => ?_) (fun a1 => ?_) | refine AWop_split _ (by rfl) (fun a1 => ?_) (fun a1 => ?_)) <;> (try simp only [decide_eq_true_eq, decide_eq_false_iff_not, Bool.not_eq_true', Bool.not_eq_false', Bool.and_eq_true, Bool.or_eq_true, beq_iff_eq, bne_iff_ne, ne_eq, beq_eq_false_iff_ne, bne_eq_false_iff_eq] at a1))
  · (simp (config := { maxSteps := 1000000 }) [a1])
    have e : few f = false := by simp [few]; omega
    (first | exact hR _ _ (Fin_ret _ rfl rfl rfl) | exact hR _ _ (Fin_normal _ rfl rfl rfl) | exact hR _ _ (Fin_ret _ rfl rfl (by simp [AV.erase, AV.unview, e]; done)) | exact hR _ _ (Fin_normal _ rfl rfl (by simp [AV.erase, AV.unview, e]; done)) | fail "no end")
  (simp (config := { maxSteps := 1000000 }) [a1])
  ((first | refine AW_cond_split _ (by rfl) (fun a2 => ?_) (fun a2 => ?_) | refine AWop_split _ (by rfl) (fun a2 => ?_) (fun a2 => ?_)) <;> (try simp only [decide_eq_true_eq, decide_eq_false_iff_not, Bool.not_eq_true', Bool.not_eq_false', Bool.and_eq_true, Bool.or_eq_true, beq_iff_eq, bne_iff_ne, ne_eq, beq_eq_false_iff_ne, bne_eq_false_iff_eq] at a2))
  · (simp (config := { maxSteps := 1000000 }) [a2])
    have e : few f = false := by simp [few]; omega
    (first | exact hR _ _ (Fin_ret _ rfl rfl rfl) | exact hR _ _ (Fin_normal _ rfl rfl rfl) | exact hR _ _ (Fin_ret _ rfl rfl (by simp [AV.erase, AV.unview, e]; done)) | exact hR _ _ (Fin_normal _ rfl rfl (by simp [AV.erase, AV.unview, e]; done)) | fail "no end")
  (simp (config := { maxSteps := 1000000 }) [a2])
  refine AW_loop (fun k : Nat => ⟨[(3, AI k), (1, .ptr 0 0)], [.mem [AI f.args, AI f.regs, .d (.sl (f.blocks.map Block.row))]]⟩)
    (fun k => k ≤ f.blocks.length ∧ ∀ b ∈ f.blocks.take k, b.code.length ≤ 100) (fun k => f.blocks.length - k) 0 (by simp) (by (refine Wk.of ?_ ?_ (by simp) <;> repeat' (first | exact True.intro | exact ⟨_, rfl, wkt_same rfl⟩ | exact ⟨_, rfl, wkt_erase rfl⟩ | exact ⟨_, rfl, .inl .nild⟩ | exact ⟨_, rfl, wkt_nils⟩ | exact wkt_same rfl | exact wkt_erase rfl | exact .inl .nild | exact wkt_nils | exact WkB.same rfl | exact WkB_rows | exact WkB_nil | exact .dead _ | refine WkB_cons ?_ ?_ | refine And.intro ?_ ?_))) ?_
  rintro k ⟨hk, hz⟩ N hN
  (simp (config := { maxSteps := 1000000 }) [])
  ((first | refine AW_cond_split _ (by rfl) (fun h2 => ?_) (fun h2 => ?_) | refine AWop_split _ (by rfl) (fun h2 => ?_) (fun h2 => ?_)) <;> (try simp only [decide_eq_true_eq, decide_eq_false_iff_not, Bool.not_eq_true', Bool.not_eq_false', Bool.and_eq_true, Bool.or_eq_true, beq_iff_eq, bne_iff_ne, ne_eq, beq_eq_false_iff_ne, bne_eq_false_iff_eq] at h2))
  · have hkl : k < f.blocks.length := by simpa using h2
    have hb : f.blocks[k]? = some f.blocks[k] := by simp [hkl]
    have hw := wrap_succ (k := k) (by omega)
    (simp (config := { maxSteps := 1000000 }) [h2, hb, Block.row])
    ((first | refine AW_cond_split _ (by rfl) (fun h3 => ?_) (fun h3 => ?_) | refine AWop_split _ (by rfl) (fun h3 => ?_) (fun h3 => ?_)) <;> (try simp only [decide_eq_true_eq, decide_eq_false_iff_not, Bool.not_eq_true', Bool.not_eq_false', Bool.and_eq_true, Bool.or_eq_true, beq_iff_eq, bne_iff_ne, ne_eq, beq_eq_false_iff_ne, bne_eq_false_iff_eq] at h3))
    · (simp (config := { maxSteps := 1000000 }) [h3])
      have e : few f = false := by
        have : ¬ (∀ b ∈ f.blocks, b.code.length ≤ 100) := fun h => by have := h f.blocks[k] (by simp); omega
        simp [few]; intro _ _ h; exact absurd h this
      (first | exact hR _ _ (Fin_ret _ rfl rfl rfl) | exact hR _ _ (Fin_normal _ rfl rfl rfl) | exact hR _ _ (Fin_ret _ rfl rfl (by simp [AV.erase, AV.unview, e]; done)) | exact hR _ _ (Fin_normal _ rfl rfl (by simp [AV.erase, AV.unview, e]; done)) | fail "no end")
    · (simp (config := { maxSteps := 1000000 }) [h3, hw])
      refine hN _ (k + 1) ⟨hkl, ?_⟩ (by (refine Wk.of ?_ ?_ (by simp) <;> repeat' (first | exact True.intro | exact ⟨_, rfl, wkt_same rfl⟩ | exact ⟨_, rfl, wkt_erase rfl⟩ | exact ⟨_, rfl, .inl .nild⟩ | exact ⟨_, rfl, wkt_nils⟩ | exact wkt_same rfl | exact wkt_erase rfl | exact .inl .nild | exact wkt_nils | exact WkB.same rfl | exact WkB_rows | exact WkB_nil | exact .dead _ | refine WkB_cons ?_ ?_ | refine And.intro ?_ ?_))) (by omega)
      intro b hb'
      rw [List.take_add_one, hb, List.mem_append] at hb'
      rcases hb' with hb' | hb'
      · exact hz b hb'
      · simp at hb'; subst hb'; omega
  · have hk' : k = f.blocks.length := by simp at h2; omega
    subst hk'
    (simp (config := { maxSteps := 1000000 }) [])
    have hcb : codeN f.blocks ≤ 100 * f.blocks.length := codeN_bound (by rw [List.take_length] at hz; exact hz)
    (refine AWcall_det (ref07_Code_calls A f (by omega) (by omega)) (by rfl) (by rfl) ?_)
    (simp (config := { maxSteps := 1000000 }) [])
    have e : few f = decide ((codeN f.blocks : Int) ≤ 300) := by
      rw [List.take_length] at hz
      have e1 : f.blocks.all (fun b => decide (b.code.length ≤ 100)) = true := by simpa using hz
      have e2 : decide (f.blocks.length ≤ 40) = true := by simp; omega
      have e3 : decide (f.regs ≤ 60) = true := by simp; omega
      simp only [few, e1, e2, e3, Bool.true_and]
      congr 1; simp; omega
    (first | exact hR _ _ (Fin_ret _ rfl rfl rfl) | exact hR _ _ (Fin_normal _ rfl rfl rfl) | exact hR _ _ (Fin_ret _ rfl rfl (by simp [AV.erase, AV.unview, e]; done)) | exact hR _ _ (Fin_normal _ rfl rfl (by simp [AV.erase, AV.unview, e]; done)) | fail "no end")
theorem ref07_Check_calls {P : Program} {p : Nums} (A : All P p) (f : Func) (h0 : f.blocks.length < 1000000000) (h1 : codeN f.blocks < 1000000000) : CallsTo P p.ref07_Check [f.av] [] fun o _ => o = .ret (AI (refCheckZ f)) := by
  refine A.ref07_Check.run rfl fun R hR => ?_
  (simp (config := { maxSteps := 1000000 }) [ic_ref07_Check, Func.av])
  ((first | refine AW_cond_split _ (by rfl) (fun a1 => ?_) (fun a1 => ?_) | refine AWop_split _ (by rfl) (fun a1 => ?_) (fun a1 => ?_)) <;> (try simp only [decide_eq_true_eq, decide_eq_false_iff_not, Bool.not_eq_true', Bool.not_eq_false', Bool.and_eq_true, Bool.or_eq_true, beq_iff_eq, bne_iff_ne, ne_eq, beq_eq_false_iff_ne, bne_eq_false_iff_eq] at a1))
  · (simp (config := { maxSteps := 1000000 }) [a1])
    have e : refCheckZ f = 9 := by unfold refCheckZ; repeat (first | rw [if_pos (by omega)] | rw [if_neg (by omega)])
    (first | exact hR _ _ (Fin_ret _ rfl rfl rfl) | exact hR _ _ (Fin_normal _ rfl rfl rfl) | exact hR _ _ (Fin_ret _ rfl rfl (by simp [AV.erase, AV.unview, e]; done)) | exact hR _ _ (Fin_normal _ rfl rfl (by simp [AV.erase, AV.unview, e]; done)) | fail "no end")
  (simp (config := { maxSteps := 1000000 }) [a1])
  ((first | refine AW_cond_split _ (by rfl) (fun a2 => ?_) (fun a2 => ?_) | refine AWop_split _ (by rfl) (fun a2 => ?_) (fun a2 => ?_)) <;> (try simp only [decide_eq_true_eq, decide_eq_false_iff_not, Bool.not_eq_true', Bool.not_eq_false', Bool.and_eq_true, Bool.or_eq_true, beq_iff_eq, bne_iff_ne, ne_eq, beq_eq_false_iff_ne, bne_eq_false_iff_eq] at a2))
  · (simp (config := { maxSteps := 1000000 }) [a2])
    have e : refCheckZ f = 9 := by unfold refCheckZ; repeat (first | rw [if_pos (by omega)] | rw [if_neg (by omega)])
    (first | exact hR _ _ (Fin_ret _ rfl rfl rfl) | exact hR _ _ (Fin_normal _ rfl rfl rfl) | exact hR _ _ (Fin_ret _ rfl rfl (by simp [AV.erase, AV.unview, e]; done)) | exact hR _ _ (Fin_normal _ rfl rfl (by simp [AV.erase, AV.unview, e]; done)) | fail "no end")
  (simp (config := { maxSteps := 1000000 }) [a2])
  ((first | refine AW_cond_split _ (by rfl) (fun a3 => ?_) (fun a3 => ?_) | refine AWop_split _ (by rfl) (fun a3 => ?_) (fun a3 => ?_)) <;> (try simp only [decide_eq_true_eq, decide_eq_false_iff_not, Bool.not_eq_true', Bool.not_eq_false', Bool.and_eq_true, Bool.or_eq_true, beq_iff_eq, bne_iff_ne, ne_eq, beq_eq_false_iff_ne, bne_eq_false_iff_eq] at a3))
  · (simp (config := { maxSteps := 1000000 }) [a3])
    have e : refCheckZ f = 6 := by unfold refCheckZ; repeat (first | rw [if_pos (by omega)] | rw [if_neg (by omega)])
    (first | exact hR _ _ (Fin_ret _ rfl rfl rfl) | exact hR _ _ (Fin_normal _ rfl rfl rfl) | exact hR _ _ (Fin_ret _ rfl rfl (by simp [AV.erase, AV.unview, e]; done)) | exact hR _ _ (Fin_normal _ rfl rfl (by simp [AV.erase, AV.unview, e]; done)) | fail "no end")
  (simp (config := { maxSteps := 1000000 }) [a3])
  ((first | refine AW_cond_split _ (by rfl) (fun a4 => ?_) (fun a4 => ?_) | refine AWop_split _ (by rfl) (fun a4 => ?_) (fun a4 => ?_)) <;> (try simp only [decide_eq_true_eq, decide_eq_false_iff_not, Bool.not_eq_true', Bool.not_eq_false', Bool.and_eq_true, Bool.or_eq_true, beq_iff_eq, bne_iff_ne, ne_eq, beq_eq_false_iff_ne, bne_eq_false_iff_eq] at a4))
  · (simp (config := { maxSteps := 1000000 }) [a4])
    have e : refCheckZ f = 14 := by unfold refCheckZ; repeat (first | rw [if_pos (by omega)] | rw [if_neg (by omega)])
    (first | exact hR _ _ (Fin_ret _ rfl rfl rfl) | exact hR _ _ (Fin_normal _ rfl rfl rfl) | exact hR _ _ (Fin_ret _ rfl rfl (by simp [AV.erase, AV.unview, e]; done)) | exact hR _ _ (Fin_normal _ rfl rfl (by simp [AV.erase, AV.unview, e]; done)) | fail "no end")
  (simp (config := { maxSteps := 1000000 }) [a4])
  ((first | refine AW_cond_split _ (by rfl) (fun a5 => ?_) (fun a5 => ?_) | refine AWop_split _ (by rfl) (fun a5 => ?_) (fun a5 => ?_)) <;> (try simp only [decide_eq_true_eq, decide_eq_false_iff_not, Bool.not_eq_true', Bool.not_eq_false', Bool.and_eq_true, Bool.or_eq_true, beq_iff_eq, bne_iff_ne, ne_eq, beq_eq_false_iff_ne, bne_eq_false_iff_eq] at a5))
  · (simp (config := { maxSteps := 1000000 }) [a5])
    have e : refCheckZ f = 6 := by unfold refCheckZ; repeat (first | rw [if_pos (by omega)] | rw [if_neg (by omega)])
    (first | exact hR _ _ (Fin_ret _ rfl rfl rfl) | exact hR _ _ (Fin_normal _ rfl rfl rfl) | exact hR _ _ (Fin_ret _ rfl rfl (by simp [AV.erase, AV.unview, e]; done)) | exact hR _ _ (Fin_normal _ rfl rfl (by simp [AV.erase, AV.unview, e]; done)) | fail "no end")
  (simp (config := { maxSteps := 1000000 }) [a5])
  (refine AWcall_det (ref07_Code_calls A f h0 h1) (by rfl) (by rfl) ?_)
  (simp (config := { maxSteps := 1000000 }) [])
  ((first | refine AW_cond_split _ (by rfl) (fun a6 => ?_) (fun a6 => ?_) | refine AWop_split _ (by rfl) (fun a6 => ?_) (fun a6 => ?_)) <;> (try simp only [decide_eq_true_eq, decide_eq_false_iff_not, Bool.not_eq_true', Bool.not_eq_false', Bool.and_eq_true, Bool.or_eq_true, beq_iff_eq, bne_iff_ne, ne_eq, beq_eq_false_iff_ne, bne_eq_false_iff_eq] at a6))
  · (simp (config := { maxSteps := 1000000 }) [a6])
    have e : refCheckZ f = 6 := by unfold refCheckZ; repeat (first | rw [if_pos (by omega)] | rw [if_neg (by omega)])
    (first | exact hR _ _ (Fin_ret _ rfl rfl rfl) | exact hR _ _ (Fin_normal _ rfl rfl rfl) | exact hR _ _ (Fin_ret _ rfl rfl (by simp [AV.erase, AV.unview, e]; done)) | exact hR _ _ (Fin_normal _ rfl rfl (by simp [AV.erase, AV.unview, e]; done)) | fail "no end")
  (simp (config := { maxSteps := 1000000 }) [a6])
  have e : refCheckZ f = firstErr (f.blocks.map fun b => refBlockZ b f.regs f.blocks.length) := by
    unfold refCheckZ; repeat (first | rw [if_pos (by omega)] | rw [if_neg (by omega)])
  refine AW_loop (fun k : Nat => ⟨[(3, AI k), (2, AI 0), (1, .ptr 0 0)], [.mem [AI f.args, AI f.regs, .d (.sl (f.blocks.map Block.row))]]⟩)
    (fun k => k ≤ f.blocks.length ∧ ∀ e ∈ (f.blocks.map fun b => refBlockZ b f.regs f.blocks.length).take k, e = 0) (fun k => f.blocks.length - k) 0 (by simp) (by (refine Wk.of ?_ ?_ (by simp) <;> repeat' (first | exact True.intro | exact ⟨_, rfl, wkt_same rfl⟩ | exact ⟨_, rfl, wkt_erase rfl⟩ | exact ⟨_, rfl, .inl .nild⟩ | exact ⟨_, rfl, wkt_nils⟩ | exact wkt_same rfl | exact wkt_erase rfl | exact .inl .nild | exact wkt_nils | exact WkB.same rfl | exact WkB_rows | exact WkB_nil | exact .dead _ | refine WkB_cons ?_ ?_ | refine And.intro ?_ ?_))) ?_
  rintro k ⟨hk, hz⟩ N hN
  (simp (config := { maxSteps := 1000000 }) [])
  ((first | refine AW_cond_split _ (by rfl) (fun h2 => ?_) (fun h2 => ?_) | refine AWop_split _ (by rfl) (fun h2 => ?_) (fun h2 => ?_)) <;> (try simp only [decide_eq_true_eq, decide_eq_false_iff_not, Bool.not_eq_true', Bool.not_eq_false', Bool.and_eq_true, Bool.or_eq_true, beq_iff_eq, bne_iff_ne, ne_eq, beq_eq_false_iff_ne, bne_eq_false_iff_eq] at h2))
  · have hkl : k < f.blocks.length := by simpa using h2
    have hb : f.blocks[k]? = some f.blocks[k] := by simp [hkl]
    have hw := wrap_succ (k := k) (by omega)
    have hbl : f.blocks[k].code.length < 1000000000 := by
      have h3 := codeN_succ hb
      have h4 := codeN_le f.blocks (k + 1)
      omega
    (simp (config := { maxSteps := 1000000 }) [h2, hb, Block.row])
    refine AW_loop (fun j : Nat => ⟨[(5, AI j), (4, .ptr 1 0), (3, AI k), (2, AI 0), (1, .ptr 0 0)], [.mem [AI f.args, AI f.regs, .d (.sl (f.blocks.map Block.row))], .mem [.d (.sl (f.blocks[k].code.map Instr.row)), AI f.blocks[k].term.kind, AI f.blocks[k].term.a, AI f.blocks[k].term.to, AI f.blocks[k].term.els]]⟩)
      (fun j => j ≤ f.blocks[k].code.length ∧ ∀ e ∈ (f.blocks[k].code.map (refInstrZ · f.regs)).take j, e = 0) (fun j => f.blocks[k].code.length - j) 0 (by simp) (by (refine Wk.of ?_ ?_ (by simp) <;> repeat' (first | exact True.intro | exact ⟨_, rfl, wkt_same rfl⟩ | exact ⟨_, rfl, wkt_erase rfl⟩ | exact ⟨_, rfl, .inl .nild⟩ | exact ⟨_, rfl, wkt_nils⟩ | exact wkt_same rfl | exact wkt_erase rfl | exact .inl .nild | exact wkt_nils | exact WkB.same rfl | exact WkB_rows | exact WkB_nil | exact .dead _ | refine WkB_cons ?_ ?_ | refine And.intro ?_ ?_))) ?_
    rintro j ⟨hj, hy⟩ N' hN'
    (simp (config := { maxSteps := 1000000 }) [])
    ((first | refine AW_cond_split _ (by rfl) (fun h3 => ?_) (fun h3 => ?_) | refine AWop_split _ (by rfl) (fun h3 => ?_) (fun h3 => ?_)) <;> (try simp only [decide_eq_true_eq, decide_eq_false_iff_not, Bool.not_eq_true', Bool.not_eq_false', Bool.and_eq_true, Bool.or_eq_true, beq_iff_eq, bne_iff_ne, ne_eq, beq_eq_false_iff_ne, bne_eq_false_iff_eq] at h3))
    · have hjl : j < f.blocks[k].code.length := by simpa using h3
      have hbj : f.blocks[k].code[j]? = some f.blocks[k].code[j] := by simp [hjl]
      have hwj := wrap_succ (k := j) (by omega)
      (simp (config := { maxSteps := 1000000 }) [h3, hbj, Instr.row])
      (refine AWcall_det (ref07_Instr_calls A f.blocks[k].code[j] f.regs) (by rfl) (by rfl) ?_)
      (simp (config := { maxSteps := 1000000 }) [])
      ((first | refine AW_cond_split _ (by rfl) (fun h4 => ?_) (fun h4 => ?_) | refine AWop_split _ (by rfl) (fun h4 => ?_) (fun h4 => ?_)) <;> (try simp only [decide_eq_true_eq, decide_eq_false_iff_not, Bool.not_eq_true', Bool.not_eq_false', Bool.and_eq_true, Bool.or_eq_true, beq_iff_eq, bne_iff_ne, ne_eq, beq_eq_false_iff_ne, bne_eq_false_iff_eq] at h4))
      · (simp (config := { maxSteps := 1000000 }) [h4])
        have e2 : firstErr (f.blocks[k].code.map (refInstrZ · f.regs)) = refInstrZ f.blocks[k].code[j] f.regs := firstErr_at hy (by simp [hjl]) h4
        have e3 : refBlockZ f.blocks[k] f.regs f.blocks.length = refInstrZ f.blocks[k].code[j] f.regs := by simp [refBlockZ, e2, h4]
        have e4 : firstErr (f.blocks.map fun b => refBlockZ b f.regs f.blocks.length) = refBlockZ f.blocks[k] f.regs f.blocks.length := firstErr_at hz (by simp [hkl]) (by rw [e3]; exact h4)
        (first | exact hR _ _ (Fin_ret _ rfl rfl rfl) | exact hR _ _ (Fin_normal _ rfl rfl rfl) | exact hR _ _ (Fin_ret _ rfl rfl (by simp [AV.erase, AV.unview, e, e4, e3]; done)) | exact hR _ _ (Fin_normal _ rfl rfl (by simp [AV.erase, AV.unview, e, e4, e3]; done)) | fail "no end")
      · (simp (config := { maxSteps := 1000000 }) [h4, hwj])
        exact hN' _ (j + 1) ⟨hjl, take_zero hy hbj (by simpa using h4)⟩ (by (refine Wk.of ?_ ?_ (by simp) <;> repeat' (first | exact True.intro | exact ⟨_, rfl, wkt_same rfl⟩ | exact ⟨_, rfl, wkt_erase rfl⟩ | exact ⟨_, rfl, .inl .nild⟩ | exact ⟨_, rfl, wkt_nils⟩ | exact wkt_same rfl | exact wkt_erase rfl | exact .inl .nild | exact wkt_nils | exact WkB.same rfl | exact WkB_rows | exact WkB_nil | exact .dead _ | refine WkB_cons ?_ ?_ | refine And.intro ?_ ?_))) (by omega)
    · have hj' : j = f.blocks[k].code.length := by simp at h3; omega
      subst hj'
      have hfe : firstErr (f.blocks[k].code.map (refInstrZ · f.regs)) = 0 := firstErr_all (by rw [List.take_of_length_le (by simp)] at hy; exact hy)
      have e3 : refBlockZ f.blocks[k] f.regs f.blocks.length = refTermZ f.blocks[k].term f.regs f.blocks.length := by simp [refBlockZ, hfe]
      (simp (config := { maxSteps := 1000000 }) [])
      (refine AWcall_det (ref07_Term_calls A f.blocks[k].term f.regs f.blocks.length) (by rfl) (by rfl) ?_)
      (simp (config := { maxSteps := 1000000 }) [])
      ((first | refine AW_cond_split _ (by rfl) (fun h5 => ?_) (fun h5 => ?_) | refine AWop_split _ (by rfl) (fun h5 => ?_) (fun h5 => ?_)) <;> (try simp only [decide_eq_true_eq, decide_eq_false_iff_not, Bool.not_eq_true', Bool.not_eq_false', Bool.and_eq_true, Bool.or_eq_true, beq_iff_eq, bne_iff_ne, ne_eq, beq_eq_false_iff_ne, bne_eq_false_iff_eq] at h5))
      · (simp (config := { maxSteps := 1000000 }) [h5])
        have e4 : firstErr (f.blocks.map fun b => refBlockZ b f.regs f.blocks.length) = refBlockZ f.blocks[k] f.regs f.blocks.length := firstErr_at hz (by simp [hkl]) (by rw [e3]; exact h5)
        (first | exact hR _ _ (Fin_ret _ rfl rfl rfl) | exact hR _ _ (Fin_normal _ rfl rfl rfl) | exact hR _ _ (Fin_ret _ rfl rfl (by simp [AV.erase, AV.unview, e, e4, e3]; done)) | exact hR _ _ (Fin_normal _ rfl rfl (by simp [AV.erase, AV.unview, e, e4, e3]; done)) | fail "no end")
      · (simp (config := { maxSteps := 1000000 }) [h5, hw])
        exact hN _ (k + 1) ⟨hkl, take_zero hz hb (by rw [e3]; simpa using h5)⟩ (by (refine Wk.of ?_ ?_ (by simp) <;> repeat' (first | exact True.intro | exact ⟨_, rfl, wkt_same rfl⟩ | exact ⟨_, rfl, wkt_erase rfl⟩ | exact ⟨_, rfl, .inl .nild⟩ | exact ⟨_, rfl, wkt_nils⟩ | exact wkt_same rfl | exact wkt_erase rfl | exact .inl .nild | exact wkt_nils | exact WkB.same rfl | exact WkB_rows | exact WkB_nil | exact .dead _ | refine WkB_cons ?_ ?_ | refine And.intro ?_ ?_))) (by omega)
  · have hk' : k = f.blocks.length := by simp at h2; omega
    subst hk'
    have hfe : firstErr (f.blocks.map fun b => refBlockZ b f.regs f.blocks.length) = 0 := firstErr_all (by rw [List.take_of_length_le (by simp)] at hz; exact hz)
    (simp (config := { maxSteps := 1000000 }) [])
    (first | exact hR _ _ (Fin_ret _ rfl rfl rfl) | exact hR _ _ (Fin_normal _ rfl rfl rfl) | exact hR _ _ (Fin_ret _ rfl rfl (by simp [AV.erase, AV.unview, e, hfe]; done)) | exact hR _ _ (Fin_normal _ rfl rfl (by simp [AV.erase, AV.unview, e, hfe]; done)) | fail "no end")
end
end Go.AE

set_option linter.unusedVariables false
namespace Go.AE
open Go
structure MBlock where (code : List Mach) (term : Term)
  deriving Inhabited
def MBlock.row (b : MBlock) : List D := [.sl (b.code.map Mach.row), I b.term.kind, I b.term.a, I b.term.to, I b.term.els]
def MBlock.av (b : MBlock) : AV := .agg [.d (.sl (b.code.map Mach.row)), AI b.term.kind, AI b.term.a, AI b.term.to, AI b.term.els]
structure MFunc where (args regs slots : Int) (blocks : List MBlock)
def MFunc.av (f : MFunc) : AV := .agg [AI f.args, AI f.regs, AI f.slots, .d (.sl (f.blocks.map MBlock.row))]
structure Pair where (v l : Int)
  deriving DecidableEq, Inhabited
def Pair.row (q : Pair) : List D := [I q.v, I q.l]
def Pair.av (q : Pair) : AV := .agg [AI q.v, AI q.l]
def pairsD (l : List Pair) : D := .sl (l.map Pair.row)
def witD (w : List (List Pair)) : D := .sl (w.map fun l => [pairsD l])
structure Cert where (S : Func) (T : MFunc) (W : List (List Pair))
def Cert.av (c : Cert) : AV := .agg [AI c.S.args, AI c.S.regs, .d (.sl (c.S.blocks.map Block.row)), AI c.T.args, AI c.T.regs, AI c.T.slots, .d (.sl (c.T.blocks.map MBlock.row)), .d (witD c.W)]
section
theorem ref07_Same_refl {P : Program} {p : Nums} (A : All P p) (f : Func) (h0 : f.blocks.length < 1000000000) (h1 : ∀ b ∈ f.blocks, b.code.length < 1000000000) : CallsTo P p.ref07_Same [f.av, f.av] [] fun o _ => o = .ret (AB true) := by
  refine A.ref07_Same.run rfl fun R hR => ?_
  (simp (config := { maxSteps := 1000000 }) [ic_ref07_Same, Func.av])
  refine AW_loop (fun k : Nat => ⟨[(5, AI k), (4, AB false), (3, .ptr 1 0), (2, .ptr 0 0)], [.mem [AI f.args, AI f.regs, .d (.sl (f.blocks.map Block.row))], .mem [AI f.args, AI f.regs, .d (.sl (f.blocks.map Block.row))]]⟩) (fun k => k ≤ f.blocks.length) (fun k => f.blocks.length - k) 0 (by simp) (by (refine Wk.of ?_ ?_ (by simp) <;> repeat' (first | exact True.intro | exact ⟨_, rfl, wkt_same rfl⟩ | exact ⟨_, rfl, wkt_erase rfl⟩ | exact ⟨_, rfl, .inl .nild⟩ | exact ⟨_, rfl, wkt_nils⟩ | exact wkt_same rfl | exact wkt_erase rfl | exact .inl .nild | exact wkt_nils | exact WkB.same rfl | exact WkB_rows | exact WkB_nil | exact .dead _ | refine WkB_cons ?_ ?_ | refine And.intro ?_ ?_))) ?_
  intro k hk N hN
  (simp (config := { maxSteps := 1000000 }) [])
  ((first | refine AW_cond_split _ (by rfl) (fun h2 => ?_) (fun h2 => ?_) | refine AWop_split _ (by rfl) (fun h2 => ?_) (fun h2 => ?_)) <;> (try simp only [decide_eq_true_eq, decide_eq_false_iff_not, Bool.not_eq_true', Bool.not_eq_false', Bool.and_eq_true, Bool.or_eq_true, beq_iff_eq, bne_iff_ne, ne_eq, beq_eq_false_iff_ne, bne_eq_false_iff_eq] at h2))
  · have hkl : k < f.blocks.length := by simpa using h2
    have hb : f.blocks[k]? = some f.blocks[k] := by simp [hkl]
    have hbl := h1 f.blocks[k] (by simp)
    have hw := wrap_succ (k := k) (by omega)
    (simp (config := { maxSteps := 1000000 }) [h2, hb, Block.row])
    refine AW_loop (fun j : Nat => ⟨[(6, AI j), (5, AI k), (4, AB false), (3, .ptr 1 0), (2, .ptr 0 0)], [.mem [AI f.args, AI f.regs, .d (.sl (f.blocks.map Block.row))], .mem [AI f.args, AI f.regs, .d (.sl (f.blocks.map Block.row))]]⟩) (fun j => j ≤ f.blocks[k].code.length) (fun j => f.blocks[k].code.length - j) 0 (by simp) (by (refine Wk.of ?_ ?_ (by simp) <;> repeat' (first | exact True.intro | exact ⟨_, rfl, wkt_same rfl⟩ | exact ⟨_, rfl, wkt_erase rfl⟩ | exact ⟨_, rfl, .inl .nild⟩ | exact ⟨_, rfl, wkt_nils⟩ | exact wkt_same rfl | exact wkt_erase rfl | exact .inl .nild | exact wkt_nils | exact WkB.same rfl | exact WkB_rows | exact WkB_nil | exact .dead _ | refine WkB_cons ?_ ?_ | refine And.intro ?_ ?_))) ?_
    intro j hj N' hN'
    (simp (config := { maxSteps := 1000000 }) [hb, Block.row])
    ((first | refine AW_cond_split _ (by rfl) (fun h3 => ?_) (fun h3 => ?_) | refine AWop_split _ (by rfl) (fun h3 => ?_) (fun h3 => ?_)) <;> (try simp only [decide_eq_true_eq, decide_eq_false_iff_not, Bool.not_eq_true', Bool.not_eq_false', Bool.and_eq_true, Bool.or_eq_true, beq_iff_eq, bne_iff_ne, ne_eq, beq_eq_false_iff_ne, bne_eq_false_iff_eq] at h3))
    · have hjl : j < f.blocks[k].code.length := by simpa using h3
      have hbj : f.blocks[k].code[j]? = some f.blocks[k].code[j] := by simp [hjl]
      have hwj := wrap_succ (k := j) (by omega)
      (simp (config := { maxSteps := 1000000 }) [h3, hb, Block.row, hbj, Instr.row, hwj])
      exact hN' _ (j + 1) hjl (by (refine Wk.of ?_ ?_ (by simp) <;> repeat' (first | exact True.intro | exact ⟨_, rfl, wkt_same rfl⟩ | exact ⟨_, rfl, wkt_erase rfl⟩ | exact ⟨_, rfl, .inl .nild⟩ | exact ⟨_, rfl, wkt_nils⟩ | exact wkt_same rfl | exact wkt_erase rfl | exact .inl .nild | exact wkt_nils | exact WkB.same rfl | exact WkB_rows | exact WkB_nil | exact .dead _ | refine WkB_cons ?_ ?_ | refine And.intro ?_ ?_))) (by omega)
    · (simp (config := { maxSteps := 1000000 }) [h3, hw])
      exact hN _ (k + 1) hkl (by (refine Wk.of ?_ ?_ (by simp) <;> repeat' (first | exact True.intro | exact ⟨_, rfl, wkt_same rfl⟩ | exact ⟨_, rfl, wkt_erase rfl⟩ | exact ⟨_, rfl, .inl .nild⟩ | exact ⟨_, rfl, wkt_nils⟩ | exact wkt_same rfl | exact wkt_erase rfl | exact .inl .nild | exact wkt_nils | exact WkB.same rfl | exact WkB_rows | exact WkB_nil | exact .dead _ | refine WkB_cons ?_ ?_ | refine And.intro ?_ ?_))) (by omega)
  · (simp (config := { maxSteps := 1000000 }) [h2])
    (first | exact hR _ _ (Fin_ret _ rfl rfl rfl) | exact hR _ _ (Fin_normal _ rfl rfl rfl) | exact hR _ _ (Fin_ret _ rfl rfl (by simp [AV.erase, AV.unview]; done)) | exact hR _ _ (Fin_normal _ rfl rfl (by simp [AV.erase, AV.unview]; done)) | fail "no end")
theorem ref08_Same_refl {P : Program} {p : Nums} (A : All P p) (f : MFunc) (h0 : f.blocks.length < 1000000000) (h1 : ∀ b ∈ f.blocks, b.code.length < 1000000000) : CallsTo P p.ref08_Same [f.av, f.av] [] fun o _ => o = .ret (AB true) := by
  refine A.ref08_Same.run rfl fun R hR => ?_
  (simp (config := { maxSteps := 1000000 }) [ic_ref08_Same, MFunc.av])
  refine AW_loop (fun k : Nat => ⟨[(5, AI k), (4, AB false), (3, .ptr 1 0), (2, .ptr 0 0)], [.mem [AI f.args, AI f.regs, AI f.slots, .d (.sl (f.blocks.map MBlock.row))], .mem [AI f.args, AI f.regs, AI f.slots, .d (.sl (f.blocks.map MBlock.row))]]⟩) (fun k => k ≤ f.blocks.length) (fun k => f.blocks.length - k) 0 (by simp) (by (refine Wk.of ?_ ?_ (by simp) <;> repeat' (first | exact True.intro | exact ⟨_, rfl, wkt_same rfl⟩ | exact ⟨_, rfl, wkt_erase rfl⟩ | exact ⟨_, rfl, .inl .nild⟩ | exact ⟨_, rfl, wkt_nils⟩ | exact wkt_same rfl | exact wkt_erase rfl | exact .inl .nild | exact wkt_nils | exact WkB.same rfl | exact WkB_rows | exact WkB_nil | exact .dead _ | refine WkB_cons ?_ ?_ | refine And.intro ?_ ?_))) ?_
  intro k hk N hN
  (simp (config := { maxSteps := 1000000 }) [])
  ((first | refine AW_cond_split _ (by rfl) (fun h2 => ?_) (fun h2 => ?_) | refine AWop_split _ (by rfl) (fun h2 => ?_) (fun h2 => ?_)) <;> (try simp only [decide_eq_true_eq, decide_eq_false_iff_not, Bool.not_eq_true', Bool.not_eq_false', Bool.and_eq_true, Bool.or_eq_true, beq_iff_eq, bne_iff_ne, ne_eq, beq_eq_false_iff_ne, bne_eq_false_iff_eq] at h2))
  · have hkl : k < f.blocks.length := by simpa using h2
    have hb : f.blocks[k]? = some f.blocks[k] := by simp [hkl]
    have hbl := h1 f.blocks[k] (by simp)
    have hw := wrap_succ (k := k) (by omega)
    (simp (config := { maxSteps := 1000000 }) [h2, hb, MBlock.row])
    refine AW_loop (fun j : Nat => ⟨[(6, AI j), (5, AI k), (4, AB false), (3, .ptr 1 0), (2, .ptr 0 0)], [.mem [AI f.args, AI f.regs, AI f.slots, .d (.sl (f.blocks.map MBlock.row))], .mem [AI f.args, AI f.regs, AI f.slots, .d (.sl (f.blocks.map MBlock.row))]]⟩) (fun j => j ≤ f.blocks[k].code.length) (fun j => f.blocks[k].code.length - j) 0 (by simp) (by (refine Wk.of ?_ ?_ (by simp) <;> repeat' (first | exact True.intro | exact ⟨_, rfl, wkt_same rfl⟩ | exact ⟨_, rfl, wkt_erase rfl⟩ | exact ⟨_, rfl, .inl .nild⟩ | exact ⟨_, rfl, wkt_nils⟩ | exact wkt_same rfl | exact wkt_erase rfl | exact .inl .nild | exact wkt_nils | exact WkB.same rfl | exact WkB_rows | exact WkB_nil | exact .dead _ | refine WkB_cons ?_ ?_ | refine And.intro ?_ ?_))) ?_
    intro j hj N' hN'
    (simp (config := { maxSteps := 1000000 }) [hb, MBlock.row])
    ((first | refine AW_cond_split _ (by rfl) (fun h3 => ?_) (fun h3 => ?_) | refine AWop_split _ (by rfl) (fun h3 => ?_) (fun h3 => ?_)) <;> (try simp only [decide_eq_true_eq, decide_eq_false_iff_not, Bool.not_eq_true', Bool.not_eq_false', Bool.and_eq_true, Bool.or_eq_true, beq_iff_eq, bne_iff_ne, ne_eq, beq_eq_false_iff_ne, bne_eq_false_iff_eq] at h3))
    · have hjl : j < f.blocks[k].code.length := by simpa using h3
      have hbj : f.blocks[k].code[j]? = some f.blocks[k].code[j] := by simp [hjl]
      have hwj := wrap_succ (k := j) (by omega)
      (simp (config := { maxSteps := 1000000 }) [h3, hb, MBlock.row, hbj, Mach.row, hwj])
      exact hN' _ (j + 1) hjl (by (refine Wk.of ?_ ?_ (by simp) <;> repeat' (first | exact True.intro | exact ⟨_, rfl, wkt_same rfl⟩ | exact ⟨_, rfl, wkt_erase rfl⟩ | exact ⟨_, rfl, .inl .nild⟩ | exact ⟨_, rfl, wkt_nils⟩ | exact wkt_same rfl | exact wkt_erase rfl | exact .inl .nild | exact wkt_nils | exact WkB.same rfl | exact WkB_rows | exact WkB_nil | exact .dead _ | refine WkB_cons ?_ ?_ | refine And.intro ?_ ?_))) (by omega)
    · (simp (config := { maxSteps := 1000000 }) [h3, hw])
      exact hN _ (k + 1) hkl (by (refine Wk.of ?_ ?_ (by simp) <;> repeat' (first | exact True.intro | exact ⟨_, rfl, wkt_same rfl⟩ | exact ⟨_, rfl, wkt_erase rfl⟩ | exact ⟨_, rfl, .inl .nild⟩ | exact ⟨_, rfl, wkt_nils⟩ | exact wkt_same rfl | exact wkt_erase rfl | exact .inl .nild | exact wkt_nils | exact WkB.same rfl | exact WkB_rows | exact WkB_nil | exact .dead _ | refine WkB_cons ?_ ?_ | refine And.intro ?_ ?_))) (by omega)
  · (simp (config := { maxSteps := 1000000 }) [h2])
    (first | exact hR _ _ (Fin_ret _ rfl rfl rfl) | exact hR _ _ (Fin_normal _ rfl rfl rfl) | exact hR _ _ (Fin_ret _ rfl rfl (by simp [AV.erase, AV.unview]; done)) | exact hR _ _ (Fin_normal _ rfl rfl (by simp [AV.erase, AV.unview]; done)) | fail "no end")
theorem ref11_Same_refl {P : Program} {p : Nums} (A : All P p) (l : List Pair) (h0 : l.length < 1000000000) : CallsTo P p.ref11_Same [.d (pairsD l), .d (pairsD l)] [] fun o _ => o = .ret (AB true) := by
  refine A.ref11_Same.run rfl fun R hR => ?_
  (simp (config := { maxSteps := 1000000 }) [ic_ref11_Same, pairsD])
  refine AW_loop (fun k : Nat => ⟨[(5, AI k), (4, AB false), (1, .d (.sl (l.map Pair.row))), (0, .d (.sl (l.map Pair.row)))], []⟩) (fun k => k ≤ l.length) (fun k => l.length - k) 0 (by simp) (by (refine Wk.of ?_ ?_ (by simp) <;> repeat' (first | exact True.intro | exact ⟨_, rfl, wkt_same rfl⟩ | exact ⟨_, rfl, wkt_erase rfl⟩ | exact ⟨_, rfl, .inl .nild⟩ | exact ⟨_, rfl, wkt_nils⟩ | exact wkt_same rfl | exact wkt_erase rfl | exact .inl .nild | exact wkt_nils | exact WkB.same rfl | exact WkB_rows | exact WkB_nil | exact .dead _ | refine WkB_cons ?_ ?_ | refine And.intro ?_ ?_))) ?_
  intro k hk N hN
  (simp (config := { maxSteps := 1000000 }) [])
  ((first | refine AW_cond_split _ (by rfl) (fun h2 => ?_) (fun h2 => ?_) | refine AWop_split _ (by rfl) (fun h2 => ?_) (fun h2 => ?_)) <;> (try simp only [decide_eq_true_eq, decide_eq_false_iff_not, Bool.not_eq_true', Bool.not_eq_false', Bool.and_eq_true, Bool.or_eq_true, beq_iff_eq, bne_iff_ne, ne_eq, beq_eq_false_iff_ne, bne_eq_false_iff_eq] at h2))
  · have hkl : k < l.length := by simpa using h2
    have hb : l[k]? = some l[k] := by simp [hkl]
    have hw := wrap_succ (k := k) (by omega)
    (simp (config := { maxSteps := 1000000 }) [h2, hb, Pair.row, hw])
    exact hN _ (k + 1) hkl (by (refine Wk.of ?_ ?_ (by simp) <;> repeat' (first | exact True.intro | exact ⟨_, rfl, wkt_same rfl⟩ | exact ⟨_, rfl, wkt_erase rfl⟩ | exact ⟨_, rfl, .inl .nild⟩ | exact ⟨_, rfl, wkt_nils⟩ | exact wkt_same rfl | exact wkt_erase rfl | exact .inl .nild | exact wkt_nils | exact WkB.same rfl | exact WkB_rows | exact WkB_nil | exact .dead _ | refine WkB_cons ?_ ?_ | refine And.intro ?_ ?_))) (by omega)
  · (simp (config := { maxSteps := 1000000 }) [h2])
    (first | exact hR _ _ (Fin_ret _ rfl rfl rfl) | exact hR _ _ (Fin_normal _ rfl rfl rfl) | exact hR _ _ (Fin_ret _ rfl rfl (by simp [AV.erase, AV.unview]; done)) | exact hR _ _ (Fin_normal _ rfl rfl (by simp [AV.erase, AV.unview]; done)) | fail "no end")
theorem ref15_Same_refl {P : Program} {p : Nums} (A : All P p) (w : List (List Pair)) (h0 : w.length < 1000000000) (h1 : ∀ l ∈ w, l.length < 1000000000) : CallsTo P p.ref15_Same [.d (witD w), .d (witD w)] [] fun o _ => o = .ret (AB true) := by
  refine A.ref15_Same.run rfl fun R hR => ?_
  (simp (config := { maxSteps := 1000000 }) [ic_ref15_Same, witD])
  refine AW_loop (fun k : Nat => ⟨[(5, AI k), (4, AB false), (1, .d (.sl (w.map fun l => [pairsD l]))), (0, .d (.sl (w.map fun l => [pairsD l])))], []⟩) (fun k => k ≤ w.length) (fun k => w.length - k) 0 (by simp) (by (refine Wk.of ?_ ?_ (by simp) <;> repeat' (first | exact True.intro | exact ⟨_, rfl, wkt_same rfl⟩ | exact ⟨_, rfl, wkt_erase rfl⟩ | exact ⟨_, rfl, .inl .nild⟩ | exact ⟨_, rfl, wkt_nils⟩ | exact wkt_same rfl | exact wkt_erase rfl | exact .inl .nild | exact wkt_nils | exact WkB.same rfl | exact WkB_rows | exact WkB_nil | exact .dead _ | refine WkB_cons ?_ ?_ | refine And.intro ?_ ?_))) ?_
  intro k hk N hN
  (simp (config := { maxSteps := 1000000 }) [])
  ((first | refine AW_cond_split _ (by rfl) (fun h2 => ?_) (fun h2 => ?_) | refine AWop_split _ (by rfl) (fun h2 => ?_) (fun h2 => ?_)) <;> (try simp only [decide_eq_true_eq, decide_eq_false_iff_not, Bool.not_eq_true', Bool.not_eq_false', Bool.and_eq_true, Bool.or_eq_true, beq_iff_eq, bne_iff_ne, ne_eq, beq_eq_false_iff_ne, bne_eq_false_iff_eq] at h2))
  · have hkl : k < w.length := by simpa using h2
    have hb : w[k]? = some w[k] := by simp [hkl]
    have hw := wrap_succ (k := k) (by omega)
    (simp (config := { maxSteps := 1000000 }) [h2, hb])
    (refine AWcall_det (ref11_Same_refl A w[k] (h1 _ (by simp))) (by rfl) (by rfl) ?_)
    (simp (config := { maxSteps := 1000000 }) [hw])
    exact hN _ (k + 1) hkl (by (refine Wk.of ?_ ?_ (by simp) <;> repeat' (first | exact True.intro | exact ⟨_, rfl, wkt_same rfl⟩ | exact ⟨_, rfl, wkt_erase rfl⟩ | exact ⟨_, rfl, .inl .nild⟩ | exact ⟨_, rfl, wkt_nils⟩ | exact wkt_same rfl | exact wkt_erase rfl | exact .inl .nild | exact wkt_nils | exact WkB.same rfl | exact WkB_rows | exact WkB_nil | exact .dead _ | refine WkB_cons ?_ ?_ | refine And.intro ?_ ?_))) (by omega)
  · (simp (config := { maxSteps := 1000000 }) [h2])
    (first | exact hR _ _ (Fin_ret _ rfl rfl rfl) | exact hR _ _ (Fin_normal _ rfl rfl rfl) | exact hR _ _ (Fin_ret _ rfl rfl (by simp [AV.erase, AV.unview]; done)) | exact hR _ _ (Fin_normal _ rfl rfl (by simp [AV.erase, AV.unview]; done)) | fail "no end")
theorem ref16_Same_refl {P : Program} {p : Nums} (A : All P p) (c : Cert) (h0 : c.S.blocks.length < 1000000000) (h1 : ∀ b ∈ c.S.blocks, b.code.length < 1000000000) (h2 : c.T.blocks.length < 1000000000) (h3 : ∀ b ∈ c.T.blocks, b.code.length < 1000000000)
    (h4 : c.W.length < 1000000000) (h5 : ∀ l ∈ c.W, l.length < 1000000000) : CallsTo P p.ref16_Same [c.av, c.av] [] fun o _ => o = .ret (AB true) := by
  refine A.ref16_Same.run rfl fun R hR => ?_
  (simp (config := { maxSteps := 1000000 }) [ic_ref16_Same, Cert.av])
  (refine AWcall_det (ref07_Same_refl A c.S h0 h1) (by rfl) (by rfl) ?_)
  (simp (config := { maxSteps := 1000000 }) [])
  (refine AWcall_det (ref08_Same_refl A c.T h2 h3) (by rfl) (by rfl) ?_)
  (simp (config := { maxSteps := 1000000 }) [])
  (refine AWcall_det (ref15_Same_refl A c.W h4 h5) (by rfl) (by rfl) ?_)
  (simp (config := { maxSteps := 1000000 }) [])
  (first | exact hR _ _ (Fin_ret _ rfl rfl rfl) | exact hR _ _ (Fin_normal _ rfl rfl rfl) | exact hR _ _ (Fin_ret _ rfl rfl (by simp [AV.erase, AV.unview]; done)) | exact hR _ _ (Fin_normal _ rfl rfl (by simp [AV.erase, AV.unview]; done)) | fail "no end")
end
end Go.AE

set_option linter.unusedVariables false
namespace Go.AE
open Go
def opM (i : Instr) (b : Int) : Mach := ⟨i.op, 0, 0, b, i.imm, 0, 0⟩
def spInstr (i : Instr) : List Mach :=
  (if (shapeZ i.op).A = true then [mvM (regZ 0) (slotZ i.a)] else []) ++
  ((if (i.op != 2) = true then (if (shapeZ i.op).B = true then [mvM (regZ 1) (slotZ i.b), opM i 1] else [opM i 0]) else []) ++
   (if (shapeZ i.op).D = true then [mvM (slotZ i.d) (regZ 0)] else []))
def spCode (l : List Instr) : List Mach := l.flatMap spInstr
def spBlock (b : Block) : MBlock := ⟨spCode b.code ++ (if b.term.kind = 1 then [] else [mvM (regZ 0) (slotZ b.term.a)]), { b.term with a := 0 }⟩
theorem spInstr_le (i : Instr) : (spInstr i).length ≤ 4 := by
  unfold spInstr
  split <;> split <;> (try split) <;> (try split) <;> simp
theorem spCode_le (l : List Instr) : (spCode l).length ≤ 4 * l.length := by
  induction l with
  | nil => simp [spCode]
  | cons i l ih =>
    have := spInstr_le i
    simp only [spCode, List.flatMap_cons, List.length_append, List.length_cons] at *
    omega
theorem spBlock_le (b : Block) : (spBlock b).code.length ≤ 4 * b.code.length + 1 := by
  have := spCode_le b.code
  simp only [spBlock, List.length_append]
  split <;> simp <;> omega
section
theorem builder_add_calls {P : Program} {p : Nums} (A : All P p) (rows l : List (List D)) (hl : ∀ r ∈ l, r.length = 7) (h : rows.length + l.length ≤ 1000000000) : CallsTo P p.spillall_builder_add [.ptr 0 0, .d (.sl l)] [.mem [.own 7 rows]]
    fun o H' => o = .ret (.tup []) ∧ H' = [.mem [.own 7 (rows ++ l)]] := by
  refine A.spillall_builder_add.run rfl fun R hR => ?_
  (simp (config := { maxSteps := 1000000 }) [ic_spillall_builder_add])
  (refine AWio_app_own (by rfl) (by rfl) (by rfl) ?_ (by decide) ?_ ?_ ?_)
  · exact hl
  · omega
  · omega
  (simp (config := { maxSteps := 1000000 }) [])
  exact hR _ _ (Fin_wk (.tup []) (.tup []) [.mem [.own 7 (rows ++ l)]] rfl (by (refine Wk.of ?_ ?_ (by simp) <;> repeat' (first | exact True.intro | exact ⟨_, rfl, wkt_same rfl⟩ | exact ⟨_, rfl, wkt_erase rfl⟩ | exact ⟨_, rfl, .inl .nild⟩ | exact ⟨_, rfl, wkt_nils⟩ | exact wkt_same rfl | exact wkt_erase rfl | exact .inl .nild | exact wkt_nils | exact WkB.same rfl | exact WkB_rows | exact WkB_nil | exact .dead _ | refine WkB_cons ?_ ?_ | refine And.intro ?_ ?_))) ⟨rfl, rfl⟩)
theorem builder_instr_calls {P : Program} {p : Nums} (A : All P p) (rows : List (List D)) (i : Instr) (h : rows.length ≤ 900000000) : CallsTo P p.spillall_builder_instr [.ptr 0 0, i.av] [.mem [.own 7 rows]]
    fun o H' => o = .ret (.tup []) ∧ H' = [.mem [.own 7 (rows ++ (spInstr i).map Mach.row)]] := by
  refine A.spillall_builder_instr.run rfl fun R hR => ?_
  (simp (config := { maxSteps := 1000000 }) [ic_spillall_builder_instr, Instr.av])
  (refine AWcall_det (opcode_Of_calls A i.op) (by rfl) (by rfl) ?_)
  (simp (config := { maxSteps := 1000000 }) [])
  have hs : spInstr i = spInstr i := rfl
  conv at hs => rhs; unfold spInstr
  cases hA : (shapeZ i.op).A <;> cases hB : (shapeZ i.op).B <;> cases hD : (shapeZ i.op).D <;> cases h2 : (i.op != 2) <;>
    simp only [hA, hB, hD, h2, if_true, if_false, List.nil_append, List.append_nil, List.cons_append, reduceCtorEq] at hs <;>
    (simp (config := { maxSteps := 1000000 }) [hA, hB, hD, h2]) <;>
    (repeat' (first
      | ((refine AWcall_det (spillall_load_calls A _ _) (by rfl) (by rfl) ?_); (simp (config := { maxSteps := 1000000 }) [Mach.av, mvM]))
      | ((refine AWcall_det (spillall_store_calls A _) (by rfl) (by rfl) ?_); (simp (config := { maxSteps := 1000000 }) [Mach.av, mvM]))
      | (refine AWcall_loc [0] (builder_add_calls A _ _ ?_ ?_) (by decide) (by rfl) (by rfl) (by rfl) (by rfl) (by rfl) (by rfl) ?_; (focus (simp; done)); (focus (simp; omega)); (simp (config := { maxSteps := 1000000 }) [hA, hB, hD, h2])))) <;>
    (refine hR _ _ (Fin_wk (.tup []) (.tup []) [.mem [.own 7 (rows ++ (spInstr i).map Mach.row)]] rfl ?_ ⟨rfl, rfl⟩); rw [hs]; simp [Mach.row, mvM, opM]; (refine Wk.of ?_ ?_ (by simp) <;> repeat' (first | exact True.intro | exact ⟨_, rfl, wkt_same rfl⟩ | exact ⟨_, rfl, wkt_erase rfl⟩ | exact ⟨_, rfl, .inl .nild⟩ | exact ⟨_, rfl, wkt_nils⟩ | exact wkt_same rfl | exact wkt_erase rfl | exact .inl .nild | exact wkt_nils | exact WkB.same rfl | exact WkB_rows | exact WkB_nil | exact .dead _ | refine WkB_cons ?_ ?_ | refine And.intro ?_ ?_)))
end
end Go.AE

set_option linter.unusedVariables false
namespace Go.AE
open Go
def runStep (s : Nat × Nat) (m : Mach) : Nat × Nat := let n := if (m.op != 18) = true then 0 else s.2 + 1; (max s.1 n, n)
def runMost (l : List Mach) : Nat × Nat := l.foldl runStep (0, 0)
def spMoves (b : Block) : Nat := (runMost (spBlock b).code).1
theorem runMost_le (l : List Mach) : (runMost l).1 ≤ l.length ∧ (runMost l).2 ≤ l.length := by
  suffices ∀ (l : List Mach) (s : Nat × Nat), (l.foldl runStep s).1 ≤ max s.1 (s.2 + l.length) ∧ (l.foldl runStep s).2 ≤ s.2 + l.length by
    have := this l (0, 0); simp only [runMost]; omega
  intro l
  induction l with
  | nil => intro s; simp; omega
  | cons m l ih =>
    intro s
    have := ih (runStep s m)
    simp only [List.foldl_cons, List.length_cons]
    have h2 : (runStep s m).2 ≤ s.2 + 1 := by simp only [runStep]; split <;> omega
    have h1 : (runStep s m).1 ≤ max s.1 (s.2 + 1) := by simp only [runStep]; split <;> omega
    omega
theorem runMost_succ {l : List Mach} {k : Nat} {m : Mach} (h : l[k]? = some m) : runMost (l.take (k + 1)) = runStep (runMost (l.take k)) m := by
  rw [runMost, List.take_add_one, h]; simp [runMost]
def spInv (n : Nat) : List Pair := (List.range n).map fun (v : Nat) => ⟨(v : Int), slotZ v⟩
def invRows (n k : Nat) : List (List D) := (spInv k).map Pair.row ++ List.replicate (n - k) [I 0, I 0]
theorem invRows_len {n k : Nat} (h : k ≤ n) : (invRows n k).length = n := by simp [invRows, spInv]; omega
theorem invRows_two {n k : Nat} : ∀ r ∈ invRows n k, r.length = 2 := by
  intro r hr
  rcases List.mem_append.1 hr with hr | hr
  · obtain ⟨x, _, rfl⟩ := List.mem_map.1 hr; rfl
  · rw [List.eq_of_mem_replicate hr]; rfl
theorem invRows_set {n k : Nat} (h : k < n) : (invRows n k).set k [I k, I (slotZ k)] = invRows n (k + 1) := by
  have e1 : n - k = (n - (k + 1)) + 1 := by omega
  have e2 : ((spInv k).map Pair.row).length = k := by simp [spInv]
  simp only [invRows, e1, List.replicate_succ]
  conv => lhs; rw [List.set_append_right _ _ (by omega), e2, Nat.sub_self, List.set_cons_zero]
  have e3 : spInv (k + 1) = spInv k ++ [⟨k, slotZ k⟩] := by simp [spInv, List.range_succ]
  rw [e3]; simp [Pair.row]
section
theorem spillall_Block_calls {P : Program} {p : Nums} (A : All P p) (b : Block) (h0 : b.code.length ≤ 10000000) : CallsTo P p.spillall_Block [b.av] [] fun o _ => o = .ret (spBlock b).av := by
  refine A.spillall_Block.run rfl fun R hR => ?_
  (simp (config := { maxSteps := 1000000 }) [ic_spillall_Block, Block.av])
  refine AW_loop (fun k : Nat => ⟨[(10, AI k), (9, AI b.code.length), (8, .d (.sl (b.code.map Instr.row))), (3, .ptr 2 0), (2, .ptr 1 0), (1, .ptr 0 0)],
    [.mem [.d (.sl (b.code.map Instr.row)), AI b.term.kind, AI b.term.a, AI b.term.to, AI b.term.els], .mem [.nils, AI 0, AI 0, AI 0, AI 0], .mem [.own 7 ((spCode (b.code.take k)).map Mach.row)]]⟩)
    (fun k => k ≤ b.code.length) (fun k => b.code.length - k) 0 (by simp) (by (refine Wk.of ?_ ?_ (by simp) <;> repeat' (first | exact True.intro | exact ⟨_, rfl, wkt_same rfl⟩ | exact ⟨_, rfl, wkt_erase rfl⟩ | exact ⟨_, rfl, .inl .nild⟩ | exact ⟨_, rfl, wkt_nils⟩ | exact wkt_same rfl | exact wkt_erase rfl | exact .inl .nild | exact wkt_nils | exact WkB.same rfl | exact WkB_rows | exact WkB_nil | exact .dead _ | refine WkB_cons ?_ ?_ | refine And.intro ?_ ?_))) ?_
  intro k hk N hN
  (simp (config := { maxSteps := 1000000 }) [])
  ((first | refine AW_cond_split _ (by rfl) (fun h2 => ?_) (fun h2 => ?_) | refine AWop_split _ (by rfl) (fun h2 => ?_) (fun h2 => ?_)) <;> (try simp only [decide_eq_true_eq, decide_eq_false_iff_not, Bool.not_eq_true', Bool.not_eq_false', Bool.and_eq_true, Bool.or_eq_true, beq_iff_eq, bne_iff_ne, ne_eq, beq_eq_false_iff_ne, bne_eq_false_iff_eq] at h2))
  · have hkl : k < b.code.length := by simpa using h2
    have hb : b.code[k]? = some b.code[k] := by simp [hkl]
    have hw := wrap_succ (k := k) (by omega)
    have hle := spCode_le (b.code.take k)
    have hl2 := List.length_take_le k b.code
    have hs : spCode (b.code.take (k + 1)) = spCode (b.code.take k) ++ spInstr b.code[k] := by
      rw [List.take_add_one, hb]; simp only [spCode, Option.toList_some, List.flatMap_append, List.flatMap_cons, List.flatMap_nil, List.append_nil]
    (simp (config := { maxSteps := 1000000 }) [h2, hb, Instr.row])
    refine AWcall_loc [2] (builder_instr_calls A _ b.code[k] ?_) (by decide) (by rfl) (by rfl) (by rfl) (by rfl) (by rfl) (by rfl) ?_
    · simp; omega
    (simp (config := { maxSteps := 1000000 }) [hw])
    exact hN _ (k + 1) hkl (by rw [hs]; simp only [List.map_append]; (refine Wk.of ?_ ?_ (by simp) <;> repeat' (first | exact True.intro | exact ⟨_, rfl, wkt_same rfl⟩ | exact ⟨_, rfl, wkt_erase rfl⟩ | exact ⟨_, rfl, .inl .nild⟩ | exact ⟨_, rfl, wkt_nils⟩ | exact wkt_same rfl | exact wkt_erase rfl | exact .inl .nild | exact wkt_nils | exact WkB.same rfl | exact WkB_rows | exact WkB_nil | exact .dead _ | refine WkB_cons ?_ ?_ | refine And.intro ?_ ?_))) (by omega)
  · have hk' : k = b.code.length := by simp at h2; omega
    subst hk'
    rw [List.take_length]
    have hle := spCode_le b.code
    (simp (config := { maxSteps := 1000000 }) [])
    ((first | refine AW_cond_split _ (by rfl) (fun h3 => ?_) (fun h3 => ?_) | refine AWop_split _ (by rfl) (fun h3 => ?_) (fun h3 => ?_)) <;> (try simp only [decide_eq_true_eq, decide_eq_false_iff_not, Bool.not_eq_true', Bool.not_eq_false', Bool.and_eq_true, Bool.or_eq_true, beq_iff_eq, bne_iff_ne, ne_eq, beq_eq_false_iff_ne, bne_eq_false_iff_eq] at h3))
    · (simp (config := { maxSteps := 1000000 }) [h3])
      (refine AWcall_det (spillall_load_calls A _ _) (by rfl) (by rfl) ?_)
      (simp (config := { maxSteps := 1000000 }) [Mach.av, mvM])
      refine AWcall_loc [2] (builder_add_calls A _ _ ?_ ?_) (by decide) (by rfl) (by rfl) (by rfl) (by rfl) (by rfl) (by rfl) ?_
      · simp
      · simp; omega
      (simp (config := { maxSteps := 1000000 }) [])
      (first | exact hR _ _ (Fin_ret _ rfl rfl rfl) | exact hR _ _ (Fin_normal _ rfl rfl rfl) | exact hR _ _ (Fin_ret _ rfl rfl (by simp [AV.erase, AV.unview, MBlock.av, spBlock, h3, Mach.row, mvM]; done)) | exact hR _ _ (Fin_normal _ rfl rfl (by simp [AV.erase, AV.unview, MBlock.av, spBlock, h3, Mach.row, mvM]; done)) | fail "no end")
    · (simp (config := { maxSteps := 1000000 }) [h3])
      (first | exact hR _ _ (Fin_ret _ rfl rfl rfl) | exact hR _ _ (Fin_normal _ rfl rfl rfl) | exact hR _ _ (Fin_ret _ rfl rfl (by simp [AV.erase, AV.unview, MBlock.av, spBlock, h3, Mach.row, mvM]; done)) | exact hR _ _ (Fin_normal _ rfl rfl (by simp [AV.erase, AV.unview, MBlock.av, spBlock, h3, Mach.row, mvM]; done)) | fail "no end")
theorem spillall_Moves_calls {P : Program} {p : Nums} (A : All P p) (b : Block) (h0 : b.code.length ≤ 10000000) : CallsTo P p.spillall_Moves [b.av] [] fun o _ => o = .ret (AI (spMoves b)) := by
  refine A.spillall_Moves.run rfl fun R hR => ?_
  (simp (config := { maxSteps := 1000000 }) [ic_spillall_Moves, Block.av])
  (refine AWcall_det (spillall_Block_calls A b h0) (by rfl) (by rfl) ?_)
  have hbl := spBlock_le b
  generalize hc : (spBlock b).code = code at hbl
  (simp (config := { maxSteps := 1000000 }) [MBlock.av, hc])
  refine AW_loop (fun k : Nat => ⟨[(11, AI k), (10, AI code.length), (9, .d (.sl (code.map Mach.row))), (3, AI (runMost (code.take k)).1), (4, AI (runMost (code.take k)).2), (2, AI 0)], []⟩)
    (fun k => k ≤ code.length) (fun k => code.length - k) 0 (by simp) (by (refine Wk.of ?_ ?_ (by simp) <;> repeat' (first | exact True.intro | exact ⟨_, rfl, wkt_same rfl⟩ | exact ⟨_, rfl, wkt_erase rfl⟩ | exact ⟨_, rfl, .inl .nild⟩ | exact ⟨_, rfl, wkt_nils⟩ | exact wkt_same rfl | exact wkt_erase rfl | exact .inl .nild | exact wkt_nils | exact WkB.same rfl | exact WkB_rows | exact WkB_nil | exact .dead _ | refine WkB_cons ?_ ?_ | refine And.intro ?_ ?_))) ?_
  intro k hk N hN
  (simp (config := { maxSteps := 1000000 }) [])
  ((first | refine AW_cond_split _ (by rfl) (fun h2 => ?_) (fun h2 => ?_) | refine AWop_split _ (by rfl) (fun h2 => ?_) (fun h2 => ?_)) <;> (try simp only [decide_eq_true_eq, decide_eq_false_iff_not, Bool.not_eq_true', Bool.not_eq_false', Bool.and_eq_true, Bool.or_eq_true, beq_iff_eq, bne_iff_ne, ne_eq, beq_eq_false_iff_ne, bne_eq_false_iff_eq] at h2))
  · have hkl : k < code.length := by simpa using h2
    have hb : code[k]? = some code[k] := by simp [hkl]
    have hw := wrap_succ (k := k) (by omega)
    have hle := runMost_le (code.take k)
    have hl2 := List.length_take_le k code
    have hs := runMost_succ hb
    have hw2 := wrap_succ (k := (runMost (code.take k)).2) (by omega)
    (simp (config := { maxSteps := 1000000 }) [h2, hb, Mach.row, hw, hw2])
    ((first | refine AW_cond_split _ (by rfl) (fun h3 => ?_) (fun h3 => ?_) | refine AWop_split _ (by rfl) (fun h3 => ?_) (fun h3 => ?_)) <;> (try simp only [decide_eq_true_eq, decide_eq_false_iff_not, Bool.not_eq_true', Bool.not_eq_false', Bool.and_eq_true, Bool.or_eq_true, beq_iff_eq, bne_iff_ne, ne_eq, beq_eq_false_iff_ne, bne_eq_false_iff_eq] at h3))
    · (simp (config := { maxSteps := 1000000 }) [h3, hw])
      have e1 : (runMost (code.take (k + 1))) = ((runMost (code.take k)).1, 0) := by rw [hs]; simp [runStep, h3]
      have e2 : (if ((runMost (code.take k)).1 : Int) < 0 then 0 else ((runMost (code.take k)).1 : Int)) = ((runMost (code.take k)).1 : Int) := by split <;> omega
      exact hN _ (k + 1) hkl (by rw [e1, e2]; (refine Wk.of ?_ ?_ (by simp) <;> repeat' (first | exact True.intro | exact ⟨_, rfl, wkt_same rfl⟩ | exact ⟨_, rfl, wkt_erase rfl⟩ | exact ⟨_, rfl, .inl .nild⟩ | exact ⟨_, rfl, wkt_nils⟩ | exact wkt_same rfl | exact wkt_erase rfl | exact .inl .nild | exact wkt_nils | exact WkB.same rfl | exact WkB_rows | exact WkB_nil | exact .dead _ | refine WkB_cons ?_ ?_ | refine And.intro ?_ ?_))) (by omega)
    · (simp (config := { maxSteps := 1000000 }) [h3, hw])
      have e1 : (runMost (code.take (k + 1))) = (max (runMost (code.take k)).1 ((runMost (code.take k)).2 + 1), (runMost (code.take k)).2 + 1) := by rw [hs]; simp [runStep, h3]
      have e2 : (if ((runMost (code.take k)).1 : Int) < (runMost (code.take k)).2 + 1 then ((runMost (code.take k)).2 : Int) + 1 else ((runMost (code.take k)).1 : Int)) = ((max (runMost (code.take k)).1 ((runMost (code.take k)).2 + 1) : Nat) : Int) := by split <;> omega
      exact hN _ (k + 1) hkl (by rw [e1, e2]; (refine Wk.of ?_ ?_ (by simp) <;> repeat' (first | exact True.intro | exact ⟨_, rfl, wkt_same rfl⟩ | exact ⟨_, rfl, wkt_erase rfl⟩ | exact ⟨_, rfl, .inl .nild⟩ | exact ⟨_, rfl, wkt_nils⟩ | exact wkt_same rfl | exact wkt_erase rfl | exact .inl .nild | exact wkt_nils | exact WkB.same rfl | exact WkB_rows | exact WkB_nil | exact .dead _ | refine WkB_cons ?_ ?_ | refine And.intro ?_ ?_))) (by omega)
  · have hk' : k = code.length := by simp at h2; omega
    subst hk'
    rw [List.take_length]
    (simp (config := { maxSteps := 1000000 }) [])
    (first | exact hR _ _ (Fin_ret _ rfl rfl rfl) | exact hR _ _ (Fin_normal _ rfl rfl rfl) | exact hR _ _ (Fin_ret _ rfl rfl (by simp [AV.erase, AV.unview, spMoves, hc]; done)) | exact hR _ _ (Fin_normal _ rfl rfl (by simp [AV.erase, AV.unview, spMoves, hc]; done)) | fail "no end")
theorem spillall_invariant_calls {P : Program} {p : Nums} (A : All P p) (n : Nat) (h0 : n ≤ 10000000) : CallsTo P p.spillall_invariant [AI n] [] fun o _ => o = .ret (.d (pairsD (spInv n))) := by
  refine A.spillall_invariant.run rfl fun R hR => ?_
  (simp (config := { maxSteps := 1000000 }) [ic_spillall_invariant])
  refine AWio_mks (n := n) (by rfl) (by rfl) (by omega) (by omega) (by decide) rfl ?_
  (simp (config := { maxSteps := 1000000 }) [])
  refine AW_loop (fun k : Nat => ⟨[(8, AI k), (7, AI n), (3, .hsl 0 0 2 n), (2, .nils)], [.mem (rowCells (invRows n k))]⟩) (fun k => k ≤ n) (fun k => n - k) 0 (by simp) ?_ ?_
  · have e : invRows n 0 = List.replicate n [I 0, I 0] := by simp [invRows, spInv]
    rw [e]; (refine Wk.of ?_ ?_ (by simp) <;> repeat' (first | exact True.intro | exact ⟨_, rfl, wkt_same rfl⟩ | exact ⟨_, rfl, wkt_erase rfl⟩ | exact ⟨_, rfl, .inl .nild⟩ | exact ⟨_, rfl, wkt_nils⟩ | exact wkt_same rfl | exact wkt_erase rfl | exact .inl .nild | exact wkt_nils | exact WkB.same rfl | exact WkB_rows | exact WkB_nil | exact .dead _ | refine WkB_cons ?_ ?_ | refine And.intro ?_ ?_))
  intro k hk N hN
  (simp (config := { maxSteps := 1000000 }) [])
  ((first | refine AW_cond_split _ (by rfl) (fun h2 => ?_) (fun h2 => ?_) | refine AWop_split _ (by rfl) (fun h2 => ?_) (fun h2 => ?_)) <;> (try simp only [decide_eq_true_eq, decide_eq_false_iff_not, Bool.not_eq_true', Bool.not_eq_false', Bool.and_eq_true, Bool.or_eq_true, beq_iff_eq, bne_iff_ne, ne_eq, beq_eq_false_iff_ne, bne_eq_false_iff_eq] at h2))
  · have hkl : k < n := by simpa using h2
    have hw := wrap_succ (k := k) (by omega)
    have hl := rowCells_len (invRows_two (n := n) (k := k))
    rw [invRows_len hk] at hl
    have e := spl_row (k := k) (row := [I k, I (slotZ k)]) (invRows_two (n := n) (k := k)) rfl (by rw [invRows_len hk]; exact hkl)
    rw [invRows_set hkl] at e
    simp [spl] at e
    (simp (config := { maxSteps := 1000000 }) [h2])
    (refine AWcall_det (location_Slot_calls A _) (by rfl) (by rfl) ?_)
    (simp (config := { maxSteps := 1000000 }) [h2, hkl, hw])
    refine ⟨by omega, ?_⟩
    rw [e]
    exact hN _ (k + 1) hkl (by (refine Wk.of ?_ ?_ (by simp) <;> repeat' (first | exact True.intro | exact ⟨_, rfl, wkt_same rfl⟩ | exact ⟨_, rfl, wkt_erase rfl⟩ | exact ⟨_, rfl, .inl .nild⟩ | exact ⟨_, rfl, wkt_nils⟩ | exact wkt_same rfl | exact wkt_erase rfl | exact .inl .nild | exact wkt_nils | exact WkB.same rfl | exact WkB_rows | exact WkB_nil | exact .dead _ | refine WkB_cons ?_ ?_ | refine And.intro ?_ ?_))) (by omega)
  · have hk' : k = n := by simp at h2; omega
    subst hk'
    (simp (config := { maxSteps := 1000000 }) [])
    refine hR _ _ (Fin_wk' (.hsl 0 0 2 k) (.d (pairsD (spInv k))) [] rfl ?_ rfl)
    have e : invRows k k = (spInv k).map Pair.row := by simp [invRows]
    rw [e]
    refine Wk.of ⟨⟨_, rfl, .inl (.hsl 0 0 2 k (rowCells ((spInv k).map Pair.row)) _ rfl (by simp) ?_ (by simp [spInv]) ?_)⟩, trivial⟩ (by simp [WkHs]) (by simp)
    · have := rowCells_len (rows := (spInv k).map Pair.row) (e := 2) (rows_len fun _ => rfl)
      rw [List.drop_zero, List.take_of_length_le (by rw [this]; simp [spInv])]; rfl
    · exact rows_len fun _ => rfl
end
end Go.AE

set_option linter.unusedVariables false
namespace Go.AE
open Go
def mcodeN (bs : List MBlock) : Nat := (bs.map fun b => b.code.length).sum
theorem mcodeN_succ {bs : List MBlock} {k : Nat} {b : MBlock} (h : bs[k]? = some b) : mcodeN (bs.take (k + 1)) = mcodeN (bs.take k) + b.code.length := by
  rw [mcodeN, List.take_add_one, h]; simp [mcodeN]
theorem mcodeN_append (a b : List MBlock) : mcodeN (a ++ b) = mcodeN a + mcodeN b := by simp [mcodeN]
theorem mcodeN_le (bs : List MBlock) (k : Nat) : mcodeN (bs.take k) ≤ mcodeN bs := by
  have h := mcodeN_append (bs.take k) (bs.drop k)
  rw [List.take_append_drop] at h; omega
theorem mcodeN_sp (bs : List Block) : mcodeN (bs.map spBlock) ≤ 4 * codeN bs + bs.length := by
  induction bs with
  | nil => simp [mcodeN]
  | cons b bs ih =>
    have := spBlock_le b
    simp only [mcodeN, codeN, List.map_cons, List.sum_cons, List.length_cons] at *
    omega
def mostN (l : List Nat) : Nat := l.foldl max 0
theorem mostN_succ {l : List Nat} {k x : Nat} (h : l[k]? = some x) : mostN (l.take (k + 1)) = max (mostN (l.take k)) x := by
  rw [mostN, List.take_add_one, h]; simp [mostN]
def certZero : Cert := ⟨⟨0, 0, []⟩, ⟨0, 0, 0, []⟩, []⟩
def spCert (f : Func) : Cert := ⟨f, ⟨f.args, 2, f.regs, f.blocks.map spBlock⟩, List.replicate f.blocks.length (spInv f.regs.toNat)⟩
def spRun (f : Func) : Nat := mostN (f.blocks.map spMoves)
def prodZ (f : Func) : Int := IntKind.i64.wrap (f.blocks.length * f.regs)
def spCertZ (f : Func) : Cert × Int :=
  if srcCheckZ f ≠ 0 then (certZero, srcCheckZ f) else if prodZ f > 1048576 then (certZero, 6) else if mcodeN (f.blocks.map spBlock) > 1048576 then (certZero, 6) else if spRun f > 64 then (certZero, 15) else (spCert f, 0)
theorem firstErr_any {es : List Int} (h : firstErr es = 0) : ∀ e ∈ es, e = 0 := by
  induction es with
  | nil => intro e he; simp at he
  | cons e es ih =>
    simp only [firstErr] at h
    intro x hx
    split at h
    · exact absurd h ‹_›
    · rcases List.mem_cons.1 hx with rfl | hx
      · simp_all
      · exact ih h x hx
theorem srcCheckZ_ok {f : Func} (h : srcCheckZ f = 0) : 0 ≤ f.args ∧ f.args ≤ f.regs ∧ f.regs ≤ 1048576 ∧ 0 < f.blocks.length ∧ f.blocks.length ≤ 1048576 ∧ codeN f.blocks ≤ 1048576 := by
  unfold srcCheckZ at h
  split at h
  · cases h
  split at h
  · cases h
  split at h
  · cases h
  split at h
  · cases h
  omega
theorem take_succ_eq {α : Type} {l : List α} {k : Nat} {x : α} (h : l[k]? = some x) : l.take (k + 1) = l.take k ++ [x] := by rw [List.take_add_one, h]; rfl
section
theorem slices_Clone_calls {P : Program} {p : Nums} (A : All P p) (l : List Instr) (h0 : l.length ≤ 1000000000) : CallsTo P p.slices_Clone [.d (.sl (l.map Instr.row))] [] fun o _ => o = .ret (.d (.sl (l.map Instr.row))) := by
  refine A.slices_Clone.run rfl fun R hR => ?_
  (simp (config := { maxSteps := 1000000 }) [ic_slices_Clone])
  refine AWio_isnil_d (by rfl) (fun hn => ?_) ?_
  · have hl : l = [] := by simpa using hn
    subst hl
    (simp (config := { maxSteps := 1000000 }) [])
    exact hR _ _ (Fin_wkv _ _ rfl (by (repeat' (first | exact True.intro | exact WkV.refl _ rfl | exact WkV.erase _ rfl | exact WkV.nild | exact WkV.nile | refine And.intro ?_ ?_ | refine WkV_agg ?_ | refine WkV_tup ?_))) rfl)
  · (simp (config := { maxSteps := 1000000 }) [])
    refine AWio_app_nile (by rfl) (by rfl) (rows_len fun _ => rfl) (by decide) (by simp; omega) (by simp; omega) (fun hn => ?_) fun hn => ?_
    · have hl : l = [] := by simpa using hn
      subst hl
      (simp (config := { maxSteps := 1000000 }) [])
      exact hR _ _ (Fin_wkv _ _ rfl (by (repeat' (first | exact True.intro | exact WkV.refl _ rfl | exact WkV.erase _ rfl | exact WkV.nild | exact WkV.nile | refine And.intro ?_ ?_ | refine WkV_agg ?_ | refine WkV_tup ?_))) rfl)
    · (simp (config := { maxSteps := 1000000 }) [])
      exact hR _ _ (Fin_wkv _ _ rfl (by (repeat' (first | exact True.intro | exact WkV.refl _ rfl | exact WkV.erase _ rfl | exact WkV.nild | exact WkV.nile | refine And.intro ?_ ?_ | refine WkV_agg ?_ | refine WkV_tup ?_))) rfl)
theorem spillall_invariant_calls' {P : Program} {p : Nums} (A : All P p) (r : Int) (h0 : 0 ≤ r) (h1 : r ≤ 10000000) : CallsTo P p.spillall_invariant [AI r] [] fun o _ => o = .ret (.d (pairsD (spInv r.toNat))) := by
  have h := spillall_invariant_calls A r.toNat (by omega)
  rwa [Int.toNat_of_nonneg h0] at h
theorem spillall_Cert_calls {P : Program} {p : Nums} (A : All P p) (f : Func) (h0 : f.blocks.length ≤ 1000000) (h1 : codeN f.blocks ≤ 1000000) : CallsTo P p.spillall_Cert [f.av] [] fun o _ => o = .ret (.tup [(spCertZ f).1.av, AI (spCertZ f).2]) := by
  refine A.spillall_Cert.run rfl fun R hR => ?_
  (simp (config := { maxSteps := 1000000 }) [ic_spillall_Cert, Func.av])
  (refine AWcall_det (source_Check_calls A f (by omega) (by omega)) (by rfl) (by rfl) ?_)
  (simp (config := { maxSteps := 1000000 }) [])
  ((first | refine AW_cond_split _ (by rfl) (fun a1 => ?_) (fun a1 => ?_) | refine AWop_split _ (by rfl) (fun a1 => ?_) (fun a1 => ?_)) <;> (try simp only [decide_eq_true_eq, decide_eq_false_iff_not, Bool.not_eq_true', Bool.not_eq_false', Bool.and_eq_true, Bool.or_eq_true, beq_iff_eq, bne_iff_ne, ne_eq, beq_eq_false_iff_ne, bne_eq_false_iff_eq] at a1))
  · (simp (config := { maxSteps := 1000000 }) [a1])
    have e : spCertZ f = (certZero, srcCheckZ f) := by unfold spCertZ; rw [if_pos a1]
    exact hR _ _ (Fin_wkv _ _ rfl (by rw [e]; (repeat' (first | exact True.intro | exact WkV.refl _ rfl | exact WkV.erase _ rfl | exact WkV.nild | exact WkV.nile | refine And.intro ?_ ?_ | refine WkV_agg ?_ | refine WkV_tup ?_))) rfl)
  have hok := srcCheckZ_ok (by simpa using a1)
  (simp (config := { maxSteps := 1000000 }) [a1])
  ((first | refine AW_cond_split _ (by rfl) (fun a2 => ?_) (fun a2 => ?_) | refine AWop_split _ (by rfl) (fun a2 => ?_) (fun a2 => ?_)) <;> (try simp only [decide_eq_true_eq, decide_eq_false_iff_not, Bool.not_eq_true', Bool.not_eq_false', Bool.and_eq_true, Bool.or_eq_true, beq_iff_eq, bne_iff_ne, ne_eq, beq_eq_false_iff_ne, bne_eq_false_iff_eq] at a2))
  · (simp (config := { maxSteps := 1000000 }) [a2])
    have e : spCertZ f = (certZero, 6) := by unfold spCertZ; rw [if_neg (by simpa using a1), if_pos (by simpa [prodZ] using a2)]
    exact hR _ _ (Fin_wkv _ _ rfl (by rw [e]; (repeat' (first | exact True.intro | exact WkV.refl _ rfl | exact WkV.erase _ rfl | exact WkV.nild | exact WkV.nile | refine And.intro ?_ ?_ | refine WkV_agg ?_ | refine WkV_tup ?_))) rfl)
  (simp (config := { maxSteps := 1000000 }) [a2])
  obtain ⟨sR, hsR⟩ : ∃ x, x = f.blocks.map Block.row := ⟨_, rfl⟩
  obtain ⟨tB, htB⟩ : ∃ x, x = f.blocks.map spBlock := ⟨_, rfl⟩
  obtain ⟨tR, htR⟩ : ∃ x, x = tB.map MBlock.row := ⟨_, rfl⟩
  obtain ⟨mB, hmB⟩ : ∃ x, x = f.blocks.map spMoves := ⟨_, rfl⟩
  have hmc := mcodeN_sp f.blocks
  rw [← htB] at hmc
  rw [← hsR]
  refine AW_loop (fun k : Nat => ⟨[(39, AI k), (38, AI f.blocks.length), (37, .d (.sl sR)), (1, .ptr 0 0), (2, .ptr 1 0), (3, AI 0), (5, .ptr 2 0), (6, AI (mcodeN (tB.take k))), (7, AI (mostN (mB.take k)))],
    [.mem [AI f.args, AI f.regs, .d (.sl sR)], .mem [AI 0, AI 0, .nils, AI 0, AI 0, AI 0, .nils, .nils],
      .mem [AI f.args, AI f.regs, .own 5 (sR.take k), AI f.args, AI 2, AI f.regs, .own 5 (tR.take k), .own 1 (List.replicate k [pairsD (spInv f.regs.toNat)])]]⟩)
    (fun k => k ≤ f.blocks.length) (fun k => f.blocks.length - k) 0 (by simp) (by (refine Wk.of ?_ ?_ (by simp) <;> repeat' (first | exact True.intro | exact ⟨_, rfl, wkt_same rfl⟩ | exact ⟨_, rfl, wkt_erase rfl⟩ | exact ⟨_, rfl, .inl .nild⟩ | exact ⟨_, rfl, wkt_nils⟩ | exact wkt_same rfl | exact wkt_erase rfl | exact .inl .nild | exact wkt_nils | exact WkB.same rfl | exact WkB_rows | exact WkB_nil | exact .dead _ | refine WkB_cons ?_ ?_ | refine And.intro ?_ ?_))) ?_
  intro k hk N hN
  (simp (config := { maxSteps := 1000000 }) [])
  ((first | refine AW_cond_split _ (by rfl) (fun h2 => ?_) (fun h2 => ?_) | refine AWop_split _ (by rfl) (fun h2 => ?_) (fun h2 => ?_)) <;> (try simp only [decide_eq_true_eq, decide_eq_false_iff_not, Bool.not_eq_true', Bool.not_eq_false', Bool.and_eq_true, Bool.or_eq_true, beq_iff_eq, bne_iff_ne, ne_eq, beq_eq_false_iff_ne, bne_eq_false_iff_eq] at h2))
  · have hkl : k < f.blocks.length := by simpa using h2
    have hb : f.blocks[k]? = some f.blocks[k] := by simp [hkl]
    have hsk : sR[k]? = some f.blocks[k].row := by rw [hsR, List.getElem?_map, hb]; rfl
    have htBk : tB[k]? = some (spBlock f.blocks[k]) := by rw [htB, List.getElem?_map, hb]; rfl
    have htk : tR[k]? = some (spBlock f.blocks[k]).row := by rw [htR, List.getElem?_map, htBk]; rfl
    have hmk : mB[k]? = some (spMoves f.blocks[k]) := by rw [hmB, List.getElem?_map, hb]; rfl
    have hw := wrap_succ (k := k) (by omega)
    have hcl : f.blocks[k].code.length ≤ 1000000 := by
      have h3 := codeN_succ hb
      have h4 := codeN_le f.blocks (k + 1)
      omega
    have hmle := mcodeN_le tB (k + 1)
    have hms := mcodeN_succ htBk
    have hw2 := wrap_add (a := mcodeN (tB.take k)) (b := (spBlock f.blocks[k]).code.length) (by omega)
    rw [← hms] at hw2
    have hl1 := List.length_take_le k sR
    have hl2 := List.length_take_le k tR
    have ess : sR.take k ++ [f.blocks[k].row] = sR.take (k + 1) := (take_succ_eq hsk).symm
    have ets : tR.take k ++ [(spBlock f.blocks[k]).row] = tR.take (k + 1) := (take_succ_eq htk).symm
    have ers : List.replicate k [pairsD (spInv f.regs.toNat)] ++ [[pairsD (spInv f.regs.toNat)]] = List.replicate (k + 1) [pairsD (spInv f.regs.toNat)] := List.replicate_succ'.symm
    have ess5 : ∀ r ∈ sR.take k, r.length = 5 := fun r hr => by
      have := List.mem_of_mem_take hr; rw [hsR] at this; obtain ⟨x, _, rfl⟩ := List.mem_map.1 this; rfl
    have emx : (if mostN (mB.take k) < spMoves f.blocks[k] then ((spMoves f.blocks[k] : Nat) : Int) else ((mostN (mB.take k) : Nat) : Int)) = ((mostN (mB.take (k + 1)) : Nat) : Int) := by
      rw [mostN_succ hmk]; split <;> omega
    simp only [Block.row, MBlock.row] at hsk ess ets
    (simp (config := { maxSteps := 1000000 }) [h2, hsk])
    (refine AWcall_det (spillall_Block_calls A f.blocks[k] (by omega)) (by rfl) (by rfl) ?_)
    (simp (config := { maxSteps := 1000000 }) [MBlock.av])
    (refine AWcall_det (spillall_Moves_calls A f.blocks[k] (by omega)) (by rfl) (by rfl) ?_)
    (simp (config := { maxSteps := 1000000 }) [])
    (refine AWcall_det (slices_Clone_calls A f.blocks[k].code (by omega)) (by rfl) (by rfl) ?_)
    (simp (config := { maxSteps := 1000000 }) [])
    (refine AWio_app_own (by rfl) (by rfl) (by rfl) ?_ (by decide) ?_ ?_ ?_)
    · simp
    · simp; omega
    · simp; omega
    (simp (config := { maxSteps := 1000000 }) [ess])
    (refine AWio_app_own (by rfl) (by rfl) (by rfl) ?_ (by decide) ?_ ?_ ?_)
    · simp
    · simp; omega
    · simp; omega
    (simp (config := { maxSteps := 1000000 }) [ets])
    (refine AWcall_det (spillall_invariant_calls' A f.regs (by omega) (by omega)) (by rfl) (by rfl) ?_)
    (simp (config := { maxSteps := 1000000 }) [])
    (refine AWio_app_own (by rfl) (by rfl) (by rfl) ?_ (by decide) ?_ ?_ ?_)
    · simp
    · simp; omega
    · simp; omega
    (simp (config := { maxSteps := 1000000 }) [ers, hw, hw2])
    exact hN _ (k + 1) hkl (by rw [emx]; (refine Wk.of ?_ ?_ (by simp) <;> repeat' (first | exact True.intro | exact ⟨_, rfl, wkt_same rfl⟩ | exact ⟨_, rfl, wkt_erase rfl⟩ | exact ⟨_, rfl, .inl .nild⟩ | exact ⟨_, rfl, wkt_nils⟩ | exact wkt_same rfl | exact wkt_erase rfl | exact .inl .nild | exact wkt_nils | exact WkB.same rfl | exact WkB_rows | exact WkB_nil | exact .dead _ | refine WkB_cons ?_ ?_ | refine And.intro ?_ ?_))) (by omega)
  · have hk' : k = f.blocks.length := by simp at h2; omega
    subst hk'
    have e1 : sR.take f.blocks.length = sR := List.take_of_length_le (by rw [hsR]; simp)
    have e2 : tR.take f.blocks.length = tR := List.take_of_length_le (by rw [htR, htB]; simp)
    have e3 : tB.take f.blocks.length = tB := List.take_of_length_le (by rw [htB]; simp)
    have e4 : mB.take f.blocks.length = mB := List.take_of_length_le (by rw [hmB]; simp)
    rw [e1, e2, e3, e4]
    (simp (config := { maxSteps := 1000000 }) [])
    ((first | refine AW_cond_split _ (by rfl) (fun b1 => ?_) (fun b1 => ?_) | refine AWop_split _ (by rfl) (fun b1 => ?_) (fun b1 => ?_)) <;> (try simp only [decide_eq_true_eq, decide_eq_false_iff_not, Bool.not_eq_true', Bool.not_eq_false', Bool.and_eq_true, Bool.or_eq_true, beq_iff_eq, bne_iff_ne, ne_eq, beq_eq_false_iff_ne, bne_eq_false_iff_eq] at b1))
    · (simp (config := { maxSteps := 1000000 }) [b1])
      have e : spCertZ f = (certZero, 6) := by unfold spCertZ; rw [if_neg (by simpa using a1), if_neg (by simpa [prodZ] using a2), if_pos (by rw [← htB]; omega)]
      exact hR _ _ (Fin_wkv _ _ rfl (by rw [e]; (repeat' (first | exact True.intro | exact WkV.refl _ rfl | exact WkV.erase _ rfl | exact WkV.nild | exact WkV.nile | refine And.intro ?_ ?_ | refine WkV_agg ?_ | refine WkV_tup ?_))) rfl)
    (simp (config := { maxSteps := 1000000 }) [b1])
    ((first | refine AW_cond_split _ (by rfl) (fun b2 => ?_) (fun b2 => ?_) | refine AWop_split _ (by rfl) (fun b2 => ?_) (fun b2 => ?_)) <;> (try simp only [decide_eq_true_eq, decide_eq_false_iff_not, Bool.not_eq_true', Bool.not_eq_false', Bool.and_eq_true, Bool.or_eq_true, beq_iff_eq, bne_iff_ne, ne_eq, beq_eq_false_iff_ne, bne_eq_false_iff_eq] at b2))
    · (simp (config := { maxSteps := 1000000 }) [b2])
      have e : spCertZ f = (certZero, 15) := by unfold spCertZ; rw [if_neg (by simpa using a1), if_neg (by simpa [prodZ] using a2), if_neg (by rw [← htB]; omega), if_pos (by rw [spRun, ← hmB]; omega)]
      exact hR _ _ (Fin_wkv _ _ rfl (by rw [e]; (repeat' (first | exact True.intro | exact WkV.refl _ rfl | exact WkV.erase _ rfl | exact WkV.nild | exact WkV.nile | refine And.intro ?_ ?_ | refine WkV_agg ?_ | refine WkV_tup ?_))) rfl)
    (simp (config := { maxSteps := 1000000 }) [b2])
    have e : spCertZ f = (spCert f, 0) := by unfold spCertZ; rw [if_neg (by simpa using a1), if_neg (by simpa [prodZ] using a2), if_neg (by rw [← htB]; omega), if_neg (by rw [spRun, ← hmB]; omega)]
    refine hR _ _ (Fin_wkv _ _ rfl (by rw [e, hsR, htR, htB, spCert, Cert.av, witD, List.map_replicate]; (repeat' (first | exact True.intro | exact WkV.refl _ rfl | exact WkV.erase _ rfl | exact WkV.nild | exact WkV.nile | refine And.intro ?_ ?_ | refine WkV_agg ?_ | refine WkV_tup ?_))) rfl)
end
end Go.AE

set_option linter.unusedVariables false
namespace Go.AE
open Go
def lead : List Mach → Nat
  | [] => 0
  | m :: l => if (m.op == 18) = true then lead l + 1 else 0
def refMoves (l : List Mach) : Nat := mostN ((List.range l.length).map fun i => lead (l.drop i))
theorem lead_le (l : List Mach) : lead l ≤ l.length := by
  induction l with
  | nil => simp [lead]
  | cons m l ih => simp only [lead, List.length_cons]; split <;> omega
theorem lead_at {l : List Mach} {i : Nat} {m : Mach} (h : l[i]? = some m) : lead (l.drop i) = if (m.op == 18) = true then lead (l.drop (i + 1)) + 1 else 0 := by
  have hlt := (List.getElem?_eq_some_iff.1 h).1
  rw [List.drop_eq_getElem_cons hlt, (List.getElem?_eq_some_iff.1 h).2]; rfl
def mxAt (l : List Mach) (k : Nat) : Nat := mostN ((List.range k).map fun i => lead (l.drop i))
theorem mxAt_succ (l : List Mach) (k : Nat) : mxAt l (k + 1) = max (mxAt l k) (lead (l.drop k)) := by
  simp [mxAt, mostN, List.range_succ]
section
theorem ref08_Code_calls {P : Program} {p : Nums} (A : All P p) (f : MFunc) (h0 : f.blocks.length < 1000000000) (h1 : mcodeN f.blocks < 1000000000) : CallsTo P p.ref08_Code [f.av] [] fun o _ => o = .ret (AI (mcodeN f.blocks)) := by
  refine A.ref08_Code.run rfl fun R hR => ?_
  (simp (config := { maxSteps := 1000000 }) [ic_ref08_Code, MFunc.av])
  refine AW_loop (fun k : Nat => ⟨[(4, AI k), (1, .ptr 0 0), (3, AI (mcodeN (f.blocks.take k)))], [.mem [AI f.args, AI f.regs, AI f.slots, .d (.sl (f.blocks.map MBlock.row))]]⟩) (fun k => k ≤ f.blocks.length) (fun k => f.blocks.length - k) 0 (by simp) (by (refine Wk.of ?_ ?_ (by simp) <;> repeat' (first | exact True.intro | exact ⟨_, rfl, wkt_same rfl⟩ | exact ⟨_, rfl, wkt_erase rfl⟩ | exact ⟨_, rfl, .inl .nild⟩ | exact ⟨_, rfl, wkt_nils⟩ | exact wkt_same rfl | exact wkt_erase rfl | exact .inl .nild | exact wkt_nils | exact WkB.same rfl | exact WkB_rows | exact WkB_nil | exact .dead _ | refine WkB_cons ?_ ?_ | refine And.intro ?_ ?_))) ?_
  intro k hk N hN
  (simp (config := { maxSteps := 1000000 }) [])
  ((first | refine AW_cond_split _ (by rfl) (fun h2 => ?_) (fun h2 => ?_) | refine AWop_split _ (by rfl) (fun h2 => ?_) (fun h2 => ?_)) <;> (try simp only [decide_eq_true_eq, decide_eq_false_iff_not, Bool.not_eq_true', Bool.not_eq_false', Bool.and_eq_true, Bool.or_eq_true, beq_iff_eq, bne_iff_ne, ne_eq, beq_eq_false_iff_ne, bne_eq_false_iff_eq] at h2))
  · have hkl : k < f.blocks.length := by simpa using h2
    have hb : f.blocks[k]? = some f.blocks[k] := by simp [hkl]
    have hw := wrap_succ (k := k) (by omega)
    have hs := mcodeN_succ hb
    have hle := mcodeN_le f.blocks (k + 1)
    have hw2 := wrap_add (a := mcodeN (f.blocks.take k)) (b := f.blocks[k].code.length) (by omega)
    rw [← hs] at hw2
    (simp (config := { maxSteps := 1000000 }) [h2, List.getElem?_map, hb, MBlock.row, hw, hw2])
    exact hN _ (k + 1) hkl (by (refine Wk.of ?_ ?_ (by simp) <;> repeat' (first | exact True.intro | exact ⟨_, rfl, wkt_same rfl⟩ | exact ⟨_, rfl, wkt_erase rfl⟩ | exact ⟨_, rfl, .inl .nild⟩ | exact ⟨_, rfl, wkt_nils⟩ | exact wkt_same rfl | exact wkt_erase rfl | exact .inl .nild | exact wkt_nils | exact WkB.same rfl | exact WkB_rows | exact WkB_nil | exact .dead _ | refine WkB_cons ?_ ?_ | refine And.intro ?_ ?_))) (by omega)
  · have hk' : k = f.blocks.length := by simp at h2; omega
    subst hk'
    (simp (config := { maxSteps := 1000000 }) [])
    (first | exact hR _ _ (Fin_ret _ rfl rfl rfl) | exact hR _ _ (Fin_normal _ rfl rfl rfl) | exact hR _ _ (Fin_ret _ rfl rfl (by simp [AV.erase, AV.unview, List.take_length]; done)) | exact hR _ _ (Fin_normal _ rfl rfl (by simp [AV.erase, AV.unview, List.take_length]; done)) | fail "no end")
theorem ref08_Moves_calls {P : Program} {p : Nums} (A : All P p) (l : List Mach) (h0 : l.length < 1000000000) : CallsTo P p.ref08_Moves [.d (.sl (l.map Mach.row))] [] fun o _ => o = .ret (AI (refMoves l)) := by
  refine A.ref08_Moves.run rfl fun R hR => ?_
  (simp (config := { maxSteps := 1000000 }) [ic_ref08_Moves])
  refine AW_loop (fun k : Nat => ⟨[(4, AI k), (3, AI (mxAt l k)), (2, AI 0), (0, .d (.sl (l.map Mach.row)))], []⟩) (fun k => k ≤ l.length) (fun k => l.length - k) 0 (by simp) (by (refine Wk.of ?_ ?_ (by simp) <;> repeat' (first | exact True.intro | exact ⟨_, rfl, wkt_same rfl⟩ | exact ⟨_, rfl, wkt_erase rfl⟩ | exact ⟨_, rfl, .inl .nild⟩ | exact ⟨_, rfl, wkt_nils⟩ | exact wkt_same rfl | exact wkt_erase rfl | exact .inl .nild | exact wkt_nils | exact WkB.same rfl | exact WkB_rows | exact WkB_nil | exact .dead _ | refine WkB_cons ?_ ?_ | refine And.intro ?_ ?_))) ?_
  intro k hk N hN
  (simp (config := { maxSteps := 1000000 }) [])
  ((first | refine AW_cond_split _ (by rfl) (fun h2 => ?_) (fun h2 => ?_) | refine AWop_split _ (by rfl) (fun h2 => ?_) (fun h2 => ?_)) <;> (try simp only [decide_eq_true_eq, decide_eq_false_iff_not, Bool.not_eq_true', Bool.not_eq_false', Bool.and_eq_true, Bool.or_eq_true, beq_iff_eq, bne_iff_ne, ne_eq, beq_eq_false_iff_ne, bne_eq_false_iff_eq] at h2))
  · have hkl : k < l.length := by simpa using h2
    have hw := wrap_succ (k := k) (by omega)
    (simp (config := { maxSteps := 1000000 }) [h2])
    refine AW_loop (fun n : Nat => ⟨[(5, AI n), (4, AI k), (3, AI (mxAt l k)), (2, AI 0), (0, .d (.sl (l.map Mach.row)))], []⟩)
      (fun n => k + n ≤ l.length ∧ lead (l.drop k) = n + lead (l.drop (k + n))) (fun n => l.length - n) 0 (by simp; omega) (by (refine Wk.of ?_ ?_ (by simp) <;> repeat' (first | exact True.intro | exact ⟨_, rfl, wkt_same rfl⟩ | exact ⟨_, rfl, wkt_erase rfl⟩ | exact ⟨_, rfl, .inl .nild⟩ | exact ⟨_, rfl, wkt_nils⟩ | exact wkt_same rfl | exact wkt_erase rfl | exact .inl .nild | exact wkt_nils | exact WkB.same rfl | exact WkB_rows | exact WkB_nil | exact .dead _ | refine WkB_cons ?_ ?_ | refine And.intro ?_ ?_))) ?_
    rintro n ⟨hn, hld⟩ N' hN'
    have hw2 := wrap_add (a := k) (b := n) (by omega)
    have hw3 := wrap_succ (k := n) (by omega)
    have hms := mxAt_succ l k
    (simp (config := { maxSteps := 1000000 }) [hw2])
    have hnn : (0 : Int) ≤ (k : Int) + n := by omega
    have htn : ((k : Int) + n).toNat = k + n := by omega
    ((first | refine AW_cond_split _ (by rfl) (fun h3 => ?_) (fun h3 => ?_) | refine AWop_split _ (by rfl) (fun h3 => ?_) (fun h3 => ?_)) <;> (try simp only [decide_eq_true_eq, decide_eq_false_iff_not, Bool.not_eq_true', Bool.not_eq_false', Bool.and_eq_true, Bool.or_eq_true, beq_iff_eq, bne_iff_ne, ne_eq, beq_eq_false_iff_ne, bne_eq_false_iff_eq] at h3))
    · have hkn : k + n < l.length := by omega
      have hb : l[k + n]? = some l[k + n] := by simp [hkn]
      have hla := lead_at hb
      (simp (config := { maxSteps := 1000000 }) [h3, hw2, hnn, htn, hb, Mach.row, hkn])
      ((first | refine AW_cond_split _ (by rfl) (fun h4 => ?_) (fun h4 => ?_) | refine AWop_split _ (by rfl) (fun h4 => ?_) (fun h4 => ?_)) <;> (try simp only [decide_eq_true_eq, decide_eq_false_iff_not, Bool.not_eq_true', Bool.not_eq_false', Bool.and_eq_true, Bool.or_eq_true, beq_iff_eq, bne_iff_ne, ne_eq, beq_eq_false_iff_ne, bne_eq_false_iff_eq] at h4))
      · (simp (config := { maxSteps := 1000000 }) [h4, hw3])
        rw [if_pos (by simp [h4])] at hla
        exact hN' _ (n + 1) ⟨hkn, by rw [hld, hla, Nat.add_assoc]; omega⟩ (by (refine Wk.of ?_ ?_ (by simp) <;> repeat' (first | exact True.intro | exact ⟨_, rfl, wkt_same rfl⟩ | exact ⟨_, rfl, wkt_erase rfl⟩ | exact ⟨_, rfl, .inl .nild⟩ | exact ⟨_, rfl, wkt_nils⟩ | exact wkt_same rfl | exact wkt_erase rfl | exact .inl .nild | exact wkt_nils | exact WkB.same rfl | exact WkB_rows | exact WkB_nil | exact .dead _ | refine WkB_cons ?_ ?_ | refine And.intro ?_ ?_))) (by omega)
      · (simp (config := { maxSteps := 1000000 }) [h4])
        rw [if_neg (by simp [h4])] at hla
        ((first | refine AW_cond_split _ (by rfl) (fun h5 => ?_) (fun h5 => ?_) | refine AWop_split _ (by rfl) (fun h5 => ?_) (fun h5 => ?_)) <;> (try simp only [decide_eq_true_eq, decide_eq_false_iff_not, Bool.not_eq_true', Bool.not_eq_false', Bool.and_eq_true, Bool.or_eq_true, beq_iff_eq, bne_iff_ne, ne_eq, beq_eq_false_iff_ne, bne_eq_false_iff_eq] at h5))
        · (simp (config := { maxSteps := 1000000 }) [h5, hw])
          exact hN _ (k + 1) hkl (by rw [hms, hld, hla, show max (mxAt l k) (n + 0) = n by omega]; (refine Wk.of ?_ ?_ (by simp) <;> repeat' (first | exact True.intro | exact ⟨_, rfl, wkt_same rfl⟩ | exact ⟨_, rfl, wkt_erase rfl⟩ | exact ⟨_, rfl, .inl .nild⟩ | exact ⟨_, rfl, wkt_nils⟩ | exact wkt_same rfl | exact wkt_erase rfl | exact .inl .nild | exact wkt_nils | exact WkB.same rfl | exact WkB_rows | exact WkB_nil | exact .dead _ | refine WkB_cons ?_ ?_ | refine And.intro ?_ ?_))) (by omega)
        · (simp (config := { maxSteps := 1000000 }) [h5, hw])
          exact hN _ (k + 1) hkl (by rw [hms, hld, hla, show max (mxAt l k) (n + 0) = mxAt l k by omega]; (refine Wk.of ?_ ?_ (by simp) <;> repeat' (first | exact True.intro | exact ⟨_, rfl, wkt_same rfl⟩ | exact ⟨_, rfl, wkt_erase rfl⟩ | exact ⟨_, rfl, .inl .nild⟩ | exact ⟨_, rfl, wkt_nils⟩ | exact wkt_same rfl | exact wkt_erase rfl | exact .inl .nild | exact wkt_nils | exact WkB.same rfl | exact WkB_rows | exact WkB_nil | exact .dead _ | refine WkB_cons ?_ ?_ | refine And.intro ?_ ?_))) (by omega)
    · have hla : lead (l.drop (k + n)) = 0 := by rw [List.drop_of_length_le (by omega)]; rfl
      (simp (config := { maxSteps := 1000000 }) [h3])
      ((first | refine AW_cond_split _ (by rfl) (fun h5 => ?_) (fun h5 => ?_) | refine AWop_split _ (by rfl) (fun h5 => ?_) (fun h5 => ?_)) <;> (try simp only [decide_eq_true_eq, decide_eq_false_iff_not, Bool.not_eq_true', Bool.not_eq_false', Bool.and_eq_true, Bool.or_eq_true, beq_iff_eq, bne_iff_ne, ne_eq, beq_eq_false_iff_ne, bne_eq_false_iff_eq] at h5))
      · (simp (config := { maxSteps := 1000000 }) [h5, hw])
        exact hN _ (k + 1) hkl (by rw [hms, hld, hla, show max (mxAt l k) (n + 0) = n by omega]; (refine Wk.of ?_ ?_ (by simp) <;> repeat' (first | exact True.intro | exact ⟨_, rfl, wkt_same rfl⟩ | exact ⟨_, rfl, wkt_erase rfl⟩ | exact ⟨_, rfl, .inl .nild⟩ | exact ⟨_, rfl, wkt_nils⟩ | exact wkt_same rfl | exact wkt_erase rfl | exact .inl .nild | exact wkt_nils | exact WkB.same rfl | exact WkB_rows | exact WkB_nil | exact .dead _ | refine WkB_cons ?_ ?_ | refine And.intro ?_ ?_))) (by omega)
      · (simp (config := { maxSteps := 1000000 }) [h5, hw])
        exact hN _ (k + 1) hkl (by rw [hms, hld, hla, show max (mxAt l k) (n + 0) = mxAt l k by omega]; (refine Wk.of ?_ ?_ (by simp) <;> repeat' (first | exact True.intro | exact ⟨_, rfl, wkt_same rfl⟩ | exact ⟨_, rfl, wkt_erase rfl⟩ | exact ⟨_, rfl, .inl .nild⟩ | exact ⟨_, rfl, wkt_nils⟩ | exact wkt_same rfl | exact wkt_erase rfl | exact .inl .nild | exact wkt_nils | exact WkB.same rfl | exact WkB_rows | exact WkB_nil | exact .dead _ | refine WkB_cons ?_ ?_ | refine And.intro ?_ ?_))) (by omega)
  · have hk' : k = l.length := by simp at h2; omega
    subst hk'
    (simp (config := { maxSteps := 1000000 }) [])
    (first | exact hR _ _ (Fin_ret _ rfl rfl rfl) | exact hR _ _ (Fin_normal _ rfl rfl rfl) | exact hR _ _ (Fin_ret _ rfl rfl (by simp [AV.erase, AV.unview, refMoves, mxAt]; done)) | exact hR _ _ (Fin_normal _ rfl rfl (by simp [AV.erase, AV.unview, refMoves, mxAt]; done)) | fail "no end")
end
end Go.AE

set_option linter.unusedVariables false
namespace Go.AE
open Go
def rfInstr (i : Instr) : List Mach :=
  if (i.op == 2) = true then [mvM 0 (slotZ i.a), mvM (slotZ i.d) 0] else
  (if usesA i.op = true then [mvM 0 (slotZ i.a)] else []) ++ ((if usesB i.op = true then [mvM 2 (slotZ i.b), opM i 1] else [opM i 0]) ++ (if usesD i.op = true then [mvM (slotZ i.d) 0] else []))
def rfCode (l : List Instr) : List Mach := l.flatMap rfInstr
def rfBlock (b : Block) : MBlock := ⟨rfCode b.code ++ (if (b.term.kind != 1) = true then [mvM 0 (slotZ b.term.a)] else []), { b.term with a := 0 }⟩
theorem rfInstr_le (i : Instr) : (rfInstr i).length ≤ 4 := by
  unfold rfInstr
  split
  · simp
  · split <;> split <;> split <;> simp
theorem rfCode_le (l : List Instr) : (rfCode l).length ≤ 4 * l.length := by
  induction l with
  | nil => simp [rfCode]
  | cons i l ih =>
    have := rfInstr_le i
    simp only [rfCode, List.flatMap_cons, List.length_append, List.length_cons] at *
    omega
theorem rfBlock_le (b : Block) : (rfBlock b).code.length ≤ 4 * b.code.length + 1 := by
  have := rfCode_le b.code
  simp only [rfBlock, List.length_append]
  split <;> simp <;> omega
section
theorem ref07_Copy_calls {P : Program} {p : Nums} (A : All P p) (f : Func) (h0 : f.blocks.length ≤ 1000000) (h1 : codeN f.blocks ≤ 1000000) : CallsTo P p.ref07_Copy [f.av] [] fun o _ => o = .ret f.av := by
  refine A.ref07_Copy.run rfl fun R hR => ?_
  (simp (config := { maxSteps := 1000000 }) [ic_ref07_Copy, Func.av])
  obtain ⟨sR, hsR⟩ : ∃ x, x = f.blocks.map Block.row := ⟨_, rfl⟩
  rw [← hsR]
  refine AW_loop (fun k : Nat => ⟨[(4, AI k), (1, .ptr 0 0), (2, .ptr 1 0), (3, .ptr 2 0)], [.mem [AI f.args, AI f.regs, .d (.sl sR)], .mem [AI 0, AI 0, .nils], .mem [AI f.args, AI f.regs, .own 5 (sR.take k)]]⟩)
    (fun k => k ≤ f.blocks.length) (fun k => f.blocks.length - k) 0 (by simp) (by (refine Wk.of ?_ ?_ (by simp) <;> repeat' (first | exact True.intro | exact ⟨_, rfl, wkt_same rfl⟩ | exact ⟨_, rfl, wkt_erase rfl⟩ | exact ⟨_, rfl, .inl .nild⟩ | exact ⟨_, rfl, wkt_nils⟩ | exact wkt_same rfl | exact wkt_erase rfl | exact .inl .nild | exact wkt_nils | exact WkB.same rfl | exact WkB_rows | exact WkB_nil | exact .dead _ | refine WkB_cons ?_ ?_ | refine And.intro ?_ ?_))) ?_
  have hsl : sR.length = f.blocks.length := by rw [hsR]; simp
  intro k hk N hN
  (simp (config := { maxSteps := 1000000 }) [])
  ((first | refine AW_cond_split _ (by rfl) (fun h2 => ?_) (fun h2 => ?_) | refine AWop_split _ (by rfl) (fun h2 => ?_) (fun h2 => ?_)) <;> (try simp only [decide_eq_true_eq, decide_eq_false_iff_not, Bool.not_eq_true', Bool.not_eq_false', Bool.and_eq_true, Bool.or_eq_true, beq_iff_eq, bne_iff_ne, ne_eq, beq_eq_false_iff_ne, bne_eq_false_iff_eq] at h2))
  · have hkl : k < f.blocks.length := by omega
    have hb : f.blocks[k]? = some f.blocks[k] := by simp [hkl]
    have hsk : sR[k]? = some f.blocks[k].row := by rw [hsR, List.getElem?_map, hb]; rfl
    have hw := wrap_succ (k := k) (by omega)
    have hcl : f.blocks[k].code.length ≤ 1000000 := by
      have h3 := codeN_succ hb
      have h4 := codeN_le f.blocks (k + 1)
      omega
    have hl1 := List.length_take_le k sR
    have ess : sR.take k ++ [f.blocks[k].row] = sR.take (k + 1) := (take_succ_eq hsk).symm
    simp only [Block.row] at hsk ess
    have hsk' : sR[k]'h2 = [.sl (f.blocks[k].code.map Instr.row), I f.blocks[k].term.kind, I f.blocks[k].term.a, I f.blocks[k].term.to, I f.blocks[k].term.els] := (List.getElem?_eq_some_iff.1 hsk).2
    (simp (config := { maxSteps := 1000000 }) [h2, hsk'])
    refine AWio_app_nile (by rfl) (by rfl) (rows_len fun _ => rfl) (by decide) (by simp; omega) (by simp; omega) (fun hn => ?_) fun hn => ?_
    · have hl : f.blocks[k].code = [] := by simpa using hn
      (simp (config := { maxSteps := 1000000 }) [h2, hsk'])
      (refine AWio_app_own (by rfl) (by rfl) (by rfl) ?_ (by decide) ?_ ?_ ?_)
      · simp
      · simp; omega
      · simp; omega
      rw [hl, List.map_nil] at ess
      (simp (config := { maxSteps := 1000000 }) [ess, hw])
      exact hN _ (k + 1) hkl (by (refine Wk.of ?_ ?_ (by simp) <;> repeat' (first | exact True.intro | exact ⟨_, rfl, wkt_same rfl⟩ | exact ⟨_, rfl, wkt_erase rfl⟩ | exact ⟨_, rfl, .inl .nild⟩ | exact ⟨_, rfl, wkt_nils⟩ | exact wkt_same rfl | exact wkt_erase rfl | exact .inl .nild | exact wkt_nils | exact WkB.same rfl | exact WkB_rows | exact WkB_nil | exact .dead _ | refine WkB_cons ?_ ?_ | refine And.intro ?_ ?_))) (by omega)
    · (simp (config := { maxSteps := 1000000 }) [h2, hsk'])
      (refine AWio_app_own (by rfl) (by rfl) (by rfl) ?_ (by decide) ?_ ?_ ?_)
      · simp
      · simp; omega
      · simp; omega
      (simp (config := { maxSteps := 1000000 }) [ess, hw])
      exact hN _ (k + 1) hkl (by (refine Wk.of ?_ ?_ (by simp) <;> repeat' (first | exact True.intro | exact ⟨_, rfl, wkt_same rfl⟩ | exact ⟨_, rfl, wkt_erase rfl⟩ | exact ⟨_, rfl, .inl .nild⟩ | exact ⟨_, rfl, wkt_nils⟩ | exact wkt_same rfl | exact wkt_erase rfl | exact .inl .nild | exact wkt_nils | exact WkB.same rfl | exact WkB_rows | exact WkB_nil | exact .dead _ | refine WkB_cons ?_ ?_ | refine And.intro ?_ ?_))) (by omega)
  · have hk' : k = f.blocks.length := by omega
    subst hk'
    rw [List.take_of_length_le (by omega)]
    (simp (config := { maxSteps := 1000000 }) [])
    (first | exact hR _ _ (Fin_ret _ rfl rfl rfl) | exact hR _ _ (Fin_normal _ rfl rfl rfl) | exact hR _ _ (Fin_ret _ rfl rfl (by simp [AV.erase, AV.unview, hsR, Func.av]; done)) | exact hR _ _ (Fin_normal _ rfl rfl (by simp [AV.erase, AV.unview, hsR, Func.av]; done)) | fail "no end")
set_option maxHeartbeats 4000000 in
theorem ref22_Block_calls {P : Program} {p : Nums} (A : All P p) (b : Block) (h0 : b.code.length ≤ 10000000) : CallsTo P p.ref22_Block [b.av] [] fun o _ => o = .ret (rfBlock b).av := by
  refine A.ref22_Block.run rfl fun R hR => ?_
  (simp (config := { maxSteps := 1000000 }) [ic_ref22_Block, Block.av])
  refine AW_loop (fun k : Nat => ⟨[(4, AI k), (3, .own 7 ((rfCode (b.code.take k)).map Mach.row)), (2, .ptr 1 0), (1, .ptr 0 0)],
    [.mem [.d (.sl (b.code.map Instr.row)), AI b.term.kind, AI b.term.a, AI b.term.to, AI b.term.els], .mem [.nils, AI 0, AI 0, AI 0, AI 0]]⟩)
    (fun k => k ≤ b.code.length) (fun k => b.code.length - k) 0 (by simp) (by (refine Wk.of ?_ ?_ (by simp) <;> repeat' (first | exact True.intro | exact ⟨_, rfl, wkt_same rfl⟩ | exact ⟨_, rfl, wkt_erase rfl⟩ | exact ⟨_, rfl, .inl .nild⟩ | exact ⟨_, rfl, wkt_nils⟩ | exact wkt_same rfl | exact wkt_erase rfl | exact .inl .nild | exact wkt_nils | exact WkB.same rfl | exact WkB_rows | exact WkB_nil | exact .dead _ | refine WkB_cons ?_ ?_ | refine And.intro ?_ ?_))) ?_
  intro k hk N hN
  have hle := rfCode_le (b.code.take k)
  have hl2 := List.length_take_le k b.code
  obtain ⟨rows, hrows⟩ : ∃ x, x = (rfCode (b.code.take k)).map Mach.row := ⟨_, rfl⟩
  have hrl : rows.length ≤ 4 * k := by rw [hrows, List.length_map]; omega
  rw [← hrows]
  (simp (config := { maxSteps := 1000000 }) [])
  ((first | refine AW_cond_split _ (by rfl) (fun h2 => ?_) (fun h2 => ?_) | refine AWop_split _ (by rfl) (fun h2 => ?_) (fun h2 => ?_)) <;> (try simp only [decide_eq_true_eq, decide_eq_false_iff_not, Bool.not_eq_true', Bool.not_eq_false', Bool.and_eq_true, Bool.or_eq_true, beq_iff_eq, bne_iff_ne, ne_eq, beq_eq_false_iff_ne, bne_eq_false_iff_eq] at h2))
  · have hkl : k < b.code.length := by simpa using h2
    have hb : b.code[k]? = some b.code[k] := by simp [hkl]
    have hw := wrap_succ (k := k) (by omega)
    have hs : (rfCode (b.code.take (k + 1))).map Mach.row = rows ++ (rfInstr b.code[k]).map Mach.row := by
      rw [List.take_add_one, hb, hrows]; simp only [rfCode, Option.toList_some, List.flatMap_append, List.flatMap_cons, List.flatMap_nil, List.append_nil, List.map_append]
    conv at hs => rhs; unfold rfInstr
    (simp (config := { maxSteps := 1000000 }) [h2, hb, Instr.row])
    ((first | refine AW_cond_split _ (by rfl) (fun h3 => ?_) (fun h3 => ?_) | refine AWop_split _ (by rfl) (fun h3 => ?_) (fun h3 => ?_)) <;> (try simp only [decide_eq_true_eq, decide_eq_false_iff_not, Bool.not_eq_true', Bool.not_eq_false', Bool.and_eq_true, Bool.or_eq_true, beq_iff_eq, bne_iff_ne, ne_eq, beq_eq_false_iff_ne, bne_eq_false_iff_eq] at h3))
    · (simp (config := { maxSteps := 1000000 }) [h3])
      (refine AWcall_det (ref22_move_calls A _ _) (by rfl) (by rfl) ?_)
      (simp (config := { maxSteps := 1000000 }) [])
      (refine AWcall_det (ref22_move_calls A _ _) (by rfl) (by rfl) ?_)
      (simp (config := { maxSteps := 1000000 }) [Mach.av, mvM])
      (refine AWio_app_own (by rfl) (by rfl) (by rfl) ?_ (by decide) ?_ ?_ ?_)
      · simp
      · simp; omega
      · simp; omega
      (simp (config := { maxSteps := 1000000 }) [hw])
      rw [if_pos (by simp [h3])] at hs
      exact hN _ (k + 1) hkl (by rw [hs]; simp [Mach.row, mvM, slotZ]; (refine Wk.of ?_ ?_ (by simp) <;> repeat' (first | exact True.intro | exact ⟨_, rfl, wkt_same rfl⟩ | exact ⟨_, rfl, wkt_erase rfl⟩ | exact ⟨_, rfl, .inl .nild⟩ | exact ⟨_, rfl, wkt_nils⟩ | exact wkt_same rfl | exact wkt_erase rfl | exact .inl .nild | exact wkt_nils | exact WkB.same rfl | exact WkB_rows | exact WkB_nil | exact .dead _ | refine WkB_cons ?_ ?_ | refine And.intro ?_ ?_))) (by omega)
    · (simp (config := { maxSteps := 1000000 }) [h3])
      rw [if_neg (by simp [h3])] at hs
      cases hA : usesA b.code[k].op <;> cases hB : usesB b.code[k].op <;> cases hD : usesD b.code[k].op <;>
        simp only [hA, hB, hD, if_true, if_false, List.nil_append, List.append_nil, List.cons_append, reduceCtorEq] at hs <;>
        (repeat' (first
          | ((refine AWcall_det (ref05_UsesA_calls A _) (by rfl) (by rfl) ?_); (simp (config := { maxSteps := 1000000 }) [hA]))
          | ((refine AWcall_det (ref05_UsesB_calls A _) (by rfl) (by rfl) ?_); (simp (config := { maxSteps := 1000000 }) [hB]))
          | ((refine AWcall_det (ref05_UsesD_calls A _) (by rfl) (by rfl) ?_); (simp (config := { maxSteps := 1000000 }) [hD, hw]))
          | ((refine AWcall_det (ref22_move_calls A _ _) (by rfl) (by rfl) ?_); (simp (config := { maxSteps := 1000000 }) [Mach.av, mvM]))
          | ((refine AWio_app_own (by rfl) (by rfl) (by rfl) ?_ (by decide) ?_ ?_ ?_); (focus (simp; done)); (focus (simp; omega)); (focus (simp; omega)); (simp (config := { maxSteps := 1000000 }) [hw])))) <;>
        (refine hN _ (k + 1) hkl ?_ (by omega); rw [hs]; simp [Mach.row, mvM, opM, slotZ]; (refine Wk.of ?_ ?_ (by simp) <;> repeat' (first | exact True.intro | exact ⟨_, rfl, wkt_same rfl⟩ | exact ⟨_, rfl, wkt_erase rfl⟩ | exact ⟨_, rfl, .inl .nild⟩ | exact ⟨_, rfl, wkt_nils⟩ | exact wkt_same rfl | exact wkt_erase rfl | exact .inl .nild | exact wkt_nils | exact WkB.same rfl | exact WkB_rows | exact WkB_nil | exact .dead _ | refine WkB_cons ?_ ?_ | refine And.intro ?_ ?_)))
  · have hk' : k = b.code.length := by simp at h2; omega
    subst hk'
    have hle := rfCode_le b.code
    (simp (config := { maxSteps := 1000000 }) [])
    ((first | refine AW_cond_split _ (by rfl) (fun h3 => ?_) (fun h3 => ?_) | refine AWop_split _ (by rfl) (fun h3 => ?_) (fun h3 => ?_)) <;> (try simp only [decide_eq_true_eq, decide_eq_false_iff_not, Bool.not_eq_true', Bool.not_eq_false', Bool.and_eq_true, Bool.or_eq_true, beq_iff_eq, bne_iff_ne, ne_eq, beq_eq_false_iff_ne, bne_eq_false_iff_eq] at h3))
    · (simp (config := { maxSteps := 1000000 }) [h3])
      (refine AWcall_det (ref22_move_calls A _ _) (by rfl) (by rfl) ?_)
      (simp (config := { maxSteps := 1000000 }) [Mach.av, mvM])
      (refine AWio_app_own (by rfl) (by rfl) (by rfl) ?_ (by decide) ?_ ?_ ?_)
      · simp
      · simp; omega
      · simp; omega
      (simp (config := { maxSteps := 1000000 }) [])
      (first | exact hR _ _ (Fin_ret _ rfl rfl rfl) | exact hR _ _ (Fin_normal _ rfl rfl rfl) | exact hR _ _ (Fin_ret _ rfl rfl (by simp [AV.erase, AV.unview, MBlock.av, rfBlock, h3, Mach.row, mvM, slotZ, hrows]; done)) | exact hR _ _ (Fin_normal _ rfl rfl (by simp [AV.erase, AV.unview, MBlock.av, rfBlock, h3, Mach.row, mvM, slotZ, hrows]; done)) | fail "no end")
    · (simp (config := { maxSteps := 1000000 }) [h3])
      (first | exact hR _ _ (Fin_ret _ rfl rfl rfl) | exact hR _ _ (Fin_normal _ rfl rfl rfl) | exact hR _ _ (Fin_ret _ rfl rfl (by simp [AV.erase, AV.unview, MBlock.av, rfBlock, h3, Mach.row, mvM, hrows]; done)) | exact hR _ _ (Fin_normal _ rfl rfl (by simp [AV.erase, AV.unview, MBlock.av, rfBlock, h3, Mach.row, mvM, hrows]; done)) | fail "no end")
end
end Go.AE

set_option linter.unusedVariables false
namespace Go.AE
open Go
def rfCert (f : Func) : Cert := ⟨f, ⟨f.args, 2, f.regs, f.blocks.map rfBlock⟩, List.replicate f.blocks.length (spInv f.regs.toNat)⟩
def rfMoves (b : Block) : Nat := refMoves (rfBlock b).code
def rfRun (f : Func) : Nat := mostN (f.blocks.map rfMoves)
def rfCertZ (f : Func) : Cert × Int :=
  if refCheckZ f ≠ 0 then (certZero, refCheckZ f) else if prodZ f > 1048576 then (certZero, 6) else if mcodeN (f.blocks.map rfBlock) > 1048576 then (certZero, 6) else if rfRun f > 64 then (certZero, 15) else (rfCert f, 0)
theorem refCheckZ_ok {f : Func} (h : refCheckZ f = 0) : 0 ≤ f.args ∧ f.args ≤ f.regs ∧ f.regs ≤ 1048576 ∧ 0 < f.blocks.length ∧ f.blocks.length ≤ 1048576 ∧ codeN f.blocks ≤ 1048576 := by
  unfold refCheckZ at h
  split at h
  · cases h
  split at h
  · cases h
  split at h
  · cases h
  split at h
  · cases h
  omega
theorem mcodeN_rf (bs : List Block) : mcodeN (bs.map rfBlock) ≤ 4 * codeN bs + bs.length := by
  induction bs with
  | nil => simp [mcodeN]
  | cons b bs ih =>
    have := rfBlock_le b
    simp only [mcodeN, codeN, List.map_cons, List.sum_cons, List.length_cons] at *
    omega
theorem spInv_succ (k : Nat) : (spInv (k + 1)).map Pair.row = (spInv k).map Pair.row ++ [[I k, I (slotZ k)]] := by simp [spInv, List.range_succ, Pair.row]
section
set_option maxHeartbeats 1000000 in
theorem ref22_Cert_calls {P : Program} {p : Nums} (A : All P p) (f : Func) (h0 : f.blocks.length ≤ 1000000) (h1 : codeN f.blocks ≤ 1000000) : CallsTo P p.ref22_Cert [f.av] [] fun o _ => o = .ret (.tup [(rfCertZ f).1.av, AI (rfCertZ f).2]) := by
  refine A.ref22_Cert.run rfl fun R hR => ?_
  (simp (config := { maxSteps := 1000000 }) [ic_ref22_Cert, Func.av])
  (refine AWcall_det (ref07_Check_calls A f (by omega) (by omega)) (by rfl) (by rfl) ?_)
  (simp (config := { maxSteps := 1000000 }) [])
  ((first | refine AW_cond_split _ (by rfl) (fun a1 => ?_) (fun a1 => ?_) | refine AWop_split _ (by rfl) (fun a1 => ?_) (fun a1 => ?_)) <;> (try simp only [decide_eq_true_eq, decide_eq_false_iff_not, Bool.not_eq_true', Bool.not_eq_false', Bool.and_eq_true, Bool.or_eq_true, beq_iff_eq, bne_iff_ne, ne_eq, beq_eq_false_iff_ne, bne_eq_false_iff_eq] at a1))
  · (simp (config := { maxSteps := 1000000 }) [a1])
    have e : rfCertZ f = (certZero, refCheckZ f) := by unfold rfCertZ; rw [if_pos a1]
    exact hR _ _ (Fin_wkv _ _ rfl (by rw [e]; (repeat' (first | exact True.intro | exact WkV.refl _ rfl | exact WkV.erase _ rfl | exact WkV.nild | exact WkV.nile | refine And.intro ?_ ?_ | refine WkV_agg ?_ | refine WkV_tup ?_))) rfl)
  have hok := refCheckZ_ok (by simpa using a1)
  (simp (config := { maxSteps := 1000000 }) [a1])
  ((first | refine AW_cond_split _ (by rfl) (fun a2 => ?_) (fun a2 => ?_) | refine AWop_split _ (by rfl) (fun a2 => ?_) (fun a2 => ?_)) <;> (try simp only [decide_eq_true_eq, decide_eq_false_iff_not, Bool.not_eq_true', Bool.not_eq_false', Bool.and_eq_true, Bool.or_eq_true, beq_iff_eq, bne_iff_ne, ne_eq, beq_eq_false_iff_ne, bne_eq_false_iff_eq] at a2))
  · (simp (config := { maxSteps := 1000000 }) [a2])
    have e : rfCertZ f = (certZero, 6) := by unfold rfCertZ; rw [if_neg (by simpa using a1), if_pos (by simpa [prodZ] using a2)]
    exact hR _ _ (Fin_wkv _ _ rfl (by rw [e]; (repeat' (first | exact True.intro | exact WkV.refl _ rfl | exact WkV.erase _ rfl | exact WkV.nild | exact WkV.nile | refine And.intro ?_ ?_ | refine WkV_agg ?_ | refine WkV_tup ?_))) rfl)
  (simp (config := { maxSteps := 1000000 }) [a2])
  (refine AWcall_det (ref07_Copy_calls A f (by omega) (by omega)) (by rfl) (by rfl) ?_)
  (simp (config := { maxSteps := 1000000 }) [Func.av])
  obtain ⟨sR, hsR⟩ : ∃ x, x = f.blocks.map Block.row := ⟨_, rfl⟩
  obtain ⟨tB, htB⟩ : ∃ x, x = f.blocks.map rfBlock := ⟨_, rfl⟩
  obtain ⟨tR, htR⟩ : ∃ x, x = tB.map MBlock.row := ⟨_, rfl⟩
  obtain ⟨mB, hmB⟩ : ∃ x, x = f.blocks.map rfMoves := ⟨_, rfl⟩
  obtain ⟨n, hn⟩ : ∃ n : Nat, f.regs = n := ⟨f.regs.toNat, by omega⟩
  have hmc := mcodeN_rf f.blocks
  rw [← htB] at hmc
  have hsl : sR.length = f.blocks.length := by rw [hsR]; simp
  have htl : tR.length = f.blocks.length := by rw [htR, htB]; simp
  rw [← hsR, hn]
  refine AW_loop (fun k : Nat => ⟨[(7, AI k), (6, AI (mostN (mB.take k))), (1, .ptr 0 0), (2, .ptr 1 0), (3, AI 0), (5, .ptr 2 0)],
    [.mem [AI f.args, AI n, .d (.sl sR)], .mem [AI 0, AI 0, .nils, AI 0, AI 0, AI 0, .nils, .nils],
      .mem [AI f.args, AI n, .d (.sl sR), AI f.args, AI 2, AI n, .own 5 (tR.take k), .own 1 (List.replicate k [pairsD (spInv n)])]]⟩)
    (fun k => k ≤ f.blocks.length) (fun k => f.blocks.length - k) 0 (by simp) (by (refine Wk.of ?_ ?_ (by simp) <;> repeat' (first | exact True.intro | exact ⟨_, rfl, wkt_same rfl⟩ | exact ⟨_, rfl, wkt_erase rfl⟩ | exact ⟨_, rfl, .inl .nild⟩ | exact ⟨_, rfl, wkt_nils⟩ | exact wkt_same rfl | exact wkt_erase rfl | exact .inl .nild | exact wkt_nils | exact WkB.same rfl | exact WkB_rows | exact WkB_nil | exact .dead _ | refine WkB_cons ?_ ?_ | refine And.intro ?_ ?_))) ?_
  intro k hk N hN
  (simp (config := { maxSteps := 1000000 }) [])
  ((first | refine AW_cond_split _ (by rfl) (fun h2 => ?_) (fun h2 => ?_) | refine AWop_split _ (by rfl) (fun h2 => ?_) (fun h2 => ?_)) <;> (try simp only [decide_eq_true_eq, decide_eq_false_iff_not, Bool.not_eq_true', Bool.not_eq_false', Bool.and_eq_true, Bool.or_eq_true, beq_iff_eq, bne_iff_ne, ne_eq, beq_eq_false_iff_ne, bne_eq_false_iff_eq] at h2))
  · have hkl : k < f.blocks.length := by omega
    have hb : f.blocks[k]? = some f.blocks[k] := by simp [hkl]
    have hsk : sR[k]? = some f.blocks[k].row := by rw [hsR, List.getElem?_map, hb]; rfl
    have htBk : tB[k]? = some (rfBlock f.blocks[k]) := by rw [htB, List.getElem?_map, hb]; rfl
    have htk : tR[k]? = some (rfBlock f.blocks[k]).row := by rw [htR, List.getElem?_map, htBk]; rfl
    have hmk : mB[k]? = some (rfMoves f.blocks[k]) := by rw [hmB, List.getElem?_map, hb]; rfl
    have hw := wrap_succ (k := k) (by omega)
    have hcl : f.blocks[k].code.length ≤ 1000000 := by
      have h3 := codeN_succ hb
      have h4 := codeN_le f.blocks (k + 1)
      omega
    have hbl := rfBlock_le f.blocks[k]
    have hl2 := List.length_take_le k tR
    have ets : tR.take k ++ [(rfBlock f.blocks[k]).row] = tR.take (k + 1) := (take_succ_eq htk).symm
    have emx : (if mostN (mB.take k) < rfMoves f.blocks[k] then ((rfMoves f.blocks[k] : Nat) : Int) else ((mostN (mB.take k) : Nat) : Int)) = ((mostN (mB.take (k + 1)) : Nat) : Int) := by
      rw [mostN_succ hmk]; split <;> omega
    have hsk' : sR[k]'h2 = [.sl (f.blocks[k].code.map Instr.row), I f.blocks[k].term.kind, I f.blocks[k].term.a, I f.blocks[k].term.to, I f.blocks[k].term.els] := (List.getElem?_eq_some_iff.1 hsk).2
    simp only [MBlock.row] at ets
    (simp (config := { maxSteps := 1000000 }) [h2, hsk'])
    (refine AWcall_det (ref22_Block_calls A f.blocks[k] (by omega)) (by rfl) (by rfl) ?_)
    (simp (config := { maxSteps := 1000000 }) [MBlock.av])
    (refine AWio_app_own (by rfl) (by rfl) (by rfl) ?_ (by decide) ?_ ?_ ?_)
    · simp
    · simp; omega
    · simp; omega
    (simp (config := { maxSteps := 1000000 }) [ets])
    (refine AWcall_det (ref08_Moves_calls A (rfBlock f.blocks[k]).code (by omega)) (by rfl) (by rfl) ?_)
    (simp (config := { maxSteps := 1000000 }) [show refMoves (rfBlock f.blocks[k]).code = rfMoves f.blocks[k] from rfl])
    rw [emx]
    refine AW_loop (fun v : Nat => ⟨[(10, AI v), (9, .own 2 ((spInv v).map Pair.row)), (7, AI k), (6, AI (mostN (mB.take (k + 1)))), (1, .ptr 0 0), (2, .ptr 1 0), (3, AI 0), (5, .ptr 2 0)],
      [.mem [AI f.args, AI n, .d (.sl sR)], .mem [AI 0, AI 0, .nils, AI 0, AI 0, AI 0, .nils, .nils],
        .mem [AI f.args, AI n, .d (.sl sR), AI f.args, AI 2, AI n, .own 5 (tR.take (k + 1)), .own 1 (List.replicate k [pairsD (spInv n)])]]⟩)
      (fun v => v ≤ n) (fun v => n - v) 0 (by simp) (by (refine Wk.of ?_ ?_ (by simp) <;> repeat' (first | exact True.intro | exact ⟨_, rfl, wkt_same rfl⟩ | exact ⟨_, rfl, wkt_erase rfl⟩ | exact ⟨_, rfl, .inl .nild⟩ | exact ⟨_, rfl, wkt_nils⟩ | exact wkt_same rfl | exact wkt_erase rfl | exact .inl .nild | exact wkt_nils | exact WkB.same rfl | exact WkB_rows | exact WkB_nil | exact .dead _ | refine WkB_cons ?_ ?_ | refine And.intro ?_ ?_))) ?_
    intro v hv N' hN'
    (simp (config := { maxSteps := 1000000 }) [])
    ((first | refine AW_cond_split _ (by rfl) (fun h3 => ?_) (fun h3 => ?_) | refine AWop_split _ (by rfl) (fun h3 => ?_) (fun h3 => ?_)) <;> (try simp only [decide_eq_true_eq, decide_eq_false_iff_not, Bool.not_eq_true', Bool.not_eq_false', Bool.and_eq_true, Bool.or_eq_true, beq_iff_eq, bne_iff_ne, ne_eq, beq_eq_false_iff_ne, bne_eq_false_iff_eq] at h3))
    · have hvl : v < n := by omega
      have hwv := wrap_succ (k := v) (by omega)
      have hsv := spInv_succ v
      obtain ⟨vr, hvr⟩ : ∃ x, x = (spInv v).map Pair.row := ⟨_, rfl⟩
      have hvrl : vr.length = v := by rw [hvr]; simp [spInv]
      rw [← hvr] at hsv ⊢
      (simp (config := { maxSteps := 1000000 }) [h3])
      (refine AWio_app_own (by rfl) (by rfl) (by rfl) ?_ (by decide) ?_ ?_ ?_)
      · simp
      · simp; omega
      · simp; omega
      (simp (config := { maxSteps := 1000000 }) [hwv])
      exact hN' _ (v + 1) hvl (by rw [hsv]; (refine Wk.of ?_ ?_ (by simp) <;> repeat' (first | exact True.intro | exact ⟨_, rfl, wkt_same rfl⟩ | exact ⟨_, rfl, wkt_erase rfl⟩ | exact ⟨_, rfl, .inl .nild⟩ | exact ⟨_, rfl, wkt_nils⟩ | exact wkt_same rfl | exact wkt_erase rfl | exact .inl .nild | exact wkt_nils | exact WkB.same rfl | exact WkB_rows | exact WkB_nil | exact .dead _ | refine WkB_cons ?_ ?_ | refine And.intro ?_ ?_))) (by omega)
    · have hv' : v = n := by omega
      subst hv'
      (simp (config := { maxSteps := 1000000 }) [h3])
      (refine AWio_app_own (by rfl) (by rfl) (by rfl) ?_ (by decide) ?_ ?_ ?_)
      · simp
      · simp; omega
      · simp; omega
      have ers : List.replicate k [pairsD (spInv v)] ++ [[D.sl ((spInv v).map Pair.row)]] = List.replicate (k + 1) [pairsD (spInv v)] := List.replicate_succ'.symm
      (simp (config := { maxSteps := 1000000 }) [hw])
      exact hN _ (k + 1) hkl (by rw [ers]; (refine Wk.of ?_ ?_ (by simp) <;> repeat' (first | exact True.intro | exact ⟨_, rfl, wkt_same rfl⟩ | exact ⟨_, rfl, wkt_erase rfl⟩ | exact ⟨_, rfl, .inl .nild⟩ | exact ⟨_, rfl, wkt_nils⟩ | exact wkt_same rfl | exact wkt_erase rfl | exact .inl .nild | exact wkt_nils | exact WkB.same rfl | exact WkB_rows | exact WkB_nil | exact .dead _ | refine WkB_cons ?_ ?_ | refine And.intro ?_ ?_))) (by omega)
  · have hk' : k = f.blocks.length := by omega
    subst hk'
    have e2 : tR.take f.blocks.length = tR := List.take_of_length_le (by omega)
    have e4 : mB.take f.blocks.length = mB := List.take_of_length_le (by rw [hmB]; simp)
    rw [e2, e4]
    (simp (config := { maxSteps := 1000000 }) [h2])
    have hcode := ref08_Code_calls A ⟨f.args, 2, n, tB⟩ (by simp [htB]; omega) (by simp; omega)
    rw [MFunc.av, ← htR] at hcode
    (refine AWcall_det hcode (by rfl) (by rfl) ?_)
    (simp (config := { maxSteps := 1000000 }) [])
    ((first | refine AW_cond_split _ (by rfl) (fun b1 => ?_) (fun b1 => ?_) | refine AWop_split _ (by rfl) (fun b1 => ?_) (fun b1 => ?_)) <;> (try simp only [decide_eq_true_eq, decide_eq_false_iff_not, Bool.not_eq_true', Bool.not_eq_false', Bool.and_eq_true, Bool.or_eq_true, beq_iff_eq, bne_iff_ne, ne_eq, beq_eq_false_iff_ne, bne_eq_false_iff_eq] at b1))
    · (simp (config := { maxSteps := 1000000 }) [b1])
      have e : rfCertZ f = (certZero, 6) := by unfold rfCertZ; rw [if_neg (by simpa using a1), if_neg (by simpa [prodZ] using a2), if_pos (by rw [← htB]; omega)]
      exact hR _ _ (Fin_wkv _ _ rfl (by rw [e]; (repeat' (first | exact True.intro | exact WkV.refl _ rfl | exact WkV.erase _ rfl | exact WkV.nild | exact WkV.nile | refine And.intro ?_ ?_ | refine WkV_agg ?_ | refine WkV_tup ?_))) rfl)
    (simp (config := { maxSteps := 1000000 }) [b1])
    ((first | refine AW_cond_split _ (by rfl) (fun b2 => ?_) (fun b2 => ?_) | refine AWop_split _ (by rfl) (fun b2 => ?_) (fun b2 => ?_)) <;> (try simp only [decide_eq_true_eq, decide_eq_false_iff_not, Bool.not_eq_true', Bool.not_eq_false', Bool.and_eq_true, Bool.or_eq_true, beq_iff_eq, bne_iff_ne, ne_eq, beq_eq_false_iff_ne, bne_eq_false_iff_eq] at b2))
    · (simp (config := { maxSteps := 1000000 }) [b2])
      have e : rfCertZ f = (certZero, 15) := by unfold rfCertZ; rw [if_neg (by simpa using a1), if_neg (by simpa [prodZ] using a2), if_neg (by rw [← htB]; omega), if_pos (by rw [rfRun, ← hmB]; omega)]
      exact hR _ _ (Fin_wkv _ _ rfl (by rw [e]; (repeat' (first | exact True.intro | exact WkV.refl _ rfl | exact WkV.erase _ rfl | exact WkV.nild | exact WkV.nile | refine And.intro ?_ ?_ | refine WkV_agg ?_ | refine WkV_tup ?_))) rfl)
    (simp (config := { maxSteps := 1000000 }) [b2])
    have e : rfCertZ f = (rfCert f, 0) := by unfold rfCertZ; rw [if_neg (by simpa using a1), if_neg (by simpa [prodZ] using a2), if_neg (by rw [← htB]; omega), if_neg (by rw [rfRun, ← hmB]; omega)]
    refine hR _ _ (Fin_wkv _ _ rfl (by rw [e, hsR, htR, htB, rfCert, Cert.av, witD, List.map_replicate]; simp only [hn, Int.toNat_natCast]; (repeat' (first | exact True.intro | exact WkV.refl _ rfl | exact WkV.erase _ rfl | exact WkV.nild | exact WkV.nile | refine And.intro ?_ ?_ | refine WkV_agg ?_ | refine WkV_tup ?_))) rfl)
end
end Go.AE

set_option linter.unusedVariables false
namespace Go.AE
open Go
theorem shape_eq {x : Int} (h1 : 1 ≤ x) (h2 : x ≤ 17) : (shapeZ x).D = usesD x ∧ (shapeZ x).A = usesA x ∧ (shapeZ x).B = usesB x ∧ (shapeZ x).Imm = (x == 1) := by
  have : x = 1 ∨ x = 2 ∨ x = 3 ∨ x = 4 ∨ x = 5 ∨ x = 6 ∨ x = 7 ∨ x = 8 ∨ x = 9 ∨ x = 10 ∨ x = 11 ∨ x = 12 ∨ x = 13 ∨ x = 14 ∨ x = 15 ∨ x = 16 ∨ x = 17 := by omega
  rcases this with h | h | h | h | h | h | h | h | h | h | h | h | h | h | h | h | h <;> subst h <;> decide
theorem source_eq (x : Int) : sourceZ x = decide (1 ≤ x ∧ x ≤ 17) := by
  rw [Bool.eq_iff_iff]; simp only [sourceZ, knownZ, Bool.and_eq_true, decide_eq_true_eq, bne_iff_ne, ne_eq]; omega
theorem out_eq (u : Bool) (v n : Int) : (u && (decide (v < 0) || decide (n ≤ v))) = (u && !inZ v n) := by
  cases u
  · rfl
  · rw [Bool.eq_iff_iff]; simp [inZ]
theorem instr_eq (i : Instr) (regs : Int) : srcInstrZ i regs = refInstrZ i regs := by
  unfold srcInstrZ refInstrZ
  by_cases h : i.op < 1 ∨ 17 < i.op
  · rw [if_pos h, if_pos (by rw [source_eq]; simp only [decide_eq_false_iff_not]; omega)]
  · obtain ⟨hD, hA, hB, hI⟩ := shape_eq (x := i.op) (by omega) (by omega)
    rw [if_neg h, if_neg (by rw [source_eq]; simp only [decide_eq_false_iff_not]; omega)]
    have e1 : withinZ (flds i regs) = !bad9 i regs := by
      simp only [withinZ, flds, bad9, List.any_cons, List.any_nil, Field.bad, hD, hA, hB, out_eq, Bool.or_false, Bool.or_assoc]
    have e2 : blankZ (flds i regs) = !(!usesD i.op && i.d != 0 || !usesA i.op && i.a != 0 || !usesB i.op && i.b != 0) := by
      simp only [blankZ, flds, List.any_cons, List.any_nil, Field.odd, hD, hA, hB, Bool.or_false, Bool.or_assoc]
    have e3 : bad12 i = ((!usesD i.op && i.d != 0 || !usesA i.op && i.a != 0 || !usesB i.op && i.b != 0) || i.op != 1 && i.imm != 0) := rfl
    rw [e1, e2, e3, hI]
    generalize bad9 i regs = p1
    generalize (!usesD i.op && i.d != 0 || !usesA i.op && i.a != 0 || !usesB i.op && i.b != 0) = p2
    cases p1
    · cases p2
      · by_cases c1 : i.op = 1 <;> by_cases c2 : i.imm = 0 <;> simp [c1, c2]
      · simp
    · simp
theorem term_eq (t : Term) (regs blocks : Int) : srcTermZ t regs blocks = refTermZ t regs blocks := by
  unfold srcTermZ refTermZ
  by_cases h : t.kind < 1 ∨ 3 < t.kind
  · rw [if_pos h, if_neg (by omega), if_neg (by omega), if_neg (by omega)]
  · rw [if_neg h]
    have hk : t.kind = 1 ∨ t.kind = 2 ∨ t.kind = 3 := by omega
    have e1 : withinZ ((fldsT t regs blocks).take 1) = !((t.kind != 1) && !inZ t.a regs) := by
      simp only [withinZ, fldsT, List.take_succ_cons, List.take_zero, List.any_cons, List.any_nil, Field.bad, out_eq, Bool.or_false]
    have e2 : withinZ ((fldsT t regs blocks).drop 1) = !((t.kind != 3) && !inZ t.to blocks || (t.kind == 2) && !inZ t.els blocks) := by
      simp only [withinZ, fldsT, List.drop_succ_cons, List.drop_zero, List.any_cons, List.any_nil, Field.bad, out_eq, Bool.or_false]
    have e3 : blankZ (fldsT t regs blocks) = !((!(t.kind != 1) && t.a != 0) || (!(t.kind != 3) && t.to != 0) || (!(t.kind == 2) && t.els != 0)) := by
      simp only [blankZ, fldsT, List.any_cons, List.any_nil, Field.odd, Bool.or_false, Bool.or_assoc]
    rw [e1, e2, e3]
    rcases hk with hk | hk | hk <;> rw [hk] <;> cases inZ t.a regs <;> cases inZ t.to blocks <;> cases inZ t.els blocks <;> by_cases ca : t.a = 0 <;> by_cases ct : t.to = 0 <;> by_cases ce : t.els = 0 <;> simp [ca, ct, ce]
theorem check_eq (f : Func) : srcCheckZ f = refCheckZ f := by
  have e : ∀ b : Block, srcBlockZ b f.regs f.blocks.length = refBlockZ b f.regs f.blocks.length := by
    intro b
    simp only [srcBlockZ, refBlockZ, instr_eq, term_eq]
  simp only [srcCheckZ, refCheckZ, e]
theorem instr_ok {i : Instr} {regs : Int} (h : refInstrZ i regs = 0) : 1 ≤ i.op ∧ i.op ≤ 17 := by
  unfold refInstrZ at h
  split at h
  · cases h
  · omega
theorem code_ok {f : Func} (h : refCheckZ f = 0) : ∀ b ∈ f.blocks, ∀ i ∈ b.code, 1 ≤ i.op ∧ i.op ≤ 17 := by
  have hok := refCheckZ_ok h
  have h2 : firstErr (f.blocks.map fun b => refBlockZ b f.regs f.blocks.length) = 0 := by
    unfold refCheckZ at h
    rwa [if_neg (by omega), if_neg (by omega), if_neg (by omega), if_neg (by omega)] at h
  intro b hb i hi
  have h3 := firstErr_any h2 _ (List.mem_map_of_mem hb)
  have h4 : firstErr (b.code.map (refInstrZ · f.regs)) = 0 := by
    simp only [refBlockZ] at h3
    split at h3
    · rename_i h5; exact absurd h3 h5
    · rename_i h5; simpa using h5
  exact instr_ok (firstErr_any h4 _ (List.mem_map_of_mem hi))
theorem spInstr_eq {i : Instr} (h1 : 1 ≤ i.op) (h2 : i.op ≤ 17) : spInstr i = rfInstr i := by
  obtain ⟨hD, hA, hB, _⟩ := shape_eq h1 h2
  have r0 : regZ 0 = 0 := by decide
  have r1 : regZ 1 = 2 := by decide
  unfold spInstr rfInstr
  rw [hD, hA, hB, r0, r1]
  by_cases c : i.op = 2
  · rw [c]; simp [usesA, usesD]
  · simp [c]
theorem spBlock_eq {b : Block} (h : ∀ i ∈ b.code, 1 ≤ i.op ∧ i.op ≤ 17) : spBlock b = rfBlock b := by
  have r0 : regZ 0 = 0 := by decide
  have e : spCode b.code = rfCode b.code := by
    unfold spCode rfCode
    generalize b.code = l at h
    induction l with
    | nil => rfl
    | cons i l ih =>
      have h0 := h i (by simp)
      simp only [List.flatMap_cons, spInstr_eq h0.1 h0.2, ih fun j hj => h j (by simp [hj])]
  unfold spBlock rfBlock
  rw [e, r0]
  by_cases c : b.term.kind = 1 <;> simp [c]
theorem mostN_cons (x : Nat) (l : List Nat) : mostN (x :: l) = max x (mostN l) := by
  suffices ∀ (l : List Nat) (a : Nat), l.foldl max a = max a (mostN l) by
    have h := this l x
    simp only [mostN, List.foldl_cons, Nat.zero_max] at h ⊢; exact h
  intro l
  induction l with
  | nil => intro a; simp [mostN]
  | cons y l ih => intro a; simp only [mostN, List.foldl_cons, Nat.zero_max]; rw [ih, ih y]; omega
theorem refMoves_cons (m : Mach) (l : List Mach) : refMoves (m :: l) = max (lead (m :: l)) (refMoves l) := by
  unfold refMoves
  rw [List.length_cons, List.range_succ_eq_map, List.map_cons, List.drop_zero, mostN_cons, List.map_map]
  rfl
theorem lead_le_refMoves (l : List Mach) : lead l ≤ refMoves l := by
  cases l with
  | nil => simp [lead]
  | cons m l => rw [refMoves_cons]; omega
theorem runMost_gen (l : List Mach) : ∀ a n : Nat, (l.foldl runStep (a, n)).1 = max a (max (if lead l = 0 then 0 else n + lead l) (refMoves l)) := by
  induction l with
  | nil => intro a n; simp [lead, refMoves, mostN]
  | cons m l ih =>
    intro a n
    have hle := lead_le_refMoves l
    rw [List.foldl_cons, refMoves_cons]
    by_cases h : m.op = 18
    · have e1 : runStep (a, n) m = (max a (n + 1), n + 1) := by simp [runStep, h]
      have e2 : lead (m :: l) = lead l + 1 := by simp [lead, h]
      rw [e1, ih, e2]
      split <;> split <;> omega
    · have e1 : runStep (a, n) m = (max a 0, 0) := by simp [runStep, h]
      have e2 : lead (m :: l) = 0 := by simp [lead, h]
      have e3 : (if (0 : Nat) = 0 then 0 else n + 0) = 0 := if_pos rfl
      rw [e1, ih, e2, e3]
      split <;> omega
theorem moves_eq (l : List Mach) : (runMost l).1 = refMoves l := by
  have hle := lead_le_refMoves l
  rw [runMost, runMost_gen]
  split <;> omega
theorem spMoves_eq {b : Block} (h : ∀ i ∈ b.code, 1 ≤ i.op ∧ i.op ≤ 17) : spMoves b = rfMoves b := by
  rw [spMoves, rfMoves, spBlock_eq h, moves_eq]
theorem cert_eq (f : Func) : spCertZ f = rfCertZ f := by
  unfold spCertZ rfCertZ
  rw [check_eq]
  by_cases h : refCheckZ f = 0
  · have hc := code_ok h
    have e1 : f.blocks.map spBlock = f.blocks.map rfBlock := List.map_congr_left fun b hb => spBlock_eq (hc b hb)
    have e2 : f.blocks.map spMoves = f.blocks.map rfMoves := List.map_congr_left fun b hb => spMoves_eq (hc b hb)
    simp only [spRun, rfRun, spCert, rfCert, e1, e2]
    rfl
  · rw [if_pos h, if_pos h]
end Go.AE

set_option linter.unusedVariables false
namespace Go.AE
open Go
def awakeB : Block := ⟨[⟨5, 0, 1, 2, 0⟩], ⟨1, 0, 0, 0⟩⟩
def awakeM : MBlock := ⟨[⟨18, 0, 0, 0, 0, 0, 3⟩, ⟨18, 0, 0, 0, 0, 2, 5⟩, ⟨5, 0, 0, 1, 0, 0, 0⟩, ⟨18, 0, 0, 0, 0, 1, 0⟩], ⟨1, 0, 0, 0⟩⟩
theorem awakeM_eq : spBlock awakeB = awakeM := by rfl
theorem awakeC_eq : spCertZ ⟨0, 0, []⟩ = (certZero, 14) := by rfl
theorem awakeN_eq : spMoves awakeB = 2 := by rfl
theorem rfCertZ_cases (f : Func) : (rfCertZ f).1 = certZero ∨ (rfCertZ f).1 = rfCert f := by
  unfold rfCertZ
  split
  · exact .inl rfl
  split
  · exact .inl rfl
  split
  · exact .inl rfl
  split
  · exact .inl rfl
  exact .inr rfl
theorem cert_small {f : Func} (h : few f = true) : ∀ c, c = (rfCertZ f).1 → c.S.blocks.length < 1000000000 ∧ (∀ b ∈ c.S.blocks, b.code.length < 1000000000) ∧ c.T.blocks.length < 1000000000 ∧ (∀ b ∈ c.T.blocks, b.code.length < 1000000000) ∧
    c.W.length < 1000000000 ∧ (∀ l ∈ c.W, l.length < 1000000000) := by
  obtain ⟨f1, f2, f3, f4⟩ := few_iff.1 h
  rintro c rfl
  rcases rfCertZ_cases f with e | e
  · rw [e]; simp [certZero]
  · rw [e]
    refine ⟨by simp [rfCert]; omega, fun b hb => by have := f3 b hb; omega, by simp [rfCert]; omega, ?_, by simp [rfCert]; omega, ?_⟩
    · intro b hb
      obtain ⟨x, hx, rfl⟩ := List.mem_map.1 hb
      have h1 := rfBlock_le x
      have h2 := f3 x hx
      omega
    · intro l hl
      rw [List.eq_of_mem_replicate hl]
      simp [spInv]; omega
section
theorem law22_awake_calls {P : Program} {p : Nums} (A : All P p) : CallsTo P p.law22_awake [] [] fun o _ => o = .ret (AB true) := by
  refine A.law22_awake.run rfl fun R hR => ?_
  (simp (config := { maxSteps := 1000000 }) [ic_law22_awake])
  have h1 := spillall_Block_calls A awakeB (by decide)
  rw [awakeM_eq] at h1
  (refine AWcall_det h1 (by rfl) (by rfl) ?_)
  (simp (config := { maxSteps := 1000000 }) [awakeM, MBlock.av, Mach.row])
  have h2 := spillall_Cert_calls A ⟨0, 0, []⟩ (by decide) (by decide)
  rw [awakeC_eq] at h2
  (refine AWcall_detw h2 (by rfl) (by (repeat' (first | exact True.intro | exact WkV.refl _ rfl | exact WkV.erase _ rfl | exact WkV.nild | exact WkV.nile | refine And.intro ?_ ?_ | refine WkV_agg ?_ | refine WkV_tup ?_))) (by rfl) ?_)
  (simp (config := { maxSteps := 1000000 }) [Cert.av, certZero, witD])
  have h3 := spillall_Moves_calls A awakeB (by decide)
  rw [awakeN_eq] at h3
  (refine AWcall_det h3 (by rfl) (by rfl) ?_)
  (simp (config := { maxSteps := 1000000 }) [])
  (first | exact hR _ _ (Fin_ret _ rfl rfl rfl) | exact hR _ _ (Fin_normal _ rfl rfl rfl) | exact hR _ _ (Fin_ret _ rfl rfl (by simp [AV.erase, AV.unview]; done)) | exact hR _ _ (Fin_normal _ rfl rfl (by simp [AV.erase, AV.unview]; done)) | fail "no end")
set_option maxHeartbeats 1000000 in
theorem law22_SpillallMatchesReference_calls {P : Program} {p : Nums} (A : All P p) (f : Func) : CallsTo P p.law22_SpillallMatchesReference [f.av] [] fun o _ => o = .ret (AB true) := by
  refine A.law22_SpillallMatchesReference.run rfl fun R hR => ?_
  (simp (config := { maxSteps := 1000000 }) [ic_law22_SpillallMatchesReference, Func.av])
  (refine AWcall_det (law22_awake_calls A) (by rfl) (by rfl) ?_)
  (simp (config := { maxSteps := 1000000 }) [])
  (refine AWcall_det (ref07_Few_calls A f) (by rfl) (by rfl) ?_)
  (simp (config := { maxSteps := 1000000 }) [])
  cases hf : few f
  · (simp (config := { maxSteps := 1000000 }) [hf])
    (refine AWcall_det (law22_awake_calls A) (by rfl) (by rfl) ?_)
    (simp (config := { maxSteps := 1000000 }) [])
    (first | exact hR _ _ (Fin_ret _ rfl rfl rfl) | exact hR _ _ (Fin_normal _ rfl rfl rfl) | exact hR _ _ (Fin_ret _ rfl rfl (by simp [AV.erase, AV.unview]; done)) | exact hR _ _ (Fin_normal _ rfl rfl (by simp [AV.erase, AV.unview]; done)) | fail "no end")
  obtain ⟨f1, f2, f3, f4⟩ := few_iff.1 hf
  (simp (config := { maxSteps := 1000000 }) [hf])
  (refine AWcall_det (spillall_Cert_calls A f (by omega) (by omega)) (by rfl) (by rfl) ?_)
  rw [cert_eq]
  (simp (config := { maxSteps := 1000000 }) [Cert.av])
  (refine AWcall_det (ref22_Cert_calls A f (by omega) (by omega)) (by rfl) (by rfl) ?_)
  obtain ⟨k1, k2, k3, k4, k5, k6⟩ := cert_small hf _ rfl
  generalize hce : rfCertZ f = ce at k1 k2 k3 k4 k5 k6
  (simp (config := { maxSteps := 1000000 }) [Cert.av])
  (refine AWcall_det (ref16_Same_refl A ce.1 k1 k2 k3 k4 k5 k6) (by rfl) (by rfl) ?_)
  (simp (config := { maxSteps := 1000000 }) [])
  (refine AWcall_det (ref07_Check_calls A f (by omega) (by omega)) (by rfl) (by rfl) ?_)
  (simp (config := { maxSteps := 1000000 }) [])
  ((first | refine AW_cond_split _ (by rfl) (fun a1 => ?_) (fun a1 => ?_) | refine AWop_split _ (by rfl) (fun a1 => ?_) (fun a1 => ?_)) <;> (try simp only [decide_eq_true_eq, decide_eq_false_iff_not, Bool.not_eq_true', Bool.not_eq_false', Bool.and_eq_true, Bool.or_eq_true, beq_iff_eq, bne_iff_ne, ne_eq, beq_eq_false_iff_ne, bne_eq_false_iff_eq] at a1))
  · (simp (config := { maxSteps := 1000000 }) [a1])
    (first | exact hR _ _ (Fin_ret _ rfl rfl rfl) | exact hR _ _ (Fin_normal _ rfl rfl rfl) | exact hR _ _ (Fin_ret _ rfl rfl (by simp [AV.erase, AV.unview]; done)) | exact hR _ _ (Fin_normal _ rfl rfl (by simp [AV.erase, AV.unview]; done)) | fail "no end")
  (simp (config := { maxSteps := 1000000 }) [a1])
  have hok := code_ok (by simpa using a1)
  refine AW_loop (fun k : Nat => ⟨[(7, AI k), (1, .ptr 0 0)], [.mem [AI f.args, AI f.regs, .d (.sl (f.blocks.map Block.row))]]⟩) (fun k => k ≤ f.blocks.length) (fun k => f.blocks.length - k) 0 (by simp) (by (refine Wk.of ?_ ?_ (by simp) <;> repeat' (first | exact True.intro | exact ⟨_, rfl, wkt_same rfl⟩ | exact ⟨_, rfl, wkt_erase rfl⟩ | exact ⟨_, rfl, .inl .nild⟩ | exact ⟨_, rfl, wkt_nils⟩ | exact wkt_same rfl | exact wkt_erase rfl | exact .inl .nild | exact wkt_nils | exact WkB.same rfl | exact WkB_rows | exact WkB_nil | exact .dead _ | refine WkB_cons ?_ ?_ | refine And.intro ?_ ?_))) ?_
  intro k hk N hN
  (simp (config := { maxSteps := 1000000 }) [])
  ((first | refine AW_cond_split _ (by rfl) (fun h2 => ?_) (fun h2 => ?_) | refine AWop_split _ (by rfl) (fun h2 => ?_) (fun h2 => ?_)) <;> (try simp only [decide_eq_true_eq, decide_eq_false_iff_not, Bool.not_eq_true', Bool.not_eq_false', Bool.and_eq_true, Bool.or_eq_true, beq_iff_eq, bne_iff_ne, ne_eq, beq_eq_false_iff_ne, bne_eq_false_iff_eq] at h2))
  · have hkl : k < f.blocks.length := by simpa using h2
    have hw := wrap_succ (k := k) (by omega)
    have hb := hok f.blocks[k] (by simp)
    have hcl := f3 f.blocks[k] (by simp)
    have hbl := rfBlock_le f.blocks[k]
    (simp (config := { maxSteps := 1000000 }) [h2, Block.row])
    (refine AWcall_det (spillall_Moves_calls A f.blocks[k] (by omega)) (by rfl) (by rfl) ?_)
    rw [spMoves_eq hb]
    (simp (config := { maxSteps := 1000000 }) [h2, Block.row])
    (refine AWcall_det (ref22_Block_calls A f.blocks[k] (by omega)) (by rfl) (by rfl) ?_)
    (simp (config := { maxSteps := 1000000 }) [MBlock.av])
    (refine AWcall_det (ref08_Moves_calls A (rfBlock f.blocks[k]).code (by omega)) (by rfl) (by rfl) ?_)
    (simp (config := { maxSteps := 1000000 }) [show refMoves (rfBlock f.blocks[k]).code = rfMoves f.blocks[k] from rfl, hw])
    exact hN _ (k + 1) hkl (by (refine Wk.of ?_ ?_ (by simp) <;> repeat' (first | exact True.intro | exact ⟨_, rfl, wkt_same rfl⟩ | exact ⟨_, rfl, wkt_erase rfl⟩ | exact ⟨_, rfl, .inl .nild⟩ | exact ⟨_, rfl, wkt_nils⟩ | exact wkt_same rfl | exact wkt_erase rfl | exact .inl .nild | exact wkt_nils | exact WkB.same rfl | exact WkB_rows | exact WkB_nil | exact .dead _ | refine WkB_cons ?_ ?_ | refine And.intro ?_ ?_))) (by omega)
  · (simp (config := { maxSteps := 1000000 }) [h2])
    (first | exact hR _ _ (Fin_ret _ rfl rfl rfl) | exact hR _ _ (Fin_normal _ rfl rfl rfl) | exact hR _ _ (Fin_ret _ rfl rfl (by simp [AV.erase, AV.unview]; done)) | exact hR _ _ (Fin_normal _ rfl rfl (by simp [AV.erase, AV.unview]; done)) | fail "no end")
end
end Go.AE

/- The readings of the program's own types. -/
set_option linter.unusedVariables false
namespace Go.AE
open Go
theorem HasL.cons_inv {l : LT} {ls : List LT} {ds : List D} (h : HasL (l :: ls) ds) : ∃ d ds', ds = d :: ds' ∧ HasT l d ∧ HasL ls ds' := by
  obtain ⟨h1, h2⟩ := h
  cases ds with
  | nil => simp at h1
  | cons d ds => exact ⟨d, ds, rfl, h2 0 l d rfl rfl, by simpa using h1, fun j l' x a b => h2 (j + 1) l' x (by simpa using a) (by simpa using b)⟩
theorem HasL.nil_inv {ds : List D} (h : HasL [] ds) : ds = [] := by
  have := h.1; simpa using this
theorem HasT.int_inv {k : IntKind} {d : D} (h : HasT (.int k) d) : ∃ n, d = .int k n ∧ (Lit.int k n).wf = true := by
  cases h with
  | int _ n h => exact ⟨n, rfl, h⟩
theorem HasT.sl_inv {ls : List LT} {d : D} (h : HasT (.sl ls) d) : ∃ rows, d = .sl rows ∧ rows.length ≤ maxLen ∧ ∀ r ∈ rows, HasL ls r := by
  cases h with
  | sl _ rows hl h0 h => exact ⟨rows, rfl, hl, fun r hr => ⟨h0 r hr, h r hr⟩⟩
theorem rows_of {α : Type} {g : α → List D} {Q : List D → Prop} (h : ∀ r, Q r → ∃ x, r = g x) : ∀ {rows : List (List D)}, (∀ r ∈ rows, Q r) → ∃ l : List α, rows = l.map g := by
  intro rows
  induction rows with
  | nil => intro _; exact ⟨[], rfl⟩
  | cons r rows ih =>
    intro hq
    obtain ⟨x, rfl⟩ := h r (hq r (by simp))
    obtain ⟨l, rfl⟩ := ih fun r hr => hq r (by simp [hr])
    exact ⟨x :: l, rfl⟩
def ltI : LT := .int .i64
def ltInstr : List LT := [ltI, ltI, ltI, ltI, ltI]
def ltBlock : List LT := [.sl ltInstr, ltI, ltI, ltI, ltI]
def ltFunc : List LT := [ltI, ltI, .sl ltBlock]
theorem instr_of {r : List D} (h : HasL ltInstr r) : ∃ i : Instr, r = i.row := by
  obtain ⟨_, _, rfl, h0, h⟩ := h.cons_inv
  obtain ⟨_, _, rfl, h1, h⟩ := h.cons_inv
  obtain ⟨_, _, rfl, h2, h⟩ := h.cons_inv
  obtain ⟨_, _, rfl, h3, h⟩ := h.cons_inv
  obtain ⟨_, _, rfl, h4, h⟩ := h.cons_inv
  obtain rfl := h.nil_inv
  obtain ⟨a, rfl, _⟩ := h0.int_inv
  obtain ⟨b, rfl, _⟩ := h1.int_inv
  obtain ⟨c, rfl, _⟩ := h2.int_inv
  obtain ⟨d, rfl, _⟩ := h3.int_inv
  obtain ⟨e, rfl, _⟩ := h4.int_inv
  exact ⟨⟨a, b, c, d, e⟩, rfl⟩
theorem block_of {r : List D} (h : HasL ltBlock r) : ∃ b : Block, r = b.row := by
  obtain ⟨_, _, rfl, h0, h⟩ := h.cons_inv
  obtain ⟨_, _, rfl, h1, h⟩ := h.cons_inv
  obtain ⟨_, _, rfl, h2, h⟩ := h.cons_inv
  obtain ⟨_, _, rfl, h3, h⟩ := h.cons_inv
  obtain ⟨_, _, rfl, h4, h⟩ := h.cons_inv
  obtain rfl := h.nil_inv
  obtain ⟨rows, rfl, _, hr⟩ := h0.sl_inv
  obtain ⟨code, rfl⟩ := rows_of (fun r hr => instr_of hr) hr
  obtain ⟨b, rfl, _⟩ := h1.int_inv
  obtain ⟨c, rfl, _⟩ := h2.int_inv
  obtain ⟨d, rfl, _⟩ := h3.int_inv
  obtain ⟨e, rfl, _⟩ := h4.int_inv
  exact ⟨⟨code, ⟨b, c, d, e⟩⟩, rfl⟩
theorem func_of {ds : List D} (h : HasL ltFunc ds) : ∃ f : Func, .agg (ds.map AV.d) = f.av := by
  obtain ⟨_, _, rfl, h0, h⟩ := h.cons_inv
  obtain ⟨_, _, rfl, h1, h⟩ := h.cons_inv
  obtain ⟨_, _, rfl, h2, h⟩ := h.cons_inv
  obtain rfl := h.nil_inv
  obtain ⟨a, rfl, _⟩ := h0.int_inv
  obtain ⟨b, rfl, _⟩ := h1.int_inv
  obtain ⟨rows, rfl, _, hr⟩ := h2.sl_inv
  obtain ⟨bs, rfl⟩ := rows_of (fun r hr => block_of hr) hr
  exact ⟨⟨a, b, bs⟩, rfl⟩
end Go.AE

namespace Go.Proofs.Ytpnildiammmjcaa
open Go Go.AE Go.Proofs
set_option maxRecDepth 100000
def nums : Nums := { law22_SpillallMatchesReference := 3, law22_SpillallKeeps := 4, law22_SpillallSlots := 5, law22_awake := 6, ref07_Few := 7, spillall_Cert := 8, ref22_Cert := 9, ref16_Same := 10, ref07_Check := 11, spillall_Moves := 12, ref08_Moves := 13, ref22_Block := 14, ref07_Copy := 15, ref07_Same := 16, ref09_Right := 17, interp_Exec := 18, execute_Exec := 19, ref09_Values := 20, spillall_Block := 21, ref07_Code := 22, source_Check := 23, slices_Clone := 24, spillall_invariant := 25, ref08_Code := 26, ref08_Same := 27, ref15_Same := 28, ref07_Instr := 29, ref07_Term := 30, ref22_move := 31, ref05_UsesA := 32, ref05_UsesB := 33, ref05_UsesD := 34, interp_begin := 35, interp_state_step := 36, execute_begin := 37, execute_state_step := 38, spillall_builder_instr := 39, spillall_builder_add := 40, spillall_load := 41, source_Code := 42, source_block := 43, location_Slot := 44, ref11_Same := 45, ref07_in := 46, interp_state_instr := 47, interp_state_term := 48, execute_state_instr := 49, execute_state_term := 50, opcode_Of := 51, spillall_store := 52, location_Reg := 53, source_Instr := 54, source_Term := 55, alu_Eval := 56, execute_state_compute := 57, execute_state_move := 58, execute_state_emit := 59, opcode_known := 60, opcode_Source := 61, source_within := 62, source_blank := 63, alu_operation := 64, execute_state_at := 65, alu_operation_1 := 66, alu_operation_2 := 67, alu_operation_3 := 68, alu_operation_4 := 69, alu_operation_5 := 70, alu_operation_6 := 71, alu_operation_7 := 72, alu_operation_8 := 73, alu_operation_9 := 74, alu_operation_10 := 75, alu_operation_11 := 76, alu_truth := 77, alu_operation_12 := 78, location_IsSlot := 79, location_Index := 80 }
theorem follows : Try.prog.follows .mixedOrders = true := by kernel_rfl
theorem all : All Try.prog nums where
  law22_SpillallMatchesReference := .of [] follows (by kernel_rfl) (by kernel_rfl) (by kernel_rfl) (by kernel_rfl)
  law22_awake := .of [] follows (by kernel_rfl) (by kernel_rfl) (by kernel_rfl) (by kernel_rfl)
  ref07_Few := .of [] follows (by kernel_rfl) (by kernel_rfl) (by kernel_rfl) (by kernel_rfl)
  spillall_Cert := .of [] follows (by kernel_rfl) (by kernel_rfl) (by kernel_rfl) (by kernel_rfl)
  ref22_Cert := .of [] follows (by kernel_rfl) (by kernel_rfl) (by kernel_rfl) (by kernel_rfl)
  ref16_Same := .of [] follows (by kernel_rfl) (by kernel_rfl) (by kernel_rfl) (by kernel_rfl)
  ref07_Check := .of [] follows (by kernel_rfl) (by kernel_rfl) (by kernel_rfl) (by kernel_rfl)
  spillall_Moves := .of [] follows (by kernel_rfl) (by kernel_rfl) (by kernel_rfl) (by kernel_rfl)
  ref08_Moves := .of [] follows (by kernel_rfl) (by kernel_rfl) (by kernel_rfl) (by kernel_rfl)
  ref22_Block := .of [] follows (by kernel_rfl) (by kernel_rfl) (by kernel_rfl) (by kernel_rfl)
  ref07_Copy := .of [] follows (by kernel_rfl) (by kernel_rfl) (by kernel_rfl) (by kernel_rfl)
  ref07_Same := .of [] follows (by kernel_rfl) (by kernel_rfl) (by kernel_rfl) (by kernel_rfl)
  spillall_Block := .of [] follows (by kernel_rfl) (by kernel_rfl) (by kernel_rfl) (by kernel_rfl)
  ref07_Code := .of [] follows (by kernel_rfl) (by kernel_rfl) (by kernel_rfl) (by kernel_rfl)
  source_Check := .of [] follows (by kernel_rfl) (by kernel_rfl) (by kernel_rfl) (by kernel_rfl)
  slices_Clone := .of [] follows (by kernel_rfl) (by kernel_rfl) (by kernel_rfl) (by kernel_rfl)
  spillall_invariant := .of [] follows (by kernel_rfl) (by kernel_rfl) (by kernel_rfl) (by kernel_rfl)
  ref08_Code := .of [] follows (by kernel_rfl) (by kernel_rfl) (by kernel_rfl) (by kernel_rfl)
  ref08_Same := .of [] follows (by kernel_rfl) (by kernel_rfl) (by kernel_rfl) (by kernel_rfl)
  ref15_Same := .of [] follows (by kernel_rfl) (by kernel_rfl) (by kernel_rfl) (by kernel_rfl)
  ref07_Instr := .of [[], [0], [], [0], [], [0]] follows (by kernel_rfl) (by kernel_rfl) (by kernel_rfl) (by kernel_rfl)
  ref07_Term := .of [] follows (by kernel_rfl) (by kernel_rfl) (by kernel_rfl) (by kernel_rfl)
  ref22_move := .of [] follows (by kernel_rfl) (by kernel_rfl) (by kernel_rfl) (by kernel_rfl)
  ref05_UsesA := .of [] follows (by kernel_rfl) (by kernel_rfl) (by kernel_rfl) (by kernel_rfl)
  ref05_UsesB := .of [] follows (by kernel_rfl) (by kernel_rfl) (by kernel_rfl) (by kernel_rfl)
  ref05_UsesD := .of [] follows (by kernel_rfl) (by kernel_rfl) (by kernel_rfl) (by kernel_rfl)
  spillall_builder_instr := .of [] follows (by kernel_rfl) (by kernel_rfl) (by kernel_rfl) (by kernel_rfl)
  spillall_builder_add := .of [] follows (by kernel_rfl) (by kernel_rfl) (by kernel_rfl) (by kernel_rfl)
  spillall_load := .of [] follows (by kernel_rfl) (by kernel_rfl) (by kernel_rfl) (by kernel_rfl)
  source_Code := .of [] follows (by kernel_rfl) (by kernel_rfl) (by kernel_rfl) (by kernel_rfl)
  source_block := .of [] follows (by kernel_rfl) (by kernel_rfl) (by kernel_rfl) (by kernel_rfl)
  location_Slot := .of [] follows (by kernel_rfl) (by kernel_rfl) (by kernel_rfl) (by kernel_rfl)
  ref11_Same := .of [] follows (by kernel_rfl) (by kernel_rfl) (by kernel_rfl) (by kernel_rfl)
  ref07_in := .of [] follows (by kernel_rfl) (by kernel_rfl) (by kernel_rfl) (by kernel_rfl)
  opcode_Of := .of [] follows (by kernel_rfl) (by kernel_rfl) (by kernel_rfl) (by kernel_rfl)
  spillall_store := .of [] follows (by kernel_rfl) (by kernel_rfl) (by kernel_rfl) (by kernel_rfl)
  location_Reg := .of [] follows (by kernel_rfl) (by kernel_rfl) (by kernel_rfl) (by kernel_rfl)
  source_Instr := .of [] follows (by kernel_rfl) (by kernel_rfl) (by kernel_rfl) (by kernel_rfl)
  source_Term := .of [] follows (by kernel_rfl) (by kernel_rfl) (by kernel_rfl) (by kernel_rfl)
  opcode_known := .of [] follows (by kernel_rfl) (by kernel_rfl) (by kernel_rfl) (by kernel_rfl)
  opcode_Source := .of [] follows (by kernel_rfl) (by kernel_rfl) (by kernel_rfl) (by kernel_rfl)
  source_within := .of [] follows (by kernel_rfl) (by kernel_rfl) (by kernel_rfl) (by kernel_rfl)
  source_blank := .of [] follows (by kernel_rfl) (by kernel_rfl) (by kernel_rfl) (by kernel_rfl)
end Go.Proofs.Ytpnildiammmjcaa

namespace Go.Proofs.Ytpnildiammmjcaa
open Go Go.AE Go.ChangeShapes Go.WideShapes Go.ChangeAt Go.RowKit
set_option linter.unusedVariables false
theorem own : ownKnob Try.prog.godebug = none := by kernel_rfl
theorem laidOut : laidOutB Try.prog = true := by kernel_rfl
theorem flatFunc : flatT Try.prog 8 24 = some ltFunc := by kernel_rfl
theorem struct_val {P : Program} {w : World} {base : Nat} {t : TypeId} {fs : Array Field} {v : Value} (hu : P.underlying t = some (.struct fs)) (h : Value.okWide P w .any base t v) : ∃ cs, v = .agg cs := by
  unfold Value.okWide at h
  rw [hu] at h
  obtain ⟨cs, h, _⟩ := h
  exact ⟨cs, h⟩
set_option maxRecDepth 100000 in
theorem lifted (os : Os) (started : os.Started) (H : Type) (enc : TypeId × Value → H) :
    ReturnsInHanded {} Try.checked os 3 .any (Rows.spillallMatchesReferenceSpec.pre6 enc Try.prog Try.f3 Rows.spillallMatchesReferenceRow.domain false) (Rows.spillallMatchesReferenceSpec.post enc Try.prog Try.f3 false true false false) := by
  refine returnsInHanded_of_change (C := Try.checked) own started (by kernel_rfl) Try.func3
    (ChangeSpec.witness6 (enc := enc) (C := Try.checked) false ⟨#[], #[.agg #[.int .i64 0, .int .i64 0, .slice none 0 0]], []⟩ 8 (by kernel_rfl) (by kernel_rfl) (by kernel_rfl) (by kernel_rfl)) ?_
  intro W base args ds gs before hval0 hW hcnd _
  have hval : ∀ (j : Nat) t v, Try.f3.params[j]? = some t → args[j]? = some v → Value.okWide Try.prog W .any base t v := hval0
  have hW' := hW
  obtain ⟨p, q, hA0, hV, rfl, hfz, hnd⟩ := hW
  have hA : DataW.TrodAll enc Try.prog W 0 (fun _ => true) true Try.f3.params.toList args.toList ds p := hA0
  rw [Try.params3] at hA hval
  obtain ⟨v0, vs0, d0, ds0, p0, q0, hargs, rfl, rfl, h0, r0⟩ := trodAll_cons hA
  obtain ⟨rfl, rfl, rfl⟩ := trodAll_nil r0
  obtain rfl : args = #[v0] := by cases args; simp_all
  obtain ⟨rfl, rfl⟩ := trodVars_none hV
  have hv0 := hval 0 24 v0 rfl rfl
  have k0 := h0
  obtain ⟨n, hn⟩ := h0
  obtain ⟨cs, rfl⟩ := struct_val Try.underlying24 hv0
  have hrd := reads (w := W) n 8 24 _ _ _ hn flatFunc
  obtain ⟨es, hes, hrel⟩ := rel_agg (cs := cs) hrd
  obtain ⟨f, hf⟩ := func_of hes
  rw [hf] at hrel
  have lt0 : ∀ x ∈ p0, x.block < W.heap.size := fun x hx => DataW.trod_lt n _ _ _ hn x hx
  refine ((law22_SpillallMatchesReference_calls all f).law (w := W) (vs := #[.agg cs]) rfl (by simp [Func.av, AV.plain]) ?_).mono fun e W' ⟨he, bel⟩ => ?_
  · intro j x v hx hv
    cases j with
    | zero => simp at hx hv; subst hx; subst hv; exact hrel
    | succ j => simp at hx
  subst he
  exact ⟨_, rfl, _, _, _, [], _, [], hW', trodAll_mk1 (shut_bool Try.underlying4 _), trodAll_mk1 (Below.trod laidOut (by kernel_rfl) (of_decide_eq_true (by kernel_rfl)) k0 bel lt0), rfl, bel.frame _, fun h => by cases h⟩
theorem spillallMatchesReference_holds : Rows.SpillallMatchesReferenceSaid :=
  OpenClaim.holds_of_wide 3 Try.f3 rfl rfl rfl rfl rfl rfl rfl ⟨rfl, rfl, rfl, rfl, rfl⟩ rfl rfl rfl rfl rfl (by kernel_rfl) Try.func3 (by kernel_rfl)
    (of_decide_eq_true (by kernel_rfl)) (by unfold Func.isWrapper; first | (rw [if_pos (by decide +kernel)]; kernel_rfl) | (rw [if_neg (by decide +kernel)]; exact ⟨rfl, rfl⟩))
    (fun os started H enc _ => lifted os started H enc)
#print axioms spillallMatchesReference_holds
end Go.Proofs.Ytpnildiammmjcaa
