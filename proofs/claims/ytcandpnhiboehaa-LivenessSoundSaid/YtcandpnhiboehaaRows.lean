/-
  No cell of these rows narrows 'for every input' (looked for: loops, veiled, ifaces, maps, wideKeys, modest, calm, conditions, laid).
  DERIVED. THE GIVEN ROWS OF THIS SEAT. 11 by the template 'for every input the law returns true; each argument reads behind the call as it read before'; 0 by the template 'total and deterministic' (their statements: YtcandpnhiboehaaTotals.lean).
  GIVEN WITH THE SEED: the statements are not yours to turn. If you find one false, say at which input.
  Laid BY PROGRAM, IN A SANDBOX (cutbox-rows.mjs): the forced cells as the released guide's own fill.sh prints them over the translation c4a15924d9d0c8b4… (all of the seat's roots in one cut). By AI agents, Wed Nov 11 2026. No macro, syntax, notation, axiom, sorry.
-/
import Derived.Test.YtcandpnhiboehaaChecked
import GoSem.Claim
import GoSem.ClaimJoined
import GoSem.ClaimMapViews
import Derived.JoinedTies
import Derived.KernelRfl
namespace Go.Proofs.Ytcandpnhiboehaa
/- THE CELL 'sum', in the pinned program and in every row, IS THE sha256 OF THE DUMP (.gsa) THAT YtcandpnhiboehaaProg.lean LOADS. Nothing in Lean hashes anything: it is a label: what it is worth is what the hold of that sum in a sandbox is worth. -/
noncomputable def Try.pinned : Pinned := { name := "ytcandpnhiboehaa", sum := "c4a15924d9d0c8b4948d1a28af4b7506193330dde2a2d9f6fa0c79cc47470181", checked := Try.checked }
namespace Rows
def none {H : Type} : Left H := { results := [], args := [] }

/-- 'regcertlaw11.PairsetMatchesReference': WHATEVER THE INPUT: true; the input reads as it did. -/
def pairsetMatchesReferenceSpec : ChangeSpec := { name := "pairsetMatchesReference", fn := fun _ => fun
  | [d1, d2, d3] => { results := [.lit (.bool true)], args := [d1, d2, d3] }
  | _ => none }
def pairsetMatchesReferenceRow : OpenClaim := { program := "ytcandpnhiboehaa", sum := "c4a15924d9d0c8b4948d1a28af4b7506193330dde2a2d9f6fa0c79cc47470181", func := "regcert/regcertlaw11.PairsetMatchesReference", spec := "pairsetMatchesReference", unfollowed := true, recurses := true, apart := false }
def PairsetMatchesReferenceSaid : Prop := pairsetMatchesReferenceRow.holds Try.pinned (OpenSpec.ofChange pairsetMatchesReferenceSpec)

/-- ITS FALSE NEIGHBOUR: 'it returns false'. Refute it at one input. -/
def pairsetMatchesReferenceWrong : ChangeSpec := { name := "pairsetMatchesReference", fn := fun _ => fun
  | [d1, d2, d3] => { results := [.lit (.bool false)], args := [d1, d2, d3] }
  | _ => none }
def PairsetMatchesReferenceWrongFalsely : Prop := pairsetMatchesReferenceRow.holds Try.pinned (OpenSpec.ofChange pairsetMatchesReferenceWrong)

/-- 'regcertlaw11.PairsetMatchesSets': WHATEVER THE INPUT: true; the input reads as it did. -/
def pairsetMatchesSetsSpec : ChangeSpec := { name := "pairsetMatchesSets", fn := fun _ => fun
  | [d1, d2] => { results := [.lit (.bool true)], args := [d1, d2] }
  | _ => none }
def pairsetMatchesSetsRow : OpenClaim := { program := "ytcandpnhiboehaa", sum := "c4a15924d9d0c8b4948d1a28af4b7506193330dde2a2d9f6fa0c79cc47470181", func := "regcert/regcertlaw11.PairsetMatchesSets", spec := "pairsetMatchesSets", unfollowed := true, recurses := true, apart := false }
def PairsetMatchesSetsSaid : Prop := pairsetMatchesSetsRow.holds Try.pinned (OpenSpec.ofChange pairsetMatchesSetsSpec)

/-- ITS FALSE NEIGHBOUR: 'it returns false'. Refute it at one input. -/
def pairsetMatchesSetsWrong : ChangeSpec := { name := "pairsetMatchesSets", fn := fun _ => fun
  | [d1, d2] => { results := [.lit (.bool false)], args := [d1, d2] }
  | _ => none }
def PairsetMatchesSetsWrongFalsely : Prop := pairsetMatchesSetsRow.holds Try.pinned (OpenSpec.ofChange pairsetMatchesSetsWrong)

/-- 'regcertlaw11.PairsetOrder': WHATEVER THE INPUT: true; the input reads as it did. -/
def pairsetOrderSpec : ChangeSpec := { name := "pairsetOrder", fn := fun _ => fun
  | [d1, d2, d3] => { results := [.lit (.bool true)], args := [d1, d2, d3] }
  | _ => none }
def pairsetOrderRow : OpenClaim := { program := "ytcandpnhiboehaa", sum := "c4a15924d9d0c8b4948d1a28af4b7506193330dde2a2d9f6fa0c79cc47470181", func := "regcert/regcertlaw11.PairsetOrder", spec := "pairsetOrder", unfollowed := true, recurses := true, apart := false }
def PairsetOrderSaid : Prop := pairsetOrderRow.holds Try.pinned (OpenSpec.ofChange pairsetOrderSpec)

/-- ITS FALSE NEIGHBOUR: 'it returns false'. Refute it at one input. -/
def pairsetOrderWrong : ChangeSpec := { name := "pairsetOrder", fn := fun _ => fun
  | [d1, d2, d3] => { results := [.lit (.bool false)], args := [d1, d2, d3] }
  | _ => none }
def PairsetOrderWrongFalsely : Prop := pairsetOrderRow.holds Try.pinned (OpenSpec.ofChange pairsetOrderWrong)

/-- 'regcertlaw11.PairsetSubsets': WHATEVER THE INPUT: true; the input reads as it did. -/
def pairsetSubsetsSpec : ChangeSpec := { name := "pairsetSubsets", fn := fun _ => fun
  | [d1, d2, d3] => { results := [.lit (.bool true)], args := [d1, d2, d3] }
  | _ => none }
def pairsetSubsetsRow : OpenClaim := { program := "ytcandpnhiboehaa", sum := "c4a15924d9d0c8b4948d1a28af4b7506193330dde2a2d9f6fa0c79cc47470181", func := "regcert/regcertlaw11.PairsetSubsets", spec := "pairsetSubsets", unfollowed := true, recurses := true, apart := false }
def PairsetSubsetsSaid : Prop := pairsetSubsetsRow.holds Try.pinned (OpenSpec.ofChange pairsetSubsetsSpec)

/-- ITS FALSE NEIGHBOUR: 'it returns false'. Refute it at one input. -/
def pairsetSubsetsWrong : ChangeSpec := { name := "pairsetSubsets", fn := fun _ => fun
  | [d1, d2, d3] => { results := [.lit (.bool false)], args := [d1, d2, d3] }
  | _ => none }
def PairsetSubsetsWrongFalsely : Prop := pairsetSubsetsRow.holds Try.pinned (OpenSpec.ofChange pairsetSubsetsWrong)

/-- 'regcertlaw23.LivenessMatchesReference': WHATEVER THE INPUT: true; the input reads as it did. -/
def livenessMatchesReferenceSpec : ChangeSpec := { name := "livenessMatchesReference", fn := fun _ => fun
  | [d] => { results := [.lit (.bool true)], args := [d] }
  | _ => none }
def livenessMatchesReferenceRow : OpenClaim := { program := "ytcandpnhiboehaa", sum := "c4a15924d9d0c8b4948d1a28af4b7506193330dde2a2d9f6fa0c79cc47470181", func := "regcert/regcertlaw23.LivenessMatchesReference", spec := "livenessMatchesReference", unfollowed := true, recurses := true, apart := false }
def LivenessMatchesReferenceSaid : Prop := livenessMatchesReferenceRow.holds Try.pinned (OpenSpec.ofChange livenessMatchesReferenceSpec)

/-- ITS FALSE NEIGHBOUR: 'it returns false'. Refute it at one input. -/
def livenessMatchesReferenceWrong : ChangeSpec := { name := "livenessMatchesReference", fn := fun _ => fun
  | [d] => { results := [.lit (.bool false)], args := [d] }
  | _ => none }
def LivenessMatchesReferenceWrongFalsely : Prop := livenessMatchesReferenceRow.holds Try.pinned (OpenSpec.ofChange livenessMatchesReferenceWrong)

/-- 'regcertlaw23.LivenessEquations': WHATEVER THE INPUT: true; the input reads as it did. -/
def livenessEquationsSpec : ChangeSpec := { name := "livenessEquations", fn := fun _ => fun
  | [d] => { results := [.lit (.bool true)], args := [d] }
  | _ => none }
def livenessEquationsRow : OpenClaim := { program := "ytcandpnhiboehaa", sum := "c4a15924d9d0c8b4948d1a28af4b7506193330dde2a2d9f6fa0c79cc47470181", func := "regcert/regcertlaw23.LivenessEquations", spec := "livenessEquations", unfollowed := true, recurses := true, apart := false }
def LivenessEquationsSaid : Prop := livenessEquationsRow.holds Try.pinned (OpenSpec.ofChange livenessEquationsSpec)

/-- ITS FALSE NEIGHBOUR: 'it returns false'. Refute it at one input. -/
def livenessEquationsWrong : ChangeSpec := { name := "livenessEquations", fn := fun _ => fun
  | [d] => { results := [.lit (.bool false)], args := [d] }
  | _ => none }
def LivenessEquationsWrongFalsely : Prop := livenessEquationsRow.holds Try.pinned (OpenSpec.ofChange livenessEquationsWrong)

/-- 'regcertlaw23.LivenessSound': WHATEVER THE INPUT: true; the input reads as it did. -/
def livenessSoundSpec : ChangeSpec := { name := "livenessSound", fn := fun _ => fun
  | [d1, d2, d3, d4, d5] => { results := [.lit (.bool true)], args := [d1, d2, d3, d4, d5] }
  | _ => none }
def livenessSoundRow : OpenClaim := { program := "ytcandpnhiboehaa", sum := "c4a15924d9d0c8b4948d1a28af4b7506193330dde2a2d9f6fa0c79cc47470181", func := "regcert/regcertlaw23.LivenessSound", spec := "livenessSound", unfollowed := true, recurses := true, apart := false }
def LivenessSoundSaid : Prop := livenessSoundRow.holds Try.pinned (OpenSpec.ofChange livenessSoundSpec)

/-- ITS FALSE NEIGHBOUR: 'it returns false'. Refute it at one input. -/
def livenessSoundWrong : ChangeSpec := { name := "livenessSound", fn := fun _ => fun
  | [d1, d2, d3, d4, d5] => { results := [.lit (.bool false)], args := [d1, d2, d3, d4, d5] }
  | _ => none }
def LivenessSoundWrongFalsely : Prop := livenessSoundRow.holds Try.pinned (OpenSpec.ofChange livenessSoundWrong)

/-- 'regcertlaw23.LivenessNecessary': WHATEVER THE INPUT: true; the input reads as it did. -/
def livenessNecessarySpec : ChangeSpec := { name := "livenessNecessary", fn := fun _ => fun
  | [d1, d2] => { results := [.lit (.bool true)], args := [d1, d2] }
  | _ => none }
def livenessNecessaryRow : OpenClaim := { program := "ytcandpnhiboehaa", sum := "c4a15924d9d0c8b4948d1a28af4b7506193330dde2a2d9f6fa0c79cc47470181", func := "regcert/regcertlaw23.LivenessNecessary", spec := "livenessNecessary", unfollowed := true, recurses := true, apart := false }
def LivenessNecessarySaid : Prop := livenessNecessaryRow.holds Try.pinned (OpenSpec.ofChange livenessNecessarySpec)

/-- ITS FALSE NEIGHBOUR: 'it returns false'. Refute it at one input. -/
def livenessNecessaryWrong : ChangeSpec := { name := "livenessNecessary", fn := fun _ => fun
  | [d1, d2] => { results := [.lit (.bool false)], args := [d1, d2] }
  | _ => none }
def LivenessNecessaryWrongFalsely : Prop := livenessNecessaryRow.holds Try.pinned (OpenSpec.ofChange livenessNecessaryWrong)

/-- 'regcertlaw23.LivenessAppended': WHATEVER THE INPUT: true; the input reads as it did. -/
def livenessAppendedSpec : ChangeSpec := { name := "livenessAppended", fn := fun _ => fun
  | [d1, d2] => { results := [.lit (.bool true)], args := [d1, d2] }
  | _ => none }
def livenessAppendedRow : OpenClaim := { program := "ytcandpnhiboehaa", sum := "c4a15924d9d0c8b4948d1a28af4b7506193330dde2a2d9f6fa0c79cc47470181", func := "regcert/regcertlaw23.LivenessAppended", spec := "livenessAppended", unfollowed := true, recurses := true, apart := false }
def LivenessAppendedSaid : Prop := livenessAppendedRow.holds Try.pinned (OpenSpec.ofChange livenessAppendedSpec)

/-- ITS FALSE NEIGHBOUR: 'it returns false'. Refute it at one input. -/
def livenessAppendedWrong : ChangeSpec := { name := "livenessAppended", fn := fun _ => fun
  | [d1, d2] => { results := [.lit (.bool false)], args := [d1, d2] }
  | _ => none }
def LivenessAppendedWrongFalsely : Prop := livenessAppendedRow.holds Try.pinned (OpenSpec.ofChange livenessAppendedWrong)

/-- 'regcertlaw11.PairsetDrops': WHATEVER THE INPUT: true; the input reads as it did. -/
def pairsetDropsSpec : ChangeSpec := { name := "pairsetDrops", fn := fun _ => fun
  | [d1, d2, d3] => { results := [.lit (.bool true)], args := [d1, d2, d3] }
  | _ => none }
def pairsetDropsRow : OpenClaim := { program := "ytcandpnhiboehaa", sum := "c4a15924d9d0c8b4948d1a28af4b7506193330dde2a2d9f6fa0c79cc47470181", func := "regcert/regcertlaw11.PairsetDrops", spec := "pairsetDrops", unfollowed := true, recurses := true, apart := false }
def PairsetDropsSaid : Prop := pairsetDropsRow.holds Try.pinned (OpenSpec.ofChange pairsetDropsSpec)

/-- ITS FALSE NEIGHBOUR: 'it returns false'. Refute it at one input. -/
def pairsetDropsWrong : ChangeSpec := { name := "pairsetDrops", fn := fun _ => fun
  | [d1, d2, d3] => { results := [.lit (.bool false)], args := [d1, d2, d3] }
  | _ => none }
def PairsetDropsWrongFalsely : Prop := pairsetDropsRow.holds Try.pinned (OpenSpec.ofChange pairsetDropsWrong)

/-- 'regcertlaw11.PairsetKeeps': WHATEVER THE INPUT: true; the input reads as it did. -/
def pairsetKeepsSpec : ChangeSpec := { name := "pairsetKeeps", fn := fun _ => fun
  | [d1, d2, d3] => { results := [.lit (.bool true)], args := [d1, d2, d3] }
  | _ => none }
def pairsetKeepsRow : OpenClaim := { program := "ytcandpnhiboehaa", sum := "c4a15924d9d0c8b4948d1a28af4b7506193330dde2a2d9f6fa0c79cc47470181", func := "regcert/regcertlaw11.PairsetKeeps", spec := "pairsetKeeps", unfollowed := true, recurses := true, apart := false }
def PairsetKeepsSaid : Prop := pairsetKeepsRow.holds Try.pinned (OpenSpec.ofChange pairsetKeepsSpec)

/-- ITS FALSE NEIGHBOUR: 'it returns false'. Refute it at one input. -/
def pairsetKeepsWrong : ChangeSpec := { name := "pairsetKeeps", fn := fun _ => fun
  | [d1, d2, d3] => { results := [.lit (.bool false)], args := [d1, d2, d3] }
  | _ => none }
def PairsetKeepsWrongFalsely : Prop := pairsetKeepsRow.holds Try.pinned (OpenSpec.ofChange pairsetKeepsWrong)

/- THE SECOND FORM. 'bulk': how many values and letters a reading holds, each counted each time it is reached (what is shared counts as often as it is met; a slice's spare places count too). A statement '..UptoSaid' is the law's where the arguments, and the package variables that the reading takes, are together of bulk at most 1048576: NARROWER than '..Said'. Prove '..Said' where nothing that the law and all that it calls make is longer than what came in: it says more and counts as full. Else prove '..UptoSaid'. A law counts once. -/
mutual
def uptoBulk {H : Type} : DataW H → Nat
  | .lit (.string bytes) => bytes.length + 1
  | .lit _ => 1
  | .nil => 1
  | .ptr d => uptoBulk d + 1
  | .slice elems spare => uptoBulkAll elems + uptoBulkAll spare + 1
  | .agg parts => uptoBulkAll parts + 1
  | .iface _ d => uptoBulk d + 1
  | .map entries => uptoBulkEntries entries + 1
  | .held _ => 1
def uptoBulkAll {H : Type} : List (DataW H) → Nat
  | [] => 0
  | d :: r => uptoBulk d + uptoBulkAll r
def uptoBulkEntries {H : Type} : List (Lit × DataW H) → Nat
  | [] => 0
  | x :: r => uptoBulkEntry x + uptoBulkEntries r
def uptoBulkEntry {H : Type} : Lit × DataW H → Nat
  | (.string bytes, d) => bytes.length + uptoBulk d + 1
  | (_, d) => uptoBulk d + 1
 end
def uptoSmall : (H : Type) → List (DataW H) → Bool := fun _ ds => decide (uptoBulkAll ds ≤ 1048576)
def OpenSpec.upto (s : _root_.Go.ChangeSpec) : _root_.Go.OpenSpec := { _root_.Go.OpenSpec.ofChange s with cond := some uptoSmall }

/-- 'regcertlaw11.PairsetMatchesReference', WHERE WHAT IT READS IS OF BULK AT MOST 1048576: true; the input reads as it did. -/
def pairsetMatchesReferenceUptoRow : OpenClaim := { program := "ytcandpnhiboehaa", sum := "c4a15924d9d0c8b4948d1a28af4b7506193330dde2a2d9f6fa0c79cc47470181", func := "regcert/regcertlaw11.PairsetMatchesReference", spec := "pairsetMatchesReference", unfollowed := true, recurses := true, apart := false, narrowed := true }
def PairsetMatchesReferenceUptoSaid : Prop := pairsetMatchesReferenceUptoRow.holds Try.pinned (OpenSpec.upto pairsetMatchesReferenceSpec)

/-- 'regcertlaw11.PairsetMatchesSets', WHERE WHAT IT READS IS OF BULK AT MOST 1048576: true; the input reads as it did. -/
def pairsetMatchesSetsUptoRow : OpenClaim := { program := "ytcandpnhiboehaa", sum := "c4a15924d9d0c8b4948d1a28af4b7506193330dde2a2d9f6fa0c79cc47470181", func := "regcert/regcertlaw11.PairsetMatchesSets", spec := "pairsetMatchesSets", unfollowed := true, recurses := true, apart := false, narrowed := true }
def PairsetMatchesSetsUptoSaid : Prop := pairsetMatchesSetsUptoRow.holds Try.pinned (OpenSpec.upto pairsetMatchesSetsSpec)

/-- 'regcertlaw11.PairsetOrder', WHERE WHAT IT READS IS OF BULK AT MOST 1048576: true; the input reads as it did. -/
def pairsetOrderUptoRow : OpenClaim := { program := "ytcandpnhiboehaa", sum := "c4a15924d9d0c8b4948d1a28af4b7506193330dde2a2d9f6fa0c79cc47470181", func := "regcert/regcertlaw11.PairsetOrder", spec := "pairsetOrder", unfollowed := true, recurses := true, apart := false, narrowed := true }
def PairsetOrderUptoSaid : Prop := pairsetOrderUptoRow.holds Try.pinned (OpenSpec.upto pairsetOrderSpec)

/-- 'regcertlaw11.PairsetSubsets', WHERE WHAT IT READS IS OF BULK AT MOST 1048576: true; the input reads as it did. -/
def pairsetSubsetsUptoRow : OpenClaim := { program := "ytcandpnhiboehaa", sum := "c4a15924d9d0c8b4948d1a28af4b7506193330dde2a2d9f6fa0c79cc47470181", func := "regcert/regcertlaw11.PairsetSubsets", spec := "pairsetSubsets", unfollowed := true, recurses := true, apart := false, narrowed := true }
def PairsetSubsetsUptoSaid : Prop := pairsetSubsetsUptoRow.holds Try.pinned (OpenSpec.upto pairsetSubsetsSpec)

/-- 'regcertlaw23.LivenessMatchesReference', WHERE WHAT IT READS IS OF BULK AT MOST 1048576: true; the input reads as it did. -/
def livenessMatchesReferenceUptoRow : OpenClaim := { program := "ytcandpnhiboehaa", sum := "c4a15924d9d0c8b4948d1a28af4b7506193330dde2a2d9f6fa0c79cc47470181", func := "regcert/regcertlaw23.LivenessMatchesReference", spec := "livenessMatchesReference", unfollowed := true, recurses := true, apart := false, narrowed := true }
def LivenessMatchesReferenceUptoSaid : Prop := livenessMatchesReferenceUptoRow.holds Try.pinned (OpenSpec.upto livenessMatchesReferenceSpec)

/-- 'regcertlaw23.LivenessEquations', WHERE WHAT IT READS IS OF BULK AT MOST 1048576: true; the input reads as it did. -/
def livenessEquationsUptoRow : OpenClaim := { program := "ytcandpnhiboehaa", sum := "c4a15924d9d0c8b4948d1a28af4b7506193330dde2a2d9f6fa0c79cc47470181", func := "regcert/regcertlaw23.LivenessEquations", spec := "livenessEquations", unfollowed := true, recurses := true, apart := false, narrowed := true }
def LivenessEquationsUptoSaid : Prop := livenessEquationsUptoRow.holds Try.pinned (OpenSpec.upto livenessEquationsSpec)

/-- 'regcertlaw23.LivenessSound', WHERE WHAT IT READS IS OF BULK AT MOST 1048576: true; the input reads as it did. -/
def livenessSoundUptoRow : OpenClaim := { program := "ytcandpnhiboehaa", sum := "c4a15924d9d0c8b4948d1a28af4b7506193330dde2a2d9f6fa0c79cc47470181", func := "regcert/regcertlaw23.LivenessSound", spec := "livenessSound", unfollowed := true, recurses := true, apart := false, narrowed := true }
def LivenessSoundUptoSaid : Prop := livenessSoundUptoRow.holds Try.pinned (OpenSpec.upto livenessSoundSpec)

/-- 'regcertlaw23.LivenessNecessary', WHERE WHAT IT READS IS OF BULK AT MOST 1048576: true; the input reads as it did. -/
def livenessNecessaryUptoRow : OpenClaim := { program := "ytcandpnhiboehaa", sum := "c4a15924d9d0c8b4948d1a28af4b7506193330dde2a2d9f6fa0c79cc47470181", func := "regcert/regcertlaw23.LivenessNecessary", spec := "livenessNecessary", unfollowed := true, recurses := true, apart := false, narrowed := true }
def LivenessNecessaryUptoSaid : Prop := livenessNecessaryUptoRow.holds Try.pinned (OpenSpec.upto livenessNecessarySpec)

/-- 'regcertlaw23.LivenessAppended', WHERE WHAT IT READS IS OF BULK AT MOST 1048576: true; the input reads as it did. -/
def livenessAppendedUptoRow : OpenClaim := { program := "ytcandpnhiboehaa", sum := "c4a15924d9d0c8b4948d1a28af4b7506193330dde2a2d9f6fa0c79cc47470181", func := "regcert/regcertlaw23.LivenessAppended", spec := "livenessAppended", unfollowed := true, recurses := true, apart := false, narrowed := true }
def LivenessAppendedUptoSaid : Prop := livenessAppendedUptoRow.holds Try.pinned (OpenSpec.upto livenessAppendedSpec)

/-- 'regcertlaw11.PairsetDrops', WHERE WHAT IT READS IS OF BULK AT MOST 1048576: true; the input reads as it did. -/
def pairsetDropsUptoRow : OpenClaim := { program := "ytcandpnhiboehaa", sum := "c4a15924d9d0c8b4948d1a28af4b7506193330dde2a2d9f6fa0c79cc47470181", func := "regcert/regcertlaw11.PairsetDrops", spec := "pairsetDrops", unfollowed := true, recurses := true, apart := false, narrowed := true }
def PairsetDropsUptoSaid : Prop := pairsetDropsUptoRow.holds Try.pinned (OpenSpec.upto pairsetDropsSpec)

/-- 'regcertlaw11.PairsetKeeps', WHERE WHAT IT READS IS OF BULK AT MOST 1048576: true; the input reads as it did. -/
def pairsetKeepsUptoRow : OpenClaim := { program := "ytcandpnhiboehaa", sum := "c4a15924d9d0c8b4948d1a28af4b7506193330dde2a2d9f6fa0c79cc47470181", func := "regcert/regcertlaw11.PairsetKeeps", spec := "pairsetKeeps", unfollowed := true, recurses := true, apart := false, narrowed := true }
def PairsetKeepsUptoSaid : Prop := pairsetKeepsUptoRow.holds Try.pinned (OpenSpec.upto pairsetKeepsSpec)

end Rows
end Go.Proofs.Ytcandpnhiboehaa
