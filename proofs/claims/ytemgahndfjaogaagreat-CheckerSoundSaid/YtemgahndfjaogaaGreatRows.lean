/-
  No cell of these rows narrows 'for every input' (looked for: loops, veiled, ifaces, maps, wideKeys, modest, calm, conditions, laid).
  DERIVED. THE GIVEN ROWS OF THIS SEAT. 7 by the template 'for every input the law returns true; each argument reads behind the call as it read before'; 0 by the template 'total and deterministic' (their statements: YtemgahndfjaogaaGreatTotals.lean).
  GIVEN WITH THE SEED: the statements are not yours to turn. If you find one false, say at which input.
  Laid BY PROGRAM, IN A SANDBOX (cutbox-rows.mjs): the forced cells as the released guide's own fill.sh prints them over the translation 8da8e198fc1b3ef5… (all of the seat's roots in one cut). By AI agents, Wed Nov 11 2026. No macro, syntax, notation, axiom, sorry.
-/
import Derived.Test.YtemgahndfjaogaaGreatChecked
import GoSem.Claim
import GoSem.ClaimJoined
import GoSem.ClaimMapViews
import Derived.JoinedTies
import Derived.KernelRfl
namespace Go.Proofs.YtemgahndfjaogaaGreat
/- THE CELL 'sum', in the pinned program and in every row, IS THE sha256 OF THE DUMP (.gsa) THAT YtemgahndfjaogaaGreatProg.lean LOADS. Nothing in Lean hashes anything: it is a label: what it is worth is what the hold of that sum in a sandbox is worth. -/
noncomputable def Tryz.pinned : Pinned := { name := "ytemgahndfjaogaagreat", sum := "8da8e198fc1b3ef5f73fb35a307d29216264fa48c2333bf23e43f19e4449ea09", checked := Tryz.checked }
namespace Rows
def none {H : Type} : Left H := { results := [], args := [] }

/-- 'regcertlaw16.CheckerMatchesReference': WHATEVER THE INPUT: true; the input reads as it did. -/
def checkerMatchesReferenceSpec : ChangeSpec := { name := "checkerMatchesReference", fn := fun _ => fun
  | [d] => { results := [.lit (.bool true)], args := [d] }
  | _ => none }
def checkerMatchesReferenceRow : OpenClaim := { program := "ytemgahndfjaogaagreat", sum := "8da8e198fc1b3ef5f73fb35a307d29216264fa48c2333bf23e43f19e4449ea09", func := "regcert/regcertlaw16.CheckerMatchesReference", spec := "checkerMatchesReference", unfollowed := true, recurses := true, apart := false }
def CheckerMatchesReferenceSaid : Prop := checkerMatchesReferenceRow.holds Tryz.pinned (OpenSpec.ofChange checkerMatchesReferenceSpec)

/-- ITS FALSE NEIGHBOUR: 'it returns false'. Refute it at one input. -/
def checkerMatchesReferenceWrong : ChangeSpec := { name := "checkerMatchesReference", fn := fun _ => fun
  | [d] => { results := [.lit (.bool false)], args := [d] }
  | _ => none }
def CheckerMatchesReferenceWrongFalsely : Prop := checkerMatchesReferenceRow.holds Tryz.pinned (OpenSpec.ofChange checkerMatchesReferenceWrong)

/-- 'regcertlaw16.CheckerOnce': WHATEVER THE INPUT: true; the input reads as it did. -/
def checkerOnceSpec : ChangeSpec := { name := "checkerOnce", fn := fun _ => fun
  | [d] => { results := [.lit (.bool true)], args := [d] }
  | _ => none }
def checkerOnceRow : OpenClaim := { program := "ytemgahndfjaogaagreat", sum := "8da8e198fc1b3ef5f73fb35a307d29216264fa48c2333bf23e43f19e4449ea09", func := "regcert/regcertlaw16.CheckerOnce", spec := "checkerOnce", unfollowed := true, recurses := true, apart := false }
def CheckerOnceSaid : Prop := checkerOnceRow.holds Tryz.pinned (OpenSpec.ofChange checkerOnceSpec)

/-- ITS FALSE NEIGHBOUR: 'it returns false'. Refute it at one input. -/
def checkerOnceWrong : ChangeSpec := { name := "checkerOnce", fn := fun _ => fun
  | [d] => { results := [.lit (.bool false)], args := [d] }
  | _ => none }
def CheckerOnceWrongFalsely : Prop := checkerOnceRow.holds Tryz.pinned (OpenSpec.ofChange checkerOnceWrong)

/-- 'regcertlaw16.CheckerLocal': WHATEVER THE INPUT: true; the input reads as it did. -/
def checkerLocalSpec : ChangeSpec := { name := "checkerLocal", fn := fun _ => fun
  | [d] => { results := [.lit (.bool true)], args := [d] }
  | _ => none }
def checkerLocalRow : OpenClaim := { program := "ytemgahndfjaogaagreat", sum := "8da8e198fc1b3ef5f73fb35a307d29216264fa48c2333bf23e43f19e4449ea09", func := "regcert/regcertlaw16.CheckerLocal", spec := "checkerLocal", unfollowed := true, recurses := true, apart := false }
def CheckerLocalSaid : Prop := checkerLocalRow.holds Tryz.pinned (OpenSpec.ofChange checkerLocalSpec)

/-- ITS FALSE NEIGHBOUR: 'it returns false'. Refute it at one input. -/
def checkerLocalWrong : ChangeSpec := { name := "checkerLocal", fn := fun _ => fun
  | [d] => { results := [.lit (.bool false)], args := [d] }
  | _ => none }
def CheckerLocalWrongFalsely : Prop := checkerLocalRow.holds Tryz.pinned (OpenSpec.ofChange checkerLocalWrong)

/-- 'regcertlaw16.CheckerSubset': WHATEVER THE INPUT: true; the input reads as it did. -/
def checkerSubsetSpec : ChangeSpec := { name := "checkerSubset", fn := fun _ => fun
  | [d1, d2, d3] => { results := [.lit (.bool true)], args := [d1, d2, d3] }
  | _ => none }
def checkerSubsetRow : OpenClaim := { program := "ytemgahndfjaogaagreat", sum := "8da8e198fc1b3ef5f73fb35a307d29216264fa48c2333bf23e43f19e4449ea09", func := "regcert/regcertlaw16.CheckerSubset", spec := "checkerSubset", unfollowed := true, recurses := true, apart := false }
def CheckerSubsetSaid : Prop := checkerSubsetRow.holds Tryz.pinned (OpenSpec.ofChange checkerSubsetSpec)

/-- ITS FALSE NEIGHBOUR: 'it returns false'. Refute it at one input. -/
def checkerSubsetWrong : ChangeSpec := { name := "checkerSubset", fn := fun _ => fun
  | [d1, d2, d3] => { results := [.lit (.bool false)], args := [d1, d2, d3] }
  | _ => none }
def CheckerSubsetWrongFalsely : Prop := checkerSubsetRow.holds Tryz.pinned (OpenSpec.ofChange checkerSubsetWrong)

/-- 'regcertlaw16.CheckerKeeps': WHATEVER THE INPUT: true; the input reads as it did. -/
def checkerKeepsSpec : ChangeSpec := { name := "checkerKeeps", fn := fun _ => fun
  | [d] => { results := [.lit (.bool true)], args := [d] }
  | _ => none }
def checkerKeepsRow : OpenClaim := { program := "ytemgahndfjaogaagreat", sum := "8da8e198fc1b3ef5f73fb35a307d29216264fa48c2333bf23e43f19e4449ea09", func := "regcert/regcertlaw16.CheckerKeeps", spec := "checkerKeeps", unfollowed := true, recurses := true, apart := false }
def CheckerKeepsSaid : Prop := checkerKeepsRow.holds Tryz.pinned (OpenSpec.ofChange checkerKeepsSpec)

/-- ITS FALSE NEIGHBOUR: 'it returns false'. Refute it at one input. -/
def checkerKeepsWrong : ChangeSpec := { name := "checkerKeeps", fn := fun _ => fun
  | [d] => { results := [.lit (.bool false)], args := [d] }
  | _ => none }
def CheckerKeepsWrongFalsely : Prop := checkerKeepsRow.holds Tryz.pinned (OpenSpec.ofChange checkerKeepsWrong)

/-- 'regcertlaw22.SpillallAccepted': WHATEVER THE INPUT: true; the input reads as it did. -/
def spillallAcceptedSpec : ChangeSpec := { name := "spillallAccepted", fn := fun _ => fun
  | [d] => { results := [.lit (.bool true)], args := [d] }
  | _ => none }
def spillallAcceptedRow : OpenClaim := { program := "ytemgahndfjaogaagreat", sum := "8da8e198fc1b3ef5f73fb35a307d29216264fa48c2333bf23e43f19e4449ea09", func := "regcert/regcertlaw22.SpillallAccepted", spec := "spillallAccepted", unfollowed := true, recurses := true, apart := false }
def SpillallAcceptedSaid : Prop := spillallAcceptedRow.holds Tryz.pinned (OpenSpec.ofChange spillallAcceptedSpec)

/-- ITS FALSE NEIGHBOUR: 'it returns false'. Refute it at one input. -/
def spillallAcceptedWrong : ChangeSpec := { name := "spillallAccepted", fn := fun _ => fun
  | [d] => { results := [.lit (.bool false)], args := [d] }
  | _ => none }
def SpillallAcceptedWrongFalsely : Prop := spillallAcceptedRow.holds Tryz.pinned (OpenSpec.ofChange spillallAcceptedWrong)

/-- 'regcertlaw16.CheckerSound': WHATEVER THE INPUT: true; the input reads as it did. -/
def checkerSoundSpec : ChangeSpec := { name := "checkerSound", fn := fun _ => fun
  | [d1, d2, d3] => { results := [.lit (.bool true)], args := [d1, d2, d3] }
  | _ => none }
def checkerSoundRow : OpenClaim := { program := "ytemgahndfjaogaagreat", sum := "8da8e198fc1b3ef5f73fb35a307d29216264fa48c2333bf23e43f19e4449ea09", func := "regcert/regcertlaw16.CheckerSound", spec := "checkerSound", unfollowed := true, recurses := true, apart := false }
def CheckerSoundSaid : Prop := checkerSoundRow.holds Tryz.pinned (OpenSpec.ofChange checkerSoundSpec)

/-- ITS FALSE NEIGHBOUR: 'it returns false'. Refute it at one input. -/
def checkerSoundWrong : ChangeSpec := { name := "checkerSound", fn := fun _ => fun
  | [d1, d2, d3] => { results := [.lit (.bool false)], args := [d1, d2, d3] }
  | _ => none }
def CheckerSoundWrongFalsely : Prop := checkerSoundRow.holds Tryz.pinned (OpenSpec.ofChange checkerSoundWrong)

/- THE SECOND FORM. 'bulk': how many values and letters a reading holds, each counted each time it is reached (what is shared counts as often as it is met; a slice's spare places count too). A statement '..UptoSaid' is the law's where the arguments, and the package variables that the reading takes, are together of bulk at most 1048576: NARROWER than '..Said'. Prove '..Said' where nothing that the law and all that it calls make is longer than what came in: it says more and counts as full. Else prove '..UptoSaid'. A law counts once. -/
mutual
def uptoBulk {H : Type} : DataW H → Nat
  | .lit (.string bytes) => bytes.length + 1
  | .lit _ => 1
  | .nil => 1
  | .ptr d => uptoBulk d + 1
  | .slice elems spare => uptoBulkAll elems + uptoBulkAll spare + 1
  | .agg parts => uptoBulkAll parts + 1
  | .iface _ d => uptoBulk d + 1
  | .map entries => uptoBulkEntries entries + 1
  | .held _ => 1
def uptoBulkAll {H : Type} : List (DataW H) → Nat
  | [] => 0
  | d :: r => uptoBulk d + uptoBulkAll r
def uptoBulkEntries {H : Type} : List (Lit × DataW H) → Nat
  | [] => 0
  | x :: r => uptoBulkEntry x + uptoBulkEntries r
def uptoBulkEntry {H : Type} : Lit × DataW H → Nat
  | (.string bytes, d) => bytes.length + uptoBulk d + 1
  | (_, d) => uptoBulk d + 1
 end
def uptoSmall : (H : Type) → List (DataW H) → Bool := fun _ ds => decide (uptoBulkAll ds ≤ 1048576)
def OpenSpec.upto (s : _root_.Go.ChangeSpec) : _root_.Go.OpenSpec := { _root_.Go.OpenSpec.ofChange s with cond := some uptoSmall }

/-- 'regcertlaw16.CheckerMatchesReference', WHERE WHAT IT READS IS OF BULK AT MOST 1048576: true; the input reads as it did. -/
def checkerMatchesReferenceUptoRow : OpenClaim := { program := "ytemgahndfjaogaagreat", sum := "8da8e198fc1b3ef5f73fb35a307d29216264fa48c2333bf23e43f19e4449ea09", func := "regcert/regcertlaw16.CheckerMatchesReference", spec := "checkerMatchesReference", unfollowed := true, recurses := true, apart := false, narrowed := true }
def CheckerMatchesReferenceUptoSaid : Prop := checkerMatchesReferenceUptoRow.holds Tryz.pinned (OpenSpec.upto checkerMatchesReferenceSpec)

/-- 'regcertlaw16.CheckerOnce', WHERE WHAT IT READS IS OF BULK AT MOST 1048576: true; the input reads as it did. -/
def checkerOnceUptoRow : OpenClaim := { program := "ytemgahndfjaogaagreat", sum := "8da8e198fc1b3ef5f73fb35a307d29216264fa48c2333bf23e43f19e4449ea09", func := "regcert/regcertlaw16.CheckerOnce", spec := "checkerOnce", unfollowed := true, recurses := true, apart := false, narrowed := true }
def CheckerOnceUptoSaid : Prop := checkerOnceUptoRow.holds Tryz.pinned (OpenSpec.upto checkerOnceSpec)

/-- 'regcertlaw16.CheckerLocal', WHERE WHAT IT READS IS OF BULK AT MOST 1048576: true; the input reads as it did. -/
def checkerLocalUptoRow : OpenClaim := { program := "ytemgahndfjaogaagreat", sum := "8da8e198fc1b3ef5f73fb35a307d29216264fa48c2333bf23e43f19e4449ea09", func := "regcert/regcertlaw16.CheckerLocal", spec := "checkerLocal", unfollowed := true, recurses := true, apart := false, narrowed := true }
def CheckerLocalUptoSaid : Prop := checkerLocalUptoRow.holds Tryz.pinned (OpenSpec.upto checkerLocalSpec)

/-- 'regcertlaw16.CheckerSubset', WHERE WHAT IT READS IS OF BULK AT MOST 1048576: true; the input reads as it did. -/
def checkerSubsetUptoRow : OpenClaim := { program := "ytemgahndfjaogaagreat", sum := "8da8e198fc1b3ef5f73fb35a307d29216264fa48c2333bf23e43f19e4449ea09", func := "regcert/regcertlaw16.CheckerSubset", spec := "checkerSubset", unfollowed := true, recurses := true, apart := false, narrowed := true }
def CheckerSubsetUptoSaid : Prop := checkerSubsetUptoRow.holds Tryz.pinned (OpenSpec.upto checkerSubsetSpec)

/-- 'regcertlaw16.CheckerKeeps', WHERE WHAT IT READS IS OF BULK AT MOST 1048576: true; the input reads as it did. -/
def checkerKeepsUptoRow : OpenClaim := { program := "ytemgahndfjaogaagreat", sum := "8da8e198fc1b3ef5f73fb35a307d29216264fa48c2333bf23e43f19e4449ea09", func := "regcert/regcertlaw16.CheckerKeeps", spec := "checkerKeeps", unfollowed := true, recurses := true, apart := false, narrowed := true }
def CheckerKeepsUptoSaid : Prop := checkerKeepsUptoRow.holds Tryz.pinned (OpenSpec.upto checkerKeepsSpec)

/-- 'regcertlaw22.SpillallAccepted', WHERE WHAT IT READS IS OF BULK AT MOST 1048576: true; the input reads as it did. -/
def spillallAcceptedUptoRow : OpenClaim := { program := "ytemgahndfjaogaagreat", sum := "8da8e198fc1b3ef5f73fb35a307d29216264fa48c2333bf23e43f19e4449ea09", func := "regcert/regcertlaw22.SpillallAccepted", spec := "spillallAccepted", unfollowed := true, recurses := true, apart := false, narrowed := true }
def SpillallAcceptedUptoSaid : Prop := spillallAcceptedUptoRow.holds Tryz.pinned (OpenSpec.upto spillallAcceptedSpec)

/-- 'regcertlaw16.CheckerSound', WHERE WHAT IT READS IS OF BULK AT MOST 1048576: true; the input reads as it did. -/
def checkerSoundUptoRow : OpenClaim := { program := "ytemgahndfjaogaagreat", sum := "8da8e198fc1b3ef5f73fb35a307d29216264fa48c2333bf23e43f19e4449ea09", func := "regcert/regcertlaw16.CheckerSound", spec := "checkerSound", unfollowed := true, recurses := true, apart := false, narrowed := true }
def CheckerSoundUptoSaid : Prop := checkerSoundUptoRow.holds Tryz.pinned (OpenSpec.upto checkerSoundSpec)

end Rows
end Go.Proofs.YtemgahndfjaogaaGreat
