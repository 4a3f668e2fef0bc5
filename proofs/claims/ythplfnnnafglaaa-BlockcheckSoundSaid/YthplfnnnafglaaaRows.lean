/-
  No cell of these rows narrows 'for every input' (looked for: loops, veiled, ifaces, maps, wideKeys, modest, calm, conditions, laid).
  DERIVED. THE GIVEN ROWS OF THIS SEAT. 10 by the template 'for every input the law returns true; each argument reads behind the call as it read before'; 0 by the template 'total and deterministic' (their statements: YthplfnnnafglaaaTotals.lean).
  GIVEN WITH THE SEED: the statements are not yours to turn. If you find one false, say at which input.
  Laid BY PROGRAM, IN A SANDBOX (cutbox-rows.mjs): the forced cells as the released guide's own fill.sh prints them over the translation 357323b9a8e42a22… (all of the seat's roots in one cut). By AI agents, Wed Nov 11 2026. No macro, syntax, notation, axiom, sorry.
-/
import Derived.Test.YthplfnnnafglaaaChecked
import GoSem.Claim
import GoSem.ClaimJoined
import GoSem.ClaimMapViews
import Derived.JoinedTies
import Derived.KernelRfl
namespace Go.Proofs.Ythplfnnnafglaaa
/- THE CELL 'sum', in the pinned program and in every row, IS THE sha256 OF THE DUMP (.gsa) THAT YthplfnnnafglaaaProg.lean LOADS. Nothing in Lean hashes anything: it is a label: what it is worth is what the hold of that sum in a sandbox is worth. -/
noncomputable def Try.pinned : Pinned := { name := "ythplfnnnafglaaa", sum := "357323b9a8e42a222514830e4c3b0f9b863c9bcdfd9fcdfec629cf824d77cde1", checked := Try.checked }
namespace Rows
def none {H : Type} : Left H := { results := [], args := [] }

/-- 'regcertlaw12.TransferMatchesReference': WHATEVER THE INPUT: true; the input reads as it did. -/
def transferMatchesReferenceSpec : ChangeSpec := { name := "transferMatchesReference", fn := fun _ => fun
  | [d1, d2, d3, d4, d5] => { results := [.lit (.bool true)], args := [d1, d2, d3, d4, d5] }
  | _ => none }
def transferMatchesReferenceRow : OpenClaim := { program := "ythplfnnnafglaaa", sum := "357323b9a8e42a222514830e4c3b0f9b863c9bcdfd9fcdfec629cf824d77cde1", func := "regcert/regcertlaw12.TransferMatchesReference", spec := "transferMatchesReference", unfollowed := true, recurses := true, apart := false }
def TransferMatchesReferenceSaid : Prop := transferMatchesReferenceRow.holds Try.pinned (OpenSpec.ofChange transferMatchesReferenceSpec)

/-- ITS FALSE NEIGHBOUR: 'it returns false'. Refute it at one input. -/
def transferMatchesReferenceWrong : ChangeSpec := { name := "transferMatchesReference", fn := fun _ => fun
  | [d1, d2, d3, d4, d5] => { results := [.lit (.bool false)], args := [d1, d2, d3, d4, d5] }
  | _ => none }
def TransferMatchesReferenceWrongFalsely : Prop := transferMatchesReferenceRow.holds Try.pinned (OpenSpec.ofChange transferMatchesReferenceWrong)

/-- 'regcertlaw12.TransferSound': WHATEVER THE INPUT: true; the input reads as it did. -/
def transferSoundSpec : ChangeSpec := { name := "transferSound", fn := fun _ => fun
  | [d1, d2, d3, d4, d5, d6, d7, d8] => { results := [.lit (.bool true)], args := [d1, d2, d3, d4, d5, d6, d7, d8] }
  | _ => none }
def transferSoundRow : OpenClaim := { program := "ythplfnnnafglaaa", sum := "357323b9a8e42a222514830e4c3b0f9b863c9bcdfd9fcdfec629cf824d77cde1", func := "regcert/regcertlaw12.TransferSound", spec := "transferSound", unfollowed := true, recurses := true, apart := false }
def TransferSoundSaid : Prop := transferSoundRow.holds Try.pinned (OpenSpec.ofChange transferSoundSpec)

/-- ITS FALSE NEIGHBOUR: 'it returns false'. Refute it at one input. -/
def transferSoundWrong : ChangeSpec := { name := "transferSound", fn := fun _ => fun
  | [d1, d2, d3, d4, d5, d6, d7, d8] => { results := [.lit (.bool false)], args := [d1, d2, d3, d4, d5, d6, d7, d8] }
  | _ => none }
def TransferSoundWrongFalsely : Prop := transferSoundRow.holds Try.pinned (OpenSpec.ofChange transferSoundWrong)

/-- 'regcertlaw12.TransferComplete': WHATEVER THE INPUT: true; the input reads as it did. -/
def transferCompleteSpec : ChangeSpec := { name := "transferComplete", fn := fun _ => fun
  | [d1, d2, d3, d4, d5, d6] => { results := [.lit (.bool true)], args := [d1, d2, d3, d4, d5, d6] }
  | _ => none }
def transferCompleteRow : OpenClaim := { program := "ythplfnnnafglaaa", sum := "357323b9a8e42a222514830e4c3b0f9b863c9bcdfd9fcdfec629cf824d77cde1", func := "regcert/regcertlaw12.TransferComplete", spec := "transferComplete", unfollowed := true, recurses := true, apart := false }
def TransferCompleteSaid : Prop := transferCompleteRow.holds Try.pinned (OpenSpec.ofChange transferCompleteSpec)

/-- ITS FALSE NEIGHBOUR: 'it returns false'. Refute it at one input. -/
def transferCompleteWrong : ChangeSpec := { name := "transferComplete", fn := fun _ => fun
  | [d1, d2, d3, d4, d5, d6] => { results := [.lit (.bool false)], args := [d1, d2, d3, d4, d5, d6] }
  | _ => none }
def TransferCompleteWrongFalsely : Prop := transferCompleteRow.holds Try.pinned (OpenSpec.ofChange transferCompleteWrong)

/-- 'regcertlaw12.TransferMonotone': WHATEVER THE INPUT: true; the input reads as it did. -/
def transferMonotoneSpec : ChangeSpec := { name := "transferMonotone", fn := fun _ => fun
  | [d1, d2, d3, d4, d5, d6] => { results := [.lit (.bool true)], args := [d1, d2, d3, d4, d5, d6] }
  | _ => none }
def transferMonotoneRow : OpenClaim := { program := "ythplfnnnafglaaa", sum := "357323b9a8e42a222514830e4c3b0f9b863c9bcdfd9fcdfec629cf824d77cde1", func := "regcert/regcertlaw12.TransferMonotone", spec := "transferMonotone", unfollowed := true, recurses := true, apart := false }
def TransferMonotoneSaid : Prop := transferMonotoneRow.holds Try.pinned (OpenSpec.ofChange transferMonotoneSpec)

/-- ITS FALSE NEIGHBOUR: 'it returns false'. Refute it at one input. -/
def transferMonotoneWrong : ChangeSpec := { name := "transferMonotone", fn := fun _ => fun
  | [d1, d2, d3, d4, d5, d6] => { results := [.lit (.bool false)], args := [d1, d2, d3, d4, d5, d6] }
  | _ => none }
def TransferMonotoneWrongFalsely : Prop := transferMonotoneRow.holds Try.pinned (OpenSpec.ofChange transferMonotoneWrong)

/-- 'regcertlaw12.TransferKeeps': WHATEVER THE INPUT: true; the input reads as it did. -/
def transferKeepsSpec : ChangeSpec := { name := "transferKeeps", fn := fun _ => fun
  | [d1, d2, d3, d4, d5] => { results := [.lit (.bool true)], args := [d1, d2, d3, d4, d5] }
  | _ => none }
def transferKeepsRow : OpenClaim := { program := "ythplfnnnafglaaa", sum := "357323b9a8e42a222514830e4c3b0f9b863c9bcdfd9fcdfec629cf824d77cde1", func := "regcert/regcertlaw12.TransferKeeps", spec := "transferKeeps", unfollowed := true, recurses := true, apart := false }
def TransferKeepsSaid : Prop := transferKeepsRow.holds Try.pinned (OpenSpec.ofChange transferKeepsSpec)

/-- ITS FALSE NEIGHBOUR: 'it returns false'. Refute it at one input. -/
def transferKeepsWrong : ChangeSpec := { name := "transferKeeps", fn := fun _ => fun
  | [d1, d2, d3, d4, d5] => { results := [.lit (.bool false)], args := [d1, d2, d3, d4, d5] }
  | _ => none }
def TransferKeepsWrongFalsely : Prop := transferKeepsRow.holds Try.pinned (OpenSpec.ofChange transferKeepsWrong)

/-- 'regcertlaw14.BlockcheckMatchesReference': WHATEVER THE INPUT: true; the input reads as it did. -/
def blockcheckMatchesReferenceSpec : ChangeSpec := { name := "blockcheckMatchesReference", fn := fun _ => fun
  | [d1, d2, d3, d4, d5, d6] => { results := [.lit (.bool true)], args := [d1, d2, d3, d4, d5, d6] }
  | _ => none }
def blockcheckMatchesReferenceRow : OpenClaim := { program := "ythplfnnnafglaaa", sum := "357323b9a8e42a222514830e4c3b0f9b863c9bcdfd9fcdfec629cf824d77cde1", func := "regcert/regcertlaw14.BlockcheckMatchesReference", spec := "blockcheckMatchesReference", unfollowed := true, recurses := true, apart := false }
def BlockcheckMatchesReferenceSaid : Prop := blockcheckMatchesReferenceRow.holds Try.pinned (OpenSpec.ofChange blockcheckMatchesReferenceSpec)

/-- ITS FALSE NEIGHBOUR: 'it returns false'. Refute it at one input. -/
def blockcheckMatchesReferenceWrong : ChangeSpec := { name := "blockcheckMatchesReference", fn := fun _ => fun
  | [d1, d2, d3, d4, d5, d6] => { results := [.lit (.bool false)], args := [d1, d2, d3, d4, d5, d6] }
  | _ => none }
def BlockcheckMatchesReferenceWrongFalsely : Prop := blockcheckMatchesReferenceRow.holds Try.pinned (OpenSpec.ofChange blockcheckMatchesReferenceWrong)

/-- 'regcertlaw14.BlockcheckSound': WHATEVER THE INPUT: true; the input reads as it did. -/
def blockcheckSoundSpec : ChangeSpec := { name := "blockcheckSound", fn := fun _ => fun
  | [d1, d2, d3, d4, d5, d6] => { results := [.lit (.bool true)], args := [d1, d2, d3, d4, d5, d6] }
  | _ => none }
def blockcheckSoundRow : OpenClaim := { program := "ythplfnnnafglaaa", sum := "357323b9a8e42a222514830e4c3b0f9b863c9bcdfd9fcdfec629cf824d77cde1", func := "regcert/regcertlaw14.BlockcheckSound", spec := "blockcheckSound", unfollowed := true, recurses := true, apart := false }
def BlockcheckSoundSaid : Prop := blockcheckSoundRow.holds Try.pinned (OpenSpec.ofChange blockcheckSoundSpec)

/-- ITS FALSE NEIGHBOUR: 'it returns false'. Refute it at one input. -/
def blockcheckSoundWrong : ChangeSpec := { name := "blockcheckSound", fn := fun _ => fun
  | [d1, d2, d3, d4, d5, d6] => { results := [.lit (.bool false)], args := [d1, d2, d3, d4, d5, d6] }
  | _ => none }
def BlockcheckSoundWrongFalsely : Prop := blockcheckSoundRow.holds Try.pinned (OpenSpec.ofChange blockcheckSoundWrong)

/-- 'regcertlaw14.BlockcheckMonotone': WHATEVER THE INPUT: true; the input reads as it did. -/
def blockcheckMonotoneSpec : ChangeSpec := { name := "blockcheckMonotone", fn := fun _ => fun
  | [d1, d2, d3, d4, d5, d6] => { results := [.lit (.bool true)], args := [d1, d2, d3, d4, d5, d6] }
  | _ => none }
def blockcheckMonotoneRow : OpenClaim := { program := "ythplfnnnafglaaa", sum := "357323b9a8e42a222514830e4c3b0f9b863c9bcdfd9fcdfec629cf824d77cde1", func := "regcert/regcertlaw14.BlockcheckMonotone", spec := "blockcheckMonotone", unfollowed := true, recurses := true, apart := false }
def BlockcheckMonotoneSaid : Prop := blockcheckMonotoneRow.holds Try.pinned (OpenSpec.ofChange blockcheckMonotoneSpec)

/-- ITS FALSE NEIGHBOUR: 'it returns false'. Refute it at one input. -/
def blockcheckMonotoneWrong : ChangeSpec := { name := "blockcheckMonotone", fn := fun _ => fun
  | [d1, d2, d3, d4, d5, d6] => { results := [.lit (.bool false)], args := [d1, d2, d3, d4, d5, d6] }
  | _ => none }
def BlockcheckMonotoneWrongFalsely : Prop := blockcheckMonotoneRow.holds Try.pinned (OpenSpec.ofChange blockcheckMonotoneWrong)

/-- 'regcertlaw14.BlockcheckSteps': WHATEVER THE INPUT: true; the input reads as it did. -/
def blockcheckStepsSpec : ChangeSpec := { name := "blockcheckSteps", fn := fun _ => fun
  | [d1, d2, d3, d4, d5, d6] => { results := [.lit (.bool true)], args := [d1, d2, d3, d4, d5, d6] }
  | _ => none }
def blockcheckStepsRow : OpenClaim := { program := "ythplfnnnafglaaa", sum := "357323b9a8e42a222514830e4c3b0f9b863c9bcdfd9fcdfec629cf824d77cde1", func := "regcert/regcertlaw14.BlockcheckSteps", spec := "blockcheckSteps", unfollowed := true, recurses := true, apart := false }
def BlockcheckStepsSaid : Prop := blockcheckStepsRow.holds Try.pinned (OpenSpec.ofChange blockcheckStepsSpec)

/-- ITS FALSE NEIGHBOUR: 'it returns false'. Refute it at one input. -/
def blockcheckStepsWrong : ChangeSpec := { name := "blockcheckSteps", fn := fun _ => fun
  | [d1, d2, d3, d4, d5, d6] => { results := [.lit (.bool false)], args := [d1, d2, d3, d4, d5, d6] }
  | _ => none }
def BlockcheckStepsWrongFalsely : Prop := blockcheckStepsRow.holds Try.pinned (OpenSpec.ofChange blockcheckStepsWrong)

/-- 'regcertlaw14.BlockcheckKeeps': WHATEVER THE INPUT: true; the input reads as it did. -/
def blockcheckKeepsSpec : ChangeSpec := { name := "blockcheckKeeps", fn := fun _ => fun
  | [d1, d2, d3, d4, d5] => { results := [.lit (.bool true)], args := [d1, d2, d3, d4, d5] }
  | _ => none }
def blockcheckKeepsRow : OpenClaim := { program := "ythplfnnnafglaaa", sum := "357323b9a8e42a222514830e4c3b0f9b863c9bcdfd9fcdfec629cf824d77cde1", func := "regcert/regcertlaw14.BlockcheckKeeps", spec := "blockcheckKeeps", unfollowed := true, recurses := true, apart := false }
def BlockcheckKeepsSaid : Prop := blockcheckKeepsRow.holds Try.pinned (OpenSpec.ofChange blockcheckKeepsSpec)

/-- ITS FALSE NEIGHBOUR: 'it returns false'. Refute it at one input. -/
def blockcheckKeepsWrong : ChangeSpec := { name := "blockcheckKeeps", fn := fun _ => fun
  | [d1, d2, d3, d4, d5] => { results := [.lit (.bool false)], args := [d1, d2, d3, d4, d5] }
  | _ => none }
def BlockcheckKeepsWrongFalsely : Prop := blockcheckKeepsRow.holds Try.pinned (OpenSpec.ofChange blockcheckKeepsWrong)

/- THE SECOND FORM. 'bulk': how many values and letters a reading holds, each counted each time it is reached (what is shared counts as often as it is met; a slice's spare places count too). A statement '..UptoSaid' is the law's where the arguments, and the package variables that the reading takes, are together of bulk at most 1048576: NARROWER than '..Said'. Prove '..Said' where nothing that the law and all that it calls make is longer than what came in: it says more and counts as full. Else prove '..UptoSaid'. A law counts once. -/
mutual
def uptoBulk {H : Type} : DataW H → Nat
  | .lit (.string bytes) => bytes.length + 1
  | .lit _ => 1
  | .nil => 1
  | .ptr d => uptoBulk d + 1
  | .slice elems spare => uptoBulkAll elems + uptoBulkAll spare + 1
  | .agg parts => uptoBulkAll parts + 1
  | .iface _ d => uptoBulk d + 1
  | .map entries => uptoBulkEntries entries + 1
  | .held _ => 1
def uptoBulkAll {H : Type} : List (DataW H) → Nat
  | [] => 0
  | d :: r => uptoBulk d + uptoBulkAll r
def uptoBulkEntries {H : Type} : List (Lit × DataW H) → Nat
  | [] => 0
  | x :: r => uptoBulkEntry x + uptoBulkEntries r
def uptoBulkEntry {H : Type} : Lit × DataW H → Nat
  | (.string bytes, d) => bytes.length + uptoBulk d + 1
  | (_, d) => uptoBulk d + 1
 end
def uptoSmall : (H : Type) → List (DataW H) → Bool := fun _ ds => decide (uptoBulkAll ds ≤ 1048576)
def OpenSpec.upto (s : _root_.Go.ChangeSpec) : _root_.Go.OpenSpec := { _root_.Go.OpenSpec.ofChange s with cond := some uptoSmall }

/-- 'regcertlaw12.TransferMatchesReference', WHERE WHAT IT READS IS OF BULK AT MOST 1048576: true; the input reads as it did. -/
def transferMatchesReferenceUptoRow : OpenClaim := { program := "ythplfnnnafglaaa", sum := "357323b9a8e42a222514830e4c3b0f9b863c9bcdfd9fcdfec629cf824d77cde1", func := "regcert/regcertlaw12.TransferMatchesReference", spec := "transferMatchesReference", unfollowed := true, recurses := true, apart := false, narrowed := true }
def TransferMatchesReferenceUptoSaid : Prop := transferMatchesReferenceUptoRow.holds Try.pinned (OpenSpec.upto transferMatchesReferenceSpec)

/-- 'regcertlaw12.TransferSound', WHERE WHAT IT READS IS OF BULK AT MOST 1048576: true; the input reads as it did. -/
def transferSoundUptoRow : OpenClaim := { program := "ythplfnnnafglaaa", sum := "357323b9a8e42a222514830e4c3b0f9b863c9bcdfd9fcdfec629cf824d77cde1", func := "regcert/regcertlaw12.TransferSound", spec := "transferSound", unfollowed := true, recurses := true, apart := false, narrowed := true }
def TransferSoundUptoSaid : Prop := transferSoundUptoRow.holds Try.pinned (OpenSpec.upto transferSoundSpec)

/-- 'regcertlaw12.TransferComplete', WHERE WHAT IT READS IS OF BULK AT MOST 1048576: true; the input reads as it did. -/
def transferCompleteUptoRow : OpenClaim := { program := "ythplfnnnafglaaa", sum := "357323b9a8e42a222514830e4c3b0f9b863c9bcdfd9fcdfec629cf824d77cde1", func := "regcert/regcertlaw12.TransferComplete", spec := "transferComplete", unfollowed := true, recurses := true, apart := false, narrowed := true }
def TransferCompleteUptoSaid : Prop := transferCompleteUptoRow.holds Try.pinned (OpenSpec.upto transferCompleteSpec)

/-- 'regcertlaw12.TransferMonotone', WHERE WHAT IT READS IS OF BULK AT MOST 1048576: true; the input reads as it did. -/
def transferMonotoneUptoRow : OpenClaim := { program := "ythplfnnnafglaaa", sum := "357323b9a8e42a222514830e4c3b0f9b863c9bcdfd9fcdfec629cf824d77cde1", func := "regcert/regcertlaw12.TransferMonotone", spec := "transferMonotone", unfollowed := true, recurses := true, apart := false, narrowed := true }
def TransferMonotoneUptoSaid : Prop := transferMonotoneUptoRow.holds Try.pinned (OpenSpec.upto transferMonotoneSpec)

/-- 'regcertlaw12.TransferKeeps', WHERE WHAT IT READS IS OF BULK AT MOST 1048576: true; the input reads as it did. -/
def transferKeepsUptoRow : OpenClaim := { program := "ythplfnnnafglaaa", sum := "357323b9a8e42a222514830e4c3b0f9b863c9bcdfd9fcdfec629cf824d77cde1", func := "regcert/regcertlaw12.TransferKeeps", spec := "transferKeeps", unfollowed := true, recurses := true, apart := false, narrowed := true }
def TransferKeepsUptoSaid : Prop := transferKeepsUptoRow.holds Try.pinned (OpenSpec.upto transferKeepsSpec)

/-- 'regcertlaw14.BlockcheckMatchesReference', WHERE WHAT IT READS IS OF BULK AT MOST 1048576: true; the input reads as it did. -/
def blockcheckMatchesReferenceUptoRow : OpenClaim := { program := "ythplfnnnafglaaa", sum := "357323b9a8e42a222514830e4c3b0f9b863c9bcdfd9fcdfec629cf824d77cde1", func := "regcert/regcertlaw14.BlockcheckMatchesReference", spec := "blockcheckMatchesReference", unfollowed := true, recurses := true, apart := false, narrowed := true }
def BlockcheckMatchesReferenceUptoSaid : Prop := blockcheckMatchesReferenceUptoRow.holds Try.pinned (OpenSpec.upto blockcheckMatchesReferenceSpec)

/-- 'regcertlaw14.BlockcheckSound', WHERE WHAT IT READS IS OF BULK AT MOST 1048576: true; the input reads as it did. -/
def blockcheckSoundUptoRow : OpenClaim := { program := "ythplfnnnafglaaa", sum := "357323b9a8e42a222514830e4c3b0f9b863c9bcdfd9fcdfec629cf824d77cde1", func := "regcert/regcertlaw14.BlockcheckSound", spec := "blockcheckSound", unfollowed := true, recurses := true, apart := false, narrowed := true }
def BlockcheckSoundUptoSaid : Prop := blockcheckSoundUptoRow.holds Try.pinned (OpenSpec.upto blockcheckSoundSpec)

/-- 'regcertlaw14.BlockcheckMonotone', WHERE WHAT IT READS IS OF BULK AT MOST 1048576: true; the input reads as it did. -/
def blockcheckMonotoneUptoRow : OpenClaim := { program := "ythplfnnnafglaaa", sum := "357323b9a8e42a222514830e4c3b0f9b863c9bcdfd9fcdfec629cf824d77cde1", func := "regcert/regcertlaw14.BlockcheckMonotone", spec := "blockcheckMonotone", unfollowed := true, recurses := true, apart := false, narrowed := true }
def BlockcheckMonotoneUptoSaid : Prop := blockcheckMonotoneUptoRow.holds Try.pinned (OpenSpec.upto blockcheckMonotoneSpec)

/-- 'regcertlaw14.BlockcheckSteps', WHERE WHAT IT READS IS OF BULK AT MOST 1048576: true; the input reads as it did. -/
def blockcheckStepsUptoRow : OpenClaim := { program := "ythplfnnnafglaaa", sum := "357323b9a8e42a222514830e4c3b0f9b863c9bcdfd9fcdfec629cf824d77cde1", func := "regcert/regcertlaw14.BlockcheckSteps", spec := "blockcheckSteps", unfollowed := true, recurses := true, apart := false, narrowed := true }
def BlockcheckStepsUptoSaid : Prop := blockcheckStepsUptoRow.holds Try.pinned (OpenSpec.upto blockcheckStepsSpec)

/-- 'regcertlaw14.BlockcheckKeeps', WHERE WHAT IT READS IS OF BULK AT MOST 1048576: true; the input reads as it did. -/
def blockcheckKeepsUptoRow : OpenClaim := { program := "ythplfnnnafglaaa", sum := "357323b9a8e42a222514830e4c3b0f9b863c9bcdfd9fcdfec629cf824d77cde1", func := "regcert/regcertlaw14.BlockcheckKeeps", spec := "blockcheckKeeps", unfollowed := true, recurses := true, apart := false, narrowed := true }
def BlockcheckKeepsUptoSaid : Prop := blockcheckKeepsUptoRow.holds Try.pinned (OpenSpec.upto blockcheckKeepsSpec)

end Rows
end Go.Proofs.Ythplfnnnafglaaa
