/-
  No cell of these rows narrows 'for every input' (looked for: loops, veiled, ifaces, maps, wideKeys, modest, calm, conditions, laid).
  DERIVED. THE GIVEN ROWS OF THIS SEAT. 7 by the template 'for every input the law returns true; each argument reads behind the call as it read before'; 0 by the template 'total and deterministic' (their statements: YtnhaaijjfedgoaaGreatTotals.lean).
  GIVEN WITH THE SEED: the statements are not yours to turn. If you find one false, say at which input.
  Laid BY PROGRAM, IN A SANDBOX (cutbox-rows.mjs): the forced cells as the released guide's own fill.sh prints them over the translation ded539a9e1eb437c… (all of the seat's roots in one cut). By AI agents, Wed Nov 11 2026. No macro, syntax, notation, axiom, sorry.
-/
import Derived.Test.YtnhaaijjfedgoaaGreatChecked
import GoSem.Claim
import GoSem.ClaimJoined
import GoSem.ClaimMapViews
import Derived.JoinedTies
import Derived.KernelRfl
namespace Go.Proofs.YtnhaaijjfedgoaaGreat
/- THE CELL 'sum', in the pinned program and in every row, IS THE sha256 OF THE DUMP (.gsa) THAT YtnhaaijjfedgoaaGreatProg.lean LOADS. Nothing in Lean hashes anything: it is a label: what it is worth is what the hold of that sum in a sandbox is worth. -/
noncomputable def Tryz.pinned : Pinned := { name := "ytnhaaijjfedgoaagreat", sum := "ded539a9e1eb437cb803a9dfb1c82730866bd28c60ee948f85c4475d7011d1c4", checked := Tryz.checked }
namespace Rows
def none {H : Type} : Left H := { results := [], args := [] }

/-- 'regcertlaw24.LocalallocAgain': WHATEVER THE INPUT: true; the input reads as it did. -/
def localallocAgainSpec : ChangeSpec := { name := "localallocAgain", fn := fun _ => fun
  | [d1, d2] => { results := [.lit (.bool true)], args := [d1, d2] }
  | _ => none }
def localallocAgainRow : OpenClaim := { program := "ytnhaaijjfedgoaagreat", sum := "ded539a9e1eb437cb803a9dfb1c82730866bd28c60ee948f85c4475d7011d1c4", func := "regcert/regcertlaw24.LocalallocAgain", spec := "localallocAgain", unfollowed := true, recurses := true, apart := false }
def LocalallocAgainSaid : Prop := localallocAgainRow.holds Tryz.pinned (OpenSpec.ofChange localallocAgainSpec)

/-- ITS FALSE NEIGHBOUR: 'it returns false'. Refute it at one input. -/
def localallocAgainWrong : ChangeSpec := { name := "localallocAgain", fn := fun _ => fun
  | [d1, d2] => { results := [.lit (.bool false)], args := [d1, d2] }
  | _ => none }
def LocalallocAgainWrongFalsely : Prop := localallocAgainRow.holds Tryz.pinned (OpenSpec.ofChange localallocAgainWrong)

/-- 'regcertlaw24.LocalallocSimulates': WHATEVER THE INPUT: true; the input reads as it did. -/
def localallocSimulatesSpec : ChangeSpec := { name := "localallocSimulates", fn := fun _ => fun
  | [d1, d2, d3, d4] => { results := [.lit (.bool true)], args := [d1, d2, d3, d4] }
  | _ => none }
def localallocSimulatesRow : OpenClaim := { program := "ytnhaaijjfedgoaagreat", sum := "ded539a9e1eb437cb803a9dfb1c82730866bd28c60ee948f85c4475d7011d1c4", func := "regcert/regcertlaw24.LocalallocSimulates", spec := "localallocSimulates", unfollowed := true, recurses := true, apart := false }
def LocalallocSimulatesSaid : Prop := localallocSimulatesRow.holds Tryz.pinned (OpenSpec.ofChange localallocSimulatesSpec)

/-- ITS FALSE NEIGHBOUR: 'it returns false'. Refute it at one input. -/
def localallocSimulatesWrong : ChangeSpec := { name := "localallocSimulates", fn := fun _ => fun
  | [d1, d2, d3, d4] => { results := [.lit (.bool false)], args := [d1, d2, d3, d4] }
  | _ => none }
def LocalallocSimulatesWrongFalsely : Prop := localallocSimulatesRow.holds Tryz.pinned (OpenSpec.ofChange localallocSimulatesWrong)

/-- 'regcertlaw25.WeakenMatchesReference': WHATEVER THE INPUT: true; the input reads as it did. -/
def weakenMatchesReferenceSpec : ChangeSpec := { name := "weakenMatchesReference", fn := fun _ => fun
  | [d1, d2, d3] => { results := [.lit (.bool true)], args := [d1, d2, d3] }
  | _ => none }
def weakenMatchesReferenceRow : OpenClaim := { program := "ytnhaaijjfedgoaagreat", sum := "ded539a9e1eb437cb803a9dfb1c82730866bd28c60ee948f85c4475d7011d1c4", func := "regcert/regcertlaw25.WeakenMatchesReference", spec := "weakenMatchesReference", unfollowed := true, recurses := true, apart := false }
def WeakenMatchesReferenceSaid : Prop := weakenMatchesReferenceRow.holds Tryz.pinned (OpenSpec.ofChange weakenMatchesReferenceSpec)

/-- ITS FALSE NEIGHBOUR: 'it returns false'. Refute it at one input. -/
def weakenMatchesReferenceWrong : ChangeSpec := { name := "weakenMatchesReference", fn := fun _ => fun
  | [d1, d2, d3] => { results := [.lit (.bool false)], args := [d1, d2, d3] }
  | _ => none }
def WeakenMatchesReferenceWrongFalsely : Prop := weakenMatchesReferenceRow.holds Tryz.pinned (OpenSpec.ofChange weakenMatchesReferenceWrong)

/-- 'regcertlaw25.WeakenLive': WHATEVER THE INPUT: true; the input reads as it did. -/
def weakenLiveSpec : ChangeSpec := { name := "weakenLive", fn := fun _ => fun
  | [d] => { results := [.lit (.bool true)], args := [d] }
  | _ => none }
def weakenLiveRow : OpenClaim := { program := "ytnhaaijjfedgoaagreat", sum := "ded539a9e1eb437cb803a9dfb1c82730866bd28c60ee948f85c4475d7011d1c4", func := "regcert/regcertlaw25.WeakenLive", spec := "weakenLive", unfollowed := true, recurses := true, apart := false }
def WeakenLiveSaid : Prop := weakenLiveRow.holds Tryz.pinned (OpenSpec.ofChange weakenLiveSpec)

/-- ITS FALSE NEIGHBOUR: 'it returns false'. Refute it at one input. -/
def weakenLiveWrong : ChangeSpec := { name := "weakenLive", fn := fun _ => fun
  | [d] => { results := [.lit (.bool false)], args := [d] }
  | _ => none }
def WeakenLiveWrongFalsely : Prop := weakenLiveRow.holds Tryz.pinned (OpenSpec.ofChange weakenLiveWrong)

/-- 'regcertlaw25.WeakenMinimal': WHATEVER THE INPUT: true; the input reads as it did. -/
def weakenMinimalSpec : ChangeSpec := { name := "weakenMinimal", fn := fun _ => fun
  | [d1, d2, d3] => { results := [.lit (.bool true)], args := [d1, d2, d3] }
  | _ => none }
def weakenMinimalRow : OpenClaim := { program := "ytnhaaijjfedgoaagreat", sum := "ded539a9e1eb437cb803a9dfb1c82730866bd28c60ee948f85c4475d7011d1c4", func := "regcert/regcertlaw25.WeakenMinimal", spec := "weakenMinimal", unfollowed := true, recurses := true, apart := false }
def WeakenMinimalSaid : Prop := weakenMinimalRow.holds Tryz.pinned (OpenSpec.ofChange weakenMinimalSpec)

/-- ITS FALSE NEIGHBOUR: 'it returns false'. Refute it at one input. -/
def weakenMinimalWrong : ChangeSpec := { name := "weakenMinimal", fn := fun _ => fun
  | [d1, d2, d3] => { results := [.lit (.bool false)], args := [d1, d2, d3] }
  | _ => none }
def WeakenMinimalWrongFalsely : Prop := weakenMinimalRow.holds Tryz.pinned (OpenSpec.ofChange weakenMinimalWrong)

/-- 'regcertlaw25.WeakenKeeps': WHATEVER THE INPUT: true; the input reads as it did. -/
def weakenKeepsSpec : ChangeSpec := { name := "weakenKeeps", fn := fun _ => fun
  | [d1, d2, d3] => { results := [.lit (.bool true)], args := [d1, d2, d3] }
  | _ => none }
def weakenKeepsRow : OpenClaim := { program := "ytnhaaijjfedgoaagreat", sum := "ded539a9e1eb437cb803a9dfb1c82730866bd28c60ee948f85c4475d7011d1c4", func := "regcert/regcertlaw25.WeakenKeeps", spec := "weakenKeeps", unfollowed := true, recurses := true, apart := false }
def WeakenKeepsSaid : Prop := weakenKeepsRow.holds Tryz.pinned (OpenSpec.ofChange weakenKeepsSpec)

/-- ITS FALSE NEIGHBOUR: 'it returns false'. Refute it at one input. -/
def weakenKeepsWrong : ChangeSpec := { name := "weakenKeeps", fn := fun _ => fun
  | [d1, d2, d3] => { results := [.lit (.bool false)], args := [d1, d2, d3] }
  | _ => none }
def WeakenKeepsWrongFalsely : Prop := weakenKeepsRow.holds Tryz.pinned (OpenSpec.ofChange weakenKeepsWrong)

/-- 'regcertlaw24.LocalallocAccepted': WHATEVER THE INPUT: true; the input reads as it did. -/
def localallocAcceptedSpec : ChangeSpec := { name := "localallocAccepted", fn := fun _ => fun
  | [d1, d2] => { results := [.lit (.bool true)], args := [d1, d2] }
  | _ => none }
def localallocAcceptedRow : OpenClaim := { program := "ytnhaaijjfedgoaagreat", sum := "ded539a9e1eb437cb803a9dfb1c82730866bd28c60ee948f85c4475d7011d1c4", func := "regcert/regcertlaw24.LocalallocAccepted", spec := "localallocAccepted", unfollowed := true, recurses := true, apart := false }
def LocalallocAcceptedSaid : Prop := localallocAcceptedRow.holds Tryz.pinned (OpenSpec.ofChange localallocAcceptedSpec)

/-- ITS FALSE NEIGHBOUR: 'it returns false'. Refute it at one input. -/
def localallocAcceptedWrong : ChangeSpec := { name := "localallocAccepted", fn := fun _ => fun
  | [d1, d2] => { results := [.lit (.bool false)], args := [d1, d2] }
  | _ => none }
def LocalallocAcceptedWrongFalsely : Prop := localallocAcceptedRow.holds Tryz.pinned (OpenSpec.ofChange localallocAcceptedWrong)

/- THE SECOND FORM. 'bulk': how many values and letters a reading holds, each counted each time it is reached (what is shared counts as often as it is met; a slice's spare places count too). A statement '..UptoSaid' is the law's where the arguments, and the package variables that the reading takes, are together of bulk at most 1048576: NARROWER than '..Said'. Prove '..Said' where nothing that the law and all that it calls make is longer than what came in: it says more and counts as full. Else prove '..UptoSaid'. A law counts once. -/
mutual
def uptoBulk {H : Type} : DataW H → Nat
  | .lit (.string bytes) => bytes.length + 1
  | .lit _ => 1
  | .nil => 1
  | .ptr d => uptoBulk d + 1
  | .slice elems spare => uptoBulkAll elems + uptoBulkAll spare + 1
  | .agg parts => uptoBulkAll parts + 1
  | .iface _ d => uptoBulk d + 1
  | .map entries => uptoBulkEntries entries + 1
  | .held _ => 1
def uptoBulkAll {H : Type} : List (DataW H) → Nat
  | [] => 0
  | d :: r => uptoBulk d + uptoBulkAll r
def uptoBulkEntries {H : Type} : List (Lit × DataW H) → Nat
  | [] => 0
  | x :: r => uptoBulkEntry x + uptoBulkEntries r
def uptoBulkEntry {H : Type} : Lit × DataW H → Nat
  | (.string bytes, d) => bytes.length + uptoBulk d + 1
  | (_, d) => uptoBulk d + 1
 end
def uptoSmall : (H : Type) → List (DataW H) → Bool := fun _ ds => decide (uptoBulkAll ds ≤ 1048576)
def OpenSpec.upto (s : _root_.Go.ChangeSpec) : _root_.Go.OpenSpec := { _root_.Go.OpenSpec.ofChange s with cond := some uptoSmall }

/-- 'regcertlaw24.LocalallocAgain', WHERE WHAT IT READS IS OF BULK AT MOST 1048576: true; the input reads as it did. -/
def localallocAgainUptoRow : OpenClaim := { program := "ytnhaaijjfedgoaagreat", sum := "ded539a9e1eb437cb803a9dfb1c82730866bd28c60ee948f85c4475d7011d1c4", func := "regcert/regcertlaw24.LocalallocAgain", spec := "localallocAgain", unfollowed := true, recurses := true, apart := false, narrowed := true }
def LocalallocAgainUptoSaid : Prop := localallocAgainUptoRow.holds Tryz.pinned (OpenSpec.upto localallocAgainSpec)

/-- 'regcertlaw24.LocalallocSimulates', WHERE WHAT IT READS IS OF BULK AT MOST 1048576: true; the input reads as it did. -/
def localallocSimulatesUptoRow : OpenClaim := { program := "ytnhaaijjfedgoaagreat", sum := "ded539a9e1eb437cb803a9dfb1c82730866bd28c60ee948f85c4475d7011d1c4", func := "regcert/regcertlaw24.LocalallocSimulates", spec := "localallocSimulates", unfollowed := true, recurses := true, apart := false, narrowed := true }
def LocalallocSimulatesUptoSaid : Prop := localallocSimulatesUptoRow.holds Tryz.pinned (OpenSpec.upto localallocSimulatesSpec)

/-- 'regcertlaw25.WeakenMatchesReference', WHERE WHAT IT READS IS OF BULK AT MOST 1048576: true; the input reads as it did. -/
def weakenMatchesReferenceUptoRow : OpenClaim := { program := "ytnhaaijjfedgoaagreat", sum := "ded539a9e1eb437cb803a9dfb1c82730866bd28c60ee948f85c4475d7011d1c4", func := "regcert/regcertlaw25.WeakenMatchesReference", spec := "weakenMatchesReference", unfollowed := true, recurses := true, apart := false, narrowed := true }
def WeakenMatchesReferenceUptoSaid : Prop := weakenMatchesReferenceUptoRow.holds Tryz.pinned (OpenSpec.upto weakenMatchesReferenceSpec)

/-- 'regcertlaw25.WeakenLive', WHERE WHAT IT READS IS OF BULK AT MOST 1048576: true; the input reads as it did. -/
def weakenLiveUptoRow : OpenClaim := { program := "ytnhaaijjfedgoaagreat", sum := "ded539a9e1eb437cb803a9dfb1c82730866bd28c60ee948f85c4475d7011d1c4", func := "regcert/regcertlaw25.WeakenLive", spec := "weakenLive", unfollowed := true, recurses := true, apart := false, narrowed := true }
def WeakenLiveUptoSaid : Prop := weakenLiveUptoRow.holds Tryz.pinned (OpenSpec.upto weakenLiveSpec)

/-- 'regcertlaw25.WeakenMinimal', WHERE WHAT IT READS IS OF BULK AT MOST 1048576: true; the input reads as it did. -/
def weakenMinimalUptoRow : OpenClaim := { program := "ytnhaaijjfedgoaagreat", sum := "ded539a9e1eb437cb803a9dfb1c82730866bd28c60ee948f85c4475d7011d1c4", func := "regcert/regcertlaw25.WeakenMinimal", spec := "weakenMinimal", unfollowed := true, recurses := true, apart := false, narrowed := true }
def WeakenMinimalUptoSaid : Prop := weakenMinimalUptoRow.holds Tryz.pinned (OpenSpec.upto weakenMinimalSpec)

/-- 'regcertlaw25.WeakenKeeps', WHERE WHAT IT READS IS OF BULK AT MOST 1048576: true; the input reads as it did. -/
def weakenKeepsUptoRow : OpenClaim := { program := "ytnhaaijjfedgoaagreat", sum := "ded539a9e1eb437cb803a9dfb1c82730866bd28c60ee948f85c4475d7011d1c4", func := "regcert/regcertlaw25.WeakenKeeps", spec := "weakenKeeps", unfollowed := true, recurses := true, apart := false, narrowed := true }
def WeakenKeepsUptoSaid : Prop := weakenKeepsUptoRow.holds Tryz.pinned (OpenSpec.upto weakenKeepsSpec)

/-- 'regcertlaw24.LocalallocAccepted', WHERE WHAT IT READS IS OF BULK AT MOST 1048576: true; the input reads as it did. -/
def localallocAcceptedUptoRow : OpenClaim := { program := "ytnhaaijjfedgoaagreat", sum := "ded539a9e1eb437cb803a9dfb1c82730866bd28c60ee948f85c4475d7011d1c4", func := "regcert/regcertlaw24.LocalallocAccepted", spec := "localallocAccepted", unfollowed := true, recurses := true, apart := false, narrowed := true }
def LocalallocAcceptedUptoSaid : Prop := localallocAcceptedUptoRow.holds Tryz.pinned (OpenSpec.upto localallocAcceptedSpec)

end Rows
end Go.Proofs.YtnhaaijjfedgoaaGreat
