/-
  DERIVED. GIVEN WITH THE SEED: THE CARDS: each row of YtpnildiammmjcaaDoorRows.lean that lists a variable, with what it lists TIED to the program's text (the seventh form; the later family's looks); each row that meets fmt, with fmt's text TOLD by the authors' own Lean function (tested against real Go, not proved from fmt's source: count such statements apart). THE CARD IS WHAT COUNTS. Prove the row's statement (the work); the ties are given (YtpnildiammmjcaaDoorTie.lean); close each card by the builder's one call (the guide's Derived/Test/ToyasCard.lean, 'card_holds'). Laid BY PROGRAM, IN A SANDBOX (cutbox-door.mjs). By AI agents, Wed Nov 11 2026. No macro, syntax, notation, axiom, sorry.
-/
import Derived.Test.YtpnildiammmjcaaDoorRows
import GoSem.ClaimSeven
namespace Go.Proofs.YtpnildiammmjcaaDoor
namespace Rows

/-- THE TIED CARD OF 'regcertlaw04.LocationBijection'. -/
def locationBijectionCard : Claim7 := { stood := { row := locationBijectionRow, standIns := [], harness := (true, "a0a9bdfcb8bcea98ca501f61681c2f14ba37c799694764ae0c6a5c70e13d3557"), looks := false }, kinds := [], alts := [], laidByText := true, laidKinds := [.data, .data, .data], laidTests := true, laidLooks := .later }
def LocationBijectionCardSaid : Prop := Claim7.holds Tryd.pinned (.plain (OpenSpec.ofChange locationBijectionSpec)) locationBijectionCard

/-- THE TIED CARD OF 'regcertlaw04.LocationTexts'. -/
def locationTextsCard : Claim7 := { stood := { row := locationTextsRow, standIns := [], harness := (true, "a0a9bdfcb8bcea98ca501f61681c2f14ba37c799694764ae0c6a5c70e13d3557"), looks := false }, kinds := [], alts := [], laidByText := true, laidKinds := [.data, .data, .data], laidTests := true, laidLooks := .later }
def LocationTextsCardSaid : Prop := Claim7.holds Tryd.pinned (.plain (OpenSpec.ofChange locationTextsSpec)) locationTextsCard

/-- THE TIED CARD OF 'regcertlaw04.LocationMatchesReference'. -/
def locationMatchesReferenceCard : Claim7 := { stood := { row := locationMatchesReferenceRow, standIns := [], harness := (true, "a0a9bdfcb8bcea98ca501f61681c2f14ba37c799694764ae0c6a5c70e13d3557"), looks := false }, kinds := [], alts := [], laidByText := true, laidKinds := [.data, .data, .data], laidTests := true, laidLooks := .later }
def LocationMatchesReferenceCardSaid : Prop := Claim7.holds Tryd.pinned (.plain (OpenSpec.ofChange locationMatchesReferenceSpec)) locationMatchesReferenceCard

/-- THE TIED CARD OF 'regcertlaw04.LocationRange'. -/
def locationRangeCard : Claim7 := { stood := { row := locationRangeRow, standIns := [], harness := (true, "a0a9bdfcb8bcea98ca501f61681c2f14ba37c799694764ae0c6a5c70e13d3557"), looks := false }, kinds := [], alts := [], laidByText := true, laidKinds := [.data, .data, .data], laidTests := true, laidLooks := .later }
def LocationRangeCardSaid : Prop := Claim7.holds Tryd.pinned (.plain (OpenSpec.ofChange locationRangeSpec)) locationRangeCard

/-- THE SECOND FORM's CARD OF 'regcertlaw04.LocationBijection'. -/
def locationBijectionUptoCard : Claim7 := { stood := { row := locationBijectionUptoRow, standIns := [], harness := (true, "a0a9bdfcb8bcea98ca501f61681c2f14ba37c799694764ae0c6a5c70e13d3557"), looks := false }, kinds := [], alts := [], laidByText := true, laidKinds := [.data, .data, .data], laidTests := true, laidLooks := .later }
def LocationBijectionUptoCardSaid : Prop := Claim7.holds Tryd.pinned (.plain (OpenSpec.upto locationBijectionSpec)) locationBijectionUptoCard

/-- THE SECOND FORM's CARD OF 'regcertlaw04.LocationTexts'. -/
def locationTextsUptoCard : Claim7 := { stood := { row := locationTextsUptoRow, standIns := [], harness := (true, "a0a9bdfcb8bcea98ca501f61681c2f14ba37c799694764ae0c6a5c70e13d3557"), looks := false }, kinds := [], alts := [], laidByText := true, laidKinds := [.data, .data, .data], laidTests := true, laidLooks := .later }
def LocationTextsUptoCardSaid : Prop := Claim7.holds Tryd.pinned (.plain (OpenSpec.upto locationTextsSpec)) locationTextsUptoCard

/-- THE SECOND FORM's CARD OF 'regcertlaw04.LocationMatchesReference'. -/
def locationMatchesReferenceUptoCard : Claim7 := { stood := { row := locationMatchesReferenceUptoRow, standIns := [], harness := (true, "a0a9bdfcb8bcea98ca501f61681c2f14ba37c799694764ae0c6a5c70e13d3557"), looks := false }, kinds := [], alts := [], laidByText := true, laidKinds := [.data, .data, .data], laidTests := true, laidLooks := .later }
def LocationMatchesReferenceUptoCardSaid : Prop := Claim7.holds Tryd.pinned (.plain (OpenSpec.upto locationMatchesReferenceSpec)) locationMatchesReferenceUptoCard

/-- THE SECOND FORM's CARD OF 'regcertlaw04.LocationRange'. -/
def locationRangeUptoCard : Claim7 := { stood := { row := locationRangeUptoRow, standIns := [], harness := (true, "a0a9bdfcb8bcea98ca501f61681c2f14ba37c799694764ae0c6a5c70e13d3557"), looks := false }, kinds := [], alts := [], laidByText := true, laidKinds := [.data, .data, .data], laidTests := true, laidLooks := .later }
def LocationRangeUptoCardSaid : Prop := Claim7.holds Tryd.pinned (.plain (OpenSpec.upto locationRangeSpec)) locationRangeUptoCard
end Rows
end Go.Proofs.YtpnildiammmjcaaDoor
