/-
  DERIVED. GIVEN WITH THE SEED: THE CARDS: each row of YtocadlecfddbcaaDoorRows.lean that lists a variable, with what it lists TIED to the program's text (the seventh form; the later family's looks); each row that meets fmt, with fmt's text TOLD by the authors' own Lean function (tested against real Go, not proved from fmt's source: count such statements apart). THE CARD IS WHAT COUNTS. Prove the row's statement (the work); the ties are given (YtocadlecfddbcaaDoorTie.lean); close each card by the builder's one call (the guide's Derived/Test/ToyasCard.lean, 'card_holds'). Laid BY PROGRAM, IN A SANDBOX (cutbox-door.mjs). By AI agents, Wed Nov 11 2026. No macro, syntax, notation, axiom, sorry.
-/
import Derived.Test.YtocadlecfddbcaaDoorRows
import GoSem.ClaimSeven
namespace Go.Proofs.YtocadlecfddbcaaDoor
namespace Rows

/-- THE TIED CARD OF 'trustquorumlaw42.CatchupTrusts'. -/
def catchupTrustsCard : Claim7 := { stood := { row := catchupTrustsRow, standIns := [], harness := (true, "065e6d96f0ce1658c41e0b15684b64512bac77d11bd0c87d73997dd771e68c81"), looks := true }, kinds := [], alts := [], laidByText := true, laidKinds := [.data, .data, .data], laidTests := true, laidLooks := .later }
def CatchupTrustsCardSaid : Prop := Claim7.holds Tryd.pinned (.plain (OpenSpec.ofChange catchupTrustsSpec)) catchupTrustsCard

/-- THE TIED CARD OF 'trustquorumlaw17.ClaimsTexts'. -/
def claimsTextsCard : Claim7 := { stood := { row := claimsTextsRow, standIns := [], harness := (true, "065e6d96f0ce1658c41e0b15684b64512bac77d11bd0c87d73997dd771e68c81"), looks := true }, kinds := [], alts := [], laidByText := true, laidKinds := [.data, .data, .data, .sentinel, .sentinel, .listed, .data], laidTests := true, laidLooks := .later }
def ClaimsTextsCardSaid : Prop := Claim7.holds Tryd.pinned (.plain (OpenSpec.ofChange claimsTextsSpec)) claimsTextsCard

/-- THE TIED CARD OF 'trustquorumlaw17.ClaimsContradict'. -/
def claimsContradictCard : Claim7 := { stood := { row := claimsContradictRow, standIns := [], harness := (true, "065e6d96f0ce1658c41e0b15684b64512bac77d11bd0c87d73997dd771e68c81"), looks := true }, kinds := [], alts := [], laidByText := true, laidKinds := [.data, .data, .data, .sentinel, .sentinel, .listed, .data], laidTests := true, laidLooks := .later }
def ClaimsContradictCardSaid : Prop := Claim7.holds Tryd.pinned (.plain (OpenSpec.ofChange claimsContradictSpec)) claimsContradictCard

/-- THE TIED CARD OF 'trustquorumlaw17.ClaimsUnion'. -/
def claimsUnionCard : Claim7 := { stood := { row := claimsUnionRow, standIns := [], harness := (true, "065e6d96f0ce1658c41e0b15684b64512bac77d11bd0c87d73997dd771e68c81"), looks := true }, kinds := [], alts := [], laidByText := true, laidKinds := [.data, .data, .data, .sentinel, .sentinel, .listed, .data], laidTests := true, laidLooks := .later }
def ClaimsUnionCardSaid : Prop := Claim7.holds Tryd.pinned (.plain (OpenSpec.ofChange claimsUnionSpec)) claimsUnionCard

/-- THE SECOND FORM's CARD OF 'trustquorumlaw42.CatchupTrusts'. -/
def catchupTrustsUptoCard : Claim7 := { stood := { row := catchupTrustsUptoRow, standIns := [], harness := (true, "065e6d96f0ce1658c41e0b15684b64512bac77d11bd0c87d73997dd771e68c81"), looks := true }, kinds := [], alts := [], laidByText := true, laidKinds := [.data, .data, .data], laidTests := true, laidLooks := .later }
def CatchupTrustsUptoCardSaid : Prop := Claim7.holds Tryd.pinned (.plain (OpenSpec.upto catchupTrustsSpec)) catchupTrustsUptoCard

/-- THE SECOND FORM's CARD OF 'trustquorumlaw17.ClaimsTexts'. -/
def claimsTextsUptoCard : Claim7 := { stood := { row := claimsTextsUptoRow, standIns := [], harness := (true, "065e6d96f0ce1658c41e0b15684b64512bac77d11bd0c87d73997dd771e68c81"), looks := true }, kinds := [], alts := [], laidByText := true, laidKinds := [.data, .data, .data, .sentinel, .sentinel, .listed, .data], laidTests := true, laidLooks := .later }
def ClaimsTextsUptoCardSaid : Prop := Claim7.holds Tryd.pinned (.plain (OpenSpec.upto claimsTextsSpec)) claimsTextsUptoCard

/-- THE SECOND FORM's CARD OF 'trustquorumlaw17.ClaimsContradict'. -/
def claimsContradictUptoCard : Claim7 := { stood := { row := claimsContradictUptoRow, standIns := [], harness := (true, "065e6d96f0ce1658c41e0b15684b64512bac77d11bd0c87d73997dd771e68c81"), looks := true }, kinds := [], alts := [], laidByText := true, laidKinds := [.data, .data, .data, .sentinel, .sentinel, .listed, .data], laidTests := true, laidLooks := .later }
def ClaimsContradictUptoCardSaid : Prop := Claim7.holds Tryd.pinned (.plain (OpenSpec.upto claimsContradictSpec)) claimsContradictUptoCard

/-- THE SECOND FORM's CARD OF 'trustquorumlaw17.ClaimsUnion'. -/
def claimsUnionUptoCard : Claim7 := { stood := { row := claimsUnionUptoRow, standIns := [], harness := (true, "065e6d96f0ce1658c41e0b15684b64512bac77d11bd0c87d73997dd771e68c81"), looks := true }, kinds := [], alts := [], laidByText := true, laidKinds := [.data, .data, .data, .sentinel, .sentinel, .listed, .data], laidTests := true, laidLooks := .later }
def ClaimsUnionUptoCardSaid : Prop := Claim7.holds Tryd.pinned (.plain (OpenSpec.upto claimsUnionSpec)) claimsUnionUptoCard
end Rows
end Go.Proofs.YtocadlecfddbcaaDoor
