/-
  DERIVED. GIVEN WITH THE SEED: THE CARDS: each row of YtocadlecfddbcaaGreatDoorRows.lean that lists a variable, with what it lists TIED to the program's text (the seventh form; the later family's looks); each row that meets fmt, with fmt's text TOLD by the authors' own Lean function (tested against real Go, not proved from fmt's source: count such statements apart). THE CARD IS WHAT COUNTS. Prove the row's statement (the work); the ties are given (YtocadlecfddbcaaGreatDoorTie.lean); close each card by the builder's one call (the guide's Derived/Test/ToyasCard.lean, 'card_holds'). Laid BY PROGRAM, IN A SANDBOX (cutbox-door.mjs). By AI agents, Wed Nov 11 2026. No macro, syntax, notation, axiom, sorry.
-/
import Derived.Test.YtocadlecfddbcaaGreatDoorRows
import GoSem.ClaimSeven
namespace Go.Proofs.YtocadlecfddbcaaGreatDoor
namespace Rows

/-- THE TIED CARD OF 'trustquorumlaw17.ClaimsAnswers'. -/
def claimsAnswersCard : Claim7 := { stood := { row := claimsAnswersRow, standIns := [], harness := (true, "9bab70f80d099f955eb53e185af3aeeb1e3681bed5d762d983055a1672534ad5"), looks := true }, kinds := [], alts := [], laidByText := true, laidKinds := [.data, .data, .data, .sentinel, .sentinel, .listed, .data], laidTests := true, laidLooks := .later }
def ClaimsAnswersCardSaid : Prop := Claim7.holds Tryz.pinned (.plain (OpenSpec.ofChange claimsAnswersSpec)) claimsAnswersCard

/-- THE SECOND FORM's CARD OF 'trustquorumlaw17.ClaimsAnswers'. -/
def claimsAnswersUptoCard : Claim7 := { stood := { row := claimsAnswersUptoRow, standIns := [], harness := (true, "9bab70f80d099f955eb53e185af3aeeb1e3681bed5d762d983055a1672534ad5"), looks := true }, kinds := [], alts := [], laidByText := true, laidKinds := [.data, .data, .data, .sentinel, .sentinel, .listed, .data], laidTests := true, laidLooks := .later }
def ClaimsAnswersUptoCardSaid : Prop := Claim7.holds Tryz.pinned (.plain (OpenSpec.upto claimsAnswersSpec)) claimsAnswersUptoCard
end Rows
end Go.Proofs.YtocadlecfddbcaaGreatDoor
