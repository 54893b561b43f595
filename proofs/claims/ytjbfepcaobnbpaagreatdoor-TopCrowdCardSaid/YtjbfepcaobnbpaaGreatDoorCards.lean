/-
  DERIVED. GIVEN WITH THE SEED: THE CARDS: each row of YtjbfepcaobnbpaaGreatDoorRows.lean that lists a variable, with what it lists TIED to the program's text (the seventh form; the later family's looks); each row that meets fmt, with fmt's text TOLD by the authors' own Lean function (tested against real Go, not proved from fmt's source: count such statements apart). THE CARD IS WHAT COUNTS. Prove the row's statement (the work); the ties are given (YtjbfepcaobnbpaaGreatDoorTie.lean); close each card by the builder's one call (the guide's Derived/Test/ToyasCard.lean, 'card_holds'). Laid BY PROGRAM, IN A SANDBOX (cutbox-door.mjs). By AI agents, Wed Nov 11 2026. No macro, syntax, notation, axiom, sorry.
-/
import Derived.Test.YtjbfepcaobnbpaaGreatDoorRows
import GoSem.ClaimSeven
namespace Go.Proofs.YtjbfepcaobnbpaaGreatDoor
namespace Rows

/-- THE TIED CARD OF 'timetabletop.TopCrowd'. -/
def topCrowdCard : Claim7 := { stood := { row := topCrowdRow, standIns := [], harness := (true, "d62f64dc50373d40474283e3cdbf9131c3b81751c3bb2fda7db235112bada9b3"), looks := true }, kinds := [], alts := [], laidByText := true, laidKinds := [.data, .data, .data, .data, .sentinel, .sentinel, .pinned], laidTests := true, laidLooks := .later }
def TopCrowdCardSaid : Prop := Claim7.holds Tryz.pinned (.plain (OpenSpec.ofChange topCrowdSpec)) topCrowdCard

/-- THE SECOND FORM's CARD OF 'timetabletop.TopCrowd'. -/
def topCrowdUptoCard : Claim7 := { stood := { row := topCrowdUptoRow, standIns := [], harness := (true, "d62f64dc50373d40474283e3cdbf9131c3b81751c3bb2fda7db235112bada9b3"), looks := true }, kinds := [], alts := [], laidByText := true, laidKinds := [.data, .data, .data, .data, .sentinel, .sentinel, .pinned], laidTests := true, laidLooks := .later }
def TopCrowdUptoCardSaid : Prop := Claim7.holds Tryz.pinned (.plain (OpenSpec.upto topCrowdSpec)) topCrowdUptoCard
end Rows
end Go.Proofs.YtjbfepcaobnbpaaGreatDoor
