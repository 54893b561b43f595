/-
  DERIVED. GIVEN WITH THE SEED: THE CARDS: each row of YtodilglobhifaaaDoorRows.lean that lists a variable, with what it lists TIED to the program's text (the seventh form; the later family's looks); each row that meets fmt, with fmt's text TOLD by the authors' own Lean function (tested against real Go, not proved from fmt's source: count such statements apart). THE CARD IS WHAT COUNTS. Prove the row's statement (the work); the ties are given (YtodilglobhifaaaDoorTie.lean); close each card by the builder's one call (the guide's Derived/Test/ToyasCard.lean, 'card_holds'). Laid BY PROGRAM, IN A SANDBOX (cutbox-door.mjs). By AI agents, Wed Nov 11 2026. No macro, syntax, notation, axiom, sorry.
-/
import Derived.Test.YtodilglobhifaaaDoorRows
import GoSem.ClaimSeven
namespace Go.Proofs.YtodilglobhifaaaDoor
namespace Rows

/-- THE TIED CARD OF 'timetablelaw23.HallComplete'. -/
def hallCompleteCard : Claim7 := { stood := { row := hallCompleteRow, standIns := [], harness := (true, "090c995ef22b5cd5e3b05d2746a9883c69f824fdbfb176612282b29310c3bfb6"), looks := false }, kinds := [], alts := [], laidByText := true, laidKinds := [.data, .data], laidTests := true, laidLooks := .later }
def HallCompleteCardSaid : Prop := Claim7.holds Tryd.pinned (.plain (OpenSpec.ofChange hallCompleteSpec)) hallCompleteCard

/-- THE SECOND FORM's CARD OF 'timetablelaw23.HallComplete'. -/
def hallCompleteUptoCard : Claim7 := { stood := { row := hallCompleteUptoRow, standIns := [], harness := (true, "090c995ef22b5cd5e3b05d2746a9883c69f824fdbfb176612282b29310c3bfb6"), looks := false }, kinds := [], alts := [], laidByText := true, laidKinds := [.data, .data], laidTests := true, laidLooks := .later }
def HallCompleteUptoCardSaid : Prop := Claim7.holds Tryd.pinned (.plain (OpenSpec.upto hallCompleteSpec)) hallCompleteUptoCard
end Rows
end Go.Proofs.YtodilglobhifaaaDoor
