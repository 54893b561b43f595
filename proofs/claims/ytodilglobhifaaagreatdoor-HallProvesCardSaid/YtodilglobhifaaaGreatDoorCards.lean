/-
  DERIVED. GIVEN WITH THE SEED: THE CARDS: each row of YtodilglobhifaaaGreatDoorRows.lean that lists a variable, with what it lists TIED to the program's text (the seventh form; the later family's looks); each row that meets fmt, with fmt's text TOLD by the authors' own Lean function (tested against real Go, not proved from fmt's source: count such statements apart). THE CARD IS WHAT COUNTS. Prove the row's statement (the work); the ties are given (YtodilglobhifaaaGreatDoorTie.lean); close each card by the builder's one call (the guide's Derived/Test/ToyasCard.lean, 'card_holds'). Laid BY PROGRAM, IN A SANDBOX (cutbox-door.mjs). By AI agents, Wed Nov 11 2026. No macro, syntax, notation, axiom, sorry.
-/
import Derived.Test.YtodilglobhifaaaGreatDoorRows
import GoSem.ClaimSeven
namespace Go.Proofs.YtodilglobhifaaaGreatDoor
namespace Rows

/-- THE TIED CARD OF 'timetablelaw23.HallFinds'. -/
def hallFindsCard : Claim7 := { stood := { row := hallFindsRow, standIns := [], harness := (true, "a36933b7d052cbfbe5baf51585a024f8b2500ece2773e023caae47c30ac2d696"), looks := false }, kinds := [], alts := [], laidByText := true, laidKinds := [.data, .data], laidTests := true, laidLooks := .later }
def HallFindsCardSaid : Prop := Claim7.holds Tryz.pinned (.plain (OpenSpec.ofChange hallFindsSpec)) hallFindsCard

/-- THE TIED CARD OF 'timetablelaw23.HallProves'. -/
def hallProvesCard : Claim7 := { stood := { row := hallProvesRow, standIns := [], harness := (true, "a36933b7d052cbfbe5baf51585a024f8b2500ece2773e023caae47c30ac2d696"), looks := false }, kinds := [], alts := [], laidByText := true, laidKinds := [.data, .data], laidTests := true, laidLooks := .later }
def HallProvesCardSaid : Prop := Claim7.holds Tryz.pinned (.plain (OpenSpec.ofChange hallProvesSpec)) hallProvesCard

/-- THE SECOND FORM's CARD OF 'timetablelaw23.HallFinds'. -/
def hallFindsUptoCard : Claim7 := { stood := { row := hallFindsUptoRow, standIns := [], harness := (true, "a36933b7d052cbfbe5baf51585a024f8b2500ece2773e023caae47c30ac2d696"), looks := false }, kinds := [], alts := [], laidByText := true, laidKinds := [.data, .data], laidTests := true, laidLooks := .later }
def HallFindsUptoCardSaid : Prop := Claim7.holds Tryz.pinned (.plain (OpenSpec.upto hallFindsSpec)) hallFindsUptoCard

/-- THE SECOND FORM's CARD OF 'timetablelaw23.HallProves'. -/
def hallProvesUptoCard : Claim7 := { stood := { row := hallProvesUptoRow, standIns := [], harness := (true, "a36933b7d052cbfbe5baf51585a024f8b2500ece2773e023caae47c30ac2d696"), looks := false }, kinds := [], alts := [], laidByText := true, laidKinds := [.data, .data], laidTests := true, laidLooks := .later }
def HallProvesUptoCardSaid : Prop := Claim7.holds Tryz.pinned (.plain (OpenSpec.upto hallProvesSpec)) hallProvesUptoCard
end Rows
end Go.Proofs.YtodilglobhifaaaGreatDoor
