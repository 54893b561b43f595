/-
  No cell of these rows narrows 'for every input' (looked for: loops, veiled, ifaces, maps, wideKeys, modest, calm, conditions, laid).
  DERIVED. THE GIVEN ROWS OF THIS SEAT. 3 by the template 'for every input the law returns true; each argument reads behind the call as it read before'; 0 by the template 'total and deterministic' (their statements: YthejfdpomacflaaTotals.lean).
  GIVEN WITH THE SEED: the statements are not yours to turn. If you find one false, say at which input.
  Laid BY PROGRAM, IN A SANDBOX (cutbox-rows.mjs): the forced cells as the released guide's own fill.sh prints them over the translation fbfccf40d5b1c1f2… (all of the seat's roots in one cut). By AI agents, Wed Nov 11 2026. No macro, syntax, notation, axiom, sorry.
-/
import Derived.Test.YthejfdpomacflaaChecked
import GoSem.Claim
import GoSem.ClaimJoined
import GoSem.ClaimMapViews
import Derived.JoinedTies
import Derived.KernelRfl
namespace Go.Proofs.Ythejfdpomacflaa
/- THE CELL 'sum', in the pinned program and in every row, IS THE sha256 OF THE DUMP (.gsa) THAT YthejfdpomacflaaProg.lean LOADS. Nothing in Lean hashes anything: it is a label: what it is worth is what the hold of that sum in a sandbox is worth. -/
noncomputable def Try.pinned : Pinned := { name := "ythejfdpomacflaa", sum := "fbfccf40d5b1c1f2bffd3f0350088d7c615b0b5523fb3a9baf6365ae438a7265", checked := Try.checked }
namespace Rows
def none {H : Type} : Left H := { results := [], args := [] }

/-- 'timetablelaw23.HallMatches': WHATEVER THE INPUT: true; the input reads as it did. -/
def hallMatchesSpec : ChangeSpec := { name := "hallMatches", fn := fun _ => fun
  | [d1, d2, d3] => { results := [.lit (.bool true)], args := [d1, d2, d3] }
  | _ => none }
def hallMatchesRow : OpenClaim := { program := "ythejfdpomacflaa", sum := "fbfccf40d5b1c1f2bffd3f0350088d7c615b0b5523fb3a9baf6365ae438a7265", func := "timetable/timetablelaw23.HallMatches", spec := "hallMatches", unfollowed := true, recurses := true, apart := false }
def HallMatchesSaid : Prop := hallMatchesRow.holds Try.pinned (OpenSpec.ofChange hallMatchesSpec)

/-- ITS FALSE NEIGHBOUR: 'it returns false'. Refute it at one input. -/
def hallMatchesWrong : ChangeSpec := { name := "hallMatches", fn := fun _ => fun
  | [d1, d2, d3] => { results := [.lit (.bool false)], args := [d1, d2, d3] }
  | _ => none }
def HallMatchesWrongFalsely : Prop := hallMatchesRow.holds Try.pinned (OpenSpec.ofChange hallMatchesWrong)

/-- 'timetablelaw23.HallDeficient': WHATEVER THE INPUT: true; the input reads as it did. -/
def hallDeficientSpec : ChangeSpec := { name := "hallDeficient", fn := fun _ => fun
  | [d1, d2, d3] => { results := [.lit (.bool true)], args := [d1, d2, d3] }
  | _ => none }
def hallDeficientRow : OpenClaim := { program := "ythejfdpomacflaa", sum := "fbfccf40d5b1c1f2bffd3f0350088d7c615b0b5523fb3a9baf6365ae438a7265", func := "timetable/timetablelaw23.HallDeficient", spec := "hallDeficient", unfollowed := true, recurses := true, apart := false }
def HallDeficientSaid : Prop := hallDeficientRow.holds Try.pinned (OpenSpec.ofChange hallDeficientSpec)

/-- ITS FALSE NEIGHBOUR: 'it returns false'. Refute it at one input. -/
def hallDeficientWrong : ChangeSpec := { name := "hallDeficient", fn := fun _ => fun
  | [d1, d2, d3] => { results := [.lit (.bool false)], args := [d1, d2, d3] }
  | _ => none }
def HallDeficientWrongFalsely : Prop := hallDeficientRow.holds Try.pinned (OpenSpec.ofChange hallDeficientWrong)

/-- 'timetablelaw23.HallCounts': WHATEVER THE INPUT: true; the input reads as it did. -/
def hallCountsSpec : ChangeSpec := { name := "hallCounts", fn := fun _ => fun
  | [d] => { results := [.lit (.bool true)], args := [d] }
  | _ => none }
def hallCountsRow : OpenClaim := { program := "ythejfdpomacflaa", sum := "fbfccf40d5b1c1f2bffd3f0350088d7c615b0b5523fb3a9baf6365ae438a7265", func := "timetable/timetablelaw23.HallCounts", spec := "hallCounts", unfollowed := true, recurses := true, apart := false }
def HallCountsSaid : Prop := hallCountsRow.holds Try.pinned (OpenSpec.ofChange hallCountsSpec)

/-- ITS FALSE NEIGHBOUR: 'it returns false'. Refute it at one input. -/
def hallCountsWrong : ChangeSpec := { name := "hallCounts", fn := fun _ => fun
  | [d] => { results := [.lit (.bool false)], args := [d] }
  | _ => none }
def HallCountsWrongFalsely : Prop := hallCountsRow.holds Try.pinned (OpenSpec.ofChange hallCountsWrong)

/- THE SECOND FORM. 'bulk': how many values and letters a reading holds, each counted each time it is reached (what is shared counts as often as it is met; a slice's spare places count too). A statement '..UptoSaid' is the law's where the arguments, and the package variables that the reading takes, are together of bulk at most 1048576: NARROWER than '..Said'. Prove '..Said' where nothing that the law and all that it calls make is longer than what came in: it says more and counts as full. Else prove '..UptoSaid'. A law counts once. -/
mutual
def uptoBulk {H : Type} : DataW H → Nat
  | .lit (.string bytes) => bytes.length + 1
  | .lit _ => 1
  | .nil => 1
  | .ptr d => uptoBulk d + 1
  | .slice elems spare => uptoBulkAll elems + uptoBulkAll spare + 1
  | .agg parts => uptoBulkAll parts + 1
  | .iface _ d => uptoBulk d + 1
  | .map entries => uptoBulkEntries entries + 1
  | .held _ => 1
def uptoBulkAll {H : Type} : List (DataW H) → Nat
  | [] => 0
  | d :: r => uptoBulk d + uptoBulkAll r
def uptoBulkEntries {H : Type} : List (Lit × DataW H) → Nat
  | [] => 0
  | x :: r => uptoBulkEntry x + uptoBulkEntries r
def uptoBulkEntry {H : Type} : Lit × DataW H → Nat
  | (.string bytes, d) => bytes.length + uptoBulk d + 1
  | (_, d) => uptoBulk d + 1
 end
def uptoSmall : (H : Type) → List (DataW H) → Bool := fun _ ds => decide (uptoBulkAll ds ≤ 1048576)
def OpenSpec.upto (s : _root_.Go.ChangeSpec) : _root_.Go.OpenSpec := { _root_.Go.OpenSpec.ofChange s with cond := some uptoSmall }

/-- 'timetablelaw23.HallMatches', WHERE WHAT IT READS IS OF BULK AT MOST 1048576: true; the input reads as it did. -/
def hallMatchesUptoRow : OpenClaim := { program := "ythejfdpomacflaa", sum := "fbfccf40d5b1c1f2bffd3f0350088d7c615b0b5523fb3a9baf6365ae438a7265", func := "timetable/timetablelaw23.HallMatches", spec := "hallMatches", unfollowed := true, recurses := true, apart := false, narrowed := true }
def HallMatchesUptoSaid : Prop := hallMatchesUptoRow.holds Try.pinned (OpenSpec.upto hallMatchesSpec)

/-- 'timetablelaw23.HallDeficient', WHERE WHAT IT READS IS OF BULK AT MOST 1048576: true; the input reads as it did. -/
def hallDeficientUptoRow : OpenClaim := { program := "ythejfdpomacflaa", sum := "fbfccf40d5b1c1f2bffd3f0350088d7c615b0b5523fb3a9baf6365ae438a7265", func := "timetable/timetablelaw23.HallDeficient", spec := "hallDeficient", unfollowed := true, recurses := true, apart := false, narrowed := true }
def HallDeficientUptoSaid : Prop := hallDeficientUptoRow.holds Try.pinned (OpenSpec.upto hallDeficientSpec)

/-- 'timetablelaw23.HallCounts', WHERE WHAT IT READS IS OF BULK AT MOST 1048576: true; the input reads as it did. -/
def hallCountsUptoRow : OpenClaim := { program := "ythejfdpomacflaa", sum := "fbfccf40d5b1c1f2bffd3f0350088d7c615b0b5523fb3a9baf6365ae438a7265", func := "timetable/timetablelaw23.HallCounts", spec := "hallCounts", unfollowed := true, recurses := true, apart := false, narrowed := true }
def HallCountsUptoSaid : Prop := hallCountsUptoRow.holds Try.pinned (OpenSpec.upto hallCountsSpec)

end Rows
end Go.Proofs.Ythejfdpomacflaa
