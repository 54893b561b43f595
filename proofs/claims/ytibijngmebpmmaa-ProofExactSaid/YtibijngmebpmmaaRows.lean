/-
  No cell of these rows narrows 'for every input' (looked for: loops, veiled, ifaces, maps, wideKeys, modest, calm, conditions, laid).
  DERIVED. THE GIVEN ROWS OF THIS SEAT. 4 by the template 'for every input the law returns true; each argument reads behind the call as it read before'; 0 by the template 'total and deterministic' (their statements: YtibijngmebpmmaaTotals.lean).
  GIVEN WITH THE SEED: the statements are not yours to turn. If you find one false, say at which input.
  Laid BY PROGRAM, IN A SANDBOX (cutbox-rows.mjs): the forced cells as the released guide's own fill.sh prints them over the translation c8e5bc75b9607608… (all of the seat's roots in one cut). By AI agents, Wed Nov 11 2026. No macro, syntax, notation, axiom, sorry.
-/
import Derived.Test.YtibijngmebpmmaaChecked
import GoSem.Claim
import GoSem.ClaimJoined
import GoSem.ClaimMapViews
import Derived.JoinedTies
import Derived.KernelRfl
namespace Go.Proofs.Ytibijngmebpmmaa
/- THE CELL 'sum', in the pinned program and in every row, IS THE sha256 OF THE DUMP (.gsa) THAT YtibijngmebpmmaaProg.lean LOADS. Nothing in Lean hashes anything: it is a label: what it is worth is what the hold of that sum in a sandbox is worth. -/
noncomputable def Try.pinned : Pinned := { name := "ytibijngmebpmmaa", sum := "c8e5bc75b9607608212cc5dc666d80c4949ae8512dd743c412206b557402bb15", checked := Try.checked }
namespace Rows
def none {H : Type} : Left H := { results := [], args := [] }

/-- 'timetablelaw21.ProofBounds': WHATEVER THE INPUT: true; the input reads as it did. -/
def proofBoundsSpec : ChangeSpec := { name := "proofBounds", fn := fun _ => fun
  | [d] => { results := [.lit (.bool true)], args := [d] }
  | _ => none }
def proofBoundsRow : OpenClaim := { program := "ytibijngmebpmmaa", sum := "c8e5bc75b9607608212cc5dc666d80c4949ae8512dd743c412206b557402bb15", func := "timetable/timetablelaw21.ProofBounds", spec := "proofBounds", unfollowed := true, recurses := true, apart := false }
def ProofBoundsSaid : Prop := proofBoundsRow.holds Try.pinned (OpenSpec.ofChange proofBoundsSpec)

/-- ITS FALSE NEIGHBOUR: 'it returns false'. Refute it at one input. -/
def proofBoundsWrong : ChangeSpec := { name := "proofBounds", fn := fun _ => fun
  | [d] => { results := [.lit (.bool false)], args := [d] }
  | _ => none }
def ProofBoundsWrongFalsely : Prop := proofBoundsRow.holds Try.pinned (OpenSpec.ofChange proofBoundsWrong)

/-- 'timetablelaw21.ProofComplete': WHATEVER THE INPUT: true; the input reads as it did. -/
def proofCompleteSpec : ChangeSpec := { name := "proofComplete", fn := fun _ => fun
  | [d] => { results := [.lit (.bool true)], args := [d] }
  | _ => none }
def proofCompleteRow : OpenClaim := { program := "ytibijngmebpmmaa", sum := "c8e5bc75b9607608212cc5dc666d80c4949ae8512dd743c412206b557402bb15", func := "timetable/timetablelaw21.ProofComplete", spec := "proofComplete", unfollowed := true, recurses := true, apart := false }
def ProofCompleteSaid : Prop := proofCompleteRow.holds Try.pinned (OpenSpec.ofChange proofCompleteSpec)

/-- ITS FALSE NEIGHBOUR: 'it returns false'. Refute it at one input. -/
def proofCompleteWrong : ChangeSpec := { name := "proofComplete", fn := fun _ => fun
  | [d] => { results := [.lit (.bool false)], args := [d] }
  | _ => none }
def ProofCompleteWrongFalsely : Prop := proofCompleteRow.holds Try.pinned (OpenSpec.ofChange proofCompleteWrong)

/-- 'timetablelaw21.ProofSplits': WHATEVER THE INPUT: true; the input reads as it did. -/
def proofSplitsSpec : ChangeSpec := { name := "proofSplits", fn := fun _ => fun
  | [d1, d2] => { results := [.lit (.bool true)], args := [d1, d2] }
  | _ => none }
def proofSplitsRow : OpenClaim := { program := "ytibijngmebpmmaa", sum := "c8e5bc75b9607608212cc5dc666d80c4949ae8512dd743c412206b557402bb15", func := "timetable/timetablelaw21.ProofSplits", spec := "proofSplits", unfollowed := true, recurses := true, apart := false }
def ProofSplitsSaid : Prop := proofSplitsRow.holds Try.pinned (OpenSpec.ofChange proofSplitsSpec)

/-- ITS FALSE NEIGHBOUR: 'it returns false'. Refute it at one input. -/
def proofSplitsWrong : ChangeSpec := { name := "proofSplits", fn := fun _ => fun
  | [d1, d2] => { results := [.lit (.bool false)], args := [d1, d2] }
  | _ => none }
def ProofSplitsWrongFalsely : Prop := proofSplitsRow.holds Try.pinned (OpenSpec.ofChange proofSplitsWrong)

/-- 'timetablelaw21.ProofExact': WHATEVER THE INPUT: true; the input reads as it did. -/
def proofExactSpec : ChangeSpec := { name := "proofExact", fn := fun _ => fun
  | [d1, d2, d3] => { results := [.lit (.bool true)], args := [d1, d2, d3] }
  | _ => none }
def proofExactRow : OpenClaim := { program := "ytibijngmebpmmaa", sum := "c8e5bc75b9607608212cc5dc666d80c4949ae8512dd743c412206b557402bb15", func := "timetable/timetablelaw21.ProofExact", spec := "proofExact", unfollowed := true, recurses := true, apart := false }
def ProofExactSaid : Prop := proofExactRow.holds Try.pinned (OpenSpec.ofChange proofExactSpec)

/-- ITS FALSE NEIGHBOUR: 'it returns false'. Refute it at one input. -/
def proofExactWrong : ChangeSpec := { name := "proofExact", fn := fun _ => fun
  | [d1, d2, d3] => { results := [.lit (.bool false)], args := [d1, d2, d3] }
  | _ => none }
def ProofExactWrongFalsely : Prop := proofExactRow.holds Try.pinned (OpenSpec.ofChange proofExactWrong)

/- THE SECOND FORM. 'bulk': how many values and letters a reading holds, each counted each time it is reached (what is shared counts as often as it is met; a slice's spare places count too). A statement '..UptoSaid' is the law's where the arguments, and the package variables that the reading takes, are together of bulk at most 1048576: NARROWER than '..Said'. Prove '..Said' where nothing that the law and all that it calls make is longer than what came in: it says more and counts as full. Else prove '..UptoSaid'. A law counts once. -/
mutual
def uptoBulk {H : Type} : DataW H → Nat
  | .lit (.string bytes) => bytes.length + 1
  | .lit _ => 1
  | .nil => 1
  | .ptr d => uptoBulk d + 1
  | .slice elems spare => uptoBulkAll elems + uptoBulkAll spare + 1
  | .agg parts => uptoBulkAll parts + 1
  | .iface _ d => uptoBulk d + 1
  | .map entries => uptoBulkEntries entries + 1
  | .held _ => 1
def uptoBulkAll {H : Type} : List (DataW H) → Nat
  | [] => 0
  | d :: r => uptoBulk d + uptoBulkAll r
def uptoBulkEntries {H : Type} : List (Lit × DataW H) → Nat
  | [] => 0
  | x :: r => uptoBulkEntry x + uptoBulkEntries r
def uptoBulkEntry {H : Type} : Lit × DataW H → Nat
  | (.string bytes, d) => bytes.length + uptoBulk d + 1
  | (_, d) => uptoBulk d + 1
 end
def uptoSmall : (H : Type) → List (DataW H) → Bool := fun _ ds => decide (uptoBulkAll ds ≤ 1048576)
def OpenSpec.upto (s : _root_.Go.ChangeSpec) : _root_.Go.OpenSpec := { _root_.Go.OpenSpec.ofChange s with cond := some uptoSmall }

/-- 'timetablelaw21.ProofBounds', WHERE WHAT IT READS IS OF BULK AT MOST 1048576: true; the input reads as it did. -/
def proofBoundsUptoRow : OpenClaim := { program := "ytibijngmebpmmaa", sum := "c8e5bc75b9607608212cc5dc666d80c4949ae8512dd743c412206b557402bb15", func := "timetable/timetablelaw21.ProofBounds", spec := "proofBounds", unfollowed := true, recurses := true, apart := false, narrowed := true }
def ProofBoundsUptoSaid : Prop := proofBoundsUptoRow.holds Try.pinned (OpenSpec.upto proofBoundsSpec)

/-- 'timetablelaw21.ProofComplete', WHERE WHAT IT READS IS OF BULK AT MOST 1048576: true; the input reads as it did. -/
def proofCompleteUptoRow : OpenClaim := { program := "ytibijngmebpmmaa", sum := "c8e5bc75b9607608212cc5dc666d80c4949ae8512dd743c412206b557402bb15", func := "timetable/timetablelaw21.ProofComplete", spec := "proofComplete", unfollowed := true, recurses := true, apart := false, narrowed := true }
def ProofCompleteUptoSaid : Prop := proofCompleteUptoRow.holds Try.pinned (OpenSpec.upto proofCompleteSpec)

/-- 'timetablelaw21.ProofSplits', WHERE WHAT IT READS IS OF BULK AT MOST 1048576: true; the input reads as it did. -/
def proofSplitsUptoRow : OpenClaim := { program := "ytibijngmebpmmaa", sum := "c8e5bc75b9607608212cc5dc666d80c4949ae8512dd743c412206b557402bb15", func := "timetable/timetablelaw21.ProofSplits", spec := "proofSplits", unfollowed := true, recurses := true, apart := false, narrowed := true }
def ProofSplitsUptoSaid : Prop := proofSplitsUptoRow.holds Try.pinned (OpenSpec.upto proofSplitsSpec)

/-- 'timetablelaw21.ProofExact', WHERE WHAT IT READS IS OF BULK AT MOST 1048576: true; the input reads as it did. -/
def proofExactUptoRow : OpenClaim := { program := "ytibijngmebpmmaa", sum := "c8e5bc75b9607608212cc5dc666d80c4949ae8512dd743c412206b557402bb15", func := "timetable/timetablelaw21.ProofExact", spec := "proofExact", unfollowed := true, recurses := true, apart := false, narrowed := true }
def ProofExactUptoSaid : Prop := proofExactUptoRow.holds Try.pinned (OpenSpec.upto proofExactSpec)

end Rows
end Go.Proofs.Ytibijngmebpmmaa
