/-
  No cell of these rows narrows 'for every input' (looked for: loops, veiled, ifaces, maps, wideKeys, modest, calm, conditions, laid).
  DERIVED. THE GIVEN ROWS OF THIS SEAT. 5 by the template 'for every input the law returns true; each argument reads behind the call as it read before'; 0 by the template 'total and deterministic' (their statements: YtfoopmojjjpapaaGreatTotals.lean).
  GIVEN WITH THE SEED: the statements are not yours to turn. If you find one false, say at which input.
  Laid BY PROGRAM, IN A SANDBOX (cutbox-rows.mjs): the forced cells as the released guide's own fill.sh prints them over the translation 11d3b04664b0a2f1… (all of the seat's roots in one cut). By AI agents, Wed Nov 11 2026. No macro, syntax, notation, axiom, sorry.
-/
import Derived.Test.YtfoopmojjjpapaaGreatChecked
import GoSem.Claim
import GoSem.ClaimJoined
import GoSem.ClaimMapViews
import Derived.JoinedTies
import Derived.KernelRfl
namespace Go.Proofs.YtfoopmojjjpapaaGreat
/- THE CELL 'sum', in the pinned program and in every row, IS THE sha256 OF THE DUMP (.gsa) THAT YtfoopmojjjpapaaGreatProg.lean LOADS. Nothing in Lean hashes anything: it is a label: what it is worth is what the hold of that sum in a sandbox is worth. -/
noncomputable def Tryz.pinned : Pinned := { name := "ytfoopmojjjpapaagreat", sum := "11d3b04664b0a2f1637bd34e19369c1a98c806ee0e242624f6a6d8b8187d07b1", checked := Tryz.checked }
namespace Rows
def none {H : Type} : Left H := { results := [], args := [] }

/-- 'timetablelaw28.LowerboundMoves': WHATEVER THE INPUT: true; the input reads as it did. -/
def lowerboundMovesSpec : ChangeSpec := { name := "lowerboundMoves", fn := fun _ => fun
  | [d1, d2, d3] => { results := [.lit (.bool true)], args := [d1, d2, d3] }
  | _ => none }
def lowerboundMovesRow : OpenClaim := { program := "ytfoopmojjjpapaagreat", sum := "11d3b04664b0a2f1637bd34e19369c1a98c806ee0e242624f6a6d8b8187d07b1", func := "timetable/timetablelaw28.LowerboundMoves", spec := "lowerboundMoves", unfollowed := true, recurses := true, plainKeys := false, apart := false }
def LowerboundMovesSaid : Prop := lowerboundMovesRow.holds Tryz.pinned (OpenSpec.ofChange lowerboundMovesSpec)

/-- ITS FALSE NEIGHBOUR: 'it returns false'. Refute it at one input. -/
def lowerboundMovesWrong : ChangeSpec := { name := "lowerboundMoves", fn := fun _ => fun
  | [d1, d2, d3] => { results := [.lit (.bool false)], args := [d1, d2, d3] }
  | _ => none }
def LowerboundMovesWrongFalsely : Prop := lowerboundMovesRow.holds Tryz.pinned (OpenSpec.ofChange lowerboundMovesWrong)

/-- 'timetablelaw28.LowerboundForest': WHATEVER THE INPUT: true; the input reads as it did. -/
def lowerboundForestSpec : ChangeSpec := { name := "lowerboundForest", fn := fun _ => fun
  | [d1, d2] => { results := [.lit (.bool true)], args := [d1, d2] }
  | _ => none }
def lowerboundForestRow : OpenClaim := { program := "ytfoopmojjjpapaagreat", sum := "11d3b04664b0a2f1637bd34e19369c1a98c806ee0e242624f6a6d8b8187d07b1", func := "timetable/timetablelaw28.LowerboundForest", spec := "lowerboundForest", unfollowed := true, recurses := true, plainKeys := false, apart := false }
def LowerboundForestSaid : Prop := lowerboundForestRow.holds Tryz.pinned (OpenSpec.ofChange lowerboundForestSpec)

/-- ITS FALSE NEIGHBOUR: 'it returns false'. Refute it at one input. -/
def lowerboundForestWrong : ChangeSpec := { name := "lowerboundForest", fn := fun _ => fun
  | [d1, d2] => { results := [.lit (.bool false)], args := [d1, d2] }
  | _ => none }
def LowerboundForestWrongFalsely : Prop := lowerboundForestRow.holds Tryz.pinned (OpenSpec.ofChange lowerboundForestWrong)

/-- 'timetablelaw28.LowerboundSingle': WHATEVER THE INPUT: true; the input reads as it did. -/
def lowerboundSingleSpec : ChangeSpec := { name := "lowerboundSingle", fn := fun _ => fun
  | [d1, d2] => { results := [.lit (.bool true)], args := [d1, d2] }
  | _ => none }
def lowerboundSingleRow : OpenClaim := { program := "ytfoopmojjjpapaagreat", sum := "11d3b04664b0a2f1637bd34e19369c1a98c806ee0e242624f6a6d8b8187d07b1", func := "timetable/timetablelaw28.LowerboundSingle", spec := "lowerboundSingle", unfollowed := true, recurses := true, plainKeys := false, apart := false }
def LowerboundSingleSaid : Prop := lowerboundSingleRow.holds Tryz.pinned (OpenSpec.ofChange lowerboundSingleSpec)

/-- ITS FALSE NEIGHBOUR: 'it returns false'. Refute it at one input. -/
def lowerboundSingleWrong : ChangeSpec := { name := "lowerboundSingle", fn := fun _ => fun
  | [d1, d2] => { results := [.lit (.bool false)], args := [d1, d2] }
  | _ => none }
def LowerboundSingleWrongFalsely : Prop := lowerboundSingleRow.holds Tryz.pinned (OpenSpec.ofChange lowerboundSingleWrong)

/-- 'timetablelaw28.LowerboundSplits': WHATEVER THE INPUT: true; the input reads as it did. -/
def lowerboundSplitsSpec : ChangeSpec := { name := "lowerboundSplits", fn := fun _ => fun
  | [d1, d2, d3] => { results := [.lit (.bool true)], args := [d1, d2, d3] }
  | _ => none }
def lowerboundSplitsRow : OpenClaim := { program := "ytfoopmojjjpapaagreat", sum := "11d3b04664b0a2f1637bd34e19369c1a98c806ee0e242624f6a6d8b8187d07b1", func := "timetable/timetablelaw28.LowerboundSplits", spec := "lowerboundSplits", unfollowed := true, recurses := true, plainKeys := false, apart := false }
def LowerboundSplitsSaid : Prop := lowerboundSplitsRow.holds Tryz.pinned (OpenSpec.ofChange lowerboundSplitsSpec)

/-- ITS FALSE NEIGHBOUR: 'it returns false'. Refute it at one input. -/
def lowerboundSplitsWrong : ChangeSpec := { name := "lowerboundSplits", fn := fun _ => fun
  | [d1, d2, d3] => { results := [.lit (.bool false)], args := [d1, d2, d3] }
  | _ => none }
def LowerboundSplitsWrongFalsely : Prop := lowerboundSplitsRow.holds Tryz.pinned (OpenSpec.ofChange lowerboundSplitsWrong)

/-- 'timetablelaw28.LowerboundExact': WHATEVER THE INPUT: true; the input reads as it did. -/
def lowerboundExactSpec : ChangeSpec := { name := "lowerboundExact", fn := fun _ => fun
  | [d1, d2, d3] => { results := [.lit (.bool true)], args := [d1, d2, d3] }
  | _ => none }
def lowerboundExactRow : OpenClaim := { program := "ytfoopmojjjpapaagreat", sum := "11d3b04664b0a2f1637bd34e19369c1a98c806ee0e242624f6a6d8b8187d07b1", func := "timetable/timetablelaw28.LowerboundExact", spec := "lowerboundExact", unfollowed := true, recurses := true, plainKeys := false, apart := false }
def LowerboundExactSaid : Prop := lowerboundExactRow.holds Tryz.pinned (OpenSpec.ofChange lowerboundExactSpec)

/-- ITS FALSE NEIGHBOUR: 'it returns false'. Refute it at one input. -/
def lowerboundExactWrong : ChangeSpec := { name := "lowerboundExact", fn := fun _ => fun
  | [d1, d2, d3] => { results := [.lit (.bool false)], args := [d1, d2, d3] }
  | _ => none }
def LowerboundExactWrongFalsely : Prop := lowerboundExactRow.holds Tryz.pinned (OpenSpec.ofChange lowerboundExactWrong)

/- THE SECOND FORM. 'bulk': how many values and letters a reading holds, each counted each time it is reached (what is shared counts as often as it is met; a slice's spare places count too). A statement '..UptoSaid' is the law's where the arguments, and the package variables that the reading takes, are together of bulk at most 1048576: NARROWER than '..Said'. Prove '..Said' where nothing that the law and all that it calls make is longer than what came in: it says more and counts as full. Else prove '..UptoSaid'. A law counts once. -/
mutual
def uptoBulk {H : Type} : DataW H → Nat
  | .lit (.string bytes) => bytes.length + 1
  | .lit _ => 1
  | .nil => 1
  | .ptr d => uptoBulk d + 1
  | .slice elems spare => uptoBulkAll elems + uptoBulkAll spare + 1
  | .agg parts => uptoBulkAll parts + 1
  | .iface _ d => uptoBulk d + 1
  | .map entries => uptoBulkEntries entries + 1
  | .held _ => 1
def uptoBulkAll {H : Type} : List (DataW H) → Nat
  | [] => 0
  | d :: r => uptoBulk d + uptoBulkAll r
def uptoBulkEntries {H : Type} : List (Lit × DataW H) → Nat
  | [] => 0
  | x :: r => uptoBulkEntry x + uptoBulkEntries r
def uptoBulkEntry {H : Type} : Lit × DataW H → Nat
  | (.string bytes, d) => bytes.length + uptoBulk d + 1
  | (_, d) => uptoBulk d + 1
 end
def uptoSmall : (H : Type) → List (DataW H) → Bool := fun _ ds => decide (uptoBulkAll ds ≤ 1048576)
def OpenSpec.upto (s : _root_.Go.ChangeSpec) : _root_.Go.OpenSpec := { _root_.Go.OpenSpec.ofChange s with cond := some uptoSmall }

/-- 'timetablelaw28.LowerboundMoves', WHERE WHAT IT READS IS OF BULK AT MOST 1048576: true; the input reads as it did. -/
def lowerboundMovesUptoRow : OpenClaim := { program := "ytfoopmojjjpapaagreat", sum := "11d3b04664b0a2f1637bd34e19369c1a98c806ee0e242624f6a6d8b8187d07b1", func := "timetable/timetablelaw28.LowerboundMoves", spec := "lowerboundMoves", unfollowed := true, recurses := true, plainKeys := false, apart := false, narrowed := true }
def LowerboundMovesUptoSaid : Prop := lowerboundMovesUptoRow.holds Tryz.pinned (OpenSpec.upto lowerboundMovesSpec)

/-- 'timetablelaw28.LowerboundForest', WHERE WHAT IT READS IS OF BULK AT MOST 1048576: true; the input reads as it did. -/
def lowerboundForestUptoRow : OpenClaim := { program := "ytfoopmojjjpapaagreat", sum := "11d3b04664b0a2f1637bd34e19369c1a98c806ee0e242624f6a6d8b8187d07b1", func := "timetable/timetablelaw28.LowerboundForest", spec := "lowerboundForest", unfollowed := true, recurses := true, plainKeys := false, apart := false, narrowed := true }
def LowerboundForestUptoSaid : Prop := lowerboundForestUptoRow.holds Tryz.pinned (OpenSpec.upto lowerboundForestSpec)

/-- 'timetablelaw28.LowerboundSingle', WHERE WHAT IT READS IS OF BULK AT MOST 1048576: true; the input reads as it did. -/
def lowerboundSingleUptoRow : OpenClaim := { program := "ytfoopmojjjpapaagreat", sum := "11d3b04664b0a2f1637bd34e19369c1a98c806ee0e242624f6a6d8b8187d07b1", func := "timetable/timetablelaw28.LowerboundSingle", spec := "lowerboundSingle", unfollowed := true, recurses := true, plainKeys := false, apart := false, narrowed := true }
def LowerboundSingleUptoSaid : Prop := lowerboundSingleUptoRow.holds Tryz.pinned (OpenSpec.upto lowerboundSingleSpec)

/-- 'timetablelaw28.LowerboundSplits', WHERE WHAT IT READS IS OF BULK AT MOST 1048576: true; the input reads as it did. -/
def lowerboundSplitsUptoRow : OpenClaim := { program := "ytfoopmojjjpapaagreat", sum := "11d3b04664b0a2f1637bd34e19369c1a98c806ee0e242624f6a6d8b8187d07b1", func := "timetable/timetablelaw28.LowerboundSplits", spec := "lowerboundSplits", unfollowed := true, recurses := true, plainKeys := false, apart := false, narrowed := true }
def LowerboundSplitsUptoSaid : Prop := lowerboundSplitsUptoRow.holds Tryz.pinned (OpenSpec.upto lowerboundSplitsSpec)

/-- 'timetablelaw28.LowerboundExact', WHERE WHAT IT READS IS OF BULK AT MOST 1048576: true; the input reads as it did. -/
def lowerboundExactUptoRow : OpenClaim := { program := "ytfoopmojjjpapaagreat", sum := "11d3b04664b0a2f1637bd34e19369c1a98c806ee0e242624f6a6d8b8187d07b1", func := "timetable/timetablelaw28.LowerboundExact", spec := "lowerboundExact", unfollowed := true, recurses := true, plainKeys := false, apart := false, narrowed := true }
def LowerboundExactUptoSaid : Prop := lowerboundExactUptoRow.holds Tryz.pinned (OpenSpec.upto lowerboundExactSpec)

end Rows
end Go.Proofs.YtfoopmojjjpapaaGreat
