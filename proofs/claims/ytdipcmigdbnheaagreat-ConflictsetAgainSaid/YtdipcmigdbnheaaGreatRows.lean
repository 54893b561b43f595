/-
  No cell of these rows narrows 'for every input' (looked for: loops, veiled, ifaces, maps, wideKeys, modest, calm, conditions, laid).
  DERIVED. THE GIVEN ROWS OF THIS SEAT. 8 by the template 'for every input the law returns true; each argument reads behind the call as it read before'; 0 by the template 'total and deterministic' (their statements: YtdipcmigdbnheaaGreatTotals.lean).
  GIVEN WITH THE SEED: the statements are not yours to turn. If you find one false, say at which input.
  Laid BY PROGRAM, IN A SANDBOX (cutbox-rows.mjs): the forced cells as the released guide's own fill.sh prints them over the translation 70564d799e39df01… (all of the seat's roots in one cut). By AI agents, Wed Nov 11 2026. No macro, syntax, notation, axiom, sorry.
-/
import Derived.Test.YtdipcmigdbnheaaGreatChecked
import GoSem.Claim
import GoSem.ClaimJoined
import GoSem.ClaimMapViews
import Derived.JoinedTies
import Derived.KernelRfl
namespace Go.Proofs.YtdipcmigdbnheaaGreat
/- THE CELL 'sum', in the pinned program and in every row, IS THE sha256 OF THE DUMP (.gsa) THAT YtdipcmigdbnheaaGreatProg.lean LOADS. Nothing in Lean hashes anything: it is a label: what it is worth is what the hold of that sum in a sandbox is worth. -/
noncomputable def Tryz.pinned : Pinned := { name := "ytdipcmigdbnheaagreat", sum := "70564d799e39df0160c7fb2c22ef74307211879eb8926511c059dace70af75db", checked := Tryz.checked }
namespace Rows
def none {H : Type} : Left H := { results := [], args := [] }

/-- 'timetablelaw29.BranchHard': WHATEVER THE INPUT: true; the input reads as it did. -/
def branchHardSpec : ChangeSpec := { name := "branchHard", fn := fun _ => fun
  | [d] => { results := [.lit (.bool true)], args := [d] }
  | _ => none }
def branchHardRow : OpenClaim := { program := "ytdipcmigdbnheaagreat", sum := "70564d799e39df0160c7fb2c22ef74307211879eb8926511c059dace70af75db", func := "timetable/timetablelaw29.BranchHard", spec := "branchHard", unfollowed := true, recurses := true, apart := false }
def BranchHardSaid : Prop := branchHardRow.holds Tryz.pinned (OpenSpec.ofChange branchHardSpec)

/-- ITS FALSE NEIGHBOUR: 'it returns false'. Refute it at one input. -/
def branchHardWrong : ChangeSpec := { name := "branchHard", fn := fun _ => fun
  | [d] => { results := [.lit (.bool false)], args := [d] }
  | _ => none }
def BranchHardWrongFalsely : Prop := branchHardRow.holds Tryz.pinned (OpenSpec.ofChange branchHardWrong)

/-- 'timetablelaw29.BranchSearches': WHATEVER THE INPUT: true; the input reads as it did. -/
def branchSearchesSpec : ChangeSpec := { name := "branchSearches", fn := fun _ => fun
  | [d1, d2] => { results := [.lit (.bool true)], args := [d1, d2] }
  | _ => none }
def branchSearchesRow : OpenClaim := { program := "ytdipcmigdbnheaagreat", sum := "70564d799e39df0160c7fb2c22ef74307211879eb8926511c059dace70af75db", func := "timetable/timetablelaw29.BranchSearches", spec := "branchSearches", unfollowed := true, recurses := true, apart := false }
def BranchSearchesSaid : Prop := branchSearchesRow.holds Tryz.pinned (OpenSpec.ofChange branchSearchesSpec)

/-- ITS FALSE NEIGHBOUR: 'it returns false'. Refute it at one input. -/
def branchSearchesWrong : ChangeSpec := { name := "branchSearches", fn := fun _ => fun
  | [d1, d2] => { results := [.lit (.bool false)], args := [d1, d2] }
  | _ => none }
def BranchSearchesWrongFalsely : Prop := branchSearchesRow.holds Tryz.pinned (OpenSpec.ofChange branchSearchesWrong)

/-- 'timetablelaw29.BranchWide': WHATEVER THE INPUT: true; the input reads as it did. -/
def branchWideSpec : ChangeSpec := { name := "branchWide", fn := fun _ => fun
  | [d1, d2] => { results := [.lit (.bool true)], args := [d1, d2] }
  | _ => none }
def branchWideRow : OpenClaim := { program := "ytdipcmigdbnheaagreat", sum := "70564d799e39df0160c7fb2c22ef74307211879eb8926511c059dace70af75db", func := "timetable/timetablelaw29.BranchWide", spec := "branchWide", unfollowed := true, recurses := true, apart := false }
def BranchWideSaid : Prop := branchWideRow.holds Tryz.pinned (OpenSpec.ofChange branchWideSpec)

/-- ITS FALSE NEIGHBOUR: 'it returns false'. Refute it at one input. -/
def branchWideWrong : ChangeSpec := { name := "branchWide", fn := fun _ => fun
  | [d1, d2] => { results := [.lit (.bool false)], args := [d1, d2] }
  | _ => none }
def BranchWideWrongFalsely : Prop := branchWideRow.holds Tryz.pinned (OpenSpec.ofChange branchWideWrong)

/-- 'timetablelaw30.ConflictsetReduces': WHATEVER THE INPUT: true; the input reads as it did. -/
def conflictsetReducesSpec : ChangeSpec := { name := "conflictsetReduces", fn := fun _ => fun
  | [d] => { results := [.lit (.bool true)], args := [d] }
  | _ => none }
def conflictsetReducesRow : OpenClaim := { program := "ytdipcmigdbnheaagreat", sum := "70564d799e39df0160c7fb2c22ef74307211879eb8926511c059dace70af75db", func := "timetable/timetablelaw30.ConflictsetReduces", spec := "conflictsetReduces", unfollowed := true, recurses := true, apart := false }
def ConflictsetReducesSaid : Prop := conflictsetReducesRow.holds Tryz.pinned (OpenSpec.ofChange conflictsetReducesSpec)

/-- ITS FALSE NEIGHBOUR: 'it returns false'. Refute it at one input. -/
def conflictsetReducesWrong : ChangeSpec := { name := "conflictsetReduces", fn := fun _ => fun
  | [d] => { results := [.lit (.bool false)], args := [d] }
  | _ => none }
def ConflictsetReducesWrongFalsely : Prop := conflictsetReducesRow.holds Tryz.pinned (OpenSpec.ofChange conflictsetReducesWrong)

/-- 'timetablelaw30.ConflictsetExplains': WHATEVER THE INPUT: true; the input reads as it did. -/
def conflictsetExplainsSpec : ChangeSpec := { name := "conflictsetExplains", fn := fun _ => fun
  | [d] => { results := [.lit (.bool true)], args := [d] }
  | _ => none }
def conflictsetExplainsRow : OpenClaim := { program := "ytdipcmigdbnheaagreat", sum := "70564d799e39df0160c7fb2c22ef74307211879eb8926511c059dace70af75db", func := "timetable/timetablelaw30.ConflictsetExplains", spec := "conflictsetExplains", unfollowed := true, recurses := true, apart := false }
def ConflictsetExplainsSaid : Prop := conflictsetExplainsRow.holds Tryz.pinned (OpenSpec.ofChange conflictsetExplainsSpec)

/-- ITS FALSE NEIGHBOUR: 'it returns false'. Refute it at one input. -/
def conflictsetExplainsWrong : ChangeSpec := { name := "conflictsetExplains", fn := fun _ => fun
  | [d] => { results := [.lit (.bool false)], args := [d] }
  | _ => none }
def ConflictsetExplainsWrongFalsely : Prop := conflictsetExplainsRow.holds Tryz.pinned (OpenSpec.ofChange conflictsetExplainsWrong)

/-- 'timetablelaw30.ConflictsetChecks': WHATEVER THE INPUT: true; the input reads as it did. -/
def conflictsetChecksSpec : ChangeSpec := { name := "conflictsetChecks", fn := fun _ => fun
  | [d1, d2, d3, d4] => { results := [.lit (.bool true)], args := [d1, d2, d3, d4] }
  | _ => none }
def conflictsetChecksRow : OpenClaim := { program := "ytdipcmigdbnheaagreat", sum := "70564d799e39df0160c7fb2c22ef74307211879eb8926511c059dace70af75db", func := "timetable/timetablelaw30.ConflictsetChecks", spec := "conflictsetChecks", unfollowed := true, recurses := true, apart := false }
def ConflictsetChecksSaid : Prop := conflictsetChecksRow.holds Tryz.pinned (OpenSpec.ofChange conflictsetChecksSpec)

/-- ITS FALSE NEIGHBOUR: 'it returns false'. Refute it at one input. -/
def conflictsetChecksWrong : ChangeSpec := { name := "conflictsetChecks", fn := fun _ => fun
  | [d1, d2, d3, d4] => { results := [.lit (.bool false)], args := [d1, d2, d3, d4] }
  | _ => none }
def ConflictsetChecksWrongFalsely : Prop := conflictsetChecksRow.holds Tryz.pinned (OpenSpec.ofChange conflictsetChecksWrong)

/-- 'timetablelaw30.ConflictsetMeans': WHATEVER THE INPUT: true; the input reads as it did. -/
def conflictsetMeansSpec : ChangeSpec := { name := "conflictsetMeans", fn := fun _ => fun
  | [d1, d2] => { results := [.lit (.bool true)], args := [d1, d2] }
  | _ => none }
def conflictsetMeansRow : OpenClaim := { program := "ytdipcmigdbnheaagreat", sum := "70564d799e39df0160c7fb2c22ef74307211879eb8926511c059dace70af75db", func := "timetable/timetablelaw30.ConflictsetMeans", spec := "conflictsetMeans", unfollowed := true, recurses := true, apart := false }
def ConflictsetMeansSaid : Prop := conflictsetMeansRow.holds Tryz.pinned (OpenSpec.ofChange conflictsetMeansSpec)

/-- ITS FALSE NEIGHBOUR: 'it returns false'. Refute it at one input. -/
def conflictsetMeansWrong : ChangeSpec := { name := "conflictsetMeans", fn := fun _ => fun
  | [d1, d2] => { results := [.lit (.bool false)], args := [d1, d2] }
  | _ => none }
def ConflictsetMeansWrongFalsely : Prop := conflictsetMeansRow.holds Tryz.pinned (OpenSpec.ofChange conflictsetMeansWrong)

/-- 'timetablelaw30.ConflictsetAgain': WHATEVER THE INPUT: true; the input reads as it did. -/
def conflictsetAgainSpec : ChangeSpec := { name := "conflictsetAgain", fn := fun _ => fun
  | [d] => { results := [.lit (.bool true)], args := [d] }
  | _ => none }
def conflictsetAgainRow : OpenClaim := { program := "ytdipcmigdbnheaagreat", sum := "70564d799e39df0160c7fb2c22ef74307211879eb8926511c059dace70af75db", func := "timetable/timetablelaw30.ConflictsetAgain", spec := "conflictsetAgain", unfollowed := true, recurses := true, apart := false }
def ConflictsetAgainSaid : Prop := conflictsetAgainRow.holds Tryz.pinned (OpenSpec.ofChange conflictsetAgainSpec)

/-- ITS FALSE NEIGHBOUR: 'it returns false'. Refute it at one input. -/
def conflictsetAgainWrong : ChangeSpec := { name := "conflictsetAgain", fn := fun _ => fun
  | [d] => { results := [.lit (.bool false)], args := [d] }
  | _ => none }
def ConflictsetAgainWrongFalsely : Prop := conflictsetAgainRow.holds Tryz.pinned (OpenSpec.ofChange conflictsetAgainWrong)

/- THE SECOND FORM. 'bulk': how many values and letters a reading holds, each counted each time it is reached (what is shared counts as often as it is met; a slice's spare places count too). A statement '..UptoSaid' is the law's where the arguments, and the package variables that the reading takes, are together of bulk at most 1048576: NARROWER than '..Said'. Prove '..Said' where nothing that the law and all that it calls make is longer than what came in: it says more and counts as full. Else prove '..UptoSaid'. A law counts once. -/
mutual
def uptoBulk {H : Type} : DataW H → Nat
  | .lit (.string bytes) => bytes.length + 1
  | .lit _ => 1
  | .nil => 1
  | .ptr d => uptoBulk d + 1
  | .slice elems spare => uptoBulkAll elems + uptoBulkAll spare + 1
  | .agg parts => uptoBulkAll parts + 1
  | .iface _ d => uptoBulk d + 1
  | .map entries => uptoBulkEntries entries + 1
  | .held _ => 1
def uptoBulkAll {H : Type} : List (DataW H) → Nat
  | [] => 0
  | d :: r => uptoBulk d + uptoBulkAll r
def uptoBulkEntries {H : Type} : List (Lit × DataW H) → Nat
  | [] => 0
  | x :: r => uptoBulkEntry x + uptoBulkEntries r
def uptoBulkEntry {H : Type} : Lit × DataW H → Nat
  | (.string bytes, d) => bytes.length + uptoBulk d + 1
  | (_, d) => uptoBulk d + 1
 end
def uptoSmall : (H : Type) → List (DataW H) → Bool := fun _ ds => decide (uptoBulkAll ds ≤ 1048576)
def OpenSpec.upto (s : _root_.Go.ChangeSpec) : _root_.Go.OpenSpec := { _root_.Go.OpenSpec.ofChange s with cond := some uptoSmall }

/-- 'timetablelaw29.BranchHard', WHERE WHAT IT READS IS OF BULK AT MOST 1048576: true; the input reads as it did. -/
def branchHardUptoRow : OpenClaim := { program := "ytdipcmigdbnheaagreat", sum := "70564d799e39df0160c7fb2c22ef74307211879eb8926511c059dace70af75db", func := "timetable/timetablelaw29.BranchHard", spec := "branchHard", unfollowed := true, recurses := true, apart := false, narrowed := true }
def BranchHardUptoSaid : Prop := branchHardUptoRow.holds Tryz.pinned (OpenSpec.upto branchHardSpec)

/-- 'timetablelaw29.BranchSearches', WHERE WHAT IT READS IS OF BULK AT MOST 1048576: true; the input reads as it did. -/
def branchSearchesUptoRow : OpenClaim := { program := "ytdipcmigdbnheaagreat", sum := "70564d799e39df0160c7fb2c22ef74307211879eb8926511c059dace70af75db", func := "timetable/timetablelaw29.BranchSearches", spec := "branchSearches", unfollowed := true, recurses := true, apart := false, narrowed := true }
def BranchSearchesUptoSaid : Prop := branchSearchesUptoRow.holds Tryz.pinned (OpenSpec.upto branchSearchesSpec)

/-- 'timetablelaw29.BranchWide', WHERE WHAT IT READS IS OF BULK AT MOST 1048576: true; the input reads as it did. -/
def branchWideUptoRow : OpenClaim := { program := "ytdipcmigdbnheaagreat", sum := "70564d799e39df0160c7fb2c22ef74307211879eb8926511c059dace70af75db", func := "timetable/timetablelaw29.BranchWide", spec := "branchWide", unfollowed := true, recurses := true, apart := false, narrowed := true }
def BranchWideUptoSaid : Prop := branchWideUptoRow.holds Tryz.pinned (OpenSpec.upto branchWideSpec)

/-- 'timetablelaw30.ConflictsetReduces', WHERE WHAT IT READS IS OF BULK AT MOST 1048576: true; the input reads as it did. -/
def conflictsetReducesUptoRow : OpenClaim := { program := "ytdipcmigdbnheaagreat", sum := "70564d799e39df0160c7fb2c22ef74307211879eb8926511c059dace70af75db", func := "timetable/timetablelaw30.ConflictsetReduces", spec := "conflictsetReduces", unfollowed := true, recurses := true, apart := false, narrowed := true }
def ConflictsetReducesUptoSaid : Prop := conflictsetReducesUptoRow.holds Tryz.pinned (OpenSpec.upto conflictsetReducesSpec)

/-- 'timetablelaw30.ConflictsetExplains', WHERE WHAT IT READS IS OF BULK AT MOST 1048576: true; the input reads as it did. -/
def conflictsetExplainsUptoRow : OpenClaim := { program := "ytdipcmigdbnheaagreat", sum := "70564d799e39df0160c7fb2c22ef74307211879eb8926511c059dace70af75db", func := "timetable/timetablelaw30.ConflictsetExplains", spec := "conflictsetExplains", unfollowed := true, recurses := true, apart := false, narrowed := true }
def ConflictsetExplainsUptoSaid : Prop := conflictsetExplainsUptoRow.holds Tryz.pinned (OpenSpec.upto conflictsetExplainsSpec)

/-- 'timetablelaw30.ConflictsetChecks', WHERE WHAT IT READS IS OF BULK AT MOST 1048576: true; the input reads as it did. -/
def conflictsetChecksUptoRow : OpenClaim := { program := "ytdipcmigdbnheaagreat", sum := "70564d799e39df0160c7fb2c22ef74307211879eb8926511c059dace70af75db", func := "timetable/timetablelaw30.ConflictsetChecks", spec := "conflictsetChecks", unfollowed := true, recurses := true, apart := false, narrowed := true }
def ConflictsetChecksUptoSaid : Prop := conflictsetChecksUptoRow.holds Tryz.pinned (OpenSpec.upto conflictsetChecksSpec)

/-- 'timetablelaw30.ConflictsetMeans', WHERE WHAT IT READS IS OF BULK AT MOST 1048576: true; the input reads as it did. -/
def conflictsetMeansUptoRow : OpenClaim := { program := "ytdipcmigdbnheaagreat", sum := "70564d799e39df0160c7fb2c22ef74307211879eb8926511c059dace70af75db", func := "timetable/timetablelaw30.ConflictsetMeans", spec := "conflictsetMeans", unfollowed := true, recurses := true, apart := false, narrowed := true }
def ConflictsetMeansUptoSaid : Prop := conflictsetMeansUptoRow.holds Tryz.pinned (OpenSpec.upto conflictsetMeansSpec)

/-- 'timetablelaw30.ConflictsetAgain', WHERE WHAT IT READS IS OF BULK AT MOST 1048576: true; the input reads as it did. -/
def conflictsetAgainUptoRow : OpenClaim := { program := "ytdipcmigdbnheaagreat", sum := "70564d799e39df0160c7fb2c22ef74307211879eb8926511c059dace70af75db", func := "timetable/timetablelaw30.ConflictsetAgain", spec := "conflictsetAgain", unfollowed := true, recurses := true, apart := false, narrowed := true }
def ConflictsetAgainUptoSaid : Prop := conflictsetAgainUptoRow.holds Tryz.pinned (OpenSpec.upto conflictsetAgainSpec)

end Rows
end Go.Proofs.YtdipcmigdbnheaaGreat
