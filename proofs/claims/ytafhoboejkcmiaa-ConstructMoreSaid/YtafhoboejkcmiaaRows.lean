/-
  No cell of these rows narrows 'for every input' (looked for: loops, veiled, ifaces, maps, wideKeys, modest, calm, conditions, laid).
  DERIVED. THE GIVEN ROWS OF THIS SEAT. 5 by the template 'for every input the law returns true; each argument reads behind the call as it read before'; 0 by the template 'total and deterministic' (their statements: YtafhoboejkcmiaaTotals.lean).
  GIVEN WITH THE SEED: the statements are not yours to turn. If you find one false, say at which input.
  Laid BY PROGRAM, IN A SANDBOX (cutbox-rows.mjs): the forced cells as the released guide's own fill.sh prints them over the translation fd0aaa23f032868f… (all of the seat's roots in one cut). By AI agents, Wed Nov 11 2026. No macro, syntax, notation, axiom, sorry.
-/
import Derived.Test.YtafhoboejkcmiaaChecked
import GoSem.Claim
import GoSem.ClaimJoined
import GoSem.ClaimMapViews
import Derived.JoinedTies
import Derived.KernelRfl
namespace Go.Proofs.Ytafhoboejkcmiaa
/- THE CELL 'sum', in the pinned program and in every row, IS THE sha256 OF THE DUMP (.gsa) THAT YtafhoboejkcmiaaProg.lean LOADS. Nothing in Lean hashes anything: it is a label: what it is worth is what the hold of that sum in a sandbox is worth. -/
noncomputable def Try.pinned : Pinned := { name := "ytafhoboejkcmiaa", sum := "fd0aaa23f032868f1a36c15cfdecdf52d02f676433aa2de33cdb4425dfc06add", checked := Try.checked }
namespace Rows
def none {H : Type} : Left H := { results := [], args := [] }

/-- 'timetablelaw26.ConstructSaturates': WHATEVER THE INPUT: true; the input reads as it did. -/
def constructSaturatesSpec : ChangeSpec := { name := "constructSaturates", fn := fun _ => fun
  | [d] => { results := [.lit (.bool true)], args := [d] }
  | _ => none }
def constructSaturatesRow : OpenClaim := { program := "ytafhoboejkcmiaa", sum := "fd0aaa23f032868f1a36c15cfdecdf52d02f676433aa2de33cdb4425dfc06add", func := "timetable/timetablelaw26.ConstructSaturates", spec := "constructSaturates", unfollowed := true, recurses := true, plainKeys := false, apart := false }
def ConstructSaturatesSaid : Prop := constructSaturatesRow.holds Try.pinned (OpenSpec.ofChange constructSaturatesSpec)

/-- ITS FALSE NEIGHBOUR: 'it returns false'. Refute it at one input. -/
def constructSaturatesWrong : ChangeSpec := { name := "constructSaturates", fn := fun _ => fun
  | [d] => { results := [.lit (.bool false)], args := [d] }
  | _ => none }
def ConstructSaturatesWrongFalsely : Prop := constructSaturatesRow.holds Try.pinned (OpenSpec.ofChange constructSaturatesWrong)

/-- 'timetablelaw26.ConstructEjects': WHATEVER THE INPUT: true; the input reads as it did. -/
def constructEjectsSpec : ChangeSpec := { name := "constructEjects", fn := fun _ => fun
  | [d1, d2, d3, d4] => { results := [.lit (.bool true)], args := [d1, d2, d3, d4] }
  | _ => none }
def constructEjectsRow : OpenClaim := { program := "ytafhoboejkcmiaa", sum := "fd0aaa23f032868f1a36c15cfdecdf52d02f676433aa2de33cdb4425dfc06add", func := "timetable/timetablelaw26.ConstructEjects", spec := "constructEjects", unfollowed := true, recurses := true, plainKeys := false, apart := false }
def ConstructEjectsSaid : Prop := constructEjectsRow.holds Try.pinned (OpenSpec.ofChange constructEjectsSpec)

/-- ITS FALSE NEIGHBOUR: 'it returns false'. Refute it at one input. -/
def constructEjectsWrong : ChangeSpec := { name := "constructEjects", fn := fun _ => fun
  | [d1, d2, d3, d4] => { results := [.lit (.bool false)], args := [d1, d2, d3, d4] }
  | _ => none }
def ConstructEjectsWrongFalsely : Prop := constructEjectsRow.holds Try.pinned (OpenSpec.ofChange constructEjectsWrong)

/-- 'timetablelaw26.ConstructFree': WHATEVER THE INPUT: true; the input reads as it did. -/
def constructFreeSpec : ChangeSpec := { name := "constructFree", fn := fun _ => fun
  | [d] => { results := [.lit (.bool true)], args := [d] }
  | _ => none }
def constructFreeRow : OpenClaim := { program := "ytafhoboejkcmiaa", sum := "fd0aaa23f032868f1a36c15cfdecdf52d02f676433aa2de33cdb4425dfc06add", func := "timetable/timetablelaw26.ConstructFree", spec := "constructFree", unfollowed := true, recurses := true, plainKeys := false, apart := false }
def ConstructFreeSaid : Prop := constructFreeRow.holds Try.pinned (OpenSpec.ofChange constructFreeSpec)

/-- ITS FALSE NEIGHBOUR: 'it returns false'. Refute it at one input. -/
def constructFreeWrong : ChangeSpec := { name := "constructFree", fn := fun _ => fun
  | [d] => { results := [.lit (.bool false)], args := [d] }
  | _ => none }
def ConstructFreeWrongFalsely : Prop := constructFreeRow.holds Try.pinned (OpenSpec.ofChange constructFreeWrong)

/-- 'timetablelaw26.ConstructBreaks': WHATEVER THE INPUT: true; the input reads as it did. -/
def constructBreaksSpec : ChangeSpec := { name := "constructBreaks", fn := fun _ => fun
  | [d1, d2] => { results := [.lit (.bool true)], args := [d1, d2] }
  | _ => none }
def constructBreaksRow : OpenClaim := { program := "ytafhoboejkcmiaa", sum := "fd0aaa23f032868f1a36c15cfdecdf52d02f676433aa2de33cdb4425dfc06add", func := "timetable/timetablelaw26.ConstructBreaks", spec := "constructBreaks", unfollowed := true, recurses := true, plainKeys := false, apart := false }
def ConstructBreaksSaid : Prop := constructBreaksRow.holds Try.pinned (OpenSpec.ofChange constructBreaksSpec)

/-- ITS FALSE NEIGHBOUR: 'it returns false'. Refute it at one input. -/
def constructBreaksWrong : ChangeSpec := { name := "constructBreaks", fn := fun _ => fun
  | [d1, d2] => { results := [.lit (.bool false)], args := [d1, d2] }
  | _ => none }
def ConstructBreaksWrongFalsely : Prop := constructBreaksRow.holds Try.pinned (OpenSpec.ofChange constructBreaksWrong)

/-- 'timetablelaw26.ConstructMore': WHATEVER THE INPUT: true; the input reads as it did. -/
def constructMoreSpec : ChangeSpec := { name := "constructMore", fn := fun _ => fun
  | [d1, d2, d3] => { results := [.lit (.bool true)], args := [d1, d2, d3] }
  | _ => none }
def constructMoreRow : OpenClaim := { program := "ytafhoboejkcmiaa", sum := "fd0aaa23f032868f1a36c15cfdecdf52d02f676433aa2de33cdb4425dfc06add", func := "timetable/timetablelaw26.ConstructMore", spec := "constructMore", unfollowed := true, recurses := true, plainKeys := false, apart := false }
def ConstructMoreSaid : Prop := constructMoreRow.holds Try.pinned (OpenSpec.ofChange constructMoreSpec)

/-- ITS FALSE NEIGHBOUR: 'it returns false'. Refute it at one input. -/
def constructMoreWrong : ChangeSpec := { name := "constructMore", fn := fun _ => fun
  | [d1, d2, d3] => { results := [.lit (.bool false)], args := [d1, d2, d3] }
  | _ => none }
def ConstructMoreWrongFalsely : Prop := constructMoreRow.holds Try.pinned (OpenSpec.ofChange constructMoreWrong)

/- THE SECOND FORM. 'bulk': how many values and letters a reading holds, each counted each time it is reached (what is shared counts as often as it is met; a slice's spare places count too). A statement '..UptoSaid' is the law's where the arguments, and the package variables that the reading takes, are together of bulk at most 1048576: NARROWER than '..Said'. Prove '..Said' where nothing that the law and all that it calls make is longer than what came in: it says more and counts as full. Else prove '..UptoSaid'. A law counts once. -/
mutual
def uptoBulk {H : Type} : DataW H → Nat
  | .lit (.string bytes) => bytes.length + 1
  | .lit _ => 1
  | .nil => 1
  | .ptr d => uptoBulk d + 1
  | .slice elems spare => uptoBulkAll elems + uptoBulkAll spare + 1
  | .agg parts => uptoBulkAll parts + 1
  | .iface _ d => uptoBulk d + 1
  | .map entries => uptoBulkEntries entries + 1
  | .held _ => 1
def uptoBulkAll {H : Type} : List (DataW H) → Nat
  | [] => 0
  | d :: r => uptoBulk d + uptoBulkAll r
def uptoBulkEntries {H : Type} : List (Lit × DataW H) → Nat
  | [] => 0
  | x :: r => uptoBulkEntry x + uptoBulkEntries r
def uptoBulkEntry {H : Type} : Lit × DataW H → Nat
  | (.string bytes, d) => bytes.length + uptoBulk d + 1
  | (_, d) => uptoBulk d + 1
 end
def uptoSmall : (H : Type) → List (DataW H) → Bool := fun _ ds => decide (uptoBulkAll ds ≤ 1048576)
def OpenSpec.upto (s : _root_.Go.ChangeSpec) : _root_.Go.OpenSpec := { _root_.Go.OpenSpec.ofChange s with cond := some uptoSmall }

/-- 'timetablelaw26.ConstructSaturates', WHERE WHAT IT READS IS OF BULK AT MOST 1048576: true; the input reads as it did. -/
def constructSaturatesUptoRow : OpenClaim := { program := "ytafhoboejkcmiaa", sum := "fd0aaa23f032868f1a36c15cfdecdf52d02f676433aa2de33cdb4425dfc06add", func := "timetable/timetablelaw26.ConstructSaturates", spec := "constructSaturates", unfollowed := true, recurses := true, plainKeys := false, apart := false, narrowed := true }
def ConstructSaturatesUptoSaid : Prop := constructSaturatesUptoRow.holds Try.pinned (OpenSpec.upto constructSaturatesSpec)

/-- 'timetablelaw26.ConstructEjects', WHERE WHAT IT READS IS OF BULK AT MOST 1048576: true; the input reads as it did. -/
def constructEjectsUptoRow : OpenClaim := { program := "ytafhoboejkcmiaa", sum := "fd0aaa23f032868f1a36c15cfdecdf52d02f676433aa2de33cdb4425dfc06add", func := "timetable/timetablelaw26.ConstructEjects", spec := "constructEjects", unfollowed := true, recurses := true, plainKeys := false, apart := false, narrowed := true }
def ConstructEjectsUptoSaid : Prop := constructEjectsUptoRow.holds Try.pinned (OpenSpec.upto constructEjectsSpec)

/-- 'timetablelaw26.ConstructFree', WHERE WHAT IT READS IS OF BULK AT MOST 1048576: true; the input reads as it did. -/
def constructFreeUptoRow : OpenClaim := { program := "ytafhoboejkcmiaa", sum := "fd0aaa23f032868f1a36c15cfdecdf52d02f676433aa2de33cdb4425dfc06add", func := "timetable/timetablelaw26.ConstructFree", spec := "constructFree", unfollowed := true, recurses := true, plainKeys := false, apart := false, narrowed := true }
def ConstructFreeUptoSaid : Prop := constructFreeUptoRow.holds Try.pinned (OpenSpec.upto constructFreeSpec)

/-- 'timetablelaw26.ConstructBreaks', WHERE WHAT IT READS IS OF BULK AT MOST 1048576: true; the input reads as it did. -/
def constructBreaksUptoRow : OpenClaim := { program := "ytafhoboejkcmiaa", sum := "fd0aaa23f032868f1a36c15cfdecdf52d02f676433aa2de33cdb4425dfc06add", func := "timetable/timetablelaw26.ConstructBreaks", spec := "constructBreaks", unfollowed := true, recurses := true, plainKeys := false, apart := false, narrowed := true }
def ConstructBreaksUptoSaid : Prop := constructBreaksUptoRow.holds Try.pinned (OpenSpec.upto constructBreaksSpec)

/-- 'timetablelaw26.ConstructMore', WHERE WHAT IT READS IS OF BULK AT MOST 1048576: true; the input reads as it did. -/
def constructMoreUptoRow : OpenClaim := { program := "ytafhoboejkcmiaa", sum := "fd0aaa23f032868f1a36c15cfdecdf52d02f676433aa2de33cdb4425dfc06add", func := "timetable/timetablelaw26.ConstructMore", spec := "constructMore", unfollowed := true, recurses := true, plainKeys := false, apart := false, narrowed := true }
def ConstructMoreUptoSaid : Prop := constructMoreUptoRow.holds Try.pinned (OpenSpec.upto constructMoreSpec)

end Rows
end Go.Proofs.Ytafhoboejkcmiaa
