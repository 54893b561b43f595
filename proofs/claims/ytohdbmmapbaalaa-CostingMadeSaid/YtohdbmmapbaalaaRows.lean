/-
  No cell of these rows narrows 'for every input' (looked for: loops, veiled, ifaces, maps, wideKeys, modest, calm, conditions, laid).
  DERIVED. THE GIVEN ROWS OF THIS SEAT. 5 by the template 'for every input the law returns true; each argument reads behind the call as it read before'; 0 by the template 'total and deterministic' (their statements: YtohdbmmapbaalaaTotals.lean).
  GIVEN WITH THE SEED: the statements are not yours to turn. If you find one false, say at which input.
  Laid BY PROGRAM, IN A SANDBOX (cutbox-rows.mjs): the forced cells as the released guide's own fill.sh prints them over the translation 90232adb68a62c57… (all of the seat's roots in one cut). By AI agents, Wed Nov 11 2026. No macro, syntax, notation, axiom, sorry.
-/
import Derived.Test.YtohdbmmapbaalaaChecked
import GoSem.Claim
import GoSem.ClaimJoined
import GoSem.ClaimMapViews
import Derived.JoinedTies
import Derived.KernelRfl
namespace Go.Proofs.Ytohdbmmapbaalaa
/- THE CELL 'sum', in the pinned program and in every row, IS THE sha256 OF THE DUMP (.gsa) THAT YtohdbmmapbaalaaProg.lean LOADS. Nothing in Lean hashes anything: it is a label: what it is worth is what the hold of that sum in a sandbox is worth. -/
noncomputable def Try.pinned : Pinned := { name := "ytohdbmmapbaalaa", sum := "90232adb68a62c57baf3188e3f2e0ddc4c02ee75c96086d646d6eff23aa5b77e", checked := Try.checked }
namespace Rows
def none {H : Type} : Left H := { results := [], args := [] }

/-- 'timetablelaw19.CostingSums': WHATEVER THE INPUT: true; the input reads as it did. -/
def costingSumsSpec : ChangeSpec := { name := "costingSums", fn := fun _ => fun
  | [d] => { results := [.lit (.bool true)], args := [d] }
  | _ => none }
def costingSumsRow : OpenClaim := { program := "ytohdbmmapbaalaa", sum := "90232adb68a62c57baf3188e3f2e0ddc4c02ee75c96086d646d6eff23aa5b77e", func := "timetable/timetablelaw19.CostingSums", spec := "costingSums", unfollowed := true, recurses := true, apart := false }
def CostingSumsSaid : Prop := costingSumsRow.holds Try.pinned (OpenSpec.ofChange costingSumsSpec)

/-- ITS FALSE NEIGHBOUR: 'it returns false'. Refute it at one input. -/
def costingSumsWrong : ChangeSpec := { name := "costingSums", fn := fun _ => fun
  | [d] => { results := [.lit (.bool false)], args := [d] }
  | _ => none }
def CostingSumsWrongFalsely : Prop := costingSumsRow.holds Try.pinned (OpenSpec.ofChange costingSumsWrong)

/-- 'timetablelaw19.CostingGrows': WHATEVER THE INPUT: true; the input reads as it did. -/
def costingGrowsSpec : ChangeSpec := { name := "costingGrows", fn := fun _ => fun
  | [d1, d2, d3] => { results := [.lit (.bool true)], args := [d1, d2, d3] }
  | _ => none }
def costingGrowsRow : OpenClaim := { program := "ytohdbmmapbaalaa", sum := "90232adb68a62c57baf3188e3f2e0ddc4c02ee75c96086d646d6eff23aa5b77e", func := "timetable/timetablelaw19.CostingGrows", spec := "costingGrows", unfollowed := true, recurses := true, apart := false }
def CostingGrowsSaid : Prop := costingGrowsRow.holds Try.pinned (OpenSpec.ofChange costingGrowsSpec)

/-- ITS FALSE NEIGHBOUR: 'it returns false'. Refute it at one input. -/
def costingGrowsWrong : ChangeSpec := { name := "costingGrows", fn := fun _ => fun
  | [d1, d2, d3] => { results := [.lit (.bool false)], args := [d1, d2, d3] }
  | _ => none }
def CostingGrowsWrongFalsely : Prop := costingGrowsRow.holds Try.pinned (OpenSpec.ofChange costingGrowsWrong)

/-- 'timetablelaw19.CostingExact': WHATEVER THE INPUT: true; the input reads as it did. -/
def costingExactSpec : ChangeSpec := { name := "costingExact", fn := fun _ => fun
  | [d1, d2, d3] => { results := [.lit (.bool true)], args := [d1, d2, d3] }
  | _ => none }
def costingExactRow : OpenClaim := { program := "ytohdbmmapbaalaa", sum := "90232adb68a62c57baf3188e3f2e0ddc4c02ee75c96086d646d6eff23aa5b77e", func := "timetable/timetablelaw19.CostingExact", spec := "costingExact", unfollowed := true, recurses := true, apart := false }
def CostingExactSaid : Prop := costingExactRow.holds Try.pinned (OpenSpec.ofChange costingExactSpec)

/-- ITS FALSE NEIGHBOUR: 'it returns false'. Refute it at one input. -/
def costingExactWrong : ChangeSpec := { name := "costingExact", fn := fun _ => fun
  | [d1, d2, d3] => { results := [.lit (.bool false)], args := [d1, d2, d3] }
  | _ => none }
def CostingExactWrongFalsely : Prop := costingExactRow.holds Try.pinned (OpenSpec.ofChange costingExactWrong)

/-- 'timetablelaw19.CostingRestricts': WHATEVER THE INPUT: true; the input reads as it did. -/
def costingRestrictsSpec : ChangeSpec := { name := "costingRestricts", fn := fun _ => fun
  | [d] => { results := [.lit (.bool true)], args := [d] }
  | _ => none }
def costingRestrictsRow : OpenClaim := { program := "ytohdbmmapbaalaa", sum := "90232adb68a62c57baf3188e3f2e0ddc4c02ee75c96086d646d6eff23aa5b77e", func := "timetable/timetablelaw19.CostingRestricts", spec := "costingRestricts", unfollowed := true, recurses := true, apart := false }
def CostingRestrictsSaid : Prop := costingRestrictsRow.holds Try.pinned (OpenSpec.ofChange costingRestrictsSpec)

/-- ITS FALSE NEIGHBOUR: 'it returns false'. Refute it at one input. -/
def costingRestrictsWrong : ChangeSpec := { name := "costingRestricts", fn := fun _ => fun
  | [d] => { results := [.lit (.bool false)], args := [d] }
  | _ => none }
def CostingRestrictsWrongFalsely : Prop := costingRestrictsRow.holds Try.pinned (OpenSpec.ofChange costingRestrictsWrong)

/-- 'timetablelaw19.CostingMade': WHATEVER THE INPUT: true; the input reads as it did. -/
def costingMadeSpec : ChangeSpec := { name := "costingMade", fn := fun _ => fun
  | [d1, d2, d3] => { results := [.lit (.bool true)], args := [d1, d2, d3] }
  | _ => none }
def costingMadeRow : OpenClaim := { program := "ytohdbmmapbaalaa", sum := "90232adb68a62c57baf3188e3f2e0ddc4c02ee75c96086d646d6eff23aa5b77e", func := "timetable/timetablelaw19.CostingMade", spec := "costingMade", unfollowed := true, recurses := true, apart := false }
def CostingMadeSaid : Prop := costingMadeRow.holds Try.pinned (OpenSpec.ofChange costingMadeSpec)

/-- ITS FALSE NEIGHBOUR: 'it returns false'. Refute it at one input. -/
def costingMadeWrong : ChangeSpec := { name := "costingMade", fn := fun _ => fun
  | [d1, d2, d3] => { results := [.lit (.bool false)], args := [d1, d2, d3] }
  | _ => none }
def CostingMadeWrongFalsely : Prop := costingMadeRow.holds Try.pinned (OpenSpec.ofChange costingMadeWrong)

/- THE SECOND FORM. 'bulk': how many values and letters a reading holds, each counted each time it is reached (what is shared counts as often as it is met; a slice's spare places count too). A statement '..UptoSaid' is the law's where the arguments, and the package variables that the reading takes, are together of bulk at most 1048576: NARROWER than '..Said'. Prove '..Said' where nothing that the law and all that it calls make is longer than what came in: it says more and counts as full. Else prove '..UptoSaid'. A law counts once. -/
mutual
def uptoBulk {H : Type} : DataW H → Nat
  | .lit (.string bytes) => bytes.length + 1
  | .lit _ => 1
  | .nil => 1
  | .ptr d => uptoBulk d + 1
  | .slice elems spare => uptoBulkAll elems + uptoBulkAll spare + 1
  | .agg parts => uptoBulkAll parts + 1
  | .iface _ d => uptoBulk d + 1
  | .map entries => uptoBulkEntries entries + 1
  | .held _ => 1
def uptoBulkAll {H : Type} : List (DataW H) → Nat
  | [] => 0
  | d :: r => uptoBulk d + uptoBulkAll r
def uptoBulkEntries {H : Type} : List (Lit × DataW H) → Nat
  | [] => 0
  | x :: r => uptoBulkEntry x + uptoBulkEntries r
def uptoBulkEntry {H : Type} : Lit × DataW H → Nat
  | (.string bytes, d) => bytes.length + uptoBulk d + 1
  | (_, d) => uptoBulk d + 1
 end
def uptoSmall : (H : Type) → List (DataW H) → Bool := fun _ ds => decide (uptoBulkAll ds ≤ 1048576)
def OpenSpec.upto (s : _root_.Go.ChangeSpec) : _root_.Go.OpenSpec := { _root_.Go.OpenSpec.ofChange s with cond := some uptoSmall }

/-- 'timetablelaw19.CostingSums', WHERE WHAT IT READS IS OF BULK AT MOST 1048576: true; the input reads as it did. -/
def costingSumsUptoRow : OpenClaim := { program := "ytohdbmmapbaalaa", sum := "90232adb68a62c57baf3188e3f2e0ddc4c02ee75c96086d646d6eff23aa5b77e", func := "timetable/timetablelaw19.CostingSums", spec := "costingSums", unfollowed := true, recurses := true, apart := false, narrowed := true }
def CostingSumsUptoSaid : Prop := costingSumsUptoRow.holds Try.pinned (OpenSpec.upto costingSumsSpec)

/-- 'timetablelaw19.CostingGrows', WHERE WHAT IT READS IS OF BULK AT MOST 1048576: true; the input reads as it did. -/
def costingGrowsUptoRow : OpenClaim := { program := "ytohdbmmapbaalaa", sum := "90232adb68a62c57baf3188e3f2e0ddc4c02ee75c96086d646d6eff23aa5b77e", func := "timetable/timetablelaw19.CostingGrows", spec := "costingGrows", unfollowed := true, recurses := true, apart := false, narrowed := true }
def CostingGrowsUptoSaid : Prop := costingGrowsUptoRow.holds Try.pinned (OpenSpec.upto costingGrowsSpec)

/-- 'timetablelaw19.CostingExact', WHERE WHAT IT READS IS OF BULK AT MOST 1048576: true; the input reads as it did. -/
def costingExactUptoRow : OpenClaim := { program := "ytohdbmmapbaalaa", sum := "90232adb68a62c57baf3188e3f2e0ddc4c02ee75c96086d646d6eff23aa5b77e", func := "timetable/timetablelaw19.CostingExact", spec := "costingExact", unfollowed := true, recurses := true, apart := false, narrowed := true }
def CostingExactUptoSaid : Prop := costingExactUptoRow.holds Try.pinned (OpenSpec.upto costingExactSpec)

/-- 'timetablelaw19.CostingRestricts', WHERE WHAT IT READS IS OF BULK AT MOST 1048576: true; the input reads as it did. -/
def costingRestrictsUptoRow : OpenClaim := { program := "ytohdbmmapbaalaa", sum := "90232adb68a62c57baf3188e3f2e0ddc4c02ee75c96086d646d6eff23aa5b77e", func := "timetable/timetablelaw19.CostingRestricts", spec := "costingRestricts", unfollowed := true, recurses := true, apart := false, narrowed := true }
def CostingRestrictsUptoSaid : Prop := costingRestrictsUptoRow.holds Try.pinned (OpenSpec.upto costingRestrictsSpec)

/-- 'timetablelaw19.CostingMade', WHERE WHAT IT READS IS OF BULK AT MOST 1048576: true; the input reads as it did. -/
def costingMadeUptoRow : OpenClaim := { program := "ytohdbmmapbaalaa", sum := "90232adb68a62c57baf3188e3f2e0ddc4c02ee75c96086d646d6eff23aa5b77e", func := "timetable/timetablelaw19.CostingMade", spec := "costingMade", unfollowed := true, recurses := true, apart := false, narrowed := true }
def CostingMadeUptoSaid : Prop := costingMadeUptoRow.holds Try.pinned (OpenSpec.upto costingMadeSpec)

end Rows
end Go.Proofs.Ytohdbmmapbaalaa
