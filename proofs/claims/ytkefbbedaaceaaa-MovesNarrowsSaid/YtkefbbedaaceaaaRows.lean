/-
  No cell of these rows narrows 'for every input' (looked for: loops, veiled, ifaces, maps, wideKeys, modest, calm, conditions, laid).
  DERIVED. THE GIVEN ROWS OF THIS SEAT. 5 by the template 'for every input the law returns true; each argument reads behind the call as it read before'; 0 by the template 'total and deterministic' (their statements: YtkefbbedaaceaaaTotals.lean).
  GIVEN WITH THE SEED: the statements are not yours to turn. If you find one false, say at which input.
  Laid BY PROGRAM, IN A SANDBOX (cutbox-rows.mjs): the forced cells as the released guide's own fill.sh prints them over the translation 32f0e41ef116465e… (all of the seat's roots in one cut). By AI agents, Wed Nov 11 2026. No macro, syntax, notation, axiom, sorry.
-/
import Derived.Test.YtkefbbedaaceaaaChecked
import GoSem.Claim
import GoSem.ClaimJoined
import GoSem.ClaimMapViews
import Derived.JoinedTies
import Derived.KernelRfl
namespace Go.Proofs.Ytkefbbedaaceaaa
/- THE CELL 'sum', in the pinned program and in every row, IS THE sha256 OF THE DUMP (.gsa) THAT YtkefbbedaaceaaaProg.lean LOADS. Nothing in Lean hashes anything: it is a label: what it is worth is what the hold of that sum in a sandbox is worth. -/
noncomputable def Try.pinned : Pinned := { name := "ytkefbbedaaceaaa", sum := "32f0e41ef116465ef54a413e460b7ecb658bbc536725498130f64ecdd9c2cf41", checked := Try.checked }
namespace Rows
def none {H : Type} : Left H := { results := [], args := [] }

/-- 'timetablelaw20.MovesBound': WHATEVER THE INPUT: true; the input reads as it did. -/
def movesBoundSpec : ChangeSpec := { name := "movesBound", fn := fun _ => fun
  | [d] => { results := [.lit (.bool true)], args := [d] }
  | _ => none }
def movesBoundRow : OpenClaim := { program := "ytkefbbedaaceaaa", sum := "32f0e41ef116465ef54a413e460b7ecb658bbc536725498130f64ecdd9c2cf41", func := "timetable/timetablelaw20.MovesBound", spec := "movesBound", unfollowed := true, recurses := true, apart := false }
def MovesBoundSaid : Prop := movesBoundRow.holds Try.pinned (OpenSpec.ofChange movesBoundSpec)

/-- ITS FALSE NEIGHBOUR: 'it returns false'. Refute it at one input. -/
def movesBoundWrong : ChangeSpec := { name := "movesBound", fn := fun _ => fun
  | [d] => { results := [.lit (.bool false)], args := [d] }
  | _ => none }
def MovesBoundWrongFalsely : Prop := movesBoundRow.holds Try.pinned (OpenSpec.ofChange movesBoundWrong)

/-- 'timetablelaw20.MovesExactly': WHATEVER THE INPUT: true; the input reads as it did. -/
def movesExactlySpec : ChangeSpec := { name := "movesExactly", fn := fun _ => fun
  | [d] => { results := [.lit (.bool true)], args := [d] }
  | _ => none }
def movesExactlyRow : OpenClaim := { program := "ytkefbbedaaceaaa", sum := "32f0e41ef116465ef54a413e460b7ecb658bbc536725498130f64ecdd9c2cf41", func := "timetable/timetablelaw20.MovesExactly", spec := "movesExactly", unfollowed := true, recurses := true, apart := false }
def MovesExactlySaid : Prop := movesExactlyRow.holds Try.pinned (OpenSpec.ofChange movesExactlySpec)

/-- ITS FALSE NEIGHBOUR: 'it returns false'. Refute it at one input. -/
def movesExactlyWrong : ChangeSpec := { name := "movesExactly", fn := fun _ => fun
  | [d] => { results := [.lit (.bool false)], args := [d] }
  | _ => none }
def MovesExactlyWrongFalsely : Prop := movesExactlyRow.holds Try.pinned (OpenSpec.ofChange movesExactlyWrong)

/-- 'timetablelaw20.MovesNarrows': WHATEVER THE INPUT: true; the input reads as it did. -/
def movesNarrowsSpec : ChangeSpec := { name := "movesNarrows", fn := fun _ => fun
  | [d1, d2] => { results := [.lit (.bool true)], args := [d1, d2] }
  | _ => none }
def movesNarrowsRow : OpenClaim := { program := "ytkefbbedaaceaaa", sum := "32f0e41ef116465ef54a413e460b7ecb658bbc536725498130f64ecdd9c2cf41", func := "timetable/timetablelaw20.MovesNarrows", spec := "movesNarrows", unfollowed := true, recurses := true, apart := false }
def MovesNarrowsSaid : Prop := movesNarrowsRow.holds Try.pinned (OpenSpec.ofChange movesNarrowsSpec)

/-- ITS FALSE NEIGHBOUR: 'it returns false'. Refute it at one input. -/
def movesNarrowsWrong : ChangeSpec := { name := "movesNarrows", fn := fun _ => fun
  | [d1, d2] => { results := [.lit (.bool false)], args := [d1, d2] }
  | _ => none }
def MovesNarrowsWrongFalsely : Prop := movesNarrowsRow.holds Try.pinned (OpenSpec.ofChange movesNarrowsWrong)

/-- 'timetablelaw20.MovesExact': WHATEVER THE INPUT: true; the input reads as it did. -/
def movesExactSpec : ChangeSpec := { name := "movesExact", fn := fun _ => fun
  | [d1, d2, d3] => { results := [.lit (.bool true)], args := [d1, d2, d3] }
  | _ => none }
def movesExactRow : OpenClaim := { program := "ytkefbbedaaceaaa", sum := "32f0e41ef116465ef54a413e460b7ecb658bbc536725498130f64ecdd9c2cf41", func := "timetable/timetablelaw20.MovesExact", spec := "movesExact", unfollowed := true, recurses := true, apart := false }
def MovesExactSaid : Prop := movesExactRow.holds Try.pinned (OpenSpec.ofChange movesExactSpec)

/-- ITS FALSE NEIGHBOUR: 'it returns false'. Refute it at one input. -/
def movesExactWrong : ChangeSpec := { name := "movesExact", fn := fun _ => fun
  | [d1, d2, d3] => { results := [.lit (.bool false)], args := [d1, d2, d3] }
  | _ => none }
def MovesExactWrongFalsely : Prop := movesExactRow.holds Try.pinned (OpenSpec.ofChange movesExactWrong)

/-- 'timetablelaw20.MovesMade': WHATEVER THE INPUT: true; the input reads as it did. -/
def movesMadeSpec : ChangeSpec := { name := "movesMade", fn := fun _ => fun
  | [d1, d2] => { results := [.lit (.bool true)], args := [d1, d2] }
  | _ => none }
def movesMadeRow : OpenClaim := { program := "ytkefbbedaaceaaa", sum := "32f0e41ef116465ef54a413e460b7ecb658bbc536725498130f64ecdd9c2cf41", func := "timetable/timetablelaw20.MovesMade", spec := "movesMade", unfollowed := true, recurses := true, apart := false }
def MovesMadeSaid : Prop := movesMadeRow.holds Try.pinned (OpenSpec.ofChange movesMadeSpec)

/-- ITS FALSE NEIGHBOUR: 'it returns false'. Refute it at one input. -/
def movesMadeWrong : ChangeSpec := { name := "movesMade", fn := fun _ => fun
  | [d1, d2] => { results := [.lit (.bool false)], args := [d1, d2] }
  | _ => none }
def MovesMadeWrongFalsely : Prop := movesMadeRow.holds Try.pinned (OpenSpec.ofChange movesMadeWrong)

/- THE SECOND FORM. 'bulk': how many values and letters a reading holds, each counted each time it is reached (what is shared counts as often as it is met; a slice's spare places count too). A statement '..UptoSaid' is the law's where the arguments, and the package variables that the reading takes, are together of bulk at most 1048576: NARROWER than '..Said'. Prove '..Said' where nothing that the law and all that it calls make is longer than what came in: it says more and counts as full. Else prove '..UptoSaid'. A law counts once. -/
mutual
def uptoBulk {H : Type} : DataW H → Nat
  | .lit (.string bytes) => bytes.length + 1
  | .lit _ => 1
  | .nil => 1
  | .ptr d => uptoBulk d + 1
  | .slice elems spare => uptoBulkAll elems + uptoBulkAll spare + 1
  | .agg parts => uptoBulkAll parts + 1
  | .iface _ d => uptoBulk d + 1
  | .map entries => uptoBulkEntries entries + 1
  | .held _ => 1
def uptoBulkAll {H : Type} : List (DataW H) → Nat
  | [] => 0
  | d :: r => uptoBulk d + uptoBulkAll r
def uptoBulkEntries {H : Type} : List (Lit × DataW H) → Nat
  | [] => 0
  | x :: r => uptoBulkEntry x + uptoBulkEntries r
def uptoBulkEntry {H : Type} : Lit × DataW H → Nat
  | (.string bytes, d) => bytes.length + uptoBulk d + 1
  | (_, d) => uptoBulk d + 1
 end
def uptoSmall : (H : Type) → List (DataW H) → Bool := fun _ ds => decide (uptoBulkAll ds ≤ 1048576)
def OpenSpec.upto (s : _root_.Go.ChangeSpec) : _root_.Go.OpenSpec := { _root_.Go.OpenSpec.ofChange s with cond := some uptoSmall }

/-- 'timetablelaw20.MovesBound', WHERE WHAT IT READS IS OF BULK AT MOST 1048576: true; the input reads as it did. -/
def movesBoundUptoRow : OpenClaim := { program := "ytkefbbedaaceaaa", sum := "32f0e41ef116465ef54a413e460b7ecb658bbc536725498130f64ecdd9c2cf41", func := "timetable/timetablelaw20.MovesBound", spec := "movesBound", unfollowed := true, recurses := true, apart := false, narrowed := true }
def MovesBoundUptoSaid : Prop := movesBoundUptoRow.holds Try.pinned (OpenSpec.upto movesBoundSpec)

/-- 'timetablelaw20.MovesExactly', WHERE WHAT IT READS IS OF BULK AT MOST 1048576: true; the input reads as it did. -/
def movesExactlyUptoRow : OpenClaim := { program := "ytkefbbedaaceaaa", sum := "32f0e41ef116465ef54a413e460b7ecb658bbc536725498130f64ecdd9c2cf41", func := "timetable/timetablelaw20.MovesExactly", spec := "movesExactly", unfollowed := true, recurses := true, apart := false, narrowed := true }
def MovesExactlyUptoSaid : Prop := movesExactlyUptoRow.holds Try.pinned (OpenSpec.upto movesExactlySpec)

/-- 'timetablelaw20.MovesNarrows', WHERE WHAT IT READS IS OF BULK AT MOST 1048576: true; the input reads as it did. -/
def movesNarrowsUptoRow : OpenClaim := { program := "ytkefbbedaaceaaa", sum := "32f0e41ef116465ef54a413e460b7ecb658bbc536725498130f64ecdd9c2cf41", func := "timetable/timetablelaw20.MovesNarrows", spec := "movesNarrows", unfollowed := true, recurses := true, apart := false, narrowed := true }
def MovesNarrowsUptoSaid : Prop := movesNarrowsUptoRow.holds Try.pinned (OpenSpec.upto movesNarrowsSpec)

/-- 'timetablelaw20.MovesExact', WHERE WHAT IT READS IS OF BULK AT MOST 1048576: true; the input reads as it did. -/
def movesExactUptoRow : OpenClaim := { program := "ytkefbbedaaceaaa", sum := "32f0e41ef116465ef54a413e460b7ecb658bbc536725498130f64ecdd9c2cf41", func := "timetable/timetablelaw20.MovesExact", spec := "movesExact", unfollowed := true, recurses := true, apart := false, narrowed := true }
def MovesExactUptoSaid : Prop := movesExactUptoRow.holds Try.pinned (OpenSpec.upto movesExactSpec)

/-- 'timetablelaw20.MovesMade', WHERE WHAT IT READS IS OF BULK AT MOST 1048576: true; the input reads as it did. -/
def movesMadeUptoRow : OpenClaim := { program := "ytkefbbedaaceaaa", sum := "32f0e41ef116465ef54a413e460b7ecb658bbc536725498130f64ecdd9c2cf41", func := "timetable/timetablelaw20.MovesMade", spec := "movesMade", unfollowed := true, recurses := true, apart := false, narrowed := true }
def MovesMadeUptoSaid : Prop := movesMadeUptoRow.holds Try.pinned (OpenSpec.upto movesMadeSpec)

end Rows
end Go.Proofs.Ytkefbbedaaceaaa
