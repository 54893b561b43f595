/-
  No cell of these rows narrows 'for every input' (looked for: loops, veiled, ifaces, maps, wideKeys, modest, calm, conditions, laid).
  DERIVED. THE GIVEN ROWS OF THIS SEAT. 8 by the template 'for every input the law returns true; each argument reads behind the call as it read before'; 0 by the template 'total and deterministic' (their statements: YtncfieaimmpapaaTotals.lean).
  GIVEN WITH THE SEED: the statements are not yours to turn. If you find one false, say at which input.
  Laid BY PROGRAM, IN A SANDBOX (cutbox-rows.mjs): the forced cells as the released guide's own fill.sh prints them over the translation 28eb7545a0b16f13… (all of the seat's roots in one cut). By AI agents, Wed Nov 11 2026. No macro, syntax, notation, axiom, sorry.
-/
import Derived.Test.YtncfieaimmpapaaChecked
import GoSem.Claim
import GoSem.ClaimJoined
import GoSem.ClaimMapViews
import Derived.JoinedTies
import Derived.KernelRfl
namespace Go.Proofs.Ytncfieaimmpapaa
/- THE CELL 'sum', in the pinned program and in every row, IS THE sha256 OF THE DUMP (.gsa) THAT YtncfieaimmpapaaProg.lean LOADS. Nothing in Lean hashes anything: it is a label: what it is worth is what the hold of that sum in a sandbox is worth. -/
noncomputable def Try.pinned : Pinned := { name := "ytncfieaimmpapaa", sum := "28eb7545a0b16f139b98ab9efd55d514a63682ef400020dd5850f7182ce9d48a", checked := Try.checked }
namespace Rows
def none {H : Type} : Left H := { results := [], args := [] }

/-- 'timetablelaw27.LocalsearchScores': WHATEVER THE INPUT: true; the input reads as it did. -/
def localsearchScoresSpec : ChangeSpec := { name := "localsearchScores", fn := fun _ => fun
  | [d1, d2] => { results := [.lit (.bool true)], args := [d1, d2] }
  | _ => none }
def localsearchScoresRow : OpenClaim := { program := "ytncfieaimmpapaa", sum := "28eb7545a0b16f139b98ab9efd55d514a63682ef400020dd5850f7182ce9d48a", func := "timetable/timetablelaw27.LocalsearchScores", spec := "localsearchScores", unfollowed := true, recurses := true, apart := false }
def LocalsearchScoresSaid : Prop := localsearchScoresRow.holds Try.pinned (OpenSpec.ofChange localsearchScoresSpec)

/-- ITS FALSE NEIGHBOUR: 'it returns false'. Refute it at one input. -/
def localsearchScoresWrong : ChangeSpec := { name := "localsearchScores", fn := fun _ => fun
  | [d1, d2] => { results := [.lit (.bool false)], args := [d1, d2] }
  | _ => none }
def LocalsearchScoresWrongFalsely : Prop := localsearchScoresRow.holds Try.pinned (OpenSpec.ofChange localsearchScoresWrong)

/-- 'timetablelaw27.LocalsearchDescends': WHATEVER THE INPUT: true; the input reads as it did. -/
def localsearchDescendsSpec : ChangeSpec := { name := "localsearchDescends", fn := fun _ => fun
  | [d1, d2, d3] => { results := [.lit (.bool true)], args := [d1, d2, d3] }
  | _ => none }
def localsearchDescendsRow : OpenClaim := { program := "ytncfieaimmpapaa", sum := "28eb7545a0b16f139b98ab9efd55d514a63682ef400020dd5850f7182ce9d48a", func := "timetable/timetablelaw27.LocalsearchDescends", spec := "localsearchDescends", unfollowed := true, recurses := true, apart := false }
def LocalsearchDescendsSaid : Prop := localsearchDescendsRow.holds Try.pinned (OpenSpec.ofChange localsearchDescendsSpec)

/-- ITS FALSE NEIGHBOUR: 'it returns false'. Refute it at one input. -/
def localsearchDescendsWrong : ChangeSpec := { name := "localsearchDescends", fn := fun _ => fun
  | [d1, d2, d3] => { results := [.lit (.bool false)], args := [d1, d2, d3] }
  | _ => none }
def LocalsearchDescendsWrongFalsely : Prop := localsearchDescendsRow.holds Try.pinned (OpenSpec.ofChange localsearchDescendsWrong)

/-- 'timetablelaw27.LocalsearchOptimum': WHATEVER THE INPUT: true; the input reads as it did. -/
def localsearchOptimumSpec : ChangeSpec := { name := "localsearchOptimum", fn := fun _ => fun
  | [d] => { results := [.lit (.bool true)], args := [d] }
  | _ => none }
def localsearchOptimumRow : OpenClaim := { program := "ytncfieaimmpapaa", sum := "28eb7545a0b16f139b98ab9efd55d514a63682ef400020dd5850f7182ce9d48a", func := "timetable/timetablelaw27.LocalsearchOptimum", spec := "localsearchOptimum", unfollowed := true, recurses := true, apart := false }
def LocalsearchOptimumSaid : Prop := localsearchOptimumRow.holds Try.pinned (OpenSpec.ofChange localsearchOptimumSpec)

/-- ITS FALSE NEIGHBOUR: 'it returns false'. Refute it at one input. -/
def localsearchOptimumWrong : ChangeSpec := { name := "localsearchOptimum", fn := fun _ => fun
  | [d] => { results := [.lit (.bool false)], args := [d] }
  | _ => none }
def LocalsearchOptimumWrongFalsely : Prop := localsearchOptimumRow.holds Try.pinned (OpenSpec.ofChange localsearchOptimumWrong)

/-- 'timetablelaw27.LocalsearchTotals': WHATEVER THE INPUT: true; the input reads as it did. -/
def localsearchTotalsSpec : ChangeSpec := { name := "localsearchTotals", fn := fun _ => fun
  | [d] => { results := [.lit (.bool true)], args := [d] }
  | _ => none }
def localsearchTotalsRow : OpenClaim := { program := "ytncfieaimmpapaa", sum := "28eb7545a0b16f139b98ab9efd55d514a63682ef400020dd5850f7182ce9d48a", func := "timetable/timetablelaw27.LocalsearchTotals", spec := "localsearchTotals", unfollowed := true, recurses := true, apart := false }
def LocalsearchTotalsSaid : Prop := localsearchTotalsRow.holds Try.pinned (OpenSpec.ofChange localsearchTotalsSpec)

/-- ITS FALSE NEIGHBOUR: 'it returns false'. Refute it at one input. -/
def localsearchTotalsWrong : ChangeSpec := { name := "localsearchTotals", fn := fun _ => fun
  | [d] => { results := [.lit (.bool false)], args := [d] }
  | _ => none }
def LocalsearchTotalsWrongFalsely : Prop := localsearchTotalsRow.holds Try.pinned (OpenSpec.ofChange localsearchTotalsWrong)

/-- 'timetablelaw27.LocalsearchChains': WHATEVER THE INPUT: true; the input reads as it did. -/
def localsearchChainsSpec : ChangeSpec := { name := "localsearchChains", fn := fun _ => fun
  | [d1, d2, d3, d4] => { results := [.lit (.bool true)], args := [d1, d2, d3, d4] }
  | _ => none }
def localsearchChainsRow : OpenClaim := { program := "ytncfieaimmpapaa", sum := "28eb7545a0b16f139b98ab9efd55d514a63682ef400020dd5850f7182ce9d48a", func := "timetable/timetablelaw27.LocalsearchChains", spec := "localsearchChains", unfollowed := true, recurses := true, apart := false }
def LocalsearchChainsSaid : Prop := localsearchChainsRow.holds Try.pinned (OpenSpec.ofChange localsearchChainsSpec)

/-- ITS FALSE NEIGHBOUR: 'it returns false'. Refute it at one input. -/
def localsearchChainsWrong : ChangeSpec := { name := "localsearchChains", fn := fun _ => fun
  | [d1, d2, d3, d4] => { results := [.lit (.bool false)], args := [d1, d2, d3, d4] }
  | _ => none }
def LocalsearchChainsWrongFalsely : Prop := localsearchChainsRow.holds Try.pinned (OpenSpec.ofChange localsearchChainsWrong)

/-- 'timetablelaw27.LocalsearchClears': WHATEVER THE INPUT: true; the input reads as it did. -/
def localsearchClearsSpec : ChangeSpec := { name := "localsearchClears", fn := fun _ => fun
  | [d1, d2, d3] => { results := [.lit (.bool true)], args := [d1, d2, d3] }
  | _ => none }
def localsearchClearsRow : OpenClaim := { program := "ytncfieaimmpapaa", sum := "28eb7545a0b16f139b98ab9efd55d514a63682ef400020dd5850f7182ce9d48a", func := "timetable/timetablelaw27.LocalsearchClears", spec := "localsearchClears", unfollowed := true, recurses := true, apart := false }
def LocalsearchClearsSaid : Prop := localsearchClearsRow.holds Try.pinned (OpenSpec.ofChange localsearchClearsSpec)

/-- ITS FALSE NEIGHBOUR: 'it returns false'. Refute it at one input. -/
def localsearchClearsWrong : ChangeSpec := { name := "localsearchClears", fn := fun _ => fun
  | [d1, d2, d3] => { results := [.lit (.bool false)], args := [d1, d2, d3] }
  | _ => none }
def LocalsearchClearsWrongFalsely : Prop := localsearchClearsRow.holds Try.pinned (OpenSpec.ofChange localsearchClearsWrong)

/-- 'timetablelaw27.LocalsearchLate': WHATEVER THE INPUT: true; the input reads as it did. -/
def localsearchLateSpec : ChangeSpec := { name := "localsearchLate", fn := fun _ => fun
  | [d1, d2, d3, d4, d5] => { results := [.lit (.bool true)], args := [d1, d2, d3, d4, d5] }
  | _ => none }
def localsearchLateRow : OpenClaim := { program := "ytncfieaimmpapaa", sum := "28eb7545a0b16f139b98ab9efd55d514a63682ef400020dd5850f7182ce9d48a", func := "timetable/timetablelaw27.LocalsearchLate", spec := "localsearchLate", unfollowed := true, recurses := true, apart := false }
def LocalsearchLateSaid : Prop := localsearchLateRow.holds Try.pinned (OpenSpec.ofChange localsearchLateSpec)

/-- ITS FALSE NEIGHBOUR: 'it returns false'. Refute it at one input. -/
def localsearchLateWrong : ChangeSpec := { name := "localsearchLate", fn := fun _ => fun
  | [d1, d2, d3, d4, d5] => { results := [.lit (.bool false)], args := [d1, d2, d3, d4, d5] }
  | _ => none }
def LocalsearchLateWrongFalsely : Prop := localsearchLateRow.holds Try.pinned (OpenSpec.ofChange localsearchLateWrong)

/-- 'timetablelaw27.LocalsearchBetter': WHATEVER THE INPUT: true; the input reads as it did. -/
def localsearchBetterSpec : ChangeSpec := { name := "localsearchBetter", fn := fun _ => fun
  | [d1, d2, d3, d4] => { results := [.lit (.bool true)], args := [d1, d2, d3, d4] }
  | _ => none }
def localsearchBetterRow : OpenClaim := { program := "ytncfieaimmpapaa", sum := "28eb7545a0b16f139b98ab9efd55d514a63682ef400020dd5850f7182ce9d48a", func := "timetable/timetablelaw27.LocalsearchBetter", spec := "localsearchBetter", unfollowed := true, recurses := true, apart := false }
def LocalsearchBetterSaid : Prop := localsearchBetterRow.holds Try.pinned (OpenSpec.ofChange localsearchBetterSpec)

/-- ITS FALSE NEIGHBOUR: 'it returns false'. Refute it at one input. -/
def localsearchBetterWrong : ChangeSpec := { name := "localsearchBetter", fn := fun _ => fun
  | [d1, d2, d3, d4] => { results := [.lit (.bool false)], args := [d1, d2, d3, d4] }
  | _ => none }
def LocalsearchBetterWrongFalsely : Prop := localsearchBetterRow.holds Try.pinned (OpenSpec.ofChange localsearchBetterWrong)

/- THE SECOND FORM. 'bulk': how many values and letters a reading holds, each counted each time it is reached (what is shared counts as often as it is met; a slice's spare places count too). A statement '..UptoSaid' is the law's where the arguments, and the package variables that the reading takes, are together of bulk at most 1048576: NARROWER than '..Said'. Prove '..Said' where nothing that the law and all that it calls make is longer than what came in: it says more and counts as full. Else prove '..UptoSaid'. A law counts once. -/
mutual
def uptoBulk {H : Type} : DataW H → Nat
  | .lit (.string bytes) => bytes.length + 1
  | .lit _ => 1
  | .nil => 1
  | .ptr d => uptoBulk d + 1
  | .slice elems spare => uptoBulkAll elems + uptoBulkAll spare + 1
  | .agg parts => uptoBulkAll parts + 1
  | .iface _ d => uptoBulk d + 1
  | .map entries => uptoBulkEntries entries + 1
  | .held _ => 1
def uptoBulkAll {H : Type} : List (DataW H) → Nat
  | [] => 0
  | d :: r => uptoBulk d + uptoBulkAll r
def uptoBulkEntries {H : Type} : List (Lit × DataW H) → Nat
  | [] => 0
  | x :: r => uptoBulkEntry x + uptoBulkEntries r
def uptoBulkEntry {H : Type} : Lit × DataW H → Nat
  | (.string bytes, d) => bytes.length + uptoBulk d + 1
  | (_, d) => uptoBulk d + 1
 end
def uptoSmall : (H : Type) → List (DataW H) → Bool := fun _ ds => decide (uptoBulkAll ds ≤ 1048576)
def OpenSpec.upto (s : _root_.Go.ChangeSpec) : _root_.Go.OpenSpec := { _root_.Go.OpenSpec.ofChange s with cond := some uptoSmall }

/-- 'timetablelaw27.LocalsearchScores', WHERE WHAT IT READS IS OF BULK AT MOST 1048576: true; the input reads as it did. -/
def localsearchScoresUptoRow : OpenClaim := { program := "ytncfieaimmpapaa", sum := "28eb7545a0b16f139b98ab9efd55d514a63682ef400020dd5850f7182ce9d48a", func := "timetable/timetablelaw27.LocalsearchScores", spec := "localsearchScores", unfollowed := true, recurses := true, apart := false, narrowed := true }
def LocalsearchScoresUptoSaid : Prop := localsearchScoresUptoRow.holds Try.pinned (OpenSpec.upto localsearchScoresSpec)

/-- 'timetablelaw27.LocalsearchDescends', WHERE WHAT IT READS IS OF BULK AT MOST 1048576: true; the input reads as it did. -/
def localsearchDescendsUptoRow : OpenClaim := { program := "ytncfieaimmpapaa", sum := "28eb7545a0b16f139b98ab9efd55d514a63682ef400020dd5850f7182ce9d48a", func := "timetable/timetablelaw27.LocalsearchDescends", spec := "localsearchDescends", unfollowed := true, recurses := true, apart := false, narrowed := true }
def LocalsearchDescendsUptoSaid : Prop := localsearchDescendsUptoRow.holds Try.pinned (OpenSpec.upto localsearchDescendsSpec)

/-- 'timetablelaw27.LocalsearchOptimum', WHERE WHAT IT READS IS OF BULK AT MOST 1048576: true; the input reads as it did. -/
def localsearchOptimumUptoRow : OpenClaim := { program := "ytncfieaimmpapaa", sum := "28eb7545a0b16f139b98ab9efd55d514a63682ef400020dd5850f7182ce9d48a", func := "timetable/timetablelaw27.LocalsearchOptimum", spec := "localsearchOptimum", unfollowed := true, recurses := true, apart := false, narrowed := true }
def LocalsearchOptimumUptoSaid : Prop := localsearchOptimumUptoRow.holds Try.pinned (OpenSpec.upto localsearchOptimumSpec)

/-- 'timetablelaw27.LocalsearchTotals', WHERE WHAT IT READS IS OF BULK AT MOST 1048576: true; the input reads as it did. -/
def localsearchTotalsUptoRow : OpenClaim := { program := "ytncfieaimmpapaa", sum := "28eb7545a0b16f139b98ab9efd55d514a63682ef400020dd5850f7182ce9d48a", func := "timetable/timetablelaw27.LocalsearchTotals", spec := "localsearchTotals", unfollowed := true, recurses := true, apart := false, narrowed := true }
def LocalsearchTotalsUptoSaid : Prop := localsearchTotalsUptoRow.holds Try.pinned (OpenSpec.upto localsearchTotalsSpec)

/-- 'timetablelaw27.LocalsearchChains', WHERE WHAT IT READS IS OF BULK AT MOST 1048576: true; the input reads as it did. -/
def localsearchChainsUptoRow : OpenClaim := { program := "ytncfieaimmpapaa", sum := "28eb7545a0b16f139b98ab9efd55d514a63682ef400020dd5850f7182ce9d48a", func := "timetable/timetablelaw27.LocalsearchChains", spec := "localsearchChains", unfollowed := true, recurses := true, apart := false, narrowed := true }
def LocalsearchChainsUptoSaid : Prop := localsearchChainsUptoRow.holds Try.pinned (OpenSpec.upto localsearchChainsSpec)

/-- 'timetablelaw27.LocalsearchClears', WHERE WHAT IT READS IS OF BULK AT MOST 1048576: true; the input reads as it did. -/
def localsearchClearsUptoRow : OpenClaim := { program := "ytncfieaimmpapaa", sum := "28eb7545a0b16f139b98ab9efd55d514a63682ef400020dd5850f7182ce9d48a", func := "timetable/timetablelaw27.LocalsearchClears", spec := "localsearchClears", unfollowed := true, recurses := true, apart := false, narrowed := true }
def LocalsearchClearsUptoSaid : Prop := localsearchClearsUptoRow.holds Try.pinned (OpenSpec.upto localsearchClearsSpec)

/-- 'timetablelaw27.LocalsearchLate', WHERE WHAT IT READS IS OF BULK AT MOST 1048576: true; the input reads as it did. -/
def localsearchLateUptoRow : OpenClaim := { program := "ytncfieaimmpapaa", sum := "28eb7545a0b16f139b98ab9efd55d514a63682ef400020dd5850f7182ce9d48a", func := "timetable/timetablelaw27.LocalsearchLate", spec := "localsearchLate", unfollowed := true, recurses := true, apart := false, narrowed := true }
def LocalsearchLateUptoSaid : Prop := localsearchLateUptoRow.holds Try.pinned (OpenSpec.upto localsearchLateSpec)

/-- 'timetablelaw27.LocalsearchBetter', WHERE WHAT IT READS IS OF BULK AT MOST 1048576: true; the input reads as it did. -/
def localsearchBetterUptoRow : OpenClaim := { program := "ytncfieaimmpapaa", sum := "28eb7545a0b16f139b98ab9efd55d514a63682ef400020dd5850f7182ce9d48a", func := "timetable/timetablelaw27.LocalsearchBetter", spec := "localsearchBetter", unfollowed := true, recurses := true, apart := false, narrowed := true }
def LocalsearchBetterUptoSaid : Prop := localsearchBetterUptoRow.holds Try.pinned (OpenSpec.upto localsearchBetterSpec)

end Rows
end Go.Proofs.Ytncfieaimmpapaa
