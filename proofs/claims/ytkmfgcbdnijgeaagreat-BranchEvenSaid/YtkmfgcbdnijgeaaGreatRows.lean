/-
  No cell of these rows narrows 'for every input' (looked for: loops, veiled, ifaces, maps, wideKeys, modest, calm, conditions, laid).
  DERIVED. THE GIVEN ROWS OF THIS SEAT. 5 by the template 'for every input the law returns true; each argument reads behind the call as it read before'; 0 by the template 'total and deterministic' (their statements: YtkmfgcbdnijgeaaGreatTotals.lean).
  GIVEN WITH THE SEED: the statements are not yours to turn. If you find one false, say at which input.
  Laid BY PROGRAM, IN A SANDBOX (cutbox-rows.mjs): the forced cells as the released guide's own fill.sh prints them over the translation 6a42ddd5ceaff497… (all of the seat's roots in one cut). By AI agents, Wed Nov 11 2026. No macro, syntax, notation, axiom, sorry.
-/
import Derived.Test.YtkmfgcbdnijgeaaGreatChecked
import GoSem.Claim
import GoSem.ClaimJoined
import GoSem.ClaimMapViews
import Derived.JoinedTies
import Derived.KernelRfl
namespace Go.Proofs.YtkmfgcbdnijgeaaGreat
/- THE CELL 'sum', in the pinned program and in every row, IS THE sha256 OF THE DUMP (.gsa) THAT YtkmfgcbdnijgeaaGreatProg.lean LOADS. Nothing in Lean hashes anything: it is a label: what it is worth is what the hold of that sum in a sandbox is worth. -/
noncomputable def Tryz.pinned : Pinned := { name := "ytkmfgcbdnijgeaagreat", sum := "6a42ddd5ceaff4971ec12dcc1367418844d045fee4161e41c8c677e6ca782684", checked := Tryz.checked }
namespace Rows
def none {H : Type} : Left H := { results := [], args := [] }

/-- 'timetablelaw29.BranchPlans': WHATEVER THE INPUT: true; the input reads as it did. -/
def branchPlansSpec : ChangeSpec := { name := "branchPlans", fn := fun _ => fun
  | [d] => { results := [.lit (.bool true)], args := [d] }
  | _ => none }
def branchPlansRow : OpenClaim := { program := "ytkmfgcbdnijgeaagreat", sum := "6a42ddd5ceaff4971ec12dcc1367418844d045fee4161e41c8c677e6ca782684", func := "timetable/timetablelaw29.BranchPlans", spec := "branchPlans", unfollowed := true, recurses := true, apart := false }
def BranchPlansSaid : Prop := branchPlansRow.holds Tryz.pinned (OpenSpec.ofChange branchPlansSpec)

/-- ITS FALSE NEIGHBOUR: 'it returns false'. Refute it at one input. -/
def branchPlansWrong : ChangeSpec := { name := "branchPlans", fn := fun _ => fun
  | [d] => { results := [.lit (.bool false)], args := [d] }
  | _ => none }
def BranchPlansWrongFalsely : Prop := branchPlansRow.holds Tryz.pinned (OpenSpec.ofChange branchPlansWrong)

/-- 'timetablelaw29.BranchLeast': WHATEVER THE INPUT: true; the input reads as it did. -/
def branchLeastSpec : ChangeSpec := { name := "branchLeast", fn := fun _ => fun
  | [d] => { results := [.lit (.bool true)], args := [d] }
  | _ => none }
def branchLeastRow : OpenClaim := { program := "ytkmfgcbdnijgeaagreat", sum := "6a42ddd5ceaff4971ec12dcc1367418844d045fee4161e41c8c677e6ca782684", func := "timetable/timetablelaw29.BranchLeast", spec := "branchLeast", unfollowed := true, recurses := true, apart := false }
def BranchLeastSaid : Prop := branchLeastRow.holds Tryz.pinned (OpenSpec.ofChange branchLeastSpec)

/-- ITS FALSE NEIGHBOUR: 'it returns false'. Refute it at one input. -/
def branchLeastWrong : ChangeSpec := { name := "branchLeast", fn := fun _ => fun
  | [d] => { results := [.lit (.bool false)], args := [d] }
  | _ => none }
def BranchLeastWrongFalsely : Prop := branchLeastRow.holds Tryz.pinned (OpenSpec.ofChange branchLeastWrong)

/-- 'timetablelaw29.BranchEven': WHATEVER THE INPUT: true; the input reads as it did. -/
def branchEvenSpec : ChangeSpec := { name := "branchEven", fn := fun _ => fun
  | [d] => { results := [.lit (.bool true)], args := [d] }
  | _ => none }
def branchEvenRow : OpenClaim := { program := "ytkmfgcbdnijgeaagreat", sum := "6a42ddd5ceaff4971ec12dcc1367418844d045fee4161e41c8c677e6ca782684", func := "timetable/timetablelaw29.BranchEven", spec := "branchEven", unfollowed := true, recurses := true, apart := false }
def BranchEvenSaid : Prop := branchEvenRow.holds Tryz.pinned (OpenSpec.ofChange branchEvenSpec)

/-- ITS FALSE NEIGHBOUR: 'it returns false'. Refute it at one input. -/
def branchEvenWrong : ChangeSpec := { name := "branchEven", fn := fun _ => fun
  | [d] => { results := [.lit (.bool false)], args := [d] }
  | _ => none }
def BranchEvenWrongFalsely : Prop := branchEvenRow.holds Tryz.pinned (OpenSpec.ofChange branchEvenWrong)

/-- 'timetablelaw29.BranchProves': WHATEVER THE INPUT: true; the input reads as it did. -/
def branchProvesSpec : ChangeSpec := { name := "branchProves", fn := fun _ => fun
  | [d1, d2] => { results := [.lit (.bool true)], args := [d1, d2] }
  | _ => none }
def branchProvesRow : OpenClaim := { program := "ytkmfgcbdnijgeaagreat", sum := "6a42ddd5ceaff4971ec12dcc1367418844d045fee4161e41c8c677e6ca782684", func := "timetable/timetablelaw29.BranchProves", spec := "branchProves", unfollowed := true, recurses := true, apart := false }
def BranchProvesSaid : Prop := branchProvesRow.holds Tryz.pinned (OpenSpec.ofChange branchProvesSpec)

/-- ITS FALSE NEIGHBOUR: 'it returns false'. Refute it at one input. -/
def branchProvesWrong : ChangeSpec := { name := "branchProves", fn := fun _ => fun
  | [d1, d2] => { results := [.lit (.bool false)], args := [d1, d2] }
  | _ => none }
def BranchProvesWrongFalsely : Prop := branchProvesRow.holds Tryz.pinned (OpenSpec.ofChange branchProvesWrong)

/-- 'timetablelaw29.BranchHard': WHATEVER THE INPUT: true; the input reads as it did. -/
def branchHardSpec : ChangeSpec := { name := "branchHard", fn := fun _ => fun
  | [d] => { results := [.lit (.bool true)], args := [d] }
  | _ => none }
def branchHardRow : OpenClaim := { program := "ytkmfgcbdnijgeaagreat", sum := "6a42ddd5ceaff4971ec12dcc1367418844d045fee4161e41c8c677e6ca782684", func := "timetable/timetablelaw29.BranchHard", spec := "branchHard", unfollowed := true, recurses := true, apart := false }
def BranchHardSaid : Prop := branchHardRow.holds Tryz.pinned (OpenSpec.ofChange branchHardSpec)

/-- ITS FALSE NEIGHBOUR: 'it returns false'. Refute it at one input. -/
def branchHardWrong : ChangeSpec := { name := "branchHard", fn := fun _ => fun
  | [d] => { results := [.lit (.bool false)], args := [d] }
  | _ => none }
def BranchHardWrongFalsely : Prop := branchHardRow.holds Tryz.pinned (OpenSpec.ofChange branchHardWrong)

/- THE SECOND FORM. 'bulk': how many values and letters a reading holds, each counted each time it is reached (what is shared counts as often as it is met; a slice's spare places count too). A statement '..UptoSaid' is the law's where the arguments, and the package variables that the reading takes, are together of bulk at most 1048576: NARROWER than '..Said'. Prove '..Said' where nothing that the law and all that it calls make is longer than what came in: it says more and counts as full. Else prove '..UptoSaid'. A law counts once. -/
mutual
def uptoBulk {H : Type} : DataW H → Nat
  | .lit (.string bytes) => bytes.length + 1
  | .lit _ => 1
  | .nil => 1
  | .ptr d => uptoBulk d + 1
  | .slice elems spare => uptoBulkAll elems + uptoBulkAll spare + 1
  | .agg parts => uptoBulkAll parts + 1
  | .iface _ d => uptoBulk d + 1
  | .map entries => uptoBulkEntries entries + 1
  | .held _ => 1
def uptoBulkAll {H : Type} : List (DataW H) → Nat
  | [] => 0
  | d :: r => uptoBulk d + uptoBulkAll r
def uptoBulkEntries {H : Type} : List (Lit × DataW H) → Nat
  | [] => 0
  | x :: r => uptoBulkEntry x + uptoBulkEntries r
def uptoBulkEntry {H : Type} : Lit × DataW H → Nat
  | (.string bytes, d) => bytes.length + uptoBulk d + 1
  | (_, d) => uptoBulk d + 1
 end
def uptoSmall : (H : Type) → List (DataW H) → Bool := fun _ ds => decide (uptoBulkAll ds ≤ 1048576)
def OpenSpec.upto (s : _root_.Go.ChangeSpec) : _root_.Go.OpenSpec := { _root_.Go.OpenSpec.ofChange s with cond := some uptoSmall }

/-- 'timetablelaw29.BranchPlans', WHERE WHAT IT READS IS OF BULK AT MOST 1048576: true; the input reads as it did. -/
def branchPlansUptoRow : OpenClaim := { program := "ytkmfgcbdnijgeaagreat", sum := "6a42ddd5ceaff4971ec12dcc1367418844d045fee4161e41c8c677e6ca782684", func := "timetable/timetablelaw29.BranchPlans", spec := "branchPlans", unfollowed := true, recurses := true, apart := false, narrowed := true }
def BranchPlansUptoSaid : Prop := branchPlansUptoRow.holds Tryz.pinned (OpenSpec.upto branchPlansSpec)

/-- 'timetablelaw29.BranchLeast', WHERE WHAT IT READS IS OF BULK AT MOST 1048576: true; the input reads as it did. -/
def branchLeastUptoRow : OpenClaim := { program := "ytkmfgcbdnijgeaagreat", sum := "6a42ddd5ceaff4971ec12dcc1367418844d045fee4161e41c8c677e6ca782684", func := "timetable/timetablelaw29.BranchLeast", spec := "branchLeast", unfollowed := true, recurses := true, apart := false, narrowed := true }
def BranchLeastUptoSaid : Prop := branchLeastUptoRow.holds Tryz.pinned (OpenSpec.upto branchLeastSpec)

/-- 'timetablelaw29.BranchEven', WHERE WHAT IT READS IS OF BULK AT MOST 1048576: true; the input reads as it did. -/
def branchEvenUptoRow : OpenClaim := { program := "ytkmfgcbdnijgeaagreat", sum := "6a42ddd5ceaff4971ec12dcc1367418844d045fee4161e41c8c677e6ca782684", func := "timetable/timetablelaw29.BranchEven", spec := "branchEven", unfollowed := true, recurses := true, apart := false, narrowed := true }
def BranchEvenUptoSaid : Prop := branchEvenUptoRow.holds Tryz.pinned (OpenSpec.upto branchEvenSpec)

/-- 'timetablelaw29.BranchProves', WHERE WHAT IT READS IS OF BULK AT MOST 1048576: true; the input reads as it did. -/
def branchProvesUptoRow : OpenClaim := { program := "ytkmfgcbdnijgeaagreat", sum := "6a42ddd5ceaff4971ec12dcc1367418844d045fee4161e41c8c677e6ca782684", func := "timetable/timetablelaw29.BranchProves", spec := "branchProves", unfollowed := true, recurses := true, apart := false, narrowed := true }
def BranchProvesUptoSaid : Prop := branchProvesUptoRow.holds Tryz.pinned (OpenSpec.upto branchProvesSpec)

/-- 'timetablelaw29.BranchHard', WHERE WHAT IT READS IS OF BULK AT MOST 1048576: true; the input reads as it did. -/
def branchHardUptoRow : OpenClaim := { program := "ytkmfgcbdnijgeaagreat", sum := "6a42ddd5ceaff4971ec12dcc1367418844d045fee4161e41c8c677e6ca782684", func := "timetable/timetablelaw29.BranchHard", spec := "branchHard", unfollowed := true, recurses := true, apart := false, narrowed := true }
def BranchHardUptoSaid : Prop := branchHardUptoRow.holds Tryz.pinned (OpenSpec.upto branchHardSpec)

end Rows
end Go.Proofs.YtkmfgcbdnijgeaaGreat
