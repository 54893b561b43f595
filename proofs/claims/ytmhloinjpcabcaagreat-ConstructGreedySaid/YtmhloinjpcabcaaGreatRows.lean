/-
  No cell of these rows narrows 'for every input' (looked for: loops, veiled, ifaces, maps, wideKeys, modest, calm, conditions, laid).
  DERIVED. THE GIVEN ROWS OF THIS SEAT. 4 by the template 'for every input the law returns true; each argument reads behind the call as it read before'; 0 by the template 'total and deterministic' (their statements: YtmhloinjpcabcaaGreatTotals.lean).
  GIVEN WITH THE SEED: the statements are not yours to turn. If you find one false, say at which input.
  Laid BY PROGRAM, IN A SANDBOX (cutbox-rows.mjs): the forced cells as the released guide's own fill.sh prints them over the translation 5c2a78fc43b53dbc… (all of the seat's roots in one cut). By AI agents, Wed Nov 11 2026. No macro, syntax, notation, axiom, sorry.
-/
import Derived.Test.YtmhloinjpcabcaaGreatChecked
import GoSem.Claim
import GoSem.ClaimJoined
import GoSem.ClaimMapViews
import Derived.JoinedTies
import Derived.KernelRfl
namespace Go.Proofs.YtmhloinjpcabcaaGreat
/- THE CELL 'sum', in the pinned program and in every row, IS THE sha256 OF THE DUMP (.gsa) THAT YtmhloinjpcabcaaGreatProg.lean LOADS. Nothing in Lean hashes anything: it is a label: what it is worth is what the hold of that sum in a sandbox is worth. -/
noncomputable def Tryz.pinned : Pinned := { name := "ytmhloinjpcabcaagreat", sum := "5c2a78fc43b53dbce38e81f852a3f5fce315c7408559e92b48cc2ece16e54cfe", checked := Tryz.checked }
namespace Rows
def none {H : Type} : Left H := { results := [], args := [] }

/-- 'timetablelaw26.ConstructBuilds': WHATEVER THE INPUT: true; the input reads as it did. -/
def constructBuildsSpec : ChangeSpec := { name := "constructBuilds", fn := fun _ => fun
  | [d1, d2] => { results := [.lit (.bool true)], args := [d1, d2] }
  | _ => none }
def constructBuildsRow : OpenClaim := { program := "ytmhloinjpcabcaagreat", sum := "5c2a78fc43b53dbce38e81f852a3f5fce315c7408559e92b48cc2ece16e54cfe", func := "timetable/timetablelaw26.ConstructBuilds", spec := "constructBuilds", unfollowed := true, recurses := true, plainKeys := false, apart := false }
def ConstructBuildsSaid : Prop := constructBuildsRow.holds Tryz.pinned (OpenSpec.ofChange constructBuildsSpec)

/-- ITS FALSE NEIGHBOUR: 'it returns false'. Refute it at one input. -/
def constructBuildsWrong : ChangeSpec := { name := "constructBuilds", fn := fun _ => fun
  | [d1, d2] => { results := [.lit (.bool false)], args := [d1, d2] }
  | _ => none }
def ConstructBuildsWrongFalsely : Prop := constructBuildsRow.holds Tryz.pinned (OpenSpec.ofChange constructBuildsWrong)

/-- 'timetablelaw26.ConstructOrders': WHATEVER THE INPUT: true; the input reads as it did. -/
def constructOrdersSpec : ChangeSpec := { name := "constructOrders", fn := fun _ => fun
  | [d] => { results := [.lit (.bool true)], args := [d] }
  | _ => none }
def constructOrdersRow : OpenClaim := { program := "ytmhloinjpcabcaagreat", sum := "5c2a78fc43b53dbce38e81f852a3f5fce315c7408559e92b48cc2ece16e54cfe", func := "timetable/timetablelaw26.ConstructOrders", spec := "constructOrders", unfollowed := true, recurses := true, plainKeys := false, apart := false }
def ConstructOrdersSaid : Prop := constructOrdersRow.holds Tryz.pinned (OpenSpec.ofChange constructOrdersSpec)

/-- ITS FALSE NEIGHBOUR: 'it returns false'. Refute it at one input. -/
def constructOrdersWrong : ChangeSpec := { name := "constructOrders", fn := fun _ => fun
  | [d] => { results := [.lit (.bool false)], args := [d] }
  | _ => none }
def ConstructOrdersWrongFalsely : Prop := constructOrdersRow.holds Tryz.pinned (OpenSpec.ofChange constructOrdersWrong)

/-- 'timetablelaw26.ConstructGreedy': WHATEVER THE INPUT: true; the input reads as it did. -/
def constructGreedySpec : ChangeSpec := { name := "constructGreedy", fn := fun _ => fun
  | [d1, d2] => { results := [.lit (.bool true)], args := [d1, d2] }
  | _ => none }
def constructGreedyRow : OpenClaim := { program := "ytmhloinjpcabcaagreat", sum := "5c2a78fc43b53dbce38e81f852a3f5fce315c7408559e92b48cc2ece16e54cfe", func := "timetable/timetablelaw26.ConstructGreedy", spec := "constructGreedy", unfollowed := true, recurses := true, plainKeys := false, apart := false }
def ConstructGreedySaid : Prop := constructGreedyRow.holds Tryz.pinned (OpenSpec.ofChange constructGreedySpec)

/-- ITS FALSE NEIGHBOUR: 'it returns false'. Refute it at one input. -/
def constructGreedyWrong : ChangeSpec := { name := "constructGreedy", fn := fun _ => fun
  | [d1, d2] => { results := [.lit (.bool false)], args := [d1, d2] }
  | _ => none }
def ConstructGreedyWrongFalsely : Prop := constructGreedyRow.holds Tryz.pinned (OpenSpec.ofChange constructGreedyWrong)

/-- 'timetablelaw26.ConstructKeeps': WHATEVER THE INPUT: true; the input reads as it did. -/
def constructKeepsSpec : ChangeSpec := { name := "constructKeeps", fn := fun _ => fun
  | [d] => { results := [.lit (.bool true)], args := [d] }
  | _ => none }
def constructKeepsRow : OpenClaim := { program := "ytmhloinjpcabcaagreat", sum := "5c2a78fc43b53dbce38e81f852a3f5fce315c7408559e92b48cc2ece16e54cfe", func := "timetable/timetablelaw26.ConstructKeeps", spec := "constructKeeps", unfollowed := true, recurses := true, plainKeys := false, apart := false }
def ConstructKeepsSaid : Prop := constructKeepsRow.holds Tryz.pinned (OpenSpec.ofChange constructKeepsSpec)

/-- ITS FALSE NEIGHBOUR: 'it returns false'. Refute it at one input. -/
def constructKeepsWrong : ChangeSpec := { name := "constructKeeps", fn := fun _ => fun
  | [d] => { results := [.lit (.bool false)], args := [d] }
  | _ => none }
def ConstructKeepsWrongFalsely : Prop := constructKeepsRow.holds Tryz.pinned (OpenSpec.ofChange constructKeepsWrong)

/- THE SECOND FORM. 'bulk': how many values and letters a reading holds, each counted each time it is reached (what is shared counts as often as it is met; a slice's spare places count too). A statement '..UptoSaid' is the law's where the arguments, and the package variables that the reading takes, are together of bulk at most 1048576: NARROWER than '..Said'. Prove '..Said' where nothing that the law and all that it calls make is longer than what came in: it says more and counts as full. Else prove '..UptoSaid'. A law counts once. -/
mutual
def uptoBulk {H : Type} : DataW H → Nat
  | .lit (.string bytes) => bytes.length + 1
  | .lit _ => 1
  | .nil => 1
  | .ptr d => uptoBulk d + 1
  | .slice elems spare => uptoBulkAll elems + uptoBulkAll spare + 1
  | .agg parts => uptoBulkAll parts + 1
  | .iface _ d => uptoBulk d + 1
  | .map entries => uptoBulkEntries entries + 1
  | .held _ => 1
def uptoBulkAll {H : Type} : List (DataW H) → Nat
  | [] => 0
  | d :: r => uptoBulk d + uptoBulkAll r
def uptoBulkEntries {H : Type} : List (Lit × DataW H) → Nat
  | [] => 0
  | x :: r => uptoBulkEntry x + uptoBulkEntries r
def uptoBulkEntry {H : Type} : Lit × DataW H → Nat
  | (.string bytes, d) => bytes.length + uptoBulk d + 1
  | (_, d) => uptoBulk d + 1
 end
def uptoSmall : (H : Type) → List (DataW H) → Bool := fun _ ds => decide (uptoBulkAll ds ≤ 1048576)
def OpenSpec.upto (s : _root_.Go.ChangeSpec) : _root_.Go.OpenSpec := { _root_.Go.OpenSpec.ofChange s with cond := some uptoSmall }

/-- 'timetablelaw26.ConstructBuilds', WHERE WHAT IT READS IS OF BULK AT MOST 1048576: true; the input reads as it did. -/
def constructBuildsUptoRow : OpenClaim := { program := "ytmhloinjpcabcaagreat", sum := "5c2a78fc43b53dbce38e81f852a3f5fce315c7408559e92b48cc2ece16e54cfe", func := "timetable/timetablelaw26.ConstructBuilds", spec := "constructBuilds", unfollowed := true, recurses := true, plainKeys := false, apart := false, narrowed := true }
def ConstructBuildsUptoSaid : Prop := constructBuildsUptoRow.holds Tryz.pinned (OpenSpec.upto constructBuildsSpec)

/-- 'timetablelaw26.ConstructOrders', WHERE WHAT IT READS IS OF BULK AT MOST 1048576: true; the input reads as it did. -/
def constructOrdersUptoRow : OpenClaim := { program := "ytmhloinjpcabcaagreat", sum := "5c2a78fc43b53dbce38e81f852a3f5fce315c7408559e92b48cc2ece16e54cfe", func := "timetable/timetablelaw26.ConstructOrders", spec := "constructOrders", unfollowed := true, recurses := true, plainKeys := false, apart := false, narrowed := true }
def ConstructOrdersUptoSaid : Prop := constructOrdersUptoRow.holds Tryz.pinned (OpenSpec.upto constructOrdersSpec)

/-- 'timetablelaw26.ConstructGreedy', WHERE WHAT IT READS IS OF BULK AT MOST 1048576: true; the input reads as it did. -/
def constructGreedyUptoRow : OpenClaim := { program := "ytmhloinjpcabcaagreat", sum := "5c2a78fc43b53dbce38e81f852a3f5fce315c7408559e92b48cc2ece16e54cfe", func := "timetable/timetablelaw26.ConstructGreedy", spec := "constructGreedy", unfollowed := true, recurses := true, plainKeys := false, apart := false, narrowed := true }
def ConstructGreedyUptoSaid : Prop := constructGreedyUptoRow.holds Tryz.pinned (OpenSpec.upto constructGreedySpec)

/-- 'timetablelaw26.ConstructKeeps', WHERE WHAT IT READS IS OF BULK AT MOST 1048576: true; the input reads as it did. -/
def constructKeepsUptoRow : OpenClaim := { program := "ytmhloinjpcabcaagreat", sum := "5c2a78fc43b53dbce38e81f852a3f5fce315c7408559e92b48cc2ece16e54cfe", func := "timetable/timetablelaw26.ConstructKeeps", spec := "constructKeeps", unfollowed := true, recurses := true, plainKeys := false, apart := false, narrowed := true }
def ConstructKeepsUptoSaid : Prop := constructKeepsUptoRow.holds Tryz.pinned (OpenSpec.upto constructKeepsSpec)

end Rows
end Go.Proofs.YtmhloinjpcabcaaGreat
