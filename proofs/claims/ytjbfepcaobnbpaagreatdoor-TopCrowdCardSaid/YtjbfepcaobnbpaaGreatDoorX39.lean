import Derived.Test.YtjbfepcaobnbpaaGreatDoorRows
import Derived.JoinedOf
import Derived.KernelRfl
set_option linter.unusedVariables false
set_option linter.unusedSimpArgs false
set_option linter.unnecessarySimpa false
set_option linter.unusedSectionVars false
section
/- THE CLOSED FACTS OF THE ROW: the four that walk through the whole program stand by themselves -/
namespace Go.Proofs.YtjbfepcaobnbpaaGreatDoor.topCrowd
open Go
theorem inP : (Rows.topCrowdRow.inPlace == Tryz.pinned.checked.prog.inPlace 3) = true := by kernel_rfl
theorem unf : (Rows.topCrowdRow.unfollowed == Tryz.pinned.checked.prog.unfollowed 3) = true := by kernel_rfl
theorem rcs : (Rows.topCrowdRow.recurses == Tryz.pinned.checked.prog.recurses 3) = true := by kernel_rfl
theorem nmd : (Rows.topCrowdRow.named == Tryz.pinned.checked.prog.varsNamed 3) = true := by kernel_rfl
theorem facts : joinedFacts Tryz.pinned.checked.prog 3 Tryz.f3 Rows.topCrowdSpec Rows.topCrowdRow = true := by
  unfold joinedFacts
  rw [inP, unf, rcs, nmd]
  kernel_rfl
end Go.Proofs.YtjbfepcaobnbpaaGreatDoor.topCrowd
end
