import Derived.Test.YtjbfepcaobnbpaaGreatDoorCards
import Derived.SevenTiedAt
import Derived.KernelRfl
set_option linter.unusedVariables false
set_option linter.unusedSimpArgs false
set_option linter.unnecessarySimpa false
set_option linter.unusedSectionVars false
section
/- THE CLOSED FACTS OF THE CARD, one by one -/
namespace Go.Proofs.YtjbfepcaobnbpaaGreatDoor.topCrowd
open Go
theorem wf7 : Rows.topCrowdRow.wfByText (OpenSpec.ofChange Rows.topCrowdSpec) = true := by kernel_rfl
theorem mnI : Tryz.pinned.checked.prog.mainIs = some (true, "d62f64dc50373d40474283e3cdbf9131c3b81751c3bb2fda7db235112bada9b3".toList) := by kernel_rfl
theorem fnm : Tryz.prog.funcNamed "timetable/timetabletop.TopCrowd" = some 3 := by kernel_rfl
theorem lks : true = Tryz.pinned.checked.prog.looks [] := by kernel_rfl
theorem wst : ([3, 3].all fun u => !Tryz.prog.wantsStandIn u) = true := by kernel_rfl
theorem gos : false = Rows.topCrowdRow.goesBy Tryz.pinned.checked.prog := by kernel_rfl
end Go.Proofs.YtjbfepcaobnbpaaGreatDoor.topCrowd
end
