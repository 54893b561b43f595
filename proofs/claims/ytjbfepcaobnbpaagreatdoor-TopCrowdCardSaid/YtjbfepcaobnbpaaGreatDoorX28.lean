import Derived.Test.YtjbfepcaobnbpaaGreatDoorX26
import Derived.Test.YtjbfepcaobnbpaaGreatDoorX27
import Derived.KernelRfl
set_option linter.unusedVariables false
set_option linter.unusedSimpArgs false
set_option linter.unnecessarySimpa false
set_option linter.unusedSectionVars false
section
/- CASES OF TopCrowd -/
open Go Go.Am
namespace Go.Am.T
theorem k46_h0 : nos 4 6 = true := by kernel_rfl
theorem k46_h22 : frun TE noO noS 22 [mdlV 4 6] = some (I 0) := by kernel_rfl
theorem k46_h5 : frun TE noO noS 5 [J 4, J 6] = some (regV 4 6) := by kernel_rfl
theorem k46_h8 : frun TE (orC (t22 4 6) (t20 4 6)) noS 8 [mdlV 4 6, prfV 4 6] = some (ansV 4 6) := by kernel_rfl
theorem k46_h9 : run9 4 6 = some (bilV 4 6) := by kernel_rfl
theorem case46 : Case 4 6 := .of k46_h0 k46_h22 k46_h20 k46_h5 k46_h6 k46_h8 k46_h9
end Go.Am.T
end
