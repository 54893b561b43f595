import Derived.Test.YtjbfepcaobnbpaaGreatDoorX32
import Derived.Test.YtjbfepcaobnbpaaGreatDoorX33
import Derived.KernelRfl
set_option linter.unusedVariables false
set_option linter.unusedSimpArgs false
set_option linter.unnecessarySimpa false
set_option linter.unusedSectionVars false
section
/- CASES OF TopCrowd -/
open Go Go.Am
namespace Go.Am.T
theorem k56_h0 : nos 5 6 = true := by kernel_rfl
theorem k56_h22 : frun TE noO noS 22 [mdlV 5 6] = some (I 0) := by kernel_rfl
theorem k56_h5 : frun TE noO noS 5 [J 5, J 6] = some (regV 5 6) := by kernel_rfl
theorem k56_h8 : frun TE (orC (t22 5 6) (t20 5 6)) noS 8 [mdlV 5 6, prfV 5 6] = some (ansV 5 6) := by kernel_rfl
theorem k56_h9 : run9 5 6 = some (bilV 5 6) := by kernel_rfl
theorem case56 : Case 5 6 := .of k56_h0 k56_h22 k56_h20 k56_h5 k56_h6 k56_h8 k56_h9
end Go.Am.T
end
