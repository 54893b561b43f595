import Derived.Test.YtjbfepcaobnbpaaGreatDoorX29
import Derived.Test.YtjbfepcaobnbpaaGreatDoorX30
import Derived.KernelRfl
set_option linter.unusedVariables false
set_option linter.unusedSimpArgs false
set_option linter.unnecessarySimpa false
set_option linter.unusedSectionVars false
section
/- CASES OF TopCrowd -/
open Go Go.Am
namespace Go.Am.T
theorem k55_h0 : nos 5 5 = true := by kernel_rfl
theorem k55_h22 : frun TE noO noS 22 [mdlV 5 5] = some (I 0) := by kernel_rfl
theorem k55_h5 : frun TE noO noS 5 [J 5, J 5] = some (regV 5 5) := by kernel_rfl
theorem k55_h8 : frun TE (orC (t22 5 5) (t20 5 5)) noS 8 [mdlV 5 5, prfV 5 5] = some (ansV 5 5) := by kernel_rfl
theorem k55_h9 : run9 5 5 = some (bilV 5 5) := by kernel_rfl
theorem case55 : Case 5 5 := .of k55_h0 k55_h22 k55_h20 k55_h5 k55_h6 k55_h8 k55_h9
end Go.Am.T
end
