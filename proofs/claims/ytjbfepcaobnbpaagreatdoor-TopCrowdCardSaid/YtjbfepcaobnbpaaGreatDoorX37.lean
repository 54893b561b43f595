import Derived.Test.YtjbfepcaobnbpaaGreatDoorX35
import Derived.Test.YtjbfepcaobnbpaaGreatDoorX36
import Derived.KernelRfl
set_option linter.unusedVariables false
set_option linter.unusedSimpArgs false
set_option linter.unnecessarySimpa false
set_option linter.unusedSectionVars false
section
/- CASES OF TopCrowd -/
open Go Go.Am
namespace Go.Am.T
theorem k57_h0 : nos 5 7 = true := by kernel_rfl
theorem k57_h22 : frun TE noO noS 22 [mdlV 5 7] = some (I 0) := by kernel_rfl
theorem k57_h5 : frun TE noO noS 5 [J 5, J 7] = some (regV 5 7) := by kernel_rfl
theorem k57_h8 : frun TE (orC (t22 5 7) (t20 5 7)) noS 8 [mdlV 5 7, prfV 5 7] = some (ansV 5 7) := by kernel_rfl
theorem k57_h9 : run9 5 7 = some (bilV 5 7) := by kernel_rfl
theorem case57 : Case 5 7 := .of k57_h0 k57_h22 k57_h20 k57_h5 k57_h6 k57_h8 k57_h9
end Go.Am.T
end
