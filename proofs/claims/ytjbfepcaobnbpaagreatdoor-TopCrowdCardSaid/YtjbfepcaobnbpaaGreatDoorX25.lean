import Derived.Test.YtjbfepcaobnbpaaGreatDoorX19
import Derived.KernelRfl
set_option linter.unusedVariables false
set_option linter.unusedSimpArgs false
set_option linter.unnecessarySimpa false
set_option linter.unusedSectionVars false
section
/- CASES OF TopCrowd -/
open Go Go.Am
namespace Go.Am.T
theorem k44_h0 : nos 4 4 = true := by kernel_rfl
theorem k44_h22 : frun TE noO noS 22 [mdlV 4 4] = some (I 0) := by kernel_rfl
theorem k44_h20 : frun TE noO noS 20 [mdlV 4 4, nodV 4 4, lefV 4 4] = some (notV 4 4) := by kernel_rfl
theorem k44_h5 : frun TE noO noS 5 [J 4, J 4] = some (regV 4 4) := by kernel_rfl
theorem k44_h6 : frun TE (tabA tabC) noS 6 [regV 4 4, nS] = some (comV 4 4) := by kernel_rfl
theorem k44_h8 : frun TE (orC (t22 4 4) (t20 4 4)) noS 8 [mdlV 4 4, prfV 4 4] = some (ansV 4 4) := by kernel_rfl
theorem k44_h9 : run9 4 4 = some (bilV 4 4) := by kernel_rfl
theorem case44 : Case 4 4 := .of k44_h0 k44_h22 k44_h20 k44_h5 k44_h6 k44_h8 k44_h9
theorem k45_h0 : nos 4 5 = true := by kernel_rfl
theorem k45_h22 : frun TE noO noS 22 [mdlV 4 5] = some (I 0) := by kernel_rfl
theorem k45_h20 : frun TE noO noS 20 [mdlV 4 5, nodV 4 5, lefV 4 5] = some (notV 4 5) := by kernel_rfl
theorem k45_h5 : frun TE noO noS 5 [J 4, J 5] = some (regV 4 5) := by kernel_rfl
theorem k45_h6 : frun TE (tabA tabC) noS 6 [regV 4 5, nS] = some (comV 4 5) := by kernel_rfl
theorem k45_h8 : frun TE (orC (t22 4 5) (t20 4 5)) noS 8 [mdlV 4 5, prfV 4 5] = some (ansV 4 5) := by kernel_rfl
theorem k45_h9 : run9 4 5 = some (bilV 4 5) := by kernel_rfl
theorem case45 : Case 4 5 := .of k45_h0 k45_h22 k45_h20 k45_h5 k45_h6 k45_h8 k45_h9
end Go.Am.T
end
