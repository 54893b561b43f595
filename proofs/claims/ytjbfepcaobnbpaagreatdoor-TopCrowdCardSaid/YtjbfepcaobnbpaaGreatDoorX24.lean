import Derived.Test.YtjbfepcaobnbpaaGreatDoorX19
import Derived.KernelRfl
set_option linter.unusedVariables false
set_option linter.unusedSimpArgs false
set_option linter.unnecessarySimpa false
set_option linter.unusedSectionVars false
section
/- CASES OF TopCrowd -/
open Go Go.Am
namespace Go.Am.T
theorem k33_h0 : nos 3 3 = true := by kernel_rfl
theorem k33_h22 : frun TE noO noS 22 [mdlV 3 3] = some (I 0) := by kernel_rfl
theorem k33_h20 : frun TE noO noS 20 [mdlV 3 3, nodV 3 3, lefV 3 3] = some (notV 3 3) := by kernel_rfl
theorem k33_h5 : frun TE noO noS 5 [J 3, J 3] = some (regV 3 3) := by kernel_rfl
theorem k33_h6 : frun TE (tabA tabC) noS 6 [regV 3 3, nS] = some (comV 3 3) := by kernel_rfl
theorem k33_h8 : frun TE (orC (t22 3 3) (t20 3 3)) noS 8 [mdlV 3 3, prfV 3 3] = some (ansV 3 3) := by kernel_rfl
theorem k33_h9 : run9 3 3 = some (bilV 3 3) := by kernel_rfl
theorem case33 : Case 3 3 := .of k33_h0 k33_h22 k33_h20 k33_h5 k33_h6 k33_h8 k33_h9
theorem k34_h0 : nos 3 4 = true := by kernel_rfl
theorem k34_h22 : frun TE noO noS 22 [mdlV 3 4] = some (I 0) := by kernel_rfl
theorem k34_h20 : frun TE noO noS 20 [mdlV 3 4, nodV 3 4, lefV 3 4] = some (notV 3 4) := by kernel_rfl
theorem k34_h5 : frun TE noO noS 5 [J 3, J 4] = some (regV 3 4) := by kernel_rfl
theorem k34_h6 : frun TE (tabA tabC) noS 6 [regV 3 4, nS] = some (comV 3 4) := by kernel_rfl
theorem k34_h8 : frun TE (orC (t22 3 4) (t20 3 4)) noS 8 [mdlV 3 4, prfV 3 4] = some (ansV 3 4) := by kernel_rfl
theorem k34_h9 : run9 3 4 = some (bilV 3 4) := by kernel_rfl
theorem case34 : Case 3 4 := .of k34_h0 k34_h22 k34_h20 k34_h5 k34_h6 k34_h8 k34_h9
theorem k35_h0 : nos 3 5 = true := by kernel_rfl
theorem k35_h22 : frun TE noO noS 22 [mdlV 3 5] = some (I 0) := by kernel_rfl
theorem k35_h20 : frun TE noO noS 20 [mdlV 3 5, nodV 3 5, lefV 3 5] = some (notV 3 5) := by kernel_rfl
theorem k35_h5 : frun TE noO noS 5 [J 3, J 5] = some (regV 3 5) := by kernel_rfl
theorem k35_h6 : frun TE (tabA tabC) noS 6 [regV 3 5, nS] = some (comV 3 5) := by kernel_rfl
theorem k35_h8 : frun TE (orC (t22 3 5) (t20 3 5)) noS 8 [mdlV 3 5, prfV 3 5] = some (ansV 3 5) := by kernel_rfl
theorem k35_h9 : run9 3 5 = some (bilV 3 5) := by kernel_rfl
theorem case35 : Case 3 5 := .of k35_h0 k35_h22 k35_h20 k35_h5 k35_h6 k35_h8 k35_h9
end Go.Am.T
end
