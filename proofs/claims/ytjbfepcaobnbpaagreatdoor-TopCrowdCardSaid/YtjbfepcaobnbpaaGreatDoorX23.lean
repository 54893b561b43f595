import Derived.Test.YtjbfepcaobnbpaaGreatDoorX19
import Derived.KernelRfl
set_option linter.unusedVariables false
set_option linter.unusedSimpArgs false
set_option linter.unnecessarySimpa false
set_option linter.unusedSectionVars false
section
/- CASES OF TopCrowd -/
open Go Go.Am
namespace Go.Am.T
theorem k11_h0 : nos 1 1 = true := by kernel_rfl
theorem k11_h22 : frun TE noO noS 22 [mdlV 1 1] = some (I 0) := by kernel_rfl
theorem k11_h20 : frun TE noO noS 20 [mdlV 1 1, nodV 1 1, lefV 1 1] = some (notV 1 1) := by kernel_rfl
theorem k11_h5 : frun TE noO noS 5 [J 1, J 1] = some (regV 1 1) := by kernel_rfl
theorem k11_h6 : frun TE (tabA tabC) noS 6 [regV 1 1, nS] = some (comV 1 1) := by kernel_rfl
theorem k11_h8 : frun TE (orC (t22 1 1) (t20 1 1)) noS 8 [mdlV 1 1, prfV 1 1] = some (ansV 1 1) := by kernel_rfl
theorem k11_h9 : run9 1 1 = some (bilV 1 1) := by kernel_rfl
theorem case11 : Case 1 1 := .of k11_h0 k11_h22 k11_h20 k11_h5 k11_h6 k11_h8 k11_h9
theorem k12_h0 : nos 1 2 = true := by kernel_rfl
theorem k12_h22 : frun TE noO noS 22 [mdlV 1 2] = some (I 0) := by kernel_rfl
theorem k12_h20 : frun TE noO noS 20 [mdlV 1 2, nodV 1 2, lefV 1 2] = some (notV 1 2) := by kernel_rfl
theorem k12_h5 : frun TE noO noS 5 [J 1, J 2] = some (regV 1 2) := by kernel_rfl
theorem k12_h6 : frun TE (tabA tabC) noS 6 [regV 1 2, nS] = some (comV 1 2) := by kernel_rfl
theorem k12_h8 : frun TE (orC (t22 1 2) (t20 1 2)) noS 8 [mdlV 1 2, prfV 1 2] = some (ansV 1 2) := by kernel_rfl
theorem k12_h9 : run9 1 2 = some (bilV 1 2) := by kernel_rfl
theorem case12 : Case 1 2 := .of k12_h0 k12_h22 k12_h20 k12_h5 k12_h6 k12_h8 k12_h9
theorem k13_h0 : nos 1 3 = true := by kernel_rfl
theorem k13_h22 : frun TE noO noS 22 [mdlV 1 3] = some (I 0) := by kernel_rfl
theorem k13_h20 : frun TE noO noS 20 [mdlV 1 3, nodV 1 3, lefV 1 3] = some (notV 1 3) := by kernel_rfl
theorem k13_h5 : frun TE noO noS 5 [J 1, J 3] = some (regV 1 3) := by kernel_rfl
theorem k13_h6 : frun TE (tabA tabC) noS 6 [regV 1 3, nS] = some (comV 1 3) := by kernel_rfl
theorem k13_h8 : frun TE (orC (t22 1 3) (t20 1 3)) noS 8 [mdlV 1 3, prfV 1 3] = some (ansV 1 3) := by kernel_rfl
theorem k13_h9 : run9 1 3 = some (bilV 1 3) := by kernel_rfl
theorem case13 : Case 1 3 := .of k13_h0 k13_h22 k13_h20 k13_h5 k13_h6 k13_h8 k13_h9
theorem k22_h0 : nos 2 2 = true := by kernel_rfl
theorem k22_h22 : frun TE noO noS 22 [mdlV 2 2] = some (I 0) := by kernel_rfl
theorem k22_h20 : frun TE noO noS 20 [mdlV 2 2, nodV 2 2, lefV 2 2] = some (notV 2 2) := by kernel_rfl
theorem k22_h5 : frun TE noO noS 5 [J 2, J 2] = some (regV 2 2) := by kernel_rfl
theorem k22_h6 : frun TE (tabA tabC) noS 6 [regV 2 2, nS] = some (comV 2 2) := by kernel_rfl
theorem k22_h8 : frun TE (orC (t22 2 2) (t20 2 2)) noS 8 [mdlV 2 2, prfV 2 2] = some (ansV 2 2) := by kernel_rfl
theorem k22_h9 : run9 2 2 = some (bilV 2 2) := by kernel_rfl
theorem case22 : Case 2 2 := .of k22_h0 k22_h22 k22_h20 k22_h5 k22_h6 k22_h8 k22_h9
theorem k23_h0 : nos 2 3 = true := by kernel_rfl
theorem k23_h22 : frun TE noO noS 22 [mdlV 2 3] = some (I 0) := by kernel_rfl
theorem k23_h20 : frun TE noO noS 20 [mdlV 2 3, nodV 2 3, lefV 2 3] = some (notV 2 3) := by kernel_rfl
theorem k23_h5 : frun TE noO noS 5 [J 2, J 3] = some (regV 2 3) := by kernel_rfl
theorem k23_h6 : frun TE (tabA tabC) noS 6 [regV 2 3, nS] = some (comV 2 3) := by kernel_rfl
theorem k23_h8 : frun TE (orC (t22 2 3) (t20 2 3)) noS 8 [mdlV 2 3, prfV 2 3] = some (ansV 2 3) := by kernel_rfl
theorem k23_h9 : run9 2 3 = some (bilV 2 3) := by kernel_rfl
theorem case23 : Case 2 3 := .of k23_h0 k23_h22 k23_h20 k23_h5 k23_h6 k23_h8 k23_h9
theorem k24_h0 : nos 2 4 = true := by kernel_rfl
theorem k24_h22 : frun TE noO noS 22 [mdlV 2 4] = some (I 0) := by kernel_rfl
theorem k24_h20 : frun TE noO noS 20 [mdlV 2 4, nodV 2 4, lefV 2 4] = some (notV 2 4) := by kernel_rfl
theorem k24_h5 : frun TE noO noS 5 [J 2, J 4] = some (regV 2 4) := by kernel_rfl
theorem k24_h6 : frun TE (tabA tabC) noS 6 [regV 2 4, nS] = some (comV 2 4) := by kernel_rfl
theorem k24_h8 : frun TE (orC (t22 2 4) (t20 2 4)) noS 8 [mdlV 2 4, prfV 2 4] = some (ansV 2 4) := by kernel_rfl
theorem k24_h9 : run9 2 4 = some (bilV 2 4) := by kernel_rfl
theorem case24 : Case 2 4 := .of k24_h0 k24_h22 k24_h20 k24_h5 k24_h6 k24_h8 k24_h9
end Go.Am.T
end
