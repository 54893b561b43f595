import Derived.Test.YtjbfepcaobnbpaaGreatDoorX19
import Derived.KernelRfl
set_option linter.unusedVariables false
set_option linter.unusedSimpArgs false
set_option linter.unnecessarySimpa false
set_option linter.unusedSectionVars false
section
/- CASES OF TopCrowd -/
open Go Go.Am
namespace Go.Am.T
theorem k56_h20 : frun TE noO noS 20 [mdlV 5 6, nodV 5 6, lefV 5 6] = some (notV 5 6) := by kernel_rfl
end Go.Am.T
end
