import Derived.Test.YtjbfepcaobnbpaaGreatDoorX19
import Derived.KernelRfl
set_option linter.unusedVariables false
set_option linter.unusedSimpArgs false
set_option linter.unnecessarySimpa false
set_option linter.unusedSectionVars false
section
/- CASES OF TopCrowd -/
open Go Go.Am
namespace Go.Am.T
theorem k57_h6 : frun TE (tabA tabC) noS 6 [regV 5 7, nS] = some (comV 5 7) := by kernel_rfl
end Go.Am.T
end
