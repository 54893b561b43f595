import Derived.Test.YtjbfepcaobnbpaaGreatDoorX19
import Derived.KernelRfl
set_option linter.unusedVariables false
set_option linter.unusedSimpArgs false
set_option linter.unnecessarySimpa false
set_option linter.unusedSectionVars false
section
/- awake -/
open Go Go.Am
namespace Go.Am.T
open Go.Proofs
theorem k7 : frun TE noO readX 7 [] = some tT := by kernel_rfl
theorem awake_ok : Fact Tryz.prog 7 [] tT := frun_fact noO_ok (fun _ hc => readX_ok hc) k7 rfl rfl
end Go.Am.T
end
