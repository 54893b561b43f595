import Derived.Test.YtohdbmmapbaalaaC4
import Derived.Test.YtohdbmmapbaalaaAmG
import Derived.KernelRfl
set_option linter.unusedVariables false
set_option linter.unusedSimpArgs false
open Go Go.Am Go.Proofs
namespace T
theorem eqCh : EqT Try.prog 71 2 := EqT.of 3 (by kernel_rfl)
theorem eqPlaced : EqT Try.prog 56 5 := EqT.of 4 (by kernel_rfl)
theorem eqLd : EqT Try.prog 63 3 := EqT.of 3 (by kernel_rfl)
theorem gdCh : Try.prog.eqGuardType Try.prog.depth 71 = false := by kernel_rfl
theorem gdPlaced : Try.prog.eqGuardType Try.prog.depth 56 = false := by kernel_rfl
theorem gdLd : Try.prog.eqGuardType Try.prog.depth 63 = false := by kernel_rfl
end T

