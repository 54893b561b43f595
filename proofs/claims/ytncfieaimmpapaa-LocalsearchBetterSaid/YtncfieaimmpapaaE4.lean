import Derived.Test.YtncfieaimmpapaaAmI
import Derived.Test.YtncfieaimmpapaaE3
set_option linter.unusedVariables false
set_option linter.unusedSimpArgs false
open Go Go.Am Go.Proofs
open Nat (reduceEqDiff reduceAdd reduceLeDiff reduceMul)
open Int (reduceNeg reduceLE reduceToNat)
set_option maxRecDepth 20000
namespace T
theorem EM.om {m : Mdl} {a b : Nat} (h : EM m a b) : OM m := h.vm.om
end T

