import Derived.Test.YtncfieaimmpapaaL10
import Derived.Test.YtncfieaimmpapaaSA
import Derived.Test.YtncfieaimmpapaaL6
import Derived.Test.YtncfieaimmpapaaC10
set_option linter.unusedVariables false
set_option linter.unusedSimpArgs false
open Go Go.Am Go.Proofs
open Nat (reduceEqDiff reduceAdd reduceLeDiff reduceMul)
open Int (reduceNeg reduceLE reduceToNat)
set_option maxRecDepth 20000
namespace T
end T

