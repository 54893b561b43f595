import Derived.Test.YtncfieaimmpapaaE4
import Derived.Test.YtncfieaimmpapaaC13
import Derived.Test.YtncfieaimmpapaaL7
import Derived.Test.YtncfieaimmpapaaL11
set_option linter.unusedVariables false
set_option linter.unusedSimpArgs false
open Go Go.Am Go.Proofs
open Nat (reduceEqDiff reduceAdd reduceLeDiff reduceMul)
open Int (reduceNeg reduceLE reduceToNat)
set_option maxRecDepth 20000
namespace T
end T

