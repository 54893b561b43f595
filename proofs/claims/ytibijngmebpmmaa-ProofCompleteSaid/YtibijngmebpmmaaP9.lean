import Derived.Test.YtibijngmebpmmaaPE
import Derived.Test.YtibijngmebpmmaaP8
import Derived.Test.YtibijngmebpmmaaCB
import Derived.Test.YtibijngmebpmmaaM6
import Derived.Test.YtibijngmebpmmaaMC
import Derived.Test.YtibijngmebpmmaaM15
set_option linter.unusedVariables false
set_option linter.unusedSimpArgs false
set_option linter.unnecessarySimpa false
open Go Go.Am Go.Proofs
open Nat (reduceEqDiff reduceAdd reduceLeDiff reduceMul)
open Int (reduceNeg reduceLE reduceToNat)
set_option maxRecDepth 20000
namespace T
end T

