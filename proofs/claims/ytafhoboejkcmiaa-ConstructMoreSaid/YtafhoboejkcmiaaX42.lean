import Derived.Test.YtafhoboejkcmiaaX36
import Derived.Test.YtafhoboejkcmiaaX23
import Derived.Test.YtafhoboejkcmiaaX26
import Derived.Test.YtafhoboejkcmiaaX25
import Derived.Test.YtafhoboejkcmiaaX10
import Derived.Test.YtafhoboejkcmiaaX14
import Derived.Test.YtafhoboejkcmiaaX18
set_option linter.unusedVariables false
set_option linter.unusedSimpArgs false
set_option linter.unnecessarySimpa false
set_option linter.unusedSectionVars false
set_option maxHeartbeats 64000000
set_option maxRecDepth 20000
open Go Go.Am Go.Proofs
open Nat (reduceEqDiff reduceAdd reduceLeDiff reduceMul)
open Int (reduceNeg reduceLE reduceToNat)
open Go Go.Am Go.Proofs Go.ChangeShapes Go.WideShapes Go.ChangeAt Go.RowKit
namespace T
end T
namespace T
end T
namespace T
variable {H:Type} {enc:TypeId × Value→H} {W:World} {sp:Nat→Bool} {base:Nat}
end T

