import Derived.Test.YtjadfapldkfbpaaGreatX17
import Derived.KernelRfl
set_option linter.all false
set_option maxHeartbeats 0
set_option maxRecDepth 20000
open Go Go.Am Go.Proofs
namespace T
end T

