import Derived.Test.YtfoopmojjjpapaaGreatX47
import Derived.Test.YtfoopmojjjpapaaGreatX38
import Derived.Test.YtfoopmojjjpapaaGreatX41
set_option linter.all false
set_option maxHeartbeats 0
set_option maxRecDepth 20000
open Go Go.Am Go.Proofs
namespace T
end T

