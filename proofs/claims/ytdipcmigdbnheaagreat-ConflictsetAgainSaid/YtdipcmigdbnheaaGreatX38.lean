import Derived.Test.YtdipcmigdbnheaaGreatX36
import Derived.Test.YtdipcmigdbnheaaGreatX37
set_option linter.all false
set_option maxHeartbeats 0
set_option maxRecDepth 20000
open Go Go.Am Go.Proofs
namespace T
end T

