import Derived.Test.YtjadfapldkfbpaaGreatXAA
import Derived.Orders
set_option linter.all false
set_option maxHeartbeats 0
set_option maxRecDepth 20000
namespace Go.Am
def Hh:List (Nat×List Value):=[]
end Go.Am

