import Derived.Test.YtfoopmojjjpapaaGreatXAA
import Derived.Orders
set_option linter.all false
set_option maxHeartbeats 0
set_option maxRecDepth 20000
namespace Go.Am
def Fz:List (Nat×List Value):=[]
end Go.Am

