import Derived.Test.YtodilglobhifaaaDoorXAA
import Derived.Orders
set_option linter.all false
set_option maxHeartbeats 0
set_option maxRecDepth 20000
namespace Go.Am
def uK:List (Nat×List Value):=[(1,([0,1,56,2,57,49,28,3,61,58,42,50,38,29,17,4,62,47,59,36,45,43,51,22,53,39,33,30,24,18,12,5,63,55,48,27,60,41,37,16,46,35,44,21,52,32,23,11,54,26,40,15,34,20,31,10,25,14,19,9,13,8,7,6]:List Int).map (Value.int .u8))]
end Go.Am

