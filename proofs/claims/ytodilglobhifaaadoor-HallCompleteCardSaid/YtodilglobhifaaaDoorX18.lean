import Derived.Test.YtodilglobhifaaaDoorX16
import Derived.Test.YtodilglobhifaaaDoorX17
set_option linter.all false
set_option maxHeartbeats 0
set_option maxRecDepth 20000
open Go Go.Am Go.Proofs
namespace T
def dN(l:List Bool):List AV:=[.tree 1 (bP l)]
instance:Row dN 1:=⟨λ_=>rfl,λl v hv=>by
 simp only[dN,List.mem_singleton]at hv;subst hv;exact .inr ⟨_,_,rfl⟩⟩
end T

