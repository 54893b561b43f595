import Derived.Test.YtodilglobhifaaaGreatDoorX27
import Derived.Test.YtodilglobhifaaaGreatDoorX30
set_option linter.all false
set_option maxHeartbeats 0
set_option maxRecDepth 20000
open List renaming mem_range→jA
open Go Go.Am Go.Proofs
namespace T
def aao{m:ah}{left:List (List Bool)}{c i:Nat}(hc:c<m.cls.length)(hi:i<(m.cls.getD c default).length)(h:(left.getD c default).getD i false=true):((c:Int),(i:Int))∈fU m left:=by
 unfold fU;refine List.mem_flatMap.2 ⟨c,jA.2 hc,?_⟩;unfold wg;exact List.mem_map.2 ⟨i,List.mem_filter.2 ⟨jA.2 hi,h⟩,rfl⟩
end T

