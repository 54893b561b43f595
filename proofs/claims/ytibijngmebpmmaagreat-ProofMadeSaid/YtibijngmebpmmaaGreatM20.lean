import Derived.Test.YtibijngmebpmmaaGreatM18b
import Derived.Test.YtibijngmebpmmaaGreatMC
import Derived.Test.YtibijngmebpmmaaGreatDA
import Derived.Test.YtibijngmebpmmaaGreatSA
import Derived.Test.YtibijngmebpmmaaGreatSN
set_option linter.unusedVariables false
set_option linter.unusedSimpArgs false
set_option linter.unnecessarySimpa false
open Go Go.Am Go.Proofs
open Nat (reduceEqDiff reduceAdd reduceLeDiff reduceMul)
open Int (reduceNeg reduceLE reduceToNat)
set_option maxRecDepth 20000
namespace T
theorem bb_fits2 {m:Mdl} {x:List (List Bool)} (hm:VM m) (h:FitsP m x):BB x:=by
  have hc:=hm.cls
  refine⟨by have:=h.1;omega,fun r hr=>?_⟩
  obtain ⟨i,hi,rfl⟩:=List.getElem_of_mem hr
  have h2:=h.2 i hi
  have h3:=hm.opt _ (getD_mem (l:=m.cls) (i:=i) (d:=default) (by have:=h.1;omega))
  rw[List.getD_eq_getElem?_getD,List.getElem?_eq_getElem hi,Option.getD_some] at h2
  omega
end T

