import Derived.Test.YtkefbbedaaceaaaM18b
import Derived.Test.YtkefbbedaaceaaaM13
import Derived.Test.YtkefbbedaaceaaaD2
import Derived.Test.YtkefbbedaaceaaaSA
import Derived.Test.YtkefbbedaaceaaaMS
set_option linter.unusedVariables false
set_option linter.unusedSimpArgs false
set_option linter.unnecessarySimpa false
open Go Go.Am Go.Proofs
open Nat (reduceEqDiff reduceAdd reduceLeDiff reduceMul)
open Int (reduceNeg reduceLE reduceToNat)
set_option maxRecDepth 20000
namespace T
theorem bb_fits2 {m:Mdl} {x:List (List Bool)} (hm:VM m) (h:FitsP m x):BB x:=by
  have hc:=hm.cls
  refine⟨by have:=h.1;omega,fun r hr=>?_⟩
  obtain ⟨i,hi,rfl⟩:=List.getElem_of_mem hr
  have h2:=h.2 i hi
  have h3:=hm.opt _ (getD_mem (l:=m.cls) (i:=i) (d:=default) (by have:=h.1;omega))
  rw[List.getD_eq_getElem?_getD,List.getElem?_eq_getElem hi,Option.getD_some] at h2
  omega
theorem value_fit {m:Mdl} {x:List (List Bool)} {l:List Mv} (hm:VM m) (hf:FitsP m x) (hl:l.length≤12) (hb:∀ y∈l,mvB m y=true):valueT m x l=(valV m x (mvsL m l (S0 m,T0 m)),0):=by
  unfold valueT startV leafT
  rw[if_neg (by rw[if_neg (by rw[valid_iff.2 hm];simp),if_pos hf];simp),if_neg (by omega),if_neg (by rw[List.all_eq_true.2 hb];simp)]
end T

