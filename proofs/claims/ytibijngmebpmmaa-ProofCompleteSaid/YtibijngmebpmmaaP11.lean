import Derived.Test.YtibijngmebpmmaaP10
import Derived.Test.YtibijngmebpmmaaM20
set_option linter.unusedVariables false
set_option linter.unusedSimpArgs false
set_option linter.unnecessarySimpa false
open Go Go.Am Go.Proofs
open Nat (reduceEqDiff reduceAdd reduceLeDiff reduceMul)
open Int (reduceNeg reduceLE reduceToNat)
set_option maxRecDepth 20000
namespace T
theorem Seg.pb {m:Mdl} (hm:VM m) {P:List Nd} {Q:List Int→Prop} (h:Seg m P Q 0 P.length []) (hn:P.length≤20000):PB P:=by
  have hnode:∀ x∈P,x.kids.length<9223372036854775808∧x.mvs.length<9223372036854775808∧x.grp=[]∧x.cells=[]:=fun x hx=>by
    obtain ⟨i,hi,rfl⟩:=List.getElem_of_mem hx
    have key:=h.flat i (Nat.zero_le _) hi
    have e:nd P i=P[i]:=by unfold nd;rw[List.getD_eq_getElem?_getD,List.getElem?_eq_getElem hi];rfl
    rw[e] at key
    have h2:=(h.node_ok i (Nat.zero_le _) hi).1
    rw[e] at h2
    have:=ndB_kids hm h2
    exact⟨by omega,by omega,key.2.1,key.2.2⟩
  refine⟨by omega,fun x hx=>(hnode x hx).1,fun x hx=>(hnode x hx).2.1,fun x hx=>?_,fun x hx=>?_,fun x hx l hl=>?_⟩
  · rw[(hnode x hx).2.2.1];show 0<_;decide
  · rw[(hnode x hx).2.2.2];show 0<_;decide
  · rw[(hnode x hx).2.2.2] at hl;cases hl
end T

