import Derived.Test.YtfoopmojjjpapaaGreatX29
import Derived.Test.YtfoopmojjjpapaaGreatX27
set_option linter.all false
set_option maxHeartbeats 0
set_option maxRecDepth 20000
open List renaming mem_map→bS,getElem?_set_ne→fD,getD_eq_getElem?_getD→ax,getElem?_set→bP
open Go Go.Am Go.Proofs
namespace T
def ec.setRow{B:List (Nat×Ob)}{D:List (Nat×Nat)}{S:List (List Bool)}{os:List Ob}(h:ec B D S os){j:Nat}(hj:j<S.length){r:List Bool}(hr:r.length=(S.getD j default).length):
  ec B D (S.set j r) (os.set (D.getD j default).1 (.arr 1 (a8 r))):=by
 have sI:j<D.length:=by rw[h.len];exact hj
 have bx:=List.nodup_append.1 h.nd;have hDj:D.getD j default=D[j]:=by simp[sI]
 have cq:(D.getD j default).1∈D.map (·.1):=by rw[hDj];exact bS.2 ⟨_,List.getElem_mem sI,rfl⟩
 refine⟨λb hb=>?_,by rw[List.length_set];exact h.len,λk hk=>?_,h.nd⟩
 ·rw[fD ?_]
  ·exact h.base b hb
  ·intro e;exact bx.2.2 _ (bS.2 ⟨b,hb,rfl⟩) _ cq e.symm
 ·obtain⟨h1,h2⟩:=h.row k hk;by_cases e:k=j
  ·subst e;have aS:=(List.getElem?_eq_some_iff.1 h1).1;have hg:(S.set k r).getD k default=r:=by rw[ax,bP,if_pos rfl,if_pos hj];rfl
   rw[bP,if_pos rfl,if_pos aS,hg];exact⟨rfl,hr.trans h2⟩
  ·have hg:(S.set j r).getD k default=S.getD k default:=by rw[ax,fD (Ne.symm e),<- ax]
   rw[hg,fD ?_]
   ·exact⟨h1,h2⟩
   ·intro e2;have Iv:D.getD k default=D[k]:=by simp[hk]
    rw[hDj,Iv]at e2;have hp:=List.pairwise_iff_getElem.1 bx.2.1;rcases Nat.lt_or_gt_of_ne e with hl|hl
    ·exact hp k j (by simpa using hk) (by simpa using sI) hl (by simpa using e2.symm)
    ·exact hp j k (by simpa using sI) (by simpa using hk) hl (by simpa using e2)
end T

