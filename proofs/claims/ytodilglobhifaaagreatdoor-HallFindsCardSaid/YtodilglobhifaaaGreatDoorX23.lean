import Derived.Test.YtodilglobhifaaaGreatDoorX21
import Derived.Test.YtodilglobhifaaaGreatDoorX22
set_option linter.all false
set_option maxHeartbeats 0
set_option maxRecDepth 20000
open Go Go.Am Go.Proofs
namespace T
def bE(l:List Bool):List AV:=[.tree 1 (b8 l)]
instance:Row bE 1:=⟨λ_=>rfl,λl v hv=>by
 simp only[bE,List.mem_singleton]at hv;subst hv;exact .inr ⟨_,_,rfl⟩⟩
def PZ(m:ah)(left:List (List Bool))(hm:MB m)(hb:BB left):ao Tryz.prog 34 [.agg (aA m),.tree 1 (rowsOf bE left)] [] (.lit (.bool (decide (jd m left)))) []:=by
 have pL:=hm.cls;have pM:=hb.1;generalize az:decide (jd m left)=res;refine ao.aO 30 0 [.tmp 4] Tryz.func34 ?_;by_cases hl:left.length=m.cls.length;rotate_left
 ·rw[decide_eq_false (λh:jd m left=>hl h.1)]at az;((repeat'(first|refine Va X0 ?_|(refine Xi ?_ ?_<;>try intro ht)|exact Xx|fail)))
  ((skip))
  exact aT rfl (by rw[<- az])
 ((repeat'(first|refine Va X0 ?_|(refine Xi ?_ ?_<;>try intro ht)|exact Xx|fail)))
 refine aX (λk:Nat=>(⟨au [(1,.tree 1 (rowsOf bE left)),(2,.ptr 0 0 0),(5,aah k)],[.var (aA m)]⟩:St)) (λk=>k<=left.length/\∀ i,i<k->(left.getD i default).length=(m.cls.getD i default).length) (λk=>left.length-k) 0 ⟨Nat.zero_le _,Ay⟩ (Xv X0) ?_;rintro k⟨hk,hr⟩Ql an ay;by_cases aQ:k<left.length
 ·have h1:=hm.opt _ (aG (l:=m.cls) (i:=k) (d:=default) Ay);have h2:=hb.2 _ (aG (d:=default) aQ);generalize Cj:m.cls.getD k default=a at *;generalize pM:left.getD k default=b at *;by_cases tw:b.length=a.length
  ·((repeat'(first|refine Va (X4 @Cj @pM @bk.eq_1 @bE.eq_1) ?_|(refine Xi ?_ ?_<;>try intro ht)|exact Xx|fail)))
   exact an _ (k+1) ⟨Ay,λi hi=>by
    by_cases e:i=k
    ·subst e;rw[pM,Cj];exact tw
    ·exact hr i Ay⟩ Ay (Xv X0)
  ·rw[decide_eq_false (λh:jd m left=>tw (by have:=h.2 k Ay;rw[pM,Cj]at this;exact this))]at az;((repeat'(first|refine Va (X4 @Cj @pM @bk.eq_1 @bE.eq_1) ?_|(refine Xi ?_ ?_<;>try intro ht)|exact Xx|fail)))
   repeat(refine Xu ?_)
   refine Vb X0 ?_;exact aT rfl (by rw[<- az])
 ·rw[decide_eq_true (show jd m left from⟨hl,λi hi=>hr i Ay⟩)]at az;((repeat'(first|refine Va X0 ?_|(refine Xi ?_ ?_<;>try intro ht)|exact Xx|fail)))
  refine ay _ _ rfl ?_;clear an ay Ql;repeat(refine Xu ?_)
  refine Vb X0 ?_;exact aT rfl (by rw[<- az])
end T

