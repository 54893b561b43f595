import Derived.Test.YtodilglobhifaaaGreatDoorX13
set_option linter.all false
set_option maxHeartbeats 0
set_option maxRecDepth 20000
open Nat renaming zero_le→aS,le_refl→aM,sub_zero→nr,sub_self→lU,add_sub_cancel→JC
open Int renaming cast_ofNat_Int→wZ,toNat_natCast→eu
open List renaming drop_eq_nil_of_le→dW,append_nil→gI,replicate→aD,replicate_zero→y8,nil_append→dx,getD_eq_getElem?_getD→ax,getElem?_eq_getElem→aT,length_append→aK
open And renaming intro→iI
open Option renaming map_none→jf
open Go Go.Am Go.Proofs
namespace T
def UB(left:List (List Int))(right:Int):ak Tryz.prog 42 [.tree 1 (cV left),aam right] [] (aam (check left right)) []:=by
 refine ak.aL 42 0 [.tmp 4] Tryz.func42 ?_;repeat'(first|(refine Xr X0 ?_;intro K hK)|refine Xo X0 ?_|(refine hK _ ?_;clear hK K)|(refine Xg X0 ?_ ?_<;>try intro hb)|(refine Xi ?_ ?_<;>try intro ht)|refine Xz ?_|refine Xh ?_|(refine Xe ?_;first|refine aQ rfl ?_|refine Xl ?_ ?_)|refine Xd ?_ ?_|exact Xx|fail)
 ·simp only[check,if_pos (show left.length > 256 by omega)]
 ·simp only[check,if_neg (show ¬ left.length > 256 by omega)];rw[if_pos Bv]
 ·simp only[check,if_neg (show ¬ left.length > 256 by omega)];rw[if_pos Bv]
 have EA:¬ left.length > 256:=Bv;refine aW (λk:Nat=>(⟨ao [(1,aam right),(18,.tree 1 (cV left)),(19,aam left.length),(20,aam k)],[]⟩:St)) (λk=>k<=left.length/\nc right left=nc right (left.drop k)) (λk=>left.length-k) 0 ⟨aS _,rfl⟩ (Xv @wZ) ?_;intro k ⟨hk,hc⟩ Ql an aw;repeat'(first|(refine Xr X0 ?_;intro K hK)|refine Xo X0 ?_|(refine hK _ ?_;clear hK K)|(refine Xg X0 ?_ ?_<;>try intro hb)|(refine Xi ?_ ?_<;>try intro ht)|refine Xz ?_|refine Xh ?_|(refine Xe ?_;first|refine aQ rfl ?_|refine Xl ?_ ?_)|refine Xd ?_ ?_|exact Xx|fail)
 ·unfold check;rw[if_neg EA,if_neg (show ¬ (right<0\/right > 4096) by omega),hc,dL _ _ [] Bv,nc,if_pos Bv]
 rotate_left
 ·rw[show k=left.length by omega,List.drop_length]at hc;simp only[check,if_neg EA,if_neg (show ¬ (right<0\/right > 4096) by omega),hc,nc]
 generalize hl:left.getD k []=l at *;have sc:nc right left=if m9 right l≠0 then 3 else nc right (left.drop (k+1)):=by
  rw[hc,dL _ _ [] Bv,nc,hl,if_neg Bv]
 refine aW (λj:Nat=>(⟨ao [(1,aam right),(18,.tree 1 (cV left)),(19,aam left.length),(20,aam k),(27,.tree 1 (ints l)),(28,aam l.length),(29,aam j)],[]⟩:St)) (λj=>j<=l.length/\m9 right l=m9 right (l.drop j)) (λj=>l.length-j) 0 ⟨aS _,rfl⟩ (Xv @wZ) ?_;intro j ⟨hj,Bk⟩ dh bc bz;repeat'(first|(refine Xr X0 ?_;intro K hK)|refine Xo X0 ?_|(refine hK _ ?_;clear hK K)|(refine Xg X0 ?_ ?_<;>try intro hb)|(refine Xi ?_ ?_<;>try intro ht)|refine Xz ?_|refine Xh ?_|(refine Xe ?_;first|refine aQ rfl ?_|refine Xl ?_ ?_)|refine Xd ?_ ?_|exact Xx|fail)
 ·unfold check;rw[if_neg EA,if_neg Bv,sc,Bk,dL _ _ 0 Bv,m9,if_pos Bv]
 ·unfold check;rw[if_neg EA,if_neg Bv,sc,Bk,dL _ _ 0 Bv,m9,if_pos Bv]
 ·refine bc _ (j+1) ⟨Bv,?_⟩ Bv ?_
  ·rw[Bk,dL _ _ 0 Bv,m9,if_neg Bv]
  ·exact Xv X0
 ·refine an _ (k+1) ⟨Bv,?_⟩ Bv ?_
  ·rw[show j=l.length by omega,List.drop_length]at Bk;rw[sc,Bk,m9,if_neg aac]
  ·exact Xv X0
def UC(l:List Bool)(hl:l.length<1000000):ak Tryz.prog 44 [.tree 1 (b8 l)] [] (.tree 1 (ints (cY l 0))) []:=by
 generalize aq:cY l 0=res;refine ak.aL 20 0 [.tmp 2] Tryz.func44 ?_;repeat'(first|(refine Xr X0 ?_;intro K hK)|refine Xo X0 ?_|(refine hK _ ?_;clear hK K)|(refine Xg X0 ?_ ?_<;>try intro hb)|(refine Xi ?_ ?_<;>try intro ht)|refine Xz ?_|refine Xh ?_|(refine Xe ?_;first|refine aQ rfl ?_|refine Xl ?_ ?_)|refine Xd ?_ ?_|exact Xx|fail)
 refine aW (λz:Nat×List Int=>(⟨ao [(3,.ref 0 1 0 z.2.length),(6,.tree 1 (b8 l)),(7,aam l.length),(8,aam z.1)],[.arr 1 (ints z.2)]⟩:St))
  (λz=>z.1<=l.length/\z.2.length<=z.1/\z.2++cY (l.drop z.1) z.1=res) (λz=>l.length-z.1) (0,[]) ⟨aS _,aM _,aq⟩ ?_ ?_
 ·refine aC.trans (aC.nil 3 1 (by simp only[Kc,simprocAttr]) aac) ?_;exact Xv X0
 rintro⟨k,acc⟩⟨hk,ha,hr⟩Ql an aw;dsimp only at hk ha hr ⊢;((try revert hK K);(repeat'(first|refine Va X0 ?_|(refine V2 X0 ?_ ?_<;>try with_reducible intro hb)|(refine Xi ?_ ?_<;>try intro ht)|refine VD ?_ ?_|exact Xx|fail))<;>try with_reducible intro K hK)
 ·rw[dL _ _ false Bv,cY,if_pos (by assumption)]at hr;refine an _ (k+1,acc++[(k:Int)]) ⟨aad,aak,by simpa using hr⟩ aad ?_;exact Xs false [2] X0
 ·rw[dL _ _ false Bv,cY,if_neg (by simp_all)]at hr;exact an _ (k+1,acc) ⟨aad,aad,hr⟩ aad (Xv X0)
 ·rw[dW Bv,cY,gI]at hr;subst hr;refine aw _ _ rfl ?_;clear an aw Ql;repeat(first|refine Xu ?_)
  ((try revert hK K);(repeat'(first|refine Vb X0 ?_|(refine V2 X0 ?_ ?_<;>try with_reducible intro hb)|(refine Xi ?_ ?_<;>try intro ht)|refine VD ?_ ?_|exact Xx|fail))<;>try with_reducible intro K hK)
  exact Xw true [] X0
def wQ(left:List (List Int))(R n:Nat)(seen:List Bool)(owner number:List Int):List Ob :=
 [.var [.tree 1 (cV left)],.var [.ref 5 1 0 R],.var [.ref 6 1 0 R],.var [.fn 91 [.ptr 0 0 0,.ptr 1 0 0,.ptr 2 0 0,.ptr 3 0 0,.ptr 4 0 0]],.var [.ref 7 1 0 n],.arr 1 (b8 seen),.arr 1 (ints owner),.arr 1 (ints number)]
def vd:ty Tryz.prog 34 = { kind:=9,size:=1,bytes:=8,elem:=0,len:=0,zero:=some [.nilFunc],aJ:=[] }:=by kernel_rfl
def UD:List.map AV.lit Value.nilFunc.cells.toList=[.lit .nilFunc]:=rfl
def adv(left:List (List Int))(R:Nat)(hL:gQ R left)(hR:R<1000000):∀ (f:Nat) (i:Nat) (seen:List Bool) (owner number:List Int),ju seen<=f->i<left.length->ja left.length R owner->seen.length=R->number.length=left.length ->
  ak Tryz.prog 91 [aam i,.ptr 0 0 0,.ptr 1 0 0,.ptr 2 0 0,.ptr 3 0 0,.ptr 4 0 0] (wQ left R left.length seen owner number) (.lit (.bool (ee left f (left.getD i []) i seen owner number).1))
   (wQ left R left.length (ee left f (left.getD i []) i seen owner number).2.1 (ee left f (left.getD i []) i seen owner number).2.2.1 (ee left f (left.getD i []) i seen owner number).2.2.2):=by
 intro f
 induction f using Nat.strongRecOn with
 |_ f tn =>
 intro i UE UF UG jO hi ho0 xO yk;have hl:=hL.get i;have AT:=hL.1;generalize aq:ee left f (left.getD i []) i UE UF UG=res;unfold wQ;refine ak.aL 48 8 [.tmp 7] Tryz.func91 ?_;repeat'(first|(refine Xr X0 ?_;intro K hK)|refine Xo X0 ?_|(refine hK _ ?_;clear hK K)|(refine Xg X0 ?_ ?_<;>try intro hb)|(refine Xi ?_ ?_<;>try intro ht)|refine Xz ?_|refine Xh ?_|(refine Xe ?_;first|refine aQ rfl ?_|refine Xl ?_ ?_)|refine Xd ?_ ?_|exact Xx|fail)
 refine aW (λz:Nat×List Bool×List Int×List Int=>(⟨ao [(0,aam i),(1,.ptr 0 0 0),(2,.ptr 1 0 0),(3,.ptr 2 0 0),(4,.ptr 3 0 0),(5,.ptr 4 0 0),(13,.tree 1 (ints (left.getD i []))),(14,aam (left.getD i []).length),(15,aam z.1)],wQ left R left.length z.2.1 z.2.2.1 z.2.2.2⟩:St))
  (λz=>z.1<=(left.getD i []).length/\ju z.2.1<=f/\ja left.length R z.2.2.1/\z.2.1.length=R/\z.2.2.2.length=left.length/\ee left f ((left.getD i []).drop z.1) i z.2.1 z.2.2.1 z.2.2.2=res) (λz=>(left.getD i []).length-z.1) (0,UE,UF,UG) ⟨aS _,jO,ho0,xO,yk,by simpa using aq⟩ (Xv X0) ?_
 rintro⟨k,seen,owner,number⟩⟨hk,hc,ho,hs,hm,hr⟩Ql an aw;dsimp only at hk hc ho hs hm hr ⊢;unfold wQ;have pZ:=ho.1;generalize cJ:left.getD i []=l at *;by_cases aY:k<l.length
 ·have hx:=hl.2 _ (aF (d:=0) aY);have hd:=dL l k 0 aY;generalize br:l.getD k 0=x at *;have Dc:=ho.get (x:=x.toNat) Bv;generalize jP:owner.getD x.toNat 0=o at *;repeat'(first|(refine Xr (X4 @cJ @br @jP @vd) ?_;intro K hK)|refine Xo (X4 @cJ @br @jP @vd) ?_|(refine hK _ ?_;clear hK K)|(refine Xg (X4 @cJ @br @jP @vd) ?_ ?_<;>try intro hb)|(refine Xi ?_ ?_<;>try intro ht)|refine Xz ?_|refine Xh ?_|(refine Xe ?_;first|refine aQ rfl ?_|refine Xl ?_ ?_)|refine Xd ?_ ?_|exact Xx|fail)
  all_goals rw[hd,ee.eq_def]at hr;simp only at hr;rw[jP]at hr
  ·rename_i Q3;rw[if_pos (by assumption)]at hr;exact an _ (k+1,seen,owner,number) ⟨aad,hc,ho,hs,hm,hr⟩ aad (Xv X0)
  ·rw[if_neg (by simp_all),if_pos hb]at hr;refine ln [] (.take 0 (.take 1 (.take 3 (.take 4 (.take 5 (.take 6 (.both 2 (.take 7 (.take 8 (.take 9 .nil))) 7 (.take 2 (.take 8 (.take 9 .nil)))))))))) rfl aac (by decide +kernel) ?_;simp(disch:=omega)only[Ac,↓Pc,simprocAttr,Pw,cJ,br,jP];repeat'(first|with_reducible refine iI ?_ ?_|omega|with_reducible rfl)
   all_goals repeat'(first|(refine Xr X0 ?_;intro K hK)|refine Xo X0 ?_|(refine hK _ ?_;clear hK K)|(refine Xg X0 ?_ ?_<;>try intro hb)|(refine Xi ?_ ?_<;>try intro ht)|refine Xz ?_|refine Xh ?_|(refine Xe ?_;first|refine aQ rfl ?_|refine Xl ?_ ?_)|refine Xd ?_ ?_|exact Xx|fail)
   all_goals rw[<- hr]
  ·rw[if_neg (by simp_all),if_neg Bv]at hr;have pz:=Aa seen x.toNat Bv (by simp_all);obtain⟨f',rfl⟩:∃f',f=f'+1:=⟨f-1,Bv⟩;have fX:=tn f' Bv o.toNat (seen.set x.toNat true) owner number Bv Bv ho (by simpa using hs) hm;rw[Int.toNat_of_nonneg hb]at fX;have bd:=G3 hL f' (left.getD o.toNat []) o.toNat (seen.set x.toNat true) owner (hL.get _).2 Bv ho (by simpa using hs);obtain⟨e1,e2,e3,e4⟩:=Da left f' (left.getD o.toNat []) o.toNat (seen.set x.toNat true) owner number;rw[<- e2,<- e3]at bd;simp only at hr;generalize hq:ee left f' (left.getD o.toNat []) o.toNat (seen.set x.toNat true) owner number=q at *;obtain⟨b,UH,Jc,Jd⟩:=q;dsimp only at fX bd hr e4;obtain⟨k1,k2,k3⟩:=bd;have k4:=k1.1;unfold wQ at fX;refine eT fX Jy ?_;repeat'(first|(refine Xr (X4 @cJ @br @jP @vd) ?_;intro K hK)|refine Xo (X4 @cJ @br @jP @vd) ?_|(refine hK _ ?_;clear hK K)|(refine Xg (X4 @cJ @br @jP @vd) ?_ ?_<;>try intro hb)|(refine Xi ?_ ?_<;>try intro ht)|refine Xz ?_|refine Xh ?_|(refine Xe ?_;first|refine aQ rfl ?_|refine Xl ?_ ?_)|refine Xd ?_ ?_|exact Xx|fail)
   ·rw[if_pos (by assumption)]at hr;refine ln [] (.take 0 (.take 1 (.take 3 (.take 4 (.take 5 (.take 6 (.both 2 (.take 7 (.take 8 (.take 9 .nil))) 7 (.take 2 (.take 8 (.take 9 .nil)))))))))) rfl aac (by decide +kernel) ?_;simp(disch:=omega)only[Ac,↓Pc,simprocAttr,Pw,cJ,br,jP];repeat'(first|with_reducible refine iI ?_ ?_|omega|with_reducible rfl)
    all_goals repeat'(first|(refine Xr X0 ?_;intro K hK)|refine Xo X0 ?_|(refine hK _ ?_;clear hK K)|(refine Xg X0 ?_ ?_<;>try intro hb)|(refine Xi ?_ ?_<;>try intro ht)|refine Xz ?_|refine Xh ?_|(refine Xe ?_;first|refine aQ rfl ?_|refine Xl ?_ ?_)|refine Xd ?_ ?_|exact Xx|fail)
    all_goals rw[<- hr]
   ·rw[if_neg (by simp_all)]at hr;exact an _ (k+1,UH,Jc,Jd) ⟨aad,aad,k1,k2,aad,hr⟩ aad (Xv X0)
 ·repeat'(first|(refine Xr @cJ ?_;intro K hK)|refine Xo @cJ ?_|(refine hK _ ?_;clear hK K)|(refine Xg @cJ ?_ ?_<;>try intro hb)|(refine Xi ?_ ?_<;>try intro ht)|refine Xz ?_|refine Xh ?_|(refine Xe ?_;first|refine aQ rfl ?_|refine Xl ?_ ?_)|refine Xd ?_ ?_|exact Xx|fail)
  ·rw[dW Bv,ee.eq_def]at hr;rw[<- hr]
  ·rw[dW Bv,ee.eq_def]at hr;rw[<- hr]
def UI(left:List (List Int))(R:Nat)(hL:gQ R left)(hR:R<1000000):ak Tryz.prog 43 [.tree 1 (cV left),aam R] [] (.bH [.tree 1 (ints (gB left R).2),.tree 1 (ints (gB left R).1)]) []:=by
 have AT:=hL.1;generalize aq:gB left R=res;unfold gB at aq;refine ak.aL 48 0 [.cell 4 22,.cell 5 22] Tryz.func43 ?_;repeat'(first|(refine Xr X0 ?_;intro K hK)|refine Xo X0 ?_|(refine hK _ ?_;clear hK K)|(refine Xg X0 ?_ ?_<;>try intro hb)|(refine Xi ?_ ?_<;>try intro ht)|refine Xz ?_|refine Xh ?_|(refine Xe ?_;first|refine aQ rfl ?_|refine Xl ?_ ?_)|refine Xd ?_ ?_|exact Xx|fail)
 refine zi ?_;intro Q hn he;refine uB ⟨ao [(1,aam R),(2,.ptr 0 0 0),(4,.ptr 1 0 0),(5,.ptr 2 0 0)],[.var [.tree 1 (cV left)],.var [.ref 3 1 0 left.length],.var [.ref 4 1 0 R],.arr 1 (ints (aD left.length 0)),.arr 1 (ints (aD R 0))]⟩ hn ?_ (λkey=>?_);rotate_left
 ·refine ln [] (.take 0 (.take 1 (.take 3 (.both 2 (.both 4 (.take 5 (.take 6 .nil)) 5 (.take 4 (.take 6 .nil))) 4 (.take 2 (.take 5 (.take 6 .nil))))))) rfl aac (by decide +kernel) ?_;simp(disch:=omega)only[Ac,↓Pc,simprocAttr,Pw];repeat'(first|with_reducible refine iI ?_ ?_|omega|with_reducible rfl)
  ·refine key _ ?_;exact Xs false [0,1,2,3,4] X0
  ·refine key _ ?_;exact Xs false [0,1,2,4,3] X0
 repeat'(first|(refine Xr X0 ?_;intro K hK)|refine Xo X0 ?_|(refine hK _ ?_;clear hK K)|(refine Xg X0 ?_ ?_<;>try intro hb)|(refine Xi ?_ ?_<;>try intro ht)|refine Xz ?_|refine Xh ?_|(refine Xe ?_;first|refine aQ rfl ?_|refine Xl ?_ ?_)|refine Xd ?_ ?_|exact Xx|fail)
 refine aW (λk:Nat=>(⟨ao [(1,aam R),(2,.ptr 0 0 0),(4,.ptr 1 0 0),(5,.ptr 2 0 0),(17,aam left.length),(18,aam k)],
  [.var [.tree 1 (cV left)],.var [.ref 3 1 0 left.length],.var [.ref 4 1 0 R],.arr 1 (ints (aD k (-1)++aD (left.length-k) 0)),.arr 1 (ints (aD R 0))]⟩:St)) (λk=>k<=left.length) (λk=>left.length-k) 0 (aS _) (Xv (X3 @y8.{0} @dx.{0} @nr)) ?_
 intro k hk Ql an aw;have hlen:=Q6 hk (-1) 0;((try revert hK K);(repeat'(first|refine Va @hlen ?_|(refine V2 @hlen ?_ ?_<;>try with_reducible intro hb)|(refine Xi ?_ ?_<;>try intro ht)|refine VD ?_ ?_|exact Xx|fail))<;>try with_reducible intro K hK)
 ·refine an _ (k+1) Bv Bv ?_;rw[Q7 Bv];exact Xv X0
 refine aw _ _ rfl ?_;clear an aw Ql;obtain rfl:k=left.length:=Bv;simp only[lU,y8,gI];clear hlen hk;repeat(first|refine Xu ?_)
 ((try revert hK K);(repeat'(first|refine Va X0 ?_|(refine V2 X0 ?_ ?_<;>try with_reducible intro hb)|(refine Xi ?_ ?_<;>try intro ht)|refine VD ?_ ?_|exact Xx|fail))<;>try with_reducible intro K hK)
 refine aW (λk:Nat=>(⟨ao [(1,aam R),(2,.ptr 0 0 0),(4,.ptr 1 0 0),(5,.ptr 2 0 0),(26,aam R),(27,aam k)],
  [.var [.tree 1 (cV left)],.var [.ref 3 1 0 left.length],.var [.ref 4 1 0 R],.arr 1 (ints (aD left.length (-1))),.arr 1 (ints (aD k (-1)++aD (R-k) 0))]⟩:St)) (λk=>k<=R) (λk=>R-k) 0 (aS _) (Xv (X3 @y8.{0} @dx.{0} @nr)) ?_
 intro k hk Ql an aw;have hlen:=Q6 hk (-1) 0;((try revert hK K);(repeat'(first|refine Va @hlen ?_|(refine V2 @hlen ?_ ?_<;>try with_reducible intro hb)|(refine Xi ?_ ?_<;>try intro ht)|refine VD ?_ ?_|exact Xx|fail))<;>try with_reducible intro K hK)
 ·refine an _ (k+1) Bv Bv ?_;rw[Q7 Bv];exact Xv X0
 refine aw _ _ rfl ?_;clear an aw Ql;obtain rfl:k=R:=Bv;simp only[lU,y8,gI];clear hlen hk;repeat(first|refine Xu ?_)
 ((try revert hK K);(repeat'(first|refine Va X0 ?_|(refine V2 X0 ?_ ?_<;>try with_reducible intro hb)|(refine Xi ?_ ?_<;>try intro ht)|refine VD ?_ ?_|exact Xx|fail))<;>try with_reducible intro K hK)
 refine aW (λz:Nat×List Int×List Int=>(⟨ao [(1,aam k),(2,.ptr 0 0 0),(4,.ptr 1 0 0),(5,.ptr 2 0 0),(35,aam left.length),(36,aam z.1)],
  [.var [.tree 1 (cV left)],.var [.ref 3 1 0 left.length],.var [.ref 4 1 0 k],.arr 1 (ints z.2.2),.arr 1 (ints z.2.1)]⟩:St))
  (λz=>z.1<=left.length/\ja left.length k z.2.1/\z.2.2.length=left.length/\pD left k (left.length-z.1) z.1 z.2.1 z.2.2=res) (λz=>left.length-z.1) (0,aD k (-1),aD left.length (-1)) ⟨aS _,ja.rep _ _,Jy,aq⟩ (Xv X0) ?_
 rintro⟨i,owner,number⟩⟨hi,ho,hm,hr⟩Ql an aw;dsimp only at hi ho hm hr ⊢;have pZ:=ho.1;by_cases hi':i<left.length
 ·have e:left.length-i=(left.length-(i+1))+1:=Bv;rw[e,pD]at hr;have bd:=G3 hL k (left.getD i []) i (aD k false) owner (hL.get _).2 hi' ho Jy;obtain⟨e1,e2,e3,e4⟩:=Da left k (left.getD i []) i (aD k false) owner number;rw[<- e2,<- e3]at bd;have fX:=adv left k hL hR k i (aD k false) owner number (by rw[Q5];omega) hi' ho Jy hm;generalize hq:ee left k (left.getD i []) i (aD k false) owner number=q at *;obtain⟨b,UH,Jc,Jd⟩:=q;dsimp only at fX bd hr e4;obtain⟨k1,k2,k3⟩:=bd;unfold wQ at fX;((try revert hK K);(repeat'(first|refine Va (X2 @vd @UD) ?_|(refine V2 (X2 @vd @UD) ?_ ?_<;>try with_reducible intro hb)|(refine Xi ?_ ?_<;>try intro ht)|refine VD ?_ ?_|exact Xx|fail))<;>try with_reducible intro K hK)
  refine fw [0,6,2,7,1,5,4,3] fX aac ⟨rfl,rfl,rfl,rfl,rfl,by rw[zm];rfl,by rw[zl];rfl,by rw[zl];rfl,trivial⟩ ⟨.pure rfl,.eq rfl,.eq rfl,.eq rfl,.eq rfl,.eq rfl,trivial⟩ ?_;((try revert hK K);(repeat'(first|refine Va X0 ?_|(refine V2 X0 ?_ ?_<;>try with_reducible intro hb)|(refine Xi ?_ ?_<;>try intro ht)|refine VD ?_ ?_|exact Xx|fail))<;>try with_reducible intro K hK)
  refine an _ (i+1,Jc,Jd) ⟨aad,k1,aad,hr⟩ aad ?_;exact Xs false [0,1,2,3,4] X0
 ·((try revert hK K);(repeat'(first|refine Va X0 ?_|(refine V2 X0 ?_ ?_<;>try with_reducible intro hb)|(refine Xi ?_ ?_<;>try intro ht)|refine VD ?_ ?_|exact Xx|fail))<;>try with_reducible intro K hK)
  rw[show left.length-i=0 by omega,pD]at hr;subst hr;refine aw _ _ rfl ?_;clear an aw Ql;repeat(first|refine Xu ?_)
  ((try revert hK K);(repeat'(first|refine Vb X0 ?_|(refine V2 X0 ?_ ?_<;>try with_reducible intro hb)|(refine Xi ?_ ?_<;>try intro ht)|refine VD ?_ ?_|exact Xx|fail))<;>try with_reducible intro K hK)
  refine ln [] (.take 0 (.both 1 (.take 2 (.take 3 .nil)) 2 (.take 1 (.take 3 .nil)))) rfl aac (by decide +kernel) ?_;simp(disch:=omega)only[Ac,↓Pc,simprocAttr,Pw];((try revert hK K);(repeat'(first|refine Vb X0 ?_|(refine V2 X0 ?_ ?_<;>try with_reducible intro hb)|(refine Xi ?_ ?_<;>try intro ht)|refine VD ?_ ?_|exact Xx|fail))<;>try with_reducible intro K hK)
  simp(disch:=omega)only[Ac,↓Pc,simprocAttr,rowOf];refine rp [] true aac trivial aac aac (bt.OW ?_ ?_)
  ·exact bt.bV rfl (lh _) (by rw[sW];omega) (nE aac) (o9 _)
  ·exact bt.bV rfl (lh _) (by rw[sW];omega) (nE aac) (o9 _)
def IM{σ:St}{kp:Nat->Prop}{ρ:Nat->Nat}{snap:Bool}{a b c d e f:AV}(h:bt σ kp ρ snap a d)(k:bt σ kp ρ snap b e)(l:bt σ kp ρ snap c f):bt σ kp ρ snap (.bH [a,b,c]) (.bH [d,e,f]) :=
 .bH _ _ rfl (kJ.spec (R:=bt σ kp ρ snap) (cs:=[a,b,c]) (ds:=[d,e,f]) ⟨h,k,l,trivial⟩).2
def acO(left:List (List Int))(right:Int):ak Tryz.prog 19 [.tree 1 (cV left),aam right] [] (.bH [.tree 1 (ints (xT left right).1),aam (xT left right).2]) []:=by
 generalize aq:xT left right=res;unfold xT at aq;have h1:=UB left right;generalize sc:check left right=e at *;refine ak.aL 22 0 [.tmp 4,.tmp 5] Tryz.func19 ?_;((try revert hK K);(repeat'(first|refine Vd X0 h1 ?_|(refine V2 X0 ?_ ?_<;>try with_reducible intro hb)|(refine Xi ?_ ?_<;>try intro ht)|refine VD ?_ ?_|exact Xx|fail))<;>try with_reducible intro K hK)
 ·rw[if_pos ht]at aq;rw[<- aq];exact rp [] true aac trivial aac aac (bt.OW bt.nil (.pure rfl))
 ·obtain⟨hL,h0,h1⟩:=G4 (sc.trans ht);rw[if_neg Bv]at aq;obtain⟨R,rfl⟩:∃R:Nat,right=R:=⟨right.toNat,Bv⟩;rw[eu]at hL aq;refine bx (UI left R hL Bv) rfl rfl ?_;((try revert hK K);(repeat'(first|refine Vb X0 ?_|(refine V2 X0 ?_ ?_<;>try with_reducible intro hb)|(refine Xi ?_ ?_<;>try intro ht)|refine VD ?_ ?_|exact Xx|fail))<;>try with_reducible intro K hK)
  rw[<- aq];exact pW rfl
def TT(left:List (List Int))(right:Int):ak Tryz.prog 18 [.tree 1 (cV left),aam right] [] (.bH [.tree 1 (ints (mn left right).1),.tree 1 (ints (mn left right).2.1),aam (mn left right).2.2]) []:=by
 generalize aq:mn left right=res;unfold mn at aq;have h1:=UB left right;generalize sc:check left right=e at *;refine ak.aL 98 0 [.tmp 4,.tmp 5,.tmp 6] Tryz.func18 ?_;((try revert hK K);(repeat'(first|refine Vd X0 h1 ?_|(refine V2 X0 ?_ ?_<;>try with_reducible intro hb)|(refine Xi ?_ ?_<;>try intro ht)|refine VD ?_ ?_|exact Xx|fail))<;>try with_reducible intro K hK)
 ·rw[if_pos ht]at aq;rw[<- aq];exact rp [] true aac trivial aac aac (IM bt.nil bt.nil (.pure rfl))
 obtain⟨hL,h0,h1⟩:=G4 (sc.trans ht);rw[if_neg Bv]at aq;obtain⟨R,rfl⟩:∃R:Nat,right=R:=⟨right.toNat,Bv⟩;rw[eu]at hL aq;refine bx (UI left R hL Bv) rfl rfl ?_;((try revert hK K);(repeat'(first|refine Vb X0 ?_|(refine V2 X0 ?_ ?_<;>try with_reducible intro hb)|(refine Xi ?_ ?_<;>try intro ht)|refine VD ?_ ?_|exact Xx|fail))<;>try with_reducible intro K hK)
 obtain⟨Je,jq⟩:=Y7 hL;unfold da at aq;generalize hm:gB left R=m at *;have afb:=Je.1;have AT:=hL.1;refine zi ?_;intro Q hn he;refine uB ⟨ao [(0,.tree 1 (cV left)),(1,aam R),(8,.tree 1 (ints m.2)),(9,.tree 1 (ints m.1)),(10,.ref 0 1 0 left.length),(11,.ref 1 1 0 R)],[.arr 1 (b8 (aD left.length false)),.arr 1 (b8 (aD R false))]⟩ hn ?_ (λkey=>?_);rotate_left
 ·refine ln [] (.take 0 (.take 1 (.take 3 (.both 2 (.take 4 (.take 5 (.take 6 .nil))) 4 (.take 2 (.take 5 (.take 6 .nil))))))) rfl aac (by decide +kernel) ?_;simp(disch:=omega)only[Ac,↓Pc,simprocAttr,Pw];repeat'(first|with_reducible refine iI ?_ ?_|omega|with_reducible rfl)
  ·refine key _ ?_;exact Xs false [0,1] X0
  ·refine key _ ?_;exact Xs false [1,0] X0
 repeat'(first|(refine Xr X0 ?_;intro K hK)|refine Xo X0 ?_|(refine hK _ ?_;clear hK K)|(refine Xg X0 ?_ ?_<;>try intro hb)|(refine Xi ?_ ?_<;>try intro ht)|refine Xz ?_|refine Xh ?_|(refine Xe ?_;first|refine aQ rfl ?_|refine Xl ?_ ?_)|refine Xd ?_ ?_|exact Xx|fail)
 have AG:(iO m.2).length=left.length:=by rw[iO,List.length_map,jq]
 have Jf:∀ k,k<left.length->(iO m.2).getD k false=decide (m.2.getD k 0<0):=λk hk=>by
  rw[iO,ax,List.getElem?_map,aT Bv,ax,aT Bv];rfl
 generalize hu:iO m.2=u at *;clear hu;generalize EB:cY u 0=q0 at *;refine aW (λz:Nat×List Int=>(⟨ao [(0,.tree 1 (cV left)),(1,aam R),(8,.tree 1 (ints m.2)),(9,.tree 1 (ints m.1)),(10,.ref 0 1 0 left.length),(11,.ref 1 1 0 R),(12,.ref 2 1 0 z.2.length),(36,.tree 1 (ints m.2)),(37,aam m.2.length),(38,aam z.1)],
   [.arr 1 (b8 (u.take z.1++aD (left.length-z.1) false)),.arr 1 (b8 (aD R false)),.arr 1 (ints z.2)]⟩:St))
  (λz=>z.1<=left.length/\z.2.length<=z.1/\z.2++cY (u.drop z.1) z.1=q0) (λz=>left.length-z.1) (0,[]) ⟨aS _,aM _,EB⟩ ?_ ?_
 ·refine aC.trans (aC.nil 12 1 (by simp only[Kc,simprocAttr]) aac) ?_;exact Xv (X3 @List.take_zero.{0} @dx.{0} @nr)
 ·rintro⟨k,acc⟩ ⟨hk,ha,hr⟩ Ql an aw;dsimp only at hk ha hr ⊢;have hlen:(u.take k++aD (left.length-k) false).length=left.length:=aak;((try revert hK K);(repeat'(first|refine Va @hlen ?_|(refine V2 @hlen ?_ ?_<;>try with_reducible intro hb)|(refine Xi ?_ ?_<;>try intro ht)|refine VD ?_ ?_|exact Xx|fail))<;>try with_reducible intro K hK)
  ·have hg:=Jf k Bv;rw[decide_eq_true ht]at hg;rw[dL _ _ false Bv,cY,if_pos (by assumption)]at hr;rw[Y8 (n:=left.length) Bv Bv hg];refine an _ (k+1,acc++[(k:Int)]) ⟨aad,aak,by simpa using hr⟩ aad ?_;exact Xs false [0,1,4] X0
  ·have hg:=Jf k Bv;rw[decide_eq_false Bv]at hg;rw[dL _ _ false Bv,cY,if_neg (by simp_all)]at hr;rw[Y9 (n:=left.length) Bv Bv hg];exact an _ (k+1,acc) ⟨aad,aad,hr⟩ aad (Xv X0)
  refine aw _ _ rfl ?_;clear an aw Ql;obtain rfl:k=left.length:=Bv;rw[dW Bv,cY,gI]at hr;subst hr;rw[List.take_of_length_le Bv,lU,y8,gI];repeat(first|refine Xu ?_)
  dsimp only at aq;have hcq:=Ad u 0;have IJ:G5 left.length acc:=λx hx=>by have:=tp u 0 x (by rw[EB];exact hx);omega
  rw[EB]at hcq;clear hlen hk ht EB Jf;generalize hz:oF left m.1 left.length acc (aD R false) u=z at aq;refine Xk ?_;refine Xb ?_;refine aW (λz:Nat×List Int×List Int×List Bool×List Bool=>(⟨ao [(0,.tree 1 (cV left)),(9,.tree 1 (ints m.1)),(10,.ref 0 1 0 left.length),(11,.ref 1 1 0 R),(12,.ref 2 1 z.2.1.length z.2.2.1.length)],
    [.arr 1 (b8 z.2.2.2.2),.arr 1 (b8 z.2.2.2.1),.arr 1 (ints (z.2.1++z.2.2.1))]⟩:St))
   (λy=>y.1<=left.length/\True/\G5 left.length y.2.2.1/\y.2.2.2.1.length=R/\y.2.2.2.2.length=left.length/\y.2.2.1.length+ju y.2.2.2.2<=y.1/\oF left m.1 y.1 y.2.2.1 y.2.2.2.1 y.2.2.2.2=z) (λy=>y.1) (left.length,[],acc,aD R false,u) ⟨aM _,trivial,IJ,Jy,AG,aad,hz⟩ ?_ ?_
  ·exact Xv X0
  rintro⟨f,pre,q,used,aE⟩⟨hf,EC,hq,ED,eE,hc,hr⟩Ql an aw;dsimp only at hf EC hq ED eE hc hr ⊢;have hlen:(pre++q).length=pre.length+q.length:=Jy;cases q with
  |nil =>
   have nJ:(used,aE)=z:=by
    rw[<- hr];cases f<;>rfl
   ((try revert hK K);(repeat'(first|refine Va @hlen ?_|(refine V2 @hlen ?_ ?_<;>try with_reducible intro hb)|(refine Xi ?_ ?_<;>try intro ht)|refine VD ?_ ?_|exact Xx|fail))<;>try with_reducible intro K hK)
   subst nJ;refine aw _ _ rfl ?_;clear an aw Ql;repeat(first|refine Xu ?_)
   refine cU (σ':=⟨ao [(10,.tree 1 (b8 aE)),(11,.tree 1 (b8 used))],[]⟩) ?_ ?_
   ·rw[<- eE,<- ED];exact Xs true [] X0
   ((try revert hK K);(repeat'(first|refine Vd X0 (X2 (UC aE Bv) (UC used Bv)) ?_|(refine V2 X0 ?_ ?_<;>try with_reducible intro hb)|(refine Xi ?_ ?_<;>try intro ht)|refine VD ?_ ?_|exact Xx|fail))<;>try with_reducible intro K hK)
   rw[<- aq];exact pW rfl
  |cons i q =>
   have hg:(ints (pre++i::q))[pre.length]?=some [aam i]:=by simp[ints]
   have hi:=hq i Jy;have hl:=hL.get i.toNat;have cz:q.length+1+ju aE<=f:=hc;obtain⟨f',rfl⟩:∃f',f=f'+1:=⟨f-1,Bv⟩;rw[oF]at hr;have UJ:=Db Je (left.getD i.toNat []) q used aE hl.2 (λx hx=>hq x (by simp[hx])) ED eE;generalize ko:gd m.1 (left.getD i.toNat []) q used aE=zz at hr UJ;obtain⟨Bj,hb2,SP,hb4⟩:=UJ;generalize cJ:left.getD i.toNat []=l at *;((try revert hK K);(repeat'(first|refine Va (X5 @hlen @hg @JC @jf.{0,0} @cJ) ?_|(refine V2 (X5 @hlen @hg @JC @jf.{0,0} @cJ) ?_ ?_<;>try with_reducible intro hb)|(refine Xi ?_ ?_<;>try intro ht)|refine VD ?_ ?_|exact Xx|fail))<;>try with_reducible intro K hK)
   refine aW (λy:Nat×Nat×List Int×List Int×List Bool×List Bool=>(⟨ao [(0,.tree 1 (cV left)),(9,.tree 1 (ints m.1)),(10,.ref 0 1 0 left.length),(11,.ref 1 1 0 R),(12,.ref 2 1 y.2.1 y.2.2.2.1.length),(64,.tree 1 (ints l)),(65,aam l.length),(66,aam y.1)],
     [.arr 1 (b8 y.2.2.2.2.2),.arr 1 (b8 y.2.2.2.2.1),.arr 1 (ints (y.2.2.1++y.2.2.2.1))]⟩:St))
    (λy=>y.1<=l.length/\y.2.2.1.length=y.2.1/\True/\G5 left.length y.2.2.2.1/\y.2.2.2.2.1.length=R/\y.2.2.2.2.2.length=left.length/\y.2.2.2.1.length+ju y.2.2.2.2.2=q.length+ju aE/\gd m.1 (l.drop y.1) y.2.2.2.1 y.2.2.2.2.1 y.2.2.2.2.2=zz) (λy=>l.length-y.1)
    (0,pre.length+1,pre++[i],q,used,aE) ⟨aS _,Jy,trivial,λx hx=>hq x (by simp[hx]),ED,eE,rfl,ko⟩ ?_ ?_
   ·rw[show pre++i::q=(pre++[i])++q by simp];exact Xv X0
   rintro⟨k,off,EE,q2,EF,Bl⟩⟨hk,ve,wR,tN,Bm,jY,pz,gZ⟩dh bc bz;dsimp only at hk ve wR tN Bm jY pz gZ ⊢;by_cases aY:k<l.length
   ·have hx:=hl.2 _ (aF (d:=0) aY);have hd:=dL l k 0 aY;generalize br:l.getD k 0=x at *;have Dc:=Je.get (x:=x.toNat) Bv;generalize jP:m.1.getD x.toNat 0=o at *;rw[hd,gd,jP]at gZ;have tY:(ints (EE++q2)).drop off=ints q2:=by simp[ints,<- ve]
    have Bn:=λh1 h2=>Aa Bl o.toNat h1 h2;((try revert hK K);(repeat'(first|refine Va (X5 @br @jP @aK.{0} @ve @tY) ?_|(refine V2 (X5 @br @jP @aK.{0} @ve @tY) ?_ ?_<;>try with_reducible intro hb)|(refine Xi ?_ ?_<;>try intro ht)|refine VD ?_ ?_|exact Xx|fail))<;>try with_reducible intro K hK)
    ·rw[if_pos ⟨hb,ht⟩]at gZ;have tL:=Bn Bv ht;refine bc _ (k+1,0,[],q2++[o],EF.set x.toNat true,Bl.set o.toNat true) ⟨aad,rfl,trivial,?_,by simpa using Bm,by simpa using jY,by simp only[aK,List.length_singleton];omega,gZ⟩ aad ?_
     ·intro y hy;rcases List.mem_append.1 hy with hy|hy
      ·exact tN y hy
      ·simp only[List.mem_singleton]at hy;subst hy;omega
     ·dsimp only[dx];exact Xs false [0,1,4] X0
    ·rw[if_neg (by simp_all)]at gZ;exact bc _ (k+1,off,EE,q2,EF.set x.toNat true,Bl) ⟨aad,ve,wR,tN,by simpa using Bm,jY,pz,gZ⟩ aad (Xv X0)
    ·rw[if_neg Bv]at gZ;exact bc _ (k+1,off,EE,q2,EF.set x.toNat true,Bl) ⟨aad,ve,wR,tN,by simpa using Bm,jY,pz,gZ⟩ aad (Xv X0)
   ·((try revert hK K);(repeat'(first|refine Va X0 ?_|(refine V2 X0 ?_ ?_<;>try with_reducible intro hb)|(refine Xi ?_ ?_<;>try intro ht)|refine VD ?_ ?_|exact Xx|fail))<;>try with_reducible intro K hK)
    rw[dW Bv,gd]at gZ;rw[<- gZ]at hr;refine bz _ _ rfl ?_;clear bc bz dh;repeat(first|refine Xu ?_)
    refine an _ (f',EE,q2,EF,Bl) ⟨aad,trivial,tN,Bm,jY,aad,hr⟩ aad ?_;rw[<- ve];exact Xv X0
end T

