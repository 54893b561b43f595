import Derived.Test.YtodilglobhifaaaDoorX14
set_option linter.all false
set_option maxHeartbeats 0
set_option maxRecDepth 20000
open Nat renaming zero_le→bk,le_refl→aH,strongRecOn→uD,sub_zero→lI,sub_self→kn
open Int renaming cast_ofNat_Int→sQ,toNat_of_nonneg→iS,toNat_natCast→bY
open List renaming drop_eq_nil_of_le→dF,append_nil→eY,replicate→aw,replicate_zero→qX,nil_append→g9,getD_eq_getElem?_getD→an,getElem?_eq_getElem→aN,length_append→aJ
open And renaming intro→xl
open Option renaming map_none→iR
open Go Go.Am Go.Proofs
namespace T
def Mw(left:List (List Int))(right:Int):ao Tryd.prog 27 [.tree 1 (aU left),UX right] [] (UX (check left right)) []:=by
 refine ao.aX 42 0 [.tmp 4] Tryd.func27 ?_;repeat'(first|(refine Xr X0 ?_;intro K hK)|refine Xo X0 ?_|(refine hK _ ?_;clear hK K)|(refine Xg X0 ?_ ?_<;>try intro hb)|(refine Xi ?_ ?_<;>try intro ht)|refine Xz ?_|refine Xh ?_|(refine Xe ?_;first|refine aY rfl ?_|refine Xl ?_ ?_)|refine Xd ?_ ?_|exact Xx|fail)
 ·simp only[check,if_pos (show left.length > 256 by omega)]
 ·simp only[check,if_neg (show ¬ left.length > 256 by omega)];rw[if_pos z8]
 ·simp only[check,if_neg (show ¬ left.length > 256 by omega)];rw[if_pos z8]
 have zQ:¬ left.length > 256:=z8;refine bu (λk:Nat=>(⟨ax [(1,UX right),(18,.tree 1 (aU left)),(19,UX left.length),(20,UX k)],[]⟩:St)) (λk=>k<=left.length/\ke right left=ke right (left.drop k)) (λk=>left.length-k) 0 ⟨bk _,rfl⟩ (Xv @sQ) ?_;intro k ⟨hk,hc⟩ Ql aq aC;repeat'(first|(refine Xr X0 ?_;intro K hK)|refine Xo X0 ?_|(refine hK _ ?_;clear hK K)|(refine Xg X0 ?_ ?_<;>try intro hb)|(refine Xi ?_ ?_<;>try intro ht)|refine Xz ?_|refine Xh ?_|(refine Xe ?_;first|refine aY rfl ?_|refine Xl ?_ ?_)|refine Xd ?_ ?_|exact Xx|fail)
 ·unfold check;rw[if_neg zQ,if_neg (show ¬ (right<0\/right > 4096) by omega),hc,di _ _ [] z8,ke,if_pos z8]
 rotate_left
 ·rw[show k=left.length by omega,List.drop_length]at hc;simp only[check,if_neg zQ,if_neg (show ¬ (right<0\/right > 4096) by omega),hc,ke]
 generalize hl:left.getD k []=l at *;have sB:ke right left=if j' right l≠0 then 3 else ke right (left.drop (k+1)):=by
  rw[hc,di _ _ [] z8,ke,hl,if_neg z8]
 refine bu (λj:Nat=>(⟨ax [(1,UX right),(18,.tree 1 (aU left)),(19,UX left.length),(20,UX k),(27,.tree 1 (ints l)),(28,UX l.length),(29,UX j)],[]⟩:St)) (λj=>j<=l.length/\j' right l=j' right (l.drop j)) (λj=>l.length-j) 0 ⟨bk _,rfl⟩ (Xv @sQ) ?_;intro j ⟨hj,wR⟩ gu cr cy;repeat'(first|(refine Xr X0 ?_;intro K hK)|refine Xo X0 ?_|(refine hK _ ?_;clear hK K)|(refine Xg X0 ?_ ?_<;>try intro hb)|(refine Xi ?_ ?_<;>try intro ht)|refine Xz ?_|refine Xh ?_|(refine Xe ?_;first|refine aY rfl ?_|refine Xl ?_ ?_)|refine Xd ?_ ?_|exact Xx|fail)
 ·unfold check;rw[if_neg zQ,if_neg z8,sB,wR,di _ _ 0 z8,j',if_pos z8]
 ·unfold check;rw[if_neg zQ,if_neg z8,sB,wR,di _ _ 0 z8,j',if_pos z8]
 ·refine cr _ (j+1) ⟨z8,?_⟩ z8 ?_
  ·rw[wR,di _ _ 0 z8,j',if_neg z8]
  ·exact Xv X0
 ·refine aq _ (k+1) ⟨z8,?_⟩ z8 ?_
  ·rw[show j=l.length by omega,List.drop_length]at wR;rw[sB,wR,j',if_neg US]
  ·exact Xv X0
def Mx(l:List Bool)(hl:l.length<1000000):ao Tryd.prog 29 [.tree 1 (bP l)] [] (.tree 1 (ints (ca l 0))) []:=by
 generalize az:ca l 0=res;refine ao.aX 20 0 [.tmp 2] Tryd.func29 ?_;repeat'(first|(refine Xr X0 ?_;intro K hK)|refine Xo X0 ?_|(refine hK _ ?_;clear hK K)|(refine Xg X0 ?_ ?_<;>try intro hb)|(refine Xi ?_ ?_<;>try intro ht)|refine Xz ?_|refine Xh ?_|(refine Xe ?_;first|refine aY rfl ?_|refine Xl ?_ ?_)|refine Xd ?_ ?_|exact Xx|fail)
 refine bu (λz:Nat×List Int=>(⟨ax [(3,.ref 0 1 0 z.2.length),(6,.tree 1 (bP l)),(7,UX l.length),(8,UX z.1)],[.arr 1 (ints z.2)]⟩:St))
  (λz=>z.1<=l.length/\z.2.length<=z.1/\z.2++ca (l.drop z.1) z.1=res) (λz=>l.length-z.1) (0,[]) ⟨bk _,aH _,az⟩ ?_ ?_
 ·refine aR.trans (aR.nil 3 1 (by simp only[Kc,simprocAttr]) US) ?_;exact Xv X0
 rintro⟨k,acc⟩⟨hk,ha,hr⟩Ql aq aC;dsimp only at hk ha hr ⊢;((try revert hK K);(repeat'(first|refine Va X0 ?_|(refine V2 X0 ?_ ?_<;>try with_reducible intro hb)|(refine Xi ?_ ?_<;>try intro ht)|refine VD ?_ ?_|exact Xx|fail))<;>try with_reducible intro K hK)
 ·rw[di _ _ false z8,ca,if_pos (by assumption)]at hr;refine aq _ (k+1,acc++[(k:Int)]) ⟨UT,UU,by simpa using hr⟩ UT ?_;exact Xs false [2] X0
 ·rw[di _ _ false z8,ca,if_neg (by simp_all)]at hr;exact aq _ (k+1,acc) ⟨UT,UT,hr⟩ UT (Xv X0)
 ·rw[dF z8,ca,eY]at hr;subst hr;refine aC _ _ rfl ?_;clear aq aC Ql;repeat(first|refine Xu ?_)
  ((try revert hK K);(repeat'(first|refine Vb X0 ?_|(refine V2 X0 ?_ ?_<;>try with_reducible intro hb)|(refine Xi ?_ ?_<;>try intro ht)|refine VD ?_ ?_|exact Xx|fail))<;>try with_reducible intro K hK)
  exact Xw true [] X0
def TB(left:List (List Int))(R:Nat)(hL:dD R left)(hR:R<1000000):∀ (f:Nat) (i:Nat) (seen:List Bool) (owner:List Int),fP seen<=f->i<left.length->eQ left.length R owner->seen.length=R ->
  ao Tryd.prog 26 [.tree 1 (aU left),UX i,.ref 0 1 0 R,.ref 1 1 0 R] [.arr 1 (bP seen),.arr 1 (ints owner)] (.lit (.bool (fj left f (left.getD i []) i seen owner).1))
   [.arr 1 (bP (fj left f (left.getD i []) i seen owner).2.1),.arr 1 (ints (fj left f (left.getD i []) i seen owner).2.2)]:=by
 intro f
 induction f using uD with
 |_ f mT =>
 intro i wS wT iY hi DM qb;have hl:=hL.get i;have zR:=hL.1;generalize az:fj left f (left.getD i []) i wS wT=res;refine ao.aX 53 2 [.tmp 8] Tryd.func26 ?_;repeat'(first|(refine Xr X0 ?_;intro K hK)|refine Xo X0 ?_|(refine hK _ ?_;clear hK K)|(refine Xg X0 ?_ ?_<;>try intro hb)|(refine Xi ?_ ?_<;>try intro ht)|refine Xz ?_|refine Xh ?_|(refine Xe ?_;first|refine aY rfl ?_|refine Xl ?_ ?_)|refine Xd ?_ ?_|exact Xx|fail)
 refine bu (λz:Nat×List Bool×List Int=>(⟨ax [(0,.tree 1 (aU left)),(1,UX i),(2,.ref 0 1 0 R),(3,.ref 1 1 0 R),(9,UX z.1)],[.arr 1 (bP z.2.1),.arr 1 (ints z.2.2)]⟩:St))
  (λz=>z.1<=(left.getD i []).length/\fP z.2.1<=f/\eQ left.length R z.2.2/\z.2.1.length=R/\fj left f ((left.getD i []).drop z.1) i z.2.1 z.2.2=res) (λz=>(left.getD i []).length-z.1) (0,wS,wT) ⟨bk _,iY,DM,qb,by simpa using az⟩ (Xv X0) ?_
 rintro⟨k,seen,owner⟩⟨hk,hc,ho,hs,hr⟩Ql aq aC;dsimp only at hk hc ho hs hr ⊢;have p8:=ho.1;generalize cS:left.getD i []=l at *;by_cases aQ:k<l.length
 ·have hx:=hl.2 _ (aO (d:=0) aQ);have hd:=di l k 0 aQ;generalize bX:l.getD k 0=x at *;have vD:=ho.get (x:=x.toNat) z8;generalize gb:owner.getD x.toNat 0=o at *;repeat'(first|(refine Xr (X3 @cS @bX @gb) ?_;intro K hK)|refine Xo (X3 @cS @bX @gb) ?_|(refine hK _ ?_;clear hK K)|(refine Xg (X3 @cS @bX @gb) ?_ ?_<;>try intro hb)|(refine Xi ?_ ?_<;>try intro ht)|refine Xz ?_|refine Xh ?_|(refine Xe ?_;first|refine aY rfl ?_|refine Xl ?_ ?_)|refine Xd ?_ ?_|exact Xx|fail)
  all_goals rw[hd,fj.eq_def]at hr;simp only at hr;rw[gb]at hr
  ·rw[if_pos ht]at hr;exact aq _ (k+1,seen,owner) ⟨UT,hc,ho,hs,hr⟩ UT (Xv X0)
  ·rw[if_neg (by simp_all),if_pos hb]at hr;rw[<- hr]
  ·rw[if_neg (by simp_all),if_pos hb]at hr;rw[<- hr]
  ·rw[if_neg (by rw[ht];decide),if_neg z8]at hr;have p7:=tH seen x.toNat z8 ht;obtain⟨f',rfl⟩:∃f',f=f'+1:=⟨f-1,z8⟩;have dX:=mT f' z8 o.toNat (seen.set x.toNat true) owner z8 z8 ho (by simpa using hs);rw[iS hb]at dX;have dH:=vC hL f' (left.getD o.toNat []) o.toNat (seen.set x.toNat true) owner (hL.get _).2 z8 ho (by simpa using hs);simp only at hr;generalize hq:fj left f' (left.getD o.toNat []) o.toNat (seen.set x.toNat true) owner=q at *;obtain⟨b,wU,qJ⟩:=q;dsimp only at dX dH hr;obtain⟨k1,k2,k3⟩:=dH;have k4:=k1.1;refine kC dX Eb ?_;repeat'(first|(refine Xr (X3 @cS @bX @gb) ?_;intro K hK)|refine Xo (X3 @cS @bX @gb) ?_|(refine hK _ ?_;clear hK K)|(refine Xg (X3 @cS @bX @gb) ?_ ?_<;>try intro hb)|(refine Xi ?_ ?_<;>try intro ht)|refine Xz ?_|refine Xh ?_|(refine Xe ?_;first|refine aY rfl ?_|refine Xl ?_ ?_)|refine Xd ?_ ?_|exact Xx|fail)
   ·rw[if_pos ht]at hr;rw[<- hr]
   ·rw[if_pos ht]at hr;rw[<- hr]
   ·rw[if_neg (by simp_all)]at hr;exact aq _ (k+1,wU,qJ) ⟨UT,UT,k1,k2,hr⟩ UT (Xv X0)
 ·repeat'(first|(refine Xr @cS ?_;intro K hK)|refine Xo @cS ?_|(refine hK _ ?_;clear hK K)|(refine Xg @cS ?_ ?_<;>try intro hb)|(refine Xi ?_ ?_<;>try intro ht)|refine Xz ?_|refine Xh ?_|(refine Xe ?_;first|refine aY rfl ?_|refine Xl ?_ ?_)|refine Xd ?_ ?_|exact Xx|fail)
  ·rw[dF z8,fj.eq_def]at hr;rw[<- hr]
  ·rw[dF z8,fj.eq_def]at hr;rw[<- hr]
def Q6(left:List (List Int))(R:Nat)(l5:Int)(hL:dD R left)(hR:R<1000000):ao Tryd.prog 10 [.tree 1 (aU left),UX R,UX l5] [] (UX (size left R l5)) []:=by
 have zR:=hL.1;generalize az:size left R l5=res;unfold size at az;refine ao.aX 41 0 [.tmp 6] Tryd.func10 ?_;repeat'(first|(refine Xr X0 ?_;intro K hK)|refine Xo X0 ?_|(refine hK _ ?_;clear hK K)|(refine Xg X0 ?_ ?_<;>try intro hb)|(refine Xi ?_ ?_<;>try intro ht)|refine Xz ?_|refine Xh ?_|(refine Xe ?_;first|refine aY rfl ?_|refine Xl ?_ ?_)|refine Xd ?_ ?_|exact Xx|fail)
 refine bu (λk:Nat=>(⟨ax [(0,.tree 1 (aU left)),(1,UX R),(2,UX l5),(7,.ref 0 1 0 R),(8,UX k)],[.arr 1 (ints (aw k (-1)++aw (R-k) 0))]⟩:St)) (λk=>k<=R) (λk=>R-k) 0 (bk _) (Xv (X3 @qX.{0} @g9.{0} @lI)) ?_;intro k hk Ql aq aC;have hlen:(aw k (-1:Int)++aw (R-k) 0).length=R:=UU;((try revert hK K);(repeat'(first|refine Va @hlen ?_|(refine V2 @hlen ?_ ?_<;>try with_reducible intro hb)|(refine Xi ?_ ?_<;>try intro ht)|refine VD ?_ ?_|exact Xx|fail))<;>try with_reducible intro K hK)
 ·refine aq _ (k+1) z8 z8 ?_;refine aR.ax _ _ ?_ (by simp only[Has,and_true,Kc,simprocAttr,Int.natCast_add,sQ]);dsimp only;congr 3;have:R-k=(R-(k+1))+1:=z8;rw[this,List.replicate_succ (n:=R-(k+1)),List.set_append_right _ _ Eb,List.length_replicate,kn,List.set_cons_zero,List.replicate_succ'];simp
 refine aC _ _ rfl ?_;clear aq aC Ql;obtain rfl:k=R:=z8;simp only[kn,qX,eY];repeat(first|refine Xu ?_)
 repeat'(first|(refine Xr X0 ?_;intro K hK)|refine Xo X0 ?_|(refine hK _ ?_;clear hK K)|(refine Xg X0 ?_ ?_<;>try intro hb)|(refine Xi ?_ ?_<;>try intro ht)|refine Xz ?_|refine Xh ?_|(refine Xe ?_;first|refine aY rfl ?_|refine Xl ?_ ?_)|refine Xd ?_ ?_|exact Xx|fail)
 clear hlen hk ht;refine bu (λz:Nat×Nat×List Int=>(⟨ax [(0,.tree 1 (aU left)),(1,UX k),(2,UX l5),(7,.ref 0 1 0 k),(9,UX z.2.1),(10,UX z.1)],[.arr 1 (ints z.2.2)]⟩:St))
  (λz=>z.1<=left.length/\z.2.1<=z.1/\eQ left.length k z.2.2/\oY left k l5 (left.length-z.1) z.1 z.2.1 z.2.2=res) (λz=>left.length-z.1) (0,0,aw k (-1)) ⟨bk _,aH _,eQ.rep _ _,az⟩ (Xv X0) ?_
 rintro⟨i,n,owner⟩⟨hi,iU,ho,hr⟩Ql aq aC;dsimp only at hi iU ho hr ⊢;have p8:=ho.1;by_cases hi':i<left.length
 ·have e:left.length-i=(left.length-(i+1))+1:=z8;rw[e,oY]at hr;have dH:=vC hL k (left.getD i []) i (aw k false) owner (hL.get _).2 hi' ho Eb;have dX:=TB left k hL hR k i (aw k false) owner (by rw[B1];omega) hi' ho Eb;generalize hq:fj left k (left.getD i []) i (aw k false) owner=q at *;obtain⟨b,wU,qJ⟩:=q;dsimp only at dX dH hr;obtain⟨k1,k2,k3⟩:=dH;have k4:=k1.1;repeat'(first|(refine Xr X0 ?_;intro K hK)|refine Xo X0 ?_|(refine hK _ ?_;clear hK K)|(refine Xg X0 ?_ ?_<;>try intro hb)|(refine Xi ?_ ?_<;>try intro ht)|refine Xz ?_|refine Xh ?_|(refine Xe ?_;first|refine aY rfl ?_|refine Xl ?_ ?_)|refine Xd ?_ ?_|exact Xx|fail)
  ·rw[if_neg hb]at hr;refine rh [1,0] dX US ⟨by rw[s8];rfl,by rw[s7];rfl,trivial⟩ ⟨.pure rfl,.pure rfl,.eq rfl,.eq rfl,trivial⟩ ?_;repeat'(first|(refine Xr X0 ?_;intro K hK)|refine Xo X0 ?_|(refine hK _ ?_;clear hK K)|(refine Xg X0 ?_ ?_<;>try intro hb)|(refine Xi ?_ ?_<;>try intro ht)|refine Xz ?_|refine Xh ?_|(refine Xe ?_;first|refine aY rfl ?_|refine Xl ?_ ?_)|refine Xd ?_ ?_|exact Xx|fail)
   ·rw[if_pos ht]at hr;refine aq _ (i+1,n+1,qJ) ⟨UT,UT,k1,hr⟩ UT ?_;exact Xs false [0] X0
   ·rw[if_neg (by simp_all)]at hr;refine aq _ (i+1,n,qJ) ⟨UT,UT,k1,hr⟩ UT ?_;exact Xs false [0] X0
  ·rw[if_pos hb]at hr;exact aq _ (i+1,n,owner) ⟨UT,UT,ho,hr⟩ UT (Xv X0)
 ·repeat'(first|(refine Xr X0 ?_;intro K hK)|refine Xo X0 ?_|(refine hK _ ?_;clear hK K)|(refine Xg X0 ?_ ?_<;>try intro hb)|(refine Xi ?_ ?_<;>try intro ht)|refine Xz ?_|refine Xh ?_|(refine Xe ?_;first|refine aY rfl ?_|refine Xl ?_ ?_)|refine Xd ?_ ?_|exact Xx|fail)
  rw[show left.length-i=0 by omega,oY]at hr;rw[<- hr]
def sC(left:List (List Int))(R n:Nat)(seen:List Bool)(owner number:List Int):List Ob :=
 [.var [.tree 1 (aU left)],.var [.ref 5 1 0 R],.var [.ref 6 1 0 R],.var [.fn 54 [.ptr 0 0 0,.ptr 1 0 0,.ptr 2 0 0,.ptr 3 0 0,.ptr 4 0 0]],.var [.ref 7 1 0 n],.arr 1 (bP seen),.arr 1 (ints owner),.arr 1 (ints number)]
def qK:ty Tryd.prog 108 = { kind:=9,size:=1,bytes:=8,elem:=0,len:=0,zero:=some [.nilFunc],aE:=[] }:=by kernel_rfl
def My:List.map AV.lit Value.nilFunc.cells.toList=[.lit .nilFunc]:=rfl
def TC(left:List (List Int))(R:Nat)(hL:dD R left)(hR:R<1000000):∀ (f:Nat) (i:Nat) (seen:List Bool) (owner number:List Int),fP seen<=f->i<left.length->eQ left.length R owner->seen.length=R->number.length=left.length ->
  ao Tryd.prog 54 [UX i,.ptr 0 0 0,.ptr 1 0 0,.ptr 2 0 0,.ptr 3 0 0,.ptr 4 0 0] (sC left R left.length seen owner number) (.lit (.bool (dc left f (left.getD i []) i seen owner number).1))
   (sC left R left.length (dc left f (left.getD i []) i seen owner number).2.1 (dc left f (left.getD i []) i seen owner number).2.2.1 (dc left f (left.getD i []) i seen owner number).2.2.2):=by
 intro f
 induction f using uD with
 |_ f mT =>
 intro i wS wT Mz iY hi DM qb TD;have hl:=hL.get i;have zR:=hL.1;generalize az:dc left f (left.getD i []) i wS wT Mz=res;unfold sC;refine ao.aX 48 8 [.tmp 7] Tryd.func54 ?_;repeat'(first|(refine Xr X0 ?_;intro K hK)|refine Xo X0 ?_|(refine hK _ ?_;clear hK K)|(refine Xg X0 ?_ ?_<;>try intro hb)|(refine Xi ?_ ?_<;>try intro ht)|refine Xz ?_|refine Xh ?_|(refine Xe ?_;first|refine aY rfl ?_|refine Xl ?_ ?_)|refine Xd ?_ ?_|exact Xx|fail)
 refine bu (λz:Nat×List Bool×List Int×List Int=>(⟨ax [(0,UX i),(1,.ptr 0 0 0),(2,.ptr 1 0 0),(3,.ptr 2 0 0),(4,.ptr 3 0 0),(5,.ptr 4 0 0),(13,.tree 1 (ints (left.getD i []))),(14,UX (left.getD i []).length),(15,UX z.1)],sC left R left.length z.2.1 z.2.2.1 z.2.2.2⟩:St))
  (λz=>z.1<=(left.getD i []).length/\fP z.2.1<=f/\eQ left.length R z.2.2.1/\z.2.1.length=R/\z.2.2.2.length=left.length/\dc left f ((left.getD i []).drop z.1) i z.2.1 z.2.2.1 z.2.2.2=res) (λz=>(left.getD i []).length-z.1) (0,wS,wT,Mz) ⟨bk _,iY,DM,qb,TD,by simpa using az⟩ (Xv X0) ?_
 rintro⟨k,seen,owner,number⟩⟨hk,hc,ho,hs,hm,hr⟩Ql aq aC;dsimp only at hk hc ho hs hm hr ⊢;unfold sC;have p8:=ho.1;generalize cS:left.getD i []=l at *;by_cases aQ:k<l.length
 ·have hx:=hl.2 _ (aO (d:=0) aQ);have hd:=di l k 0 aQ;generalize bX:l.getD k 0=x at *;have vD:=ho.get (x:=x.toNat) z8;generalize gb:owner.getD x.toNat 0=o at *;repeat'(first|(refine Xr (X4 @cS @bX @gb @qK) ?_;intro K hK)|refine Xo (X4 @cS @bX @gb @qK) ?_|(refine hK _ ?_;clear hK K)|(refine Xg (X4 @cS @bX @gb @qK) ?_ ?_<;>try intro hb)|(refine Xi ?_ ?_<;>try intro ht)|refine Xz ?_|refine Xh ?_|(refine Xe ?_;first|refine aY rfl ?_|refine Xl ?_ ?_)|refine Xd ?_ ?_|exact Xx|fail)
  all_goals rw[hd,dc.eq_def]at hr;simp only at hr;rw[gb]at hr
  ·rename_i Jt;rw[if_pos (by assumption)]at hr;exact aq _ (k+1,seen,owner,number) ⟨UT,hc,ho,hs,hm,hr⟩ UT (Xv X0)
  ·rw[if_neg (by simp_all),if_pos hb]at hr;refine nq [] (.take 0 (.take 1 (.take 3 (.take 4 (.take 5 (.take 6 (.both 2 (.take 7 (.take 8 (.take 9 .nil))) 7 (.take 2 (.take 8 (.take 9 .nil)))))))))) rfl US (by decide +kernel) ?_;simp(disch:=omega)only[Ac,↓Pc,simprocAttr,Pw,cS,bX,gb];repeat'(first|with_reducible refine xl ?_ ?_|omega|with_reducible rfl)
   all_goals repeat'(first|(refine Xr X0 ?_;intro K hK)|refine Xo X0 ?_|(refine hK _ ?_;clear hK K)|(refine Xg X0 ?_ ?_<;>try intro hb)|(refine Xi ?_ ?_<;>try intro ht)|refine Xz ?_|refine Xh ?_|(refine Xe ?_;first|refine aY rfl ?_|refine Xl ?_ ?_)|refine Xd ?_ ?_|exact Xx|fail)
   all_goals rw[<- hr]
  ·rw[if_neg (by simp_all),if_neg z8]at hr;have p7:=tH seen x.toNat z8 (by simp_all);obtain⟨f',rfl⟩:∃f',f=f'+1:=⟨f-1,z8⟩;have dX:=mT f' z8 o.toNat (seen.set x.toNat true) owner number z8 z8 ho (by simpa using hs) hm;rw[iS hb]at dX;have dH:=vC hL f' (left.getD o.toNat []) o.toNat (seen.set x.toNat true) owner (hL.get _).2 z8 ho (by simpa using hs);obtain⟨e1,e2,e3,e4⟩:=yJ left f' (left.getD o.toNat []) o.toNat (seen.set x.toNat true) owner number;rw[<- e2,<- e3]at dH;simp only at hr;generalize hq:dc left f' (left.getD o.toNat []) o.toNat (seen.set x.toNat true) owner number=q at *;obtain⟨b,wU,qJ,DN⟩:=q;dsimp only at dX dH hr e4;obtain⟨k1,k2,k3⟩:=dH;have k4:=k1.1;unfold sC at dX;refine kC dX Eb ?_;repeat'(first|(refine Xr (X4 @cS @bX @gb @qK) ?_;intro K hK)|refine Xo (X4 @cS @bX @gb @qK) ?_|(refine hK _ ?_;clear hK K)|(refine Xg (X4 @cS @bX @gb @qK) ?_ ?_<;>try intro hb)|(refine Xi ?_ ?_<;>try intro ht)|refine Xz ?_|refine Xh ?_|(refine Xe ?_;first|refine aY rfl ?_|refine Xl ?_ ?_)|refine Xd ?_ ?_|exact Xx|fail)
   ·rw[if_pos (by assumption)]at hr;refine nq [] (.take 0 (.take 1 (.take 3 (.take 4 (.take 5 (.take 6 (.both 2 (.take 7 (.take 8 (.take 9 .nil))) 7 (.take 2 (.take 8 (.take 9 .nil)))))))))) rfl US (by decide +kernel) ?_;simp(disch:=omega)only[Ac,↓Pc,simprocAttr,Pw,cS,bX,gb];repeat'(first|with_reducible refine xl ?_ ?_|omega|with_reducible rfl)
    all_goals repeat'(first|(refine Xr X0 ?_;intro K hK)|refine Xo X0 ?_|(refine hK _ ?_;clear hK K)|(refine Xg X0 ?_ ?_<;>try intro hb)|(refine Xi ?_ ?_<;>try intro ht)|refine Xz ?_|refine Xh ?_|(refine Xe ?_;first|refine aY rfl ?_|refine Xl ?_ ?_)|refine Xd ?_ ?_|exact Xx|fail)
    all_goals rw[<- hr]
   ·rw[if_neg (by simp_all)]at hr;exact aq _ (k+1,wU,qJ,DN) ⟨UT,UT,k1,k2,UT,hr⟩ UT (Xv X0)
 ·repeat'(first|(refine Xr @cS ?_;intro K hK)|refine Xo @cS ?_|(refine hK _ ?_;clear hK K)|(refine Xg @cS ?_ ?_<;>try intro hb)|(refine Xi ?_ ?_<;>try intro ht)|refine Xz ?_|refine Xh ?_|(refine Xe ?_;first|refine aY rfl ?_|refine Xl ?_ ?_)|refine Xd ?_ ?_|exact Xx|fail)
  ·rw[dF z8,dc.eq_def]at hr;rw[<- hr]
  ·rw[dF z8,dc.eq_def]at hr;rw[<- hr]
def MA(left:List (List Int))(R:Nat)(hL:dD R left)(hR:R<1000000):ao Tryd.prog 28 [.tree 1 (aU left),UX R] [] (.bA [.tree 1 (ints (dV left R).2),.tree 1 (ints (dV left R).1)]) []:=by
 have zR:=hL.1;generalize az:dV left R=res;unfold dV at az;refine ao.aX 48 0 [.cell 4 22,.cell 5 22] Tryd.func28 ?_;repeat'(first|(refine Xr X0 ?_;intro K hK)|refine Xo X0 ?_|(refine hK _ ?_;clear hK K)|(refine Xg X0 ?_ ?_<;>try intro hb)|(refine Xi ?_ ?_<;>try intro ht)|refine Xz ?_|refine Xh ?_|(refine Xe ?_;first|refine aY rfl ?_|refine Xl ?_ ?_)|refine Xd ?_ ?_|exact Xx|fail)
 refine I' ?_;intro Q hn he;refine F4 ⟨ax [(1,UX R),(2,.ptr 0 0 0),(4,.ptr 1 0 0),(5,.ptr 2 0 0)],[.var [.tree 1 (aU left)],.var [.ref 3 1 0 left.length],.var [.ref 4 1 0 R],.arr 1 (ints (aw left.length 0)),.arr 1 (ints (aw R 0))]⟩ hn ?_ (λkey=>?_);rotate_left
 ·refine nq [] (.take 0 (.take 1 (.take 3 (.both 2 (.both 4 (.take 5 (.take 6 .nil)) 5 (.take 4 (.take 6 .nil))) 4 (.take 2 (.take 5 (.take 6 .nil))))))) rfl US (by decide +kernel) ?_;simp(disch:=omega)only[Ac,↓Pc,simprocAttr,Pw];repeat'(first|with_reducible refine xl ?_ ?_|omega|with_reducible rfl)
  ·refine key _ ?_;exact Xs false [0,1,2,3,4] X0
  ·refine key _ ?_;exact Xs false [0,1,2,4,3] X0
 repeat'(first|(refine Xr X0 ?_;intro K hK)|refine Xo X0 ?_|(refine hK _ ?_;clear hK K)|(refine Xg X0 ?_ ?_<;>try intro hb)|(refine Xi ?_ ?_<;>try intro ht)|refine Xz ?_|refine Xh ?_|(refine Xe ?_;first|refine aY rfl ?_|refine Xl ?_ ?_)|refine Xd ?_ ?_|exact Xx|fail)
 refine bu (λk:Nat=>(⟨ax [(1,UX R),(2,.ptr 0 0 0),(4,.ptr 1 0 0),(5,.ptr 2 0 0),(17,UX left.length),(18,UX k)],
  [.var [.tree 1 (aU left)],.var [.ref 3 1 0 left.length],.var [.ref 4 1 0 R],.arr 1 (ints (aw k (-1)++aw (left.length-k) 0)),.arr 1 (ints (aw R 0))]⟩:St)) (λk=>k<=left.length) (λk=>left.length-k) 0 (bk _) (Xv (X3 @qX.{0} @g9.{0} @lI)) ?_
 intro k hk Ql aq aC;have hlen:=Ju hk (-1) 0;((try revert hK K);(repeat'(first|refine Va @hlen ?_|(refine V2 @hlen ?_ ?_<;>try with_reducible intro hb)|(refine Xi ?_ ?_<;>try intro ht)|refine VD ?_ ?_|exact Xx|fail))<;>try with_reducible intro K hK)
 ·refine aq _ (k+1) z8 z8 ?_;rw[Jv z8];exact Xv X0
 refine aC _ _ rfl ?_;clear aq aC Ql;obtain rfl:k=left.length:=z8;simp only[kn,qX,eY];clear hlen hk;repeat(first|refine Xu ?_)
 ((try revert hK K);(repeat'(first|refine Va X0 ?_|(refine V2 X0 ?_ ?_<;>try with_reducible intro hb)|(refine Xi ?_ ?_<;>try intro ht)|refine VD ?_ ?_|exact Xx|fail))<;>try with_reducible intro K hK)
 refine bu (λk:Nat=>(⟨ax [(1,UX R),(2,.ptr 0 0 0),(4,.ptr 1 0 0),(5,.ptr 2 0 0),(26,UX R),(27,UX k)],
  [.var [.tree 1 (aU left)],.var [.ref 3 1 0 left.length],.var [.ref 4 1 0 R],.arr 1 (ints (aw left.length (-1))),.arr 1 (ints (aw k (-1)++aw (R-k) 0))]⟩:St)) (λk=>k<=R) (λk=>R-k) 0 (bk _) (Xv (X3 @qX.{0} @g9.{0} @lI)) ?_
 intro k hk Ql aq aC;have hlen:=Ju hk (-1) 0;((try revert hK K);(repeat'(first|refine Va @hlen ?_|(refine V2 @hlen ?_ ?_<;>try with_reducible intro hb)|(refine Xi ?_ ?_<;>try intro ht)|refine VD ?_ ?_|exact Xx|fail))<;>try with_reducible intro K hK)
 ·refine aq _ (k+1) z8 z8 ?_;rw[Jv z8];exact Xv X0
 refine aC _ _ rfl ?_;clear aq aC Ql;obtain rfl:k=R:=z8;simp only[kn,qX,eY];clear hlen hk;repeat(first|refine Xu ?_)
 ((try revert hK K);(repeat'(first|refine Va X0 ?_|(refine V2 X0 ?_ ?_<;>try with_reducible intro hb)|(refine Xi ?_ ?_<;>try intro ht)|refine VD ?_ ?_|exact Xx|fail))<;>try with_reducible intro K hK)
 refine bu (λz:Nat×List Int×List Int=>(⟨ax [(1,UX k),(2,.ptr 0 0 0),(4,.ptr 1 0 0),(5,.ptr 2 0 0),(35,UX left.length),(36,UX z.1)],
  [.var [.tree 1 (aU left)],.var [.ref 3 1 0 left.length],.var [.ref 4 1 0 k],.arr 1 (ints z.2.2),.arr 1 (ints z.2.1)]⟩:St))
  (λz=>z.1<=left.length/\eQ left.length k z.2.1/\z.2.2.length=left.length/\l6 left k (left.length-z.1) z.1 z.2.1 z.2.2=res) (λz=>left.length-z.1) (0,aw k (-1),aw left.length (-1)) ⟨bk _,eQ.rep _ _,Eb,az⟩ (Xv X0) ?_
 rintro⟨i,owner,number⟩⟨hi,ho,hm,hr⟩Ql aq aC;dsimp only at hi ho hm hr ⊢;have p8:=ho.1;by_cases hi':i<left.length
 ·have e:left.length-i=(left.length-(i+1))+1:=z8;rw[e,l6]at hr;have dH:=vC hL k (left.getD i []) i (aw k false) owner (hL.get _).2 hi' ho Eb;obtain⟨e1,e2,e3,e4⟩:=yJ left k (left.getD i []) i (aw k false) owner number;rw[<- e2,<- e3]at dH;have dX:=TC left k hL hR k i (aw k false) owner number (by rw[B1];omega) hi' ho Eb hm;generalize hq:dc left k (left.getD i []) i (aw k false) owner number=q at *;obtain⟨b,wU,qJ,DN⟩:=q;dsimp only at dX dH hr e4;obtain⟨k1,k2,k3⟩:=dH;unfold sC at dX;((try revert hK K);(repeat'(first|refine Va (X2 @qK @My) ?_|(refine V2 (X2 @qK @My) ?_ ?_<;>try with_reducible intro hb)|(refine Xi ?_ ?_<;>try intro ht)|refine VD ?_ ?_|exact Xx|fail))<;>try with_reducible intro K hK)
  refine rh [0,6,2,7,1,5,4,3] dX US ⟨rfl,rfl,rfl,rfl,rfl,by rw[s8];rfl,by rw[s7];rfl,by rw[s7];rfl,trivial⟩ ⟨.pure rfl,.eq rfl,.eq rfl,.eq rfl,.eq rfl,.eq rfl,trivial⟩ ?_;((try revert hK K);(repeat'(first|refine Va X0 ?_|(refine V2 X0 ?_ ?_<;>try with_reducible intro hb)|(refine Xi ?_ ?_<;>try intro ht)|refine VD ?_ ?_|exact Xx|fail))<;>try with_reducible intro K hK)
  refine aq _ (i+1,qJ,DN) ⟨UT,k1,UT,hr⟩ UT ?_;exact Xs false [0,1,2,3,4] X0
 ·((try revert hK K);(repeat'(first|refine Va X0 ?_|(refine V2 X0 ?_ ?_<;>try with_reducible intro hb)|(refine Xi ?_ ?_<;>try intro ht)|refine VD ?_ ?_|exact Xx|fail))<;>try with_reducible intro K hK)
  rw[show left.length-i=0 by omega,l6]at hr;subst hr;refine aC _ _ rfl ?_;clear aq aC Ql;repeat(first|refine Xu ?_)
  ((try revert hK K);(repeat'(first|refine Vb X0 ?_|(refine V2 X0 ?_ ?_<;>try with_reducible intro hb)|(refine Xi ?_ ?_<;>try intro ht)|refine VD ?_ ?_|exact Xx|fail))<;>try with_reducible intro K hK)
  refine nq [] (.take 0 (.both 1 (.take 2 (.take 3 .nil)) 2 (.take 1 (.take 3 .nil)))) rfl US (by decide +kernel) ?_;simp(disch:=omega)only[Ac,↓Pc,simprocAttr,Pw];((try revert hK K);(repeat'(first|refine Vb X0 ?_|(refine V2 X0 ?_ ?_<;>try with_reducible intro hb)|(refine Xi ?_ ?_<;>try intro ht)|refine VD ?_ ?_|exact Xx|fail))<;>try with_reducible intro K hK)
  simp(disch:=omega)only[Ac,↓Pc,simprocAttr,rowOf];refine pM [] true US trivial US US (bd.FV ?_ ?_)
  ·exact bd.bp rfl (jv _) (by rw[k7];omega) (oB US) (mu _)
  ·exact bd.bp rfl (jv _) (by rw[k7];omega) (oB US) (mu _)
def Dr{σ:St}{kp:Nat->Prop}{ρ:Nat->Nat}{snap:Bool}{a b c d e f:AV}(h:bd σ kp ρ snap a d)(k:bd σ kp ρ snap b e)(l:bd σ kp ρ snap c f):bd σ kp ρ snap (.bA [a,b,c]) (.bA [d,e,f]) :=
 .bA _ _ rfl (kA.spec (R:=bd σ kp ρ snap) (cs:=[a,b,c]) (ds:=[d,e,f]) ⟨h,k,l,trivial⟩).2
def Tr(left:List (List Int))(right:Int):ao Tryd.prog 12 [.tree 1 (aU left),UX right] [] (.bA [.tree 1 (ints (tI left right).1),UX (tI left right).2]) []:=by
 generalize az:tI left right=res;unfold tI at az;have h1:=Mw left right;generalize sB:check left right=e at *;refine ao.aX 22 0 [.tmp 4,.tmp 5] Tryd.func12 ?_;((try revert hK K);(repeat'(first|refine Vd X0 h1 ?_|(refine V2 X0 ?_ ?_<;>try with_reducible intro hb)|(refine Xi ?_ ?_<;>try intro ht)|refine VD ?_ ?_|exact Xx|fail))<;>try with_reducible intro K hK)
 ·rw[if_pos ht]at az;rw[<- az];exact pM [] true US trivial US US (bd.FV bd.nil (.pure rfl))
 ·obtain⟨hL,h0,h1⟩:=B2 (sB.trans ht);rw[if_neg z8]at az;obtain⟨R,rfl⟩:∃R:Nat,right=R:=⟨right.toNat,z8⟩;rw[bY]at hL az;refine ba (MA left R hL z8) rfl rfl ?_;((try revert hK K);(repeat'(first|refine Vb X0 ?_|(refine V2 X0 ?_ ?_<;>try with_reducible intro hb)|(refine Xi ?_ ?_<;>try intro ht)|refine VD ?_ ?_|exact Xx|fail))<;>try with_reducible intro K hK)
  rw[<- az];exact mq rfl
def L2(left:List (List Int))(right:Int):ao Tryd.prog 11 [.tree 1 (aU left),UX right] [] (.bA [.tree 1 (ints (jH left right).1),.tree 1 (ints (jH left right).2.1),UX (jH left right).2.2]) []:=by
 generalize az:jH left right=res;unfold jH at az;have h1:=Mw left right;generalize sB:check left right=e at *;refine ao.aX 98 0 [.tmp 4,.tmp 5,.tmp 6] Tryd.func11 ?_;((try revert hK K);(repeat'(first|refine Vd X0 h1 ?_|(refine V2 X0 ?_ ?_<;>try with_reducible intro hb)|(refine Xi ?_ ?_<;>try intro ht)|refine VD ?_ ?_|exact Xx|fail))<;>try with_reducible intro K hK)
 ·rw[if_pos ht]at az;rw[<- az];exact pM [] true US trivial US US (Dr bd.nil bd.nil (.pure rfl))
 obtain⟨hL,h0,h1⟩:=B2 (sB.trans ht);rw[if_neg z8]at az;obtain⟨R,rfl⟩:∃R:Nat,right=R:=⟨right.toNat,z8⟩;rw[bY]at hL az;refine ba (MA left R hL z8) rfl rfl ?_;((try revert hK K);(repeat'(first|refine Vb X0 ?_|(refine V2 X0 ?_ ?_<;>try with_reducible intro hb)|(refine Xi ?_ ?_<;>try intro ht)|refine VD ?_ ?_|exact Xx|fail))<;>try with_reducible intro K hK)
 obtain⟨DO,gk⟩:=PJ hL;unfold dL at az;generalize hm:dV left R=m at *;have UJ:=DO.1;have zR:=hL.1;refine I' ?_;intro Q hn he;refine F4 ⟨ax [(0,.tree 1 (aU left)),(1,UX R),(8,.tree 1 (ints m.2)),(9,.tree 1 (ints m.1)),(10,.ref 0 1 0 left.length),(11,.ref 1 1 0 R)],[.arr 1 (bP (aw left.length false)),.arr 1 (bP (aw R false))]⟩ hn ?_ (λkey=>?_);rotate_left
 ·refine nq [] (.take 0 (.take 1 (.take 3 (.both 2 (.take 4 (.take 5 (.take 6 .nil))) 4 (.take 2 (.take 5 (.take 6 .nil))))))) rfl US (by decide +kernel) ?_;simp(disch:=omega)only[Ac,↓Pc,simprocAttr,Pw];repeat'(first|with_reducible refine xl ?_ ?_|omega|with_reducible rfl)
  ·refine key _ ?_;exact Xs false [0,1] X0
  ·refine key _ ?_;exact Xs false [1,0] X0
 repeat'(first|(refine Xr X0 ?_;intro K hK)|refine Xo X0 ?_|(refine hK _ ?_;clear hK K)|(refine Xg X0 ?_ ?_<;>try intro hb)|(refine Xi ?_ ?_<;>try intro ht)|refine Xz ?_|refine Xh ?_|(refine Xe ?_;first|refine aY rfl ?_|refine Xl ?_ ?_)|refine Xd ?_ ?_|exact Xx|fail)
 have vL:(fQ m.2).length=left.length:=by rw[fQ,List.length_map,gk]
 have DP:∀ k,k<left.length->(fQ m.2).getD k false=decide (m.2.getD k 0<0):=λk hk=>by
  rw[fQ,an,List.getElem?_map,aN z8,an,aN z8];rfl
 generalize hu:fQ m.2=u at *;clear hu;generalize zS:ca u 0=q0 at *;refine bu (λz:Nat×List Int=>(⟨ax [(0,.tree 1 (aU left)),(1,UX R),(8,.tree 1 (ints m.2)),(9,.tree 1 (ints m.1)),(10,.ref 0 1 0 left.length),(11,.ref 1 1 0 R),(12,.ref 2 1 0 z.2.length),(36,.tree 1 (ints m.2)),(37,UX m.2.length),(38,UX z.1)],
   [.arr 1 (bP (u.take z.1++aw (left.length-z.1) false)),.arr 1 (bP (aw R false)),.arr 1 (ints z.2)]⟩:St))
  (λz=>z.1<=left.length/\z.2.length<=z.1/\z.2++ca (u.drop z.1) z.1=q0) (λz=>left.length-z.1) (0,[]) ⟨bk _,aH _,zS⟩ ?_ ?_
 ·refine aR.trans (aR.nil 12 1 (by simp only[Kc,simprocAttr]) US) ?_;exact Xv (X3 @List.take_zero.{0} @g9.{0} @lI)
 ·rintro⟨k,acc⟩ ⟨hk,ha,hr⟩ Ql aq aC;dsimp only at hk ha hr ⊢;have hlen:(u.take k++aw (left.length-k) false).length=left.length:=UU;((try revert hK K);(repeat'(first|refine Va @hlen ?_|(refine V2 @hlen ?_ ?_<;>try with_reducible intro hb)|(refine Xi ?_ ?_<;>try intro ht)|refine VD ?_ ?_|exact Xx|fail))<;>try with_reducible intro K hK)
  ·have hg:=DP k z8;rw[decide_eq_true ht]at hg;rw[di _ _ false z8,ca,if_pos (by assumption)]at hr;rw[PK (n:=left.length) z8 z8 hg];refine aq _ (k+1,acc++[(k:Int)]) ⟨UT,UU,by simpa using hr⟩ UT ?_;exact Xs false [0,1,4] X0
  ·have hg:=DP k z8;rw[decide_eq_false z8]at hg;rw[di _ _ false z8,ca,if_neg (by simp_all)]at hr;rw[PL (n:=left.length) z8 z8 hg];exact aq _ (k+1,acc) ⟨UT,UT,hr⟩ UT (Xv X0)
  refine aC _ _ rfl ?_;clear aq aC Ql;obtain rfl:k=left.length:=z8;rw[dF z8,ca,eY]at hr;subst hr;rw[List.take_of_length_le z8,kn,qX,eY];repeat(first|refine Xu ?_)
  dsimp only at az;have TE:=B3 u 0;have Dm:B4 left.length acc:=λx hx=>by have:=qe u 0 x (by rw[zS];exact hx);omega
  rw[zS]at TE;clear hlen hk ht zS DP;generalize hz:ll left m.1 left.length acc (aw R false) u=z at az;refine Xk ?_;refine Xb ?_;refine bu (λz:Nat×List Int×List Int×List Bool×List Bool=>(⟨ax [(0,.tree 1 (aU left)),(9,.tree 1 (ints m.1)),(10,.ref 0 1 0 left.length),(11,.ref 1 1 0 R),(12,.ref 2 1 z.2.1.length z.2.2.1.length)],
    [.arr 1 (bP z.2.2.2.2),.arr 1 (bP z.2.2.2.1),.arr 1 (ints (z.2.1++z.2.2.1))]⟩:St))
   (λy=>y.1<=left.length/\True/\B4 left.length y.2.2.1/\y.2.2.2.1.length=R/\y.2.2.2.2.length=left.length/\y.2.2.1.length+fP y.2.2.2.2<=y.1/\ll left m.1 y.1 y.2.2.1 y.2.2.2.1 y.2.2.2.2=z) (λy=>y.1) (left.length,[],acc,aw R false,u) ⟨aH _,trivial,Dm,Eb,vL,UT,hz⟩ ?_ ?_
  ·exact Xv X0
  rintro⟨f,pre,q,used,av⟩⟨hf,TF,hq,zT,cR,hc,hr⟩Ql aq aC;dsimp only at hf TF hq zT cR hc hr ⊢;have hlen:(pre++q).length=pre.length+q.length:=Eb;cases q with
  |nil =>
   have lR:(used,av)=z:=by
    rw[<- hr];cases f<;>rfl
   ((try revert hK K);(repeat'(first|refine Va @hlen ?_|(refine V2 @hlen ?_ ?_<;>try with_reducible intro hb)|(refine Xi ?_ ?_<;>try intro ht)|refine VD ?_ ?_|exact Xx|fail))<;>try with_reducible intro K hK)
   subst lR;refine aC _ _ rfl ?_;clear aq aC Ql;repeat(first|refine Xu ?_)
   refine kB (σ':=⟨ax [(10,.tree 1 (bP av)),(11,.tree 1 (bP used))],[]⟩) ?_ ?_
   ·rw[<- cR,<- zT];exact Xs true [] X0
   ((try revert hK K);(repeat'(first|refine Vd X0 (X2 (Mx av z8) (Mx used z8)) ?_|(refine V2 X0 ?_ ?_<;>try with_reducible intro hb)|(refine Xi ?_ ?_<;>try intro ht)|refine VD ?_ ?_|exact Xx|fail))<;>try with_reducible intro K hK)
   rw[<- az];exact mq rfl
  |cons i q =>
   have hg:(ints (pre++i::q))[pre.length]?=some [UX i]:=by simp[ints]
   have hi:=hq i Eb;have hl:=hL.get i.toNat;have dj:q.length+1+fP av<=f:=hc;obtain⟨f',rfl⟩:∃f',f=f'+1:=⟨f-1,z8⟩;rw[ll]at hr;have MC:=yK DO (left.getD i.toNat []) q used av hl.2 (λx hx=>hq x (by simp[hx])) zT cR;generalize iu:eA m.1 (left.getD i.toNat []) q used av=zz at hr MC;obtain⟨wM,UK,UL,UN⟩:=MC;generalize cS:left.getD i.toNat []=l at *;((try revert hK K);(repeat'(first|refine Va (X5 @hlen @hg @Nat.add_sub_cancel @iR.{0,0} @cS) ?_|(refine V2 (X5 @hlen @hg @Nat.add_sub_cancel @iR.{0,0} @cS) ?_ ?_<;>try with_reducible intro hb)|(refine Xi ?_ ?_<;>try intro ht)|refine VD ?_ ?_|exact Xx|fail))<;>try with_reducible intro K hK)
   refine bu (λy:Nat×Nat×List Int×List Int×List Bool×List Bool=>(⟨ax [(0,.tree 1 (aU left)),(9,.tree 1 (ints m.1)),(10,.ref 0 1 0 left.length),(11,.ref 1 1 0 R),(12,.ref 2 1 y.2.1 y.2.2.2.1.length),(64,.tree 1 (ints l)),(65,UX l.length),(66,UX y.1)],
     [.arr 1 (bP y.2.2.2.2.2),.arr 1 (bP y.2.2.2.2.1),.arr 1 (ints (y.2.2.1++y.2.2.2.1))]⟩:St))
    (λy=>y.1<=l.length/\y.2.2.1.length=y.2.1/\True/\B4 left.length y.2.2.2.1/\y.2.2.2.2.1.length=R/\y.2.2.2.2.2.length=left.length/\y.2.2.2.1.length+fP y.2.2.2.2.2=q.length+fP av/\eA m.1 (l.drop y.1) y.2.2.2.1 y.2.2.2.2.1 y.2.2.2.2.2=zz) (λy=>l.length-y.1)
    (0,pre.length+1,pre++[i],q,used,av) ⟨bk _,Eb,trivial,λx hx=>hq x (by simp[hx]),zT,cR,rfl,iu⟩ ?_ ?_
   ·rw[show pre++i::q=(pre++[i])++q by simp];exact Xv X0
   rintro⟨k,off,zU,q2,zV,wV⟩⟨hk,sE,DQ,sy,wW,gW,p7,kE⟩gu cr cy;dsimp only at hk sE DQ sy wW gW p7 kE ⊢;by_cases aQ:k<l.length
   ·have hx:=hl.2 _ (aO (d:=0) aQ);have hd:=di l k 0 aQ;generalize bX:l.getD k 0=x at *;have vD:=DO.get (x:=x.toNat) z8;generalize gb:m.1.getD x.toNat 0=o at *;rw[hd,eA,gb]at kE;have sA:(ints (zU++q2)).drop off=ints q2:=by simp[ints,<- sE]
    have TG:=λh1 h2=>tH wV o.toNat h1 h2;((try revert hK K);(repeat'(first|refine Va (X5 @bX @gb @aJ.{0} @sE @sA) ?_|(refine V2 (X5 @bX @gb @aJ.{0} @sE @sA) ?_ ?_<;>try with_reducible intro hb)|(refine Xi ?_ ?_<;>try intro ht)|refine VD ?_ ?_|exact Xx|fail))<;>try with_reducible intro K hK)
    ·rw[if_pos ⟨hb,ht⟩]at kE;have UO:=TG z8 ht;refine cr _ (k+1,0,[],q2++[o],zV.set x.toNat true,wV.set o.toNat true) ⟨UT,rfl,trivial,?_,by simpa using wW,by simpa using gW,by simp only[aJ,List.length_singleton];omega,kE⟩ UT ?_
     ·intro y hy;rcases List.mem_append.1 hy with hy|hy
      ·exact sy y hy
      ·simp only[List.mem_singleton]at hy;subst hy;omega
     ·dsimp only[g9];exact Xs false [0,1,4] X0
    ·rw[if_neg (by simp_all)]at kE;exact cr _ (k+1,off,zU,q2,zV.set x.toNat true,wV) ⟨UT,sE,DQ,sy,by simpa using wW,gW,p7,kE⟩ UT (Xv X0)
    ·rw[if_neg z8]at kE;exact cr _ (k+1,off,zU,q2,zV.set x.toNat true,wV) ⟨UT,sE,DQ,sy,by simpa using wW,gW,p7,kE⟩ UT (Xv X0)
   ·((try revert hK K);(repeat'(first|refine Va X0 ?_|(refine V2 X0 ?_ ?_<;>try with_reducible intro hb)|(refine Xi ?_ ?_<;>try intro ht)|refine VD ?_ ?_|exact Xx|fail))<;>try with_reducible intro K hK)
    rw[dF z8,eA]at kE;rw[<- kE]at hr;refine cy _ _ rfl ?_;clear cr cy gu;repeat(first|refine Xu ?_)
    refine aq _ (f',zU,q2,zV,wV) ⟨UT,trivial,sy,wW,gW,UT,hr⟩ UT ?_;rw[<- sE];exact Xv X0
end T

