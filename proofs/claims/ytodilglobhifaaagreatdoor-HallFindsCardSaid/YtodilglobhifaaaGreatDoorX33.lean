import Derived.Test.YtodilglobhifaaaGreatDoorX17
set_option linter.all false
set_option maxHeartbeats 0
set_option maxRecDepth 20000
open Nat renaming zero_le→aN,le_refl→aM,strongRecOn→xO,sub_zero→nP,sub_self→kB
open Int renaming cast_ofNat_Int→vV,toNat_of_nonneg→oR,toNat_natCast→dz
open List renaming drop_length→Hv,drop_eq_nil_of_le→dw,append_nil→fF,replicate→ax,replicate_zero→sJ,nil_append→dT,getD_eq_getElem?_getD→aw,getElem?_eq_getElem→bc,length_append→aJ
open And renaming intro→kC
open Option renaming map_none→jn
open Go Go.Am Go.Proofs
namespace T
def Q7(left:List (List Int))(right:Int):ao Tryz.prog 42 [.tree 1 (bW left),aah right] [] (aah (check left right)) []:=by
 refine ao.aO 42 0 [.tmp 4] Tryz.func42 ?_;repeat'(first|(refine Xr X0 ?_;intro K hK)|refine Xo X0 ?_|(refine hK _ ?_;clear hK K)|(refine Xg X0 ?_ ?_<;>try intro hb)|(refine Xi ?_ ?_<;>try intro ht)|refine Xz ?_|refine Xh ?_|(refine Xe ?_;first|refine aT rfl ?_|refine Xl ?_ ?_)|refine Xd ?_ ?_|exact Xx|fail)
 ·simp only[check,if_pos (show left.length > 256 by omega)]
 ·simp only[check,if_neg (show ¬ left.length > 256 by omega)];rw[if_pos Ay]
 ·simp only[check,if_neg (show ¬ left.length > 256 by omega)];rw[if_pos Ay]
 have su:¬ left.length > 256:=Ay;refine aX (λk:Nat=>(⟨au [(1,aah right),(18,.tree 1 (bW left)),(19,aah left.length),(20,aah k)],[]⟩:St)) (λk=>k<=left.length/\iP right left=iP right (left.drop k)) (λk=>left.length-k) 0 ⟨aN _,rfl⟩ (Xv @vV) ?_;intro k ⟨hk,hc⟩ Ql an ay;repeat'(first|(refine Xr X0 ?_;intro K hK)|refine Xo X0 ?_|(refine hK _ ?_;clear hK K)|(refine Xg X0 ?_ ?_<;>try intro hb)|(refine Xi ?_ ?_<;>try intro ht)|refine Xz ?_|refine Xh ?_|(refine Xe ?_;first|refine aT rfl ?_|refine Xl ?_ ?_)|refine Xd ?_ ?_|exact Xx|fail)
 ·unfold check;rw[if_neg su,if_neg (show ¬ (right<0\/right > 4096) by omega),hc,cF _ _ [] Ay,iP,if_pos Ay]
 rotate_left
 ·rw[show k=left.length by omega,Hv]at hc;simp only[check,if_neg su,if_neg (show ¬ (right<0\/right > 4096) by omega),hc,iP]
 generalize hl:left.getD k []=l at *;have nJ:iP right left=if iO right l≠0 then 3 else iP right (left.drop (k+1)):=by
  rw[hc,cF _ _ [] Ay,iP,hl,if_neg Ay]
 refine aX (λj:Nat=>(⟨au [(1,aah right),(18,.tree 1 (bW left)),(19,aah left.length),(20,aah k),(27,.tree 1 (ints l)),(28,aah l.length),(29,aah j)],[]⟩:St)) (λj=>j<=l.length/\iO right l=iO right (l.drop j)) (λj=>l.length-j) 0 ⟨aN _,rfl⟩ (Xv @vV) ?_;intro j ⟨hj,pZ⟩ cC aS bf;repeat'(first|(refine Xr X0 ?_;intro K hK)|refine Xo X0 ?_|(refine hK _ ?_;clear hK K)|(refine Xg X0 ?_ ?_<;>try intro hb)|(refine Xi ?_ ?_<;>try intro ht)|refine Xz ?_|refine Xh ?_|(refine Xe ?_;first|refine aT rfl ?_|refine Xl ?_ ?_)|refine Xd ?_ ?_|exact Xx|fail)
 ·unfold check;rw[if_neg su,if_neg Ay,nJ,pZ,cF _ _ 0 Ay,iO,if_pos Ay]
 ·unfold check;rw[if_neg su,if_neg Ay,nJ,pZ,cF _ _ 0 Ay,iO,if_pos Ay]
 ·refine aS _ (j+1) ⟨Ay,?_⟩ Ay ?_
  ·rw[pZ,cF _ _ 0 Ay,iO,if_neg Ay]
  ·exact Xv X0
 ·refine an _ (k+1) ⟨Ay,?_⟩ Ay ?_
  ·rw[show j=l.length by omega,Hv]at pZ;rw[nJ,pZ,iO,if_neg Ha]
  ·exact Xv X0
def YI(left:List (List Int))(right:Int):ao Tryz.prog 75 [.tree 1 (bW left),aah right] [] (aah (check left right)) []:=by
 refine ao.aO 56 0 [.tmp 4] Tryz.func75 ?_;repeat'(first|(refine Xr X0 ?_;intro K hK)|refine Xo X0 ?_|(refine hK _ ?_;clear hK K)|(refine Xg X0 ?_ ?_<;>try intro hb)|(refine Xi ?_ ?_<;>try intro ht)|refine Xz ?_|refine Xh ?_|(refine Xe ?_;first|refine aT rfl ?_|refine Xl ?_ ?_)|refine Xd ?_ ?_|exact Xx|fail)
 ·unfold check;rw[if_pos Ay]
 ·unfold check;rw[if_neg Ay,if_pos Ay]
 ·unfold check;rw[if_neg Ay,if_pos Ay]
 have su:¬ left.length > 256:=Ay;refine aX (λk:Nat=>(⟨au [(0,.tree 1 (bW left)),(1,aah right),(5,aah k)],[]⟩:St)) (λk=>k<=left.length/\iP right left=iP right (left.drop k)) (λk=>left.length-k) 0 ⟨aN _,rfl⟩ (Xv X0) ?_;intro k ⟨hk,hc⟩ Ql an ay;repeat'(first|(refine Xr X0 ?_;intro K hK)|refine Xo X0 ?_|(refine hK _ ?_;clear hK K)|(refine Xg X0 ?_ ?_<;>try intro hb)|(refine Xi ?_ ?_<;>try intro ht)|refine Xz ?_|refine Xh ?_|(refine Xe ?_;first|refine aT rfl ?_|refine Xl ?_ ?_)|refine Xd ?_ ?_|exact Xx|fail)
 ·unfold check;rw[if_neg su,if_neg Ay,hc,cF _ _ [] Ay,iP,if_pos Ay]
 rotate_left
 ·rw[show k=left.length by omega,Hv]at hc;simp only[check,if_neg su,if_neg (show ¬ (right<0\/right > 4096) by omega),hc,iP]
 generalize hl:left.getD k []=l at *;have nJ:iP right left=if iO right l≠0 then 3 else iP right (left.drop (k+1)):=by
  rw[hc,cF _ _ [] Ay,iP,hl,if_neg Ay]
 refine aX (λj:Nat=>(⟨au [(0,.tree 1 (bW left)),(1,aah right),(5,aah k),(6,aah j)],[]⟩:St)) (λj=>j<=l.length/\iO right l=iO right (l.drop j)) (λj=>l.length-j) 0 ⟨aN _,rfl⟩ (Xv X0) ?_;intro j ⟨hj,pZ⟩ cC aS bf;repeat'(first|(refine Xr @hl ?_;intro K hK)|refine Xo @hl ?_|(refine hK _ ?_;clear hK K)|(refine Xg @hl ?_ ?_<;>try intro hb)|(refine Xi ?_ ?_<;>try intro ht)|refine Xz ?_|refine Xh ?_|(refine Xe ?_;first|refine aT rfl ?_|refine Xl ?_ ?_)|refine Xd ?_ ?_|exact Xx|fail)
 ·unfold check;rw[if_neg su,if_neg Ay,nJ,pZ,cF _ _ 0 Ay,iO,if_pos Ay]
 ·unfold check;rw[if_neg su,if_neg Ay,nJ,pZ,cF _ _ 0 Ay,iO,if_pos Ay]
 ·refine aS _ (j+1) ⟨Ay,?_⟩ Ay (Xv X0);rw[pZ,cF _ _ 0 Ay,iO,if_neg Ay]
 ·refine an _ (k+1) ⟨Ay,?_⟩ Ay (Xv X0);rw[show j=l.length by omega,Hv]at pZ;rw[nJ,pZ,iO,if_neg Ha]
def Q8(l:List Bool)(hl:l.length<1000000):ao Tryz.prog 44 [.tree 1 (b8 l)] [] (.tree 1 (ints (cy l 0))) []:=by
 generalize az:cy l 0=res;refine ao.aO 20 0 [.tmp 2] Tryz.func44 ?_;repeat'(first|(refine Xr X0 ?_;intro K hK)|refine Xo X0 ?_|(refine hK _ ?_;clear hK K)|(refine Xg X0 ?_ ?_<;>try intro hb)|(refine Xi ?_ ?_<;>try intro ht)|refine Xz ?_|refine Xh ?_|(refine Xe ?_;first|refine aT rfl ?_|refine Xl ?_ ?_)|refine Xd ?_ ?_|exact Xx|fail)
 refine aX (λz:Nat×List Int=>(⟨au [(3,.ref 0 1 0 z.2.length),(6,.tree 1 (b8 l)),(7,aah l.length),(8,aah z.1)],[.arr 1 (ints z.2)]⟩:St))
  (λz=>z.1<=l.length/\z.2.length<=z.1/\z.2++cy (l.drop z.1) z.1=res) (λz=>l.length-z.1) (0,[]) ⟨aN _,aM _,az⟩ ?_ ?_
 ·refine aC.trans (aC.nil 3 1 (by simp only[Kc,simprocAttr]) Ha) ?_;exact Xv X0
 rintro⟨k,acc⟩⟨hk,ha,hr⟩Ql an ay;dsimp only at hk ha hr ⊢;((try revert hK K);(repeat'(first|refine Va X0 ?_|(refine V2 X0 ?_ ?_<;>try with_reducible intro hb)|(refine Xi ?_ ?_<;>try intro ht)|refine VD ?_ ?_|exact Xx|fail))<;>try with_reducible intro K hK)
 ·rw[cF _ _ false Ay,cy,if_pos (by assumption)]at hr;refine an _ (k+1,acc++[(k:Int)]) ⟨aaa,aab,by simpa using hr⟩ aaa ?_;exact Xs false [2] X0
 ·rw[cF _ _ false Ay,cy,if_neg (by simp_all)]at hr;exact an _ (k+1,acc) ⟨aaa,aaa,hr⟩ aaa (Xv X0)
 ·rw[dw Ay,cy,fF]at hr;subst hr;refine ay _ _ rfl ?_;clear an ay Ql;repeat(first|refine Xu ?_)
  ((try revert hK K);(repeat'(first|refine Vb X0 ?_|(refine V2 X0 ?_ ?_<;>try with_reducible intro hb)|(refine Xi ?_ ?_<;>try intro ht)|refine VD ?_ ?_|exact Xx|fail))<;>try with_reducible intro K hK)
  exact Xw true [] X0
def YJ(left:List (List Int))(R:Nat)(hL:eP R left)(hR:R<1000000):∀ (f:Nat) (i:Nat) (seen:List Bool) (owner:List Int),ig seen<=f->i<left.length->gp left.length R owner->seen.length=R ->
  ao Tryz.prog 116 [.tree 1 (bW left),aah i,.ref 0 1 0 R,.ref 1 1 0 R] [.arr 1 (b8 seen),.arr 1 (ints owner)] (.lit (.bool (gH left f (left.getD i []) i seen owner).1))
   [.arr 1 (b8 (gH left f (left.getD i []) i seen owner).2.1),.arr 1 (ints (gH left f (left.getD i []) i seen owner).2.2)]:=by
 intro f
 induction f using xO with
 |_ f pA =>
 intro i z6 z7 iX hi z8 oz;have hl:=hL.get i;have z9:=hL.1;generalize az:gH left f (left.getD i []) i z6 z7=res;refine ao.aO 53 2 [.tmp 8] Tryz.func116 ?_;repeat'(first|(refine Xr X0 ?_;intro K hK)|refine Xo X0 ?_|(refine hK _ ?_;clear hK K)|(refine Xg X0 ?_ ?_<;>try intro hb)|(refine Xi ?_ ?_<;>try intro ht)|refine Xz ?_|refine Xh ?_|(refine Xe ?_;first|refine aT rfl ?_|refine Xl ?_ ?_)|refine Xd ?_ ?_|exact Xx|fail)
 refine aX (λz:Nat×List Bool×List Int=>(⟨au [(0,.tree 1 (bW left)),(1,aah i),(2,.ref 0 1 0 R),(3,.ref 1 1 0 R),(9,aah z.1)],[.arr 1 (b8 z.2.1),.arr 1 (ints z.2.2)]⟩:St))
  (λz=>z.1<=(left.getD i []).length/\ig z.2.1<=f/\gp left.length R z.2.2/\z.2.1.length=R/\gH left f ((left.getD i []).drop z.1) i z.2.1 z.2.2=res) (λz=>(left.getD i []).length-z.1) (0,z6,z7) ⟨aN _,iX,z8,oz,by simpa using az⟩ (Xv X0) ?_
 rintro⟨k,seen,owner⟩⟨hk,hc,ho,hs,hr⟩Ql an ay;dsimp only at hk hc ho hs hr ⊢;have py:=ho.1;generalize bl:left.getD i []=l at *;by_cases aQ:k<l.length
 ·have hx:=hl.2 _ (aG (d:=0) aQ);have hd:=cF l k 0 aQ;generalize bK:l.getD k 0=x at *;have yZ:=ho.get (x:=x.toNat) Ay;generalize fO:owner.getD x.toNat 0=o at *;repeat'(first|(refine Xr (X3 @bl @bK @fO) ?_;intro K hK)|refine Xo (X3 @bl @bK @fO) ?_|(refine hK _ ?_;clear hK K)|(refine Xg (X3 @bl @bK @fO) ?_ ?_<;>try intro hb)|(refine Xi ?_ ?_<;>try intro ht)|refine Xz ?_|refine Xh ?_|(refine Xe ?_;first|refine aT rfl ?_|refine Xl ?_ ?_)|refine Xd ?_ ?_|exact Xx|fail)
  all_goals rw[hd,gH.eq_def]at hr;simp only at hr;rw[fO]at hr
  ·rw[if_pos ht]at hr;exact an _ (k+1,seen,owner) ⟨aaa,hc,ho,hs,hr⟩ aaa (Xv X0)
  ·rw[if_neg (by simp_all),if_pos hb]at hr;rw[<- hr]
  ·rw[if_neg (by simp_all),if_pos hb]at hr;rw[<- hr]
  ·rw[if_neg (by rw[ht];decide),if_neg Ay]at hr;have q8:=wH seen x.toNat Ay ht;obtain⟨f',rfl⟩:∃f',f=f'+1:=⟨f-1,Ay⟩;have dX:=pA f' Ay o.toNat (seen.set x.toNat true) owner Ay Ay ho (by simpa using hs);rw[oR hb]at dX;have aK:=yX hL f' (left.getD o.toNat []) o.toNat (seen.set x.toNat true) owner (hL.get _).2 Ay ho (by simpa using hs);simp only at hr;generalize hq:gH left f' (left.getD o.toNat []) o.toNat (seen.set x.toNat true) owner=q at *;obtain⟨b,z',tR⟩:=q;dsimp only at dX aK hr;obtain⟨k1,k2,k3⟩:=aK;have k4:=k1.1;refine jU dX Dg ?_;repeat'(first|(refine Xr (X3 @bl @bK @fO) ?_;intro K hK)|refine Xo (X3 @bl @bK @fO) ?_|(refine hK _ ?_;clear hK K)|(refine Xg (X3 @bl @bK @fO) ?_ ?_<;>try intro hb)|(refine Xi ?_ ?_<;>try intro ht)|refine Xz ?_|refine Xh ?_|(refine Xe ?_;first|refine aT rfl ?_|refine Xl ?_ ?_)|refine Xd ?_ ?_|exact Xx|fail)
   ·rw[if_pos ht]at hr;rw[<- hr]
   ·rw[if_pos ht]at hr;rw[<- hr]
   ·rw[if_neg (by simp_all)]at hr;exact an _ (k+1,z',tR) ⟨aaa,aaa,k1,k2,hr⟩ aaa (Xv X0)
 ·repeat'(first|(refine Xr @bl ?_;intro K hK)|refine Xo @bl ?_|(refine hK _ ?_;clear hK K)|(refine Xg @bl ?_ ?_<;>try intro hb)|(refine Xi ?_ ?_<;>try intro ht)|refine Xz ?_|refine Xh ?_|(refine Xe ?_;first|refine aT rfl ?_|refine Xl ?_ ?_)|refine Xd ?_ ?_|exact Xx|fail)
  ·rw[dw Ay,gH.eq_def]at hr;rw[<- hr]
  ·rw[dw Ay,gH.eq_def]at hr;rw[<- hr]
def Q9(left:List (List Int))(R:Nat)(oD:Int)(hL:eP R left)(hR:R<1000000):ao Tryz.prog 76 [.tree 1 (bW left),aah R,aah oD] [] (aah (size left R oD)) []:=by
 have z9:=hL.1;generalize az:size left R oD=res;unfold size at az;refine ao.aO 41 0 [.tmp 6] Tryz.func76 ?_;repeat'(first|(refine Xr X0 ?_;intro K hK)|refine Xo X0 ?_|(refine hK _ ?_;clear hK K)|(refine Xg X0 ?_ ?_<;>try intro hb)|(refine Xi ?_ ?_<;>try intro ht)|refine Xz ?_|refine Xh ?_|(refine Xe ?_;first|refine aT rfl ?_|refine Xl ?_ ?_)|refine Xd ?_ ?_|exact Xx|fail)
 refine aX (λk:Nat=>(⟨au [(0,.tree 1 (bW left)),(1,aah R),(2,aah oD),(7,.ref 0 1 0 R),(8,aah k)],[.arr 1 (ints (ax k (-1)++ax (R-k) 0))]⟩:St)) (λk=>k<=R) (λk=>R-k) 0 (aN _) (Xv (X3 @sJ.{0} @dT.{0} @nP)) ?_;intro k hk Ql an ay;have hlen:(ax k (-1:Int)++ax (R-k) 0).length=R:=aab;((try revert hK K);(repeat'(first|refine Va @hlen ?_|(refine V2 @hlen ?_ ?_<;>try with_reducible intro hb)|(refine Xi ?_ ?_<;>try intro ht)|refine VD ?_ ?_|exact Xx|fail))<;>try with_reducible intro K hK)
 ·refine an _ (k+1) Ay Ay ?_;refine aC.au _ _ ?_ (by simp only[Has,and_true,Kc,simprocAttr,Int.natCast_add,vV]);dsimp only;congr 3;have:R-k=(R-(k+1))+1:=Ay;rw[this,List.replicate_succ (n:=R-(k+1)),List.set_append_right _ _ Dg,List.length_replicate,kB,List.set_cons_zero,List.replicate_succ'];simp
 refine ay _ _ rfl ?_;clear an ay Ql;obtain rfl:k=R:=Ay;simp only[kB,sJ,fF];repeat(first|refine Xu ?_)
 repeat'(first|(refine Xr X0 ?_;intro K hK)|refine Xo X0 ?_|(refine hK _ ?_;clear hK K)|(refine Xg X0 ?_ ?_<;>try intro hb)|(refine Xi ?_ ?_<;>try intro ht)|refine Xz ?_|refine Xh ?_|(refine Xe ?_;first|refine aT rfl ?_|refine Xl ?_ ?_)|refine Xd ?_ ?_|exact Xx|fail)
 clear hlen hk ht;refine aX (λz:Nat×Nat×List Int=>(⟨au [(0,.tree 1 (bW left)),(1,aah k),(2,aah oD),(7,.ref 0 1 0 k),(9,aah z.2.1),(10,aah z.1)],[.arr 1 (ints z.2.2)]⟩:St))
  (λz=>z.1<=left.length/\z.2.1<=z.1/\gp left.length k z.2.2/\rK left k oD (left.length-z.1) z.1 z.2.1 z.2.2=res) (λz=>left.length-z.1) (0,0,ax k (-1)) ⟨aN _,aM _,gp.rep _ _,az⟩ (Xv X0) ?_
 rintro⟨i,n,owner⟩⟨hi,iV,ho,hr⟩Ql an ay;dsimp only at hi iV ho hr ⊢;have py:=ho.1;by_cases hi':i<left.length
 ·have e:left.length-i=(left.length-(i+1))+1:=Ay;rw[e,rK]at hr;have aK:=yX hL k (left.getD i []) i (ax k false) owner (hL.get _).2 hi' ho Dg;have dX:=YJ left k hL hR k i (ax k false) owner (by rw[E0];omega) hi' ho Dg;generalize hq:gH left k (left.getD i []) i (ax k false) owner=q at *;obtain⟨b,z',tR⟩:=q;dsimp only at dX aK hr;obtain⟨k1,k2,k3⟩:=aK;have k4:=k1.1;repeat'(first|(refine Xr X0 ?_;intro K hK)|refine Xo X0 ?_|(refine hK _ ?_;clear hK K)|(refine Xg X0 ?_ ?_<;>try intro hb)|(refine Xi ?_ ?_<;>try intro ht)|refine Xz ?_|refine Xh ?_|(refine Xe ?_;first|refine aT rfl ?_|refine Xl ?_ ?_)|refine Xd ?_ ?_|exact Xx|fail)
  ·rw[if_neg hb]at hr;refine fD [1,0] dX Ha ⟨by rw[yl];rfl,by rw[wi];rfl,trivial⟩ ⟨.pure rfl,.pure rfl,.eq rfl,.eq rfl,trivial⟩ ?_;repeat'(first|(refine Xr X0 ?_;intro K hK)|refine Xo X0 ?_|(refine hK _ ?_;clear hK K)|(refine Xg X0 ?_ ?_<;>try intro hb)|(refine Xi ?_ ?_<;>try intro ht)|refine Xz ?_|refine Xh ?_|(refine Xe ?_;first|refine aT rfl ?_|refine Xl ?_ ?_)|refine Xd ?_ ?_|exact Xx|fail)
   ·rw[if_pos ht]at hr;refine an _ (i+1,n+1,tR) ⟨aaa,aaa,k1,hr⟩ aaa ?_;exact Xs false [0] X0
   ·rw[if_neg (by simp_all)]at hr;refine an _ (i+1,n,tR) ⟨aaa,aaa,k1,hr⟩ aaa ?_;exact Xs false [0] X0
  ·rw[if_pos hb]at hr;exact an _ (i+1,n,owner) ⟨aaa,aaa,ho,hr⟩ aaa (Xv X0)
 ·repeat'(first|(refine Xr X0 ?_;intro K hK)|refine Xo X0 ?_|(refine hK _ ?_;clear hK K)|(refine Xg X0 ?_ ?_<;>try intro hb)|(refine Xi ?_ ?_<;>try intro ht)|refine Xz ?_|refine Xh ?_|(refine Xe ?_;first|refine aT rfl ?_|refine Xl ?_ ?_)|refine Xd ?_ ?_|exact Xx|fail)
  rw[show left.length-i=0 by omega,rK]at hr;rw[<- hr]
def vJ(left:List (List Int))(R n:Nat)(seen:List Bool)(owner number:List Int):List Ob :=
 [.var [.tree 1 (bW left)],.var [.ref 5 1 0 R],.var [.ref 6 1 0 R],.var [.fn 91 [.ptr 0 0 0,.ptr 1 0 0,.ptr 2 0 0,.ptr 3 0 0,.ptr 4 0 0]],.var [.ref 7 1 0 n],.arr 1 (b8 seen),.arr 1 (ints owner),.arr 1 (ints number)]
def tS:ty Tryz.prog 34 = { kind:=9,size:=1,bytes:=8,elem:=0,len:=0,zero:=some [.nilFunc],aF:=[] }:=by kernel_rfl
def Ra:List.map AV.lit Value.nilFunc.cells.toList=[.lit .nilFunc]:=rfl
def YK(left:List (List Int))(R:Nat)(hL:eP R left)(hR:R<1000000):∀ (f:Nat) (i:Nat) (seen:List Bool) (owner number:List Int),ig seen<=f->i<left.length->gp left.length R owner->seen.length=R->number.length=left.length ->
  ao Tryz.prog 91 [aah i,.ptr 0 0 0,.ptr 1 0 0,.ptr 2 0 0,.ptr 3 0 0,.ptr 4 0 0] (vJ left R left.length seen owner number) (.lit (.bool (ed left f (left.getD i []) i seen owner number).1))
   (vJ left R left.length (ed left f (left.getD i []) i seen owner number).2.1 (ed left f (left.getD i []) i seen owner number).2.2.1 (ed left f (left.getD i []) i seen owner number).2.2.2):=by
 intro f
 induction f using xO with
 |_ f pA =>
 intro i z6 z7 Rb iX hi z8 oz sj;have hl:=hL.get i;have z9:=hL.1;generalize az:ed left f (left.getD i []) i z6 z7 Rb=res;unfold vJ;refine ao.aO 48 8 [.tmp 7] Tryz.func91 ?_;repeat'(first|(refine Xr X0 ?_;intro K hK)|refine Xo X0 ?_|(refine hK _ ?_;clear hK K)|(refine Xg X0 ?_ ?_<;>try intro hb)|(refine Xi ?_ ?_<;>try intro ht)|refine Xz ?_|refine Xh ?_|(refine Xe ?_;first|refine aT rfl ?_|refine Xl ?_ ?_)|refine Xd ?_ ?_|exact Xx|fail)
 refine aX (λz:Nat×List Bool×List Int×List Int=>(⟨au [(0,aah i),(1,.ptr 0 0 0),(2,.ptr 1 0 0),(3,.ptr 2 0 0),(4,.ptr 3 0 0),(5,.ptr 4 0 0),(13,.tree 1 (ints (left.getD i []))),(14,aah (left.getD i []).length),(15,aah z.1)],vJ left R left.length z.2.1 z.2.2.1 z.2.2.2⟩:St))
  (λz=>z.1<=(left.getD i []).length/\ig z.2.1<=f/\gp left.length R z.2.2.1/\z.2.1.length=R/\z.2.2.2.length=left.length/\ed left f ((left.getD i []).drop z.1) i z.2.1 z.2.2.1 z.2.2.2=res) (λz=>(left.getD i []).length-z.1) (0,z6,z7,Rb) ⟨aN _,iX,z8,oz,sj,by simpa using az⟩ (Xv X0) ?_
 rintro⟨k,seen,owner,number⟩⟨hk,hc,ho,hs,hm,hr⟩Ql an ay;dsimp only at hk hc ho hs hm hr ⊢;unfold vJ;have py:=ho.1;generalize bl:left.getD i []=l at *;by_cases aQ:k<l.length
 ·have hx:=hl.2 _ (aG (d:=0) aQ);have hd:=cF l k 0 aQ;generalize bK:l.getD k 0=x at *;have yZ:=ho.get (x:=x.toNat) Ay;generalize fO:owner.getD x.toNat 0=o at *;repeat'(first|(refine Xr (X4 @bl @bK @fO @tS) ?_;intro K hK)|refine Xo (X4 @bl @bK @fO @tS) ?_|(refine hK _ ?_;clear hK K)|(refine Xg (X4 @bl @bK @fO @tS) ?_ ?_<;>try intro hb)|(refine Xi ?_ ?_<;>try intro ht)|refine Xz ?_|refine Xh ?_|(refine Xe ?_;first|refine aT rfl ?_|refine Xl ?_ ?_)|refine Xd ?_ ?_|exact Xx|fail)
  all_goals rw[hd,ed.eq_def]at hr;simp only at hr;rw[fO]at hr
  ·rename_i N6;rw[if_pos (by assumption)]at hr;exact an _ (k+1,seen,owner,number) ⟨aaa,hc,ho,hs,hm,hr⟩ aaa (Xv X0)
  ·rw[if_neg (by simp_all),if_pos hb]at hr;refine lN [] (.take 0 (.take 1 (.take 3 (.take 4 (.take 5 (.take 6 (.both 2 (.take 7 (.take 8 (.take 9 .nil))) 7 (.take 2 (.take 8 (.take 9 .nil)))))))))) rfl Ha (by decide +kernel) ?_;simp(disch:=omega)only[Ac,↓Pc,simprocAttr,Pw,bl,bK,fO];repeat'(first|with_reducible refine kC ?_ ?_|omega|with_reducible rfl)
   all_goals repeat'(first|(refine Xr X0 ?_;intro K hK)|refine Xo X0 ?_|(refine hK _ ?_;clear hK K)|(refine Xg X0 ?_ ?_<;>try intro hb)|(refine Xi ?_ ?_<;>try intro ht)|refine Xz ?_|refine Xh ?_|(refine Xe ?_;first|refine aT rfl ?_|refine Xl ?_ ?_)|refine Xd ?_ ?_|exact Xx|fail)
   all_goals rw[<- hr]
  ·rw[if_neg (by simp_all),if_neg Ay]at hr;have q8:=wH seen x.toNat Ay (by simp_all);obtain⟨f',rfl⟩:∃f',f=f'+1:=⟨f-1,Ay⟩;have dX:=pA f' Ay o.toNat (seen.set x.toNat true) owner number Ay Ay ho (by simpa using hs) hm;rw[oR hb]at dX;have aK:=yX hL f' (left.getD o.toNat []) o.toNat (seen.set x.toNat true) owner (hL.get _).2 Ay ho (by simpa using hs);obtain⟨e1,e2,e3,e4⟩:=BS left f' (left.getD o.toNat []) o.toNat (seen.set x.toNat true) owner number;rw[<- e2,<- e3]at aK;simp only at hr;generalize hq:ed left f' (left.getD o.toNat []) o.toNat (seen.set x.toNat true) owner number=q at *;obtain⟨b,z',tR,GF⟩:=q;dsimp only at dX aK hr e4;obtain⟨k1,k2,k3⟩:=aK;have k4:=k1.1;unfold vJ at dX;refine jU dX Dg ?_;repeat'(first|(refine Xr (X4 @bl @bK @fO @tS) ?_;intro K hK)|refine Xo (X4 @bl @bK @fO @tS) ?_|(refine hK _ ?_;clear hK K)|(refine Xg (X4 @bl @bK @fO @tS) ?_ ?_<;>try intro hb)|(refine Xi ?_ ?_<;>try intro ht)|refine Xz ?_|refine Xh ?_|(refine Xe ?_;first|refine aT rfl ?_|refine Xl ?_ ?_)|refine Xd ?_ ?_|exact Xx|fail)
   ·rw[if_pos (by assumption)]at hr;refine lN [] (.take 0 (.take 1 (.take 3 (.take 4 (.take 5 (.take 6 (.both 2 (.take 7 (.take 8 (.take 9 .nil))) 7 (.take 2 (.take 8 (.take 9 .nil)))))))))) rfl Ha (by decide +kernel) ?_;simp(disch:=omega)only[Ac,↓Pc,simprocAttr,Pw,bl,bK,fO];repeat'(first|with_reducible refine kC ?_ ?_|omega|with_reducible rfl)
    all_goals repeat'(first|(refine Xr X0 ?_;intro K hK)|refine Xo X0 ?_|(refine hK _ ?_;clear hK K)|(refine Xg X0 ?_ ?_<;>try intro hb)|(refine Xi ?_ ?_<;>try intro ht)|refine Xz ?_|refine Xh ?_|(refine Xe ?_;first|refine aT rfl ?_|refine Xl ?_ ?_)|refine Xd ?_ ?_|exact Xx|fail)
    all_goals rw[<- hr]
   ·rw[if_neg (by simp_all)]at hr;exact an _ (k+1,z',tR,GF) ⟨aaa,aaa,k1,k2,aaa,hr⟩ aaa (Xv X0)
 ·repeat'(first|(refine Xr @bl ?_;intro K hK)|refine Xo @bl ?_|(refine hK _ ?_;clear hK K)|(refine Xg @bl ?_ ?_<;>try intro hb)|(refine Xi ?_ ?_<;>try intro ht)|refine Xz ?_|refine Xh ?_|(refine Xe ?_;first|refine aT rfl ?_|refine Xl ?_ ?_)|refine Xd ?_ ?_|exact Xx|fail)
  ·rw[dw Ay,ed.eq_def]at hr;rw[<- hr]
  ·rw[dw Ay,ed.eq_def]at hr;rw[<- hr]
def Rd(left:List (List Int))(R:Nat)(hL:eP R left)(hR:R<1000000):ao Tryz.prog 43 [.tree 1 (bW left),aah R] [] (.bP [.tree 1 (ints (fX left R).2),.tree 1 (ints (fX left R).1)]) []:=by
 have z9:=hL.1;generalize az:fX left R=res;unfold fX at az;refine ao.aO 48 0 [.cell 4 22,.cell 5 22] Tryz.func43 ?_;repeat'(first|(refine Xr X0 ?_;intro K hK)|refine Xo X0 ?_|(refine hK _ ?_;clear hK K)|(refine Xg X0 ?_ ?_<;>try intro hb)|(refine Xi ?_ ?_<;>try intro ht)|refine Xz ?_|refine Xh ?_|(refine Xe ?_;first|refine aT rfl ?_|refine Xl ?_ ?_)|refine Xd ?_ ?_|exact Xx|fail)
 refine EO ?_;intro Q hn he;refine uK ⟨au [(1,aah R),(2,.ptr 0 0 0),(4,.ptr 1 0 0),(5,.ptr 2 0 0)],[.var [.tree 1 (bW left)],.var [.ref 3 1 0 left.length],.var [.ref 4 1 0 R],.arr 1 (ints (ax left.length 0)),.arr 1 (ints (ax R 0))]⟩ hn ?_ (λkey=>?_);rotate_left
 ·refine lN [] (.take 0 (.take 1 (.take 3 (.both 2 (.both 4 (.take 5 (.take 6 .nil)) 5 (.take 4 (.take 6 .nil))) 4 (.take 2 (.take 5 (.take 6 .nil))))))) rfl Ha (by decide +kernel) ?_;simp(disch:=omega)only[Ac,↓Pc,simprocAttr,Pw];repeat'(first|with_reducible refine kC ?_ ?_|omega|with_reducible rfl)
  ·refine key _ ?_;exact Xs false [0,1,2,3,4] X0
  ·refine key _ ?_;exact Xs false [0,1,2,4,3] X0
 repeat'(first|(refine Xr X0 ?_;intro K hK)|refine Xo X0 ?_|(refine hK _ ?_;clear hK K)|(refine Xg X0 ?_ ?_<;>try intro hb)|(refine Xi ?_ ?_<;>try intro ht)|refine Xz ?_|refine Xh ?_|(refine Xe ?_;first|refine aT rfl ?_|refine Xl ?_ ?_)|refine Xd ?_ ?_|exact Xx|fail)
 refine aX (λk:Nat=>(⟨au [(1,aah R),(2,.ptr 0 0 0),(4,.ptr 1 0 0),(5,.ptr 2 0 0),(17,aah left.length),(18,aah k)],
  [.var [.tree 1 (bW left)],.var [.ref 3 1 0 left.length],.var [.ref 4 1 0 R],.arr 1 (ints (ax k (-1)++ax (left.length-k) 0)),.arr 1 (ints (ax R 0))]⟩:St)) (λk=>k<=left.length) (λk=>left.length-k) 0 (aN _) (Xv (X3 @sJ.{0} @dT.{0} @nP)) ?_
 intro k hk Ql an ay;have hlen:=N7 hk (-1) 0;((try revert hK K);(repeat'(first|refine Va @hlen ?_|(refine V2 @hlen ?_ ?_<;>try with_reducible intro hb)|(refine Xi ?_ ?_<;>try intro ht)|refine VD ?_ ?_|exact Xx|fail))<;>try with_reducible intro K hK)
 ·refine an _ (k+1) Ay Ay ?_;rw[N8 Ay];exact Xv X0
 refine ay _ _ rfl ?_;clear an ay Ql;obtain rfl:k=left.length:=Ay;simp only[kB,sJ,fF];clear hlen hk;repeat(first|refine Xu ?_)
 ((try revert hK K);(repeat'(first|refine Va X0 ?_|(refine V2 X0 ?_ ?_<;>try with_reducible intro hb)|(refine Xi ?_ ?_<;>try intro ht)|refine VD ?_ ?_|exact Xx|fail))<;>try with_reducible intro K hK)
 refine aX (λk:Nat=>(⟨au [(1,aah R),(2,.ptr 0 0 0),(4,.ptr 1 0 0),(5,.ptr 2 0 0),(26,aah R),(27,aah k)],
  [.var [.tree 1 (bW left)],.var [.ref 3 1 0 left.length],.var [.ref 4 1 0 R],.arr 1 (ints (ax left.length (-1))),.arr 1 (ints (ax k (-1)++ax (R-k) 0))]⟩:St)) (λk=>k<=R) (λk=>R-k) 0 (aN _) (Xv (X3 @sJ.{0} @dT.{0} @nP)) ?_
 intro k hk Ql an ay;have hlen:=N7 hk (-1) 0;((try revert hK K);(repeat'(first|refine Va @hlen ?_|(refine V2 @hlen ?_ ?_<;>try with_reducible intro hb)|(refine Xi ?_ ?_<;>try intro ht)|refine VD ?_ ?_|exact Xx|fail))<;>try with_reducible intro K hK)
 ·refine an _ (k+1) Ay Ay ?_;rw[N8 Ay];exact Xv X0
 refine ay _ _ rfl ?_;clear an ay Ql;obtain rfl:k=R:=Ay;simp only[kB,sJ,fF];clear hlen hk;repeat(first|refine Xu ?_)
 ((try revert hK K);(repeat'(first|refine Va X0 ?_|(refine V2 X0 ?_ ?_<;>try with_reducible intro hb)|(refine Xi ?_ ?_<;>try intro ht)|refine VD ?_ ?_|exact Xx|fail))<;>try with_reducible intro K hK)
 refine aX (λz:Nat×List Int×List Int=>(⟨au [(1,aah k),(2,.ptr 0 0 0),(4,.ptr 1 0 0),(5,.ptr 2 0 0),(35,aah left.length),(36,aah z.1)],
  [.var [.tree 1 (bW left)],.var [.ref 3 1 0 left.length],.var [.ref 4 1 0 k],.arr 1 (ints z.2.2),.arr 1 (ints z.2.1)]⟩:St))
  (λz=>z.1<=left.length/\gp left.length k z.2.1/\z.2.2.length=left.length/\oE left k (left.length-z.1) z.1 z.2.1 z.2.2=res) (λz=>left.length-z.1) (0,ax k (-1),ax left.length (-1)) ⟨aN _,gp.rep _ _,Dg,az⟩ (Xv X0) ?_
 rintro⟨i,owner,number⟩⟨hi,ho,hm,hr⟩Ql an ay;dsimp only at hi ho hm hr ⊢;have py:=ho.1;by_cases hi':i<left.length
 ·have e:left.length-i=(left.length-(i+1))+1:=Ay;rw[e,oE]at hr;have aK:=yX hL k (left.getD i []) i (ax k false) owner (hL.get _).2 hi' ho Dg;obtain⟨e1,e2,e3,e4⟩:=BS left k (left.getD i []) i (ax k false) owner number;rw[<- e2,<- e3]at aK;have dX:=YK left k hL hR k i (ax k false) owner number (by rw[E0];omega) hi' ho Dg hm;generalize hq:ed left k (left.getD i []) i (ax k false) owner number=q at *;obtain⟨b,z',tR,GF⟩:=q;dsimp only at dX aK hr e4;obtain⟨k1,k2,k3⟩:=aK;unfold vJ at dX;((try revert hK K);(repeat'(first|refine Va (X2 @tS @Ra) ?_|(refine V2 (X2 @tS @Ra) ?_ ?_<;>try with_reducible intro hb)|(refine Xi ?_ ?_<;>try intro ht)|refine VD ?_ ?_|exact Xx|fail))<;>try with_reducible intro K hK)
  refine fD [0,6,2,7,1,5,4,3] dX Ha ⟨rfl,rfl,rfl,rfl,rfl,by rw[yl];rfl,by rw[wi];rfl,by rw[wi];rfl,trivial⟩ ⟨.pure rfl,.eq rfl,.eq rfl,.eq rfl,.eq rfl,.eq rfl,trivial⟩ ?_;((try revert hK K);(repeat'(first|refine Va X0 ?_|(refine V2 X0 ?_ ?_<;>try with_reducible intro hb)|(refine Xi ?_ ?_<;>try intro ht)|refine VD ?_ ?_|exact Xx|fail))<;>try with_reducible intro K hK)
  refine an _ (i+1,tR,GF) ⟨aaa,k1,aaa,hr⟩ aaa ?_;exact Xs false [0,1,2,3,4] X0
 ·((try revert hK K);(repeat'(first|refine Va X0 ?_|(refine V2 X0 ?_ ?_<;>try with_reducible intro hb)|(refine Xi ?_ ?_<;>try intro ht)|refine VD ?_ ?_|exact Xx|fail))<;>try with_reducible intro K hK)
  rw[show left.length-i=0 by omega,oE]at hr;subst hr;refine ay _ _ rfl ?_;clear an ay Ql;repeat(first|refine Xu ?_)
  ((try revert hK K);(repeat'(first|refine Vb X0 ?_|(refine V2 X0 ?_ ?_<;>try with_reducible intro hb)|(refine Xi ?_ ?_<;>try intro ht)|refine VD ?_ ?_|exact Xx|fail))<;>try with_reducible intro K hK)
  refine lN [] (.take 0 (.both 1 (.take 2 (.take 3 .nil)) 2 (.take 1 (.take 3 .nil)))) rfl Ha (by decide +kernel) ?_;simp(disch:=omega)only[Ac,↓Pc,simprocAttr,Pw];((try revert hK K);(repeat'(first|refine Vb X0 ?_|(refine V2 X0 ?_ ?_<;>try with_reducible intro hb)|(refine Xi ?_ ?_<;>try intro ht)|refine VD ?_ ?_|exact Xx|fail))<;>try with_reducible intro K hK)
  simp(disch:=omega)only[Ac,↓Pc,simprocAttr,rowOf];refine eU [] true Ha trivial Ha Ha (a9.JT ?_ ?_)
  ·exact a9.bO rfl (kF _) (by rw[rj];omega) (iW Ha) (n9 _)
  ·exact a9.bO rfl (kF _) (by rw[rj];omega) (iW Ha) (n9 _)
def pV{σ:St}{kp:Nat->Prop}{ρ:Nat->Nat}{snap:Bool}{a b c d e f:AV}(h:a9 σ kp ρ snap a d)(k:a9 σ kp ρ snap b e)(l:a9 σ kp ρ snap c f):a9 σ kp ρ snap (.bP [a,b,c]) (.bP [d,e,f]) :=
 .bP _ _ rfl (jQ.spec (R:=a9 σ kp ρ snap) (cs:=[a,b,c]) (ds:=[d,e,f]) ⟨h,k,l,trivial⟩).2
def Xp(left:List (List Int))(right:Int):ao Tryz.prog 19 [.tree 1 (bW left),aah right] [] (.bP [.tree 1 (ints (wI left right).1),aah (wI left right).2]) []:=by
 generalize az:wI left right=res;unfold wI at az;have h1:=Q7 left right;generalize nJ:check left right=e at *;refine ao.aO 22 0 [.tmp 4,.tmp 5] Tryz.func19 ?_;((try revert hK K);(repeat'(first|refine Vd X0 h1 ?_|(refine V2 X0 ?_ ?_<;>try with_reducible intro hb)|(refine Xi ?_ ?_<;>try intro ht)|refine VD ?_ ?_|exact Xx|fail))<;>try with_reducible intro K hK)
 ·rw[if_pos ht]at az;rw[<- az];exact eU [] true Ha trivial Ha Ha (a9.JT a9.nil (.pure rfl))
 ·obtain⟨hL,h0,h1⟩:=yY (nJ.trans ht);rw[if_neg Ay]at az;obtain⟨R,rfl⟩:∃R:Nat,right=R:=⟨right.toNat,Ay⟩;rw[dz]at hL az;refine br (Rd left R hL Ay) rfl rfl ?_;((try revert hK K);(repeat'(first|refine Vb X0 ?_|(refine V2 X0 ?_ ?_<;>try with_reducible intro hb)|(refine Xi ?_ ?_<;>try intro ht)|refine VD ?_ ?_|exact Xx|fail))<;>try with_reducible intro K hK)
  rw[<- az];exact oT rfl
def Qd(left:List (List Int))(right:Int):ao Tryz.prog 18 [.tree 1 (bW left),aah right] [] (.bP [.tree 1 (ints (jb left right).1),.tree 1 (ints (jb left right).2.1),aah (jb left right).2.2]) []:=by
 generalize az:jb left right=res;unfold jb at az;have h1:=Q7 left right;generalize nJ:check left right=e at *;refine ao.aO 98 0 [.tmp 4,.tmp 5,.tmp 6] Tryz.func18 ?_;((try revert hK K);(repeat'(first|refine Vd X0 h1 ?_|(refine V2 X0 ?_ ?_<;>try with_reducible intro hb)|(refine Xi ?_ ?_<;>try intro ht)|refine VD ?_ ?_|exact Xx|fail))<;>try with_reducible intro K hK)
 ·rw[if_pos ht]at az;rw[<- az];exact eU [] true Ha trivial Ha Ha (pV a9.nil a9.nil (.pure rfl))
 obtain⟨hL,h0,h1⟩:=yY (nJ.trans ht);rw[if_neg Ay]at az;obtain⟨R,rfl⟩:∃R:Nat,right=R:=⟨right.toNat,Ay⟩;rw[dz]at hL az;refine br (Rd left R hL Ay) rfl rfl ?_;((try revert hK K);(repeat'(first|refine Vb X0 ?_|(refine V2 X0 ?_ ?_<;>try with_reducible intro hb)|(refine Xi ?_ ?_<;>try intro ht)|refine VD ?_ ?_|exact Xx|fail))<;>try with_reducible intro K hK)
 obtain⟨GG,iJ⟩:=UR hL;unfold ca at az;generalize hm:fX left R=m at *;have aas:=GG.1;have z9:=hL.1;refine EO ?_;intro Q hn he;refine uK ⟨au [(0,.tree 1 (bW left)),(1,aah R),(8,.tree 1 (ints m.2)),(9,.tree 1 (ints m.1)),(10,.ref 0 1 0 left.length),(11,.ref 1 1 0 R)],[.arr 1 (b8 (ax left.length false)),.arr 1 (b8 (ax R false))]⟩ hn ?_ (λkey=>?_);rotate_left
 ·refine lN [] (.take 0 (.take 1 (.take 3 (.both 2 (.take 4 (.take 5 (.take 6 .nil))) 4 (.take 2 (.take 5 (.take 6 .nil))))))) rfl Ha (by decide +kernel) ?_;simp(disch:=omega)only[Ac,↓Pc,simprocAttr,Pw];repeat'(first|with_reducible refine kC ?_ ?_|omega|with_reducible rfl)
  ·refine key _ ?_;exact Xs false [0,1] X0
  ·refine key _ ?_;exact Xs false [1,0] X0
 repeat'(first|(refine Xr X0 ?_;intro K hK)|refine Xo X0 ?_|(refine hK _ ?_;clear hK K)|(refine Xg X0 ?_ ?_<;>try intro hb)|(refine Xi ?_ ?_<;>try intro ht)|refine Xz ?_|refine Xh ?_|(refine Xe ?_;first|refine aT rfl ?_|refine Xl ?_ ?_)|refine Xd ?_ ?_|exact Xx|fail)
 have zc:(ij m.2).length=left.length:=by rw[ij,List.length_map,iJ]
 have GH:∀ k,k<left.length->(ij m.2).getD k false=decide (m.2.getD k 0<0):=λk hk=>by
  rw[ij,aw,List.getElem?_map,bc Ay,aw,bc Ay];rfl
 generalize hu:ij m.2=u at *;clear hu;generalize CW:cy u 0=q0 at *;refine aX (λz:Nat×List Int=>(⟨au [(0,.tree 1 (bW left)),(1,aah R),(8,.tree 1 (ints m.2)),(9,.tree 1 (ints m.1)),(10,.ref 0 1 0 left.length),(11,.ref 1 1 0 R),(12,.ref 2 1 0 z.2.length),(36,.tree 1 (ints m.2)),(37,aah m.2.length),(38,aah z.1)],
   [.arr 1 (b8 (u.take z.1++ax (left.length-z.1) false)),.arr 1 (b8 (ax R false)),.arr 1 (ints z.2)]⟩:St))
  (λz=>z.1<=left.length/\z.2.length<=z.1/\z.2++cy (u.drop z.1) z.1=q0) (λz=>left.length-z.1) (0,[]) ⟨aN _,aM _,CW⟩ ?_ ?_
 ·refine aC.trans (aC.nil 12 1 (by simp only[Kc,simprocAttr]) Ha) ?_;exact Xv (X3 @List.take_zero.{0} @dT.{0} @nP)
 ·rintro⟨k,acc⟩ ⟨hk,ha,hr⟩ Ql an ay;dsimp only at hk ha hr ⊢;have hlen:(u.take k++ax (left.length-k) false).length=left.length:=aab;((try revert hK K);(repeat'(first|refine Va @hlen ?_|(refine V2 @hlen ?_ ?_<;>try with_reducible intro hb)|(refine Xi ?_ ?_<;>try intro ht)|refine VD ?_ ?_|exact Xx|fail))<;>try with_reducible intro K hK)
  ·have hg:=GH k Ay;rw[decide_eq_true ht]at hg;rw[cF _ _ false Ay,cy,if_pos (by assumption)]at hr;rw[US (n:=left.length) Ay Ay hg];refine an _ (k+1,acc++[(k:Int)]) ⟨aaa,aab,by simpa using hr⟩ aaa ?_;exact Xs false [0,1,4] X0
  ·have hg:=GH k Ay;rw[decide_eq_false Ay]at hg;rw[cF _ _ false Ay,cy,if_neg (by simp_all)]at hr;rw[UT (n:=left.length) Ay Ay hg];exact an _ (k+1,acc) ⟨aaa,aaa,hr⟩ aaa (Xv X0)
  refine ay _ _ rfl ?_;clear an ay Ql;obtain rfl:k=left.length:=Ay;rw[dw Ay,cy,fF]at hr;subst hr;rw[List.take_of_length_le Ay,kB,sJ,fF];repeat(first|refine Xu ?_)
  dsimp only at az;have YL:=va u 0;have zM:E1 left.length acc:=λx hx=>by have:=pB u 0 x (by rw[CW];exact hx);omega
  rw[CW]at YL;clear hlen hk ht CW GH;generalize hz:ns left m.1 left.length acc (ax R false) u=z at az;refine Xk ?_;refine Xb ?_;refine aX (λz:Nat×List Int×List Int×List Bool×List Bool=>(⟨au [(0,.tree 1 (bW left)),(9,.tree 1 (ints m.1)),(10,.ref 0 1 0 left.length),(11,.ref 1 1 0 R),(12,.ref 2 1 z.2.1.length z.2.2.1.length)],
    [.arr 1 (b8 z.2.2.2.2),.arr 1 (b8 z.2.2.2.1),.arr 1 (ints (z.2.1++z.2.2.1))]⟩:St))
   (λy=>y.1<=left.length/\True/\E1 left.length y.2.2.1/\y.2.2.2.1.length=R/\y.2.2.2.2.length=left.length/\y.2.2.1.length+ig y.2.2.2.2<=y.1/\ns left m.1 y.1 y.2.2.1 y.2.2.2.1 y.2.2.2.2=z) (λy=>y.1) (left.length,[],acc,ax R false,u) ⟨aM _,trivial,zM,Dg,zc,aaa,hz⟩ ?_ ?_
  ·exact Xv X0
  rintro⟨f,pre,q,used,aB⟩⟨hf,YM,hq,CY,eO,hc,hr⟩Ql an ay;dsimp only at hf YM hq CY eO hc hr ⊢;have hlen:(pre++q).length=pre.length+q.length:=Dg;cases q with
  |nil =>
   have mC:(used,aB)=z:=by
    rw[<- hr];cases f<;>rfl
   ((try revert hK K);(repeat'(first|refine Va @hlen ?_|(refine V2 @hlen ?_ ?_<;>try with_reducible intro hb)|(refine Xi ?_ ?_<;>try intro ht)|refine VD ?_ ?_|exact Xx|fail))<;>try with_reducible intro K hK)
   subst mC;refine ay _ _ rfl ?_;clear an ay Ql;repeat(first|refine Xu ?_)
   refine cE (σ':=⟨au [(10,.tree 1 (b8 aB)),(11,.tree 1 (b8 used))],[]⟩) ?_ ?_
   ·rw[<- eO,<- CY];exact Xs true [] X0
   ((try revert hK K);(repeat'(first|refine Vd X0 (X2 (Q8 aB Ay) (Q8 used Ay)) ?_|(refine V2 X0 ?_ ?_<;>try with_reducible intro hb)|(refine Xi ?_ ?_<;>try intro ht)|refine VD ?_ ?_|exact Xx|fail))<;>try with_reducible intro K hK)
   rw[<- az];exact oT rfl
  |cons i q =>
   have hg:(ints (pre++i::q))[pre.length]?=some [aah i]:=by simp[ints]
   have hi:=hq i Dg;have hl:=hL.get i.toNat;have cS:q.length+1+ig aB<=f:=hc;obtain⟨f',rfl⟩:∃f',f=f'+1:=⟨f-1,Ay⟩;rw[ns]at hr;have Re:=BT GG (left.getD i.toNat []) q used aB hl.2 (λx hx=>hq x (by simp[hx])) CY eO;generalize iL:fK m.1 (left.getD i.toNat []) q used aB=zz at hr Re;obtain⟨pM,hb2,hb3,hb4⟩:=Re;generalize bl:left.getD i.toNat []=l at *;((try revert hK K);(repeat'(first|refine Va (X5 @hlen @hg @Nat.add_sub_cancel @jn.{0,0} @bl) ?_|(refine V2 (X5 @hlen @hg @Nat.add_sub_cancel @jn.{0,0} @bl) ?_ ?_<;>try with_reducible intro hb)|(refine Xi ?_ ?_<;>try intro ht)|refine VD ?_ ?_|exact Xx|fail))<;>try with_reducible intro K hK)
   refine aX (λy:Nat×Nat×List Int×List Int×List Bool×List Bool=>(⟨au [(0,.tree 1 (bW left)),(9,.tree 1 (ints m.1)),(10,.ref 0 1 0 left.length),(11,.ref 1 1 0 R),(12,.ref 2 1 y.2.1 y.2.2.2.1.length),(64,.tree 1 (ints l)),(65,aah l.length),(66,aah y.1)],
     [.arr 1 (b8 y.2.2.2.2.2),.arr 1 (b8 y.2.2.2.2.1),.arr 1 (ints (y.2.2.1++y.2.2.2.1))]⟩:St))
    (λy=>y.1<=l.length/\y.2.2.1.length=y.2.1/\True/\E1 left.length y.2.2.2.1/\y.2.2.2.2.1.length=R/\y.2.2.2.2.2.length=left.length/\y.2.2.2.1.length+ig y.2.2.2.2.2=q.length+ig aB/\fK m.1 (l.drop y.1) y.2.2.2.1 y.2.2.2.2.1 y.2.2.2.2.2=zz) (λy=>l.length-y.1)
    (0,pre.length+1,pre++[i],q,used,aB) ⟨aN _,Dg,trivial,λx hx=>hq x (by simp[hx]),CY,eO,rfl,iL⟩ ?_ ?_
   ·rw[show pre++i::q=(pre++[i])++q by simp];exact Xv X0
   rintro⟨k,off,CZ,q2,C0,tT⟩⟨hk,vK,GJ,pU,Aa,iM,q8,mF⟩cC aS bf;dsimp only at hk vK GJ pU Aa iM q8 mF ⊢;by_cases aQ:k<l.length
   ·have hx:=hl.2 _ (aG (d:=0) aQ);have hd:=cF l k 0 aQ;generalize bK:l.getD k 0=x at *;have yZ:=GG.get (x:=x.toNat) Ay;generalize fO:m.1.getD x.toNat 0=o at *;rw[hd,fK,fO]at mF;have vD:(ints (CZ++q2)).drop off=ints q2:=by simp[ints,<- vK]
    have YN:=λh1 h2=>wH tT o.toNat h1 h2;((try revert hK K);(repeat'(first|refine Va (X5 @bK @fO @aJ.{0} @vK @vD) ?_|(refine V2 (X5 @bK @fO @aJ.{0} @vK @vD) ?_ ?_<;>try with_reducible intro hb)|(refine Xi ?_ ?_<;>try intro ht)|refine VD ?_ ?_|exact Xx|fail))<;>try with_reducible intro K hK)
    ·rw[if_pos ⟨hb,ht⟩]at mF;have hc4:=YN Ay ht;refine aS _ (k+1,0,[],q2++[o],C0.set x.toNat true,tT.set o.toNat true) ⟨aaa,rfl,trivial,?_,by simpa using Aa,by simpa using iM,by simp only[aJ,List.length_singleton];omega,mF⟩ aaa ?_
     ·intro y hy;rcases List.mem_append.1 hy with hy|hy
      ·exact pU y hy
      ·simp only[List.mem_singleton]at hy;subst hy;omega
     ·dsimp only[dT];exact Xs false [0,1,4] X0
    ·rw[if_neg (by simp_all)]at mF;exact aS _ (k+1,off,CZ,q2,C0.set x.toNat true,tT) ⟨aaa,vK,GJ,pU,by simpa using Aa,iM,q8,mF⟩ aaa (Xv X0)
    ·rw[if_neg Ay]at mF;exact aS _ (k+1,off,CZ,q2,C0.set x.toNat true,tT) ⟨aaa,vK,GJ,pU,by simpa using Aa,iM,q8,mF⟩ aaa (Xv X0)
   ·((try revert hK K);(repeat'(first|refine Va X0 ?_|(refine V2 X0 ?_ ?_<;>try with_reducible intro hb)|(refine Xi ?_ ?_<;>try intro ht)|refine VD ?_ ?_|exact Xx|fail))<;>try with_reducible intro K hK)
    rw[dw Ay,fK]at mF;rw[<- mF]at hr;refine bf _ _ rfl ?_;clear aS bf cC;repeat(first|refine Xu ?_)
    refine an _ (f',CZ,q2,C0,tT) ⟨aaa,trivial,pU,Aa,iM,aaa,hr⟩ aaa ?_;rw[<- vK];exact Xv X0
def YO(left:List (List Int))(right:Int):ao Tryz.prog 36 [.tree 1 (bW left),aah right] [] (.bP [.tree 1 (ints (vb left right).1),.tree 1 (ints (vb left right).2.1),aah (vb left right).2.2]) []:=by
 generalize az:vb left right=res;unfold vb at az;have h1:=YI left right;generalize nJ:check left right=e at *;refine ao.aO 75 0 [.tmp 4,.tmp 5,.tmp 6] Tryz.func36 ?_;((try revert hK K);(repeat'(first|refine Vd X0 h1 ?_|(refine V2 X0 ?_ ?_<;>try with_reducible intro hb)|(refine Xi ?_ ?_<;>try intro ht)|refine VD ?_ ?_|exact Xx|fail))<;>try with_reducible intro K hK)
 ·rw[if_pos ht]at az;rw[<- az];exact eU [] true Ha trivial Ha Ha (pV a9.nil a9.nil (.pure rfl))
 obtain⟨hL,h0,h1⟩:=yY (nJ.trans ht);rw[if_neg Ay]at az;obtain⟨R,rfl⟩:∃R:Nat,right=R:=⟨right.toNat,Ay⟩;rw[dz]at hL az;have z9:=hL.1;have aE:=Q9 left R (-1) hL Ay;unfold wJ at az;generalize lV:size left R (-1)=n at *;((try revert hK K);(repeat'(first|refine Vd X0 aE ?_|(refine V2 X0 ?_ ?_<;>try with_reducible intro hb)|(refine Xi ?_ ?_<;>try intro ht)|refine VD ?_ ?_|exact Xx|fail))<;>try with_reducible intro K hK)
 generalize dH:mL left R n left.length 0 [] (ax R false)=rl at *;refine aX (λz:Nat×List Int×List Bool=>(⟨au [(0,.tree 1 (bW left)),(1,aah R),(8,.ref 1 1 0 z.2.1.length),(9,.lit (.slice none 0 0)),(10,aah n),(11,.ref 0 1 0 R),(12,aah z.1)],
   [.arr 1 (b8 z.2.2),.arr 1 (ints z.2.1)]⟩:St))
  (λz=>z.1<=left.length/\z.2.1.length<=z.1/\z.2.2.length=R/\mL left R n (left.length-z.1) z.1 z.2.1 z.2.2=rl) (λz=>left.length-z.1) (0,[],ax R false) ⟨aN _,aM _,Dg,dH⟩ ?_ ?_
 ·refine aC.trans (aC.nil 8 1 (by simp only[Kc,simprocAttr]) Ha) ?_;exact Xv X0
 rintro⟨i,g,aB⟩⟨hi,hg,eO,hr⟩Ql an ay;dsimp only at hi hg eO hr ⊢;by_cases hi':i<left.length
 ·have e:left.length-i=(left.length-(i+1))+1:=Ay;rw[e,mL]at hr;have hl:=hL.get i;have YP:=Q9 left R i hL Ay;generalize bl:left.getD i []=l at *;((try revert hK K);(repeat'(first|refine Vc @bl YP ?_|(refine V2 @bl ?_ ?_<;>try with_reducible intro hb)|(refine Xi ?_ ?_<;>try intro ht)|refine VD ?_ ?_|exact Xx|fail))<;>try with_reducible intro K hK)
  ·rw[if_pos ht]at hr;generalize YQ:oF l aB=mk at *;refine aX (λz:Nat×List Bool=>(⟨au [(0,.tree 1 (bW left)),(1,aah R),(8,.ref 1 1 0 (g.length+1)),(9,.lit (.slice none 0 0)),(10,aah n),(11,.ref 0 1 0 R),(12,aah i),(13,aah z.1)],
     [.arr 1 (b8 z.2),.arr 1 (ints (g++[(i:Int)]))]⟩:St))
    (λz=>z.1<=l.length/\z.2.length=R/\oF (l.drop z.1) z.2=mk) (λz=>l.length-z.1) (0,aB) ⟨aN _,eO,YQ⟩ ?_ ?_
   ·exact Xs false [0,3] X0
   rintro⟨k,tT⟩⟨hk,GK,Ab⟩cC aS bf;dsimp only at hk GK Ab ⊢;by_cases aQ:k<l.length
   ·have hx:=hl.2 _ (aG (d:=0) aQ);have hd:=cF l k 0 aQ;generalize bK:l.getD k 0=x at *;rw[hd,oF]at Ab;((try revert hK K);(repeat'(first|refine Va (X2 @bl @bK) ?_|(refine V2 (X2 @bl @bK) ?_ ?_<;>try with_reducible intro hb)|(refine Xi ?_ ?_<;>try intro ht)|refine VD ?_ ?_|exact Xx|fail))<;>try with_reducible intro K hK)
    exact aS _ (k+1,tT.set x.toNat true) ⟨aaa,by simpa using GK,Ab⟩ aaa (Xv X0)
   ·((try revert hK K);(repeat'(first|refine Va @bl ?_|(refine V2 @bl ?_ ?_<;>try with_reducible intro hb)|(refine Xi ?_ ?_<;>try intro ht)|refine VD ?_ ?_|exact Xx|fail))<;>try with_reducible intro K hK)
    rw[dw Ay,oF]at Ab;refine bf _ _ rfl ?_;clear aS bf cC;repeat(first|refine Xu ?_)
    ((try revert hK K);(repeat'(first|refine Va X0 ?_|(refine V2 X0 ?_ ?_<;>try with_reducible intro hb)|(refine Xi ?_ ?_<;>try intro ht)|refine VD ?_ ?_|exact Xx|fail))<;>try with_reducible intro K hK)
    rw[<- Ab]at hr;exact an _ (i+1,g++[(i:Int)],tT) ⟨aaa,aab,GK,hr⟩ aaa (Xv X0)
  ·rw[if_neg Ay]at hr;exact an _ (i+1,g,aB) ⟨aaa,aaa,eO,hr⟩ aaa (Xv X0)
 ·((try revert hK K);(repeat'(first|refine Va X0 ?_|(refine V2 X0 ?_ ?_<;>try with_reducible intro hb)|(refine Xi ?_ ?_<;>try intro ht)|refine VD ?_ ?_|exact Xx|fail))<;>try with_reducible intro K hK)
  rw[show left.length-i=0 by omega,mL]at hr;subst hr;dsimp only at az;refine ay _ _ rfl ?_;clear an ay Ql;repeat(first|refine Xu ?_)
  ((try revert hK K);(repeat'(first|refine Va X0 ?_|(refine V2 X0 ?_ ?_<;>try with_reducible intro hb)|(refine Xi ?_ ?_<;>try intro ht)|refine VD ?_ ?_|exact Xx|fail))<;>try with_reducible intro K hK)
  generalize lY:cy aB 0=pl at *;refine aX (λz:Nat×List Int=>(⟨au [(1,aah R),(8,.ref 1 1 0 g.length),(9,.ref 2 1 0 z.2.length),(11,.ref 0 1 0 R),(14,aah z.1)],
    [.arr 1 (b8 aB),.arr 1 (ints g),.arr 1 (ints z.2)]⟩:St))
   (λz=>z.1<=R/\z.2.length<=z.1/\z.2++cy (aB.drop z.1) z.1=pl) (λz=>R-z.1) (0,[]) ⟨aN _,aM _,lY⟩ ?_ ?_
  ·refine aC.trans (aC.nil 9 1 (by simp only[Kc,simprocAttr]) Ha) ?_;exact Xv X0
  rintro⟨k,acc⟩⟨hk,ha,hr⟩Ql an ay;dsimp only at hk ha hr ⊢;((try revert hK K);(repeat'(first|refine Va X0 ?_|(refine V2 X0 ?_ ?_<;>try with_reducible intro hb)|(refine Xi ?_ ?_<;>try intro ht)|refine VD ?_ ?_|exact Xx|fail))<;>try with_reducible intro K hK)
  ·rw[cF _ _ false Ay,cy,if_pos (by assumption)]at hr;refine an _ (k+1,acc++[(k:Int)]) ⟨aaa,aab,by simpa using hr⟩ aaa ?_;exact Xs false [0,1,4] X0
  ·rw[cF _ _ false Ay,cy,if_neg (by simp_all)]at hr;exact an _ (k+1,acc) ⟨aaa,aaa,hr⟩ aaa (Xv X0)
  ·rw[dw Ay,cy,fF]at hr;subst hr;refine ay _ _ rfl ?_;clear an ay Ql;repeat(first|refine Xu ?_)
   ((try revert hK K);(repeat'(first|refine Vb X0 ?_|(refine V2 X0 ?_ ?_<;>try with_reducible intro hb)|(refine Xi ?_ ?_<;>try intro ht)|refine VD ?_ ?_|exact Xx|fail))<;>try with_reducible intro K hK)
   rw[<- az];refine eU [] true Ha trivial Ha Ha (pV ?_ ?_ (.pure rfl))
   ·first|exact .pure rfl|exact .eq rfl|exact .fz rfl (by simp only[Bc,Rc])
   ·first|exact .pure rfl|exact .eq rfl|exact .fz rfl (by simp only[Bc,Rc])
end T

