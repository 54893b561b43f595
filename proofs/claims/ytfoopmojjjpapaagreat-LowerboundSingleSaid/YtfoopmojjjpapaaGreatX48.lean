import Derived.Test.YtfoopmojjjpapaaGreatX45
set_option linter.all false
set_option maxHeartbeats 0
set_option maxRecDepth 20000
open List renaming replicate→aK,length_replicate→lE
open Nat renaming sub_self→jz,zero_le→aS
open Int renaming toNat_natCast→c7
open Go Go.Am Go.Proofs
namespace T
def Px(up:dH)(i:Nat)(a b:Int):(rowsOf bd up).set i [Qf a,Qf b]=rowsOf bd (up.set i (a,b)):=by simp[rowsOf,bd,List.map_set]
def an0(n:Nat)(a b:Int):aK n [AV.lit (.int .i64 a),Qf b]=rowsOf bd (aK n (a,b)):=by simp[rowsOf,bd]
def uV(n i:Nat):dH:=aK i (-1,0)++aK (n-i) (0,0)
def an1{n i:Nat}(h:i<=n):(uV n i).length=n:=by simp[uV];omega
def an2{n i:Nat}(h:i<n):(uV n i).getD i default=(0,0):=by
 unfold uV;rw[List.getD_eq_getElem?_getD,List.getElem?_append_right GM,lE,jz,List.getElem?_replicate_of_lt GK];rfl
def an3{n i:Nat}(h:i<n):(uV n i).set i (-1,0)=uV n (i+1):=by
 unfold uV;rw[List.set_append_right _ _ GM,lE,jz,show n-i=(n-(i+1))+1 by omega,List.replicate_succ,List.set_cons_zero,List.replicate_succ' (n:=i),List.append_assoc];rfl
def anM(m:ah)(P:List Nd)(hm:VM m)(hP:PB P):Holds Tryz.prog 52 [.agg (an m),.agg (aJ P)] [] (.bD [.tree 2 (rowsOf bd ((nJ m P).getD [])),.lit (.bool (nJ m P).isSome)]) []:=by
 have xp:=hP.C6;have oT:=hm.cls;generalize au:nJ m P=res;refine Holds.aM 187 0 [.tmp 4,.tmp 5] Tryz.func52 ?_;by_cases aP:1<=P.length/\P.length<=20000;rotate_left
 ·have hr:res=none:=by rw[<- au];unfold nJ;rw[if_neg aP]
  subst hr;((repeat'(first|refine Vb @aJ.eq_1 ?_|(refine V2 @aJ.eq_1 ?_ ?_<;>try with_reducible intro hb)|(refine Xi ?_ ?_<;>try intro ht)|exact Xx|fail)))
  all_goals exact iD [] true GS trivial GS GS (aZ.zg aZ.nil (.pure rfl))
 obtain⟨jr,kC⟩:=aP;have hI0:rowsOf bd (uV P.length 0)=aK P.length [AV.lit (.int .i64 0),Qf 0]:=by rw[an0];rfl
 ((repeat'(first|refine Va @aJ.eq_1 ?_|(refine V2 @aJ.eq_1 ?_ ?_<;>try with_reducible intro hb)|(refine Xi ?_ ?_<;>try intro ht)|exact Xx|fail)))
 refine aR (λi:Nat=>(⟨ao [(2,.ptr 0 0 0),(3,.ptr 1 0 0),(6,Qf P.length),(7,.ref 2 2 0 P.length),(8,Qf i)],[.var (an m),.var (aJ P),.arr 2 (rowsOf bd (uV P.length i))]⟩:St))
  (λi=>i<=P.length) (λi=>P.length-i) 0 (aS _) (by show aH _ _ ⟨_,[_,_,.arr 2 (rowsOf bd (uV P.length 0))]⟩;rw[hI0];exact Xv @aJ.eq_1) ?_
 ·rintro i hi Ql ak aq;by_cases ar:i<P.length
  ·have jU:=an1 (Nat.le_of_lt ar);have hug:=an2 ar;((repeat'(first|refine Va (X5 @jU @hug @bd.eq_1 @Px (an3 ar)) ?_|(refine Xi ?_ ?_<;>try intro ht)|exact Xx|fail)))
   exact ak _ (i+1) GK GK (Xv @aJ.eq_1)
  ·obtain rfl:i=P.length:=GK;have hu0:uV P.length P.length=B7 P.length:=by simp[uV,B7]
   rw[hu0];((repeat'(first|refine Va X0 ?_|(refine Xi ?_ ?_<;>try intro ht)|exact Xx|fail)))
   refine aq _ _ rfl ?_;clear ak aq Ql;repeat(refine Xu ?_)
   refine Va X0 ?_;refine aR (λz:Nat×dH=>(⟨ao [(2,.ptr 0 0 0),(3,.ptr 1 0 0),(6,Qf P.length),(7,.ref 2 2 0 P.length),(9,Qf z.1)],[.var (an m),.var (aJ P),.arr 2 (rowsOf bd z.2)]⟩:St))
    (λz=>z.1<=P.length/\mA m P z.1=some z.2) (λz=>P.length-z.1) (0,B7 P.length) ⟨aS _,rfl⟩ (Xv @aJ.eq_1) ?_
   rintro⟨i,u⟩⟨hi,AS⟩Ql ak aq;dsimp only at hi AS ⊢;have jn:=Ao i u hi AS;have jU:=jn.len;by_cases ar:i<P.length;rotate_left
   ·obtain rfl:i=P.length:=GK;have hr:res=some u:=by rw[<- au];unfold nJ;rw[if_pos ⟨jr,kC⟩];exact AS
    ((repeat'(first|refine Va X0 ?_|(refine Xi ?_ ?_<;>try intro ht)|exact Xx|fail)))
    refine aq _ _ rfl ?_;clear ak aq Ql;repeat(refine Xu ?_)
    subst hr;refine Vb X0 ?_;refine M' [] true trivial (aZ.zg ?_ (.pure rfl));exact .fz rfl (by rw[cH];exact jU.symm)
   have yX:o5 m P i u=none->res=none:=λh=>by rw[<- au];exact an7 ar AS h
   have bG:mA m P (i+1)=o5 m P i u:=by show(mA m P i).bind _=_;rw[AS];rfl
   have bR:=aF (l:=P) (i:=i) (d:=default) ar;have b1:=hP.kids _ bR;have b2:=hP.c9 _ bR;have b3:=hP.a7 _ bR;have b4:=hP.cells _ bR;by_cases tF:0<i/\(ew u i).1<0
   ·have hr:=yX (by unfold o5;rw[if_pos tF]);unfold ew at tF;generalize qQ:u.getD i default=ua at *;obtain⟨ua,ub⟩:=ua;dsimp only at tF;((repeat'(first|refine Va (X5 @aJ.eq_1 @jU @qQ @bd.eq_1 @aB.eq_1) ?_|(refine V2 (X5 @aJ.eq_1 @jU @qQ @bd.eq_1 @aB.eq_1) ?_ ?_<;>try with_reducible intro hb)|(refine Xi ?_ ?_<;>try intro ht)|exact Xx|fail)))
    all_goals
     repeat(refine Xu ?_)
     subst hr;refine Vb X0 ?_;exact iD [] true GS trivial GS GS (aZ.zg aZ.nil (.pure rfl))
   by_cases fI:mg m (nd P i)=true;rotate_left
   ·have hr:=yX (by unfold o5;rw[if_neg tF,if_pos (Bool.eq_false_iff.2 fI)]);unfold nd at fI;unfold ew at tF;generalize qQ:u.getD i default=ua at *;obtain⟨ua,ub⟩:=ua;generalize bZ:P.getD i default=x at *;obtain⟨c,kids,c9,a7,cells⟩:=x;dsimp only at b1 b2 b3 b4 tF;generalize nw:m.cls.getD c.toNat default=wl at *;have zY:0<=c/\c<m.cls.length->wl.length<=24:=λh=>by rw[<- nw];exact hm.opt _ (aF GK)
    unfold mg at fI;dsimp only at fI;rw[nw]at fI;subst hr;by_cases fj:c = -1
    ·rw[if_pos fj,decide_eq_true_eq]at fI;((repeat'(first|refine Va (X5 @aJ.eq_1 @jU @qQ @bd.eq_1 (X2 @bZ @aB.eq_1)) ?_|(refine V2 (X5 @aJ.eq_1 @jU @qQ @bd.eq_1 (X2 @bZ @aB.eq_1)) ?_ ?_<;>try with_reducible intro hb)|(refine Xi ?_ ?_<;>try intro ht)|exact Xx|fail)))
     all_goals
      repeat(refine Xu ?_)
      ((repeat'(first|refine Vb X0 ?_|fail)))
      exact iD [] true GS trivial GS GS (aZ.zg aZ.nil (.pure rfl))
    ·rw[if_neg fj,decide_eq_true_eq]at fI;by_cases ax:0<=c/\c<m.cls.length
     ·have zY:=zY ax;((repeat'(first|refine Va (X5 @aJ.eq_1 @jU @qQ @bd.eq_1 (X4 @bZ @aB.eq_1 @nw @aW.eq_1)) ?_|(refine V2 (X5 @aJ.eq_1 @jU @qQ @bd.eq_1 (X4 @bZ @aB.eq_1 @nw @aW.eq_1)) ?_ ?_<;>try with_reducible intro hb)|(refine Xi ?_ ?_<;>try intro ht)|exact Xx|fail)))
      all_goals
       repeat(refine Xu ?_)
       ((repeat'(first|refine Vb X0 ?_|fail)))
       exact iD [] true GS trivial GS GS (aZ.zg aZ.nil (.pure rfl))
     ·((repeat'(first|refine Va (X5 @aJ.eq_1 @jU @qQ @bd.eq_1 (X2 @bZ @aB.eq_1)) ?_|(refine V2 (X5 @aJ.eq_1 @jU @qQ @bd.eq_1 (X2 @bZ @aB.eq_1)) ?_ ?_<;>try with_reducible intro hb)|(refine Xi ?_ ?_<;>try intro ht)|exact Xx|fail)))
      all_goals
       repeat(refine Xu ?_)
       ((repeat'(first|refine Vb X0 ?_|fail)))
       exact iD [] true GS trivial GS GS (aZ.zg aZ.nil (.pure rfl))
   have hnu:o5 m P i u=if(nd P i).cls = -1 then some u else if qR P (nd P i).cls (lA u i)=true then none else oE P.length i (nd P i).kids u (nd P i).kids.length:=by
    unfold o5;rw[if_neg tF,if_neg (by rw[fI];simp)]
   have Fl:=λo v=>UI.kids ar jn o v;rw[hnu]at yX bG;clear hnu;unfold nd at fI yX bG Fl;unfold ew at tF;generalize qQ:u.getD i default=ua at *;obtain⟨ua,ub⟩:=ua;generalize bZ:P.getD i default=x at *;obtain⟨c,kids,c9,a7,cells⟩:=x;have Fk:=Il hm fI;dsimp only at b1 b2 b3 b4 tF Fk yX bG Fl;generalize nw:m.cls.getD c.toNat default=wl at *;unfold mg at fI;dsimp only at fI;rw[nw]at fI;by_cases fj:c = -1
   ·rw[if_pos fj,decide_eq_true_eq]at fI;rw[if_pos fj]at bG;((repeat'(first|refine Va (X5 @aJ.eq_1 @jU @qQ @bd.eq_1 (X2 @bZ @aB.eq_1)) ?_|(refine V2 (X5 @aJ.eq_1 @jU @qQ @bd.eq_1 (X2 @bZ @aB.eq_1)) ?_ ?_<;>try with_reducible intro hb)|(refine Xi ?_ ?_<;>try intro ht)|exact Xx|fail)))
    all_goals exact ak _ (i+1,u) ⟨PW,bG⟩ PW (Xs false [0,1,2] @aJ.eq_1)
   rw[if_neg fj,decide_eq_true_eq]at fI;rw[if_neg fj]at bG yX;have zY:wl.length<=24:=by rw[<- nw];exact hm.opt _ (aF GK)
   repeat'(first|((fail_if_success (first|refine eM 13 ?_|refine eN 13 ?_));refine Xr (X5 @aJ.eq_1 @jU @qQ @bd.eq_1 (X4 @bZ @aB.eq_1 @nw @aW.eq_1)) ?_;intro K hK)|(refine hK _ ?_;clear hK K)|(refine Xi ?_ ?_<;>try intro ht)|refine Xy ?_|refine Xd ?_ ?_|exact Xx|fail)
   (refine aaF ?_);intro Q0 gv ns
   refine ph ⟨ao [(2,.ptr 0 0 0),(3,.ptr 1 0 0),(6,Qf P.length),(7,.ref 2 2 0 P.length),(9,Qf i),(10,.ptr 3 0 0)],[.var (an m),.var (aJ P),.arr 2 (rowsOf bd u),.var (aB ⟨c,kids,c9,a7,cells⟩)]⟩ gv ?_ (λkey=>?_);rotate_left
   ·(try clear gv)
    ((repeat'(first|refine Va (X4 @aJ.eq_1 @jU @qQ @bd.eq_1) ?_|(refine V2 (X4 @aJ.eq_1 @jU @qQ @bd.eq_1) ?_ ?_<;>try with_reducible intro hb)|(refine Xi ?_ ?_<;>try intro ht)|exact Xx|fail)))
    all_goals
     refine key _ ?_;exact Xv (X2 @aJ.eq_1 @aB.eq_1)
   (try clear gv)
   try(try clear Q0)
   ((repeat'(first|refine Va (X5 @aJ.eq_1 @jU @aB.eq_1 @nw @aW.eq_1) ?_|(refine V2 (X5 @aJ.eq_1 @jU @aB.eq_1 @nw @aW.eq_1) ?_ ?_<;>try with_reducible intro hb)|(refine Xi ?_ ?_<;>try intro ht)|exact Xx|fail)))
   refine aR (λk:Nat=>(⟨ao [(2,.ptr 0 0 0),(3,.ptr 1 0 0),(6,Qf P.length),(7,.ref 2 2 0 P.length),(9,Qf i),(10,.ptr 3 0 0),(11,Qf k)],[.var (an m),.var (aJ P),.arr 2 (rowsOf bd u),.var (aB ⟨c,kids,c9,a7,cells⟩)]⟩:St))
    (λk=>k<P.length/\qR P c (lA u i)=qR P c (lA u k)) (λk=>k) i ⟨ar,rfl⟩ (Xv (X2 @aJ.eq_1 @aB.eq_1)) ?_
   rintro k⟨hk,oO⟩cJ bj br;rw[DK jn hk]at oO;have aX:=jn.lt hk;unfold ew at oO aX;generalize yW:u.getD k default=uk at *;obtain⟨p,q⟩:=uk;dsimp only at oO aX;by_cases h0:0<=p
   ·have aX:=aX h0;rw[if_pos h0]at oO;obtain⟨p,rfl⟩:∃pn:Nat,p=pn:=⟨p.toNat,GK⟩;rw[c7]at aX;have oO:qR P c (lA u i)=((nd P (p:Int).toNat).cls==c||qR P c (lA u (p:Int).toNat)):=oO;rw[c7]at oO;unfold nd at oO;by_cases vA:(P.getD p default).cls=c
    ·have hr:=yX (by rw[oO,vA];simp);subst hr;generalize pV:P.getD p default=y at *;obtain⟨yc,y1,y2,y3,y4⟩:=y;dsimp only at vA;subst vA;((repeat'(first|refine Va (X5 @aJ.eq_1 @jU @yW @bd.eq_1 (X2 @aB.eq_1 @pV)) ?_|(refine Xi ?_ ?_<;>try intro ht)|exact Xx|fail)))
     all_goals
      repeat(refine Xu ?_)
      refine Vb X0 ?_;exact iD [] true GS trivial GS GS (aZ.zg aZ.nil (.pure rfl))
    ·have BA:qR P c (lA u i)=qR P c (lA u p):=by rw[oO,beq_false_of_ne vA,Bool.false_or]
     generalize pV:P.getD p default=y at *;obtain⟨yc,y1,y2,y3,y4⟩:=y;dsimp only at vA;((repeat'(first|refine Va (X5 @aJ.eq_1 @jU @yW @bd.eq_1 (X2 @aB.eq_1 @pV)) ?_|(refine Xi ?_ ?_<;>try intro ht)|exact Xx|fail)))
     exact bj _ p ⟨GK,BA⟩ GK (Xv (X2 @aJ.eq_1 @aB.eq_1))
   rw[if_neg h0]at oO;have oO:qR P c (lA u i)=false:=oO;rw[if_neg (by rw[oO];simp)]at bG yX;((repeat'(first|refine Va (X3 @jU @yW @bd.eq_1) ?_|(refine Xi ?_ ?_<;>try intro ht)|exact Xx|fail)))
   refine br _ _ rfl ?_;clear bj br cJ;repeat(refine Xu ?_)
   refine Va (X2 @aJ.eq_1 @aB.eq_1) ?_;refine aR (λz:Nat×dH=>(⟨ao [(2,.ptr 0 0 0),(3,.ptr 1 0 0),(6,Qf P.length),(7,.ref 2 2 0 P.length),(9,Qf i),(10,.ptr 3 0 0),(12,Qf z.1)],[.var (an m),.var (aJ P),.arr 2 (rowsOf bd z.2),.var (aB ⟨c,kids,c9,a7,cells⟩)]⟩:St))
    (λz=>z.1<=kids.length/\oE P.length i kids u z.1=some z.2) (λz=>kids.length-z.1) (0,u) ⟨aS _,rfl⟩ (Xv (X2 @aJ.eq_1 @aB.eq_1)) ?_
   rintro⟨o,v⟩⟨ho,hv⟩cJ bj br;dsimp only at ho hv ⊢;have hvi:=Fl o v ho hv;have vX:=hvi.len;by_cases cm:o<kids.length
   ·have tv:=aec hv cm;have yC:=aed hv;unfold ew at tv yC;generalize iK:kids.getD o 0=k at *;generalize J6:v.getD k.toNat default=vk at *;obtain⟨va,vb⟩:=vk;dsimp only at tv yC;by_cases ax:ln P.length i k=true/\va<0
    ·have yC:=yC ax;unfold ln at ax;rw[decide_eq_true_eq]at ax;((repeat'(first|refine Va (X5 @aJ.eq_1 @aB.eq_1 @iK @vX (X3 @J6 @bd.eq_1 @Px)) ?_|(refine V2 (X5 @aJ.eq_1 @aB.eq_1 @iK @vX (X3 @J6 @bd.eq_1 @Px)) ?_ ?_<;>try with_reducible intro hb)|(refine Xi ?_ ?_<;>try intro ht)|exact Xx|fail)))
     exact bj _ (o+1,v.set k.toNat ((i:Int),(o:Int))) ⟨PW,yC⟩ PW (Xv (X2 @aJ.eq_1 @aB.eq_1))
    ·have hr:=yX (tv ax);unfold ln at ax;rw[decide_eq_true_eq]at ax;subst hr;((repeat'(first|refine Va (X5 @aJ.eq_1 @aB.eq_1 @iK @vX (X2 @J6 @bd.eq_1)) ?_|(refine V2 (X5 @aJ.eq_1 @aB.eq_1 @iK @vX (X2 @J6 @bd.eq_1)) ?_ ?_<;>try with_reducible intro hb)|(refine Xi ?_ ?_<;>try intro ht)|exact Xx|fail)))
     all_goals
      repeat(refine Xu ?_)
      ((repeat'(first|refine Vb X0 ?_|fail)))
      exact iD [] true GS trivial GS GS (aZ.zg aZ.nil (.pure rfl))
   ·obtain rfl:o=kids.length:=GK;rw[hv]at bG;((repeat'(first|refine Va (X2 @aJ.eq_1 @aB.eq_1) ?_|(refine V2 (X2 @aJ.eq_1 @aB.eq_1) ?_ ?_<;>try with_reducible intro hb)|(refine Xi ?_ ?_<;>try intro ht)|exact Xx|fail)))
    refine br _ _ rfl ?_;clear bj br cJ;refine Va X0 ?_;all_goals exact ak _ (i+1,v) ⟨PW,bG⟩ PW (Xs false [0,1,2] @aJ.eq_1)
end T

