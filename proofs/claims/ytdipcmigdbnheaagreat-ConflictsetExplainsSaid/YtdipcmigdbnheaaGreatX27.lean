import Derived.Test.YtdipcmigdbnheaaGreatX22
set_option linter.all false
set_option maxHeartbeats 0
set_option maxRecDepth 20000
open List renaming replicate→bH,length_replicate→qg
open Nat renaming sub_self→hJ,zero_le→aI
open Int renaming toNat_natCast→fq
open Go Go.Am Go.Proofs
namespace T
def ON(up:ei)(i:Nat)(a b:Int):(rowsOf aL up).set i [aaC a,aaC b]=rowsOf aL (up.set i (a,b)):=by simp[rowsOf,aL,List.map_set]
def alz(n:Nat)(a b:Int):bH n [AV.lit (.int .i64 a),aaC b]=rowsOf aL (bH n (a,b)):=by simp[rowsOf,aL]
def uu(n i:Nat):ei:=bH i (-1,0)++bH (n-i) (0,0)
def alA{n i:Nat}(h:i<=n):(uu n i).length=n:=by simp[uu];omega
def alB{n i:Nat}(h:i<n):(uu n i).getD i default=(0,0):=by
 unfold uu;rw[List.getD_eq_getElem?_getD,List.getElem?_append_right GF,qg,hJ,List.getElem?_replicate_of_lt GC];rfl
def alC{n i:Nat}(h:i<n):(uu n i).set i (-1,0)=uu n (i+1):=by
 unfold uu;rw[List.set_append_right _ _ GF,qg,hJ,show n-i=(n-(i+1))+1 by omega,List.replicate_succ,List.set_cons_zero,List.replicate_succ' (n:=i),List.append_assoc];rfl
def ali(m:aj)(P:List Nd)(hm:VM m)(hP:PB P):ao Tryz.prog 94 [.agg (aq m),.agg (aT P)] [] (.bJ [.tree 2 (rowsOf aL ((oa m P).getD [])),.lit (.bool (oa m P).isSome)]) []:=by
 have rV:=hP.qJ;have nu:=hm.cls;generalize ak:oa m P=res;refine ao.aD 187 0 [.tmp 4,.tmp 5] Tryz.func94 ?_;by_cases bx:1<=P.length/\P.length<=20000;rotate_left
 ·have hr:res=none:=by rw[<- ak];unfold oa;rw[if_neg bx]
  subst hr;((repeat'(first|refine Vb @aT.eq_1 ?_|(refine V2 @aT.eq_1 ?_ ?_<;>try with_reducible intro hb)|(refine Xi ?_ ?_<;>try intro ht)|exact Xx|fail)))
  all_goals exact cZ [] true Px trivial Px Px (aJ.lq aJ.nil (.pure rfl))
 obtain⟨jS,jC⟩:=bx;have hI0:rowsOf aL (uu P.length 0)=bH P.length [AV.lit (.int .i64 0),aaC 0]:=by rw[alz];rfl
 ((repeat'(first|refine Va @aT.eq_1 ?_|(refine V2 @aT.eq_1 ?_ ?_<;>try with_reducible intro hb)|(refine Xi ?_ ?_<;>try intro ht)|exact Xx|fail)))
 refine aM (λi:Nat=>(⟨aw [(2,.ptr 0 0 0),(3,.ptr 1 0 0),(6,aaC P.length),(7,.ref 2 2 0 P.length),(8,aaC i)],[.var (aq m),.var (aT P),.arr 2 (rowsOf aL (uu P.length i))]⟩:St))
  (λi=>i<=P.length) (λi=>P.length-i) 0 (aI _) (by show aF _ _ ⟨_,[_,_,.arr 2 (rowsOf aL (uu P.length 0))]⟩;rw[hI0];exact Xv @aT.eq_1) ?_
 ·rintro i hi Ql an ar;by_cases hi':i<P.length
  ·have km:=alA (Nat.le_of_lt hi');have hug:=alB hi';((repeat'(first|refine Va (X5 @km @hug @aL.eq_1 @ON (alC hi')) ?_|(refine Xi ?_ ?_<;>try intro ht)|exact Xx|fail)))
   exact an _ (i+1) GC GC (Xv @aT.eq_1)
  ·obtain rfl:i=P.length:=GC;have hu0:uu P.length P.length=Bu P.length:=by simp[uu,Bu]
   rw[hu0];((repeat'(first|refine Va X0 ?_|(refine Xi ?_ ?_<;>try intro ht)|exact Xx|fail)))
   refine ar _ _ rfl ?_;clear an ar Ql;repeat(refine Xu ?_)
   refine Va X0 ?_;refine aM (λz:Nat×ei=>(⟨aw [(2,.ptr 0 0 0),(3,.ptr 1 0 0),(6,aaC P.length),(7,.ref 2 2 0 P.length),(9,aaC z.1)],[.var (aq m),.var (aT P),.arr 2 (rowsOf aL z.2)]⟩:St))
    (λz=>z.1<=P.length/\m7 m P z.1=some z.2) (λz=>P.length-z.1) (0,Bu P.length) ⟨aI _,rfl⟩ (Xv @aT.eq_1) ?_
   rintro⟨i,u⟩⟨hi,As⟩Ql an ar;dsimp only at hi As ⊢;have lF:=zS i u hi As;have km:=lF.len;by_cases hi':i<P.length;rotate_left
   ·obtain rfl:i=P.length:=GC;have hr:res=some u:=by rw[<- ak];unfold oa;rw[if_pos ⟨jS,jC⟩];exact As
    ((repeat'(first|refine Va X0 ?_|(refine Xi ?_ ?_<;>try intro ht)|exact Xx|fail)))
    refine ar _ _ rfl ?_;clear an ar Ql;repeat(refine Xu ?_)
    subst hr;refine Vb X0 ?_;refine LK [] true trivial (aJ.lq ?_ (.pure rfl));exact .fz rfl (by rw[b8];exact km.symm)
   have r9:pA m P i u=none->res=none:=λh=>by rw[<- ak];exact ak0 hi' As h
   have bP:m7 m P (i+1)=pA m P i u:=by show(m7 m P i).bind _=_;rw[As];rfl
   have bO:=ay (l:=P) (i:=i) (d:=default) hi';have b1:=hP.kids _ bO;have b2:=hP.cV _ bO;have b3:=hP.a9 _ bO;have b4:=hP.cells _ bO;by_cases yy:0<i/\(fe u i).1<0
   ·have hr:=r9 (by unfold pA;rw[if_pos yy]);unfold fe at yy;generalize rn:u.getD i default=ua at *;obtain⟨ua,ub⟩:=ua;dsimp only at yy;((repeat'(first|refine Va (X5 @aT.eq_1 @km @rn @aL.eq_1 @aG.eq_1) ?_|(refine V2 (X5 @aT.eq_1 @km @rn @aL.eq_1 @aG.eq_1) ?_ ?_<;>try with_reducible intro hb)|(refine Xi ?_ ?_<;>try intro ht)|exact Xx|fail)))
    all_goals
     repeat(refine Xu ?_)
     subst hr;refine Vb X0 ?_;exact cZ [] true Px trivial Px Px (aJ.lq aJ.nil (.pure rfl))
   by_cases gA:m4 m (nd P i)=true;rotate_left
   ·have hr:=r9 (by unfold pA;rw[if_neg yy,if_pos (Bool.eq_false_iff.2 gA)]);unfold nd at gA;unfold fe at yy;generalize rn:u.getD i default=ua at *;obtain⟨ua,ub⟩:=ua;generalize aS:P.getD i default=x at *;obtain⟨c,kids,cV,a9,cells⟩:=x;dsimp only at b1 b2 b3 b4 yy;generalize oS:m.cls.getD c.toNat default=wl at *;have xV:0<=c/\c<m.cls.length->wl.length<=24:=λh=>by rw[<- oS];exact hm.opt _ (ay GC)
    unfold m4 at gA;dsimp only at gA;rw[oS]at gA;subst hr;by_cases e9:c = -1
    ·rw[if_pos e9,decide_eq_true_eq]at gA;((repeat'(first|refine Va (X5 @aT.eq_1 @km @rn @aL.eq_1 (X2 @aS @aG.eq_1)) ?_|(refine V2 (X5 @aT.eq_1 @km @rn @aL.eq_1 (X2 @aS @aG.eq_1)) ?_ ?_<;>try with_reducible intro hb)|(refine Xi ?_ ?_<;>try intro ht)|exact Xx|fail)))
     all_goals
      repeat(refine Xu ?_)
      ((repeat'(first|refine Vb X0 ?_|fail)))
      exact cZ [] true Px trivial Px Px (aJ.lq aJ.nil (.pure rfl))
    ·rw[if_neg e9,decide_eq_true_eq]at gA;by_cases ax:0<=c/\c<m.cls.length
     ·have xV:=xV ax;((repeat'(first|refine Va (X5 @aT.eq_1 @km @rn @aL.eq_1 (X4 @aS @aG.eq_1 @oS @bu.eq_1)) ?_|(refine V2 (X5 @aT.eq_1 @km @rn @aL.eq_1 (X4 @aS @aG.eq_1 @oS @bu.eq_1)) ?_ ?_<;>try with_reducible intro hb)|(refine Xi ?_ ?_<;>try intro ht)|exact Xx|fail)))
      all_goals
       repeat(refine Xu ?_)
       ((repeat'(first|refine Vb X0 ?_|fail)))
       exact cZ [] true Px trivial Px Px (aJ.lq aJ.nil (.pure rfl))
     ·((repeat'(first|refine Va (X5 @aT.eq_1 @km @rn @aL.eq_1 (X2 @aS @aG.eq_1)) ?_|(refine V2 (X5 @aT.eq_1 @km @rn @aL.eq_1 (X2 @aS @aG.eq_1)) ?_ ?_<;>try with_reducible intro hb)|(refine Xi ?_ ?_<;>try intro ht)|exact Xx|fail)))
      all_goals
       repeat(refine Xu ?_)
       ((repeat'(first|refine Vb X0 ?_|fail)))
       exact cZ [] true Px trivial Px Px (aJ.lq aJ.nil (.pure rfl))
   have hnu:pA m P i u=if(nd P i).cls = -1 then some u else if ri P (nd P i).cls (l6 u i)=true then none else oT P.length i (nd P i).kids u (nd P i).kids.length:=by
    unfold pA;rw[if_neg yy,if_neg (by rw[gA];simp)]
   have Fq:=λo v=>UI.kids hi' lF o v;rw[hnu]at r9 bP;clear hnu;unfold nd at gA r9 bP Fq;unfold fe at yy;generalize rn:u.getD i default=ua at *;obtain⟨ua,ub⟩:=ua;generalize aS:P.getD i default=x at *;obtain⟨c,kids,cV,a9,cells⟩:=x;have Fp:=Fm hm gA;dsimp only at b1 b2 b3 b4 yy Fp r9 bP Fq;generalize oS:m.cls.getD c.toNat default=wl at *;unfold m4 at gA;dsimp only at gA;rw[oS]at gA;by_cases e9:c = -1
   ·rw[if_pos e9,decide_eq_true_eq]at gA;rw[if_pos e9]at bP;((repeat'(first|refine Va (X5 @aT.eq_1 @km @rn @aL.eq_1 (X2 @aS @aG.eq_1)) ?_|(refine V2 (X5 @aT.eq_1 @km @rn @aL.eq_1 (X2 @aS @aG.eq_1)) ?_ ?_<;>try with_reducible intro hb)|(refine Xi ?_ ?_<;>try intro ht)|exact Xx|fail)))
    all_goals exact an _ (i+1,u) ⟨PA,bP⟩ PA (Xs false [0,1,2] @aT.eq_1)
   rw[if_neg e9,decide_eq_true_eq]at gA;rw[if_neg e9]at bP r9;have xV:wl.length<=24:=by rw[<- oS];exact hm.opt _ (ay GC)
   repeat'(first|((fail_if_success (first|refine eT 13 ?_|refine eU 13 ?_));refine Xr (X5 @aT.eq_1 @km @rn @aL.eq_1 (X4 @aS @aG.eq_1 @oS @bu.eq_1)) ?_;intro K hK)|(refine hK _ ?_;clear hK K)|(refine Xi ?_ ?_<;>try intro ht)|refine Xy ?_|refine Xd ?_ ?_|exact Xx|fail)
   (refine Yr ?_);intro Q0 ef pO
   refine yV ⟨aw [(2,.ptr 0 0 0),(3,.ptr 1 0 0),(6,aaC P.length),(7,.ref 2 2 0 P.length),(9,aaC i),(10,.ptr 3 0 0)],[.var (aq m),.var (aT P),.arr 2 (rowsOf aL u),.var (aG ⟨c,kids,cV,a9,cells⟩)]⟩ ef ?_ (λkey=>?_);rotate_left
   ·(try clear ef)
    ((repeat'(first|refine Va (X4 @aT.eq_1 @km @rn @aL.eq_1) ?_|(refine V2 (X4 @aT.eq_1 @km @rn @aL.eq_1) ?_ ?_<;>try with_reducible intro hb)|(refine Xi ?_ ?_<;>try intro ht)|exact Xx|fail)))
    all_goals
     refine key _ ?_;exact Xv (X2 @aT.eq_1 @aG.eq_1)
   (try clear ef)
   try(try clear Q0)
   ((repeat'(first|refine Va (X5 @aT.eq_1 @km @aG.eq_1 @oS @bu.eq_1) ?_|(refine V2 (X5 @aT.eq_1 @km @aG.eq_1 @oS @bu.eq_1) ?_ ?_<;>try with_reducible intro hb)|(refine Xi ?_ ?_<;>try intro ht)|exact Xx|fail)))
   refine aM (λk:Nat=>(⟨aw [(2,.ptr 0 0 0),(3,.ptr 1 0 0),(6,aaC P.length),(7,.ref 2 2 0 P.length),(9,aaC i),(10,.ptr 3 0 0),(11,aaC k)],[.var (aq m),.var (aT P),.arr 2 (rowsOf aL u),.var (aG ⟨c,kids,cV,a9,cells⟩)]⟩:St))
    (λk=>k<P.length/\ri P c (l6 u i)=ri P c (l6 u k)) (λk=>k) i ⟨hi',rfl⟩ (Xv (X2 @aT.eq_1 @aG.eq_1)) ?_
   rintro k⟨hk,o6⟩cJ ba bd;rw[Dd lF hk]at o6;have br:=lF.lt hk;unfold fe at o6 br;generalize yx:u.getD k default=uk at *;obtain⟨p,q⟩:=uk;dsimp only at o6 br;by_cases h0:0<=p
   ·have br:=br h0;rw[if_pos h0]at o6;obtain⟨p,rfl⟩:∃pn:Nat,p=pn:=⟨p.toNat,GC⟩;rw[fq]at br;have o6:ri P c (l6 u i)=((nd P (p:Int).toNat).cls==c||ri P c (l6 u (p:Int).toNat)):=o6;rw[fq]at o6;unfold nd at o6;by_cases u5:(P.getD p default).cls=c
    ·have hr:=r9 (by rw[o6,u5];simp);subst hr;generalize gw:P.getD p default=y at *;obtain⟨yc,y1,y2,y3,y4⟩:=y;dsimp only at u5;subst u5;((repeat'(first|refine Va (X5 @aT.eq_1 @km @yx @aL.eq_1 (X2 @aG.eq_1 @gw)) ?_|(refine Xi ?_ ?_<;>try intro ht)|exact Xx|fail)))
     all_goals
      repeat(refine Xu ?_)
      refine Vb X0 ?_;exact cZ [] true Px trivial Px Px (aJ.lq aJ.nil (.pure rfl))
    ·have pW:ri P c (l6 u i)=ri P c (l6 u p):=by rw[o6,beq_false_of_ne u5,Bool.false_or]
     generalize gw:P.getD p default=y at *;obtain⟨yc,y1,y2,y3,y4⟩:=y;dsimp only at u5;((repeat'(first|refine Va (X5 @aT.eq_1 @km @yx @aL.eq_1 (X2 @aG.eq_1 @gw)) ?_|(refine Xi ?_ ?_<;>try intro ht)|exact Xx|fail)))
     exact ba _ p ⟨GC,pW⟩ GC (Xv (X2 @aT.eq_1 @aG.eq_1))
   rw[if_neg h0]at o6;have o6:ri P c (l6 u i)=false:=o6;rw[if_neg (by rw[o6];simp)]at bP r9;((repeat'(first|refine Va (X3 @km @yx @aL.eq_1) ?_|(refine Xi ?_ ?_<;>try intro ht)|exact Xx|fail)))
   refine bd _ _ rfl ?_;clear ba bd cJ;repeat(refine Xu ?_)
   refine Va (X2 @aT.eq_1 @aG.eq_1) ?_;refine aM (λz:Nat×ei=>(⟨aw [(2,.ptr 0 0 0),(3,.ptr 1 0 0),(6,aaC P.length),(7,.ref 2 2 0 P.length),(9,aaC i),(10,.ptr 3 0 0),(12,aaC z.1)],[.var (aq m),.var (aT P),.arr 2 (rowsOf aL z.2),.var (aG ⟨c,kids,cV,a9,cells⟩)]⟩:St))
    (λz=>z.1<=kids.length/\oT P.length i kids u z.1=some z.2) (λz=>kids.length-z.1) (0,u) ⟨aI _,rfl⟩ (Xv (X2 @aT.eq_1 @aG.eq_1)) ?_
   rintro⟨o,v⟩⟨ho,hv⟩cJ ba bd;dsimp only at ho hv ⊢;have hvi:=Fq o v ho hv;have sv:=hvi.len;by_cases cG:o<kids.length
   ·have vH:=abZ hv cG;have yv:=ab0 hv;unfold fe at vH yv;generalize iO:kids.getD o 0=k at *;generalize JG:v.getD k.toNat default=vk at *;obtain⟨va,vb⟩:=vk;dsimp only at vH yv;by_cases ax:mB P.length i k=true/\va<0
    ·have yv:=yv ax;unfold mB at ax;rw[decide_eq_true_eq]at ax;((repeat'(first|refine Va (X5 @aT.eq_1 @aG.eq_1 @iO @sv (X3 @JG @aL.eq_1 @ON)) ?_|(refine V2 (X5 @aT.eq_1 @aG.eq_1 @iO @sv (X3 @JG @aL.eq_1 @ON)) ?_ ?_<;>try with_reducible intro hb)|(refine Xi ?_ ?_<;>try intro ht)|exact Xx|fail)))
     exact ba _ (o+1,v.set k.toNat ((i:Int),(o:Int))) ⟨PA,yv⟩ PA (Xv (X2 @aT.eq_1 @aG.eq_1))
    ·have hr:=r9 (vH ax);unfold mB at ax;rw[decide_eq_true_eq]at ax;subst hr;((repeat'(first|refine Va (X5 @aT.eq_1 @aG.eq_1 @iO @sv (X2 @JG @aL.eq_1)) ?_|(refine V2 (X5 @aT.eq_1 @aG.eq_1 @iO @sv (X2 @JG @aL.eq_1)) ?_ ?_<;>try with_reducible intro hb)|(refine Xi ?_ ?_<;>try intro ht)|exact Xx|fail)))
     all_goals
      repeat(refine Xu ?_)
      ((repeat'(first|refine Vb X0 ?_|fail)))
      exact cZ [] true Px trivial Px Px (aJ.lq aJ.nil (.pure rfl))
   ·obtain rfl:o=kids.length:=GC;rw[hv]at bP;((repeat'(first|refine Va (X2 @aT.eq_1 @aG.eq_1) ?_|(refine V2 (X2 @aT.eq_1 @aG.eq_1) ?_ ?_<;>try with_reducible intro hb)|(refine Xi ?_ ?_<;>try intro ht)|exact Xx|fail)))
    refine bd _ _ rfl ?_;clear ba bd cJ;refine Va X0 ?_;all_goals exact an _ (i+1,v) ⟨PA,bP⟩ PA (Xs false [0,1,2] @aT.eq_1)
end T

