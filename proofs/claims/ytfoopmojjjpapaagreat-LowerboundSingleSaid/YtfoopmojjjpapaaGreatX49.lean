import Derived.Test.YtfoopmojjjpapaaGreatX48
import Derived.Test.YtfoopmojjjpapaaGreatX47
set_option linter.all false
set_option maxHeartbeats 0
set_option maxRecDepth 20000
open List renaming length→jB,length_map→fK,length_set→bJ
open Int renaming toNat_natCast→c7
open Nat renaming zero_le→aS,not_lt_zero→pd
open Go Go.Am Go.Proofs
namespace T
def anN(m:ah)(P:List Nd)(up:dH)(node:Nat)(hm:MB m)(hv:VM m)(hP:PB P)(hf:nJ m P=some up)(bV:node<P.length):
  Holds Tryz.prog 53 [.agg (an m),.agg (aJ P),.tree 2 (rowsOf bd up),Qf node] [] (.tree 1 (rowsOf aC (wo m P up node))) []:=by
 have xp:=hP.C6;have rG:=DI hf;have dg:=(xy rG).2;have oT:=hv.cls;have h1:=anP m hm hv;have jn:=Ao _ _ (Nat.le_refl _) (Gv hf).2;have jU:=jn.len;have kG:=Ey hv;have iP:=kG.1;have abL:wo m P up node=p7 P (lA up node) (cI m):=rfl;generalize au:wo m P up node=res at *;generalize dY:cI m=Y0 at *;have cD:(gP 3 Y0).length=Y0.length:=CQ 3 Y0;refine Holds.aM 60 0 [.tmp 8] Tryz.func53 ?_;((refine Va @aJ.eq_1 ?_)<;>try with_reducible intro K hK)
 refine jF [] h1 GS trivial ⟨.pure rfl,trivial⟩ ?_;have ha:bM (bq 2 []) (.arr 1 (gP 1 Y0))=.arr 1 (gP 3 Y0):=by
  rw[bM,SY (bq 2 []) Y0 3 1 λj hj=>by unfold bq;rw[if_neg GM];simp;omega]
 have qw:(oA Y0).map (bM (bq 2 []))=oA Y0:=SZ _ _;have hc:bk (bq 2 []) (.ref 0 1 0 Y0.length)=.ref 2 1 0 Y0.length:=rfl;have hd:∀ (l n:List Ob),e8 l [] n=l++n:=λl n=>by cases n<;>simp[e8]
 show opsL _ _ _ _ (St.put ⟨_,e8 [_,_] [] (List.map (bM (bq 2 [])) _)⟩ _ (bk (bq 2 []) _));rw[List.map_cons,ha,qw,hc,hd];simp(disch:=omega)only[Ac,↓Pc,simprocAttr];refine hK _ ?_;clear hK K;refine cL (σ':=⟨ao [(2,.tree 2 (rowsOf bd up)),(3,Qf node),(5,.ptr 1 0 0),(9,.ref 2 1 0 Y0.length)],nP (.var (an m)) (.var (aJ P)) (gP 3 Y0) Y0⟩) (by unfold nP;exact Xv @aJ.eq_1) ?_;refine Va X0 ?_;refine aR (λz:Nat×List (List Bool)=>(⟨ao [(2,.tree 2 (rowsOf bd up)),(5,.ptr 1 0 0),(9,.ref 2 1 0 Y0.length),(10,Qf z.1)],nP (.var (an m)) (.var (aJ P)) (gP 3 Y0) z.2⟩:St))
  (λz=>z.1<P.length/\z.2.map jB=Y0.map jB/\p7 P (lA up z.1) z.2=res) (λz=>z.1) (node,Y0) ⟨bV,rfl,abL.symm⟩ (Xv X0) ?_
 rintro⟨k,Y⟩⟨hk,hY,sc⟩Ql ak aq;dsimp only at hk hY sc ⊢;have yi:=congrArg jB hY;rw[fK,fK]at yi;have hfY:=HX kG hY;rw[DK jn hk]at sc;have yF:=jn.low k hk;unfold ew at sc yF;generalize yW:up.getD k default=uk at *;rcases yF with h1|⟨p,q,h1,h2,h3,_⟩
 ·subst h1;rw[if_neg GS]at sc;have hY2:Y=res:=sc;subst hY2;((repeat'(first|refine Va (X5 @yW @bd.eq_1 @jU @J3 (X2 @J4 @Gw)) ?_|(refine Xi ?_ ?_<;>try intro ht)|exact Xx|fail)))
  refine aq _ _ rfl ?_;clear ak aq Ql;repeat(refine Xu ?_)
  refine Vb X0 ?_;refine M' [] true trivial ?_;rw[<- yi];exact .snap _ _ rfl (S5 (Gw _ _ _ _) (jD GS) (by rw[cD];exact yi.symm) λa ha=>⟨3+a,by rw[S4 3 hY.symm];exact zB 3 Y a ha,nPk _ _ _ ha,jD GM⟩)
 ·subst h1;rw[if_pos PW]at sc;dsimp only at sc;rw[c7]at sc;have vA:=J5 rG (show p<P.length by omega) h3;have sc:p7 P (lA up p) (gZ Y (nd P p).cls.toNat q)=res:=sc;unfold nd at sc vA;generalize pV:P.getD p default=y at *;obtain⟨c,y1,y2,y3,y4⟩:=y;dsimp only at sc vA;obtain⟨c,rfl⟩:∃cn:Nat,c=cn:=⟨c.toNat,GK⟩;rw[c7]at sc;have Pv:=hfY.2 c GK;have anS:=kG.2 c GK;have sU:=hv.opt _ (aF (l:=m.cls) (i:=c) (d:=default) GK);have jM:=zB 3 Y0 c GK;rw[anS]at jM;generalize bc:(m.cls.getD c default).length=w at *;((repeat'(first|refine Va (X5 @aJ.eq_1 @yW @bd.eq_1 @jU (X5 @pV @aB.eq_1 @J3 @J4 @Gw)) ?_|(refine Xi ?_ ?_<;>try intro ht)|exact Xx|fail)))
  refine aR (λz:Nat×List Bool=>(⟨ao [(2,.tree 2 (rowsOf bd up)),(5,.ptr 1 0 0),(9,.ref 2 1 0 Y0.length),(10,Qf k),(11,Qf c),(12,Qf z.1)],nP (.var (an m)) (.var (aJ P)) (gP 3 Y0) (Y.set c z.2)⟩:St))
   (λz=>z.1<=w/\z.2.length=w/\∀ b,b<z.1->z.2.getD b false=(b==q)) (λz=>w-z.1) (0,Y.getD c default) ⟨aS _,Pv,λa ha=>absurd ha (pd _)⟩ (by rw[zC];exact Xv @aJ.eq_1) ?_
  rintro⟨o,r⟩⟨ho,hr,mO⟩cJ bj br;dsimp only at ho hr mO ⊢;have hYs:(Y.set c r).length=Y.length:=bJ ..;have f2:=nPk (.var (an m)) (.var (aJ P)) (gP 3 Y0) (Y:=Y.set c r) (i:=c) GK;rw[uq _ _ _ GK]at f2;have f3:=λr2=>nPs (.var (an m)) (.var (aJ P)) (gP 3 Y0) (Y.set c r) c r2;simp only[List.set_set]at f3;unfold aJ an at f2 f3;by_cases cm:o<w
  ·((repeat'(first|refine Va (X5 @aJ.eq_1 @yW @bd.eq_1 @jU (X5 @J3 @J4 @Gw @jM (X4 @f2 @f3 @q8 @hr))) ?_|(refine Xi ?_ ?_<;>try intro ht)|exact Xx|fail)))
   have anU:((o:Int)==(q:Int))=(o==q):=by rw[Bool.eq_iff_iff,beq_iff_eq,beq_iff_eq];omega
   rw[anU];refine bj _ (o+1,r.set o (o==q)) ⟨PW,by dsimp only;rw[bJ];exact hr,anV hr mO cm⟩ PW (Xv @aJ.eq_1)
  ·obtain rfl:o=w:=GK;((repeat'(first|refine Va (X5 @aJ.eq_1 @yW @bd.eq_1 @jU (X5 @J3 @J4 @Gw @jM @f2)) ?_|(refine Xi ?_ ?_<;>try intro ht)|exact Xx|fail)))
   refine br _ _ rfl ?_;clear bj br cJ;repeat(refine Xu ?_)
   have hre:=anX hr mO;refine Va (X4 @aJ.eq_1 @yW @bd.eq_1 @jU) ?_;refine ak _ (p,Y.set c r) ⟨PW,?_,?_⟩ PW (Xv @aJ.eq_1)
   ·dsimp only;rw[anY (by rw[hr,Pv])];exact hY
   ·dsimp only;rw[hre,<- sc];unfold gZ;rw[Pv]
def anZ(m:ah)(a x b y:Int)(hm:VM m)(ha:hZ m a x=true)(lL:hZ m b y=true):
  Holds Tryz.prog 85 [.agg (an m),.agg [Qf a,Qf x],.agg [Qf b,Qf y]] [] (.lit (.bool (s6 m a x b y))) []:=by
 have dg:=hm.ae;have JW :∃A X B Y,hZ m A X=true/\hZ m B Y=true/\s6 m a x b y=m.ae.any (oX m A X B Y)/\((b<a/\A=b/\X=y/\B=a/\Y=x)\/(¬ b<a/\A=a/\X=x/\B=b/\Y=y)):=by
  unfold s6;by_cases h:b<a
  ·exact⟨b,y,a,x,lL,ha,by rw[if_pos h],.inl ⟨h,rfl,rfl,rfl,rfl⟩⟩
  ·exact⟨a,x,b,y,ha,lL,by rw[if_neg h],.inr ⟨h,rfl,rfl,rfl,rfl⟩⟩
 obtain⟨A,X,B,Y,hA,hB,bK,gD⟩:=JW;generalize au:s6 m a x b y=res at *;refine Holds.aM 60 0 [.tmp 6] Tryz.func85 ?_;repeat'(first|((fail_if_success (first|refine eM 1 ?_|refine eN 1 ?_));refine Xr X0 ?_;intro K hK)|(refine hK _ ?_;clear hK K)|refine Xy ?_|fail)
 (refine aaF ?_);intro Q0 gv ns
 refine ph ⟨ao [(3,.ptr 0 0 0),(4,.ptr 1 0 0),(5,.ptr 2 0 0)],[.var (an m),.var [Qf A,Qf X],.var [Qf B,Qf Y]]⟩ gv ?_ (λkey=>?_);rotate_left
 ·(try clear gv)
  rcases gD with⟨h,rfl,rfl,rfl,rfl⟩|⟨h,rfl,rfl,rfl,rfl⟩;all_goals
   ((repeat'(first|refine Va X0 ?_|(refine Xi ?_ ?_<;>try intro ht)|exact Xx|fail)))
   all_goals
    refine key _ ?_;exact Xv X0
 (try clear gv)
 try(try clear Q0)
 clear gD;refine Va X0 ?_;refine aR (λi:Nat=>(⟨ao [(3,.ptr 0 0 0),(4,.ptr 1 0 0),(5,.ptr 2 0 0),(7,Qf i)],[.var (an m),.var [Qf A,Qf X],.var [Qf B,Qf Y]]⟩:St))
  (λi=>i<=m.ae.length/\∀ a,a<i->oX m A X B Y (m.ae.getD a default)=false) (λi=>m.ae.length-i) 0 ⟨aS _,λa ha=>absurd ha (pd _)⟩ (Xv X0) ?_
 rintro i⟨hi,kE⟩Ql ak aq;by_cases ar:i<m.ae.length
 ·have Jc:=aF (l:=m.ae) (i:=i) (d:=default) ar;have dO:=j6 hm.pr _ Jc;have bG:oX m A X B Y (m.ae.getD i default)=false->∀ a,a<i+1->oX m A X B Y (m.ae.getD a default)=false:=λh a ha=>by
   by_cases e:a=i
   ·subst e;exact h
   ·exact kE a GK
  have ad9:oX m A X B Y (m.ae.getD i default)=true->res=true:=λh=>by
   rw[bK];exact List.any_eq_true.2 ⟨_,Jc,h⟩
  obtain⟨a1,a2,a3,a4⟩:=jN.1 hA;obtain⟨b1,b2,b3,b4⟩:=jN.1 hB;obtain⟨q1,q2,q3,q4,q5⟩:=qA dO;have vH:=hm.opt _ (aF (l:=m.cls) (i:=A.toNat) (d:=default) GK);have re:=hm.opt _ (aF (l:=m.cls) (i:=B.toNat) (d:=default) GK);have oT:=hm.cls;generalize cg:m.ae.getD i default=p at *;unfold oX yq at ad9;obtain⟨fs,sn,ru,ay⟩:=p;dsimp only at *;by_cases yO:fs=A/\sn=B
  ·obtain⟨rfl,rfl⟩:=yO;unfold oX yq at bG;dsimp only at bG;generalize hcA:m.cls.getD fs.toNat default=CA at *;generalize hcB:m.cls.getD sn.toNat default=CB at *;obtain⟨e1,e2,e3⟩:=zL ⟨a3,a4⟩ ⟨b3,b4⟩ GK GK;generalize jk:X*(CB.length:Int)=ix at *;have yJ:((CA.length*CB.length:Nat):Int)=CA.length*CB.length:=GM;generalize hv:ay.getD (ix+Y).toNat 0=v at *;by_cases h3:v=1099511627776
   ·have hr:=ad9 (decide_eq_true ⟨rfl,rfl,h3⟩);((repeat'(first|refine Va (X5 @cg @aI.eq_1 @hcB @aW.eq_1 (X2 @jk @hv)) ?_|(refine Xi ?_ ?_<;>try intro ht)|exact Xx|fail)))
    all_goals
     repeat(refine Xu ?_)
     subst hr;refine Vb X0 ?_;exact aO rfl rfl
   ·have bG:=bG (decide_eq_false λh=>h3 h.2.2);((repeat'(first|refine Va (X5 @cg @aI.eq_1 @hcB @aW.eq_1 (X2 @jk @hv)) ?_|(refine Xi ?_ ?_<;>try intro ht)|exact Xx|fail)))
    all_goals exact ak _ (i+1) ⟨GK,bG⟩ GK (Xs false [0,1,2] X0)
  ·have bG:=bG (by unfold oX;exact decide_eq_false λh=>yO ⟨h.1,h.2.1⟩);((repeat'(first|refine Va (X2 @cg @aI.eq_1) ?_|(refine V2 (X2 @cg @aI.eq_1) ?_ ?_<;>try with_reducible intro hb)|(refine Xi ?_ ?_<;>try intro ht)|exact Xx|fail)))
   all_goals exact ak _ (i+1) ⟨GK,bG⟩ GK (Xs false [0,1,2] X0)
 ·((repeat'(first|refine Va X0 ?_|(refine V2 X0 ?_ ?_<;>try with_reducible intro hb)|(refine Xi ?_ ?_<;>try intro ht)|exact Xx|fail)))
  refine aq _ _ rfl ?_;clear ak aq Ql;repeat(refine Xu ?_)
  have hr:res=false:=by
   rw[bK,List.any_eq_false];intro p hp;obtain⟨a,ha,rfl⟩:=List.getElem_of_mem hp;have:=kE a GK;rw[List.getD_eq_getElem?_getD,List.getElem?_eq_getElem ha,Option.getD_some]at this;rw[this];simp
  subst hr;refine Vb X0 ?_;exact aO rfl rfl
end T

