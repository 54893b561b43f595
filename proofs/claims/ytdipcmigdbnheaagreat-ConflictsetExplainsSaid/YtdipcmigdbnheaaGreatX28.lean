import Derived.Test.YtdipcmigdbnheaaGreatX27
import Derived.Test.YtdipcmigdbnheaaGreatX26
set_option linter.all false
set_option maxHeartbeats 0
set_option maxRecDepth 20000
open List renaming length→oW,length_map→dX,length_set→bF
open Int renaming toNat_natCast→fq
open Nat renaming zero_le→aI,not_lt_zero→m8
open Go Go.Am Go.Proofs
namespace T
def alj(m:aj)(P:List Nd)(up:ei)(node:Nat)(hm:MB m)(hv:VM m)(hP:PB P)(hf:oa m P=some up)(bX:node<P.length):
  ao Tryz.prog 95 [.agg (aq m),.agg (aT P),.tree 2 (rowsOf aL up),aaC node] [] (.tree 1 (rowsOf aQ (vK m P up node))) []:=by
 have rV:=hP.qJ;have yu:=Dg hf;have cu:=(vF yu).2;have nu:=hv.cls;have h1:=ak5 m hm hv;have lF:=zS _ _ (Nat.le_refl _) (F9 hf).2;have km:=lF.len;have ey:=C5 hv;have fC:=ey.1;have alm:vK m P up node=qb P (l6 up node) (dH m):=rfl;generalize ak:vK m P up node=res at *;generalize dF:dH m=Y0 at *;have cD:(lD 3 Y0).length=Y0.length:=Ja 3 Y0;refine ao.aD 60 0 [.tmp 8] Tryz.func95 ?_;((refine Va @aT.eq_1 ?_)<;>try with_reducible intro K hK)
 refine jn [] h1 Px trivial ⟨.pure rfl,trivial⟩ ?_;have ha:cg (bL 2 []) (.arr 1 (lD 1 Y0))=.arr 1 (lD 3 Y0):=by
  rw[cg,ajb (bL 2 []) Y0 3 1 λj hj=>by unfold bL;rw[if_neg GF];simp;omega]
 have uf:(qY Y0).map (cg (bL 2 []))=qY Y0:=ajc _ _;have hc:bC (bL 2 []) (.ref 0 1 0 Y0.length)=.ref 2 1 0 Y0.length:=rfl;have hd:∀ (l n:List Ob),eS l [] n=l++n:=λl n=>by cases n<;>simp[eS]
 show opsL _ _ _ _ (St.put ⟨_,eS [_,_] [] (List.map (cg (bL 2 [])) _)⟩ _ (bC (bL 2 []) _));rw[List.map_cons,ha,uf,hc,hd];simp(disch:=omega)only[Ac,↓Pc,simprocAttr];refine hK _ ?_;clear hK K;refine bY (σ':=⟨aw [(2,.tree 2 (rowsOf aL up)),(3,aaC node),(5,.ptr 1 0 0),(9,.ref 2 1 0 Y0.length)],nP (.var (aq m)) (.var (aT P)) (lD 3 Y0) Y0⟩) (by unfold nP;exact Xv @aT.eq_1) ?_;refine Va X0 ?_;refine aM (λz:Nat×List (List Bool)=>(⟨aw [(2,.tree 2 (rowsOf aL up)),(5,.ptr 1 0 0),(9,.ref 2 1 0 Y0.length),(10,aaC z.1)],nP (.var (aq m)) (.var (aT P)) (lD 3 Y0) z.2⟩:St))
  (λz=>z.1<P.length/\z.2.map oW=Y0.map oW/\qb P (l6 up z.1) z.2=res) (λz=>z.1) (node,Y0) ⟨bX,rfl,alm.symm⟩ (Xv X0) ?_
 rintro⟨k,Y⟩⟨hk,hY,sy⟩Ql an ar;dsimp only at hk hY sy ⊢;have OK:=congrArg oW hY;rw[dX,dX]at OK;have hfY:=FT ey hY;rw[Dd lF hk]at sy;have wV:=lF.low k hk;unfold fe at sy wV;generalize yx:up.getD k default=uk at *;rcases wV with h1|⟨p,q,h1,h2,h3,_⟩
 ·subst h1;rw[if_neg Px]at sy;have hY2:Y=res:=sy;subst hY2;((repeat'(first|refine Va (X5 @yx @aL.eq_1 @km @JD (X2 @JE @Ga)) ?_|(refine Xi ?_ ?_<;>try intro ht)|exact Xx|fail)))
  refine ar _ _ rfl ?_;clear an ar Ql;repeat(refine Xu ?_)
  refine Vb X0 ?_;refine LK [] true trivial ?_;rw[<- OK];exact .snap _ _ rfl (ajf (Ga _ _ _ _) (iK Px) (by rw[cD];exact OK.symm) λa ha=>⟨3+a,by rw[aja 3 hY.symm];exact Fw 3 Y a ha,nPk _ _ _ ha,iK GF⟩)
 ·subst h1;rw[if_pos PA]at sy;dsimp only at sy;rw[fq]at sy;have u5:=JF yu (show p<P.length by omega) h3;have sy:qb P (l6 up p) (bV Y (nd P p).cls.toNat q)=res:=sy;unfold nd at sy u5;generalize gw:P.getD p default=y at *;obtain⟨c,y1,y2,y3,y4⟩:=y;dsimp only at sy u5;obtain⟨c,rfl⟩:∃cn:Nat,c=cn:=⟨c.toNat,GC⟩;rw[fq]at sy;have OL:=hfY.2 c GC;have alp:=ey.2 c GC;have s6:=hv.opt _ (ay (l:=m.cls) (i:=c) (d:=default) GC);have jH:=Fw 3 Y0 c GC;rw[alp]at jH;generalize aR:(m.cls.getD c default).length=w at *;((repeat'(first|refine Va (X5 @aT.eq_1 @yx @aL.eq_1 @km (X5 @gw @aG.eq_1 @JD @JE @Ga)) ?_|(refine Xi ?_ ?_<;>try intro ht)|exact Xx|fail)))
  refine aM (λz:Nat×List Bool=>(⟨aw [(2,.tree 2 (rowsOf aL up)),(5,.ptr 1 0 0),(9,.ref 2 1 0 Y0.length),(10,aaC k),(11,aaC c),(12,aaC z.1)],nP (.var (aq m)) (.var (aT P)) (lD 3 Y0) (Y.set c z.2)⟩:St))
   (λz=>z.1<=w/\z.2.length=w/\∀ b,b<z.1->z.2.getD b false=(b==q)) (λz=>w-z.1) (0,Y.getD c default) ⟨aI _,OL,λa ha=>absurd ha (m8 _)⟩ (by rw[Ft];exact Xv @aT.eq_1) ?_
  rintro⟨o,r⟩⟨ho,hr,nh⟩cJ ba bd;dsimp only at ho hr nh ⊢;have hYs:(Y.set c r).length=Y.length:=bF ..;have f2:=nPk (.var (aq m)) (.var (aT P)) (lD 3 Y0) (Y:=Y.set c r) (i:=c) GC;rw[vz _ _ _ GC]at f2;have f3:=λr2=>nPs (.var (aq m)) (.var (aT P)) (lD 3 Y0) (Y.set c r) c r2;simp only[List.set_set]at f3;unfold aT aq at f2 f3;by_cases cG:o<w
  ·((repeat'(first|refine Va (X5 @aT.eq_1 @yx @aL.eq_1 @km (X5 @JD @JE @Ga @jH (X4 @f2 @f3 @v5 @hr))) ?_|(refine Xi ?_ ?_<;>try intro ht)|exact Xx|fail)))
   have alr:((o:Int)==(q:Int))=(o==q):=by rw[Bool.eq_iff_iff,beq_iff_eq,beq_iff_eq];omega
   rw[alr];refine ba _ (o+1,r.set o (o==q)) ⟨PA,by dsimp only;rw[bF];exact hr,als hr nh cG⟩ PA (Xv @aT.eq_1)
  ·obtain rfl:o=w:=GC;((repeat'(first|refine Va (X5 @aT.eq_1 @yx @aL.eq_1 @km (X5 @JD @JE @Ga @jH @f2)) ?_|(refine Xi ?_ ?_<;>try intro ht)|exact Xx|fail)))
   refine bd _ _ rfl ?_;clear ba bd cJ;repeat(refine Xu ?_)
   have hre:=alv hr nh;refine Va (X4 @aT.eq_1 @yx @aL.eq_1 @km) ?_;refine an _ (p,Y.set c r) ⟨PA,?_,?_⟩ PA (Xv @aT.eq_1)
   ·dsimp only;rw[alw (by rw[hr,OL])];exact hY
   ·dsimp only;rw[hre,<- sy];unfold bV;rw[OL]
def alx(m:aj)(a x b y:Int)(hm:VM m)(ha:eW m a x=true)(n7:eW m b y=true):
  ao Tryz.prog 147 [.agg (aq m),.agg [aaC a,aaC x],.agg [aaC b,aaC y]] [] (.lit (.bool (py m a x b y))) []:=by
 have cu:=hm.ae;have hsw :∃A X B Y,eW m A X=true/\eW m B Y=true/\py m a x b y=m.ae.any (n8 m A X B Y)/\((b<a/\A=b/\X=y/\B=a/\Y=x)\/(¬ b<a/\A=a/\X=x/\B=b/\Y=y)):=by
  unfold py;by_cases h:b<a
  ·exact⟨b,y,a,x,n7,ha,by rw[if_pos h],.inl ⟨h,rfl,rfl,rfl,rfl⟩⟩
  ·exact⟨a,x,b,y,ha,n7,by rw[if_neg h],.inr ⟨h,rfl,rfl,rfl,rfl⟩⟩
 obtain⟨A,X,B,Y,hA,hB,cm,iu⟩:=hsw;generalize ak:py m a x b y=res at *;refine ao.aD 60 0 [.tmp 6] Tryz.func147 ?_;repeat'(first|((fail_if_success (first|refine eT 1 ?_|refine eU 1 ?_));refine Xr X0 ?_;intro K hK)|(refine hK _ ?_;clear hK K)|refine Xy ?_|fail)
 (refine Yr ?_);intro Q0 ef pO
 refine yV ⟨aw [(3,.ptr 0 0 0),(4,.ptr 1 0 0),(5,.ptr 2 0 0)],[.var (aq m),.var [aaC A,aaC X],.var [aaC B,aaC Y]]⟩ ef ?_ (λkey=>?_);rotate_left
 ·(try clear ef)
  rcases iu with⟨h,rfl,rfl,rfl,rfl⟩|⟨h,rfl,rfl,rfl,rfl⟩;all_goals
   ((repeat'(first|refine Va X0 ?_|(refine Xi ?_ ?_<;>try intro ht)|exact Xx|fail)))
   all_goals
    refine key _ ?_;exact Xv X0
 (try clear ef)
 try(try clear Q0)
 clear iu;refine Va X0 ?_;refine aM (λi:Nat=>(⟨aw [(3,.ptr 0 0 0),(4,.ptr 1 0 0),(5,.ptr 2 0 0),(7,aaC i)],[.var (aq m),.var [aaC A,aaC X],.var [aaC B,aaC Y]]⟩:St))
  (λi=>i<=m.ae.length/\∀ a,a<i->n8 m A X B Y (m.ae.getD a default)=false) (λi=>m.ae.length-i) 0 ⟨aI _,λa ha=>absurd ha (m8 _)⟩ (Xv X0) ?_
 rintro i⟨hi,nS⟩Ql an ar;by_cases hi':i<m.ae.length
 ·have uc:=ay (l:=m.ae) (i:=i) (d:=default) hi';have dE:=iA hm.pr _ uc;have bP:n8 m A X B Y (m.ae.getD i default)=false->∀ a,a<i+1->n8 m A X B Y (m.ae.getD a default)=false:=λh a ha=>by
   by_cases e:a=i
   ·subst e;exact h
   ·exact nS a GC
  have acd:n8 m A X B Y (m.ae.getD i default)=true->res=true:=λh=>by
   rw[cm];exact List.any_eq_true.2 ⟨_,uc,h⟩
  obtain⟨a1,a2,a3,a4⟩:=fD.1 hA;obtain⟨b1,b2,b3,b4⟩:=fD.1 hB;obtain⟨q1,q2,q3,q4,q5⟩:=lT dE;have xU:=hm.opt _ (ay (l:=m.cls) (i:=A.toNat) (d:=default) GC);have mj:=hm.opt _ (ay (l:=m.cls) (i:=B.toNat) (d:=default) GC);have nu:=hm.cls;generalize b6:m.ae.getD i default=p at *;unfold n8 lV at acd;obtain⟨fs,sn,ru,aB⟩:=p;dsimp only at *;by_cases yl:fs=A/\sn=B
  ·obtain⟨rfl,rfl⟩:=yl;unfold n8 lV at bP;dsimp only at bP;generalize hcA:m.cls.getD fs.toNat default=CA at *;generalize hcB:m.cls.getD sn.toNat default=CB at *;obtain⟨e1,e2,e3⟩:=vr ⟨a3,a4⟩ ⟨b3,b4⟩ GC GC;generalize eh:X*(CB.length:Int)=ix at *;have I9:((CA.length*CB.length:Nat):Int)=CA.length*CB.length:=GF;generalize hv:aB.getD (ix+Y).toNat 0=v at *;by_cases h3:v=1099511627776
   ·have hr:=acd (decide_eq_true ⟨rfl,rfl,h3⟩);((repeat'(first|refine Va (X5 @b6 @aP.eq_1 @hcB @bu.eq_1 (X2 @eh @hv)) ?_|(refine Xi ?_ ?_<;>try intro ht)|exact Xx|fail)))
    all_goals
     repeat(refine Xu ?_)
     subst hr;refine Vb X0 ?_;exact aE rfl rfl
   ·have bP:=bP (decide_eq_false λh=>h3 h.2.2);((repeat'(first|refine Va (X5 @b6 @aP.eq_1 @hcB @bu.eq_1 (X2 @eh @hv)) ?_|(refine Xi ?_ ?_<;>try intro ht)|exact Xx|fail)))
    all_goals exact an _ (i+1) ⟨GC,bP⟩ GC (Xs false [0,1,2] X0)
  ·have bP:=bP (by unfold n8;exact decide_eq_false λh=>yl ⟨h.1,h.2.1⟩);((repeat'(first|refine Va (X2 @b6 @aP.eq_1) ?_|(refine V2 (X2 @b6 @aP.eq_1) ?_ ?_<;>try with_reducible intro hb)|(refine Xi ?_ ?_<;>try intro ht)|exact Xx|fail)))
   all_goals exact an _ (i+1) ⟨GC,bP⟩ GC (Xs false [0,1,2] X0)
 ·((repeat'(first|refine Va X0 ?_|(refine V2 X0 ?_ ?_<;>try with_reducible intro hb)|(refine Xi ?_ ?_<;>try intro ht)|exact Xx|fail)))
  refine ar _ _ rfl ?_;clear an ar Ql;repeat(refine Xu ?_)
  have hr:res=false:=by
   rw[cm,List.any_eq_false];intro p hp;obtain⟨a,ha,rfl⟩:=List.getElem_of_mem hp;have:=nS a GC;rw[List.getD_eq_getElem?_getD,List.getElem?_eq_getElem ha,Option.getD_some]at this;rw[this];simp
  subst hr;refine Vb X0 ?_;exact aE rfl rfl
end T

