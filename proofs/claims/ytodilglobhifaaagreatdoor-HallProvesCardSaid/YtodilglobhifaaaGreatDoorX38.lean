import Derived.Test.YtodilglobhifaaaGreatDoorX35
import Derived.Test.YtodilglobhifaaaGreatDoorX31
import Derived.Test.YtodilglobhifaaaGreatDoorX37
set_option linter.all false
set_option maxHeartbeats 0
set_option maxRecDepth 20000
open List renaming replicate→aD,set_set→nu,append_assoc→bn,length_append→aK,length_set→bm,length_cons→cf,length_nil→gX,set_comm→E4,take→jg,drop→fW,map_set→yV,length_singleton→nq,length_pos_iff→BI,getElem?_set_ne→dz,drop_eq_nil_of_le→dW,append_nil→gI,length_map→eA,map_append→iJ,getD_eq_getElem?_getD→ax,getElem?_eq_none→fO
open Nat renaming zero_le→aS,le_refl→aM
open Option renaming getD_none→qU,isSome_some→nt,isNone_none→yM,getD_some→dE,isNone_some→vf
open Int renaming ofNat_lt→yU
open Go Go.Am Go.Proofs
namespace T
def aap{m:ah}(hm:VM m)(hw:∀ x,(iG m x).wk<=3){left:List (List Bool)}(hf:iP m left)(ae2:m.cls.length<=13)(res:List Int×List (List (Int×Int))×Bool)(hfv:Ds (kW m (fU m left)) (nR (kW m (fU m left)) 0 (aD m.cls.length []))=res):
  ak Tryz.prog 13 [.agg (aB m),.tree 1 (rowsOf bl left)] [] (.bH [.tree 1 (ints res.1),.tree 1 (rowsOf eZ res.2.1),.lit (.bool res.2.2)]) []:=by
 have h1:=Fh m hm.mb;rw[v5.2 hm]at h1;have h2:=ack m left (by have:=hm.cls;omega);rw[decide_eq_true hf]at h2;have wv:=hm.cls;refine ak.aL 138 0 [.cell 4 22,.tmp 5,.tmp 6] Tryz.func13 ?_;((try revert hK K);(repeat'(first|refine Vd @sq (X2 h1 h2) ?_|(refine V2 @sq ?_ ?_<;>try with_reducible intro hb)|(refine Xi ?_ ?_<;>try intro ht)|refine VD ?_ ?_|exact Xx|fail))<;>try with_reducible intro K hK)
 refine aW (λz:Nat×List (Ml Pr)×List Ob=>(⟨ao [(1,.tree 1 (rowsOf bl left)),(2,.ptr 0 0 0),(4,.ptr 1 0 0),(5,.lit (.slice none 0 0)),(7,.ptr 3 0 0),(36,.tree 4 (rowsOf aO m.aj)),(37,aam m.aj.length),(38,aam z.1)],z.2.2⟩:St))
  (λz=>z.1<=m.aj.length/\pO m z.2.1 z.1 z.2.2) (λz=>m.aj.length-z.1) (0,[],[.var (aB m),.var [.lit (.slice none 0 0)],.mp 2 [],.var (aB m++[.dP 2])]) ⟨aS _,pO.start m⟩ ?_ ?_
 ·exact Xv @aB.eq_1
 rintro⟨n,M,ob⟩⟨hn,hP⟩Ql an aw;dsimp only at hn hP ⊢;by_cases fR:n<m.aj.length
 ·have f3:=hP.o3;have e3:=aA f3;have fm:=hP.mp;have em:=aA fm;have sm:=fC fm;have uW:=hm.aj;generalize br:m.aj.getD n default=x at *;have gf:=Ea 4 [x.fst,x.snd] M;have pu:=λu v=>IE [x.fst,x.snd] u v (dM 4 M);have il:=λu=>IF [x.fst,x.snd] u (dM 4 M);have lP:=λ(y:Ob) (l:List Ob) (k:Nat)=>jJ ob l 2 k y;have wK:=λy l=>aA (jI (y:=y) fm) l;have A3:=λy y' l=>fC (y:=y') (jI (y:=y) fm) l;cases jq:ej M [x.fst,x.snd] with
  |none =>
   rw[jq]at gf;simp only[Option.map_none]at gf;have nX:Am.cS [x.fst,x.snd] (.ref (ob.length+3) 4 0 1) (dM 4 M)=dM 4 (gV [x.fst,x.snd] (ob.length+3) [x] M):=A4 [x.fst,x.snd] (ob.length+3) [x] M;((try revert hK K);(repeat'(first|refine Va (X5 @f3 @e3 @fm @em (X5 @sm @br @gf @pu (X5 @nX @lP @wK @A3 (X5 @aB.eq_1 @aO.eq_1 @a8 @sq (X5 @nu.{0} @bn.{0} @aK.{0} @bm.{0} (X3 @qU.{0} @nt.{0} @yM.{0})))))) ?_|(refine V2 (X5 @f3 @e3 @fm @em (X5 @sm @br @gf @pu (X5 @nX @lP @wK @A3 (X5 @aB.eq_1 @aO.eq_1 @a8 @sq (X5 @nu.{0} @bn.{0} @aK.{0} @bm.{0} (X3 @qU.{0} @nt.{0} @yM.{0})))))) ?_ ?_<;>try with_reducible intro hb)|(refine Xi ?_ ?_<;>try intro ht)|refine VD ?_ ?_|exact Xx|fail))<;>try with_reducible intro K hK)
   ·exact yU.2 (il _)
   have A5:=hP.first (l:=[.var (aO x),.var [aam x.fst,aam x.snd],.arr 4 [aO x],.arr 4 [aO x]]) (b:=3) fR rfl;rw[br]at A5;refine an _ (n+1,_,_) ⟨aad,A5 jq rfl⟩ aad ?_;exact Xv (X4 @aO.eq_1 @aK.{0} @cf.{0} @gX.{0})
  |some g =>
   rw[jq]at gf;simp only[Option.map_some]at gf;have dq:=(hP.gr _ g jq).1;have lO:=hP.len _ g jq;have eg:=aA dq;have nY:=λy:Ob=>cZ (y:=y) dq fm (by intro e;cases e);have u4:=λy l=>aA (nY y) l;have u5:=λy l z=>fC (nY y) l z;have j9:∀ L,((ob.set 2 (.mp 2 L)).set g.at_ .gone)[2]?=some (.mp 2 L):=λL=>cZ (jI fm) (nY _) (by intro e;cases e);have qO:=λL l=>aA (j9 L) l;have A6:g.at_≠2:=λe=>by rw[e,fm]at dq;cases dq
   have u6:∀ L Y l,(((ob.set 2 (.mp 2 L)).set g.at_ .gone)++l).set 2 Y=(ob.set g.at_ .gone).set 2 Y++l:=λL Y l=>by
    rw[fC (j9 L) l Y,E4 _ _ A6,nu,E4 _ _ A6.symm]
   have nX:Am.cS [x.fst,x.snd] (.ref (ob.length+3) 4 0 (g.l.length+1)) (dM 4 M)=dM 4 (gV [x.fst,x.snd] (ob.length+3) (g.l++[x]) M):=by rw[<- A4,aK];rfl
   have l9:rowsOf aO g.l++[[aam x.fst,aam x.snd,aam x.dN,.tree 1 (ints x.bj)]]=rowsOf aO (g.l++[x]):=by simp[rowsOf,aO]
   ((try revert hK K);(repeat'(first|refine Va (X5 @f3 @e3 @fm @em (X5 @sm @dq @eg @nY (X5 @u4 @u5 @j9 @qO (X5 @u6 @br @gf @pu (X5 @nX @l9 @lP @wK (X5 @aB.eq_1 @aO.eq_1 @a8 @sq (X5 @nu.{0} @bn.{0} @aK.{0} @bm.{0} (X3 @dE.{0} @nt.{0} @vf.{0})))))))) ?_|(refine V2 (X5 @f3 @e3 @fm @em (X5 @sm @dq @eg @nY (X5 @u4 @u5 @j9 @qO (X5 @u6 @br @gf @pu (X5 @nX @l9 @lP @wK (X5 @aB.eq_1 @aO.eq_1 @a8 @sq (X5 @nu.{0} @bn.{0} @aK.{0} @bm.{0} (X3 @dE.{0} @nt.{0} @vf.{0})))))))) ?_ ?_<;>try with_reducible intro hb)|(refine Xi ?_ ?_<;>try intro ht)|refine VD ?_ ?_|exact Xx|fail))<;>try with_reducible intro K hK)
   ·exact yU.2 (il _)
   have A5:=hP.more (l:=[.var (aO x),.var [aam x.fst,aam x.snd],.arr 4 [aO x],.arr 4 (rowsOf aO (g.l++[x]))]) (b:=3) fR (k:=[x.fst,x.snd]) (by rw[br]) jq (by rw[br];rfl);rw[br]at A5;refine an _ (n+1,_,_) ⟨aad,A5⟩ aad ?_;exact Xv (X4 @aO.eq_1 @aK.{0} @cf.{0} @gX.{0})
 ·have ze:n=m.aj.length:=Bv;rw[ze]at hP;obtain⟨hF,hS⟩:=hP.fin;have cz:=acm hm hw hf hF hS;((try revert hK K);(repeat'(first|refine Va X0 ?_|(refine V2 X0 ?_ ?_<;>try with_reducible intro hb)|(refine Xi ?_ ?_<;>try intro ht)|refine VD ?_ ?_|exact Xx|fail))<;>try with_reducible intro K hK)
  refine aw _ _ rfl ?_;clear an aw Ql;repeat(first|refine Xu ?_)
  repeat'(first|((fail_if_success (first|refine gx 10 ?_|refine gy 10 ?_));refine Xr X0 ?_;intro K hK)|refine Xo X0 ?_|(refine hK _ ?_;clear hK K)|(refine Xg X0 ?_ ?_<;>try intro hb)|(refine Xi ?_ ?_<;>try intro ht)|refine Xy ?_|refine Xd ?_ ?_|exact Xx|fail)
  refine pe 2 aac _ rfl ?_;intro K hK;simp(disch:=omega)only[Ac,↓Pc,simprocAttr,jg,fW];refine⟨rfl,(show jS Tryz.prog 26 [.ptr 3 0 0,.tree 1 (rowsOf bl left)] (some 61) _ _ from ?_)⟩;refine rL cz ?_;rintro r o2⟨bd,to,D,rfl,yy,u7⟩;refine⟨bd.len,?_⟩;have g0:=bd _ _ hP.o0;have g1:=bd _ _ hP.o1;clear cz hP hF hS bd;refine hK _ ?_;clear hK K;have ec:=aA yy;have IG:=aA g0;have IH:=aA g1;((try revert hK K);(repeat'(first|refine Va (X5 @g0 @g1 @yy @ec (X4 @IG @IH @aB.eq_1 @a8)) ?_|(refine V2 (X5 @g0 @g1 @yy @ec (X4 @IG @IH @aB.eq_1 @a8)) ?_ ?_<;>try with_reducible intro hb)|(refine Xi ?_ ?_<;>try intro ht)|refine VD ?_ ?_|exact Xx|fail))<;>try with_reducible intro K hK)
  have DR:=LB.start (N:=m.cls.length) g0 g1 yy u7;have qG:=DJ hm.opt (left:=left) m.cls.length 0 (aM _) Bv;rw[yh]at qG;have nV:=HS (m:=m) (left:=left) (c:=m.cls.length) (i:=0) (.inr ⟨rfl,aM _⟩) (aS _);rw[yh]at nV;have Vg:(kW m (fU m left)).length<=400000:=by
   have h1:=acn (m:=m) (X:=fU m left);have h2:(fU m left).length<=600:=Bv;have h3:=Nat.mul_le_mul h2 (Nat.add_le_add_right h2 1);omega
  have II:∀ C∈kW m (fU m left),C.length<=600/\∀ x∈C,qP m x:=λC hC=>⟨by have:=(HT hC).1;omega,λx hx=>nV x ((HT hC).2 x hx)⟩;generalize hA:kW m (fU m left)=A at *;have hDA:=u7.len;generalize Eb:o2.length=lp at *;generalize acp:o2++[Ob.arr 1 (aD m.cls.length [AV.lit (Value.slice none 0 0)])]=o3 at *;generalize hR:nR A 0 (aD m.cls.length [])=R;clear u7 g0 g1 yy ec IG IH acp;refine aW (λz:Nat×List Ob×List (Nat×List Int)=>(⟨ao [(2,.ptr 0 0 0),(4,.ptr 1 0 0),(5,.lit (.slice none 0 0)),(11,.ref to 1 0 D.length),(12,.ref lp 1 0 m.cls.length),(66,.ref to 1 0 D.length),(67,aam D.length),(68,aam z.1)],z.2.1⟩:St))
   (λz=>z.1<=D.length/\LB m A D to lp z.2.2 z.2.1/\z.2.2.length=m.cls.length/\(∀ c,(z.2.2.getD c default).2.length<=z.1*601)/\nR (A.drop z.1) z.1 (z.2.2.map (·.2))=R) (λz=>D.length-z.1) (0,o3,aD m.cls.length (0,[])) ⟨aS _,DR,Jy,λc=>by rw[LB.zero];exact aS _,by rw[LB.len];exact hR⟩ ?_ ?_
  ·exact Xv X0
  rintro⟨n2,tI,Q⟩⟨kk,hL,sr,ss,A7⟩Ql an aw;dsimp only at kk hL sr ss A7 ⊢;have fo:=hL.out;have eo:=aA fo;by_cases TO:n2<D.length
  ·have bf:=hL.ri.row n2 TO;have Ec:=II (A.getD n2 default) (aF Bv);have hdA:A.drop n2=A.getD n2 default::A.drop (n2+1):=dL A n2 default Bv;have Ed:(rowsOf bY D)[n2]?=some (bY (D.getD n2 default)):=vC _ _ TO;generalize A.getD n2 default=C at *;generalize D.getD n2 default=dd at *;obtain⟨jF,Ee⟩:=bf;obtain⟨dp,dl⟩:=dd;dsimp only at jF Ee;subst Ee;have uY:(rowsOf bY D).length=D.length:=by simp[rowsOf]
   have er:=aA jF;((try revert hK K);(repeat'(first|refine Va (X5 @fo @eo @jF @er (X4 @Ed @uY @bY.eq_1 @a8)) ?_|(refine V2 (X5 @fo @eo @jF @er (X4 @Ed @uY @bY.eq_1 @a8)) ?_ ?_<;>try with_reducible intro hb)|(refine Xi ?_ ?_<;>try intro ht)|refine VD ?_ ?_|exact Xx|fail))<;>try with_reducible intro K hK)
   generalize vW:uO n2 C (Q.map (·.2))=R1 at *;refine aW (λz:Nat×List Ob×List (Nat×List Int)=>(⟨ao [(2,.ptr 0 0 0),(4,.ptr 1 0 0),(5,.lit (.slice none 0 0)),(11,.ref to 1 0 D.length),(12,.ref lp 1 0 m.cls.length),(66,.ref to 1 0 D.length),(67,aam D.length),(68,aam n2),(13,aam n2),(73,.ref dp 2 0 C.length),(74,aam C.length),(75,aam z.1)],z.2.1⟩:St))
    (λz=>z.1<=C.length/\(LB m A D to lp z.2.2 z.2.1/\z.2.1[dp]?=some (.arr 2 (rowsOf av C)))/\z.2.2.length=m.cls.length/\(∀ c,(z.2.2.getD c default).2.length<=n2*601+z.1)/\uO n2 (C.drop z.1) (z.2.2.map (·.2))=R1) (λz=>C.length-z.1) (0,tI,Q) ⟨aS _,⟨hL,jF⟩,sr,by intro c;have:=ss c;dsimp only;omega,vW⟩ ?_ ?_
   ·exact Xv X0
   clear hL sr ss fo eo er jF;rintro⟨k,o4,Q4⟩⟨hk,⟨hL,jF⟩,sr,ss,qQ⟩dh bc bz;dsimp only at hk hL jF sr ss qQ ⊢;by_cases aY:k<C.length
   ·have tP:=Ec.2 _ (aF (l:=C) (i:=k) (d:=default) aY);have Ef:=Eg C aY;have Eh:(rowsOf av C).length=C.length:=by simp[rowsOf]
    have cR:C.drop k=C.getD k default::C.drop (k+1):=dL C k default aY;generalize C.getD k default=x at *;have yz:x.1.toNat<Q4.length:=by have:=tP.1;omega
    have had:=acs (n:=n2) (x:=x) yz;have hql:=ss x.1.toNat;have IJ:=hL.row x.1.toNat yz;have dq:=λn ob1 b l=>hL.grow yz (n:=n) (ob1:=ob1) (b:=b) (l:=l);have tH:=TP yz;have cJ:(rowsOf gp Q4).length=Q4.length:=by simp[rowsOf]
    have fl:=hL.ls;have el:=aA fl;have sl:=fC fl;have er:=aA jF;rw[cR,uO,had]at qQ;generalize sQ:Q4.getD x.1.toNat default=q at *;obtain⟨qp,qx⟩:=q;by_cases A8:qx=[]
    ·subst A8;rw[if_neg Jy]at qQ;have hE:gp (qp,[])=[.lit (.slice none 0 0)]:=rfl;have hx0:=tP.1.1;((try revert hK K);(repeat'(first|refine Va (X5 @fl @el @sl @jF (X5 @er @Ef @Eh @sQ (X5 @hE @cJ @hx0 @av.eq_1 (X3 @a8 @bn.{0} @aK.{0})))) ?_|(refine V2 (X5 @fl @el @sl @jF (X5 @er @Ef @Eh @sQ (X5 @hE @cJ @hx0 @av.eq_1 (X3 @a8 @bn.{0} @aK.{0})))) ?_ ?_<;>try with_reducible intro hb)|(refine Xi ?_ ?_<;>try intro ht)|refine VD ?_ ?_|exact Xx|fail))<;>try with_reducible intro K hK)
     have c9:(rowsOf gp Q4).set x.1.toNat [.ref (o4.length+2) 1 0 1]=rowsOf gp (Q4.set x.1.toNat (o4.length+2,[(n2:Int)])):=Cj (enc:=gp) Q4 x.1.toNat (o4.length+2,[(n2:Int)]);have r3:∀ u v:AV,[u].set 0 v=[v]:=λ_ _=>rfl;have r4:∀ u:AV,[u].length=1:=λ_=>rfl;have hG:=dq (n2:Int) o4 2 [.var (av x),.arr 1 [[aam n2]],.arr 1 [[aam n2]]] (λk o h _=>h) rfl rfl;refine ln [] (.take 0 (.take 3 (.take 4 (.both 1 (.both 2 (.take 5 (.take 6 (.take 7 (.take 8 .nil)))) 5 (.both 2 (.take 6 (.take 7 (.take 8 .nil))) 6 (.take 2 (.take 7 (.take 8 .nil))))) 5 (.both 1 (.both 2 (.take 6 (.take 7 (.take 8 .nil))) 6 (.take 2 (.take 7 (.take 8 .nil)))) 6 (.take 1 (.take 2 (.take 7 (.take 8 .nil))))))))) rfl aac (by decide +kernel) ?_;simp(disch:=omega)only[Ac,↓Pc,simprocAttr,Pw,fl,el,sl,hx0,cJ,sQ,hE,c9,r3,r4,av,a8,bn,aK];repeat'(first|with_reducible refine And.intro ?_ ?_|omega|with_reducible rfl)
     all_goals
      repeat(first|refine Xu ?_)
      ((try revert hK K);(repeat'(first|refine Va X0 ?_|(refine V2 X0 ?_ ?_<;>try with_reducible intro hb)|(refine Xi ?_ ?_<;>try intro ht)|refine VD ?_ ?_|exact Xx|fail))<;>try with_reducible intro K hK)
      refine bc _ (k+1,_,Q4.set x.1.toNat (o4.length+2,[(n2:Int)])) ⟨aad,⟨hG,aA (cZ jF fl (by intro e;cases e)) _⟩,by simpa using sr,λc=>?_,by dsimp only;rw[yV];exact qQ⟩ aad ?_
      ·dsimp only;rw[tW _ _ _ _ yz];have:=ss c;split
       ·simp only[nq];omega
       ·omega
      ·exact Xv @av.eq_1
    ·have hE:gp (qp,qx)=[.ref qp 1 0 qx.length]:=by unfold gp;rw[if_neg A8]
     obtain⟨u9,tN,TQ⟩:=IJ A8;dsimp only at u9 tN TQ hql qQ;have IK:=aA u9;have sq1:=fC u9;have hqp:=BI.2 A8;have TR:(qx.length:Int)-1=((qx.length-1:Nat):Int):=Bv;have hx0:=tP.1.1;generalize wC:qx.getD (qx.length-1) 0=la at *;((try revert hK K);(repeat'(first|refine Va (X5 @fl @el @sl @jF (X5 @er @Ef @Eh @sQ (X5 @hE @cJ @hx0 @u9 (X5 @IK @TR @wC @av.eq_1 (X3 @a8 @bn.{0} @aK.{0}))))) ?_|(refine V2 (X5 @fl @el @sl @jF (X5 @er @Ef @Eh @sQ (X5 @hE @cJ @hx0 @u9 (X5 @IK @TR @wC @av.eq_1 (X3 @a8 @bn.{0} @aK.{0}))))) ?_ ?_<;>try with_reducible intro hb)|(refine Xi ?_ ?_<;>try intro ht)|refine VD ?_ ?_|exact Xx|fail))<;>try with_reducible intro K hK)
     ·have c9:(rowsOf gp Q4).set x.1.toNat [.ref (o4.length+2) 1 0 (qx.length+1)]=rowsOf gp (Q4.set x.1.toNat (o4.length+2,qx++[(n2:Int)])):=by
       have h:=Cj (enc:=gp) Q4 x.1.toNat (o4.length+2,qx++[(n2:Int)]);rwa [show gp (o4.length+2,qx++[(n2:Int)])=[.ref (o4.length+2) 1 0 (qx.length+1)] by unfold gp;rw[if_neg Jy];simp]at h
      have r3:∀ u v:AV,[u].set 0 v=[v]:=λ_ _=>rfl;have r4:∀ u:AV,[u].length=1:=λ_=>rfl;have vI:ints qx++[[aam n2]]=ints (qx++[(n2:Int)]):=by simp[ints]
      have Ei:(o4.set qp .gone)[lp]?=some (.arr 1 (rowsOf gp Q4)):=by rw[dz TQ];exact fl
      have elg:=aA Ei;have slg:=fC Ei;have lP:=λ(l:List Ob) (k:Nat)=>jJ o4 l qp k .gone;have IL:∀ l:List Ob,(o4.set qp .gone++l)[o4.length]?=l[0]?:=λl=>jJ o4 l qp 0 .gone;have hG:=dq (n2:Int) (o4.set qp .gone) 2 [.var (av x),.arr 1 [[aam n2]],.arr 1 (ints (qx++[(n2:Int)]))] (λk o h cC=>by rw[dz (Ne.symm (cC A8))];exact h) Jy rfl;rw[if_neg (λhh=>ht hh.2)]at qQ;refine ln [] (.take 0 (.take 3 (.take 4 (.both 1 (.both 2 (.take 5 (.take 6 (.take 7 (.take 8 .nil)))) 5 (.both 2 (.take 6 (.take 7 (.take 8 .nil))) 6 (.take 2 (.take 7 (.take 8 .nil))))) 5 (.both 1 (.both 2 (.take 6 (.take 7 (.take 8 .nil))) 6 (.take 2 (.take 7 (.take 8 .nil)))) 6 (.take 1 (.take 2 (.take 7 (.take 8 .nil))))))))) rfl aac (by decide +kernel) ?_;simp(disch:=omega)only[Ac,↓Pc,simprocAttr,Pw,fl,el,sl,u9,IK,sq1,Ei,elg,slg,lP,IL,vI,hx0,cJ,sQ,hE,c9,r3,r4,av,a8,bn,aK,bm];repeat'(first|with_reducible refine And.intro ?_ ?_|omega|with_reducible rfl)
      all_goals
       repeat(first|refine Xu ?_)
       ((try revert hK K);(repeat'(first|refine Va X0 ?_|(refine V2 X0 ?_ ?_<;>try with_reducible intro hb)|(refine Xi ?_ ?_<;>try intro ht)|refine VD ?_ ?_|exact Xx|fail))<;>try with_reducible intro K hK)
       refine bc _ (k+1,_,Q4.set x.1.toNat (o4.length+2,qx++[(n2:Int)])) ⟨aad,⟨hG,aA (cZ (by rw[dz (λe=>by rw[e,jF]at u9;cases u9)];exact jF) Ei (by intro e;cases e)) _⟩,by simpa using sr,λc=>?_,by dsimp only;rw[yV];exact qQ⟩ aad ?_
       ·dsimp only;rw[tW _ _ _ _ yz];have:=ss c;split
        ·simp only[aK,nq];omega
        ·omega
       ·exact Xv @av.eq_1
     ·rw[if_pos ⟨hqp,ht⟩]at qQ;exact bc _ (k+1,_,Q4) ⟨aad,⟨hL.app _,er _⟩,sr,λc=>by have:=ss c;dsimp only;omega,qQ⟩ aad (Xv X0)
   ·have hkC:k=C.length:=Bv;((try revert hK K);(repeat'(first|refine Va X0 ?_|(refine V2 X0 ?_ ?_<;>try with_reducible intro hb)|(refine Xi ?_ ?_<;>try intro ht)|refine VD ?_ ?_|exact Xx|fail))<;>try with_reducible intro K hK)
    refine bz _ _ rfl ?_;clear bc bz dh;repeat(first|refine Xu ?_)
    ((try revert hK K);(repeat'(first|refine Va X0 ?_|(refine V2 X0 ?_ ?_<;>try with_reducible intro hb)|(refine Xi ?_ ?_<;>try intro ht)|refine VD ?_ ?_|exact Xx|fail))<;>try with_reducible intro K hK)
    rw[hkC,dW (aM _),uO]at qQ;rw[hdA,nR,vW]at A7;have hC6:=Ec.1;refine an _ (n2+1,o4,Q4) ⟨aad,hL,sr,λc=>by have:=ss c;dsimp only;omega,by dsimp only;rw[qQ];exact A7⟩ aad (Xv X0)
  ·have hnD:n2=D.length:=Bv;((try revert hK K);(repeat'(first|refine Va X0 ?_|(refine V2 X0 ?_ ?_<;>try with_reducible intro hb)|(refine Xi ?_ ?_<;>try intro ht)|refine VD ?_ ?_|exact Xx|fail))<;>try with_reducible intro K hK)
   refine aw _ _ rfl ?_;clear an aw Ql;repeat(first|refine Xu ?_)
   rw[hnD,hDA,dW (aM _),nR]at A7;refine cU (hL.GU 12 (by rw[sr];simp only[Kc,simprocAttr])) ?_;obtain⟨g0,g1,yA,TS⟩:=hL.kill;generalize oO (mA lp Q) tI=o5 at *;rw[A7];clear hL fo eo DR;have pL:=RS m (SH m left);rw[hA]at pL;have ae4:=pL.oG;obtain⟨ky,aH⟩:=RY (N:=m.cls.length) (A:=A) (λC hC y hy=>by have:=((II C hC).2 y hy).1;omega);rw[hR]at ky aH;have DK:=ky.mn Bv Bv (λc=>by have:=aH c;omega);have r9:=ky.left Bv Bv (λc=>by have:=aH c;omega);have A9:=TT R A.length;rw[DK]at A9;have hAD:(A.length:Int)=(D.length:Int):=Bv;dsimp only at A9;have TU:=Sr r9;obtain⟨aE,mm,i1,i2,i3,i4,i5⟩:=Dt r9;generalize hG:(da R A.length).1=G at *;generalize tF:(da R A.length).2=Pl at *;rw[hAD]at A9;have e0:=aA g0;have e1:=aA g1;have aq:Ds A R=res:=by rw[<- hA,<- hR]at *;exact hfv
   unfold Ds at aq;rw[DK]at aq;dsimp only at aq;have k1:=λy=>jI (y:=y) g1;by_cases Ba:G=[]
   ·rw[if_pos Ba]at aq;subst Ba;have k2:=λy z=>jI (y:=z) (k1 y);((try revert hK K);(repeat'(first|refine Vc (X5 @g0 @g1 @yA @k1 (X2 @k2 @a8)) A9 ?_|(refine V2 (X5 @g0 @g1 @yA @k1 (X2 @k2 @a8)) ?_ ?_<;>try with_reducible intro hb)|(refine Xi ?_ ?_<;>try intro ht)|refine VD ?_ ?_|exact Xx|fail))<;>try with_reducible intro K hK)
    simp(disch:=omega)only[Ac,↓Pc,simprocAttr,k2];rw[<- aq];refine rp [] true aac trivial aac aac (IM ?_ ?_ (.pure rfl))
    ·exact .snap _ _ rfl (.nil 1)
    ·exact .snap _ _ rfl (.nil 1)
   ·have hgp:=BI.2 Ba;have ae6:=TU Ba;rw[if_neg Ba]at aq;((try revert hK K);(repeat'(first|refine Vc (X5 @g0 @g1 @yA @k1 @a8) A9 ?_|(refine V2 (X5 @g0 @g1 @yA @k1 @a8) ?_ ?_<;>try with_reducible intro hb)|(refine Xi ?_ ?_<;>try intro ht)|refine VD ?_ ?_|exact Xx|fail))<;>try with_reducible intro K hK)
    have hGl:G.length<=13:=by rw[<- hG,i3];have h1:=Ad aE 0;have h2:=ky.len;dsimp only;omega
    have acC:Pl.Pairwise (· < ·):=by rw[<- tF,i3];exact Ss _ _
    have TV:∀ n∈Pl,0<=n/\n<A.length:=λn hn=>by rw[<- tF,i3]at hn;have:=tp _ _ n hn;omega
    have IN:=LC.start (G:=G) (P:=Pl) (cZ g0 g1 (by intro e;cases e)) (k1 _) (cZ yA g1 (by intro e;cases e)) (TS.kill g1 (by intro l e;cases e)) pL.nd acC TV;rw[bm]at IN;refine aW (λz:Nat×Nat×List Ob=>(⟨ao [(4,.ptr 1 0 0),(5,.ref z.2.1 1 0 z.1),(11,.ref to 1 0 D.length),(118,.tree 1 (ints Pl)),(119,aam Pl.length),(120,aam z.1)],z.2.2⟩:St))
     (λz=>z.1<=Pl.length/\LC m A D G to Pl z.1 z.2.1 z.2.2) (λz=>Pl.length-z.1) (0,o5.length,o5.set 1 (.var [.tree 1 (ints G)])++[.arr 1 []]) ⟨aS _,IN⟩ ?_ ?_
    ·refine aC.trans (aC.nil 5 1 (by simp only[Kc,simprocAttr]) aac) ?_;exact Xv @bm.{0}
    clear IN TS yA g0 g1 e0 e1 k1;rintro⟨z,p,yi⟩⟨hz,hC⟩Ql an aw;dsimp only at hz hC ⊢;have fo:=hC.out;have eo:=aA fo;by_cases Ej:z<Pl.length
    ·have RX:=TV _ (aF (d:=0) Ej);have bf:=hC.row z (aM _) Ej;have uY:(rowsOf bY D).length=D.length:=by simp[rowsOf]
     have Ed:(rowsOf bY D)[(Pl.getD z 0).toNat]?=some (bY (D.getD (Pl.getD z 0).toNat default)):=vC _ _ Bv;have c9:=λob1 y y2 l j hb hl=>hC.step Ej (ob1:=ob1) (y:=y) (y2:=y2) (l:=l) (j:=j) hb hl;generalize va:Pl.getD z 0=nx at *;have Ec:=II (A.getD nx.toNat default) (aF Bv);generalize hCe:A.getD nx.toNat default=C at *;generalize D.getD nx.toNat default=dd at *;obtain⟨dp,dl⟩:=dd;dsimp only at bf c9;obtain⟨jF,Ee⟩:=bf;subst Ee;repeat'(first|((fail_if_success (first|refine gx 29 ?_|refine gy 29 ?_));refine Xr @va ?_;intro K hK)|refine Xo @va ?_|(refine hK _ ?_;clear hK K)|(refine Xg @va ?_ ?_<;>try intro hb)|(refine Xi ?_ ?_<;>try intro ht)|refine Xy ?_|refine Xd ?_ ?_|exact Xx|fail)
     have IP:=acE C [] 28 (.tree 1 (ints G)) 1 (λx=>!iH G x) yi dp hC.o1 (by rw[gI];exact jF) Jy (by have:=Ec.1;omega) (λρ=>rfl) (λρ=>by rw[gI,xn]) (λx _=>acF G Bv x);simp only[Bool.not_not]at IP;have HZ:=hC.o1;have tX:=hC.new;generalize hZ:List.map (λn=>List.filter (iH G) (A.getD n.toNat [])) (Pl.take z)=Z at *;refine acd 6 aac _ rfl ?_;intro K K1 hK nT;simp(disch:=omega)only[Ac,↓Pc,simprocAttr,jg,fW,fo,uY,Ed,bY];refine⟨⟨RX.1,Bv⟩,rfl,(show jS Tryz.prog 27 [.ref dp 2 0 C.length,.fn 28 [.ptr 1 0 0]] (some 130) _ _ from ?_)⟩;refine rL IP ?_;rintro r o6⟨rfl,hb,Ek,TW,hw6⟩;refine⟨hb.1,?_⟩;refine nT _ _ (aC.ab' 130 dp (v:=.tree 2 (rowsOf av (C.filter (iH G)))) TW (qR.bV (lo:=dp) (hi:=dp+1) (.inr ⟨dp,Ek,by rw[cK];rfl,aM _,Nat.lt_succ_self _,TW,λrow hr=>?_⟩) (λi h1 h2=>Bv) (λrow hr v hv=>?_))) ?_
     ·rcases List.mem_append.1 hr with h|h
      ·exact nD _ row h
      ·exact hw6 row h
     ·obtain⟨x,_,rfl⟩:=List.mem_map.1 hr;simp only[av,List.mem_cons,List.not_mem_nil,or_false]at hv;rcases hv with rfl|rfl
      ·exact .inl ⟨_,rfl⟩
      ·exact .inl ⟨_,rfl⟩
     clear nT K1 IP;have TX:p≠dp:=λe=>by rw[e,jF]at tX;cases tX
     have IQ:(o6.set dp .gone)[p]?=some (.arr 1 (rowsOf eZ Z)):=by
      rw[dz (Ne.symm TX),hb.2 p TX (List.getElem?_eq_some_iff.1 tX).1];exact tX
     have ep6:=aA IQ;have sp6:=fC IQ;have yB:(rowsOf eZ Z).length=z:=by rw[cK,<- hZ,eA,List.length_take];omega
     have st6:=c9 o6 .gone .gone [.arr 1 [[.tree 2 (rowsOf av (C.filter (iH G)))]],.arr 1 (rowsOf eZ Z++[[.tree 2 (rowsOf av (C.filter (iH G)))]])] 1 hb;have hZt:jg z (rowsOf eZ Z)=rowsOf eZ Z:=List.take_of_length_le Bv;have lP:=λ(l:List Ob) (k:Nat)=>jJ o6 l dp k .gone;have IL:∀ l:List Ob,(o6.set dp .gone++l)[o6.length]?=l[0]?:=λl=>jJ o6 l dp 0 .gone;have zq:∀ v:AV,[[v]].all (λrow=>row.all ca)=ca v:=λv=>Jy;simp(disch:=omega)only[Ac,↓Pc,simprocAttr,jg,fW,IQ,ep6,sp6,lP,IL,yB,hZt,zq,a8,bm,bn,aK];refine⟨Bv,hK _ ?_⟩;clear hK K;((try revert hK K);(repeat'(first|refine Va X0 ?_|(refine V2 X0 ?_ ?_<;>try with_reducible intro hb)|(refine Xi ?_ ?_<;>try intro ht)|refine VD ?_ ?_|exact Xx|fail))<;>try with_reducible intro K hK)
     refine an _ (z+1,o6.length+1,_) ⟨aad,st6 ?_⟩ aad ?_
     ·rw[jb Ej,iJ,hZ,show Pl.getD z default=nx from va];show some _=some _;rw[<- hCe];unfold rowsOf;rw[iJ];rfl
     ·exact Xv @bm.{0}
    ·have jD:z=Pl.length:=Bv;subst jD;((try revert hK K);(repeat'(first|refine Va X0 ?_|(refine V2 X0 ?_ ?_<;>try with_reducible intro hb)|(refine Xi ?_ ?_<;>try intro ht)|refine VD ?_ ?_|exact Xx|fail))<;>try with_reducible intro K hK)
     refine aw _ _ rfl ?_;clear an aw Ql;repeat(first|refine Xu ?_)
     have tX:=hC.new;rw[List.take_length,show(Pl.map λn=>(A.getD n.toNat []).filter (iH G))=kX A (G,Pl) from rfl]at tX;have cz:(kX A (G,Pl)).length=Pl.length:=by unfold kX;rw[eA]
     have hfn:=ZC (x8 m (fU m left)) pL ky r9 (λx hx=>by have:=(nV x hx).1;omega);have e3:da R A.length=(G,Pl):=by rw[<- hG,<- tF]
     rw[e3]at hfn;have TY:=acL (kX A (G,Pl)) (λx hx=>by obtain⟨_,_,_,h⟩:=hfn x hx;exact h) Bv;have ij:=Ay gG (kX A (G,Pl)) [];generalize hXX:kX A (G,Pl)=X at *;rw[cz]at TY;generalize hSS:gj gG X []=S at *;have h1:=hC.o1;have s0:=cZ (y:=.arr 1 (rowsOf eZ S)) h1 tX (by intro e;cases e);((try revert hK K);(repeat'(first|refine Va @h1 ?_|(refine V2 @h1 ?_ ?_<;>try with_reducible intro hb)|(refine Xi ?_ ?_<;>try intro ht)|refine VD ?_ ?_|exact Xx|fail))<;>try with_reducible intro K hK)
     refine fw [p] TY Jy ⟨by show yi[p]?=some (bD _ _);rw[R9];exact tX,trivial⟩ ⟨.eq rfl,.pure rfl,trivial⟩ ?_;simp(disch:=omega)only[Ac,↓Pc,simprocAttr,R9];have IS:=λy=>jI (y:=y) s0;refine hK _ ?_;clear hK K;((try revert hK K);(repeat'(first|refine Va (X2 @s0 @IS) ?_|(refine V2 (X2 @s0 @IS) ?_ ?_<;>try with_reducible intro hb)|(refine Xi ?_ ?_<;>try intro ht)|refine VD ?_ ?_|exact Xx|fail))<;>try with_reducible intro K hK)
     simp(disch:=omega)only[Ac,↓Pc,simprocAttr,s0,IS];rw[<- aq];have DN:Pl.length=(rowsOf eZ S).length:=by rw[cK,<- cz,ij];simp
     dsimp only;have gT:((yi.set p (Ob.arr 1 (rowsOf eZ S))).set 1 (.var [.tree 1 (ints G)]))[p]?=some (.arr 1 (rowsOf eZ S)):=cZ (jI tX) s0 (by intro e;cases e);refine rp [] true aac trivial aac aac (IM (.pure rfl) (.snap _ _ rfl (df.flat gT (nD _) DN (λh=>by unfold kept at h;simp at h) (sV _))) (.pure rfl))
def acM:mn [[0,1],[0,1],[1,0]] 2=([0,1,2],[0,1],0):=by
 simp[mn,check,nc,m9,da,gB,pD,ee,iO,cY,oF,gd]
def acN:xT [[0]] 1=([0],0):=by
 simp[xT,check,nc,m9,gB,pD,ee]
def HU:ak Tryz.prog 6 [] [] (.lit (.bool true)) []:=by
 have hd:=TT [[0,1],[0,1],[1,0]] 2;rw[acM]at hd;have hm:=acO [[0]] 1;rw[acN]at hm;refine ak.aL 42 0 [.tmp 0] Tryz.func6 ?_;refine Ns aac ?_;intro K hK;simp(disch:=omega)only[Ac,↓Pc,simprocAttr];refine hK _ ?_;clear hK K;refine OZ 4 aac ?_;intro K K1 hK nT;simp(disch:=omega)only[Ac,↓Pc,simprocAttr,jg];refine nT _ ⟨ao [(10,.tree 1 (cV [[0,1],[0,1],[1,0]]))],[]⟩ ?_ ?_
 ·refine aC.ae [] true _ _ aac trivial aac aac ⟨.snap _ _ rfl ?_,trivial⟩;simp only[Kc,simprocAttr];exact df.mk rfl rfl (nE aac) (FB _) ⟨⟨df.mk rfl rfl (nE aac) (lh _) ⟨⟨.lit _,trivial⟩,⟨.lit _,trivial⟩,trivial⟩,trivial⟩,⟨df.mk rfl rfl (nE aac) (lh _) ⟨⟨.lit _,trivial⟩,⟨.lit _,trivial⟩,trivial⟩,trivial⟩,⟨df.mk rfl rfl (nE aac) (lh _) ⟨⟨.lit _,trivial⟩,⟨.lit _,trivial⟩,trivial⟩,trivial⟩,trivial⟩
 clear nT K1;simp(disch:=omega)only[Ac,↓Pc,simprocAttr,fW];refine bx hd rfl rfl ?_;simp(disch:=omega)only[Ac,↓Pc,simprocAttr];refine hK _ ?_;clear hK K;refine cU (σ':=⟨ao [(1,.tree 1 (ints [0,1,2])),(2,.tree 1 (ints [0,1])),(3,aam 0)],[]⟩) (Xv X0) ?_;refine OZ 2 aac ?_;intro K K1 hK nT;simp(disch:=omega)only[Ac,↓Pc,simprocAttr,jg];refine nT _ ⟨ao [(1,.tree 1 (ints [0,1,2])),(2,.tree 1 (ints [0,1])),(3,aam 0),(17,.tree 1 (cV [[0]]))],[]⟩ ?_ ?_
 ·refine aC.ae [] true _ _ aac trivial aac aac ⟨.pure rfl,.pure rfl,.pure rfl,.snap _ _ rfl ?_,trivial⟩;simp only[Kc,simprocAttr];exact df.mk rfl rfl (nE aac) (FB _) ⟨⟨df.mk rfl rfl (nE aac) (lh _) ⟨⟨.lit _,trivial⟩,trivial⟩,trivial⟩,trivial⟩
 clear nT K1;simp(disch:=omega)only[Ac,↓Pc,simprocAttr,fW];refine bx hm rfl rfl ?_;simp(disch:=omega)only[Ac,↓Pc,simprocAttr];refine hK _ ?_;clear hK K;refine cU (σ':=⟨ao [(1,.tree 1 (ints [0,1,2])),(2,.tree 1 (ints [0,1])),(3,aam 0),(4,.tree 1 (ints [0])),(5,aam 0)],[]⟩) (Xv X0) ?_;((try revert hK K);(repeat'(first|refine Vb X0 ?_|(refine V2 X0 ?_ ?_<;>try with_reducible intro hb)|(refine Xi ?_ ?_<;>try intro ht)|refine VD ?_ ?_|exact Xx|fail))<;>try with_reducible intro K hK)
 refine sP [] (Fu [0,1,2] [0,1,2] aac) aac trivial ⟨.pure rfl,bt.bV rfl (lh _) rfl aac (o9 _),trivial⟩ rfl Jy ?_;((try revert hK K);(repeat'(first|refine Vb X0 ?_|(refine V2 X0 ?_ ?_<;>try with_reducible intro hb)|(refine Xi ?_ ?_<;>try intro ht)|refine VD ?_ ?_|exact Xx|fail))<;>try with_reducible intro K hK)
 refine sP [] (Fu [0,1] [0,1] aac) aac trivial ⟨.pure rfl,bt.bV rfl (lh _) rfl aac (o9 _),trivial⟩ rfl Jy ?_;((try revert hK K);(repeat'(first|refine Vb X0 ?_|(refine V2 X0 ?_ ?_<;>try with_reducible intro hb)|(refine Xi ?_ ?_<;>try intro ht)|refine VD ?_ ?_|exact Xx|fail))<;>try with_reducible intro K hK)
 refine sP [] (Fu [0] [0] aac) aac trivial ⟨.pure rfl,bt.bV rfl (lh _) rfl aac (o9 _),trivial⟩ rfl Jy ?_;((try revert hK K);(repeat'(first|refine Vb X0 ?_|(refine V2 X0 ?_ ?_<;>try with_reducible intro hb)|(refine Xi ?_ ?_<;>try intro ht)|refine VD ?_ ?_|exact Xx|fail))<;>try with_reducible intro K hK)
 exact aQ rfl rfl
structure HM(m:ah)(q:Nat):Prop where
 mb:MB m
 oG:m.cls.length<=q
 wk:∀ l∈m.cls,∀ o∈l,o.wk<=3
def HM.wks{m:ah}{q:Nat}(h:HM m q):WK m:=λx=>by
 have h0:(default:bF).wk<=3:=aac;unfold iG;by_cases h1:x.1.toNat<m.cls.length
 ·by_cases h2:x.2.toNat<(m.cls.getD x.1.toNat default).length
  ·exact h.wk _ (aF h1) _ (aF h2)
  ·rw[ax (l:=m.cls.getD x.1.toNat default),fO Bv];exact h0
 ·rw[ax (l:=m.cls),fO Bv];show(([]:List bF).getD x.2.toNat default).wk<=3;exact h0
def aav(L:List Int)(k:Nat)(hk:k<=L.length)(hL:L.length<1000000):
  di Tryz.prog 8 [.ptr 0 0 0] [fV L k] (λr os=>∃ m k',VM m/\HM m 4/\k'<=L.length/\r=.agg (aB m)/\os=[fV L k']):=by
 have m7:=vz L k 3 (by unfold eN;omega) aac hk hL;have bd:=fQ hk;generalize uq L k 3=b at *;generalize db L k=k2 at *;clear hk;unfold fV at *;refine di.aL 9 1 [.cell 2 32] Tryz.func8 ?_;((try revert hK K);(repeat'(first|refine Va X0 ?_|(refine V2 X0 ?_ ?_<;>try with_reducible intro hb)|(refine Xi ?_ ?_<;>try intro ht)|refine VD ?_ ?_|exact Xx|fail))<;>try with_reducible intro K hK)
 (refine Xn [0] (m7) ?_;simp(disch:=omega)only[Ac,↓Pc,simprocAttr])
 have TZ:∀ (env:Nat->AV) (m:ah) (k':Nat),VM m->HM m 4->k'<=L.length->env 2=.ptr 1 0 0->jm Tryz.prog 1 [.cell 2 32] (λr os=>∃ m k',VM m/\HM m 4/\k'<=L.length/\r=.agg (aB m)/\os=[fV L k']) .ret ⟨env,[fV L k',.var (aB m)]⟩:=by
  intro env m k' xj hh aY vU;unfold jm fV;simp only[fc,eM,vU];simp(disch:=omega)only[Ac,↓Pc,simprocAttr,vU];refine⟨_,_,⟨m,k',xj,hh,aY,rfl,rfl⟩,?_⟩;exact Xw true [0] X0
 repeat'(first|((fail_if_success (first|refine gx 2 ?_|refine gy 2 ?_));(fail_if_success (first|refine gx 3 ?_|refine gy 3 ?_));refine Xr X0 ?_;intro K hK)|refine Xo X0 ?_|(refine hK _ ?_;clear hK K)|(refine Xg X0 ?_ ?_<;>try intro hb)|(refine Xi ?_ ?_<;>try intro ht)|refine Xy ?_|refine Xd ?_ ?_|exact Xx|fail)
 ·have tc:=ab5 L k2 4 4 bd hL aac aac aac;unfold fV at tc;refine pe 1 aac _ rfl ?_;intro K hK;simp(disch:=omega)only[Ac,↓Pc,simprocAttr,jg,fW];refine⟨rfl,(show jS Tryz.prog 20 [.ptr 0 0 0,aam (4:Nat),aam (4:Nat)] (some 6) _ _ from ?_)⟩;refine Cm [0] tc aac ⟨rfl,trivial⟩ ⟨.eq rfl,.pure rfl,.pure rfl,trivial⟩ ?_;rintro r os⟨m,k,hm,hk,rfl,rfl⟩;simp(disch:=omega)only[Ac,↓Pc,simprocAttr];refine hK _ ?_;clear hK K;((try revert hK K);(repeat'(first|refine Va X0 ?_|(refine V2 X0 ?_ ?_<;>try with_reducible intro hb)|(refine Xi ?_ ?_<;>try intro ht)|refine VD ?_ ?_|exact Xx|fail))<;>try with_reducible intro K hK)
  exact TZ _ m k hm.vm ⟨hm.vm.mb,hm.oG,hm.wk⟩ hk (by simp only[Kc,simprocAttr])
 ·have T1:=abS L k2 4 2 bd hL aac aac;unfold fV at T1;refine pe 1 aac _ rfl ?_;intro K hK;simp(disch:=omega)only[Ac,↓Pc,simprocAttr,jg,fW];refine⟨rfl,(show jS Tryz.prog 21 [.ptr 0 0 0,aam (4:Nat),aam (2:Nat)] (some 8) _ _ from ?_)⟩;refine Cm [0] T1 aac ⟨rfl,trivial⟩ ⟨.eq rfl,.pure rfl,.pure rfl,trivial⟩ ?_;rintro r os⟨m,k,hm,hk,rfl,rfl⟩;simp(disch:=omega)only[Ac,↓Pc,simprocAttr];refine hK _ ?_;clear hK K;((try revert hK K);(repeat'(first|refine Va X0 ?_|(refine V2 X0 ?_ ?_<;>try with_reducible intro hb)|(refine Xi ?_ ?_<;>try intro ht)|refine VD ?_ ?_|exact Xx|fail))<;>try with_reducible intro K hK)
  exact TZ _ m k hm.vm ⟨hm.vm.mb,hm.oG,hm.wk⟩ hk (by simp only[Kc,simprocAttr])
end T

