import Derived.Test.YtodilglobhifaaaGreatDoorX40
import Derived.Test.YtodilglobhifaaaGreatDoorX35
import Derived.Test.YtodilglobhifaaaGreatDoorX46
set_option linter.all false
set_option maxHeartbeats 0
set_option maxRecDepth 20000
open List renaming replicate→ax,set_set→nT,append_assoc→bN,length_append→aJ,length_set→bt,length_cons→cK,length_nil→g8,set_comm→Du,take→hJ,drop→lv,map_set→Ap,length_singleton→nO,length_pos_iff→qX,getElem?_set_ne→dq,drop_eq_nil_of_le→dw,append_nil→fF,mem_append→bj,mem_map→cN,mem_cons→cD,not_mem_nil→qS,length_map→iS,map_append→nS,getD_eq_getElem?_getD→aw,getElem?_eq_none→iF,mem_singleton→bm
open Nat renaming zero_le→aN,le_refl→aM
open Option renaming getD_none→sG,isSome_some→m5,isNone_none→Ht,getD_some→dK,isNone_some→xW
open Int renaming ofNat_lt→xN
open And renaming intro→kC
open Go Go.Am Go.Proofs
namespace T
def WM{m:ah}(hm:VM m)(hw:∀ x,(fh m x).wk<=3){left:List (List Bool)}(hf:jd m left)(aag:m.cls.length<=13)(res:List Int×List (List (Int×Int))×Bool)(pN:rS (iR m (cZ m left)) (mc (iR m (cZ m left)) 0 (ax m.cls.length []))=res):
  ao Tryz.prog 13 [.agg (aA m),.tree 1 (rowsOf bE left)] [] (.bP [.tree 1 (ints res.1),.tree 1 (rowsOf aH res.2.1),.lit (.bool res.2.2)]) []:=by
 have h1:=P0 m hm.mb;rw[yT.2 hm]at h1;have h2:=P6 m left (by have:=hm.cls;omega);rw[decide_eq_true hf]at h2;have Cm:=hm.cls;refine ao.aO 138 0 [.cell 4 22,.tmp 5,.tmp 6] Tryz.func13 ?_;((try revert hK K);(repeat'(first|refine Vd @qL (X2 h1 h2) ?_|(refine V2 @qL ?_ ?_<;>try with_reducible intro hb)|(refine Xi ?_ ?_<;>try intro ht)|refine VD ?_ ?_|exact Xx|fail))<;>try with_reducible intro K hK)
 refine aX (λz:Nat×List (Ml Pr)×List Ob=>(⟨au [(1,.tree 1 (rowsOf bE left)),(2,.ptr 0 0 0),(4,.ptr 1 0 0),(5,.lit (.slice none 0 0)),(7,.ptr 3 0 0),(36,.tree 4 (rowsOf bL m.ae)),(37,aah m.ae.length),(38,aah z.1)],z.2.2⟩:St))
  (λz=>z.1<=m.ae.length/\oM m z.2.1 z.1 z.2.2) (λz=>m.ae.length-z.1) (0,[],[.var (aA m),.var [.lit (.slice none 0 0)],.mp 2 [],.var (aA m++[.dx 2])]) ⟨aN _,oM.start m⟩ ?_ ?_
 ·exact Xv @aA.eq_1
 rintro⟨n,M,ob⟩⟨hn,hP⟩Ql an ay;dsimp only at hn hP ⊢;by_cases fC:n<m.ae.length
 ·have f3:=hP.o3;have e3:=aD f3;have fm:=hP.mp;have em:=aD fm;have sm:=iq fm;have hp4:=hm.ae;generalize bK:m.ae.getD n default=x at *;have fL:=Cn 4 [x.fst,x.snd] M;have pu:=λu v=>F0 [x.fst,x.snd] u v (dy 4 M);have il:=λu=>F1 [x.fst,x.snd] u (dy 4 M);have jD:=λ(y:Ob) (l:List Ob) (k:Nat)=>mg ob l 2 k y;have vw:=λy l=>aD (jB (y:=y) fm) l;have zF:=λy y' l=>iq (y:=y') (jB (y:=y) fm) l;cases iJ:ee M [x.fst,x.snd] with
  |none =>
   rw[iJ]at fL;simp only[Option.map_none]at fL;have mS:Am.cB [x.fst,x.snd] (.ref (ob.length+3) 4 0 1) (dy 4 M)=dy 4 (gz [x.fst,x.snd] (ob.length+3) [x] M):=zG [x.fst,x.snd] (ob.length+3) [x] M;((try revert hK K);(repeat'(first|refine Va (X5 @f3 @e3 @fm @em (X5 @sm @bK @fL @pu (X5 @mS @jD @vw @zF (X5 @aA.eq_1 @bL.eq_1 @bz @qL (X5 @nT.{0} @bN.{0} @aJ.{0} @bt.{0} (X3 @sG.{0} @m5.{0} @Ht.{0})))))) ?_|(refine V2 (X5 @f3 @e3 @fm @em (X5 @sm @bK @fL @pu (X5 @mS @jD @vw @zF (X5 @aA.eq_1 @bL.eq_1 @bz @qL (X5 @nT.{0} @bN.{0} @aJ.{0} @bt.{0} (X3 @sG.{0} @m5.{0} @Ht.{0})))))) ?_ ?_<;>try with_reducible intro hb)|(refine Xi ?_ ?_<;>try intro ht)|refine VD ?_ ?_|exact Xx|fail))<;>try with_reducible intro K hK)
   ·exact xN.2 (il _)
   have zH:=hP.first (l:=[.var (bL x),.var [aah x.fst,aah x.snd],.arr 4 [bL x],.arr 4 [bL x]]) (b:=3) fC rfl;rw[bK]at zH;refine an _ (n+1,_,_) ⟨aaa,zH iJ rfl⟩ aaa ?_;exact Xv (X4 @bL.eq_1 @aJ.{0} @cK.{0} @g8.{0})
  |some g =>
   rw[iJ]at fL;simp only[Option.map_some]at fL;have cT:=(hP.gr _ g iJ).1;have pO:=hP.len _ g iJ;have eg:=aD cT;have mT:=λy:Ob=>cP (y:=y) cT fm (by intro e;cases e);have tH:=λy l=>aD (mT y) l;have tI:=λy l z=>iq (mT y) l z;have ln:∀ L,((ob.set 2 (.mp 2 L)).set g.at_ .gone)[2]?=some (.mp 2 L):=λL=>cP (jB fm) (mT _) (by intro e;cases e);have pP:=λL l=>aD (ln L) l;have zI:g.at_≠2:=λe=>by rw[e,fm]at cT;cases cT
   have tJ:∀ L Y l,(((ob.set 2 (.mp 2 L)).set g.at_ .gone)++l).set 2 Y=(ob.set g.at_ .gone).set 2 Y++l:=λL Y l=>by
    rw[iq (ln L) l Y,Du _ _ zI,nT,Du _ _ zI.symm]
   have mS:Am.cB [x.fst,x.snd] (.ref (ob.length+3) 4 0 (g.l.length+1)) (dy 4 M)=dy 4 (gz [x.fst,x.snd] (ob.length+3) (g.l++[x]) M):=by rw[<- zG,aJ];rfl
   have gT:rowsOf bL g.l++[[aah x.fst,aah x.snd,aah x.cX,.tree 1 (ints x.bg)]]=rowsOf bL (g.l++[x]):=by simp[rowsOf,bL]
   ((try revert hK K);(repeat'(first|refine Va (X5 @f3 @e3 @fm @em (X5 @sm @cT @eg @mT (X5 @tH @tI @ln @pP (X5 @tJ @bK @fL @pu (X5 @mS @gT @jD @vw (X5 @aA.eq_1 @bL.eq_1 @bz @qL (X5 @nT.{0} @bN.{0} @aJ.{0} @bt.{0} (X3 @dK.{0} @m5.{0} @xW.{0})))))))) ?_|(refine V2 (X5 @f3 @e3 @fm @em (X5 @sm @cT @eg @mT (X5 @tH @tI @ln @pP (X5 @tJ @bK @fL @pu (X5 @mS @gT @jD @vw (X5 @aA.eq_1 @bL.eq_1 @bz @qL (X5 @nT.{0} @bN.{0} @aJ.{0} @bt.{0} (X3 @dK.{0} @m5.{0} @xW.{0})))))))) ?_ ?_<;>try with_reducible intro hb)|(refine Xi ?_ ?_<;>try intro ht)|refine VD ?_ ?_|exact Xx|fail))<;>try with_reducible intro K hK)
   ·exact xN.2 (il _)
   have zH:=hP.more (l:=[.var (bL x),.var [aah x.fst,aah x.snd],.arr 4 [bL x],.arr 4 (rowsOf bL (g.l++[x]))]) (b:=3) fC (k:=[x.fst,x.snd]) (by rw[bK]) iJ (by rw[bK];rfl);rw[bK]at zH;refine an _ (n+1,_,_) ⟨aaa,zH⟩ aaa ?_;exact Xv (X4 @bL.eq_1 @aJ.{0} @cK.{0} @g8.{0})
 ·have zB:n=m.ae.length:=Ay;rw[zB]at hP;obtain⟨hF,hS⟩:=hP.fin;have cS:=WN hm hw hf hF hS;((try revert hK K);(repeat'(first|refine Va X0 ?_|(refine V2 X0 ?_ ?_<;>try with_reducible intro hb)|(refine Xi ?_ ?_<;>try intro ht)|refine VD ?_ ?_|exact Xx|fail))<;>try with_reducible intro K hK)
  refine ay _ _ rfl ?_;clear an ay Ql;repeat(first|refine Xu ?_)
  repeat'(first|((fail_if_success (first|refine gP 10 ?_|refine gQ 10 ?_));refine Xr X0 ?_;intro K hK)|refine Xo X0 ?_|(refine hK _ ?_;clear hK K)|(refine Xg X0 ?_ ?_<;>try intro hb)|(refine Xi ?_ ?_<;>try intro ht)|refine Xy ?_|refine Xd ?_ ?_|exact Xx|fail)
  refine uA 2 Ha _ rfl ?_;intro K hK;simp(disch:=omega)only[Ac,↓Pc,simprocAttr,hJ,lv];refine⟨rfl,(show lL Tryz.prog 26 [.ptr 3 0 0,.tree 1 (rowsOf bE left)] (some 61) _ _ from ?_)⟩;refine BO cS ?_;rintro r o2⟨aK,to,D,rfl,xd,nB⟩;refine⟨aK.len,?_⟩;have g0:=aK _ _ hP.o0;have g1:=aK _ _ hP.o1;clear cS hP hF hS aK;refine hK _ ?_;clear hK K;have ec:=aD xd;have F2:=aD g0;have F3:=aD g1;((try revert hK K);(repeat'(first|refine Va (X5 @g0 @g1 @xd @ec (X4 @F2 @F3 @aA.eq_1 @bz)) ?_|(refine V2 (X5 @g0 @g1 @xd @ec (X4 @F2 @F3 @aA.eq_1 @bz)) ?_ ?_<;>try with_reducible intro hb)|(refine Xi ?_ ?_<;>try intro ht)|refine VD ?_ ?_|exact Xx|fail))<;>try with_reducible intro K hK)
  have P7:=LB.start (N:=m.cls.length) g0 g1 xd nB;have pQ:=xe hm.opt (left:=left) m.cls.length 0 (aM _) Ay;rw[pR]at pQ;have j4:=zJ (m:=m) (left:=left) (c:=m.cls.length) (i:=0) (.inr ⟨rfl,aM _⟩) (aN _);rw[pR]at j4;have r9:(iR m (cZ m left)).length<=400000:=by
   have h1:=WO (m:=m) (X:=cZ m left);have h2:(cZ m left).length<=600:=Ay;have h3:=Nat.mul_le_mul h2 (Nat.add_le_add_right h2 1);omega
  have xf:∀ C∈iR m (cZ m left),C.length<=600/\∀ x∈C,iB m x:=λC hC=>⟨by have:=(F4 hC).1;omega,λx hx=>j4 x ((F4 hC).2 x hx)⟩;generalize hA:iR m (cZ m left)=A at *;have WQ:=nB.len;generalize Co:o2.length=lp at *;generalize WR:o2++[Ob.arr 1 (ax m.cls.length [AV.lit (Value.slice none 0 0)])]=o3 at *;generalize hR:mc A 0 (ax m.cls.length [])=R;clear nB g0 g1 xd ec F2 F3 WR;refine aX (λz:Nat×List Ob×List (Nat×List Int)=>(⟨au [(2,.ptr 0 0 0),(4,.ptr 1 0 0),(5,.lit (.slice none 0 0)),(11,.ref to 1 0 D.length),(12,.ref lp 1 0 m.cls.length),(66,.ref to 1 0 D.length),(67,aah D.length),(68,aah z.1)],z.2.1⟩:St))
   (λz=>z.1<=D.length/\LB m A D to lp z.2.2 z.2.1/\z.2.2.length=m.cls.length/\(∀ c,(z.2.2.getD c default).2.length<=z.1*601)/\mc (A.drop z.1) z.1 (z.2.2.map (·.2))=R) (λz=>D.length-z.1) (0,o3,ax m.cls.length (0,[])) ⟨aN _,P7,Dg,λc=>by rw[LB.zero];exact aN _,by rw[LB.len];exact hR⟩ ?_ ?_
  ·exact Xv X0
  rintro⟨n2,jf,Q⟩⟨iV,hL,jE,jF,zK⟩Ql an ay;dsimp only at iV hL jE jF zK ⊢;have fo:=hL.out;have eo:=aD fo;by_cases P8:n2<D.length
  ·have aP:=hL.ri.row n2 P8;have Cp:=xf (A.getD n2 default) (aG Ay);have WS:A.drop n2=A.getD n2 default::A.drop (n2+1):=cF A n2 default Ay;have vx:(rowsOf gy D)[n2]?=some (gy (D.getD n2 default)):=nc _ _ P8;generalize A.getD n2 default=C at *;generalize D.getD n2 default=dd at *;obtain⟨iC,Cq⟩:=aP;obtain⟨dp,dl⟩:=dd;dsimp only at iC Cq;subst Cq;have mU:(rowsOf gy D).length=D.length:=by simp[rowsOf]
   have er:=aD iC;((try revert hK K);(repeat'(first|refine Va (X5 @fo @eo @iC @er (X4 @vx @mU @gy.eq_1 @bz)) ?_|(refine V2 (X5 @fo @eo @iC @er (X4 @vx @mU @gy.eq_1 @bz)) ?_ ?_<;>try with_reducible intro hb)|(refine Xi ?_ ?_<;>try intro ht)|refine VD ?_ ?_|exact Xx|fail))<;>try with_reducible intro K hK)
   generalize uY:tu n2 C (Q.map (·.2))=R1 at *;refine aX (λz:Nat×List Ob×List (Nat×List Int)=>(⟨au [(2,.ptr 0 0 0),(4,.ptr 1 0 0),(5,.lit (.slice none 0 0)),(11,.ref to 1 0 D.length),(12,.ref lp 1 0 m.cls.length),(66,.ref to 1 0 D.length),(67,aah D.length),(68,aah n2),(13,aah n2),(73,.ref dp 2 0 C.length),(74,aah C.length),(75,aah z.1)],z.2.1⟩:St))
    (λz=>z.1<=C.length/\(LB m A D to lp z.2.2 z.2.1/\z.2.1[dp]?=some (.arr 2 (rowsOf aj C)))/\z.2.2.length=m.cls.length/\(∀ c,(z.2.2.getD c default).2.length<=n2*601+z.1)/\tu n2 (C.drop z.1) (z.2.2.map (·.2))=R1) (λz=>C.length-z.1) (0,jf,Q) ⟨aN _,⟨hL,iC⟩,jE,by intro c;have:=jF c;dsimp only;omega,uY⟩ ?_ ?_
   ·exact Xv X0
   clear hL jE jF fo eo er iC;rintro⟨k,o4,Q4⟩⟨hk,⟨hL,iC⟩,jE,jF,pS⟩cC aS bf;dsimp only at hk hL iC jE jF pS ⊢;by_cases aQ:k<C.length
   ·have oN:=Cp.2 _ (aG (l:=C) (i:=k) (d:=default) aQ);have kq:=nC C aQ;have Cr:(rowsOf aj C).length=C.length:=by simp[rowsOf]
    have bM:C.drop k=C.getD k default::C.drop (k+1):=cF C k default aQ;generalize C.getD k default=x at *;have nD:x.1.toNat<Q4.length:=by have:=oN.1;omega
    have zL:=WT (n:=n2) (x:=x) nD;have F5:=jF x.1.toNat;have zM:=hL.row x.1.toNat nD;have cT:=λn ob1 b l=>hL.grow nD (n:=n) (ob1:=ob1) (b:=b) (l:=l);have Cs:=F6 nD;have bl:(rowsOf dj Q4).length=Q4.length:=by simp[rowsOf]
    have fl:=hL.ls;have el:=aD fl;have sl:=iq fl;have er:=aD iC;rw[bM,tu,zL]at pS;generalize kR:Q4.getD x.1.toNat default=q at *;obtain⟨qp,qx⟩:=q;by_cases pT:qx=[]
    ·subst pT;rw[if_neg Dg]at pS;have hE:dj (qp,[])=[.lit (.slice none 0 0)]:=rfl;have hx0:=oN.1.1;((try revert hK K);(repeat'(first|refine Va (X5 @fl @el @sl @iC (X5 @er @kq @Cr @kR (X5 @hE @bl @hx0 @aj.eq_1 (X3 @bz @bN.{0} @aJ.{0})))) ?_|(refine V2 (X5 @fl @el @sl @iC (X5 @er @kq @Cr @kR (X5 @hE @bl @hx0 @aj.eq_1 (X3 @bz @bN.{0} @aJ.{0})))) ?_ ?_<;>try with_reducible intro hb)|(refine Xi ?_ ?_<;>try intro ht)|refine VD ?_ ?_|exact Xx|fail))<;>try with_reducible intro K hK)
     have eb:(rowsOf dj Q4).set x.1.toNat [.ref (o4.length+2) 1 0 1]=rowsOf dj (Q4.set x.1.toNat (o4.length+2,[(n2:Int)])):=sS (enc:=dj) Q4 x.1.toNat (o4.length+2,[(n2:Int)]);have r3:∀ u v:AV,[u].set 0 v=[v]:=λ_ _=>rfl;have r4:∀ u:AV,[u].length=1:=λ_=>rfl;have hG:=cT (n2:Int) o4 2 [.var (aj x),.arr 1 [[aah n2]],.arr 1 [[aah n2]]] (λk o h _=>h) rfl rfl;refine lN [] (.take 0 (.take 3 (.take 4 (.both 1 (.both 2 (.take 5 (.take 6 (.take 7 (.take 8 .nil)))) 5 (.both 2 (.take 6 (.take 7 (.take 8 .nil))) 6 (.take 2 (.take 7 (.take 8 .nil))))) 5 (.both 1 (.both 2 (.take 6 (.take 7 (.take 8 .nil))) 6 (.take 2 (.take 7 (.take 8 .nil)))) 6 (.take 1 (.take 2 (.take 7 (.take 8 .nil))))))))) rfl Ha (by decide +kernel) ?_;simp(disch:=omega)only[Ac,↓Pc,simprocAttr,Pw,fl,el,sl,hx0,bl,kR,hE,eb,r3,r4,aj,bz,bN,aJ];repeat'(first|with_reducible refine kC ?_ ?_|omega|with_reducible rfl)
     all_goals
      repeat(first|refine Xu ?_)
      ((try revert hK K);(repeat'(first|refine Va X0 ?_|(refine V2 X0 ?_ ?_<;>try with_reducible intro hb)|(refine Xi ?_ ?_<;>try intro ht)|refine VD ?_ ?_|exact Xx|fail))<;>try with_reducible intro K hK)
      refine aS _ (k+1,_,Q4.set x.1.toNat (o4.length+2,[(n2:Int)])) ⟨aaa,⟨hG,aD (cP iC fl (by intro e;cases e)) _⟩,by simpa using jE,λc=>?_,by dsimp only;rw[Ap];exact pS⟩ aaa ?_
      ·dsimp only;rw[qM _ _ _ _ nD];have:=jF c;split
       ·simp only[nO];omega
       ·omega
      ·exact Xv @aj.eq_1
    ·have hE:dj (qp,qx)=[.ref qp 1 0 qx.length]:=by unfold dj;rw[if_neg pT]
     obtain⟨jG,pU,zN⟩:=zM pT;dsimp only at jG pU zN F5 pS;have xg:=aD jG;have Cu:=iq jG;have P9:=qX.2 pT;have P':(qx.length:Int)-1=((qx.length-1:Nat):Int):=Ay;have hx0:=oN.1.1;generalize vy:qx.getD (qx.length-1) 0=la at *;((try revert hK K);(repeat'(first|refine Va (X5 @fl @el @sl @iC (X5 @er @kq @Cr @kR (X5 @hE @bl @hx0 @jG (X5 @xg @P' @vy @aj.eq_1 (X3 @bz @bN.{0} @aJ.{0}))))) ?_|(refine V2 (X5 @fl @el @sl @iC (X5 @er @kq @Cr @kR (X5 @hE @bl @hx0 @jG (X5 @xg @P' @vy @aj.eq_1 (X3 @bz @bN.{0} @aJ.{0}))))) ?_ ?_<;>try with_reducible intro hb)|(refine Xi ?_ ?_<;>try intro ht)|refine VD ?_ ?_|exact Xx|fail))<;>try with_reducible intro K hK)
     ·have eb:(rowsOf dj Q4).set x.1.toNat [.ref (o4.length+2) 1 0 (qx.length+1)]=rowsOf dj (Q4.set x.1.toNat (o4.length+2,qx++[(n2:Int)])):=by
       have h:=sS (enc:=dj) Q4 x.1.toNat (o4.length+2,qx++[(n2:Int)]);rwa [show dj (o4.length+2,qx++[(n2:Int)])=[.ref (o4.length+2) 1 0 (qx.length+1)] by unfold dj;rw[if_neg Dg];simp]at h
      have r3:∀ u v:AV,[u].set 0 v=[v]:=λ_ _=>rfl;have r4:∀ u:AV,[u].length=1:=λ_=>rfl;have uH:ints qx++[[aah n2]]=ints (qx++[(n2:Int)]):=by simp[ints]
      have sa:(o4.set qp .gone)[lp]?=some (.arr 1 (rowsOf dj Q4)):=by rw[dq zN];exact fl
      have Cv:=aD sa;have Cw:=iq sa;have jD:=λ(l:List Ob) (k:Nat)=>mg o4 l qp k .gone;have xh:∀ l:List Ob,(o4.set qp .gone++l)[o4.length]?=l[0]?:=λl=>mg o4 l qp 0 .gone;have hG:=cT (n2:Int) (o4.set qp .gone) 2 [.var (aj x),.arr 1 [[aah n2]],.arr 1 (ints (qx++[(n2:Int)]))] (λk o h bI=>by rw[dq (Ne.symm (bI pT))];exact h) Dg rfl;rw[if_neg (λhh=>ht hh.2)]at pS;refine lN [] (.take 0 (.take 3 (.take 4 (.both 1 (.both 2 (.take 5 (.take 6 (.take 7 (.take 8 .nil)))) 5 (.both 2 (.take 6 (.take 7 (.take 8 .nil))) 6 (.take 2 (.take 7 (.take 8 .nil))))) 5 (.both 1 (.both 2 (.take 6 (.take 7 (.take 8 .nil))) 6 (.take 2 (.take 7 (.take 8 .nil)))) 6 (.take 1 (.take 2 (.take 7 (.take 8 .nil))))))))) rfl Ha (by decide +kernel) ?_;simp(disch:=omega)only[Ac,↓Pc,simprocAttr,Pw,fl,el,sl,jG,xg,Cu,sa,Cv,Cw,jD,xh,uH,hx0,bl,kR,hE,eb,r3,r4,aj,bz,bN,aJ,bt];repeat'(first|with_reducible refine kC ?_ ?_|omega|with_reducible rfl)
      all_goals
       repeat(first|refine Xu ?_)
       ((try revert hK K);(repeat'(first|refine Va X0 ?_|(refine V2 X0 ?_ ?_<;>try with_reducible intro hb)|(refine Xi ?_ ?_<;>try intro ht)|refine VD ?_ ?_|exact Xx|fail))<;>try with_reducible intro K hK)
       refine aS _ (k+1,_,Q4.set x.1.toNat (o4.length+2,qx++[(n2:Int)])) ⟨aaa,⟨hG,aD (cP (by rw[dq (λe=>by rw[e,iC]at jG;cases jG)];exact iC) sa (by intro e;cases e)) _⟩,by simpa using jE,λc=>?_,by dsimp only;rw[Ap];exact pS⟩ aaa ?_
       ·dsimp only;rw[qM _ _ _ _ nD];have:=jF c;split
        ·simp only[aJ,nO];omega
        ·omega
       ·exact Xv @aj.eq_1
     ·rw[if_pos ⟨P9,ht⟩]at pS;exact aS _ (k+1,_,Q4) ⟨aaa,⟨hL.app _,er _⟩,jE,λc=>by have:=jF c;dsimp only;omega,pS⟩ aaa (Xv X0)
   ·have WU:k=C.length:=Ay;((try revert hK K);(repeat'(first|refine Va X0 ?_|(refine V2 X0 ?_ ?_<;>try with_reducible intro hb)|(refine Xi ?_ ?_<;>try intro ht)|refine VD ?_ ?_|exact Xx|fail))<;>try with_reducible intro K hK)
    refine bf _ _ rfl ?_;clear aS bf cC;repeat(first|refine Xu ?_)
    ((try revert hK K);(repeat'(first|refine Va X0 ?_|(refine V2 X0 ?_ ?_<;>try with_reducible intro hb)|(refine Xi ?_ ?_<;>try intro ht)|refine VD ?_ ?_|exact Xx|fail))<;>try with_reducible intro K hK)
    rw[WU,dw (aM _),tu]at pS;rw[WS,mc,uY]at zK;have hC6:=Cp.1;refine an _ (n2+1,o4,Q4) ⟨aaa,hL,jE,λc=>by have:=jF c;dsimp only;omega,by dsimp only;rw[pS];exact zK⟩ aaa (Xv X0)
  ·have WV:n2=D.length:=Ay;((try revert hK K);(repeat'(first|refine Va X0 ?_|(refine V2 X0 ?_ ?_<;>try with_reducible intro hb)|(refine Xi ?_ ?_<;>try intro ht)|refine VD ?_ ?_|exact Xx|fail))<;>try with_reducible intro K hK)
   refine ay _ _ rfl ?_;clear an ay Ql;repeat(first|refine Xu ?_)
   rw[WV,WQ,dw (aM _),mc]at zK;refine cE (hL.BQ 12 (by rw[jE];simp only[Kc,simprocAttr])) ?_;obtain⟨g0,g1,xi,Qa⟩:=hL.kill;generalize mi (ku lp Q) jf=o5 at *;rw[zK];clear hL fo eo P7;have nE:=OH m (F7 m left);rw[hA]at nE;have WW:=nE.j5;obtain⟨ik,aE⟩:=OP (N:=m.cls.length) (A:=A) (λC hC y hy=>by have:=((xf C hC).2 y hy).1;omega);rw[hR]at ik aE;have vz:=ik.jb Ay Ay (λc=>by have:=aE c;omega);have mV:=ik.left Ay Ay (λc=>by have:=aE c;omega);have qN:=Qd R A.length;rw[vz]at qN;have WX:(A.length:Int)=(D.length:Int):=Ay;dsimp only at qN;have WY:=U' mV;obtain⟨aB,mm,i1,i2,i3,i4,i5⟩:=vf mV;generalize hG:(ca R A.length).1=G at *;generalize zO:(ca R A.length).2=Pl at *;rw[WX]at qN;have e0:=aD g0;have e1:=aD g1;have az:rS A R=res:=by rw[<- hA,<- hR]at *;exact pN
   unfold rS at az;rw[vz]at az;dsimp only at az;have k1:=λy=>jB (y:=y) g1;by_cases vA:G=[]
   ·rw[if_pos vA]at az;subst vA;have k2:=λy z=>jB (y:=z) (k1 y);((try revert hK K);(repeat'(first|refine Vc (X5 @g0 @g1 @xi @k1 (X2 @k2 @bz)) qN ?_|(refine V2 (X5 @g0 @g1 @xi @k1 (X2 @k2 @bz)) ?_ ?_<;>try with_reducible intro hb)|(refine Xi ?_ ?_<;>try intro ht)|refine VD ?_ ?_|exact Xx|fail))<;>try with_reducible intro K hK)
    simp(disch:=omega)only[Ac,↓Pc,simprocAttr,k2];rw[<- az];refine eU [] true Ha trivial Ha Ha (pV ?_ ?_ (.pure rfl))
    ·exact .snap _ _ rfl (.nil 1)
    ·exact .snap _ _ rfl (.nil 1)
   ·have hgp:=qX.2 vA;have aak:=WY vA;rw[if_neg vA]at az;((try revert hK K);(repeat'(first|refine Vc (X5 @g0 @g1 @xi @k1 @bz) qN ?_|(refine V2 (X5 @g0 @g1 @xi @k1 @bz) ?_ ?_<;>try with_reducible intro hb)|(refine Xi ?_ ?_<;>try intro ht)|refine VD ?_ ?_|exact Xx|fail))<;>try with_reducible intro K hK)
    have Qe:G.length<=13:=by rw[<- hG,i3];have h1:=va aB 0;have h2:=ik.len;dsimp only;omega
    have WZ:Pl.Pairwise (· < ·):=by rw[<- zO,i3];exact Ox _ _
    have Qf:∀ n∈Pl,0<=n/\n<A.length:=λn hn=>by rw[<- zO,i3]at hn;have:=pB _ _ n hn;omega
    have F8:=LC.start (G:=G) (P:=Pl) (cP g0 g1 (by intro e;cases e)) (k1 _) (cP xi g1 (by intro e;cases e)) (Qa.kill g1 (by intro l e;cases e)) nE.nd WZ Qf;rw[bt]at F8;refine aX (λz:Nat×Nat×List Ob=>(⟨au [(4,.ptr 1 0 0),(5,.ref z.2.1 1 0 z.1),(11,.ref to 1 0 D.length),(118,.tree 1 (ints Pl)),(119,aah Pl.length),(120,aah z.1)],z.2.2⟩:St))
     (λz=>z.1<=Pl.length/\LC m A D G to Pl z.1 z.2.1 z.2.2) (λz=>Pl.length-z.1) (0,o5.length,o5.set 1 (.var [.tree 1 (ints G)])++[.arr 1 []]) ⟨aN _,F8⟩ ?_ ?_
    ·refine aC.trans (aC.nil 5 1 (by simp only[Kc,simprocAttr]) Ha) ?_;exact Xv @bt.{0}
    clear F8 Qa xi g0 g1 e0 e1 k1;rintro⟨z,p,tK⟩⟨hz,hC⟩Ql an ay;dsimp only at hz hC ⊢;have fo:=hC.out;have eo:=aD fo;by_cases Cy:z<Pl.length
    ·have B5:=Qf _ (aG (d:=0) Cy);have aP:=hC.row z (aM _) Cy;have mU:(rowsOf gy D).length=D.length:=by simp[rowsOf]
     have vx:(rowsOf gy D)[(Pl.getD z 0).toNat]?=some (gy (D.getD (Pl.getD z 0).toNat default)):=nc _ _ Ay;have eb:=λob1 y y2 l j hb hl=>hC.step Cy (ob1:=ob1) (y:=y) (y2:=y2) (l:=l) (j:=j) hb hl;generalize kv:Pl.getD z 0=nx at *;have Cp:=xf (A.getD nx.toNat default) (aG Ay);generalize W0:A.getD nx.toNat default=C at *;generalize D.getD nx.toNat default=dd at *;obtain⟨dp,dl⟩:=dd;dsimp only at aP eb;obtain⟨iC,Cq⟩:=aP;subst Cq;repeat'(first|((fail_if_success (first|refine gP 29 ?_|refine gQ 29 ?_));refine Xr @kv ?_;intro K hK)|refine Xo @kv ?_|(refine hK _ ?_;clear hK K)|(refine Xg @kv ?_ ?_<;>try intro hb)|(refine Xi ?_ ?_<;>try intro ht)|refine Xy ?_|refine Xd ?_ ?_|exact Xx|fail)
     have F9:=W1 C [] 28 (.tree 1 (ints G)) 1 (λx=>!eG G x) tK dp hC.o1 (by rw[fF];exact iC) Dg (by have:=Cp.1;omega) (λρ=>rfl) (λρ=>by rw[fF,we]) (λx _=>W2 G Ay x);simp only[Bool.not_not]at F9;have hB1:=hC.o1;have sd:=hC.new;generalize hZ:List.map (λn=>List.filter (eG G) (A.getD n.toNat [])) (Pl.take z)=Z at *;refine W3 6 Ha _ rfl ?_;intro K K1 hK tL;simp(disch:=omega)only[Ac,↓Pc,simprocAttr,hJ,lv,fo,mU,vx,gy];refine⟨⟨B5.1,Ay⟩,rfl,(show lL Tryz.prog 27 [.ref dp 2 0 C.length,.fn 28 [.ptr 1 0 0]] (some 130) _ _ from ?_)⟩;refine BO F9 ?_;rintro r o6⟨rfl,hb,CA,Qg,W4⟩;refine⟨hb.1,?_⟩;refine tL _ _ (aC.W5 130 dp (v:=.tree 2 (rowsOf aj (C.filter (eG G)))) Qg (pJ.bO (lo:=dp) (hi:=dp+1) (.inr ⟨dp,CA,by rw[cH];rfl,aM _,Nat.lt_succ_self _,Qg,λrow hr=>?_⟩) (λi h1 h2=>Ay) (λrow hr v hv=>?_))) ?_
     ·rcases bj.1 hr with h|h
      ·exact gb _ row h
      ·exact W4 row h
     ·obtain⟨x,_,rfl⟩:=cN.1 hr;simp only[aj,cD,qS,or_false]at hv;rcases hv with rfl|rfl
      ·exact .inl ⟨_,rfl⟩
      ·exact .inl ⟨_,rfl⟩
     clear tL K1 F9;have Qh:p≠dp:=λe=>by rw[e,iC]at sd;cases sd
     have Ga:(o6.set dp .gone)[p]?=some (.arr 1 (rowsOf aH Z)):=by
      rw[dq (Ne.symm Qh),hb.2 p Qh (List.getElem?_eq_some_iff.1 sd).1];exact sd
     have W6:=aD Ga;have W7:=iq Ga;have xj:(rowsOf aH Z).length=z:=by rw[cH,<- hZ,iS,List.length_take];omega
     have W8:=eb o6 .gone .gone [.arr 1 [[.tree 2 (rowsOf aj (C.filter (eG G)))]],.arr 1 (rowsOf aH Z++[[.tree 2 (rowsOf aj (C.filter (eG G)))]])] 1 hb;have W9:hJ z (rowsOf aH Z)=rowsOf aH Z:=List.take_of_length_le Ay;have jD:=λ(l:List Ob) (k:Nat)=>mg o6 l dp k .gone;have xh:∀ l:List Ob,(o6.set dp .gone++l)[o6.length]?=l[0]?:=λl=>mg o6 l dp 0 .gone;have yg:∀ v:AV,[[v]].all (λrow=>row.all bU)=bU v:=λv=>Dg;simp(disch:=omega)only[Ac,↓Pc,simprocAttr,hJ,lv,Ga,W6,W7,jD,xh,xj,W9,yg,bz,bt,bN,aJ];refine⟨Ay,hK _ ?_⟩;clear hK K;((try revert hK K);(repeat'(first|refine Va X0 ?_|(refine V2 X0 ?_ ?_<;>try with_reducible intro hb)|(refine Xi ?_ ?_<;>try intro ht)|refine VD ?_ ?_|exact Xx|fail))<;>try with_reducible intro K hK)
     refine an _ (z+1,o6.length+1,_) ⟨aaa,W8 ?_⟩ aaa ?_
     ·rw[tE Cy,nS,hZ,show Pl.getD z default=nx from kv];show some _=some _;rw[<- W0];unfold rowsOf;rw[nS];rfl
     ·exact Xv @bt.{0}
    ·have iY:z=Pl.length:=Ay;subst iY;((try revert hK K);(repeat'(first|refine Va X0 ?_|(refine V2 X0 ?_ ?_<;>try with_reducible intro hb)|(refine Xi ?_ ?_<;>try intro ht)|refine VD ?_ ?_|exact Xx|fail))<;>try with_reducible intro K hK)
     refine ay _ _ rfl ?_;clear an ay Ql;repeat(first|refine Xu ?_)
     have sd:=hC.new;rw[List.take_length,show(Pl.map λn=>(A.getD n.toNat []).filter (eG G))=ll A (G,Pl) from rfl]at sd;have cS:(ll A (G,Pl)).length=Pl.length:=by unfold ll;rw[iS]
     have hfn:=B7 (tj m (cZ m left)) nE ik mV (λx hx=>by have:=(j4 x hx).1;omega);have e3:ca R A.length=(G,Pl):=by rw[<- hG,<- zO]
     rw[e3]at hfn;have Qi:=Xa (ll A (G,Pl)) (λx hx=>by obtain⟨_,_,_,h⟩:=hfn x hx;exact h) Ay;have jy:=B8 dR (ll A (G,Pl)) [];generalize Gb:ll A (G,Pl)=X at *;rw[cS]at Qi;generalize Gc:eF dR X []=S at *;have h1:=hC.o1;have pe:=cP (y:=.arr 1 (rowsOf aH S)) h1 sd (by intro e;cases e);((try revert hK K);(repeat'(first|refine Va @h1 ?_|(refine V2 @h1 ?_ ?_<;>try with_reducible intro hb)|(refine Xi ?_ ?_<;>try intro ht)|refine VD ?_ ?_|exact Xx|fail))<;>try with_reducible intro K hK)
     refine fD [p] Qi Dg ⟨by show tK[p]?=some (bu _ _);rw[OW];exact sd,trivial⟩ ⟨.eq rfl,.pure rfl,trivial⟩ ?_;simp(disch:=omega)only[Ac,↓Pc,simprocAttr,OW];have Gd:=λy=>jB (y:=y) pe;refine hK _ ?_;clear hK K;((try revert hK K);(repeat'(first|refine Va (X2 @pe @Gd) ?_|(refine V2 (X2 @pe @Gd) ?_ ?_<;>try with_reducible intro hb)|(refine Xi ?_ ?_<;>try intro ht)|refine VD ?_ ?_|exact Xx|fail))<;>try with_reducible intro K hK)
     simp(disch:=omega)only[Ac,↓Pc,simprocAttr,pe,Gd];rw[<- az];have Qj:Pl.length=(rowsOf aH S).length:=by rw[cH,<- cS,jy];simp
     dsimp only;have zP:((tK.set p (Ob.arr 1 (rowsOf aH S))).set 1 (.var [.tree 1 (ints G)]))[p]?=some (.arr 1 (rowsOf aH S)):=cP (jB sd) pe (by intro e;cases e);refine eU [] true Ha trivial Ha Ha (pV (.pure rfl) (.snap _ _ rfl (cA.flat zP (gb _) Qj (λh=>by unfold kept at h;simp at h) (jt _))) (.pure rfl))
def Xf{m:ah}(CC:MB m)(hl:m.cls.length<1000000){left:List (List Bool)}(hb:¬(VM m/\jd m left)):
  ao Tryz.prog 13 [.agg (aA m),.tree 1 (rowsOf bE left)] [] (.bP [.tree 1 (ints []),.tree 1 (rowsOf aH []),.lit (.bool false)]) []:=by
 have h1:=P0 m CC;have h2:=P6 m left hl;by_cases hv:l7 m=0
 ·rw[hv]at h1;rw[decide_eq_false (λh=>hb ⟨yT.1 hv,h⟩)]at h2;refine ao.aO 138 0 [.cell 4 22,.tmp 5,.tmp 6] Tryz.func13 ?_;((try revert hK K);(repeat'(first|refine Vd X0 (X2 h1 h2) ?_|(refine V2 X0 ?_ ?_<;>try with_reducible intro hb)|(refine Xi ?_ ?_<;>try intro ht)|refine VD ?_ ?_|exact Xx|fail))<;>try with_reducible intro K hK)
  refine eU [] true Ha trivial Ha Ha (pV ?_ ?_ (.pure rfl))
  ·exact .snap _ _ rfl (.nil 1)
  ·exact .snap _ _ rfl (.nil 1)
 ·generalize decide (jd m left)=fb at *;generalize l7 m=e at *;refine ao.aO 138 0 [.cell 4 22,.tmp 5,.tmp 6] Tryz.func13 ?_;have h3:(e != 0)=true:=by simp[hv]
  ((try revert hK K);(repeat'(first|refine Vd @h3 (X2 h1 h2) ?_|(refine V2 @h3 ?_ ?_<;>try with_reducible intro hb)|(refine Xi ?_ ?_<;>try intro ht)|refine VD ?_ ?_|exact Xx|fail))<;>try with_reducible intro K hK)
  refine eU [] true Ha trivial Ha Ha (pV ?_ ?_ (.pure rfl))
  ·exact .snap _ _ rfl (.nil 1)
  ·exact .snap _ _ rfl (.nil 1)
def Xj:jb [[0,1],[0,1],[1,0]] 2=([0,1,2],[0,1],0):=by
 simp[jb,check,iP,iO,ca,fX,oE,ed,ij,cy,ns,fK]
def Xm:wI [[0]] 1=([0],0):=by
 simp[wI,check,iP,iO,fX,oE,ed]
def Qk:ao Tryz.prog 6 [] [] (.lit (.bool true)) []:=by
 have hd:=Qd [[0,1],[0,1],[1,0]] 2;rw[Xj]at hd;have hm:=Xp [[0]] 1;rw[Xm]at hm;refine ao.aO 42 0 [.tmp 0] Tryz.func6 ?_;refine Jh Ha ?_;intro K hK;simp(disch:=omega)only[Ac,↓Pc,simprocAttr];refine hK _ ?_;clear hK K;refine J3 4 Ha ?_;intro K K1 hK tL;simp(disch:=omega)only[Ac,↓Pc,simprocAttr,hJ];refine tL _ ⟨au [(10,.tree 1 (bW [[0,1],[0,1],[1,0]]))],[]⟩ ?_ ?_
 ·refine aC.ab [] true _ _ Ha trivial Ha Ha ⟨.snap _ _ rfl ?_,trivial⟩;simp only[Kc,simprocAttr];exact cA.mk rfl rfl (iW Ha) (D3 _) ⟨⟨cA.mk rfl rfl (iW Ha) (kF _) ⟨⟨.lit _,trivial⟩,⟨.lit _,trivial⟩,trivial⟩,trivial⟩,⟨cA.mk rfl rfl (iW Ha) (kF _) ⟨⟨.lit _,trivial⟩,⟨.lit _,trivial⟩,trivial⟩,trivial⟩,⟨cA.mk rfl rfl (iW Ha) (kF _) ⟨⟨.lit _,trivial⟩,⟨.lit _,trivial⟩,trivial⟩,trivial⟩,trivial⟩
 clear tL K1;simp(disch:=omega)only[Ac,↓Pc,simprocAttr,lv];refine br hd rfl rfl ?_;simp(disch:=omega)only[Ac,↓Pc,simprocAttr];refine hK _ ?_;clear hK K;refine cE (σ':=⟨au [(1,.tree 1 (ints [0,1,2])),(2,.tree 1 (ints [0,1])),(3,aah 0)],[]⟩) (Xv X0) ?_;refine J3 2 Ha ?_;intro K K1 hK tL;simp(disch:=omega)only[Ac,↓Pc,simprocAttr,hJ];refine tL _ ⟨au [(1,.tree 1 (ints [0,1,2])),(2,.tree 1 (ints [0,1])),(3,aah 0),(17,.tree 1 (bW [[0]]))],[]⟩ ?_ ?_
 ·refine aC.ab [] true _ _ Ha trivial Ha Ha ⟨.pure rfl,.pure rfl,.pure rfl,.snap _ _ rfl ?_,trivial⟩;simp only[Kc,simprocAttr];exact cA.mk rfl rfl (iW Ha) (D3 _) ⟨⟨cA.mk rfl rfl (iW Ha) (kF _) ⟨⟨.lit _,trivial⟩,trivial⟩,trivial⟩,trivial⟩
 clear tL K1;simp(disch:=omega)only[Ac,↓Pc,simprocAttr,lv];refine br hm rfl rfl ?_;simp(disch:=omega)only[Ac,↓Pc,simprocAttr];refine hK _ ?_;clear hK K;refine cE (σ':=⟨au [(1,.tree 1 (ints [0,1,2])),(2,.tree 1 (ints [0,1])),(3,aah 0),(4,.tree 1 (ints [0])),(5,aah 0)],[]⟩) (Xv X0) ?_;((try revert hK K);(repeat'(first|refine Vb X0 ?_|(refine V2 X0 ?_ ?_<;>try with_reducible intro hb)|(refine Xi ?_ ?_<;>try intro ht)|refine VD ?_ ?_|exact Xx|fail))<;>try with_reducible intro K hK)
 refine wh [] (Cl [0,1,2] [0,1,2] Ha) Ha trivial ⟨.pure rfl,a9.bO rfl (kF _) rfl Ha (n9 _),trivial⟩ rfl Dg ?_;((try revert hK K);(repeat'(first|refine Vb X0 ?_|(refine V2 X0 ?_ ?_<;>try with_reducible intro hb)|(refine Xi ?_ ?_<;>try intro ht)|refine VD ?_ ?_|exact Xx|fail))<;>try with_reducible intro K hK)
 refine wh [] (Cl [0,1] [0,1] Ha) Ha trivial ⟨.pure rfl,a9.bO rfl (kF _) rfl Ha (n9 _),trivial⟩ rfl Dg ?_;((try revert hK K);(repeat'(first|refine Vb X0 ?_|(refine V2 X0 ?_ ?_<;>try with_reducible intro hb)|(refine Xi ?_ ?_<;>try intro ht)|refine VD ?_ ?_|exact Xx|fail))<;>try with_reducible intro K hK)
 refine wh [] (Cl [0] [0] Ha) Ha trivial ⟨.pure rfl,a9.bO rfl (kF _) rfl Ha (n9 _),trivial⟩ rfl Dg ?_;((try revert hK K);(repeat'(first|refine Vb X0 ?_|(refine V2 X0 ?_ ?_<;>try with_reducible intro hb)|(refine Xi ?_ ?_<;>try intro ht)|refine VD ?_ ?_|exact Xx|fail))<;>try with_reducible intro K hK)
 exact aT rfl rfl
structure HM(m:ah)(q:Nat):Prop where
 mb:MB m
 j5:m.cls.length<=q
 wk:∀ l∈m.cls,∀ o∈l,o.wk<=3
def HM.Xt{m:ah}{q:Nat}(h:HM m q):WK m:=λx=>by
 have h0:(default:bh).wk<=3:=Ha;unfold fh;by_cases h1:x.1.toNat<m.cls.length
 ·by_cases h2:x.2.toNat<(m.cls.getD x.1.toNat default).length
  ·exact h.wk _ (aG h1) _ (aG h2)
  ·rw[aw (l:=m.cls.getD x.1.toNat default),iF Ay];exact h0
 ·rw[aw (l:=m.cls),iF Ay];show(([]:List bh).getD x.2.toNat default).wk<=3;exact h0
def XA(L:List Int)(k:Nat)(hk:k<=L.length)(hL:L.length<1000000):
  eM Tryz.prog 8 [.ptr 0 0 0] [c9 L k] (λr os=>∃ m k',VM m/\HM m 4/\k'<=L.length/\r=.agg (aA m)/\os=[c9 L k']):=by
 have kJ:=rZ L k 3 (by unfold df;omega) Ha hk hL;have aK:=dg hk;generalize oA L k 3=b at *;generalize bH L k=k2 at *;clear hk;unfold c9 at *;refine eM.aO 9 1 [.cell 2 32] Tryz.func8 ?_;((try revert hK K);(repeat'(first|refine Va X0 ?_|(refine V2 X0 ?_ ?_<;>try with_reducible intro hb)|(refine Xi ?_ ?_<;>try intro ht)|refine VD ?_ ?_|exact Xx|fail))<;>try with_reducible intro K hK)
 (refine Xn [0] (kJ) ?_;simp(disch:=omega)only[Ac,↓Pc,simprocAttr])
 have Qm:∀ (env:Nat->AV) (m:ah) (k':Nat),VM m->HM m 4->k'<=L.length->env 2=.ptr 1 0 0->gd Tryz.prog 1 [.cell 2 32] (λr os=>∃ m k',VM m/\HM m 4/\k'<=L.length/\r=.agg (aA m)/\os=[c9 L k']) .ret ⟨env,[c9 L k',.var (aA m)]⟩:=by
  intro env m k' fN hh aQ uW;unfold gd c9;simp only[dN,dO,uW];simp(disch:=omega)only[Ac,↓Pc,simprocAttr,uW];refine⟨_,_,⟨m,k',fN,hh,aQ,rfl,rfl⟩,?_⟩;exact Xw true [0] X0
 repeat'(first|((fail_if_success (first|refine gP 2 ?_|refine gQ 2 ?_));(fail_if_success (first|refine gP 3 ?_|refine gQ 3 ?_));refine Xr X0 ?_;intro K hK)|refine Xo X0 ?_|(refine hK _ ?_;clear hK K)|(refine Xg X0 ?_ ?_<;>try intro hb)|(refine Xi ?_ ?_<;>try intro ht)|refine Xy ?_|refine Xd ?_ ?_|exact Xx|fail)
 ·have s8:=XB L k2 4 4 aK hL Ha Ha Ha;unfold c9 at s8;refine uA 1 Ha _ rfl ?_;intro K hK;simp(disch:=omega)only[Ac,↓Pc,simprocAttr,hJ,lv];refine⟨rfl,(show lL Tryz.prog 20 [.ptr 0 0 0,aah (4:Nat),aah (4:Nat)] (some 6) _ _ from ?_)⟩;refine yh [0] s8 Ha ⟨rfl,trivial⟩ ⟨.eq rfl,.pure rfl,.pure rfl,trivial⟩ ?_;rintro r os⟨m,k,hm,hk,rfl,rfl⟩;simp(disch:=omega)only[Ac,↓Pc,simprocAttr];refine hK _ ?_;clear hK K;((try revert hK K);(repeat'(first|refine Va X0 ?_|(refine V2 X0 ?_ ?_<;>try with_reducible intro hb)|(refine Xi ?_ ?_<;>try intro ht)|refine VD ?_ ?_|exact Xx|fail))<;>try with_reducible intro K hK)
  exact Qm _ m k hm.vm ⟨hm.vm.mb,hm.j5,hm.wk⟩ hk (by simp only[Kc,simprocAttr])
 ·have Qn:=XC L k2 4 2 aK hL Ha Ha;unfold c9 at Qn;refine uA 1 Ha _ rfl ?_;intro K hK;simp(disch:=omega)only[Ac,↓Pc,simprocAttr,hJ,lv];refine⟨rfl,(show lL Tryz.prog 21 [.ptr 0 0 0,aah (4:Nat),aah (2:Nat)] (some 8) _ _ from ?_)⟩;refine yh [0] Qn Ha ⟨rfl,trivial⟩ ⟨.eq rfl,.pure rfl,.pure rfl,trivial⟩ ?_;rintro r os⟨m,k,hm,hk,rfl,rfl⟩;simp(disch:=omega)only[Ac,↓Pc,simprocAttr];refine hK _ ?_;clear hK K;((try revert hK K);(repeat'(first|refine Va X0 ?_|(refine V2 X0 ?_ ?_<;>try with_reducible intro hb)|(refine Xi ?_ ?_<;>try intro ht)|refine VD ?_ ?_|exact Xx|fail))<;>try with_reducible intro K hK)
  exact Qm _ m k hm.vm ⟨hm.vm.mb,hm.j5,hm.wk⟩ hk (by simp only[Kc,simprocAttr])
def XD{m:ah}{q:Nat}(hh:HM m q)(hq:q<=13){l:List (List Bool)}(hb:BB l):∃res:List Int×List (List (Int×Int))×Bool,
  ao Tryz.prog 13 [.agg (aA m),.tree 1 (rowsOf bE l)] [] (.bP [.tree 1 (ints res.1),.tree 1 (rowsOf aH res.2.1),.lit (.bool res.2.2)]) [] /\
  ao Tryz.prog 14 [.agg (aA m),.tree 1 (rowsOf bE l)] [] (.bP [.tree 1 (ints res.1),.tree 1 (rowsOf aH res.2.1),.lit (.bool res.2.2)]) [] /\
  res.1.length<1000000/\res.2.1.length<1000000/\∀ x∈res.2.1,x.length<1000000:=by
 have hf:=hh.j5;by_cases hv:VM m/\jd m l
 ·obtain⟨sh,px⟩:=hv;have hw:=hh.Xt;have zQ:=F7 m l;have Ge:=xe sh.opt (left:=l) m.cls.length 0 (aM _) Ay;have si:=zJ (m:=m) (left:=l) (c:=m.cls.length) (i:=0) (.inr ⟨rfl,aM _⟩) (aN _);rw[pR]at Ge si;have nE:=OH m zQ;obtain⟨Qo,XE,XF⟩:=OO zQ hw (λx hx=>(si x hx).1);have dQ:=tj m (cZ m l);obtain⟨ik,aE⟩:=OP (N:=m.cls.length) (A:=iR m (cZ m l)) (λC hC y hy=>by
   obtain⟨x,hx,e⟩:=(nE.mem C).1 hC;rw[e]at hy;have:=(si y (dQ.sub x hx y hy).1).1;omega)
  have a1:=nE.j5;have a2:=Qo.j5;have heq:=find_eq dQ nE Qo ik XE (λx hx=>(si x hx).1) Ay Ay Ay (λc=>by have:=aE c;omega) (λc=>by have:=XF c;omega);refine⟨_,WM sh hw px Ay _ rfl,XG sh hw px hb _ heq.symm,?_⟩;have vz:=ik.jb Ay Ay (λc=>by have:=aE c;omega);have mV:=ik.left Ay Ay (λc=>by have:=aE c;omega);have cS:∀ C∈iR m (cZ m l),C.length<=600:=λC hC=>by have:=(F4 hC).1;omega
  unfold rS;rw[vz];dsimp only;obtain⟨aB,mm,i1,i2,i3,i4,i5⟩:=vf mV;split
  ·exact⟨Dg,Dg,Dg⟩
  ·have Qe:(ca (mc (iR m (cZ m l)) 0 (ax m.cls.length [])) (iR m (cZ m l)).length).1.length<=m.cls.length:=by rw[i3];have h1:=va aB 0;have h2:=ik.len;dsimp only;omega
   have zO:(ca (mc (iR m (cZ m l)) 0 (ax m.cls.length [])) (iR m (cZ m l)).length).2.length<=(iR m (cZ m l)).length:=by rw[i3];have h1:=va mm 0;dsimp only;omega
   refine⟨aaa,?_,λx hx=>?_⟩
   ·rw[B8];unfold ll;rw[iS];simp only[g8];omega
   ·have yw:=(wQ dR _ _).mem_iff.1 hx;rw[List.nil_append]at yw;unfold ll at yw;obtain⟨n,_,rfl⟩:=cN.1 yw;refine Nat.lt_of_le_of_lt (List.length_filter_le _ _) ?_;by_cases hn:n.toNat<(iR m (cZ m l)).length
    ·have:=cS _ (aG (d:=[]) hn);omega
    ·rw[aw,iF Ay];decide
 ·exact⟨([],[],false),Xf hh.mb Ay hv,XH hh.mb hb hv,Dg,Dg,Dg⟩
def tM(l:List (List Bool)):List AV:=[.tree 1 (rowsOf bE l)]
instance:Row tM 1:=⟨λ_=>rfl,λC v hv=>by
 unfold tM at hv;rw[bm]at hv;subst hv;exact .inr ⟨_,_,rfl⟩⟩
def aam(tape:List Int)(raw:List (List Bool))(XI:BB raw):ao Tryz.prog 3 [.tree 1 (ints tape),.tree 1 (rowsOf bE raw)] [] (.lit (.bool true)) []:=by
 refine ao.aO 76 0 [.tmp 4] Tryz.func3 ?_;repeat'(first|((fail_if_success (first|refine gP 3 ?_|refine gQ 3 ?_));refine Xq X0 ?_;intro K hK)|refine Xo X0 ?_|refine Xc (WB _) ?_|refine Xc (Qk) ?_|(refine hK _ ?_;clear hK K)|(refine Xg X0 ?_ ?_<;>try intro hb)|(refine Xi ?_ ?_<;>try intro ht)|refine XY ?_|refine Xd ?_ ?_|exact Xx|fail)
 all_goals try(exact aT rfl rfl)
 have hL:tape.length<1000000:=Ay;have aan:raw.length<=50:=Ay;repeat'(first|((fail_if_success (first|refine gP 4 ?_|refine gQ 4 ?_));refine Xq X0 ?_;intro K hK)|refine Xo X0 ?_|refine Xc (P4 tape) ?_|(refine hK _ ?_;clear hK K)|(refine Xg X0 ?_ ?_<;>try intro hb)|(refine Xi ?_ ?_<;>try intro ht)|refine Xy ?_|refine Xd ?_ ?_|exact Xx|fail)
 (refine Xn [] (P4 tape) ?_;simp(disch:=omega)only[Ac,↓Pc,simprocAttr])
 repeat'(first|((fail_if_success (first|refine gP 4 ?_|refine gQ 4 ?_));refine Xr X0 ?_;intro K hK)|refine Xo X0 ?_|(refine hK _ ?_;clear hK K)|(refine Xg X0 ?_ ?_<;>try intro hb)|(refine Xi ?_ ?_<;>try intro ht)|refine Xy ?_|refine Xd ?_ ?_|exact Xx|fail)
 have s8:=XA tape 0 (aN _) hL;unfold c9 at s8;refine uA 1 Ha _ rfl ?_;intro K hK;simp(disch:=omega)only[Ac,↓Pc,simprocAttr,hJ,lv];refine⟨rfl,(show lL Tryz.prog 8 [.ptr 0 0 0] (some 27) _ _ from ?_)⟩;refine yh [0] s8 Ha ⟨rfl,trivial⟩ ⟨.eq rfl,trivial⟩ ?_;rintro r os⟨m0,k,Gf,sj,hk,rfl,rfl⟩;simp(disch:=omega)only[Ac,↓Pc,simprocAttr,lv];refine hK _ ?_;clear hK K s8;repeat'(first|((fail_if_success (first|refine gP 5 ?_|refine gQ 5 ?_));refine Xr X0 ?_;intro K hK)|refine Xo X0 ?_|(refine hK _ ?_;clear hK K)|(refine Xg X0 ?_ ?_<;>try intro hb)|(refine Xi ?_ ?_<;>try intro ht)|refine Xy ?_|refine Xd ?_ ?_|exact Xx|fail)
 refine EP ?_;intro Q' jG pU;have key:∀ (m:ah) (k:Nat),HM m 5->(∀ l∈m.cls,l.length<=25)->k<=tape.length->∀ s,aC 0 s ⟨au [(1,.tree 1 (rowsOf bE raw)),(5,.ptr 0 0 0),(6,.ptr 1 0 0)],[.var [.tree 1 (ints tape),aah k],.var (aA m)]⟩->Q' .normal s:=by
  clear hk Gf sj k m0;intro m k hm Qp hk s je;refine jG _ (cE je ?_);clear je jG pU;refine cE (aC.UC 6 1 (cells:=aA m) aaf (by simp only[Kc,simprocAttr]) (by simp[aA])) ?_;have hA:=XJ m hm.mb;have XK:=XL hm.mb;have hf5:=hm.j5;have mV:=XM m Ay (λl hl=>by have:=Qp l hl;omega) tape k hk hL;unfold c9 at mV;have Gg:BB (jg tape m.cls m.cls.length k).1:=⟨by rw[sn];omega,λr hr=>by
   obtain⟨i,hi,rfl⟩:=List.getElem_of_mem hr;have h1:=Qq (L:=tape) (cls:=m.cls) m.cls.length k i (by rwa [sn]at hi);rw[aw,List.getElem?_eq_getElem hi,dK]at h1;rw[sn]at hi;have:=Qp _ (aG (l:=m.cls) (i:=i) (d:=default) hi);omega⟩
  generalize jg tape m.cls m.cls.length k=lf at *;obtain⟨lf,k2⟩:=lf;dsimp only at mV Gg;generalize xk m=al at *;repeat'(first|((fail_if_success (first|refine gP 7 ?_|refine gQ 7 ?_));refine Xr X0 ?_;intro K hK)|refine Xo X0 ?_|(refine hK _ ?_;clear hK K)|(refine Xg X0 ?_ ?_<;>try intro hb)|(refine Xi ?_ ?_<;>try intro ht)|refine Xy ?_|refine Xd ?_ ?_|exact Xx|fail)
  refine DO 0 [0,3] [4] (.take 0 (.take 1 (.take 2 (.take 3 (.take 4 (.take 5 (.take 6 (.take 7 (.take 8 .nil))))))))) rfl Ha (by decide +kernel) ?_;simp(disch:=omega)only[Ac,↓Pc,simprocAttr,Hc,ei,↓Lq,aA];refine br hA rfl rfl ?_;simp(disch:=omega)only[Ac,↓Pc,simprocAttr,Hc,ei,↓Lq,aA];simp only[aA]at mV;(refine wa (mV) rfl rfl rfl rfl (by(repeat'(first|exact trivial|refine kC ?_ ?_))<;>first|exact .inl ⟨rfl,rfl⟩|exact .inr ⟨rfl,rfl⟩) ?_;simp(disch:=omega)only[Ac,↓Pc,simprocAttr,Hc,ei,↓Lq,aA])
  repeat'(first|with_reducible refine kC ?_ ?_|omega|with_reducible rfl)
  repeat(first|refine Xu ?_)
  refine cE (aC.zR 39 2 1 (rows:=rowsOf tM [al,lf,raw]) rfl (by rw[cH,show [al,lf,raw].length=3 from rfl];simp only[Kc,simprocAttr]) (gb _) (jt _)) ?_;have Gi:∀ l∈[al,lf,raw],BB l:=λl hl=>by
   simp only[cD,qS,or_false]at hl;rcases hl with rfl|rfl|rfl
   ·exact XK
   ·exact Gg
   ·exact XI
  have nF:[al,lf,raw].length=3:=rfl;generalize [al,lf,raw]=ls at *;clear mV hA;((try revert hK K);(repeat'(first|refine Va X0 ?_|(refine V2 X0 ?_ ?_<;>try with_reducible intro hb)|(refine Xi ?_ ?_<;>try intro ht)|refine VD ?_ ?_|exact Xx|fail))<;>try with_reducible intro K hK)
  refine aX (λi:Nat=>(⟨au [(6,.cm (aA m)),(39,.tree 1 (rowsOf tM ls)),(40,aah 3),(41,aah i)],[]⟩:St)) (λi=>i<=3) (λi=>3-i) 0 (aN _) ?_ ?_
  ·exact Xs false [] @aA.eq_1
  rintro i hi Ql an ay;by_cases hi':i<3
  ·obtain⟨res,f1,f2,f3,f4,f5⟩:=XD hm Ha (Gi _ (aG (l:=ls) (i:=i) (d:=default) Ay));have Qr:(rowsOf tM ls)[i]?=some (tM (ls.getD i default)):=nc _ _ Ay;have bl:(rowsOf tM ls).length=3:=by rw[cH];exact nF
   generalize Qs:ls.getD i default=l at *;obtain⟨g,cs,ok⟩:=res;dsimp only at f1 f2 f3 f4 f5;have s1:=Cl g g Ay;rw[decide_eq_true rfl]at s1;have s2:=XN cs cs f4 f4 f5 f5;rw[decide_eq_true rfl]at s2;have hE:tM l=[.tree 1 (rowsOf bE l)]:=rfl;((try revert hK K);(repeat'(first|refine Vc (X5 @Qr @bl @Qs @hE @bne_self_eq_false.{0}) (X4 f1 f2 s1 s2) ?_|(refine V2 (X5 @Qr @bl @Qs @hE @bne_self_eq_false.{0}) ?_ ?_<;>try with_reducible intro hb)|(refine Xi ?_ ?_<;>try intro ht)|refine VD ?_ ?_|exact Xx|fail))<;>try with_reducible intro K hK)
   exact an _ (i+1) Ay Ay (Xs false [] @aA.eq_1)
  ·((try revert hK K);(repeat'(first|refine Va X0 ?_|(refine V2 X0 ?_ ?_<;>try with_reducible intro hb)|(refine Xi ?_ ?_<;>try intro ht)|refine VD ?_ ?_|exact Xx|fail))<;>try with_reducible intro K hK)
   refine ay _ _ rfl ?_;clear an ay Ql;repeat(first|refine Xu ?_)
   ((try revert hK K);(repeat'(first|refine Vd X0 Qk ?_|(refine V2 X0 ?_ ?_<;>try with_reducible intro hb)|(refine Xi ?_ ?_<;>try intro ht)|refine VD ?_ ?_|exact Xx|fail))<;>try with_reducible intro K hK)
   exact aT rfl rfl
 have kJ:=rZ tape k 8 (by unfold df;omega) Ha hk hL;have aK:=dg hk;generalize oA tape k 8=b at *;generalize bH tape k=k2 at *;((try revert hK K);(repeat'(first|refine Va X0 ?_|(refine V2 X0 ?_ ?_<;>try with_reducible intro hb)|(refine Xi ?_ ?_<;>try intro ht)|refine VD ?_ ?_|exact Xx|fail))<;>try with_reducible intro K hK)
 (refine Xn [0] (kJ) ?_;simp(disch:=omega)only[Ac,↓Pc,simprocAttr])
 repeat'(first|((fail_if_success (first|refine gP 6 ?_|refine gQ 6 ?_));refine Xr X0 ?_;intro K hK)|refine Xo X0 ?_|(refine hK _ ?_;clear hK K)|(refine Xg X0 ?_ ?_<;>try intro hb)|(refine Xi ?_ ?_<;>try intro ht)|refine Xy ?_|refine Xd ?_ ?_|exact Xx|fail)
 ·have Qt:=XO 4 Ha tape k2 m0 Gf sj.j5 aK hL;unfold c9 at Qt;refine uA 2 Ha _ rfl ?_;intro K hK;simp(disch:=omega)only[Ac,↓Pc,simprocAttr,hJ,lv];refine⟨rfl,(show lL Tryz.prog 10 [.ptr 0 0 0,.agg (aA m0)] (some 32) _ _ from ?_)⟩;refine yh [0] Qt Ha ⟨rfl,trivial⟩ ⟨.eq rfl,.pure rfl,trivial⟩ ?_;rintro r os⟨m1,k3,wX,eL,rfl,rfl⟩;simp(disch:=omega)only[Ac,↓Pc,simprocAttr,lv];refine hK _ ?_;clear hK K;refine key m1 k3 ⟨wX.om.mb,wX.om.j5,λl hl o ho=>?_⟩ wX.om.opt eL _ ?_
  ·rcases wX.cl with e|⟨x,hx,e⟩
   ·rw[e]at hl;exact sj.wk l hl o ho
   ·rw[e]at hl;rcases bj.1 hl with h|h
    ·exact sj.wk l h o ho
    ·rw[bm]at h;subst h;exact hx o ho
  ·exact Xv @aA.eq_1
 ·refine key m0 k2 ⟨sj.mb,Nat.le_succ_of_le sj.j5,sj.wk⟩ (λl hl=>by have:=Gf.opt l hl;omega) aK _ ?_;exact Xv @aA.eq_1
end T

