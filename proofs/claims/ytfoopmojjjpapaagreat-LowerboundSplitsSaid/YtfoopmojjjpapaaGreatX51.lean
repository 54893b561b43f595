import Derived.Test.YtfoopmojjjpapaaGreatX50
import Derived.Test.YtfoopmojjjpapaaGreatX42
set_option linter.all false
set_option maxHeartbeats 0
set_option maxRecDepth 20000
open Nat renaming zero_le→aP,le_refl→aZ,sub_self→jC,mul_le_mul→w8
open List renaming cons_append→dw,nil_append→eJ,mem_append→cG,mem_singleton→cS,length_append→bN,getD_eq_getElem?_getD→ay,replicate_zero→EB,append_nil→n9,take→jd,drop→eQ
open And renaming intro→cD
open Int renaming toNat_natCast→dg
open Go Go.Am Go.Proofs
namespace T
def ahw(L:List Int)(k:Nat)(hk:k<=L.length)(hL:L.length<1000000):
  dv Tryz.prog 21 [.ptr 0 0 0] [gY L k] (λr os=>∃ m par k',Dm m par/\k'<=L.length/\r=.agg (ao m)/\os=[gY L k']):=by
 unfold gY;refine dv.aM 119 1 [.cell 2 32] Tryz.func21 ?_;((try revert hK K);(repeat'(first|refine Va X0 ?_|(refine V2 X0 ?_ ?_<;>try with_reducible intro hb)|(refine Xi ?_ ?_<;>try intro ht)|refine VD ?_ ?_|exact Xx|fail))<;>try with_reducible intro K hK)
 refine jf [0] (iB L k 5 (by unfold cY;omega) hk hL) Hg ⟨rfl,trivial⟩ ⟨.eq rfl,.pure rfl,trivial⟩ ?_;have hv:=kh (L:=L) (k:=k) (n:=5) Ey;have bw:=fJ hk;generalize ek L k 5=v at *;generalize cQ L k=k2 at *;clear hk;obtain⟨n,fY⟩:∃n:Nat,1+v=n:=⟨(1+v).toNat,Ey⟩;((try revert hK K);(repeat'(first|refine Va @fY ?_|(refine V2 @fY ?_ ?_<;>try with_reducible intro hb)|(refine Xi ?_ ?_<;>try intro ht)|refine VD ?_ ?_|exact Xx|fail))<;>try with_reducible intro K hK)
 refine bP (σ':=⟨ar [(0,.ptr 0 0 0),(2,.ptr 1 0 0),(3,.ptr 2 0 0),(4,QM n),(5,.ref 3 1 0 n),(6,QM 0)],iY L k2 [] [] [] n⟩) ?_ ?_
 ·refine aD.trans (aD.pT 2 0 1 rfl rfl Hg) ?_;refine aD.trans (aD.pT 2 1 4 rfl rfl Hg) ?_;unfold iY;exact Xv X0
 have hn5:1<=n/\n<=5:=Ey;(try clear fY;clear hv v)
 refine aQ (λz:Nat×Nat×List (List cP)×List Int=>(⟨ar [(0,.ptr 0 0 0),(2,.ptr 1 0 0),(3,.ptr 2 0 0),(4,QM n),(5,.ref 3 1 0 n),(6,QM z.1)],iY L z.2.1 z.2.2.1 [] z.2.2.2 n⟩:St))
  (λz=>z.1<=n/\z.2.1<=L.length/\(z.2.2.1.length=z.1/\∀ l∈z.2.2.1,(1<=l.length/\l.length<=3)/\MI l)/\z.2.2.2.length=z.1/\∀ i,i<z.2.2.2.length->-1<=z.2.2.2.getD i 0/\z.2.2.2.getD i 0<i) (λz=>n-z.1) (0,k2,[],[]) ⟨aP _,bw,⟨rfl,G9⟩,rfl,G9⟩ (Xv X0) ?_
 clear bw k2 k;rintro⟨i,k,cls,par⟩⟨hi,hk,⟨bI,pY⟩,dG,tx⟩Ql ak aq;dsimp only at hi hk bI pY dG tx ⊢;unfold iY;by_cases au:i<n
 ·((try revert hK K);(repeat'(first|refine Va X0 ?_|(refine V2 X0 ?_ ?_<;>try with_reducible intro hb)|(refine Xi ?_ ?_<;>try intro ht)|refine VD ?_ ?_|exact Xx|fail))<;>try with_reducible intro K hK)
  refine jf [0] (iB L k 3 (by unfold cY;omega) hk hL) Hg ⟨rfl,trivial⟩ ⟨.eq rfl,.pure rfl,trivial⟩ ?_;have hv:=kh (L:=L) (k:=k) (n:=3) Ey;have bw:=fJ hk;generalize ek L k 3=v at *;generalize cQ L k=k2 at *;clear hk;obtain⟨e0,gu⟩:∃e0:Nat,1+v=e0:=⟨(1+v).toNat,Ey⟩;((try revert hK K);(repeat'(first|refine Va @gu ?_|(refine V2 @gu ?_ ?_<;>try with_reducible intro hb)|(refine Xi ?_ ?_<;>try intro ht)|refine VD ?_ ?_|exact Xx|fail))<;>try with_reducible intro K hK)
  refine aQ (λz:Nat×Nat×List cP=>(⟨ar [(0,.ptr 0 0 0),(2,.ptr 1 0 0),(3,.ptr 2 0 0),(4,QM n),(5,.ref 3 1 0 n),(6,QM i),(7,.ref 6 6 0 z.2.2.length),(8,QM z.1)],iY L z.2.1 cls [] par n++[.arr 6 (rowsOf cB z.2.2)]⟩:St))
   (λz=>z.1+z.2.2.length=e0/\z.2.1<=L.length/\MI z.2.2) (λz=>z.1) (e0,k2,[]) ⟨G9,bw,by intro o ho;simp at ho⟩ ?_ ?_
  ·refine aD.trans (aD.nil 7 6 (by simp only[Kc,simprocAttr]) Hg) ?_;unfold iY;exact Xv X0
  clear bw;rintro⟨e,k,l⟩⟨we,hk,hl⟩cR bg bm;dsimp only at we hk hl ⊢;unfold iY;simp only[dw,eJ];by_cases vY:0<e
  ·obtain⟨e',rfl⟩ :∃e',e=e'+1:=⟨e-1,Ey⟩;have ka:((e'+1:Nat):Int)-1=e':=Ey;have nk:=Dk L k 2 (by unfold cY;omega) Hg hk hL;have bw:=fJ hk;generalize BE L k 2=b at *;generalize cQ L k=k2 at *;repeat'(first|((fail_if_success (first|refine dW 12 ?_|refine dX 12 ?_));refine Xr X0 ?_;intro K hK)|refine Xo X0 ?_|(refine hK _ ?_;clear hK K)|(refine Xg X0 ?_ ?_<;>try intro hb)|(refine Xi ?_ ?_<;>try intro ht)|refine Xy ?_|refine Xd ?_ ?_|exact Xx|fail)
   refine bP (σ':=⟨ar [(0,.ptr 0 0 0),(2,.ptr 1 0 0),(3,.ptr 2 0 0),(4,QM n),(5,.ref 3 1 0 n),(6,QM i),(7,.ref 6 6 0 l.length),(8,QM (e'+1:Nat)),(9,.ptr 7 0 0)],iY L k cls [] par n++[.arr 6 (rowsOf cB l),.var [QM 1,QM (e'+1:Nat),QM 0,QM 1,QM (-1),.ref 8 2 0 0],.arr 2 []]⟩) ?_ ?_
   ·refine aD.trans (aD.pT 7 5 2 rfl rfl Hg) ?_;unfold iY;exact Xv X0
   unfold iY;simp only[dw,eJ];((try revert hK K);(repeat'(first|refine Va X0 ?_|(refine V2 X0 ?_ ?_<;>try with_reducible intro hb)|(refine Xi ?_ ?_<;>try intro ht)|refine VD ?_ ?_|exact Xx|fail))<;>try with_reducible intro K hK)
   (refine Xn [0] (nk) ?_;simp(disch:=omega)only[Ac,↓Pc,simprocAttr])
   have U':∀ (k':Nat) (ch:List (Int×Int)) (s:St),k'<=L.length->Ve ch->aD 1 s ⟨ar [(0,.ptr 0 0 0),(2,.ptr 1 0 0),(3,.ptr 2 0 0),(4,QM n),(5,.ref 3 1 0 n),(6,QM i),(7,.ref 6 6 0 (l.length+1)),(8,QM e')],iY L k' cls [] par n++[.arr 6 (rowsOf cB (l++[⟨1,(e'+1:Nat),0,1,-1,ch⟩]))]⟩->cR .normal s:=λk' ch s h1 h2 h3 =>
    bg _ (e',k',l++[⟨1,(e'+1:Nat),0,1,-1,ch⟩]) ⟨Hj,h1,λo ho=>by
     rcases cG.1 ho with ho|ho
     ·exact hl o ho
     ·simp only[cS]at ho;subst ho;exact h2⟩ Hi (by rw[bN];exact h3)
   clear bg bm;cases b with
   |true =>
    have hx1:=iB L k2 2 (by unfold cY;omega) bw hL;have Vf:=kh (L:=L) (k:=k2) (n:=2) Ey;have gK:=fJ bw;generalize ek L k2 2=r1 at *;generalize cQ L k2=k3 at *;have MJ:=iB L k3 40 (by unfold cY;omega) gK hL;have Dp:=kh (L:=L) (k:=k3) (n:=40) Ey;have uN:=fJ gK;generalize ek L k3 40=r2 at *;generalize cQ L k3=k4 at *;((try revert hK K);(repeat'(first|refine Va X0 ?_|(refine V2 X0 ?_ ?_<;>try with_reducible intro hb)|(refine Xi ?_ ?_<;>try intro ht)|refine VD ?_ ?_|exact Xx|fail))<;>try with_reducible intro K hK)
    (refine Xn [0] (hx1) ?_;simp(disch:=omega)only[Ac,↓Pc,simprocAttr])
    (refine Xn [0] (MJ) ?_;simp(disch:=omega)only[Ac,↓Pc,simprocAttr])
    repeat'(first|((fail_if_success (first|refine dW 14 ?_|refine dX 14 ?_));refine Xr X0 ?_;intro K hK)|refine Xo X0 ?_|(refine hK _ ?_;clear hK K)|(refine Xg X0 ?_ ?_<;>try intro hb)|(refine Xi ?_ ?_<;>try intro ht)|refine Xy ?_|refine Xd ?_ ?_|exact Xx|fail)
    refine bP (aD.v7 9 7 5 2 (rows:=rowsOf bf [(r1,1+r2)]) rfl rfl rfl (iA _) (mF _)) ?_;refine bP (σ':=⟨ar [(0,.ptr 0 0 0),(2,.ptr 1 0 0),(3,.ptr 2 0 0),(4,QM n),(5,.ref 3 1 0 n),(6,QM i),(7,.ref 6 6 0 l.length),(8,QM (e'+1:Nat)),(9,.ptr 7 0 0)],iY L k4 cls [] par n++[.arr 6 (rowsOf cB l),.var (cB ⟨1,(e'+1:Nat),0,1,-1,[(r1,1+r2)]⟩),.arr 2 [],.gone]⟩) (by unfold iY;exact Xv @cB.eq_1) ?_;unfold iY;simp only[dw,eJ];((try revert hK K);(repeat'(first|refine Va (X2 @cB.eq_1 @ka) ?_|(refine V2 (X2 @cB.eq_1 @ka) ?_ ?_<;>try with_reducible intro hb)|(refine Xi ?_ ?_<;>try intro ht)|refine VD ?_ ?_|exact Xx|fail))<;>try with_reducible intro K hK)
    refine U' k4 [(r1,1+r2)] _ uN (.inr ⟨r1,1+r2,rfl,Vf,Ey,Ey⟩) ?_;unfold iY;simp only[dw,eJ];rw[show rowsOf cB l++[[AV.lit (.int .i64 1),AV.lit (.int .i64 (e'+1:Nat)),AV.lit (.int .i64 0),AV.lit (.int .i64 1),AV.lit (.int .i64 (-1)),AV.tree 2 (rowsOf bf [(r1,1+r2)])]]=rowsOf cB (l++[⟨1,(e'+1:Nat),0,1,-1,[(r1,1+r2)]⟩]) from pS (enc:=cB) l ⟨1,(e'+1:Nat),0,1,-1,[(r1,1+r2)]⟩];exact Xs false [0,1,2,3,4,5,11] X0
   |false =>
    repeat'(first|((fail_if_success (first|refine dW 14 ?_|refine dX 14 ?_));refine Xr X0 ?_;intro K hK)|refine Xo X0 ?_|(refine hK _ ?_;clear hK K)|(refine Xg X0 ?_ ?_<;>try intro hb)|(refine Xi ?_ ?_<;>try intro ht)|refine Xy ?_|refine Xd ?_ ?_|exact Xx|fail)
    refine bP (aD.v7 8 7 5 2 (rows:=rowsOf bf []) rfl rfl rfl (iA _) (mF _)) ?_;refine bP (σ':=⟨ar [(0,.ptr 0 0 0),(2,.ptr 1 0 0),(3,.ptr 2 0 0),(4,QM n),(5,.ref 3 1 0 n),(6,QM i),(7,.ref 6 6 0 l.length),(8,QM (e'+1:Nat)),(9,.ptr 7 0 0)],iY L k2 cls [] par n++[.arr 6 (rowsOf cB l),.var (cB ⟨1,(e'+1:Nat),0,1,-1,[]⟩),.gone]⟩) (by unfold iY;exact Xv @cB.eq_1) ?_;unfold iY;simp only[dw,eJ];((try revert hK K);(repeat'(first|refine Va (X2 @cB.eq_1 @ka) ?_|(refine V2 (X2 @cB.eq_1 @ka) ?_ ?_<;>try with_reducible intro hb)|(refine Xi ?_ ?_<;>try intro ht)|refine VD ?_ ?_|exact Xx|fail))<;>try with_reducible intro K hK)
    refine U' k2 [] _ bw (.inl rfl) ?_;unfold iY;simp only[dw,eJ];rw[show rowsOf cB l++[[AV.lit (.int .i64 1),AV.lit (.int .i64 (e'+1:Nat)),AV.lit (.int .i64 0),AV.lit (.int .i64 1),AV.lit (.int .i64 (-1)),AV.tree 2 (rowsOf bf [])]]=rowsOf cB (l++[⟨1,(e'+1:Nat),0,1,-1,[]⟩]) from pS (enc:=cB) l ⟨1,(e'+1:Nat),0,1,-1,[]⟩];exact Xs false [0,1,2,3,4,5,10] X0
  ·obtain rfl:e=0:=Ey;((try revert hK K);(repeat'(first|refine Va X0 ?_|(refine V2 X0 ?_ ?_<;>try with_reducible intro hb)|(refine Xi ?_ ?_<;>try intro ht)|refine VD ?_ ?_|exact Xx|fail))<;>try with_reducible intro K hK)
   refine bm _ _ rfl ?_;clear bg bm cR;repeat(first|refine Xu ?_)
   refine bP (σ':=⟨ar [(0,.ptr 0 0 0),(2,.ptr 1 0 0),(3,.ptr 2 0 0),(4,QM n),(5,.ref 3 1 0 n),(6,QM i),(7,.tree 6 (rowsOf cB l))],iY L k cls [] par n⟩) ?_ ?_
   ·unfold iY;exact Xs true [0,1,2,3,4,5] X0
   unfold iY;have kB:=iB L k (i+1) (by unfold cY;omega) hk hL;have Dq:=kh (L:=L) (k:=k) (n:=i+1) Ey;have bw:=fJ hk;generalize ek L k (i+1)=w at *;generalize cQ L k=k2 at *;have Io:(par++List.replicate (n-par.length) 0).length=n:=Hj;have iP:=ahy par n Ey (w-1);rw[dG]at iP Io;rw[dG];have HZ:((i+1:Nat):Int)=(i:Int)+1:=Ey;((try revert hK K);(repeat'(first|refine Va X0 ?_|(refine V2 X0 ?_ ?_<;>try with_reducible intro hb)|(refine Xi ?_ ?_<;>try intro ht)|refine VD ?_ ?_|exact Xx|fail))<;>try with_reducible intro K hK)
   (refine Xn [0] (kB) ?_;simp(disch:=omega)only[Ac,↓Pc,simprocAttr,Io,iP])
   repeat'(first|with_reducible refine cD ?_ ?_|omega|with_reducible rfl)
   ((try revert hK K);(repeat'(first|refine Va (X2 @Io @iP) ?_|(refine V2 (X2 @Io @iP) ?_ ?_<;>try with_reducible intro hb)|(refine Xi ?_ ?_<;>try intro ht)|refine VD ?_ ?_|exact Xx|fail))<;>try with_reducible intro K hK)
   all_goals try(exfalso;omega)
   refine ak _ (i+1,k2,cls++[l],par++[w-1]) ⟨Hi,bw,⟨Hj,λx hx=>?_⟩,Hj,λa ha=>?_⟩ Hi ?_
   ·rcases cG.1 hx with hx|hx
    ·exact pY x hx
    ·simp only[cS]at hx;subst hx;exact⟨⟨Ey,Ey⟩,hl⟩
   ·dsimp only at ha ⊢;rw[bN,List.length_singleton]at ha;by_cases Dr:a<par.length
    ·rw[ay,List.getElem?_append_left Dr,<- ay];exact tx a Dr
    ·obtain rfl:a=par.length:=Ey;rw[ay,List.getElem?_append_right (aZ _),jC];show -1<=w-1/\w-1<_;omega
   ·unfold iY;rw[show rowsOf aT cls++[[AV.tree 6 (rowsOf cB l)]]=rowsOf aT (cls++[l]) from pS (enc:=aT) cls l];exact Xs false [0,1,2,3,7,5] X0
 ·obtain rfl:i=n:=Ey;((try revert hK K);(repeat'(first|refine Va X0 ?_|(refine V2 X0 ?_ ?_<;>try with_reducible intro hb)|(refine Xi ?_ ?_<;>try intro ht)|refine VD ?_ ?_|exact Xx|fail))<;>try with_reducible intro K hK)
  refine aq _ _ rfl ?_;clear ak aq Ql;repeat(first|refine Xu ?_)
  rw[dG,jC,EB,n9];have o8:=hn5;have pj:∀ k ae,iY L k cls ae par i=[.var [.tree 1 (ints L),QM k],.var [.lit (.slice none 0 0),.lit (.slice none 0 0),.lit (.slice none 0 0),QM 0],.var [.ref 4 1 0 cls.length,.ref 5 4 0 ae.length,.lit (.slice none 0 0),QM 2],.arr 1 (ints par),.arr 1 (rowsOf aT cls),.arr 4 (rowsOf aI ae)]:=λk ae=>by
   unfold iY;rw[dG,jC,EB,n9]
  have pW:∀ a,(cls.getD a default).length<=3:=λa=>by
   rcases Nat.lt_or_ge a cls.length with h|h
   ·exact((pY _ (aF (d:=default) h)).1).2
   ·rw[ay,List.getElem?_eq_none h];decide
  ((try revert hK K);(repeat'(first|refine Va X0 ?_|(refine V2 X0 ?_ ?_<;>try with_reducible intro hb)|(refine Xi ?_ ?_<;>try intro ht)|refine VD ?_ ?_|exact Xx|fail))<;>try with_reducible intro K hK)
  refine aQ (λz:Nat×Nat×List Pr=>(⟨ar [(0,.ptr 0 0 0),(2,.ptr 1 0 0),(3,.ptr 2 0 0),(4,QM i),(5,.ref 3 1 0 i),(10,QM z.1)],iY L z.2.1 cls z.2.2 par i⟩:St))
   (λz=>z.1<=i/\z.2.1<=L.length/\(z.2.2.map (λp=>(p.fst,p.snd))=wg par i z.1/\z.2.2.length<=5*z.1)/\∀ p∈z.2.2,MK cls p) (λz=>i-z.1) (0,k,[]) ⟨aP _,hk,⟨rfl,G9⟩,G9⟩ (by rw[pj];exact Xv X0) ?_
  clear hk k;rintro⟨a,k,ae⟩⟨ha,hk,⟨jh,Ds⟩,pZ⟩Ql ak aq;dsimp only at ha hk jh Ds pZ ⊢;by_cases nQ:a<i
  ·rw[pj];((try revert hK K);(repeat'(first|refine Va X0 ?_|(refine V2 X0 ?_ ?_<;>try with_reducible intro hb)|(refine Xi ?_ ?_<;>try intro ht)|refine VD ?_ ?_|exact Xx|fail))<;>try with_reducible intro K hK)
   refine aQ (λz:Nat×Nat×List Pr=>(⟨ar [(0,.ptr 0 0 0),(2,.ptr 1 0 0),(3,.ptr 2 0 0),(4,QM i),(5,.ref 3 1 0 i),(10,QM a),(11,QM z.1)],iY L z.2.1 cls z.2.2 par i⟩:St))
    (λz=>(a+1<=z.1/\z.1<=i)/\z.2.1<=L.length/\(z.2.2.map (λp=>(p.fst,p.snd))=wg par i a++tz par a (z.1-(a+1))/\z.2.2.length<=5*a+(z.1-(a+1)))/\∀ p∈z.2.2,MK cls p) (λz=>i-z.1) (a+1,k,ae) ⟨⟨aZ _,Hi⟩,hk,⟨by dsimp only;rw[jC];simp[tz,jh],Hi⟩,pZ⟩ (by rw[pj];exact Xv X0) ?_
   clear hk jh Ds pZ;rintro⟨q,k,ae⟩⟨⟨uO,Ip⟩,hk,⟨jh,Ds⟩,pZ⟩cR bg bm;dsimp only at uO Ip hk jh Ds pZ ⊢;rw[pj];by_cases xC:q<i
   ·have Iq:tz par a (q+1-(a+1))=tz par a (q-(a+1))++if par.getD q 0=a then [((a:Int),(q:Int))] else []:=by
     rw[show q+1-(a+1)=(q-(a+1))+1 by omega,tz,show a+1+(q-(a+1))=q by omega]
    generalize yI:par.getD q 0=pq at *;by_cases ML:pq=a
    ·rw[if_pos ML]at Iq;have s1:=pW a;have s2:=pW q;generalize xI:cls.getD a default=ca at *;generalize Fe:cls.getD q default=cq at *;repeat'(first|((fail_if_success (first|refine dW 25 ?_|refine dX 25 ?_));refine Xr (X2 @yI @dG) ?_;intro K hK)|refine Xo (X2 @yI @dG) ?_|(refine hK _ ?_;clear hK K)|(refine Xg (X2 @yI @dG) ?_ ?_<;>try intro hb)|(refine Xi ?_ ?_<;>try intro ht)|refine Xy ?_|refine Xd ?_ ?_|exact Xx|fail)
     all_goals try(exfalso;omega)
     refine bP (σ':=⟨ar [(0,.ptr 0 0 0),(2,.ptr 1 0 0),(3,.ptr 2 0 0),(4,QM i),(5,.ref 3 1 0 i),(10,QM a),(11,QM q),(12,.ptr 6 0 0)],iY L k cls ae par i++[.var [QM a,QM q,QM 1,.ref 7 1 0 0],.arr 1 []]⟩) ?_ ?_
     ·refine aD.trans (aD.pT 6 3 1 rfl rfl Hg) ?_;rw[pj];exact Xv X0
     rw[pj];simp only[dw,eJ];have hP9:ca.length*cq.length<=9:=w8 s1 s2;have MN:(ca.length:Int)*(cq.length:Int)=((ca.length*cq.length:Nat):Int):=by push_cast;rfl
     generalize hPP:ca.length*cq.length=P0 at *;((try revert hK K);(repeat'(first|refine Va (X4 @xI @Fe @aT.eq_1 @MN) ?_|(refine V2 (X4 @xI @Fe @aT.eq_1 @MN) ?_ ?_<;>try with_reducible intro hb)|(refine Xi ?_ ?_<;>try intro ht)|refine VD ?_ ?_|exact Xx|fail))<;>try with_reducible intro K hK)
     refine aQ (λz:Nat×Nat×List Int=>(⟨ar [(0,.ptr 0 0 0),(2,.ptr 1 0 0),(3,.ptr 2 0 0),(4,QM i),(5,.ref 3 1 0 i),(10,QM a),(11,QM q),(12,.ptr 6 0 0),(13,QM z.1)],iY L z.2.1 cls ae par i++[.var [QM a,QM q,QM 1,.ref 7 1 0 z.2.2.length],.arr 1 (ints z.2.2)]⟩:St))
      (λz=>z.1+z.2.2.length=P0/\z.2.1<=L.length/\∀ x∈z.2.2,0<=x/\x<=38) (λz=>z.1) (P0,k,[]) ⟨G9,hk,G9⟩ (by rw[pj];exact Xv X0) ?_
     clear hk;rintro⟨j,k,aB⟩⟨hj,hk,wj⟩mH gw fK;dsimp only at hj hk wj ⊢;rw[pj];simp only[dw,eJ];by_cases hj0:0<j
     ·obtain⟨j',rfl⟩ :∃j',j=j'+1:=⟨j-1,Ey⟩;have zQ:((j'+1:Nat):Int)-1=j':=Ey;have hx1:=iB L k 3 (by unfold cY;omega) hk hL;have Vf:=kh (L:=L) (k:=k) (n:=3) Ey;have gK:=fJ hk;generalize ek L k 3=r1 at *;generalize cQ L k=k3 at *;have MJ:=iB L k3 20 (by unfold cY;omega) gK hL;have Dp:=kh (L:=L) (k:=k3) (n:=20) Ey;have uN:=fJ gK;generalize ek L k3 20=r2 at *;generalize cQ L k3=k4 at *;have hmul:0<=r1*r2/\r1*r2<=38:=⟨Int.mul_nonneg Ey Ey,by
       have:=Int.mul_le_mul (show r1<=2 by omega) (show r2<=19 by omega) Dp.1 Ey;omega⟩
      generalize eV:r1*r2=rr at *;repeat'(first|((fail_if_success (first|refine dW 28 ?_|refine dX 28 ?_));refine Xr X0 ?_;intro K hK)|refine Xo X0 ?_|(refine hK _ ?_;clear hK K)|(refine Xg X0 ?_ ?_<;>try intro hb)|(refine Xi ?_ ?_<;>try intro ht)|refine Xy ?_|refine Xd ?_ ?_|exact Xx|fail)
      all_goals try(exfalso;omega)
      refine Ir (λs=>aD 1 s ⟨ar [(0,.ptr 0 0 0),(2,.ptr 1 0 0),(3,.ptr 2 0 0),(4,QM i),(5,.ref 3 1 0 i),(10,QM a),(11,QM q),(12,.ptr 6 0 0),(13,QM (j'+1:Nat))],iY L k4 cls ae par i++[.var [QM a,QM q,QM 1,.ref 9 1 0 (aB.length+1)],.gone,.arr 1 [[QM rr]],.arr 1 (ints (aB++[rr]))]⟩) ?_ ?_
      ·rintro s hs;repeat(first|refine Xu ?_)
       refine bP hs ?_;rw[pj];simp only[dw,eJ];((try revert hK K);(repeat'(first|refine Va @zQ ?_|(refine V2 @zQ ?_ ?_<;>try with_reducible intro hb)|(refine Xi ?_ ?_<;>try intro ht)|refine VD ?_ ?_|exact Xx|fail))<;>try with_reducible intro K hK)
       refine gw _ (j',k4,aB++[rr]) ⟨Hj,uN,λx hx=>?_⟩ Hi ?_
       ·rcases cG.1 hx with hx|hx
        ·exact wj x hx
        ·simp only[cS]at hx;subst hx;exact hmul
       ·rw[pj];simp only[dw,eJ];exact Xs false [0,1,2,3,4,5,6,9] X0
      intro QQ key;clear gw fK;refine MF 0 [] [3,5] (.take 0 (.take 1 (.take 2 (.take 3 (.take 4 (.take 5 (.take 6 (.take 7 (.take 8 (.take 9 (.take 10 .nil))))))))))) rfl Hg (by decide +kernel) ?_;simp(disch:=omega)only[Ac,↓Pc,simprocAttr,Hc,gM];repeat'(first|with_reducible refine cD ?_ ?_|omega|with_reducible rfl|(refine BD (hx1) rfl rfl rfl rfl (by(repeat'(first|exact trivial|refine cD ?_ ?_))<;>first|exact .inl ⟨rfl,rfl⟩|exact .inr ⟨rfl,rfl⟩) ?_;simp(disch:=omega)only[Ac,↓Pc,simprocAttr,Hc,gM,eV])|(refine BD (MJ) rfl rfl rfl rfl (by(repeat'(first|exact trivial|refine cD ?_ ?_))<;>first|exact .inl ⟨rfl,rfl⟩|exact .inr ⟨rfl,rfl⟩) ?_;simp(disch:=omega)only[Ac,↓Pc,simprocAttr,Hc,gM,eV]))
      all_goals refine key _ ?_
      all_goals rw[pj]
      all_goals simp only[dw,eJ]
      all_goals exact Xv X0
     ·obtain rfl:j=0:=Ey;((try revert hK K);(repeat'(first|refine Va X0 ?_|(refine V2 X0 ?_ ?_<;>try with_reducible intro hb)|(refine Xi ?_ ?_<;>try intro ht)|refine VD ?_ ?_|exact Xx|fail))<;>try with_reducible intro K hK)
      refine fK _ _ rfl ?_;clear gw fK mH;repeat(first|refine Xu ?_)
      refine bP (aD.v7 7 6 3 1 (rows:=ints aB) rfl rfl (by rw[xl];rfl) (uw _) (xn _)) ?_;refine bP (σ':=⟨ar [(0,.ptr 0 0 0),(2,.ptr 1 0 0),(3,.ptr 2 0 0),(4,QM i),(5,.ref 3 1 0 i),(10,QM a),(11,QM q),(12,.ptr 6 0 0)],iY L k cls ae par i++[.var (aI ⟨a,q,1,aB⟩),.gone]⟩) (by rw[pj];exact Xv @aI.eq_1) ?_;rw[pj];simp only[dw,eJ];have ap':ae.length<100:=Ey;((try revert hK K);(repeat'(first|refine Va @aI.eq_1 ?_|(refine V2 @aI.eq_1 ?_ ?_<;>try with_reducible intro hb)|(refine Xi ?_ ?_<;>try intro ht)|refine VD ?_ ?_|exact Xx|fail))<;>try with_reducible intro K hK)
      refine bg _ (q+1,k,ae++[⟨a,q,1,aB⟩]) ⟨⟨Hi,Hi⟩,hk,⟨by dsimp only;rw[List.map_append,jh,Iq,List.append_assoc];rfl,by dsimp only;rw[bN];simp only[List.length_cons,List.length_nil];omega⟩,λx hx=>?_⟩ Hi ?_
      ·rcases cG.1 hx with hx|hx
       ·exact pZ x hx
       ·simp only[cS]at hx;subst hx;refine⟨rfl,⟨Hi,Hi,Hi⟩,?_,wj⟩;dsimp only;rw[dg,dg,xI,Fe,MN];omega
      ·rw[pj];rw[show rowsOf aI ae++[[AV.lit (.int .i64 a),AV.lit (.int .i64 q),AV.lit (.int .i64 1),AV.tree 1 (ints aB)]]=rowsOf aI (ae++[⟨a,q,1,aB⟩]) from pS (enc:=aI) ae ⟨a,q,1,aB⟩];exact Xs false [0,1,2,3,4,9] X0
    ·rw[if_neg ML,n9]at Iq;((try revert hK K);(repeat'(first|refine Va (X2 @yI @dG) ?_|(refine V2 (X2 @yI @dG) ?_ ?_<;>try with_reducible intro hb)|(refine Xi ?_ ?_<;>try intro ht)|refine VD ?_ ?_|exact Xx|fail))<;>try with_reducible intro K hK)
     all_goals try(exfalso;omega)
     exact bg _ (q+1,k,ae) ⟨⟨Hi,Hi⟩,hk,⟨by dsimp only;rw[Iq];exact jh,Hi⟩,pZ⟩ Hi (by rw[pj];exact Xv X0)
   ·obtain rfl:q=i:=Ey;((try revert hK K);(repeat'(first|refine Va X0 ?_|(refine V2 X0 ?_ ?_<;>try with_reducible intro hb)|(refine Xi ?_ ?_<;>try intro ht)|refine VD ?_ ?_|exact Xx|fail))<;>try with_reducible intro K hK)
    refine bm _ _ rfl ?_;clear bg bm cR;repeat(first|refine Xu ?_)
    ((try revert hK K);(repeat'(first|refine Va X0 ?_|(refine V2 X0 ?_ ?_<;>try with_reducible intro hb)|(refine Xi ?_ ?_<;>try intro ht)|refine VD ?_ ?_|exact Xx|fail))<;>try with_reducible intro K hK)
    exact ak _ (a+1,k,ae) ⟨Hi,hk,⟨by dsimp only;rw[wg];exact jh,Hi⟩,pZ⟩ Hi (by rw[pj];exact Xv X0)
  ·obtain rfl:a=i:=Ey;rw[pj];((try revert hK K);(repeat'(first|refine Va X0 ?_|(refine V2 X0 ?_ ?_<;>try with_reducible intro hb)|(refine Xi ?_ ?_<;>try intro ht)|refine VD ?_ ?_|exact Xx|fail))<;>try with_reducible intro K hK)
   refine aq _ _ rfl ?_;clear ak aq Ql;repeat(first|refine Xu ?_)
   ((try revert hK K);(repeat'(first|refine Vb X0 ?_|(refine V2 X0 ?_ ?_<;>try with_reducible intro hb)|(refine Xi ?_ ?_<;>try intro ht)|refine VD ?_ ?_|exact Xx|fail))<;>try with_reducible intro K hK)
   have hTr:Dm ⟨cls,ae,[],2⟩ par:=⟨Hi,Hi,tx,pY,by dsimp only;rw[bI];exact jh,pZ,rfl,rfl⟩;unfold fU;simp only[dV,dP];simp(disch:=omega)only[Ac,↓Pc,simprocAttr];refine⟨_,_,⟨⟨cls,ae,[],2⟩,par,k,hTr,hk,rfl,rfl⟩,?_⟩;refine iJ [0] true Hg ⟨⟨G9,.inr rfl⟩,trivial⟩ Hg Hg (a7.agg _ _ rfl (jN.spec (R:=a7 _ _ _ _) (cs:=ao ⟨cls,ae,[],2⟩) (ds:=[.ref 4 1 0 cls.length,.ref 5 4 0 ae.length,.lit (.slice none 0 0),QM 2]) ⟨?_,?_,.snap _ _ rfl (cX.nil 4),.pure rfl,trivial⟩).2)
   ·first|exact .pure rfl|exact .eq rfl|exact .fz rfl (by simp only[Bc,Rc])
   ·first|exact .pure rfl|exact .eq rfl|exact .fz rfl (by simp only[Bc,Rc])
def aho(L:List Int)(k:Nat)(hk:k<=L.length)(hL:L.length<1000000):
  dv Tryz.prog 11 [.ptr 0 0 0] [gY L k] (λr os=>∃ m k',Ff m/\k'<=L.length/\r=.agg (ao m)/\os=[gY L k']):=by
 have Vg:=iB L k 8 (by unfold cY;omega) hk hL;have hv:=kh (L:=L) (k:=k) (n:=8) Ey;have bw:=fJ hk;generalize ek L k 8=v at *;generalize cQ L k=k2 at *;clear hk;unfold gY at *;refine dv.aM 18 1 [.cell 2 32] Tryz.func11 ?_;((try revert hK K);(repeat'(first|refine Va X0 ?_|(refine V2 X0 ?_ ?_<;>try with_reducible intro hb)|(refine Xi ?_ ?_<;>try intro ht)|refine VD ?_ ?_|exact Xx|fail))<;>try with_reducible intro K hK)
 (refine Xn [0] (Vg) ?_;simp(disch:=omega)only[Ac,↓Pc,simprocAttr])
 have BH:∀ (env:Nat->AV) (m:ah) (k':Nat),Ff m->k'<=L.length->env 2=.ptr 1 0 0->fU Tryz.prog 1 [.cell 2 32] (λr os=>∃ m k',Ff m/\k'<=L.length/\r=.agg (ao m)/\os=[.var [.tree 1 (ints L),QM k']]) .ret ⟨env,[.var [.tree 1 (ints L),QM k'],.var (ao m)]⟩:=by
  intro env m k' gx bj ka;unfold fU;simp only[dV,dP,ka];simp(disch:=omega)only[Ac,↓Pc,simprocAttr,ka];refine⟨_,_,⟨m,k',gx,bj,rfl,rfl⟩,?_⟩;exact Xw true [0] X0
 clear Vg;by_cases qU:v=0
 ·repeat'(first|((fail_if_success (first|refine dW 3 ?_|refine dX 3 ?_));refine Xr X0 ?_;intro K hK)|refine Xo X0 ?_|(refine hK _ ?_;clear hK K)|(refine Xg X0 ?_ ?_<;>try intro hb)|(refine Xi ?_ ?_<;>try intro ht)|refine Xy ?_|refine Xd ?_ ?_|exact Xx|fail)
  have uF:=ahA L k2 3 3 bw hL Hg Hg Hg;unfold gY at uF;refine ahB 2 0 Hg _ _ rfl rfl ?_;intro K hK;simp(disch:=omega)only[Ac,↓Pc,simprocAttr,jd,eQ];refine⟨rfl,(show kd Tryz.prog 37 [.ptr 0 0 0,QM (3:Nat),QM (3:Nat)] (some 9) _ _ from ?_)⟩;refine zU [0] uF Hg ⟨rfl,trivial⟩ ⟨.eq rfl,.pure rfl,.pure rfl,trivial⟩ ?_;rintro r os⟨m,k,hm,hk,rfl,rfl⟩;have yJ:=hm;have Vh:=ahC 3 Hg L k m hm.vm hm.qT hk hL;unfold gY at Vh;simp(disch:=omega)only[Ac,↓Pc,simprocAttr];refine⟨rfl,(show kd Tryz.prog 36 [.ptr 0 0 0,.agg (ao m)] (some 10) _ _ from ?_)⟩;refine zU [0] Vh Hg ⟨rfl,trivial⟩ ⟨.eq rfl,.pure rfl,trivial⟩ ?_;rintro r os⟨m2,k,hm,hk,rfl,rfl⟩;simp(disch:=omega)only[Ac,↓Pc,simprocAttr];refine hK _ ?_;clear hK K;((try revert hK K);(repeat'(first|refine Va X0 ?_|(refine V2 X0 ?_ ?_<;>try with_reducible intro hb)|(refine Xi ?_ ?_<;>try intro ht)|refine VD ?_ ?_|exact Xx|fail))<;>try with_reducible intro K hK)
  refine BH _ m2 k ⟨hm.om.mono Hg,?_⟩ hk (by simp only[Kc,simprocAttr]);have h3:=MO (b:=3) Hg m.cls (λl hl=>(yJ.some l hl).2);have h4:3^m.cls.length<=3^3:=Nat.pow_le_pow_right Hg yJ.qT;rcases hm.cl with e|⟨x,hx,e⟩
  ·rw[e];omega
  ·have h5:=hm.om.opt x (by rw[e];simp);rw[e,Vi];have h6:xJ m.cls*max 1 x.length<=27*25:=w8 Ey Ey;omega
 by_cases pf:v=1\/v=2
 ·have Dt:=ahw L k2 bw hL;unfold gY at Dt;repeat'(first|((fail_if_success (first|refine dW 6 ?_|refine dX 6 ?_));refine Xr X0 ?_;intro K hK)|refine Xo X0 ?_|(refine hK _ ?_;clear hK K)|(refine Xg X0 ?_ ?_<;>try intro hb)|(refine Xi ?_ ?_<;>try intro ht)|refine Xy ?_|refine Xd ?_ ?_|exact Xx|fail)
  all_goals try(exfalso;omega)
  all_goals
   refine oC 1 Hg _ rfl ?_;intro K hK;simp(disch:=omega)only[Ac,↓Pc,simprocAttr,jd,eQ];refine⟨rfl,(show kd Tryz.prog 21 [.ptr 0 0 0] (some 15) _ _ from ?_)⟩;refine zU [0] Dt Hg ⟨rfl,trivial⟩ ⟨.eq rfl,trivial⟩ ?_;rintro r os⟨m,par,k,hm,hk,rfl,rfl⟩;simp(disch:=omega)only[Ac,↓Pc,simprocAttr];refine hK _ ?_;clear hK K;((try revert hK K);(repeat'(first|refine Va X0 ?_|(refine V2 X0 ?_ ?_<;>try with_reducible intro hb)|(refine Xi ?_ ?_<;>try intro ht)|refine VD ?_ ?_|exact Xx|fail))<;>try with_reducible intro K hK)
   exact BH _ m k (.of hm.MP λl hl=>by have:=(hm.cl l hl).1;omega) hk (by simp only[Kc,simprocAttr])
 ·have Vj:=ahD L k2 bw hL;unfold gY at Vj;repeat'(first|((fail_if_success (first|refine dW 7 ?_|refine dX 7 ?_));refine Xr X0 ?_;intro K hK)|refine Xo X0 ?_|(refine hK _ ?_;clear hK K)|(refine Xg X0 ?_ ?_<;>try intro hb)|(refine Xi ?_ ?_<;>try intro ht)|refine Xy ?_|refine Xd ?_ ?_|exact Xx|fail)
  all_goals try(exfalso;omega)
  all_goals
   refine oC 1 Hg _ rfl ?_;intro K hK;simp(disch:=omega)only[Ac,↓Pc,simprocAttr,jd,eQ];refine⟨rfl,(show kd Tryz.prog 33 [.ptr 0 0 0] (some 17) _ _ from ?_)⟩;refine zU [0] Vj Hg ⟨rfl,trivial⟩ ⟨.eq rfl,trivial⟩ ?_;rintro r os⟨m,k,hm,hk,rfl,rfl⟩;simp(disch:=omega)only[Ac,↓Pc,simprocAttr];refine hK _ ?_;clear hK K;((try revert hK K);(repeat'(first|refine Va X0 ?_|(refine V2 X0 ?_ ?_<;>try with_reducible intro hb)|(refine Xi ?_ ?_<;>try intro ht)|refine VD ?_ ?_|exact Xx|fail))<;>try with_reducible intro K hK)
   exact BH _ m k (.of ⟨hm.vm.mb,by have:=hm.qT;omega,λl hl=>by have:=hm.opt l hl;omega⟩ hm.opt) hk (by simp only[Kc,simprocAttr])
def ints_set(P:List Int)(k:Nat)(v:Int):(ints P).set k [QM v]=ints (P.set k v):=by unfold ints;rw[List.map_set]
end T

