import Derived.Test.YtjadfapldkfbpaaGreatX36
import Derived.Test.YtjadfapldkfbpaaGreatX37
set_option linter.all false
set_option maxHeartbeats 0
set_option maxRecDepth 20000
open Nat renaming le_trans→j',le_refl→aR,zero_le→aF,mul_le_mul→DN
open List renaming mem_or_eq_of_mem_set→oP,take→mS,drop→kC,getElem?_eq_some_iff→aY
open Int renaming le_trans→z'
open Go Go.Am Go.Proofs
namespace T
structure FW(m:ah):Prop where
 vm:VM m
 qI:m.cls.length<=4
 opt:∀ l∈m.cls,l.length<=4
def FW.cap{m:ah}(h:FW m):I5 m m.cls.length<=8000 :=
 j' (Zl h.opt _ (aR _)) (j' (Nat.pow_le_pow_right Kq h.qI) Kq)
def MM.fw{m:ah}{a b:Nat}(h:MM m a b)(ha:a<=4)(hb:b<=4):FW m:=⟨h.vm,j' h.qI ha,λl hl=>j' (h.some l hl).2 hb⟩
def FW.alA{m:ah}(h:FW m){c:Int}(hc:0<=c):FW (q7 m c):=⟨alv h.vm hc,by unfold q7;simpa using h.qI,λl hl=>by
 rcases oP hl with h1|h1
 ·exact h.opt l h1
 ·rw[h1];exact aF _⟩
def alB(L:List Int)(k:Nat)(hk:k<=L.length)(hL:L.length<1000000):
  fG Tryz.prog 19 [.ptr 0 0 0] [ef L k] (λr os=>∃ m k',FW m/\k'<=L.length/\r=.agg (yB m)/\os=[ef L k',.arr 4 (rowsOf aQ m.ae)]):=by
 have y9:=abq L k 4 4 hk hL Kq Kq Kq;unfold ef at *;refine fG.aC 117 1 [.cell 2 37] Tryz.func19 ?_;repeat'(first|((fail_if_success (first|refine dE 1 ?_|refine dF 1 ?_));refine Xr X0 ?_;intro K hK)|(refine hK _ ?_;clear hK K)|refine Xy ?_|fail)
 refine sR 1 Kq _ rfl ?_;intro K hK;simp(disch:=omega)only[Ac,↓Pc,simprocAttr,mS,kC];refine⟨rfl,(show nF Tryz.prog 18 [.ptr 0 0 0,aaa (4:Nat),aaa (4:Nat)] (some 11) _ _ from ?_)⟩;refine EH [0] y9 Kq ⟨rfl,trivial⟩ ⟨.eq rfl,.pure rfl,.pure rfl,trivial⟩ ?_;rintro r os⟨m,k1,hm,gv,rfl,rfl⟩;clear y9 hk;have O0:=hm.fw (aR 4) (aR 4);have ke:p9 m.cls<=256:=z' (abu (w:=4) m.cls 4 Kq hm.qI hm.some) Kq;have gZ:=akZ m hm.vm (λl hl=>(hm.some l hl).1) G3;generalize p9 m.cls=pn at *;unfold yB;simp(disch:=omega)only[Ac,↓Pc,simprocAttr,rM];refine hK _ ?_;clear hK K;repeat(refine Xu ?_)
 have lu:=AS L k1 12 (by unfold dS;omega) G3 gv hL;have bW:=dN gv;refine Va X0 ?_;refine aO (λ_:Unit=>(⟨au [(0,.ptr 0 0 0),(2,.ptr 1 0 0),(3,.ptr 3 0 0)],[.var [.tree 1 (ints L),aaa k1],.var [.lit (.slice none 0 0),.lit (.slice none 0 0),.lit (.slice none 0 0),aaa 0],.arr 4 (rowsOf aQ m.ae),.var [.tree 1 (rowsOf a9 m.cls),.ref 2 4 0 m.ae.length,.tree 4 (rowsOf aV m.ax),aaa m.rules]]⟩:St)) (λ_=>True) (λ_=>0) () trivial (Xv X0) ?_;rintro _ _ Ql ak ar;((refine Va X0 ?_)<;>try with_reducible intro K hK)
 refine pI [] gZ Kq trivial ⟨(aI.agg _ _ rfl (eY.spec (R:=aI _ _ _ _) (cs:=ao m) (ds:=[.tree 1 (rowsOf a9 m.cls),.ref 2 4 0 m.ae.length,.tree 4 (rowsOf aV m.ax),aaa m.rules]) ⟨.pure rfl,aI.cp rfl (fQ _) (by rw[bX]) G9 (jX _),.pure rfl,.pure rfl,trivial⟩).2),trivial⟩ rfl G9 ?_;simp(disch:=omega)only[Ac,↓Pc,simprocAttr];((try revert hK K);(repeat'(first|refine Va X0 ?_|(refine Xi ?_ ?_<;>try intro ht)|exact Xx|fail)))
 refine ar _ _ rfl ?_;clear ak ar Ql;repeat(refine Xu ?_)
 clear gZ ke;have Du:∀ (env:Nat->AV) (m:ah) (k':Nat) (q:Nat) (os:List Ob),FW m->k'<=L.length->env 2=.ptr 1 0 0->os[0]?=some (.var [.tree 1 (ints L),aaa k'])->os[1]?=some (.var [.tree 1 (rowsOf a9 m.cls),.ref q 4 0 m.ae.length,.tree 4 (rowsOf aV m.ax),aaa m.rules])->os[q]?=some (.arr 4 (rowsOf aQ m.ae))->q≠0 ->
   gR Tryz.prog 1 [.cell 2 37] (λr os=>∃ m k',FW m/\k'<=L.length/\r=.agg (yB m)/\os=[.var [.tree 1 (ints L),aaa k'],.arr 4 (rowsOf aQ m.ae)]) .ret ⟨env,os⟩:=by
  intro env m k' q os fq aL pU h0 h1 hq GJ;have hl0:=(aY.1 h0).1;have hlq:=(aY.1 hq).1;unfold gR;simp only[eQ,eG,pU];simp(disch:=omega)only[Ac,↓Pc,simprocAttr,pU,h1];refine⟨_,_,⟨m,k',fq,aL,rfl,rfl⟩,?_⟩;refine dr [0,q] true (by simp[Ne.symm GJ]) ⟨⟨hl0,.inr (by rw[h0];rfl)⟩,⟨hlq,.inr (by rw[hq,rM])⟩,trivial⟩ G9 (λi hi=>by
   obtain rfl:i=0:=G3;rfl) ?_
  refine(aI.agg _ _ rfl (eY.spec (R:=aI _ _ _ _) (cs:=yB m) (ds:=[.tree 1 (rowsOf a9 m.cls),.ref q 4 0 m.ae.length,.tree 4 (rowsOf aV m.ax),aaa m.rules]) ⟨.pure rfl,.eq rfl,.pure rfl,.pure rfl,trivial⟩).2)
 ((repeat'(first|refine Va X0 ?_|(refine V2 X0 ?_ ?_<;>try with_reducible intro hb)|(refine Xi ?_ ?_<;>try intro ht)|exact Xx|fail))<;>try with_reducible intro K hK)
 rotate_left
 ·exact Du _ m k1 2 _ O0 gv (by simp only[Kc,simprocAttr]) rfl rfl rfl Kq
 have mW:0<m.cls.length:=G3;have l4:=iw L (bR L k1) (m.cls.length:Int) (by unfold dS;have:=hm.vm.cls;omega) bW hL;have GH:=kd (L:=L) (k:=bR L k1) (n:=(m.cls.length:Int)) G3;have hwo:=aly m hm.vm (da L (bR L k1) (m.cls.length:Int)) GH;have hwf:=O0.alA GH.1;have kR:=dN bW;unfold ef at *;generalize xV L k1 12=bo at *;generalize da L (bR L k1) (m.cls.length:Int)=v at *;generalize bR L (bR L k1)=k3 at *;generalize bR L k1=k2 at *;generalize q7 m v=mw at *;(refine Xn [0] (lu) ?_;simp(disch:=omega)only[Ac,↓Pc,simprocAttr])
 ((try revert hK K);(repeat'(first|refine Va X0 ?_|(refine Xi ?_ ?_<;>try intro ht)|fail))<;>try with_reducible intro K hK)
 ·(refine Xn [0] (l4) ?_;simp(disch:=omega)only[Ac,↓Pc,simprocAttr])
  repeat'(first|(refine hK _ ?_;clear hK K)|refine Xy ?_|fail)
  refine bD (ay.kQ 2 3 1 4 P5 P5 (by rw[bX];rfl) (fQ _) (jX _)) ?_;unfold OZ at hwo;((refine Va X0 ?_)<;>try with_reducible intro K hK)
  (refine Xn [] (hwo) ?_;simp(disch:=omega)only[Ac,↓Pc,simprocAttr,rM])
  ((try revert hK K);(refine Va X0 ?_))
  exact Du _ mw k3 4 _ hwf kR (by simp only[Kc,simprocAttr]) rfl rfl rfl Kq
 ·exact Du _ m k2 2 _ O0 bW (by simp only[Kc,simprocAttr]) rfl rfl rfl Kq
def aco:∀ (l:List (List bV)) (n:Nat),FC l n<=((n*vv l:Nat):Int)
 |[],n=>by rw[FC,vv,Nat.mul_one];exact Int.le_refl _
 |c::r,n=>by
  rw[FC];split
  ·exact Int.natCast_nonneg _
  ·rw[show(min ((n:Int)*c.length) 65537:Int)=((min (n*c.length) 65537:Nat):Int) by rw[<- Int.natCast_mul];omega];refine z' (aco r _) (Int.ofNat_le.2 ?_);rw[vv,<- Nat.mul_assoc];exact Nat.mul_le_mul_right _ (Nat.min_le_left _ _)
def O1{w:Nat}(hw:1<=w):∀ (l:List (List bV)) (k:Nat),l.length<=k->(∀ x∈l,x.length<=w)->vv l<=w^k
 |[],k,_,_=>Nat.pow_pos hw
 |c::r,0,h,_=>by simp at h
 |c::r,k+1,h,hx=>by
  rw[vv,Nat.pow_succ,Nat.mul_comm (w^k)];exact DN (hx c G9) (O1 hw r k (by simpa using h) λx h1=>hx x (by simp[h1]))
def acp(x:List bV):∀ l:List (List bV),vv (l++[x])=vv l*x.length
 |[]=>by show x.length*1=1*x.length;omega
 |c::r=>by rw[List.cons_append,vv,vv,acp x r,Nat.mul_assoc]
def acq{m:ah}(k:Nat)(h:vv m.cls<=k):Nk m<=k:=by
 unfold Nk;split
 ·have:=aco m.cls 1;rw[show((1:Nat):Int)=1 from rfl,Nat.one_mul]at this;omega
 ·exact Int.natCast_nonneg k
structure TM(m:ah):Prop where
 om:OM m
 qI:VM m->Nk m<=1000
 gm:GM m
def GG.gm{m m':ah}{q:Nat}(hv:VM m)(hf:m.cls.length<=23)(h:GG q m m'):GM m':=by
 obtain⟨p1,p2⟩:=h.pn;have hl:m.cls.length<=m'.cls.length/\m'.cls.length<=24:=by
  rcases h.cl with e|⟨x,_,e⟩<;>rw[e]
  ·omega
  ·simp;omega
 have hp:=hv.ae;refine⟨hl.2,h.om.opt,G3,λp hp=>?_⟩;have:=p2 p hp;unfold sx at *;omega
def GG.tm{m m':ah}{q:Nat}(hm:MM m 3 3)(hq:q<=24)(h:GG q m m'):TM m':=⟨h.om.mono G3,λhv=>acq 1000 (by
 have h3:=O1 (w:=3) Kq m.cls 3 hm.qI λx hx=>(hm.some x hx).2;rcases h.cl with e|⟨x,_,e⟩
 ·rw[e];omega
 ·have hx:x.length<=24:=hv.opt x (by rw[e];simp);rw[e,acp];exact j' (DN h3 hx) Kq),h.gm hm.vm (by have:=hm.qI;omega)⟩
def FW.tm{m:ah}(h:FW m){xs:List Pr}(hx:xs.length=m.ae.length)(ht:∀ p∈xs,p.aD.length<=576/\sx m p)(r:Int):TM ⟨m.cls,xs,m.ax,r⟩:=⟨(ma.ae (l:=xs) h.vm.om (by have:=h.vm.ae;omega) λp hp=>by have:=(ht p hp).1;omega).rules r,λ_=>acq 1000 (j' (O1 Kq m.cls 4 h.qI h.opt) Kq),⟨by have:=h.qI;dsimp only;omega,λl hl=>by have:=h.opt l hl;omega,by have:=h.vm.ae;dsimp only;omega,λp hp=>(ht p hp).2⟩⟩
def alE(L:List Int)(k:Nat)(hk:k<=L.length)(hL:L.length<1000000):
  fG Tryz.prog 7 [.ptr 0 0 0] [ef L k] (λr os=>∃ m k',TM m/\k'<=L.length/\r=.agg (ao m)/\os=[ef L k']):=by
 have lu:=AS L k 9 (by unfold dS;omega) G3 hk hL;have bW:=dN hk;generalize xV L k 9=bo at *;generalize bR L k=k2 at *;clear hk;unfold ef at *;refine fG.aC 51 1 [.cell 2 37] Tryz.func7 ?_;((refine Va X0 ?_)<;>try with_reducible intro K hK)
 (refine Xn [0] (lu) ?_;simp(disch:=omega)only[Ac,↓Pc,simprocAttr])
 have Du:∀ (env:Nat->AV) (m:ah) (k':Nat) (os:List Ob) (v:AV),TM m->k'<=L.length->env 2=.ptr 1 0 0->os[0]?=some (.var [.tree 1 (ints L),aaa k'])->os[1]?=some (.var [.tree 1 (rowsOf a9 m.cls),v,.tree 4 (rowsOf aV m.ax),aaa m.rules])->(v=.tree 4 (rowsOf aQ m.ae)\/∃ q,v=.ref q 4 0 m.ae.length/\q≠0/\os[q]?=some (.arr 4 (rowsOf aQ m.ae))) ->
   gR Tryz.prog 1 [.cell 2 37] (λr os=>∃ m k',TM m/\k'<=L.length/\r=.agg (ao m)/\os=[.var [.tree 1 (ints L),aaa k']]) .ret ⟨env,os⟩:=by
  intro env m k' os v fq aL pU h0 h1 hv;have hl0:=(aY.1 h0).1;have HQ:cJ v=true:=by rcases hv with rfl|⟨q,rfl,_⟩<;>rfl
  unfold gR;simp only[eQ,eG,pU];simp(disch:=omega)only[Ac,↓Pc,simprocAttr,pU,h1,HQ];refine⟨_,_,⟨m,k',fq,aL,rfl,rfl⟩,?_⟩;refine dr [0] true Kq ⟨⟨hl0,.inr (by rw[h0];rfl)⟩,trivial⟩ Kq (λi hi=>by
   obtain rfl:i=0:=G3;rfl) ?_
  refine(aI.agg _ _ rfl (eY.spec (R:=aI _ _ _ _) (cs:=ao m) (ds:=[.tree 1 (rowsOf a9 m.cls),v,.tree 4 (rowsOf aV m.ax),aaa m.rules]) ⟨.pure rfl,?_,.pure rfl,.pure rfl,trivial⟩).2);rcases hv with rfl|⟨q,rfl,GJ,hq⟩
  ·exact .pure rfl
  ·exact aI.cp hq (fQ _) (by rw[bX]) (iD (by simpa using GJ)) (jX _)
 repeat'(first|(refine hK _ ?_;clear hK K)|(refine Xi ?_ ?_<;>try intro ht)|refine Xy ?_|fail)
 ·have y9:=akY L k2 3 3 bW hL Kq Kq Kq;unfold ef at y9;refine afB 2 0 Kq _ _ rfl rfl ?_;intro K hK;simp(disch:=omega)only[Ac,↓Pc,simprocAttr,mS,kC];refine⟨rfl,(show nF Tryz.prog 18 [.ptr 0 0 0,aaa (3:Nat),aaa (3:Nat)] (some 11) _ _ from ?_)⟩;refine EH [0] y9 Kq ⟨rfl,trivial⟩ ⟨.eq rfl,.pure rfl,.pure rfl,trivial⟩ ?_;rintro r os⟨m,k,hm,hk,rfl,rfl⟩;have vp:=hm;have acr:=alr 24 (aR _) L k m hm.vm hm.vm.cls hk hL;unfold ef at acr;simp(disch:=omega)only[Ac,↓Pc,simprocAttr];refine⟨rfl,(show nF Tryz.prog 17 [.ptr 0 0 0,.agg (ao m)] (some 12) _ _ from ?_)⟩;refine EH [0] acr Kq ⟨rfl,trivial⟩ ⟨.eq rfl,.pure rfl,trivial⟩ ?_;rintro r os⟨m1,k,rX,hk,rfl,rfl⟩;have rW:=rX.tm vp (aR _);simp(disch:=omega)only[Ac,↓Pc,simprocAttr];refine hK _ ?_;clear hK K;refine Va X0 ?_;exact Du _ m1 k _ (.tree 4 (rowsOf aQ m1.ae)) rW hk (by simp only[Kc,simprocAttr]) rfl rfl (.inl rfl)
 ·have O2:=alB L k2 bW hL;unfold ef yB at O2;refine sR 1 Kq _ rfl ?_;intro K hK;simp(disch:=omega)only[Ac,↓Pc,simprocAttr,mS,kC];refine⟨rfl,(show nF Tryz.prog 19 [.ptr 0 0 0] (some 14) _ _ from ?_)⟩;refine EH [0] O2 Kq ⟨rfl,trivial⟩ ⟨.eq rfl,trivial⟩ ?_;rintro r os⟨m,k3,hm,kR,rfl,rfl⟩;simp(disch:=omega)only[Ac,↓Pc,simprocAttr,rM];refine hK _ ?_;clear hK K;clear O2 bW lu;have bP:=hm.vm;have cZ:=bP.iI;have dh:=bP.ae;have JD:∀ p∈m.ae,p.aD.length<=576/\sx m p:=λp hp=>⟨acj bP hp,bP.zS p hp⟩;refine Va X0 ?_;refine aO (λz:Nat×Nat×List Pr=>(⟨au [(0,.ptr 0 0 0),(2,.ptr 1 0 0),(3,.ptr 3 0 0),(4,aaa z.1)],[.var [.tree 1 (ints L),aaa z.2.1],.var [.lit (.slice none 0 0),.lit (.slice none 0 0),.lit (.slice none 0 0),aaa 0],.arr 4 (rowsOf aQ z.2.2),.var [.tree 1 (rowsOf a9 m.cls),.ref 2 4 0 m.ae.length,.tree 4 (rowsOf aV m.ax),aaa (m.rules+2)]]⟩:St))
   (λz=>z.1<=m.ae.length/\z.2.1<=L.length/\z.2.2.length=m.ae.length/\∀ p∈z.2.2,p.aD.length<=576/\sx m p) (λz=>m.ae.length-z.1) (0,k3,m.ae) ⟨aF _,kR,rfl,JD⟩ (Xv X0) ?_
  rintro⟨i,k,xs⟩⟨hi,hk,qU,JZ⟩Ql ak ar;dsimp only at hi hk qU JZ ⊢;by_cases hi':i<m.ae.length
  ·have mJ:=JZ _ (aB (l:=xs) (i:=i) (d:=default) G3);generalize bL:xs.getD i default=p at *;have aoB:=mJ.1;((repeat'(first|refine Va (X2 @bL @aQ.eq_1) ?_|(refine Xi ?_ ?_<;>try intro ht)|exact Xx|fail)))
   refine aO (λz:Nat×Nat×List Int=>(⟨au [(0,.ptr 0 0 0),(2,.ptr 1 0 0),(3,.ptr 3 0 0),(4,aaa i),(5,.ref 4 1 0 p.aD.length),(6,aaa z.1)],[.var [.tree 1 (ints L),aaa z.2.1],.var [.lit (.slice none 0 0),.lit (.slice none 0 0),.lit (.slice none 0 0),aaa 0],.arr 4 (rowsOf aQ xs),.var [.tree 1 (rowsOf a9 m.cls),.ref 2 4 0 m.ae.length,.tree 4 (rowsOf aV m.ax),aaa (m.rules+2)],.arr 1 (ints z.2.2)]⟩:St))
    (λz=>z.1<=p.aD.length/\z.2.1<=L.length/\z.2.2.length=p.aD.length) (λz=>p.aD.length-z.1) (0,k,p.aD) ⟨aF _,hk,rfl⟩ (Xv X0) ?_
   rintro⟨j,kk,t⟩⟨hj,iK,Gb⟩cL a7 ba;dsimp only at hj iK Gb ⊢;by_cases dx:j<p.aD.length
   ·have lu:=AS L kk 3 (by unfold dS;omega) G3 iK hL;have w0:=dN iK;unfold ef at *;generalize xV L kk 3=bo2 at *;generalize bR L kk=k4 at *;((repeat'(first|refine Va X0 ?_|(refine Xi ?_ ?_<;>try intro ht)|exact Xx|fail))<;>try with_reducible intro K hK)
    (refine Xn [0] (lu) ?_;simp(disch:=omega)only[Ac,↓Pc,simprocAttr])
    ((try revert hK K);(repeat'(first|refine Va @ints_set ?_|(refine Xi ?_ ?_<;>try intro ht)|fail)))
    ·exact a7 _ (j+1,k4,t.set j 1099511627776) ⟨Kw,w0,by simpa using Gb⟩ Kw (Xv X0)
    ·exact a7 _ (j+1,k4,t) ⟨Kw,w0,Gb⟩ Kw (Xv X0)
   ·((repeat'(first|refine Va X0 ?_|(refine Xi ?_ ?_<;>try intro ht)|exact Xx|fail)))
    refine ba _ _ rfl ?_;repeat(refine Xu ?_)
    have ht5:t.length<9223372036854775808:=G3;refine bD (ay.abE 5 4 1 (rows:=ints t) rfl (by rw[lh,Gb];simp only[Kc,simprocAttr]) (ny _) (oa _)) ?_;have lP:(rowsOf aQ xs).set i [aaa p.fst,aaa p.snd,aaa p.bF,.tree 1 (ints t)]=rowsOf aQ (xs.set i ⟨p.fst,p.snd,p.bF,t⟩):=Cv (enc:=aQ) xs i ⟨p.fst,p.snd,p.bF,t⟩;refine Va (X3 @bL @aQ.eq_1 @lP) ?_;exact ak _ (i+1,kk,xs.set i ⟨p.fst,p.snd,p.bF,t⟩) ⟨Kw,iK,by simpa using qU,λy hy=>(oP hy).elim (JZ y) λe=>by rw[e];exact⟨by show t.length<=576;omega,mJ.2⟩⟩ Kw (Xs false [0,1,2,3] X0)
  ·((repeat'(first|refine Va X0 ?_|(refine Xi ?_ ?_<;>try intro ht)|exact Xx|fail)))
   refine ar _ _ rfl ?_;clear ak ar Ql;repeat(refine Xu ?_)
   refine Va X0 ?_;exact Du _ ⟨m.cls,xs,m.ax,m.rules+2⟩ k _ (.ref 2 4 0 m.ae.length) (hm.tm qU JZ _) hk (by simp only[Kc,simprocAttr]) rfl rfl (.inr ⟨2,by rw[qU],Kq,rfl⟩)
end T

