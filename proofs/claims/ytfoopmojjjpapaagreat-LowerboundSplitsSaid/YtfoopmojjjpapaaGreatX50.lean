import Derived.Test.YtfoopmojjjpapaaGreatX49
import Derived.Test.YtfoopmojjjpapaaGreatX48
import Derived.Test.YtfoopmojjjpapaaGreatX40
set_option linter.all false
set_option maxHeartbeats 0
set_option maxRecDepth 20000
open Int renaming mul_le_mul→qG
open Nat renaming zero_le→aP,le_refl→aZ,le_trans→ud
open List renaming mem_of_mem_drop→zy,getElem?_eq_some_iff→aY
open Go Go.Am Go.Proofs
namespace T
def qo:List (List cP)->Int
 |[]=>1
 |l::r=>l.length*qo r
def Gl:∀ (cls:List (List cP)),(∀ l∈cls,1<=l.length)->1<=qo cls
 |[],_=>Int.le_refl _
 |l::r,h=>by
  have h1:=h l G9;have h2:=Gl r λx hx=>h x (by simp[hx]);rw[qo];have:(1:Int)*1<=l.length*qo r:=qG Ey h2 Ey Ey;omega
def alg(m:ah)(hm:VM m)(JC:∀ l∈m.cls,1<=l.length)(hb:qo m.cls<=9999):Holds Tryz.prog 19 [.agg (ao m)] [] (QM (qo m.cls)) []:=by
 have np:=hm.cls;have ON:=Gl m.cls JC;generalize an:qo m.cls=res at *;refine Holds.aM 26 0 [.tmp 2] Tryz.func19 ?_;refine Vb X0 ?_;refine aQ (λz:Nat×Int=>(⟨ar [(1,.ptr 0 0 0),(3,QM z.2),(4,QM z.1)],[.var (ao m)]⟩:St)) (λz=>z.1<=m.cls.length/\1<=z.2/\z.2*qo (m.cls.drop z.1)=res) (λz=>m.cls.length-z.1) (0,1) ⟨aP _,Hg,by rw[List.drop_zero,an];exact Int.one_mul _⟩ (Xv X0) ?_;rintro⟨i,n⟩⟨hi,o8,hr⟩Ql ak aq;dsimp only at hi o8 hr ⊢;have Nc:=Gl (m.cls.drop i) λx hx=>JC x (zy hx);have aqF:n<=res:=by
  rw[<- hr];have:n*1<=n*qo (m.cls.drop i):=Int.mul_le_mul_of_nonneg_left Nc Ey;omega
 by_cases au:i<m.cls.length
 ·have p8:=hm.opt _ (aF (l:=m.cls) (i:=i) (d:=default) au);have hl1:=JC _ (aF (l:=m.cls) (i:=i) (d:=default) au);rw[kR m.cls i default au,qo,<- Int.mul_assoc]at hr;have VK:=Gl (m.cls.drop (i+1)) λx hx=>JC x (zy hx);generalize a6:m.cls.getD i default=c at *;have sr:n*1<=n*(c.length:Int):=Int.mul_le_mul_of_nonneg_left Ey Ey;have uU:n*(c.length:Int)<=10000*24:=qG Ey Ey Ey Ey;generalize su:n*(c.length:Int)=nc at *;((repeat'(first|refine Va (X3 @a6 @aT.eq_1 @su) ?_|(refine V2 (X3 @a6 @aT.eq_1 @su) ?_ ?_<;>try with_reducible intro hb)|(refine Xi ?_ ?_<;>try intro ht)|exact Xx|fail)))
  exact ak _ (i+1,nc) ⟨Hi,Hi,hr⟩ Hi (Xv X0)
 ·rw[List.drop_eq_nil_of_le Ey,qo,Int.mul_one]at hr;((repeat'(first|refine Va X0 ?_|(refine V2 X0 ?_ ?_<;>try with_reducible intro hb)|(refine Xi ?_ ?_<;>try intro ht)|exact Xx|fail)))
  all_goals
   refine aq _ _ rfl ?_;clear ak aq Ql;repeat(refine Xu ?_)
   refine Vb X0 ?_;exact aN rfl (by rw[<- hr,Int.min_eq_left Ey])
def aci{w:Nat}:∀ (cls:List (List cP)) (k:Nat),1<=w->cls.length<=k->(∀ l∈cls,1<=l.length/\l.length<=w)->qo cls<=(w:Int)^k
 |[],k,hw,_,_=>by
  rw[qo];have:(0:Int)<(w:Int)^k:=Int.pow_pos Ey;omega
 |l::r,0,_,hk,_=>by simp at hk
 |l::r,k+1,hw,hk,h=>by
  have h1:=h l G9;have h2:=aci r k hw (by simpa using hk) λx hx=>h x (by simp[hx]);have h3:=Gl r λx hx=>(h x (by simp[hx])).1;rw[qo,Int.pow_succ,Int.mul_comm ((w:Int)^k)];exact qG Ey h2 Ey Ey
def acj{m:ah}{w:Nat}(h:∀ l∈m.cls,l.length<=w):∀ d,d<=m.cls.length->JD m d<=w^d
 |0,_=>aZ _
 |d+1,hd=>by
  rw[JD,Nat.pow_succ,Nat.mul_comm];exact Nat.mul_le_mul (acj h d Ey) (h _ (aF Ey))
structure FW(m:ah):Prop where
 vm:VM m
 qT:m.cls.length<=4
 opt:∀ l∈m.cls,l.length<=4
def FW.cap{m:ah}(h:FW m):JD m m.cls.length<=8000 :=
 ud (acj h.opt _ (aZ _)) (ud (Nat.pow_le_pow_right Hg h.qT) Hg)
def MM.fw{m:ah}{a b:Nat}(h:MM m a b)(ha:a<=4)(hb:b<=4):FW m:=⟨h.vm,ud h.qT ha,λl hl=>ud (h.some l hl).2 hb⟩
def FW.BS{m:ah}(h:FW m){c:Int}(hc:0<=c):FW (qV m c):=⟨ahH h.vm hc,by unfold qV;simpa using h.qT,λl hl=>by
 rcases List.mem_or_eq_of_mem_set hl with h1|h1
 ·exact h.opt l h1
 ·rw[h1];exact aP _⟩
def alh(L:List Int)(k:Nat)(hk:k<=L.length)(hL:L.length<1000000):
  dv Tryz.prog 33 [.ptr 0 0 0] [gY L k] (λr os=>∃ m k',FW m/\k'<=L.length/\r=.agg (z7 m)/\os=[gY L k',.arr 4 (rowsOf aI m.ae)]):=by
 have uF:=VC L k 4 4 hk hL Hg Hg Hg;unfold gY at *;refine dv.aM 117 1 [.cell 2 32] Tryz.func33 ?_;repeat'(first|((fail_if_success (first|refine dW 1 ?_|refine dX 1 ?_));refine Xr X0 ?_;intro K hK)|(refine hK _ ?_;clear hK K)|refine Xy ?_|fail)
 refine oC 1 Hg _ rfl ?_;intro K hK;simp(disch:=omega)only[Ac,↓Pc,simprocAttr,List.take,List.drop];refine⟨rfl,(show kd Tryz.prog 37 [.ptr 0 0 0,QM (4:Nat),QM (4:Nat)] (some 11) _ _ from ?_)⟩;refine zU [0] uF Hg ⟨rfl,trivial⟩ ⟨.eq rfl,.pure rfl,.pure rfl,trivial⟩ ?_;rintro r os⟨m,k1,hm,gf,rfl,rfl⟩;clear uF hk;have Gm:=hm.fw (aZ 4) (aZ 4);have gj:qo m.cls<=256:=Int.le_trans (aci (w:=4) m.cls 4 Hg hm.qT hm.some) Hg;have fX:=alg m hm.vm (λl hl=>(hm.some l hl).1) Ey;generalize qo m.cls=pn at *;unfold z7;simp(disch:=omega)only[Ac,↓Pc,simprocAttr,oz];refine hK _ ?_;clear hK K;repeat(refine Xu ?_)
 have nk:=Dk L k1 12 (by unfold cY;omega) Ey gf hL;have bw:=fJ gf;refine Va X0 ?_;refine aQ (λ_:Unit=>(⟨ar [(0,.ptr 0 0 0),(2,.ptr 1 0 0),(3,.ptr 3 0 0)],[.var [.tree 1 (ints L),QM k1],.var [.lit (.slice none 0 0),.lit (.slice none 0 0),.lit (.slice none 0 0),QM 0],.arr 4 (rowsOf aI m.ae),.var [.tree 1 (rowsOf aT m.cls),.ref 2 4 0 m.ae.length,.tree 4 (rowsOf dz m.aE),QM m.rules]]⟩:St)) (λ_=>True) (λ_=>0) () trivial (Xv X0) ?_;rintro _ _ Ql ak aq;((refine Va X0 ?_)<;>try with_reducible intro K hK)
 refine ug [] fX Hg trivial ⟨(a7.agg _ _ rfl (jN.spec (R:=a7 _ _ _ _) (cs:=ao m) (ds:=[.tree 1 (rowsOf aT m.cls),.ref 2 4 0 m.ae.length,.tree 4 (rowsOf dz m.aE),QM m.rules]) ⟨.pure rfl,a7.cN rfl (iA _) (by rw[cF]) G9 (mF _),.pure rfl,.pure rfl,trivial⟩).2),trivial⟩ rfl G9 ?_;simp(disch:=omega)only[Ac,↓Pc,simprocAttr];((try revert hK K);(repeat'(first|refine Va X0 ?_|(refine Xi ?_ ?_<;>try intro ht)|exact Xx|fail)))
 refine aq _ _ rfl ?_;clear ak aq Ql;repeat(refine Xu ?_)
 clear fX gj;have BH:∀ (env:Nat->AV) (m:ah) (k':Nat) (q:Nat) (os:List Ob),FW m->k'<=L.length->env 2=.ptr 1 0 0->os[0]?=some (.var [.tree 1 (ints L),QM k'])->os[1]?=some (.var [.tree 1 (rowsOf aT m.cls),.ref q 4 0 m.ae.length,.tree 4 (rowsOf dz m.aE),QM m.rules])->os[q]?=some (.arr 4 (rowsOf aI m.ae))->q≠0 ->
   fU Tryz.prog 1 [.cell 2 32] (λr os=>∃ m k',FW m/\k'<=L.length/\r=.agg (z7 m)/\os=[.var [.tree 1 (ints L),QM k'],.arr 4 (rowsOf aI m.ae)]) .ret ⟨env,os⟩:=by
  intro env m k' q os gx bj ka h0 h1 hq hq0;have hl0:=(aY.1 h0).1;have hlq:=(aY.1 hq).1;unfold fU;simp only[dV,dP,ka];simp(disch:=omega)only[Ac,↓Pc,simprocAttr,ka,h1];refine⟨_,_,⟨m,k',gx,bj,rfl,rfl⟩,?_⟩;refine iJ [0,q] true (by simp[Ne.symm hq0]) ⟨⟨hl0,.inr (by rw[h0];rfl)⟩,⟨hlq,.inr (by rw[hq,oz])⟩,trivial⟩ G9 (λi hi=>by
   obtain rfl:i=0:=Ey;rfl) ?_
  refine(a7.agg _ _ rfl (jN.spec (R:=a7 _ _ _ _) (cs:=z7 m) (ds:=[.tree 1 (rowsOf aT m.cls),.ref q 4 0 m.ae.length,.tree 4 (rowsOf dz m.aE),QM m.rules]) ⟨.pure rfl,.eq rfl,.pure rfl,.pure rfl,trivial⟩).2)
 ((repeat'(first|refine Va X0 ?_|(refine V2 X0 ?_ ?_<;>try with_reducible intro hb)|(refine Xi ?_ ?_<;>try intro ht)|exact Xx|fail))<;>try with_reducible intro K hK)
 rotate_left
 ·exact BH _ m k1 2 _ Gm gf (by simp only[Kc,simprocAttr]) rfl rfl rfl Hg
 have mD:0<m.cls.length:=Ey;have kB:=iB L (cQ L k1) (m.cls.length:Int) (by unfold cY;have:=hm.vm.cls;omega) bw hL;have Dq:=kh (L:=L) (k:=cQ L k1) (n:=(m.cls.length:Int)) Ey;have hwo:=ahK m hm.vm (ek L (cQ L k1) (m.cls.length:Int)) Dq;have hwf:=Gm.BS Dq.1;have gK:=fJ bw;unfold gY at *;generalize BE L k1 12=bo at *;generalize ek L (cQ L k1) (m.cls.length:Int)=v at *;generalize cQ L (cQ L k1)=k3 at *;generalize cQ L k1=k2 at *;generalize qV m v=mw at *;(refine Xn [0] (nk) ?_;simp(disch:=omega)only[Ac,↓Pc,simprocAttr])
 ((try revert hK K);(repeat'(first|refine Va X0 ?_|(refine Xi ?_ ?_<;>try intro ht)|fail))<;>try with_reducible intro K hK)
 ·(refine Xn [0] (kB) ?_;simp(disch:=omega)only[Ac,↓Pc,simprocAttr])
  repeat'(first|(refine hK _ ?_;clear hK K)|refine Xy ?_|fail)
  refine bP (aD.v7 2 3 1 4 QI QI (by rw[cF];rfl) (iA _) (mF _)) ?_;unfold MT at hwo;((refine Va X0 ?_)<;>try with_reducible intro K hK)
  (refine Xn [] (hwo) ?_;simp(disch:=omega)only[Ac,↓Pc,simprocAttr,oz])
  ((try revert hK K);(refine Va X0 ?_))
  exact BH _ mw k3 4 _ hwf gK (by simp only[Kc,simprocAttr]) rfl rfl rfl Hg
 ·exact BH _ m k2 2 _ Gm bw (by simp only[Kc,simprocAttr]) rfl rfl rfl Hg
def ahD(L:List Int)(k:Nat)(hk:k<=L.length)(hL:L.length<1000000):
  dv Tryz.prog 33 [.ptr 0 0 0] [gY L k] (λr os=>∃ m k',FW m/\k'<=L.length/\r=.agg (ao m)/\os=[gY L k']) :=
 Vz (alh L k hk hL) λr os h=>by
  obtain⟨m,k',h1,h2,rfl,rfl⟩:=h;exact⟨_,_,⟨m,k',h1,h2,rfl,rfl⟩,VB m _ (λ_=>rfl)⟩
end T

