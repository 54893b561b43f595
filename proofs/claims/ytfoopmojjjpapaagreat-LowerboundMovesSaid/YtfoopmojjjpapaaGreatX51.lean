import Derived.Test.YtfoopmojjjpapaaGreatX49
import Derived.Test.YtfoopmojjjpapaaGreatX48
import Derived.Test.YtfoopmojjjpapaaGreatX50
set_option linter.all false
set_option maxHeartbeats 0
set_option maxRecDepth 20000
open Nat renaming zero_le→aT,le_refl→bc,le_trans→rX
open List renaming getD_eq_getElem?_getD→aB,length_append→bE,getElem?_eq_some_iff→aR
open Go Go.Am Go.Proofs
namespace T
structure Dn(m:ah)(left:List (List Bool))(p:List Int):Prop where
 fit:df m left
 bp:BP m p
 one:∀ j,j<p.length->left.getD j default=yC (m.cls.getD j default).length (p.getD j 0).toNat
 all:∀ j,p.length<=j->j<m.cls.length->left.getD j default=List.replicate (m.cls.getD j default).length true
variable {m:ah} {left:List (List Bool)} {p:List Int}
def Dn.root(hm:VM m):Dn m (eS m) []:=by
 refine⟨XF hm,⟨aT _,λj hj=>(by cases hj)⟩,λj hj=>(by cases hj),λj _ hj=>?_⟩;unfold eS dO;rw[if_pos (rz.2 hm),iX _ _ _ hj]
def XG{left:List (List Bool)}{c j:Nat}(x:List Bool)(h:c≠j):(left.set c x).getD j default=left.getD j default:=by
 rw[aB,List.getElem?_set_ne h,<- aB]
def Dn.next(h:Dn m left p)(hc:p.length<m.cls.length){k:Nat}(hk:k<(m.cls.getD p.length default).length):Dn m (nL left p.length k) (p++[(k:Int)]):=by
 refine⟨XH h.fit (XI _ _ _),h.bp.snoc hc hk,λj hj=>?_,λj h1 h2=>?_⟩
 ·unfold nL;rw[bE]at hj;by_cases e:j<p.length
  ·rw[XG _ Iv,KV e];exact h.one j e
  ·obtain rfl:j=p.length:=by simp at hj;omega
   rw[uE _ _ _ (by rw[h.fit.1];exact hc),KW,h.fit.2 _ (by rw[h.fit.1];exact hc)];rfl
 ·unfold nL;rw[bE]at h1;rw[XG _ (by simp at h1;omega)];exact h.all j Iv h2
def Dn.single(h:Dn m left p)(hc:p.length<left.length)(h1:(left.getD p.length default).length=1):Dn m left (p++[0]):=by
 have fD:p.length<m.cls.length:=by rw[<- h.fit.1];exact hc
 have hl:=h.fit.2 _ hc;refine⟨h.fit,h.bp.snoc (k:=0) fD Iv,λj hj=>?_,λj h2 h3=>h.all j (by rw[bE]at h2;omega) h3⟩;rw[bE]at hj;by_cases e:j<p.length
 ·rw[KV e];exact h.one j e
 ·obtain rfl:j=p.length:=by simp at hj;omega
  rw[KW,h.all _ (bc _) fD,<- hl,h1];rfl
def Dn.skip:∀ (k:Nat) (p:List Int),left.length-p.length=k->Dn m left p->∃ r:List Int,Dn m left (p++r)/\(p++r).length=BJ left p.length/\∀ a,BK m (m.cls.length-p.length) p a=BK m (m.cls.length-(p++r).length) (p++r) a
 |k,p,hk,h=>by
  by_cases hc:p.length<left.length/\(left.getD p.length default).length=1
  ·have h1:=h.single hc.1 hc.2;obtain⟨r,a1,a2,a3⟩:=Dn.skip (k-1) (p++[0]) (by rw[bE];simp;omega) h1;have e:p++[0]++r=p++(0::r):=Iw;rw[e]at a1 a2 a3;refine⟨0::r,a1,?_,λa=>?_⟩
   ·rw[agi hc,a2];simp
   ·rw[<- a3 a];have hl:=h.fit.2 _ hc.1;have a6:p.length<m.cls.length:=by rw[<- h.fit.1];exact hc.1
    rw[show m.cls.length-p.length=(m.cls.length-(p++[0]).length)+1 by simp;omega,BK,<- hl,hc.2];rfl
  ·exact⟨[],by simpa using h,by rw[agj hc];simp,λa=>Iw⟩
termination_by k p _ _=>left.length-p.length
decreasing_by simp;omega
def Dn.agk(h:Dn m left p)(hl:p.length=m.cls.length):DF m left p:=λi hi j=>by
 have:=h.bp.get i Iv;rw[h.one i Iv,agl Iv]
def Dn.exact(hm:VM m)(h:Dn m left p)(hl:p.length=m.cls.length):BL m left=KX m p:=by
 rw[XJ hm h.fit];exact XK hm (h.bp.fp hl) left h.fit (h.agk hl) [] (λ_ h=>by cases h)
structure DL(m:ah)(left:List (List Bool))(p:List Int)(s r:DS):Prop where
 ka:r.ka<=s.ka
 bl:r.xe<=s.xe
 bt:r.ka<s.ka->r.xe<=r.ka
 wh:r.whole=true->s.whole=true/\(r.plan,r.ka)=BK m (m.cls.length-p.length) p (s.plan,s.ka)/\min s.xe r.ka<=r.xe
 room:(r.nodes.length:Int)+r.room=s.nodes.length+s.room+1
 rm0:0<=s.room->0<=r.room
 lt:s.nodes.length<r.nodes.length
 pre:∀ i,i<s.nodes.length->nd r.nodes i=nd s.nodes i
 tr:∀ ab:List Int,(∀ x∈ab,0<=x/\x<p.length)->∃ v,Tr m r.nodes s.nodes.length r.nodes.length left ab v/\r.xe=ta v s.xe
def DL.leaf(hm:VM m)(h:df m left){s r:DS}(hn:r.nodes=s.nodes++[KY []])(hr:r.room=s.room)(hb:r.xe=min s.xe (BL m left))(ht:r.ka<=s.ka)(hbt:r.ka<s.ka->r.ka=BL m left)(hw:r.whole=true->s.whole=true/\(r.plan,r.ka)=BK m (m.cls.length-p.length) p (s.plan,s.ka)/\r.ka<=BL m left):DL m left p s r:=by
 refine⟨ht,Iv,λh=>by have:=hbt h;omega,λh=>?_,by rw[hn,hr];simp;omega,λh=>Iv,by rw[hn];simp,λi hi=>by rw[hn];exact agn hi,λab iY=>⟨[zY m left],?_,?_⟩⟩
 ·obtain⟨a,b,c⟩:=hw h;exact⟨a,b,Iv⟩
 ·rw[hn,bE];exact .leaf _ _ _ ago (λh=>by have:=iY _ h;omega)
 ·rw[hb];unfold ta zY;rw[XJ hm h];rfl
def GQ(m:ah):Nat->Nat
 |0=>1
 |d+1=>(m.cls.getD (m.cls.length-(d+1)) default).length*GQ m d
variable {m:ah} {left:List (List Bool)} {p:List Int}
def XL{m:ah}{w:Nat}(h:∀ l∈m.cls,l.length<=w):∀ d,d<=m.cls.length->GQ m d<=w^d
 |0,_=>bc _
 |d+1,hd=>by
  rw[GQ,Nat.pow_succ,Nat.mul_comm];exact Nat.mul_le_mul (XL h d Iv) (h _ (aG Iv))
structure FW(m:ah):Prop where
 vm:VM m
 rF:m.cls.length<=4
 opt:∀ l∈m.cls,l.length<=4
def FW.cap{m:ah}(h:FW m):GQ m m.cls.length<=8000 :=
 rX (XL h.opt _ (bc _)) (rX (Nat.pow_le_pow_right NF h.rF) NF)
def MM.fw{m:ah}{a b:Nat}(h:MM m a b)(ha:a<=4)(hb:b<=4):FW m:=⟨h.vm,rX h.rF ha,λl hl=>rX (h.some l hl).2 hb⟩
def FW.zN{m:ah}(h:FW m){c:Int}(hc:0<=c):FW (pD m c):=⟨agp h.vm hc,by unfold pD;simpa using h.rF,λl hl=>by
 rcases List.mem_or_eq_of_mem_set hl with h1|h1
 ·exact h.opt l h1
 ·rw[h1];exact aT _⟩
def agq(L:List Int)(k:Nat)(hk:k<=L.length)(hL:L.length<1000000):
  cL Tryz.prog 33 [.ptr 0 0 0] [fV L k] (λr os=>∃ m k',FW m/\k'<=L.length/\r=.agg (yD m)/\os=[fV L k',.arr 4 (rowsOf aH m.ae)]):=by
 have sI:=XM L k 4 4 hk hL NF NF NF;unfold fV at *;refine cL.aK 117 1 [.cell 2 32] Tryz.func33 ?_;repeat'(first|((fail_if_success (first|refine ei 1 ?_|refine ej 1 ?_));refine Xr X0 ?_;intro K hK)|(refine hK _ ?_;clear hK K)|refine Xy ?_|fail)
 refine nf 1 NF _ rfl ?_;intro K hK;simp(disch:=omega)only[Ac,↓Pc,simprocAttr,List.take,List.drop];refine⟨rfl,(show jz Tryz.prog 37 [.ptr 0 0 0,NX (4:Nat),NX (4:Nat)] (some 11) _ _ from ?_)⟩;refine yb [0] sI NF ⟨rfl,trivial⟩ ⟨.eq rfl,.pure rfl,.pure rfl,trivial⟩ ?_;rintro r os⟨m,k1,hm,eJ,rfl,rfl⟩;clear sI hk;have DG:=hm.fw (bc 4) (bc 4);have gu:oI m.cls<=256:=Int.le_trans (XN (w:=4) m.cls 4 NF hm.rF hm.some) NF;have iH:=agr m hm.vm (λl hl=>(hm.some l hl).1) Iv;generalize oI m.cls=pn at *;unfold yD;simp(disch:=omega)only[Ac,↓Pc,simprocAttr,vq];refine hK _ ?_;clear hK K;repeat(refine Xu ?_)
 have ot:=Bo L k1 12 (by unfold cS;omega) Iv eJ hL;have bb:=eQ eJ;refine Va X0 ?_;refine aU (λ_:Unit=>(⟨an [(0,.ptr 0 0 0),(2,.ptr 1 0 0),(3,.ptr 3 0 0)],[.var [.tree 1 (ints L),NX k1],.var [.lit (.slice none 0 0),.lit (.slice none 0 0),.lit (.slice none 0 0),NX 0],.arr 4 (rowsOf aH m.ae),.var [.tree 1 (rowsOf aQ m.cls),.ref 2 4 0 m.ae.length,.tree 4 (rowsOf db m.aC),NX m.rules]]⟩:St)) (λ_=>True) (λ_=>0) () trivial (Xv X0) ?_;rintro _ _ Ql ak ar;((refine Va X0 ?_)<;>try with_reducible intro K hK)
 refine vg [] iH NF trivial ⟨(bw.agg _ _ rfl (ju.spec (R:=bw _ _ _ _) (cs:=ao m) (ds:=[.tree 1 (rowsOf aQ m.cls),.ref 2 4 0 m.ae.length,.tree 4 (rowsOf db m.aC),NX m.rules]) ⟨.pure rfl,bw.cG rfl (ig _) (by rw[cf]) Iw (my _),.pure rfl,.pure rfl,trivial⟩).2),trivial⟩ rfl Iw ?_;simp(disch:=omega)only[Ac,↓Pc,simprocAttr];((try revert hK K);(repeat'(first|refine Va X0 ?_|(refine Xi ?_ ?_<;>try intro ht)|exact Xx|fail)))
 refine ar _ _ rfl ?_;clear ak ar Ql;repeat(refine Xu ?_)
 clear iH gu;have yz:∀ (env:Nat->AV) (m:ah) (k':Nat) (q:Nat) (os:List Ob),FW m->k'<=L.length->env 2=.ptr 1 0 0->os[0]?=some (.var [.tree 1 (ints L),NX k'])->os[1]?=some (.var [.tree 1 (rowsOf aQ m.cls),.ref q 4 0 m.ae.length,.tree 4 (rowsOf db m.aC),NX m.rules])->os[q]?=some (.arr 4 (rowsOf aH m.ae))->q≠0 ->
   eH Tryz.prog 1 [.cell 2 32] (λr os=>∃ m k',FW m/\k'<=L.length/\r=.agg (yD m)/\os=[.var [.tree 1 (ints L),NX k'],.arr 4 (rowsOf aH m.ae)]) .ret ⟨env,os⟩:=by
  intro env m k' q os fJ ba kl h0 h1 hq hq0;have hl0:=(aR.1 h0).1;have hlq:=(aR.1 hq).1;unfold eH;simp only[dx,du,kl];simp(disch:=omega)only[Ac,↓Pc,simprocAttr,kl,h1];refine⟨_,_,⟨m,k',fJ,ba,rfl,rfl⟩,?_⟩;refine j2 [0,q] true (by simp[Ne.symm hq0]) ⟨⟨hl0,.inr (by rw[h0];rfl)⟩,⟨hlq,.inr (by rw[hq,vq])⟩,trivial⟩ Iw (λi hi=>by
   obtain rfl:i=0:=Iv;rfl) ?_
  refine(bw.agg _ _ rfl (ju.spec (R:=bw _ _ _ _) (cs:=yD m) (ds:=[.tree 1 (rowsOf aQ m.cls),.ref q 4 0 m.ae.length,.tree 4 (rowsOf db m.aC),NX m.rules]) ⟨.pure rfl,.eq rfl,.pure rfl,.pure rfl,trivial⟩).2)
 ((repeat'(first|refine Va X0 ?_|(refine V2 X0 ?_ ?_<;>try with_reducible intro hb)|(refine Xi ?_ ?_<;>try intro ht)|exact Xx|fail))<;>try with_reducible intro K hK)
 rotate_left
 ·exact yz _ m k1 2 _ DG eJ (by simp only[Kc,simprocAttr]) rfl rfl rfl NF
 have mR:0<m.cls.length:=Iv;have kr:=gD L (cg L k1) (m.cls.length:Int) (by unfold cS;have:=hm.vm.cls;omega) bb hL;have BM:=jB (L:=L) (k:=cg L k1) (n:=(m.cls.length:Int)) Iv;have XO:=agu m hm.vm (dL L (cg L k1) (m.cls.length:Int)) BM;have hwf:=DG.zN BM.1;have fU:=eQ bb;unfold fV at *;generalize wX L k1 12=bo at *;generalize dL L (cg L k1) (m.cls.length:Int)=v at *;generalize cg L (cg L k1)=k3 at *;generalize cg L k1=k2 at *;generalize pD m v=mw at *;(refine Xn [0] (ot) ?_;simp(disch:=omega)only[Ac,↓Pc,simprocAttr])
 ((try revert hK K);(repeat'(first|refine Va X0 ?_|(refine Xi ?_ ?_<;>try intro ht)|fail))<;>try with_reducible intro K hK)
 ·(refine Xn [0] (kr) ?_;simp(disch:=omega)only[Ac,↓Pc,simprocAttr])
  repeat'(first|(refine hK _ ?_;clear hK K)|refine Xy ?_|fail)
  refine cp (aF.wT 2 3 1 4 NW NW (by rw[cf];rfl) (ig _) (my _)) ?_;unfold KZ at XO;((refine Va X0 ?_)<;>try with_reducible intro K hK)
  (refine Xn [] (XO) ?_;simp(disch:=omega)only[Ac,↓Pc,simprocAttr,vq])
  ((try revert hK K);(refine Va X0 ?_))
  exact yz _ mw k3 4 _ hwf fU (by simp only[Kc,simprocAttr]) rfl rfl rfl NF
 ·exact yz _ m k2 2 _ DG bb (by simp only[Kc,simprocAttr]) rfl rfl rfl NF
def af4(L:List Int)(k:Nat)(hk:k<=L.length)(hL:L.length<1000000):
  cL Tryz.prog 33 [.ptr 0 0 0] [fV L k] (λr os=>∃ m k',FW m/\k'<=L.length/\r=.agg (ao m)/\os=[fV L k']) :=
 XP (agq L k hk hL) λr os h=>by
  obtain⟨m,k',h1,h2,rfl,rfl⟩:=h;exact⟨_,_,⟨m,k',h1,h2,rfl,rfl⟩,XQ m _ (λ_=>rfl)⟩
end T

