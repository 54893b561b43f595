import Derived.Test.YtfoopmojjjpapaaGreatX49
import Derived.Test.YtfoopmojjjpapaaGreatX48
import Derived.Test.YtfoopmojjjpapaaGreatX50
set_option linter.all false
set_option maxHeartbeats 0
set_option maxRecDepth 20000
open Nat renaming zero_le→aT,le_refl→bb,le_trans→rY
open List renaming getD_eq_getElem?_getD→aB,length_append→bF,getElem?_eq_some_iff→aR
open Go Go.Am Go.Proofs
namespace T
structure Dn(m:ah)(left:List (List Bool))(p:List Int):Prop where
 fit:df m left
 bp:BP m p
 one:∀ j,j<p.length->left.getD j default=yE (m.cls.getD j default).length (p.getD j 0).toNat
 all:∀ j,p.length<=j->j<m.cls.length->left.getD j default=List.replicate (m.cls.getD j default).length true
variable {m:ah} {left:List (List Bool)} {p:List Int}
def Dn.root(hm:VM m):Dn m (eS m) []:=by
 refine⟨XJ hm,⟨aT _,λj hj=>(by cases hj)⟩,λj hj=>(by cases hj),λj _ hj=>?_⟩;unfold eS dP;rw[if_pos (rA.2 hm),iX _ _ _ hj]
def XK{left:List (List Bool)}{c j:Nat}(x:List Bool)(h:c≠j):(left.set c x).getD j default=left.getD j default:=by
 rw[aB,List.getElem?_set_ne h,<- aB]
def Dn.next(h:Dn m left p)(hc:p.length<m.cls.length){k:Nat}(hk:k<(m.cls.getD p.length default).length):Dn m (nL left p.length k) (p++[(k:Int)]):=by
 refine⟨XL h.fit (XM _ _ _),h.bp.snoc hc hk,λj hj=>?_,λj h1 h2=>?_⟩
 ·unfold nL;rw[bF]at hj;by_cases e:j<p.length
  ·rw[XK _ Ix,KY e];exact h.one j e
  ·obtain rfl:j=p.length:=by simp at hj;omega
   rw[uE _ _ _ (by rw[h.fit.1];exact hc),KZ,h.fit.2 _ (by rw[h.fit.1];exact hc)];rfl
 ·unfold nL;rw[bF]at h1;rw[XK _ (by simp at h1;omega)];exact h.all j Ix h2
def Dn.single(h:Dn m left p)(hc:p.length<left.length)(h1:(left.getD p.length default).length=1):Dn m left (p++[0]):=by
 have fD:p.length<m.cls.length:=by rw[<- h.fit.1];exact hc
 have hl:=h.fit.2 _ hc;refine⟨h.fit,h.bp.snoc (k:=0) fD Ix,λj hj=>?_,λj h2 h3=>h.all j (by rw[bF]at h2;omega) h3⟩;rw[bF]at hj;by_cases e:j<p.length
 ·rw[KY e];exact h.one j e
 ·obtain rfl:j=p.length:=by simp at hj;omega
  rw[KZ,h.all _ (bb _) fD,<- hl,h1];rfl
def Dn.skip:∀ (k:Nat) (p:List Int),left.length-p.length=k->Dn m left p->∃ r:List Int,Dn m left (p++r)/\(p++r).length=BM left p.length/\∀ a,BN m (m.cls.length-p.length) p a=BN m (m.cls.length-(p++r).length) (p++r) a
  |k,p,hk,h=>by
    by_cases hc:p.length<left.length/\(left.getD p.length default).length=1
    · have h1:=h.single hc.1 hc.2
      obtain⟨r,a1,a2,a3⟩:=Dn.skip (k-1) (p++[0]) (by rw[bF];simp;omega) h1;have e:p++[0]++r=p++(0::r):=Iy;rw[e]at a1 a2 a3;refine⟨0::r,a1,?_,λa=>?_⟩
      · rw[agm hc,a2];simp
      · rw[<- a3 a]
        have hl:=h.fit.2 _ hc.1;have a6:p.length<m.cls.length:=by rw[<- h.fit.1];exact hc.1
        rw[show m.cls.length-p.length=(m.cls.length-(p++[0]).length)+1 by simp;omega,BN,<- hl,hc.2];rfl
    · exact⟨[],by simpa using h,by rw[agn hc];simp,λa=>Iy⟩
 termination_by k p _ _=>left.length-p.length
decreasing_by simp;omega
def Dn.ago(h:Dn m left p)(hl:p.length=m.cls.length):DI m left p:=λi hi j=>by
 have:=h.bp.get i Ix;rw[h.one i Ix,agp Ix]
def Dn.exact(hm:VM m)(h:Dn m left p)(hl:p.length=m.cls.length):BO m left=K3 m p:=by
 rw[XN hm h.fit];exact XO hm (h.bp.fp hl) left h.fit (h.ago hl) [] (λ_ h=>by cases h)
structure DL(m:ah)(left:List (List Bool))(p:List Int)(s r:DS):Prop where
 j9:r.j9<=s.j9
 bl:r.xi<=s.xi
 bt:r.j9<s.j9->r.xi<=r.j9
 wh:r.whole=true->s.whole=true/\(r.plan,r.j9)=BN m (m.cls.length-p.length) p (s.plan,s.j9)/\min s.xi r.j9<=r.xi
 room:(r.nodes.length:Int)+r.room=s.nodes.length+s.room+1
 rm0:0<=s.room->0<=r.room
 lt:s.nodes.length<r.nodes.length
 pre:∀ i,i<s.nodes.length->nd r.nodes i=nd s.nodes i
 tr:∀ ab:List Int,(∀ x∈ab,0<=x/\x<p.length)->∃ v,Tr m r.nodes s.nodes.length r.nodes.length left ab v/\r.xi=td v s.xi
def DL.leaf(hm:VM m)(h:df m left){s r:DS}(hn:r.nodes=s.nodes++[K4 []])(hr:r.room=s.room)(hb:r.xi=min s.xi (BO m left))(ht:r.j9<=s.j9)(hbt:r.j9<s.j9->r.j9=BO m left)(hw:r.whole=true->s.whole=true/\(r.plan,r.j9)=BN m (m.cls.length-p.length) p (s.plan,s.j9)/\r.j9<=BO m left):DL m left p s r:=by
 refine⟨ht,Ix,λh=>by have:=hbt h;omega,λh=>?_,by rw[hn,hr];simp;omega,λh=>Ix,by rw[hn];simp,λi hi=>by rw[hn];exact agr hi,λab iY=>⟨[z6 m left],?_,?_⟩⟩
 ·obtain⟨a,b,c⟩:=hw h;exact⟨a,b,Ix⟩
 ·rw[hn,bF];exact .leaf _ _ _ ags (λh=>by have:=iY _ h;omega)
 ·rw[hb];unfold td z6;rw[XN hm h];rfl
def GU(m:ah):Nat->Nat
 |0=>1
 |d+1=>(m.cls.getD (m.cls.length-(d+1)) default).length*GU m d
variable {m:ah} {left:List (List Bool)} {p:List Int}
def XP{m:ah}{w:Nat}(h:∀ l∈m.cls,l.length<=w):∀ d,d<=m.cls.length->GU m d<=w^d
 |0,_=>bb _
 |d+1,hd=>by
  rw[GU,Nat.pow_succ,Nat.mul_comm];exact Nat.mul_le_mul (XP h d Ix) (h _ (aG Ix))
structure FW(m:ah):Prop where
 vm:VM m
 pD:m.cls.length<=4
 opt:∀ l∈m.cls,l.length<=4
def FW.cap{m:ah}(h:FW m):GU m m.cls.length<=8000 :=
 rY (XP h.opt _ (bb _)) (rY (Nat.pow_le_pow_right NI h.pD) NI)
def MM.fw{m:ah}{a b:Nat}(h:MM m a b)(ha:a<=4)(hb:b<=4):FW m:=⟨h.vm,rY h.pD ha,λl hl=>rY (h.some l hl).2 hb⟩
def FW.zP{m:ah}(h:FW m){c:Int}(hc:0<=c):FW (pE m c):=⟨agt h.vm hc,by unfold pE;simpa using h.pD,λl hl=>by
 rcases List.mem_or_eq_of_mem_set hl with h1|h1
 ·exact h.opt l h1
 ·rw[h1];exact aT _⟩
def agu(L:List Int)(k:Nat)(hk:k<=L.length)(hL:L.length<1000000):
  cQ Tryz.prog 33 [.ptr 0 0 0] [gv L k] (λr os=>∃ m k',FW m/\k'<=L.length/\r=.agg (yF m)/\os=[gv L k',.arr 4 (rowsOf aH m.ae)]):=by
 have sJ:=XQ L k 4 4 hk hL NI NI NI;unfold gv at *;refine cQ.aK 117 1 [.cell 2 32] Tryz.func33 ?_;repeat'(first|((fail_if_success (first|refine ei 1 ?_|refine ej 1 ?_));refine Xr X0 ?_;intro K hK)|(refine hK _ ?_;clear hK K)|refine Xy ?_|fail)
 refine nf 1 NI _ rfl ?_;intro K hK;simp(disch:=omega)only[Ac,↓Pc,simprocAttr,List.take,List.drop];refine⟨rfl,(show jz Tryz.prog 37 [.ptr 0 0 0,N0 (4:Nat),N0 (4:Nat)] (some 11) _ _ from ?_)⟩;refine yd [0] sJ NI ⟨rfl,trivial⟩ ⟨.eq rfl,.pure rfl,.pure rfl,trivial⟩ ?_;rintro r os⟨m,k1,hm,eJ,rfl,rfl⟩;clear sJ hk;have DJ:=hm.fw (bb 4) (bb 4);have gr:oI m.cls<=256:=Int.le_trans (XR (w:=4) m.cls 4 NI hm.pD hm.some) NI;have iI:=agv m hm.vm (λl hl=>(hm.some l hl).1) Ix;generalize oI m.cls=pn at *;unfold yF;simp(disch:=omega)only[Ac,↓Pc,simprocAttr,vr];refine hK _ ?_;clear hK K;repeat(refine Xu ?_)
 have ot:=Bs L k1 12 (by unfold cS;omega) Ix eJ hL;have bd:=eQ eJ;refine Va X0 ?_;refine aU (λ_:Unit=>(⟨an [(0,.ptr 0 0 0),(2,.ptr 1 0 0),(3,.ptr 3 0 0)],[.var [.tree 1 (ints L),N0 k1],.var [.lit (.slice none 0 0),.lit (.slice none 0 0),.lit (.slice none 0 0),N0 0],.arr 4 (rowsOf aH m.ae),.var [.tree 1 (rowsOf aQ m.cls),.ref 2 4 0 m.ae.length,.tree 4 (rowsOf db m.aC),N0 m.rules]]⟩:St)) (λ_=>True) (λ_=>0) () trivial (Xv X0) ?_;rintro _ _ Ql ak ar;((refine Va X0 ?_)<;>try with_reducible intro K hK)
 refine vh [] iI NI trivial ⟨(bw.agg _ _ rfl (ju.spec (R:=bw _ _ _ _) (cs:=ao m) (ds:=[.tree 1 (rowsOf aQ m.cls),.ref 2 4 0 m.ae.length,.tree 4 (rowsOf db m.aC),N0 m.rules]) ⟨.pure rfl,bw.cG rfl (ig _) (by rw[cf]) Iy (my _),.pure rfl,.pure rfl,trivial⟩).2),trivial⟩ rfl Iy ?_;simp(disch:=omega)only[Ac,↓Pc,simprocAttr];((try revert hK K);(repeat'(first|refine Va X0 ?_|(refine Xi ?_ ?_<;>try intro ht)|exact Xx|fail)))
 refine ar _ _ rfl ?_;clear ak ar Ql;repeat(refine Xu ?_)
 clear iI gr;have yB:∀ (env:Nat->AV) (m:ah) (k':Nat) (q:Nat) (os:List Ob),FW m->k'<=L.length->env 2=.ptr 1 0 0->os[0]?=some (.var [.tree 1 (ints L),N0 k'])->os[1]?=some (.var [.tree 1 (rowsOf aQ m.cls),.ref q 4 0 m.ae.length,.tree 4 (rowsOf db m.aC),N0 m.rules])->os[q]?=some (.arr 4 (rowsOf aH m.ae))->q≠0 ->
   eH Tryz.prog 1 [.cell 2 32] (λr os=>∃ m k',FW m/\k'<=L.length/\r=.agg (yF m)/\os=[.var [.tree 1 (ints L),N0 k'],.arr 4 (rowsOf aH m.ae)]) .ret ⟨env,os⟩:=by
  intro env m k' q os fJ ba kl h0 h1 hq hq0;have hl0:=(aR.1 h0).1;have hlq:=(aR.1 hq).1;unfold eH;simp only[dx,dv,kl];simp(disch:=omega)only[Ac,↓Pc,simprocAttr,kl,h1];refine⟨_,_,⟨m,k',fJ,ba,rfl,rfl⟩,?_⟩;refine j1 [0,q] true (by simp[Ne.symm hq0]) ⟨⟨hl0,.inr (by rw[h0];rfl)⟩,⟨hlq,.inr (by rw[hq,vr])⟩,trivial⟩ Iy (λi hi=>by
   obtain rfl:i=0:=Ix;rfl) ?_
  refine(bw.agg _ _ rfl (ju.spec (R:=bw _ _ _ _) (cs:=yF m) (ds:=[.tree 1 (rowsOf aQ m.cls),.ref q 4 0 m.ae.length,.tree 4 (rowsOf db m.aC),N0 m.rules]) ⟨.pure rfl,.eq rfl,.pure rfl,.pure rfl,trivial⟩).2)
 ((repeat'(first|refine Va X0 ?_|(refine V2 X0 ?_ ?_<;>try with_reducible intro hb)|(refine Xi ?_ ?_<;>try intro ht)|exact Xx|fail))<;>try with_reducible intro K hK)
 rotate_left
 ·exact yB _ m k1 2 _ DJ eJ (by simp only[Kc,simprocAttr]) rfl rfl rfl NI
 have mR:0<m.cls.length:=Ix;have kr:=gD L (cj L k1) (m.cls.length:Int) (by unfold cS;have:=hm.vm.cls;omega) bd hL;have BQ:=jB (L:=L) (k:=cj L k1) (n:=(m.cls.length:Int)) Ix;have XS:=agy m hm.vm (dN L (cj L k1) (m.cls.length:Int)) BQ;have hwf:=DJ.zP BQ.1;have fU:=eQ bd;unfold gv at *;generalize w0 L k1 12=bo at *;generalize dN L (cj L k1) (m.cls.length:Int)=v at *;generalize cj L (cj L k1)=k3 at *;generalize cj L k1=k2 at *;generalize pE m v=mw at *;(refine Xn [0] (ot) ?_;simp(disch:=omega)only[Ac,↓Pc,simprocAttr])
 ((try revert hK K);(repeat'(first|refine Va X0 ?_|(refine Xi ?_ ?_<;>try intro ht)|fail))<;>try with_reducible intro K hK)
 ·(refine Xn [0] (kr) ?_;simp(disch:=omega)only[Ac,↓Pc,simprocAttr])
  repeat'(first|(refine hK _ ?_;clear hK K)|refine Xy ?_|fail)
  refine cr (aF.wW 2 3 1 4 NZ NZ (by rw[cf];rfl) (ig _) (my _)) ?_;unfold K5 at XS;((refine Va X0 ?_)<;>try with_reducible intro K hK)
  (refine Xn [] (XS) ?_;simp(disch:=omega)only[Ac,↓Pc,simprocAttr,vr])
  ((try revert hK K);(refine Va X0 ?_))
  exact yB _ mw k3 4 _ hwf fU (by simp only[Kc,simprocAttr]) rfl rfl rfl NI
 ·exact yB _ m k2 2 _ DJ bd (by simp only[Kc,simprocAttr]) rfl rfl rfl NI
def af8(L:List Int)(k:Nat)(hk:k<=L.length)(hL:L.length<1000000):
  cQ Tryz.prog 33 [.ptr 0 0 0] [gv L k] (λr os=>∃ m k',FW m/\k'<=L.length/\r=.agg (ao m)/\os=[gv L k']) :=
 XT (agu L k hk hL) λr os h=>by
  obtain⟨m,k',h1,h2,rfl,rfl⟩:=h;exact⟨_,_,⟨m,k',h1,h2,rfl,rfl⟩,XU m _ (λ_=>rfl)⟩
end T

