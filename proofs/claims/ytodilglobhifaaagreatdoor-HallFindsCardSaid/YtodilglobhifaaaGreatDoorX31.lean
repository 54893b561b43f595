import Derived.Test.YtodilglobhifaaaGreatDoorX28
import Derived.Test.YtodilglobhifaaaGreatDoorX29
import Derived.Test.YtodilglobhifaaaGreatDoorX30
set_option linter.all false
set_option maxHeartbeats 0
set_option maxRecDepth 20000
open Option renaming map_none→jn,getD_some→dK,getD_none→sG
open List renaming append_assoc→bN,length_append→aJ,any_eq_true→nQ,mem_iff_getElem→oS,getD_eq_getElem?_getD→aw,getElem?_eq_getElem→bc,length_take→j9,getElem_take→Ho,all_eq_true→gN,mem_range→kA
open Nat renaming zero_le→aN,not_lt_zero→oQ
open Bool renaming not_eq_true→xU
open Go Go.Am Go.Proofs
namespace T
def qL:gF Tryz.prog 85 2:=gF.arr (kt:=88) (et:=29) (e:=3) (by kernel_rfl) (by kernel_rfl) Ha (by kernel_rfl) (by kernel_rfl) (by kernel_rfl)
def nG:gF Tryz.prog 129 4:=gF.arr (kt:=133) (et:=90) (e:=3) (by kernel_rfl) (by kernel_rfl) Ha (by kernel_rfl) (by kernel_rfl) (by kernel_rfl)
def zZ{n0:Nat}{k:Nat}{b c:Bool}{os ob:List Ob}{env:Nat->AV}(he:os.length=n0)(h1:env k=.lit (.bool b))(h2:b=c)(hk:eX os ob):gd Tryz.prog n0 [.tmp k] (λr ob=>r=.lit (.bool c)/\eX os ob) .ret ⟨env,ob⟩:=by
 subst h2 he;unfold gd;simp only[dN,dO];refine⟨.lit (.bool b),ob,⟨rfl,hk⟩,?_⟩;rw[h1];exact iy rfl hk.len rfl
def Yo{m:ah}(hm:VM m){p q:Nat}{M:List (Ml Pr)}{os:List Ob}(hF:vB m p q M os)(hS:CD m M)(a b:Int×Int)(ha:iB m a)(hb:iB m b):
  eM Tryz.prog 104 [.ptr p 0 0,.agg (aj a),.agg (aj b)] os λr ob=>r=.lit (.bool (pD m a.1 a.2 b.1 b.2))/\eX os ob:=by
 obtain⟨x,y,fJ⟩:∃x y,(b.1<a.1/\x=b/\y=a)\/(¬ b.1<a.1/\x=a/\y=b):=by
  by_cases h:b.1<a.1
  ·exact⟨b,a,.inl ⟨h,rfl,rfl⟩⟩
  ·exact⟨a,b,.inr ⟨h,rfl,rfl⟩⟩
 have hv:pD m a.1 a.2 b.1 b.2=m.ae.any (qK m x.1 x.2 y.1 y.2):=by
  unfold pD;rcases fJ with⟨h,rfl,rfl⟩|⟨h,rfl,rfl⟩
  ·rw[if_pos h]
  ·rw[if_neg h]
 have dQ:iB m x/\iB m y:=by rcases fJ with⟨h,rfl,rfl⟩|⟨h,rfl,rfl⟩<;>exact⟨by assumption,by assumption⟩
 rw[hv,Yp,hS x.1 y.1];have f1:=hF.fin;have f2:=hF.mp;have e1:=aD f1;have e2:=aD f2;have hg:=Cn 4 [x.1,y.1] M;cases iJ:ee M [x.1,y.1] with
 |none =>
  rw[iJ]at hg;simp only[jn]at hg;dsimp only[List.any_nil];rcases fJ with⟨h,rfl,rfl⟩|⟨h,rfl,rfl⟩;all_goals
   refine eM.aO 43 os.length [.tmp 6] Tryz.func104 ?_;((try revert hK K);(repeat'(first|refine Vb (X5 @e1 @e2 @f1 @f2 (X5 @hg @aj.eq_1 @aA.eq_1 @bz (X5 @bN.{0} @aJ.{0} @dK.{0} @sG.{0} @qL))) ?_|(refine V2 (X5 @e1 @e2 @f1 @f2 (X5 @hg @aj.eq_1 @aA.eq_1 @bz (X5 @bN.{0} @aJ.{0} @dK.{0} @sG.{0} @qL))) ?_ ?_<;>try with_reducible intro hb)|(refine Xi ?_ ?_<;>try intro ht)|refine VD ?_ ?_|exact Xx|fail))<;>try with_reducible intro K hK)
   all_goals try(exfalso;omega)
   refine aX (λ_:Unit=>(⟨au [(26,aah 0),(27,aah 0)],os++[.var [aah x.1,aah x.2],.var [aah y.1,aah y.2]]⟩:St)) (λ_=>True) (λ_=>0) () trivial ?_ ?_
   ·exact Xv X0
   rintro _ _ Ql an ay;((try revert hK K);(repeat'(first|refine Vb X0 ?_|(refine V2 X0 ?_ ?_<;>try with_reducible intro hb)|(refine Xi ?_ ?_<;>try intro ht)|refine VD ?_ ?_|exact Xx|fail))<;>try with_reducible intro K hK)
   exact zZ rfl rfl rfl ((eX.refl os).app _)
 |some Z =>
  have hZ:Z∈M:=List.mem_of_find?_eq_some iJ;have fz:=hF.row _ Z iJ;have ez:=aD fz;have xj:=hS x.1 y.1;rw[iJ]at hg xj;simp only[Option.map_some]at hg;dsimp only at xj ⊢;have Yq:∀ p∈Z.l,p∈m.ae/\p.fst=x.1/\p.snd=y.1:=λp hp=>by
   rw[<- xj,List.mem_filter,decide_eq_true_eq]at hp;exact⟨hp.1,hp.2.1,hp.2.2⟩
  have iY:Z.l.length<1000000:=by
   rw[<- xj];have:=List.length_filter_le (λp:Pr=>decide (p.fst=x.1/\p.snd=y.1)) m.ae;have:=hm.ae;omega
  rcases fJ with⟨h,rfl,rfl⟩|⟨h,rfl,rfl⟩;all_goals
   refine eM.aO 43 os.length [.tmp 6] Tryz.func104 ?_;((try revert hK K);(repeat'(first|refine Vb (X5 @e1 @e2 @ez @f1 (X5 @f2 @hg @aj.eq_1 @aA.eq_1 (X5 @bz @bN.{0} @aJ.{0} @dK.{0} (X2 @sG.{0} @qL)))) ?_|(refine V2 (X5 @e1 @e2 @ez @f1 (X5 @f2 @hg @aj.eq_1 @aA.eq_1 (X5 @bz @bN.{0} @aJ.{0} @dK.{0} (X2 @sG.{0} @qL)))) ?_ ?_<;>try with_reducible intro hb)|(refine Xi ?_ ?_<;>try intro ht)|refine VD ?_ ?_|exact Xx|fail))<;>try with_reducible intro K hK)
   all_goals try(exfalso;omega)
   refine aX (λz:Nat×List Ob=>(⟨au [(0,.ptr p 0 0),(4,.ptr os.length 0 0),(5,.ptr (os.length+1) 0 0),(25,.ref Z.at_ 4 0 Z.l.length),(26,aah Z.l.length),(27,aah z.1)],z.2⟩:St))
    (λz=>z.1<=Z.l.length/\(eX os z.2/\z.2[os.length]?=some (.var (aj x))/\z.2[os.length+1]?=some (.var (aj y)))/\∀ j,j<z.1->CR m x y (Z.l.getD j default)=false) (λz=>Z.l.length-z.1) (0,os++[.var [aah x.1,aah x.2],.var [aah y.1,aah y.2]])
    ⟨aN _,⟨(eX.refl os).app _,pG _ _ _,pH _ _ 1⟩,by intro j hj;exact absurd hj (oQ _)⟩ ?_ ?_
   ·exact Xv X0
   rintro⟨k,ob⟩⟨hk,⟨nI,fx,fy⟩,jX⟩Ql an ay;dsimp only at hk nI fx fy jX ⊢;have fp:=nI _ _ f1;have fm:=nI _ _ f2;have Gz:=nI _ _ fz;have ep:=aD fp;have QR:=aD Gz;have ex:=aD fx;have ey:=aD fy;by_cases aQ:k<Z.l.length
   ·have QS:=aG (l:=Z.l) (i:=k) (d:=default) aQ;obtain⟨z1,z2,z3⟩:=Yq _ QS;have dX:=Yr m (Z.l.getD k default) x.2 y.2 (nr hm.pr _ z1) hm.opt (by rw[z2];exact dQ.1.2) (by rw[z3];exact dQ.2.2);have z4:CR m x y (Z.l.getD k default)=decide (nq m (Z.l.getD k default) x.2 y.2=1099511627776):=rfl;generalize nq m (Z.l.getD k default) x.2 y.2=en at *;generalize cg:Z.l.getD k default=pr at *;((try revert hK K);(repeat'(first|refine Vd (X5 @fp @Gz @fx @fy (X5 @ep @QR @ex @ey (X5 @aj.eq_1 @bL.eq_1 @aA.eq_1 @cg (X3 @bz @bN.{0} @aJ.{0})))) dX ?_|(refine V2 (X5 @fp @Gz @fx @fy (X5 @ep @QR @ex @ey (X5 @aj.eq_1 @bL.eq_1 @aA.eq_1 @cg (X3 @bz @bN.{0} @aJ.{0})))) ?_ ?_<;>try with_reducible intro hb)|(refine Xi ?_ ?_<;>try intro ht)|refine VD ?_ ?_|exact Xx|fail))<;>try with_reducible intro K hK)
    ·exact zZ rfl rfl (nQ.2 ⟨pr,QS,by rw[z4,decide_eq_true ht]⟩).symm (nI.app _)
    ·refine an _ (k+1,_) ⟨aaa,⟨nI.app _,ex _,ey _⟩,λj hj=>?_⟩ aaa (Xv X0);by_cases mr:j=k
     ·rw[mr,cg,z4,decide_eq_false ht]
     ·exact jX j Ay
   ·((try revert hK K);(repeat'(first|refine Vb X0 ?_|(refine V2 X0 ?_ ?_<;>try with_reducible intro hb)|(refine Xi ?_ ?_<;>try intro ht)|refine VD ?_ ?_|exact Xx|fail))<;>try with_reducible intro K hK)
    refine zZ rfl rfl ?_ nI;rw[eq_comm,<- xU,nQ];rintro⟨pr,h1,h2⟩;obtain⟨j,h3,h4⟩:=oS.1 h1;have h5:=jX j Ay;rw[aw,bc h3,dK,h4,h2]at h5;cases h5
def nC(L:List (Int×Int)){k:Nat}(h:k<L.length):(rowsOf aj L)[k]?=some (aj (L.getD k default)):=by
 unfold rowsOf;rw[List.getElem?_map,bc h,aw,bc h];rfl
def QT{L:List (Int×Int)}{i j:Nat}(h:j<L.length)(hj:j<i):L.getD j default∈L.take i:=by
 have h1:(L.take i).length=min i L.length:=j9;have:L.getD j default=(L.take i)[j]' Ay:=by
  rw[Ho,aw,bc h];rfl
 rw[this];exact List.getElem_mem _
def XZ{m:ah}(hm:VM m){p q:Nat}{M:List (Ml Pr)}{os:List Ob}(hF:vB m p q M os)(hS:CD m M)(L:List (Int×Int))(hL:∀ x∈L,iB m x)(hl:L.length<1000000)(g:Nat)(hg:os[g]?=some (.arr 2 (rowsOf aj L))):
  eM Tryz.prog 67 [.ptr p 0 0,.ref g 2 0 L.length] os λr ob=>r=.lit (.bool (mO m L))/\eX os ob:=by
 have hlen:(rowsOf aj L).length=L.length:=by simp[rowsOf]
 refine eM.aO 38 os.length [.tmp 4] Tryz.func67 ?_;((try revert hK K);(repeat'(first|refine Vb @hg ?_|(refine V2 @hg ?_ ?_<;>try with_reducible intro hb)|(refine Xi ?_ ?_<;>try intro ht)|refine VD ?_ ?_|exact Xx|fail))<;>try with_reducible intro K hK)
 refine aX (λz:Nat×List Ob=>(⟨au [(0,.ptr p 0 0),(1,.ref g 2 0 L.length),(9,.ref g 2 0 L.length),(10,aah L.length),(11,aah z.1)],z.2⟩:St))
  (λz=>z.1<=L.length/\eX os z.2/\∀ j,j<z.1->vh m L j=true) (λz=>L.length-z.1) (0,os) ⟨aN _,eX.refl _,by intro j hj;exact absurd hj (oQ _)⟩ ?_ ?_
 ·exact Xv X0
 rintro⟨i,ob⟩⟨hi,nI,hw⟩Ql an ay;dsimp only at hi nI hw ⊢;have fg:=nI _ _ hg;have eg:=aD fg;by_cases hi':i<L.length
 ·have nB:=nC L hi';have oN:=hL _ (aG (l:=L) (i:=i) (d:=default) hi');have QU:vh m L i=(L.take i).all (ti m (L.getD i default)):=rfl;generalize bK:L.getD i default=x at *;((try revert hK K);(repeat'(first|refine Va (X5 @fg @eg @nB @hlen (X3 @aj.eq_1 @bz @jn.{0,0})) ?_|(refine V2 (X5 @fg @eg @nB @hlen (X3 @aj.eq_1 @bz @jn.{0,0})) ?_ ?_<;>try with_reducible intro hb)|(refine Xi ?_ ?_<;>try intro ht)|refine VD ?_ ?_|exact Xx|fail))<;>try with_reducible intro K hK)
  have bb:=nI.len;refine aX (λz:Nat×List Ob=>(⟨au [(0,.ptr p 0 0),(1,.ref g 2 0 L.length),(9,.ref g 2 0 L.length),(10,aah L.length),(11,aah i),(6,.ptr ob.length 0 0),(18,.ref g 2 0 i),(19,aah i),(20,aah z.1)],z.2⟩:St))
   (λz=>z.1<=i/\(eX os z.2/\z.2[ob.length]?=some (.var (aj x)))/\∀ j,j<z.1->ti m x (L.getD j default)=true) (λz=>i-z.1) (0,ob++[.var [aah x.1,aah x.2]])
   ⟨aN _,⟨nI.app _,pG _ _ _⟩,by intro j hj;exact absurd hj (oQ _)⟩ ?_ ?_
  ·exact Xv X0
  rintro⟨j,o2⟩⟨hj,⟨xu,fx⟩,jv⟩cC aS bf;dsimp only at hj xu fx jv ⊢;have sr:=xu _ _ hg;have tN:=aD sr;have ex:=aD fx;by_cases fW:j<i
  ·have kS:=nC L (show j<L.length by omega);have Ys:=hL _ (aG (l:=L) (i:=j) (d:=default) Ay);generalize gJ:L.getD j default=y at *;have lH:ti m x y=(decide (x.1=y.1)||pD m x.1 x.2 y.1 y.2):=rfl;by_cases GA:x.1=y.1
   ·((try revert hK K);(repeat'(first|refine Va (X5 @sr @tN @fx @ex (X5 @kS @hlen @aj.eq_1 @bz (X2 @bN.{0} @aJ.{0}))) ?_|(refine V2 (X5 @sr @tN @fx @ex (X5 @kS @hlen @aj.eq_1 @bz (X2 @bN.{0} @aJ.{0}))) ?_ ?_<;>try with_reducible intro hb)|(refine Xi ?_ ?_<;>try intro ht)|refine VD ?_ ?_|exact Xx|fail))<;>try with_reducible intro K hK)
    refine aS _ (j+1,_) ⟨aaa,⟨xu.app _,ex _⟩,λk hk=>?_⟩ aaa (Xv X0);by_cases vF:k=j
    ·rw[vF,gJ,lH,decide_eq_true GA];rfl
    ·exact jv k Ay
   ·have vC:(x.1 != y.1)=true:=by simpa using GA
    have hex:=Yo hm (hF.cO (xu.app [.var [aah y.1,aah y.2]])) hS x y oN Ys;generalize cS:pD m x.1 x.2 y.1 y.2=cl at *;repeat'(first|((fail_if_success (first|refine gP 7 ?_|refine gQ 7 ?_));refine Xr (X5 @sr @tN @fx @ex (X5 @kS @hlen @aj.eq_1 @bz (X2 @bN.{0} @aJ.{0}))) ?_;intro K hK)|refine Xo (X5 @sr @tN @fx @ex (X5 @kS @hlen @aj.eq_1 @bz (X2 @bN.{0} @aJ.{0}))) ?_|(refine hK _ ?_;clear hK K)|(refine Xg (X5 @sr @tN @fx @ex (X5 @kS @hlen @aj.eq_1 @bz (X2 @bN.{0} @aJ.{0}))) ?_ ?_<;>try intro hb)|(refine Xi ?_ ?_<;>try intro ht)|refine Xy ?_|refine Xd ?_ ?_|exact Xx|fail)
    refine Yt 9 Ha _ rfl 5 true 29 rfl rfl ?_;intro K hK;simp(disch:=omega)only[Ac,↓Pc,simprocAttr,List.take,List.drop,fx,ex,vC,A7,GB,CS,aj,bz,bN,aJ];refine⟨true,rfl,λ_=>(show lL Tryz.prog 104 [.ptr p 0 0,.agg [aah x.1,aah x.2],.agg [aah y.1,aah y.2]] (some 33) _ _ from ?_),λhh=>absurd rfl hh⟩;refine BO hex ?_;rintro r o3⟨rfl,eL⟩;refine⟨eL.len,?_⟩;have QV:eX os o3:=λk o h=>eL k o (aD (xu k o h) _);have Yu:=eL _ _ (aD fx [.var [aah y.1,aah y.2]]);simp(disch:=omega)only[Ac,↓Pc,simprocAttr,List.drop,A7];refine hK _ ?_;clear hK K;((try revert hK K);(repeat'(first|refine Vb X0 ?_|(refine V2 X0 ?_ ?_<;>try with_reducible intro hb)|(refine Xi ?_ ?_<;>try intro ht)|refine VD ?_ ?_|exact Xx|fail))<;>try with_reducible intro K hK)
    ·refine zZ rfl rfl ?_ QV;rw[eq_comm,<- xU,mO,gN];intro hh;have h1:=hh i (kA.2 hi');rw[QU,gN]at h1;have h2:=h1 y (by rw[<- gJ];exact QT Ay fW);rw[lH,ht,decide_eq_false GA]at h2;cases h2
    ·refine aS _ (j+1,_) ⟨aaa,⟨QV,Yu⟩,λk hk=>?_⟩ aaa (Xv X0);by_cases vF:k=j
     ·rw[vF,gJ,lH,ht];simp
     ·exact jv k Ay
  ·((try revert hK K);(repeat'(first|refine Va X0 ?_|(refine V2 X0 ?_ ?_<;>try with_reducible intro hb)|(refine Xi ?_ ?_<;>try intro ht)|refine VD ?_ ?_|exact Xx|fail))<;>try with_reducible intro K hK)
   refine bf _ _ rfl ?_;clear aS bf cC;repeat(first|refine Xu ?_)
   ((try revert hK K);(repeat'(first|refine Va X0 ?_|(refine V2 X0 ?_ ?_<;>try with_reducible intro hb)|(refine Xi ?_ ?_<;>try intro ht)|refine VD ?_ ?_|exact Xx|fail))<;>try with_reducible intro K hK)
   refine an _ (i+1,o2) ⟨aaa,xu,λk hk=>?_⟩ aaa (Xv X0);by_cases eA:k=i
   ·rw[eA,QU,gN];intro y hy;obtain⟨n,h1,h2⟩:=oS.1 hy;rw[j9]at h1;have h3:=jv n Ay;rw[Ho]at h2;rw[aw,bc Ay,dK,h2]at h3;exact h3
   ·exact hw k Ay
 ·((try revert hK K);(repeat'(first|refine Vb X0 ?_|(refine V2 X0 ?_ ?_<;>try with_reducible intro hb)|(refine Xi ?_ ?_<;>try intro ht)|refine VD ?_ ?_|exact Xx|fail))<;>try with_reducible intro K hK)
  refine zZ rfl rfl ?_ nI;rw[eq_comm,mO,gN];intro k hk;exact hw k (by have:=kA.1 hk;omega)
end T

