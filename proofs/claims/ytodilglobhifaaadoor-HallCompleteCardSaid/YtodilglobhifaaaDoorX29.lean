import Derived.Test.YtodilglobhifaaaDoorX28
import Derived.Test.YtodilglobhifaaaDoorX18
import Derived.Test.YtodilglobhifaaaDoorX25
import Derived.Test.YtodilglobhifaaaDoorX23
import Derived.Test.YtodilglobhifaaaDoorX21
set_option linter.all false
set_option maxHeartbeats 0
set_option maxRecDepth 20000
open Option renaming map_none→iR,getD_some→dg,getD_none→pH
open List renaming append_assoc→br,length_append→aJ,any_eq_true→ko,mem_iff_getElem→lJ,getD_eq_getElem?_getD→an,getElem?_eq_getElem→aN,length_take→iC,all_eq_true→gx,mem_range→jM
open Nat renaming zero_le→bk,not_lt_zero→qR
open Bool renaming not_eq_true→uF
open Go Go.Am Go.Proofs
namespace T
def Sg(m:ae)(p:Pr)(x y:Int)(m4:eP m p=true)(wx:∀ l∈m.cls,l.length<=24)(hx:0<=x/\x<(m.cls.getD p.fst.toNat default).length)(hy:0<=y/\y<(m.cls.getD p.snd.toNat default).length):
  ao Tryd.prog 81 [.agg (aP m),.agg (bV p),UX x,UX y] [] (UX (l4 m p x y)) []:=by
 obtain⟨q1,q2,q3,q4,q5⟩:=vA m4;have n9:=wx _ (aO (l:=m.cls) (i:=p.fst.toNat) (d:=default) z8);have sd:=wx _ (aO (l:=m.cls) (i:=p.snd.toNat) (d:=default) z8);have px:=tG (x:=x) (y:=y) (a:=(m.cls.getD p.fst.toNat default).length) (b:=(m.cls.getD p.snd.toNat default).length) hx hy z8 z8;unfold l4;rw[<- q5]at px;generalize rH:m.cls.getD p.snd.toNat default=lb at *;generalize mi:x*(lb.length:Int)=xm at *;refine ao.aX 24 0 [.tmp 8] Tryd.func81 ?_;refine Vb (X2 @rH @mi) ?_;exact aY rfl rfl
def wA{n0:Nat}{k:Nat}{b c:Bool}{os ob:List Ob}{env:Nat->AV}(he:os.length=n0)(h1:env k=.lit (.bool b))(h2:b=c)(hk:dM os ob):pO Tryd.prog n0 [.tmp k] (λr ob=>r=.lit (.bool c)/\dM os ob) .ret ⟨env,ob⟩:=by
 subst h2 he;unfold pO;simp only[gL,ic];refine⟨.lit (.bool b),ob,⟨rfl,hk⟩,?_⟩;rw[h1];exact fZ rfl hk.len rfl
def Sh{m:ae}(hm:VM m){p q:Nat}{M:List (Ml Pr)}{os:List Ob}(hF:sr m p q M os)(hS:zl m M)(a b:Int×Int)(ha:jI m a)(hb:jI m b):
  fX Tryd.prog 67 [.ptr p 0 0,.agg (au a),.agg (au b)] os λr ob=>r=.lit (.bool (rV m a.1 a.2 b.1 b.2))/\dM os ob:=by
 obtain⟨x,y,gT⟩:∃x y,(b.1<a.1/\x=b/\y=a)\/(¬ b.1<a.1/\x=a/\y=b):=by
  by_cases h:b.1<a.1
  ·exact⟨b,a,.inl ⟨h,rfl,rfl⟩⟩
  ·exact⟨a,b,.inr ⟨h,rfl,rfl⟩⟩
 have hv:rV m a.1 a.2 b.1 b.2=m.aj.any (qt m x.1 x.2 y.1 y.2):=by
  unfold rV;rcases gT with⟨h,rfl,rfl⟩|⟨h,rfl,rfl⟩
  ·rw[if_pos h]
  ·rw[if_neg h]
 have iK:jI m x/\jI m y:=by rcases gT with⟨h,rfl,rfl⟩|⟨h,rfl,rfl⟩<;>exact⟨by assumption,by assumption⟩
 rw[hv,RK,hS x.1 y.1];have f1:=hF.fin;have f2:=hF.mp;have e1:=aA f1;have e2:=aA f2;have hg:=zk 4 [x.1,y.1] M;cases gk:df M [x.1,y.1] with
 |none =>
  rw[gk]at hg;simp only[iR]at hg;dsimp only[List.any_nil];rcases gT with⟨h,rfl,rfl⟩|⟨h,rfl,rfl⟩;all_goals
   refine fX.aX 43 os.length [.tmp 6] Tryd.func67 ?_;((try revert hK K);(repeat'(first|refine Vb (X5 @e1 @e2 @f1 @f2 (X5 @hg @au.eq_1 @aP.eq_1 @bl (X5 @br.{0} @aJ.{0} @dg.{0} @pH.{0} @nL))) ?_|(refine V2 (X5 @e1 @e2 @f1 @f2 (X5 @hg @au.eq_1 @aP.eq_1 @bl (X5 @br.{0} @aJ.{0} @dg.{0} @pH.{0} @nL))) ?_ ?_<;>try with_reducible intro hb)|(refine Xi ?_ ?_<;>try intro ht)|refine VD ?_ ?_|exact Xx|fail))<;>try with_reducible intro K hK)
   all_goals try(exfalso;omega)
   refine bu (λ_:Unit=>(⟨ax [(26,UX 0),(27,UX 0)],os++[.var [UX x.1,UX x.2],.var [UX y.1,UX y.2]]⟩:St)) (λ_=>True) (λ_=>0) () trivial ?_ ?_
   ·exact Xv X0
   rintro _ _ Ql aq aC;((try revert hK K);(repeat'(first|refine Vb X0 ?_|(refine V2 X0 ?_ ?_<;>try with_reducible intro hb)|(refine Xi ?_ ?_<;>try intro ht)|refine VD ?_ ?_|exact Xx|fail))<;>try with_reducible intro K hK)
   exact wA rfl rfl rfl ((dM.refl os).app _)
 |some Z =>
  have hZ:Z∈M:=List.mem_of_find?_eq_some gk;have fz:=hF.row _ Z gk;have ez:=aA fz;have uf:=hS x.1 y.1;rw[gk]at hg uf;simp only[Option.map_some]at hg;dsimp only at uf ⊢;have Si:∀ p∈Z.l,p∈m.aj/\p.fst=x.1/\p.snd=y.1:=λp hp=>by
   rw[<- uf,List.mem_filter,decide_eq_true_eq]at hp;exact⟨hp.1,hp.2.1,hp.2.2⟩
  have gB:Z.l.length<1000000:=by
   rw[<- uf];have:=List.length_filter_le (λp:Pr=>decide (p.fst=x.1/\p.snd=y.1)) m.aj;have:=hm.aj;omega
  rcases gT with⟨h,rfl,rfl⟩|⟨h,rfl,rfl⟩;all_goals
   refine fX.aX 43 os.length [.tmp 6] Tryd.func67 ?_;((try revert hK K);(repeat'(first|refine Vb (X5 @e1 @e2 @ez @f1 (X5 @f2 @hg @au.eq_1 @aP.eq_1 (X5 @bl @br.{0} @aJ.{0} @dg.{0} (X2 @pH.{0} @nL)))) ?_|(refine V2 (X5 @e1 @e2 @ez @f1 (X5 @f2 @hg @au.eq_1 @aP.eq_1 (X5 @bl @br.{0} @aJ.{0} @dg.{0} (X2 @pH.{0} @nL)))) ?_ ?_<;>try with_reducible intro hb)|(refine Xi ?_ ?_<;>try intro ht)|refine VD ?_ ?_|exact Xx|fail))<;>try with_reducible intro K hK)
   all_goals try(exfalso;omega)
   refine bu (λz:Nat×List Ob=>(⟨ax [(0,.ptr p 0 0),(4,.ptr os.length 0 0),(5,.ptr (os.length+1) 0 0),(25,.ref Z.at_ 4 0 Z.l.length),(26,UX Z.l.length),(27,UX z.1)],z.2⟩:St))
    (λz=>z.1<=Z.l.length/\(dM os z.2/\z.2[os.length]?=some (.var (au x))/\z.2[os.length+1]?=some (.var (au y)))/\∀ j,j<z.1->zm m x y (Z.l.getD j default)=false) (λz=>Z.l.length-z.1) (0,os++[.var [UX x.1,UX x.2],.var [UX y.1,UX y.2]])
    ⟨bk _,⟨(dM.refl os).app _,nW _ _ _,nX _ _ 1⟩,by intro j hj;exact absurd hj (qR _)⟩ ?_ ?_
   ·exact Xv X0
   rintro⟨k,ob⟩⟨hk,⟨lB,fx,fy⟩,jB⟩Ql aq aC;dsimp only at hk lB fx fy jB ⊢;have fp:=lB _ _ f1;have fm:=lB _ _ f2;have De:=lB _ _ fz;have ep:=aA fp;have LD:=aA De;have ex:=aA fx;have ey:=aA fy;by_cases aQ:k<Z.l.length
   ·have LF:=aO (l:=Z.l) (i:=k) (d:=default) aQ;obtain⟨z1,z2,z3⟩:=Si _ LF;have dX:=Sg m (Z.l.getD k default) x.2 y.2 (mS hm.pr _ z1) hm.opt (by rw[z2];exact iK.1.2) (by rw[z3];exact iK.2.2);have LH:zm m x y (Z.l.getD k default)=decide (l4 m (Z.l.getD k default) x.2 y.2=1099511627776):=rfl;generalize l4 m (Z.l.getD k default) x.2 y.2=en at *;generalize du:Z.l.getD k default=pr at *;((try revert hK K);(repeat'(first|refine Vd (X5 @fp @De @fx @fy (X5 @ep @LD @ex @ey (X5 @au.eq_1 @bV.eq_1 @aP.eq_1 @du (X3 @bl @br.{0} @aJ.{0})))) dX ?_|(refine V2 (X5 @fp @De @fx @fy (X5 @ep @LD @ex @ey (X5 @au.eq_1 @bV.eq_1 @aP.eq_1 @du (X3 @bl @br.{0} @aJ.{0})))) ?_ ?_<;>try with_reducible intro hb)|(refine Xi ?_ ?_<;>try intro ht)|refine VD ?_ ?_|exact Xx|fail))<;>try with_reducible intro K hK)
    ·exact wA rfl rfl (ko.2 ⟨pr,LF,by rw[LH,decide_eq_true ht]⟩).symm (lB.app _)
    ·refine aq _ (k+1,_) ⟨UT,⟨lB.app _,ex _,ey _⟩,λj hj=>?_⟩ UT (Xv X0);by_cases uU:j=k
     ·rw[uU,du,LH,decide_eq_false ht]
     ·exact jB j z8
   ·((try revert hK K);(repeat'(first|refine Vb X0 ?_|(refine V2 X0 ?_ ?_<;>try with_reducible intro hb)|(refine Xi ?_ ?_<;>try intro ht)|refine VD ?_ ?_|exact Xx|fail))<;>try with_reducible intro K hK)
    refine wA rfl rfl ?_ lB;rw[eq_comm,<- uF,ko];rintro⟨pr,h1,h2⟩;obtain⟨j,h3,h4⟩:=lJ.1 h1;have h5:=jB j z8;rw[an,aN h3,dg,h4,h2]at h5;cases h5
def zu(L:List (Int×Int)){k:Nat}(h:k<L.length):(rowsOf au L)[k]?=some (au (L.getD k default)):=by
 unfold rowsOf;rw[List.getElem?_map,aN h,an,aN h];rfl
def Sj{L:List (Int×Int)}{i j:Nat}(h:j<L.length)(hj:j<i):L.getD j default∈L.take i:=by
 have h1:(L.take i).length=min i L.length:=iC;have:L.getD j default=(L.take i)[j]' z8:=by
  rw[List.getElem_take,an,aN h];rfl
 rw[this];exact List.getElem_mem _
def Sk{m:ae}(hm:VM m){p q:Nat}{M:List (Ml Pr)}{os:List Ob}(hF:sr m p q M os)(hS:zl m M)(L:List (Int×Int))(hL:∀ x∈L,jI m x)(hl:L.length<1000000)(g:Nat)(hg:os[g]?=some (.arr 2 (rowsOf au L))):
  fX Tryd.prog 43 [.ptr p 0 0,.ref g 2 0 L.length] os λr ob=>r=.lit (.bool (mW m L))/\dM os ob:=by
 have hlen:(rowsOf au L).length=L.length:=by simp[rowsOf]
 refine fX.aX 38 os.length [.tmp 4] Tryd.func43 ?_;((try revert hK K);(repeat'(first|refine Vb @hg ?_|(refine V2 @hg ?_ ?_<;>try with_reducible intro hb)|(refine Xi ?_ ?_<;>try intro ht)|refine VD ?_ ?_|exact Xx|fail))<;>try with_reducible intro K hK)
 refine bu (λz:Nat×List Ob=>(⟨ax [(0,.ptr p 0 0),(1,.ref g 2 0 L.length),(9,.ref g 2 0 L.length),(10,UX L.length),(11,UX z.1)],z.2⟩:St))
  (λz=>z.1<=L.length/\dM os z.2/\∀ j,j<z.1->yV m L j=true) (λz=>L.length-z.1) (0,os) ⟨bk _,dM.refl _,by intro j hj;exact absurd hj (qR _)⟩ ?_ ?_
 ·exact Xv X0
 rintro⟨i,ob⟩⟨hi,lB,hw⟩Ql aq aC;dsimp only at hi lB hw ⊢;have fg:=lB _ _ hg;have eg:=aA fg;by_cases hi':i<L.length
 ·have fS:=zu L hi';have mi:=hL _ (aO (l:=L) (i:=i) (d:=default) hi');have LI:yV m L i=(L.take i).all (tM m (L.getD i default)):=rfl;generalize bX:L.getD i default=x at *;((try revert hK K);(repeat'(first|refine Va (X5 @fg @eg @fS @hlen (X3 @au.eq_1 @bl @iR.{0,0})) ?_|(refine V2 (X5 @fg @eg @fS @hlen (X3 @au.eq_1 @bl @iR.{0,0})) ?_ ?_<;>try with_reducible intro hb)|(refine Xi ?_ ?_<;>try intro ht)|refine VD ?_ ?_|exact Xx|fail))<;>try with_reducible intro K hK)
  have aS:=lB.len;refine bu (λz:Nat×List Ob=>(⟨ax [(0,.ptr p 0 0),(1,.ref g 2 0 L.length),(9,.ref g 2 0 L.length),(10,UX L.length),(11,UX i),(6,.ptr ob.length 0 0),(18,.ref g 2 0 i),(19,UX i),(20,UX z.1)],z.2⟩:St))
   (λz=>z.1<=i/\(dM os z.2/\z.2[ob.length]?=some (.var (au x)))/\∀ j,j<z.1->tM m x (L.getD j default)=true) (λz=>i-z.1) (0,ob++[.var [UX x.1,UX x.2]])
   ⟨bk _,⟨lB.app _,nW _ _ _⟩,by intro j hj;exact absurd hj (qR _)⟩ ?_ ?_
  ·exact Xv X0
  rintro⟨j,o2⟩⟨hj,⟨ug,fx⟩,gz⟩gu cr cy;dsimp only at hj ug fx gz ⊢;have pA:=ug _ _ hg;have qz:=aA pA;have ex:=aA fx;by_cases iZ:j<i
  ·have jg:=zu L (show j<L.length by omega);have Sl:=hL _ (aO (l:=L) (i:=j) (d:=default) z8);generalize qA:L.getD j default=y at *;have rm:tM m x y=(decide (x.1=y.1)||rV m x.1 x.2 y.1 y.2):=rfl;by_cases Df:x.1=y.1
   ·((try revert hK K);(repeat'(first|refine Va (X5 @pA @qz @fx @ex (X5 @jg @hlen @au.eq_1 @bl (X2 @br.{0} @aJ.{0}))) ?_|(refine V2 (X5 @pA @qz @fx @ex (X5 @jg @hlen @au.eq_1 @bl (X2 @br.{0} @aJ.{0}))) ?_ ?_<;>try with_reducible intro hb)|(refine Xi ?_ ?_<;>try intro ht)|refine VD ?_ ?_|exact Xx|fail))<;>try with_reducible intro K hK)
    refine cr _ (j+1,_) ⟨UT,⟨ug.app _,ex _⟩,λk hk=>?_⟩ UT (Xv X0);by_cases sq:k=j
    ·rw[sq,qA,rm,decide_eq_true Df];rfl
    ·exact gz k z8
   ·have su:(x.1 != y.1)=true:=by simpa using Df
    have hex:=Sh hm (hF.cg (ug.app [.var [UX y.1,UX y.2]])) hS x y mi Sl;generalize dj:rV m x.1 x.2 y.1 y.2=cl at *;repeat'(first|((fail_if_success (first|refine nj 7 ?_|refine nk 7 ?_));refine Xr (X5 @pA @qz @fx @ex (X5 @jg @hlen @au.eq_1 @bl (X2 @br.{0} @aJ.{0}))) ?_;intro K hK)|refine Xo (X5 @pA @qz @fx @ex (X5 @jg @hlen @au.eq_1 @bl (X2 @br.{0} @aJ.{0}))) ?_|(refine hK _ ?_;clear hK K)|(refine Xg (X5 @pA @qz @fx @ex (X5 @jg @hlen @au.eq_1 @bl (X2 @br.{0} @aJ.{0}))) ?_ ?_<;>try intro hb)|(refine Xi ?_ ?_<;>try intro ht)|refine Xy ?_|refine Xd ?_ ?_|exact Xx|fail)
    refine Rl 9 US _ rfl 5 true 29 rfl rfl ?_;intro K hK;simp(disch:=omega)only[Ac,↓Pc,simprocAttr,List.take,List.drop,fx,ex,su,xQ,C0,zf,au,bl,br,aJ];refine⟨true,rfl,λ_=>(show my Tryd.prog 67 [.ptr p 0 0,.agg [UX x.1,UX x.2],.agg [UX y.1,UX y.2]] (some 33) _ _ from ?_),λhh=>absurd rfl hh⟩;refine yA hex ?_;rintro r o3⟨rfl,fW⟩;refine⟨fW.len,?_⟩;have LJ:dM os o3:=λk o h=>fW k o (aA (ug k o h) _);have Sm:=fW _ _ (aA fx [.var [UX y.1,UX y.2]]);simp(disch:=omega)only[Ac,↓Pc,simprocAttr,List.drop,xQ];refine hK _ ?_;clear hK K;((try revert hK K);(repeat'(first|refine Vb X0 ?_|(refine V2 X0 ?_ ?_<;>try with_reducible intro hb)|(refine Xi ?_ ?_<;>try intro ht)|refine VD ?_ ?_|exact Xx|fail))<;>try with_reducible intro K hK)
    ·refine wA rfl rfl ?_ LJ;rw[eq_comm,<- uF,mW,gx];intro hh;have h1:=hh i (jM.2 hi');rw[LI,gx]at h1;have h2:=h1 y (by rw[<- qA];exact Sj z8 iZ);rw[rm,ht,decide_eq_false Df]at h2;cases h2
    ·refine cr _ (j+1,_) ⟨UT,⟨LJ,Sm⟩,λk hk=>?_⟩ UT (Xv X0);by_cases sq:k=j
     ·rw[sq,qA,rm,ht];simp
     ·exact gz k z8
  ·((try revert hK K);(repeat'(first|refine Va X0 ?_|(refine V2 X0 ?_ ?_<;>try with_reducible intro hb)|(refine Xi ?_ ?_<;>try intro ht)|refine VD ?_ ?_|exact Xx|fail))<;>try with_reducible intro K hK)
   refine cy _ _ rfl ?_;clear cr cy gu;repeat(first|refine Xu ?_)
   ((try revert hK K);(repeat'(first|refine Va X0 ?_|(refine V2 X0 ?_ ?_<;>try with_reducible intro hb)|(refine Xi ?_ ?_<;>try intro ht)|refine VD ?_ ?_|exact Xx|fail))<;>try with_reducible intro K hK)
   refine aq _ (i+1,o2) ⟨UT,ug,λk hk=>?_⟩ UT (Xv X0);by_cases fe:k=i
   ·rw[fe,LI,gx];intro y hy;obtain⟨n,h1,h2⟩:=lJ.1 hy;rw[iC]at h1;have h3:=gz n z8;rw[List.getElem_take]at h2;rw[an,aN z8,dg,h2]at h3;exact h3
   ·exact hw k z8
 ·((try revert hK K);(repeat'(first|refine Vb X0 ?_|(refine V2 X0 ?_ ?_<;>try with_reducible intro hb)|(refine Xi ?_ ?_<;>try intro ht)|refine VD ?_ ?_|exact Xx|fail))<;>try with_reducible intro K hK)
  refine wA rfl rfl ?_ lB;rw[eq_comm,mW,gx];intro k hk;exact hw k (by have:=jM.1 hk;omega)
end T

