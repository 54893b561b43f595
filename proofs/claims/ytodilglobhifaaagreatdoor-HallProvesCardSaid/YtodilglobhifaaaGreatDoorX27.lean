import Derived.Test.YtodilglobhifaaaGreatDoorX23
import Derived.Test.YtodilglobhifaaaGreatDoorX24
import Derived.Test.YtodilglobhifaaaGreatDoorX25
import Derived.Test.YtodilglobhifaaaGreatDoorX26
set_option linter.all false
set_option maxHeartbeats 0
set_option maxRecDepth 20000
open Option renaming map_none→jf,getD_some→dE,getD_none→qU,map_some→fN,isSome_some→nt,isNone_none→yM,isNone_some→vf
open List renaming append_assoc→bn,length_append→aK,any_eq_true→np,mem_iff_getElem→n6,getD_eq_getElem?_getD→ax,getElem?_eq_getElem→aT,getElem?_map→cm,length_take→fE,getElem_take→E7,take→jg,drop→fW,all_eq_true→eS,mem_range→jA,cons_append→ew,nil_append→dx,length_cons→cf,length_nil→gX,length_set→bm,set_set→nu,set_comm→E4,length_pos_iff→BI
open Nat renaming zero_le→aS,not_lt_zero→ns,le_refl→aM
open Bool renaming not_eq_true→xg
open Int renaming toNat_natCast→eu,ofNat_lt→yU
open Go Go.Am Go.Proofs
namespace T
def sq:g8 Tryz.prog 85 2:=g8.arr (kt:=88) (et:=29) (e:=3) (by kernel_rfl) (by kernel_rfl) aac (by kernel_rfl) (by kernel_rfl) (by kernel_rfl)
def oQ:g8 Tryz.prog 129 4:=g8.arr (kt:=133) (et:=90) (e:=3) (by kernel_rfl) (by kernel_rfl) aac (by kernel_rfl) (by kernel_rfl) (by kernel_rfl)
def Bd{n0:Nat}{k:Nat}{b c:Bool}{os ob:List Ob}{env:Nat->AV}(he:os.length=n0)(h1:env k=.lit (.bool b))(h2:b=c)(hk:cQ os ob):jm Tryz.prog n0 [.tmp k] (λr ob=>r=.lit (.bool c)/\cQ os ob) .ret ⟨env,ob⟩:=by
 subst h2 he;unfold jm;simp only[fc,eM];refine⟨.lit (.bool b),ob,⟨rfl,hk⟩,?_⟩;rw[h1];exact dt rfl hk.len rfl
def ac2{m:ah}(hm:VM m){p q:Nat}{M:List (Ml Pr)}{os:List Ob}(hF:wM m p q M os)(hS:Em m M)(a b:Int×Int)(ha:qP m a)(hb:qP m b):
  di Tryz.prog 104 [.ptr p 0 0,.agg (av a),.agg (av b)] os λr ob=>r=.lit (.bool (tv m a.1 a.2 b.1 b.2))/\cQ os ob:=by
 obtain⟨x,y,jV⟩:∃x y,(b.1<a.1/\x=b/\y=a)\/(¬ b.1<a.1/\x=a/\y=b):=by
  by_cases h:b.1<a.1
  ·exact⟨b,a,.inl ⟨h,rfl,rfl⟩⟩
  ·exact⟨a,b,.inr ⟨h,rfl,rfl⟩⟩
 have hv:tv m a.1 a.2 b.1 b.2=m.aj.any (oH m x.1 x.2 y.1 y.2):=by
  unfold tv;rcases jV with⟨h,rfl,rfl⟩|⟨h,rfl,rfl⟩
  ·rw[if_pos h]
  ·rw[if_neg h]
 have jt:qP m x/\qP m y:=by rcases jV with⟨h,rfl,rfl⟩|⟨h,rfl,rfl⟩<;>exact⟨by assumption,by assumption⟩
 rw[hv,ac3,hS x.1 y.1];have f1:=hF.fin;have f2:=hF.mp;have e1:=aA f1;have e2:=aA f2;have hg:=Ea 4 [x.1,y.1] M;cases jq:ej M [x.1,y.1] with
 |none =>
  rw[jq]at hg;simp only[jf]at hg;dsimp only[List.any_nil];rcases jV with⟨h,rfl,rfl⟩|⟨h,rfl,rfl⟩;all_goals
   refine di.aL 43 os.length [.tmp 6] Tryz.func104 ?_;((try revert hK K);(repeat'(first|refine Vb (X5 @e1 @e2 @f1 @f2 (X5 @hg @av.eq_1 @aB.eq_1 @a8 (X5 @bn.{0} @aK.{0} @dE.{0} @qU.{0} @sq))) ?_|(refine V2 (X5 @e1 @e2 @f1 @f2 (X5 @hg @av.eq_1 @aB.eq_1 @a8 (X5 @bn.{0} @aK.{0} @dE.{0} @qU.{0} @sq))) ?_ ?_<;>try with_reducible intro hb)|(refine Xi ?_ ?_<;>try intro ht)|refine VD ?_ ?_|exact Xx|fail))<;>try with_reducible intro K hK)
   all_goals try(exfalso;omega)
   refine aW (λ_:Unit=>(⟨ao [(26,aam 0),(27,aam 0)],os++[.var [aam x.1,aam x.2],.var [aam y.1,aam y.2]]⟩:St)) (λ_=>True) (λ_=>0) () trivial ?_ ?_
   ·exact Xv X0
   rintro _ _ Ql an aw;((try revert hK K);(repeat'(first|refine Vb X0 ?_|(refine V2 X0 ?_ ?_<;>try with_reducible intro hb)|(refine Xi ?_ ?_<;>try intro ht)|refine VD ?_ ?_|exact Xx|fail))<;>try with_reducible intro K hK)
   exact Bd rfl rfl rfl ((cQ.refl os).app _)
 |some Z =>
  have hZ:Z∈M:=List.mem_of_find?_eq_some jq;have fz:=hF.row _ Z jq;have ez:=aA fz;have yB:=hS x.1 y.1;rw[jq]at hg yB;simp only[fN]at hg;dsimp only at yB ⊢;have hZs:∀ p∈Z.l,p∈m.aj/\p.fst=x.1/\p.snd=y.1:=λp hp=>by
   rw[<- yB,List.mem_filter,decide_eq_true_eq]at hp;exact⟨hp.1,hp.2.1,hp.2.2⟩
  have jD:Z.l.length<1000000:=by
   rw[<- yB];have:=List.length_filter_le (λp:Pr=>decide (p.fst=x.1/\p.snd=y.1)) m.aj;have:=hm.aj;omega
  rcases jV with⟨h,rfl,rfl⟩|⟨h,rfl,rfl⟩;all_goals
   refine di.aL 43 os.length [.tmp 6] Tryz.func104 ?_;((try revert hK K);(repeat'(first|refine Vb (X5 @e1 @e2 @ez @f1 (X5 @f2 @hg @av.eq_1 @aB.eq_1 (X5 @a8 @bn.{0} @aK.{0} @dE.{0} (X2 @qU.{0} @sq)))) ?_|(refine V2 (X5 @e1 @e2 @ez @f1 (X5 @f2 @hg @av.eq_1 @aB.eq_1 (X5 @a8 @bn.{0} @aK.{0} @dE.{0} (X2 @qU.{0} @sq)))) ?_ ?_<;>try with_reducible intro hb)|(refine Xi ?_ ?_<;>try intro ht)|refine VD ?_ ?_|exact Xx|fail))<;>try with_reducible intro K hK)
   all_goals try(exfalso;omega)
   refine aW (λz:Nat×List Ob=>(⟨ao [(0,.ptr p 0 0),(4,.ptr os.length 0 0),(5,.ptr (os.length+1) 0 0),(25,.ref Z.at_ 4 0 Z.l.length),(26,aam Z.l.length),(27,aam z.1)],z.2⟩:St))
    (λz=>z.1<=Z.l.length/\(cQ os z.2/\z.2[os.length]?=some (.var (av x))/\z.2[os.length+1]?=some (.var (av y)))/\∀ j,j<z.1->En m x y (Z.l.getD j default)=false) (λz=>Z.l.length-z.1) (0,os++[.var [aam x.1,aam x.2],.var [aam y.1,aam y.2]])
    ⟨aS _,⟨(cQ.refl os).app _,jH _ _ _,lG _ _ 1⟩,by intro j hj;exact absurd hj (ns _)⟩ ?_ ?_
   ·exact Xv X0
   rintro⟨k,ob⟩⟨hk,⟨bh,fx,fy⟩,lz⟩Ql an aw;dsimp only at hk bh fx fy lz ⊢;have fp:=bh _ _ f1;have fm:=bh _ _ f2;have IW:=bh _ _ fz;have ep:=aA fp;have Ub:=aA IW;have ex:=aA fx;have ey:=aA fy;by_cases aY:k<Z.l.length
   ·have Uc:=aF (l:=Z.l) (i:=k) (d:=default) aY;obtain⟨z1,z2,z3⟩:=hZs _ Uc;have fX:=abx m (Z.l.getD k default) x.2 y.2 (lE hm.pr _ z1) hm.opt (by rw[z2];exact jt.1.2) (by rw[z3];exact jt.2.2);have Ud:En m x y (Z.l.getD k default)=decide (pB m (Z.l.getD k default) x.2 y.2=1099511627776):=rfl;generalize pB m (Z.l.getD k default) x.2 y.2=en at *;generalize cy:Z.l.getD k default=pr at *;((try revert hK K);(repeat'(first|refine Vd (X5 @fp @IW @fx @fy (X5 @ep @Ub @ex @ey (X5 @av.eq_1 @aO.eq_1 @aB.eq_1 @cy (X3 @a8 @bn.{0} @aK.{0})))) fX ?_|(refine V2 (X5 @fp @IW @fx @fy (X5 @ep @Ub @ex @ey (X5 @av.eq_1 @aO.eq_1 @aB.eq_1 @cy (X3 @a8 @bn.{0} @aK.{0})))) ?_ ?_<;>try with_reducible intro hb)|(refine Xi ?_ ?_<;>try intro ht)|refine VD ?_ ?_|exact Xx|fail))<;>try with_reducible intro K hK)
    ·exact Bd rfl rfl (np.2 ⟨pr,Uc,by rw[Ud,decide_eq_true ht]⟩).symm (bh.app _)
    ·refine an _ (k+1,_) ⟨aad,⟨bh.app _,ex _,ey _⟩,λj hj=>?_⟩ aad (Xv X0);by_cases zy:j=k
     ·rw[zy,cy,Ud,decide_eq_false ht]
     ·exact lz j Bv
   ·((try revert hK K);(repeat'(first|refine Vb X0 ?_|(refine V2 X0 ?_ ?_<;>try with_reducible intro hb)|(refine Xi ?_ ?_<;>try intro ht)|refine VD ?_ ?_|exact Xx|fail))<;>try with_reducible intro K hK)
    refine Bd rfl rfl ?_ bh;rw[eq_comm,<- xg,np];rintro⟨pr,h1,h2⟩;obtain⟨j,h3,h4⟩:=n6.1 h1;have h5:=lz j Bv;rw[ax,aT h3,dE,h4,h2]at h5;cases h5
def Eg(L:List (Int×Int)){k:Nat}(h:k<L.length):(rowsOf av L)[k]?=some (av (L.getD k default)):=by
 unfold rowsOf;rw[cm,aT h,ax,aT h];rfl
def ac5{L:List (Int×Int)}{i j:Nat}(h:j<L.length)(hj:j<i):L.getD j default∈L.take i:=by
 have h1:(L.take i).length=min i L.length:=fE;have:L.getD j default=(L.take i)[j]' Bv:=by
  rw[E7,ax,aT h];rfl
 rw[this];exact List.getElem_mem _
def ac6{m:ah}(hm:VM m){p q:Nat}{M:List (Ml Pr)}{os:List Ob}(hF:wM m p q M os)(hS:Em m M)(L:List (Int×Int))(hL:∀ x∈L,qP m x)(hl:L.length<1000000)(g:Nat)(hg:os[g]?=some (.arr 2 (rowsOf av L))):
  di Tryz.prog 67 [.ptr p 0 0,.ref g 2 0 L.length] os λr ob=>r=.lit (.bool (pG m L))/\cQ os ob:=by
 have hlen:(rowsOf av L).length=L.length:=by simp[rowsOf]
 refine di.aL 38 os.length [.tmp 4] Tryz.func67 ?_;((try revert hK K);(repeat'(first|refine Vb @hg ?_|(refine V2 @hg ?_ ?_<;>try with_reducible intro hb)|(refine Xi ?_ ?_<;>try intro ht)|refine VD ?_ ?_|exact Xx|fail))<;>try with_reducible intro K hK)
 refine aW (λz:Nat×List Ob=>(⟨ao [(0,.ptr p 0 0),(1,.ref g 2 0 L.length),(9,.ref g 2 0 L.length),(10,aam L.length),(11,aam z.1)],z.2⟩:St))
  (λz=>z.1<=L.length/\cQ os z.2/\∀ j,j<z.1->Dp m L j=true) (λz=>L.length-z.1) (0,os) ⟨aS _,cQ.refl _,by intro j hj;exact absurd hj (ns _)⟩ ?_ ?_
 ·exact Xv X0
 rintro⟨i,ob⟩⟨hi,bh,hw⟩Ql an aw;dsimp only at hi bh hw ⊢;have fg:=bh _ _ hg;have eg:=aA fg;by_cases hi':i<L.length
 ·have u7:=Eg L hi';have tP:=hL _ (aF (l:=L) (i:=i) (d:=default) hi');have Ue:Dp m L i=(L.take i).all (pF m (L.getD i default)):=rfl;generalize br:L.getD i default=x at *;((try revert hK K);(repeat'(first|refine Va (X5 @fg @eg @u7 @hlen (X3 @av.eq_1 @a8 @jf.{0,0})) ?_|(refine V2 (X5 @fg @eg @u7 @hlen (X3 @av.eq_1 @a8 @jf.{0,0})) ?_ ?_<;>try with_reducible intro hb)|(refine Xi ?_ ?_<;>try intro ht)|refine VD ?_ ?_|exact Xx|fail))<;>try with_reducible intro K hK)
  have a9:=bh.len;refine aW (λz:Nat×List Ob=>(⟨ao [(0,.ptr p 0 0),(1,.ref g 2 0 L.length),(9,.ref g 2 0 L.length),(10,aam L.length),(11,aam i),(6,.ptr ob.length 0 0),(18,.ref g 2 0 i),(19,aam i),(20,aam z.1)],z.2⟩:St))
   (λz=>z.1<=i/\(cQ os z.2/\z.2[ob.length]?=some (.var (av x)))/\∀ j,j<z.1->pF m x (L.getD j default)=true) (λz=>i-z.1) (0,ob++[.var [aam x.1,aam x.2]])
   ⟨aS _,⟨bh.app _,jH _ _ _⟩,by intro j hj;exact absurd hj (ns _)⟩ ?_ ?_
  ·exact Xv X0
  rintro⟨j,o2⟩⟨hj,⟨yE,fx⟩,fS⟩dh bc bz;dsimp only at hj yE fx fS ⊢;have tZ:=yE _ _ hg;have vb:=aA tZ;have ex:=aA fx;by_cases eF:j<i
  ·have lQ:=Eg L (show j<L.length by omega);have hym:=hL _ (aF (l:=L) (i:=j) (d:=default) Bv);generalize kC:L.getD j default=y at *;have oe:pF m x y=(decide (x.1=y.1)||tv m x.1 x.2 y.1 y.2):=rfl;by_cases IX:x.1=y.1
   ·((try revert hK K);(repeat'(first|refine Va (X5 @tZ @vb @fx @ex (X5 @lQ @hlen @av.eq_1 @a8 (X2 @bn.{0} @aK.{0}))) ?_|(refine V2 (X5 @tZ @vb @fx @ex (X5 @lQ @hlen @av.eq_1 @a8 (X2 @bn.{0} @aK.{0}))) ?_ ?_<;>try with_reducible intro hb)|(refine Xi ?_ ?_<;>try intro ht)|refine VD ?_ ?_|exact Xx|fail))<;>try with_reducible intro K hK)
    refine bc _ (j+1,_) ⟨aad,⟨yE.app _,ex _⟩,λk hk=>?_⟩ aad (Xv X0);by_cases wJ:k=j
    ·rw[wJ,kC,oe,decide_eq_true IX];rfl
    ·exact fS k Bv
   ·have wL:(x.1 != y.1)=true:=by simpa using IX
    have hex:=ac2 hm (hF.cW (yE.app [.var [aam y.1,aam y.2]])) hS x y tP hym;generalize cz:tv m x.1 x.2 y.1 y.2=cl at *;repeat'(first|((fail_if_success (first|refine gx 7 ?_|refine gy 7 ?_));refine Xr (X5 @tZ @vb @fx @ex (X5 @lQ @hlen @av.eq_1 @a8 (X2 @bn.{0} @aK.{0}))) ?_;intro K hK)|refine Xo (X5 @tZ @vb @fx @ex (X5 @lQ @hlen @av.eq_1 @a8 (X2 @bn.{0} @aK.{0}))) ?_|(refine hK _ ?_;clear hK K)|(refine Xg (X5 @tZ @vb @fx @ex (X5 @lQ @hlen @av.eq_1 @a8 (X2 @bn.{0} @aK.{0}))) ?_ ?_<;>try intro hb)|(refine Xi ?_ ?_<;>try intro ht)|refine Xy ?_|refine Xd ?_ ?_|exact Xx|fail)
    refine acf 9 aac _ rfl 5 true 29 rfl rfl ?_;intro K hK;simp(disch:=omega)only[Ac,↓Pc,simprocAttr,jg,fW,fx,ex,wL,Cg,ID,D8,av,a8,bn,aK];refine⟨true,rfl,λ_=>(show jS Tryz.prog 104 [.ptr p 0 0,.agg [aam x.1,aam x.2],.agg [aam y.1,aam y.2]] (some 33) _ _ from ?_),λhh=>absurd rfl hh⟩;refine rL hex ?_;rintro r o3⟨rfl,iW⟩;refine⟨iW.len,?_⟩;have Uf:cQ os o3:=λk o h=>iW k o (aA (yE k o h) _);have fx3:=iW _ _ (aA fx [.var [aam y.1,aam y.2]]);simp(disch:=omega)only[Ac,↓Pc,simprocAttr,fW,Cg];refine hK _ ?_;clear hK K;((try revert hK K);(repeat'(first|refine Vb X0 ?_|(refine V2 X0 ?_ ?_<;>try with_reducible intro hb)|(refine Xi ?_ ?_<;>try intro ht)|refine VD ?_ ?_|exact Xx|fail))<;>try with_reducible intro K hK)
    ·refine Bd rfl rfl ?_ Uf;rw[eq_comm,<- xg,pG,eS];intro hh;have h1:=hh i (jA.2 hi');rw[Ue,eS]at h1;have h2:=h1 y (by rw[<- kC];exact ac5 Bv eF);rw[oe,ht,decide_eq_false IX]at h2;cases h2
    ·refine bc _ (j+1,_) ⟨aad,⟨Uf,fx3⟩,λk hk=>?_⟩ aad (Xv X0);by_cases wJ:k=j
     ·rw[wJ,kC,oe,ht];simp
     ·exact fS k Bv
  ·((try revert hK K);(repeat'(first|refine Va X0 ?_|(refine V2 X0 ?_ ?_<;>try with_reducible intro hb)|(refine Xi ?_ ?_<;>try intro ht)|refine VD ?_ ?_|exact Xx|fail))<;>try with_reducible intro K hK)
   refine bz _ _ rfl ?_;clear bc bz dh;repeat(first|refine Xu ?_)
   ((try revert hK K);(repeat'(first|refine Va X0 ?_|(refine V2 X0 ?_ ?_<;>try with_reducible intro hb)|(refine Xi ?_ ?_<;>try intro ht)|refine VD ?_ ?_|exact Xx|fail))<;>try with_reducible intro K hK)
   refine an _ (i+1,o2) ⟨aad,yE,λk hk=>?_⟩ aad (Xv X0);by_cases ig:k=i
   ·rw[ig,Ue,eS];intro y hy;obtain⟨n,h1,h2⟩:=n6.1 hy;rw[fE]at h1;have h3:=fS n Bv;rw[E7]at h2;rw[ax,aT Bv,dE,h2]at h3;exact h3
   ·exact hw k Bv
 ·((try revert hK K);(repeat'(first|refine Vb X0 ?_|(refine V2 X0 ?_ ?_<;>try with_reducible intro hb)|(refine Xi ?_ ?_<;>try intro ht)|refine VD ?_ ?_|exact Xx|fail))<;>try with_reducible intro K hK)
  refine Bd rfl rfl ?_ bh;rw[eq_comm,pG,eS];intro k hk;exact hw k (by have:=jA.1 hk;omega)
abbrev Cz:=List Ob×(Nat×Nat)×List (Nat×Nat)×List (List (Int×Int))×List (Ml (Int×Int))×List (List Int)
def hcP(m:ah)(left:List (List Bool))(os:List Ob):AV->List Ob->Prop:=λr ob=>cQ os ob/\∃ to D,r=.ref to 1 0 D.length/\ob[to]?=some (.arr 1 (rowsOf bY D))/\RI av ob D (kW m (fU m left))
def acm{m:ah}(hm:VM m)(hw:∀ x,(iG m x).wk<=3){left:List (List Bool)}(hf:iP m left){p q:Nat}{M:List (Ml Pr)}{os:List Ob}(hF:wM m p q M os)(hS:Em m M):
  di Tryz.prog 26 [.ptr p 0 0,.tree 1 (rowsOf bl left)] os (hcP m left os):=by
 have f1:=hF.fin;have e1:=aA f1;have wv:=hm.cls;have eX:=hf.1;refine di.aL 131 os.length [.tmp 4] Tryz.func26 ?_;((try revert hK K);(repeat'(first|refine Vb (X5 @f1 @e1 @aB.eq_1 @a8 (X3 @bn.{0} @aK.{0} @oQ)) ?_|(refine V2 (X5 @f1 @e1 @aB.eq_1 @a8 (X3 @bn.{0} @aK.{0} @oQ)) ?_ ?_<;>try with_reducible intro hb)|(refine Xi ?_ ?_<;>try intro ht)|refine VD ?_ ?_|exact Xx|fail))<;>try with_reducible intro K hK)
 refine aW (λz:Nat×Cz=>(⟨ao [(0,.ptr p 0 0),(1,.tree 1 (rowsOf bl left)),(5,.ref z.2.2.1.1 1 0 z.2.2.2.1.length),(6,.dP os.length),(7,.ref z.2.2.1.2 4 0 z.2.2.2.2.2.2.length),(24,.tree 1 (rowsOf bw m.cls)),(25,aam m.cls.length),(26,aam z.1)],z.2.1⟩:St))
  (λz=>z.1<=m.cls.length/\CB os os.length z.2.2.1.1 z.2.2.1.2 z.2.2.2.1 z.2.2.2.2.1 z.2.2.2.2.2.1 z.2.2.2.2.2.2 z.2.1/\k7 m (XP m left z.1 0) z.2.2.2.2.1 z.2.2.2.2.2.1 z.2.2.2.2.2.2)
  (λz=>m.cls.length-z.1) (0,os++[.mp 4 [],.arr 1 [],.arr 4 []],(os.length+1,os.length+2),[],[],[],[]) ⟨aS _,CB.start os,k7.nil m⟩ ?_ ?_
 ·refine aC.trans (aC.nil 5 1 (by simp only[Kc,simprocAttr]) aac) (aC.trans (aC.nil 7 4 (by simp only[Kc,simprocAttr]) aac) ?_);simp only[bn,ew,dx,aK,cf,gX];exact Xv X0
 rintro⟨c,ob,⟨to,tk⟩,D,S,G,ks⟩⟨hc,hC,hG⟩Ql an aw;dsimp only at hc hC hG ⊢;by_cases sY:c<m.cls.length;rotate_left
 ·have bC:c=m.cls.length:=Bv;subst bC;rw[yh]at hG;have Ug:=hC.cq;have qG:(fU m left).length<=600:=by
   have:=DJ hm.opt (left:=left) m.cls.length 0 (aM _) Bv;rw[yh]at this;omega
  have nV:∀ x∈fU m left,qP m x:=by
   have:=HS (m:=m) (left:=left) (c:=m.cls.length) (i:=0) (.inr ⟨rfl,aM _⟩) (aS _);rw[yh]at this;exact this
  have dS:ks.length<=600:=by rw[hG.keys];have:=Eo m (fU m left) [];simp only[gX]at this;omega
  have DN:S.length<=600:=by rw[hG.lone];have:=IY m (fU m left);omega
  have hall:=ac' hG;clear hC;((try revert hK K);(repeat'(first|refine Va X0 ?_|(refine V2 X0 ?_ ?_<;>try with_reducible intro hb)|(refine Xi ?_ ?_<;>try intro ht)|refine VD ?_ ?_|exact Xx|fail))<;>try with_reducible intro K hK)
  refine aw _ _ rfl ?_;clear an aw Ql;repeat(first|refine Xu ?_)
  have fk:=Ug.ni;((try revert hK K);(repeat'(first|refine Va @fk ?_|(refine V2 @fk ?_ ?_<;>try with_reducible intro hb)|(refine Xi ?_ ?_<;>try intro ht)|refine VD ?_ ?_|exact Xx|fail))<;>try with_reducible intro K hK)
  refine aW (λz:Nat×List Ob×Nat×List (Nat×Nat)×List (List (Int×Int))=>(⟨ao [(0,.ptr p 0 0),(5,.ref z.2.2.1 1 0 z.2.2.2.1.length),(6,.dP os.length),(98,.ref tk 4 0 ks.length),(99,aam ks.length),(100,aam z.1)],z.2.1⟩:St))
   (λz=>z.1<=ks.length/\CQ os os.length tk G ks z.2.2.1 z.2.2.2.1 z.2.2.2.2 z.2.1/\z.2.2.2.2.length<=600+z.1*601/\z.2.2.2.2=S++(ks.take z.1).flatMap (kU m (fU m left))) (λz=>ks.length-z.1) (0,ob,to,D,S)
   ⟨aS _,Ug,aad,Jy⟩ ?_ ?_
  ·exact Xv X0
  rintro⟨n,o2,Uh,D2,S2⟩⟨hn,hQ,kR,Be⟩Ql an aw;dsimp only at hn hQ kR Be ⊢;have Bf:=hQ.ni;have IZ:=hQ.mp;have Ep:=hQ.out;have Er:=aA Bf;have qO:=aA IZ;have eo2:=aA Ep;have so2:=fC Ep;have uY:D2.length<=600+n*601:=by rw[hQ.ri.len];exact kR
  by_cases fR:n<ks.length;rotate_left
  ·have Bg:n=ks.length:=Bv;((try revert hK K);(repeat'(first|refine Va X0 ?_|(refine V2 X0 ?_ ?_<;>try with_reducible intro hb)|(refine Xi ?_ ?_<;>try intro ht)|refine VD ?_ ?_|exact Xx|fail))<;>try with_reducible intro K hK)
   subst Bg;refine aw _ _ rfl ?_;clear an aw Ql;repeat(first|refine Xu ?_)
   ((try revert hK K);(repeat'(first|refine Vb X0 ?_|(refine V2 X0 ?_ ?_<;>try with_reducible intro hb)|(refine Xi ?_ ?_<;>try intro ht)|refine VD ?_ ?_|exact Xx|fail))<;>try with_reducible intro K hK)
   unfold jm;simp only[fc,eM];simp(disch:=omega)only[Ac,↓Pc,simprocAttr];rw[hall]at Be;subst Be;exact⟨_,_,⟨hQ.kp,Uh,D2,rfl,Ep,hQ.ri⟩,dt rfl hQ.kp.len rfl⟩
  obtain⟨g,dg,dc⟩:=hG.key fR;obtain⟨ka,kb,kc,kd,Ie⟩:=ade hG fR;have l9:(rowsOf ua ks)[n]?=some [aam ka,aam kb,aam kc,aam kd]:=by
   unfold rowsOf;rw[cm,aT fR];have:ks[n]=ks.getD n default:=by rw[ax,aT fR];rfl
   rw[this,Ie];rfl
  have I0:(rowsOf ua ks).length=ks.length:=by simp[rowsOf]
  have gf:=Ea 2 [ka,kb,kc,kd] G;rw[Ie]at dg;rw[dg]at gf;simp only[fN]at gf;have tZ:=hQ.gr _ g dg;have vb:=aA tZ;have lO:=Es m (fU m left) (ks.getD n default);rw[<- dc]at lO;have bS:∀ x∈g.l,qP m x:=λx hx=>nV x (by rw[dc]at hx;exact(nf.1 hx).1);have ik:=adf (m:=m) (X:=fU m left) fR;have AI:=λh=>adg (m:=m) (X:=fU m left) (k:=ks.getD n default) h;have oI:=λh=>adh (m:=m) (X:=fU m left) (k:=ks.getD n default) h;rw[<- dc]at AI oI;repeat'(first|((fail_if_success (first|refine gx 23 ?_|refine gy 23 ?_));refine Xr (X5 @Bf @Er @l9 @I0 (X3 @a8 @bn.{0} @aK.{0})) ?_;intro K hK)|refine Xo (X5 @Bf @Er @l9 @I0 (X3 @a8 @bn.{0} @aK.{0})) ?_|(refine hK _ ?_;clear hK K)|(refine Xg (X5 @Bf @Er @l9 @I0 (X3 @a8 @bn.{0} @aK.{0})) ?_ ?_<;>try intro hb)|(refine Xi ?_ ?_<;>try intro ht)|refine Xy ?_|refine Xd ?_ ?_|exact Xx|fail)
  refine pe 4 aac _ rfl ?_;intro K hK;have Ui:=ac6 hm (hF.cW ((hQ.kp).app [.var [aam ka,aam kb,aam kc,aam kd]])) hS g.l bS Bv g.at_ (vb _);generalize T7:pG m g.l=wb at *;simp(disch:=omega)only[Ac,↓Pc,simprocAttr,jg,fW,IZ,qO,gf,oQ,dE,a8];refine⟨rfl,(show jS Tryz.prog 67 [.ptr p 0 0,.ref g.at_ 2 0 g.l.length] (some 108) _ _ from ?_)⟩;refine rL Ui ?_;rintro r o3⟨rfl,iW⟩;refine⟨iW.len,?_⟩;have yF:=(hQ.app [.var [aam ka,aam kb,aam kc,aam kd]]).cW iW;have Et:=iW _ _ (jH o2 (.var [aam ka,aam kb,aam kc,aam kd]) []);have Eu:=yF.mp;have Bh:=yF.out;have Ev:=yF.gr _ g dg;have I1:=aA Et;have I2:=aA Eu;have I3:=aA Bh;have I4:=fC Bh;have I5:=aA Ev;refine hK _ ?_;clear hK K Ui;((try revert hK K);(repeat'(first|refine Va (X5 @Et @I1 @Eu @I2 (X5 @Bh @I3 @I4 @Ev (X5 @I5 @gf @oQ @dE.{0} (X3 @a8 @bn.{0} @aK.{0})))) ?_|(refine V2 (X5 @Et @I1 @Eu @I2 (X5 @Bh @I3 @I4 @Ev (X5 @I5 @gf @oQ @dE.{0} (X3 @a8 @bn.{0} @aK.{0})))) ?_ ?_<;>try with_reducible intro hb)|(refine Xi ?_ ?_<;>try intro ht)|refine VD ?_ ?_|exact Xx|fail))<;>try with_reducible intro K hK)
  ·refine an _ (n+1,_,o3.length+1,D2++[(g.at_,g.l.length)],S2++[g.l]) ⟨aad,yF.aX dg (b:=1) (l:=[.arr 1 [[.ref g.at_ 2 0 g.l.length]],.arr 1 (rowsOf bY D2++[[.ref g.at_ 2 0 g.l.length]])]) (by rw[<- Af];rfl),by simp only[aK,cf,gX];omega,?_⟩ aad ?_
   ·dsimp only;rw[ik,AI ht,Be,bn]
   ·exact Xv (X3 @aK.{0} @cf.{0} @gX.{0})
  have Uj:(rowsOf av g.l).length=g.l.length:=by simp[rowsOf]
  refine aW (λz:Nat×List Ob×Nat×List (Nat×Nat)×List (List (Int×Int))=>(⟨ao [(0,.ptr p 0 0),(5,.ref z.2.2.1 1 0 z.2.2.2.1.length),(6,.dP os.length),(98,.ref tk 4 0 ks.length),(99,aam ks.length),(100,aam n),(117,.ref g.at_ 2 0 g.l.length),(118,aam g.l.length),(119,aam z.1)],z.2.1⟩:St))
   (λz=>z.1<=g.l.length/\CQ os os.length tk G ks z.2.2.1 z.2.2.2.1 z.2.2.2.2 z.2.1/\z.2.2.2.2.length<=600+n*601+z.1/\z.2.2.2.2=S2++(g.l.take z.1).map λc=>[c]) (λz=>g.l.length-z.1) (0,o3,Uh,D2,S2)
   ⟨aS _,yF,aad,Jy⟩ ?_ ?_
  ·exact Xv X0
  clear hQ yF Et Eu Bh Ev I1 I2 I3 I4 I5 Bf IZ Ep Er qO eo2 so2 tZ vb iW;rintro⟨j,o4,to4,D4,S4⟩⟨hj,hQ,Uk,I6⟩dh bc bz;dsimp only at hj hQ Uk I6 ⊢;have Ew:=hQ.out;have I7:=hQ.gr _ g dg;have Ul:=aA Ew;have Um:=fC Ew;have Un:=aA I7;have afa:D4.length<=600+n*601+j:=by rw[hQ.ri.len];exact Uk
  by_cases eF:j<g.l.length
  ·have lQ:=Eg g.l eF;have pJ:=adj eF;generalize br:g.l.getD j default=x at *;((try revert hK K);(repeat'(first|refine Va (X5 @Ew @Ul @Um @I7 (X5 @Un @lQ @Uj @av.eq_1 (X3 @a8 @bn.{0} @aK.{0}))) ?_|(refine V2 (X5 @Ew @Ul @Um @I7 (X5 @Un @lQ @Uj @av.eq_1 (X3 @a8 @bn.{0} @aK.{0}))) ?_ ?_<;>try with_reducible intro hb)|(refine Xi ?_ ?_<;>try intro ht)|refine VD ?_ ?_|exact Xx|fail))<;>try with_reducible intro K hK)
   refine bc _ (j+1,_,o4.length+3,D4++[(o4.length+1,1)],S4++[[x]]) ⟨aad,hQ.lone (a:=1) (b:=3) (x:=x) (l:=[.var (av x),.arr 2 [av x],.arr 1 [[.ref (o4.length+1) 2 0 1]],.arr 1 (rowsOf bY D4++[[.ref (o4.length+1) 2 0 1]])]) rfl (by rw[<- Af];rfl),by simp only[aK,cf,gX];omega,?_⟩ aad ?_
   ·dsimp only;rw[pJ,I6,bn]
   ·exact Xv (X4 @av.eq_1 @aK.{0} @cf.{0} @gX.{0})
  ·((try revert hK K);(repeat'(first|refine Va X0 ?_|(refine V2 X0 ?_ ?_<;>try with_reducible intro hb)|(refine Xi ?_ ?_<;>try intro ht)|refine VD ?_ ?_|exact Xx|fail))<;>try with_reducible intro K hK)
   refine bz _ _ rfl ?_;clear bc bz dh;repeat(first|refine Xu ?_)
   ((try revert hK K);(repeat'(first|refine Va X0 ?_|(refine V2 X0 ?_ ?_<;>try with_reducible intro hb)|(refine Xi ?_ ?_<;>try intro ht)|refine VD ?_ ?_|exact Xx|fail))<;>try with_reducible intro K hK)
   have hjg:j=g.l.length:=Bv;refine an _ (n+1,o4,to4,D4,S4) ⟨aad,hQ,aad,?_⟩ aad (Xv X0);dsimp only;rw[ik,oI (by assumption),I6,Be,hjg,List.take_length,bn]
 have SR:=hm.opt _ (aF (l:=m.cls) (i:=c) (d:=default) sY);have cJ:=hf.2 c Bv;generalize bf:m.cls.getD c default=row at *;generalize eK:left.getD c default=lc at *;((try revert hK K);(repeat'(first|refine Va (X2 @bf @bw.eq_1) ?_|(refine V2 (X2 @bf @bw.eq_1) ?_ ?_<;>try with_reducible intro hb)|(refine Xi ?_ ?_<;>try intro ht)|refine VD ?_ ?_|exact Xx|fail))<;>try with_reducible intro K hK)
 refine aW (λz:Nat×Cz=>(⟨ao [(0,.ptr p 0 0),(1,.tree 1 (rowsOf bl left)),(5,.ref z.2.2.1.1 1 0 z.2.2.2.1.length),(6,.dP os.length),(7,.ref z.2.2.1.2 4 0 z.2.2.2.2.2.2.length),(8,aam c),(24,.tree 1 (rowsOf bw m.cls)),(25,aam m.cls.length),(26,aam c),(31,.tree 6 (rowsOf bG row)),(32,aam row.length),(33,aam z.1)],z.2.1⟩:St))
  (λz=>z.1<=row.length/\CB os os.length z.2.2.1.1 z.2.2.1.2 z.2.2.2.1 z.2.2.2.2.1 z.2.2.2.2.2.1 z.2.2.2.2.2.2 z.2.1/\k7 m (XP m left c z.1) z.2.2.2.2.1 z.2.2.2.2.2.1 z.2.2.2.2.2.2)
  (λz=>row.length-z.1) (0,ob,(to,tk),D,S,G,ks) ⟨aS _,hC,hG⟩ ?_ ?_
 ·exact Xv X0
 clear hC hG;rintro⟨i,ob,⟨to,tk⟩,D,S,G,ks⟩⟨hi,hC,hG⟩dh bc bz;dsimp only at hi hC hG ⊢;have eC:=λl=>(hC.app l);have fo:=hC.out;have fk:=hC.ni;have fm:=hC.mp;have eo:=aA fo;have ek:=aA fk;have em:=aA fm;have so:=fC fo;have sk:=fC fk;have sm:=fC fm;by_cases hi':i<row.length;rotate_left
 ·((try revert hK K);(repeat'(first|refine Va X0 ?_|(refine V2 X0 ?_ ?_<;>try with_reducible intro hb)|(refine Xi ?_ ?_<;>try intro ht)|refine VD ?_ ?_|exact Xx|fail))<;>try with_reducible intro K hK)
  refine bz _ _ rfl ?_;clear bc bz dh;repeat(first|refine Xu ?_)
  ((try revert hK K);(repeat'(first|refine Va X0 ?_|(refine V2 X0 ?_ ?_<;>try with_reducible intro hb)|(refine Xi ?_ ?_<;>try intro ht)|refine VD ?_ ?_|exact Xx|fail))<;>try with_reducible intro K hK)
  have u7:i=row.length:=Bv;refine an _ (c+1,ob,(to,tk),D,S,G,ks) ⟨aad,hC,by dsimp only;rw[Uo,bf,<- u7];exact hG⟩ aad (Xv X0)
 have c9:=adl m left c i;rw[eK]at c9;have rM:lc.getD i default=lc.getD i false:=rfl;have I8:iG m ((c:Int),(i:Int))=row.getD i default:=by
  unfold iG;dsimp only;rw[eu,eu,bf]
 have hwk:=hw ((c:Int),(i:Int));have Ex:gD m ((c:Int),(i:Int))=decide (0<=(row.getD i default).room/\0<(row.getD i default).wk):=by unfold gD;rw[I8]
 have qy:dI m ((c:Int),(i:Int))=[(row.getD i default).room,(row.getD i default).day,(row.getD i default).st,oZ (row.getD i default).wk]:=by unfold dI;rw[I8]
 rw[I8]at hwk;generalize cy:row.getD i default=o at *;generalize nU:lc.getD i false=is at *;cases is
 ·rw[if_neg Jy,List.append_nil]at c9;((try revert hK K);(repeat'(first|refine Va (X5 @cy @eK @nU @bl.eq_1 (X4 @bG.eq_1 @a8 @bn.{0} @aK.{0})) ?_|(refine V2 (X5 @cy @eK @nU @bl.eq_1 (X4 @bG.eq_1 @a8 @bn.{0} @aK.{0})) ?_ ?_<;>try with_reducible intro hb)|(refine Xi ?_ ?_<;>try intro ht)|refine VD ?_ ?_|exact Xx|fail))<;>try with_reducible intro K hK)
  refine bc _ (i+1,_,(to,tk),D,S,G,ks) ⟨aad,eC _,by dsimp only;rw[c9];exact hG⟩ aad (Xv X0)
 rw[if_pos rfl]at c9;have qG:=DJ hm.opt (left:=left) c i Bv Bv;have uY:D.length<=600:=by rw[hC.ri.len,hG.lone];have:=IY m (XP m left c i);omega
 have dS:ks.length<=600:=by rw[hG.keys];have:=Eo m (XP m left c i) [];simp only[gX]at this;omega
 by_cases uE:0<=o.room/\0<o.wk;rotate_left
 ·have hkf:gD m ((c:Int),(i:Int))=false:=by rw[Ex,decide_eq_false uE]
  have vc:=hG.none hkf;rw[<- c9]at vc;((try revert hK K);(repeat'(first|refine Va (X5 @fo @eo @so @cy (X5 @eK @nU @bl.eq_1 @bG.eq_1 (X3 @a8 @bn.{0} @aK.{0}))) ?_|(refine V2 (X5 @fo @eo @so @cy (X5 @eK @nU @bl.eq_1 @bG.eq_1 (X3 @a8 @bn.{0} @aK.{0}))) ?_ ?_<;>try with_reducible intro hb)|(refine Xi ?_ ?_<;>try intro ht)|refine VD ?_ ?_|exact Xx|fail))<;>try with_reducible intro K hK)
  all_goals
   refine bc _ (i+1,ob.set to .gone++[.var (bG o),.var [aam o.wk,aam o.day,aam o.st,aam o.len],.var (av (c,i)),.arr 2 [av (c,i)],.arr 1 [[.ref (ob.length+3) 2 0 1]],.arr 1 (rowsOf bY D++[[.ref (ob.length+3) 2 0 1]])],
    (ob.length+5,tk),D++[(ob.length+3,1)],S++[[((c:Int),(i:Int))]],G,ks) ⟨aad,hC.lone (a:=3) (b:=5) rfl (by rw[<- Af];rfl),vc⟩ aad ?_
   exact Xv (X3 @bG.eq_1 @av.eq_1 @aK.{0})
 have Uq:gD m ((c:Int),(i:Int))=true:=by rw[Ex,decide_eq_true uE]
 have IU:IntKind.u64.wrap o.wk=o.wk:=by
  rcases(show o.wk=1\/o.wk=2\/o.wk=3 by omega) with h|h|h<;>rw[h]<;>rfl
 have Ak:=Vv (IntKind.u64.wrap o.wk) (by rw[IU];omega);rw[show oZ (IntKind.u64.wrap o.wk)=oZ o.wk by rw[IU]]at Ak;have lO:=Es m (XP m left c i) (dI m ((c:Int),(i:Int)));rw[qy]at lO;have gf:=Ea 2 [o.room,o.day,o.st,oZ o.wk] G;generalize oZ o.wk=tz at *;have Ur:rowsOf ua ks++[[aam o.room,aam o.day,aam o.st,aam tz]]=rowsOf ua (ks++[[o.room,o.day,o.st,tz]]):=by simp[rowsOf,ua]
 cases jq:ej G [o.room,o.day,o.st,tz] with
 |none =>
  rw[jq]at gf;simp only[jf]at gf;have vc:=hG.first Uq (by rw[qy];exact jq) (ob.length+7);rw[qy,<- c9]at vc;have nX:Am.cS [o.room,o.day,o.st,tz] (.ref (ob.length+7) 2 0 1) (dM 2 G)=dM 2 (gV [o.room,o.day,o.st,tz] (ob.length+7) [((c:Int),(i:Int))] G):=A4 [o.room,o.day,o.st,tz] (ob.length+7) [((c:Int),(i:Int))] G;have pu:=λu v=>IE [o.room,o.day,o.st,tz] u v (dM 2 G);have il:=λu=>IF [o.room,o.day,o.st,tz] u (dM 2 G);have pY:=cZ (y:=.gone) fm fk (by intro e;cases e);have Us:=aA pY;have I9:=fC pY;have wK:=λy l=>aA (jI (y:=y) pY) l;have A3:=λy y' l=>fC (y:=y') (jI (y:=y) pY) l;have lP:=λ(l:List Ob) (k:Nat)=>jJ ob l tk k .gone;have Ut:∀ (Y:Ob) (l:List Ob) (k:Nat),((ob.set tk .gone).set os.length Y++l)[ob.length+k]?=l[k]?:=λY l k=>by
   rw[List.getElem?_append_right Jy,bm,bm,Nat.add_sub_cancel_left]
  ((try revert hK K);(repeat'(first|refine Vc (X5 @fo @eo @so @fk (X5 @ek @sk @fm @em (X5 @sm @pY @Us @I9 (X5 @wK @A3 @lP @Ut (X5 @pu @nX @Ur @cy (X5 @eK @nU @gf @bl.eq_1 (X5 @bG.eq_1 @a8 @oQ @nu.{0} (X5 @bn.{0} @aK.{0} @bm.{0} @qU.{0} (X2 @nt.{0} @yM.{0}))))))))) Ak ?_|(refine V2 (X5 @fo @eo @so @fk (X5 @ek @sk @fm @em (X5 @sm @pY @Us @I9 (X5 @wK @A3 @lP @Ut (X5 @pu @nX @Ur @cy (X5 @eK @nU @gf @bl.eq_1 (X5 @bG.eq_1 @a8 @oQ @nu.{0} (X5 @bn.{0} @aK.{0} @bm.{0} @qU.{0} (X2 @nt.{0} @yM.{0}))))))))) ?_ ?_<;>try with_reducible intro hb)|(refine Xi ?_ ?_<;>try intro ht)|refine VD ?_ ?_|exact Xx|fail))<;>try with_reducible intro K hK)
  ·exact yU.2 (il _)
  have Ey:=(hC.key (k:=[o.room,o.day,o.st,tz]) (b:=5) (l:=[.var (bG o),.var [aam o.wk,aam o.day,aam o.st,aam o.len],.var (av (c,i)),.var [aam o.room,aam o.day,aam o.st,aam tz],.arr 4 [[aam o.room,aam o.day,aam o.st,aam tz]],.arr 4 (rowsOf ua (ks++[[o.room,o.day,o.st,tz]]))]) rfl).first (k:=[o.room,o.day,o.st,tz]) (x:=((c:Int),(i:Int))) (b:=1) (l:=[.arr 2 [av (c,i)],.arr 2 [av (c,i)]]) rfl;simp only[I9,aK,bm,cf,gX,bn,ew,dx,Nat.zero_add,Nat.add_assoc,Nat.reduceAdd]at Ey;refine bc _ (i+1,_,(to,ob.length+5),D,S,_,_) ⟨aad,Ey,vc⟩ aad ?_;exact Xv (X5 @bG.eq_1 @av.eq_1 @aK.{0} @cf.{0} @gX.{0})
 |some g =>
  have Bi:=hG.aX [o.room,o.day,o.st,tz];rw[jq]at gf Bi;simp only[fN]at gf;dsimp only at Bi;rw[<- Bi.1]at lO;have dq:=hC.gr _ g jq;have eg:=aA dq;have sg:=fC dq;have nY:=λy:Ob=>cZ (y:=y) dq fm (by intro e;cases e);have u4:=λy l=>aA (nY y) l;have u5:=λy l z=>fC (nY y) l z;have j9:∀ L,((ob.set os.length (.mp 4 L)).set g.at_ .gone)[os.length]?=some (.mp 4 L):=λL=>cZ (jI fm) (nY _) (by intro e;cases e);have qO:=λL l=>aA (j9 L) l;have A6:g.at_≠os.length:=λe=>by rw[e,fm]at dq;cases dq
  have u6:∀ L Y l,(((ob.set os.length (.mp 4 L)).set g.at_ .gone)++l).set os.length Y=(ob.set g.at_ .gone).set os.length Y++l:=λL Y l=>by
   rw[fC (j9 L) l Y,E4 _ _ A6,nu,E4 _ _ A6.symm]
  have nX:Am.cS [o.room,o.day,o.st,tz] (.ref (ob.length+5) 2 0 (g.l.length+1)) (dM 2 G)=dM 2 (gV [o.room,o.day,o.st,tz] (ob.length+5) (g.l++[((c:Int),(i:Int))]) G):=by rw[<- A4,aK];rfl
  have l9:rowsOf av g.l++[[aam c,aam i]]=rowsOf av (g.l++[((c:Int),(i:Int))]):=by simp[rowsOf,av]
  have pu:=λu v=>IE [o.room,o.day,o.st,tz] u v (dM 2 G);have il:=λu=>IF [o.room,o.day,o.st,tz] u (dM 2 G);have lP:=λ(y:Ob) (l:List Ob) (k:Nat)=>jJ ob l os.length k y;have vc:=hG.more Uq (show ej G (dI m ((c:Int),(i:Int)))=some g by rw[qy];exact jq) (ob.length+5);rw[qy,<- c9]at vc;repeat'(first|((fail_if_success (first|refine gx 12 ?_|refine gy 12 ?_));refine Xq (X5 @fo @eo @so @fk (X5 @ek @sk @fm @em (X5 @sm @dq @eg @sg (X5 @nY @u4 @u5 @j9 (X5 @qO @u6 @lP @pu (X5 @nX @l9 @cy @eK (X5 @nU @gf @bl.eq_1 @bG.eq_1 (X5 @a8 @oQ @nu.{0} @bn.{0} (X5 @aK.{0} @bm.{0} @dE.{0} @nt.{0} @vf.{0}))))))))) ?_;intro K hK)|refine Xo (X5 @fo @eo @so @fk (X5 @ek @sk @fm @em (X5 @sm @dq @eg @sg (X5 @nY @u4 @u5 @j9 (X5 @qO @u6 @lP @pu (X5 @nX @l9 @cy @eK (X5 @nU @gf @bl.eq_1 @bG.eq_1 (X5 @a8 @oQ @nu.{0} @bn.{0} (X5 @aK.{0} @bm.{0} @dE.{0} @nt.{0} @vf.{0}))))))))) ?_|refine Xc (Ak) ?_|(refine hK _ ?_;clear hK K)|(refine Xg (X5 @fo @eo @so @fk (X5 @ek @sk @fm @em (X5 @sm @dq @eg @sg (X5 @nY @u4 @u5 @j9 (X5 @qO @u6 @lP @pu (X5 @nX @l9 @cy @eK (X5 @nU @gf @bl.eq_1 @bG.eq_1 (X5 @a8 @oQ @nu.{0} @bn.{0} (X5 @aK.{0} @bm.{0} @dE.{0} @nt.{0} @vf.{0}))))))))) ?_ ?_<;>try intro hb)|(refine Xi ?_ ?_<;>try intro ht)|refine Xy ?_|refine Xd ?_ ?_|exact Xx|fail)
  refine aci 3 aac _ rfl ?_;intro K hK;simp(disch:=omega)only[Ac,↓Pc,simprocAttr,jg,fW,fm,em,gf,oQ,D9,a8];refine⟨g.at_,2,0,g.l.length,2,_,rfl,?_,eg _,?_⟩
  ·rw[Bi.1];exact BI.2 Bi.2
  refine hK _ ?_;clear hK K;((try revert hK K);(repeat'(first|refine Va (X5 @fo @eo @so @fk (X5 @ek @sk @fm @em (X5 @sm @dq @eg @sg (X5 @nY @u4 @u5 @j9 (X5 @qO @u6 @lP @pu (X5 @nX @l9 @cy @eK (X5 @nU @gf @bl.eq_1 @bG.eq_1 (X5 @a8 @oQ @nu.{0} @bn.{0} (X5 @aK.{0} @bm.{0} @dE.{0} @nt.{0} @vf.{0}))))))))) ?_|(refine V2 (X5 @fo @eo @so @fk (X5 @ek @sk @fm @em (X5 @sm @dq @eg @sg (X5 @nY @u4 @u5 @j9 (X5 @qO @u6 @lP @pu (X5 @nX @l9 @cy @eK (X5 @nU @gf @bl.eq_1 @bG.eq_1 (X5 @a8 @oQ @nu.{0} @bn.{0} (X5 @aK.{0} @bm.{0} @dE.{0} @nt.{0} @vf.{0}))))))))) ?_ ?_<;>try with_reducible intro hb)|(refine Xi ?_ ?_<;>try intro ht)|refine VD ?_ ?_|exact Xx|fail))<;>try with_reducible intro K hK)
  ·exact yU.2 (il _)
  have Ey:=hC.more jq (x:=((c:Int),(i:Int))) (b:=5) (l:=[.var (bG o),.var [aam o.wk,aam o.day,aam o.st,aam o.len],.var (av (c,i)),.var [aam o.room,aam o.day,aam o.st,aam tz],.arr 2 [av (c,i)],.arr 2 (rowsOf av (g.l++[((c:Int),(i:Int))]))]) rfl;refine bc _ (i+1,_,(to,tk),D,S,_,_) ⟨aad,Ey,vc⟩ aad ?_;exact Xv (X5 @bG.eq_1 @av.eq_1 @aK.{0} @cf.{0} @gX.{0})
def ub(v:Int):List Int->Int->Int
 |[],_=>-1
 |x::r,k=>if v=x then k else ub v r (k+1)
def Uu(v:Int):∀ (l:List Int) (k:Int),0<=k->(0<=ub v l k↔v∈l)
 |[],k,hk=>by simp[ub]
 |x::r,k,hk=>by
  rw[ub];split
  ·rename_i h;simp[h,hk]
  ·rename_i h;rw[Uu v r (k+1) Bv];simp[h]
def ado(l:List Int)(v:Int)(hl:l.length<9223372036854775808):ak Tryz.prog 69 [.tree 1 (ints l),aam v] [] (aam (ub v l 0)) []:=by
 generalize aq:ub v l 0=res;refine ak.aL 19 0 [.tmp 4] Tryz.func69 ?_;repeat'(first|(refine Xr X0 ?_;intro K hK)|(refine hK _ ?_;clear hK K)|refine Xz ?_|fail)
 refine aW (λk:Nat=>(⟨ao [(0,.tree 1 (ints l)),(1,aam v),(7,aam l.length),(8,aam k)],[]⟩:St)) (λk=>k<=l.length/\ub v (l.drop k) k=res) (λk=>l.length-k) 0 ⟨aS _,aq⟩ (Xv X0) ?_;rintro k⟨hk,hr⟩Ql an aw;by_cases aY:k<l.length
 ·have hd:=dL l k 0 aY;generalize bC:l.getD k 0=x at *;rw[hd,ub]at hr;((repeat'(first|refine Va @bC ?_|(refine Xi ?_ ?_<;>try intro ht)|exact Xx|fail)))
  ·rw[if_pos (by assumption)]at hr;repeat(refine Xu ?_)
   refine Vb X0 ?_;rw[<- hr];exact pW rfl
  ·rw[if_neg (by assumption)]at hr;exact an _ (k+1) ⟨Bv,hr⟩ Bv (Xv X0)
 ·((repeat'(first|refine Va X0 ?_|(refine Xi ?_ ?_<;>try intro ht)|exact Xx|fail)))
  rw[List.drop_eq_nil_of_le Bv,ub]at hr;refine aw _ _ rfl ?_;clear an aw Ql;repeat(refine Xu ?_)
  refine Vb X0 ?_;rw[<- hr];exact pW rfl
def I'(l:List Int)(v:Int)(hl:l.length<9223372036854775808):ak Tryz.prog 29 [.tree 1 (ints l),aam v] [] (.lit (.bool (l.contains v))) []:=by
 have h:=Uu v l 0 Bv;refine ak.aL 9 0 [.tmp 4] Tryz.func29 ?_;repeat'(first|(refine Xq X0 ?_;intro K hK)|refine Xo X0 ?_|refine Xc (ado l v hl) ?_|(refine hK _ ?_;clear hK K)|refine Xz ?_|(refine Xe ?_;first|refine aQ rfl ?_|refine Xl ?_ ?_)|fail)
 rw[<- List.contains_iff_mem]at h;cases hb:l.contains v<;>rw[hb]at h
 ·rw[decide_eq_false (by simpa using h)]
 ·rw[decide_eq_true (by simpa using h)]
def adp(a:List bF)(b:List Bool):ak Tryz.prog 65 [.tree 6 (rowsOf bG a),.tree 1 (b8 b)] [] (.lit (.bool (decide (a.length=b.length)))) []:=by
 refine ak.aL 10 0 [.tmp 4] Tryz.func65 ?_;((try revert hK K);(repeat'(first|refine Vb X0 ?_|(refine V2 X0 ?_ ?_<;>try with_reducible intro hb)|(refine Xi ?_ ?_<;>try intro ht)|refine VD ?_ ?_|exact Xx|fail))<;>try with_reducible intro K hK)
 rw[show((a.length:Int)==(b.length:Int))=decide (a.length=b.length) by rw[Bool.eq_iff_iff,beq_iff_eq,decide_eq_true_eq];omega];exact pW rfl
def acF(G:List Int)(hG:G.length<1000000)(x:Int×Int):ak Tryz.prog 28 [.agg (av x),.ptr 0 0 0] [.var [.tree 1 (ints G)]] (.lit (.bool (!iH G x))) [.var [.tree 1 (ints G)]]:=by
 have h1:=I' G x.1 Bv;rw[show G.contains x.1=iH G x from rfl]at h1;generalize iH G x=b at *;refine ak.aL 9 1 [.tmp 3] Tryz.func28 ?_;((try revert hK K);(repeat'(first|refine Vd @av.eq_1 h1 ?_|(refine V2 @av.eq_1 ?_ ?_<;>try with_reducible intro hb)|(refine Xi ?_ ?_<;>try intro ht)|refine VD ?_ ?_|exact Xx|fail))<;>try with_reducible intro K hK)
 exact Xw false [0] X0
def acZ(a b:List (Int×Int))(han:a≠[])(wL:b≠[]):ak Tryz.prog 31 [.tree 2 (rowsOf av a),.tree 2 (rowsOf av b)] [] (aam (mM [gJ (cR a).1 (cR b).1,gJ (cR a).2 (cR b).2])) []:=by
 have h1:=BY (cR a).1 (cR b).1;have h2:=BY (cR a).2 (cR b).2;have h3:=Fg [gJ (cR a).1 (cR b).1,gJ (cR a).2 (cR b).2] Jy;have la:(rowsOf av a).length=a.length:=by simp[rowsOf]
 have lb:(rowsOf av b).length=b.length:=by simp[rowsOf]
 have pa:=BI.2 han;have pb:=BI.2 wL;generalize mM [gJ (cR a).1 (cR b).1,gJ (cR a).2 (cR b).2]=z at *;generalize gJ (cR a).1 (cR b).1=u at *;generalize gJ (cR a).2 (cR b).2=v at *;unfold cR at h1 h2;generalize Uv:a.getD 0 default=x at *;generalize Ux:b.getD 0 default=y at *;refine ak.aL 25 0 [.tmp 4] Tryz.func31 ?_;((try revert hK K);(repeat'(first|refine Vd (X5 @Uv @Ux @la @lb @av.eq_1) (X2 h1 h2) ?_|(refine V2 (X5 @Uv @Ux @la @lb @av.eq_1) ?_ ?_<;>try with_reducible intro hb)|(refine Xi ?_ ?_<;>try intro ht)|refine VD ?_ ?_|exact Xx|fail))<;>try with_reducible intro K hK)
 refine sP [] h3 aac trivial ⟨bt.bV rfl (lh _) rfl aac (o9 _),trivial⟩ rfl Jy ?_;((try revert hK K);(repeat'(first|refine Vb X0 ?_|(refine V2 X0 ?_ ?_<;>try with_reducible intro hb)|(refine Xi ?_ ?_<;>try intro ht)|refine VD ?_ ?_|exact Xx|fail))<;>try with_reducible intro K hK)
 exact pW rfl
def adr(cls:List (List bF))(left:List (List Bool))(hl:cls.length<1000000):ak Tryz.prog 64 [.tree 1 (rowsOf bw cls),.tree 1 (rowsOf bl left),.fn 65 []] [] (.lit (.bool (decide (left.length=cls.length/\∀ i,i<left.length->(left.getD i default).length=(cls.getD i default).length)))) []:=by
 generalize aq:decide (left.length=cls.length/\∀ i,i<left.length->(left.getD i default).length=(cls.getD i default).length)=res;refine ak.aL 32 0 [.tmp 6] Tryz.func64 ?_;repeat'(first|(refine Xr X0 ?_;intro K hK)|refine Xo X0 ?_|(refine hK _ ?_;clear hK K)|(refine Xg X0 ?_ ?_<;>try intro hb)|(refine Xi ?_ ?_<;>try intro ht)|refine Xz ?_|refine Xh ?_|(refine Xe ?_;first|refine aQ rfl ?_|refine Xl ?_ ?_)|refine Xd ?_ ?_|exact Xx|fail)
 ·rw[<- aq,decide_eq_false (λh=>Bv)]
 refine aW (λk:Nat=>(⟨ao [(1,.tree 1 (rowsOf bl left)),(2,.fn 65 []),(15,.tree 1 (rowsOf bw cls)),(16,aam cls.length),(17,aam k)],[]⟩:St)) (λk=>k<=cls.length/\∀ i,i<k->(left.getD i default).length=(cls.getD i default).length) (λk=>cls.length-k) 0 ⟨aS _,by intro i hi;exact absurd hi (ns _)⟩ (Xv X0) ?_;rintro k⟨hk,fS⟩Ql an aw;by_cases aY:k<cls.length
 ·have h1:=adp (cls.getD k default) (left.getD k default);generalize Bj:decide ((cls.getD k default).length=(left.getD k default).length)=b1 at *;generalize br:cls.getD k default=x at *;generalize kC:left.getD k default=y at *;((try revert hK K);(repeat'(first|refine Vd (X4 @br @kC @bw.eq_1 @bl.eq_1) h1 ?_|(refine V2 (X4 @br @kC @bw.eq_1 @bl.eq_1) ?_ ?_<;>try with_reducible intro hb)|(refine Xi ?_ ?_<;>try intro ht)|refine VD ?_ ?_|exact Xx|fail))<;>try with_reducible intro K hK)
  ·have hlen:left.length=cls.length:=Bv;have:res=false:=by
    rw[<- aq];refine decide_eq_false λh=>?_;have h2:=h.2 k Bv;rw[br,kC]at h2;rw[ht]at Bj;exact of_decide_eq_false Bj h2.symm
   rw[this];exact pW rfl
  ·refine an _ (k+1) ⟨Bv,λi hi=>?_⟩ Bv (Xv X0);by_cases RC:i=k
   ·rw[ht]at Bj;rw[RC,br,kC];exact(of_decide_eq_true Bj).symm
   ·exact fS i Bv
 ·((try revert hK K);(repeat'(first|refine Vb X0 ?_|(refine V2 X0 ?_ ?_<;>try with_reducible intro hb)|(refine Xi ?_ ?_<;>try intro ht)|refine VD ?_ ?_|exact Xx|fail))<;>try with_reducible intro K hK)
  have hlen:left.length=cls.length:=Bv;have:res=true:=by rw[<- aq];exact decide_eq_true ⟨hlen,λi hi=>fS i Bv⟩
  rw[this];exact pW rfl
def ack(m:ah)(left:List (List Bool))(hl:m.cls.length<1000000):ak Tryz.prog 25 [.agg (aB m),.tree 1 (rowsOf bl left)] [] (.lit (.bool (decide (iP m left)))) []:=by
 have h1:=adr m.cls left hl;rw[show decide (left.length=m.cls.length/\∀ i,i<left.length->(left.getD i default).length=(m.cls.getD i default).length)=decide (iP m left) from by congr 1]at h1;generalize decide (iP m left)=b at *;refine ak.aL 9 0 [.tmp 4] Tryz.func25 ?_;((try revert hK K);(repeat'(first|refine Vd @aB.eq_1 h1 ?_|(refine V2 @aB.eq_1 ?_ ?_<;>try with_reducible intro hb)|(refine Xi ?_ ?_<;>try intro ht)|refine VD ?_ ?_|exact Xx|fail))<;>try with_reducible intro K hK)
 exact pW rfl
end T

