import Derived.Test.YtfoopmojjjpapaaGreatX22
import Derived.Test.YtfoopmojjjpapaaGreatX29
set_option linter.all false
set_option maxHeartbeats 0
set_option maxRecDepth 20000
open List renaming getElem?_eq_some_iff→aR,getD_cons_succ→fq,getD_eq_getElem?_getD→ax,getElem?_map→bV,getElem?_eq_getElem→bq,getElem?_eq_none→fl,getElem?_cons_succ→r9,length_set→bw,getElem?_set→bP,length→kC,length_replicate→nt,replicate→aO,replicate_zero→IY,append_assoc→bz,length_append→bL
open Option renaming some→cy,map_some→gF
open Nat renaming le_refl→aX,zero_le→aW,sub_self→kW
open Int renaming toNat_natCast→cY
open Go Go.Am Go.Proofs
namespace T
def ec.ai4{D:List (Nat×Nat)}{S:List (List Bool)}{os:List Ob}{oi:Nat}(h:ec [(oi,.arr 1 (rowsOf uP D))] D S os)(e:Nat->AV):
  nD 0 ⟨e,os⟩ (.ref oi 1 0 S.length) (.ref 0 1 0 S.length) (.arr 1 (jQ 1 S)::tD S):=by
 have hd:=h.len;have h1:=h.base (oi,.arr 1 (rowsOf uP D)) IM;dsimp only at h1;have hl:∀ i∈oi::D.map (·.1),i<os.length:=λi hi=>by
  rcases List.mem_cons.1 hi with rfl|hi
  ·exact(aR.1 h1).1
  obtain⟨q,hq,rfl⟩:=List.mem_map.1 hi;obtain⟨k,hk,rfl⟩:=List.mem_iff_getElem.1 hq;have h3:=(h.row k hk).1;have a1:D.getD k default=D[k]:=by simp[hk]
  rw[a1]at h3;exact(aR.1 h3).1
 have Mk:∀ j,j<S.length->bC os.length (oi::D.map (·.1)) (1+j)=(D.getD j default).1:=λj hj=>by
  unfold bC;rw[if_pos N0,show 1+j=j+1 by omega,fq,ax,bV,ax,bq AT];rfl
 refine⟨oi::D.map (·.1),false,by simpa using h.nd,by simp[HP,hd],λj o hj=>.inr ?_,hl,IM,λi hi=>AT,.eq ?_⟩
 ·match j with
  |0 =>
   simp only[List.getElem?_cons_zero,cy.injEq]at hj;subst hj;refine h1.trans (congrArg some ?_);rw[bM];refine congrArg _ (List.ext_getElem? λi=>?_);rw[bV];by_cases hi:i<S.length
   ·rw[V7 h hi,Dp 1 S i hi,gF,List.map_cons,List.map_nil,bj,Mk i hi]
   ·rw[fl (by simp[rowsOf];omega),fl (by rw[Dq];omega)];rfl
  |j+1 =>
   simp only[r9]at hj;have gy:j<S.length:=by have:=(aR.1 hj).1;rwa [HP]at this
   have h3:=(h.row j AT).1;unfold tD at hj;rw[bV,bq gy]at hj;simp only[gF,cy.injEq]at hj;subst hj;rw[A6];have e1:(oi::D.map (·.1)).getD (j+1) 0=(D.getD j default).1:=by
    rw[fq,ax,bV,ax,bq AT];rfl
   have e2:S.getD j default=S[j]:=by rw[ax,bq gy];rfl
   rw[e1,<- e2];exact h3
 ·rw[bj];have:bC os.length (oi::D.map (·.1)) 0=oi:=by unfold bC;rw[if_pos IM];rfl
  rw[this]
def s6(x y:Ob)(A:List (List AV))(Y:List (List Bool)):List Ob:=x::nO y A Y
def Rn(x y:Ob)(A:List (List AV)){Y:List (List Bool)}{i:Nat}(h:i<Y.length):(s6 x y A Y)[3+i]?=some (.arr 1 (a8 (Y.getD i default))):=by
 unfold s6;rw[show 3+i=2+i+1 by omega,r9];exact nOk y A h
def aes(x y:Ob)(A:List (List AV))(Y:List (List Bool))(i:Nat)(r:List Bool):(s6 x y A Y).set (3+i) (.arr 1 (a8 r))=s6 x y A (Y.set i r):=by
 unfold s6;rw[show 3+i=2+i+1 by omega,List.set_cons_succ,nOs]
def s8(x y:Ob)(A:List (List AV))(Y:List (List Bool)):(s6 x y A Y)[0]?=some x:=rfl
def aev(x y:Ob)(A:List (List AV))(Y:List (List Bool)):(s6 x y A Y)[1]?=some y:=rfl
def zQ(x y:Ob)(A:List (List AV))(Y:List (List Bool)):(s6 x y A Y)[2]?=some (.arr 1 A):=rfl
def qE(r:List Bool)(p:Int):Nat->List Bool
 |0=>r
 |k+1=>(qE r p k).set k ((k:Int)==p)
def iM(S:List (List Bool))(P:List Int):Nat->List (List Bool)
 |0=>S
 |i+1=>(iM S P i).set i (qE ((iM S P i).getD i default) (P.getD i 0) ((iM S P i).getD i default).length)
def wO(m:ah)(P:List Int):List (List Bool):=iM (cu m) P m.cls.length
def Ga(r:List Bool)(p:Int):∀ k,(qE r p k).length=r.length
 |0=>rfl
 |k+1=>by rw[qE,bw,Ga r p k]
def ZT(r:List Bool)(p:Int)(j:Nat):∀ k,k<=r.length->(qE r p k).getD j false=if j<k then((j:Int)==p) else r.getD j false
 |0,_=>by rw[if_neg AT];rfl
 |k+1,h=>by
  rw[qE,ax,bP];by_cases e:k=j
  ·subst e;rw[if_pos rfl,if_pos (by rw[Ga];omega),if_pos AT];rfl
  ·rw[if_neg e,<- ax,ZT r p j k AT];by_cases e2:j<k
   ·rw[if_pos e2,if_pos AT]
   ·rw[if_neg e2,if_neg AT]
def Dl(S:List (List Bool))(P:List Int):∀ i,(iM S P i).map kC=S.map kC
 |0=>rfl
 |i+1=>by
  rw[iM,List.map_set,Ga];rcases Nat.lt_or_ge i (iM S P i).length with h|h
  ·have e:((iM S P i).getD i default).length=((iM S P i).map kC).getD i default:=by rw[gR _ _ _ h]
   rw[e,yi];exact Dl S P i
  ·rw[List.set_eq_of_length_le (by simpa using h)];exact Dl S P i
def F9(S:List (List Bool))(P:List Int)(j:Nat):∀ i,i<=S.length->(iM S P i).getD j default=if j<i then qE (S.getD j default) (P.getD j 0) (S.getD j default).length else S.getD j default
 |0,_=>by rw[if_neg AT];rfl
 |i+1,h=>by
  have hl:(iM S P i).length=S.length:=by have:=congrArg kC (Dl S P i);simpa using this
  have ih:=F9 S P i i AT;rw[if_neg AT]at ih;rw[iM,ih,ax,bP];by_cases e:i=j
  ·subst e;rw[if_pos rfl,if_pos AT,if_pos AT];rfl
  ·rw[if_neg e,<- ax,F9 S P j i AT];by_cases e2:j<i
   ·rw[if_pos e2,if_pos AT]
   ·rw[if_neg e2,if_neg AT]
def ZU{m:ah}{P:List Int}(hp:FP m P):BF m (wO m P) P:=by
 intro i hi j;have j5:(cu m).length=m.cls.length:=by simp[cu]
 have hr:((cu m).getD i default).length=(m.cls.getD i default).length:=by
  unfold cu;rw[gR _ _ _ hi,nt]
 unfold wO;rw[F9 _ _ _ _ AT,if_pos hi,ZT _ _ _ _ (aX _)];have hg:=iN.1 (hp.get i (by rw[hp.len];exact hi));rw[cY]at hg;by_cases hj:j<((cu m).getD i default).length
 ·rw[if_pos hj];rw[show((j:Int)==P.getD i 0)=decide ((j:Int)=P.getD i 0) from rfl];apply decide_eq_decide.2;omega
 ·rw[if_neg hj,ax,fl AT];rw[decide_eq_false AT];rfl
def Dk{m:ah}{P:List Int}:cp m (wO m P):=by
 have j5:(cu m).length=m.cls.length:=by simp[cu]
 have h1:=Dl (cu m) P m.cls.length;have hl:=congrArg kC h1;simp only[List.length_map]at hl;unfold wO;refine⟨AT,λi hi=>?_⟩;have h2:((iM (cu m) P m.cls.length).map kC).getD i default=((cu m).map kC).getD i default:=by rw[h1]
 rw[gR _ _ _ hi,gR _ _ _ AT]at h2;rw[h2];unfold cu;rw[gR _ _ _ AT,nt]
def iC(f:List Int->Int×List Int)(c:Nat)(row:List Bool)(P:List Int):Nat->Int×List Int
 |0=>(1099511627776,P)
 |k+1=>if row.getD k false=true then(min (iC f c row P k).1 (f ((iC f c row P k).2.set c (k:Int))).1,(f ((iC f c row P k).2.set c (k:Int))).2) else iC f c row P k
def eQ(m:ah)(left:List (List Bool)):Nat->List Int->Int×List Int
 |0,P=>((b6 m (wO m P) []).1,P)
 |d+1,P=>iC (eQ m left d) (m.cls.length-(d+1)) (left.getD (m.cls.length-(d+1)) default) P (m.cls.getD (m.cls.length-(d+1)) default).length
def Bx(m:ah)(left:List (List Bool)):Int:=(eQ m left m.cls.length (aO m.cls.length 0)).1
def Dr{f:List Int->Int×List Int}{n:Nat}(hf:∀ P,P.length=n->(f P).2.length=n)(c:Nat)(row:List Bool){P:List Int}(hP:P.length=n):∀ k,(iC f c row P k).2.length=n
 |0=>hP
 |k+1=>by
  rw[iC];split
  ·exact hf _ (by rw[bw];exact Dr hf c row hP k)
  ·exact Dr hf c row hP k
def Gb(m:ah)(left:List (List Bool)){n:Nat}:∀ (d:Nat) (P:List Int),P.length=n->(eQ m left d P).2.length=n
 |0,P,h=>h
 |d+1,P,h=>by
  rw[eQ];exact Dr (λP hP=>Gb m left d P hP) _ _ h _
def aem{m:ah}{x:List (List Bool)}(hm:VM m)(h:cp m x):BB x:=by
 have hc:=hm.cls;refine⟨by have:=h.1;omega,λr hr=>?_⟩;obtain⟨i,hi,rfl⟩:=List.getElem_of_mem hr;have h2:=h.2 i hi;have h3:=hm.opt _ (aE (l:=m.cls) (i:=i) (d:=default) (by have:=h.1;omega));rw[ax,bq hi,Option.getD_some]at h2;omega
def ZV{m:ah}{x:List (List Bool)}{l:List Mv}(hm:VM m)(hf:cp m x)(hl:l.length<=12)(hb:∀ y∈l,il m y=true):b6 m x l=(kk m x (iF m l (S0 m,T0 m)),0):=by
 unfold b6 jH fZ;rw[if_neg (by rw[if_neg (by rw[jD.2 hm];simp),if_pos hf];simp),if_neg AT,if_neg (by rw[List.all_eq_true.2 hb];simp)]
structure vT(m:ah)(left:List (List Bool))(c:Nat)(P:List Int):Prop where
 len:P.length=m.cls.length
 get:∀ j,j<c->(0<=P.getD j 0/\P.getD j 0<(m.cls.getD j default).length)/\(left.getD j default).getD (P.getD j 0).toNat false=true
def vT.agree{m:ah}{left:List (List Bool)}{c:Nat}{P Q:List Int}(h:vT m left c P)(hl:Q.length=m.cls.length)(hk:∀ j,j<c->Q.getD j 0=P.getD j 0):vT m left c Q :=
 ⟨hl,λj hj=>by rw[hk j hj];exact h.get j hj⟩
def HW(P:List Int)(c j:Nat)(v:Int)(h:j≠c):(P.set c v).getD j 0=P.getD j 0:=by
 rw[ax,List.getElem?_set_ne (Ne.symm h),<- ax]
def vT.put{m:ah}{left:List (List Bool)}{c:Nat}{P:List Int}(h:vT m left c P)(hc:c<m.cls.length){k:Nat}(hk:k<(m.cls.getD c default).length)(hb:(left.getD c default).getD k false=true):vT m left (c+1) (P.set c (k:Int)):=by
 refine⟨by rw[bw];exact h.len,λj hj=>?_⟩;by_cases e:j=c
 ·subst e;have e2:(P.set j (k:Int)).getD j 0=(k:Int):=by rw[ax,bP];simp[h.len,hc]
  rw[e2];exact⟨⟨AT,AT⟩,by rw[cY];exact hb⟩
 ·rw[HW _ _ _ _ e];exact h.get j AT
def vT.full{m:ah}{left:List (List Bool)}{P:List Int}(h:vT m left m.cls.length P):FP m P/\uz m left P:=by
 refine⟨⟨h.len,λj hj=>?_⟩,λi hi=>(h.get i hi).2⟩;rw[h.len]at hj;have:=h.get j hj;exact iN.2 ⟨AT,AT,this.1.1,by rw[cY];exact this.1.2⟩
def HX{f:List Int->Int×List Int}{c j:Nat}(hj:j<c)(row:List Bool)(P:List Int)(hf:∀ Q,(f Q).2.getD j 0=Q.getD j 0):∀ k,(iC f c row P k).2.getD j 0=P.getD j 0
 |0=>rfl
 |k+1=>by
  rw[iC];split
  ·dsimp only;rw[hf,HW _ _ _ _ AT];exact HX hj row P hf k
  ·exact HX hj row P hf k
def MP(m:ah)(left:List (List Bool)):∀ (d:Nat) (P:List Int) (j:Nat),j+d<m.cls.length->(eQ m left d P).2.getD j 0=P.getD j 0
 |0,P,j,h=>rfl
 |d+1,P,j,h=>by
  rw[eQ];exact HX AT _ _ (λQ=>MP m left d Q j AT) _
section
variable {m:ah} {left:List (List Bool)} (hm:VM m) {b:Int} (hb:b<=1099511627776) (hP:∀ plan,FP m plan->uz m left plan->b<=pz (rK m plan) 0)
include hm hb hP
def ZW:∀ (d c:Nat) (P:List Int),c+d=m.cls.length->vT m left c P->b<=(eQ m left d P).1
 |0,c,P,hc,h=>by
  rw[Nat.add_zero]at hc;subst hc;obtain⟨h1,h2⟩:=h.full;rw[eQ];dsimp only;rw[ZV hm Dk IP IM];dsimp only;rw[Gq hm h1 _ Dk (ZU h1) [] IM];exact hP P h1 h2
 |d+1,c,P,hc,h=>by
  have e:m.cls.length-(d+1)=c:=AT;rw[eQ,e];have key:∀ k,k<=(m.cls.getD c default).length->b<=(iC (eQ m left d) c (left.getD c default) P k).1/\vT m left c (iC (eQ m left d) c (left.getD c default) P k).2:=by
   intro k
   induction k with
   |zero=>intro _;exact⟨hb,h⟩
   |succ k ih =>
    intro hk;obtain⟨i1,i2⟩:=ih AT;rw[iC];split
    ·rename_i hr;have h3:=i2.put AT (k:=k) AT hr;have h4:=ZW d (c+1) _ AT h3;refine⟨NZ,?_⟩;dsimp only;refine i2.agree (Gb m left d _ h3.len) λj hj=>?_;rw[MP m left d _ j AT,HW _ _ _ _ AT]
    ·exact⟨i1,i2⟩
  exact(key _ (aX _)).1
def ai5:b<=Bx m left:=ZW hm hb hP m.cls.length 0 _ AT ⟨IM,λj hj=>absurd hj (Nat.not_lt_zero _)⟩
end
def aej(m:ah)(bG:VM m):Holds Tryz.prog 12 [.agg (aq m)] [] (.ref 0 1 0 m.cls.length) (.arr 1 (jQ 1 (cu m))::tD (cu m)):=by
 have h1:=F8 m bG.mb;rw[jD.2 bG]at h1;have mY:=bG.cls;have j5:(cu m).length=m.cls.length:=by simp[cu]
 refine Holds.aN 38 0 [.tmp 2] Tryz.func12 ?_;((try revert hK K);(repeat'(first|refine Vd @bne_self_eq_false.{0} h1 ?_|(refine V2 @bne_self_eq_false.{0} ?_ ?_<;>try with_reducible intro hb)|(refine Xi ?_ ?_<;>try intro ht)|refine VD ?_ ?_|exact Xx|fail))<;>try with_reducible intro K hK)
 refine bb (λz:Nat×List Ob×Nat×List (Nat×Nat)=>(⟨ao [(1,.ptr 0 0 0),(3,.ref z.2.2.1 1 0 z.2.2.2.length),(4,Oi z.1)],z.2.1⟩:St))
  (λz=>z.1<=m.cls.length/\ec [(z.2.2.1,.arr 1 (rowsOf uP z.2.2.2)),(0,.var (aq m))] z.2.2.2 ((cu m).take z.1) z.2.1) (λz=>m.cls.length-z.1)
  (0,[.var (aq m),.arr 1 []],1,[]) ⟨aW _,by simp[rowsOf],rfl,IM,(show([1,0]:List Nat).Nodup by decide)⟩ ?_ ?_
 ·refine aF.trans (aF.nil 3 1 (by simp only[Kc,simprocAttr]) IP) ?_;exact Xv X0
 rintro⟨i,os,oi,D⟩⟨hi,hB⟩Ql ak au;dsimp only at hi hB ⊢;have Hp:D.length=i:=by rw[hB.len,List.length_take];omega
 have fo:=hB.b0;have fm:=hB.b1;dsimp only at fm fo;by_cases ar:i<m.cls.length
 ·have eM:(cu m).take (i+1)=(cu m).take i++[aO (m.cls.getD i default).length true]:=by
   rw[ei AT];unfold cu;rw[gR _ _ _ ar]
  have qD:=bG.opt _ (aE (d:=default) ar);generalize bc:m.cls.getD i default=c at *;((try revert hK K);(repeat'(first|refine Va (X3 @fm @bc @aV.eq_1) ?_|(refine V2 (X3 @fm @bc @aV.eq_1) ?_ ?_<;>try with_reducible intro hb)|(refine Xi ?_ ?_<;>try intro ht)|refine VD ?_ ?_|exact Xx|fail))<;>try with_reducible intro K hK)
  refine bb (λk:Nat=>(⟨ao [(1,.ptr 0 0 0),(3,.ref oi 1 0 D.length),(4,Oi i),(5,.ref os.length 1 0 c.length),(6,Oi k)],os++[.arr 1 (a8 (aO k true++aO (c.length-k) false))]⟩:St))
   (λk=>k<=c.length) (λk=>c.length-k) 0 (aW _) (by simp only[Nat.sub_zero,IY,List.nil_append];exact Xv X0) ?_
  rintro k hk dL bO bQ;have cF:(aO k true++aO (c.length-k) false).length=c.length:=N0;by_cases bf:k<c.length
  ·have gQ:(aO k true++aO (c.length-k) false).set k true=aO (k+1) true++aO (c.length-(k+1)) false:=by
    rw[List.set_append_right _ _ IM,nt,kW,show c.length-k=(c.length-(k+1))+1 by omega,List.replicate_succ,List.set_cons_zero,List.replicate_succ',bz];rfl
   ((try revert hK K);(repeat'(first|refine Va (X3 @cF @wy @bH) ?_|(refine V2 (X3 @cF @wy @bH) ?_ ?_<;>try with_reducible intro hb)|(refine Xi ?_ ?_<;>try intro ht)|refine VD ?_ ?_|exact Xx|fail))<;>try with_reducible intro K hK)
   rw[gQ];exact bO _ (k+1) AT AT (Xv X0)
  ·obtain rfl:k=c.length:=AT;((try revert hK K);(repeat'(first|refine Va (X2 @cF @bH) ?_|(refine V2 (X2 @cF @bH) ?_ ?_<;>try with_reducible intro hb)|(refine Xi ?_ ?_<;>try intro ht)|refine VD ?_ ?_|exact Xx|fail))<;>try with_reducible intro K hK)
   refine bQ _ _ rfl ?_;clear bO bQ dL;repeat(first|refine Xu ?_)
   rw[kW,IY,List.append_nil]at *;have ZX:ec [(oi,.arr 1 (rowsOf uP D)),(0,.var (aq m))] (D++[(os.length,c.length)]) ((cu m).take (i+1)) (os++[.arr 1 (a8 (aO c.length true))]):=by
    rw[eM];have h:=((hB.app [.arr 1 (a8 (aO c.length true))]).add (ka _ _ _) (hB.fresh (aX _))).snoc;rw[nt]at h;exact h
   obtain⟨ZY,ef⟩:=ZX.drop;have As:=ZX.b0;dsimp only at As;generalize os++[.arr 1 (a8 (aO c.length true))]=os2 at *;generalize os.length=p at *;clear fo fm hB;((try revert hK K);(repeat'(first|refine Va (X5 @As (aK As) (iG As) @V6 (X4 @bH @bz.{0} @bL.{0} @bw.{0})) ?_|(refine V2 (X5 @As (aK As) (iG As) @V6 (X4 @bH @bz.{0} @bL.{0} @bw.{0})) ?_ ?_<;>try with_reducible intro hb)|(refine Xi ?_ ?_<;>try intro ht)|refine VD ?_ ?_|exact Xx|fail))<;>try with_reducible intro K hK)
   refine ak _ (i+1,os2.set oi .gone++[.arr 1 [[.ref p 1 0 c.length]],.arr 1 (rowsOf uP (D++[(p,c.length)]))],os2.length+1,D++[(p,c.length)]) ⟨NZ,?_⟩ NZ ?_
   ·refine((ZY.other ef .gone).app _).add ?_ ((ZY.other ef .gone).fresh IM);rw[oI];rfl
   ·exact Xv X0
 ·rw[List.take_of_length_le AT]at hB;have him:i=m.cls.length:=AT;have ZZ:=hB.swap.drop.1;have Z0:=ZZ.ai4;rw[j5]at Z0;rw[Hp,him]at *;((try revert hK K);(repeat'(first|refine Va @fm ?_|(refine V2 @fm ?_ ?_<;>try with_reducible intro hb)|(refine Xi ?_ ?_<;>try intro ht)|refine VD ?_ ?_|exact Xx|fail))<;>try with_reducible intro K hK)
  refine au _ _ rfl ?_;clear ak au Ql;repeat(first|refine Xu ?_)
  ((try revert hK K);(repeat'(first|refine Vb X0 ?_|(refine V2 X0 ?_ ?_<;>try with_reducible intro hb)|(refine Xi ?_ ?_<;>try intro ht)|refine VD ?_ ?_|exact Xx|fail))<;>try with_reducible intro K hK)
  exact Z0 _
end T

