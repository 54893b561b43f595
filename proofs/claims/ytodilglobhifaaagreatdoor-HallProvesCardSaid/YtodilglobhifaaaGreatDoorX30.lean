import Derived.Test.YtodilglobhifaaaGreatDoorX29
import Derived.Test.YtodilglobhifaaaGreatDoorX23
import Derived.Test.YtodilglobhifaaaGreatDoorX24
import Derived.Test.YtodilglobhifaaaGreatDoorX28
set_option linter.all false
set_option maxHeartbeats 0
set_option maxRecDepth 20000
open Nat renaming le_refl→aM,lt_trichotomy→JK,add_sub_cancel_left→vr
open List renaming length_append→aK,length_set→bm,getElem?_append_left→cG,getElem?_set_ne→dz,nodup_iff_pairwise_ne→q6,nodup_range→yY,mem_map→cF,nodup_cons→vo,mem_cons→cI,mem_filter→kF,getElem_of_mem→q7,getD_eq_getElem?_getD→ax,getElem?_eq_getElem→aT,getElem?_map→cm,getElem?_eq_some_iff→aN,pairwise_iff_getElem→sI,getElem?_append_right→dy,replicate→aD
open Option renaming bind_some→n5,some→cL
open Go Go.Am Go.Proofs
namespace T
def ady(xs:List Int)(h:0<xs.length)(hl:xs.length<549755813888):ak Tryz.prog 81 [.tree 1 (ints xs)] [] (.ref 0 1 0 xs.length) [.arr 1 (ints xs)]:=by
 refine ak.aL 8 0 [.tmp 2] Tryz.func81 ?_;((repeat'(first|refine Vb @FG ?_|(refine Xi ?_ ?_<;>try intro ht)|exact Xx|fail)))
 exact Xw false [1] X0
def T3{α:Type}(p:α->Bool):∀ (l:List α) (k:Nat),cT p k l = -1->l.filter (λx=>!p x)=l
 |[],k,_=>rfl
 |x::r,k,h=>by
  rw[cT]at h;split at h
  ·omega
  ·rename_i hp;rw[List.filter_cons_of_pos (by simpa using hp),T3 p r (k+1) h]
def T4{α:Type}(p:α->Bool):∀ (l:List α) (k:Nat),cT p k l≠-1->∃ i,cT p k l=((k+i:Nat):Int)/\i<l.length/\(l.take (i+1)).filter (λx=>!p x)=l.take i
 |[],k,h=>absurd rfl h
 |x::r,k,h=>by
  rw[cT]at h ⊢;by_cases hp:p x=true
  ·rw[if_pos hp];exact⟨0,rfl,Jy,by simp[hp]⟩
  ·rw[if_neg hp]at h ⊢;obtain⟨i,h1,h2,h3⟩:=T4 p r (k+1) h;refine⟨i+1,by rw[h1];congr 1;omega,aak,?_⟩;rw[List.take_succ_cons,List.filter_cons_of_pos (by simpa using hp),h3];rfl
def acT{α:Type}{Y:List α}{i:Nat}{x:α}(h:i<Y.length):(Y.set i x).take (i+1)=Y.take i++[x]:=by
 rw[List.take_succ_eq_append_getElem (by simpa using h),List.take_set_of_le (aM _)];simp
def oP(b:Nat)(os ob:List Ob):Prop:=os.length<=ob.length/\∀ k,k≠b->k<os.length->ob[k]?=os[k]?
def oP.refl(b:Nat)(os:List Ob):oP b os os:=⟨aM _,λ_ _ _=>rfl⟩
def oP.step{b:Nat}{os ob:List Ob}(h:oP b os ob)(y:Ob)(L:List Ob):oP b os (ob.set b y++L) :=
 ⟨by rw[aK,bm];have:=h.1;omega,λk h1 h2=>by
  rw[cG (by rw[bm];have:=h.1;omega),dz (Ne.symm h1)];exact h.2 k h1 h2⟩
def oP.app{b:Nat}{os ob:List Ob}(h:oP b os ob)(L:List Ob):oP b os (ob++L) :=
 ⟨by rw[aK];have:=h.1;omega,λk h1 h2=>by rw[cG (by have:=h.1;omega)];exact h.2 k h1 h2⟩
def SH(m:ah)(left:List (List Bool)):(fU m left).Nodup:=by
 unfold fU;rw[q6,List.pairwise_flatMap];constructor
 ·intro c _;unfold wg;refine List.Pairwise.map _ (λa b h e=>h ?_) ((q6.1 yY).filter _);simp only[Prod.mk.injEq]at e;omega
 ·refine(q6.1 yY).imp λ{a b} wB x hx y hy e=>wB ?_;unfold wg at hx hy;obtain⟨i,_,rfl⟩:=cF.1 hx;obtain⟨j,_,rfl⟩:=cF.1 hy;simp only[Prod.mk.injEq]at e;omega
def UK{α:Type}[DecidableEq α]:∀ {a b:List α},a.Nodup->(∀ x∈a,x∈b)->a.length<=b.length
 |[],_,_,_=>Nat.zero_le _
 |x::r,b,hn,h=>by
  have hx:=h x Jy;have h1:=UK (a:=r) (b:=b.erase x) (vo.1 hn).2 λy hy=>(List.mem_erase_of_ne (λ(e:y=x)=>(vo.1 hn).1 (by rw[<- e];exact hy))).2 (h y (by simp[hy]));have h2:=List.length_erase_of_mem hx;have h3:=List.length_pos_of_mem hx;rw[List.length_cons];omega
def tw.oG{X:List (Int×Int)}{cx:Int×Int->List (Int×Int)}{A:List (List (Int×Int))}(h:tw X cx A):A.length<=X.length:=by
 have:=UK (a:=A) (b:=X.map cx) h.nd λC hC=>by
  obtain⟨x,hx,e⟩:=(h.mem C).1 hC;exact cF.2 ⟨x,hx,e.symm⟩
 rwa [List.length_map]at this
def oO(S:List Nat)(ob:List Ob):List Ob:=ob.mapIdx λi o=>if i∈S then .gone else o
def UL(S:List Nat)(ob:List Ob):(oO S ob).length=ob.length:=by simp[oO]
def Bo{S:List Nat}{ob:List Ob}{i:Nat}{o:Ob}(h:ob[i]?=some o):(oO S ob)[i]?=some (if i∈S then .gone else o):=by
 unfold oO;rw[List.getElem?_mapIdx,h];rfl
def Bp{S:List Nat}{ob:List Ob}{i:Nat}{o:Ob}(h:ob[i]?=some o)(hi:i ∉ S):(oO S ob)[i]?=some o:=by rw[Bo h,if_neg hi]
def mA(lp:Nat)(Q:List (Nat×List Int)):List Nat:=lp::(Q.filter λq=>decide (q.2≠[])).map (·.1)
section
variable {m:ah} {A:List (List (Int×Int))} {D:List (Nat×Nat)} {to lp:Nat} {Q:List (Nat×List Int)} {ob:List Ob}
def LB.at_(h:LB m A D to lp Q ob){i:Nat}(hi:i∈mA lp Q):∃l,ob[i]?=some (.arr 1 l)/\i≠to:=by
 rcases cI.1 hi with rfl|hi
 ·exact⟨_,h.ls,λe=>h.ne e.symm⟩
 ·obtain⟨q,hq,rfl⟩:=cF.1 hi;obtain⟨h1,h2⟩:=kF.1 hq;rw[decide_eq_true_eq]at h2;obtain⟨c,hc,rfl⟩:=q7 h1;have e:Q.getD c default=Q[c]:=by rw[ax,aT hc];rfl
  have:=h.row c hc (by rw[e];exact h2);rw[e]at this;exact⟨_,this.1,this.2.1⟩
def LB.kill(h:LB m A D to lp Q ob):(oO (mA lp Q) ob)[0]?=some (.var (aB m))/\(oO (mA lp Q) ob)[1]?=some (.var [.lit (.slice none 0 0)])/\(oO (mA lp Q) ob)[to]?=some (.arr 1 (rowsOf bY D))/\RI av (oO (mA lp Q) ob) D A:=by
 refine⟨Bp h.o0 λhi=>?_,Bp h.o1 λhi=>?_,Bp h.out λhi=>?_,h.ri.len,λj hj=>⟨Bp (h.ri.row j hj).1 λhi=>?_,(h.ri.row j hj).2⟩⟩
 ·obtain⟨l,h1,_⟩:=h.at_ hi;rw[h.o0]at h1;cases h1
 ·obtain⟨l,h1,_⟩:=h.at_ hi;rw[h.o1]at h1;cases h1
 ·exact(h.at_ hi).choose_spec.2 rfl
 ·obtain⟨l,h1,_⟩:=h.at_ hi;rw[(h.ri.row j hj).1]at h1;cases h1
def UM(hls:ob[lp]?=some (.arr 1 (rowsOf gp Q))){X:Nat->Prop}(bf:∀ c,c<Q.length->(Q.getD c default).2≠[]->ob[(Q.getD c default).1]?=some (.arr 1 (ints (Q.getD c default).2))/\X c)(e:Nat->AV):df ⟨e,ob⟩ (λi=>i ∉ mA lp Q) (.tree 1 (cV (Q.map (·.2)))) (.ref lp 1 0 Q.length):=by
 have D6:∀ row∈cV (Q.map (·.2)),row.length=1:=λrow hr=>by
  unfold cV at hr;obtain⟨_,_,rfl⟩:=cF.1 hr;rfl
 refine .ref lp 1 0 Q.length _ _ (λr c=>(cellAt (rowsOf gp Q) r c).getD .undef) hls (λhn=>hn (List.mem_cons_self ..)) (by simp[cV,rowsOf]) D6 (λr c v hv=>?_) (λr c v hv=>?_);all_goals
  unfold cellAt at hv;by_cases hr:r<Q.length;rotate_left
  ·rw[List.getElem?_eq_none (by simp[cV];omega)]at hv;simp at hv
  have e1:(cV (Q.map (·.2)))[r]?=some [.tree 1 (ints (Q.getD r default).2)]:=by
   unfold cV;rw[cm,cm,aT hr,ax,aT hr];rfl
  rw[e1,n5]at hv;have jO:c=0:=by
   have:=(aN.1 hv).1;simp at this;exact this
  subst jO;simp only[List.getElem?_cons_zero,cL.injEq]at hv;subst hv;have e2:=TP hr
 ·rw[List.drop_zero,List.take_of_length_le (by simp[rowsOf])];unfold cellAt;rw[e2,n5];unfold gp;split<;>rfl
 ·unfold cellAt;rw[e2,n5];by_cases hq:(Q.getD r default).2=[]
  ·unfold gp;rw[if_pos hq,hq];exact .nil 1
  ·have e3:(gp (Q.getD r default))[0]?.getD .undef=.ref (Q.getD r default).1 1 0 (Q.getD r default).2.length:=by unfold gp;rw[if_neg hq];rfl
   rw[e3];have hm:(Q.getD r default).1∈mA lp Q:=by
    refine List.mem_cons_of_mem _ (cF.2 ⟨Q.getD r default,kF.2 ⟨aF hr,by rw[decide_eq_true_eq];exact hq⟩,rfl⟩)
   refine df.flat (bf r hr hq).1 (lh _) (by rw[sW]) (λhn=>hn hm) λrow UN v hv=>?_;unfold ints at UN;obtain⟨x,_,rfl⟩:=cF.1 UN;rw[List.mem_singleton]at hv;exact .inl ⟨_,hv⟩
def LB.GU{n0:Nat}{e:Nat->AV}(h:LB m A D to lp Q ob)(d:Nat)(hd:e d=.ref lp 1 0 Q.length):aC n0 ⟨e,ob⟩ ⟨iL e d (.tree 1 (cV (Q.map (·.2)))),oO (mA lp Q) ob⟩:=by
 refine aC.TN (σ:=⟨e,ob⟩) d (λi=>i ∉ mA lp Q) (UL _ _) (λi o ho=>?_) ?_
 ·by_cases hi:i∈mA lp Q
  ·exact .inr ⟨λhn=>hn hi,by rw[Bo ho,if_pos hi]⟩
  ·exact .inl ⟨hi,by rw[Bo ho,if_neg hi]⟩
 ·dsimp only;rw[hd];exact UM h.ls h.row e
def RI.apart(h:RI av ob D A)(hA:A.Nodup){i j:Nat}(hi:i<D.length)(hj:j<D.length)(e:(D.getD i default).1=(D.getD j default).1):i=j:=by
 obtain⟨h1,h2⟩:=h.row i hi;obtain⟨h3,h4⟩:=h.row j hj;rw[e,h3]at h1;simp only[cL.injEq,Ob.arr.injEq,true_and]at h1;have e2:A.getD i default=A.getD j default:=by
  have adA:∀ a b:List (Int×Int),rowsOf av a=rowsOf av b->a=b:=λa b wB=>by
   unfold rowsOf at wB;exact List.map_inj_right (λx y jV=>by unfold av at jV;simp at jV;exact Prod.ext jV.1 jV.2) |>.1 wB
  exact(adA _ _ h1).symm
 have hp:=q6.1 hA;have li:i<A.length:=by have:=h.len;omega
 have lj:j<A.length:=by have:=h.len;omega
 rw[ax,aT li,ax,aT lj]at e2;rcases JK i j with h|h|h
 ·exact absurd e2 (sI.1 hp i j li lj h)
 ·exact h
 ·exact absurd e2.symm (sI.1 hp j i lj li h)
end
structure LC(m:ah)(A:List (List (Int×Int)))(D:List (Nat×Nat))(G:List Int)(to:Nat)(P:List Int)(z p:Nat)(ob:List Ob):Prop where
 o0:ob[0]?=some (.var (aB m))
 o1:ob[1]?=some (.var [.tree 1 (ints G)])
 out:ob[to]?=some (.arr 1 (rowsOf bY D))
 len:D.length=A.length
 row:∀ k,z<=k->k<P.length->ob[(D.getD (P.getD k 0).toNat default).1]?=some (.arr 2 (rowsOf av (A.getD (P.getD k 0).toNat default)))/\(A.getD (P.getD k 0).toNat default).length=(D.getD (P.getD k 0).toNat default).2
 inj:∀ k k',k<P.length->k'<P.length->(D.getD (P.getD k 0).toNat default).1=(D.getD (P.getD k' 0).toNat default).1->k=k'
 new:ob[p]?=some (.arr 1 (rowsOf eZ (((P.take z).map λn=>(A.getD n.toNat []).filter (iH G)))))
 pto:p≠to
def adC{l:List Int}(h:l.Pairwise (· < ·)){i j:Nat}(hi:i<l.length)(hj:j<l.length)(e:l.getD i 0=l.getD j 0):i=j:=by
 rw[ax,aT hi,ax,aT hj]at e;simp only[Option.getD_some]at e;rcases JK i j with h'|h'|h'
 ·have:=sI.1 h i j hi hj h';omega
 ·exact h'
 ·have:=sI.1 h j i hj hi h';omega
def LC.start{m:ah}{A:List (List (Int×Int))}{D:List (Nat×Nat)}{G:List Int}{to:Nat}{P:List Int}{ob:List Ob}(h0:ob[0]?=some (.var (aB m)))(h1:ob[1]?=some (.var [.tree 1 (ints G)]))(h2:ob[to]?=some (.arr 1 (rowsOf bY D)))(hr:RI av ob D A)(hA:A.Nodup)(hP:P.Pairwise (· < ·))(hb:∀ n∈P,0<=n/\n<A.length):LC m A D G to P 0 ob.length (ob++[.arr 1 []]):=by
 have bO:∀ k,k<P.length->(P.getD k 0).toNat<D.length/\0<=P.getD k 0:=λk hk=>by
  have:=hb _ (aF (d:=0) hk);rw[hr.len];omega
 refine⟨aA h0 _,aA h1 _,aA h2 _,hr.len,λk _ hk=>?_,λk k' hk aY e=>?_,by rw[List.take_zero];exact jH _ _ _,?_⟩
 ·obtain⟨a,b⟩:=hr.row _ (bO k hk).1;exact⟨aA a _,b⟩
 ·have:=hr.apart hA (bO k hk).1 (bO k' aY).1 e;have b1:=bO k hk;have b2:=bO k' aY;exact adC hP hk aY Bv
 ·have:=(aN.1 h2).1;omega
def LC.step{m:ah}{A:List (List (Int×Int))}{D:List (Nat×Nat)}{G:List Int}{to:Nat}{P:List Int}{z p:Nat}{ob ob1 l:List Ob}(h:LC m A D G to P z p ob)(hz:z<P.length){y y2:Ob}{j:Nat}(hb:oP (D.getD (P.getD z 0).toNat default).1 ob ob1)(hl:l[j]?=some (.arr 1 (rowsOf eZ (((P.take (z+1)).map λn=>(A.getD n.toNat []).filter (iH G)))))):LC m A D G to P (z+1) (ob1.length+j) (((ob1.set (D.getD (P.getD z 0).toNat default).1 y).set p y2)++l):=by
 have hr:=(h.row z (aM _) hz).1;generalize hB:(D.getD (P.getD z 0).toNat default).1=b at *;have key:∀ i o,ob[i]?=some o->i≠b->i≠p->(((ob1.set b y).set p y2)++l)[i]?=some o:=λi o ho h1 h2=>by
  refine aA ?_ _;rw[dz (Ne.symm h2),dz (Ne.symm h1),hb.2 i h1 (aN.1 ho).1];exact ho
 refine⟨key _ _ h.o0 (λe=>?_) (λe=>?_),key _ _ h.o1 (λe=>?_) (λe=>?_),key _ _ h.out (λe=>?_) (λe=>h.pto e.symm),h.len,λk hk dS=>⟨key _ _ (h.row k Bv dS).1 (λe=>?_) (λe=>?_),(h.row k Bv dS).2⟩,h.inj,?_,?_⟩
 ·have:=h.o0;rw[e,hr]at this;cases this
 ·have:=h.o0;rw[e,h.new]at this;cases this
 ·have:=h.o1;rw[e,hr]at this;cases this
 ·have:=h.o1;rw[e,h.new]at this;cases this
 ·have:=h.out;rw[e,hr]at this;cases this
 ·have:=h.inj k z dS hz (by rw[e,hB]);omega
 ·have:=(h.row k Bv dS).1;rw[e,h.new]at this;cases this
 ·have kR:ob1.length=((ob1.set b y).set p y2).length:=Jy;rw[kR,lG];exact hl
 ·have h1:=(aN.1 h.out).1;have h2:=hb.1;omega
structure LR(F:List (Nat×Ob))(lp:Nat)(Q:List (Nat×List Int))(ob:List Ob):Prop where
 fx:∀ p∈F,ob[p.1]?=some p.2
 sv:∀ p∈F,p.1≠lp/\∀ c,c<Q.length->(Q.getD c default).2≠[]->p.1≠(Q.getD c default).1
 ls:ob[lp]?=some (.arr 1 (rowsOf gp Q))
 row:∀ c,c<Q.length->(Q.getD c default).2≠[]->ob[(Q.getD c default).1]?=some (.arr 1 (ints (Q.getD c default).2))/\(Q.getD c default).1≠lp
 inj:∀ c c',c<Q.length->c'<Q.length->(Q.getD c default).2≠[]->(Q.getD c' default).2≠[]->(Q.getD c default).1=(Q.getD c' default).1->c=c'
section
variable {F F':List (Nat×Ob)} {lp:Nat} {Q:List (Nat×List Int)} {ob l:List Ob}
def LR.app(h:LR F lp Q ob)(l:List Ob):LR F lp Q (ob++l) :=
 ⟨λp hp=>aA (h.fx p hp) l,h.sv,aA h.ls l,λc hc hn=>⟨aA (h.row c hc hn).1 l,(h.row c hc hn).2⟩,h.inj⟩
def LR.grow(h:LR F lp Q ob){c:Nat}(hc:c<Q.length){n:Int}{ob1:List Ob}{b:Nat}(hk:∀ k o,ob[k]?=some o->((Q.getD c default).2≠[]->k≠(Q.getD c default).1)->ob1[k]?=some o)(pN:ob1.length=ob.length)(h2:l[b]?=some (.arr 1 (ints ((Q.getD c default).2++[n])))):
  LR F lp (Q.set c (ob.length+b,(Q.getD c default).2++[n])) (ob1.set lp (.arr 1 (rowsOf gp (Q.set c (ob.length+b,(Q.getD c default).2++[n]))))++l):=by
 have Eb:lp<ob.length:=gW h.ls;have k3:=hk _ _ h.ls (λhn e=>(h.row c hc hn).2 e.symm);have wO:∀ i o,ob1[i]?=some o->i≠lp->∀ y,(ob1.set lp y)[i]?=some o:=λi o hi hn y=>by rw[dz (Ne.symm hn)];exact hi
 have lC:(ob1.set lp (.arr 1 (rowsOf gp (Q.set c (ob.length+b,(Q.getD c default).2++[n]))))++l)[ob.length+b]?=some (.arr 1 (ints ((Q.getD c default).2++[n]))):=by
  rw[dy aak,bm,pN,vr];exact h2
 refine⟨λp hp=>aA (wO _ _ (hk _ _ (h.fx p hp) λhn=>(h.sv p hp).2 c hc hn) (h.sv p hp).1 _) l,λp hp=>⟨(h.sv p hp).1,λk dS hn=>?_⟩,aA (jI k3) l,λk dS hn=>?_,λk k' dS wP hn fR e=>?_⟩
 ·rw[bm]at dS;rw[tW _ _ _ _ hc]at hn ⊢;split at hn
  ·rename_i e;rw[if_pos e];have:=gW (h.fx p hp);dsimp only;omega
  ·rename_i e;rw[if_neg e];exact(h.sv p hp).2 k dS hn
 ·rw[bm]at dS;rw[tW _ _ _ _ hc]at hn ⊢;split at hn
  ·rename_i e;rw[if_pos e];exact⟨lC,aad⟩
  ·rename_i e;rw[if_neg e];have hr:=h.row k dS hn;exact⟨aA (wO _ _ (hk _ _ hr.1 (λkk e2=>e (h.inj k c dS hc hn kk e2))) hr.2 _) l,hr.2⟩
 ·rw[bm]at dS wP;rw[tW _ _ _ _ hc]at hn e;rw[tW _ _ _ _ hc]at fR e;by_cases h1:k=c<;>by_cases h3:k'=c
  ·exact h1.trans h3.symm
  ·rw[if_pos h1,if_neg h3]at e;rw[if_neg h3]at fR;have:=gW (h.row k' wP fR).1;dsimp only at e;omega
  ·rw[if_neg h1,if_pos h3]at e;rw[if_neg h1]at hn;have:=gW (h.row k dS hn).1;dsimp only at e;omega
  ·rw[if_neg h1,if_neg h3]at e;rw[if_neg h1]at hn;rw[if_neg h3]at fR;exact h.inj k k' dS wP hn fR e
def LR.start{N:Nat}(hF:∀ p∈F,ob[p.1]?=some p.2):LR F ob.length (aD N (0,[])) (ob++[.arr 1 (aD N [.lit (.slice none 0 0)])]):=by
 have hz:∀ c,((aD N ((0:Nat),([]:List Int))).getD c default).2=[]:=λc=>by
  have:=@LB.zero N c;exact List.length_eq_zero_iff.1 this
 refine⟨λp hp=>aA (hF p hp) _,λp hp=>⟨by have:=gW (hF p hp);omega,λc _ hn=>absurd (hz c) hn⟩,?_,λc _ hn=>absurd (hz c) hn,λc c' _ _ hn=>absurd (hz c) hn⟩;rw[show rowsOf gp (aD N ((0:Nat),([]:List Int)))=aD N [.lit (.slice none 0 0)] by unfold rowsOf;rw[List.map_replicate];rfl];exact jH _ _ _
def LR.swap(h:LR F lp Q ob){t:Nat}{o:Ob}(ht:(t,o)∈F)(hF:∀ p∈F',(p∈F/\p.1≠t)\/∃ j,p.1=ob.length+j/\l[j]?=some p.2):LR F' lp Q (ob.set t .gone++l):=by
 have Eb:lp<ob.length:=gW h.ls;obtain⟨d1,d2⟩:=h.sv _ ht;dsimp only at d1 d2;have key:∀ i o,ob[i]?=some o->i≠t->(ob.set t .gone++l)[i]?=some o:=λi o hi hn=>aA (by rw[dz (Ne.symm hn)];exact hi) l;refine⟨λp hp=>?_,λp hp=>?_,key _ _ h.ls (Ne.symm d1),λc hc hn=>⟨key _ _ (h.row c hc hn).1 (Ne.symm (d2 c hc hn)),(h.row c hc hn).2⟩,h.inj⟩
 ·rcases hF p hp with⟨h1,h2⟩|⟨j,h1,h2⟩
  ·exact key _ _ (h.fx p h1) h2
  ·rw[h1,dy Jy,bm,vr];exact h2
 ·rcases hF p hp with⟨h1,h2⟩|⟨j,h1,h2⟩
  ·exact h.sv p h1
  ·exact⟨Bv,λc hc hn=>by have:=gW (h.row c hc hn).1;omega⟩
def LR.more(h:LR F lp Q ob)(hF:∀ p∈F',p∈F\/∃ j,p.1=ob.length+j/\l[j]?=some p.2):LR F' lp Q (ob++l):=by
 have Eb:lp<ob.length:=gW h.ls;refine⟨λp hp=>?_,λp hp=>?_,aA h.ls l,λc hc hn=>⟨aA (h.row c hc hn).1 l,(h.row c hc hn).2⟩,h.inj⟩
 ·rcases hF p hp with h1|⟨j,h1,h2⟩
  ·exact aA (h.fx p h1) l
  ·rw[h1,lG];exact h2
 ·rcases hF p hp with h1|⟨j,h1,h2⟩
  ·exact h.sv p h1
  ·exact⟨Bv,λc hc hn=>by have:=gW (h.row c hc hn).1;omega⟩
def LR.at_(h:LR F lp Q ob){i:Nat}(hi:i∈mA lp Q):∀ p∈F,p.1≠i:=λp hp=>by
 rcases cI.1 hi with rfl|hi
 ·exact(h.sv p hp).1
 ·obtain⟨q,hq,rfl⟩:=cF.1 hi;obtain⟨h1,h2⟩:=kF.1 hq;rw[decide_eq_true_eq]at h2;obtain⟨c,hc,rfl⟩:=q7 h1;have e:Q.getD c default=Q[c]:=by rw[ax,aT hc];rfl
  have:=(h.sv p hp).2 c hc (by rw[e];exact h2);rwa [e]at this
def LR.kill(h:LR F lp Q ob):∀ p∈F,(oO (mA lp Q) ob)[p.1]?=some p.2:=λp hp=>Bp (h.fx p hp) λhi=>h.at_ hi p hp rfl
def LR.GU{n0:Nat}{e:Nat->AV}(h:LR F lp Q ob)(d:Nat)(hd:e d=.ref lp 1 0 Q.length):aC n0 ⟨e,ob⟩ ⟨iL e d (.tree 1 (cV (Q.map (·.2)))),oO (mA lp Q) ob⟩:=by
 refine aC.TN (σ:=⟨e,ob⟩) d (λi=>i ∉ mA lp Q) (UL _ _) (λi o ho=>?_) ?_
 ·by_cases hi:i∈mA lp Q
  ·exact .inr ⟨λhn=>hn hi,by rw[Bo ho,if_pos hi]⟩
  ·exact .inl ⟨hi,by rw[Bo ho,if_neg hi]⟩
 ·dsimp only;rw[hd];exact UM h.ls h.row e
end
end T

