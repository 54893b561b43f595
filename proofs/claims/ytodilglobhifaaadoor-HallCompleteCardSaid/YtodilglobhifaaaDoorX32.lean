import Derived.Test.YtodilglobhifaaaDoorX31
import Derived.Test.YtodilglobhifaaaDoorX27
set_option linter.all false
set_option maxHeartbeats 0
set_option maxRecDepth 20000
open List renaming getD_eq_getElem?_getD→an,getElem?_set_ne→cV,length_set→bm,replicate→aw,eq_of_mem_replicate→uE,mem_of_getElem?→eh,getElem?_map→bR,getElem?_eq_getElem→aN,nodup_iff_pairwise_ne→mo,nodup_range→w5,mem_map→bS,nodup_cons→sL,mem_filter→fI,getElem?_eq_some_iff→aF,pairwise_iff_getElem→pI
open Option renaming bind_some→lG,some→cB
open Nat renaming lt_trichotomy→Aj
open Go Go.Am
namespace T
def fG(q:Nat×List Int):List AV:=if q.2=[] then [.lit (.slice none 0 0)] else [.ref q.1 1 0 q.2.length]
structure LB(m:ae)(A:List (List (Int×Int)))(D:List (Nat×Nat))(to lp:Nat)(Q:List (Nat×List Int))(ob:List Ob):Prop where
 o0:ob[0]?=some (.var (aP m))
 o1:ob[1]?=some (.var [.lit (.slice none 0 0)])
 out:ob[to]?=some (.arr 1 (rowsOf eT D))
 ri:RI au ob D A
 ls:ob[lp]?=some (.arr 1 (rowsOf fG Q))
 row:∀ c,c<Q.length->(Q.getD c default).2≠[]->ob[(Q.getD c default).1]?=some (.arr 1 (ints (Q.getD c default).2))/\(Q.getD c default).1≠to/\(Q.getD c default).1≠lp
 inj:∀ c c',c<Q.length->c'<Q.length->(Q.getD c default).2≠[]->(Q.getD c' default).2≠[]->(Q.getD c default).1=(Q.getD c' default).1->c=c'
 ne:to≠lp
variable {m:ae} {A:List (List (Int×Int))} {D:List (Nat×Nat)} {to lp:Nat} {Q:List (Nat×List Int)} {ob l:List Ob}
def LB.app(h:LB m A D to lp Q ob)(l:List Ob):LB m A D to lp Q (ob++l) :=
 ⟨aA h.o0 l,aA h.o1 l,aA h.out l,h.ri.app l,aA h.ls l,λc hc hn=>⟨aA (h.row c hc hn).1 l,(h.row c hc hn).2⟩,h.inj,h.ne⟩
def wv{α:Type}[Inhabited α](L:List α)(c k:Nat)(x:α)(hc:c<L.length):(L.set c x).getD k default=if k=c then x else L.getD k default:=by
 rw[an,List.getElem?_set];by_cases h:c=k
 ·subst h;simp[hc]
 ·rw[if_neg h,if_neg (Ne.symm h),an]
def LB.grow(h:LB m A D to lp Q ob){c:Nat}(hc:c<Q.length){n:Int}{ob1:List Ob}{b:Nat}(hk:∀ k o,ob[k]?=some o->((Q.getD c default).2≠[]->k≠(Q.getD c default).1)->ob1[k]?=some o)(C7:ob1.length=ob.length)(h2:l[b]?=some (.arr 1 (ints ((Q.getD c default).2++[n])))):
  LB m A D to lp (Q.set c (ob.length+b,(Q.getD c default).2++[n])) (ob1.set lp (.arr 1 (rowsOf fG (Q.set c (ob.length+b,(Q.getD c default).2++[n]))))++l):=by
 have hq:=λhn=>h.row c hc hn;have RM:lp<ob.length:=iN h.ls;have ue:to<ob.length:=iN h.out;have k0:=hk _ _ h.o0 (λhn e=>by have:=(hq hn).1;rw[<- e,h.o0]at this;cases this);have k1:=hk _ _ h.o1 (λhn e=>by have:=(hq hn).1;rw[<- e,h.o1]at this;cases this);have k2:=hk _ _ h.out (λhn e=>(hq hn).2.1 e.symm);have k3:=hk _ _ h.ls (λhn e=>(hq hn).2.2 e.symm);have kr:RI au ob1 D A:=⟨h.ri.len,λj hj=>⟨hk _ _ (h.ri.row j hj).1 (λhn e=>by have:=(hq hn).1;rw[<- e,(h.ri.row j hj).1]at this;cases this),(h.ri.row j hj).2⟩⟩;have zn:∀ i o,ob1[i]?=some o->i≠lp->∀ y,(ob1.set lp y)[i]?=some o:=λi o hi hn y=>by rw[cV (Ne.symm hn)];exact hi
 have j7:(ob1.set lp (.arr 1 (rowsOf fG (Q.set c (ob.length+b,(Q.getD c default).2++[n]))))++l)[ob.length+b]?=some (.arr 1 (ints ((Q.getD c default).2++[n]))):=by
  rw[List.getElem?_append_right UU,bm,C7,Nat.add_sub_cancel_left];exact h2
 refine⟨aA (zn _ _ k0 (λe=>by have:=h.ls;rw[<- e,h.o0]at this;cases this) _) l,aA (zn _ _ k1 (λe=>by have:=h.ls;rw[<- e,h.o1]at this;cases this) _) l,aA (zn _ _ k2 h.ne _) l,(kr.kill k3 (by intro l e;cases e)).app l,aA (g6 k3) l,λk im hn=>?_,λk k' im C8 hn fK e=>?_,h.ne⟩
 ·rw[bm]at im;rw[wv _ _ _ _ hc]at hn ⊢;split at hn
  ·rename_i e;rw[if_pos e];exact⟨j7,UT,UT⟩
  ·rename_i e;rw[if_neg e];have hr:=h.row k im hn;refine⟨aA (zn _ _ (hk _ _ hr.1 (λiU e2=>e (h.inj k c im hc hn iU e2))) hr.2.2 _) l,hr.2⟩
 ·rw[bm]at im C8;rw[wv _ _ _ _ hc]at hn e;rw[wv _ _ _ _ hc]at fK e;by_cases h1:k=c<;>by_cases h3:k'=c
  ·exact h1.trans h3.symm
  ·rw[if_pos h1,if_neg h3]at e;rw[if_neg h3]at fK;have:=iN (h.row k' C8 fK).1;dsimp only at e;omega
  ·rw[if_neg h1,if_pos h3]at e;rw[if_neg h1]at hn;have:=iN (h.row k im hn).1;dsimp only at e;omega
  ·rw[if_neg h1,if_neg h3]at e;rw[if_neg h1]at hn;rw[if_neg h3]at fK;exact h.inj k k' im C8 hn fK e
def LB.start{o2:List Ob}{N:Nat}(h0:o2[0]?=some (.var (aP m)))(h1:o2[1]?=some (.var [.lit (.slice none 0 0)]))(ho:o2[to]?=some (.arr 1 (rowsOf eT D)))(hr:RI au o2 D A):
  LB m A D to o2.length (aw N (0,[])) (o2++[.arr 1 (aw N [.lit (.slice none 0 0)])]):=by
 have hz:∀ c,((aw N ((0:Nat),([]:List Int))).getD c default).2=[]:=λc=>by
  rw[an];cases hh:(aw N ((0:Nat),([]:List Int)))[c]? with
  |none=>rfl
  |some q=>rw[uE (eh hh)];rfl
 refine⟨aA h0 _,aA h1 _,aA ho _,hr.app _,?_,λc _ hn=>absurd (hz c) hn,λc c' _ _ hn=>absurd (hz c) hn,?_⟩
 ·rw[show rowsOf fG (aw N ((0:Nat),([]:List Int)))=aw N [.lit (.slice none 0 0)] by unfold rowsOf;rw[List.map_replicate];rfl];exact nW _ _ _
 ·have:=iN ho;omega
def LB.len{N:Nat}:((aw N ((0:Nat),([]:List Int))).map (·.2))=aw N []:=by rw[List.map_replicate]
def Lr{c:Nat}(hc:c<Q.length):(rowsOf fG Q)[c]?=some (fG (Q.getD c default)):=by
 unfold rowsOf;rw[bR,aN hc,an,aN hc];rfl
def RN{n:Nat}{x:Int×Int}(hx:x.1.toNat<Q.length):wo n (Q.map (·.2)) x=if 0<(Q.getD x.1.toNat default).2.length/\(Q.getD x.1.toNat default).2.getD ((Q.getD x.1.toNat default).2.length-1) 0=(n:Int) then Q.map (·.2) else(Q.map (·.2)).set x.1.toNat ((Q.getD x.1.toNat default).2++[(n:Int)]):=by
 have e:(Q.map (·.2)).getD x.1.toNat []=(Q.getD x.1.toNat default).2:=by
  rw[an,bR,aN hx,an,aN hx];rfl
 unfold wo;rw[e]
def LB.zero{N c:Nat}:((aw N ((0:Nat),([]:List Int))).getD c default).2.length=0:=by
 rw[an];cases hh:(aw N ((0:Nat),([]:List Int)))[c]? with
 |none=>rfl
 |some q=>rw[uE (eh hh)];rfl
def KB(m:ae)(left:List (List Bool)):(eJ m left).Nodup:=by
 unfold eJ;rw[mo,List.pairwise_flatMap];constructor
 ·intro c _;unfold rW;refine List.Pairwise.map _ (λa b h e=>h ?_) ((mo.1 w5).filter _);simp only[Prod.mk.injEq]at e;omega
 ·refine(mo.1 w5).imp λ{a b} mh x hx y hy e=>mh ?_;unfold rW at hx hy;obtain⟨i,_,rfl⟩:=bS.1 hx;obtain⟨j,_,rfl⟩:=bS.1 hy;simp only[Prod.mk.injEq]at e;omega
def Ls{α:Type}[DecidableEq α]:∀ {a b:List α},a.Nodup->(∀ x∈a,x∈b)->a.length<=b.length
 |[],_,_,_=>Nat.zero_le _
 |x::r,b,hn,h=>by
  have hx:=h x Eb;have h1:=Ls (a:=r) (b:=b.erase x) (sL.1 hn).2 λy hy=>(List.mem_erase_of_ne (λ(e:y=x)=>(sL.1 hn).1 (by rw[<- e];exact hy))).2 (h y (by simp[hy]));have h2:=List.length_erase_of_mem hx;have h3:=List.length_pos_of_mem hx;rw[List.length_cons];omega
def pf.qq{X:List (Int×Int)}{cx:Int×Int->List (Int×Int)}{A:List (List (Int×Int))}(h:pf X cx A):A.length<=X.length:=by
 have:=Ls (a:=A) (b:=X.map cx) h.nd λC hC=>by
  obtain⟨x,hx,e⟩:=(h.mem C).1 hC;exact bS.2 ⟨x,hx,e.symm⟩
 rwa [List.length_map]at this
def m7(S:List Nat)(ob:List Ob):List Ob:=ob.mapIdx λi o=>if i∈S then .gone else o
def RO(S:List Nat)(ob:List Ob):(m7 S ob).length=ob.length:=by simp[m7]
def C9{S:List Nat}{ob:List Ob}{i:Nat}{o:Ob}(h:ob[i]?=some o):(m7 S ob)[i]?=some (if i∈S then .gone else o):=by
 unfold m7;rw[List.getElem?_mapIdx,h];rfl
def zo{S:List Nat}{ob:List Ob}{i:Nat}{o:Ob}(h:ob[i]?=some o)(hi:i ∉ S):(m7 S ob)[i]?=some o:=by rw[C9 h,if_neg hi]
def m8(lp:Nat)(Q:List (Nat×List Int)):List Nat:=lp::(Q.filter λq=>decide (q.2≠[])).map (·.1)
section
variable {m:ae} {A:List (List (Int×Int))} {D:List (Nat×Nat)} {to lp:Nat} {Q:List (Nat×List Int)} {ob:List Ob}
def LB.at_(h:LB m A D to lp Q ob){i:Nat}(hi:i∈m8 lp Q):∃l,ob[i]?=some (.arr 1 l)/\i≠to:=by
 rcases List.mem_cons.1 hi with rfl|hi
 ·exact⟨_,h.ls,λe=>h.ne e.symm⟩
 ·obtain⟨q,hq,rfl⟩:=bS.1 hi;obtain⟨h1,h2⟩:=fI.1 hq;rw[decide_eq_true_eq]at h2;obtain⟨c,hc,rfl⟩:=List.getElem_of_mem h1;have e:Q.getD c default=Q[c]:=by rw[an,aN hc];rfl
  have:=h.row c hc (by rw[e];exact h2);rw[e]at this;exact⟨_,this.1,this.2.1⟩
def LB.kill(h:LB m A D to lp Q ob):(m7 (m8 lp Q) ob)[0]?=some (.var (aP m))/\(m7 (m8 lp Q) ob)[1]?=some (.var [.lit (.slice none 0 0)])/\(m7 (m8 lp Q) ob)[to]?=some (.arr 1 (rowsOf eT D))/\RI au (m7 (m8 lp Q) ob) D A:=by
 refine⟨zo h.o0 λhi=>?_,zo h.o1 λhi=>?_,zo h.out λhi=>?_,h.ri.len,λj hj=>⟨zo (h.ri.row j hj).1 λhi=>?_,(h.ri.row j hj).2⟩⟩
 ·obtain⟨l,h1,_⟩:=h.at_ hi;rw[h.o0]at h1;cases h1
 ·obtain⟨l,h1,_⟩:=h.at_ hi;rw[h.o1]at h1;cases h1
 ·exact(h.at_ hi).choose_spec.2 rfl
 ·obtain⟨l,h1,_⟩:=h.at_ hi;rw[(h.ri.row j hj).1]at h1;cases h1
def RP(RQ:ob[lp]?=some (.arr 1 (rowsOf fG Q))){X:Nat->Prop}(aM:∀ c,c<Q.length->(Q.getD c default).2≠[]->ob[(Q.getD c default).1]?=some (.arr 1 (ints (Q.getD c default).2))/\X c)(e:Nat->AV):cW ⟨e,ob⟩ (λi=>i ∉ m8 lp Q) (.tree 1 (aU (Q.map (·.2)))) (.ref lp 1 0 Q.length):=by
 have RR:∀ row∈aU (Q.map (·.2)),row.length=1:=λrow hr=>by
  unfold aU at hr;obtain⟨_,_,rfl⟩:=bS.1 hr;rfl
 refine .ref lp 1 0 Q.length _ _ (λr c=>(cellAt (rowsOf fG Q) r c).getD .undef) RQ (λhn=>hn (List.mem_cons_self ..)) (by simp[aU,rowsOf]) RR (λr c v hv=>?_) (λr c v hv=>?_);all_goals
  unfold cellAt at hv;by_cases hr:r<Q.length;rotate_left
  ·rw[List.getElem?_eq_none (by simp[aU];omega)]at hv;simp at hv
  have e1:(aU (Q.map (·.2)))[r]?=some [.tree 1 (ints (Q.getD r default).2)]:=by
   unfold aU;rw[bR,bR,aN hr,an,aN hr];rfl
  rw[e1,lG]at hv;have iY:c=0:=by
   have:=(aF.1 hv).1;simp at this;exact this
  subst iY;simp only[List.getElem?_cons_zero,cB.injEq]at hv;subst hv;have e2:=Lr hr
 ·rw[List.drop_zero,List.take_of_length_le (by simp[rowsOf])];unfold cellAt;rw[e2,lG];unfold fG;split<;>rfl
 ·unfold cellAt;rw[e2,lG];by_cases hq:(Q.getD r default).2=[]
  ·unfold fG;rw[if_pos hq,hq];exact .nil 1
  ·have e3:(fG (Q.getD r default))[0]?.getD .undef=.ref (Q.getD r default).1 1 0 (Q.getD r default).2.length:=by unfold fG;rw[if_neg hq];rfl
   rw[e3];have hm:(Q.getD r default).1∈m8 lp Q:=by
    refine List.mem_cons_of_mem _ (bS.2 ⟨Q.getD r default,fI.2 ⟨aO hr,by rw[decide_eq_true_eq];exact hq⟩,rfl⟩)
   refine cW.flat (aM r hr hq).1 (jv _) (by rw[k7]) (λhn=>hn hm) λrow Lt v hv=>?_;unfold ints at Lt;obtain⟨x,_,rfl⟩:=bS.1 Lt;rw[List.mem_singleton]at hv;exact .inl ⟨_,hv⟩
def LB.Je{n0:Nat}{e:Nat->AV}(h:LB m A D to lp Q ob)(d:Nat)(hd:e d=.ref lp 1 0 Q.length):aR n0 ⟨e,ob⟩ ⟨fc e d (.tree 1 (aU (Q.map (·.2)))),m7 (m8 lp Q) ob⟩:=by
 refine aR.Rn (σ:=⟨e,ob⟩) d (λi=>i ∉ m8 lp Q) (RO _ _) (λi o ho=>?_) ?_
 ·by_cases hi:i∈m8 lp Q
  ·exact .inr ⟨λhn=>hn hi,by rw[C9 ho,if_pos hi]⟩
  ·exact .inl ⟨hi,by rw[C9 ho,if_neg hi]⟩
 ·dsimp only;rw[hd];exact RP h.ls h.row e
def RI.apart(h:RI au ob D A)(hA:A.Nodup){i j:Nat}(hi:i<D.length)(hj:j<D.length)(e:(D.getD i default).1=(D.getD j default).1):i=j:=by
 obtain⟨h1,h2⟩:=h.row i hi;obtain⟨h3,h4⟩:=h.row j hj;rw[e,h3]at h1;simp only[cB.injEq,Ob.arr.injEq,true_and]at h1;have e2:A.getD i default=A.getD j default:=by
  have RS:∀ a b:List (Int×Int),rowsOf au a=rowsOf au b->a=b:=λa b mh=>by
   unfold rowsOf at mh;exact List.map_inj_right (λx y gT=>by unfold au at gT;simp at gT;exact Prod.ext gT.1 gT.2) |>.1 mh
  exact(RS _ _ h1).symm
 have hp:=mo.1 hA;have li:i<A.length:=by have:=h.len;omega
 have lj:j<A.length:=by have:=h.len;omega
 rw[an,aN li,an,aN lj]at e2;rcases Aj i j with h|h|h
 ·exact absurd e2 (pI.1 hp i j li lj h)
 ·exact h
 ·exact absurd e2.symm (pI.1 hp j i lj li h)
end
structure LC(m:ae)(A:List (List (Int×Int)))(D:List (Nat×Nat))(G:List Int)(to:Nat)(P:List Int)(z p:Nat)(ob:List Ob):Prop where
 o0:ob[0]?=some (.var (aP m))
 o1:ob[1]?=some (.var [.tree 1 (ints G)])
 out:ob[to]?=some (.arr 1 (rowsOf eT D))
 len:D.length=A.length
 row:∀ k,z<=k->k<P.length->ob[(D.getD (P.getD k 0).toNat default).1]?=some (.arr 2 (rowsOf au (A.getD (P.getD k 0).toNat default)))/\(A.getD (P.getD k 0).toNat default).length=(D.getD (P.getD k 0).toNat default).2
 inj:∀ k k',k<P.length->k'<P.length->(D.getD (P.getD k 0).toNat default).1=(D.getD (P.getD k' 0).toNat default).1->k=k'
 new:ob[p]?=some (.arr 1 (rowsOf dO (((P.take z).map λn=>(A.getD n.toNat []).filter (g7 G)))))
 RT:p≠to
def RU{l:List Int}(h:l.Pairwise (· < ·)){i j:Nat}(hi:i<l.length)(hj:j<l.length)(e:l.getD i 0=l.getD j 0):i=j:=by
 rw[an,aN hi,an,aN hj]at e;simp only[Option.getD_some]at e;rcases Aj i j with h'|h'|h'
 ·have:=pI.1 h i j hi hj h';omega
 ·exact h'
 ·have:=pI.1 h j i hj hi h';omega
def LC.start{m:ae}{A:List (List (Int×Int))}{D:List (Nat×Nat)}{G:List Int}{to:Nat}{P:List Int}{ob:List Ob}(h0:ob[0]?=some (.var (aP m)))(h1:ob[1]?=some (.var [.tree 1 (ints G)]))(h2:ob[to]?=some (.arr 1 (rowsOf eT D)))(hr:RI au ob D A)(hA:A.Nodup)(hP:P.Pairwise (· < ·))(hb:∀ n∈P,0<=n/\n<A.length):LC m A D G to P 0 ob.length (ob++[.arr 1 []]):=by
 have bq:∀ k,k<P.length->(P.getD k 0).toNat<D.length/\0<=P.getD k 0:=λk hk=>by
  have:=hb _ (aO (d:=0) hk);rw[hr.len];omega
 refine⟨aA h0 _,aA h1 _,aA h2 _,hr.len,λk _ hk=>?_,λk k' hk aQ e=>?_,by rw[List.take_zero];exact nW _ _ _,?_⟩
 ·obtain⟨a,b⟩:=hr.row _ (bq k hk).1;exact⟨aA a _,b⟩
 ·have:=hr.apart hA (bq k hk).1 (bq k' aQ).1 e;have b1:=bq k hk;have b2:=bq k' aQ;exact RU hP hk aQ z8
 ·have:=(aF.1 h2).1;omega
def LC.step{m:ae}{A:List (List (Int×Int))}{D:List (Nat×Nat)}{G:List Int}{to:Nat}{P:List Int}{z p:Nat}{ob ob1 l:List Ob}(h:LC m A D G to P z p ob)(hz:z<P.length){y y2:Ob}{j:Nat}(hb:lA (D.getD (P.getD z 0).toNat default).1 ob ob1)(hl:l[j]?=some (.arr 1 (rowsOf dO (((P.take (z+1)).map λn=>(A.getD n.toNat []).filter (g7 G)))))):LC m A D G to P (z+1) (ob1.length+j) (((ob1.set (D.getD (P.getD z 0).toNat default).1 y).set p y2)++l):=by
 have hr:=(h.row z (Nat.le_refl _) hz).1;generalize hB:(D.getD (P.getD z 0).toNat default).1=b at *;have key:∀ i o,ob[i]?=some o->i≠b->i≠p->(((ob1.set b y).set p y2)++l)[i]?=some o:=λi o ho h1 h2=>by
  refine aA ?_ _;rw[cV (Ne.symm h2),cV (Ne.symm h1),hb.2 i h1 (aF.1 ho).1];exact ho
 refine⟨key _ _ h.o0 (λe=>?_) (λe=>?_),key _ _ h.o1 (λe=>?_) (λe=>?_),key _ _ h.out (λe=>?_) (λe=>h.RT e.symm),h.len,λk hk im=>⟨key _ _ (h.row k z8 im).1 (λe=>?_) (λe=>?_),(h.row k z8 im).2⟩,h.inj,?_,?_⟩
 ·have:=h.o0;rw[e,hr]at this;cases this
 ·have:=h.o0;rw[e,h.new]at this;cases this
 ·have:=h.o1;rw[e,hr]at this;cases this
 ·have:=h.o1;rw[e,h.new]at this;cases this
 ·have:=h.out;rw[e,hr]at this;cases this
 ·have:=h.inj k z im hz (by rw[e,hB]);omega
 ·have:=(h.row k z8 im).1;rw[e,h.new]at this;cases this
 ·have lS:ob1.length=((ob1.set b y).set p y2).length:=Eb;rw[lS,nX];exact hl
 ·have h1:=(aF.1 h.out).1;have h2:=hb.1;omega
end T

