import Derived.Test.YtodilglobhifaaaGreatDoorX34
import Derived.Test.YtodilglobhifaaaGreatDoorX32
import Derived.Test.YtodilglobhifaaaGreatDoorX33
set_option linter.all false
set_option maxHeartbeats 0
set_option maxRecDepth 20000
open List renaming nodup_iff_pairwise_ne→nR,nodup_range→Ar,mem_map→cN,nodup_cons→xQ,length_cons→cK,length_map→iS,mem_cons→cD,mem_filter→jH,getElem_of_mem→sI,getD_eq_getElem?_getD→aw,getElem?_eq_getElem→bc,mem_cons_self→xY,getElem?_map→dm,getElem?_eq_some_iff→ba,take_of_length_le→kW,mem_cons_of_mem→AF,mem_singleton→bm,pairwise_iff_getElem→sH,take_zero→Dn,getElem?_set_ne→dq,getElem?_append_right→dS,length_set→bt,replicate→ax,mem_range→kA,length_filter_le→uo,append_nil→fF,length_pos_iff→qX,drop_eq_nil_of_le→dw,length_append→aJ,append_assoc→bN,mem_append→bj,contains_iff_mem→ml,take_length→xX
open Nat renaming zero_le→aN,lt_trichotomy→Hp,le_refl→aM,add_sub_cancel_left→um
open Option renaming bind_some→nN,some→dv
open Go Go.Am Go.Proofs
namespace T
def F7(m:ah)(left:List (List Bool)):(cZ m left).Nodup:=by
 unfold cZ;rw[nR,List.pairwise_flatMap];constructor
 ·intro c _;unfold vg;refine List.Pairwise.map _ (λa b h e=>h ?_) ((nR.1 Ar).filter _);simp only[Prod.mk.injEq]at e;omega
 ·refine(nR.1 Ar).imp λ{a b} tw x hx y hy e=>tw ?_;unfold vg at hx hy;obtain⟨i,_,rfl⟩:=cN.1 hx;obtain⟨j,_,rfl⟩:=cN.1 hy;simp only[Prod.mk.injEq]at e;omega
def Rk{α:Type}[DecidableEq α]:∀ {a b:List α},a.Nodup->(∀ x∈a,x∈b)->a.length<=b.length
 |[],_,_,_=>aN _
 |x::r,b,hn,h=>by
  have hx:=h x Dg;have h1:=Rk (a:=r) (b:=b.erase x) (xQ.1 hn).2 λy hy=>(List.mem_erase_of_ne (λ(e:y=x)=>(xQ.1 hn).1 (by rw[<- e];exact hy))).2 (h y (by simp[hy]));have h2:=List.length_erase_of_mem hx;have h3:=List.length_pos_of_mem hx;rw[cK];omega
def oK.j5{X:List (Int×Int)}{cx:Int×Int->List (Int×Int)}{A:List (List (Int×Int))}(h:oK X cx A):A.length<=X.length:=by
 have:=Rk (a:=A) (b:=X.map cx) h.nd λC hC=>by
  obtain⟨x,hx,e⟩:=(h.mem C).1 hC;exact cN.2 ⟨x,hx,e.symm⟩
 rwa [iS]at this
def mi(S:List Nat)(ob:List Ob):List Ob:=ob.mapIdx λi o=>if i∈S then .gone else o
def Rl(S:List Nat)(ob:List Ob):(mi S ob).length=ob.length:=by simp[mi]
def Ad{S:List Nat}{ob:List Ob}{i:Nat}{o:Ob}(h:ob[i]?=some o):(mi S ob)[i]?=some (if i∈S then .gone else o):=by
 unfold mi;rw[List.getElem?_mapIdx,h];rfl
def Ae{S:List Nat}{ob:List Ob}{i:Nat}{o:Ob}(h:ob[i]?=some o)(hi:i ∉ S):(mi S ob)[i]?=some o:=by rw[Ad h,if_neg hi]
def ku(lp:Nat)(Q:List (Nat×List Int)):List Nat:=lp::(Q.filter λq=>decide (q.2≠[])).map (·.1)
section
variable {m:ah} {A:List (List (Int×Int))} {D:List (Nat×Nat)} {to lp:Nat} {Q:List (Nat×List Int)} {ob:List Ob}
def LB.at_(h:LB m A D to lp Q ob){i:Nat}(hi:i∈ku lp Q):∃l,ob[i]?=some (.arr 1 l)/\i≠to:=by
 rcases cD.1 hi with rfl|hi
 ·exact⟨_,h.ls,λe=>h.ne e.symm⟩
 ·obtain⟨q,hq,rfl⟩:=cN.1 hi;obtain⟨h1,h2⟩:=jH.1 hq;rw[decide_eq_true_eq]at h2;obtain⟨c,hc,rfl⟩:=sI h1;have e:Q.getD c default=Q[c]:=by rw[aw,bc hc];rfl
  have:=h.row c hc (by rw[e];exact h2);rw[e]at this;exact⟨_,this.1,this.2.1⟩
def LB.kill(h:LB m A D to lp Q ob):(mi (ku lp Q) ob)[0]?=some (.var (aA m))/\(mi (ku lp Q) ob)[1]?=some (.var [.lit (.slice none 0 0)])/\(mi (ku lp Q) ob)[to]?=some (.arr 1 (rowsOf gy D))/\RI aj (mi (ku lp Q) ob) D A:=by
 refine⟨Ae h.o0 λhi=>?_,Ae h.o1 λhi=>?_,Ae h.out λhi=>?_,h.ri.len,λj hj=>⟨Ae (h.ri.row j hj).1 λhi=>?_,(h.ri.row j hj).2⟩⟩
 ·obtain⟨l,h1,_⟩:=h.at_ hi;rw[h.o0]at h1;cases h1
 ·obtain⟨l,h1,_⟩:=h.at_ hi;rw[h.o1]at h1;cases h1
 ·exact(h.at_ hi).choose_spec.2 rfl
 ·obtain⟨l,h1,_⟩:=h.at_ hi;rw[(h.ri.row j hj).1]at h1;cases h1
def Rm(Gi:ob[lp]?=some (.arr 1 (rowsOf dj Q))){X:Nat->Prop}(aP:∀ c,c<Q.length->(Q.getD c default).2≠[]->ob[(Q.getD c default).1]?=some (.arr 1 (ints (Q.getD c default).2))/\X c)(e:Nat->AV):cA ⟨e,ob⟩ (λi=>i ∉ ku lp Q) (.tree 1 (bW (Q.map (·.2)))) (.ref lp 1 0 Q.length):=by
 have C4:∀ row∈bW (Q.map (·.2)),row.length=1:=λrow hr=>by
  unfold bW at hr;obtain⟨_,_,rfl⟩:=cN.1 hr;rfl
 refine .ref lp 1 0 Q.length _ _ (λr c=>(cellAt (rowsOf dj Q) r c).getD .undef) Gi (λhn=>hn (xY ..)) (by simp[bW,rowsOf]) C4 (λr c v hv=>?_) (λr c v hv=>?_);all_goals
  unfold cellAt at hv;by_cases hr:r<Q.length;rotate_left
  ·rw[List.getElem?_eq_none (by simp[bW];omega)]at hv;simp at hv
  have e1:(bW (Q.map (·.2)))[r]?=some [.tree 1 (ints (Q.getD r default).2)]:=by
   unfold bW;rw[dm,dm,bc hr,aw,bc hr];rfl
  rw[e1,nN]at hv;have iX:c=0:=by
   have:=(ba.1 hv).1;simp at this;exact this
  subst iX;simp only[List.getElem?_cons_zero,dv.injEq]at hv;subst hv;have e2:=F6 hr
 ·rw[List.drop_zero,kW (by simp[rowsOf])];unfold cellAt;rw[e2,nN];unfold dj;split<;>rfl
 ·unfold cellAt;rw[e2,nN];by_cases hq:(Q.getD r default).2=[]
  ·unfold dj;rw[if_pos hq,hq];exact .nil 1
  ·have e3:(dj (Q.getD r default))[0]?.getD .undef=.ref (Q.getD r default).1 1 0 (Q.getD r default).2.length:=by unfold dj;rw[if_neg hq];rfl
   rw[e3];have hm:(Q.getD r default).1∈ku lp Q:=by
    refine AF _ (cN.2 ⟨Q.getD r default,jH.2 ⟨aG hr,by rw[decide_eq_true_eq];exact hq⟩,rfl⟩)
   refine cA.flat (aP r hr hq).1 (kF _) (by rw[rj]) (λhn=>hn hm) λrow Rn v hv=>?_;unfold ints at Rn;obtain⟨x,_,rfl⟩:=cN.1 Rn;rw[bm]at hv;exact .inl ⟨_,hv⟩
def LB.BQ{n0:Nat}{e:Nat->AV}(h:LB m A D to lp Q ob)(d:Nat)(hd:e d=.ref lp 1 0 Q.length):aC n0 ⟨e,ob⟩ ⟨eY e d (.tree 1 (bW (Q.map (·.2)))),mi (ku lp Q) ob⟩:=by
 refine aC.Q6 (σ:=⟨e,ob⟩) d (λi=>i ∉ ku lp Q) (Rl _ _) (λi o ho=>?_) ?_
 ·by_cases hi:i∈ku lp Q
  ·exact .inr ⟨λhn=>hn hi,by rw[Ad ho,if_pos hi]⟩
  ·exact .inl ⟨hi,by rw[Ad ho,if_neg hi]⟩
 ·dsimp only;rw[hd];exact Rm h.ls h.row e
def RI.apart(h:RI aj ob D A)(hA:A.Nodup){i j:Nat}(hi:i<D.length)(hj:j<D.length)(e:(D.getD i default).1=(D.getD j default).1):i=j:=by
 obtain⟨h1,h2⟩:=h.row i hi;obtain⟨h3,h4⟩:=h.row j hj;rw[e,h3]at h1;simp only[dv.injEq,Ob.arr.injEq,true_and]at h1;have e2:A.getD i default=A.getD j default:=by
  have Y0:∀ a b:List (Int×Int),rowsOf aj a=rowsOf aj b->a=b:=λa b tw=>by
   unfold rowsOf at tw;exact List.map_inj_right (λx y fJ=>by unfold aj at fJ;simp at fJ;exact Prod.ext fJ.1 fJ.2) |>.1 tw
  exact(Y0 _ _ h1).symm
 have hp:=nR.1 hA;have li:i<A.length:=by have:=h.len;omega
 have lj:j<A.length:=by have:=h.len;omega
 rw[aw,bc li,aw,bc lj]at e2;rcases Hp i j with h|h|h
 ·exact absurd e2 (sH.1 hp i j li lj h)
 ·exact h
 ·exact absurd e2.symm (sH.1 hp j i lj li h)
end
structure LC(m:ah)(A:List (List (Int×Int)))(D:List (Nat×Nat))(G:List Int)(to:Nat)(P:List Int)(z p:Nat)(ob:List Ob):Prop where
 o0:ob[0]?=some (.var (aA m))
 o1:ob[1]?=some (.var [.tree 1 (ints G)])
 out:ob[to]?=some (.arr 1 (rowsOf gy D))
 len:D.length=A.length
 row:∀ k,z<=k->k<P.length->ob[(D.getD (P.getD k 0).toNat default).1]?=some (.arr 2 (rowsOf aj (A.getD (P.getD k 0).toNat default)))/\(A.getD (P.getD k 0).toNat default).length=(D.getD (P.getD k 0).toNat default).2
 inj:∀ k k',k<P.length->k'<P.length->(D.getD (P.getD k 0).toNat default).1=(D.getD (P.getD k' 0).toNat default).1->k=k'
 new:ob[p]?=some (.arr 1 (rowsOf aH (((P.take z).map λn=>(A.getD n.toNat []).filter (eG G)))))
 Y1:p≠to
def Y2{l:List Int}(h:l.Pairwise (· < ·)){i j:Nat}(hi:i<l.length)(hj:j<l.length)(e:l.getD i 0=l.getD j 0):i=j:=by
 rw[aw,bc hi,aw,bc hj]at e;simp only[Option.getD_some]at e;rcases Hp i j with h'|h'|h'
 ·have:=sH.1 h i j hi hj h';omega
 ·exact h'
 ·have:=sH.1 h j i hj hi h';omega
def LC.start{m:ah}{A:List (List (Int×Int))}{D:List (Nat×Nat)}{G:List Int}{to:Nat}{P:List Int}{ob:List Ob}(h0:ob[0]?=some (.var (aA m)))(h1:ob[1]?=some (.var [.tree 1 (ints G)]))(h2:ob[to]?=some (.arr 1 (rowsOf gy D)))(hr:RI aj ob D A)(hA:A.Nodup)(hP:P.Pairwise (· < ·))(hb:∀ n∈P,0<=n/\n<A.length):LC m A D G to P 0 ob.length (ob++[.arr 1 []]):=by
 have bS:∀ k,k<P.length->(P.getD k 0).toNat<D.length/\0<=P.getD k 0:=λk hk=>by
  have:=hb _ (aG (d:=0) hk);rw[hr.len];omega
 refine⟨aD h0 _,aD h1 _,aD h2 _,hr.len,λk _ hk=>?_,λk k' hk aQ e=>?_,by rw[Dn];exact pG _ _ _,?_⟩
 ·obtain⟨a,b⟩:=hr.row _ (bS k hk).1;exact⟨aD a _,b⟩
 ·have:=hr.apart hA (bS k hk).1 (bS k' aQ).1 e;have b1:=bS k hk;have b2:=bS k' aQ;exact Y2 hP hk aQ Ay
 ·have:=(ba.1 h2).1;omega
def LC.step{m:ah}{A:List (List (Int×Int))}{D:List (Nat×Nat)}{G:List Int}{to:Nat}{P:List Int}{z p:Nat}{ob ob1 l:List Ob}(h:LC m A D G to P z p ob)(hz:z<P.length){y y2:Ob}{j:Nat}(hb:nH (D.getD (P.getD z 0).toNat default).1 ob ob1)(hl:l[j]?=some (.arr 1 (rowsOf aH (((P.take (z+1)).map λn=>(A.getD n.toNat []).filter (eG G)))))):LC m A D G to P (z+1) (ob1.length+j) (((ob1.set (D.getD (P.getD z 0).toNat default).1 y).set p y2)++l):=by
 have hr:=(h.row z (aM _) hz).1;generalize hB:(D.getD (P.getD z 0).toNat default).1=b at *;have key:∀ i o,ob[i]?=some o->i≠b->i≠p->(((ob1.set b y).set p y2)++l)[i]?=some o:=λi o ho h1 h2=>by
  refine aD ?_ _;rw[dq (Ne.symm h2),dq (Ne.symm h1),hb.2 i h1 (ba.1 ho).1];exact ho
 refine⟨key _ _ h.o0 (λe=>?_) (λe=>?_),key _ _ h.o1 (λe=>?_) (λe=>?_),key _ _ h.out (λe=>?_) (λe=>h.Y1 e.symm),h.len,λk hk eT=>⟨key _ _ (h.row k Ay eT).1 (λe=>?_) (λe=>?_),(h.row k Ay eT).2⟩,h.inj,?_,?_⟩
 ·have:=h.o0;rw[e,hr]at this;cases this
 ·have:=h.o0;rw[e,h.new]at this;cases this
 ·have:=h.o1;rw[e,hr]at this;cases this
 ·have:=h.o1;rw[e,h.new]at this;cases this
 ·have:=h.out;rw[e,hr]at this;cases this
 ·have:=h.inj k z eT hz (by rw[e,hB]);omega
 ·have:=(h.row k Ay eT).1;rw[e,h.new]at this;cases this
 ·have iK:ob1.length=((ob1.set b y).set p y2).length:=Dg;rw[iK,pH];exact hl
 ·have h1:=(ba.1 h.out).1;have h2:=hb.1;omega
structure LR(F:List (Nat×Ob))(lp:Nat)(Q:List (Nat×List Int))(ob:List Ob):Prop where
 fx:∀ p∈F,ob[p.1]?=some p.2
 qP:∀ p∈F,p.1≠lp/\∀ c,c<Q.length->(Q.getD c default).2≠[]->p.1≠(Q.getD c default).1
 ls:ob[lp]?=some (.arr 1 (rowsOf dj Q))
 row:∀ c,c<Q.length->(Q.getD c default).2≠[]->ob[(Q.getD c default).1]?=some (.arr 1 (ints (Q.getD c default).2))/\(Q.getD c default).1≠lp
 inj:∀ c c',c<Q.length->c'<Q.length->(Q.getD c default).2≠[]->(Q.getD c' default).2≠[]->(Q.getD c default).1=(Q.getD c' default).1->c=c'
section
variable {F F':List (Nat×Ob)} {lp:Nat} {Q:List (Nat×List Int)} {ob l:List Ob}
def LR.app(h:LR F lp Q ob)(l:List Ob):LR F lp Q (ob++l) :=
 ⟨λp hp=>aD (h.fx p hp) l,h.qP,aD h.ls l,λc hc hn=>⟨aD (h.row c hc hn).1 l,(h.row c hc hn).2⟩,h.inj⟩
def LR.grow(h:LR F lp Q ob){c:Nat}(hc:c<Q.length){n:Int}{ob1:List Ob}{b:Nat}(hk:∀ k o,ob[k]?=some o->((Q.getD c default).2≠[]->k≠(Q.getD c default).1)->ob1[k]?=some o)(hl1:ob1.length=ob.length)(h2:l[b]?=some (.arr 1 (ints ((Q.getD c default).2++[n])))):
  LR F lp (Q.set c (ob.length+b,(Q.getD c default).2++[n])) (ob1.set lp (.arr 1 (rowsOf dj (Q.set c (ob.length+b,(Q.getD c default).2++[n]))))++l):=by
 have Co:lp<ob.length:=fZ h.ls;have k3:=hk _ _ h.ls (λhn e=>(h.row c hc hn).2 e.symm);have vH:∀ i o,ob1[i]?=some o->i≠lp->∀ y,(ob1.set lp y)[i]?=some o:=λi o hi hn y=>by rw[dq (Ne.symm hn)];exact hi
 have kK:(ob1.set lp (.arr 1 (rowsOf dj (Q.set c (ob.length+b,(Q.getD c default).2++[n]))))++l)[ob.length+b]?=some (.arr 1 (ints ((Q.getD c default).2++[n]))):=by
  rw[dS aab,bt,hl1,um];exact h2
 refine⟨λp hp=>aD (vH _ _ (hk _ _ (h.fx p hp) λhn=>(h.qP p hp).2 c hc hn) (h.qP p hp).1 _) l,λp hp=>⟨(h.qP p hp).1,λk eT hn=>?_⟩,aD (jB k3) l,λk eT hn=>?_,λk k' eT vI hn fC e=>?_⟩
 ·rw[bt]at eT;rw[qM _ _ _ _ hc]at hn ⊢;split at hn
  ·rename_i e;rw[if_pos e];have:=fZ (h.fx p hp);dsimp only;omega
  ·rename_i e;rw[if_neg e];exact(h.qP p hp).2 k eT hn
 ·rw[bt]at eT;rw[qM _ _ _ _ hc]at hn ⊢;split at hn
  ·rename_i e;rw[if_pos e];exact⟨kK,aaa⟩
  ·rename_i e;rw[if_neg e];have hr:=h.row k eT hn;exact⟨aD (vH _ _ (hk _ _ hr.1 (λiV e2=>e (h.inj k c eT hc hn iV e2))) hr.2 _) l,hr.2⟩
 ·rw[bt]at eT vI;rw[qM _ _ _ _ hc]at hn e;rw[qM _ _ _ _ hc]at fC e;by_cases h1:k=c<;>by_cases h3:k'=c
  ·exact h1.trans h3.symm
  ·rw[if_pos h1,if_neg h3]at e;rw[if_neg h3]at fC;have:=fZ (h.row k' vI fC).1;dsimp only at e;omega
  ·rw[if_neg h1,if_pos h3]at e;rw[if_neg h1]at hn;have:=fZ (h.row k eT hn).1;dsimp only at e;omega
  ·rw[if_neg h1,if_neg h3]at e;rw[if_neg h1]at hn;rw[if_neg h3]at fC;exact h.inj k k' eT vI hn fC e
def LR.start{N:Nat}(hF:∀ p∈F,ob[p.1]?=some p.2):LR F ob.length (ax N (0,[])) (ob++[.arr 1 (ax N [.lit (.slice none 0 0)])]):=by
 have hz:∀ c,((ax N ((0:Nat),([]:List Int))).getD c default).2=[]:=λc=>by
  have:=@LB.zero N c;exact List.length_eq_zero_iff.1 this
 refine⟨λp hp=>aD (hF p hp) _,λp hp=>⟨by have:=fZ (hF p hp);omega,λc _ hn=>absurd (hz c) hn⟩,?_,λc _ hn=>absurd (hz c) hn,λc c' _ _ hn=>absurd (hz c) hn⟩;rw[show rowsOf dj (ax N ((0:Nat),([]:List Int)))=ax N [.lit (.slice none 0 0)] by unfold rowsOf;rw[List.map_replicate];rfl];exact pG _ _ _
def LR.swap(h:LR F lp Q ob){t:Nat}{o:Ob}(ht:(t,o)∈F)(hF:∀ p∈F',(p∈F/\p.1≠t)\/∃ j,p.1=ob.length+j/\l[j]?=some p.2):LR F' lp Q (ob.set t .gone++l):=by
 have Co:lp<ob.length:=fZ h.ls;obtain⟨d1,d2⟩:=h.qP _ ht;dsimp only at d1 d2;have key:∀ i o,ob[i]?=some o->i≠t->(ob.set t .gone++l)[i]?=some o:=λi o hi hn=>aD (by rw[dq (Ne.symm hn)];exact hi) l;refine⟨λp hp=>?_,λp hp=>?_,key _ _ h.ls (Ne.symm d1),λc hc hn=>⟨key _ _ (h.row c hc hn).1 (Ne.symm (d2 c hc hn)),(h.row c hc hn).2⟩,h.inj⟩
 ·rcases hF p hp with⟨h1,h2⟩|⟨j,h1,h2⟩
  ·exact key _ _ (h.fx p h1) h2
  ·rw[h1,dS Dg,bt,um];exact h2
 ·rcases hF p hp with⟨h1,h2⟩|⟨j,h1,h2⟩
  ·exact h.qP p h1
  ·exact⟨Ay,λc hc hn=>by have:=fZ (h.row c hc hn).1;omega⟩
def LR.more(h:LR F lp Q ob)(hF:∀ p∈F',p∈F\/∃ j,p.1=ob.length+j/\l[j]?=some p.2):LR F' lp Q (ob++l):=by
 have Co:lp<ob.length:=fZ h.ls;refine⟨λp hp=>?_,λp hp=>?_,aD h.ls l,λc hc hn=>⟨aD (h.row c hc hn).1 l,(h.row c hc hn).2⟩,h.inj⟩
 ·rcases hF p hp with h1|⟨j,h1,h2⟩
  ·exact aD (h.fx p h1) l
  ·rw[h1,pH];exact h2
 ·rcases hF p hp with h1|⟨j,h1,h2⟩
  ·exact h.qP p h1
  ·exact⟨Ay,λc hc hn=>by have:=fZ (h.row c hc hn).1;omega⟩
def LR.at_(h:LR F lp Q ob){i:Nat}(hi:i∈ku lp Q):∀ p∈F,p.1≠i:=λp hp=>by
 rcases cD.1 hi with rfl|hi
 ·exact(h.qP p hp).1
 ·obtain⟨q,hq,rfl⟩:=cN.1 hi;obtain⟨h1,h2⟩:=jH.1 hq;rw[decide_eq_true_eq]at h2;obtain⟨c,hc,rfl⟩:=sI h1;have e:Q.getD c default=Q[c]:=by rw[aw,bc hc];rfl
  have:=(h.qP p hp).2 c hc (by rw[e];exact h2);rwa [e]at this
def LR.kill(h:LR F lp Q ob):∀ p∈F,(mi (ku lp Q) ob)[p.1]?=some p.2:=λp hp=>Ae (h.fx p hp) λhi=>h.at_ hi p hp rfl
def LR.BQ{n0:Nat}{e:Nat->AV}(h:LR F lp Q ob)(d:Nat)(hd:e d=.ref lp 1 0 Q.length):aC n0 ⟨e,ob⟩ ⟨eY e d (.tree 1 (bW (Q.map (·.2)))),mi (ku lp Q) ob⟩:=by
 refine aC.Q6 (σ:=⟨e,ob⟩) d (λi=>i ∉ ku lp Q) (Rl _ _) (λi o ho=>?_) ?_
 ·by_cases hi:i∈ku lp Q
  ·exact .inr ⟨λhn=>hn hi,by rw[Ad ho,if_pos hi]⟩
  ·exact .inl ⟨hi,by rw[Ad ho,if_neg hi]⟩
 ·dsimp only;rw[hd];exact Rm h.ls h.row e
end
def Ro{m:ah}{X:List (Int×Int)}{x:Int×Int}:∀ (l:List (Int×Int)) (s:List (List (Int×Int))×List (List Int)),mP m X (l++[x]) s=wS m X (mP m X l s) x
 |[],s=>rfl
 |y::r,s=>by rw[List.cons_append,mP,mP,Ro r]
def Y3{m:ah}{left:List (List Bool)}{c i:Nat}(hc:c<m.cls.length)(hi:i<(m.cls.getD c default).length)(h:(left.getD c default).getD i false=true):((c:Int),(i:Int))∈cZ m left:=by
 unfold cZ;refine List.mem_flatMap.2 ⟨c,kA.2 hc,?_⟩;unfold vg;exact cN.2 ⟨i,jH.2 ⟨kA.2 hi,h⟩,rfl⟩
def Y4{m:ah}(hw:WK m){X:List (Int×Int)}(hX:X.Nodup)(aV:∀ y∈X,iB m y){x:Int×Int}(hx:x∈X):qG m X x≠[]/\(qG m X x).length<=X.length/\∀ y∈qG m X x,iB m y:=by
 have dQ:=tj m X;rw[OL hw hX hx];refine⟨dQ.ne hx,?_,λy hy=>aV y (dQ.sub x hx y hy).1⟩;unfold gu;split
 ·exact uo _ _
 ·have:=List.length_pos_of_mem hx;simp;omega
def XG{m:ah}(hm:VM m)(hw:WK m){left:List (List Bool)}(hf:jd m left)(mI:BB left)(res:List Int×List (List (Int×Int))×Bool)(pN:rS (tq m (cZ m left)).1 (tq m (cZ m left)).2=res):
  ao Tryz.prog 14 [.agg (aA m),.tree 1 (rowsOf bE left)] [] (.bP [.tree 1 (ints res.1),.tree 1 (rowsOf aH res.2.1),.lit (.bool res.2.2)]) []:=by
 have h1:=FX m hm.mb;rw[yT.2 hm]at h1;have h2:=PZ m left hm.mb mI;rw[decide_eq_true hf]at h2;have Cm:=hm.cls;have fV:=hf.1;have j4:∀ c i,c<m.cls.length\/i=0/\c<=m.cls.length->i<=(m.cls.getD c default).length->∀ x∈XP m left c i,iB m x:=λc i h1 h2=>zJ h1 h2;have zQ:=F7 m left;have Ge:=xe hm.opt (left:=left) m.cls.length 0 (aM _) Ay;have si:=j4 m.cls.length 0 (.inr ⟨rfl,aM _⟩) (aN _);rw[pR]at Ge si;have Y5:=λc i=>Y3 (m:=m) (left:=left) (c:=c) (i:=i);generalize Gb:cZ m left=X at *;refine ao.aO 179 0 [.tmp 4,.tmp 5,.tmp 6] Tryz.func14 ?_;((try revert hK K);(repeat'(first|refine Vc X0 (X2 h1 h2) ?_|(refine V2 X0 ?_ ?_<;>try with_reducible intro hb)|(refine Xi ?_ ?_<;>try intro ht)|refine VD ?_ ?_|exact Xx|fail))<;>try with_reducible intro K hK)
 have Rp:=(LR.start (F:=[(0,.var (aA m))]) (N:=m.cls.length) (ob:=[.var (aA m)]) (λp hp=>by rw[bm]at hp;subst hp;rfl)).more (l:=[.arr 1 []]) (F':=[(0,.var (aA m)),(2,.arr 1 (rowsOf aH []))]) (λp hp=>by
  rcases cD.1 hp with rfl|hp
  ·exact .inl Dg
  ·rw[bm]at hp;subst hp;exact .inr ⟨0,rfl,rfl⟩)
 refine aX (λz:Nat×List Ob×Nat×List (List (Int×Int))×List (Nat×List Int)=>(⟨au [(1,.tree 1 (rowsOf bE left)),(2,.ptr 0 0 0),(7,.ref z.2.2.1 1 0 z.2.2.2.1.length),(8,.ref 1 1 0 m.cls.length),(9,aah z.1)],z.2.1⟩:St))
  (λz=>z.1<=m.cls.length/\LR [(0,.var (aA m)),(z.2.2.1,.arr 1 (rowsOf aH z.2.2.2.1))] 1 z.2.2.2.2 z.2.1/\z.2.2.2.2.length=m.cls.length/\mP m X (XP m left z.1 0) ([],ax m.cls.length [])=(z.2.2.2.1,z.2.2.2.2.map (·.2))/\z.2.2.2.1.length<=24*z.1/\(∀ c,(z.2.2.2.2.getD c default).2.length<=24*z.1)/\∀ D∈z.2.2.2.1,D≠[]/\D.length<=600/\∀ y∈D,iB m y)
  (λz=>m.cls.length-z.1) (0,_,2,[],ax m.cls.length (0,[])) ⟨aN _,Rp,Dg,by rw[YA];dsimp only;rw[LB.len];rfl,aN _,λc=>by dsimp only;rw[LB.zero];exact aN _,Dg⟩ ?_ ?_
 ·refine aC.trans (aC.nil 7 1 (by simp only[Kc,simprocAttr]) Ha) ?_;exact Xv X0
 clear Rp;rintro⟨c,ob,tc,A,Q⟩⟨hc,hR,jE,iU,r9,jF,mW⟩Ql an ay;dsimp only at hc hR jE iU r9 jF mW ⊢;have f0:=hR.fx _ (xY ..);dsimp only at f0;have e0:=aD f0;by_cases jr:c<m.cls.length
 ·have QC:=hm.opt _ (aG (l:=m.cls) (i:=c) (d:=default) jr);have bl:=hf.2 c Ay;have iC:=CN m left c;have aaA:=j4 c;generalize aP:m.cls.getD c default=row at *;generalize dt:left.getD c default=lc at *;((try revert hK K);(repeat'(first|refine Va (X5 @f0 @e0 @aP @aA.eq_1 @bk.eq_1) ?_|(refine V2 (X5 @f0 @e0 @aP @aA.eq_1 @bk.eq_1) ?_ ?_<;>try with_reducible intro hb)|(refine Xi ?_ ?_<;>try intro ht)|refine VD ?_ ?_|exact Xx|fail))<;>try with_reducible intro K hK)
  refine aX (λz:Nat×List Ob×Nat×List (List (Int×Int))×List (Nat×List Int)=>(⟨au [(1,.tree 1 (rowsOf bE left)),(2,.ptr 0 0 0),(7,.ref z.2.2.1 1 0 z.2.2.2.1.length),(8,.ref 1 1 0 m.cls.length),(9,aah c),(10,aah z.1)],z.2.1⟩:St))
   (λz=>z.1<=row.length/\LR [(0,.var (aA m)),(z.2.2.1,.arr 1 (rowsOf aH z.2.2.2.1))] 1 z.2.2.2.2 z.2.1/\z.2.2.2.2.length=m.cls.length/\mP m X (XP m left c z.1) ([],ax m.cls.length [])=(z.2.2.2.1,z.2.2.2.2.map (·.2))/\z.2.2.2.1.length<=24*c+z.1/\(∀ c',(z.2.2.2.2.getD c' default).2.length<=24*c+z.1)/\∀ D∈z.2.2.2.1,D≠[]/\D.length<=600/\∀ y∈D,iB m y)
   (λz=>row.length-z.1) (0,ob,tc,A,Q) ⟨aN _,hR,jE,iU,r9,jF,mW⟩ ?_ ?_
  ·exact Xv X0
  clear hR jE iU r9 jF mW f0 e0;rintro⟨i,ob,tc,A,Q⟩⟨hi,hR,jE,iU,r9,jF,mW⟩cC aS bf;dsimp only at hi hR jE iU r9 jF mW ⊢;have f0:=hR.fx _ (xY ..);have fc:=hR.fx _ (AF _ (xY ..));have fl:=hR.ls;dsimp only at f0 fc;have e0:=aD f0;have ec:=aD fc;have el:=aD fl;by_cases hi':i<row.length;rotate_left
  ·((try revert hK K);(repeat'(first|refine Va (X5 @f0 @e0 @aP @aA.eq_1 @bk.eq_1) ?_|(refine V2 (X5 @f0 @e0 @aP @aA.eq_1 @bk.eq_1) ?_ ?_<;>try with_reducible intro hb)|(refine Xi ?_ ?_<;>try intro ht)|refine VD ?_ ?_|exact Xx|fail))<;>try with_reducible intro K hK)
   refine bf _ _ rfl ?_;clear aS bf cC;repeat(first|refine Xu ?_)
   ((try revert hK K);(repeat'(first|refine Va X0 ?_|(refine V2 X0 ?_ ?_<;>try with_reducible intro hb)|(refine Xi ?_ ?_<;>try intro ht)|refine VD ?_ ?_|exact Xx|fail))<;>try with_reducible intro K hK)
   have nB:i=row.length:=Ay;refine an _ (c+1,ob,tc,A,Q) ⟨aaa,hR,jE,by dsimp only;rw[iC,<- nB];exact iU,aaa,λc'=>by have:=jF c';dsimp only;omega,mW⟩ aaa (Xv X0)
  have eb:=Gu m left c i;rw[dt]at eb;have kL:lc.getD i default=lc.getD i false:=rfl;generalize lq:lc.getD i false=lb at *;cases lb
  ·rw[if_neg Dg,fF]at eb;((try revert hK K);(repeat'(first|refine Va (X5 @f0 @e0 @aP @dt (X5 @kL @lq @aA.eq_1 @bk.eq_1 @bE.eq_1)) ?_|(refine V2 (X5 @f0 @e0 @aP @dt (X5 @kL @lq @aA.eq_1 @bk.eq_1 @bE.eq_1)) ?_ ?_<;>try with_reducible intro hb)|(refine Xi ?_ ?_<;>try intro ht)|refine VD ?_ ?_|exact Xx|fail))<;>try with_reducible intro K hK)
   refine aS _ (i+1,ob,tc,A,Q) ⟨aaa,hR,jE,by dsimp only;rw[eb];exact iU,aaa,λc'=>by have:=jF c';dsimp only;omega,mW⟩ aaa (Xv X0)
  rw[if_pos rfl]at eb;have Y6:iB m ((c:Int),(i:Int)):=by
   refine⟨⟨aaa,aaa⟩,aaa,?_⟩;show(i:Int)<(m.cls.getD (Int.toNat (c:Int)) default).length;rw[Int.toNat_natCast,aP];omega
  have dX:=Y7 hm hw hf ((c:Int),(i:Int)) Y6;rw[Gb]at dX;have mG:mP m X (XP m left c (i+1)) ([],ax m.cls.length [])=wS m X (A,Q.map (·.2)) ((c:Int),(i:Int)):=by rw[eb,Ro,iU]
  unfold wS at mG;dsimp only at mG;have Y8:=Y5 c i jr (by rw[aP];exact hi') (by rw[dt];exact lq);obtain⟨c1,c2,c3⟩:=Y4 hw zQ si Y8;generalize qG m X ((c:Int),(i:Int))=C at *;have Y9:=qX.2 c1;have Rq:=nC C Y9;have xf:(rowsOf aj C).length=C.length:=by simp[rowsOf]
  have lr:(rowsOf aH A).length=A.length:=by simp[rowsOf]
  simp only[aA,aj]at dX;((try revert hK K);(repeat'(first|refine Vc (X5 @f0 @e0 @aP @dt (X5 @kL @lq @aA.eq_1 @bk.eq_1 (X2 @bE.eq_1 @aj.eq_1))) dX ?_|(refine V2 (X5 @f0 @e0 @aP @dt (X5 @kL @lq @aA.eq_1 @bk.eq_1 (X2 @bE.eq_1 @aj.eq_1))) ?_ ?_<;>try with_reducible intro hb)|(refine Xi ?_ ?_<;>try intro ht)|refine VD ?_ ?_|exact Xx|fail))<;>try with_reducible intro K hK)
  generalize FA:rR (bM C) A 0 (-1)=a at *;have Y':bM C=C.getD 0 default:=rfl;generalize Rr:C.getD 0 default=h0 at *;rw[Y']at FA;refine aX (λz:Nat×Int=>(⟨au [(1,.tree 1 (rowsOf bE left)),(2,.ptr 0 0 0),(7,.ref tc 1 0 A.length),(8,.ref 1 1 0 m.cls.length),(9,aah c),(10,aah i),(11,.tree 2 (rowsOf aj C)),(12,aah z.2),(13,aah z.1)],ob⟩:St))
   (λz=>z.1<=A.length/\rR h0 (A.drop z.1) z.1 z.2=a/\-1<=z.2/\z.2<z.1) (λz=>A.length-z.1) (0,-1) ⟨aN _,FA,Ha,Ha⟩ ?_ ?_
  ·exact Xv X0
  rintro⟨k,v⟩⟨hk,hr,nZ,qc⟩jC eH dJ;dsimp only at hk hr nZ qc ⊢;by_cases aQ:k<A.length
  ·have hD:=mW _ (aG (l:=A) (i:=k) (d:=default) aQ);have kq:(rowsOf aH A)[k]?=some (aH (A.getD k default)):=nc _ _ Ay;rw[cF A k default aQ,rR]at hr;generalize vN:A.getD k default=D at *;have Za:=qX.2 hD.1;have Rs:=nC D Za;have mU:(rowsOf aj D).length=D.length:=by simp[rowsOf]
   unfold bM at hr;generalize FL:D.getD 0 default=d0 at *;((try revert hK K);(repeat'(first|refine Va (X5 @fc @ec @lr @kq (X5 @vN @Rs @mU @FL (X5 @Rq @xf @Rr @aH.eq_1 @aj.eq_1))) ?_|(refine V2 (X5 @fc @ec @lr @kq (X5 @vN @Rs @mU @FL (X5 @Rq @xf @Rr @aH.eq_1 @aj.eq_1))) ?_ ?_<;>try with_reducible intro hb)|(refine Xi ?_ ?_<;>try intro ht)|refine VD ?_ ?_|exact Xx|fail))<;>try with_reducible intro K hK)
   all_goals try(exfalso;omega)
   ·exact GN
   ·exact GO
   ·have e:d0=h0:=by
     simp only[List.cons.injEq,and_true]at ht;exact Prod.ext ht.1 ht.2
    rw[if_pos e]at hr;exact eH _ (k+1,(k:Int)) ⟨aaa,hr,aaa,aaa⟩ aaa (Xv X0)
   ·rw[if_neg (λe=>ht (by rw[e]))]at hr;exact eH _ (k+1,v) ⟨aaa,hr,nZ,aaa⟩ aaa (Xv X0)
  ·((try revert hK K);(repeat'(first|refine Va (X3 @fc @ec @lr) ?_|(refine V2 (X3 @fc @ec @lr) ?_ ?_<;>try with_reducible intro hb)|(refine Xi ?_ ?_<;>try intro ht)|refine VD ?_ ?_|exact Xx|fail))<;>try with_reducible intro K hK)
   refine dJ _ _ rfl ?_;clear eH dJ jC;repeat(first|refine Xu ?_)
   rw[dw Ay,rR]at hr;subst hr;repeat'(first|((fail_if_success (first|refine gP 19 ?_|refine gQ 19 ?_));refine Xr X0 ?_;intro K hK)|refine Xo X0 ?_|(refine hK _ ?_;clear hK K)|(refine Xg X0 ?_ ?_<;>try intro hb)|(refine Xi ?_ ?_<;>try intro ht)|refine Xy ?_|refine Xd ?_ ?_|exact Xx|fail)
   refine EP ?_;intro Q' jG pU;have key:∀ (jf:List Ob) (xz:Nat) (A2:List (List (Int×Int))) (n:Nat),LR [(0,.var (aA m)),(xz,.arr 1 (rowsOf aH A2))] 1 Q jf->mP m X (XP m left c (i+1)) ([],ax m.cls.length [])=(A2,(Q.map (·.2)).set c ((Q.map (·.2)).getD c []++[(n:Int)]))->A2.length<=24*c+i+1->n<1000000->(∀ D∈A2,D≠[]/\D.length<=600/\∀ y∈D,iB m y) ->
     ∀ s,aC 0 s ⟨au [(1,.tree 1 (rowsOf bE left)),(2,.ptr 0 0 0),(7,.ref xz 1 0 A2.length),(8,.ref 1 1 0 m.cls.length),(9,aah c),(10,aah i),(12,aah n)],jf⟩->Q' .normal s:=by
    clear hR r9 mW f0 fc fl e0 ec el mG iU lr;intro jf xz A2 n hR mG r9 hn mW s je;refine jG _ (cE je ?_);clear je jG pU;have fl:=hR.ls;have el:=aD fl;have sl:=iq fl;have nD:c<Q.length:=Ay;have cT:=λob1 b l=>hR.grow nD (n:=(n:Int)) (ob1:=ob1) (b:=b) (l:=l);have Cs:=F6 nD;have zM:=hR.row c nD;have F5:=jF c;have C5:(rowsOf dj Q).length=Q.length:=by simp[rowsOf]
    have Zb:(Q.map (·.2)).getD c []=(Q.getD c default).2:=by
     rw[aw,dm,bc nD,aw,bc nD];rfl
    rw[Zb]at mG;generalize kR:Q.getD c default=q at *;obtain⟨qp,qx⟩:=q;dsimp only at mG F5;have fin:∀ (p:Nat) (tK:List Ob),LR [(0,.var (aA m)),(xz,.arr 1 (rowsOf aH A2))] 1 (Q.set c (p,qx++[(n:Int)])) tK->∀ s,aC 0 s ⟨au [(1,.tree 1 (rowsOf bE left)),(2,.ptr 0 0 0),(7,.ref xz 1 0 A2.length),(8,.ref 1 1 0 m.cls.length),(9,aah c),(10,aah ((i+1:Nat):Int))],tK⟩->cC .normal s:=λp tK h3 s je =>
     aS s (i+1,tK,xz,A2,Q.set c (p,qx++[(n:Int)])) ⟨aaa,h3,by simpa using jE,by dsimp only;rw[mG,List.map_set],r9,λc'=>by
      dsimp only;rw[qM _ _ _ _ nD];have:=jF c';split
      ·simp only[aJ,List.length_singleton];omega
      ·omega,mW⟩ aaa je
    by_cases pT:qx=[]
    ·subst pT;have hE:dj (qp,[])=[.lit (.slice none 0 0)]:=rfl;have Af:(rowsOf dj Q).set c [.ref (jf.length+1) 1 0 1]=rowsOf dj (Q.set c (jf.length+1,[(n:Int)])):=sS (enc:=dj) Q c (jf.length+1,[(n:Int)]);have r3:∀ u v:AV,[u].set 0 v=[v]:=λ_ _=>rfl;have r4:∀ u:AV,[u].length=1:=λ_=>rfl;have hG:=cT jf 1 [.arr 1 [[aah n]],.arr 1 [[aah n]]] (λk o h _=>h) rfl rfl;((try revert hK K);(repeat'(first|refine Va (X5 @fl @el @sl @C5 (X5 @kR @hE @Af @r3 (X4 @r4 @bz @bN.{0} @aJ.{0}))) ?_|(refine V2 (X5 @fl @el @sl @C5 (X5 @kR @hE @Af @r3 (X4 @r4 @bz @bN.{0} @aJ.{0}))) ?_ ?_<;>try with_reducible intro hb)|(refine Xi ?_ ?_<;>try intro ht)|refine VD ?_ ?_|exact Xx|fail))<;>try with_reducible intro K hK)
     refine fin _ _ hG _ ?_;exact Xv X0
    ·have hE:dj (qp,qx)=[.ref qp 1 0 qx.length]:=by unfold dj;rw[if_neg pT]
     obtain⟨jG,zN⟩:=zM pT;dsimp only at jG zN;have xg:=aD jG;have Cu:=iq jG;have P9:=qX.2 pT;have Af:(rowsOf dj Q).set c [.ref (jf.length+1) 1 0 (qx.length+1)]=rowsOf dj (Q.set c (jf.length+1,qx++[(n:Int)])):=by
      have h:=sS (enc:=dj) Q c (jf.length+1,qx++[(n:Int)]);rwa [show dj (jf.length+1,qx++[(n:Int)])=[.ref (jf.length+1) 1 0 (qx.length+1)] by unfold dj;rw[if_neg Dg];simp]at h
     have r3:∀ u v:AV,[u].set 0 v=[v]:=λ_ _=>rfl;have r4:∀ u:AV,[u].length=1:=λ_=>rfl;have uH:ints qx++[[aah n]]=ints (qx++[(n:Int)]):=by simp[ints]
     have sa:(jf.set qp .gone)[1]?=some (.arr 1 (rowsOf dj Q)):=by rw[dq zN];exact fl
     have Cv:=aD sa;have Cw:=iq sa;have jD:=λ(l:List Ob) (k:Nat)=>mg jf l qp k .gone;have xh:∀ l:List Ob,(jf.set qp .gone++l)[jf.length]?=l[0]?:=λl=>mg jf l qp 0 .gone;have hG:=cT (jf.set qp .gone) 1 [.arr 1 [[aah n]],.arr 1 (ints (qx++[(n:Int)]))] (λk o h bI=>by rw[dq (Ne.symm (bI pT))];exact h) Dg rfl;((try revert hK K);(repeat'(first|refine Va (X5 @fl @el @sl @jG (X5 @xg @Cu @sa @Cv (X5 @Cw @jD @xh @uH (X5 @C5 @kR @hE @Af (X5 @r3 @r4 @bz @bN.{0} (X2 @aJ.{0} @bt.{0})))))) ?_|(refine V2 (X5 @fl @el @sl @jG (X5 @xg @Cu @sa @Cv (X5 @Cw @jD @xh @uH (X5 @C5 @kR @hE @Af (X5 @r3 @r4 @bz @bN.{0} (X2 @aJ.{0} @bt.{0})))))) ?_ ?_<;>try with_reducible intro hb)|(refine Xi ?_ ?_<;>try intro ht)|refine VD ?_ ?_|exact Xx|fail))<;>try with_reducible intro K hK)
     refine fin _ _ hG _ ?_;exact Xv X0
   have sc:=iq fc;have GP:(0:Nat)≠tc:=λe=>by rw[<- e,f0]at fc;cases fc
   have gT:rowsOf aH A++[[.tree 2 (rowsOf aj C)]]=rowsOf aH (A++[C]):=by simp[rowsOf,aH]
   have Rt:List.take A.length (rowsOf aH A)=rowsOf aH A:=kW Ay;((try revert hK K);(repeat'(first|refine Va (X5 @fc @ec @sc @lr (X5 @Rt @gT @bz @bN.{0} (X2 @aJ.{0} @bt.{0}))) ?_|(refine V2 (X5 @fc @ec @sc @lr (X5 @Rt @gT @bz @bN.{0} (X2 @aJ.{0} @bt.{0}))) ?_ ?_<;>try with_reducible intro hb)|(refine Xi ?_ ?_<;>try intro ht)|refine VD ?_ ?_|exact Xx|fail))<;>try with_reducible intro K hK)
   ·rw[if_pos ht]at mG;refine key (ob.set tc .gone++[.arr 1 [[.tree 2 (rowsOf aj C)]],.arr 1 (rowsOf aH (A++[C]))]) (ob.length+1) (A++[C]) A.length (hR.swap (AF _ (xY ..)) λp hp=>?_) mG (by rw[aJ];simp;omega) Ay (λD hD=>?_) _ ?_
    ·rcases cD.1 hp with rfl|hp
     ·exact .inl ⟨Dg,GP⟩
     ·rw[bm]at hp;subst hp;exact .inr ⟨1,rfl,rfl⟩
    ·rcases bj.1 hD with h|h
     ·exact mW D h
     ·rw[bm]at h;subst h;exact⟨c1,Ay,c3⟩
    ·exact Xv X0
   ·rw[if_neg Ay]at mG;have Ru:((v.toNat:Nat):Int)=v:=Ay;rw[<- Ru]at mG;refine key ob tc A v.toNat hR mG Ay Ay mW _ ?_;rw[Ru];exact Xv X0
 ·((try revert hK K);(repeat'(first|refine Va (X3 @f0 @e0 @aA.eq_1) ?_|(refine V2 (X3 @f0 @e0 @aA.eq_1) ?_ ?_<;>try with_reducible intro hb)|(refine Xi ?_ ?_<;>try intro ht)|refine VD ?_ ?_|exact Xx|fail))<;>try with_reducible intro K hK)
  refine ay _ _ rfl ?_;clear an ay Ql;repeat(first|refine Xu ?_)
  have ou:c=m.cls.length:=Ay;subst ou;rw[pR,Gb]at iU;have Zc:tq m X=(A,Q.map (·.2)):=iU;obtain⟨nE,ik,aE⟩:=OO zQ hw (λx hx=>(si x hx).1);rw[Zc]at pN nE ik aE;dsimp only at pN nE ik aE;have Ag:=hR.kill _ (AF _ (xY ..));have hf0:=hR.kill _ (xY ..);dsimp only at Ag hf0;refine cE (hR.BQ 8 (by rw[jE];simp only[Kc,simprocAttr])) ?_;refine cE (aC.zR 7 tc 1 Ag (by simp only[yk];rw[cH];simp only[Kc,simprocAttr]) (gb _) (jt _)) ?_;have GP:(0:Nat)≠tc:=λe=>by rw[<- e,hf0]at Ag;cases Ag
  have hf1:((mi (ku 1 Q) ob).set tc .gone)[0]?=some (.var (aA m)):=by rw[dq (Ne.symm GP)];exact hf0
  refine cE (σ':=⟨au [(2,.ptr 0 0 0),(7,.tree 1 (rowsOf aH A)),(8,.tree 1 (bW (Q.map (·.2))))],[.var (aA m)]⟩) ?_ ?_
  ·have eT:0<(mi (ku 1 Q) ob).length:=fZ hf0;exact Xs false [0] (X2 @hf1 @eT)
  clear Ag hf0 hf1 hR f0 e0;generalize Q.map (·.2)=R at *;have aaB:X.length<=576:=Ay;have WW:=nE.j5;have vz:=ik.jb Ay Ay (λc=>by have:=aE c;omega);have mV:=ik.left Ay Ay (λc=>by have:=aE c;omega);have qN:=YO R A.length;rw[<- U8,vz]at qN;dsimp only at qN;unfold rS at pN;rw[vz]at pN;dsimp only at pN;have hfn:=B7 (tj m X) nE ik mV (λx hx=>(si x hx).1);have lr:(rowsOf aH A).length=A.length:=by simp[rowsOf]
  obtain⟨aB,mm,i1,i2,i3,i4,i5⟩:=vf mV;rw[show ca R A.length=((ca R A.length).1,(ca R A.length).2) from rfl]at hfn;have vA:∀ x∈(ca R A.length).1,0<=x/\x<m.cls.length:=λx hx=>by rw[i3]at hx;have:=pB _ _ x hx;have:=ik.len;omega
  have Zd:∀ x∈(ca R A.length).2,0<=x/\x<A.length:=λx hx=>by rw[i3]at hx;have:=pB _ _ x hx;omega
  have Qe:(ca R A.length).1.length<=m.cls.length:=by rw[i3];have h1:=va aB 0;have h2:=ik.len;dsimp only;omega
  have zO:(ca R A.length).2.length<=A.length:=by rw[i3];have h1:=va mm 0;dsimp only;omega
  generalize (ca R A.length).1=G at *;generalize (ca R A.length).2=P at *;by_cases C6:G=[]
  ·rw[if_pos C6]at pN;subst C6;((try revert hK K);(repeat'(first|refine Vc @lr qN ?_|(refine V2 @lr ?_ ?_<;>try with_reducible intro hb)|(refine Xi ?_ ?_<;>try intro ht)|refine VD ?_ ?_|exact Xx|fail))<;>try with_reducible intro K hK)
   rw[<- pN];refine eU [] true Ha trivial Ha Ha (pV ?_ ?_ (.pure rfl))
   ·exact .snap _ _ rfl (.nil 1)
   ·exact .snap _ _ rfl (.nil 1)
  rw[if_neg C6]at pN;have hGp:=qX.2 C6;((try revert hK K);(repeat'(first|refine Vc (X2 @lr @aA.eq_1) qN ?_|(refine V2 (X2 @lr @aA.eq_1) ?_ ?_<;>try with_reducible intro hb)|(refine Xi ?_ ?_<;>try intro ht)|refine VD ?_ ?_|exact Xx|fail))<;>try with_reducible intro K hK)
  refine aX (λz:Nat×List Bool=>(⟨au [(7,.tree 1 (rowsOf aH A)),(14,.tree 1 (ints G)),(15,.tree 1 (ints P)),(17,.ref 1 1 0 m.cls.length),(18,aah z.1)],[.var (aA m),.arr 1 (b8 z.2)]⟩:St))
   (λz=>z.1<=G.length/\z.2.length=m.cls.length/\∀ c,z.2.getD c false=(G.take z.1).contains (c:Int)) (λz=>G.length-z.1) (0,ax m.cls.length false) ⟨aN _,Dg,λc=>by dsimp only;rw[rL,Dn];rfl⟩ ?_ ?_
  ·exact Xv X0
  rintro⟨i,b⟩⟨hi,pX,C7⟩Ql an ay;dsimp only at hi pX C7 ⊢;by_cases hi':i<G.length
  ·have wP:=vA _ (aG (d:=0) hi');have je:=tE hi';have Ze:G.getD i default=G.getD i 0:=rfl;rw[Ze]at je;generalize tP:G.getD i 0=g at *;((try revert hK K);(repeat'(first|refine Va @tP ?_|(refine V2 @tP ?_ ?_<;>try with_reducible intro hb)|(refine Xi ?_ ?_<;>try intro ht)|refine VD ?_ ?_|exact Xx|fail))<;>try with_reducible intro K hK)
   refine an _ (i+1,b.set g.toNat true) ⟨aaa,by simpa using pX,λc=>?_⟩ aaa (Xv X0);dsimp only;rw[je,zk];by_cases e:c=g.toNat
   ·rw[if_pos ⟨e,Ay⟩];symm;rw[ml];exact bj.2 (.inr (by rw[bm];omega))
   ·rw[if_neg (λh=>e h.1),C7,Bool.eq_iff_iff,ml,ml,bj,bm];constructor
    ·exact .inl
    ·rintro(h|h)
     ·exact h
     ·omega
  have Zf:i=G.length:=Ay;rw[Zf,xX]at C7;((try revert hK K);(repeat'(first|refine Va X0 ?_|(refine V2 X0 ?_ ?_<;>try with_reducible intro hb)|(refine Xi ?_ ?_<;>try intro ht)|refine VD ?_ ?_|exact Xx|fail))<;>try with_reducible intro K hK)
  refine ay _ _ rfl ?_;clear an ay Ql;repeat(first|refine Xu ?_)
  ((try revert hK K);(repeat'(first|refine Va X0 ?_|(refine V2 X0 ?_ ?_<;>try with_reducible intro hb)|(refine Xi ?_ ?_<;>try intro ht)|refine VD ?_ ?_|exact Xx|fail))<;>try with_reducible intro K hK)
  have Rv:ll A (G,P)=P.map λn=>(A.getD n.toNat []).filter (eG G):=rfl;generalize hXc:ll A (G,P)=Xc at *;have cS:Xc.length=P.length:=by rw[Rv,iS]
  generalize Gc:eF dR Xc []=S at *;refine aX (λz:Nat×List (List (Int×Int))=>(⟨au [(7,.tree 1 (rowsOf aH A)),(14,.tree 1 (ints G)),(15,.tree 1 (ints P)),(17,.ref 1 1 0 m.cls.length),(19,.tree 1 (rowsOf aH z.2)),(20,aah z.1)],[.var (aA m),.arr 1 (b8 b)]⟩:St))
   (λz=>z.1<=P.length/\eF dR (Xc.drop z.1) z.2=S/\z.2.length=z.1/\∀ y∈z.2,y≠[]) (λz=>P.length-z.1) (0,[]) ⟨aN _,Gc,rfl,Dg⟩ ?_ ?_
  ·refine aC.trans (aC.Sa (a:=none) (cap:=0) 19 1 (by simp only[Kc,simprocAttr])) ?_;exact Xv X0
  clear Gc;rintro⟨i2,out⟩⟨iM,hS,py,mq⟩cC aS bf;dsimp only at iM hS py mq ⊢;by_cases Rw:i2<P.length
  ·have wK:=Zd _ (aG (d:=0) Rw);have B5:Xc.getD i2 default=(A.getD (P.getD i2 0).toNat []).filter (eG G):=by
    rw[Rv];simp[aw,dm,bc Rw]
   obtain⟨_,_,_,C8⟩:=hfn _ (aG (l:=Xc) (i:=i2) (d:=default) Ay);rw[cF Xc i2 default Ay,eF]at hS;rw[B5]at hS C8;generalize cg:P.getD i2 0=p at *;have Zg:=mW _ (aG (l:=A) (i:=p.toNat) (d:=default) Ay);have kq:(rowsOf aH A)[p.toNat]?=some (aH (A.getD p.toNat default)):=nc _ _ Ay;have Zh:A.getD p.toNat []=A.getD p.toNat default:=rfl;rw[Zh]at hS C8;generalize vN:A.getD p.toNat default=D at *;have mU:(rowsOf aj D).length=D.length:=by simp[rowsOf]
   ((try revert hK K);(repeat'(first|refine Va X0 ?_|(refine V2 X0 ?_ ?_<;>try with_reducible intro hb)|(refine Xi ?_ ?_<;>try intro ht)|refine VD ?_ ?_|exact Xx|fail))<;>try with_reducible intro K hK)
   refine aX (λk:Nat=>(⟨au [(7,.tree 1 (rowsOf aH A)),(14,.tree 1 (ints G)),(15,.tree 1 (ints P)),(17,.ref 1 1 0 m.cls.length),(19,.tree 1 (rowsOf aH out)),(20,aah i2),(21,.ref 2 2 0 ((D.take k).filter (eG G)).length),(22,aah k)],[.var (aA m),.arr 1 (b8 b),.arr 2 (rowsOf aj ((D.take k).filter (eG G)))]⟩:St))
    (λk=>k<=D.length) (λk=>D.length-k) 0 (aN _) ?_ ?_
   ·refine aC.trans (aC.nil 21 2 (by simp only[Kc,simprocAttr]) Ha) ?_;exact Xv X0
   rintro k hk jC eH dJ;by_cases aQ:k<D.length
   ·have vx:=nC D aQ;have Rx:=Zg.2.2 _ (aG (l:=D) (i:=k) (d:=default) aQ);have je:=tE aQ;generalize gJ:D.getD k default=y at *;have hlen:((D.take k).filter (eG G)).length<=k:=by have:=uo (eG G) (D.take k);rw[List.length_take]at this;omega
    have Bw:b.getD y.1.toNat false=eG G y:=by rw[C7];unfold eG;rw[Int.toNat_of_nonneg Rx.1.1]
    have og:(D.take (k+1)).filter (eG G)=(D.take k).filter (eG G)++if eG G y=true then [y] else []:=by
     rw[je,List.filter_append,List.filter_cons,List.filter_nil]
    generalize eG G y=g at *;generalize (D.take k).filter (eG G)=L at *;have qQ:(rowsOf aj L).length=L.length:=by simp[rowsOf]
    have Ah:List.take L.length (rowsOf aj L)=rowsOf aj L:=kW Ay;have gT:rowsOf aj L++[[aah y.1,aah y.2]]=rowsOf aj (L++[y]):=by simp[rowsOf,aj]
    have hy1:=Rx.1;((try revert hK K);(repeat'(first|refine Va (X5 @lr @kq @vN @mU (X5 @vx @cg @gJ @Bw (X5 @qQ @Ah @gT @aH.eq_1 @aj.eq_1))) ?_|(refine V2 (X5 @lr @kq @vN @mU (X5 @vx @cg @gJ @Bw (X5 @qQ @Ah @gT @aH.eq_1 @aj.eq_1))) ?_ ?_<;>try with_reducible intro hb)|(refine Xi ?_ ?_<;>try intro ht)|refine VD ?_ ?_|exact Xx|fail))<;>try with_reducible intro K hK)
    ·refine eH _ (k+1) Ay Ay ?_;rw[og,if_pos ht];exact Xs false [0,1,4] X0
    ·refine eH _ (k+1) Ay Ay ?_;rw[og,if_neg (by rw[ht];simp),fF];exact Xv X0
   ·((try revert hK K);(repeat'(first|refine Va (X5 @lr @kq @vN @mU (X2 @cg @aH.eq_1)) ?_|(refine V2 (X5 @lr @kq @vN @mU (X2 @cg @aH.eq_1)) ?_ ?_<;>try with_reducible intro hb)|(refine Xi ?_ ?_<;>try intro ht)|refine VD ?_ ?_|exact Xx|fail))<;>try with_reducible intro K hK)
    refine dJ _ _ rfl ?_;clear eH dJ jC;repeat(first|refine Xu ?_)
    have oW:k=D.length:=Ay;rw[oW,xX];generalize D.filter (eG G)=L at *;refine cE (aC.zR 21 2 2 (rows:=rowsOf aj L) rfl (by rw[cH];simp only[Kc,simprocAttr]) (gb _) (jt _)) ?_;have Zi:=Zj out L C8 mq Ay;((try revert hK K);(repeat'(first|refine Vc X0 Zi ?_|(refine V2 X0 ?_ ?_<;>try with_reducible intro hb)|(refine Xi ?_ ?_<;>try intro ht)|refine VD ?_ ?_|exact Xx|fail))<;>try with_reducible intro K hK)
    refine aS _ (i2+1,oJ dR L out) ⟨aaa,hS,?_,λy hy=>?_⟩ aaa ?_
    ·have:=(zg dR L out).length_eq;rw[cK]at this;dsimp only;omega
    ·rcases cD.1 ((zg dR L out).mem_iff.1 hy) with rfl|h
     ·exact C8
     ·exact mq y h
    ·exact Xs false [0,1] X0
  ·((try revert hK K);(repeat'(first|refine Va X0 ?_|(refine V2 X0 ?_ ?_<;>try with_reducible intro hb)|(refine Xi ?_ ?_<;>try intro ht)|refine VD ?_ ?_|exact Xx|fail))<;>try with_reducible intro K hK)
   refine bf _ _ rfl ?_;clear aS bf cC;repeat(first|refine Xu ?_)
   rw[dw Ay,eF]at hS;rw[hS];((try revert hK K);(repeat'(first|refine Vb X0 ?_|(refine V2 X0 ?_ ?_<;>try with_reducible intro hb)|(refine Xi ?_ ?_<;>try intro ht)|refine VD ?_ ?_|exact Xx|fail))<;>try with_reducible intro K hK)
   rw[<- pN];refine eU [] true Ha trivial Ha Ha (pV (.pure rfl) (.pure rfl) (.pure rfl))
def XH{m:ah}(CC:MB m){left:List (List Bool)}(mI:BB left)(hb:¬(VM m/\jd m left)):
  ao Tryz.prog 14 [.agg (aA m),.tree 1 (rowsOf bE left)] [] (.bP [.tree 1 (ints []),.tree 1 (rowsOf aH []),.lit (.bool false)]) []:=by
 have h1:=FX m CC;have h2:=PZ m left CC mI;by_cases hv:l7 m=0
 ·rw[hv]at h1;rw[decide_eq_false (λh=>hb ⟨yT.1 hv,h⟩)]at h2;refine ao.aO 179 0 [.tmp 4,.tmp 5,.tmp 6] Tryz.func14 ?_;((try revert hK K);(repeat'(first|refine Vd X0 (X2 h1 h2) ?_|(refine V2 X0 ?_ ?_<;>try with_reducible intro hb)|(refine Xi ?_ ?_<;>try intro ht)|refine VD ?_ ?_|exact Xx|fail))<;>try with_reducible intro K hK)
  refine eU [] true Ha trivial Ha Ha (pV ?_ ?_ (.pure rfl))
  ·exact .snap _ _ rfl (.nil 1)
  ·exact .snap _ _ rfl (.nil 1)
 ·generalize decide (jd m left)=fb at *;generalize l7 m=e at *;refine ao.aO 179 0 [.tmp 4,.tmp 5,.tmp 6] Tryz.func14 ?_;have h3:(e != 0)=true:=by simp[hv]
  ((try revert hK K);(repeat'(first|refine Vd @h3 (X2 h1 h2) ?_|(refine V2 @h3 ?_ ?_<;>try with_reducible intro hb)|(refine Xi ?_ ?_<;>try intro ht)|refine VD ?_ ?_|exact Xx|fail))<;>try with_reducible intro K hK)
  refine eU [] true Ha trivial Ha Ha (pV ?_ ?_ (.pure rfl))
  ·exact .snap _ _ rfl (.nil 1)
  ·exact .snap _ _ rfl (.nil 1)
end T

