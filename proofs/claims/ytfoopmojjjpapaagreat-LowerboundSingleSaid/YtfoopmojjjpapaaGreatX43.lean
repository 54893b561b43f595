import Derived.Test.YtfoopmojjjpapaaGreatX40
import Derived.Test.YtfoopmojjjpapaaGreatX34
set_option linter.all false
set_option maxHeartbeats 0
set_option maxRecDepth 20000
open List renaming getD_eq_getElem?_getD→az,getElem?_eq_getElem→bF,getElem?_eq_some_iff→aV,getD_cons_succ→e7,getElem?_map→bI,getElem?_eq_none→dK,length_set→bJ,getElem?_set→bU,length→jB,map_set→sr,length_replicate→lE,replicate→aK,replicate_zero→D3,append_assoc→bE,length_append→bO
open Option renaming some→cA,map_some→eH
open Nat renaming le_refl→aY,zero_le→aS,sub_self→jz
open Int renaming toNat_natCast→c7
open Go Go.Am Go.Proofs
namespace T
def Te{m:ah}{x:List (List Bool)}(hm:VM m)(h:dh m x):BB x:=by
 have hc:=hm.cls;refine⟨by have:=h.1;omega,λr hr=>?_⟩;obtain⟨i,hi,rfl⟩:=List.getElem_of_mem hr;have h2:=h.2 i hi;have h3:=hm.opt _ (aF (l:=m.cls) (i:=i) (d:=default) (by have:=h.1;omega));rw[az,bF hi,Option.getD_some]at h2;omega
def agp{m:ah}{x:List (List Bool)}{l:List Mv}(hm:VM m)(hf:dh m x)(hl:l.length<=12)(hb:∀ y∈l,iT m y=true):b8 m x l=(l8 m x (iV m l (S0 m,T0 m)),0):=by
 unfold b8 lg gH;rw[if_neg (by rw[if_neg (by rw[nu.2 hm];simp),if_pos hf];simp),if_neg GK,if_neg (by rw[List.all_eq_true.2 hb];simp)]
def dj.amT{D:List (Nat×Nat)}{S:List (List Bool)}{os:List Ob}{oi:Nat}(h:dj [(oi,.arr 1 (rowsOf ku D))] D S os)(e:Nat->AV):
  oK 0 ⟨e,os⟩ (.ref oi 1 0 S.length) (.ref 0 1 0 S.length) (.arr 1 (gP 1 S)::oA S):=by
 have hd:=h.len;have h1:=h.base (oi,.arr 1 (rowsOf ku D)) GM;dsimp only at h1;have hl:∀ i∈oi::D.map (·.1),i<os.length:=λi hi=>by
  rcases List.mem_cons.1 hi with rfl|hi
  ·exact(aV.1 h1).1
  obtain⟨q,hq,rfl⟩:=List.mem_map.1 hi;obtain⟨k,hk,rfl⟩:=List.mem_iff_getElem.1 hq;have h3:=(h.row k hk).1;have a1:D.getD k default=D[k]:=by simp[hk]
  rw[a1]at h3;exact(aV.1 h3).1
 have FV:∀ j,j<S.length->bq os.length (oi::D.map (·.1)) (1+j)=(D.getD j default).1:=λj hj=>by
  unfold bq;rw[if_pos P2,show 1+j=j+1 by omega,e7,az,bI,az,bF GK];rfl
 refine⟨oi::D.map (·.1),false,by simpa using h.nd,by simp[Dx,hd],λj o hj=>.inr ?_,hl,GM,λi hi=>GK,.eq ?_⟩
 ·match j with
  |0 =>
   simp only[List.getElem?_cons_zero,cA.injEq]at hj;subst hj;refine h1.trans (congrArg some ?_);rw[bM];refine congrArg _ (List.ext_getElem? λi=>?_);rw[bI];by_cases hi:i<S.length
   ·rw[FU h hi,zB 1 S i hi,eH,List.map_cons,List.map_nil,bk,FV i hi]
   ·rw[dK (by simp[rowsOf];omega),dK (by rw[CQ];omega)];rfl
  |j+1 =>
   simp only[List.getElem?_cons_succ]at hj;have gu:j<S.length:=by have:=(aV.1 hj).1;rwa [Dx]at this
   have h3:=(h.row j GK).1;unfold oA at hj;rw[bI,bF gu]at hj;simp only[eH,cA.injEq]at hj;subst hj;rw[AL];have e1:(oi::D.map (·.1)).getD (j+1) 0=(D.getD j default).1:=by
    rw[e7,az,bI,az,bF GK];rfl
   have e2:S.getD j default=S[j]:=by rw[az,bF gu];rfl
   rw[e1,<- e2];exact h3
 ·rw[bk];have:bq os.length (oi::D.map (·.1)) 0=oi:=by unfold bq;rw[if_pos GM];rfl
  rw[this]
def rB(r:List Bool)(p:Int):Nat->List Bool
 |0=>r
 |k+1=>(rB r p k).set k ((k:Int)==p)
def j3(S:List (List Bool))(P:List Int):Nat->List (List Bool)
 |0=>S
 |i+1=>(j3 S P i).set i (rB ((j3 S P i).getD i default) (P.getD i 0) ((j3 S P i).getD i default).length)
def qv(m:ah)(P:List Int):List (List Bool):=j3 (dW m) P m.cls.length
def HR(r:List Bool)(p:Int):∀ k,(rB r p k).length=r.length
 |0=>rfl
 |k+1=>by rw[rB,bJ,HR r p k]
def adq(r:List Bool)(p:Int)(j:Nat):∀ k,k<=r.length->(rB r p k).getD j false=if j<k then((j:Int)==p) else r.getD j false
 |0,_=>by rw[if_neg GK];rfl
 |k+1,h=>by
  rw[rB,az,bU];by_cases e:k=j
  ·subst e;rw[if_pos rfl,if_pos (by rw[HR];omega),if_pos GK];rfl
  ·rw[if_neg e,<- az,adq r p j k GK];by_cases e2:j<k
   ·rw[if_pos e2,if_pos GK]
   ·rw[if_neg e2,if_neg GK]
def EA(S:List (List Bool))(P:List Int):∀ i,(j3 S P i).map jB=S.map jB
 |0=>rfl
 |i+1=>by
  rw[j3,sr,HR];rcases Nat.lt_or_ge i (j3 S P i).length with h|h
  ·have e:((j3 S P i).getD i default).length=((j3 S P i).map jB).getD i default:=by rw[iS _ _ _ h]
   rw[e,zC];exact EA S P i
  ·rw[List.set_eq_of_length_le (by simpa using h)];exact EA S P i
def HQ(S:List (List Bool))(P:List Int)(j:Nat):∀ i,i<=S.length->(j3 S P i).getD j default=if j<i then rB (S.getD j default) (P.getD j 0) (S.getD j default).length else S.getD j default
 |0,_=>by rw[if_neg GK];rfl
 |i+1,h=>by
  have hl:(j3 S P i).length=S.length:=by have:=congrArg jB (EA S P i);simpa using this
  have ih:=HQ S P i i GK;rw[if_neg GK]at ih;rw[j3,ih,az,bU];by_cases e:i=j
  ·subst e;rw[if_pos rfl,if_pos GK,if_pos GK];rfl
  ·rw[if_neg e,<- az,HQ S P j i GK];by_cases e2:j<i
   ·rw[if_pos e2,if_pos GK]
   ·rw[if_neg e2,if_neg GK]
def agq{m:ah}{P:List Int}(hp:FP m P):EI m (qv m P) P:=by
 intro i hi j;have lI:(dW m).length=m.cls.length:=by simp[dW]
 have hr:((dW m).getD i default).length=(m.cls.getD i default).length:=by
  unfold dW;rw[iS _ _ _ hi,lE]
 unfold qv;rw[HQ _ _ _ _ GK,if_pos hi,adq _ _ _ _ (aY _)];have hg:=jN.1 (hp.get i (by rw[hp.len];exact hi));rw[c7]at hg;by_cases hj:j<((dW m).getD i default).length
 ·rw[if_pos hj];rw[show((j:Int)==P.getD i 0)=decide ((j:Int)=P.getD i 0) from rfl];apply decide_eq_decide.2;omega
 ·rw[if_neg hj,az,dK GK];rw[decide_eq_false GK];rfl
def L4{m:ah}{P:List Int}:dh m (qv m P):=by
 have lI:(dW m).length=m.cls.length:=by simp[dW]
 have h1:=EA (dW m) P m.cls.length;have hl:=congrArg jB h1;simp only[List.length_map]at hl;unfold qv;refine⟨GK,λi hi=>?_⟩;have h2:((j3 (dW m) P m.cls.length).map jB).getD i default=((dW m).map jB).getD i default:=by rw[h1]
 rw[iS _ _ _ hi,iS _ _ _ GK]at h2;rw[h2];unfold dW;rw[iS _ _ _ GK,lE]
def agi(m:ah)(cP:VM m):Holds Tryz.prog 12 [.agg (an m)] [] (.ref 0 1 0 m.cls.length) (.arr 1 (gP 1 (dW m))::oA (dW m)):=by
 have h1:=Ez m cP.mb;rw[nu.2 cP]at h1;have oT:=cP.cls;have lI:(dW m).length=m.cls.length:=by simp[dW]
 refine Holds.aM 38 0 [.tmp 2] Tryz.func12 ?_;((try revert hK K);(repeat'(first|refine Vd @bne_self_eq_false.{0} h1 ?_|(refine V2 @bne_self_eq_false.{0} ?_ ?_<;>try with_reducible intro hb)|(refine Xi ?_ ?_<;>try intro ht)|refine VD ?_ ?_|exact Xx|fail))<;>try with_reducible intro K hK)
 refine aR (λz:Nat×List Ob×Nat×List (Nat×Nat)=>(⟨ao [(1,.ptr 0 0 0),(3,.ref z.2.2.1 1 0 z.2.2.2.length),(4,Qf z.1)],z.2.1⟩:St))
  (λz=>z.1<=m.cls.length/\dj [(z.2.2.1,.arr 1 (rowsOf ku z.2.2.2)),(0,.var (an m))] z.2.2.2 ((dW m).take z.1) z.2.1) (λz=>m.cls.length-z.1)
  (0,[.var (an m),.arr 1 []],1,[]) ⟨aS _,by simp[rowsOf],rfl,GM,(show([1,0]:List Nat).Nodup by decide)⟩ ?_ ?_
 ·refine aH.trans (aH.nil 3 1 (by simp only[Kc,simprocAttr]) GS) ?_;exact Xv X0
 rintro⟨i,os,oi,D⟩⟨hi,hB⟩Ql ak aq;dsimp only at hi hB ⊢;have yE:D.length=i:=by rw[hB.len,List.length_take];omega
 have fo:=hB.b0;have fm:=hB.b1;dsimp only at fm fo;by_cases ar:i<m.cls.length
 ·have ez:(dW m).take (i+1)=(dW m).take i++[aK (m.cls.getD i default).length true]:=by
   rw[eu GK];unfold dW;rw[iS _ _ _ ar]
  have sU:=cP.opt _ (aF (d:=default) ar);generalize bc:m.cls.getD i default=c at *;((try revert hK K);(repeat'(first|refine Va (X3 @fm @bc @aW.eq_1) ?_|(refine V2 (X3 @fm @bc @aW.eq_1) ?_ ?_<;>try with_reducible intro hb)|(refine Xi ?_ ?_<;>try intro ht)|refine VD ?_ ?_|exact Xx|fail))<;>try with_reducible intro K hK)
  refine aR (λk:Nat=>(⟨ao [(1,.ptr 0 0 0),(3,.ref oi 1 0 D.length),(4,Qf i),(5,.ref os.length 1 0 c.length),(6,Qf k)],os++[.arr 1 (a8 (aK k true++aK (c.length-k) false))]⟩:St))
   (λk=>k<=c.length) (λk=>c.length-k) 0 (aS _) (by simp only[Nat.sub_zero,D3,List.nil_append];exact Xv X0) ?_
  rintro k hk cJ bj br;have cD:(aK k true++aK (c.length-k) false).length=c.length:=P2;by_cases bg:k<c.length
  ·have jZ:(aK k true++aK (c.length-k) false).set k true=aK (k+1) true++aK (c.length-(k+1)) false:=by
    rw[List.set_append_right _ _ GM,lE,jz,show c.length-k=(c.length-(k+1))+1 by omega,List.replicate_succ,List.set_cons_zero,List.replicate_succ',bE];rfl
   ((try revert hK K);(repeat'(first|refine Va (X3 @cD @q8 @bH) ?_|(refine V2 (X3 @cD @q8 @bH) ?_ ?_<;>try with_reducible intro hb)|(refine Xi ?_ ?_<;>try intro ht)|refine VD ?_ ?_|exact Xx|fail))<;>try with_reducible intro K hK)
   rw[jZ];exact bj _ (k+1) GK GK (Xv X0)
  ·obtain rfl:k=c.length:=GK;((try revert hK K);(repeat'(first|refine Va (X2 @cD @bH) ?_|(refine V2 (X2 @cD @bH) ?_ ?_<;>try with_reducible intro hb)|(refine Xi ?_ ?_<;>try intro ht)|refine VD ?_ ?_|exact Xx|fail))<;>try with_reducible intro K hK)
   refine br _ _ rfl ?_;clear bj br cJ;repeat(first|refine Xu ?_)
   rw[jz,D3,List.append_nil]at *;have we:dj [(oi,.arr 1 (rowsOf ku D)),(0,.var (an m))] (D++[(os.length,c.length)]) ((dW m).take (i+1)) (os++[.arr 1 (a8 (aK c.length true))]):=by
    rw[ez];have h:=((hB.app [.arr 1 (a8 (aK c.length true))]).add (kl _ _ _) (hB.fresh (aY _))).snoc;rw[lE]at h;exact h
   obtain⟨nH,dU⟩:=we.drop;have B1:=we.b0;dsimp only at B1;generalize os++[.arr 1 (a8 (aK c.length true))]=os2 at *;generalize os.length=p at *;clear fo fm hB;((try revert hK K);(repeat'(first|refine Va (X5 @B1 (aN B1) (iy B1) @Jm (X4 @bH @bE.{0} @bO.{0} @bJ.{0})) ?_|(refine V2 (X5 @B1 (aN B1) (iy B1) @Jm (X4 @bH @bE.{0} @bO.{0} @bJ.{0})) ?_ ?_<;>try with_reducible intro hb)|(refine Xi ?_ ?_<;>try intro ht)|refine VD ?_ ?_|exact Xx|fail))<;>try with_reducible intro K hK)
   refine ak _ (i+1,os2.set oi .gone++[.arr 1 [[.ref p 1 0 c.length]],.arr 1 (rowsOf ku (D++[(p,c.length)]))],os2.length+1,D++[(p,c.length)]) ⟨PW,?_⟩ PW ?_
   ·refine((nH.other dU .gone).app _).add ?_ ((nH.other dU .gone).fresh GM);rw[pL];rfl
   ·exact Xv X0
 ·rw[List.take_of_length_le GK]at hB;have him:i=m.cls.length:=GK;have oC:=hB.swap.drop.1;have adr:=oC.amT;rw[lI]at adr;rw[yE,him]at *;((try revert hK K);(repeat'(first|refine Va @fm ?_|(refine V2 @fm ?_ ?_<;>try with_reducible intro hb)|(refine Xi ?_ ?_<;>try intro ht)|refine VD ?_ ?_|exact Xx|fail))<;>try with_reducible intro K hK)
  refine aq _ _ rfl ?_;clear ak aq Ql;repeat(first|refine Xu ?_)
  ((try revert hK K);(repeat'(first|refine Vb X0 ?_|(refine V2 X0 ?_ ?_<;>try with_reducible intro hb)|(refine Xi ?_ ?_<;>try intro ht)|refine VD ?_ ?_|exact Xx|fail))<;>try with_reducible intro K hK)
  exact adr _
def ints_set(P:List Int)(k:Nat)(v:Int):(ints P).set k [Qf v]=ints (P.set k v):=by unfold ints;rw[sr]
structure Gm(m:ah)(left:List (List Bool))(c:Nat)(P:List Int):Prop where
 len:P.length=m.cls.length
 get:∀ j,j<c->(0<=P.getD j 0/\P.getD j 0<(m.cls.getD j default).length)/\(left.getD j default).getD (P.getD j 0).toNat false=true
def amW(P:List Int)(c j:Nat)(v:Int)(h:j≠c):(P.set c v).getD j 0=P.getD j 0:=by
 rw[az,List.getElem?_set_ne (Ne.symm h),<- az]
def Gm.put{m:ah}{left:List (List Bool)}{c:Nat}{P:List Int}(h:Gm m left c P)(hc:c<m.cls.length){k:Nat}(hk:k<(m.cls.getD c default).length)(hb:(left.getD c default).getD k false=true):Gm m left (c+1) (P.set c (k:Int)):=by
 refine⟨by rw[bJ];exact h.len,λj hj=>?_⟩;by_cases e:j=c
 ·subst e;have e2:(P.set j (k:Int)).getD j 0=(k:Int):=by rw[az,bU];simp[h.len,hc]
  rw[e2];exact⟨⟨GK,GK⟩,by rw[c7];exact hb⟩
 ·rw[amW _ _ _ _ e];exact h.get j GK
def Gm.full{m:ah}{left:List (List Bool)}{P:List Int}(h:Gm m left m.cls.length P):FP m P/\EX m left P:=by
 refine⟨⟨h.len,λj hj=>?_⟩,λi hi=>(h.get i hi).2⟩;rw[h.len]at hj;have:=h.get j hj;exact jN.2 ⟨GK,GK,this.1.1,by rw[c7];exact this.1.2⟩
section
variable {m:ah} {left:List (List Bool)} (hm:VM m) {b:Int} (hb:b<=1099511627776) (hP:∀ plan,FP m plan->EX m left plan->b<=wW (zF m plan) 0)
include hm hb hP
end
end T

