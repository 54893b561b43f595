import Derived.Test.YtfoopmojjjpapaaGreatX37
import Derived.Test.YtfoopmojjjpapaaGreatX33
set_option linter.all false
set_option maxHeartbeats 0
set_option maxRecDepth 20000
open List renaming getElem?_eq_some_iff→aV,mem_map→bW,getD_cons_succ→e7,getD_eq_getElem?_getD→az,getElem?_map→bI,getElem?_eq_getElem→bF,getElem?_eq_none→dK,replicate→aK,replicate_zero→D3,length_replicate→lE,append_assoc→bE,length_set→bJ,getElem?_set_ne→gA,getElem?_set→bU
open Option renaming some→cA,map_some→eH
open Nat renaming zero_le→aS,sub_self→jz
open Go Go.Am Go.Proofs
namespace T
def dj.aog(x:Ob):dj [(1,.arr 1 []),(0,x)] [] [] [x,.arr 1 []]:=⟨GM,rfl,GM,(show([1,0]:List Nat).Nodup by decide)⟩
def dj.aoh{D:List (Nat×Nat)}{S:List (List Bool)}{os:List Ob}{oi:Nat}(h:dj [(oi,.arr 1 (rowsOf ku D))] D S os)(e:Nat->AV):
  oK 0 ⟨e,os⟩ (.ref oi 1 0 S.length) (.ref 0 1 0 S.length) (.arr 1 (gP 1 S)::oA S):=by
 have hd:=h.len;have h1:=h.base (oi,.arr 1 (rowsOf ku D)) GM;dsimp only at h1;have hl:∀ i∈oi::D.map (·.1),i<os.length:=λi hi=>by
  rcases List.mem_cons.1 hi with rfl|hi
  ·exact(aV.1 h1).1
  obtain⟨q,hq,rfl⟩:=bW.1 hi;obtain⟨k,hk,rfl⟩:=List.mem_iff_getElem.1 hq;have h3:=(h.row k hk).1;have a1:D.getD k default=D[k]:=by simp[hk]
  rw[a1]at h3;exact(aV.1 h3).1
 have FV:∀ j,j<S.length->bq os.length (oi::D.map (·.1)) (1+j)=(D.getD j default).1:=λj hj=>by
  unfold bq;rw[if_pos P2,show 1+j=j+1 by omega,e7,az,bI,az,bF GK];rfl
 refine⟨oi::D.map (·.1),false,by simpa using h.nd,by simp[Dx,hd],λj o hj=>.inr ?_,hl,GM,λi hi=>?_,.eq ?_⟩
 ·match j with
  |0 =>
   simp only[List.getElem?_cons_zero,cA.injEq]at hj;subst hj;refine h1.trans (congrArg some ?_);rw[bM];refine congrArg _ (List.ext_getElem? λi=>?_);rw[bI];by_cases hi:i<S.length
   ·rw[FU h hi,zB 1 S i hi,eH,List.map_cons,List.map_nil,bk,FV i hi]
   ·rw[dK (by simp[rowsOf];omega),dK (by rw[CQ];omega)];rfl
  |j+1 =>
   simp only[List.getElem?_cons_succ]at hj;have gu:j<S.length:=by have:=(aV.1 hj).1;rwa [Dx]at this
   have h3:=(h.row j GK).1;unfold oA at hj;rw[bI,bF gu]at hj;simp only[eH,cA.injEq]at hj;subst hj;rw[AL];have e1:(oi::D.map (·.1)).getD (j+1) 0=(D.getD j default).1:=by
    rw[e7,az,bI,az,bF GK];rfl
   have e2:S.getD j default=S[j]:=by rw[az,bF gu];rfl
   rw[e1,<- e2];exact h3
 ·omega
 ·rw[bk];have:bq os.length (oi::D.map (·.1)) 0=oi:=by unfold bq;rw[if_pos GM];rfl
  rw[this]
def anP(m:ah)(hm:MB m)(hv:VM m):Holds Tryz.prog 12 [.agg (an m)] [] (.ref 0 1 0 (cI m).length) (.arr 1 (gP 1 (cI m))::oA (cI m)):=by
 have h1:=Ez m hm;have uu:=hm.cls;have aoi:cI m=dW m:=if_pos (nu.2 hv);generalize au:cI m=res;refine Holds.aM 38 0 [.tmp 2] Tryz.func12 ?_;rw[nu.2 hv]at h1;have oT:=hv.cls;((repeat'(first|refine Vd @bne_self_eq_false.{0} h1 ?_|(refine Xi ?_ ?_<;>try intro ht)|exact Xx|fail)))
 refine aR (λz:Nat×List (List Bool)×List Ob×Nat×List (Nat×Nat)=>(⟨ao [(1,.ptr 0 0 0),(3,.ref z.2.2.2.1 1 0 z.2.2.2.2.length),(4,Qf z.1)],z.2.2.1⟩:St))
  (λz=>z.1<=m.cls.length/\z.2.1=(dW m).take z.1/\dj [(z.2.2.2.1,.arr 1 (rowsOf ku z.2.2.2.2)),(0,.var (an m))] z.2.2.2.2 z.2.1 z.2.2.1) (λz=>m.cls.length-z.1) (0,[],[.var (an m),.arr 1 []],1,[]) ⟨aS _,rfl,dj.aog _⟩ ?_ ?_
 ·refine aH.trans (aH.nil 3 1 (by simp only[Kc,simprocAttr]) GS) ?_;exact Xv X0
 rintro⟨i,xs,os,oi,D⟩⟨hi,dz,hB⟩Ql ak aq;dsimp only at hi dz hB ⊢;have lI:(dW m).length=m.cls.length:=by simp[dW]
 have yE:=hB.len;have fo:=hB.b0;have fm:=hB.b1;dsimp only at fm fo;by_cases ar:i<m.cls.length
 ·have vC:xs.length=i:=by rw[dz,List.length_take];omega
  have ez:(dW m).take (i+1)=xs++[aK (m.cls.getD i default).length true]:=by
   rw[eu GK,<- dz];unfold dW;rw[iS _ _ _ ar]
  have sU:=hv.opt _ (aF (d:=default) ar);generalize bc:m.cls.getD i default=c at *;((repeat'(first|refine Va (X3 @fm @bc @aW.eq_1) ?_|(refine Xi ?_ ?_<;>try intro ht)|exact Xx|fail)))
  refine aR (λz:Nat×List Ob=>(⟨ao [(1,.ptr 0 0 0),(3,.ref oi 1 0 D.length),(4,Qf i),(5,.ref os.length 1 0 c.length),(6,Qf z.1)],z.2⟩:St))
   (λz=>z.1<=c.length/\dj [(os.length,.arr 1 (a8 (aK z.1 true++aK (c.length-z.1) false))),(oi,.arr 1 (rowsOf ku D)),(0,.var (an m))] D xs z.2) (λz=>c.length-z.1)
   (0,os++[.arr 1 (a8 (aK 0 true++aK (c.length-0) false))]) ⟨aS _,(hB.app _).add (kl _ _ _) (hB.fresh (Nat.le_refl _))⟩ (by simp only[Nat.sub_zero,D3,List.nil_append];exact Xv X0) ?_
  rintro⟨k,ly⟩⟨hk,uL⟩cJ bj br;dsimp only at hk uL ⊢;have cD:(aK k true++aK (c.length-k) false).length=c.length:=P2;have PG:=uL.b0;have J9:=uL.b1;have JY:=uL.b2;dsimp only at PG J9 JY;by_cases bg:k<c.length
  ·have jZ:(aK k true++aK (c.length-k) false).set k true=aK (k+1) true++aK (c.length-(k+1)) false:=by
    rw[List.set_append_right _ _ GM,lE,jz,show c.length-k=(c.length-(k+1))+1 by omega,List.replicate_succ,List.set_cons_zero,List.replicate_succ',bE];rfl
   ((repeat'(first|refine Va (X3 @PG @cD @q8) ?_|(refine Xi ?_ ?_<;>try intro ht)|exact Xx|fail)))
   rw[jZ];exact bj _ (k+1,ly.set os.length (.arr 1 (a8 (aK (k+1) true++aK (c.length-(k+1)) false)))) ⟨PW,uL.put _⟩ PW (Xv X0)
  ·obtain rfl:k=c.length:=GK;((repeat'(first|refine Va @PG ?_|(refine Xi ?_ ?_<;>try intro ht)|exact Xx|fail)))
   refine br _ _ rfl ?_;clear bj br cJ;repeat(refine Xu ?_)
   rw[jz,D3,List.append_nil]at *;have oC:=uL.snoc;rw[lE]at oC;obtain⟨nH,dU⟩:=oC.drop;generalize os.length=p at *;refine Va (X5 @J9 (aN J9) (iy J9) @Jm (X4 @bH @bE.{0} @List.length_append.{0} @bJ.{0})) ?_;refine ak _ (i+1,xs++[aK c.length true],ly.set oi .gone++[.arr 1 [[.ref p 1 0 c.length]],.arr 1 (rowsOf ku (D++[(p,c.length)]))],ly.length+1,D++[(p,c.length)]) ⟨PW,ez.symm,?_⟩ PW ?_
   ·refine((nH.other dU .gone).app _).add ?_ ((nH.other dU .gone).fresh GM);have rR:(ly.set oi Ob.gone).length=ly.length:=bJ ..;rw[<- rR,kP];rfl
   ·exact Xv X0
 ·rw[List.take_of_length_le GK]at dz;((repeat'(first|refine Va @fm ?_|(refine Xi ?_ ?_<;>try intro ht)|exact Xx|fail)))
  refine aq _ _ rfl ?_;clear ak aq Ql;repeat(refine Xu ?_)
  refine Vb X0 ?_;have DJ:res=xs:=by rw[<- au,aoi,dz]
  subst DJ;have h3:=(hB.swap.drop).1;rw[yE];exact h3.aoh _
def dj.setRow{B:List (Nat×Ob)}{D:List (Nat×Nat)}{S:List (List Bool)}{os:List Ob}(h:dj B D S os){j:Nat}(hj:j<S.length){r:List Bool}(hr:r.length=(S.getD j default).length):
  dj B D (S.set j r) (os.set (D.getD j default).1 (.arr 1 (a8 r))):=by
 have pk:j<D.length:=by rw[h.len];exact hj
 have bV:=List.nodup_append.1 h.nd;have hDj:D.getD j default=D[j]:=by simp[pk]
 have bR:(D.getD j default).1∈D.map (·.1):=by rw[hDj];exact bW.2 ⟨_,List.getElem_mem pk,rfl⟩
 refine⟨λb hb=>?_,by rw[bJ];exact h.len,λk hk=>?_,h.nd⟩
 ·rw[gA ?_]
  ·exact h.base b hb
  ·intro e;exact bV.2.2 _ (bW.2 ⟨b,hb,rfl⟩) _ bR e.symm
 ·obtain⟨h1,h2⟩:=h.row k hk;by_cases e:k=j
  ·subst e;have aX:=(aV.1 h1).1;have hg:(S.set k r).getD k default=r:=by rw[az,bU,if_pos rfl,if_pos hj];rfl
   rw[bU,if_pos rfl,if_pos aX,hg];exact⟨rfl,hr.trans h2⟩
  ·have hg:(S.set j r).getD k default=S.getD k default:=by rw[az,gA (Ne.symm e),<- az]
   rw[hg,gA ?_]
   ·exact⟨h1,h2⟩
   ·intro e2;have JE:D.getD k default=D[k]:=by simp[hk]
    rw[hDj,JE]at e2;have hp:=List.pairwise_iff_getElem.1 bV.2.1;rcases Nat.lt_or_gt_of_ne e with hl|hl
    ·exact hp k j (by simpa using hk) (by simpa using pk) hl (by simpa using e2.symm)
    ·exact hp j k (by simpa using pk) (by simpa using hk) hl (by simpa using e2)
end T

