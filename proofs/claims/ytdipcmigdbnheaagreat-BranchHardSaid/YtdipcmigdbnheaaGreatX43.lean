import Derived.Test.YtdipcmigdbnheaaGreatX21
import Derived.Test.YtdipcmigdbnheaaGreatX37
import Derived.Test.YtdipcmigdbnheaaGreatX35
set_option linter.unusedVariables false
set_option linter.unusedSimpArgs false
set_option linter.unnecessarySimpa false
set_option linter.unusedSectionVars false
set_option maxHeartbeats 64000000
set_option maxRecDepth 20000
open List renaming getElem?_eq_some_iff→aS,mem_map→b7,getD_cons_succ→eS,getD_eq_getElem?_getD→ay,getElem?_map→bN,getElem?_eq_getElem→bI,getElem?_eq_none→du,replicate→bq,length_replicate→nK,append_assoc→cI,length_set→bm,getElem?_set_ne→bu,getElem?_set→bS
open Option renaming some→da,map_some→ed
open Nat renaming zero_le→aD,sub_self→iC
open Go Go.Am
open Go Go.Am Go.Proofs
open Nat (reduceEqDiff reduceAdd reduceLeDiff reduceMul)
open Int (reduceNeg reduceLE reduceToNat)
namespace T
theorem dt.afm (x:Ob):dt [(1,.arr 1 []),(0,x)] [] [] [x,.arr 1 []]:=⟨by simp,rfl,by simp,(show ([1,0]:List Nat).Nodup by decide)⟩
theorem dt.Wx {D:List (Nat × Nat)} {S:List (List Bool)} {os:List Ob} {oi:Nat} (h:dt [(oi,.arr 1 (rowsOf ln D))] D S os) (e:Nat→AV) :
    m5 0 ⟨e,os⟩ (.ref oi 1 0 S.length) (.ref 0 1 0 S.length) (.arr 1 (jH 1 S)::ou S):=by
  have hd:=h.len
  have h1:=h.base (oi,.arr 1 (rowsOf ln D)) (by simp)
  dsimp only at h1
  have hl:∀ i∈oi::D.map (·.1),i<os.length:=fun i hi=>by
    rcases List.mem_cons.1 hi with rfl | hi
    · exact (aS.1 h1).1
    obtain ⟨q,hq,rfl⟩:=b7.1 hi
    obtain ⟨k,hk,rfl⟩:=List.mem_iff_getElem.1 hq
    have h3:=(h.row k hk).1
    have a1:D.getD k default=D[k]:=by simp[hk]
    rw[a1] at h3
    exact (aS.1 h3).1
  have IL:∀ j,j<S.length→bd os.length (oi::D.map (·.1)) (1+j)=(D.getD j default).1:=fun j hj=>by
    unfold bd
    rw[if_pos (by simp;omega),show 1+j=j+1 by omega,eS,ay,bN,ay,bI (by omega)];rfl
  refine⟨oi::D.map (·.1),false,by simpa using h.nd,by simp[E7,hd],fun j o hj=>.inr ?_,hl,by simp,fun i hi=>?_,.eq ?_⟩
  · match j with
    | 0 =>
      simp only[List.getElem?_cons_zero,da.injEq] at hj
      subst hj
      refine h1.trans (congrArg some ?_)
      rw[bC]
      refine congrArg _ (List.ext_getElem? fun i=>?_)
      rw[bN]
      by_cases hi:i<S.length
      · rw[E9 h hi,B2 1 S i hi,ed,List.map_cons,List.map_nil,aX,IL i hi]
      · rw[du (by simp[rowsOf];omega),du (by rw[E8];omega)];rfl
    | j+1 =>
      simp only[List.getElem?_cons_succ] at hj
      have kZ:j<S.length:=by have:=(aS.1 hj).1;rwa [E7] at this
      have h3:=(h.row j (by omega)).1
      unfold ou at hj
      rw[bN,bI kZ] at hj
      simp only[ed,da.injEq] at hj
      subst hj
      rw[wW]
      have e1:(oi::D.map (·.1)).getD (j+1) 0=(D.getD j default).1:=by
        rw[eS,ay,bN,ay,bI (by omega)];rfl
      have e2:S.getD j default=S[j]:=by rw[ay,bI kZ];rfl
      rw[e1,← e2]
      exact h3
  · omega
  · rw[aX]
    have:bd os.length (oi::D.map (·.1)) 0=oi:=by unfold bd;rw[if_pos (by simp)];rfl
    rw[this]
theorem ae' (m:ah) (hm:MB m) (hv:VM m):ao Tryz.prog 146 [.agg (ar m)] [] (.ref 0 1 0 (ef m).length) (.arr 1 (jH 1 (ef m))::ou (ef m)):=by
  have h1:=wg m hm
  have qF:=hm.cls
  have Ke:ef m=kI m:=if_pos (iJ.2 hv)
  generalize an:ef m=res
  refine ao.aF (fn:=Tryz.f146) 38 0 [.tmp 2] Tryz.func146 rfl rfl rfl rfl rfl (by simp) ?_
  rw[iJ.2 hv] at h1
  have mc:=hv.cls
  ((repeat' (first|refine Vd @bne_self_eq_false.{0} h1 ?_|(refine Xi ?_ ?_<;>try intro ht)|exact Xx|fail)))
  refine aI (fun z:Nat × List (List Bool) × List Ob × Nat × List (Nat × Nat)=>(⟨av [(1,.ptr 0 0 0),(3,.ref z.2.2.2.1 1 0 z.2.2.2.2.length),(4,.lit (.int .i64 z.1))],z.2.2.1⟩:St))
    (fun z=>z.1≤m.cls.length∧z.2.1=(kI m).take z.1∧dt [(z.2.2.2.1,.arr 1 (rowsOf ln z.2.2.2.2)),(0,.var (ar m))] z.2.2.2.2 z.2.1 z.2.2.1) (fun z=>m.cls.length - z.1) (0,[],[.var (ar m),.arr 1 []],1,[]) ⟨aD _,rfl,dt.afm _⟩ ?_ ?_
  · refine aA.trans (aA.nil 3 1 (by simp only[Kc,simprocAttr]) (by decide)) ?_
    exact Xv X0
  rintro ⟨i,xs,os,oi,D⟩ ⟨hi,cF,hB⟩ Ql ak aq
  dsimp only at hi cF hB ⊢
  have ik:(kI m).length=m.cls.length:=by simp[kI]
  have xZ:=hB.len
  have fo:=hB.b0
  have fm:=hB.b1
  dsimp only at fm fo
  by_cases hi':i<m.cls.length
  · have uy:xs.length=i:=by rw[cF,List.length_take];omega
    have cS:(kI m).take (i+1)=xs++[bq (m.cls.getD i default).length true]:=by
      rw[eu (by omega),← cF];unfold kI;rw[iu _ _ _ hi']
    have qG:=hv.opt _ (az (d:=default) hi')
    generalize aO:m.cls.getD i default=c at *
    ((repeat' (first|refine Va (X3 @fm @aO @bn.eq_1) ?_|(refine Xi ?_ ?_<;>try intro ht)|exact Xx|fail)))
    refine aI (fun z:Nat × List Ob=>(⟨av [(1,.ptr 0 0 0),(3,.ref oi 1 0 D.length),(4,.lit (.int .i64 i)),(5,.ref os.length 1 0 c.length),(6,.lit (.int .i64 z.1))],z.2⟩:St))
      (fun z=>z.1≤c.length∧dt [(os.length,.arr 1 (bg (bq z.1 true++bq (c.length - z.1) false))),(oi,.arr 1 (rowsOf ln D)),(0,.var (ar m))] D xs z.2) (fun z=>c.length - z.1)
      (0,os++[.arr 1 (bg (bq 0 true++bq (c.length - 0) false))]) ⟨aD _,(hB.app _).add (jO _ _ _) (hB.fresh (Nat.le_refl _))⟩ (by simp only[Nat.sub_zero,List.replicate_zero,List.nil_append];exact Xv X0) ?_
    rintro ⟨k,tJ⟩ ⟨hk,qZ⟩ cP a5 a8
    dsimp only at hk qZ ⊢
    have cK:(bq k true++bq (c.length - k) false).length=c.length:=by simp;omega
    have Kf:=qZ.b0
    have FX:=qZ.b1
    have fm1:=qZ.b2
    dsimp only at Kf FX fm1
    by_cases aP:k<c.length
    · have iS:(bq k true++bq (c.length - k) false).set k true=bq (k+1) true++bq (c.length - (k+1)) false:=by
        rw[List.set_append_right _ _ (by simp),nK,iC,show c.length - k=(c.length - (k+1))+1 by omega,List.replicate_succ,List.set_cons_zero,List.replicate_succ',cI];rfl
      ((repeat' (first|refine Va (X3 @Kf @cK @sK) ?_|(refine Xi ?_ ?_<;>try intro ht)|exact Xx|fail)))
      rw[iS]
      exact a5 _ (k+1,tJ.set os.length (.arr 1 (bg (bq (k+1) true++bq (c.length - (k+1)) false)))) ⟨by dsimp only;omega,qZ.put _⟩ (by dsimp only;omega) (Xv X0)
    · obtain rfl:k=c.length:=by omega
      ((repeat' (first|refine Va @Kf ?_|(refine Xi ?_ ?_<;>try intro ht)|exact Xx|fail)))
      refine a8 _ _ rfl ?_
      clear a5 a8 cP
      repeat (refine Xu ?_)
      rw[iC,List.replicate_zero,List.append_nil] at *
      have oJ:=qZ.snoc
      rw[nK] at oJ
      obtain ⟨nH,dE⟩:=oJ.drop
      generalize os.length=p at *
      refine Va (X5 @FX (a7 FX) (fj FX) @QZ (X4 @cZ @cI.{0} @List.length_append.{0} @bm.{0})) ?_
      refine ak _ (i+1,xs++[bq c.length true],tJ.set oi .gone++[.arr 1 [[.ref p 1 0 c.length]],.arr 1 (rowsOf ln (D++[(p,c.length)]))],tJ.length+1,D++[(p,c.length)]) ⟨by dsimp only;omega,cS.symm,?_⟩ (by dsimp only;omega) ?_
      · refine ((nH.other dE .gone).app _).add ?_ ((nH.other dE .gone).fresh (by simp))
        have uR:(tJ.set oi Ob.gone).length=tJ.length:=bm ..
        rw[← uR,me];rfl
      · exact Xv X0
  · rw[List.take_of_length_le (by omega)] at cF
    ((repeat' (first|refine Va @fm ?_|(refine Xi ?_ ?_<;>try intro ht)|exact Xx|fail)))
    refine aq _ _ rfl ?_;clear ak aq Ql
    repeat (refine Xu ?_)
    refine Vb X0 ?_
    have Aj:res=xs:=by rw[← an,Ke,cF]
    subst Aj
    have h3:=(hB.swap.drop).1
    rw[xZ]
    exact h3.Wx _
theorem dt.setRow {B:List (Nat × Ob)} {D:List (Nat × Nat)} {S:List (List Bool)} {os:List Ob} (h:dt B D S os) {j:Nat} (hj:j<S.length) {r:List Bool} (hr:r.length=(S.getD j default).length) :
    dt B D (S.set j r) (os.set (D.getD j default).1 (.arr 1 (bg r))):=by
  have qn:j<D.length:=by rw[h.len];exact hj
  have bR:=List.nodup_append.1 h.nd
  have Wy:D.getD j default=D[j]:=by simp[qn]
  have cp:(D.getD j default).1∈D.map (·.1):=by rw[Wy];exact b7.2 ⟨_,List.getElem_mem qn,rfl⟩
  refine⟨fun b hb=>?_,by rw[bm];exact h.len,fun k hk=>?_,h.nd⟩
  · rw[bu ?_]
    · exact h.base b hb
    · intro e
      exact bR.2.2 _ (b7.2 ⟨b,hb,rfl⟩) _ cp e.symm
  · obtain ⟨h1,h2⟩:=h.row k hk
    by_cases e:k=j
    · subst e
      have bj:=(aS.1 h1).1
      have hg:(S.set k r).getD k default=r:=by rw[ay,bS,if_pos rfl,if_pos hj];rfl
      rw[bS,if_pos rfl,if_pos bj,hg]
      exact⟨rfl,hr.trans h2⟩
    · have hg:(S.set j r).getD k default=S.getD k default:=by rw[ay,bu (Ne.symm e),← ay]
      rw[hg,bu ?_]
      · exact⟨h1,h2⟩
      · intro e2
        have hDk:D.getD k default=D[k]:=by simp[hk]
        rw[Wy,hDk] at e2
        have hp:=List.pairwise_iff_getElem.1 bR.2.1
        rcases Nat.lt_or_gt_of_ne e with hl | hl
        · exact hp k j (by simpa using hk) (by simpa using qn) hl (by simpa using e2.symm)
        · exact hp j k (by simpa using qn) (by simpa using hk) hl (by simpa using e2)
end T

