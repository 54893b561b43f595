import Derived.Test.YtkmfgcbdnijgeaaGreatX34
import Derived.Test.YtkmfgcbdnijgeaaGreatX33
set_option linter.unusedVariables false
set_option linter.unusedSimpArgs false
set_option linter.unnecessarySimpa false
set_option linter.unusedSectionVars false
set_option maxHeartbeats 64000000
set_option maxRecDepth 20000
open Go Go.Am Go.Proofs
open Nat (reduceEqDiff reduceAdd reduceLeDiff reduceMul)
open Int (reduceNeg reduceLE reduceToNat)
namespace T
theorem cntP_rg (left:List (List Bool)) {c:Ct} (hp:priceB c.pen=true):0≤cntP left c∧cntP left c≤1099511627776:=by
  have:=price_in hp
  unfold In41 at this
  unfold cntP timesP
  have h:0≤max (grpL c.loads left none c.loads (-c.most)) 0:=by omega
  generalize max (grpL c.loads left none c.loads (-c.most)) 0=n at *
  have:=Int.mul_nonneg h this.1
  split<;>omega
theorem prValue_ok (m:Mdl) (left:List (List Bool)) (hm:VM m) (hf:FitsP m left):Holds Tryz.prog 73 [.agg (eMdl m),.tree 1 (rowsOf eBs left)] [] (.lit (.int .i64 (priceV m left))) []:=by
  have hfl:=hf.1
  have hc24:=hm.cls
  have hp4:=hm.prs
  have hk8:=hm.cts
  generalize hres:priceV m left=res
  unfold priceV at hres
  generalize hA:pcP left 0 m.cls 0=A at *
  refine Holds.of_body' (fn:=Tryz.f73) 85 0 [.tmp 4] Tryz.func73 rfl rfl rfl rfl rfl (by simp) ?_
  refine Vb X0 ?_
  refine W_loopS (fun z:Nat × Int=>(⟨slots [(1,.tree 1 (rowsOf eBs left)),(2,.ptr 0 0 0),(5,.lit (.int .i64 z.2)),(18,.tree 1 (rowsOf eCls m.cls)),(19,.lit (.int .i64 m.cls.length)),(20,.lit (.int .i64 z.1))],[.var (eMdl m)]⟩:St))
    (fun z=>z.1≤m.cls.length∧0≤z.2∧z.2≤1099511627776 * (z.1:Int)∧pcP left z.1 (m.cls.drop z.1) z.2=A) (fun z=>m.cls.length - z.1) (0,0) ⟨Nat.zero_le _,Int.le_refl _,by dsimp only;omega,hA⟩ (Xv X0) ?_
  rintro ⟨i,n⟩ ⟨hi,hn0,hn1,hr⟩ Ql hnl hel
  dsimp only at hi hn0 hn1 hr ⊢
  by_cases hi':i<m.cls.length
  · have hd:=getD_drop0 m.cls i default hi'
    have hc:=hm.opt _ (getD_mem (d:=default) hi')
    have hch:=hm.chs _ (getD_mem (d:=default) hi')
    have hrl:=hf.2 i (by omega)
    have hrul:=hm.rul
    generalize hcc:m.cls.getD i default=c at *
    generalize hrow:left.getD i default=row at *
    rw[hd,pcP,hrow] at hr
    have hmr:=minF_rg (ownV c) row 1099511627776 (fun x hx=>by
      obtain ⟨o,ho,rfl⟩:=List.mem_map.1 hx
      exact (ownS_in (hch o ho)).1) (by omega)
    generalize hX:minF (ownV c) row 1099511627776=X at *
    ((repeat' (first|refine Va (X2 @hcc @eCls.eq_1) ?_|(refine Xi ?_ ?_<;>try intro ht)|exact Xx|fail)))
    refine W_loopS (fun z:Nat × Int=>(⟨slots [(1,.tree 1 (rowsOf eBs left)),(2,.ptr 0 0 0),(5,.lit (.int .i64 n)),(6,.lit (.int .i64 i)),(8,.lit (.int .i64 z.2)),(18,.tree 1 (rowsOf eCls m.cls)),(19,.lit (.int .i64 m.cls.length)),(20,.lit (.int .i64 i)),(25,.tree 6 (rowsOf eOpt c)),(26,.lit (.int .i64 c.length)),(27,.lit (.int .i64 z.1))],[.var (eMdl m)]⟩:St))
      (fun z=>z.1≤c.length∧minF (ownV (c.drop z.1)) (row.drop z.1) z.2=X) (fun z=>c.length - z.1) (0,1099511627776) ⟨Nat.zero_le _,hX⟩ (Xv X0) ?_
    rintro ⟨k,x⟩ ⟨hk,hr2⟩ Ql2 hnl2 hel2
    dsimp only at hk hr2 ⊢
    by_cases hk':k<c.length
    · have hd2:=getD_drop0 c k default hk'
      have hd3:=getD_drop0 row k false (by omega)
      have ho:=getD_mem (l:=c) (d:=default) hk'
      have how:=prOwn_ok (c.getD k default) (chs_in (hch _ ho)) (by have:=chL_len0 hrul.1 (hch _ ho);omega)
      generalize hoo:c.getD k default=o at *
      generalize hbb:row.getD k false=b at *
      rw[hd2,hd3,show ownV (o::c.drop (k+1))=ownS o::ownV (c.drop (k+1)) from rfl,minF] at hr2
      cases b
      · rw[if_neg (by simp)] at hr2
        ((repeat' (first|refine Va (X4 @hoo @hrow @hbb @eBs.eq_1) ?_|(refine Xi ?_ ?_<;>try intro ht)|exact Xx|fail)))
        all_goals exact hnl2 _ (k+1,x) ⟨by dsimp only;omega,hr2⟩ (by dsimp only;omega) (Xs false [0] X0)
      · rw[if_pos rfl] at hr2
        ((repeat' (first|refine Vc (X4 @hoo @hrow @hbb @eBs.eq_1) how ?_|(refine Xi ?_ ?_<;>try intro ht)|exact Xx|fail)))
        all_goals exact hnl2 _ (k+1,min x (ownS o)) ⟨by dsimp only;omega,hr2⟩ (by dsimp only;omega) (Xs false [0] X0)
    · rw[show c.drop k=[] from List.drop_eq_nil_of_le (by omega)] at hr2
      have hxX:x=X:=by rw[← hr2];cases row.drop k<;>rfl
      clear hr2
      subst hxX
      by_cases hF:x=1099511627776
      · rw[if_pos hF] at hr
        ((repeat' (first|refine Va X0 ?_|(refine Xi ?_ ?_<;>try intro ht)|exact Xx|fail)))
        refine hel2 _ _ rfl ?_
        clear hnl2 hel2
        repeat (refine Xu ?_)
        ((repeat' (first|refine Va X0 ?_|(refine Xi ?_ ?_<;>try intro ht)|exact Xx|fail)))
        all_goals
          repeat (refine Xu ?_)
          rw[← hr] at hres
          refine Vb X0 ?_
          exact RetOK_pure' rfl (by rw[← hres];rfl)
      · rw[if_neg hF] at hr
        ((repeat' (first|refine Va X0 ?_|(refine Xi ?_ ?_<;>try intro ht)|exact Xx|fail)))
        refine hel2 _ _ rfl ?_
        clear hnl2 hel2
        repeat (refine Xu ?_)
        ((repeat' (first|refine Va X0 ?_|(refine Xi ?_ ?_<;>try intro ht)|exact Xx|fail)))
        all_goals exact hnl _ (i+1,n+x) ⟨by dsimp only;omega,by dsimp only;omega,by dsimp only;omega,hr⟩ (by dsimp only;omega) (Xv X0)
  rw[show m.cls.drop i=[] from List.drop_eq_nil_of_le (by omega),pcP] at hr
  subst hr
  have hn2:n≤1099511627776 * 24:=by omega
  clear hn1
  rw[ppE] at hres
  generalize hB:ppP m left m.prs n=B at *
  ((repeat' (first|refine Va X0 ?_|(refine Xi ?_ ?_<;>try intro ht)|exact Xx|fail)))
  refine hel _ _ rfl ?_;clear hnl hel Ql
  repeat (refine Xu ?_)
  refine Va X0 ?_
  refine W_loopS (fun z:Nat × Int=>(⟨slots [(1,.tree 1 (rowsOf eBs left)),(2,.ptr 0 0 0),(5,.lit (.int .i64 z.2)),(51,.tree 4 (rowsOf ePr m.prs)),(52,.lit (.int .i64 m.prs.length)),(53,.lit (.int .i64 z.1))],[.var (eMdl m)]⟩:St))
    (fun z=>z.1≤m.prs.length∧0≤z.2∧z.2≤1099511627776 * 24+1099511627776 * (z.1:Int)∧ppP m left (m.prs.drop z.1) z.2=B) (fun z=>m.prs.length - z.1) (0,n) ⟨Nat.zero_le _,hn0,by dsimp only;omega,hB⟩ (Xv X0) ?_
  (try clear hn0;clear hi hn2 hB i)
  rintro ⟨i,n⟩ ⟨hi,hn0,hn1,hr⟩ Ql hnl hel
  dsimp only at hi hn0 hn1 hr ⊢
  by_cases hi':i<m.prs.length
  · have hd:=getD_drop0 m.prs i default hi'
    have hpb:=prsL_mem hm.pr _ (getD_mem (d:=default) hi')
    have hmin:=prMin_ok m _ left hm hpb hf
    have hrg:=entM_rg hm hpb hf
    generalize hpp:m.prs.getD i default=p at *
    rw[hd,ppP] at hr
    generalize entM m left p=x at *
    by_cases hF:x=1099511627776
    · rw[if_pos hF] at hr
      ((repeat' (first|refine Vc (X2 @hpp @ePr.eq_1) hmin ?_|(refine Xi ?_ ?_<;>try intro ht)|exact Xx|fail)))
      all_goals
        repeat (refine Xu ?_)
        rw[← hr] at hres
        refine Vb X0 ?_
        exact RetOK_pure' rfl (by rw[← hres];rfl)
    · rw[if_neg hF] at hr
      ((repeat' (first|refine Vc (X2 @hpp @ePr.eq_1) hmin ?_|(refine Xi ?_ ?_<;>try intro ht)|exact Xx|fail)))
      all_goals exact hnl _ (i+1,n+x) ⟨by dsimp only;omega,by dsimp only;omega,by dsimp only;omega,hr⟩ (by dsimp only;omega) (Xs false [0] X0)
  rw[show m.prs.drop i=[] from List.drop_eq_nil_of_le (by omega),ppP] at hr
  subst hr
  have hn2:n≤1099511627776 * 5000:=by omega
  clear hn1
  rw[pkE] at hres
  generalize hB:pkP left m.cts n=B at *
  ((repeat' (first|refine Va X0 ?_|(refine Xi ?_ ?_<;>try intro ht)|exact Xx|fail)))
  refine hel _ _ rfl ?_;clear hnl hel Ql
  repeat (refine Xu ?_)
  refine Va X0 ?_
  refine W_loopS (fun z:Nat × Int=>(⟨slots [(1,.tree 1 (rowsOf eBs left)),(2,.ptr 0 0 0),(5,.lit (.int .i64 z.2)),(68,.tree 4 (rowsOf eCt m.cts)),(69,.lit (.int .i64 m.cts.length)),(70,.lit (.int .i64 z.1))],[.var (eMdl m)]⟩:St))
    (fun z=>z.1≤m.cts.length∧0≤z.2∧z.2≤1099511627776 * 5000+1099511627776 * (z.1:Int)∧pkP left (m.cts.drop z.1) z.2=B) (fun z=>m.cts.length - z.1) (0,n) ⟨Nat.zero_le _,hn0,by dsimp only;omega,hB⟩ (Xv X0) ?_
  (try clear hn0;clear hi hn2 hB i)
  rintro ⟨i,n⟩ ⟨hi,hn0,hn1,hr⟩ Ql hnl hel
  dsimp only at hi hn0 hn1 hr ⊢
  by_cases hi':i<m.cts.length
  · have hd:=getD_drop0 m.cts i default hi'
    have hcb:=hm.ct _ (getD_mem (d:=default) hi')
    have hmin:=prCount_ok m _ left hm hcb hf
    have hrg:=cntP_rg left (ctB_iff hcb).2.2.1
    generalize hpp:m.cts.getD i default=p at *
    rw[hd,pkP] at hr
    generalize cntP left p=x at *
    by_cases hF:x=1099511627776
    · rw[if_pos hF] at hr
      ((repeat' (first|refine Vc (X2 @hpp @eCt.eq_1) hmin ?_|(refine Xi ?_ ?_<;>try intro ht)|exact Xx|fail)))
      all_goals
        repeat (refine Xu ?_)
        rw[← hr] at hres
        refine Vb X0 ?_
        exact RetOK_pure' rfl (by rw[← hres];rfl)
    · rw[if_neg hF] at hr
      ((repeat' (first|refine Vc (X2 @hpp @eCt.eq_1) hmin ?_|(refine Xi ?_ ?_<;>try intro ht)|exact Xx|fail)))
      all_goals exact hnl _ (i+1,n+x) ⟨by dsimp only;omega,by dsimp only;omega,by dsimp only;omega,hr⟩ (by dsimp only;omega) (Xs false [0] X0)
  rw[show m.cts.drop i=[] from List.drop_eq_nil_of_le (by omega),pkP] at hr
  rw[← hr] at hres
  have hcut:=prCut_ok n
  rw[show min n 1099511627776=res from hres] at hcut
  ((repeat' (first|refine Va X0 ?_|(refine Xi ?_ ?_<;>try intro ht)|exact Xx|fail)))
  refine hel _ _ rfl ?_;clear hnl hel Ql
  repeat (refine Xu ?_)
  refine Vd X0 hcut ?_
  exact RetOK_pure' rfl rfl
end T

