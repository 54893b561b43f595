import Derived.Test.YtafhoboejkcmiaaGreatX41
set_option linter.unusedVariables false
set_option linter.unusedSimpArgs false
set_option linter.unnecessarySimpa false
set_option linter.unusedSectionVars false
set_option maxHeartbeats 64000000
set_option maxRecDepth 20000
open Go Go.Am Go.Proofs
open Nat (reduceEqDiff reduceAdd reduceLeDiff reduceMul)
open Int (reduceNeg reduceLE reduceToNat)
namespace T
theorem rSaturate_ok (m:Mdl) (hb:MB m):Holds Tryz.prog 35 [.agg (eMdl m)] [] (.tup [.tree 1 (ints (satT m).1),.lit (.int .i64 (satT m).2)]) []:=by
  have hnbr:=rNeighbours_ok m hb
  generalize hres:satT m=res
  unfold satT at hres
  unfold nbT at hnbr
  by_cases hv:validV m≠0
  · rw[if_pos hv] at hnbr hres
    refine Holds.of_body' (fn:=Tryz.f35) 85 0 [.tmp 2,.tmp 3] Tryz.func35 rfl rfl rfl rfl rfl (by simp) ?_
    ((try revert hK K);(repeat' (first|refine Vd X0 hnbr ?_|(refine V2 X0 ?_ ?_<;>try with_reducible intro hb)|(refine Xi ?_ ?_<;>try intro ht)|refine VD ?_ ?_|exact Xx|fail))<;>try with_reducible intro K hK)
    all_goals try (exfalso;omega)
    rw[← hres]
    exact RetOK_sel [] true (by decide) trivial (by decide) (by decide) (ArgR.tup2 ArgR.nil (.pure rfl))
  rw[if_neg hv] at hnbr hres
  have hm:=valid_iff.1 (by omega:validV m=0)
  have hc24:=hm.cls
  have hno:=rNone_ok m hm
  have hwd0:=wd0 (nbV_len m)
  have hpm0:=noneV_pm m
  have hw0:=w0_len (nbV m)
  have hnbl:=nbV_len m
  have hp0l:=hpm0.len
  have hsl:=(satV_pm m).len
  unfold satV at hres hsl
  have hposs:=fun plan c hp hc=>possible_ok m plan c hm hp hc
  generalize nbV m=nb at *
  generalize noneV m=p0 at *
  generalize hR:satR m nb m.cls.length p0 (List.replicate m.cls.length false)=R at *
  generalize hcn:m.cls.length=n at *
  refine Holds.of_body' (fn:=Tryz.f35) 85 0 [.tmp 2,.tmp 3] Tryz.func35 rfl rfl rfl rfl rfl (by simp) ?_
  ((try revert hK K);(repeat' (first|refine Vd X0 hnbr ?_|(refine V2 X0 ?_ ?_<;>try with_reducible intro hb)|(refine Xi ?_ ?_<;>try intro ht)|refine VD ?_ ?_|exact Xx|fail))<;>try with_reducible intro K hK)
  all_goals try (exfalso;omega)
  (refine Xn [] (hno) ?_;simp (disch:=omega) only[Ac,↓Pc,simprocAttr])
  ((try revert hK K);(repeat' (first|refine Vb X0 ?_|(refine V2 X0 ?_ ?_<;>try with_reducible intro hb)|(refine Xi ?_ ?_<;>try intro ht)|refine VD ?_ ?_|exact Xx|fail))<;>try with_reducible intro K hK)
  refine W_loopS (fun z:Nat × List Int × List Bool=>(⟨slots [(1,.ptr 0 0 0),(4,.tree 1 (ints nb)),(6,.ref 1 1 0 n),(7,.ref 2 1 0 n),(8,.lit (.int .i64 z.1))],[.var (eMdl m),.arr 1 (ints z.2.1),.arr 1 (bools z.2.2)]⟩:St))
    (fun z=>z.1≤n∧PM m z.2.1∧(∃ w,WD nb n z.2.2 w∧w.length=n - z.1)∧satR m nb (n - z.1) z.2.1 z.2.2=R) (fun z=>n - z.1) (0,p0,List.replicate n false) ⟨Nat.zero_le _,hpm0,⟨_,hwd0,by dsimp only;omega⟩,hR⟩ (Xv X0) ?_
  clear hpm0 hwd0 hR hno hp0l
  rintro ⟨r,plan,done⟩ ⟨hr,hpm,⟨w,hwd,hwl⟩,hR⟩ Ql hnl hel
  dsimp only at hr hpm hwd hwl hR ⊢
  have hpl:=hpm.len
  have hdl:=hwd.len
  rw[hcn] at hpl
  by_cases hr':r<n
  · have hpk:=rnd_pick (m:=m) (nb:=nb) (done:=done) (w:=w) (plan:=plan) (by rw[hcn];exact hwd) (by omega)
    rw[hcn] at hpk
    obtain ⟨p1,p2,p3,p4,p5⟩:=hpk
    have hpm2:=plcM_pm hpm (c:=(pickM m nb plan done).1.toNat) (by rw[hcn];omega)
    rw[p1] at p2 p5
    rw[p2] at hpm2
    rw[show n - r=(n - (r+1))+1 by omega,satR] at hR
    have hpos:=fun c hc=>hposs plan c hpm hc
    clear hposs p1 p2
    unfold pickM at p3 p5 hpm2 hR
    rw[hcn] at p3 p5 hpm2 hR
    generalize cntM m plan=fm at *
    generalize plcM m plan=fb at *
    generalize hpk:pickR fm fb nb done n 0 (-1,0,-1)=pk at *
    obtain ⟨k1,k2,k3⟩:=pk
    dsimp only at *
    ((try revert hK K);(repeat' (first|refine Va X0 ?_|(refine V2 X0 ?_ ?_<;>try with_reducible intro hb)|(refine Xi ?_ ?_<;>try intro ht)|refine VD ?_ ?_|exact Xx|fail))<;>try with_reducible intro K hK)
    refine W_loopS (fun z:Nat × Int × Int × Int=>(⟨slots [(1,.ptr 0 0 0),(4,.tree 1 (ints nb)),(6,.ref 1 1 0 n),(7,.ref 2 1 0 n),(8,.lit (.int .i64 r)),(9,.lit (.int .i64 z.2.1)),(10,.lit (.int .i64 z.2.2.1)),(11,.lit (.int .i64 z.2.2.2)),(12,.lit (.int .i64 z.1))],[.var (eMdl m),.arr 1 (ints plan),.arr 1 (bools done)]⟩:St))
      (fun z=>z.1≤n∧(-1≤z.2.1∧z.2.1<n)∧pickR fm fb nb done (n - z.1) z.1 z.2=(k1,k2,k3)) (fun z=>n - z.1) (0,-1,0,-1) ⟨Nat.zero_le _,⟨by dsimp only;omega,by dsimp only;omega⟩,hpk⟩ (Xv X0) ?_
    clear hpk
    rintro ⟨c,s1,s2,s3⟩ ⟨hc,hs,hk⟩ Ql2 hnl2 hel2
    dsimp only at hc hs hk ⊢
    by_cases hc':c<n
    · rw[show n - c=(n - (c+1))+1 by omega,pickR] at hk
      have hpo:=hpos c ⟨by omega,by omega⟩
      rw[Int.toNat_natCast] at hpo
      generalize fm c=vm at *
      generalize fb c=vb at *
      generalize hdn:done.getD c false=dn at *
      generalize hnc:nb.getD c 0=nc at *
      dsimp only at hk
      generalize hns:nb.getD s1.toNat 0=ns at *
      cases dn
      · rw[if_neg (by decide)] at hk
        ((try revert hK K);(repeat' (first|refine Va @hdn ?_|(refine V2 @hdn ?_ ?_<;>try with_reducible intro hb)|(refine Xi ?_ ?_<;>try intro ht)|refine VD ?_ ?_|exact Xx|fail))<;>try with_reducible intro K hK)
        refine callK_snap [] hpo (by decide) trivial ⟨.pure rfl,ArgR.frz (rows:=ints plan) rfl (ints_wid _) (by simp only[Bc,Rc,hpl]) (by decide) (ints_frz _),.pure rfl,trivial⟩ rfl (by simp) ?_
        ((try revert hK K);(repeat' (first|refine Va (X2 @hnc @hns) ?_|(refine V2 (X2 @hnc @hns) ?_ ?_<;>try with_reducible intro hb)|(refine Xi ?_ ?_<;>try intro ht)|refine VD ?_ ?_|exact Xx|fail))<;>try with_reducible intro K hK)
        all_goals try (exfalso;omega)
        all_goals first
          | (rw[if_pos (by omega)] at hk;exact hnl2 _ (c+1,(c:Int),vm,vb) ⟨by dsimp only;omega,⟨by dsimp only;omega,by dsimp only;omega⟩,hk⟩ (by dsimp only;omega) (Xv X0))
          | (rw[if_neg (by omega)] at hk;exact hnl2 _ (c+1,s1,s2,s3) ⟨by dsimp only;omega,hs,hk⟩ (by dsimp only;omega) (Xv X0))
      · rw[if_pos rfl] at hk
        ((try revert hK K);(repeat' (first|refine Va @hdn ?_|(refine V2 @hdn ?_ ?_<;>try with_reducible intro hb)|(refine Xi ?_ ?_<;>try intro ht)|refine VD ?_ ?_|exact Xx|fail))<;>try with_reducible intro K hK)
        all_goals exact hnl2 _ (c+1,s1,s2,s3) ⟨by dsimp only;omega,hs,hk⟩ (by dsimp only;omega) (Xv X0)
    · rw[show n - c=0 by omega,pickR] at hk
      obtain ⟨rfl,rfl,rfl⟩:s1=k1∧s2=k2∧s3=k3:=by simpa using hk
      ((try revert hK K);(repeat' (first|refine Va X0 ?_|(refine V2 X0 ?_ ?_<;>try with_reducible intro hb)|(refine Xi ?_ ?_<;>try intro ht)|refine VD ?_ ?_|exact Xx|fail))<;>try with_reducible intro K hK)
      refine hel2 _ _ rfl ?_
      clear hnl2 hel2
      repeat (first|refine Xu ?_)
      ((try revert hK K);(repeat' (first|refine Va (X2 @ints_set @bools_set) ?_|(refine V2 (X2 @ints_set @bools_set) ?_ ?_<;>try with_reducible intro hb)|(refine Xi ?_ ?_<;>try intro ht)|refine VD ?_ ?_|exact Xx|fail))<;>try with_reducible intro K hK)
      all_goals try (exfalso;omega)
      exact hnl _ (r+1,plan.set s1.toNat s3,done.set s1.toNat true) ⟨by dsimp only;omega,hpm2,⟨_,p3,by dsimp only;omega⟩,hR⟩ (by dsimp only;omega) (Xv X0)
  · rw[show n - r=0 by omega,satR] at hR
    subst hR
    ((try revert hK K);(repeat' (first|refine Va X0 ?_|(refine V2 X0 ?_ ?_<;>try with_reducible intro hb)|(refine Xi ?_ ?_<;>try intro ht)|refine VD ?_ ?_|exact Xx|fail))<;>try with_reducible intro K hK)
    refine hel _ _ rfl ?_;clear hnl hel Ql
    repeat (first|refine Xu ?_)
    ((try revert hK K);(repeat' (first|refine Vb X0 ?_|(refine V2 X0 ?_ ?_<;>try with_reducible intro hb)|(refine Xi ?_ ?_<;>try intro ht)|refine VD ?_ ?_|exact Xx|fail))<;>try with_reducible intro K hK)
    rw[← hres]
    exact RetOK_sel [] true (by decide) trivial (by decide) (by decide) (ArgR.tup2 (ArgR.frz (rows:=ints plan) rfl (ints_wid _) (by rw[ints_length,hpl]) (not_kept (by simp)) (ints_frz _)) (.pure rfl))
end T

