import Derived.Test.YtdipcmigdbnheaaGreatX48
import Derived.Test.YtdipcmigdbnheaaGreatX49
import Derived.Test.YtdipcmigdbnheaaGreatX51
import Derived.Test.YtdipcmigdbnheaaGreatX11
set_option linter.unusedVariables false
set_option linter.unusedSimpArgs false
set_option linter.unnecessarySimpa false
set_option linter.unusedSectionVars false
set_option maxHeartbeats 64000000
set_option maxRecDepth 20000
open Nat renaming zero_le→aH
open Bool renaming not_true→hU
open Go Go.Am Go.Proofs
open Nat (reduceEqDiff reduceAdd reduceLeDiff reduceMul)
open Int (reduceNeg reduceLE reduceToNat)
namespace T
theorem aiL (tape:List Int) (mH:Int):ao Tryz.prog 4 [.tree 1 (ints tape),.lit (.int .i64 mH)] [] (.lit (.bool true)) []:=by
  refine ao.aD (fn:=Tryz.f4) 81 0 [.tmp 4] Tryz.func4 rfl rfl rfl rfl rfl (by simp) ?_
  repeat' (first|((fail_if_success (first|refine iV 3 ?_|refine iW 3 ?_));refine Xq X0 ?_;intro K hK)|refine Xo X0 ?_|refine Xc (P5 _) ?_|refine Xc (E6) ?_|(refine hK _ ?_;clear hK K)|(refine Xi ?_ ?_<;>try intro ht)|refine XY ?_|fail)
  all_goals try (exact aE rfl rfl)
  have hL:tape.length<1000000:=by omega
  ((fail_if_success (first|refine iV 4 ?_|refine iW 4 ?_));refine Xr X0 ?_;intro K hK)
  (refine Xn [] (P6 tape) ?_;simp (disch:=omega) only[Ac,↓Pc,simprocAttr])
  repeat' (first|(refine hK _ ?_;clear hK K)|refine Xy ?_|fail)
  have lF:=abE tape 0 (aH _) hL
  unfold jq at lF
  refine wI 1 (by decide) _ rfl ?_
  intro K hK
  simp (disch:=omega) only[Ac,↓Pc,simprocAttr,List.take,List.drop]
  refine⟨rfl,(show pB Tryz.prog 13 [.ptr 0 0 0] (some 20) _ _ from ?_)⟩
  refine Aj [0] lF (by decide) ⟨rfl,trivial⟩ ⟨.eq rfl,trivial⟩ ?_
  rintro r os ⟨m,k,hm,hk,rfl,rfl⟩
  simp (disch:=omega) only[Ac,↓Pc,simprocAttr]
  refine hK _ ?_;clear hK K
  repeat (refine Xu ?_)
  have IA:=hm.mb
  refine dO (aQ.Ap 6 1 (cells:=au m) (by rfl) (by simp only[Kc,simprocAttr]) (by simp[au])) ?_
  refine dO (σ':=⟨aw [(1,.lit (.int .i64 mH)),(6,.dz (au m))],[]⟩) (Xs false [] X0) ?_
  clear lF hk k hL hm
  have g1:=IB mH 400 (by unfold fH;omega)
  have g2:=IB mH 9 (by unfold fH;omega)
  generalize tQ mH 400=e4 at *
  generalize tQ mH 9=e9 at *
  refine Vc X0 (X2 g1 g2) ?_
  refine dO (σ':=⟨aw [(6,.dz (au m)),(26,.tree 1 (ints [mH,e4,e9])),(27,.lit (.int .i64 3)),(28,.lit (.int .i64 0))],[]⟩) (Xs true [] X0) ?_
  clear g1 g2
  generalize P7:[mH,e4,e9]=qs at *
  have aiM:qs.length=3:=by rw[← P7];rfl
  clear P7
  have h1:=yD m IA
  have h2:=abF m IA
  refine aG (fun i:Nat=>(⟨aw [(6,.dz (au m)),(26,.tree 1 (ints qs)),(27,.lit (.int .i64 3)),(28,.lit (.int .i64 i))],[]⟩:St)) (fun i=>i≤3) (fun i=>3 - i) 0 (aH _) (Xv X0) ?_
  rintro i hi Ql ak aq
  by_cases ax:i<3
  · generalize bQ:qs.getD i 0=kk at *
    by_cases hv:dW m=0
    · have cu:=iu.1 hv
      rw[hv] at h1
      by_cases hk:kk<0∨65536<kk
      · have h3:=abG m kk cu hk
        unfold Aq at h3
        ((repeat' (first|refine Vc (X2 @bQ @au.eq_1) (X2 h3 h1) ?_|(refine V2 (X2 @bQ @au.eq_1) ?_ ?_<;>try with_reducible intro hb)|(refine Xi ?_ ?_<;>try intro ht)|exact Xx|fail)))
        all_goals exact ak _ (i+1) (by omega) (by omega) (Xs false [] X0)
      · obtain ⟨pa,aU,bH,P,hs,h3⟩:=P8 m kk cu (by omega)
        have h4:=P9 m cu hs
        have heq:=hs.eq
        have jr:∀ ρ,aX ρ pa=pa:=fun ρ=>by
          rcases hs.pa with ⟨rfl,_⟩ | ⟨q,rfl,_⟩<;>rfl
        have jK:cm pa=true:=by
          rcases hs.pa with ⟨rfl,_⟩ | ⟨q,rfl,_⟩<;>rfl
        clear hs
        generalize oK m=pn at *
        ((repeat' (first|refine Vc (X4 @bQ @au.eq_1 @jK @jr) h1 ?_|(refine Xi ?_ ?_<;>try intro ht)|exact Xx|fail))<;>try with_reducible intro K hK)
        (refine Xn [] (h3) ?_;simp (disch:=omega) only[Ac,↓Pc,simprocAttr,jr])
        ((try revert hK K);(repeat' (first|refine Vc (X3 @jK @jr @bne_self_eq_false.{0}) (X2 h1 h2) ?_|(refine V2 (X3 @jK @jr @bne_self_eq_false.{0}) ?_ ?_<;>try with_reducible intro hb)|(refine Xi ?_ ?_<;>try intro ht)|exact Xx|fail))<;>try with_reducible intro K hK)
        refine ig [] h4 (by decide) trivial ⟨.pure rfl,.eq (by simp[aX,m6,jr]),trivial⟩ ?_
        simp (disch:=omega) only[Ac,↓Pc,simprocAttr,jr]
        ((try revert hK K);(repeat' (first|refine Va (X4 @jK @jr @bne_self_eq_false.{0} @hU) ?_|(refine V2 (X4 @jK @jr @bne_self_eq_false.{0} @hU) ?_ ?_<;>try with_reducible intro hb)|(refine Xi ?_ ?_<;>try intro ht)|exact Xx|fail)))
        all_goals exact ak _ (i+1) (by omega) (by omega) (Xs false [] X0)
    · have h3:=abH m kk IA hv
      unfold Aq at h3
      generalize dW m=e at *
      ((repeat' (first|refine Vc (X3 @bQ @au.eq_1 @bne_self_eq_false.{0}) (X2 h3 h1) ?_|(refine V2 (X3 @bQ @au.eq_1 @bne_self_eq_false.{0}) ?_ ?_<;>try with_reducible intro hb)|(refine Xi ?_ ?_<;>try intro ht)|exact Xx|fail)))
      all_goals exact ak _ (i+1) (by omega) (by omega) (Xs false [] X0)
  · ((repeat' (first|refine Va X0 ?_|(refine Xi ?_ ?_<;>try intro ht)|exact Xx|fail)))
    refine aq _ _ rfl ?_;clear ak aq Ql
    repeat (refine Xu ?_)
    refine Vd X0 E6 ?_
    exact aE rfl rfl
end T

