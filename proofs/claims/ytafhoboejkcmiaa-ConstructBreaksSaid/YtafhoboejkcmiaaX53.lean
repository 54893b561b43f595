import Derived.Test.YtafhoboejkcmiaaX46
import Derived.Test.YtafhoboejkcmiaaX49
import Derived.Test.YtafhoboejkcmiaaX50
set_option linter.unusedVariables false
set_option linter.unusedSimpArgs false
set_option linter.unnecessarySimpa false
set_option linter.unusedSectionVars false
set_option maxHeartbeats 64000000
set_option maxRecDepth 20000
open Go Go.Am Go.Proofs
open Nat (reduceEqDiff reduceAdd reduceLeDiff reduceMul)
open Int (reduceNeg reduceLE reduceToNat)
namespace T
theorem brCts_len (plan:List Int):∀ (l:List Ct) (out:List Int),(brCts plan l out).length=out.length
  | [],_=>rfl
  | c::r,out=>by
    rw[brCts,brCts_len plan r]
    split
    · rfl
    · exact brLd_len plan _ _
theorem breaksT_len (m:Mdl) (plan:List Int):(breaksT m plan).1.length≤plan.length:=by
  unfold breaksT
  split
  · exact Nat.zero_le _
  split
  · exact Nat.zero_le _
  unfold breaksV
  dsimp only
  rw[brCts_len,brPrs_len,brOwn_len,List.length_replicate]
  exact Nat.le_refl _
theorem breaks_law (tape raw:List Int) (hraw:raw.length<9223372036854775808):Holds Try.prog 6 [.tree 1 (ints tape),.tree 1 (ints raw)] [] (.lit (.bool true)) []:=by
  refine Holds.of_body' (fn:=Try.f6) 57 0 [.tmp 4] Try.func6 rfl rfl rfl rfl rfl (by simp) ?_
  repeat' (first|((fail_if_success (first|refine W_at 3 ?_|refine W_atE 3 ?_));refine Xq X0 ?_;intro K hK)|refine Xo X0 ?_|refine Xc (light_ok _) ?_|refine Xc (awake26_ok) ?_|(refine hK _ ?_;clear hK K)|(refine Xg X0 ?_ ?_<;>try intro hb)|(refine Xi ?_ ?_<;>try intro ht)|refine XY ?_|refine Xd ?_ ?_|exact Xx|fail)
  · exact RetOK_pure' rfl rfl
  have hL:tape.length<1000000:=by omega
  repeat' (first|((fail_if_success (first|refine W_at 4 ?_|refine W_atE 4 ?_));refine Xr X0 ?_;intro K hK)|refine Xo X0 ?_|(refine hK _ ?_;clear hK K)|(refine Xg X0 ?_ ?_<;>try intro hb)|(refine Xi ?_ ?_<;>try intro ht)|refine Xy ?_|refine Xd ?_ ?_|exact Xx|fail)
  (refine Xn [] (roll_ok tape) ?_;simp (disch:=omega) only[Ac,↓Pc,simprocAttr])
  repeat' (first|((fail_if_success (first|refine W_at 4 ?_|refine W_atE 4 ?_));refine Xr X0 ?_;intro K hK)|refine Xo X0 ?_|(refine hK _ ?_;clear hK K)|(refine Xg X0 ?_ ?_<;>try intro hb)|(refine Xi ?_ ?_<;>try intro ht)|refine Xy ?_|refine Xd ?_ ?_|exact Xx|fail)
  have hsome:=some26_ok tape 0 (Nat.zero_le _) hL
  unfold dice at hsome
  refine W_region_ce 1 (by decide) _ rfl ?_
  intro K hK
  simp (disch:=omega) only[Ac,↓Pc,simprocAttr,List.take,List.drop]
  refine⟨rfl,(show callKR Try.prog 10 [.ptr 0 0 0] (some 20) _ _ from ?_)⟩
  refine callKR_sel [0] hsome (by decide) ⟨rfl,trivial⟩ ⟨.eq rfl,trivial⟩ ?_
  rintro r os ⟨m,k,hm,hk,rfl,rfl⟩
  have hmb:=hm.mb
  have hfew:=hm.few
  have h1:=planG_ok m hm.few hm.opt tape k false hk hL
  have hl1:=plF_len (L:=tape) (b:=false) m.cls k []
  have hk1:=plF_le (L:=tape) (b:=false) m.cls k [] hk
  generalize planF tape false m.cls k []=pf1 at *
  obtain ⟨p1,k1⟩:=pf1
  dsimp only at *
  have h2:=planG_ok m hm.few hm.opt tape k1 true hk1 hL
  have hl2:=plF_len (L:=tape) (b:=true) m.cls k1 []
  generalize planF tape true m.cls k1 []=pf2 at *
  obtain ⟨p2,k2⟩:=pf2
  dsimp only at *
  rw[List.length_nil,Nat.zero_add] at hl1 hl2
  unfold dice at h1 h2
  simp (disch:=omega) only[Ac,↓Pc,simprocAttr]
  refine hK _ ?_;clear hK K
  repeat (first|refine Xu ?_)
  repeat' (first|((fail_if_success (first|refine W_at 5 ?_|refine W_atE 5 ?_));refine Xr X0 ?_;intro K hK)|refine Xo X0 ?_|(refine hK _ ?_;clear hK K)|(refine Xg X0 ?_ ?_<;>try intro hb)|(refine Xi ?_ ?_<;>try intro ht)|refine Xy ?_|refine Xd ?_ ?_|exact Xx|fail)
  refine unSq ?_;intro Q hn he
  refine join_here ⟨slots [(6,.ptr 0 0 0),(28,.tree 1 (intss [raw,p1,p2])),(29,.lit (.int .i64 3)),(30,.lit (.int .i64 0))],[.var (eMdl m)]⟩ hn ?_ (fun key=>?_)
  rotate_left
  · refine W_draw [] (.take 0 (.take 1 (.take 2 (.take 4 (.take 9 (.both 3 (.take 5 (.take 6 (.take 7 (.take 8 .nil)))) 5 (.take 3 (.take 6 (.take 7 (.take 8 .nil)))))))))) rfl (by decide) (by decide +kernel) ?_
    simp (disch:=omega) only[Ac,↓Pc,simprocAttr,Pw]
    repeat' (first|with_reducible refine And.intro ?_ ?_|omega|with_reducible rfl)
    all_goals
      (refine Xn [0] (h1) ?_;simp (disch:=omega) only[Ac,↓Pc,simprocAttr,Pw])
      repeat' (first|with_reducible refine And.intro ?_ ?_|omega|with_reducible rfl)
    all_goals
      (refine Xn [0] (h2) ?_;simp (disch:=omega) only[Ac,↓Pc,simprocAttr,Pw])
      repeat' (first|with_reducible refine And.intro ?_ ?_|omega|with_reducible rfl)
    all_goals
      refine key _ ?_
      exact Xs true [1] X0
  (try clear hn;try clear he)
  clear h1 h2 hsome
  ((try revert hK K);(repeat' (first|refine Va X0 ?_|(refine V2 X0 ?_ ?_<;>try with_reducible intro hb)|(refine Xi ?_ ?_<;>try intro ht)|refine VD ?_ ?_|exact Xx|fail))<;>try with_reducible intro K hK)
  refine W_loopS (fun i:Nat=>(⟨slots [(6,.ptr 0 0 0),(28,.tree 1 (intss [raw,p1,p2])),(29,.lit (.int .i64 3)),(30,.lit (.int .i64 i))],[.var (eMdl m)]⟩:St)) (fun i=>i≤3) (fun i=>3 - i) 0 (Nat.zero_le _) (Xv X0) ?_
  rintro i hi Ql hnl hel
  by_cases hi':i<3
  · have hpl:([raw,p1,p2].getD i []).length<9223372036854775808:=by
      have:i=0∨i=1∨i=2:=by omega
      rcases this with rfl | rfl | rfl
      · exact hraw
      · show p1.length<_;omega
      · show p2.length<_;omega
    generalize hps:[raw,p1,p2]=ps at *
    have hpsl:ps.length=3:=by rw[← hps];rfl
    generalize hpp:ps.getD i []=p at *
    have h1:=Breaks_ok m p hmb hpl
    have h2:=rBreaks_ok m p hmb hpl
    have hlen:=breaksT_len m p
    generalize breaksT m p=dv at *
    have h3:=same_ok dv.1 dv.1 (by omega)
    rw[decide_eq_true rfl] at h3
    ((try revert hK K);(repeat' (first|refine Vc (X5 @hpp @bne_self_eq_false.{0} @decide_true @Bool.not_true @beq_self_eq_true.{0}) (X3 h1 h2 h3) ?_|(refine V2 (X5 @hpp @bne_self_eq_false.{0} @decide_true @Bool.not_true @beq_self_eq_true.{0}) ?_ ?_<;>try with_reducible intro hb)|(refine Xi ?_ ?_<;>try intro ht)|refine VD ?_ ?_|exact Xx|fail))<;>try with_reducible intro K hK)
    all_goals try (exfalso;omega)
    exact hnl _ (i+1) (by omega) (by omega) (Xv X0)
  · ((try revert hK K);(repeat' (first|refine Va X0 ?_|(refine V2 X0 ?_ ?_<;>try with_reducible intro hb)|(refine Xi ?_ ?_<;>try intro ht)|refine VD ?_ ?_|exact Xx|fail))<;>try with_reducible intro K hK)
    refine hel _ _ rfl ?_;clear hnl hel Ql
    repeat (first|refine Xu ?_)
    ((try revert hK K);(repeat' (first|refine Vd X0 awake26_ok ?_|(refine V2 X0 ?_ ?_<;>try with_reducible intro hb)|(refine Xi ?_ ?_<;>try intro ht)|refine VD ?_ ?_|exact Xx|fail))<;>try with_reducible intro K hK)
    exact RetOK_pure' rfl rfl
end T

