import Derived.Test.YtafhoboejkcmiaaGreatX41
import Derived.Test.YtafhoboejkcmiaaGreatX43
import Derived.Test.YtafhoboejkcmiaaGreatX27
set_option linter.unusedVariables false
set_option linter.unusedSimpArgs false
set_option linter.unnecessarySimpa false
set_option linter.unusedSectionVars false
set_option maxHeartbeats 64000000
set_option maxRecDepth 20000
open Go Go.Am Go.Proofs
open Nat (reduceEqDiff reduceAdd reduceLeDiff reduceMul)
open Int (reduceNeg reduceLE reduceToNat)
namespace T
theorem exP_at {m:Mdl} {a b:Int} {p:Pr} {e:Int}:decide (p.fst=a∧p.snd=b∧e=1099511627776)=(decide (p.fst=a∧p.snd=b) && decide (e=1099511627776)):=by
  simp only[Bool.decide_and,Bool.and_assoc]
theorem rExcl_ok (m:Mdl) (a x b y:Int) (hm:VM m) (ha:optB m a x=true) (hb0:optB m b y=true):Holds Tryz.prog 76 [.agg (eMdl m),.lit (.int .i64 a),.lit (.int .i64 x),.lit (.int .i64 b),.lit (.int .i64 y)] [] (.lit (.bool (exclB m a x b y))) []:=by
  have hm2:=hm.prs
  have hm1:=hm.cls
  have hh:optB m (if b<a then b else a) (if b<a then y else x)=true∧optB m (if b<a then a else b) (if b<a then x else y)=true:=by split<;>exact⟨by assumption,by assumption⟩
  have hex:exclB m a x b y=exPr m (if b<a then b else a) (if b<a then y else x) (if b<a then a else b) (if b<a then x else y):=by unfold exclB;split<;>rfl
  generalize hres:exclB m a x b y=res at *
  unfold exPr at hex
  generalize ha2:(if b<a then b else a)=a2 at *
  generalize hb2:(if b<a then a else b)=b2 at *
  generalize hx2:(if b<a then y else x)=x2 at *
  generalize hy2:(if b<a then x else y)=y2 at *
  have hex:=hex.symm
  refine Holds.of_body' (fn:=Tryz.f76) 50 0 [.tmp 10] Tryz.func76 rfl rfl rfl rfl rfl (by simp) ?_
  repeat' (first|((fail_if_success (first|refine W_at 3 ?_|refine W_atE 3 ?_));refine Xr X0 ?_;intro K hK)|refine Xo X0 ?_|(refine hK _ ?_;clear hK K)|(refine Xg X0 ?_ ?_<;>try intro hb)|(refine Xi ?_ ?_<;>try intro ht)|refine Xy ?_|refine Xd ?_ ?_|exact Xx|fail)
  all_goals first|rw[if_pos (by assumption)] at ha2 hb2 hx2 hy2|rw[if_neg (by omega)] at ha2 hb2 hx2 hy2
  all_goals
    refine W_turn (σ':=⟨slots [(1,.lit (.int .i64 a2)),(2,.lit (.int .i64 x2)),(3,.lit (.int .i64 b2)),(4,.lit (.int .i64 y2)),(5,.ptr 0 0 0)],[.var (eMdl m)]⟩) (Xv (X4 @ha2 @hb2 @hx2 @hy2)) ?_
    clear ha2 hb2 hx2 hy2 ha hb0
    obtain ⟨hxa,hyb⟩:=hh
    obtain ⟨a3,a4,a5,a6⟩:=optB_iff.1 hxa
    obtain ⟨b3,b4,b5,b6⟩:=optB_iff.1 hyb
    ((try revert hK K);(repeat' (first|refine Va X0 ?_|(refine V2 X0 ?_ ?_<;>try with_reducible intro hb)|(refine Xi ?_ ?_<;>try intro ht)|refine VD ?_ ?_|exact Xx|fail))<;>try with_reducible intro K hK)
    refine W_loopS (fun k:Nat=>(⟨slots [(1,.lit (.int .i64 a2)),(2,.lit (.int .i64 x2)),(3,.lit (.int .i64 b2)),(4,.lit (.int .i64 y2)),(5,.ptr 0 0 0),(11,.lit (.int .i64 k))],[.var (eMdl m)]⟩:St)) (fun k=>k≤m.prs.length∧((m.prs.drop k).any fun p=>decide (p.fst=a2∧p.snd=b2∧entryV m p x2 y2=1099511627776))=res) (fun k=>m.prs.length - k) 0 ⟨Nat.zero_le _,hex⟩ (Xv X0) ?_
    rintro k ⟨hk,hr⟩ Ql hnl hel
    by_cases hk':k<m.prs.length
    · have hpb:=prsL_mem hm.pr _ (getD_mem (d:=default) hk')
      rw[any_drop hk',exP_at (m:=m)] at hr
      generalize hcc:m.prs.getD k default=p at *
      by_cases hpp:p.fst=a2∧p.snd=b2
      · rw[decide_eq_true hpp,Bool.true_and] at hr
        have hec:=entry_ok m p x2 y2 hpb hm.opt ⟨a5,by rw[hpp.1];exact a6⟩ ⟨b5,by rw[hpp.2];exact b6⟩
        generalize entryV m p x2 y2=en at *
        ((try revert hK K);(repeat' (first|refine Vc (X2 @hcc @ePr.eq_1) hec ?_|(refine V2 (X2 @hcc @ePr.eq_1) ?_ ?_<;>try with_reducible intro hb)|(refine Xi ?_ ?_<;>try intro ht)|refine VD ?_ ?_|exact Xx|fail))<;>try with_reducible intro K hK)
        all_goals try (exfalso;omega)
        · rw[decide_eq_true (by assumption),Bool.true_or] at hr
          repeat (first|refine Xu ?_|(refine hel2 _ _ rfl ?_;clear hnl2 hel2;try clear Ql2)|(refine hel3 _ _ rfl ?_;clear hnl3 hel3;try clear Ql3)|(refine hel4 _ _ rfl ?_;clear hnl4 hel4;try clear Ql4))
          ((try revert hK K);(repeat' (first|refine Vb X0 ?_|(refine V2 X0 ?_ ?_<;>try with_reducible intro hb)|(refine Xi ?_ ?_<;>try intro ht)|refine VD ?_ ?_|exact Xx|fail))<;>try with_reducible intro K hK)
          exact RetOK_pure' rfl (by rw[← hr])
        · rw[decide_eq_false (by assumption),Bool.false_or] at hr
          exact hnl _ (k+1) ⟨by omega,hr⟩ (by omega) (Xs false [0] X0)
      · rw[decide_eq_false hpp,Bool.false_and,Bool.false_or] at hr
        ((try revert hK K);(repeat' (first|refine Va (X2 @hcc @ePr.eq_1) ?_|(refine V2 (X2 @hcc @ePr.eq_1) ?_ ?_<;>try with_reducible intro hb)|(refine Xi ?_ ?_<;>try intro ht)|refine VD ?_ ?_|exact Xx|fail))<;>try with_reducible intro K hK)
        all_goals try (exfalso;omega)
        all_goals exact hnl _ (k+1) ⟨by omega,hr⟩ (by omega) (Xs false [0] X0)
    · ((try revert hK K);(repeat' (first|refine Va X0 ?_|(refine V2 X0 ?_ ?_<;>try with_reducible intro hb)|(refine Xi ?_ ?_<;>try intro ht)|refine VD ?_ ?_|exact Xx|fail))<;>try with_reducible intro K hK)
      rw[List.drop_eq_nil_of_le (by omega),List.any_nil] at hr
      refine hel _ _ rfl ?_;clear hnl hel Ql
      repeat (first|refine Xu ?_)
      ((try revert hK K);(repeat' (first|refine Vb X0 ?_|(refine V2 X0 ?_ ?_<;>try with_reducible intro hb)|(refine Xi ?_ ?_<;>try intro ht)|refine VD ?_ ?_|exact Xx|fail))<;>try with_reducible intro K hK)
      exact RetOK_pure' rfl (by rw[← hr])
end T

