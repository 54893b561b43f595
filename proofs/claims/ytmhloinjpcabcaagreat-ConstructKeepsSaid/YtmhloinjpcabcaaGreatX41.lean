import Derived.Test.YtmhloinjpcabcaaGreatX24
import Derived.Test.YtmhloinjpcabcaaGreatX34
import Derived.Test.YtmhloinjpcabcaaGreatX33
import Derived.Test.YtmhloinjpcabcaaGreatX37
set_option linter.unusedVariables false
set_option linter.unusedSimpArgs false
set_option linter.unnecessarySimpa false
set_option linter.unusedSectionVars false
set_option maxHeartbeats 64000000
set_option maxRecDepth 20000
open Go Go.Am Go.Proofs
open Nat (reduceEqDiff reduceAdd reduceLeDiff reduceMul)
open Int (reduceNeg reduceLE reduceToNat)
namespace T
theorem rFree_ok (o:Opt) (ho:o.ch.length<9223372036854775808):Holds Tryz.prog 47 [.agg (eOpt o)] [] (.lit (.bool (freeB o))) []:=by
  generalize hres:freeB o=res
  unfold freeB at hres
  refine Holds.of_body' (fn:=Tryz.f47) 18 0 [.tmp 2] Tryz.func47 rfl rfl rfl rfl rfl (by simp) ?_
  ((try revert hK K);(repeat' (first|refine Vb @eOpt.eq_1 ?_|(refine V2 @eOpt.eq_1 ?_ ?_<;>try with_reducible intro hb)|(refine Xi ?_ ?_<;>try intro ht)|refine VD ?_ ?_|exact Xx|fail))<;>try with_reducible intro K hK)
  refine W_loopS (fun k:Nat=>(⟨slots [(1,.ptr 0 0 0),(3,.lit (.int .i64 k))],[.var (eOpt o)]⟩:St)) (fun k=>k≤o.ch.length∧(!(o.ch.drop k).any fun c=>decide (c.2=1099511627776))=res) (fun k=>o.ch.length - k) 0 ⟨Nat.zero_le _,hres⟩ (Xv @eOpt.eq_1) ?_
  rintro k ⟨hk,hr⟩ Ql hnl hel
  by_cases hk':k<o.ch.length
  · rw[any_drop hk'] at hr
    generalize hcc:o.ch.getD k default=c at *
    by_cases hc:c.2=1099511627776
    · rw[decide_eq_true hc] at hr
      ((try revert hK K);(repeat' (first|refine Va (X3 @hcc @eCh.eq_1 @eOpt.eq_1) ?_|(refine V2 (X3 @hcc @eCh.eq_1 @eOpt.eq_1) ?_ ?_<;>try with_reducible intro hb)|(refine Xi ?_ ?_<;>try intro ht)|refine VD ?_ ?_|exact Xx|fail))<;>try with_reducible intro K hK)
      all_goals try (exfalso;omega)
      all_goals
        repeat (first|refine Xu ?_|(refine hel2 _ _ rfl ?_;clear hnl2 hel2;try clear Ql2)|(refine hel3 _ _ rfl ?_;clear hnl3 hel3;try clear Ql3)|(refine hel4 _ _ rfl ?_;clear hnl4 hel4;try clear Ql4))
        ((try revert hK K);(repeat' (first|refine Vb X0 ?_|(refine V2 X0 ?_ ?_<;>try with_reducible intro hb)|(refine Xi ?_ ?_<;>try intro ht)|refine VD ?_ ?_|exact Xx|fail))<;>try with_reducible intro K hK)
        exact RetOK_pure' rfl (by rw[← hr];rfl)
    · rw[decide_eq_false hc,Bool.false_or] at hr
      ((try revert hK K);(repeat' (first|refine Va (X3 @hcc @eCh.eq_1 @eOpt.eq_1) ?_|(refine V2 (X3 @hcc @eCh.eq_1 @eOpt.eq_1) ?_ ?_<;>try with_reducible intro hb)|(refine Xi ?_ ?_<;>try intro ht)|refine VD ?_ ?_|exact Xx|fail))<;>try with_reducible intro K hK)
      all_goals try (exfalso;omega)
      all_goals exact hnl _ (k+1) ⟨by omega,hr⟩ (by omega) (Xv @eOpt.eq_1)
  · rw[List.drop_eq_nil_of_le (by omega)] at hr
    ((try revert hK K);(repeat' (first|refine Va @eOpt.eq_1 ?_|(refine V2 @eOpt.eq_1 ?_ ?_<;>try with_reducible intro hb)|(refine Xi ?_ ?_<;>try intro ht)|refine VD ?_ ?_|exact Xx|fail))<;>try with_reducible intro K hK)
    refine hel _ _ rfl ?_;clear hnl hel Ql
    repeat (first|refine Xu ?_)
    ((try revert hK K);(repeat' (first|refine Vb X0 ?_|(refine V2 X0 ?_ ?_<;>try with_reducible intro hb)|(refine Xi ?_ ?_<;>try intro ht)|refine VD ?_ ?_|exact Xx|fail))<;>try with_reducible intro K hK)
    exact RetOK_pure' rfl (by rw[← hr];rfl)
theorem rHard_ok (c:Ct):Holds Tryz.prog 77 [.agg (eCt c)] [] (.lit (.bool (hardB c))) []:=by
  refine Holds.of_body' (fn:=Tryz.f77) 6 0 [.tmp 2] Tryz.func77 rfl rfl rfl rfl rfl (by simp) ?_
  ((try revert hK K);(repeat' (first|refine Vb @eCt.eq_1 ?_|(refine V2 @eCt.eq_1 ?_ ?_<;>try with_reducible intro hb)|(refine Xi ?_ ?_<;>try intro ht)|refine VD ?_ ?_|exact Xx|fail))<;>try with_reducible intro K hK)
  exact RetOK_pure' rfl rfl
theorem rCounted_ok (c:Ct) (a:Int) (hc:c.loads.length<9223372036854775808):Holds Tryz.prog 87 [.agg (eCt c),.lit (.int .i64 a)] [] (.lit (.bool (inCt c a))) []:=by
  generalize hres:inCt c a=res
  unfold inCt at hres
  refine Holds.of_body' (fn:=Tryz.f87) 21 0 [.tmp 4] Tryz.func87 rfl rfl rfl rfl rfl (by simp) ?_
  ((try revert hK K);(repeat' (first|refine Vb X0 ?_|(refine V2 X0 ?_ ?_<;>try with_reducible intro hb)|(refine Xi ?_ ?_<;>try intro ht)|refine VD ?_ ?_|exact Xx|fail))<;>try with_reducible intro K hK)
  refine W_loopS (fun k:Nat=>(⟨slots [(1,.lit (.int .i64 a)),(2,.ptr 0 0 0),(5,.lit (.int .i64 k))],[.var (eCt c)]⟩:St)) (fun k=>k≤c.loads.length∧((c.loads.drop k).any fun l=>decide (l.cls=a))=res) (fun k=>c.loads.length - k) 0 ⟨Nat.zero_le _,hres⟩ (Xv X0) ?_
  rintro k ⟨hk,hr⟩ Ql hnl hel
  by_cases hk':k<c.loads.length
  · rw[any_drop hk'] at hr
    generalize hcc:c.loads.getD k default=x at *
    by_cases hx:x.cls=a
    · rw[decide_eq_true hx,Bool.true_or] at hr
      ((try revert hK K);(repeat' (first|refine Va (X2 @hcc @eLd.eq_1) ?_|(refine V2 (X2 @hcc @eLd.eq_1) ?_ ?_<;>try with_reducible intro hb)|(refine Xi ?_ ?_<;>try intro ht)|refine VD ?_ ?_|exact Xx|fail))<;>try with_reducible intro K hK)
      all_goals try (exfalso;omega)
      all_goals
        repeat (first|refine Xu ?_|(refine hel2 _ _ rfl ?_;clear hnl2 hel2;try clear Ql2)|(refine hel3 _ _ rfl ?_;clear hnl3 hel3;try clear Ql3)|(refine hel4 _ _ rfl ?_;clear hnl4 hel4;try clear Ql4))
        ((try revert hK K);(repeat' (first|refine Vb X0 ?_|(refine V2 X0 ?_ ?_<;>try with_reducible intro hb)|(refine Xi ?_ ?_<;>try intro ht)|refine VD ?_ ?_|exact Xx|fail))<;>try with_reducible intro K hK)
        exact RetOK_pure' rfl (by rw[← hr])
    · rw[decide_eq_false hx,Bool.false_or] at hr
      ((try revert hK K);(repeat' (first|refine Va (X2 @hcc @eLd.eq_1) ?_|(refine V2 (X2 @hcc @eLd.eq_1) ?_ ?_<;>try with_reducible intro hb)|(refine Xi ?_ ?_<;>try intro ht)|refine VD ?_ ?_|exact Xx|fail))<;>try with_reducible intro K hK)
      all_goals try (exfalso;omega)
      all_goals exact hnl _ (k+1) ⟨by omega,hr⟩ (by omega) (Xv X0)
  · rw[List.drop_eq_nil_of_le (by omega)] at hr
    ((try revert hK K);(repeat' (first|refine Va X0 ?_|(refine V2 X0 ?_ ?_<;>try with_reducible intro hb)|(refine Xi ?_ ?_<;>try intro ht)|refine VD ?_ ?_|exact Xx|fail))<;>try with_reducible intro K hK)
    refine hel _ _ rfl ?_;clear hnl hel Ql
    repeat (first|refine Xu ?_)
    ((try revert hK K);(repeat' (first|refine Vb X0 ?_|(refine V2 X0 ?_ ?_<;>try with_reducible intro hb)|(refine Xi ?_ ?_<;>try intro ht)|refine VD ?_ ?_|exact Xx|fail))<;>try with_reducible intro K hK)
    exact RetOK_pure' rfl (by rw[← hr];rfl)
theorem rNear_ok (m:Mdl) (hm:VM m) (a b:Int):Holds Tryz.prog 41 [.agg (eMdl m),.lit (.int .i64 a),.lit (.int .i64 b)] [] (.lit (.bool (nearB m a b))) []:=by
  have hm2:=hm.prs
  have hm3:=hm.cts
  generalize hres:nearB m a b=res
  unfold nearB at hres
  generalize hC:(m.cts.any fun c=>hardB c && inCt c a && inCt c b)=C at *
  refine Holds.of_body' (fn:=Tryz.f41) 81 0 [.tmp 6] Tryz.func41 rfl rfl rfl rfl rfl (by simp) ?_
  ((try revert hK K);(repeat' (first|refine Vb X0 ?_|(refine V2 X0 ?_ ?_<;>try with_reducible intro hb)|(refine Xi ?_ ?_<;>try intro ht)|refine VD ?_ ?_|exact Xx|fail))<;>try with_reducible intro K hK)
  refine W_loopS (fun k:Nat=>(⟨slots [(1,.lit (.int .i64 a)),(2,.lit (.int .i64 b)),(3,.ptr 0 0 0),(7,.lit (.int .i64 k))],[.var (eMdl m)]⟩:St)) (fun k=>k≤m.prs.length∧(((m.prs.drop k).any fun p=>decide (p.fst=min a b∧p.snd=max a b) && hasF p) || C)=res) (fun k=>m.prs.length - k) 0 ⟨Nat.zero_le _,hres⟩ (Xv X0) ?_
  rintro k ⟨hk,hr⟩ Ql hnl hel
  by_cases hk':k<m.prs.length
  · have htl:=hm.mb.tab _ (getD_mem (d:=default) hk')
    rw[any_drop hk'] at hr
    generalize hpp:m.prs.getD k default=p at *
    generalize hmn:min a b=mn at *
    generalize hmx:max a b=mx at *
    by_cases hx:p.fst=mn∧p.snd=mx
    · rw[decide_eq_true hx,Bool.true_and] at hr
      generalize hF:hasF p=bF at hr
      unfold hasF at hF
      ((try revert hK K);(repeat' (first|refine Va (X4 @hpp @ePr.eq_1 @hmn @hmx) ?_|(refine V2 (X4 @hpp @ePr.eq_1 @hmn @hmx) ?_ ?_<;>try with_reducible intro hb)|(refine Xi ?_ ?_<;>try intro ht)|refine VD ?_ ?_|exact Xx|fail))<;>try with_reducible intro K hK)
      all_goals try (exfalso;omega)
      refine W_loopS (fun j:Nat=>(⟨slots [(1,.lit (.int .i64 a)),(2,.lit (.int .i64 b)),(3,.ptr 0 0 0),(7,.lit (.int .i64 k)),(8,.ptr 1 0 0),(9,.lit (.int .i64 j))],[.var (eMdl m),.var (ePr p)]⟩:St)) (fun j=>j≤p.tab.length∧((p.tab.drop j).any fun n=>decide (n=1099511627776))=bF) (fun j=>p.tab.length - j) 0 ⟨Nat.zero_le _,hF⟩ (Xv @ePr.eq_1) ?_
      rintro j ⟨hj,hrj⟩ Ql2 hnl2 hel2
      by_cases hj':j<p.tab.length
      · rw[any_drop hj',show (default:Int)=0 from rfl] at hrj
        generalize hy:p.tab.getD j 0=y at *
        by_cases hyF:y=1099511627776
        · rw[decide_eq_true hyF,Bool.true_or] at hrj
          rw[← hrj,Bool.true_or,Bool.true_or] at hr
          ((try revert hK K);(repeat' (first|refine Va (X2 @hy @ePr.eq_1) ?_|(refine V2 (X2 @hy @ePr.eq_1) ?_ ?_<;>try with_reducible intro hb)|(refine Xi ?_ ?_<;>try intro ht)|refine VD ?_ ?_|exact Xx|fail))<;>try with_reducible intro K hK)
          all_goals try (exfalso;omega)
          all_goals
            repeat (first|refine Xu ?_|(refine hel2 _ _ rfl ?_;clear hnl2 hel2;try clear Ql2)|(refine hel3 _ _ rfl ?_;clear hnl3 hel3;try clear Ql3)|(refine hel4 _ _ rfl ?_;clear hnl4 hel4;try clear Ql4))
            ((try revert hK K);(repeat' (first|refine Vb X0 ?_|(refine V2 X0 ?_ ?_<;>try with_reducible intro hb)|(refine Xi ?_ ?_<;>try intro ht)|refine VD ?_ ?_|exact Xx|fail))<;>try with_reducible intro K hK)
            exact RetOK_pure' rfl (by rw[← hr])
        · rw[decide_eq_false hyF,Bool.false_or] at hrj
          ((try revert hK K);(repeat' (first|refine Va (X2 @hy @ePr.eq_1) ?_|(refine V2 (X2 @hy @ePr.eq_1) ?_ ?_<;>try with_reducible intro hb)|(refine Xi ?_ ?_<;>try intro ht)|refine VD ?_ ?_|exact Xx|fail))<;>try with_reducible intro K hK)
          all_goals try (exfalso;omega)
          all_goals exact hnl2 _ (j+1) ⟨by omega,hrj⟩ (by omega) (Xv @ePr.eq_1)
      · rw[List.drop_eq_nil_of_le (by omega),List.any_nil] at hrj
        rw[← hrj,Bool.false_or] at hr
        ((try revert hK K);(repeat' (first|refine Va @ePr.eq_1 ?_|(refine V2 @ePr.eq_1 ?_ ?_<;>try with_reducible intro hb)|(refine Xi ?_ ?_<;>try intro ht)|refine VD ?_ ?_|exact Xx|fail))<;>try with_reducible intro K hK)
        refine hel2 _ _ rfl ?_
        clear hnl2 hel2
        repeat (first|refine Xu ?_)
        ((try revert hK K);(repeat' (first|refine Va X0 ?_|(refine V2 X0 ?_ ?_<;>try with_reducible intro hb)|(refine Xi ?_ ?_<;>try intro ht)|refine VD ?_ ?_|exact Xx|fail))<;>try with_reducible intro K hK)
        exact hnl _ (k+1) ⟨by omega,hr⟩ (by omega) (Xs false [0] X0)
    · rw[decide_eq_false hx,Bool.false_and,Bool.false_or] at hr
      ((try revert hK K);(repeat' (first|refine Va (X4 @hpp @ePr.eq_1 @hmn @hmx) ?_|(refine V2 (X4 @hpp @ePr.eq_1 @hmn @hmx) ?_ ?_<;>try with_reducible intro hb)|(refine Xi ?_ ?_<;>try intro ht)|refine VD ?_ ?_|exact Xx|fail))<;>try with_reducible intro K hK)
      all_goals try (exfalso;omega)
      all_goals exact hnl _ (k+1) ⟨by omega,hr⟩ (by omega) (Xs false [0] X0)
  · rw[List.drop_eq_nil_of_le (by omega),List.any_nil,Bool.false_or] at hr
    subst hr
    ((try revert hK K);(repeat' (first|refine Va X0 ?_|(refine V2 X0 ?_ ?_<;>try with_reducible intro hb)|(refine Xi ?_ ?_<;>try intro ht)|refine VD ?_ ?_|exact Xx|fail))<;>try with_reducible intro K hK)
    refine hel _ _ rfl ?_;clear hnl hel Ql
    repeat (first|refine Xu ?_)
    clear hk hk'
    ((try revert hK K);(repeat' (first|refine Vb X0 ?_|(refine V2 X0 ?_ ?_<;>try with_reducible intro hb)|(refine Xi ?_ ?_<;>try intro ht)|refine VD ?_ ?_|exact Xx|fail))<;>try with_reducible intro K hK)
    refine W_loopS (fun k:Nat=>(⟨slots [(1,.lit (.int .i64 a)),(2,.lit (.int .i64 b)),(3,.ptr 0 0 0),(10,.lit (.int .i64 k))],[.var (eMdl m)]⟩:St)) (fun k=>k≤m.cts.length∧((m.cts.drop k).any fun c=>hardB c && inCt c a && inCt c b)=C) (fun k=>m.cts.length - k) 0 ⟨Nat.zero_le _,hC⟩ (Xv X0) ?_
    clear hC hres
    rintro k ⟨hk,hr⟩ Ql hnl hel
    by_cases hk':k<m.cts.length
    · have hcl:=hm.mb.lds _ (getD_mem (d:=default) hk')
      rw[any_drop hk'] at hr
      generalize hcc:m.cts.getD k default=c at *
      have h1:=rHard_ok c
      have h2:=rCounted_ok c a hcl
      have h3:=rCounted_ok c b hcl
      generalize hardB c=x1 at *
      generalize inCt c a=x2 at *
      generalize inCt c b=x3 at *
      cases x1<;>cases x2<;>cases x3
      all_goals
        simp only[Bool.false_and,Bool.and_false,Bool.true_and,Bool.false_or,Bool.true_or] at hr
        ((try revert hK K);(repeat' (first|refine Vc @hcc (X3 h1 h2 h3) ?_|(refine V2 @hcc ?_ ?_<;>try with_reducible intro hb)|(refine Xi ?_ ?_<;>try intro ht)|refine VD ?_ ?_|exact Xx|fail))<;>try with_reducible intro K hK)
      all_goals try (exfalso;simp_all;done)
      all_goals first
        | exact hnl _ (k+1) ⟨by omega,hr⟩ (by omega) (by (refine Turns.slots _ _ rfl ?_;simp only[Tc,↓reduceIte,reduceEqDiff,Nat.reduceBEq,reduceAdd];try trivial))
        | (repeat (first|refine Xu ?_|(refine hel2 _ _ rfl ?_;clear hnl2 hel2;try clear Ql2)|(refine hel3 _ _ rfl ?_;clear hnl3 hel3;try clear Ql3)|(refine hel4 _ _ rfl ?_;clear hnl4 hel4;try clear Ql4));((try revert hK K);(repeat' (first|refine Vb X0 ?_|(refine V2 X0 ?_ ?_<;>try with_reducible intro hb)|(refine Xi ?_ ?_<;>try intro ht)|refine VD ?_ ?_|exact Xx|fail))<;>try with_reducible intro K hK);exact RetOK_pure' rfl (by rw[← hr]))
        | trace_state
    · rw[List.drop_eq_nil_of_le (by omega)] at hr
      ((try revert hK K);(repeat' (first|refine Va X0 ?_|(refine V2 X0 ?_ ?_<;>try with_reducible intro hb)|(refine Xi ?_ ?_<;>try intro ht)|refine VD ?_ ?_|exact Xx|fail))<;>try with_reducible intro K hK)
      refine hel _ _ rfl ?_;clear hnl hel Ql
      repeat (first|refine Xu ?_)
      ((try revert hK K);(repeat' (first|refine Vb X0 ?_|(refine V2 X0 ?_ ?_<;>try with_reducible intro hb)|(refine Xi ?_ ?_<;>try intro ht)|refine VD ?_ ?_|exact Xx|fail))<;>try with_reducible intro K hK)
      exact RetOK_pure' rfl (by rw[← hr];rfl)
end T

