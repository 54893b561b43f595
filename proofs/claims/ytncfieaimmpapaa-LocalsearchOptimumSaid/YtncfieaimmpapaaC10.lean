import Derived.Test.YtncfieaimmpapaaC1
set_option linter.unusedVariables false
set_option linter.unusedSimpArgs false
open Go Go.Am Go.Proofs
set_option maxRecDepth 20000
namespace T

set_option maxRecDepth 10000 in
set_option maxHeartbeats 4000000 in
theorem clone_ok (xs : List Int) (h : 0 < xs.length) (hl : xs.length < 549755813888) : Holds Try.prog 42 [.tree 1 (ints xs)] [] (.ref 0 1 0 xs.length) [.arr 1 (ints xs)] := by
  refine Holds.of_body' (fn := Try.f42) 8 0 [.tmp 2] Try.func42 rfl rfl rfl rfl rfl (by simp) ?_
  repeat' (first | ((first | ((first | refine rk ?_ | refine rke ?_ | refine rd ?_ | refine rde ?_); intro K hK) | with_reducible (first | refine opsL_go ?_ | refine planW_go ?_ | refine opsLQ_go ?_ | refine opsLA_go ?_ | refine opsLB_go ?_)); simp (disch := omega) only [Bc, tys, ↓Pc, Sc, Rc, ↓reduceIte, reduceCtorEq, Nat.reduceEqDiff, Nat.reduceBEq, Nat.reduceAdd, Nat.reduceLT, Nat.reduceLeDiff, Nat.reduceMul, Int.reduceNeg, Int.reduceLT, Int.reduceLE, Int.reduceToNat, ints_scal]) | (refine hK _ ?_; clear hK K) | ((first | refine guardK_split (fun hb' => ?_) (fun hb' => ?_) | refine guardM_split (fun hb' => ?_) (fun hb' => ?_)) <;> (have hb := hb'; (try simp only [DEc, reduceCtorEq] at hb); simp (disch := omega) only [Bc, tys, ↓Pc, Sc, Rc, ↓reduceIte, reduceCtorEq, Nat.reduceEqDiff, Nat.reduceBEq, Nat.reduceAdd, Nat.reduceLT, Nat.reduceLeDiff, Nat.reduceMul, Int.reduceNeg, Int.reduceLT, Int.reduceLE, Int.reduceToNat, ints_scal, hb']; clear hb')) | (refine Wc (fun ht => ?_) (fun ht => ?_) <;> (try simp only [DEc, reduceCtorEq] at ht)) | refine W_skip ?_ | refine W_exit ?_ | refine W_ret ?_ | refine W_label ?_ | (refine Wb ?_; intro Qb hnb hxb heb) | (refine Wk ?_; intro Q hn he) | ((first | refine hn _ ?_ | refine he _ _ rfl ?_); clear hn he; try clear Q) | ((first | refine hnb _ ?_ | refine hxb _ ?_ | refine heb _ _ rfl ?_); clear hnb hxb heb; try clear Qb) | (refine hel _ _ rfl ?_; clear hnl hel; try clear Ql) | (simp only [retQ, resW, retV, List.length_nil, LKc, Lc, tys, Rc, ↓reduceIte, Nat.reduceEqDiff, Nat.reduceBEq]) | with_reducible refine And.intro ?_ ?_ | omega | with_reducible rfl)
  (refine RetOK_sel [1] false (by decide) (by simp only [SelO, Bc, Sc, Rc, reduceCtorEq, Nat.reduceAdd, Nat.reduceLT, Nat.reduceLeDiff, Nat.reduceEqDiff, or_true, ↓reduceIte, false_or]) (by decide) (by decide) ?_; first | exact ArgR.pure rfl | exact ArgR.eq rfl | exact ArgR.frz rfl (by first | exact ints_wid _ | exact rows_wid _ | exact bools_wid _ | exact intss_wid _) (by simp only [Bc, Rc]) (not_kept (by decide)) (by first | exact ints_frz _ | exact rows_frz _ | exact bools_frz _ | exact intss_frz _))
end T

