import Derived.Test.YtncfieaimmpapaaLT
import Derived.Test.YtncfieaimmpapaaL7
import Derived.Test.YtncfieaimmpapaaC7
import Derived.Test.YtncfieaimmpapaaCS4
set_option linter.unusedVariables false
set_option linter.unusedSimpArgs false
open Go Go.Am Go.Proofs
set_option maxRecDepth 20000
namespace T

set_option maxHeartbeats 16000000 in
theorem totals_ok (tape : List Int) : Holds Try.prog 6 [.tree 1 (ints tape)] [] (.lit (.bool true)) [] := by
  refine Holds.of_body' (fn := Try.f6) 70 0 [.tmp 2] Try.func6 rfl rfl rfl rfl rfl (by simp) ?_
  repeat' (first | ((first | ((first | refine rk ?_ | refine rke ?_ | refine rd ?_ | refine rde ?_ | refine rb ?_ | refine rbe ?_ | refine ra ?_ | refine rae ?_); intro K hK) | with_reducible (first | refine opsL_go ?_ | refine planW_go ?_ | refine opsLQ_go ?_ | refine opsLA_go ?_ | refine opsLB_go ?_)); simp (disch := omega) only [Bc, tys, ↓Pc, Sc, Rc, ↓reduceIte, reduceCtorEq, Nat.reduceEqDiff, Nat.reduceBEq, Nat.reduceAdd, Nat.reduceLT, Nat.reduceLeDiff, Nat.reduceMul, Int.reduceNeg, Int.reduceLT, Int.reduceLE, Int.reduceToNat]) | (first | refine callK_pure (light_ok _) rfl rfl ?_ | refine callQ_pure (light_ok _) rfl rfl ?_) | (first | refine callK_pure (awake_ok) rfl rfl ?_ | refine callQ_pure (awake_ok) rfl rfl ?_) | (refine hK _ ?_; clear hK K) | ((first | refine guardK_split (fun hb' => ?_) (fun hb' => ?_) | refine guardM_split (fun hb' => ?_) (fun hb' => ?_)) <;> (have hb := hb'; (try simp only [DEc, reduceCtorEq] at hb); simp (disch := omega) only [Bc, tys, ↓Pc, Sc, Rc, ↓reduceIte, reduceCtorEq, Nat.reduceEqDiff, Nat.reduceBEq, Nat.reduceAdd, Nat.reduceLT, Nat.reduceLeDiff, Nat.reduceMul, Int.reduceNeg, Int.reduceLT, Int.reduceLE, Int.reduceToNat, hb']; clear hb')) | (refine Wc (fun ht => ?_) (fun ht => ?_) <;> (try simp only [DEc, reduceCtorEq] at ht)) | refine W_skip ?_ | refine W_exit ?_ | refine W_ret ?_ | refine W_label ?_ | (refine Wb ?_; intro Qb hnb hxb heb) | (refine Wk ?_; intro Q hn he) | ((first | refine hn _ ?_ | refine he _ _ rfl ?_); clear hn he; try clear Q) | ((first | refine hnb _ ?_ | refine hxb _ ?_ | refine heb _ _ rfl ?_); clear hnb hxb heb; try clear Qb) | (refine hel _ _ rfl ?_; clear hnl hel; try clear Ql) | (simp only [retQ, resW, retV, List.length_nil, LKc, Lc, tys, Rc, ↓reduceIte, Nat.reduceEqDiff, Nat.reduceBEq]) | with_reducible refine And.intro ?_ ?_ | omega | with_reducible rfl)
  · exact RetOK_pure' rfl rfl
  have hL : tape.length < 1000000 := by omega
  (refine callK_sel [] (roll_ok tape) (by decide) (by (repeat' (first | exact trivial | with_reducible refine And.intro ?_ ?_ | refine And.intro ?_ ?_)) <;> first | rfl | (rw [ints_ren]; rfl) | (rw [bools_ren]; rfl) | (rw [rows_ren]; rfl) | (rw [intss_ren]; rfl)) (by (repeat' (first | exact trivial | refine And.intro ?_ ?_)) <;> (first | exact ArgR.pure rfl | exact ArgR.eq rfl | exact ArgR.frz rfl (by first | exact ints_wid _ | exact rows_wid _ | exact bools_wid _ | exact intss_wid _) (by simp only [Bc, Rc]) (by decide) (by first | exact ints_frz _ | exact rows_frz _ | exact bools_frz _ | exact intss_frz _))) ?_; simp (disch := omega) only [Bc, tys, ↓Pc, Sc, Rc, ↓reduceIte, reduceCtorEq, Nat.reduceEqDiff, Nat.reduceBEq, Nat.reduceAdd, Nat.reduceLT, Nat.reduceLeDiff, Nat.reduceMul, Int.reduceNeg, Int.reduceLT, Int.reduceLE, Int.reduceToNat])
  refine hK _ ?_; clear hK K
  refine W_turn (σ' := ⟨slots [(3, .ptr 0 0 0)], [dice tape 0]⟩) (by unfold dice; (refine Turns.slots _ _ rfl ?_; simp only [Has, and_true, Int.natCast_add, Int.cast_ofNat_Int, List.length_append, List.length_cons, List.length_nil, Nat.zero_add, Nat.reduceAdd, LKc, Lc, tys, Rc, ↓reduceIte, Nat.reduceEqDiff, Nat.reduceBEq]; try trivial)) ?_
  have hmod := model_ok tape 0 5 4 (Nat.zero_le _) hL (by decide) (by decide) (by decide)
  refine W_region_c 1 (by decide) _ rfl ?_
  intro K hK
  simp (disch := omega) only [Bc, tys, ↓Pc, Sc, Rc, ↓reduceIte, reduceCtorEq, Nat.reduceEqDiff, Nat.reduceBEq, Nat.reduceAdd, Nat.reduceLT, Nat.reduceLeDiff, Nat.reduceMul, Int.reduceNeg, Int.reduceLT, Int.reduceLE, Int.reduceToNat, List.take, List.drop]
  refine ⟨rfl, (show callKR Try.prog 24 [.ptr 0 0 0, .lit (.int .i64 (5 : Nat)), .lit (.int .i64 (4 : Nat))] (some 19) _ _ from ?_)⟩
  refine callKR_sel [0] hmod (by decide) ⟨rfl, trivial⟩ ⟨.eq rfl, .pure rfl, .pure rfl, trivial⟩ ?_
  rintro r os ⟨m, k, hm, hk, rfl, rfl⟩
  have hvm := hm.vm
  unfold dice
  simp (disch := omega) only [Bc, tys, ↓Pc, Sc, Rc, ↓reduceIte, reduceCtorEq, Nat.reduceEqDiff, Nat.reduceBEq, Nat.reduceAdd, Nat.reduceLT, Nat.reduceLeDiff, Nat.reduceMul, Int.reduceNeg, Int.reduceLT, Int.reduceLE, Int.reduceToNat]
  refine hK _ ?_; clear hK K
  have h3 := plan_ok m hvm tape k true hk hL
  obtain ⟨hpm, hp0, hk3⟩ := plan_pm (L := tape) (b := true) (m := m) (k := k) (fun _ l hl => (hm.some l hl).1) hk
  generalize planF tape true m.cls k [] = pf at *
  obtain ⟨plan, k3⟩ := pf
  dsimp only at *
  have hfp : FP m plan := pm_fp hpm (hp0 rfl)
  have hplen : plan.length ≤ 24 := by have := hpm.len; have := hvm.cls; omega
  unfold dice at h3
  have h4 := cost_ok m plan hvm.mb (by omega)
  rw [costT_ok hvm hpm] at h4
  have h5 := score_ok m plan hvm.mb (by omega)
  rw [fp_com hvm hfp, if_pos rfl, if_pos rfl] at h5
  obtain ⟨q1, q2, q3, q4⟩ := totals_law hm hfp
  generalize scV m plan = sc at *
  obtain ⟨b, c⟩ := sc
  generalize rulesV m plan = l at *
  generalize totalL l 0 = n at *
  dsimp only at *
  repeat' (first | ((first | ((first | refine rk ?_ | refine rke ?_ | refine rd ?_ | refine rde ?_); intro K hK) | with_reducible (first | refine opsL_go ?_ | refine planW_go ?_ | refine opsLQ_go ?_ | refine opsLA_go ?_ | refine opsLB_go ?_)); simp (disch := omega) only [Bc, tys, ↓Pc, Sc, Rc, ↓reduceIte, reduceCtorEq, Nat.reduceEqDiff, Nat.reduceBEq, Nat.reduceAdd, Nat.reduceLT, Nat.reduceLeDiff, Nat.reduceMul, Int.reduceNeg, Int.reduceLT, Int.reduceLE, Int.reduceToNat]) | (refine hK _ ?_; clear hK K) | ((first | refine guardK_split (fun hb' => ?_) (fun hb' => ?_) | refine guardM_split (fun hb' => ?_) (fun hb' => ?_)) <;> (have hb := hb'; (try simp only [DEc, reduceCtorEq] at hb); simp (disch := omega) only [Bc, tys, ↓Pc, Sc, Rc, ↓reduceIte, reduceCtorEq, Nat.reduceEqDiff, Nat.reduceBEq, Nat.reduceAdd, Nat.reduceLT, Nat.reduceLeDiff, Nat.reduceMul, Int.reduceNeg, Int.reduceLT, Int.reduceLE, Int.reduceToNat, hb']; clear hb')) | (refine Wc (fun ht => ?_) (fun ht => ?_) <;> (try simp only [DEc, reduceCtorEq] at ht)) | refine W_skip ?_ | refine W_exit ?_ | refine W_ret ?_ | refine W_label ?_ | (refine Wb ?_; intro Qb hnb hxb heb) | (refine Wk ?_; intro Q hn he) | ((first | refine hn _ ?_ | refine he _ _ rfl ?_); clear hn he; try clear Q) | ((first | refine hnb _ ?_ | refine hxb _ ?_ | refine heb _ _ rfl ?_); clear hnb hxb heb; try clear Qb) | (refine hel _ _ rfl ?_; clear hnl hel; try clear Ql) | (simp only [retQ, resW, retV, List.length_nil, LKc, Lc, tys, Rc, ↓reduceIte, Nat.reduceEqDiff, Nat.reduceBEq]) | with_reducible refine And.intro ?_ ?_ | omega | with_reducible rfl)
  (refine callK_sel [0] (h3) (by decide) (by (repeat' (first | exact trivial | with_reducible refine And.intro ?_ ?_ | refine And.intro ?_ ?_)) <;> first | rfl | (rw [ints_ren]; rfl) | (rw [bools_ren]; rfl) | (rw [rows_ren]; rfl) | (rw [intss_ren]; rfl)) (by (repeat' (first | exact trivial | refine And.intro ?_ ?_)) <;> (first | exact ArgR.pure rfl | exact ArgR.eq rfl | exact ArgR.frz rfl (by first | exact ints_wid _ | exact rows_wid _ | exact bools_wid _ | exact intss_wid _) (by simp only [Bc, Rc]) (by decide) (by first | exact ints_frz _ | exact rows_frz _ | exact bools_frz _ | exact intss_frz _))) ?_; simp (disch := omega) only [Bc, tys, ↓Pc, Sc, Rc, ↓reduceIte, reduceCtorEq, Nat.reduceEqDiff, Nat.reduceBEq, Nat.reduceAdd, Nat.reduceLT, Nat.reduceLeDiff, Nat.reduceMul, Int.reduceNeg, Int.reduceLT, Int.reduceLE, Int.reduceToNat])
  repeat' (first | ((first | ((first | refine rk ?_ | refine rke ?_ | refine rd ?_ | refine rde ?_ | refine rb ?_ | refine rbe ?_ | refine ra ?_ | refine rae ?_); intro K hK) | with_reducible (first | refine opsL_go ?_ | refine planW_go ?_ | refine opsLQ_go ?_ | refine opsLA_go ?_ | refine opsLB_go ?_)); simp (disch := omega) only [Bc, tys, ↓Pc, Sc, Rc, ↓reduceIte, reduceCtorEq, Nat.reduceEqDiff, Nat.reduceBEq, Nat.reduceAdd, Nat.reduceLT, Nat.reduceLeDiff, Nat.reduceMul, Int.reduceNeg, Int.reduceLT, Int.reduceLE, Int.reduceToNat, beq_self_eq_true]) | (first | refine callK_pure (h5) rfl rfl ?_ | refine callQ_pure (h5) rfl rfl ?_) | (first | refine callK_pure (h4) rfl rfl ?_ | refine callQ_pure (h4) rfl rfl ?_) | (first | refine callK_pure (awake_ok) rfl rfl ?_ | refine callQ_pure (awake_ok) rfl rfl ?_) | (refine hK _ ?_; clear hK K) | ((first | refine guardK_split (fun hb' => ?_) (fun hb' => ?_) | refine guardM_split (fun hb' => ?_) (fun hb' => ?_)) <;> (have hb := hb'; (try simp only [DEc, reduceCtorEq] at hb); simp (disch := omega) only [Bc, tys, ↓Pc, Sc, Rc, ↓reduceIte, reduceCtorEq, Nat.reduceEqDiff, Nat.reduceBEq, Nat.reduceAdd, Nat.reduceLT, Nat.reduceLeDiff, Nat.reduceMul, Int.reduceNeg, Int.reduceLT, Int.reduceLE, Int.reduceToNat, beq_self_eq_true, hb']; clear hb')) | (refine Wc (fun ht => ?_) (fun ht => ?_) <;> (try simp only [DEc, reduceCtorEq] at ht)) | refine W_skip ?_ | refine W_exit ?_ | refine W_ret ?_ | refine W_label ?_ | (refine Wb ?_; intro Qb hnb hxb heb) | (refine Wk ?_; intro Q hn he) | ((first | refine hn _ ?_ | refine he _ _ rfl ?_); clear hn he; try clear Q) | ((first | refine hnb _ ?_ | refine hxb _ ?_ | refine heb _ _ rfl ?_); clear hnb hxb heb; try clear Qb) | (refine hel _ _ rfl ?_; clear hnl hel; try clear Ql) | (simp only [retQ, resW, retV, List.length_nil, LKc, Lc, tys, Rc, ↓reduceIte, Nat.reduceEqDiff, Nat.reduceBEq]) | with_reducible refine And.intro ?_ ?_ | omega | with_reducible rfl)
  have q5 : (b == 0) = decide (n < 1099511627776) := by rw [Bool.eq_iff_iff]; simp [q3]
  all_goals first
    | exact RetOK_pure' rfl rfl
    | (exfalso; omega)
    | (refine RetOK_pure' rfl ?_; rw [q4 (by omega), beq_self_eq_true])
    | (exfalso; apply hb; rw [Bool.eq_iff_iff]; simp [q3]; done)
    | trace_state
end T

