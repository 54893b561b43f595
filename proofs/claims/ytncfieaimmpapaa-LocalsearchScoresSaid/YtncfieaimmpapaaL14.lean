import Derived.Test.YtncfieaimmpapaaE4
import Derived.Test.YtncfieaimmpapaaC13
import Derived.Test.YtncfieaimmpapaaL7
import Derived.Test.YtncfieaimmpapaaL11
set_option linter.unusedVariables false
set_option linter.unusedSimpArgs false
open Go Go.Am Go.Proofs
open Nat (reduceEqDiff reduceAdd reduceLeDiff reduceMul)
open Int (reduceNeg reduceLE reduceToNat)
set_option maxRecDepth 20000
namespace T
theorem planF_len {L : List Int} {b : Bool} : ∀ (r : List (List Opt)) (k : Nat) (acc : List Int), (planF L b r k acc).1.length = acc.length + r.length
  | [], k, acc => by simp [planF]
  | l :: r, k, acc => by rw [planF, planF_len r]; simp; omega
theorem planF_le {L : List Int} {b : Bool} : ∀ (r : List (List Opt)) (k : Nat) (acc : List Int), k ≤ L.length → (planF L b r k acc).2 ≤ L.length
  | [], k, acc, h => h
  | l :: r, k, acc, h => by rw [planF]; exact planF_le r _ _ (nextA_le h)
set_option maxHeartbeats 16000000 in
theorem scores_ok (tape raw : List Int) (hraw : raw.length < 9223372036854775808) : Holds Try.prog 3 [.tree 1 (ints tape), .tree 1 (ints raw)] [] (.lit (.bool true)) [] := by
  refine Holds.of_body' (fn := Try.f3) 91 0 [.tmp 4] Try.func3 rfl rfl rfl rfl rfl (by simp) ?_
  repeat' (first | ((first | ((first | refine rr ?_ | refine rre ?_ | refine rb ?_ | refine rbe ?_ | refine ra ?_ | refine rae ?_); intro K hK) | with_reducible refine gO ?_); simp (disch := omega) only [Ac, ↓Pc, ↓reduceIte, reduceCtorEq, reduceEqDiff, Nat.reduceBEq, reduceAdd, Nat.reduceLT, reduceLeDiff, reduceMul, reduceNeg, Int.reduceLT, reduceLE, reduceToNat]) | (first | refine callK_pure (light_ok _) rfl rfl ?_ | refine callQ_pure (light_ok _) rfl rfl ?_) | (first | refine callK_pure (awake_ok) rfl rfl ?_ | refine callQ_pure (awake_ok) rfl rfl ?_) | (refine hK _ ?_; clear hK K) | (with_reducible refine gS (fun hb' => ?_) (fun hb' => ?_) <;> (have hb := hb'; (try simp only [DEc, reduceCtorEq] at hb); simp (disch := omega) only [Ac, ↓Pc, ↓reduceIte, reduceCtorEq, reduceEqDiff, Nat.reduceBEq, reduceAdd, Nat.reduceLT, reduceLeDiff, reduceMul, reduceNeg, Int.reduceLT, reduceLE, reduceToNat, hb']; clear hb')) | (refine Wc (fun ht => ?_) (fun ht => ?_) <;> (try simp only [DEc, reduceCtorEq] at ht)) | refine Wz rfl ?_ | (refine Wb ?_; intro Qb hnb hxb heb) | (refine Wk ?_; intro Q hn he) | ((first | refine hn _ ?_ | refine he _ _ rfl ?_); clear hn he; try clear Q) | ((first | refine hnb _ ?_ | refine hxb _ ?_ | refine heb _ _ rfl ?_); clear hnb hxb heb; try clear Qb) | (refine hel _ _ rfl ?_; clear hnl hel; try clear Ql) | (simp only [Qc, Kc, ↓reduceIte, reduceEqDiff, Nat.reduceBEq]) | with_reducible refine And.intro ?_ ?_ | omega | with_reducible rfl)
  · exact RetOK_pure' rfl rfl
  have hL : tape.length < 1000000 := by omega
  (refine callK_sel [] (roll_ok tape) (by decide) (by (repeat' (first | exact trivial | with_reducible refine And.intro ?_ ?_ | refine And.intro ?_ ?_)) <;> first | rfl | (rw [ints_ren]; rfl) | (rw [bools_ren]; rfl) | (rw [rows_ren]; rfl) | (rw [intss_ren]; rfl)) (by (repeat' (first | exact trivial | refine And.intro ?_ ?_)) <;> (first | exact .pure rfl | exact .eq rfl | exact .fz rfl (by simp only [Bc, Rc]))) ?_; simp (disch := omega) only [Ac, ↓Pc, ↓reduceIte, reduceCtorEq, reduceEqDiff, Nat.reduceBEq, reduceAdd, Nat.reduceLT, reduceLeDiff, reduceMul, reduceNeg, Int.reduceLT, reduceLE, reduceToNat])
  refine hK _ ?_; clear hK K
  refine W_turn (σ' := ⟨slots [(1, .tree 1 (ints raw)), (5, .ptr 0 0 0)], [dice tape 0]⟩) (by unfold dice; (refine Turns.slots _ _ rfl ?_; simp only [Tc, ↓reduceIte, reduceEqDiff, Nat.reduceBEq, reduceAdd]; try trivial)) ?_
  have hsome := some_ok tape 0 (Nat.zero_le _) hL
  refine W_region_c 1 (by decide) _ rfl ?_
  intro K hK
  simp (disch := omega) only [Ac, ↓Pc, ↓reduceIte, reduceCtorEq, reduceEqDiff, Nat.reduceBEq, reduceAdd, Nat.reduceLT, reduceLeDiff, reduceMul, reduceNeg, Int.reduceLT, reduceLE, reduceToNat, List.take, List.drop]
  refine ⟨rfl, (show callKR Try.prog 14 [.ptr 0 0 0] (some 25) _ _ from ?_)⟩
  refine callKR_sel [0] hsome (by decide) ⟨rfl, trivial⟩ ⟨.eq rfl, trivial⟩ ?_
  rintro r os ⟨m, k, hm, hk, rfl, rfl⟩
  unfold dice
  simp (disch := omega) only [Ac, ↓Pc, ↓reduceIte, reduceCtorEq, reduceEqDiff, Nat.reduceBEq, reduceAdd, Nat.reduceLT, reduceLeDiff, reduceMul, reduceNeg, Int.reduceLT, reduceLE, reduceToNat]
  refine hK _ ?_; clear hK K
  have hmb := hm.mb
  have h1 := planG_ok m hm.few hm.opt tape k true hk hL
  have hl1 := planF_len (L := tape) (b := true) m.cls k []
  have hk1 := planF_le (L := tape) (b := true) m.cls k [] hk
  generalize planF tape true m.cls k [] = pf1 at *
  obtain ⟨p1, k1⟩ := pf1
  dsimp only at *
  have h2 := planG_ok m hm.few hm.opt tape k1 false hk1 hL
  have hl2 := planF_len (L := tape) (b := false) m.cls k1 []
  generalize planF tape false m.cls k1 [] = pf2 at *
  obtain ⟨p2, k2⟩ := pf2
  dsimp only at *
  have hfew := hm.few
  rw [List.length_nil, Nat.zero_add] at hl1 hl2
  unfold dice at h1 h2
  repeat' (first | ((first | ((fail_if_success (first | refine W_at 5 ?_ | refine W_atE 5 ?_)); (first | refine rr ?_ | refine rre ?_); intro K hK) | with_reducible refine gO ?_); simp (disch := omega) only [Ac, ↓Pc, ↓reduceIte, reduceCtorEq, reduceEqDiff, Nat.reduceBEq, reduceAdd, Nat.reduceLT, reduceLeDiff, reduceMul, reduceNeg, Int.reduceLT, reduceLE, reduceToNat]) | (refine hK _ ?_; clear hK K) | (with_reducible refine gS (fun hb' => ?_) (fun hb' => ?_) <;> (have hb := hb'; (try simp only [DEc, reduceCtorEq] at hb); simp (disch := omega) only [Ac, ↓Pc, ↓reduceIte, reduceCtorEq, reduceEqDiff, Nat.reduceBEq, reduceAdd, Nat.reduceLT, reduceLeDiff, reduceMul, reduceNeg, Int.reduceLT, reduceLE, reduceToNat, hb']; clear hb')) | (refine Wc (fun ht => ?_) (fun ht => ?_) <;> (try simp only [DEc, reduceCtorEq] at ht)) | refine Wz rfl ?_ | (refine Wb ?_; intro Qb hnb hxb heb) | (refine Wk ?_; intro Q hn he) | ((first | refine hn _ ?_ | refine he _ _ rfl ?_); clear hn he; try clear Q) | ((first | refine hnb _ ?_ | refine hxb _ ?_ | refine heb _ _ rfl ?_); clear hnb hxb heb; try clear Qb) | (simp only [Qc, Kc, ↓reduceIte, reduceEqDiff, Nat.reduceBEq]) | with_reducible refine And.intro ?_ ?_ | omega | with_reducible rfl)
  refine join_here ⟨slots [(6, .ptr 0 0 0), (33, .tree 1 (intss [raw, p1, p2])), (34, .lit (.int .i64 3)), (35, .lit (.int .i64 0))], [.var (eMdl m)]⟩ hn ?_ (fun key => ?_)
  rotate_left
  · refine W_drawH 0 [] [3, 6] (.take 0 (.take 1 (.take 2 (.take 4 (.take 5 (.take 3 (.take 6 (.take 7 (.take 8 (.take 9 .nil)))))))))) rfl (by decide) (by decide +kernel) ?_
    simp (disch := omega) only [Ac, ↓Pc, ↓reduceIte, reduceCtorEq, reduceEqDiff, Nat.reduceBEq, reduceAdd, Nat.reduceLT, reduceLeDiff, reduceMul, reduceNeg, Int.reduceLT, reduceLE, reduceToNat, Hc, stepAtH]
    repeat' (first | with_reducible refine And.intro ?_ ?_ | omega | with_reducible rfl | (refine callD_of (h1) rfl rfl rfl rfl (by (repeat' (first | exact trivial | refine And.intro ?_ ?_)) <;> first | exact .inl ⟨rfl, rfl⟩ | exact .inr ⟨rfl, rfl⟩) ?_; simp (disch := omega) only [Ac, ↓Pc, ↓reduceIte, reduceCtorEq, reduceEqDiff, Nat.reduceBEq, reduceAdd, Nat.reduceLT, reduceLeDiff, reduceMul, reduceNeg, Int.reduceLT, reduceLE, reduceToNat, Hc, stepAtH]) | (refine callD_of (h2) rfl rfl rfl rfl (by (repeat' (first | exact trivial | refine And.intro ?_ ?_)) <;> first | exact .inl ⟨rfl, rfl⟩ | exact .inr ⟨rfl, rfl⟩) ?_; simp (disch := omega) only [Ac, ↓Pc, ↓reduceIte, reduceCtorEq, reduceEqDiff, Nat.reduceBEq, reduceAdd, Nat.reduceLT, reduceLeDiff, reduceMul, reduceNeg, Int.reduceLT, reduceLE, reduceToNat, Hc, stepAtH]))
    refine key _ ?_
    (refine Turns.se [1] true (by simp only [Oc, reduceCtorEq, reduceAdd, Nat.reduceLT, reduceLeDiff, reduceEqDiff, ↓reduceIte]) ?_; simp only [Hr, ↓reduceIte, reduceEqDiff, Nat.reduceBEq, reduceAdd]; try (and_intros <;> first | exact .pure rfl | exact .eq rfl | exact .fz rfl (by simp only [Bc, Rc])))
  clear hn he
  try clear Q
  clear h1 h2
  repeat' (first | ((first | ((first | refine rr ?_ | refine rre ?_); intro K hK) | with_reducible refine gO ?_); simp (disch := omega) only [Ac, ↓Pc, ↓reduceIte, reduceCtorEq, reduceEqDiff, Nat.reduceBEq, reduceAdd, Nat.reduceLT, reduceLeDiff, reduceMul, reduceNeg, Int.reduceLT, reduceLE, reduceToNat]) | (refine hK _ ?_; clear hK K) | (with_reducible refine gS (fun hb' => ?_) (fun hb' => ?_) <;> (have hb := hb'; (try simp only [DEc, reduceCtorEq] at hb); simp (disch := omega) only [Ac, ↓Pc, ↓reduceIte, reduceCtorEq, reduceEqDiff, Nat.reduceBEq, reduceAdd, Nat.reduceLT, reduceLeDiff, reduceMul, reduceNeg, Int.reduceLT, reduceLE, reduceToNat, hb']; clear hb')) | (refine Wc (fun ht => ?_) (fun ht => ?_) <;> (try simp only [DEc, reduceCtorEq] at ht)) | refine Wz rfl ?_ | (refine Wb ?_; intro Qb hnb hxb heb) | (refine Wk ?_; intro Q hn he) | ((first | refine hn _ ?_ | refine he _ _ rfl ?_); clear hn he; try clear Q) | ((first | refine hnb _ ?_ | refine hxb _ ?_ | refine heb _ _ rfl ?_); clear hnb hxb heb; try clear Qb) | (simp only [Qc, Kc, ↓reduceIte, reduceEqDiff, Nat.reduceBEq]) | with_reducible refine And.intro ?_ ?_ | omega | with_reducible rfl)
  refine W_loopS (fun i : Nat => (⟨slots [(6, .ptr 0 0 0), (33, .tree 1 (intss [raw, p1, p2])), (34, .lit (.int .i64 3)), (35, .lit (.int .i64 i))], [.var (eMdl m)]⟩ : St)) (fun i => i ≤ 3) (fun i => 3 - i) 0 (Nat.zero_le _) (by (refine Turns.slots _ _ rfl ?_; simp only [Tc, ↓reduceIte, reduceEqDiff, Nat.reduceBEq, reduceAdd]; try trivial)) ?_
  rintro i hi Ql hnl hel
  by_cases hi' : i < 3
  · have hpl : ([raw, p1, p2].getD i []).length < 9223372036854775808 := by
      have : i = 0 ∨ i = 1 ∨ i = 2 := by omega
      rcases this with rfl | rfl | rfl
      · exact hraw
      · show p1.length < _; omega
      · show p2.length < _; omega
    generalize hps : [raw, p1, p2] = ps at *
    have hpsl : ps.length = 3 := by rw [← hps]; rfl
    generalize hpp : ps.getD i [] = p at *
    have h1 := score_ok m p hmb hpl
    have h2 := refOf_ok m p hmb hpl
    have h3 := Best_ok m p hmb hpl
    have h4 := refBest_ok m p hmb hpl
    have e1 : (if comV m p = 0 then (scV m p).1 else 0) = (ofV m p).1 := by unfold ofV; split <;> rfl
    have e2 : (if comV m p = 0 then (scV m p).2 else 0) = (ofV m p).2 := by unfold ofV; split <;> rfl
    rw [e1, e2] at h1
    generalize ofV m p = s at *
    generalize comV m p = cv at *
    generalize bestP m p = bp at *
    repeat' (first | ((first | ((first | refine rr ?_ | refine rre ?_ | refine rb ?_ | refine rbe ?_ | refine ra ?_ | refine rae ?_); intro K hK) | with_reducible refine gO ?_); simp (disch := omega) only [Ac, ↓Pc, ↓reduceIte, reduceCtorEq, reduceEqDiff, Nat.reduceBEq, reduceAdd, Nat.reduceLT, reduceLeDiff, reduceMul, reduceNeg, Int.reduceLT, reduceLE, reduceToNat, hpp, eSc, eFd, bne_self_eq_false, decide_true, Bool.not_true, beq_self_eq_true]) | (first | refine callK_pure (h1) rfl rfl ?_ | refine callQ_pure (h1) rfl rfl ?_) | (first | refine callK_pure (h2) rfl rfl ?_ | refine callQ_pure (h2) rfl rfl ?_) | (first | refine callK_pure (h3) rfl rfl ?_ | refine callQ_pure (h3) rfl rfl ?_) | (first | refine callK_pure (h4) rfl rfl ?_ | refine callQ_pure (h4) rfl rfl ?_) | (refine hK _ ?_; clear hK K) | (with_reducible refine gS (fun hb' => ?_) (fun hb' => ?_) <;> (have hb := hb'; (try simp only [DEc, reduceCtorEq] at hb); simp (disch := omega) only [Ac, ↓Pc, ↓reduceIte, reduceCtorEq, reduceEqDiff, Nat.reduceBEq, reduceAdd, Nat.reduceLT, reduceLeDiff, reduceMul, reduceNeg, Int.reduceLT, reduceLE, reduceToNat, hpp, eSc, eFd, bne_self_eq_false, decide_true, Bool.not_true, beq_self_eq_true, hb']; clear hb')) | (refine Wc (fun ht => ?_) (fun ht => ?_) <;> (try simp only [DEc, reduceCtorEq] at ht)) | refine Wz rfl ?_ | (refine Wb ?_; intro Qb hnb hxb heb) | (refine Wk ?_; intro Q hn he) | ((first | refine hn _ ?_ | refine he _ _ rfl ?_); clear hn he; try clear Q) | ((first | refine hnb _ ?_ | refine hxb _ ?_ | refine heb _ _ rfl ?_); clear hnb hxb heb; try clear Qb) | (simp only [Qc, Kc, ↓reduceIte, reduceEqDiff, Nat.reduceBEq]) | with_reducible refine And.intro ?_ ?_ | omega | with_reducible rfl)
    all_goals first
      | exact eqChoice
      | exact gdChoice
      | exact hnl _ (i + 1) (by omega) (by omega) (by (refine Turns.se [0] false (by simp only [Oc, reduceCtorEq, reduceAdd, Nat.reduceLT, reduceLeDiff, reduceEqDiff, ↓reduceIte]) ?_; simp only [Hr, ↓reduceIte, reduceEqDiff, Nat.reduceBEq, reduceAdd]; try (and_intros <;> first | exact .pure rfl | exact .eq rfl | exact .fz rfl (by simp only [Bc, Rc]))))
  · repeat' (first | ((first | ((first | refine rr ?_ | refine rre ?_); intro K hK) | with_reducible refine gO ?_); simp (disch := omega) only [Ac, ↓Pc, ↓reduceIte, reduceCtorEq, reduceEqDiff, Nat.reduceBEq, reduceAdd, Nat.reduceLT, reduceLeDiff, reduceMul, reduceNeg, Int.reduceLT, reduceLE, reduceToNat]) | (refine hK _ ?_; clear hK K) | (with_reducible refine gS (fun hb' => ?_) (fun hb' => ?_) <;> (have hb := hb'; (try simp only [DEc, reduceCtorEq] at hb); simp (disch := omega) only [Ac, ↓Pc, ↓reduceIte, reduceCtorEq, reduceEqDiff, Nat.reduceBEq, reduceAdd, Nat.reduceLT, reduceLeDiff, reduceMul, reduceNeg, Int.reduceLT, reduceLE, reduceToNat, hb']; clear hb')) | (refine Wc (fun ht => ?_) (fun ht => ?_) <;> (try simp only [DEc, reduceCtorEq] at ht)) | refine Wz rfl ?_ | (refine Wb ?_; intro Qb hnb hxb heb) | (refine Wk ?_; intro Q hn he) | ((first | refine hn _ ?_ | refine he _ _ rfl ?_); clear hn he; try clear Q) | ((first | refine hnb _ ?_ | refine hxb _ ?_ | refine heb _ _ rfl ?_); clear hnb hxb heb; try clear Qb) | (simp only [Qc, Kc, ↓reduceIte, reduceEqDiff, Nat.reduceBEq]) | with_reducible refine And.intro ?_ ?_ | omega | with_reducible rfl)
    refine hel _ _ rfl ?_; clear hnl hel Ql
    repeat (first | ((first | refine hn _ ?_ | refine he _ _ rfl ?_); clear hn he; try clear Q) | ((first | refine hnb _ ?_ | refine hxb _ ?_ | refine heb _ _ rfl ?_); clear hnb hxb heb; try clear Qb) | (refine hel _ _ rfl ?_; clear hnl hel; try clear Ql))
    repeat' (first | ((first | ((first | refine rr ?_ | refine rre ?_ | refine rb ?_ | refine rbe ?_ | refine ra ?_ | refine rae ?_); intro K hK) | with_reducible refine gO ?_); simp (disch := omega) only [Ac, ↓Pc, ↓reduceIte, reduceCtorEq, reduceEqDiff, Nat.reduceBEq, reduceAdd, Nat.reduceLT, reduceLeDiff, reduceMul, reduceNeg, Int.reduceLT, reduceLE, reduceToNat]) | (first | refine callK_pure (awake_ok) rfl rfl ?_ | refine callQ_pure (awake_ok) rfl rfl ?_) | (refine hK _ ?_; clear hK K) | (with_reducible refine gS (fun hb' => ?_) (fun hb' => ?_) <;> (have hb := hb'; (try simp only [DEc, reduceCtorEq] at hb); simp (disch := omega) only [Ac, ↓Pc, ↓reduceIte, reduceCtorEq, reduceEqDiff, Nat.reduceBEq, reduceAdd, Nat.reduceLT, reduceLeDiff, reduceMul, reduceNeg, Int.reduceLT, reduceLE, reduceToNat, hb']; clear hb')) | (refine Wc (fun ht => ?_) (fun ht => ?_) <;> (try simp only [DEc, reduceCtorEq] at ht)) | refine Wz rfl ?_ | (refine Wb ?_; intro Qb hnb hxb heb) | (refine Wk ?_; intro Q hn he) | ((first | refine hn _ ?_ | refine he _ _ rfl ?_); clear hn he; try clear Q) | ((first | refine hnb _ ?_ | refine hxb _ ?_ | refine heb _ _ rfl ?_); clear hnb hxb heb; try clear Qb) | (refine hel _ _ rfl ?_; clear hnl hel; try clear Ql) | (simp only [Qc, Kc, ↓reduceIte, reduceEqDiff, Nat.reduceBEq]) | with_reducible refine And.intro ?_ ?_ | omega | with_reducible rfl)
    exact RetOK_pure' rfl rfl
end T

