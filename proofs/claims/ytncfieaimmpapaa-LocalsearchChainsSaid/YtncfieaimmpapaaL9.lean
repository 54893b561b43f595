import Derived.Test.YtncfieaimmpapaaLR
import Derived.Test.YtncfieaimmpapaaL2
import Derived.Test.YtncfieaimmpapaaD1
set_option linter.unusedVariables false
set_option linter.unusedSimpArgs false
open Go Go.Am Go.Proofs
open Nat (reduceEqDiff reduceAdd reduceLeDiff reduceMul)
open Int (reduceNeg reduceLE reduceToNat)
set_option maxRecDepth 20000
namespace T
set_option maxHeartbeats 8000000 in
theorem refComplete_ok (m : Mdl) (plan : List Int) (hb : MB m) (hpl : plan.length < 9223372036854775808) : Holds Try.prog 37 [.agg (eMdl m), .tree 1 (ints plan)] [] (.lit (.int .i64 (comV m plan))) [] := by
  generalize hres : comV m plan = res
  rw [comV_eq] at hres
  have hm1 := hb.cls
  have hval := refValid_ok m hb
  refine Holds.of_body' (fn := Try.f37) 32 0 [.tmp 4] Try.func37 rfl rfl rfl rfl rfl (by simp) ?_
  repeat' (first | ((first | ((first | refine rr ?_ | refine rre ?_ | refine rb ?_ | refine rbe ?_ | refine ra ?_ | refine rae ?_); intro K hK) | with_reducible refine gO ?_); simp (disch := omega) only [Ac, ↓Pc, ↓reduceIte, reduceCtorEq, reduceEqDiff, Nat.reduceBEq, reduceAdd, Nat.reduceLT, reduceLeDiff, reduceMul, reduceNeg, Int.reduceLT, reduceLE, reduceToNat]) | (first | refine callK_pure (hval) rfl rfl ?_ | refine callQ_pure (hval) rfl rfl ?_) | (refine hK _ ?_; clear hK K) | (with_reducible refine gS (fun hb' => ?_) (fun hb' => ?_) <;> (have hb := hb'; (try simp only [DEc, reduceCtorEq] at hb); simp (disch := omega) only [Ac, ↓Pc, ↓reduceIte, reduceCtorEq, reduceEqDiff, Nat.reduceBEq, reduceAdd, Nat.reduceLT, reduceLeDiff, reduceMul, reduceNeg, Int.reduceLT, reduceLE, reduceToNat, hb']; clear hb')) | (refine Wc (fun ht => ?_) (fun ht => ?_) <;> (try simp only [DEc, reduceCtorEq] at ht)) | refine Wz rfl ?_ | (refine Wb ?_; intro Qb hnb hxb heb) | (refine Wk ?_; intro Q hn he) | ((first | refine hn _ ?_ | refine he _ _ rfl ?_); clear hn he; try clear Q) | ((first | refine hnb _ ?_ | refine hxb _ ?_ | refine heb _ _ rfl ?_); clear hnb hxb heb; try clear Qb) | (refine hel _ _ rfl ?_; clear hnl hel; try clear Ql) | (simp only [Qc, Kc, ↓reduceIte, reduceEqDiff, Nat.reduceBEq]) | with_reducible refine And.intro ?_ ?_ | omega | with_reducible rfl)
  · rw [if_pos (by assumption)] at hres
    exact RetOK_pure' rfl (by rw [hres])
  · rw [if_neg (by omega), if_pos (by omega)] at hres
    exact RetOK_pure' rfl (by rw [hres])
  rw [if_neg (by omega), if_neg (by omega)] at hres
  refine W_loopS (fun i : Nat => (⟨slots [(1, .tree 1 (ints plan)), (2, .ptr 0 0 0), (6, .lit (.int .i64 i))], [.var (eMdl m)]⟩ : St)) (fun i => i ≤ plan.length ∧ (if cplL m i (plan.drop i) = false then 17 else 0) = res) (fun i => plan.length - i) 0 ⟨Nat.zero_le _, hres⟩ (by (refine Turns.slots _ _ rfl ?_; simp only [Tc, ↓reduceIte, reduceEqDiff, Nat.reduceBEq, reduceAdd]; try trivial)) ?_
  rintro i ⟨hi, hr⟩ Ql hnl hel
  by_cases hi' : i < plan.length
  · have hd := getD_drop0 plan i 0 hi'
    generalize hcc : plan.getD i 0 = o at *
    have hopt := refOption_ok m i o
    rw [hd, cplL] at hr
    generalize optB m i o = ob at *
    repeat' (first | ((first | ((first | refine rr ?_ | refine rre ?_ | refine rb ?_ | refine rbe ?_ | refine ra ?_ | refine rae ?_); intro K hK) | with_reducible refine gO ?_); simp (disch := omega) only [Ac, ↓Pc, ↓reduceIte, reduceCtorEq, reduceEqDiff, Nat.reduceBEq, reduceAdd, Nat.reduceLT, reduceLeDiff, reduceMul, reduceNeg, Int.reduceLT, reduceLE, reduceToNat, hcc]) | (first | refine callK_pure (hopt) rfl rfl ?_ | refine callQ_pure (hopt) rfl rfl ?_) | (refine hK _ ?_; clear hK K) | (with_reducible refine gS (fun hb' => ?_) (fun hb' => ?_) <;> (have hb := hb'; (try simp only [DEc, reduceCtorEq] at hb); simp (disch := omega) only [Ac, ↓Pc, ↓reduceIte, reduceCtorEq, reduceEqDiff, Nat.reduceBEq, reduceAdd, Nat.reduceLT, reduceLeDiff, reduceMul, reduceNeg, Int.reduceLT, reduceLE, reduceToNat, hcc, hb']; clear hb')) | (refine Wc (fun ht => ?_) (fun ht => ?_) <;> (try simp only [DEc, reduceCtorEq] at ht)) | refine Wz rfl ?_ | (refine Wb ?_; intro Qb hnb hxb heb) | (refine Wk ?_; intro Q hn he) | ((first | refine hn _ ?_ | refine he _ _ rfl ?_); clear hn he; try clear Q) | ((first | refine hnb _ ?_ | refine hxb _ ?_ | refine heb _ _ rfl ?_); clear hnb hxb heb; try clear Qb) | (simp only [Qc, Kc, ↓reduceIte, reduceEqDiff, Nat.reduceBEq]) | with_reducible refine And.intro ?_ ?_ | omega | with_reducible rfl)
    · obtain rfl : ob = false := by assumption
      repeat' (first | ((first | ((first | refine rr ?_ | refine rre ?_); intro K hK) | with_reducible refine gO ?_); simp (disch := omega) only [Ac, ↓Pc, ↓reduceIte, reduceCtorEq, reduceEqDiff, Nat.reduceBEq, reduceAdd, Nat.reduceLT, reduceLeDiff, reduceMul, reduceNeg, Int.reduceLT, reduceLE, reduceToNat]) | (refine hK _ ?_; clear hK K) | (with_reducible refine gS (fun hb' => ?_) (fun hb' => ?_) <;> (have hb := hb'; (try simp only [DEc, reduceCtorEq] at hb); simp (disch := omega) only [Ac, ↓Pc, ↓reduceIte, reduceCtorEq, reduceEqDiff, Nat.reduceBEq, reduceAdd, Nat.reduceLT, reduceLeDiff, reduceMul, reduceNeg, Int.reduceLT, reduceLE, reduceToNat, hb']; clear hb')) | (refine Wc (fun ht => ?_) (fun ht => ?_) <;> (try simp only [DEc, reduceCtorEq] at ht)) | refine Wz rfl ?_ | (refine Wb ?_; intro Qb hnb hxb heb) | (refine Wk ?_; intro Q hn he) | ((first | refine hn _ ?_ | refine he _ _ rfl ?_); clear hn he; try clear Q) | ((first | refine hnb _ ?_ | refine hxb _ ?_ | refine heb _ _ rfl ?_); clear hnb hxb heb; try clear Qb) | (refine hel _ _ rfl ?_; clear hnl hel; try clear Ql) | (simp only [Qc, Kc, ↓reduceIte, reduceEqDiff, Nat.reduceBEq]) | with_reducible refine And.intro ?_ ?_ | omega | with_reducible rfl)
      exact RetOK_pure' rfl (by rw [← hr]; rfl)
    · obtain rfl : ob = true := by assumption
      rw [Bool.true_and] at hr
      exact hnl _ (i + 1) ⟨by omega, hr⟩ (by omega) (by (refine Turns.slots _ _ rfl ?_; simp only [Tc, ↓reduceIte, reduceEqDiff, Nat.reduceBEq, reduceAdd]; try trivial))
  · repeat' (first | ((first | ((first | refine rr ?_ | refine rre ?_); intro K hK) | with_reducible refine gO ?_); simp (disch := omega) only [Ac, ↓Pc, ↓reduceIte, reduceCtorEq, reduceEqDiff, Nat.reduceBEq, reduceAdd, Nat.reduceLT, reduceLeDiff, reduceMul, reduceNeg, Int.reduceLT, reduceLE, reduceToNat]) | (refine hK _ ?_; clear hK K) | (with_reducible refine gS (fun hb' => ?_) (fun hb' => ?_) <;> (have hb := hb'; (try simp only [DEc, reduceCtorEq] at hb); simp (disch := omega) only [Ac, ↓Pc, ↓reduceIte, reduceCtorEq, reduceEqDiff, Nat.reduceBEq, reduceAdd, Nat.reduceLT, reduceLeDiff, reduceMul, reduceNeg, Int.reduceLT, reduceLE, reduceToNat, hb']; clear hb')) | (refine Wc (fun ht => ?_) (fun ht => ?_) <;> (try simp only [DEc, reduceCtorEq] at ht)) | refine Wz rfl ?_ | (refine Wb ?_; intro Qb hnb hxb heb) | (refine Wk ?_; intro Q hn he) | ((first | refine hn _ ?_ | refine he _ _ rfl ?_); clear hn he; try clear Q) | ((first | refine hnb _ ?_ | refine hxb _ ?_ | refine heb _ _ rfl ?_); clear hnb hxb heb; try clear Qb) | (simp only [Qc, Kc, ↓reduceIte, reduceEqDiff, Nat.reduceBEq]) | with_reducible refine And.intro ?_ ?_ | omega | with_reducible rfl)
    rw [List.drop_eq_nil_of_le (by omega), cplL] at hr
    refine hel _ _ rfl ?_; clear hnl hel Ql
    repeat (first | ((first | refine hn _ ?_ | refine he _ _ rfl ?_); clear hn he; try clear Q) | ((first | refine hnb _ ?_ | refine hxb _ ?_ | refine heb _ _ rfl ?_); clear hnb hxb heb; try clear Qb) | (refine hel _ _ rfl ?_; clear hnl hel; try clear Ql))
    repeat' (first | ((first | ((first | refine rr ?_ | refine rre ?_); intro K hK) | with_reducible refine gO ?_); simp (disch := omega) only [Ac, ↓Pc, ↓reduceIte, reduceCtorEq, reduceEqDiff, Nat.reduceBEq, reduceAdd, Nat.reduceLT, reduceLeDiff, reduceMul, reduceNeg, Int.reduceLT, reduceLE, reduceToNat]) | (refine hK _ ?_; clear hK K) | (with_reducible refine gS (fun hb' => ?_) (fun hb' => ?_) <;> (have hb := hb'; (try simp only [DEc, reduceCtorEq] at hb); simp (disch := omega) only [Ac, ↓Pc, ↓reduceIte, reduceCtorEq, reduceEqDiff, Nat.reduceBEq, reduceAdd, Nat.reduceLT, reduceLeDiff, reduceMul, reduceNeg, Int.reduceLT, reduceLE, reduceToNat, hb']; clear hb')) | (refine Wc (fun ht => ?_) (fun ht => ?_) <;> (try simp only [DEc, reduceCtorEq] at ht)) | refine Wz rfl ?_ | (refine Wb ?_; intro Qb hnb hxb heb) | (refine Wk ?_; intro Q hn he) | ((first | refine hn _ ?_ | refine he _ _ rfl ?_); clear hn he; try clear Q) | ((first | refine hnb _ ?_ | refine hxb _ ?_ | refine heb _ _ rfl ?_); clear hnb hxb heb; try clear Qb) | (refine hel _ _ rfl ?_; clear hnl hel; try clear Ql) | (simp only [Qc, Kc, ↓reduceIte, reduceEqDiff, Nat.reduceBEq]) | with_reducible refine And.intro ?_ ?_ | omega | with_reducible rfl)
    exact RetOK_pure' rfl (by rw [← hr]; rfl)
end T

