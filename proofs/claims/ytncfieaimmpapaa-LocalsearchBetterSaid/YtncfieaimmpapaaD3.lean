import Derived.Test.YtncfieaimmpapaaD1
import Derived.Test.YtncfieaimmpapaaSA
set_option linter.unusedVariables false
set_option linter.unusedSimpArgs false
open Go Go.Am Go.Proofs
open Nat (reduceEqDiff reduceAdd reduceLeDiff reduceMul)
open Int (reduceNeg reduceLE reduceToNat)
set_option maxRecDepth 20000
namespace T
set_option maxRecDepth 10000 in
set_option maxHeartbeats 4000000 in
theorem cloneFInt_ok (xs : List Int) (hl : xs.length < 549755813888) : Holds Try.prog 42 [.tree 1 (ints xs)] [] (.tree 1 (ints xs)) [] := by
  rcases Nat.eq_zero_or_pos xs.length with h | h
  · obtain rfl := List.eq_nil_of_length_eq_zero h
    refine Holds.empty (pre := []) (post := []) (fun a cap => ?_)
    rw [List.nil_append]
    cases a with
    | none =>
      refine Holds.of_body' (fn := Try.f42) 8 0 [.tmp 2] Try.func42 rfl rfl rfl rfl rfl (by simp) ?_
      repeat' (first | ((first | ((first | refine rr ?_ | refine rre ?_); intro K hK) | with_reducible refine gO ?_); simp (disch := omega) only [Ac, ↓Pc, ↓reduceIte, reduceCtorEq, reduceEqDiff, Nat.reduceBEq, reduceAdd, Nat.reduceLT, reduceLeDiff, reduceMul, reduceNeg, Int.reduceLT, reduceLE, reduceToNat, Option.isNone_none]) | (refine hK _ ?_; clear hK K) | (with_reducible refine gS (fun hb' => ?_) (fun hb' => ?_) <;> (have hb := hb'; (try simp only [DEc, reduceCtorEq] at hb); simp (disch := omega) only [Ac, ↓Pc, ↓reduceIte, reduceCtorEq, reduceEqDiff, Nat.reduceBEq, reduceAdd, Nat.reduceLT, reduceLeDiff, reduceMul, reduceNeg, Int.reduceLT, reduceLE, reduceToNat, Option.isNone_none, hb']; clear hb')) | (refine Wc (fun ht => ?_) (fun ht => ?_) <;> (try simp only [DEc, reduceCtorEq] at ht)) | refine Wz rfl ?_ | (refine Wb ?_; intro Qb hnb hxb heb) | (refine Wk ?_; intro Q hn he) | ((first | refine hn _ ?_ | refine he _ _ rfl ?_); clear hn he; try clear Q) | ((first | refine hnb _ ?_ | refine hxb _ ?_ | refine heb _ _ rfl ?_); clear hnb hxb heb; try clear Qb) | (refine hel _ _ rfl ?_; clear hnl hel; try clear Ql) | (simp only [Qc, Kc, ↓reduceIte, reduceEqDiff, Nat.reduceBEq]) | with_reducible refine And.intro ?_ ?_ | omega | with_reducible rfl)
      all_goals first | (refine RetOK_sel [] true (by decide) trivial (by decide) (by decide) ?_; exact ArgR.nil) | (exfalso; simp at *; done)
    | some ad =>
      refine Holds.of_body' (fn := Try.f42) 8 0 [.tmp 2] Try.func42 rfl rfl rfl rfl rfl (by simp) ?_
      refine W_region_k (by decide) ?_
      intro K hK
      simp (disch := omega) only [Ac, ↓Pc, ↓reduceIte, reduceCtorEq, reduceEqDiff, Nat.reduceBEq, reduceAdd, Nat.reduceLT, reduceLeDiff, reduceMul, reduceNeg, Int.reduceLT, reduceLE, reduceToNat]
      refine hK _ ?_
      clear hK K
      refine Wk ?_
      intro Q hn he
      ((first | refine W_region_k (by decide) ?_ | refine W_draw_o rfl (by decide) (by decide +kernel) ?_); intro K hK; simp (disch := omega) only [Ac, ↓Pc, ↓reduceIte, reduceCtorEq, reduceEqDiff, Nat.reduceBEq, reduceAdd, Nat.reduceLT, reduceLeDiff, reduceMul, reduceNeg, Int.reduceLT, reduceLE, reduceToNat, Option.isNone_some]; repeat' (first | with_reducible refine And.intro ?_ ?_ | omega | with_reducible rfl)); (refine hK _ ?_; clear hK K)
      refine W_cond (t := false) (by simp only [LKc, Lc, ↓reduceIte, Nat.reduceEqDiff, Nat.reduceBEq]) (fun ht => by simp at ht) (fun ht => ?_)
      refine W_skip ?_
      refine hn _ ?_
      clear hn he Q ht
      refine W_turn (Turns.emptyV 0 1 (by (simp only [LKc, tys, Rc, ↓reduceIte, Nat.reduceEqDiff, Nat.reduceBEq, ev, litOf, St.put]; exact rfl))) ?_
      repeat' (first | ((first | ((first | refine rr ?_ | refine rre ?_); intro K hK) | with_reducible refine gO ?_); simp (disch := omega) only [Ac, ↓Pc, ↓reduceIte, reduceCtorEq, reduceEqDiff, Nat.reduceBEq, reduceAdd, Nat.reduceLT, reduceLeDiff, reduceMul, reduceNeg, Int.reduceLT, reduceLE, reduceToNat, List.length_nil, List.append_nil, List.all_nil]) | (refine hK _ ?_; clear hK K) | (with_reducible refine gS (fun hb' => ?_) (fun hb' => ?_) <;> (have hb := hb'; (try simp only [DEc, reduceCtorEq] at hb); simp (disch := omega) only [Ac, ↓Pc, ↓reduceIte, reduceCtorEq, reduceEqDiff, Nat.reduceBEq, reduceAdd, Nat.reduceLT, reduceLeDiff, reduceMul, reduceNeg, Int.reduceLT, reduceLE, reduceToNat, List.length_nil, List.append_nil, List.all_nil, hb']; clear hb')) | (refine Wc (fun ht => ?_) (fun ht => ?_) <;> (try simp only [DEc, reduceCtorEq] at ht)) | refine Wz rfl ?_ | (refine Wb ?_; intro Qb hnb hxb heb) | (refine Wk ?_; intro Q hn he) | ((first | refine hn _ ?_ | refine he _ _ rfl ?_); clear hn he; try clear Q) | ((first | refine hnb _ ?_ | refine hxb _ ?_ | refine heb _ _ rfl ?_); clear hnb hxb heb; try clear Qb) | (refine hel _ _ rfl ?_; clear hnl hel; try clear Ql) | (simp only [Qc, Kc, ↓reduceIte, reduceEqDiff, Nat.reduceBEq]) | with_reducible refine And.intro ?_ ?_ | omega | with_reducible rfl)
      refine RetOK_sel [] true (by decide) trivial (by decide) (by decide) ?_
      exact ArgR.frz (rows := []) rfl (by simp) rfl (not_kept (by decide)) (by simp)
  · refine Holds.of_body' (fn := Try.f42) 8 0 [.tmp 2] Try.func42 rfl rfl rfl rfl rfl (by simp) ?_
    repeat' (first | ((first | ((first | refine rr ?_ | refine rre ?_); intro K hK) | with_reducible refine gO ?_); simp (disch := omega) only [Ac, ↓Pc, ↓reduceIte, reduceCtorEq, reduceEqDiff, Nat.reduceBEq, reduceAdd, Nat.reduceLT, reduceLeDiff, reduceMul, reduceNeg, Int.reduceLT, reduceLE, reduceToNat, ints_scal]) | (refine hK _ ?_; clear hK K) | (with_reducible refine gS (fun hb' => ?_) (fun hb' => ?_) <;> (have hb := hb'; (try simp only [DEc, reduceCtorEq] at hb); simp (disch := omega) only [Ac, ↓Pc, ↓reduceIte, reduceCtorEq, reduceEqDiff, Nat.reduceBEq, reduceAdd, Nat.reduceLT, reduceLeDiff, reduceMul, reduceNeg, Int.reduceLT, reduceLE, reduceToNat, ints_scal, hb']; clear hb')) | (refine Wc (fun ht => ?_) (fun ht => ?_) <;> (try simp only [DEc, reduceCtorEq] at ht)) | refine Wz rfl ?_ | (refine Wb ?_; intro Qb hnb hxb heb) | (refine Wk ?_; intro Q hn he) | ((first | refine hn _ ?_ | refine he _ _ rfl ?_); clear hn he; try clear Q) | ((first | refine hnb _ ?_ | refine hxb _ ?_ | refine heb _ _ rfl ?_); clear hnb hxb heb; try clear Qb) | (refine hel _ _ rfl ?_; clear hnl hel; try clear Ql) | (simp only [Qc, Kc, ↓reduceIte, reduceEqDiff, Nat.reduceBEq]) | with_reducible refine And.intro ?_ ?_ | omega | with_reducible rfl)
    (refine RetOK_se [] true (by simp only [Oc, reduceCtorEq, reduceAdd, Nat.reduceLT, reduceLeDiff, reduceEqDiff, ↓reduceIte]) ?_; first | exact .pure rfl | exact .eq rfl | exact .fz rfl (by simp only [Bc, Rc]))
end T

