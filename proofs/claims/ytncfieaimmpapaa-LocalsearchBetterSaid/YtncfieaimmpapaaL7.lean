import Derived.Test.YtncfieaimmpapaaL6
import Derived.Test.YtncfieaimmpapaaC5
import Derived.Test.YtncfieaimmpapaaAmG
import Derived.KernelRfl
set_option linter.unusedVariables false
set_option linter.unusedSimpArgs false
open Go Go.Am Go.Proofs
open Nat (reduceEqDiff reduceAdd reduceLeDiff reduceMul)
open Int (reduceNeg reduceLE reduceToNat)
set_option maxRecDepth 20000
namespace T
theorem eqChoice : EqT Try.prog 43 2 := EqT.of 4 (by kernel_rfl)
theorem gdChoice : Try.prog.eqGuardType Try.prog.depth 43 = false := by kernel_rfl
def oa : Opt := ⟨0, 0, 0, 0, 0, [(0, 5)]⟩
def ob : Opt := ⟨0, 0, 0, 0, 0, []⟩
def m1 : Mdl := ⟨[[oa, ob]], [], [], 1⟩
theorem aw1 : comV m1 [0] = 0 ∧ scV m1 [0] = (0, 5) := by decide +kernel
theorem aw2 : bestP m1 [0] = ((0, 1), true) := by decide +kernel
theorem aw3 : descV m1 [0] 3 = ([1], 1, 0) := by decide +kernel
theorem m1_mb : MB m1 := by
  refine ⟨by decide, fun l hl => ?_, fun l hl o ho => ?_, by decide, fun p hp => ?_, by decide, fun c hc => ?_⟩
  · simp [m1] at hl; subst hl; decide
  · simp [m1] at hl; subst hl; simp at ho; rcases ho with rfl | rfl <;> decide
  · simp [m1] at hp
  · simp [m1] at hc
set_option maxHeartbeats 8000000 in
theorem awake_ok : Holds Try.prog 12 [] [] (.lit (.bool true)) [] := by
  have h1 := score_ok m1 [0] m1_mb (by decide)
  rw [aw1.1, aw1.2] at h1
  have h2 := Best_ok m1 [0] m1_mb (by decide)
  rw [aw2] at h2
  have h3 := desc_ok m1 [0] 3 m1_mb (by decide)
  rw [aw3] at h3
  refine Holds.of_body' (fn := Try.f12) 68 0 [.tmp 0] Try.func12 rfl rfl rfl rfl rfl (by simp) ?_
  refine W_region_k (by decide) ?_
  intro K hK
  simp (disch := omega) only [Ac, ↓Pc, ↓reduceIte, reduceCtorEq, reduceEqDiff, Nat.reduceBEq, reduceAdd, Nat.reduceLT, reduceLeDiff, reduceMul, reduceNeg, Int.reduceLT, reduceLE, reduceToNat]
  refine hK _ ?_
  clear hK K
  refine W_region_t 7 (by decide) ?_
  intro K K1 hK hK1
  simp (disch := omega) only [Ac, ↓Pc, ↓reduceIte, reduceCtorEq, reduceEqDiff, Nat.reduceBEq, reduceAdd, Nat.reduceLT, reduceLeDiff, reduceMul, reduceNeg, Int.reduceLT, reduceLE, reduceToNat, List.take]
  refine hK1 _ ⟨slots [(16, .agg (eMdl m1))], []⟩ ?_ ?_
  · refine Turns.sel [] true _ _ (by decide) trivial (by decide) (by decide) ⟨?_, trivial⟩
    simp only [Kc, ↓reduceIte, reduceEqDiff, Nat.reduceBEq]
    refine ArgR.agg _ _ rfl (ArgsR.spec (R := ArgR _ _ _ _) (cs := eMdl m1) (ds := [.ref 2 1 0 1, .lit (.slice none 0 0), .lit (.slice none 0 0), .lit (.int .i64 1)]) ⟨.snap _ _ rfl ?_, ArgR.nil, ArgR.nil, .pure rfl, trivial⟩).2
    exact Frz.mk rfl rfl (not_kept (by decide)) (rows_wid _) ⟨⟨Frz.mk rfl rfl (not_kept (by decide)) (rows_wid _) ⟨⟨.lit _, .lit _, .lit _, .lit _, .lit _, Frz.mk rfl rfl (not_kept (by decide)) (rows_wid _) ⟨⟨.lit _, .lit _, trivial⟩, trivial⟩, trivial⟩, ⟨.lit _, .lit _, .lit _, .lit _, .lit _, .nil 2, trivial⟩, trivial⟩, trivial⟩, trivial⟩
  clear hK1 K1
  simp (disch := omega) only [Ac, ↓Pc, ↓reduceIte, reduceCtorEq, reduceEqDiff, Nat.reduceBEq, reduceAdd, Nat.reduceLT, reduceLeDiff, reduceMul, reduceNeg, Int.reduceLT, reduceLE, reduceToNat, List.drop]
  refine hK _ ?_
  clear hK K
  refine W_turn (σ' := ⟨slots [(1, .ptr 0 0 0)], [.var (eMdl m1)]⟩) (by (refine Turns.slots _ _ rfl ?_; simp only [Tc, ↓reduceIte, reduceEqDiff, Nat.reduceBEq, reduceAdd]; try trivial)) ?_
  refine W_region_t 2 (by decide) ?_
  intro K K1 hK hK1
  simp (disch := omega) only [Ac, ↓Pc, ↓reduceIte, reduceCtorEq, reduceEqDiff, Nat.reduceBEq, reduceAdd, Nat.reduceLT, reduceLeDiff, reduceMul, reduceNeg, Int.reduceLT, reduceLE, reduceToNat, List.take]
  refine hK1 _ ⟨slots [(1, .ptr 0 0 0), (18, .agg (eMdl m1)), (19, .tree 1 (ints [0]))], [.var (eMdl m1)]⟩ ?_ ?_
  · refine Turns.sel [0] true _ _ (by decide) ⟨⟨by decide, .inr rfl⟩, trivial⟩ (by decide) (by decide) ⟨.eq rfl, .pure rfl, ArgR.frz rfl (ints_wid _) rfl (not_kept (by decide)) (ints_frz _), trivial⟩
  clear hK1 K1
  simp (disch := omega) only [Ac, ↓Pc, ↓reduceIte, reduceCtorEq, reduceEqDiff, Nat.reduceBEq, reduceAdd, Nat.reduceLT, reduceLeDiff, reduceMul, reduceNeg, Int.reduceLT, reduceLE, reduceToNat, List.drop]
  refine callK_pure h1 rfl rfl ?_
  simp (disch := omega) only [Ac, ↓Pc, ↓reduceIte, reduceCtorEq, reduceEqDiff, Nat.reduceBEq, reduceAdd, Nat.reduceLT, reduceLeDiff, reduceMul, reduceNeg, Int.reduceLT, reduceLE, reduceToNat, eFd]
  refine hK _ ?_
  clear hK K
  refine W_turn (σ' := ⟨slots [(1, .ptr 0 0 0), (2, .lit (.int .i64 0)), (3, .lit (.int .i64 5)), (4, .lit (.int .i64 0))], [.var (eMdl m1)]⟩) (by (refine Turns.slots _ _ rfl ?_; simp only [Tc, ↓reduceIte, reduceEqDiff, Nat.reduceBEq, reduceAdd]; try trivial)) ?_
  refine W_region_t 2 (by decide) ?_
  intro K K1 hK hK1
  simp (disch := omega) only [Ac, ↓Pc, ↓reduceIte, reduceCtorEq, reduceEqDiff, Nat.reduceBEq, reduceAdd, Nat.reduceLT, reduceLeDiff, reduceMul, reduceNeg, Int.reduceLT, reduceLE, reduceToNat, List.take]
  refine hK1 _ ⟨slots [(1, .ptr 0 0 0), (2, .lit (.int .i64 0)), (3, .lit (.int .i64 5)), (4, .lit (.int .i64 0)), (25, .agg (eMdl m1)), (26, .tree 1 (ints [0]))], [.var (eMdl m1)]⟩ ?_ ?_
  · refine Turns.sel [0] true _ _ (by decide) ⟨⟨by decide, .inr rfl⟩, trivial⟩ (by decide) (by decide) ⟨.eq rfl, .pure rfl, .pure rfl, .pure rfl, .pure rfl, ArgR.frz rfl (ints_wid _) rfl (not_kept (by decide)) (ints_frz _), trivial⟩
  clear hK1 K1
  simp (disch := omega) only [Ac, ↓Pc, ↓reduceIte, reduceCtorEq, reduceEqDiff, Nat.reduceBEq, reduceAdd, Nat.reduceLT, reduceLeDiff, reduceMul, reduceNeg, Int.reduceLT, reduceLE, reduceToNat, List.drop]
  refine callK_pure h2 rfl rfl ?_
  simp (disch := omega) only [Ac, ↓Pc, ↓reduceIte, reduceCtorEq, reduceEqDiff, Nat.reduceBEq, reduceAdd, Nat.reduceLT, reduceLeDiff, reduceMul, reduceNeg, Int.reduceLT, reduceLE, reduceToNat, eFd]
  refine hK _ ?_
  clear hK K
  refine W_turn (σ' := ⟨slots [(1, .ptr 0 0 0), (2, .lit (.int .i64 0)), (3, .lit (.int .i64 5)), (4, .lit (.int .i64 0)), (5, .ptr 1 0 0), (6, .lit (.bool true))], [.var (eMdl m1), .var (eFd (0, 1))]⟩) (by (refine Turns.slots _ _ rfl ?_; simp only [Tc, ↓reduceIte, reduceEqDiff, Nat.reduceBEq, reduceAdd, eFd]; try trivial)) ?_
  refine W_region_t 2 (by decide) ?_
  intro K K1 hK hK1
  simp (disch := omega) only [Ac, ↓Pc, ↓reduceIte, reduceCtorEq, reduceEqDiff, Nat.reduceBEq, reduceAdd, Nat.reduceLT, reduceLeDiff, reduceMul, reduceNeg, Int.reduceLT, reduceLE, reduceToNat, List.take]
  refine hK1 _ ⟨slots [(1, .ptr 0 0 0), (2, .lit (.int .i64 0)), (3, .lit (.int .i64 5)), (4, .lit (.int .i64 0)), (5, .ptr 1 0 0), (6, .lit (.bool true)), (31, .agg (eMdl m1)), (32, .tree 1 (ints [0]))], [.var (eMdl m1), .var (eFd (0, 1))]⟩ ?_ ?_
  · refine Turns.sel [0, 1] true _ _ (by decide) ⟨⟨by decide, .inr rfl⟩, ⟨by decide, .inr rfl⟩, trivial⟩ (by decide) (by decide) ⟨.eq rfl, .pure rfl, .pure rfl, .pure rfl, .eq rfl, .pure rfl, .pure rfl, ArgR.frz rfl (ints_wid _) rfl (not_kept (by decide)) (ints_frz _), trivial⟩
  clear hK1 K1
  simp (disch := omega) only [Ac, ↓Pc, ↓reduceIte, reduceCtorEq, reduceEqDiff, Nat.reduceBEq, reduceAdd, Nat.reduceLT, reduceLeDiff, reduceMul, reduceNeg, Int.reduceLT, reduceLE, reduceToNat, List.drop]
  refine callK_pure h3 rfl rfl ?_
  simp (disch := omega) only [Ac, ↓Pc, ↓reduceIte, reduceCtorEq, reduceEqDiff, Nat.reduceBEq, reduceAdd, Nat.reduceLT, reduceLeDiff, reduceMul, reduceNeg, Int.reduceLT, reduceLE, reduceToNat, eFd]
  refine hK _ ?_
  clear hK K
  refine W_turn (σ' := ⟨slots [(2, .lit (.int .i64 0)), (3, .lit (.int .i64 5)), (4, .lit (.int .i64 0)), (5, .ptr 1 0 0), (6, .lit (.bool true)), (7, .tree 1 (ints [1])), (8, .lit (.int .i64 1)), (9, .lit (.int .i64 0))], [.var (eMdl m1), .var (eFd (0, 1))]⟩) (by (refine Turns.slots _ _ rfl ?_; simp only [Tc, ↓reduceIte, reduceEqDiff, Nat.reduceBEq, reduceAdd, eFd]; try trivial)) ?_
  repeat' (first | ((first | ((first | refine rr ?_ | refine rre ?_); intro K hK) | with_reducible refine gO ?_); simp (disch := omega) only [Ac, ↓Pc, ↓reduceIte, reduceCtorEq, reduceEqDiff, Nat.reduceBEq, reduceAdd, Nat.reduceLT, reduceLeDiff, reduceMul, reduceNeg, Int.reduceLT, reduceLE, reduceToNat, eFd, beq_self_eq_true]) | (refine hK _ ?_; clear hK K) | (with_reducible refine gS (fun hb' => ?_) (fun hb' => ?_) <;> (have hb := hb'; (try simp only [DEc, reduceCtorEq] at hb); simp (disch := omega) only [Ac, ↓Pc, ↓reduceIte, reduceCtorEq, reduceEqDiff, Nat.reduceBEq, reduceAdd, Nat.reduceLT, reduceLeDiff, reduceMul, reduceNeg, Int.reduceLT, reduceLE, reduceToNat, eFd, beq_self_eq_true, hb']; clear hb')) | (refine Wc (fun ht => ?_) (fun ht => ?_) <;> (try simp only [DEc, reduceCtorEq] at ht)) | refine Wz rfl ?_ | (refine Wb ?_; intro Qb hnb hxb heb) | (refine Wk ?_; intro Q hn he) | ((first | refine hn _ ?_ | refine he _ _ rfl ?_); clear hn he; try clear Q) | ((first | refine hnb _ ?_ | refine hxb _ ?_ | refine heb _ _ rfl ?_); clear hnb hxb heb; try clear Qb) | (refine hel _ _ rfl ?_; clear hnl hel; try clear Ql) | (simp only [Qc, Kc, ↓reduceIte, reduceEqDiff, Nat.reduceBEq]) | with_reducible refine And.intro ?_ ?_ | omega | with_reducible rfl)
  all_goals first | exact gdChoice | exact eqChoice | skip
  refine callK_snap [] (same_ok [1] [1] (by decide)) (by decide) trivial ⟨.pure rfl, ArgR.frz (rows := ints [1]) rfl (ints_wid _) rfl (by decide) (ints_frz _), trivial⟩ rfl (by simp) ?_
  repeat' (first | ((first | ((first | refine rr ?_ | refine rre ?_); intro K hK) | with_reducible refine gO ?_); simp (disch := omega) only [Ac, ↓Pc, ↓reduceIte, reduceCtorEq, reduceEqDiff, Nat.reduceBEq, reduceAdd, Nat.reduceLT, reduceLeDiff, reduceMul, reduceNeg, Int.reduceLT, reduceLE, reduceToNat, eFd, beq_self_eq_true]) | (refine hK _ ?_; clear hK K) | (with_reducible refine gS (fun hb' => ?_) (fun hb' => ?_) <;> (have hb := hb'; (try simp only [DEc, reduceCtorEq] at hb); simp (disch := omega) only [Ac, ↓Pc, ↓reduceIte, reduceCtorEq, reduceEqDiff, Nat.reduceBEq, reduceAdd, Nat.reduceLT, reduceLeDiff, reduceMul, reduceNeg, Int.reduceLT, reduceLE, reduceToNat, eFd, beq_self_eq_true, hb']; clear hb')) | (refine Wc (fun ht => ?_) (fun ht => ?_) <;> (try simp only [DEc, reduceCtorEq] at ht)) | refine Wz rfl ?_ | (refine Wb ?_; intro Qb hnb hxb heb) | (refine Wk ?_; intro Q hn he) | ((first | refine hn _ ?_ | refine he _ _ rfl ?_); clear hn he; try clear Q) | ((first | refine hnb _ ?_ | refine hxb _ ?_ | refine heb _ _ rfl ?_); clear hnb hxb heb; try clear Qb) | (refine hel _ _ rfl ?_; clear hnl hel; try clear Ql) | (simp only [Qc, Kc, ↓reduceIte, reduceEqDiff, Nat.reduceBEq]) | with_reducible refine And.intro ?_ ?_ | omega | with_reducible rfl)
  all_goals first | exact RetOK_pure' rfl rfl | (exfalso; simp at *; done) | trace_state
end T

