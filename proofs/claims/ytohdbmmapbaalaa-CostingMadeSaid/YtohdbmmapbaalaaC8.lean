import Derived.Test.YtohdbmmapbaalaaC5
set_option linter.unusedVariables false
set_option linter.unusedSimpArgs false
open Go Go.Am Go.Proofs
namespace T
theorem range4 : List.range 4 = [0, 1, 2, 3] := by decide
def o0 : Opt := ⟨0, 0, 0, 0, 0, []⟩
def m0 : Mdl := ⟨[[o0, o0], [o0, o0]], [⟨0, 1, 0, [0, 0, 0, 5]⟩], [⟨1, [⟨0, 1, 2⟩, ⟨1, 1, 1⟩], 1, 3⟩], 2⟩
theorem m0_mb : MB m0 := by
  refine ⟨by decide, fun l hl => ?_, fun l hl o ho => ?_, by decide, fun p hp => ?_, by decide, fun c hc => ?_⟩
  · simp [m0] at hl; subst hl; decide
  · simp [m0] at hl; subst hl; simp at ho; subst ho; decide
  · simp [m0] at hp; subst hp; decide
  · simp [m0] at hc; subst hc; decide
theorem aw1 : costT m0 [1, 1] = (11, [5, 6], 0) := by decide +kernel
theorem aw2 : costT m0 [1, -1] = (3, [0, 3], 0) := by decide +kernel
set_option maxRecDepth 10000 in
set_option maxHeartbeats 4000000 in
theorem awake_ok : Holds Try.prog 9 [] [] (.lit (.bool true)) [] := by
  have h1 := cost_ok m0 [1, 1] m0_mb (by decide)
  rw [aw1] at h1
  have h2 := cost_ok m0 [1, -1] m0_mb (by decide)
  rw [aw2] at h2
  refine Holds.of_body' (fn := Try.f9) 69 0 [.tmp 0] Try.func9 rfl rfl rfl rfl rfl (by simp) ?_
  refine W_region_k (by decide) ?_
  intro K hK
  simp (disch := omega) only [Bc, tys, ↓Pc, Sc, Rc, ↓reduceIte, reduceCtorEq, Nat.reduceEqDiff, Nat.reduceBEq, Nat.reduceAdd, Nat.reduceLT, Nat.reduceLeDiff, Nat.reduceMul, Int.reduceNeg, Int.reduceLT, Int.reduceLE, Int.reduceToNat]
  refine hK _ ?_
  clear hK K
  refine W_region_k (by decide) ?_
  intro K hK
  simp (disch := omega) only [Bc, tys, ↓Pc, Sc, Rc, ↓reduceIte, reduceCtorEq, Nat.reduceEqDiff, Nat.reduceBEq, Nat.reduceAdd, Nat.reduceLT, Nat.reduceLeDiff, Nat.reduceMul, Int.reduceNeg, Int.reduceLT, Int.reduceLE, Int.reduceToNat]
  refine hK _ ?_
  clear hK K
  refine W_region_t 12 (by decide) ?_
  intro K K1 hK hK1
  simp (disch := omega) only [Bc, tys, ↓Pc, Sc, Rc, ↓reduceIte, reduceCtorEq, Nat.reduceEqDiff, Nat.reduceBEq, Nat.reduceAdd, Nat.reduceLT, Nat.reduceLeDiff, Nat.reduceMul, Int.reduceNeg, Int.reduceLT, Int.reduceLE, Int.reduceToNat, List.take, range4]
  refine hK1 _ ⟨slots [(23, .agg (eMdl m0))], []⟩ ?_ ?_
  · refine Turns.sel [] true _ _ (by decide) trivial (by decide) (by decide) ⟨?_, trivial⟩
    simp only [LKc, Lc, tys, Rc, ↓reduceIte, Nat.reduceEqDiff, Nat.reduceBEq]
    have hz : ∀ (σ : St) (kp : Nat → Prop), RowsR (Frz σ kp) (rowsOf eOpt [o0, o0]) [[.lit (.int .i64 0), .lit (.int .i64 0), .lit (.int .i64 0), .lit (.int .i64 0), .lit (.int .i64 0), .lit (.slice none 0 0)], [.lit (.int .i64 0), .lit (.int .i64 0), .lit (.int .i64 0), .lit (.int .i64 0), .lit (.int .i64 0), .lit (.slice none 0 0)]] := fun σ kp =>
      ⟨⟨.lit _, .lit _, .lit _, .lit _, .lit _, .nil 2, trivial⟩, ⟨.lit _, .lit _, .lit _, .lit _, .lit _, .nil 2, trivial⟩, trivial⟩
    refine ArgR.agg _ _ rfl (ArgsR.spec (R := ArgR _ _ _ _) (cs := eMdl m0) (ds := [.ref 1 1 0 2, .ref 3 4 0 1, .ref 5 4 0 1, .lit (.int .i64 2)]) ⟨.snap _ _ rfl ?_, .snap _ _ rfl ?_, .snap _ _ rfl ?_, .pure rfl, trivial⟩).2
    · exact Frz.mk rfl rfl (not_kept (by decide)) (rows_wid _) ⟨⟨Frz.mk rfl rfl (not_kept (by decide)) (rows_wid _) (hz _ _), trivial⟩, ⟨Frz.mk rfl rfl (not_kept (by decide)) (rows_wid _) (hz _ _), trivial⟩, trivial⟩
    · exact Frz.mk rfl rfl (not_kept (by decide)) (rows_wid _) ⟨⟨.lit _, .lit _, .lit _, Frz.mk rfl rfl (not_kept (by decide)) (ints_wid _) ⟨⟨.lit _, trivial⟩, ⟨.lit _, trivial⟩, ⟨.lit _, trivial⟩, ⟨.lit _, trivial⟩, trivial⟩, trivial⟩, trivial⟩
    · exact Frz.mk rfl rfl (not_kept (by decide)) (rows_wid _) ⟨⟨.lit _, Frz.mk rfl rfl (not_kept (by decide)) (rows_wid _) ⟨⟨.lit _, .lit _, .lit _, trivial⟩, ⟨.lit _, .lit _, .lit _, trivial⟩, trivial⟩, .lit _, .lit _, trivial⟩, trivial⟩
  clear hK1 K1
  simp (disch := omega) only [Bc, tys, ↓Pc, Sc, Rc, ↓reduceIte, reduceCtorEq, Nat.reduceEqDiff, Nat.reduceBEq, Nat.reduceAdd, Nat.reduceLT, Nat.reduceLeDiff, Nat.reduceMul, Int.reduceNeg, Int.reduceLT, Int.reduceLE, Int.reduceToNat, List.drop]
  refine hK _ ?_
  clear hK K
  refine W_turn (σ' := ⟨slots [(2, .ptr 0 0 0)], [.var (eMdl m0)]⟩) (by (refine Turns.slots _ _ rfl ?_; simp only [Has, and_true, Int.natCast_add, Int.cast_ofNat_Int, List.length_append, List.length_cons, List.length_nil, Nat.zero_add, Nat.reduceAdd, LKc, Lc, tys, Rc, ↓reduceIte, Nat.reduceEqDiff, Nat.reduceBEq]; try trivial)) ?_
  refine W_region_t 2 (by decide) ?_
  intro K K1 hK hK1
  simp (disch := omega) only [Bc, tys, ↓Pc, Sc, Rc, ↓reduceIte, reduceCtorEq, Nat.reduceEqDiff, Nat.reduceBEq, Nat.reduceAdd, Nat.reduceLT, Nat.reduceLeDiff, Nat.reduceMul, Int.reduceNeg, Int.reduceLT, Int.reduceLE, Int.reduceToNat, List.take]
  refine hK1 _ ⟨slots [(2, .ptr 0 0 0), (25, .agg (eMdl m0)), (26, .tree 1 (ints [1, 1]))], [.var (eMdl m0)]⟩ ?_ ?_
  · refine Turns.sel [0] true _ _ (by decide) ⟨⟨by decide, .inr rfl⟩, trivial⟩ (by decide) (by decide) ⟨.eq rfl, .pure rfl, ArgR.frz rfl (ints_wid _) rfl (not_kept (by decide)) (ints_frz _), trivial⟩
  clear hK1 K1
  simp (disch := omega) only [Bc, tys, ↓Pc, Sc, Rc, ↓reduceIte, reduceCtorEq, Nat.reduceEqDiff, Nat.reduceBEq, Nat.reduceAdd, Nat.reduceLT, Nat.reduceLeDiff, Nat.reduceMul, Int.reduceNeg, Int.reduceLT, Int.reduceLE, Int.reduceToNat, List.drop]
  refine callK_pure h1 rfl rfl ?_
  simp (disch := omega) only [Bc, tys, ↓Pc, Sc, Rc, ↓reduceIte, reduceCtorEq, Nat.reduceEqDiff, Nat.reduceBEq, Nat.reduceAdd, Nat.reduceLT, Nat.reduceLeDiff, Nat.reduceMul, Int.reduceNeg, Int.reduceLT, Int.reduceLE, Int.reduceToNat]
  refine hK _ ?_
  clear hK K
  refine W_turn (σ' := ⟨slots [(2, .ptr 0 0 0), (3, .lit (.int .i64 11)), (4, .tree 1 (ints [5, 6])), (5, .lit (.int .i64 0))], [.var (eMdl m0)]⟩) (by (refine Turns.slots _ _ rfl ?_; simp only [Has, and_true, Int.natCast_add, Int.cast_ofNat_Int, List.length_append, List.length_cons, List.length_nil, Nat.zero_add, Nat.reduceAdd, LKc, Lc, tys, Rc, ↓reduceIte, Nat.reduceEqDiff, Nat.reduceBEq]; try trivial)) ?_
  refine W_region_t 2 (by decide) ?_
  intro K K1 hK hK1
  simp (disch := omega) only [Bc, tys, ↓Pc, Sc, Rc, ↓reduceIte, reduceCtorEq, Nat.reduceEqDiff, Nat.reduceBEq, Nat.reduceAdd, Nat.reduceLT, Nat.reduceLeDiff, Nat.reduceMul, Int.reduceNeg, Int.reduceLT, Int.reduceLE, Int.reduceToNat, List.take]
  refine hK1 _ ⟨slots [(3, .lit (.int .i64 11)), (4, .tree 1 (ints [5, 6])), (5, .lit (.int .i64 0)), (32, .agg (eMdl m0)), (33, .tree 1 (ints [1, -1]))], []⟩ ?_ ?_
  · refine Turns.sel [] true _ _ (by decide) trivial (by decide) (by decide) ⟨.pure rfl, .pure rfl, .pure rfl, .pure rfl, ArgR.frz rfl (ints_wid _) rfl (not_kept (by decide)) (ints_frz _), trivial⟩
  clear hK1 K1
  simp (disch := omega) only [Bc, tys, ↓Pc, Sc, Rc, ↓reduceIte, reduceCtorEq, Nat.reduceEqDiff, Nat.reduceBEq, Nat.reduceAdd, Nat.reduceLT, Nat.reduceLeDiff, Nat.reduceMul, Int.reduceNeg, Int.reduceLT, Int.reduceLE, Int.reduceToNat, List.drop]
  refine callK_pure h2 rfl rfl ?_
  simp (disch := omega) only [Bc, tys, ↓Pc, Sc, Rc, ↓reduceIte, reduceCtorEq, Nat.reduceEqDiff, Nat.reduceBEq, Nat.reduceAdd, Nat.reduceLT, Nat.reduceLeDiff, Nat.reduceMul, Int.reduceNeg, Int.reduceLT, Int.reduceLE, Int.reduceToNat]
  refine hK _ ?_
  clear hK K
  refine W_turn (σ' := ⟨slots [(3, .lit (.int .i64 11)), (4, .tree 1 (ints [5, 6])), (5, .lit (.int .i64 0)), (6, .lit (.int .i64 3)), (8, .lit (.int .i64 0))], []⟩) (by (refine Turns.slots _ _ rfl ?_; simp only [Has, and_true, Int.natCast_add, Int.cast_ofNat_Int, List.length_append, List.length_cons, List.length_nil, Nat.zero_add, Nat.reduceAdd, LKc, Lc, tys, Rc, ↓reduceIte, Nat.reduceEqDiff, Nat.reduceBEq]; try trivial)) ?_
  have g0 : (ints [5, 6]).getD 0 [] = [.lit (.int .i64 5)] := rfl
  have g1 : (ints [5, 6]).getD 1 [] = [.lit (.int .i64 6)] := rfl
  repeat' (first | ((first | ((first | refine rk ?_ | refine rke ?_ | refine rd ?_ | refine rde ?_); intro K hK) | with_reducible (first | refine opsL_go ?_ | refine planW_go ?_ | refine opsLQ_go ?_ | refine opsLA_go ?_ | refine opsLB_go ?_)); simp (disch := omega) only [Bc, tys, ↓Pc, Sc, Rc, ↓reduceIte, reduceCtorEq, Nat.reduceEqDiff, Nat.reduceBEq, Nat.reduceAdd, Nat.reduceLT, Nat.reduceLeDiff, Nat.reduceMul, Int.reduceNeg, Int.reduceLT, Int.reduceLE, Int.reduceToNat, g0, g1, beq_self_eq_true]) | (refine hK _ ?_; clear hK K) | ((first | refine guardK_split (fun hb' => ?_) (fun hb' => ?_) | refine guardM_split (fun hb' => ?_) (fun hb' => ?_)) <;> (have hb := hb'; (try simp only [DEc, reduceCtorEq] at hb); simp (disch := omega) only [Bc, tys, ↓Pc, Sc, Rc, ↓reduceIte, reduceCtorEq, Nat.reduceEqDiff, Nat.reduceBEq, Nat.reduceAdd, Nat.reduceLT, Nat.reduceLeDiff, Nat.reduceMul, Int.reduceNeg, Int.reduceLT, Int.reduceLE, Int.reduceToNat, g0, g1, beq_self_eq_true, hb']; clear hb')) | (refine Wc (fun ht => ?_) (fun ht => ?_) <;> (try simp only [DEc, reduceCtorEq] at ht)) | refine W_skip ?_ | refine W_exit ?_ | refine W_ret ?_ | refine W_label ?_ | (refine Wb ?_; intro Qb hnb hxb heb) | (refine Wk ?_; intro Q hn he) | ((first | refine hn _ ?_ | refine he _ _ rfl ?_); clear hn he; try clear Q) | ((first | refine hnb _ ?_ | refine hxb _ ?_ | refine heb _ _ rfl ?_); clear hnb hxb heb; try clear Qb) | (refine hel _ _ rfl ?_; clear hnl hel; try clear Ql) | (simp only [retQ, resW, retV, List.length_nil, LKc, Lc, tys, Rc, ↓reduceIte, Nat.reduceEqDiff, Nat.reduceBEq]) | with_reducible refine And.intro ?_ ?_ | omega | with_reducible rfl)
  all_goals first | exact RetOK_pure' rfl rfl | (exfalso; simp at *; done) | (exfalso; omega) | skip
end T

