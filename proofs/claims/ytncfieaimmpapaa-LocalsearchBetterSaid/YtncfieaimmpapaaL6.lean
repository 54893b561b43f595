import Derived.Test.YtncfieaimmpapaaL5
set_option linter.unusedVariables false
set_option linter.unusedSimpArgs false
open Go Go.Am Go.Proofs
open Nat (reduceEqDiff reduceAdd reduceLeDiff reduceMul)
open Int (reduceNeg reduceLE reduceToNat)
set_option maxRecDepth 20000
namespace T
set_option maxHeartbeats 8000000 in
theorem descE_ok (m : Mdl) (steps : Int) (hb : MB m) : Holds Try.prog 21 [.agg (eMdl m), .tree 1 (ints []), .lit (.int .i64 steps)] [] (.tup [.tree 1 (ints (descV m [] steps).1), .lit (.int .i64 (descV m [] steps).2.1), .lit (.int .i64 (descV m [] steps).2.2)]) [] := by
  generalize hres : descV m [] steps = res
  unfold descV at hres
  have hc := complete_ok m [] hb (by decide)
  by_cases hz : comV m [] = 0
  rotate_left
  · rw [if_pos hz] at hres
    rw [← hres]
    generalize comV m [] = cv at *
    refine Holds.of_body' (fn := Try.f21) 51 0 [.tmp 6, .tmp 7, .tmp 8] Try.func21 rfl rfl rfl rfl rfl (by simp) ?_
    repeat' (first | ((first | ((first | refine rr ?_ | refine rre ?_ | refine rb ?_ | refine rbe ?_ | refine ra ?_ | refine rae ?_); intro K hK) | with_reducible refine gO ?_); simp (disch := omega) only [Ac, ↓Pc, ↓reduceIte, reduceCtorEq, reduceEqDiff, Nat.reduceBEq, reduceAdd, Nat.reduceLT, reduceLeDiff, reduceMul, reduceNeg, Int.reduceLT, reduceLE, reduceToNat]) | (first | refine callK_pure (hc) rfl rfl ?_ | refine callQ_pure (hc) rfl rfl ?_) | (refine hK _ ?_; clear hK K) | (with_reducible refine gS (fun hb' => ?_) (fun hb' => ?_) <;> (have hb := hb'; (try simp only [DEc, reduceCtorEq] at hb); simp (disch := omega) only [Ac, ↓Pc, ↓reduceIte, reduceCtorEq, reduceEqDiff, Nat.reduceBEq, reduceAdd, Nat.reduceLT, reduceLeDiff, reduceMul, reduceNeg, Int.reduceLT, reduceLE, reduceToNat, hb']; clear hb')) | (refine Wc (fun ht => ?_) (fun ht => ?_) <;> (try simp only [DEc, reduceCtorEq] at ht)) | refine Wz rfl ?_ | (refine Wb ?_; intro Qb hnb hxb heb) | (refine Wk ?_; intro Q hn he) | ((first | refine hn _ ?_ | refine he _ _ rfl ?_); clear hn he; try clear Q) | ((first | refine hnb _ ?_ | refine hxb _ ?_ | refine heb _ _ rfl ?_); clear hnb hxb heb; try clear Qb) | (refine hel _ _ rfl ?_; clear hnl hel; try clear Ql) | (simp only [Qc, Kc, ↓reduceIte, reduceEqDiff, Nat.reduceBEq]) | with_reducible refine And.intro ?_ ?_ | omega | with_reducible rfl)
    all_goals first | (exfalso; omega) | skip
    exact RetOK_sel [] true (by decide) trivial (by decide) (by decide) (tup3 ArgR.nil (.pure rfl) (.pure rfl))
  rw [if_neg (by omega)] at hres
  rw [hz] at hc
  obtain ⟨hm, hp⟩ := com_iff hz
  by_cases hs : steps < 0 ∨ 65536 < steps
  · rw [if_pos hs] at hres
    rw [← hres]
    refine Holds.of_body' (fn := Try.f21) 51 0 [.tmp 6, .tmp 7, .tmp 8] Try.func21 rfl rfl rfl rfl rfl (by simp) ?_
    repeat' (first | ((first | ((first | refine rr ?_ | refine rre ?_ | refine rb ?_ | refine rbe ?_ | refine ra ?_ | refine rae ?_); intro K hK) | with_reducible refine gO ?_); simp (disch := omega) only [Ac, ↓Pc, ↓reduceIte, reduceCtorEq, reduceEqDiff, Nat.reduceBEq, reduceAdd, Nat.reduceLT, reduceLeDiff, reduceMul, reduceNeg, Int.reduceLT, reduceLE, reduceToNat]) | (first | refine callK_pure (hc) rfl rfl ?_ | refine callQ_pure (hc) rfl rfl ?_) | (refine hK _ ?_; clear hK K) | (with_reducible refine gS (fun hb' => ?_) (fun hb' => ?_) <;> (have hb := hb'; (try simp only [DEc, reduceCtorEq] at hb); simp (disch := omega) only [Ac, ↓Pc, ↓reduceIte, reduceCtorEq, reduceEqDiff, Nat.reduceBEq, reduceAdd, Nat.reduceLT, reduceLeDiff, reduceMul, reduceNeg, Int.reduceLT, reduceLE, reduceToNat, hb']; clear hb')) | (refine Wc (fun ht => ?_) (fun ht => ?_) <;> (try simp only [DEc, reduceCtorEq] at ht)) | refine Wz rfl ?_ | (refine Wb ?_; intro Qb hnb hxb heb) | (refine Wk ?_; intro Q hn he) | ((first | refine hn _ ?_ | refine he _ _ rfl ?_); clear hn he; try clear Q) | ((first | refine hnb _ ?_ | refine hxb _ ?_ | refine heb _ _ rfl ?_); clear hnb hxb heb; try clear Qb) | (refine hel _ _ rfl ?_; clear hnl hel; try clear Ql) | (simp only [Qc, Kc, ↓reduceIte, reduceEqDiff, Nat.reduceBEq]) | with_reducible refine And.intro ?_ ?_ | omega | with_reducible rfl)
    all_goals first | (exfalso; omega) | exact RetOK_sel [] true (by decide) trivial (by decide) (by decide) (tup3 ArgR.nil (.pure rfl) (.pure rfl))
  rw [if_neg hs] at hres
  have hlen := hp.len
  have hc0 : m.cls = [] := List.eq_nil_of_length_eq_zero (by simpa using hlen.symm)
  have hb0 : bestV m [] = (scV m [], (0, 0), false) := by unfold bestV; rw [hc0]; rfl
  have hd0 : ∀ k, descL m k [] 0 = ([], 0) := fun k => by
    cases k with
    | zero => rfl
    | succ k => rw [descL, hb0, if_neg (by simp)]
  rw [hd0] at hres
  rw [← hres]
  have hbs := best_ok m [] hm hp
  rw [hb0] at hbs
  have hcl := cloneFInt_ok [] (by decide)
  refine Holds.of_body' (fn := Try.f21) 51 0 [.tmp 6, .tmp 7, .tmp 8] Try.func21 rfl rfl rfl rfl rfl (by simp) ?_
  repeat' (first | ((first | ((first | refine rr ?_ | refine rre ?_ | refine rb ?_ | refine rbe ?_ | refine ra ?_ | refine rae ?_); intro K hK) | with_reducible refine gO ?_); simp (disch := omega) only [Ac, ↓Pc, ↓reduceIte, reduceCtorEq, reduceEqDiff, Nat.reduceBEq, reduceAdd, Nat.reduceLT, reduceLeDiff, reduceMul, reduceNeg, Int.reduceLT, reduceLE, reduceToNat]) | (first | refine callK_pure (hc) rfl rfl ?_ | refine callQ_pure (hc) rfl rfl ?_) | (first | refine callK_pure (hcl) rfl rfl ?_ | refine callQ_pure (hcl) rfl rfl ?_) | (refine hK _ ?_; clear hK K) | (with_reducible refine gS (fun hb' => ?_) (fun hb' => ?_) <;> (have hb := hb'; (try simp only [DEc, reduceCtorEq] at hb); simp (disch := omega) only [Ac, ↓Pc, ↓reduceIte, reduceCtorEq, reduceEqDiff, Nat.reduceBEq, reduceAdd, Nat.reduceLT, reduceLeDiff, reduceMul, reduceNeg, Int.reduceLT, reduceLE, reduceToNat, hb']; clear hb')) | (refine Wc (fun ht => ?_) (fun ht => ?_) <;> (try simp only [DEc, reduceCtorEq] at ht)) | refine Wz rfl ?_ | (refine Wb ?_; intro Qb hnb hxb heb) | (refine Wk ?_; intro Q hn he) | ((first | refine hn _ ?_ | refine he _ _ rfl ?_); clear hn he; try clear Q) | ((first | refine hnb _ ?_ | refine hxb _ ?_ | refine heb _ _ rfl ?_); clear hnb hxb heb; try clear Qb) | (refine hel _ _ rfl ?_; clear hnl hel; try clear Ql) | (simp only [Qc, Kc, ↓reduceIte, reduceEqDiff, Nat.reduceBEq]) | with_reducible refine And.intro ?_ ?_ | omega | with_reducible rfl)
  all_goals try (exfalso; omega)
  refine W_loopS (fun z : Unit => (⟨slots [(2, .lit (.int .i64 steps)), (3, .ptr 0 0 0), (10, .tree 1 (ints [])), (28, .lit (.int .i64 steps)), (29, .lit (.int .i64 0))], [.var (eMdl m)]⟩ : St))
    (fun z => True) (fun z => 0) () trivial (by (refine Turns.slots _ _ rfl ?_; simp only [Tc, ↓reduceIte, reduceEqDiff, Nat.reduceBEq, reduceAdd]; try trivial)) ?_
  rintro ⟨⟩ - Ql hnl hel
  by_cases hk' : 0 < steps
  · repeat' (first | ((first | ((first | refine rr ?_ | refine rre ?_ | refine rb ?_ | refine rbe ?_ | refine ra ?_ | refine rae ?_); intro K hK) | with_reducible refine gO ?_); simp (disch := omega) only [Ac, ↓Pc, ↓reduceIte, reduceCtorEq, reduceEqDiff, Nat.reduceBEq, reduceAdd, Nat.reduceLT, reduceLeDiff, reduceMul, reduceNeg, Int.reduceLT, reduceLE, reduceToNat, eFd]) | (first | refine callK_pure (hbs) rfl rfl ?_ | refine callQ_pure (hbs) rfl rfl ?_) | (refine hK _ ?_; clear hK K) | (with_reducible refine gS (fun hb' => ?_) (fun hb' => ?_) <;> (have hb := hb'; (try simp only [DEc, reduceCtorEq] at hb); simp (disch := omega) only [Ac, ↓Pc, ↓reduceIte, reduceCtorEq, reduceEqDiff, Nat.reduceBEq, reduceAdd, Nat.reduceLT, reduceLeDiff, reduceMul, reduceNeg, Int.reduceLT, reduceLE, reduceToNat, eFd, hb']; clear hb')) | (refine Wc (fun ht => ?_) (fun ht => ?_) <;> (try simp only [DEc, reduceCtorEq] at ht)) | refine Wz rfl ?_ | (refine Wb ?_; intro Qb hnb hxb heb) | (refine Wk ?_; intro Q hn he) | ((first | refine hn _ ?_ | refine he _ _ rfl ?_); clear hn he; try clear Q) | ((first | refine hnb _ ?_ | refine hxb _ ?_ | refine heb _ _ rfl ?_); clear hnb hxb heb; try clear Qb) | (simp only [Qc, Kc, ↓reduceIte, reduceEqDiff, Nat.reduceBEq]) | with_reducible refine And.intro ?_ ?_ | omega | with_reducible rfl)
    repeat (first | ((first | refine hn _ ?_ | refine he _ _ rfl ?_); clear hn he; try clear Q) | ((first | refine hnb _ ?_ | refine hxb _ ?_ | refine heb _ _ rfl ?_); clear hnb hxb heb; try clear Qb) | (refine hel _ _ rfl ?_; clear hnl hel; try clear Ql) | (refine hel2 _ _ rfl ?_; clear hnl2 hel2; try clear Ql2) | (refine hel3 _ _ rfl ?_; clear hnl3 hel3; try clear Ql3) | (refine hel4 _ _ rfl ?_; clear hnl4 hel4; try clear Ql4))
    repeat' (first | ((first | ((first | refine rr ?_ | refine rre ?_); intro K hK) | with_reducible refine gO ?_); simp (disch := omega) only [Ac, ↓Pc, ↓reduceIte, reduceCtorEq, reduceEqDiff, Nat.reduceBEq, reduceAdd, Nat.reduceLT, reduceLeDiff, reduceMul, reduceNeg, Int.reduceLT, reduceLE, reduceToNat]) | (refine hK _ ?_; clear hK K) | (with_reducible refine gS (fun hb' => ?_) (fun hb' => ?_) <;> (have hb := hb'; (try simp only [DEc, reduceCtorEq] at hb); simp (disch := omega) only [Ac, ↓Pc, ↓reduceIte, reduceCtorEq, reduceEqDiff, Nat.reduceBEq, reduceAdd, Nat.reduceLT, reduceLeDiff, reduceMul, reduceNeg, Int.reduceLT, reduceLE, reduceToNat, hb']; clear hb')) | (refine Wc (fun ht => ?_) (fun ht => ?_) <;> (try simp only [DEc, reduceCtorEq] at ht)) | refine Wz rfl ?_ | (refine Wb ?_; intro Qb hnb hxb heb) | (refine Wk ?_; intro Q hn he) | ((first | refine hn _ ?_ | refine he _ _ rfl ?_); clear hn he; try clear Q) | ((first | refine hnb _ ?_ | refine hxb _ ?_ | refine heb _ _ rfl ?_); clear hnb hxb heb; try clear Qb) | (refine hel _ _ rfl ?_; clear hnl hel; try clear Ql) | (simp only [Qc, Kc, ↓reduceIte, reduceEqDiff, Nat.reduceBEq]) | with_reducible refine And.intro ?_ ?_ | omega | with_reducible rfl)
    exact RetOK_pure' rfl rfl
  · repeat' (first | ((first | ((first | refine rr ?_ | refine rre ?_); intro K hK) | with_reducible refine gO ?_); simp (disch := omega) only [Ac, ↓Pc, ↓reduceIte, reduceCtorEq, reduceEqDiff, Nat.reduceBEq, reduceAdd, Nat.reduceLT, reduceLeDiff, reduceMul, reduceNeg, Int.reduceLT, reduceLE, reduceToNat]) | (refine hK _ ?_; clear hK K) | (with_reducible refine gS (fun hb' => ?_) (fun hb' => ?_) <;> (have hb := hb'; (try simp only [DEc, reduceCtorEq] at hb); simp (disch := omega) only [Ac, ↓Pc, ↓reduceIte, reduceCtorEq, reduceEqDiff, Nat.reduceBEq, reduceAdd, Nat.reduceLT, reduceLeDiff, reduceMul, reduceNeg, Int.reduceLT, reduceLE, reduceToNat, hb']; clear hb')) | (refine Wc (fun ht => ?_) (fun ht => ?_) <;> (try simp only [DEc, reduceCtorEq] at ht)) | refine Wz rfl ?_ | (refine Wb ?_; intro Qb hnb hxb heb) | (refine Wk ?_; intro Q hn he) | ((first | refine hn _ ?_ | refine he _ _ rfl ?_); clear hn he; try clear Q) | ((first | refine hnb _ ?_ | refine hxb _ ?_ | refine heb _ _ rfl ?_); clear hnb hxb heb; try clear Qb) | (simp only [Qc, Kc, ↓reduceIte, reduceEqDiff, Nat.reduceBEq]) | with_reducible refine And.intro ?_ ?_ | omega | with_reducible rfl)
    obtain rfl : steps = 0 := by omega
    refine hel _ _ rfl ?_; clear hnl hel Ql
    repeat (first | ((first | refine hn _ ?_ | refine he _ _ rfl ?_); clear hn he; try clear Q) | ((first | refine hnb _ ?_ | refine hxb _ ?_ | refine heb _ _ rfl ?_); clear hnb hxb heb; try clear Qb) | (refine hel _ _ rfl ?_; clear hnl hel; try clear Ql))
    repeat' (first | ((first | ((first | refine rr ?_ | refine rre ?_); intro K hK) | with_reducible refine gO ?_); simp (disch := omega) only [Ac, ↓Pc, ↓reduceIte, reduceCtorEq, reduceEqDiff, Nat.reduceBEq, reduceAdd, Nat.reduceLT, reduceLeDiff, reduceMul, reduceNeg, Int.reduceLT, reduceLE, reduceToNat]) | (refine hK _ ?_; clear hK K) | (with_reducible refine gS (fun hb' => ?_) (fun hb' => ?_) <;> (have hb := hb'; (try simp only [DEc, reduceCtorEq] at hb); simp (disch := omega) only [Ac, ↓Pc, ↓reduceIte, reduceCtorEq, reduceEqDiff, Nat.reduceBEq, reduceAdd, Nat.reduceLT, reduceLeDiff, reduceMul, reduceNeg, Int.reduceLT, reduceLE, reduceToNat, hb']; clear hb')) | (refine Wc (fun ht => ?_) (fun ht => ?_) <;> (try simp only [DEc, reduceCtorEq] at ht)) | refine Wz rfl ?_ | (refine Wb ?_; intro Qb hnb hxb heb) | (refine Wk ?_; intro Q hn he) | ((first | refine hn _ ?_ | refine he _ _ rfl ?_); clear hn he; try clear Q) | ((first | refine hnb _ ?_ | refine hxb _ ?_ | refine heb _ _ rfl ?_); clear hnb hxb heb; try clear Qb) | (refine hel _ _ rfl ?_; clear hnl hel; try clear Ql) | (simp only [Qc, Kc, ↓reduceIte, reduceEqDiff, Nat.reduceBEq]) | with_reducible refine And.intro ?_ ?_ | omega | with_reducible rfl)
    exact RetOK_pure' rfl rfl
theorem desc_ok (m : Mdl) (plan : List Int) (steps : Int) (hb : MB m) (hpl : plan.length < 9223372036854775808) : Holds Try.prog 21 [.agg (eMdl m), .tree 1 (ints plan), .lit (.int .i64 steps)] [] (.tup [.tree 1 (ints (descV m plan steps).1), .lit (.int .i64 (descV m plan steps).2.1), .lit (.int .i64 (descV m plan steps).2.2)]) [] := by
  rcases Nat.eq_zero_or_pos plan.length with h | h
  · obtain rfl := List.eq_nil_of_length_eq_zero h
    exact descE_ok m steps hb
  · exact descF_ok m plan steps hb ⟨h, hpl⟩
end T

