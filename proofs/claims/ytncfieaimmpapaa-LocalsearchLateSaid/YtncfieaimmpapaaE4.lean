import Derived.Test.YtncfieaimmpapaaAmI
import Derived.Test.YtncfieaimmpapaaE3
set_option linter.unusedVariables false
set_option linter.unusedSimpArgs false
open Go Go.Am Go.Proofs
open Nat (reduceEqDiff reduceAdd reduceLeDiff reduceMul)
open Int (reduceNeg reduceLE reduceToNat)
set_option maxRecDepth 20000
namespace T
theorem EM.om {m : Mdl} {a b : Nat} (h : EM m a b) : OM m := h.vm.om
set_option maxHeartbeats 32000000 in
theorem some_ok (L : List Int) (k : Nat) (hk : k ≤ L.length) (hL : L.length < 1000000) :
    HoldsR Try.prog 14 [.ptr 0 0 0] [dice L k] (fun r os => ∃ m k', OM m ∧ k' ≤ L.length ∧ r = .agg (eMdl m) ∧ os = [dice L k']) := by
  have hn9 := next_ok L k 9 (by unfold In64; omega) hk hL
  have hnr := nextV_range (L := L) (k := k) (n := 9) (by omega)
  have hk2 := nextA_le hk
  generalize nextV L k 9 = v at *
  generalize nextA L k = k2 at *
  clear hk
  unfold dice
  refine HoldsR.of_body' (fn := Try.f14) 19 1 [.cell 2 31] Try.func14 rfl rfl rfl rfl rfl (by simp) ?_
  repeat' (first | ((first | ((first | refine rr ?_ | refine rre ?_); intro K hK) | with_reducible refine gO ?_); simp (disch := omega) only [Ac, ↓Pc, ↓reduceIte, reduceCtorEq, reduceEqDiff, Nat.reduceBEq, reduceAdd, Nat.reduceLT, reduceLeDiff, reduceMul, reduceNeg, Int.reduceLT, reduceLE, reduceToNat]) | (refine hK _ ?_; clear hK K) | (with_reducible refine gS (fun hb' => ?_) (fun hb' => ?_) <;> (have hb := hb'; (try simp only [DEc, reduceCtorEq] at hb); simp (disch := omega) only [Ac, ↓Pc, ↓reduceIte, reduceCtorEq, reduceEqDiff, Nat.reduceBEq, reduceAdd, Nat.reduceLT, reduceLeDiff, reduceMul, reduceNeg, Int.reduceLT, reduceLE, reduceToNat, hb']; clear hb')) | (refine Wc (fun ht => ?_) (fun ht => ?_) <;> (try simp only [DEc, reduceCtorEq] at ht)) | refine Wz rfl ?_ | (refine Wb ?_; intro Qb hnb hxb heb) | (refine Wk ?_; intro Q hn he) | ((first | refine hn _ ?_ | refine he _ _ rfl ?_); clear hn he; try clear Q) | ((first | refine hnb _ ?_ | refine hxb _ ?_ | refine heb _ _ rfl ?_); clear hnb hxb heb; try clear Qb) | (simp only [Qc, Kc, ↓reduceIte, reduceEqDiff, Nat.reduceBEq]) | with_reducible refine And.intro ?_ ?_ | omega | with_reducible rfl)
  (refine callK_sel [0] (hn9) (by decide) (by (repeat' (first | exact trivial | with_reducible refine And.intro ?_ ?_ | refine And.intro ?_ ?_)) <;> first | rfl | (rw [ints_ren]; rfl) | (rw [bools_ren]; rfl) | (rw [rows_ren]; rfl) | (rw [intss_ren]; rfl)) (by (repeat' (first | exact trivial | refine And.intro ?_ ?_)) <;> (first | exact .pure rfl | exact .eq rfl | exact .fz rfl (by simp only [Bc, Rc]))) ?_; simp (disch := omega) only [Ac, ↓Pc, ↓reduceIte, reduceCtorEq, reduceEqDiff, Nat.reduceBEq, reduceAdd, Nat.reduceLT, reduceLeDiff, reduceMul, reduceNeg, Int.reduceLT, reduceLE, reduceToNat])
  have hend : ∀ (env : Nat → AV) (m : Mdl) (k' : Nat), OM m → k' ≤ L.length → env 2 = .ptr 1 0 0 → retR Try.prog 1 [.cell 2 31] (fun r os => ∃ m k', OM m ∧ k' ≤ L.length ∧ r = .agg (eMdl m) ∧ os = [dice L k']) .ret ⟨env, [dice L k', .var (eMdl m)]⟩ := by
    intro env m k' hom hk' he2
    unfold retR dice
    simp only [resW, retV, he2]
    simp (disch := omega) only [Ac, ↓Pc, ↓reduceIte, reduceCtorEq, reduceEqDiff, Nat.reduceBEq, reduceAdd, Nat.reduceLT, reduceLeDiff, reduceMul, reduceNeg, Int.reduceLT, reduceLE, reduceToNat, he2]
    refine ⟨_, _, ⟨m, k', hom, hk', rfl, rfl⟩, ?_⟩
    (refine RetOK_se [0] true (by simp only [Oc, reduceCtorEq, reduceAdd, Nat.reduceLT, reduceLeDiff, reduceEqDiff, ↓reduceIte]) ?_; first | exact .pure rfl | exact .eq rfl | exact .fz rfl (by simp only [Bc, Rc]))
  repeat' (first | ((first | ((fail_if_success (first | refine W_at 3 ?_ | refine W_atE 3 ?_)); (fail_if_success (first | refine W_at 7 ?_ | refine W_atE 7 ?_)); (fail_if_success (first | refine W_at 8 ?_ | refine W_atE 8 ?_)); (first | refine rr ?_ | refine rre ?_); intro K hK) | with_reducible refine gO ?_); simp (disch := omega) only [Ac, ↓Pc, ↓reduceIte, reduceCtorEq, reduceEqDiff, Nat.reduceBEq, reduceAdd, Nat.reduceLT, reduceLeDiff, reduceMul, reduceNeg, Int.reduceLT, reduceLE, reduceToNat]) | (refine hK _ ?_; clear hK K) | (with_reducible refine gS (fun hb' => ?_) (fun hb' => ?_) <;> (have hb := hb'; (try simp only [DEc, reduceCtorEq] at hb); simp (disch := omega) only [Ac, ↓Pc, ↓reduceIte, reduceCtorEq, reduceEqDiff, Nat.reduceBEq, reduceAdd, Nat.reduceLT, reduceLeDiff, reduceMul, reduceNeg, Int.reduceLT, reduceLE, reduceToNat, hb']; clear hb')) | (refine Wc (fun ht => ?_) (fun ht => ?_) <;> (try simp only [DEc, reduceCtorEq] at ht)) | refine Wz rfl ?_ | (refine Wb ?_; intro Qb hnb hxb heb) | (refine Wk ?_; intro Q hn he) | ((first | refine hn _ ?_ | refine he _ _ rfl ?_); clear hn he; try clear Q) | ((first | refine hnb _ ?_ | refine hxb _ ?_ | refine heb _ _ rfl ?_); clear hnb hxb heb; try clear Qb) | (simp only [Qc, Kc, ↓reduceIte, reduceEqDiff, Nat.reduceBEq]) | with_reducible refine And.intro ?_ ?_ | omega | with_reducible rfl)
  · have hmod := model_ok L k2 4 4 hk2 hL (by decide) (by decide) (by decide)
    unfold dice at hmod
    refine W_region_cce 2 0 (by decide) _ _ rfl rfl ?_
    intro K hK
    simp (disch := omega) only [Ac, ↓Pc, ↓reduceIte, reduceCtorEq, reduceEqDiff, Nat.reduceBEq, reduceAdd, Nat.reduceLT, reduceLeDiff, reduceMul, reduceNeg, Int.reduceLT, reduceLE, reduceToNat, List.take, List.drop]
    refine ⟨rfl, (show callKR Try.prog 24 [.ptr 0 0 0, .lit (.int .i64 (4 : Nat)), .lit (.int .i64 (4 : Nat))] (some 9) _ _ from ?_)⟩
    refine callKR_sel [0] hmod (by decide) ⟨rfl, trivial⟩ ⟨.eq rfl, .pure rfl, .pure rfl, trivial⟩ ?_
    rintro r os ⟨m, k, hm, hk, rfl, rfl⟩
    have hodd := odd_ok L k m hm.vm hk hL
    unfold dice at hodd
    simp (disch := omega) only [Ac, ↓Pc, ↓reduceIte, reduceCtorEq, reduceEqDiff, Nat.reduceBEq, reduceAdd, Nat.reduceLT, reduceLeDiff, reduceMul, reduceNeg, Int.reduceLT, reduceLE, reduceToNat]
    refine ⟨rfl, (show callKR Try.prog 34 [.ptr 0 0 0, .agg (eMdl m)] (some 10) _ _ from ?_)⟩
    refine callKR_sel [0] hodd (by decide) ⟨rfl, trivial⟩ ⟨.eq rfl, .pure rfl, trivial⟩ ?_
    rintro r os ⟨m, k, hm, hk, rfl, rfl⟩
    simp (disch := omega) only [Ac, ↓Pc, ↓reduceIte, reduceCtorEq, reduceEqDiff, Nat.reduceBEq, reduceAdd, Nat.reduceLT, reduceLeDiff, reduceMul, reduceNeg, Int.reduceLT, reduceLE, reduceToNat]
    refine hK _ ?_; clear hK K
    repeat' (first | ((first | ((first | refine rr ?_ | refine rre ?_); intro K hK) | with_reducible refine gO ?_); simp (disch := omega) only [Ac, ↓Pc, ↓reduceIte, reduceCtorEq, reduceEqDiff, Nat.reduceBEq, reduceAdd, Nat.reduceLT, reduceLeDiff, reduceMul, reduceNeg, Int.reduceLT, reduceLE, reduceToNat]) | (refine hK _ ?_; clear hK K) | (with_reducible refine gS (fun hb' => ?_) (fun hb' => ?_) <;> (have hb := hb'; (try simp only [DEc, reduceCtorEq] at hb); simp (disch := omega) only [Ac, ↓Pc, ↓reduceIte, reduceCtorEq, reduceEqDiff, Nat.reduceBEq, reduceAdd, Nat.reduceLT, reduceLeDiff, reduceMul, reduceNeg, Int.reduceLT, reduceLE, reduceToNat, hb']; clear hb')) | (refine Wc (fun ht => ?_) (fun ht => ?_) <;> (try simp only [DEc, reduceCtorEq] at ht)) | refine Wz rfl ?_ | (refine Wb ?_; intro Qb hnb hxb heb) | (refine Wk ?_; intro Q hn he) | ((first | refine hn _ ?_ | refine he _ _ rfl ?_); clear hn he; try clear Q) | ((first | refine hnb _ ?_ | refine hxb _ ?_ | refine heb _ _ rfl ?_); clear hnb hxb heb; try clear Qb) | (simp only [Qc, Kc, ↓reduceIte, reduceEqDiff, Nat.reduceBEq]) | with_reducible refine And.intro ?_ ?_ | omega | with_reducible rfl)
    exact hend _ m k hm hk (by simp only [Kc, ↓reduceIte, reduceEqDiff, Nat.reduceBEq])
  iterate 3
    · have heven := even_ok L k2 5 2 hk2 hL (by decide) (by decide)
      unfold dice at heven
      refine W_region_ce 1 (by decide) _ rfl ?_
      intro K hK
      simp (disch := omega) only [Ac, ↓Pc, ↓reduceIte, reduceCtorEq, reduceEqDiff, Nat.reduceBEq, reduceAdd, Nat.reduceLT, reduceLeDiff, reduceMul, reduceNeg, Int.reduceLT, reduceLE, reduceToNat, List.take, List.drop]
      refine ⟨rfl, (show callKR Try.prog 28 [.ptr 0 0 0, .lit (.int .i64 (5 : Nat)), .lit (.int .i64 (2 : Nat))] (some 16) _ _ from ?_)⟩
      refine callKR_sel [0] heven (by decide) ⟨rfl, trivial⟩ ⟨.eq rfl, .pure rfl, .pure rfl, trivial⟩ ?_
      rintro r os ⟨m, k, hm, hk, rfl, rfl⟩
      simp (disch := omega) only [Ac, ↓Pc, ↓reduceIte, reduceCtorEq, reduceEqDiff, Nat.reduceBEq, reduceAdd, Nat.reduceLT, reduceLeDiff, reduceMul, reduceNeg, Int.reduceLT, reduceLE, reduceToNat]
      refine hK _ ?_; clear hK K
      repeat' (first | ((first | ((first | refine rr ?_ | refine rre ?_); intro K hK) | with_reducible refine gO ?_); simp (disch := omega) only [Ac, ↓Pc, ↓reduceIte, reduceCtorEq, reduceEqDiff, Nat.reduceBEq, reduceAdd, Nat.reduceLT, reduceLeDiff, reduceMul, reduceNeg, Int.reduceLT, reduceLE, reduceToNat]) | (refine hK _ ?_; clear hK K) | (with_reducible refine gS (fun hb' => ?_) (fun hb' => ?_) <;> (have hb := hb'; (try simp only [DEc, reduceCtorEq] at hb); simp (disch := omega) only [Ac, ↓Pc, ↓reduceIte, reduceCtorEq, reduceEqDiff, Nat.reduceBEq, reduceAdd, Nat.reduceLT, reduceLeDiff, reduceMul, reduceNeg, Int.reduceLT, reduceLE, reduceToNat, hb']; clear hb')) | (refine Wc (fun ht => ?_) (fun ht => ?_) <;> (try simp only [DEc, reduceCtorEq] at ht)) | refine Wz rfl ?_ | (refine Wb ?_; intro Qb hnb hxb heb) | (refine Wk ?_; intro Q hn he) | ((first | refine hn _ ?_ | refine he _ _ rfl ?_); clear hn he; try clear Q) | ((first | refine hnb _ ?_ | refine hxb _ ?_ | refine heb _ _ rfl ?_); clear hnb hxb heb; try clear Qb) | (simp only [Qc, Kc, ↓reduceIte, reduceEqDiff, Nat.reduceBEq]) | with_reducible refine And.intro ?_ ?_ | omega | with_reducible rfl)
      exact hend _ m k hm.om hk (by simp only [Kc, ↓reduceIte, reduceEqDiff, Nat.reduceBEq])
  · have hmod := model_ok L k2 5 4 hk2 hL (by decide) (by decide) (by decide)
    unfold dice at hmod
    refine W_region_ce 1 (by decide) _ rfl ?_
    intro K hK
    simp (disch := omega) only [Ac, ↓Pc, ↓reduceIte, reduceCtorEq, reduceEqDiff, Nat.reduceBEq, reduceAdd, Nat.reduceLT, reduceLeDiff, reduceMul, reduceNeg, Int.reduceLT, reduceLE, reduceToNat, List.take, List.drop]
    refine ⟨rfl, (show callKR Try.prog 24 [.ptr 0 0 0, .lit (.int .i64 (5 : Nat)), .lit (.int .i64 (4 : Nat))] (some 18) _ _ from ?_)⟩
    refine callKR_sel [0] hmod (by decide) ⟨rfl, trivial⟩ ⟨.eq rfl, .pure rfl, .pure rfl, trivial⟩ ?_
    rintro r os ⟨m, k, hm, hk, rfl, rfl⟩
    simp (disch := omega) only [Ac, ↓Pc, ↓reduceIte, reduceCtorEq, reduceEqDiff, Nat.reduceBEq, reduceAdd, Nat.reduceLT, reduceLeDiff, reduceMul, reduceNeg, Int.reduceLT, reduceLE, reduceToNat]
    refine hK _ ?_; clear hK K
    repeat' (first | ((first | ((first | refine rr ?_ | refine rre ?_); intro K hK) | with_reducible refine gO ?_); simp (disch := omega) only [Ac, ↓Pc, ↓reduceIte, reduceCtorEq, reduceEqDiff, Nat.reduceBEq, reduceAdd, Nat.reduceLT, reduceLeDiff, reduceMul, reduceNeg, Int.reduceLT, reduceLE, reduceToNat]) | (refine hK _ ?_; clear hK K) | (with_reducible refine gS (fun hb' => ?_) (fun hb' => ?_) <;> (have hb := hb'; (try simp only [DEc, reduceCtorEq] at hb); simp (disch := omega) only [Ac, ↓Pc, ↓reduceIte, reduceCtorEq, reduceEqDiff, Nat.reduceBEq, reduceAdd, Nat.reduceLT, reduceLeDiff, reduceMul, reduceNeg, Int.reduceLT, reduceLE, reduceToNat, hb']; clear hb')) | (refine Wc (fun ht => ?_) (fun ht => ?_) <;> (try simp only [DEc, reduceCtorEq] at ht)) | refine Wz rfl ?_ | (refine Wb ?_; intro Qb hnb hxb heb) | (refine Wk ?_; intro Q hn he) | ((first | refine hn _ ?_ | refine he _ _ rfl ?_); clear hn he; try clear Q) | ((first | refine hnb _ ?_ | refine hxb _ ?_ | refine heb _ _ rfl ?_); clear hnb hxb heb; try clear Qb) | (simp only [Qc, Kc, ↓reduceIte, reduceEqDiff, Nat.reduceBEq]) | with_reducible refine And.intro ?_ ?_ | omega | with_reducible rfl)
    exact hend _ m k hm.vm.om hk (by simp only [Kc, ↓reduceIte, reduceEqDiff, Nat.reduceBEq])
end T

