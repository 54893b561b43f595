import Derived.Test.YtncfieaimmpapaaL23
import Derived.Test.YtncfieaimmpapaaL11
set_option linter.unusedVariables false
set_option linter.unusedSimpArgs false
open Go Go.Am Go.Proofs
open Nat (reduceEqDiff reduceAdd reduceLeDiff reduceMul)
open Int (reduceNeg reduceLE reduceToNat)
set_option maxRecDepth 20000
namespace T
theorem refNext_ok (x : Int) (hx : 0 ≤ x ∧ x < 2147483648) : Holds Try.prog 60 [.lit (.int .i64 x)] [] (.lit (.int .i64 (gN x))) [] := by
  have hgx : gN x = (1103515245 * x + 12345) % 2147483648 := rfl
  refine Holds.of_body' (fn := Try.f60) 7 0 [.tmp 2] Try.func60 rfl rfl rfl rfl rfl (by simp) ?_
  repeat' (first | ((first | ((first | refine rr ?_ | refine rre ?_); intro K hK) | with_reducible refine gO ?_); simp (disch := omega) only [Ac, ↓Pc, ↓reduceIte, reduceCtorEq, reduceEqDiff, Nat.reduceBEq, reduceAdd, Nat.reduceLT, reduceLeDiff, reduceMul, reduceNeg, Int.reduceLT, reduceLE, reduceToNat, tmodE]) | (refine hK _ ?_; clear hK K) | (with_reducible refine gS (fun hb' => ?_) (fun hb' => ?_) <;> (have hb := hb'; (try simp only [DEc, reduceCtorEq] at hb); simp (disch := omega) only [Ac, ↓Pc, ↓reduceIte, reduceCtorEq, reduceEqDiff, Nat.reduceBEq, reduceAdd, Nat.reduceLT, reduceLeDiff, reduceMul, reduceNeg, Int.reduceLT, reduceLE, reduceToNat, tmodE, hb']; clear hb')) | (refine Wc (fun ht => ?_) (fun ht => ?_) <;> (try simp only [DEc, reduceCtorEq] at ht)) | refine Wz rfl ?_ | (refine Wb ?_; intro Qb hnb hxb heb) | (refine Wk ?_; intro Q hn he) | ((first | refine hn _ ?_ | refine he _ _ rfl ?_); clear hn he; try clear Q) | ((first | refine hnb _ ?_ | refine hxb _ ?_ | refine heb _ _ rfl ?_); clear hnb hxb heb; try clear Qb) | (refine hel _ _ rfl ?_; clear hnl hel; try clear Ql) | (simp only [Qc, Kc, ↓reduceIte, reduceEqDiff, Nat.reduceBEq]) | with_reducible refine And.intro ?_ ?_ | omega | with_reducible rfl)
  exact RetOK_pure' rfl (by rw [hgx])
theorem repS_set {n i : Nat} {s : SC} (h : i < n) : (repS n i s).set i s = repS n (i + 1) s := by
  unfold repS
  rw [List.set_append_right _ _ (by simp)]
  obtain ⟨r, hr⟩ : ∃ r, n - i = r + 1 := ⟨n - i - 1, by omega⟩
  have hr2 : n - (i + 1) = r := by omega
  rw [hr, hr2, List.length_replicate, Nat.sub_self, List.replicate_succ (n := r), List.set_cons_zero, List.replicate_succ' (n := i), List.append_assoc]
  rfl
set_option maxHeartbeats 8000000 in
theorem refLate_ok (m : Mdl) (plan : List Int) (seed len steps : Int) (hb : MB m) (hpl : plan.length < 9223372036854775808) :
    Holds Try.prog 31 [.agg (eMdl m), .tree 1 (ints plan), .lit (.int .i64 seed), .lit (.int .i64 len), .lit (.int .i64 steps)] [] (.tup [.tree 1 (ints (lateV m plan seed len steps).1), .lit (.int .i64 (lateV m plan seed len steps).2)]) [] := by
  generalize hres : lateV m plan seed len steps = res
  unfold lateV at hres
  have hmb := hb
  have hc := refOf_ok m plan hb hpl
  unfold ofV at hc
  by_cases hz : comV m plan = 0
  rotate_left
  · rw [if_pos hz] at hres
    rw [if_neg hz] at hc
    rw [← hres]
    generalize comV m plan = cv at *
    refine Holds.of_body' (fn := Try.f31) 138 0 [.tmp 10, .tmp 11] Try.func31 rfl rfl rfl rfl rfl (by simp) ?_
    repeat' (first | ((first | ((first | refine rr ?_ | refine rre ?_ | refine rb ?_ | refine rbe ?_ | refine ra ?_ | refine rae ?_); intro K hK) | with_reducible refine gO ?_); simp (disch := omega) only [Ac, ↓Pc, ↓reduceIte, reduceCtorEq, reduceEqDiff, Nat.reduceBEq, reduceAdd, Nat.reduceLT, reduceLeDiff, reduceMul, reduceNeg, Int.reduceLT, reduceLE, reduceToNat, eSc]) | (first | refine callK_pure (hc) rfl rfl ?_ | refine callQ_pure (hc) rfl rfl ?_) | (refine hK _ ?_; clear hK K) | (with_reducible refine gS (fun hb' => ?_) (fun hb' => ?_) <;> (have hb := hb'; (try simp only [DEc, reduceCtorEq] at hb); simp (disch := omega) only [Ac, ↓Pc, ↓reduceIte, reduceCtorEq, reduceEqDiff, Nat.reduceBEq, reduceAdd, Nat.reduceLT, reduceLeDiff, reduceMul, reduceNeg, Int.reduceLT, reduceLE, reduceToNat, eSc, hb']; clear hb')) | (refine Wc (fun ht => ?_) (fun ht => ?_) <;> (try simp only [DEc, reduceCtorEq] at ht)) | refine Wz rfl ?_ | (refine Wb ?_; intro Qb hnb hxb heb) | (refine Wk ?_; intro Q hn he) | ((first | refine hn _ ?_ | refine he _ _ rfl ?_); clear hn he; try clear Q) | ((first | refine hnb _ ?_ | refine hxb _ ?_ | refine heb _ _ rfl ?_); clear hnb hxb heb; try clear Qb) | (refine hel _ _ rfl ?_; clear hnl hel; try clear Ql) | (simp only [Qc, Kc, ↓reduceIte, reduceEqDiff, Nat.reduceBEq]) | with_reducible refine And.intro ?_ ?_ | omega | with_reducible rfl)
    all_goals first | (exfalso; omega) | skip
    exact RetOK_sel [] true (by decide) trivial (by decide) (by decide) (tup2b ArgR.nil (.pure rfl))
  rw [if_neg (by omega)] at hres
  rw [if_pos hz, hz] at hc
  obtain ⟨hm, hp⟩ := com_iff hz
  have hm1 := hm.cls
  have hlen := hp.len
  by_cases h0 : plan.length = 0
  · rw [if_pos h0] at hres
    rw [← hres]
    refine Holds.of_body' (fn := Try.f31) 138 0 [.tmp 10, .tmp 11] Try.func31 rfl rfl rfl rfl rfl (by simp) ?_
    repeat' (first | ((first | ((first | refine rr ?_ | refine rre ?_ | refine rb ?_ | refine rbe ?_ | refine ra ?_ | refine rae ?_); intro K hK) | with_reducible refine gO ?_); simp (disch := omega) only [Ac, ↓Pc, ↓reduceIte, reduceCtorEq, reduceEqDiff, Nat.reduceBEq, reduceAdd, Nat.reduceLT, reduceLeDiff, reduceMul, reduceNeg, Int.reduceLT, reduceLE, reduceToNat, eSc]) | (first | refine callK_pure (hc) rfl rfl ?_ | refine callQ_pure (hc) rfl rfl ?_) | (refine hK _ ?_; clear hK K) | (with_reducible refine gS (fun hb' => ?_) (fun hb' => ?_) <;> (have hb := hb'; (try simp only [DEc, reduceCtorEq] at hb); simp (disch := omega) only [Ac, ↓Pc, ↓reduceIte, reduceCtorEq, reduceEqDiff, Nat.reduceBEq, reduceAdd, Nat.reduceLT, reduceLeDiff, reduceMul, reduceNeg, Int.reduceLT, reduceLE, reduceToNat, eSc, hb']; clear hb')) | (refine Wc (fun ht => ?_) (fun ht => ?_) <;> (try simp only [DEc, reduceCtorEq] at ht)) | refine Wz rfl ?_ | (refine Wb ?_; intro Qb hnb hxb heb) | (refine Wk ?_; intro Q hn he) | ((first | refine hn _ ?_ | refine he _ _ rfl ?_); clear hn he; try clear Q) | ((first | refine hnb _ ?_ | refine hxb _ ?_ | refine heb _ _ rfl ?_); clear hnb hxb heb; try clear Qb) | (refine hel _ _ rfl ?_; clear hnl hel; try clear Ql) | (simp only [Qc, Kc, ↓reduceIte, reduceEqDiff, Nat.reduceBEq]) | with_reducible refine And.intro ?_ ?_ | omega | with_reducible rfl)
    all_goals first | (exfalso; omega) | skip
    exact RetOK_sel [] true (by decide) trivial (by decide) (by decide) (tup2b ArgR.nil (.pure rfl))
  rw [if_neg h0] at hres
  by_cases hs : seed < 0 ∨ seed ≥ 2147483648 ∨ len < 1 ∨ len > 64 ∨ steps < 0 ∨ steps > 65536
  · rw [if_pos hs] at hres
    rw [← hres]
    refine Holds.of_body' (fn := Try.f31) 138 0 [.tmp 10, .tmp 11] Try.func31 rfl rfl rfl rfl rfl (by simp) ?_
    repeat' (first | ((first | ((first | refine rr ?_ | refine rre ?_ | refine rb ?_ | refine rbe ?_ | refine ra ?_ | refine rae ?_); intro K hK) | with_reducible refine gO ?_); simp (disch := omega) only [Ac, ↓Pc, ↓reduceIte, reduceCtorEq, reduceEqDiff, Nat.reduceBEq, reduceAdd, Nat.reduceLT, reduceLeDiff, reduceMul, reduceNeg, Int.reduceLT, reduceLE, reduceToNat, eSc]) | (first | refine callK_pure (hc) rfl rfl ?_ | refine callQ_pure (hc) rfl rfl ?_) | (refine hK _ ?_; clear hK K) | (with_reducible refine gS (fun hb' => ?_) (fun hb' => ?_) <;> (have hb := hb'; (try simp only [DEc, reduceCtorEq] at hb); simp (disch := omega) only [Ac, ↓Pc, ↓reduceIte, reduceCtorEq, reduceEqDiff, Nat.reduceBEq, reduceAdd, Nat.reduceLT, reduceLeDiff, reduceMul, reduceNeg, Int.reduceLT, reduceLE, reduceToNat, eSc, hb']; clear hb')) | (refine Wc (fun ht => ?_) (fun ht => ?_) <;> (try simp only [DEc, reduceCtorEq] at ht)) | refine Wz rfl ?_ | (refine Wb ?_; intro Qb hnb hxb heb) | (refine Wk ?_; intro Q hn he) | ((first | refine hn _ ?_ | refine he _ _ rfl ?_); clear hn he; try clear Q) | ((first | refine hnb _ ?_ | refine hxb _ ?_ | refine heb _ _ rfl ?_); clear hnb hxb heb; try clear Qb) | (refine hel _ _ rfl ?_; clear hnl hel; try clear Ql) | (simp only [Qc, Kc, ↓reduceIte, reduceEqDiff, Nat.reduceBEq]) | with_reducible refine And.intro ?_ ?_ | omega | with_reducible rfl)
    all_goals first | (exfalso; omega) | exact RetOK_sel [] true (by decide) trivial (by decide) (by decide) (tup2b ArgR.nil (.pure rfl))
  rw [if_neg hs] at hres
  obtain ⟨N, rfl⟩ : ∃ N : Nat, len = N := ⟨len.toNat, by omega⟩
  obtain ⟨J, rfl⟩ : ∃ J : Nat, steps = J := ⟨steps.toNat, by omega⟩
  have hi0 := la0_ok hp (seed := seed) (by omega) N
  rw [Int.toNat_natCast, Int.toNat_natCast] at hres
  generalize hl0 : la0 m plan seed N = s0 at *
  have hl0' := hl0
  unfold la0 at hl0'
  generalize scV m plan = S at *
  refine Holds.of_body' (fn := Try.f31) 138 0 [.tmp 10, .tmp 11] Try.func31 rfl rfl rfl rfl rfl (by simp) ?_
  repeat' (first | ((first | ((fail_if_success (first | refine W_at 8 ?_ | refine W_atE 8 ?_)); (first | refine rr ?_ | refine rre ?_ | refine rb ?_ | refine rbe ?_ | refine ra ?_ | refine rae ?_); intro K hK) | with_reducible refine gO ?_); simp (disch := omega) only [Ac, ↓Pc, ↓reduceIte, reduceCtorEq, reduceEqDiff, Nat.reduceBEq, reduceAdd, Nat.reduceLT, reduceLeDiff, reduceMul, reduceNeg, Int.reduceLT, reduceLE, reduceToNat, eSc]) | (first | refine callK_pure (hc) rfl rfl ?_ | refine callQ_pure (hc) rfl rfl ?_) | (refine hK _ ?_; clear hK K) | (with_reducible refine gS (fun hb' => ?_) (fun hb' => ?_) <;> (have hb := hb'; (try simp only [DEc, reduceCtorEq] at hb); simp (disch := omega) only [Ac, ↓Pc, ↓reduceIte, reduceCtorEq, reduceEqDiff, Nat.reduceBEq, reduceAdd, Nat.reduceLT, reduceLeDiff, reduceMul, reduceNeg, Int.reduceLT, reduceLE, reduceToNat, eSc, hb']; clear hb')) | (refine Wc (fun ht => ?_) (fun ht => ?_) <;> (try simp only [DEc, reduceCtorEq] at ht)) | refine Wz rfl ?_ | (refine Wb ?_; intro Qb hnb hxb heb) | (refine Wk ?_; intro Q hn he) | ((first | refine hn _ ?_ | refine he _ _ rfl ?_); clear hn he; try clear Q) | ((first | refine hnb _ ?_ | refine hxb _ ?_ | refine heb _ _ rfl ?_); clear hnb hxb heb; try clear Qb) | (refine hel _ _ rfl ?_; clear hnl hel; try clear Ql) | (simp only [Qc, Kc, ↓reduceIte, reduceEqDiff, Nat.reduceBEq]) | with_reducible refine And.intro ?_ ?_ | omega | with_reducible rfl)
  all_goals try (exfalso; omega)
  repeat' (first | ((first | ((first | refine rr ?_ | refine rre ?_); intro K hK) | with_reducible refine gO ?_); simp (disch := omega) only [Ac, ↓Pc, ↓reduceIte, reduceCtorEq, reduceEqDiff, Nat.reduceBEq, reduceAdd, Nat.reduceLT, reduceLeDiff, reduceMul, reduceNeg, Int.reduceLT, reduceLE, reduceToNat, eSc]) | (refine hK _ ?_; clear hK K) | (with_reducible refine gS (fun hb' => ?_) (fun hb' => ?_) <;> (have hb := hb'; (try simp only [DEc, reduceCtorEq] at hb); simp (disch := omega) only [Ac, ↓Pc, ↓reduceIte, reduceCtorEq, reduceEqDiff, Nat.reduceBEq, reduceAdd, Nat.reduceLT, reduceLeDiff, reduceMul, reduceNeg, Int.reduceLT, reduceLE, reduceToNat, eSc, hb']; clear hb')) | (refine Wc (fun ht => ?_) (fun ht => ?_) <;> (try simp only [DEc, reduceCtorEq] at ht)) | refine Wz rfl ?_ | (refine Wb ?_; intro Qb hnb hxb heb) | (refine Wk ?_; intro Q hn he) | ((first | refine hn _ ?_ | refine he _ _ rfl ?_); clear hn he; try clear Q) | ((first | refine hnb _ ?_ | refine hxb _ ?_ | refine heb _ _ rfl ?_); clear hnb hxb heb; try clear Qb) | (simp only [Qc, Kc, ↓reduceIte, reduceEqDiff, Nat.reduceBEq]) | with_reducible refine And.intro ?_ ?_ | omega | with_reducible rfl)
  have e0 : List.replicate N [AV.lit (Value.int IntKind.i64 0), AV.lit (Value.int IntKind.i64 0)] = rowsOf eSc (repS N 0 S) := by
    unfold repS rowsOf; simp [eSc]
  rw [e0]
  refine W_loopS (fun i : Nat => (⟨slots [(1, .tree 1 (ints plan)), (2, .lit (.int .i64 seed)), (3, .lit (.int .i64 (N : Nat))), (4, .lit (.int .i64 (J : Nat))), (5, .ptr 0 0 0), (12, .ptr 1 0 0), (14, .ref 2 2 0 N), (15, .lit (.int .i64 i))], [.var (eMdl m), .var (eSc S), .arr 2 (rowsOf eSc (repS N i S))]⟩ : St)) (fun i => i ≤ N) (fun i => N - i) 0 (Nat.zero_le _) (by first | ((refine Turns.slots _ _ rfl ?_; simp only [Tc, ↓reduceIte, reduceEqDiff, Nat.reduceBEq, reduceAdd, eSc]; try trivial); done) | ((refine Turns.se [0, 1, 2] false (by simp only [Oc, reduceCtorEq, reduceAdd, Nat.reduceLT, reduceLeDiff, reduceEqDiff, ↓reduceIte, eSc]) ?_; simp only [Hr, ↓reduceIte, reduceEqDiff, Nat.reduceBEq, reduceAdd, eSc]; try (and_intros <;> first | exact .pure rfl | exact .eq rfl | exact .fz rfl (by simp only [Bc, Rc]))); done)) ?_
  · rintro i hi Ql hnl hel
    by_cases hi' : i < N
    · have hrl := repS_len (s := S) hi
      have hlr := rows_get (enc := eSc) (repS N i S) i (by omega)
      have hst := repS_set (s := S) hi'
      have e := rows_set (enc := eSc) (repS N i S) i S
      rw [hst] at e
      simp only [eSc] at e
      repeat' (first | ((first | ((first | refine rr ?_ | refine rre ?_); intro K hK) | with_reducible refine gO ?_); simp (disch := omega) only [Ac, ↓Pc, ↓reduceIte, reduceCtorEq, reduceEqDiff, Nat.reduceBEq, reduceAdd, Nat.reduceLT, reduceLeDiff, reduceMul, reduceNeg, Int.reduceLT, reduceLE, reduceToNat, eSc, rows_length, hrl]) | (refine hK _ ?_; clear hK K) | (with_reducible refine gS (fun hb' => ?_) (fun hb' => ?_) <;> (have hb := hb'; (try simp only [DEc, reduceCtorEq] at hb); simp (disch := omega) only [Ac, ↓Pc, ↓reduceIte, reduceCtorEq, reduceEqDiff, Nat.reduceBEq, reduceAdd, Nat.reduceLT, reduceLeDiff, reduceMul, reduceNeg, Int.reduceLT, reduceLE, reduceToNat, eSc, rows_length, hrl, hb']; clear hb')) | (refine Wc (fun ht => ?_) (fun ht => ?_) <;> (try simp only [DEc, reduceCtorEq] at ht)) | refine Wz rfl ?_ | (refine Wb ?_; intro Qb hnb hxb heb) | (refine Wk ?_; intro Q hn he) | ((first | refine hn _ ?_ | refine he _ _ rfl ?_); clear hn he; try clear Q) | ((first | refine hnb _ ?_ | refine hxb _ ?_ | refine heb _ _ rfl ?_); clear hnb hxb heb; try clear Qb) | (simp only [Qc, Kc, ↓reduceIte, reduceEqDiff, Nat.reduceBEq]) | with_reducible refine And.intro ?_ ?_ | omega | with_reducible rfl)
      rw [e]
      exact hnl _ (i + 1) (by omega) (by omega) (by (refine Turns.slots _ _ rfl ?_; simp only [Tc, ↓reduceIte, reduceEqDiff, Nat.reduceBEq, reduceAdd, eSc]; try trivial))
    · obtain rfl : N = i := by omega
      repeat' (first | ((first | ((first | refine rr ?_ | refine rre ?_); intro K hK) | with_reducible refine gO ?_); simp (disch := omega) only [Ac, ↓Pc, ↓reduceIte, reduceCtorEq, reduceEqDiff, Nat.reduceBEq, reduceAdd, Nat.reduceLT, reduceLeDiff, reduceMul, reduceNeg, Int.reduceLT, reduceLE, reduceToNat]) | (refine hK _ ?_; clear hK K) | (with_reducible refine gS (fun hb' => ?_) (fun hb' => ?_) <;> (have hb := hb'; (try simp only [DEc, reduceCtorEq] at hb); simp (disch := omega) only [Ac, ↓Pc, ↓reduceIte, reduceCtorEq, reduceEqDiff, Nat.reduceBEq, reduceAdd, Nat.reduceLT, reduceLeDiff, reduceMul, reduceNeg, Int.reduceLT, reduceLE, reduceToNat, hb']; clear hb')) | (refine Wc (fun ht => ?_) (fun ht => ?_) <;> (try simp only [DEc, reduceCtorEq] at ht)) | refine Wz rfl ?_ | (refine Wb ?_; intro Qb hnb hxb heb) | (refine Wk ?_; intro Q hn he) | ((first | refine hn _ ?_ | refine he _ _ rfl ?_); clear hn he; try clear Q) | ((first | refine hnb _ ?_ | refine hxb _ ?_ | refine heb _ _ rfl ?_); clear hnb hxb heb; try clear Qb) | (simp only [Qc, Kc, ↓reduceIte, reduceEqDiff, Nat.reduceBEq]) | with_reducible refine And.intro ?_ ?_ | omega | with_reducible rfl)
      refine hel _ _ rfl ?_; clear hnl hel Ql
      repeat (first | ((first | refine hn _ ?_ | refine he _ _ rfl ?_); clear hn he; try clear Q) | ((first | refine hnb _ ?_ | refine hxb _ ?_ | refine heb _ _ rfl ?_); clear hnb hxb heb; try clear Qb) | (refine hel _ _ rfl ?_; clear hnl hel; try clear Ql))
      repeat' (first | ((first | ((first | refine rr ?_ | refine rre ?_); intro K hK) | with_reducible refine gO ?_); simp (disch := omega) only [Ac, ↓Pc, ↓reduceIte, reduceCtorEq, reduceEqDiff, Nat.reduceBEq, reduceAdd, Nat.reduceLT, reduceLeDiff, reduceMul, reduceNeg, Int.reduceLT, reduceLE, reduceToNat, eSc]) | (refine hK _ ?_; clear hK K) | (with_reducible refine gS (fun hb' => ?_) (fun hb' => ?_) <;> (have hb := hb'; (try simp only [DEc, reduceCtorEq] at hb); simp (disch := omega) only [Ac, ↓Pc, ↓reduceIte, reduceCtorEq, reduceEqDiff, Nat.reduceBEq, reduceAdd, Nat.reduceLT, reduceLeDiff, reduceMul, reduceNeg, Int.reduceLT, reduceLE, reduceToNat, eSc, hb']; clear hb')) | (refine Wc (fun ht => ?_) (fun ht => ?_) <;> (try simp only [DEc, reduceCtorEq] at ht)) | refine Wz rfl ?_ | (refine Wb ?_; intro Qb hnb hxb heb) | (refine Wk ?_; intro Q hn he) | ((first | refine hn _ ?_ | refine he _ _ rfl ?_); clear hn he; try clear Q) | ((first | refine hnb _ ?_ | refine hxb _ ?_ | refine heb _ _ rfl ?_); clear hnb hxb heb; try clear Qb) | (simp only [Qc, Kc, ↓reduceIte, reduceEqDiff, Nat.reduceBEq]) | with_reducible refine And.intro ?_ ?_ | omega | with_reducible rfl)
      have e2 : repS N N S = List.replicate N S := by simp [repS]
      have hsl : s0.ls = List.replicate N S := by rw [← hl0']
      have hsb : s0.bs = plan := by rw [← hl0']
      have hst : s0.lt = S := by rw [← hl0']
      have hsp : s0.pl = plan := by rw [← hl0']
      have hsn : s0.nw = S := by rw [← hl0']
      have hsx : s0.x = seed := by rw [← hl0']
      refine W_loopS (fun z : Nat × LaS => (⟨slots [(1, .tree 1 (ints z.2.pl)), (3, .lit (.int .i64 (N : Nat))), (4, .lit (.int .i64 (J : Nat))), (5, .ptr 0 0 0), (12, .ptr 1 0 0), (14, .ref 2 2 0 N), (16, .tree 1 (ints z.2.bs)), (17, .ptr 3 0 0), (18, .lit (.int .i64 z.2.x)), (19, .lit (.int .i64 z.1))],
          [.var (eMdl m), .var (eSc z.2.nw), .arr 2 (rowsOf eSc z.2.ls), .var (eSc z.2.lt)]⟩ : St))
        (fun z => z.1 ≤ J ∧ LaI m plan.length N z.2 ∧ ((laL m (J - z.1) z.1 z.2).bs, 0) = res) (fun z => J - z.1) (0, s0) ⟨Nat.zero_le _, hi0, hres⟩ (by rw [e2, hsl, hsb, hst, hsp, hsn, hsx]; first | ((refine Turns.slots _ _ rfl ?_; simp only [Tc, ↓reduceIte, reduceEqDiff, Nat.reduceBEq, reduceAdd, eSc]; try trivial); done) | ((refine Turns.se [0, 1, 2, 3] false (by simp only [Oc, reduceCtorEq, reduceAdd, Nat.reduceLT, reduceLeDiff, reduceEqDiff, ↓reduceIte, eSc]) ?_; simp only [Hr, ↓reduceIte, reduceEqDiff, Nat.reduceBEq, reduceAdd, eSc]; try (and_intros <;> first | exact .pure rfl | exact .eq rfl | exact .fz rfl (by simp only [Bc, Rc]))); done)) ?_
      clear hl0 hl0' hsl hsb hst hsp hsn hsx hi0 hres hc
      rintro ⟨k, z⟩ ⟨hk, hi, hr⟩ Ql hnl hel
      dsimp only at hk hi hr ⊢
      by_cases hk' : (k : Int) < (J : Nat)
      · obtain ⟨f, hf⟩ : ∃ f, J - k = f + 1 := ⟨J - k - 1, by omega⟩
        have hf2 : f = J - (k + 1) := by omega
        rw [hf, laL, hf2] at hr
        have hst := hi.step (by omega) k
        obtain ⟨c1, c2⟩ := hi.c (by omega)
        obtain ⟨o1, o2, o3⟩ := hi.o (by omega)
        have hx := hi.x
        have hgx := gN_rg z.x
        have hgx2 := gN_rg (gN z.x)
        have g1 := refNext_ok z.x hi.x
        have g2 := refNext_ok (gN z.x) (gN_rg _)
        have hm2 : (gN z.x / 65536).tmod (m.cls.length : Int) = (laC z : Int) := by rw [tmodE (by omega), ← hlen]; exact c2.symm
        have hm3 : (gN (gN z.x) / 65536).tmod ((m.cls.getD (laC z) default).length : Int) = laO m z := by rw [tmodE (by omega)]; rfl
        have hT : FP m (laT m z) := hi.pl.set o1
        have hof := refOf_ok m (laT m z) hmb (by unfold laT; rw [List.length_set, hi.pn]; exact hpl)
        have hcz := fp_com hm hT
        unfold ofV at hof
        rw [if_pos hcz, hcz] at hof
        have hwi := with_ok z.pl (laC z) (laO m z) (by rw [hi.pn]; exact c1) (by rw [hi.pn]; omega)
        have hTe : laT m z = z.pl.set (laC z) (laO m z) := rfl
        rw [← hTe] at hwi
        have hN : 0 < N := by omega
        have hmod : (((k : Nat) : Int).tmod ((N : Nat) : Int)) = ((k % N : Nat) : Int) := by rw [tmodE (by omega)]; rfl
        have hil : k % N < N := Nat.mod_lt _ hN
        have hln := hi.ln
        have hpn := hi.pn
        have hbn := hi.bn
        rw [hpn] at hwi
        have hst1 : laStep m k z = ⟨laP m k z, laN m k z, z.ls.set (k % N) (laN m k z), if scLess (laN m k z) z.lt = true then laP m k z else z.bs, if scLess (laN m k z) z.lt = true then laN m k z else z.lt, gN (gN z.x)⟩ := by unfold laStep; rw [hln]
        have hpp : laP m k z = if (scLess z.nw (scV m (laT m z)) && scLess (z.ls.getD (k % N) default) (scV m (laT m z))) = true then z.pl else laT m z := by unfold laP laQ; rw [hln]; rfl
        have hnn : laN m k z = if (scLess z.nw (scV m (laT m z)) && scLess (z.ls.getD (k % N) default) (scV m (laT m z))) = true then z.nw else scV m (laT m z) := by unfold laN laQ; rw [hln]; rfl
        have hl1 := refLess_ok z.nw (scV m (laT m z))
        have hl2 := refLess_ok (z.ls.getD (k % N) default) (scV m (laT m z))
        have hl3 := refLess_ok (laN m k z) z.lt
        rw [hst1] at hr hst
        clear hst1
        have hgt : (laT m z).length = plan.length := by rw [hTe, List.length_set]; exact hpn
        generalize laP m k z = p' at *
        generalize laN m k z = n' at *
        generalize laT m z = T at *
        generalize scV m T = R at *
        generalize laO m z = o at *
        generalize laC z = c at *
        generalize k % N = i at *
        repeat' (first | ((first | ((fail_if_success (first | refine W_at 23 ?_ | refine W_atE 23 ?_)); (first | refine rr ?_ | refine rre ?_ | refine rb ?_ | refine rbe ?_ | refine ra ?_ | refine rae ?_); intro K hK) | with_reducible refine gO ?_); simp (disch := omega) only [Ac, ↓Pc, ↓reduceIte, reduceCtorEq, reduceEqDiff, Nat.reduceBEq, reduceAdd, Nat.reduceLT, reduceLeDiff, reduceMul, reduceNeg, Int.reduceLT, reduceLE, reduceToNat, eSc, hm2, hm3]) | (first | refine callK_pure (g1) rfl rfl ?_ | refine callQ_pure (g1) rfl rfl ?_) | (first | refine callK_pure (g2) rfl rfl ?_ | refine callQ_pure (g2) rfl rfl ?_) | (refine hK _ ?_; clear hK K) | (with_reducible refine gS (fun hb' => ?_) (fun hb' => ?_) <;> (have hb := hb'; (try simp only [DEc, reduceCtorEq] at hb); simp (disch := omega) only [Ac, ↓Pc, ↓reduceIte, reduceCtorEq, reduceEqDiff, Nat.reduceBEq, reduceAdd, Nat.reduceLT, reduceLeDiff, reduceMul, reduceNeg, Int.reduceLT, reduceLE, reduceToNat, eSc, hm2, hm3, hb']; clear hb')) | (refine Wc (fun ht => ?_) (fun ht => ?_) <;> (try simp only [DEc, reduceCtorEq] at ht)) | refine Wz rfl ?_ | (refine Wb ?_; intro Qb hnb hxb heb) | (refine Wk ?_; intro Q hn he) | ((first | refine hn _ ?_ | refine he _ _ rfl ?_); clear hn he; try clear Q) | ((first | refine hnb _ ?_ | refine hxb _ ?_ | refine heb _ _ rfl ?_); clear hnb hxb heb; try clear Qb) | (simp only [Qc, Kc, ↓reduceIte, reduceEqDiff, Nat.reduceBEq]) | with_reducible refine And.intro ?_ ?_ | omega | with_reducible rfl)
        (refine callK_sel [] (hwi) (by decide) (by (repeat' (first | exact trivial | with_reducible refine And.intro ?_ ?_ | refine And.intro ?_ ?_)) <;> first | rfl | (rw [ints_ren]; rfl) | (rw [bools_ren]; rfl) | (rw [rows_ren]; rfl) | (rw [intss_ren]; rfl)) (by (repeat' (first | exact trivial | refine And.intro ?_ ?_)) <;> (first | exact .pure rfl | exact .eq rfl | exact .fz rfl (by simp only [Bc, Rc]))) ?_; simp (disch := omega) only [Ac, ↓Pc, ↓reduceIte, reduceCtorEq, reduceEqDiff, Nat.reduceBEq, reduceAdd, Nat.reduceLT, reduceLeDiff, reduceMul, reduceNeg, Int.reduceLT, reduceLE, reduceToNat])
        repeat' (first | ((first | ((fail_if_success (first | refine W_at 23 ?_ | refine W_atE 23 ?_)); (first | refine rr ?_ | refine rre ?_); intro K hK) | with_reducible refine gO ?_); simp (disch := omega) only [Ac, ↓Pc, ↓reduceIte, reduceCtorEq, reduceEqDiff, Nat.reduceBEq, reduceAdd, Nat.reduceLT, reduceLeDiff, reduceMul, reduceNeg, Int.reduceLT, reduceLE, reduceToNat, eSc]) | (refine hK _ ?_; clear hK K) | (with_reducible refine gS (fun hb' => ?_) (fun hb' => ?_) <;> (have hb := hb'; (try simp only [DEc, reduceCtorEq] at hb); simp (disch := omega) only [Ac, ↓Pc, ↓reduceIte, reduceCtorEq, reduceEqDiff, Nat.reduceBEq, reduceAdd, Nat.reduceLT, reduceLeDiff, reduceMul, reduceNeg, Int.reduceLT, reduceLE, reduceToNat, eSc, hb']; clear hb')) | (refine Wc (fun ht => ?_) (fun ht => ?_) <;> (try simp only [DEc, reduceCtorEq] at ht)) | refine Wz rfl ?_ | (refine Wb ?_; intro Qb hnb hxb heb) | (refine Wk ?_; intro Q hn he) | ((first | refine hn _ ?_ | refine he _ _ rfl ?_); clear hn he; try clear Q) | ((first | refine hnb _ ?_ | refine hxb _ ?_ | refine heb _ _ rfl ?_); clear hnb hxb heb; try clear Qb) | (simp only [Qc, Kc, ↓reduceIte, reduceEqDiff, Nat.reduceBEq]) | with_reducible refine And.intro ?_ ?_ | omega | with_reducible rfl)
        generalize hgi : z.ls.getD i default = L at *
        have hlg := rows_getD (enc := eSc) z.ls i (by omega)
        rw [hgi] at hlg
        have hrl : (rowsOf eSc z.ls).length = N := by rw [rows_length, hln]
        rw [← hgt]
        refine W_turn (σ' := ⟨slots [(3, .lit (.int .i64 (N : Nat))), (1, .tree 1 (ints z.pl)), (4, .lit (.int .i64 (J : Nat))), (5, .ptr 0 0 0), (12, .ptr 1 0 0), (14, .ref 2 2 0 N), (16, .tree 1 (ints z.bs)), (17, .ptr 3 0 0), (18, .lit (.int .i64 (gN (gN z.x)))), (19, .lit (.int .i64 k)), (22, .tree 1 (ints T))],
          [.var (eMdl m), .var (eSc z.nw), .arr 2 (rowsOf eSc z.ls), .var (eSc z.lt)]⟩) (by (refine Turns.se [0, 1, 2, 3] true (by simp only [Oc, reduceCtorEq, reduceAdd, Nat.reduceLT, reduceLeDiff, reduceEqDiff, ↓reduceIte, eSc]) ?_; simp only [Hr, ↓reduceIte, reduceEqDiff, Nat.reduceBEq, reduceAdd, eSc]; try (and_intros <;> first | exact .pure rfl | exact .eq rfl | exact .fz rfl (by simp only [Bc, Rc])))) ?_
        generalize hB1 : scLess z.nw R = B1 at *
        generalize hB2 : scLess L R = B2 at *
        generalize hB3 : scLess n' z.lt = B3 at *
        have e := rows_set (enc := eSc) z.ls i n'
        simp only [eSc] at e
        cases B1 <;> cases B2 <;> cases B3
        all_goals
          simp only [Bool.and_true, Bool.and_false, Bool.false_eq_true, if_true, if_false, ↓reduceIte] at hpp hnn hr hst
          subst hpp
          subst hnn
        all_goals
          repeat' (first | ((first | ((first | refine rr ?_ | refine rre ?_ | refine rb ?_ | refine rbe ?_ | refine ra ?_ | refine rae ?_); intro K hK) | with_reducible refine gO ?_); simp (disch := omega) only [Ac, ↓Pc, ↓reduceIte, reduceCtorEq, reduceEqDiff, Nat.reduceBEq, reduceAdd, Nat.reduceLT, reduceLeDiff, reduceMul, reduceNeg, Int.reduceLT, reduceLE, reduceToNat, eSc, hmod, hlg, hrl, hgi]) | (first | refine callK_pure (hof) rfl rfl ?_ | refine callQ_pure (hof) rfl rfl ?_) | (first | refine callK_pure (hl1) rfl rfl ?_ | refine callQ_pure (hl1) rfl rfl ?_) | (first | refine callK_pure (hl2) rfl rfl ?_ | refine callQ_pure (hl2) rfl rfl ?_) | (first | refine callK_pure (hl3) rfl rfl ?_ | refine callQ_pure (hl3) rfl rfl ?_) | (refine hK _ ?_; clear hK K) | (with_reducible refine gS (fun hb' => ?_) (fun hb' => ?_) <;> (have hb := hb'; (try simp only [DEc, reduceCtorEq] at hb); simp (disch := omega) only [Ac, ↓Pc, ↓reduceIte, reduceCtorEq, reduceEqDiff, Nat.reduceBEq, reduceAdd, Nat.reduceLT, reduceLeDiff, reduceMul, reduceNeg, Int.reduceLT, reduceLE, reduceToNat, eSc, hmod, hlg, hrl, hgi, hb']; clear hb')) | (refine Wc (fun ht => ?_) (fun ht => ?_) <;> (try simp only [DEc, reduceCtorEq] at ht)) | refine Wz rfl ?_ | (refine Wb ?_; intro Qb hnb hxb heb) | (refine Wk ?_; intro Q hn he) | ((first | refine hn _ ?_ | refine he _ _ rfl ?_); clear hn he; try clear Q) | ((first | refine hnb _ ?_ | refine hxb _ ?_ | refine heb _ _ rfl ?_); clear hnb hxb heb; try clear Qb) | (simp only [Qc, Kc, ↓reduceIte, reduceEqDiff, Nat.reduceBEq]) | with_reducible refine And.intro ?_ ?_ | omega | with_reducible rfl)
        all_goals
          simp only [e]
          exact hnl _ (k + 1, _) ⟨by dsimp only; omega, hst, hr⟩ (by dsimp only; omega) (by (refine Turns.se [0, 1, 2, 3] false (by simp only [Oc, reduceCtorEq, reduceAdd, Nat.reduceLT, reduceLeDiff, reduceEqDiff, ↓reduceIte, eSc]) ?_; simp only [Hr, ↓reduceIte, reduceEqDiff, Nat.reduceBEq, reduceAdd, eSc]; try (and_intros <;> first | exact .pure rfl | exact .eq rfl | exact .fz rfl (by simp only [Bc, Rc]))))
      · have hkk : J - k = 0 := by omega
        rw [hkk, laL] at hr
        repeat' (first | ((first | ((first | refine rr ?_ | refine rre ?_); intro K hK) | with_reducible refine gO ?_); simp (disch := omega) only [Ac, ↓Pc, ↓reduceIte, reduceCtorEq, reduceEqDiff, Nat.reduceBEq, reduceAdd, Nat.reduceLT, reduceLeDiff, reduceMul, reduceNeg, Int.reduceLT, reduceLE, reduceToNat]) | (refine hK _ ?_; clear hK K) | (with_reducible refine gS (fun hb' => ?_) (fun hb' => ?_) <;> (have hb := hb'; (try simp only [DEc, reduceCtorEq] at hb); simp (disch := omega) only [Ac, ↓Pc, ↓reduceIte, reduceCtorEq, reduceEqDiff, Nat.reduceBEq, reduceAdd, Nat.reduceLT, reduceLeDiff, reduceMul, reduceNeg, Int.reduceLT, reduceLE, reduceToNat, hb']; clear hb')) | (refine Wc (fun ht => ?_) (fun ht => ?_) <;> (try simp only [DEc, reduceCtorEq] at ht)) | refine Wz rfl ?_ | (refine Wb ?_; intro Qb hnb hxb heb) | (refine Wk ?_; intro Q hn he) | ((first | refine hn _ ?_ | refine he _ _ rfl ?_); clear hn he; try clear Q) | ((first | refine hnb _ ?_ | refine hxb _ ?_ | refine heb _ _ rfl ?_); clear hnb hxb heb; try clear Qb) | (simp only [Qc, Kc, ↓reduceIte, reduceEqDiff, Nat.reduceBEq]) | with_reducible refine And.intro ?_ ?_ | omega | with_reducible rfl)
        refine hel _ _ rfl ?_; clear hnl hel Ql
        repeat (first | ((first | refine hn _ ?_ | refine he _ _ rfl ?_); clear hn he; try clear Q) | ((first | refine hnb _ ?_ | refine hxb _ ?_ | refine heb _ _ rfl ?_); clear hnb hxb heb; try clear Qb) | (refine hel _ _ rfl ?_; clear hnl hel; try clear Ql))
        have hbl : z.bs.length ≤ 549755813888 := by rw [hi.bn]; omega
        repeat' (first | ((first | ((first | refine rr ?_ | refine rre ?_); intro K hK) | with_reducible refine gO ?_); simp (disch := omega) only [Ac, ↓Pc, ↓reduceIte, reduceCtorEq, reduceEqDiff, Nat.reduceBEq, reduceAdd, Nat.reduceLT, reduceLeDiff, reduceMul, reduceNeg, Int.reduceLT, reduceLE, reduceToNat]) | (refine hK _ ?_; clear hK K) | (with_reducible refine gS (fun hb' => ?_) (fun hb' => ?_) <;> (have hb := hb'; (try simp only [DEc, reduceCtorEq] at hb); simp (disch := omega) only [Ac, ↓Pc, ↓reduceIte, reduceCtorEq, reduceEqDiff, Nat.reduceBEq, reduceAdd, Nat.reduceLT, reduceLeDiff, reduceMul, reduceNeg, Int.reduceLT, reduceLE, reduceToNat, hb']; clear hb')) | (refine Wc (fun ht => ?_) (fun ht => ?_) <;> (try simp only [DEc, reduceCtorEq] at ht)) | refine Wz rfl ?_ | (refine Wb ?_; intro Qb hnb hxb heb) | (refine Wk ?_; intro Q hn he) | ((first | refine hn _ ?_ | refine he _ _ rfl ?_); clear hn he; try clear Q) | ((first | refine hnb _ ?_ | refine hxb _ ?_ | refine heb _ _ rfl ?_); clear hnb hxb heb; try clear Qb) | (refine hel _ _ rfl ?_; clear hnl hel; try clear Ql) | (simp only [Qc, Kc, ↓reduceIte, reduceEqDiff, Nat.reduceBEq]) | with_reducible refine And.intro ?_ ?_ | omega | with_reducible rfl)
        rw [← hr]
        refine RetOK_sel [] true (by decide) trivial (by decide) (by decide) (tup2b ?_ (.pure rfl))
        first | exact .pure rfl | exact .eq rfl | exact .fz rfl (by simp only [Bc, Rc])
end T

