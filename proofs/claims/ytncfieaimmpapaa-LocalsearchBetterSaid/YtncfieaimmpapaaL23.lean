import Derived.Test.YtncfieaimmpapaaL22
import Derived.Test.YtncfieaimmpapaaL4
import Derived.Test.YtncfieaimmpapaaLL
set_option linter.unusedVariables false
set_option linter.unusedSimpArgs false
open Go Go.Am Go.Proofs
open Nat (reduceEqDiff reduceAdd reduceLeDiff reduceMul)
open Int (reduceNeg reduceLE reduceToNat)
set_option maxRecDepth 20000
namespace T
theorem LaI.step {m : Mdl} {n len : Nat} {s : LaS} (h : LaI m n len s) (hn : 0 < n) (k : Nat) : LaI m n len (laStep m k s) := by
  obtain ⟨ho, _, _⟩ := h.o hn
  have ht : FP m (laT m s) := h.pl.set ho
  have htn : (laT m s).length = n := by unfold laT; rw [List.length_set]; exact h.pn
  have hp : FP m (laP m k s) ∧ (laP m k s).length = n ∧ laN m k s = scV m (laP m k s) := by
    unfold laP laN
    split
    · exact ⟨h.pl, h.pn, h.nw⟩
    · exact ⟨ht, htn, rfl⟩
  unfold laStep
  refine ⟨hp.1, hp.2.1, ?_, ?_, ?_, gN_rg _, hp.2.2, ?_⟩
  · dsimp only; split
    · exact hp.1
    · exact h.bs
  · dsimp only; split
    · exact hp.2.1
    · exact h.bn
  · dsimp only; rw [List.length_set]; exact h.ln
  · dsimp only; split
    · exact hp.2.2
    · exact h.lt
theorem la0_ok {m : Mdl} {plan : List Int} (hp : FP m plan) {seed : Int} (hs : 0 ≤ seed ∧ seed < 2147483648) (len : Nat) : LaI m plan.length len (la0 m plan seed len) :=
  ⟨hp, rfl, hp, rfl, List.length_replicate, hs, rfl, rfl⟩
theorem tup2b {σ : St} {kp : Nat → Prop} {ρ : Nat → Nat} {snap : Bool} {a b d e : AV} (h : ArgR σ kp ρ snap a d) (k : ArgR σ kp ρ snap b e) : ArgR σ kp ρ snap (.tup [a, b]) (.tup [d, e]) :=
  .tup _ _ rfl (ArgsR.spec (R := ArgR σ kp ρ snap) (cs := [a, b]) (ds := [d, e]) ⟨h, k, trivial⟩).2
theorem tmodE {a b : Int} (h : 0 ≤ a) : a.tmod b = a % b := Int.tmod_eq_emod_of_nonneg h
instance (s : SC) : FlatR [eSc s] 2 := inferInstanceAs (FlatR (rowsOf eSc [s]) 2)
theorem sc_flat (l : List SC) : ∀ o ∈ [Ob.arr 2 (rowsOf eSc l)], flatO o := by
  intro o ho
  rw [List.mem_singleton.1 ho]
  intro row hr v hv
  obtain ⟨s, _, rfl⟩ := List.mem_map.1 hr
  simp only [eSc, List.mem_cons, List.not_mem_nil, or_false] at hv
  rcases hv with rfl | rfl <;> rfl
theorem gen_ok (x n : Int) (hx : 0 ≤ x ∧ x < 2147483648) (hn : 0 < n) : Holds Try.prog 58 [.ptr 0 0 0, .lit (.int .i64 n)] [.var [.lit (.int .i64 x)]] (.lit (.int .i64 (gN x / 65536 % n))) [.var [.lit (.int .i64 (gN x))]] := by
  have hg := gN_rg x
  have hgx : gN x = (1103515245 * x + 12345) % 2147483648 := rfl
  refine Holds.of_body' (fn := Try.f58) 22 1 [.tmp 4] Try.func58 rfl rfl rfl rfl rfl (by simp) ?_
  repeat' (first | ((first | ((first | refine rr ?_ | refine rre ?_); intro K hK) | with_reducible refine gO ?_); simp (disch := omega) only [Ac, ↓Pc, ↓reduceIte, reduceCtorEq, reduceEqDiff, Nat.reduceBEq, reduceAdd, Nat.reduceLT, reduceLeDiff, reduceMul, reduceNeg, Int.reduceLT, reduceLE, reduceToNat, tmodE]) | (refine hK _ ?_; clear hK K) | (with_reducible refine gS (fun hb' => ?_) (fun hb' => ?_) <;> (have hb := hb'; (try simp only [DEc, reduceCtorEq] at hb); simp (disch := omega) only [Ac, ↓Pc, ↓reduceIte, reduceCtorEq, reduceEqDiff, Nat.reduceBEq, reduceAdd, Nat.reduceLT, reduceLeDiff, reduceMul, reduceNeg, Int.reduceLT, reduceLE, reduceToNat, tmodE, hb']; clear hb')) | (refine Wc (fun ht => ?_) (fun ht => ?_) <;> (try simp only [DEc, reduceCtorEq] at ht)) | refine Wz rfl ?_ | (refine Wb ?_; intro Qb hnb hxb heb) | (refine Wk ?_; intro Q hn he) | ((first | refine hn _ ?_ | refine he _ _ rfl ?_); clear hn he; try clear Q) | ((first | refine hnb _ ?_ | refine hxb _ ?_ | refine heb _ _ rfl ?_); clear hnb hxb heb; try clear Qb) | (refine hel _ _ rfl ?_; clear hnl hel; try clear Ql) | (simp only [Qc, Kc, ↓reduceIte, reduceEqDiff, Nat.reduceBEq]) | with_reducible refine And.intro ?_ ?_ | omega | with_reducible rfl)
  rw [← hgx]
  (refine RetOK_se [0] false (by simp only [Oc, reduceCtorEq, reduceAdd, Nat.reduceLT, reduceLeDiff, reduceEqDiff, ↓reduceIte]) ?_; first | exact .pure rfl | exact .eq rfl | exact .fz rfl (by simp only [Bc, Rc]))
set_option maxHeartbeats 8000000 in
theorem late_ok (m : Mdl) (plan : List Int) (seed len steps : Int) (hb : MB m) (hpl : plan.length < 9223372036854775808) :
    Holds Try.prog 30 [.agg (eMdl m), .tree 1 (ints plan), .lit (.int .i64 seed), .lit (.int .i64 len), .lit (.int .i64 steps)] [] (.tup [.tree 1 (ints (lateV m plan seed len steps).1), .lit (.int .i64 (lateV m plan seed len steps).2)]) [] := by
  generalize hres : lateV m plan seed len steps = res
  unfold lateV at hres
  have hc := complete_ok m plan hb hpl
  by_cases hz : comV m plan = 0
  rotate_left
  · rw [if_pos hz] at hres
    rw [← hres]
    generalize comV m plan = cv at *
    refine Holds.of_body' (fn := Try.f30) 127 0 [.tmp 10, .tmp 11] Try.func30 rfl rfl rfl rfl rfl (by simp) ?_
    repeat' (first | ((first | ((first | refine rr ?_ | refine rre ?_ | refine rb ?_ | refine rbe ?_ | refine ra ?_ | refine rae ?_); intro K hK) | with_reducible refine gO ?_); simp (disch := omega) only [Ac, ↓Pc, ↓reduceIte, reduceCtorEq, reduceEqDiff, Nat.reduceBEq, reduceAdd, Nat.reduceLT, reduceLeDiff, reduceMul, reduceNeg, Int.reduceLT, reduceLE, reduceToNat]) | (first | refine callK_pure (hc) rfl rfl ?_ | refine callQ_pure (hc) rfl rfl ?_) | (refine hK _ ?_; clear hK K) | (with_reducible refine gS (fun hb' => ?_) (fun hb' => ?_) <;> (have hb := hb'; (try simp only [DEc, reduceCtorEq] at hb); simp (disch := omega) only [Ac, ↓Pc, ↓reduceIte, reduceCtorEq, reduceEqDiff, Nat.reduceBEq, reduceAdd, Nat.reduceLT, reduceLeDiff, reduceMul, reduceNeg, Int.reduceLT, reduceLE, reduceToNat, hb']; clear hb')) | (refine Wc (fun ht => ?_) (fun ht => ?_) <;> (try simp only [DEc, reduceCtorEq] at ht)) | refine Wz rfl ?_ | (refine Wb ?_; intro Qb hnb hxb heb) | (refine Wk ?_; intro Q hn he) | ((first | refine hn _ ?_ | refine he _ _ rfl ?_); clear hn he; try clear Q) | ((first | refine hnb _ ?_ | refine hxb _ ?_ | refine heb _ _ rfl ?_); clear hnb hxb heb; try clear Qb) | (refine hel _ _ rfl ?_; clear hnl hel; try clear Ql) | (simp only [Qc, Kc, ↓reduceIte, reduceEqDiff, Nat.reduceBEq]) | with_reducible refine And.intro ?_ ?_ | omega | with_reducible rfl)
    all_goals first | (exfalso; omega) | skip
    exact RetOK_sel [] true (by decide) trivial (by decide) (by decide) (tup2b ArgR.nil (.pure rfl))
  rw [if_neg (by omega)] at hres
  rw [hz] at hc
  obtain ⟨hm, hp⟩ := com_iff hz
  by_cases h0 : plan.length = 0
  · rw [if_pos h0] at hres
    rw [← hres]
    refine Holds.of_body' (fn := Try.f30) 127 0 [.tmp 10, .tmp 11] Try.func30 rfl rfl rfl rfl rfl (by simp) ?_
    repeat' (first | ((first | ((first | refine rr ?_ | refine rre ?_ | refine rb ?_ | refine rbe ?_ | refine ra ?_ | refine rae ?_); intro K hK) | with_reducible refine gO ?_); simp (disch := omega) only [Ac, ↓Pc, ↓reduceIte, reduceCtorEq, reduceEqDiff, Nat.reduceBEq, reduceAdd, Nat.reduceLT, reduceLeDiff, reduceMul, reduceNeg, Int.reduceLT, reduceLE, reduceToNat]) | (first | refine callK_pure (hc) rfl rfl ?_ | refine callQ_pure (hc) rfl rfl ?_) | (refine hK _ ?_; clear hK K) | (with_reducible refine gS (fun hb' => ?_) (fun hb' => ?_) <;> (have hb := hb'; (try simp only [DEc, reduceCtorEq] at hb); simp (disch := omega) only [Ac, ↓Pc, ↓reduceIte, reduceCtorEq, reduceEqDiff, Nat.reduceBEq, reduceAdd, Nat.reduceLT, reduceLeDiff, reduceMul, reduceNeg, Int.reduceLT, reduceLE, reduceToNat, hb']; clear hb')) | (refine Wc (fun ht => ?_) (fun ht => ?_) <;> (try simp only [DEc, reduceCtorEq] at ht)) | refine Wz rfl ?_ | (refine Wb ?_; intro Qb hnb hxb heb) | (refine Wk ?_; intro Q hn he) | ((first | refine hn _ ?_ | refine he _ _ rfl ?_); clear hn he; try clear Q) | ((first | refine hnb _ ?_ | refine hxb _ ?_ | refine heb _ _ rfl ?_); clear hnb hxb heb; try clear Qb) | (refine hel _ _ rfl ?_; clear hnl hel; try clear Ql) | (simp only [Qc, Kc, ↓reduceIte, reduceEqDiff, Nat.reduceBEq]) | with_reducible refine And.intro ?_ ?_ | omega | with_reducible rfl)
    all_goals first | (exfalso; omega) | skip
    exact RetOK_sel [] true (by decide) trivial (by decide) (by decide) (tup2b ArgR.nil (.pure rfl))
  rw [if_neg h0] at hres
  by_cases hs : seed < 0 ∨ seed ≥ 2147483648 ∨ len < 1 ∨ len > 64 ∨ steps < 0 ∨ steps > 65536
  · rw [if_pos hs] at hres
    rw [← hres]
    refine Holds.of_body' (fn := Try.f30) 127 0 [.tmp 10, .tmp 11] Try.func30 rfl rfl rfl rfl rfl (by simp) ?_
    repeat' (first | ((first | ((first | refine rr ?_ | refine rre ?_ | refine rb ?_ | refine rbe ?_ | refine ra ?_ | refine rae ?_); intro K hK) | with_reducible refine gO ?_); simp (disch := omega) only [Ac, ↓Pc, ↓reduceIte, reduceCtorEq, reduceEqDiff, Nat.reduceBEq, reduceAdd, Nat.reduceLT, reduceLeDiff, reduceMul, reduceNeg, Int.reduceLT, reduceLE, reduceToNat]) | (first | refine callK_pure (hc) rfl rfl ?_ | refine callQ_pure (hc) rfl rfl ?_) | (refine hK _ ?_; clear hK K) | (with_reducible refine gS (fun hb' => ?_) (fun hb' => ?_) <;> (have hb := hb'; (try simp only [DEc, reduceCtorEq] at hb); simp (disch := omega) only [Ac, ↓Pc, ↓reduceIte, reduceCtorEq, reduceEqDiff, Nat.reduceBEq, reduceAdd, Nat.reduceLT, reduceLeDiff, reduceMul, reduceNeg, Int.reduceLT, reduceLE, reduceToNat, hb']; clear hb')) | (refine Wc (fun ht => ?_) (fun ht => ?_) <;> (try simp only [DEc, reduceCtorEq] at ht)) | refine Wz rfl ?_ | (refine Wb ?_; intro Qb hnb hxb heb) | (refine Wk ?_; intro Q hn he) | ((first | refine hn _ ?_ | refine he _ _ rfl ?_); clear hn he; try clear Q) | ((first | refine hnb _ ?_ | refine hxb _ ?_ | refine heb _ _ rfl ?_); clear hnb hxb heb; try clear Qb) | (refine hel _ _ rfl ?_; clear hnl hel; try clear Ql) | (simp only [Qc, Kc, ↓reduceIte, reduceEqDiff, Nat.reduceBEq]) | with_reducible refine And.intro ?_ ?_ | omega | with_reducible rfl)
    all_goals first | (exfalso; omega) | exact RetOK_sel [] true (by decide) trivial (by decide) (by decide) (tup2b ArgR.nil (.pure rfl))
  rw [if_neg hs] at hres
  have hm1 := hm.cls
  have hlen := hp.len
  have hcl := clone_ok plan (by omega) (by omega)
  have hsc := scoreOf_ok m plan hm hp
  obtain ⟨N, rfl⟩ : ∃ N : Nat, len = N := ⟨len.toNat, by omega⟩
  obtain ⟨J, rfl⟩ : ∃ J : Nat, steps = J := ⟨steps.toNat, by omega⟩
  have hrp := repeat_ok (scV m plan) N (by omega)
  have hi0 := la0_ok hp (seed := seed) (by omega) N
  rw [Int.toNat_natCast, Int.toNat_natCast] at hres
  generalize hl0 : la0 m plan seed N = s0 at *
  have hl0' := hl0
  unfold la0 at hl0'
  generalize scV m plan = S at *
  refine Holds.of_body' (fn := Try.f30) 127 0 [.tmp 10, .tmp 11] Try.func30 rfl rfl rfl rfl rfl (by simp) ?_
  repeat' (first | ((first | ((fail_if_success (first | refine W_at 9 ?_ | refine W_atE 9 ?_)); (first | refine rr ?_ | refine rre ?_ | refine rb ?_ | refine rbe ?_ | refine ra ?_ | refine rae ?_); intro K hK) | with_reducible refine gO ?_); simp (disch := omega) only [Ac, ↓Pc, ↓reduceIte, reduceCtorEq, reduceEqDiff, Nat.reduceBEq, reduceAdd, Nat.reduceLT, reduceLeDiff, reduceMul, reduceNeg, Int.reduceLT, reduceLE, reduceToNat, eSc]) | (first | refine callK_pure (hc) rfl rfl ?_ | refine callQ_pure (hc) rfl rfl ?_) | (first | refine callK_pure (hsc) rfl rfl ?_ | refine callQ_pure (hsc) rfl rfl ?_) | (refine hK _ ?_; clear hK K) | (with_reducible refine gS (fun hb' => ?_) (fun hb' => ?_) <;> (have hb := hb'; (try simp only [DEc, reduceCtorEq] at hb); simp (disch := omega) only [Ac, ↓Pc, ↓reduceIte, reduceCtorEq, reduceEqDiff, Nat.reduceBEq, reduceAdd, Nat.reduceLT, reduceLeDiff, reduceMul, reduceNeg, Int.reduceLT, reduceLE, reduceToNat, eSc, hb']; clear hb')) | (refine Wc (fun ht => ?_) (fun ht => ?_) <;> (try simp only [DEc, reduceCtorEq] at ht)) | refine Wz rfl ?_ | (refine Wb ?_; intro Qb hnb hxb heb) | (refine Wk ?_; intro Q hn he) | ((first | refine hn _ ?_ | refine he _ _ rfl ?_); clear hn he; try clear Q) | ((first | refine hnb _ ?_ | refine hxb _ ?_ | refine heb _ _ rfl ?_); clear hnb hxb heb; try clear Qb) | (refine hel _ _ rfl ?_; clear hnl hel; try clear Ql) | (simp only [Qc, Kc, ↓reduceIte, reduceEqDiff, Nat.reduceBEq]) | with_reducible refine And.intro ?_ ?_ | omega | with_reducible rfl)
  all_goals try (exfalso; omega)
  refine join_here ⟨slots [(1, .tree 1 (ints plan)), (2, .lit (.int .i64 seed)), (3, .lit (.int .i64 (N : Nat))), (4, .lit (.int .i64 (J : Nat))), (5, .ptr 0 0 0), (13, .ptr 1 0 0), (14, .ref 2 1 0 plan.length), (15, .ref 3 1 0 plan.length), (16, .ptr 4 0 0)], [.var (eMdl m), .var (eSc S), .arr 1 (ints plan), .arr 1 (ints plan), .var (eSc S)]⟩ hn ?_ (fun key => ?_)
  rotate_left
  · refine W_draw [] (.take 0 (.take 2 (.three 1 (.three 3 (.take 4 (.take 5 (.take 6 (.take 7 (.take 8 .nil))))) 4 (.both 3 (.take 5 (.take 6 (.take 7 (.take 8 .nil)))) 5 (.take 3 (.take 6 (.take 7 (.take 8 .nil))))) 5 (.both 3 (.take 4 (.take 6 (.take 7 (.take 8 .nil)))) 4 (.take 3 (.take 6 (.take 7 (.take 8 .nil)))))) 4 (.both 1 (.both 3 (.take 5 (.take 6 (.take 7 (.take 8 .nil)))) 5 (.take 3 (.take 6 (.take 7 (.take 8 .nil))))) 5 (.take 1 (.take 3 (.take 6 (.take 7 (.take 8 .nil)))))) 5 (.both 1 (.both 3 (.take 4 (.take 6 (.take 7 (.take 8 .nil)))) 4 (.take 3 (.take 6 (.take 7 (.take 8 .nil))))) 4 (.take 1 (.take 3 (.take 6 (.take 7 (.take 8 .nil))))))))) rfl (by decide) (by decide +kernel) ?_
    simp (disch := omega) only [Ac, ↓Pc, ↓reduceIte, reduceCtorEq, reduceEqDiff, Nat.reduceBEq, reduceAdd, Nat.reduceLT, reduceLeDiff, reduceMul, reduceNeg, Int.reduceLT, reduceLE, reduceToNat, planW_three, planW_both, planW_take, planW_nil, stepAt, stepD, eSc]
    repeat' (first | with_reducible refine And.intro ?_ ?_ | omega | with_reducible rfl)
    all_goals
      (refine callK_sel [] (hcl) (by decide) (by (repeat' (first | exact trivial | with_reducible refine And.intro ?_ ?_ | refine And.intro ?_ ?_)) <;> first | rfl | (rw [ints_ren]; rfl) | (rw [bools_ren]; rfl) | (rw [rows_ren]; rfl) | (rw [intss_ren]; rfl)) (by (repeat' (first | exact trivial | refine And.intro ?_ ?_)) <;> (first | exact .pure rfl | exact .eq rfl | exact .fz rfl (by simp only [Bc, Rc]))) ?_; simp (disch := omega) only [Ac, ↓Pc, ↓reduceIte, reduceCtorEq, reduceEqDiff, Nat.reduceBEq, reduceAdd, Nat.reduceLT, reduceLeDiff, reduceMul, reduceNeg, Int.reduceLT, reduceLE, reduceToNat, planW_three, planW_both, planW_take, planW_nil, stepAt, stepD, eSc])
      repeat' (first | with_reducible refine And.intro ?_ ?_ | omega | with_reducible rfl)
    all_goals
      (refine callK_sel [] (hcl) (by decide) (by (repeat' (first | exact trivial | with_reducible refine And.intro ?_ ?_ | refine And.intro ?_ ?_)) <;> first | rfl | (rw [ints_ren]; rfl) | (rw [bools_ren]; rfl) | (rw [rows_ren]; rfl) | (rw [intss_ren]; rfl)) (by (repeat' (first | exact trivial | refine And.intro ?_ ?_)) <;> (first | exact .pure rfl | exact .eq rfl | exact .fz rfl (by simp only [Bc, Rc]))) ?_; simp (disch := omega) only [Ac, ↓Pc, ↓reduceIte, reduceCtorEq, reduceEqDiff, Nat.reduceBEq, reduceAdd, Nat.reduceLT, reduceLeDiff, reduceMul, reduceNeg, Int.reduceLT, reduceLE, reduceToNat, planW_three, planW_both, planW_take, planW_nil, stepAt, stepD, eSc])
      repeat' (first | with_reducible refine And.intro ?_ ?_ | omega | with_reducible rfl)
    all_goals refine key _ ?_
    all_goals first | ((refine Turns.slots _ _ rfl ?_; simp only [Tc, ↓reduceIte, reduceEqDiff, Nat.reduceBEq, reduceAdd, eSc]; try trivial); done) | ((refine Turns.se [0, 1, 2, 4, 3] false (by simp only [Oc, reduceCtorEq, reduceAdd, Nat.reduceLT, reduceLeDiff, reduceEqDiff, ↓reduceIte, eSc]) ?_; simp only [Hr, ↓reduceIte, reduceEqDiff, Nat.reduceBEq, reduceAdd, eSc]; try (and_intros <;> first | exact .pure rfl | exact .eq rfl | exact .fz rfl (by simp only [Bc, Rc]))); done) | ((refine Turns.se [0, 1, 3, 2, 4] false (by simp only [Oc, reduceCtorEq, reduceAdd, Nat.reduceLT, reduceLeDiff, reduceEqDiff, ↓reduceIte, eSc]) ?_; simp only [Hr, ↓reduceIte, reduceEqDiff, Nat.reduceBEq, reduceAdd, eSc]; try (and_intros <;> first | exact .pure rfl | exact .eq rfl | exact .fz rfl (by simp only [Bc, Rc]))); done) | ((refine Turns.se [0, 1, 3, 4, 2] false (by simp only [Oc, reduceCtorEq, reduceAdd, Nat.reduceLT, reduceLeDiff, reduceEqDiff, ↓reduceIte, eSc]) ?_; simp only [Hr, ↓reduceIte, reduceEqDiff, Nat.reduceBEq, reduceAdd, eSc]; try (and_intros <;> first | exact .pure rfl | exact .eq rfl | exact .fz rfl (by simp only [Bc, Rc]))); done) | ((refine Turns.se [0, 1, 4, 2, 3] false (by simp only [Oc, reduceCtorEq, reduceAdd, Nat.reduceLT, reduceLeDiff, reduceEqDiff, ↓reduceIte, eSc]) ?_; simp only [Hr, ↓reduceIte, reduceEqDiff, Nat.reduceBEq, reduceAdd, eSc]; try (and_intros <;> first | exact .pure rfl | exact .eq rfl | exact .fz rfl (by simp only [Bc, Rc]))); done) | ((refine Turns.se [0, 1, 4, 3, 2] false (by simp only [Oc, reduceCtorEq, reduceAdd, Nat.reduceLT, reduceLeDiff, reduceEqDiff, ↓reduceIte, eSc]) ?_; simp only [Hr, ↓reduceIte, reduceEqDiff, Nat.reduceBEq, reduceAdd, eSc]; try (and_intros <;> first | exact .pure rfl | exact .eq rfl | exact .fz rfl (by simp only [Bc, Rc]))); done) | ((refine Turns.se [0, 1, 2, 3, 4] false (by simp only [Oc, reduceCtorEq, reduceAdd, Nat.reduceLT, reduceLeDiff, reduceEqDiff, ↓reduceIte, eSc]) ?_; simp only [Hr, ↓reduceIte, reduceEqDiff, Nat.reduceBEq, reduceAdd, eSc]; try (and_intros <;> first | exact .pure rfl | exact .eq rfl | exact .fz rfl (by simp only [Bc, Rc]))); done)
  clear hn he
  try clear Q
  repeat' (first | ((first | ((fail_if_success (first | refine W_at 12 ?_ | refine W_atE 12 ?_)); (first | refine rr ?_ | refine rre ?_); intro K hK) | with_reducible refine gO ?_); simp (disch := omega) only [Ac, ↓Pc, ↓reduceIte, reduceCtorEq, reduceEqDiff, Nat.reduceBEq, reduceAdd, Nat.reduceLT, reduceLeDiff, reduceMul, reduceNeg, Int.reduceLT, reduceLE, reduceToNat, eSc]) | (refine hK _ ?_; clear hK K) | (with_reducible refine gS (fun hb' => ?_) (fun hb' => ?_) <;> (have hb := hb'; (try simp only [DEc, reduceCtorEq] at hb); simp (disch := omega) only [Ac, ↓Pc, ↓reduceIte, reduceCtorEq, reduceEqDiff, Nat.reduceBEq, reduceAdd, Nat.reduceLT, reduceLeDiff, reduceMul, reduceNeg, Int.reduceLT, reduceLE, reduceToNat, eSc, hb']; clear hb')) | (refine Wc (fun ht => ?_) (fun ht => ?_) <;> (try simp only [DEc, reduceCtorEq] at ht)) | refine Wz rfl ?_ | (refine Wb ?_; intro Qb hnb hxb heb) | (refine Wk ?_; intro Q hn he) | ((first | refine hn _ ?_ | refine he _ _ rfl ?_); clear hn he; try clear Q) | ((first | refine hnb _ ?_ | refine hxb _ ?_ | refine heb _ _ rfl ?_); clear hnb hxb heb; try clear Qb) | (simp only [Qc, Kc, ↓reduceIte, reduceEqDiff, Nat.reduceBEq]) | with_reducible refine And.intro ?_ ?_ | omega | with_reducible rfl)
  refine callK_snap [] hrp (by decide) trivial ⟨.fz rfl rfl, .pure rfl, trivial⟩ rfl (sc_flat _) ?_
  simp (disch := omega) only [Ac, ↓Pc, ↓reduceIte, reduceCtorEq, reduceEqDiff, Nat.reduceBEq, reduceAdd, Nat.reduceLT, reduceLeDiff, reduceMul, reduceNeg, Int.reduceLT, reduceLE, reduceToNat, eSc]
  refine hK _ ?_; clear hK K
  repeat' (first | ((first | ((first | refine rr ?_ | refine rre ?_); intro K hK) | with_reducible refine gO ?_); simp (disch := omega) only [Ac, ↓Pc, ↓reduceIte, reduceCtorEq, reduceEqDiff, Nat.reduceBEq, reduceAdd, Nat.reduceLT, reduceLeDiff, reduceMul, reduceNeg, Int.reduceLT, reduceLE, reduceToNat, eSc]) | (refine hK _ ?_; clear hK K) | (with_reducible refine gS (fun hb' => ?_) (fun hb' => ?_) <;> (have hb := hb'; (try simp only [DEc, reduceCtorEq] at hb); simp (disch := omega) only [Ac, ↓Pc, ↓reduceIte, reduceCtorEq, reduceEqDiff, Nat.reduceBEq, reduceAdd, Nat.reduceLT, reduceLeDiff, reduceMul, reduceNeg, Int.reduceLT, reduceLE, reduceToNat, eSc, hb']; clear hb')) | (refine Wc (fun ht => ?_) (fun ht => ?_) <;> (try simp only [DEc, reduceCtorEq] at ht)) | refine Wz rfl ?_ | (refine Wb ?_; intro Qb hnb hxb heb) | (refine Wk ?_; intro Q hn he) | ((first | refine hn _ ?_ | refine he _ _ rfl ?_); clear hn he; try clear Q) | ((first | refine hnb _ ?_ | refine hxb _ ?_ | refine heb _ _ rfl ?_); clear hnb hxb heb; try clear Qb) | (simp only [Qc, Kc, ↓reduceIte, reduceEqDiff, Nat.reduceBEq]) | with_reducible refine And.intro ?_ ?_ | omega | with_reducible rfl)
  have hsl : s0.ls = List.replicate N S := by rw [← hl0']
  have hsb : s0.bs = plan := by rw [← hl0']
  have hst : s0.lt = S := by rw [← hl0']
  have hsp : s0.pl = plan := by rw [← hl0']
  have hsn : s0.nw = S := by rw [← hl0']
  have hsx : s0.x = seed := by rw [← hl0']
  refine W_loopS (fun z : Nat × LaS => (⟨slots [(3, .lit (.int .i64 (N : Nat))), (1, .tree 1 (ints plan)), (5, .ptr 0 0 0), (13, .ptr 1 0 0), (14, .ref 2 1 0 plan.length), (15, .ref 3 1 0 plan.length), (16, .ptr 4 0 0), (17, .ref 5 2 0 N), (18, .ptr 6 0 0), (69, .lit (.int .i64 (J : Nat))), (70, .lit (.int .i64 z.1))],
      [.var (eMdl m), .var (eSc z.2.nw), .arr 1 (ints z.2.pl), .arr 1 (ints z.2.bs), .var (eSc z.2.lt), .arr 2 (rowsOf eSc z.2.ls), .var [.lit (.int .i64 z.2.x)]]⟩ : St))
    (fun z => z.1 ≤ J ∧ LaI m plan.length N z.2 ∧ ((laL m (J - z.1) z.1 z.2).bs, 0) = res) (fun z => J - z.1) (0, s0) ⟨Nat.zero_le _, hi0, hres⟩ (by rw [hsl, hsb, hst, hsp, hsn, hsx]; first | ((refine Turns.se [0, 1, 2, 3, 4, 6, 7] false (by simp only [Oc, reduceCtorEq, reduceAdd, Nat.reduceLT, reduceLeDiff, reduceEqDiff, ↓reduceIte, eSc]) ?_; simp only [Hr, ↓reduceIte, reduceEqDiff, Nat.reduceBEq, reduceAdd, eSc]; try (and_intros <;> first | exact .pure rfl | exact .eq rfl | exact .fz rfl (by simp only [Bc, Rc]))); done)) ?_
  clear hl0 hl0' hsl hsb hst hsp hsn hsx hi0 hres hrp hcl hsc
  rintro ⟨k, z⟩ ⟨hk, hi, hr⟩ Ql hnl hel
  dsimp only at hk hi hr ⊢
  by_cases hk' : (k : Int) < (J : Nat)
  · obtain ⟨f, hf⟩ : ∃ f, J - k = f + 1 := ⟨J - k - 1, by omega⟩
    have hf2 : f = J - (k + 1) := by omega
    rw [hf, laL, hf2] at hr
    have hst := hi.step (by omega) k
    obtain ⟨c1, c2⟩ := hi.c (by omega)
    obtain ⟨o1, o2, o3⟩ := hi.o (by omega)
    have g1 := gen_ok z.x plan.length hi.x (by omega)
    have g2 := gen_ok (gN z.x) (m.cls.getD (laC z) default).length (gN_rg _) (by omega)
    rw [← c2] at g1
    have hoe : gN (gN z.x) / 65536 % ((m.cls.getD (laC z) default).length : Int) = laO m z := rfl
    rw [hoe] at g2
    have hT : FP m (laT m z) := hi.pl.set o1
    have hsc := scoreOf_ok m (laT m z) hm hT
    have hTe : laT m z = z.pl.set (laC z) (laO m z) := rfl
    have hN : 0 < N := by omega
    have hmod : (((k : Nat) : Int).tmod ((N : Nat) : Int)) = ((k % N : Nat) : Int) := by rw [tmodE (by omega)]; rfl
    have hil : k % N < N := Nat.mod_lt _ hN
    have hln := hi.ln
    have hpn := hi.pn
    have hbn := hi.bn
    have hst1 : laStep m k z = ⟨laP m k z, laN m k z, z.ls.set (k % N) (laN m k z), if scLess (laN m k z) z.lt = true then laP m k z else z.bs, if scLess (laN m k z) z.lt = true then laN m k z else z.lt, gN (gN z.x)⟩ := by unfold laStep; rw [hln]
    have hpp : laP m k z = if (scLess z.nw (scV m (laT m z)) && scLess (z.ls.getD (k % N) default) (scV m (laT m z))) = true then z.pl else laT m z := by unfold laP laQ; rw [hln]; rfl
    have hnn : laN m k z = if (scLess z.nw (scV m (laT m z)) && scLess (z.ls.getD (k % N) default) (scV m (laT m z))) = true then z.nw else scV m (laT m z) := by unfold laN laQ; rw [hln]; rfl
    have hl1 := less_ok z.nw (scV m (laT m z))
    have hl2 := less_ok (z.ls.getD (k % N) default) (scV m (laT m z))
    have hl3 := less_ok (laN m k z) z.lt
    rw [hst1] at hr hst
    clear hst1
    have hgt : (laT m z).length = plan.length := by rw [hTe, List.length_set]; exact hpn
    have hold : (laT m z).set (laC z) (z.pl.getD (laC z) 0) = z.pl := by rw [hTe, List.set_set]; exact set_same _ _
    generalize laP m k z = p' at *
    generalize laN m k z = n' at *
    generalize laT m z = T at *
    generalize scV m T = R at *
    generalize laO m z = o at *
    generalize laC z = c at *
    generalize k % N = i at *
    repeat' (first | ((first | ((first | refine rr ?_ | refine rre ?_); intro K hK) | with_reducible refine gO ?_); simp (disch := omega) only [Ac, ↓Pc, ↓reduceIte, reduceCtorEq, reduceEqDiff, Nat.reduceBEq, reduceAdd, Nat.reduceLT, reduceLeDiff, reduceMul, reduceNeg, Int.reduceLT, reduceLE, reduceToNat, eSc]) | (refine hK _ ?_; clear hK K) | (with_reducible refine gS (fun hb' => ?_) (fun hb' => ?_) <;> (have hb := hb'; (try simp only [DEc, reduceCtorEq] at hb); simp (disch := omega) only [Ac, ↓Pc, ↓reduceIte, reduceCtorEq, reduceEqDiff, Nat.reduceBEq, reduceAdd, Nat.reduceLT, reduceLeDiff, reduceMul, reduceNeg, Int.reduceLT, reduceLE, reduceToNat, eSc, hb']; clear hb')) | (refine Wc (fun ht => ?_) (fun ht => ?_) <;> (try simp only [DEc, reduceCtorEq] at ht)) | refine Wz rfl ?_ | (refine Wb ?_; intro Qb hnb hxb heb) | (refine Wk ?_; intro Q hn he) | ((first | refine hn _ ?_ | refine he _ _ rfl ?_); clear hn he; try clear Q) | ((first | refine hnb _ ?_ | refine hxb _ ?_ | refine heb _ _ rfl ?_); clear hnb hxb heb; try clear Qb) | (simp only [Qc, Kc, ↓reduceIte, reduceEqDiff, Nat.reduceBEq]) | with_reducible refine And.intro ?_ ?_ | omega | with_reducible rfl)
    (refine callK_sel [6] (g1) (by decide) (by (repeat' (first | exact trivial | with_reducible refine And.intro ?_ ?_ | refine And.intro ?_ ?_)) <;> first | rfl | (rw [ints_ren]; rfl) | (rw [bools_ren]; rfl) | (rw [rows_ren]; rfl) | (rw [intss_ren]; rfl)) (by (repeat' (first | exact trivial | refine And.intro ?_ ?_)) <;> (first | exact .pure rfl | exact .eq rfl | exact .fz rfl (by simp only [Bc, Rc]))) ?_; simp (disch := omega) only [Ac, ↓Pc, ↓reduceIte, reduceCtorEq, reduceEqDiff, Nat.reduceBEq, reduceAdd, Nat.reduceLT, reduceLeDiff, reduceMul, reduceNeg, Int.reduceLT, reduceLE, reduceToNat])
    repeat' (first | ((first | ((first | refine rr ?_ | refine rre ?_); intro K hK) | with_reducible refine gO ?_); simp (disch := omega) only [Ac, ↓Pc, ↓reduceIte, reduceCtorEq, reduceEqDiff, Nat.reduceBEq, reduceAdd, Nat.reduceLT, reduceLeDiff, reduceMul, reduceNeg, Int.reduceLT, reduceLE, reduceToNat, eSc]) | (refine hK _ ?_; clear hK K) | (with_reducible refine gS (fun hb' => ?_) (fun hb' => ?_) <;> (have hb := hb'; (try simp only [DEc, reduceCtorEq] at hb); simp (disch := omega) only [Ac, ↓Pc, ↓reduceIte, reduceCtorEq, reduceEqDiff, Nat.reduceBEq, reduceAdd, Nat.reduceLT, reduceLeDiff, reduceMul, reduceNeg, Int.reduceLT, reduceLE, reduceToNat, eSc, hb']; clear hb')) | (refine Wc (fun ht => ?_) (fun ht => ?_) <;> (try simp only [DEc, reduceCtorEq] at ht)) | refine Wz rfl ?_ | (refine Wb ?_; intro Qb hnb hxb heb) | (refine Wk ?_; intro Q hn he) | ((first | refine hn _ ?_ | refine he _ _ rfl ?_); clear hn he; try clear Q) | ((first | refine hnb _ ?_ | refine hxb _ ?_ | refine heb _ _ rfl ?_); clear hnb hxb heb; try clear Qb) | (simp only [Qc, Kc, ↓reduceIte, reduceEqDiff, Nat.reduceBEq]) | with_reducible refine And.intro ?_ ?_ | omega | with_reducible rfl)
    (refine callK_sel [6] (g2) (by decide) (by (repeat' (first | exact trivial | with_reducible refine And.intro ?_ ?_ | refine And.intro ?_ ?_)) <;> first | rfl | (rw [ints_ren]; rfl) | (rw [bools_ren]; rfl) | (rw [rows_ren]; rfl) | (rw [intss_ren]; rfl)) (by (repeat' (first | exact trivial | refine And.intro ?_ ?_)) <;> (first | exact .pure rfl | exact .eq rfl | exact .fz rfl (by simp only [Bc, Rc]))) ?_; simp (disch := omega) only [Ac, ↓Pc, ↓reduceIte, reduceCtorEq, reduceEqDiff, Nat.reduceBEq, reduceAdd, Nat.reduceLT, reduceLeDiff, reduceMul, reduceNeg, Int.reduceLT, reduceLE, reduceToNat])
    repeat' (first | ((first | ((first | refine rr ?_ | refine rre ?_); intro K hK) | with_reducible refine gO ?_); simp (disch := omega) only [Ac, ↓Pc, ↓reduceIte, reduceCtorEq, reduceEqDiff, Nat.reduceBEq, reduceAdd, Nat.reduceLT, reduceLeDiff, reduceMul, reduceNeg, Int.reduceLT, reduceLE, reduceToNat, eSc, ints_set, hpn]) | (refine hK _ ?_; clear hK K) | (with_reducible refine gS (fun hb' => ?_) (fun hb' => ?_) <;> (have hb := hb'; (try simp only [DEc, reduceCtorEq] at hb); simp (disch := omega) only [Ac, ↓Pc, ↓reduceIte, reduceCtorEq, reduceEqDiff, Nat.reduceBEq, reduceAdd, Nat.reduceLT, reduceLeDiff, reduceMul, reduceNeg, Int.reduceLT, reduceLE, reduceToNat, eSc, ints_set, hpn, hb']; clear hb')) | (refine Wc (fun ht => ?_) (fun ht => ?_) <;> (try simp only [DEc, reduceCtorEq] at ht)) | refine Wz rfl ?_ | (refine Wb ?_; intro Qb hnb hxb heb) | (refine Wk ?_; intro Q hn he) | ((first | refine hn _ ?_ | refine he _ _ rfl ?_); clear hn he; try clear Q) | ((first | refine hnb _ ?_ | refine hxb _ ?_ | refine heb _ _ rfl ?_); clear hnb hxb heb; try clear Qb) | (simp only [Qc, Kc, ↓reduceIte, reduceEqDiff, Nat.reduceBEq]) | with_reducible refine And.intro ?_ ?_ | omega | with_reducible rfl)
    rw [← hTe]
    refine callK_snap [] hsc (by decide) trivial ⟨.pure rfl, ArgR.frz (rows := ints T) rfl (ints_wid _) (by simp only [Bc, Rc]; omega) (by decide) (ints_frz _), trivial⟩ rfl (by simp) ?_
    repeat' (first | ((first | ((fail_if_success (first | refine W_at 20 ?_ | refine W_atE 20 ?_)); (first | refine rr ?_ | refine rre ?_); intro K hK) | with_reducible refine gO ?_); simp (disch := omega) only [Ac, ↓Pc, ↓reduceIte, reduceCtorEq, reduceEqDiff, Nat.reduceBEq, reduceAdd, Nat.reduceLT, reduceLeDiff, reduceMul, reduceNeg, Int.reduceLT, reduceLE, reduceToNat, eSc]) | (refine hK _ ?_; clear hK K) | (with_reducible refine gS (fun hb' => ?_) (fun hb' => ?_) <;> (have hb := hb'; (try simp only [DEc, reduceCtorEq] at hb); simp (disch := omega) only [Ac, ↓Pc, ↓reduceIte, reduceCtorEq, reduceEqDiff, Nat.reduceBEq, reduceAdd, Nat.reduceLT, reduceLeDiff, reduceMul, reduceNeg, Int.reduceLT, reduceLE, reduceToNat, eSc, hb']; clear hb')) | (refine Wc (fun ht => ?_) (fun ht => ?_) <;> (try simp only [DEc, reduceCtorEq] at ht)) | refine Wz rfl ?_ | (refine Wb ?_; intro Qb hnb hxb heb) | (refine Wk ?_; intro Q hn he) | ((first | refine hn _ ?_ | refine he _ _ rfl ?_); clear hn he; try clear Q) | ((first | refine hnb _ ?_ | refine hxb _ ?_ | refine heb _ _ rfl ?_); clear hnb hxb heb; try clear Qb) | (simp only [Qc, Kc, ↓reduceIte, reduceEqDiff, Nat.reduceBEq]) | with_reducible refine And.intro ?_ ?_ | omega | with_reducible rfl)
    generalize hovr : z.pl.getD c 0 = old at *
    generalize hgi : z.ls.getD i default = L at *
    have hlr := rows_get (enc := eSc) z.ls i (by omega)
    have hlg := rows_getD (enc := eSc) z.ls i (by omega)
    rw [hgi] at hlr hlg
    have hrl : (rowsOf eSc z.ls).length = N := by rw [rows_length, hln]
    refine W_turn (σ' := ⟨slots [(3, .lit (.int .i64 (N : Nat))), (1, .tree 1 (ints plan)), (5, .ptr 0 0 0), (13, .ptr 1 0 0), (14, .ref 2 1 0 plan.length), (15, .ref 3 1 0 plan.length), (16, .ptr 4 0 0), (17, .ref 5 2 0 N), (18, .ptr 6 0 0), (69, .lit (.int .i64 (J : Nat))), (70, .lit (.int .i64 k)), (19, .lit (.int .i64 k)), (20, .lit (.int .i64 c)), (22, .lit (.int .i64 old)), (23, .ptr 7 0 0)],
      [.var (eMdl m), .var (eSc z.nw), .arr 1 (ints T), .arr 1 (ints z.bs), .var (eSc z.lt), .arr 2 (rowsOf eSc z.ls), .var [.lit (.int .i64 (gN (gN z.x)))], .var (eSc R)]⟩) (by (refine Turns.slots _ _ rfl ?_; simp only [Tc, ↓reduceIte, reduceEqDiff, Nat.reduceBEq, reduceAdd, eSc]; try trivial)) ?_
    generalize hB1 : scLess z.nw R = B1 at *
    generalize hB2 : scLess L R = B2 at *
    generalize hB3 : scLess n' z.lt = B3 at *
    have e := rows_set (enc := eSc) z.ls i n'
    simp only [eSc] at e
    have k1 : (ints T).take plan.length = ints T := by rw [← hgt]; exact ints_take _
    have k2 : (ints T).length = plan.length := by rw [ints_length]; exact hgt
    have k3 : (ints z.pl).take plan.length = ints z.pl := by rw [← hpn]; exact ints_take _
    have k4 : (ints z.pl).length = plan.length := by rw [ints_length]; exact hpn
    have k5 : (ints z.bs).drop plan.length = [] := List.drop_eq_nil_of_le (by rw [ints_length]; omega)
    cases B1 <;> cases B2 <;> cases B3
    all_goals
      simp only [Bool.and_true, Bool.and_false, Bool.false_eq_true, if_true, if_false, ↓reduceIte] at hpp hnn hr hst
      subst hpp
      subst hnn
    all_goals
      repeat' (first | ((first | ((first | refine rr ?_ | refine rre ?_ | refine rb ?_ | refine rbe ?_ | refine ra ?_ | refine rae ?_); intro K hK) | with_reducible refine gO ?_); simp (disch := omega) only [Ac, ↓Pc, ↓reduceIte, reduceCtorEq, reduceEqDiff, Nat.reduceBEq, reduceAdd, Nat.reduceLT, reduceLeDiff, reduceMul, reduceNeg, Int.reduceLT, reduceLE, reduceToNat, eSc, hmod, hlg, hrl, ints_set, hgi, hold, k1, k2, k3, k4, k5, Nat.min_self]) | (first | refine callK_pure (hl1) rfl rfl ?_ | refine callQ_pure (hl1) rfl rfl ?_) | (first | refine callK_pure (hl2) rfl rfl ?_ | refine callQ_pure (hl2) rfl rfl ?_) | (first | refine callK_pure (hl3) rfl rfl ?_ | refine callQ_pure (hl3) rfl rfl ?_) | (refine hK _ ?_; clear hK K) | (with_reducible refine gS (fun hb' => ?_) (fun hb' => ?_) <;> (have hb := hb'; (try simp only [DEc, reduceCtorEq] at hb); simp (disch := omega) only [Ac, ↓Pc, ↓reduceIte, reduceCtorEq, reduceEqDiff, Nat.reduceBEq, reduceAdd, Nat.reduceLT, reduceLeDiff, reduceMul, reduceNeg, Int.reduceLT, reduceLE, reduceToNat, eSc, hmod, hlg, hrl, ints_set, hgi, hold, k1, k2, k3, k4, k5, Nat.min_self, hb']; clear hb')) | (refine Wc (fun ht => ?_) (fun ht => ?_) <;> (try simp only [DEc, reduceCtorEq] at ht)) | refine Wz rfl ?_ | (refine Wb ?_; intro Qb hnb hxb heb) | (refine Wk ?_; intro Q hn he) | ((first | refine hn _ ?_ | refine he _ _ rfl ?_); clear hn he; try clear Q) | ((first | refine hnb _ ?_ | refine hxb _ ?_ | refine heb _ _ rfl ?_); clear hnb hxb heb; try clear Qb) | (simp only [Qc, Kc, ↓reduceIte, reduceEqDiff, Nat.reduceBEq]) | with_reducible refine And.intro ?_ ?_ | omega | with_reducible rfl)
    all_goals
      simp only [e]
      exact hnl _ (k + 1, _) ⟨by dsimp only; omega, hst, hr⟩ (by dsimp only; omega) (by (refine Turns.se [0, 1, 2, 3, 4, 5, 6] false (by simp only [Oc, reduceCtorEq, reduceAdd, Nat.reduceLT, reduceLeDiff, reduceEqDiff, ↓reduceIte, eSc]) ?_; simp only [Hr, ↓reduceIte, reduceEqDiff, Nat.reduceBEq, reduceAdd, eSc]; try (and_intros <;> first | exact .pure rfl | exact .eq rfl | exact .fz rfl (by simp only [Bc, Rc]))))
  · have hkk : J - k = 0 := by omega
    rw [hkk, laL] at hr
    repeat' (first | ((first | ((first | refine rr ?_ | refine rre ?_); intro K hK) | with_reducible refine gO ?_); simp (disch := omega) only [Ac, ↓Pc, ↓reduceIte, reduceCtorEq, reduceEqDiff, Nat.reduceBEq, reduceAdd, Nat.reduceLT, reduceLeDiff, reduceMul, reduceNeg, Int.reduceLT, reduceLE, reduceToNat]) | (refine hK _ ?_; clear hK K) | (with_reducible refine gS (fun hb' => ?_) (fun hb' => ?_) <;> (have hb := hb'; (try simp only [DEc, reduceCtorEq] at hb); simp (disch := omega) only [Ac, ↓Pc, ↓reduceIte, reduceCtorEq, reduceEqDiff, Nat.reduceBEq, reduceAdd, Nat.reduceLT, reduceLeDiff, reduceMul, reduceNeg, Int.reduceLT, reduceLE, reduceToNat, hb']; clear hb')) | (refine Wc (fun ht => ?_) (fun ht => ?_) <;> (try simp only [DEc, reduceCtorEq] at ht)) | refine Wz rfl ?_ | (refine Wb ?_; intro Qb hnb hxb heb) | (refine Wk ?_; intro Q hn he) | ((first | refine hn _ ?_ | refine he _ _ rfl ?_); clear hn he; try clear Q) | ((first | refine hnb _ ?_ | refine hxb _ ?_ | refine heb _ _ rfl ?_); clear hnb hxb heb; try clear Qb) | (simp only [Qc, Kc, ↓reduceIte, reduceEqDiff, Nat.reduceBEq]) | with_reducible refine And.intro ?_ ?_ | omega | with_reducible rfl)
    refine hel _ _ rfl ?_; clear hnl hel Ql
    repeat (first | ((first | refine hn _ ?_ | refine he _ _ rfl ?_); clear hn he; try clear Q) | ((first | refine hnb _ ?_ | refine hxb _ ?_ | refine heb _ _ rfl ?_); clear hnb hxb heb; try clear Qb) | (refine hel _ _ rfl ?_; clear hnl hel; try clear Ql))
    repeat' (first | ((first | ((first | refine rr ?_ | refine rre ?_); intro K hK) | with_reducible refine gO ?_); simp (disch := omega) only [Ac, ↓Pc, ↓reduceIte, reduceCtorEq, reduceEqDiff, Nat.reduceBEq, reduceAdd, Nat.reduceLT, reduceLeDiff, reduceMul, reduceNeg, Int.reduceLT, reduceLE, reduceToNat]) | (refine hK _ ?_; clear hK K) | (with_reducible refine gS (fun hb' => ?_) (fun hb' => ?_) <;> (have hb := hb'; (try simp only [DEc, reduceCtorEq] at hb); simp (disch := omega) only [Ac, ↓Pc, ↓reduceIte, reduceCtorEq, reduceEqDiff, Nat.reduceBEq, reduceAdd, Nat.reduceLT, reduceLeDiff, reduceMul, reduceNeg, Int.reduceLT, reduceLE, reduceToNat, hb']; clear hb')) | (refine Wc (fun ht => ?_) (fun ht => ?_) <;> (try simp only [DEc, reduceCtorEq] at ht)) | refine Wz rfl ?_ | (refine Wb ?_; intro Qb hnb hxb heb) | (refine Wk ?_; intro Q hn he) | ((first | refine hn _ ?_ | refine he _ _ rfl ?_); clear hn he; try clear Q) | ((first | refine hnb _ ?_ | refine hxb _ ?_ | refine heb _ _ rfl ?_); clear hnb hxb heb; try clear Qb) | (refine hel _ _ rfl ?_; clear hnl hel; try clear Ql) | (simp only [Qc, Kc, ↓reduceIte, reduceEqDiff, Nat.reduceBEq]) | with_reducible refine And.intro ?_ ?_ | omega | with_reducible rfl)
    rw [← hr]
    refine RetOK_sel [] true (by decide) trivial (by decide) (by decide) (tup2b ?_ (.pure rfl))
    rw [← hi.bn]
    first | exact .pure rfl | exact .eq rfl | exact .fz rfl (by simp only [Bc, Rc])
end T

