import Derived.Test.YtncfieaimmpapaaLO
import Derived.Test.YtncfieaimmpapaaL2
set_option linter.unusedVariables false
set_option linter.unusedSimpArgs false
open Go Go.Am Go.Proofs
open Nat (reduceEqDiff reduceAdd reduceLeDiff reduceMul)
open Int (reduceNeg reduceLE reduceToNat)
set_option maxRecDepth 20000
namespace T
theorem u64min : IntKind.u64.min = 0 := rfl
theorem u64max : IntKind.u64.max = 18446744073709551615 := rfl
theorem u64bits : IntKind.u64.bits = 64 := rfl
theorem p32 : (2 : Int) ^ (32 : Nat) = 4294967296 := rfl
theorem wrapU {n : Int} (h : 0 ≤ n ∧ n ≤ 18446744073709551615) : IntKind.u64.wrap n = n := wrap_in h
theorem wrapI {n : Int} (h : -9223372036854775808 ≤ n ∧ n ≤ 9223372036854775807) : IntKind.i64.wrap n = n := wrap_in h
theorem andU {a : Int} (h : 0 ≤ a ∧ a ≤ 18446744073709551615) : andK .u64 a 4294967295 = a % 4294967296 := by
  unfold andK
  have e : (BitVec.ofInt IntKind.u64.bits a &&& BitVec.ofInt IntKind.u64.bits 4294967295).toNat = a.toNat % 4294967296 := by
    rw [BitVec.toNat_and, BitVec.toNat_ofInt, BitVec.toNat_ofInt]
    have h1 : (a % ((2 ^ IntKind.u64.bits : Nat) : Int)).toNat = a.toNat := by rw [Int.emod_eq_of_lt h.1 (by show a < 18446744073709551616; omega)]
    have h2 : ((4294967295 : Int) % ((2 ^ IntKind.u64.bits : Nat) : Int)).toNat = 2 ^ 32 - 1 := by decide
    rw [h1, h2, Nat.and_two_pow_sub_one_eq_mod]
  rw [e]
  rw [wrap_in (by simp only [u64min, u64max]; omega)]
  omega
theorem unI : Try.prog.underlying 3 = some (.int .i64) := by kernel_rfl
theorem unU : Try.prog.underlying 138 = some (.int .u64) := by kernel_rfl
theorem mul64_ok (y : Int) (hy : 0 ≤ y ∧ y ≤ 9223372036854775807) : Holds Try.prog 98 [.lit (.int .u64 1), .lit (.int .u64 y)] [] (.tup [.lit (.int .u64 0), .lit (.int .u64 y)]) [] := by
  refine Holds.of_body' (fn := Try.f98) 51 0 [.tmp 4, .tmp 5] Try.func98 rfl rfl rfl rfl rfl (by simp) ?_
  repeat' (first | ((first | ((first | refine rr ?_ | refine rre ?_); intro K hK) | with_reducible refine gO ?_); simp (disch := omega) only [Ac, ↓Pc, ↓reduceIte, reduceCtorEq, reduceEqDiff, Nat.reduceBEq, reduceAdd, Nat.reduceLT, reduceLeDiff, reduceMul, reduceNeg, Int.reduceLT, reduceLE, reduceToNat, u64min, u64max, u64bits, p32, andU, Int.one_mul, Int.zero_mul]) | (refine hK _ ?_; clear hK K) | (with_reducible refine gS (fun hb' => ?_) (fun hb' => ?_) <;> (have hb := hb'; (try simp only [DEc, reduceCtorEq] at hb); simp (disch := omega) only [Ac, ↓Pc, ↓reduceIte, reduceCtorEq, reduceEqDiff, Nat.reduceBEq, reduceAdd, Nat.reduceLT, reduceLeDiff, reduceMul, reduceNeg, Int.reduceLT, reduceLE, reduceToNat, u64min, u64max, u64bits, p32, andU, Int.one_mul, Int.zero_mul, hb']; clear hb')) | (refine Wc (fun ht => ?_) (fun ht => ?_) <;> (try simp only [DEc, reduceCtorEq] at ht)) | refine Wz rfl ?_ | (refine Wb ?_; intro Qb hnb hxb heb) | (refine Wk ?_; intro Q hn he) | ((first | refine hn _ ?_ | refine he _ _ rfl ?_); clear hn he; try clear Q) | ((first | refine hnb _ ?_ | refine hxb _ ?_ | refine heb _ _ rfl ?_); clear hnb hxb heb; try clear Qb) | (refine hel _ _ rfl ?_; clear hnl hel; try clear Ql) | (simp only [Qc, Kc, ↓reduceIte, reduceEqDiff, Nat.reduceBEq]) | with_reducible refine And.intro ?_ ?_ | omega | with_reducible rfl)
  refine RetOK_pure' rfl ?_
  congr 3
  all_goals first | rfl | (congr 2; omega)
theorem mul_ok (y : Int) (hy : 0 ≤ y ∧ y ≤ 9223372036854775807) : Holds Try.prog 82 [.lit (.int .u64 1), .lit (.int .u64 y)] [] (.tup [.lit (.int .u64 0), .lit (.int .u64 y)]) [] := by
  refine Holds.of_body' (fn := Try.f82) 30 0 [.tmp 4, .tmp 5] Try.func82 rfl rfl rfl rfl rfl (by simp) ?_
  repeat' (first | ((first | ((first | refine rr ?_ | refine rre ?_ | refine rb ?_ | refine rbe ?_ | refine ra ?_ | refine rae ?_); intro K hK) | with_reducible refine gO ?_); simp (disch := omega) only [Ac, ↓Pc, ↓reduceIte, reduceCtorEq, reduceEqDiff, Nat.reduceBEq, reduceAdd, Nat.reduceLT, reduceLeDiff, reduceMul, reduceNeg, Int.reduceLT, reduceLE, reduceToNat, u64min, u64max]) | (first | refine callK_pure (mul64_ok y hy) rfl rfl ?_ | refine callQ_pure (mul64_ok y hy) rfl rfl ?_) | (refine hK _ ?_; clear hK K) | (with_reducible refine gS (fun hb' => ?_) (fun hb' => ?_) <;> (have hb := hb'; (try simp only [DEc, reduceCtorEq] at hb); simp (disch := omega) only [Ac, ↓Pc, ↓reduceIte, reduceCtorEq, reduceEqDiff, Nat.reduceBEq, reduceAdd, Nat.reduceLT, reduceLeDiff, reduceMul, reduceNeg, Int.reduceLT, reduceLE, reduceToNat, u64min, u64max, hb']; clear hb')) | (refine Wc (fun ht => ?_) (fun ht => ?_) <;> (try simp only [DEc, reduceCtorEq] at ht)) | refine Wz rfl ?_ | (refine Wb ?_; intro Qb hnb hxb heb) | (refine Wk ?_; intro Q hn he) | ((first | refine hn _ ?_ | refine he _ _ rfl ?_); clear hn he; try clear Q) | ((first | refine hnb _ ?_ | refine hxb _ ?_ | refine heb _ _ rfl ?_); clear hnb hxb heb; try clear Qb) | (refine hel _ _ rfl ?_; clear hnl hel; try clear Ql) | (simp only [Qc, Kc, ↓reduceIte, reduceEqDiff, Nat.reduceBEq]) | with_reducible refine And.intro ?_ ?_ | omega | with_reducible rfl)
  exact RetOK_pure' rfl rfl
instance : Row eSc 2 := ⟨fun _ => rfl, fun x v hv => by
  simp only [eSc, List.mem_cons, List.not_mem_nil, or_false] at hv
  rcases hv with rfl | rfl <;> exact .inl ⟨_, rfl, rfl⟩⟩
def repS (n i : Nat) (s : SC) : List SC := List.replicate i s ++ List.replicate (n - i) (0, 0)
theorem repS_take {n i j : Nat} {s : SC} (h : j ≤ i) : (rowsOf eSc (repS n i s)).take j = rowsOf eSc (List.replicate j s) := by
  unfold repS rowsOf
  rw [← List.map_take, List.take_append_of_le_length (by simp; omega), List.take_replicate, Nat.min_eq_left h]
theorem repS_copy {n i j : Nat} {s : SC} (h : i + j ≤ n) (hj : j ≤ i) : rowsOf eSc (List.replicate i s) ++ List.take j (rowsOf eSc (List.replicate i s)) ++ List.drop (i + j) (rowsOf eSc (repS n i s)) = rowsOf eSc (repS n (i + j) s) := by
  unfold repS rowsOf
  rw [← List.map_take, ← List.map_drop, ← List.map_append, ← List.map_append, List.take_replicate, Nat.min_eq_left hj, List.drop_append, List.drop_eq_nil_of_le (by simp), List.drop_replicate, List.nil_append, List.replicate_append_replicate]
  congr 3
  simp; omega
theorem repS_len {n i : Nat} {s : SC} (h : i ≤ n) : (repS n i s).length = n := by simp [repS]; omega
theorem repeat_ok (s : SC) (n : Nat) (hn : n ≤ 1048576) : Holds Try.prog 57 [.tree 2 [eSc s], .lit (.int .i64 (n : Nat))] [] (.ref 0 2 0 n) [.arr 2 (rowsOf eSc (List.replicate n s))] := by
  have hm := mul_ok n (by omega)
  refine Holds.of_body' (fn := Try.f57) 48 0 [.tmp 4] Try.func57 rfl rfl rfl rfl rfl (by simp) ?_
  repeat' (first | ((first | ((first | refine rr ?_ | refine rre ?_ | refine rb ?_ | refine rbe ?_ | refine ra ?_ | refine rae ?_); intro K hK) | with_reducible refine gO ?_); simp (disch := omega) only [Ac, ↓Pc, ↓reduceIte, reduceCtorEq, reduceEqDiff, Nat.reduceBEq, reduceAdd, Nat.reduceLT, reduceLeDiff, reduceMul, reduceNeg, Int.reduceLT, reduceLE, reduceToNat, u64min, u64max, unI, unU, wrapU, wrapI, Option.isSome_some, row_scal]) | (first | refine callK_pure (hm) rfl rfl ?_ | refine callQ_pure (hm) rfl rfl ?_) | (refine hK _ ?_; clear hK K) | (with_reducible refine gS (fun hb' => ?_) (fun hb' => ?_) <;> (have hb := hb'; (try simp only [DEc, reduceCtorEq] at hb); simp (disch := omega) only [Ac, ↓Pc, ↓reduceIte, reduceCtorEq, reduceEqDiff, Nat.reduceBEq, reduceAdd, Nat.reduceLT, reduceLeDiff, reduceMul, reduceNeg, Int.reduceLT, reduceLE, reduceToNat, u64min, u64max, unI, unU, wrapU, wrapI, Option.isSome_some, row_scal, hb']; clear hb')) | (refine Wc (fun ht => ?_) (fun ht => ?_) <;> (try simp only [DEc, reduceCtorEq] at ht)) | refine Wz rfl ?_ | (refine Wb ?_; intro Qb hnb hxb heb) | (refine Wk ?_; intro Q hn he) | ((first | refine hn _ ?_ | refine he _ _ rfl ?_); clear hn he; try clear Q) | ((first | refine hnb _ ?_ | refine hxb _ ?_ | refine heb _ _ rfl ?_); clear hnb hxb heb; try clear Qb) | (simp only [Qc, Kc, ↓reduceIte, reduceEqDiff, Nat.reduceBEq]) | with_reducible refine And.intro ?_ ?_ | omega | with_reducible rfl)
  have e0 : List.take (min 1 n) [eSc s] ++ List.drop (min 1 n) (List.replicate n [AV.lit (Value.int IntKind.i64 0), AV.lit (Value.int IntKind.i64 0)]) = rowsOf eSc (repS n (min 1 n) s) := by
    unfold repS rowsOf
    rw [List.drop_replicate]
    rcases Nat.eq_zero_or_pos n with h | h
    · subst h; rfl
    · rw [Nat.min_eq_left h, List.map_append, List.map_replicate, List.map_replicate]; rfl
  rw [e0]
  refine W_loopS (fun i : Nat => (⟨slots [(7, .ref 0 2 0 n), (8, .lit (.int .i64 i))], [.arr 2 (rowsOf eSc (repS n i s))]⟩ : St)) (fun i => i ≤ n ∧ (i = 0 → n = 0)) (fun i => n - i) (min 1 n) ⟨by omega, by omega⟩ (by (refine Turns.slots _ _ rfl ?_; simp only [Tc, ↓reduceIte, reduceEqDiff, Nat.reduceBEq, reduceAdd]; try trivial)) ?_
  rintro i ⟨hi, hr⟩ Ql hnl hel
  by_cases hi' : i < n
  · have e1 : i + min i (n - i) ≤ n := by omega
    have hl := repS_len (s := s) hi
    repeat' (first | ((first | ((first | refine rr ?_ | refine rre ?_); intro K hK) | with_reducible refine gO ?_); simp (disch := omega) only [Ac, ↓Pc, ↓reduceIte, reduceCtorEq, reduceEqDiff, Nat.reduceBEq, reduceAdd, Nat.reduceLT, reduceLeDiff, reduceMul, reduceNeg, Int.reduceLT, reduceLE, reduceToNat, Option.map_none, List.drop_zero, repS_take (Nat.le_refl i), rows_length, List.length_replicate, rows_scal, hl]) | (refine hK _ ?_; clear hK K) | (with_reducible refine gS (fun hb' => ?_) (fun hb' => ?_) <;> (have hb := hb'; (try simp only [DEc, reduceCtorEq] at hb); simp (disch := omega) only [Ac, ↓Pc, ↓reduceIte, reduceCtorEq, reduceEqDiff, Nat.reduceBEq, reduceAdd, Nat.reduceLT, reduceLeDiff, reduceMul, reduceNeg, Int.reduceLT, reduceLE, reduceToNat, Option.map_none, List.drop_zero, repS_take (Nat.le_refl i), rows_length, List.length_replicate, rows_scal, hl, hb']; clear hb')) | (refine Wc (fun ht => ?_) (fun ht => ?_) <;> (try simp only [DEc, reduceCtorEq] at ht)) | refine Wz rfl ?_ | (refine Wb ?_; intro Qb hnb hxb heb) | (refine Wk ?_; intro Q hn he) | ((first | refine hn _ ?_ | refine he _ _ rfl ?_); clear hn he; try clear Q) | ((first | refine hnb _ ?_ | refine hxb _ ?_ | refine heb _ _ rfl ?_); clear hnb hxb heb; try clear Qb) | (simp only [Qc, Kc, ↓reduceIte, reduceEqDiff, Nat.reduceBEq]) | with_reducible refine And.intro ?_ ?_ | omega | with_reducible rfl)
    rw [repS_copy e1 (Nat.min_le_left _ _)]
    exact hnl _ (i + min i (n - i)) ⟨by omega, by omega⟩ (by omega) (by (refine Turns.slots _ _ rfl ?_; simp only [Tc, ↓reduceIte, reduceEqDiff, Nat.reduceBEq, reduceAdd]; try trivial))
  · obtain rfl : i = n := by omega
    repeat' (first | ((first | ((first | refine rr ?_ | refine rre ?_); intro K hK) | with_reducible refine gO ?_); simp (disch := omega) only [Ac, ↓Pc, ↓reduceIte, reduceCtorEq, reduceEqDiff, Nat.reduceBEq, reduceAdd, Nat.reduceLT, reduceLeDiff, reduceMul, reduceNeg, Int.reduceLT, reduceLE, reduceToNat]) | (refine hK _ ?_; clear hK K) | (with_reducible refine gS (fun hb' => ?_) (fun hb' => ?_) <;> (have hb := hb'; (try simp only [DEc, reduceCtorEq] at hb); simp (disch := omega) only [Ac, ↓Pc, ↓reduceIte, reduceCtorEq, reduceEqDiff, Nat.reduceBEq, reduceAdd, Nat.reduceLT, reduceLeDiff, reduceMul, reduceNeg, Int.reduceLT, reduceLE, reduceToNat, hb']; clear hb')) | (refine Wc (fun ht => ?_) (fun ht => ?_) <;> (try simp only [DEc, reduceCtorEq] at ht)) | refine Wz rfl ?_ | (refine Wb ?_; intro Qb hnb hxb heb) | (refine Wk ?_; intro Q hn he) | ((first | refine hn _ ?_ | refine he _ _ rfl ?_); clear hn he; try clear Q) | ((first | refine hnb _ ?_ | refine hxb _ ?_ | refine heb _ _ rfl ?_); clear hnb hxb heb; try clear Qb) | (simp only [Qc, Kc, ↓reduceIte, reduceEqDiff, Nat.reduceBEq]) | with_reducible refine And.intro ?_ ?_ | omega | with_reducible rfl)
    refine hel _ _ rfl ?_; clear hnl hel Ql
    repeat (first | ((first | refine hn _ ?_ | refine he _ _ rfl ?_); clear hn he; try clear Q) | ((first | refine hnb _ ?_ | refine hxb _ ?_ | refine heb _ _ rfl ?_); clear hnb hxb heb; try clear Qb) | (refine hel _ _ rfl ?_; clear hnl hel; try clear Ql))
    repeat' (first | ((first | ((first | refine rr ?_ | refine rre ?_); intro K hK) | with_reducible refine gO ?_); simp (disch := omega) only [Ac, ↓Pc, ↓reduceIte, reduceCtorEq, reduceEqDiff, Nat.reduceBEq, reduceAdd, Nat.reduceLT, reduceLeDiff, reduceMul, reduceNeg, Int.reduceLT, reduceLE, reduceToNat]) | (refine hK _ ?_; clear hK K) | (with_reducible refine gS (fun hb' => ?_) (fun hb' => ?_) <;> (have hb := hb'; (try simp only [DEc, reduceCtorEq] at hb); simp (disch := omega) only [Ac, ↓Pc, ↓reduceIte, reduceCtorEq, reduceEqDiff, Nat.reduceBEq, reduceAdd, Nat.reduceLT, reduceLeDiff, reduceMul, reduceNeg, Int.reduceLT, reduceLE, reduceToNat, hb']; clear hb')) | (refine Wc (fun ht => ?_) (fun ht => ?_) <;> (try simp only [DEc, reduceCtorEq] at ht)) | refine Wz rfl ?_ | (refine Wb ?_; intro Qb hnb hxb heb) | (refine Wk ?_; intro Q hn he) | ((first | refine hn _ ?_ | refine he _ _ rfl ?_); clear hn he; try clear Q) | ((first | refine hnb _ ?_ | refine hxb _ ?_ | refine heb _ _ rfl ?_); clear hnb hxb heb; try clear Qb) | (refine hel _ _ rfl ?_; clear hnl hel; try clear Ql) | (simp only [Qc, Kc, ↓reduceIte, reduceEqDiff, Nat.reduceBEq]) | with_reducible refine And.intro ?_ ?_ | omega | with_reducible rfl)
    have e2 : repS i i s = List.replicate i s := by simp [repS]
    rw [e2]
    (refine RetOK_se [0] false (by simp only [Oc, reduceCtorEq, reduceAdd, Nat.reduceLT, reduceLeDiff, reduceEqDiff, ↓reduceIte]) ?_; first | exact .pure rfl | exact .eq rfl | exact .fz rfl (by simp only [Bc, Rc]))
end T

