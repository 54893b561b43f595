import Derived.Test.YtncfieaimmpapaaSA
import Derived.Test.YtncfieaimmpapaaC5
import Derived.Test.YtncfieaimmpapaaD1
set_option linter.unusedVariables false
set_option linter.unusedSimpArgs false
open Go Go.Am Go.Proofs
open Nat (reduceEqDiff reduceAdd reduceLeDiff reduceMul)
open Int (reduceNeg reduceLE reduceToNat)
set_option maxRecDepth 20000
namespace T
set_option maxRecDepth 10000 in
set_option maxHeartbeats 8000000 in
theorem entry_ok (m : Mdl) (p : Pr) (x y : Int) (hpb : pairB m p = true) (h24 : ∀ l ∈ m.cls, l.length ≤ 24) (hx : 0 ≤ x ∧ x < (m.cls.getD p.fst.toNat default).length) (hy : 0 ≤ y ∧ y < (m.cls.getD p.snd.toNat default).length) :
    Holds Try.prog 29 [.agg (eMdl m), .agg (ePr p), .lit (.int .i64 x), .lit (.int .i64 y)] [] (.lit (.int .i64 (entryV m p x y))) [] := by
  obtain ⟨q1, q2, q3, q4, q5⟩ := pairB_iff hpb
  have hla := h24 _ (getD_mem (l := m.cls) (i := p.fst.toNat) (d := default) (by omega))
  have hlb := h24 _ (getD_mem (l := m.cls) (i := p.snd.toNat) (d := default) (by omega))
  have hidx := entry_idx (x := x) (y := y) (a := (m.cls.getD p.fst.toNat default).length) (b := (m.cls.getD p.snd.toNat default).length) hx hy (by omega) (by omega)
  unfold entryV
  rw [← q5] at hidx
  generalize hbb : m.cls.getD p.snd.toNat default = lb at *
  generalize hxm : x * (lb.length : Int) = xm at *
  refine Holds.of_body' (fn := Try.f29) 24 0 [.tmp 8] Try.func29 rfl rfl rfl rfl rfl (by simp) ?_
  repeat' (first | ((first | ((first | refine rr ?_ | refine rre ?_); intro K hK) | with_reducible refine gO ?_); simp (disch := omega) only [Ac, ↓Pc, ↓reduceIte, reduceCtorEq, reduceEqDiff, Nat.reduceBEq, reduceAdd, Nat.reduceLT, reduceLeDiff, reduceMul, reduceNeg, Int.reduceLT, reduceLE, reduceToNat, hbb, hxm]) | (refine hK _ ?_; clear hK K) | (with_reducible refine gS (fun hb' => ?_) (fun hb' => ?_) <;> (have hb := hb'; (try simp only [DEc, reduceCtorEq] at hb); simp (disch := omega) only [Ac, ↓Pc, ↓reduceIte, reduceCtorEq, reduceEqDiff, Nat.reduceBEq, reduceAdd, Nat.reduceLT, reduceLeDiff, reduceMul, reduceNeg, Int.reduceLT, reduceLE, reduceToNat, hbb, hxm, hb']; clear hb')) | (refine Wc (fun ht => ?_) (fun ht => ?_) <;> (try simp only [DEc, reduceCtorEq] at ht)) | refine Wz rfl ?_ | (refine Wb ?_; intro Qb hnb hxb heb) | (refine Wk ?_; intro Q hn he) | ((first | refine hn _ ?_ | refine he _ _ rfl ?_); clear hn he; try clear Q) | ((first | refine hnb _ ?_ | refine hxb _ ?_ | refine heb _ _ rfl ?_); clear hnb hxb heb; try clear Qb) | (refine hel _ _ rfl ?_; clear hnl hel; try clear Ql) | (simp only [Qc, Kc, ↓reduceIte, reduceEqDiff, Nat.reduceBEq]) | with_reducible refine And.intro ?_ ?_ | omega | with_reducible rfl)
  exact RetOK_pure' rfl rfl
end T

