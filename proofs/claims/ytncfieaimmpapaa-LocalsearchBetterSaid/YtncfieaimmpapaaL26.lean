import Derived.Test.YtncfieaimmpapaaL20
import Derived.Test.YtncfieaimmpapaaL24
import Derived.Test.YtncfieaimmpapaaL25
set_option linter.unusedVariables false
set_option linter.unusedSimpArgs false
open Go Go.Am Go.Proofs
open Nat (reduceEqDiff reduceAdd reduceLeDiff reduceMul)
open Int (reduceNeg reduceLE reduceToNat)
set_option maxRecDepth 20000
namespace T
theorem scLess_no {s t u : SC} (h : scLess s t = false) (k : scLess t u = false) : scLess s u = false := by
  rw [← Bool.not_eq_true, scLess_iff] at *; omega
theorem laStep_lt (m : Mdl) (k : Nat) (s : LaS) : scLess s.lt (laStep m k s).lt = false := by
  unfold laStep
  dsimp only
  split
  · rename_i h
    rw [← Bool.not_eq_true]; rw [scLess_iff] at *; omega
  · exact scLess_irr _
theorem laL_lt (m : Mdl) : ∀ (f k : Nat) (s : LaS), scLess s.lt (laL m f k s).lt = false
  | 0, _, s => scLess_irr _
  | f + 1, k, s => scLess_no (laStep_lt m k s) (laL_lt m f (k + 1) _)
theorem laL_add (m : Mdl) : ∀ (f g k : Nat) (s : LaS), laL m (f + g) k s = laL m g (k + f) (laL m f k s)
  | 0, g, k, s => by rw [Nat.zero_add]; rfl
  | f + 1, g, k, s => by
    rw [show f + 1 + g = f + g + 1 by omega]
    show laL m (f + g) (k + 1) (laStep m k s) = _
    rw [laL_add m f g (k + 1), show k + 1 + f = k + (f + 1) by omega]; rfl
theorem better_law {m : Mdl} {p : List Int} (hm : VM m) (hp : FP m p) (h0 : p.length ≠ 0) (sd a b : Int) (hs : 0 ≤ sd ∧ sd < 65536) (ha : 0 ≤ a ∧ a < 30) (hb : 0 ≤ b ∧ b < 30) :
    ∃ x y, lateV m p sd 5 a = (x, 0) ∧ lateV m p sd 5 (a + b) = (y, 0) ∧ FP m x ∧ FP m y ∧ x.length = p.length ∧ y.length = p.length ∧ scLess (scV m p) (scV m x) = false ∧ scLess (scV m x) (scV m y) = false := by
  have hi : LaI m p.length 5 (la0 m p sd 5) := la0_ok hp (by omega) _
  have ha' := laL_ok (Nat.pos_of_ne_zero h0) a.toNat 0 _ hi
  have hb' := laL_ok (Nat.pos_of_ne_zero h0) (a + b).toNat 0 _ hi
  refine ⟨(laL m a.toNat 0 (la0 m p sd 5)).bs, (laL m (a + b).toNat 0 (la0 m p sd 5)).bs, ?_, ?_, ha'.bs, hb'.bs, ha'.bn, hb'.bn, ?_, ?_⟩
  · unfold lateV
    rw [if_neg (by rw [fp_com hm hp]; simp), if_neg h0, if_neg (by omega)]; rfl
  · unfold lateV
    rw [if_neg (by rw [fp_com hm hp]; simp), if_neg h0, if_neg (by omega)]; rfl
  · rw [← ha'.lt]
    exact laL_lt m _ _ (la0 m p sd 5)
  · rw [← ha'.lt, ← hb'.lt, show (a + b).toNat = a.toNat + b.toNat by omega, laL_add]
    exact laL_lt m _ _ _
set_option maxHeartbeats 16000000 in
theorem better_ok (tape : List Int) (sd few many : Int) (hsd : 0 ≤ sd ∧ sd < 65536) (hfew : 0 ≤ few ∧ few < 256) (hmany : 0 ≤ many ∧ many < 256) : Holds Try.prog 10 [.tree 1 (ints tape), .lit (.int .u16 sd), .lit (.int .u8 few), .lit (.int .u8 many)] [] (.lit (.bool true)) [] := by
  refine Holds.of_body' (fn := Try.f10) 113 0 [.tmp 8] Try.func10 rfl rfl rfl rfl rfl (by simp) ?_
  repeat' (first | ((first | ((first | refine rr ?_ | refine rre ?_ | refine rb ?_ | refine rbe ?_ | refine ra ?_ | refine rae ?_); intro K hK) | with_reducible refine gO ?_); simp (disch := omega) only [Ac, ↓Pc, ↓reduceIte, reduceCtorEq, reduceEqDiff, Nat.reduceBEq, reduceAdd, Nat.reduceLT, reduceLeDiff, reduceMul, reduceNeg, Int.reduceLT, reduceLE, reduceToNat]) | (first | refine callK_pure (light_ok _) rfl rfl ?_ | refine callQ_pure (light_ok _) rfl rfl ?_) | (first | refine callK_pure (awake_ok) rfl rfl ?_ | refine callQ_pure (awake_ok) rfl rfl ?_) | (refine hK _ ?_; clear hK K) | (with_reducible refine gS (fun hb' => ?_) (fun hb' => ?_) <;> (have hb := hb'; (try simp only [DEc, reduceCtorEq] at hb); simp (disch := omega) only [Ac, ↓Pc, ↓reduceIte, reduceCtorEq, reduceEqDiff, Nat.reduceBEq, reduceAdd, Nat.reduceLT, reduceLeDiff, reduceMul, reduceNeg, Int.reduceLT, reduceLE, reduceToNat, hb']; clear hb')) | (refine Wc (fun ht => ?_) (fun ht => ?_) <;> (try simp only [DEc, reduceCtorEq] at ht)) | refine Wz rfl ?_ | (refine Wb ?_; intro Qb hnb hxb heb) | (refine Wk ?_; intro Q hn he) | ((first | refine hn _ ?_ | refine he _ _ rfl ?_); clear hn he; try clear Q) | ((first | refine hnb _ ?_ | refine hxb _ ?_ | refine heb _ _ rfl ?_); clear hnb hxb heb; try clear Qb) | (refine hel _ _ rfl ?_; clear hnl hel; try clear Ql) | (simp only [Qc, Kc, ↓reduceIte, reduceEqDiff, Nat.reduceBEq]) | with_reducible refine And.intro ?_ ?_ | omega | with_reducible rfl)
  · exact RetOK_pure' rfl rfl
  have hL : tape.length < 1000000 := by omega
  (refine callK_sel [] (roll_ok tape) (by decide) (by (repeat' (first | exact trivial | with_reducible refine And.intro ?_ ?_ | refine And.intro ?_ ?_)) <;> first | rfl | (rw [ints_ren]; rfl) | (rw [bools_ren]; rfl) | (rw [rows_ren]; rfl) | (rw [intss_ren]; rfl)) (by (repeat' (first | exact trivial | refine And.intro ?_ ?_)) <;> (first | exact .pure rfl | exact .eq rfl | exact .fz rfl (by simp only [Bc, Rc]))) ?_; simp (disch := omega) only [Ac, ↓Pc, ↓reduceIte, reduceCtorEq, reduceEqDiff, Nat.reduceBEq, reduceAdd, Nat.reduceLT, reduceLeDiff, reduceMul, reduceNeg, Int.reduceLT, reduceLE, reduceToNat])
  refine hK _ ?_; clear hK K
  refine W_turn (σ' := ⟨slots [(1, .lit (.int .u16 sd)), (2, .lit (.int .u8 few)), (3, .lit (.int .u8 many)), (9, .ptr 0 0 0)], [dice tape 0]⟩) (by unfold dice; (refine Turns.slots _ _ rfl ?_; simp only [Tc, ↓reduceIte, reduceEqDiff, Nat.reduceBEq, reduceAdd]; try trivial)) ?_
  have hmod := model_ok tape 0 4 4 (Nat.zero_le _) hL (by decide) (by decide) (by decide)
  refine W_region_c 1 (by decide) _ rfl ?_
  intro K hK
  simp (disch := omega) only [Ac, ↓Pc, ↓reduceIte, reduceCtorEq, reduceEqDiff, Nat.reduceBEq, reduceAdd, Nat.reduceLT, reduceLeDiff, reduceMul, reduceNeg, Int.reduceLT, reduceLE, reduceToNat, List.take, List.drop]
  refine ⟨rfl, (show callKR Try.prog 24 [.ptr 0 0 0, .lit (.int .i64 (4 : Nat)), .lit (.int .i64 (4 : Nat))] (some 29) _ _ from ?_)⟩
  refine callKR_sel [0] hmod (by decide) ⟨rfl, trivial⟩ ⟨.eq rfl, .pure rfl, .pure rfl, trivial⟩ ?_
  rintro r os ⟨m, k, hm, hk, rfl, rfl⟩
  have hvm := hm.vm
  unfold dice
  simp (disch := omega) only [Ac, ↓Pc, ↓reduceIte, reduceCtorEq, reduceEqDiff, Nat.reduceBEq, reduceAdd, Nat.reduceLT, reduceLeDiff, reduceMul, reduceNeg, Int.reduceLT, reduceLE, reduceToNat]
  refine hK _ ?_; clear hK K
  have h3 := plan_ok m hvm tape k true hk hL
  obtain ⟨hpm, hp0, hk3⟩ := plan_pm (L := tape) (b := true) (m := m) (k := k) (fun _ l hl => (hm.some l hl).1) hk
  generalize planF tape true m.cls k [] = pf at *
  obtain ⟨plan, k3⟩ := pf
  dsimp only at *
  have hfp : FP m plan := pm_fp hpm (hp0 rfl)
  have hplen : plan.length ≤ 24 := by have := hpm.len; have := hvm.cls; omega
  unfold dice at h3
  repeat' (first | ((first | ((first | refine rr ?_ | refine rre ?_); intro K hK) | with_reducible refine gO ?_); simp (disch := omega) only [Ac, ↓Pc, ↓reduceIte, reduceCtorEq, reduceEqDiff, Nat.reduceBEq, reduceAdd, Nat.reduceLT, reduceLeDiff, reduceMul, reduceNeg, Int.reduceLT, reduceLE, reduceToNat]) | (refine hK _ ?_; clear hK K) | (with_reducible refine gS (fun hb' => ?_) (fun hb' => ?_) <;> (have hb := hb'; (try simp only [DEc, reduceCtorEq] at hb); simp (disch := omega) only [Ac, ↓Pc, ↓reduceIte, reduceCtorEq, reduceEqDiff, Nat.reduceBEq, reduceAdd, Nat.reduceLT, reduceLeDiff, reduceMul, reduceNeg, Int.reduceLT, reduceLE, reduceToNat, hb']; clear hb')) | (refine Wc (fun ht => ?_) (fun ht => ?_) <;> (try simp only [DEc, reduceCtorEq] at ht)) | refine Wz rfl ?_ | (refine Wb ?_; intro Qb hnb hxb heb) | (refine Wk ?_; intro Q hn he) | ((first | refine hn _ ?_ | refine he _ _ rfl ?_); clear hn he; try clear Q) | ((first | refine hnb _ ?_ | refine hxb _ ?_ | refine heb _ _ rfl ?_); clear hnb hxb heb; try clear Qb) | (refine hel _ _ rfl ?_; clear hnl hel; try clear Ql) | (simp only [Qc, Kc, ↓reduceIte, reduceEqDiff, Nat.reduceBEq]) | with_reducible refine And.intro ?_ ?_ | omega | with_reducible rfl)
  (refine callK_sel [0] (h3) (by decide) (by (repeat' (first | exact trivial | with_reducible refine And.intro ?_ ?_ | refine And.intro ?_ ?_)) <;> first | rfl | (rw [ints_ren]; rfl) | (rw [bools_ren]; rfl) | (rw [rows_ren]; rfl) | (rw [intss_ren]; rfl)) (by (repeat' (first | exact trivial | refine And.intro ?_ ?_)) <;> (first | exact .pure rfl | exact .eq rfl | exact .fz rfl (by simp only [Bc, Rc]))) ?_; simp (disch := omega) only [Ac, ↓Pc, ↓reduceIte, reduceCtorEq, reduceEqDiff, Nat.reduceBEq, reduceAdd, Nat.reduceLT, reduceLeDiff, reduceMul, reduceNeg, Int.reduceLT, reduceLE, reduceToNat])
  refine hK _ ?_; clear hK K
  refine W_turn (σ' := ⟨slots [(1, .lit (.int .u16 sd)), (2, .lit (.int .u8 few)), (3, .lit (.int .u8 many)), (10, .ptr 0 0 0), (11, .tree 1 (ints plan))], [.var (eMdl m)]⟩) (by (refine Turns.se [1] true (by simp only [Oc, reduceCtorEq, reduceAdd, Nat.reduceLT, reduceLeDiff, reduceEqDiff, ↓reduceIte]) ?_; simp only [Hr, ↓reduceIte, reduceEqDiff, Nat.reduceBEq, reduceAdd]; try (and_intros <;> first | exact .pure rfl | exact .eq rfl | exact .fz rfl (by simp only [Bc, Rc])))) ?_
  have hcl := hpm.len
  by_cases hz : m.cls.length = 0
  · repeat' (first | ((first | ((first | refine rr ?_ | refine rre ?_ | refine rb ?_ | refine rbe ?_ | refine ra ?_ | refine rae ?_); intro K hK) | with_reducible refine gO ?_); simp (disch := omega) only [Ac, ↓Pc, ↓reduceIte, reduceCtorEq, reduceEqDiff, Nat.reduceBEq, reduceAdd, Nat.reduceLT, reduceLeDiff, reduceMul, reduceNeg, Int.reduceLT, reduceLE, reduceToNat, hz]) | (first | refine callK_pure (awake_ok) rfl rfl ?_ | refine callQ_pure (awake_ok) rfl rfl ?_) | (refine hK _ ?_; clear hK K) | (with_reducible refine gS (fun hb' => ?_) (fun hb' => ?_) <;> (have hb := hb'; (try simp only [DEc, reduceCtorEq] at hb); simp (disch := omega) only [Ac, ↓Pc, ↓reduceIte, reduceCtorEq, reduceEqDiff, Nat.reduceBEq, reduceAdd, Nat.reduceLT, reduceLeDiff, reduceMul, reduceNeg, Int.reduceLT, reduceLE, reduceToNat, hz, hb']; clear hb')) | (refine Wc (fun ht => ?_) (fun ht => ?_) <;> (try simp only [DEc, reduceCtorEq] at ht)) | refine Wz rfl ?_ | (refine Wb ?_; intro Qb hnb hxb heb) | (refine Wk ?_; intro Q hn he) | ((first | refine hn _ ?_ | refine he _ _ rfl ?_); clear hn he; try clear Q) | ((first | refine hnb _ ?_ | refine hxb _ ?_ | refine heb _ _ rfl ?_); clear hnb hxb heb; try clear Qb) | (refine hel _ _ rfl ?_; clear hnl hel; try clear Ql) | (simp only [Qc, Kc, ↓reduceIte, reduceEqDiff, Nat.reduceBEq]) | with_reducible refine And.intro ?_ ?_ | omega | with_reducible rfl)
    exact RetOK_pure' rfl rfl
  obtain ⟨x, y, hx, hy, fx, fy, lx, ly, s1, s2⟩ := better_law hvm hfp (by omega) sd (few % 30) (many % 30) hsd (by omega) (by omega)
  have h1 := late_ok m plan sd 5 (few % 30) hvm.mb (by omega)
  have h2 := late_ok m plan sd 5 (few % 30 + many % 30) hvm.mb (by omega)
  rw [hx] at h1
  rw [hy] at h2
  have h4 := refOf_ok m plan hvm.mb (by omega)
  have h5 := refOf_ok m x hvm.mb (by omega)
  have h6 := refOf_ok m y hvm.mb (by omega)
  unfold ofV at h4 h5 h6
  rw [fp_com hvm hfp, if_pos rfl] at h4
  rw [fp_com hvm fx, if_pos rfl] at h5
  rw [fp_com hvm fy, if_pos rfl] at h6
  have h7 := refLess_ok (scV m plan) (scV m x)
  have h8 := refLess_ok (scV m x) (scV m y)
  rw [s1] at h7
  rw [s2] at h8
  generalize scV m plan = c1 at *
  generalize scV m x = c2 at *
  generalize scV m y = c3 at *
  have w1 : IntKind.i64.wrap sd = sd := wrapI (by omega)
  have w2 : few.tmod 30 = few % 30 := by rw [Int.tmod_eq_emod_of_nonneg (by omega)]
  have w3 : many.tmod 30 = many % 30 := by rw [Int.tmod_eq_emod_of_nonneg (by omega)]
  have w4 : IntKind.i64.wrap (few % 30) = few % 30 := wrapI (by omega)
  have w5 : IntKind.i64.wrap (many % 30) = many % 30 := wrapI (by omega)
  repeat' (first | ((first | ((first | refine rr ?_ | refine rre ?_ | refine rb ?_ | refine rbe ?_ | refine ra ?_ | refine rae ?_); intro K hK) | with_reducible refine gO ?_); simp (disch := omega) only [Ac, ↓Pc, ↓reduceIte, reduceCtorEq, reduceEqDiff, Nat.reduceBEq, reduceAdd, Nat.reduceLT, reduceLeDiff, reduceMul, reduceNeg, Int.reduceLT, reduceLE, reduceToNat, w1, w2, w3, w4, w5, Option.isSome_some, beq_self_eq_true, bne_self_eq_false, Bool.not_true, Bool.not_false, decide_true, decide_false, eSc]) | (first | refine callK_pure (h1) rfl rfl ?_ | refine callQ_pure (h1) rfl rfl ?_) | (first | refine callK_pure (h2) rfl rfl ?_ | refine callQ_pure (h2) rfl rfl ?_) | (first | refine callK_pure (h4) rfl rfl ?_ | refine callQ_pure (h4) rfl rfl ?_) | (first | refine callK_pure (h5) rfl rfl ?_ | refine callQ_pure (h5) rfl rfl ?_) | (first | refine callK_pure (h6) rfl rfl ?_ | refine callQ_pure (h6) rfl rfl ?_) | (first | refine callK_pure (h7) rfl rfl ?_ | refine callQ_pure (h7) rfl rfl ?_) | (first | refine callK_pure (h8) rfl rfl ?_ | refine callQ_pure (h8) rfl rfl ?_) | (first | refine callK_pure (awake_ok) rfl rfl ?_ | refine callQ_pure (awake_ok) rfl rfl ?_) | (refine hK _ ?_; clear hK K) | (with_reducible refine gS (fun hb' => ?_) (fun hb' => ?_) <;> (have hb := hb'; (try simp only [DEc, reduceCtorEq] at hb); simp (disch := omega) only [Ac, ↓Pc, ↓reduceIte, reduceCtorEq, reduceEqDiff, Nat.reduceBEq, reduceAdd, Nat.reduceLT, reduceLeDiff, reduceMul, reduceNeg, Int.reduceLT, reduceLE, reduceToNat, w1, w2, w3, w4, w5, Option.isSome_some, beq_self_eq_true, bne_self_eq_false, Bool.not_true, Bool.not_false, decide_true, decide_false, eSc, hb']; clear hb')) | (refine Wc (fun ht => ?_) (fun ht => ?_) <;> (try simp only [DEc, reduceCtorEq] at ht)) | refine Wz rfl ?_ | (refine Wb ?_; intro Qb hnb hxb heb) | (refine Wk ?_; intro Q hn he) | ((first | refine hn _ ?_ | refine he _ _ rfl ?_); clear hn he; try clear Q) | ((first | refine hnb _ ?_ | refine hxb _ ?_ | refine heb _ _ rfl ?_); clear hnb hxb heb; try clear Qb) | (refine hel _ _ rfl ?_; clear hnl hel; try clear Ql) | (simp only [Qc, Kc, ↓reduceIte, reduceEqDiff, Nat.reduceBEq]) | with_reducible refine And.intro ?_ ?_ | omega | with_reducible rfl)
  exact RetOK_pure' rfl rfl
theorem wf_u16 {n : Int} (h : (Lit.int .u16 n).wf = true) : 0 ≤ n ∧ n < 65536 := by
  simp [Lit.wf, IntKind.min, IntKind.max, IntKind.signed, IntKind.bits] at h
  omega
theorem wf_u8 {n : Int} (h : (Lit.int .u8 n).wf = true) : 0 ≤ n ∧ n < 256 := by
  simp [Lit.wf, IntKind.min, IntKind.max, IntKind.signed, IntKind.bits] at h
  omega
end T

