import Derived.Test.YtncfieaimmpapaaL14
import Derived.Test.YtncfieaimmpapaaL19
set_option linter.unusedVariables false
set_option linter.unusedSimpArgs false
open Go Go.Am Go.Proofs
open Nat (reduceEqDiff reduceAdd reduceLeDiff reduceMul)
open Int (reduceNeg reduceLE reduceToNat)
set_option maxRecDepth 20000
namespace T
theorem chY_len {m : Mdl} {t u : List Int} {x : Int} : ∀ (r y : Nat) (out mv : List Int) (z : List Int × List Int), chY m t u x r y out mv = some z → z.1.length = out.length
  | 0, y, out, mv, z, h => by rw [chY] at h; cases h; rfl
  | r + 1, y, out, mv, z, h => by
    rw [chY] at h
    split at h
    · exact chY_len r _ _ _ z h
    · split at h
      · cases h
      · rw [chY_len r _ _ _ z h, List.length_set]
theorem chI_len {m : Mdl} {t u : List Int} : ∀ (f i : Nat) (out mv : List Int) (z : List Int × List Int), chI m t u f i out mv = some z → z.1.length = out.length
  | 0, i, out, mv, z, h => by rw [chI] at h; cases h; rfl
  | f + 1, i, out, mv, z, h => by
    rw [chI] at h
    split at h
    · split at h
      · cases h
      · rename_i z2 hz
        rw [chI_len f _ _ _ z h, chY_len _ _ _ _ _ hz]
    · cases h; rfl
theorem chainV_len (m : Mdl) (plan : List Int) (c o : Int) : (chainV m plan c o).1.length ≤ plan.length := by
  unfold chainV
  split
  · exact Nat.zero_le _
  split
  · exact Nat.zero_le _
  unfold chT
  split
  · exact Nat.zero_le _
  · rename_i z hz
    have := chI_len _ _ _ _ _ hz
    split
    · dsimp only; rw [this, List.length_set]; exact Nat.le_refl _
    · exact Nat.zero_le _
def eP2 (p : Int × Int) : List AV := [.lit (.int .i64 p.1), .lit (.int .i64 p.2)]
instance : Row eP2 2 := ⟨fun _ => rfl, fun x v hv => by
  simp only [eP2, List.mem_cons, List.not_mem_nil, or_false] at hv
  rcases hv with rfl | rfl <;> exact .inl ⟨_, rfl, rfl⟩⟩
set_option maxHeartbeats 16000000 in
theorem chains_ok (tape raw : List Int) (cc oo : Int) (hraw : raw.length < 9223372036854775808) : Holds Try.prog 7 [.tree 1 (ints tape), .tree 1 (ints raw), .lit (.int .i64 cc), .lit (.int .i64 oo)] [] (.lit (.bool true)) [] := by
  refine Holds.of_body' (fn := Try.f7) 91 0 [.tmp 8] Try.func7 rfl rfl rfl rfl rfl (by simp) ?_
  repeat' (first | ((first | ((first | refine rr ?_ | refine rre ?_ | refine rb ?_ | refine rbe ?_ | refine ra ?_ | refine rae ?_); intro K hK) | with_reducible refine gO ?_); simp (disch := omega) only [Ac, ↓Pc, ↓reduceIte, reduceCtorEq, reduceEqDiff, Nat.reduceBEq, reduceAdd, Nat.reduceLT, reduceLeDiff, reduceMul, reduceNeg, Int.reduceLT, reduceLE, reduceToNat]) | (first | refine callK_pure (light_ok _) rfl rfl ?_ | refine callQ_pure (light_ok _) rfl rfl ?_) | (first | refine callK_pure (awake_ok) rfl rfl ?_ | refine callQ_pure (awake_ok) rfl rfl ?_) | (refine hK _ ?_; clear hK K) | (with_reducible refine gS (fun hb' => ?_) (fun hb' => ?_) <;> (have hb := hb'; (try simp only [DEc, reduceCtorEq] at hb); simp (disch := omega) only [Ac, ↓Pc, ↓reduceIte, reduceCtorEq, reduceEqDiff, Nat.reduceBEq, reduceAdd, Nat.reduceLT, reduceLeDiff, reduceMul, reduceNeg, Int.reduceLT, reduceLE, reduceToNat, hb']; clear hb')) | (refine Wc (fun ht => ?_) (fun ht => ?_) <;> (try simp only [DEc, reduceCtorEq] at ht)) | refine Wz rfl ?_ | (refine Wb ?_; intro Qb hnb hxb heb) | (refine Wk ?_; intro Q hn he) | ((first | refine hn _ ?_ | refine he _ _ rfl ?_); clear hn he; try clear Q) | ((first | refine hnb _ ?_ | refine hxb _ ?_ | refine heb _ _ rfl ?_); clear hnb hxb heb; try clear Qb) | (refine hel _ _ rfl ?_; clear hnl hel; try clear Ql) | (simp only [Qc, Kc, ↓reduceIte, reduceEqDiff, Nat.reduceBEq]) | with_reducible refine And.intro ?_ ?_ | omega | with_reducible rfl)
  · exact RetOK_pure' rfl rfl
  have hL : tape.length < 1000000 := by omega
  (refine callK_sel [] (roll_ok tape) (by decide) (by (repeat' (first | exact trivial | with_reducible refine And.intro ?_ ?_ | refine And.intro ?_ ?_)) <;> first | rfl | (rw [ints_ren]; rfl) | (rw [bools_ren]; rfl) | (rw [rows_ren]; rfl) | (rw [intss_ren]; rfl)) (by (repeat' (first | exact trivial | refine And.intro ?_ ?_)) <;> (first | exact .pure rfl | exact .eq rfl | exact .fz rfl (by simp only [Bc, Rc]))) ?_; simp (disch := omega) only [Ac, ↓Pc, ↓reduceIte, reduceCtorEq, reduceEqDiff, Nat.reduceBEq, reduceAdd, Nat.reduceLT, reduceLeDiff, reduceMul, reduceNeg, Int.reduceLT, reduceLE, reduceToNat])
  refine hK _ ?_; clear hK K
  refine W_turn (σ' := ⟨slots [(1, .tree 1 (ints raw)), (2, .lit (.int .i64 cc)), (3, .lit (.int .i64 oo)), (9, .ptr 0 0 0)], [dice tape 0]⟩) (by unfold dice; (refine Turns.slots _ _ rfl ?_; simp only [Tc, ↓reduceIte, reduceEqDiff, Nat.reduceBEq, reduceAdd]; try trivial)) ?_
  have hsome := some_ok tape 0 (Nat.zero_le _) hL
  refine W_region_c 1 (by decide) _ rfl ?_
  intro K hK
  simp (disch := omega) only [Ac, ↓Pc, ↓reduceIte, reduceCtorEq, reduceEqDiff, Nat.reduceBEq, reduceAdd, Nat.reduceLT, reduceLeDiff, reduceMul, reduceNeg, Int.reduceLT, reduceLE, reduceToNat, List.take, List.drop]
  refine ⟨rfl, (show callKR Try.prog 14 [.ptr 0 0 0] (some 26) _ _ from ?_)⟩
  refine callKR_sel [0] hsome (by decide) ⟨rfl, trivial⟩ ⟨.eq rfl, trivial⟩ ?_
  rintro r os ⟨m, k, hm, hk, rfl, rfl⟩
  unfold dice
  simp (disch := omega) only [Ac, ↓Pc, ↓reduceIte, reduceCtorEq, reduceEqDiff, Nat.reduceBEq, reduceAdd, Nat.reduceLT, reduceLeDiff, reduceMul, reduceNeg, Int.reduceLT, reduceLE, reduceToNat]
  refine hK _ ?_; clear hK K
  have hmb := hm.mb
  have h1 := planG_ok m hm.few hm.opt tape k true hk hL
  have hl1 := planF_len (L := tape) (b := true) m.cls k []
  generalize planF tape true m.cls k [] = pf1 at *
  obtain ⟨p1, k1⟩ := pf1
  dsimp only at *
  have hfew := hm.few
  rw [List.length_nil, Nat.zero_add] at hl1
  unfold dice at h1
  repeat' (first | ((first | ((first | refine rr ?_ | refine rre ?_); intro K hK) | with_reducible refine gO ?_); simp (disch := omega) only [Ac, ↓Pc, ↓reduceIte, reduceCtorEq, reduceEqDiff, Nat.reduceBEq, reduceAdd, Nat.reduceLT, reduceLeDiff, reduceMul, reduceNeg, Int.reduceLT, reduceLE, reduceToNat]) | (refine hK _ ?_; clear hK K) | (with_reducible refine gS (fun hb' => ?_) (fun hb' => ?_) <;> (have hb := hb'; (try simp only [DEc, reduceCtorEq] at hb); simp (disch := omega) only [Ac, ↓Pc, ↓reduceIte, reduceCtorEq, reduceEqDiff, Nat.reduceBEq, reduceAdd, Nat.reduceLT, reduceLeDiff, reduceMul, reduceNeg, Int.reduceLT, reduceLE, reduceToNat, hb']; clear hb')) | (refine Wc (fun ht => ?_) (fun ht => ?_) <;> (try simp only [DEc, reduceCtorEq] at ht)) | refine Wz rfl ?_ | (refine Wb ?_; intro Qb hnb hxb heb) | (refine Wk ?_; intro Q hn he) | ((first | refine hn _ ?_ | refine he _ _ rfl ?_); clear hn he; try clear Q) | ((first | refine hnb _ ?_ | refine hxb _ ?_ | refine heb _ _ rfl ?_); clear hnb hxb heb; try clear Qb) | (simp only [Qc, Kc, ↓reduceIte, reduceEqDiff, Nat.reduceBEq]) | with_reducible refine And.intro ?_ ?_ | omega | with_reducible rfl)
  (refine callK_sel [0] (h1) (by decide) (by (repeat' (first | exact trivial | with_reducible refine And.intro ?_ ?_ | refine And.intro ?_ ?_)) <;> first | rfl | (rw [ints_ren]; rfl) | (rw [bools_ren]; rfl) | (rw [rows_ren]; rfl) | (rw [intss_ren]; rfl)) (by (repeat' (first | exact trivial | refine And.intro ?_ ?_)) <;> (first | exact .pure rfl | exact .eq rfl | exact .fz rfl (by simp only [Bc, Rc]))) ?_; simp (disch := omega) only [Ac, ↓Pc, ↓reduceIte, reduceCtorEq, reduceEqDiff, Nat.reduceBEq, reduceAdd, Nat.reduceLT, reduceLeDiff, reduceMul, reduceNeg, Int.reduceLT, reduceLE, reduceToNat])
  repeat' (first | ((first | ((first | refine rr ?_ | refine rre ?_); intro K hK) | with_reducible refine gO ?_); simp (disch := omega) only [Ac, ↓Pc, ↓reduceIte, reduceCtorEq, reduceEqDiff, Nat.reduceBEq, reduceAdd, Nat.reduceLT, reduceLeDiff, reduceMul, reduceNeg, Int.reduceLT, reduceLE, reduceToNat]) | (refine hK _ ?_; clear hK K) | (with_reducible refine gS (fun hb' => ?_) (fun hb' => ?_) <;> (have hb := hb'; (try simp only [DEc, reduceCtorEq] at hb); simp (disch := omega) only [Ac, ↓Pc, ↓reduceIte, reduceCtorEq, reduceEqDiff, Nat.reduceBEq, reduceAdd, Nat.reduceLT, reduceLeDiff, reduceMul, reduceNeg, Int.reduceLT, reduceLE, reduceToNat, hb']; clear hb')) | (refine Wc (fun ht => ?_) (fun ht => ?_) <;> (try simp only [DEc, reduceCtorEq] at ht)) | refine Wz rfl ?_ | (refine Wb ?_; intro Qb hnb hxb heb) | (refine Wk ?_; intro Q hn he) | ((first | refine hn _ ?_ | refine he _ _ rfl ?_); clear hn he; try clear Q) | ((first | refine hnb _ ?_ | refine hxb _ ?_ | refine heb _ _ rfl ?_); clear hnb hxb heb; try clear Qb) | (simp only [Qc, Kc, ↓reduceIte, reduceEqDiff, Nat.reduceBEq]) | with_reducible refine And.intro ?_ ?_ | omega | with_reducible rfl)
  refine W_turn (σ' := ⟨slots [(2, .lit (.int .i64 cc)), (3, .lit (.int .i64 oo)), (10, .ptr 0 0 0), (31, .tree 1 (intss [raw, p1])), (32, .lit (.int .i64 2)), (33, .lit (.int .i64 0))], [.var (eMdl m)]⟩) (by (refine Turns.se [1] true (by simp only [Oc, reduceCtorEq, reduceAdd, Nat.reduceLT, reduceLeDiff, reduceEqDiff, ↓reduceIte]) ?_; simp only [Hr, ↓reduceIte, reduceEqDiff, Nat.reduceBEq, reduceAdd]; try (and_intros <;> first | exact .pure rfl | exact .eq rfl | exact .fz rfl (by simp only [Bc, Rc])))) ?_
  clear h1
  repeat' (first | ((first | ((first | refine rr ?_ | refine rre ?_); intro K hK) | with_reducible refine gO ?_); simp (disch := omega) only [Ac, ↓Pc, ↓reduceIte, reduceCtorEq, reduceEqDiff, Nat.reduceBEq, reduceAdd, Nat.reduceLT, reduceLeDiff, reduceMul, reduceNeg, Int.reduceLT, reduceLE, reduceToNat]) | (refine hK _ ?_; clear hK K) | (with_reducible refine gS (fun hb' => ?_) (fun hb' => ?_) <;> (have hb := hb'; (try simp only [DEc, reduceCtorEq] at hb); simp (disch := omega) only [Ac, ↓Pc, ↓reduceIte, reduceCtorEq, reduceEqDiff, Nat.reduceBEq, reduceAdd, Nat.reduceLT, reduceLeDiff, reduceMul, reduceNeg, Int.reduceLT, reduceLE, reduceToNat, hb']; clear hb')) | (refine Wc (fun ht => ?_) (fun ht => ?_) <;> (try simp only [DEc, reduceCtorEq] at ht)) | refine Wz rfl ?_ | (refine Wb ?_; intro Qb hnb hxb heb) | (refine Wk ?_; intro Q hn he) | ((first | refine hn _ ?_ | refine he _ _ rfl ?_); clear hn he; try clear Q) | ((first | refine hnb _ ?_ | refine hxb _ ?_ | refine heb _ _ rfl ?_); clear hnb hxb heb; try clear Qb) | (simp only [Qc, Kc, ↓reduceIte, reduceEqDiff, Nat.reduceBEq]) | with_reducible refine And.intro ?_ ?_ | omega | with_reducible rfl)
  refine W_loopS (fun i : Nat => (⟨slots [(2, .lit (.int .i64 cc)), (3, .lit (.int .i64 oo)), (10, .ptr 0 0 0), (31, .tree 1 (intss [raw, p1])), (32, .lit (.int .i64 2)), (33, .lit (.int .i64 i))], [.var (eMdl m)]⟩ : St)) (fun i => i ≤ 2) (fun i => 2 - i) 0 (Nat.zero_le _) (by (refine Turns.slots _ _ rfl ?_; simp only [Tc, ↓reduceIte, reduceEqDiff, Nat.reduceBEq, reduceAdd]; try trivial)) ?_
  rintro i hi Ql hnl hel
  by_cases hi' : i < 2
  · have hpl : ([raw, p1].getD i []).length < 9223372036854775808 := by
      have : i = 0 ∨ i = 1 := by omega
      rcases this with rfl | rfl
      · exact hraw
      · show p1.length < _; omega
    generalize hps : [raw, p1] = ps at *
    have hpsl : ps.length = 2 := by rw [← hps]; rfl
    generalize hpp : ps.getD i [] = p at *
    have hmd1 := mod_ok cc m.cls.length (by unfold In64; omega)
    have hmd2 := mod_ok oo 5 (by unfold In64; omega)
    generalize modI cc m.cls.length = c3 at *
    generalize modI oo 5 = o3 at *
    repeat' (first | ((first | ((first | refine rr ?_ | refine rre ?_ | refine rb ?_ | refine rbe ?_ | refine ra ?_ | refine rae ?_); intro K hK) | with_reducible refine gO ?_); simp (disch := omega) only [Ac, ↓Pc, ↓reduceIte, reduceCtorEq, reduceEqDiff, Nat.reduceBEq, reduceAdd, Nat.reduceLT, reduceLeDiff, reduceMul, reduceNeg, Int.reduceLT, reduceLE, reduceToNat, hpp]) | (first | refine callK_pure (hmd1) rfl rfl ?_ | refine callQ_pure (hmd1) rfl rfl ?_) | (first | refine callK_pure (hmd2) rfl rfl ?_ | refine callQ_pure (hmd2) rfl rfl ?_) | (refine hK _ ?_; clear hK K) | (with_reducible refine gS (fun hb' => ?_) (fun hb' => ?_) <;> (have hb := hb'; (try simp only [DEc, reduceCtorEq] at hb); simp (disch := omega) only [Ac, ↓Pc, ↓reduceIte, reduceCtorEq, reduceEqDiff, Nat.reduceBEq, reduceAdd, Nat.reduceLT, reduceLeDiff, reduceMul, reduceNeg, Int.reduceLT, reduceLE, reduceToNat, hpp, hb']; clear hb')) | (refine Wc (fun ht => ?_) (fun ht => ?_) <;> (try simp only [DEc, reduceCtorEq] at ht)) | refine Wz rfl ?_ | (refine Wb ?_; intro Qb hnb hxb heb) | (refine Wk ?_; intro Q hn he) | ((first | refine hn _ ?_ | refine he _ _ rfl ?_); clear hn he; try clear Q) | ((first | refine hnb _ ?_ | refine hxb _ ?_ | refine heb _ _ rfl ?_); clear hnb hxb heb; try clear Qb) | (simp only [Qc, Kc, ↓reduceIte, reduceEqDiff, Nat.reduceBEq]) | with_reducible refine And.intro ?_ ?_ | omega | with_reducible rfl)
    generalize andI cc 3 = c2
    generalize andI oo 3 = o2
    refine W_turn (σ' := ⟨slots [(2, .lit (.int .i64 cc)), (3, .lit (.int .i64 oo)), (10, .ptr 0 0 0), (31, .tree 1 (intss ps)), (32, .lit (.int .i64 2)), (33, .lit (.int .i64 i)), (12, .tree 1 (ints p)), (53, .tree 2 (rowsOf eP2 [(cc, oo), (c2, o2), (c3, o3)])), (54, .lit (.int .i64 3)), (55, .lit (.int .i64 0))], [.var (eMdl m)]⟩) (by (refine Turns.se [0] true (by simp only [Oc, reduceCtorEq, reduceAdd, Nat.reduceLT, reduceLeDiff, reduceEqDiff, ↓reduceIte]) ?_; simp only [Hr, ↓reduceIte, reduceEqDiff, Nat.reduceBEq, reduceAdd]; try (and_intros <;> first | exact .pure rfl | exact .eq rfl | exact .fz rfl (by simp only [Bc, Rc])))) ?_
    generalize hqs : [(cc, oo), (c2, o2), (c3, o3)] = qs
    have hqsl : qs.length = 3 := by rw [← hqs]; rfl
    repeat' (first | ((first | ((first | refine rr ?_ | refine rre ?_); intro K hK) | with_reducible refine gO ?_); simp (disch := omega) only [Ac, ↓Pc, ↓reduceIte, reduceCtorEq, reduceEqDiff, Nat.reduceBEq, reduceAdd, Nat.reduceLT, reduceLeDiff, reduceMul, reduceNeg, Int.reduceLT, reduceLE, reduceToNat]) | (refine hK _ ?_; clear hK K) | (with_reducible refine gS (fun hb' => ?_) (fun hb' => ?_) <;> (have hb := hb'; (try simp only [DEc, reduceCtorEq] at hb); simp (disch := omega) only [Ac, ↓Pc, ↓reduceIte, reduceCtorEq, reduceEqDiff, Nat.reduceBEq, reduceAdd, Nat.reduceLT, reduceLeDiff, reduceMul, reduceNeg, Int.reduceLT, reduceLE, reduceToNat, hb']; clear hb')) | (refine Wc (fun ht => ?_) (fun ht => ?_) <;> (try simp only [DEc, reduceCtorEq] at ht)) | refine Wz rfl ?_ | (refine Wb ?_; intro Qb hnb hxb heb) | (refine Wk ?_; intro Q hn he) | ((first | refine hn _ ?_ | refine he _ _ rfl ?_); clear hn he; try clear Q) | ((first | refine hnb _ ?_ | refine hxb _ ?_ | refine heb _ _ rfl ?_); clear hnb hxb heb; try clear Qb) | (simp only [Qc, Kc, ↓reduceIte, reduceEqDiff, Nat.reduceBEq]) | with_reducible refine And.intro ?_ ?_ | omega | with_reducible rfl)
    refine W_loopS (fun j : Nat => (⟨slots [(2, .lit (.int .i64 cc)), (3, .lit (.int .i64 oo)), (10, .ptr 0 0 0), (31, .tree 1 (intss ps)), (32, .lit (.int .i64 2)), (33, .lit (.int .i64 i)), (12, .tree 1 (ints p)), (53, .tree 2 (rowsOf eP2 qs)), (54, .lit (.int .i64 3)), (55, .lit (.int .i64 j))], [.var (eMdl m)]⟩ : St)) (fun j => j ≤ 3) (fun j => 3 - j) 0 (Nat.zero_le _) (by (refine Turns.slots _ _ rfl ?_; simp only [Tc, ↓reduceIte, reduceEqDiff, Nat.reduceBEq, reduceAdd]; try trivial)) ?_
    rintro j hj Ql2 hnl2 hel2
    by_cases hj' : j < 3
    · generalize hqq : qs.getD j default = q at *
      have h1 := chain_ok m p q.1 q.2 hmb hpl
      have h2 := refChain_ok m p q.1 q.2 hmb hpl
      have hlen : (chainV m p q.1 q.2).1.length < 9223372036854775808 := by have := chainV_len m p q.1 q.2; omega
      generalize chainV m p q.1 q.2 = dv at *
      have h3 := same_ok dv.1 dv.1 hlen
      repeat' (first | ((first | ((first | refine rr ?_ | refine rre ?_ | refine rb ?_ | refine rbe ?_ | refine ra ?_ | refine rae ?_); intro K hK) | with_reducible refine gO ?_); simp (disch := omega) only [Ac, ↓Pc, ↓reduceIte, reduceCtorEq, reduceEqDiff, Nat.reduceBEq, reduceAdd, Nat.reduceLT, reduceLeDiff, reduceMul, reduceNeg, Int.reduceLT, reduceLE, reduceToNat, hqq, eP2, bne_self_eq_false, decide_true, Bool.not_true, beq_self_eq_true]) | (first | refine callK_pure (h1) rfl rfl ?_ | refine callQ_pure (h1) rfl rfl ?_) | (first | refine callK_pure (h2) rfl rfl ?_ | refine callQ_pure (h2) rfl rfl ?_) | (first | refine callK_pure (h3) rfl rfl ?_ | refine callQ_pure (h3) rfl rfl ?_) | (refine hK _ ?_; clear hK K) | (with_reducible refine gS (fun hb' => ?_) (fun hb' => ?_) <;> (have hb := hb'; (try simp only [DEc, reduceCtorEq] at hb); simp (disch := omega) only [Ac, ↓Pc, ↓reduceIte, reduceCtorEq, reduceEqDiff, Nat.reduceBEq, reduceAdd, Nat.reduceLT, reduceLeDiff, reduceMul, reduceNeg, Int.reduceLT, reduceLE, reduceToNat, hqq, eP2, bne_self_eq_false, decide_true, Bool.not_true, beq_self_eq_true, hb']; clear hb')) | (refine Wc (fun ht => ?_) (fun ht => ?_) <;> (try simp only [DEc, reduceCtorEq] at ht)) | refine Wz rfl ?_ | (refine Wb ?_; intro Qb hnb hxb heb) | (refine Wk ?_; intro Q hn he) | ((first | refine hn _ ?_ | refine he _ _ rfl ?_); clear hn he; try clear Q) | ((first | refine hnb _ ?_ | refine hxb _ ?_ | refine heb _ _ rfl ?_); clear hnb hxb heb; try clear Qb) | (simp only [Qc, Kc, ↓reduceIte, reduceEqDiff, Nat.reduceBEq]) | with_reducible refine And.intro ?_ ?_ | omega | with_reducible rfl)
      exact hnl2 _ (j + 1) (by omega) (by omega) (by (refine Turns.se [0] false (by simp only [Oc, reduceCtorEq, reduceAdd, Nat.reduceLT, reduceLeDiff, reduceEqDiff, ↓reduceIte]) ?_; simp only [Hr, ↓reduceIte, reduceEqDiff, Nat.reduceBEq, reduceAdd]; try (and_intros <;> first | exact .pure rfl | exact .eq rfl | exact .fz rfl (by simp only [Bc, Rc]))))
    · repeat' (first | ((first | ((first | refine rr ?_ | refine rre ?_); intro K hK) | with_reducible refine gO ?_); simp (disch := omega) only [Ac, ↓Pc, ↓reduceIte, reduceCtorEq, reduceEqDiff, Nat.reduceBEq, reduceAdd, Nat.reduceLT, reduceLeDiff, reduceMul, reduceNeg, Int.reduceLT, reduceLE, reduceToNat]) | (refine hK _ ?_; clear hK K) | (with_reducible refine gS (fun hb' => ?_) (fun hb' => ?_) <;> (have hb := hb'; (try simp only [DEc, reduceCtorEq] at hb); simp (disch := omega) only [Ac, ↓Pc, ↓reduceIte, reduceCtorEq, reduceEqDiff, Nat.reduceBEq, reduceAdd, Nat.reduceLT, reduceLeDiff, reduceMul, reduceNeg, Int.reduceLT, reduceLE, reduceToNat, hb']; clear hb')) | (refine Wc (fun ht => ?_) (fun ht => ?_) <;> (try simp only [DEc, reduceCtorEq] at ht)) | refine Wz rfl ?_ | (refine Wb ?_; intro Qb hnb hxb heb) | (refine Wk ?_; intro Q hn he) | ((first | refine hn _ ?_ | refine he _ _ rfl ?_); clear hn he; try clear Q) | ((first | refine hnb _ ?_ | refine hxb _ ?_ | refine heb _ _ rfl ?_); clear hnb hxb heb; try clear Qb) | (simp only [Qc, Kc, ↓reduceIte, reduceEqDiff, Nat.reduceBEq]) | with_reducible refine And.intro ?_ ?_ | omega | with_reducible rfl)
      refine hel2 _ _ rfl ?_
      clear hnl2 hel2 Ql2
      repeat (first | ((first | refine hn _ ?_ | refine he _ _ rfl ?_); clear hn he; try clear Q) | ((first | refine hnb _ ?_ | refine hxb _ ?_ | refine heb _ _ rfl ?_); clear hnb hxb heb; try clear Qb) | (refine hel _ _ rfl ?_; clear hnl hel; try clear Ql))
      repeat' (first | ((first | ((first | refine rr ?_ | refine rre ?_); intro K hK) | with_reducible refine gO ?_); simp (disch := omega) only [Ac, ↓Pc, ↓reduceIte, reduceCtorEq, reduceEqDiff, Nat.reduceBEq, reduceAdd, Nat.reduceLT, reduceLeDiff, reduceMul, reduceNeg, Int.reduceLT, reduceLE, reduceToNat]) | (refine hK _ ?_; clear hK K) | (with_reducible refine gS (fun hb' => ?_) (fun hb' => ?_) <;> (have hb := hb'; (try simp only [DEc, reduceCtorEq] at hb); simp (disch := omega) only [Ac, ↓Pc, ↓reduceIte, reduceCtorEq, reduceEqDiff, Nat.reduceBEq, reduceAdd, Nat.reduceLT, reduceLeDiff, reduceMul, reduceNeg, Int.reduceLT, reduceLE, reduceToNat, hb']; clear hb')) | (refine Wc (fun ht => ?_) (fun ht => ?_) <;> (try simp only [DEc, reduceCtorEq] at ht)) | refine Wz rfl ?_ | (refine Wb ?_; intro Qb hnb hxb heb) | (refine Wk ?_; intro Q hn he) | ((first | refine hn _ ?_ | refine he _ _ rfl ?_); clear hn he; try clear Q) | ((first | refine hnb _ ?_ | refine hxb _ ?_ | refine heb _ _ rfl ?_); clear hnb hxb heb; try clear Qb) | (simp only [Qc, Kc, ↓reduceIte, reduceEqDiff, Nat.reduceBEq]) | with_reducible refine And.intro ?_ ?_ | omega | with_reducible rfl)
      exact hnl _ (i + 1) (by omega) (by omega) (by (refine Turns.slots _ _ rfl ?_; simp only [Tc, ↓reduceIte, reduceEqDiff, Nat.reduceBEq, reduceAdd]; try trivial))
  · repeat' (first | ((first | ((first | refine rr ?_ | refine rre ?_); intro K hK) | with_reducible refine gO ?_); simp (disch := omega) only [Ac, ↓Pc, ↓reduceIte, reduceCtorEq, reduceEqDiff, Nat.reduceBEq, reduceAdd, Nat.reduceLT, reduceLeDiff, reduceMul, reduceNeg, Int.reduceLT, reduceLE, reduceToNat]) | (refine hK _ ?_; clear hK K) | (with_reducible refine gS (fun hb' => ?_) (fun hb' => ?_) <;> (have hb := hb'; (try simp only [DEc, reduceCtorEq] at hb); simp (disch := omega) only [Ac, ↓Pc, ↓reduceIte, reduceCtorEq, reduceEqDiff, Nat.reduceBEq, reduceAdd, Nat.reduceLT, reduceLeDiff, reduceMul, reduceNeg, Int.reduceLT, reduceLE, reduceToNat, hb']; clear hb')) | (refine Wc (fun ht => ?_) (fun ht => ?_) <;> (try simp only [DEc, reduceCtorEq] at ht)) | refine Wz rfl ?_ | (refine Wb ?_; intro Qb hnb hxb heb) | (refine Wk ?_; intro Q hn he) | ((first | refine hn _ ?_ | refine he _ _ rfl ?_); clear hn he; try clear Q) | ((first | refine hnb _ ?_ | refine hxb _ ?_ | refine heb _ _ rfl ?_); clear hnb hxb heb; try clear Qb) | (simp only [Qc, Kc, ↓reduceIte, reduceEqDiff, Nat.reduceBEq]) | with_reducible refine And.intro ?_ ?_ | omega | with_reducible rfl)
    refine hel _ _ rfl ?_; clear hnl hel Ql
    repeat (first | ((first | refine hn _ ?_ | refine he _ _ rfl ?_); clear hn he; try clear Q) | ((first | refine hnb _ ?_ | refine hxb _ ?_ | refine heb _ _ rfl ?_); clear hnb hxb heb; try clear Qb) | (refine hel _ _ rfl ?_; clear hnl hel; try clear Ql))
    repeat' (first | ((first | ((first | refine rr ?_ | refine rre ?_ | refine rb ?_ | refine rbe ?_ | refine ra ?_ | refine rae ?_); intro K hK) | with_reducible refine gO ?_); simp (disch := omega) only [Ac, ↓Pc, ↓reduceIte, reduceCtorEq, reduceEqDiff, Nat.reduceBEq, reduceAdd, Nat.reduceLT, reduceLeDiff, reduceMul, reduceNeg, Int.reduceLT, reduceLE, reduceToNat]) | (first | refine callK_pure (awake_ok) rfl rfl ?_ | refine callQ_pure (awake_ok) rfl rfl ?_) | (refine hK _ ?_; clear hK K) | (with_reducible refine gS (fun hb' => ?_) (fun hb' => ?_) <;> (have hb := hb'; (try simp only [DEc, reduceCtorEq] at hb); simp (disch := omega) only [Ac, ↓Pc, ↓reduceIte, reduceCtorEq, reduceEqDiff, Nat.reduceBEq, reduceAdd, Nat.reduceLT, reduceLeDiff, reduceMul, reduceNeg, Int.reduceLT, reduceLE, reduceToNat, hb']; clear hb')) | (refine Wc (fun ht => ?_) (fun ht => ?_) <;> (try simp only [DEc, reduceCtorEq] at ht)) | refine Wz rfl ?_ | (refine Wb ?_; intro Qb hnb hxb heb) | (refine Wk ?_; intro Q hn he) | ((first | refine hn _ ?_ | refine he _ _ rfl ?_); clear hn he; try clear Q) | ((first | refine hnb _ ?_ | refine hxb _ ?_ | refine heb _ _ rfl ?_); clear hnb hxb heb; try clear Qb) | (refine hel _ _ rfl ?_; clear hnl hel; try clear Ql) | (simp only [Qc, Kc, ↓reduceIte, reduceEqDiff, Nat.reduceBEq]) | with_reducible refine And.intro ?_ ?_ | omega | with_reducible rfl)
    exact RetOK_pure' rfl rfl
end T

