import Derived.Test.YthejfdpomacflaaH14
open Go Go.Am Go.Proofs
set_option linter.unusedSimpArgs false
set_option linter.unusedVariables false
namespace T

set_option maxHeartbeats 4000000 in
theorem hallMatches_ok (raw : List (List Int)) (rt : Int) (hrt : In64 rt) (tape : List Int) : Holds Try.prog 3 [.tree 1 (intss raw), .lit (.int .i64 rt), .tree 1 (ints tape)] [] (.lit (.bool true)) [] := by
  have hch := lists_check tape (r := 6) (by omega) (by omega)
  have hmr := Match_ok raw rt
  have her := error_ok raw rt
  have hle := valid_ok
  have hrr : check raw rt = 0 → Holds Try.prog 12 [.tree 1 (intss raw), .lit (.int .i64 rt), .tree 1 (ints (matchV raw rt).1)] [] (.lit (.bool true)) [] := by
    intro h0
    obtain ⟨hL, h1, h2⟩ := check_left h0
    have := right_ok raw rt.toNat (matchR raw rt.toNat).2 hL (by omega)
    rw [right_matchR hL, Int.toNat_of_nonneg h1] at this
    rw [matchV, if_neg (by omega)]
    exact this
  have hmv2 : (matchV raw rt).2 = check raw rt ∧ (check raw rt ≠ 0 → (matchV raw rt).1 = []) := by
    rw [matchV]
    split
    · exact ⟨rfl, fun _ => rfl⟩
    · exact ⟨by dsimp only; omega, fun h => absurd h (by assumption)⟩
  generalize matchV raw rt = mv at *
  obtain ⟨m1, e1⟩ := mv
  obtain ⟨rfl, hm0⟩ := hmv2
  dsimp only at *
  generalize hc0 : check raw rt = e at *
  clear hc0 hle
  refine Holds.of_body' (fn := Try.f3) 84 0 [.tmp 6] Try.func3 rfl rfl rfl rfl rfl (by simp) ?_
  refine W_region_k (by decide) ?_
  intro K hK
  simp (disch := omega) only [Bc, ↓reduceIte, reduceCtorEq, Nat.reduceEqDiff, Nat.reduceBEq, Nat.reduceAdd, Nat.reduceLT, Nat.reduceLeDiff, Nat.reduceMul, Int.reduceNeg, Int.reduceLT, Int.reduceLE, Int.reduceToNat, ev, litOf, St.put, nilK, faT, faK, iaA, callV, callVQ, evP, scalP, intW, pickV, seqP, mergeO, ren, renL, rho, loadA, rowOf, setRowOf, srcRows, dstRows, cellsOf, setCells, fillA, toRows, scal, Ty.isAgg, Value.oneCell', ty4]
  refine hK _ ?_
  clear hK K
  refine W_joinT (fun _ : Unit => ⟨slots [(0, .tree 1 (intss raw)), (1, .lit (.int .i64 rt)), (2, .tree 1 (ints tape))], []⟩) (fun _ => tape.length ≤ 400) ?_ ?_
  · intro Q hn he
    repeat' (first | ((first | (refine W_region_k (by decide) ?_; intro K hK) | (refine W_region_e (by decide) ?_; intro K hK) | (refine W_draw_o rfl (by decide) (by decide +kernel) ?_; intro K hK) | (refine W_draw_oe rfl (by decide) (by decide +kernel) ?_; intro K hK) | with_reducible refine opsL_go ?_ | with_reducible refine planW_go ?_); simp (disch := omega) only [Bc, ↓reduceIte, reduceCtorEq, Nat.reduceEqDiff, Nat.reduceBEq, Nat.reduceAdd, Nat.reduceLT, Nat.reduceLeDiff, Nat.reduceMul, Int.reduceNeg, Int.reduceLT, Int.reduceLE, Int.reduceToNat, ev, litOf, St.put, nilK, faT, faK, iaA, callV, callVQ, evP, scalP, intW, pickV, seqP, mergeO, ren, renL, rho, loadA, rowOf, setRowOf, srcRows, dstRows, cellsOf, setCells, fillA, toRows, scal, Ty.isAgg, Value.oneCell', ty3, ty4, ty22, ty23, ty30, bne_self_eq_false]) | (refine callK_pure (short_ok _) rfl rfl ?_) | (refine callK_pure (light_ok _) rfl rfl ?_) | (refine callK_pure (awake_ok) rfl rfl ?_) | (refine hK _ ?_; clear hK K) | ((first | refine guardK_split (fun hb' => ?_) (fun hb' => ?_) | refine guardM_split (fun hb' => ?_) (fun hb' => ?_)) <;> (have hb := hb'; (try simp only [DEc, reduceCtorEq] at hb); simp (disch := omega) only [Bc, ↓reduceIte, reduceCtorEq, Nat.reduceEqDiff, Nat.reduceBEq, Nat.reduceAdd, Nat.reduceLT, Nat.reduceLeDiff, Nat.reduceMul, Int.reduceNeg, Int.reduceLT, Int.reduceLE, Int.reduceToNat, ev, litOf, St.put, nilK, faT, faK, iaA, callV, callVQ, evP, scalP, intW, pickV, seqP, mergeO, ren, renL, rho, loadA, rowOf, setRowOf, srcRows, dstRows, cellsOf, setCells, fillA, toRows, scal, Ty.isAgg, Value.oneCell', ty3, ty4, ty22, ty23, ty30, bne_self_eq_false, hb']; clear hb')) | (refine W_cond (by (simp only [LKc, ↓reduceIte, Nat.reduceEqDiff, Nat.reduceBEq, ev, litOf, St.put, ty3, ty4, ty22, ty23, ty30, bne_self_eq_false]; exact rfl)) (fun ht => ?_) (fun ht => ?_) <;> (try simp only [DEc, reduceCtorEq] at ht)) | refine W_skip ?_ | refine W_exit ?_ | refine W_ret ?_ | refine W_label ?_ | (refine W_block_k ?_; intro Qb hnb hxb heb) | (refine W_k ?_; intro Q hn he) | (refine hn _ ?_; clear hn he Q) | (refine hnb _ ?_; clear hnb hxb heb Qb) | (refine hxb _ ?_; clear hnb hxb heb Qb) | (refine he _ _ ?_ ?_; (focus (simp only [NEc, reduceCtorEq, Nat.reduceEqDiff]; done)); clear hn he Q) | (refine heb _ _ ?_ ?_ ?_; (focus (simp only [NEc, reduceCtorEq, Nat.reduceEqDiff]; done)); (focus (simp only [NEc, reduceCtorEq, Nat.reduceEqDiff]; done)); clear hnb hxb heb Qb) | (refine hel _ _ ?_ ?_; (focus (simp only [NEc, reduceCtorEq, Nat.reduceEqDiff]; done)); clear hnl hel Ql) | (simp only [retQ, resW, retV, List.length_nil, LKc, ↓reduceIte, Nat.reduceEqDiff, Nat.reduceBEq, ev, litOf, St.put]) | with_reducible refine And.intro ?_ ?_ | omega | with_reducible rfl)
    all_goals first | exact RetOK_pure' rfl rfl | exact hn _ () (by omega) (by (refine Turns.slots _ _ rfl ?_; simp only [Has, and_true, Int.natCast_add, Int.cast_ofNat_Int, List.length_append, List.length_cons, List.length_nil, Nat.zero_add, Nat.reduceAdd, LKc, ↓reduceIte, Nat.reduceEqDiff, Nat.reduceBEq, ev, litOf, St.put]; try trivial))
  rintro - ht
  obtain ⟨k', hli⟩ := lists_ok tape 6 (by unfold In64; omega) (by omega)
  generalize lists tape 6 = l at hch hli
  have hmv := Match_ok l 6
  rw [matchV, if_neg (by omega)] at hmv
  have hLo := (check_left hch).1
  rw [show Int.toNat 6 = 6 from rfl] at *
  have hri := right_ok l 6 (matchR l 6).2 hLo (by omega)
  rw [right_matchR hLo] at hri
  generalize matchR l 6 = m at *
  obtain ⟨ow, m⟩ := m
  dsimp only at *
  refine W_region_k (by decide) ?_
  intro K hK
  simp (disch := omega) only [Bc, ↓reduceIte, reduceCtorEq, Nat.reduceEqDiff, Nat.reduceBEq, Nat.reduceAdd, Nat.reduceLT, Nat.reduceLeDiff, Nat.reduceMul, Int.reduceNeg, Int.reduceLT, Int.reduceLE, Int.reduceToNat, ev, litOf, St.put, nilK, faT, faK, iaA, callV, callVQ, evP, scalP, intW, pickV, seqP, mergeO, ren, renL, rho, loadA, rowOf, setRowOf, srcRows, dstRows, cellsOf, setCells, fillA, toRows, scal, Ty.isAgg, Value.oneCell', ty3, ty22]
  refine callK_sel [] (roll_ok tape) (by decide) trivial ⟨.pure rfl, trivial⟩ ?_
  simp (disch := omega) only [Bc, ↓reduceIte, reduceCtorEq, Nat.reduceEqDiff, Nat.reduceBEq, Nat.reduceAdd, Nat.reduceLT, Nat.reduceLeDiff, Nat.reduceMul, Int.reduceNeg, Int.reduceLT, Int.reduceLE, Int.reduceToNat, ev, litOf, St.put, nilK, faT, faK, iaA, callV, callVQ, evP, scalP, intW, pickV, seqP, mergeO, ren, renL, rho, loadA, rowOf, setRowOf, srcRows, dstRows, cellsOf, setCells, fillA, toRows, scal, Ty.isAgg, Value.oneCell', ty3, ty22]
  refine callK_all hli (by simp) ?_
  simp (disch := omega) only [Bc, ↓reduceIte, reduceCtorEq, Nat.reduceEqDiff, Nat.reduceBEq, Nat.reduceAdd, Nat.reduceLT, Nat.reduceLeDiff, Nat.reduceMul, Int.reduceNeg, Int.reduceLT, Int.reduceLE, Int.reduceToNat, ev, litOf, St.put, nilK, faT, faK, iaA, callV, callVQ, evP, scalP, intW, pickV, seqP, mergeO, ren, renL, rho, loadA, rowOf, setRowOf, srcRows, dstRows, cellsOf, setCells, fillA, toRows, scal, Ty.isAgg, Value.oneCell', ty3, ty22]
  refine hK _ ?_
  clear hK K
  refine W_turn (σ' := ⟨slots [(0, .tree 1 (intss raw)), (1, .lit (.int .i64 rt)), (7, .tree 1 (intss l))], []⟩) ?_ ?_
  · refine Turns.sel [] false _ _ (by decide) trivial (by decide) (by decide) ⟨.pure rfl, .pure rfl, .pure rfl, trivial⟩
  refine W_region_k (by decide) ?_
  intro K hK
  simp (disch := omega) only [Bc, ↓reduceIte, reduceCtorEq, Nat.reduceEqDiff, Nat.reduceBEq, Nat.reduceAdd, Nat.reduceLT, Nat.reduceLeDiff, Nat.reduceMul, Int.reduceNeg, Int.reduceLT, Int.reduceLE, Int.reduceToNat, ev, litOf, St.put, nilK, faT, faK, iaA, callV, callVQ, evP, scalP, intW, pickV, seqP, mergeO, ren, renL, rho, loadA, rowOf, setRowOf, srcRows, dstRows, cellsOf, setCells, fillA, toRows, scal, Ty.isAgg, Value.oneCell', ty3, ty22]
  refine callK_pure hmv rfl rfl ?_
  simp (disch := omega) only [Bc, ↓reduceIte, reduceCtorEq, Nat.reduceEqDiff, Nat.reduceBEq, Nat.reduceAdd, Nat.reduceLT, Nat.reduceLeDiff, Nat.reduceMul, Int.reduceNeg, Int.reduceLT, Int.reduceLE, Int.reduceToNat, ev, litOf, St.put, nilK, faT, faK, iaA, callV, callVQ, evP, scalP, intW, pickV, seqP, mergeO, ren, renL, rho, loadA, rowOf, setRowOf, srcRows, dstRows, cellsOf, setCells, fillA, toRows, scal, Ty.isAgg, Value.oneCell', ty3, ty22]
  refine hK _ ?_
  clear hK K
  refine W_joinT (fun _ : Unit => ⟨slots [(0, .tree 1 (intss raw)), (1, .lit (.int .i64 rt))], []⟩) (fun _ => True) ?_ ?_
  · intro Q hn he
    repeat' (first | ((first | (refine W_region_k (by decide) ?_; intro K hK) | (refine W_region_e (by decide) ?_; intro K hK) | (refine W_draw_o rfl (by decide) (by decide +kernel) ?_; intro K hK) | (refine W_draw_oe rfl (by decide) (by decide +kernel) ?_; intro K hK) | with_reducible refine opsL_go ?_ | with_reducible refine planW_go ?_); simp (disch := omega) only [Bc, ↓reduceIte, reduceCtorEq, Nat.reduceEqDiff, Nat.reduceBEq, Nat.reduceAdd, Nat.reduceLT, Nat.reduceLeDiff, Nat.reduceMul, Int.reduceNeg, Int.reduceLT, Int.reduceLE, Int.reduceToNat, ev, litOf, St.put, nilK, faT, faK, iaA, callV, callVQ, evP, scalP, intW, pickV, seqP, mergeO, ren, renL, rho, loadA, rowOf, setRowOf, srcRows, dstRows, cellsOf, setCells, fillA, toRows, scal, Ty.isAgg, Value.oneCell', ty3, ty4, ty22, ty23, ty30, bne_self_eq_false]) | (refine callK_pure (hri) rfl rfl ?_) | (refine hK _ ?_; clear hK K) | ((first | refine guardK_split (fun hb' => ?_) (fun hb' => ?_) | refine guardM_split (fun hb' => ?_) (fun hb' => ?_)) <;> (have hb := hb'; (try simp only [DEc, reduceCtorEq] at hb); simp (disch := omega) only [Bc, ↓reduceIte, reduceCtorEq, Nat.reduceEqDiff, Nat.reduceBEq, Nat.reduceAdd, Nat.reduceLT, Nat.reduceLeDiff, Nat.reduceMul, Int.reduceNeg, Int.reduceLT, Int.reduceLE, Int.reduceToNat, ev, litOf, St.put, nilK, faT, faK, iaA, callV, callVQ, evP, scalP, intW, pickV, seqP, mergeO, ren, renL, rho, loadA, rowOf, setRowOf, srcRows, dstRows, cellsOf, setCells, fillA, toRows, scal, Ty.isAgg, Value.oneCell', ty3, ty4, ty22, ty23, ty30, bne_self_eq_false, hb']; clear hb')) | (refine W_cond (by (simp only [LKc, ↓reduceIte, Nat.reduceEqDiff, Nat.reduceBEq, ev, litOf, St.put, ty3, ty4, ty22, ty23, ty30, bne_self_eq_false]; exact rfl)) (fun ht => ?_) (fun ht => ?_) <;> (try simp only [DEc, reduceCtorEq] at ht)) | refine W_skip ?_ | refine W_exit ?_ | refine W_ret ?_ | refine W_label ?_ | (refine W_block_k ?_; intro Qb hnb hxb heb) | (refine W_k ?_; intro Q hn he) | (refine hn _ ?_; clear hn he Q) | (refine hnb _ ?_; clear hnb hxb heb Qb) | (refine hxb _ ?_; clear hnb hxb heb Qb) | (refine he _ _ ?_ ?_; (focus (simp only [NEc, reduceCtorEq, Nat.reduceEqDiff]; done)); clear hn he Q) | (refine heb _ _ ?_ ?_ ?_; (focus (simp only [NEc, reduceCtorEq, Nat.reduceEqDiff]; done)); (focus (simp only [NEc, reduceCtorEq, Nat.reduceEqDiff]; done)); clear hnb hxb heb Qb) | (refine hel _ _ ?_ ?_; (focus (simp only [NEc, reduceCtorEq, Nat.reduceEqDiff]; done)); clear hnl hel Ql) | (simp only [retQ, resW, retV, List.length_nil, LKc, ↓reduceIte, Nat.reduceEqDiff, Nat.reduceBEq, ev, litOf, St.put]) | with_reducible refine And.intro ?_ ?_ | omega | with_reducible rfl)
    all_goals first | exact RetOK_pure' rfl rfl | exact hn _ () trivial (by (refine Turns.slots _ _ rfl ?_; simp only [Has, and_true, Int.natCast_add, Int.cast_ofNat_Int, List.length_append, List.length_cons, List.length_nil, Nat.zero_add, Nat.reduceAdd, LKc, ↓reduceIte, Nat.reduceEqDiff, Nat.reduceBEq, ev, litOf, St.put]; try trivial))
  rintro - -
  by_cases he0 : e = 0
  · subst he0
    have hrr' := hrr rfl
    repeat' (first | ((first | (refine W_region_k (by decide) ?_; intro K hK) | (refine W_region_e (by decide) ?_; intro K hK) | (refine W_draw_o rfl (by decide) (by decide +kernel) ?_; intro K hK) | (refine W_draw_oe rfl (by decide) (by decide +kernel) ?_; intro K hK) | with_reducible refine opsL_go ?_ | with_reducible refine planW_go ?_); simp (disch := omega) only [Bc, ↓reduceIte, reduceCtorEq, Nat.reduceEqDiff, Nat.reduceBEq, Nat.reduceAdd, Nat.reduceLT, Nat.reduceLeDiff, Nat.reduceMul, Int.reduceNeg, Int.reduceLT, Int.reduceLE, Int.reduceToNat, ev, litOf, St.put, nilK, faT, faK, iaA, callV, callVQ, evP, scalP, intW, pickV, seqP, mergeO, ren, renL, rho, loadA, rowOf, setRowOf, srcRows, dstRows, cellsOf, setCells, fillA, toRows, scal, Ty.isAgg, Value.oneCell', ty3, ty4, ty22, ty23, ty30, bne_self_eq_false]) | (refine callK_pure (hmr) rfl rfl ?_) | (refine callK_pure (her) rfl rfl ?_) | (refine callK_pure (hrr') rfl rfl ?_) | (refine callK_pure (awake_ok) rfl rfl ?_) | (refine hK _ ?_; clear hK K) | ((first | refine guardK_split (fun hb' => ?_) (fun hb' => ?_) | refine guardM_split (fun hb' => ?_) (fun hb' => ?_)) <;> (have hb := hb'; (try simp only [DEc, reduceCtorEq] at hb); simp (disch := omega) only [Bc, ↓reduceIte, reduceCtorEq, Nat.reduceEqDiff, Nat.reduceBEq, Nat.reduceAdd, Nat.reduceLT, Nat.reduceLeDiff, Nat.reduceMul, Int.reduceNeg, Int.reduceLT, Int.reduceLE, Int.reduceToNat, ev, litOf, St.put, nilK, faT, faK, iaA, callV, callVQ, evP, scalP, intW, pickV, seqP, mergeO, ren, renL, rho, loadA, rowOf, setRowOf, srcRows, dstRows, cellsOf, setCells, fillA, toRows, scal, Ty.isAgg, Value.oneCell', ty3, ty4, ty22, ty23, ty30, bne_self_eq_false, hb']; clear hb')) | (refine W_cond (by (simp only [LKc, ↓reduceIte, Nat.reduceEqDiff, Nat.reduceBEq, ev, litOf, St.put, ty3, ty4, ty22, ty23, ty30, bne_self_eq_false]; exact rfl)) (fun ht => ?_) (fun ht => ?_) <;> (try simp only [DEc, reduceCtorEq] at ht)) | refine W_skip ?_ | refine W_exit ?_ | refine W_ret ?_ | refine W_label ?_ | (refine W_block_k ?_; intro Qb hnb hxb heb) | (refine W_k ?_; intro Q hn he) | (refine hn _ ?_; clear hn he Q) | (refine hnb _ ?_; clear hnb hxb heb Qb) | (refine hxb _ ?_; clear hnb hxb heb Qb) | (refine he _ _ ?_ ?_; (focus (simp only [NEc, reduceCtorEq, Nat.reduceEqDiff]; done)); clear hn he Q) | (refine heb _ _ ?_ ?_ ?_; (focus (simp only [NEc, reduceCtorEq, Nat.reduceEqDiff]; done)); (focus (simp only [NEc, reduceCtorEq, Nat.reduceEqDiff]; done)); clear hnb hxb heb Qb) | (refine hel _ _ ?_ ?_; (focus (simp only [NEc, reduceCtorEq, Nat.reduceEqDiff]; done)); clear hnl hel Ql) | (simp only [retQ, resW, retV, List.length_nil, LKc, ↓reduceIte, Nat.reduceEqDiff, Nat.reduceBEq, ev, litOf, St.put]) | with_reducible refine And.intro ?_ ?_ | omega | with_reducible rfl)
    all_goals exact RetOK_pure' rfl rfl
  · have hm1 := hm0 he0
    subst hm1
    have hne : (e != 0) = true := by simpa using he0
    repeat' (first | ((first | (refine W_region_k (by decide) ?_; intro K hK) | (refine W_region_e (by decide) ?_; intro K hK) | (refine W_draw_o rfl (by decide) (by decide +kernel) ?_; intro K hK) | (refine W_draw_oe rfl (by decide) (by decide +kernel) ?_; intro K hK) | with_reducible refine opsL_go ?_ | with_reducible refine planW_go ?_); simp (disch := omega) only [Bc, ↓reduceIte, reduceCtorEq, Nat.reduceEqDiff, Nat.reduceBEq, Nat.reduceAdd, Nat.reduceLT, Nat.reduceLeDiff, Nat.reduceMul, Int.reduceNeg, Int.reduceLT, Int.reduceLE, Int.reduceToNat, ev, litOf, St.put, nilK, faT, faK, iaA, callV, callVQ, evP, scalP, intW, pickV, seqP, mergeO, ren, renL, rho, loadA, rowOf, setRowOf, srcRows, dstRows, cellsOf, setCells, fillA, toRows, scal, Ty.isAgg, Value.oneCell', ty3, ty4, ty22, ty23, ty30, bne_self_eq_false, hne]) | (refine callK_pure (hmr) rfl rfl ?_) | (refine callK_pure (her) rfl rfl ?_) | (refine callK_pure (awake_ok) rfl rfl ?_) | (refine hK _ ?_; clear hK K) | ((first | refine guardK_split (fun hb' => ?_) (fun hb' => ?_) | refine guardM_split (fun hb' => ?_) (fun hb' => ?_)) <;> (have hb := hb'; (try simp only [DEc, reduceCtorEq] at hb); simp (disch := omega) only [Bc, ↓reduceIte, reduceCtorEq, Nat.reduceEqDiff, Nat.reduceBEq, Nat.reduceAdd, Nat.reduceLT, Nat.reduceLeDiff, Nat.reduceMul, Int.reduceNeg, Int.reduceLT, Int.reduceLE, Int.reduceToNat, ev, litOf, St.put, nilK, faT, faK, iaA, callV, callVQ, evP, scalP, intW, pickV, seqP, mergeO, ren, renL, rho, loadA, rowOf, setRowOf, srcRows, dstRows, cellsOf, setCells, fillA, toRows, scal, Ty.isAgg, Value.oneCell', ty3, ty4, ty22, ty23, ty30, bne_self_eq_false, hne, hb']; clear hb')) | (refine W_cond (by (simp only [LKc, ↓reduceIte, Nat.reduceEqDiff, Nat.reduceBEq, ev, litOf, St.put, ty3, ty4, ty22, ty23, ty30, bne_self_eq_false, hne]; exact rfl)) (fun ht => ?_) (fun ht => ?_) <;> (try simp only [DEc, reduceCtorEq] at ht)) | refine W_skip ?_ | refine W_exit ?_ | refine W_ret ?_ | refine W_label ?_ | (refine W_block_k ?_; intro Qb hnb hxb heb) | (refine W_k ?_; intro Q hn he) | (refine hn _ ?_; clear hn he Q) | (refine hnb _ ?_; clear hnb hxb heb Qb) | (refine hxb _ ?_; clear hnb hxb heb Qb) | (refine he _ _ ?_ ?_; (focus (simp only [NEc, reduceCtorEq, Nat.reduceEqDiff]; done)); clear hn he Q) | (refine heb _ _ ?_ ?_ ?_; (focus (simp only [NEc, reduceCtorEq, Nat.reduceEqDiff]; done)); (focus (simp only [NEc, reduceCtorEq, Nat.reduceEqDiff]; done)); clear hnb hxb heb Qb) | (refine hel _ _ ?_ ?_; (focus (simp only [NEc, reduceCtorEq, Nat.reduceEqDiff]; done)); clear hnl hel Ql) | (simp only [retQ, resW, retV, List.length_nil, LKc, ↓reduceIte, Nat.reduceEqDiff, Nat.reduceBEq, ev, litOf, St.put]) | with_reducible refine And.intro ?_ ?_ | omega | with_reducible rfl)
    all_goals exact RetOK_pure' rfl rfl

end T
