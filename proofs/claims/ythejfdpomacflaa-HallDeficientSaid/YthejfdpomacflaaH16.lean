import Derived.Test.YthejfdpomacflaaH15
open Go Go.Am Go.Proofs
set_option linter.unusedSimpArgs false
set_option linter.unusedVariables false
namespace T

theorem cn_le_n (n : Nat) (p : Nat → Bool) : cn n p ≤ n := by have := cn_not n p; omega

theorem defV_len (left : List (List Int)) (rt : Int) : (defV left rt).1.length < 1099511627776 ∧ (defV left rt).2.1.length < 1099511627776 := by
  rw [defV]
  split
  · simp
  · rename_i h
    obtain ⟨hL, h1, h2⟩ := check_left (by omega : check left rt = 0)
    obtain ⟨⟨D, hI⟩, hs⟩ := matchW_main hL (-1)
    rw [matchW_none] at hI
    have hr := reach hL hI.ok _ rfl
    have hl := hL.1
    unfold defR
    dsimp only
    rw [whereL_len, whereL_len, hr.lu, hr.li]
    have a := cn_le_n left.length
    have b := cn_le_n rt.toNat
    exact ⟨Nat.lt_of_le_of_lt (a _) (by omega), Nat.lt_of_le_of_lt (b _) (by omega)⟩

set_option maxHeartbeats 4000000 in
theorem hallDeficient_ok (raw : List (List Int)) (rt : Int) (hrt : In64 rt) (tape : List Int) : Holds Try.prog 4 [.tree 1 (intss raw), .lit (.int .i64 rt), .tree 1 (ints tape)] [] (.lit (.bool true)) [] := by
  have hdr := Deficient_ok raw rt
  have hfr := refDeficient_ok raw rt
  rw [← defV_refV] at hfr
  obtain ⟨hb1, hb2⟩ := defV_len raw rt
  have hs1 := same_ok (defV raw rt).1 (defV raw rt).1 hb1
  have hs2 := same_ok (defV raw rt).2.1 (defV raw rt).2.1 hb2
  rw [decide_eq_true rfl] at hs1 hs2
  generalize defV raw rt = dv at *
  obtain ⟨g1, p1, e1⟩ := dv
  dsimp only at *
  have hp : ∃ l k' g2 p2 e2, (tape.length ≤ 400 → Holds Try.prog 9 [AV.ptr 0 0 0, AV.lit (Value.int IntKind.i64 5)] [Ob.var [AV.tree 1 (ints tape), AV.lit (Value.int IntKind.i64 (0 : Nat))]] (AV.tree 1 (intss l)) [Ob.var [AV.tree 1 (ints tape), AV.lit (Value.int IntKind.i64 (k' : Nat))]]) ∧
      Holds Try.prog 14 [.tree 1 (intss l), .lit (.int .i64 5)] [] (.tup [.tree 1 (ints g2), .tree 1 (ints p2), .lit (.int .i64 e2)]) [] ∧ Holds Try.prog 15 [.tree 1 (intss l), .lit (.int .i64 5)] [] (.tup [.tree 1 (ints g2), .tree 1 (ints p2), .lit (.int .i64 e2)]) [] ∧
      Holds Try.prog 16 [.tree 1 (ints g2), .tree 1 (ints g2)] [] (.lit (.bool true)) [] ∧ Holds Try.prog 16 [.tree 1 (ints p2), .tree 1 (ints p2)] [] (.lit (.bool true)) [] := by
    by_cases ht : tape.length ≤ 400
    · obtain ⟨k', hli⟩ := lists_ok tape 5 (by unfold In64; omega) (by omega)
      obtain ⟨c1, c2⟩ := defV_len (lists tape 5) 5
      have s1 := same_ok (defV (lists tape 5) 5).1 (defV (lists tape 5) 5).1 c1
      have s2 := same_ok (defV (lists tape 5) 5).2.1 (defV (lists tape 5) 5).2.1 c2
      rw [decide_eq_true rfl] at s1 s2
      have hf := refDeficient_ok (lists tape 5) 5
      rw [← defV_refV] at hf
      exact ⟨_, k', _, _, _, fun _ => hli, Deficient_ok _ 5, hf, s1, s2⟩
    · obtain ⟨c1, c2⟩ := defV_len [] 5
      have s1 := same_ok (defV [] 5).1 (defV [] 5).1 c1
      have s2 := same_ok (defV [] 5).2.1 (defV [] 5).2.1 c2
      rw [decide_eq_true rfl] at s1 s2
      have hf := refDeficient_ok [] 5
      rw [← defV_refV] at hf
      exact ⟨[], 0, _, _, _, fun h => absurd h ht, Deficient_ok _ 5, hf, s1, s2⟩
  obtain ⟨l, k', g2, p2, e2, hli, hd2, hf2, hs3, hs4⟩ := hp
  refine Holds.of_body' (fn := Try.f4) 102 0 [.tmp 6] Try.func4 rfl rfl rfl rfl rfl (by simp) ?_
  refine W_region_k (by decide) ?_
  intro K hK
  simp (disch := omega) only [Bc, ↓reduceIte, reduceCtorEq, Nat.reduceEqDiff, Nat.reduceBEq, Nat.reduceAdd, Nat.reduceLT, Nat.reduceLeDiff, Nat.reduceMul, Int.reduceNeg, Int.reduceLT, Int.reduceLE, Int.reduceToNat, ev, litOf, St.put, nilK, faT, faK, iaA, callV, callVQ, evP, scalP, intW, pickV, seqP, mergeO, ren, renL, rho, loadA, rowOf, setRowOf, srcRows, dstRows, cellsOf, setCells, fillA, toRows, scal, Ty.isAgg, Value.oneCell', ty4]
  refine hK _ ?_
  clear hK K
  refine W_joinT (fun _ : Unit => ⟨slots [(0, .tree 1 (intss raw)), (1, .lit (.int .i64 rt)), (2, .tree 1 (ints tape))], []⟩) (fun _ => tape.length ≤ 400) ?_ ?_
  · intro Q hn he
    repeat' (first | ((first | (refine W_region_k (by decide) ?_; intro K hK) | (refine W_region_e (by decide) ?_; intro K hK) | (refine W_draw_o rfl (by decide) (by decide +kernel) ?_; intro K hK) | (refine W_draw_oe rfl (by decide) (by decide +kernel) ?_; intro K hK) | with_reducible refine opsL_go ?_ | with_reducible refine planW_go ?_); simp (disch := omega) only [Bc, ↓reduceIte, reduceCtorEq, Nat.reduceEqDiff, Nat.reduceBEq, Nat.reduceAdd, Nat.reduceLT, Nat.reduceLeDiff, Nat.reduceMul, Int.reduceNeg, Int.reduceLT, Int.reduceLE, Int.reduceToNat, ev, litOf, St.put, nilK, faT, faK, iaA, callV, callVQ, evP, scalP, intW, pickV, seqP, mergeO, ren, renL, rho, loadA, rowOf, setRowOf, srcRows, dstRows, cellsOf, setCells, fillA, toRows, scal, Ty.isAgg, Value.oneCell', ty3, ty4, ty22, ty23, ty30, bne_self_eq_false]) | (refine callK_pure (short_ok _) rfl rfl ?_) | (refine callK_pure (light_ok _) rfl rfl ?_) | (refine callK_pure (awake_ok) rfl rfl ?_) | (refine hK _ ?_; clear hK K) | ((first | refine guardK_split (fun hb' => ?_) (fun hb' => ?_) | refine guardM_split (fun hb' => ?_) (fun hb' => ?_)) <;> (have hb := hb'; (try simp only [DEc, reduceCtorEq] at hb); simp (disch := omega) only [Bc, ↓reduceIte, reduceCtorEq, Nat.reduceEqDiff, Nat.reduceBEq, Nat.reduceAdd, Nat.reduceLT, Nat.reduceLeDiff, Nat.reduceMul, Int.reduceNeg, Int.reduceLT, Int.reduceLE, Int.reduceToNat, ev, litOf, St.put, nilK, faT, faK, iaA, callV, callVQ, evP, scalP, intW, pickV, seqP, mergeO, ren, renL, rho, loadA, rowOf, setRowOf, srcRows, dstRows, cellsOf, setCells, fillA, toRows, scal, Ty.isAgg, Value.oneCell', ty3, ty4, ty22, ty23, ty30, bne_self_eq_false, hb']; clear hb')) | (refine W_cond (by (simp only [LKc, ↓reduceIte, Nat.reduceEqDiff, Nat.reduceBEq, ev, litOf, St.put, ty3, ty4, ty22, ty23, ty30, bne_self_eq_false]; exact rfl)) (fun ht => ?_) (fun ht => ?_) <;> (try simp only [DEc, reduceCtorEq] at ht)) | refine W_skip ?_ | refine W_exit ?_ | refine W_ret ?_ | refine W_label ?_ | (refine W_block_k ?_; intro Qb hnb hxb heb) | (refine W_k ?_; intro Q hn he) | (refine hn _ ?_; clear hn he Q) | (refine hnb _ ?_; clear hnb hxb heb Qb) | (refine hxb _ ?_; clear hnb hxb heb Qb) | (refine he _ _ ?_ ?_; (focus (simp only [NEc, reduceCtorEq, Nat.reduceEqDiff]; done)); clear hn he Q) | (refine heb _ _ ?_ ?_ ?_; (focus (simp only [NEc, reduceCtorEq, Nat.reduceEqDiff]; done)); (focus (simp only [NEc, reduceCtorEq, Nat.reduceEqDiff]; done)); clear hnb hxb heb Qb) | (refine hel _ _ ?_ ?_; (focus (simp only [NEc, reduceCtorEq, Nat.reduceEqDiff]; done)); clear hnl hel Ql) | (simp only [retQ, resW, retV, List.length_nil, LKc, ↓reduceIte, Nat.reduceEqDiff, Nat.reduceBEq, ev, litOf, St.put]) | with_reducible refine And.intro ?_ ?_ | omega | with_reducible rfl)
    all_goals first | exact RetOK_pure' rfl rfl | exact hn _ () (by omega) (by (refine Turns.slots _ _ rfl ?_; simp only [Has, and_true, Int.natCast_add, Int.cast_ofNat_Int, List.length_append, List.length_cons, List.length_nil, Nat.zero_add, Nat.reduceAdd, LKc, ↓reduceIte, Nat.reduceEqDiff, Nat.reduceBEq, ev, litOf, St.put]; try trivial))
  rintro - ht
  have hli := hli ht
  refine W_region_k (by decide) ?_
  intro K hK
  simp (disch := omega) only [Bc, ↓reduceIte, reduceCtorEq, Nat.reduceEqDiff, Nat.reduceBEq, Nat.reduceAdd, Nat.reduceLT, Nat.reduceLeDiff, Nat.reduceMul, Int.reduceNeg, Int.reduceLT, Int.reduceLE, Int.reduceToNat, ev, litOf, St.put, nilK, faT, faK, iaA, callV, callVQ, evP, scalP, intW, pickV, seqP, mergeO, ren, renL, rho, loadA, rowOf, setRowOf, srcRows, dstRows, cellsOf, setCells, fillA, toRows, scal, Ty.isAgg, Value.oneCell', ty3, ty22]
  refine callK_sel [] (roll_ok tape) (by decide) trivial ⟨.pure rfl, trivial⟩ ?_
  simp (disch := omega) only [Bc, ↓reduceIte, reduceCtorEq, Nat.reduceEqDiff, Nat.reduceBEq, Nat.reduceAdd, Nat.reduceLT, Nat.reduceLeDiff, Nat.reduceMul, Int.reduceNeg, Int.reduceLT, Int.reduceLE, Int.reduceToNat, ev, litOf, St.put, nilK, faT, faK, iaA, callV, callVQ, evP, scalP, intW, pickV, seqP, mergeO, ren, renL, rho, loadA, rowOf, setRowOf, srcRows, dstRows, cellsOf, setCells, fillA, toRows, scal, Ty.isAgg, Value.oneCell', ty3, ty22]
  refine callK_all hli (by simp) ?_
  simp (disch := omega) only [Bc, ↓reduceIte, reduceCtorEq, Nat.reduceEqDiff, Nat.reduceBEq, Nat.reduceAdd, Nat.reduceLT, Nat.reduceLeDiff, Nat.reduceMul, Int.reduceNeg, Int.reduceLT, Int.reduceLE, Int.reduceToNat, ev, litOf, St.put, nilK, faT, faK, iaA, callV, callVQ, evP, scalP, intW, pickV, seqP, mergeO, ren, renL, rho, loadA, rowOf, setRowOf, srcRows, dstRows, cellsOf, setCells, fillA, toRows, scal, Ty.isAgg, Value.oneCell', ty3, ty22]
  refine hK _ ?_
  clear hK K
  refine W_turn (σ' := ⟨slots [(0, .tree 1 (intss raw)), (1, .lit (.int .i64 rt)), (7, .tree 1 (intss l))], []⟩) ?_ ?_
  · refine Turns.sel [] false _ _ (by decide) trivial (by decide) (by decide) ⟨.pure rfl, .pure rfl, .pure rfl, trivial⟩
  repeat' (first | ((first | (refine W_region_k (by decide) ?_; intro K hK) | (refine W_region_e (by decide) ?_; intro K hK) | (refine W_draw_o rfl (by decide) (by decide +kernel) ?_; intro K hK) | (refine W_draw_oe rfl (by decide) (by decide +kernel) ?_; intro K hK) | with_reducible refine opsL_go ?_ | with_reducible refine planW_go ?_); simp (disch := omega) only [Bc, ↓reduceIte, reduceCtorEq, Nat.reduceEqDiff, Nat.reduceBEq, Nat.reduceAdd, Nat.reduceLT, Nat.reduceLeDiff, Nat.reduceMul, Int.reduceNeg, Int.reduceLT, Int.reduceLE, Int.reduceToNat, ev, litOf, St.put, nilK, faT, faK, iaA, callV, callVQ, evP, scalP, intW, pickV, seqP, mergeO, ren, renL, rho, loadA, rowOf, setRowOf, srcRows, dstRows, cellsOf, setCells, fillA, toRows, scal, Ty.isAgg, Value.oneCell', ty3, ty4, ty22, ty23, ty30, beq_self_eq_true]) | (refine callK_pure (hd2) rfl rfl ?_) | (refine callK_pure (hf2) rfl rfl ?_) | (refine callK_pure (hdr) rfl rfl ?_) | (refine callK_pure (hfr) rfl rfl ?_) | (refine callK_pure (hs1) rfl rfl ?_) | (refine callK_pure (hs2) rfl rfl ?_) | (refine callK_pure (hs3) rfl rfl ?_) | (refine callK_pure (hs4) rfl rfl ?_) | (refine callK_pure (awake_ok) rfl rfl ?_) | (refine hK _ ?_; clear hK K) | ((first | refine guardK_split (fun hb' => ?_) (fun hb' => ?_) | refine guardM_split (fun hb' => ?_) (fun hb' => ?_)) <;> (have hb := hb'; (try simp only [DEc, reduceCtorEq] at hb); simp (disch := omega) only [Bc, ↓reduceIte, reduceCtorEq, Nat.reduceEqDiff, Nat.reduceBEq, Nat.reduceAdd, Nat.reduceLT, Nat.reduceLeDiff, Nat.reduceMul, Int.reduceNeg, Int.reduceLT, Int.reduceLE, Int.reduceToNat, ev, litOf, St.put, nilK, faT, faK, iaA, callV, callVQ, evP, scalP, intW, pickV, seqP, mergeO, ren, renL, rho, loadA, rowOf, setRowOf, srcRows, dstRows, cellsOf, setCells, fillA, toRows, scal, Ty.isAgg, Value.oneCell', ty3, ty4, ty22, ty23, ty30, beq_self_eq_true, hb']; clear hb')) | (refine W_cond (by (simp only [LKc, ↓reduceIte, Nat.reduceEqDiff, Nat.reduceBEq, ev, litOf, St.put, ty3, ty4, ty22, ty23, ty30, beq_self_eq_true]; exact rfl)) (fun ht => ?_) (fun ht => ?_) <;> (try simp only [DEc, reduceCtorEq] at ht)) | refine W_skip ?_ | refine W_exit ?_ | refine W_ret ?_ | refine W_label ?_ | (refine W_block_k ?_; intro Qb hnb hxb heb) | (refine W_k ?_; intro Q hn he) | (refine hn _ ?_; clear hn he Q) | (refine hnb _ ?_; clear hnb hxb heb Qb) | (refine hxb _ ?_; clear hnb hxb heb Qb) | (refine he _ _ ?_ ?_; (focus (simp only [NEc, reduceCtorEq, Nat.reduceEqDiff]; done)); clear hn he Q) | (refine heb _ _ ?_ ?_ ?_; (focus (simp only [NEc, reduceCtorEq, Nat.reduceEqDiff]; done)); (focus (simp only [NEc, reduceCtorEq, Nat.reduceEqDiff]; done)); clear hnb hxb heb Qb) | (refine hel _ _ ?_ ?_; (focus (simp only [NEc, reduceCtorEq, Nat.reduceEqDiff]; done)); clear hnl hel Ql) | (simp only [retQ, resW, retV, List.length_nil, LKc, ↓reduceIte, Nat.reduceEqDiff, Nat.reduceBEq, ev, litOf, St.put]) | with_reducible refine And.intro ?_ ?_ | omega | with_reducible rfl)
  all_goals exact RetOK_pure' rfl rfl
end T
