import Derived.Test.YthejfdpomacflaaH13
import Derived.Test.YthejfdpomacflaaHP4
open Go Go.Am Go.Proofs
set_option linter.unusedSimpArgs false
set_option linter.unusedVariables false
namespace T

theorem rowL_in {L : List Int} {r : Int} (hr : 0 < r) : ∀ (c k : Nat) (acc : List Int), (∀ x ∈ acc, 0 ≤ x ∧ x < r) → (∀ x ∈ (rowL L r c k acc).1, 0 ≤ x ∧ x < r) ∧ (rowL L r c k acc).1.length = acc.length + c
  | 0, k, acc, h => ⟨h, rfl⟩
  | c + 1, k, acc, h => by
    rw [rowL]
    obtain ⟨a, b⟩ := rowL_in hr c (nextA L k) (acc ++ [nextV L k r]) (fun x hx => by
      rcases List.mem_append.1 hx with hx | hx
      · exact h x hx
      · simp only [List.mem_singleton] at hx; subst hx; exact nextV_range hr)
    exact ⟨a, by rw [b]; simp; omega⟩

theorem listsL_in {L : List Int} {r : Int} (hr : 0 < r) : ∀ (c k : Nat) (acc : List (List Int)), (∀ l ∈ acc, l.length ≤ 4096 ∧ ∀ x ∈ l, 0 ≤ x ∧ x < r) → (∀ l ∈ (listsL L r c k acc).1, l.length ≤ 4096 ∧ ∀ x ∈ l, 0 ≤ x ∧ x < r) ∧ (listsL L r c k acc).1.length = acc.length + c
  | 0, k, acc, h => ⟨h, rfl⟩
  | c + 1, k, acc, h => by
    rw [listsL]
    have hn4 := nextV_range (L := L) (k := k) (n := 4) (by omega)
    obtain ⟨a1, b1⟩ := rowL_in hr (nextV L k 4).toNat (nextA L k) [] (by simp)
    obtain ⟨a, b⟩ := listsL_in hr c (rowL L r (nextV L k 4).toNat (nextA L k) []).2 (acc ++ [(rowL L r (nextV L k 4).toNat (nextA L k) []).1]) (fun l hl => by
      rcases List.mem_append.1 hl with hl | hl
      · exact h l hl
      · simp only [List.mem_singleton] at hl; subst hl; exact ⟨by rw [b1]; simp; omega, a1⟩)
    exact ⟨a, by rw [b]; simp; omega⟩

theorem checkRow_zero {r : Int} : ∀ {l : List Int}, (∀ x ∈ l, 0 ≤ x ∧ x < r) → checkRow r l = 0
  | [], _ => rfl
  | x :: l, h => by
    rw [checkRow, if_neg (by have := h x (by simp); omega)]
    exact checkRow_zero fun y hy => h y (by simp [hy])

theorem checkRows_zero {r : Int} : ∀ {left : List (List Int)}, (∀ l ∈ left, l.length ≤ 4096 ∧ ∀ x ∈ l, 0 ≤ x ∧ x < r) → checkRows r left = 0
  | [], _ => rfl
  | l :: left, h => by
    have hl := h l (by simp)
    have h1 := checkRow_zero hl.2
    have h2 := checkRows_zero (left := left) fun y hy => h y (by simp [hy])
    rw [checkRows]
    simp [h1, h2]
    omega

theorem lists_check (L : List Int) {r : Int} (hr : 0 < r) (hr2 : r ≤ 4096) : check (lists L r) r = 0 := by
  have hn7 := nextV_range (L := L) (k := 0) (n := 7) (by omega)
  obtain ⟨a, b⟩ := listsL_in (L := L) hr (nextV L 0 7).toNat (nextA L 0) [] (by simp)
  rw [lists, check, if_neg (by rw [b]; simp; omega), if_neg (by omega)]
  exact checkRows_zero a

set_option maxHeartbeats 2000000 in
theorem hallCounts_ok (tape : List Int) : Holds Try.prog 5 [.tree 1 (ints tape)] [] (.lit (.bool true)) [] := by
  refine Holds.of_body' (fn := Try.f5) 74 0 [.tmp 2] Try.func5 rfl rfl rfl rfl rfl (by simp) ?_
  repeat' (first | ((first | (refine W_region_k (by decide) ?_; intro K hK) | (refine W_region_e (by decide) ?_; intro K hK) | (refine W_draw_o rfl (by decide) (by decide +kernel) ?_; intro K hK) | (refine W_draw_oe rfl (by decide) (by decide +kernel) ?_; intro K hK) | with_reducible refine opsL_go ?_ | with_reducible refine planW_go ?_); simp (disch := omega) only [Bc, ↓reduceIte, reduceCtorEq, Nat.reduceEqDiff, Nat.reduceBEq, Nat.reduceAdd, Nat.reduceLT, Nat.reduceLeDiff, Nat.reduceMul, Int.reduceNeg, Int.reduceLT, Int.reduceLE, Int.reduceToNat, ev, litOf, St.put, nilK, faT, faK, iaA, callV, callVQ, evP, scalP, intW, pickV, seqP, mergeO, ren, renL, rho, loadA, rowOf, setRowOf, srcRows, dstRows, cellsOf, setCells, fillA, toRows, scal, Ty.isAgg, Value.oneCell', ty3, ty4, ty22, ty23, ty30]) | (refine callK_pure (light_ok _) rfl rfl ?_) | (refine callK_pure (awake_ok) rfl rfl ?_) | (refine hK _ ?_; clear hK K) | ((first | refine guardK_split (fun hb' => ?_) (fun hb' => ?_) | refine guardM_split (fun hb' => ?_) (fun hb' => ?_)) <;> (have hb := hb'; (try simp only [DEc, reduceCtorEq] at hb); simp (disch := omega) only [Bc, ↓reduceIte, reduceCtorEq, Nat.reduceEqDiff, Nat.reduceBEq, Nat.reduceAdd, Nat.reduceLT, Nat.reduceLeDiff, Nat.reduceMul, Int.reduceNeg, Int.reduceLT, Int.reduceLE, Int.reduceToNat, ev, litOf, St.put, nilK, faT, faK, iaA, callV, callVQ, evP, scalP, intW, pickV, seqP, mergeO, ren, renL, rho, loadA, rowOf, setRowOf, srcRows, dstRows, cellsOf, setCells, fillA, toRows, scal, Ty.isAgg, Value.oneCell', ty3, ty4, ty22, ty23, ty30, hb']; clear hb')) | (refine W_cond (by (simp only [LKc, ↓reduceIte, Nat.reduceEqDiff, Nat.reduceBEq, ev, litOf, St.put, ty3, ty4, ty22, ty23, ty30]; exact rfl)) (fun ht => ?_) (fun ht => ?_) <;> (try simp only [DEc, reduceCtorEq] at ht)) | refine W_skip ?_ | refine W_exit ?_ | refine W_ret ?_ | refine W_label ?_ | (refine W_block_k ?_; intro Qb hnb hxb heb) | (refine W_k ?_; intro Q hn he) | (refine hn _ ?_; clear hn he Q) | (refine hnb _ ?_; clear hnb hxb heb Qb) | (refine hxb _ ?_; clear hnb hxb heb Qb) | (refine he _ _ ?_ ?_; (focus (simp only [NEc, reduceCtorEq, Nat.reduceEqDiff]; done)); clear hn he Q) | (refine heb _ _ ?_ ?_ ?_; (focus (simp only [NEc, reduceCtorEq, Nat.reduceEqDiff]; done)); (focus (simp only [NEc, reduceCtorEq, Nat.reduceEqDiff]; done)); clear hnb hxb heb Qb) | (refine hel _ _ ?_ ?_; (focus (simp only [NEc, reduceCtorEq, Nat.reduceEqDiff]; done)); clear hnl hel Ql) | (simp only [retQ, resW, retV, List.length_nil, LKc, ↓reduceIte, Nat.reduceEqDiff, Nat.reduceBEq, ev, litOf, St.put]) | with_reducible refine And.intro ?_ ?_ | omega | with_reducible rfl)
  · exact RetOK_pure' rfl rfl
  have hch := lists_check tape (r := 5) (by omega) (by omega)
  obtain ⟨k', hli⟩ := lists_ok tape 5 (by unfold In64; omega) (by omega)
  generalize lists tape 5 = l at hch hli
  have hmv := Match_ok l 5
  have hdv := Deficient_ok l 5
  rw [matchV, if_neg (by omega)] at hmv
  rw [defV, if_neg (by omega)] at hdv
  have hLo := (check_left hch).1
  obtain ⟨hml, hcn, hpos⟩ := counts hLo
  have hL1 := hLo.1
  rw [show Int.toNat 5 = 5 from rfl] at *
  generalize matchR l 5 = m at *
  generalize defR l 5 = d at *
  obtain ⟨ow, m⟩ := m
  obtain ⟨g, p⟩ := d
  dsimp only at *
  refine callK_sel [] (roll_ok tape) (by decide) trivial ⟨.pure rfl, trivial⟩ ?_
  repeat' (first | ((first | (refine W_region_k (by decide) ?_; intro K hK) | (refine W_region_e (by decide) ?_; intro K hK) | (refine W_draw_o rfl (by decide) (by decide +kernel) ?_; intro K hK) | (refine W_draw_oe rfl (by decide) (by decide +kernel) ?_; intro K hK) | with_reducible refine opsL_go ?_ | with_reducible refine planW_go ?_); simp (disch := omega) only [Bc, ↓reduceIte, reduceCtorEq, Nat.reduceEqDiff, Nat.reduceBEq, Nat.reduceAdd, Nat.reduceLT, Nat.reduceLeDiff, Nat.reduceMul, Int.reduceNeg, Int.reduceLT, Int.reduceLE, Int.reduceToNat, ev, litOf, St.put, nilK, faT, faK, iaA, callV, callVQ, evP, scalP, intW, pickV, seqP, mergeO, ren, renL, rho, loadA, rowOf, setRowOf, srcRows, dstRows, cellsOf, setCells, fillA, toRows, scal, Ty.isAgg, Value.oneCell', ty3, ty4, ty22, ty23, ty30]) | (refine hK _ ?_; clear hK K) | ((first | refine guardK_split (fun hb' => ?_) (fun hb' => ?_) | refine guardM_split (fun hb' => ?_) (fun hb' => ?_)) <;> (have hb := hb'; (try simp only [DEc, reduceCtorEq] at hb); simp (disch := omega) only [Bc, ↓reduceIte, reduceCtorEq, Nat.reduceEqDiff, Nat.reduceBEq, Nat.reduceAdd, Nat.reduceLT, Nat.reduceLeDiff, Nat.reduceMul, Int.reduceNeg, Int.reduceLT, Int.reduceLE, Int.reduceToNat, ev, litOf, St.put, nilK, faT, faK, iaA, callV, callVQ, evP, scalP, intW, pickV, seqP, mergeO, ren, renL, rho, loadA, rowOf, setRowOf, srcRows, dstRows, cellsOf, setCells, fillA, toRows, scal, Ty.isAgg, Value.oneCell', ty3, ty4, ty22, ty23, ty30, hb']; clear hb')) | (refine W_cond (by (simp only [LKc, ↓reduceIte, Nat.reduceEqDiff, Nat.reduceBEq, ev, litOf, St.put, ty3, ty4, ty22, ty23, ty30]; exact rfl)) (fun ht => ?_) (fun ht => ?_) <;> (try simp only [DEc, reduceCtorEq] at ht)) | refine W_skip ?_ | refine W_exit ?_ | refine W_ret ?_ | refine W_label ?_ | (refine W_block_k ?_; intro Qb hnb hxb heb) | (refine W_k ?_; intro Q hn he) | (refine hn _ ?_; clear hn he Q) | (refine hnb _ ?_; clear hnb hxb heb Qb) | (refine hxb _ ?_; clear hnb hxb heb Qb) | (refine he _ _ ?_ ?_; (focus (simp only [NEc, reduceCtorEq, Nat.reduceEqDiff]; done)); clear hn he Q) | (refine heb _ _ ?_ ?_ ?_; (focus (simp only [NEc, reduceCtorEq, Nat.reduceEqDiff]; done)); (focus (simp only [NEc, reduceCtorEq, Nat.reduceEqDiff]; done)); clear hnb hxb heb Qb) | (refine hel _ _ ?_ ?_; (focus (simp only [NEc, reduceCtorEq, Nat.reduceEqDiff]; done)); clear hnl hel Ql) | (simp only [retQ, resW, retV, List.length_nil, LKc, ↓reduceIte, Nat.reduceEqDiff, Nat.reduceBEq, ev, litOf, St.put]) | with_reducible refine And.intro ?_ ?_ | omega | with_reducible rfl)
  refine callK_all hli (by simp) ?_
  simp (disch := omega) only [Bc, ↓reduceIte, reduceCtorEq, Nat.reduceEqDiff, Nat.reduceBEq, Nat.reduceAdd, Nat.reduceLT, Nat.reduceLeDiff, Nat.reduceMul, Int.reduceNeg, Int.reduceLT, Int.reduceLE, Int.reduceToNat, ev, litOf, St.put, nilK, faT, faK, iaA, callV, callVQ, evP, scalP, intW, pickV, seqP, mergeO, ren, renL, rho, loadA, rowOf, setRowOf, srcRows, dstRows, cellsOf, setCells, fillA, toRows, scal, Ty.isAgg, Value.oneCell', ty3, ty22]
  refine hK _ ?_
  clear hK K
  refine W_turn (σ' := ⟨slots [(3, .tree 1 (intss l))], []⟩) ?_ ?_
  · refine Turns.sel [] false _ _ (by decide) trivial (by decide) (by decide) ⟨.pure rfl, trivial⟩
  repeat' (first | ((first | (refine W_region_k (by decide) ?_; intro K hK) | (refine W_region_e (by decide) ?_; intro K hK) | (refine W_draw_o rfl (by decide) (by decide +kernel) ?_; intro K hK) | (refine W_draw_oe rfl (by decide) (by decide +kernel) ?_; intro K hK) | with_reducible refine opsL_go ?_ | with_reducible refine planW_go ?_); simp (disch := omega) only [Bc, ↓reduceIte, reduceCtorEq, Nat.reduceEqDiff, Nat.reduceBEq, Nat.reduceAdd, Nat.reduceLT, Nat.reduceLeDiff, Nat.reduceMul, Int.reduceNeg, Int.reduceLT, Int.reduceLE, Int.reduceToNat, ev, litOf, St.put, nilK, faT, faK, iaA, callV, callVQ, evP, scalP, intW, pickV, seqP, mergeO, ren, renL, rho, loadA, rowOf, setRowOf, srcRows, dstRows, cellsOf, setCells, fillA, toRows, scal, Ty.isAgg, Value.oneCell', ty3, ty4, ty22, ty23, ty30, bne_self_eq_false, hml]) | (refine callK_pure (hmv) rfl rfl ?_) | (refine callK_pure (hdv) rfl rfl ?_) | (refine hK _ ?_; clear hK K) | ((first | refine guardK_split (fun hb' => ?_) (fun hb' => ?_) | refine guardM_split (fun hb' => ?_) (fun hb' => ?_)) <;> (have hb := hb'; (try simp only [DEc, reduceCtorEq] at hb); simp (disch := omega) only [Bc, ↓reduceIte, reduceCtorEq, Nat.reduceEqDiff, Nat.reduceBEq, Nat.reduceAdd, Nat.reduceLT, Nat.reduceLeDiff, Nat.reduceMul, Int.reduceNeg, Int.reduceLT, Int.reduceLE, Int.reduceToNat, ev, litOf, St.put, nilK, faT, faK, iaA, callV, callVQ, evP, scalP, intW, pickV, seqP, mergeO, ren, renL, rho, loadA, rowOf, setRowOf, srcRows, dstRows, cellsOf, setCells, fillA, toRows, scal, Ty.isAgg, Value.oneCell', ty3, ty4, ty22, ty23, ty30, bne_self_eq_false, hml, hb']; clear hb')) | (refine W_cond (by (simp only [LKc, ↓reduceIte, Nat.reduceEqDiff, Nat.reduceBEq, ev, litOf, St.put, ty3, ty4, ty22, ty23, ty30, bne_self_eq_false, hml]; exact rfl)) (fun ht => ?_) (fun ht => ?_) <;> (try simp only [DEc, reduceCtorEq] at ht)) | refine W_skip ?_ | refine W_exit ?_ | refine W_ret ?_ | refine W_label ?_ | (refine W_block_k ?_; intro Qb hnb hxb heb) | (refine W_k ?_; intro Q hn he) | (refine hn _ ?_; clear hn he Q) | (refine hnb _ ?_; clear hnb hxb heb Qb) | (refine hxb _ ?_; clear hnb hxb heb Qb) | (refine he _ _ ?_ ?_; (focus (simp only [NEc, reduceCtorEq, Nat.reduceEqDiff]; done)); clear hn he Q) | (refine heb _ _ ?_ ?_ ?_; (focus (simp only [NEc, reduceCtorEq, Nat.reduceEqDiff]; done)); (focus (simp only [NEc, reduceCtorEq, Nat.reduceEqDiff]; done)); clear hnb hxb heb Qb) | (refine hel _ _ ?_ ?_; (focus (simp only [NEc, reduceCtorEq, Nat.reduceEqDiff]; done)); clear hnl hel Ql) | (simp only [retQ, resW, retV, List.length_nil, LKc, ↓reduceIte, Nat.reduceEqDiff, Nat.reduceBEq, ev, litOf, St.put]) | with_reducible refine And.intro ?_ ?_ | omega | with_reducible rfl)
  generalize hcp : m.countP (fun x => decide (x < 0)) = cp at hcn hpos
  refine W_loopT (fun z : Nat × Nat => (⟨slots [(4, .tree 1 (ints m)), (6, .tree 1 (ints g)), (7, .tree 1 (ints p)), (9, .lit (.int .i64 z.2)), (10, .lit (.int .i64 z.1))], []⟩ : St))
    (fun z => z.1 ≤ m.length ∧ z.2 ≤ z.1 ∧ z.2 + (m.drop z.1).countP (fun x => decide (x < 0)) = cp) (fun z => m.length - z.1) (0, 0) ⟨Nat.zero_le _, Nat.le_refl _, by simpa using hcp⟩ (by (refine Turns.slots _ _ rfl ?_; simp only [Has, and_true, Int.natCast_add, Int.cast_ofNat_Int, List.length_append, List.length_cons, List.length_nil, Nat.zero_add, Nat.reduceAdd, LKc, ↓reduceIte, Nat.reduceEqDiff, Nat.reduceBEq, ev, litOf, St.put]; try trivial)) ?_
  rintro ⟨i, c⟩ ⟨hi, hc, hr⟩ Ql hnl hel
  dsimp only at hi hc hr ⊢
  by_cases hi' : i < m.length
  · rw [getD_drop0 _ _ 0 (by omega), List.countP_cons] at hr
    repeat' (first | ((first | (refine W_region_k (by decide) ?_; intro K hK) | (refine W_region_e (by decide) ?_; intro K hK) | (refine W_draw_o rfl (by decide) (by decide +kernel) ?_; intro K hK) | (refine W_draw_oe rfl (by decide) (by decide +kernel) ?_; intro K hK) | with_reducible refine opsL_go ?_ | with_reducible refine planW_go ?_); simp (disch := omega) only [Bc, ↓reduceIte, reduceCtorEq, Nat.reduceEqDiff, Nat.reduceBEq, Nat.reduceAdd, Nat.reduceLT, Nat.reduceLeDiff, Nat.reduceMul, Int.reduceNeg, Int.reduceLT, Int.reduceLE, Int.reduceToNat, ev, litOf, St.put, nilK, faT, faK, iaA, callV, callVQ, evP, scalP, intW, pickV, seqP, mergeO, ren, renL, rho, loadA, rowOf, setRowOf, srcRows, dstRows, cellsOf, setCells, fillA, toRows, scal, Ty.isAgg, Value.oneCell', ty3, ty4, ty22, ty23, ty30]) | (refine hK _ ?_; clear hK K) | ((first | refine guardK_split (fun hb' => ?_) (fun hb' => ?_) | refine guardM_split (fun hb' => ?_) (fun hb' => ?_)) <;> (have hb := hb'; (try simp only [DEc, reduceCtorEq] at hb); simp (disch := omega) only [Bc, ↓reduceIte, reduceCtorEq, Nat.reduceEqDiff, Nat.reduceBEq, Nat.reduceAdd, Nat.reduceLT, Nat.reduceLeDiff, Nat.reduceMul, Int.reduceNeg, Int.reduceLT, Int.reduceLE, Int.reduceToNat, ev, litOf, St.put, nilK, faT, faK, iaA, callV, callVQ, evP, scalP, intW, pickV, seqP, mergeO, ren, renL, rho, loadA, rowOf, setRowOf, srcRows, dstRows, cellsOf, setCells, fillA, toRows, scal, Ty.isAgg, Value.oneCell', ty3, ty4, ty22, ty23, ty30, hb']; clear hb')) | (refine W_cond (by (simp only [LKc, ↓reduceIte, Nat.reduceEqDiff, Nat.reduceBEq, ev, litOf, St.put, ty3, ty4, ty22, ty23, ty30]; exact rfl)) (fun ht => ?_) (fun ht => ?_) <;> (try simp only [DEc, reduceCtorEq] at ht)) | refine W_skip ?_ | refine W_exit ?_ | refine W_ret ?_ | refine W_label ?_ | (refine W_block_k ?_; intro Qb hnb hxb heb) | (refine W_k ?_; intro Q hn he) | (refine hn _ ?_; clear hn he Q) | (refine hnb _ ?_; clear hnb hxb heb Qb) | (refine hxb _ ?_; clear hnb hxb heb Qb) | (refine he _ _ ?_ ?_; (focus (simp only [NEc, reduceCtorEq, Nat.reduceEqDiff]; done)); clear hn he Q) | (refine heb _ _ ?_ ?_ ?_; (focus (simp only [NEc, reduceCtorEq, Nat.reduceEqDiff]; done)); (focus (simp only [NEc, reduceCtorEq, Nat.reduceEqDiff]; done)); clear hnb hxb heb Qb) | (simp only [retQ, resW, retV, List.length_nil, LKc, ↓reduceIte, Nat.reduceEqDiff, Nat.reduceBEq, ev, litOf, St.put]) | with_reducible refine And.intro ?_ ?_ | omega | with_reducible rfl)
    · rw [decide_eq_true ht, if_pos rfl] at hr
      exact hnl _ (i + 1, c + 1) ⟨by dsimp only; omega, by dsimp only; omega, by dsimp only; omega⟩ (by dsimp only; omega) (by (refine Turns.slots _ _ rfl ?_; simp only [Has, and_true, Int.natCast_add, Int.cast_ofNat_Int, List.length_append, List.length_cons, List.length_nil, Nat.zero_add, Nat.reduceAdd, LKc, ↓reduceIte, Nat.reduceEqDiff, Nat.reduceBEq, ev, litOf, St.put]; try trivial))
    · rw [decide_eq_false (by omega), if_neg (by simp)] at hr
      exact hnl _ (i + 1, c) ⟨by dsimp only; omega, by dsimp only; omega, by dsimp only; omega⟩ (by dsimp only; omega) (by (refine Turns.slots _ _ rfl ?_; simp only [Has, and_true, Int.natCast_add, Int.cast_ofNat_Int, List.length_append, List.length_cons, List.length_nil, Nat.zero_add, Nat.reduceAdd, LKc, ↓reduceIte, Nat.reduceEqDiff, Nat.reduceBEq, ev, litOf, St.put]; try trivial))
  · have hle := List.countP_le_length (p := fun x => decide (x < 0)) (l := m)
    rw [List.drop_eq_nil_of_le (by omega), List.countP_nil, Nat.add_zero] at hr
    subst hr
    rw [hcp] at hle
    have e1 : ((c : Int) == (g.length : Int) - (p.length : Int)) = true := by rw [beq_iff_eq]; omega
    have hpos' : 0 < c ∨ g.length = 0 := hpos.imp (fun h => h) (fun h => by rw [h]; rfl)
    repeat' (first | ((first | (refine W_region_k (by decide) ?_; intro K hK) | (refine W_region_e (by decide) ?_; intro K hK) | (refine W_draw_o rfl (by decide) (by decide +kernel) ?_; intro K hK) | (refine W_draw_oe rfl (by decide) (by decide +kernel) ?_; intro K hK) | with_reducible refine opsL_go ?_ | with_reducible refine planW_go ?_); simp (disch := omega) only [Bc, ↓reduceIte, reduceCtorEq, Nat.reduceEqDiff, Nat.reduceBEq, Nat.reduceAdd, Nat.reduceLT, Nat.reduceLeDiff, Nat.reduceMul, Int.reduceNeg, Int.reduceLT, Int.reduceLE, Int.reduceToNat, ev, litOf, St.put, nilK, faT, faK, iaA, callV, callVQ, evP, scalP, intW, pickV, seqP, mergeO, ren, renL, rho, loadA, rowOf, setRowOf, srcRows, dstRows, cellsOf, setCells, fillA, toRows, scal, Ty.isAgg, Value.oneCell', ty3, ty4, ty22, ty23, ty30, e1]) | (refine callK_pure (awake_ok) rfl rfl ?_) | (refine hK _ ?_; clear hK K) | ((first | refine guardK_split (fun hb' => ?_) (fun hb' => ?_) | refine guardM_split (fun hb' => ?_) (fun hb' => ?_)) <;> (have hb := hb'; (try simp only [DEc, reduceCtorEq] at hb); simp (disch := omega) only [Bc, ↓reduceIte, reduceCtorEq, Nat.reduceEqDiff, Nat.reduceBEq, Nat.reduceAdd, Nat.reduceLT, Nat.reduceLeDiff, Nat.reduceMul, Int.reduceNeg, Int.reduceLT, Int.reduceLE, Int.reduceToNat, ev, litOf, St.put, nilK, faT, faK, iaA, callV, callVQ, evP, scalP, intW, pickV, seqP, mergeO, ren, renL, rho, loadA, rowOf, setRowOf, srcRows, dstRows, cellsOf, setCells, fillA, toRows, scal, Ty.isAgg, Value.oneCell', ty3, ty4, ty22, ty23, ty30, e1, hb']; clear hb')) | (refine W_cond (by (simp only [LKc, ↓reduceIte, Nat.reduceEqDiff, Nat.reduceBEq, ev, litOf, St.put, ty3, ty4, ty22, ty23, ty30, e1]; exact rfl)) (fun ht => ?_) (fun ht => ?_) <;> (try simp only [DEc, reduceCtorEq] at ht)) | refine W_skip ?_ | refine W_exit ?_ | refine W_ret ?_ | refine W_label ?_ | (refine W_block_k ?_; intro Qb hnb hxb heb) | (refine W_k ?_; intro Q hn he) | (refine hn _ ?_; clear hn he Q) | (refine hnb _ ?_; clear hnb hxb heb Qb) | (refine hxb _ ?_; clear hnb hxb heb Qb) | (refine he _ _ ?_ ?_; (focus (simp only [NEc, reduceCtorEq, Nat.reduceEqDiff]; done)); clear hn he Q) | (refine heb _ _ ?_ ?_ ?_; (focus (simp only [NEc, reduceCtorEq, Nat.reduceEqDiff]; done)); (focus (simp only [NEc, reduceCtorEq, Nat.reduceEqDiff]; done)); clear hnb hxb heb Qb) | (refine hel _ _ ?_ ?_; (focus (simp only [NEc, reduceCtorEq, Nat.reduceEqDiff]; done)); clear hnl hel Ql) | (simp only [retQ, resW, retV, List.length_nil, LKc, ↓reduceIte, Nat.reduceEqDiff, Nat.reduceBEq, ev, litOf, St.put]) | with_reducible refine And.intro ?_ ?_ | omega | with_reducible rfl)
    all_goals first | exact RetOK_pure' rfl rfl | (exfalso; omega)
end T
