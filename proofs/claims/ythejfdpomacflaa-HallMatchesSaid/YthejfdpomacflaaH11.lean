import Derived.Test.YthejfdpomacflaaH10
open Go Go.Am Go.Proofs
set_option linter.unusedSimpArgs false
set_option linter.unusedVariables false
namespace T

/-- one list of the search: its numbers are used, their owners come into the queue -/
def bfsRow (list : List Int) : List Int → List Int → List Bool → List Bool → List Int × List Bool × List Bool
  | [], q, used, inn => (q, used, inn)
  | n :: r, q, used, inn =>
    if 0 ≤ list.getD n.toNat 0 ∧ inn.getD (list.getD n.toNat 0).toNat false = false then bfsRow list r (q ++ [list.getD n.toNat 0]) (used.set n.toNat true) (inn.set (list.getD n.toNat 0).toNat true)
    else bfsRow list r q (used.set n.toNat true) inn
def bfs (left : List (List Int)) (list : List Int) : Nat → List Int → List Bool → List Bool → List Bool × List Bool
  | 0, _, used, inn => (used, inn)
  | _ + 1, [], used, inn => (used, inn)
  | f + 1, i :: q, used, inn => let z := bfsRow list (left.getD i.toNat []) q used inn; bfs left list f z.1 z.2.1 z.2.2

def unm (m : List Int) : List Bool := m.map fun n => decide (n < 0)
def defR (left : List (List Int)) (R : Nat) : List Int × List Int :=
  let z := bfs left (matchR left R).1 left.length (whereL (unm (matchR left R).2) 0) (List.replicate R false) (unm (matchR left R).2)
  (whereL z.2 0, whereL z.1 0)
def defV (left : List (List Int)) (right : Int) : List Int × List Int × Int := if check left right ≠ 0 then ([], [], check left right) else ((defR left right.toNat).1, (defR left right.toNat).2, 0)

theorem matchL_ok {left : List (List Int)} {R : Nat} (hL : LeftOK R left) : ∀ (c i : Nat) (owner number : List Int), i + c ≤ left.length → OwnOK left.length R owner → OwnOK left.length R (matchL left R c i owner number).1 ∧ (matchL left R c i owner number).2.length = number.length
  | 0, i, owner, number, _, ho => ⟨ho, rfl⟩
  | c + 1, i, owner, number, hi, ho => by
    have hk2 := augL_ok hL R (left.getD i []) i (List.replicate R false) owner (hL.get _).2 (by omega) ho (by simp)
    obtain ⟨e1, e2, e3, e4⟩ := augN_augL left R (left.getD i []) i (List.replicate R false) owner number
    rw [← e3] at hk2
    rw [matchL]
    obtain ⟨a, b⟩ := matchL_ok hL c (i + 1) _ (augN left R (left.getD i []) i (List.replicate R false) owner number).2.2.2 (by omega) hk2.1
    exact ⟨a, b.trans e4⟩

theorem matchR_ok {left : List (List Int)} {R : Nat} (hL : LeftOK R left) : OwnOK left.length R (matchR left R).1 ∧ (matchR left R).2.length = left.length := by
  obtain ⟨a, b⟩ := matchL_ok hL left.length 0 (List.replicate R (-1)) (List.replicate left.length (-1)) (by omega) (OwnOK.rep _ _)
  exact ⟨a, by rw [matchR, b]; simp⟩

theorem tf_true {l : List Bool} {k n : Nat} (hl : l.length = n) (hk : k < n) (h : l.getD k false = true) : (l.take k ++ List.replicate (n - k) false).set k true = l.take (k + 1) ++ List.replicate (n - (k + 1)) false := by
  have e : n - k = (n - (k + 1)) + 1 := by omega
  rw [e, List.replicate_succ, List.set_append_right _ _ (by simp; omega), List.length_take, Nat.min_eq_left (by omega), Nat.sub_self, List.set_cons_zero, List.take_add_one]
  have : l[k]? = some true := by
    have hk' : k < l.length := by omega
    rw [List.getD_eq_getElem?_getD, List.getElem?_eq_getElem hk', Option.getD_some] at h
    rw [List.getElem?_eq_getElem hk', h]
  simp [this]
theorem tf_false {l : List Bool} {k n : Nat} (hl : l.length = n) (hk : k < n) (h : l.getD k false = false) : l.take k ++ List.replicate (n - k) false = l.take (k + 1) ++ List.replicate (n - (k + 1)) false := by
  have e : n - k = (n - (k + 1)) + 1 := by omega
  rw [e, List.replicate_succ, List.take_add_one]
  have : l[k]? = some false := by
    have hk' : k < l.length := by omega
    rw [List.getD_eq_getElem?_getD, List.getElem?_eq_getElem hk', Option.getD_some] at h
    rw [List.getElem?_eq_getElem hk', h]
  simp [this]

theorem whereL_range (l : List Bool) : ∀ (k : Nat), ∀ x ∈ whereL l k, (k : Int) ≤ x ∧ x < (k + l.length : Nat) := by
  induction l with
  | nil => intro k x hx; simp [whereL] at hx
  | cons b r ih =>
    intro k x hx
    rw [whereL] at hx
    have := ih (k + 1) x
    simp only [List.length_cons]
    split at hx
    · rcases List.mem_cons.1 hx with rfl | hx
      · omega
      · have := this hx; omega
    · have := this hx; omega

theorem whereL_cnt (l : List Bool) : ∀ (k : Nat), (whereL l k).length + cnt l = l.length := by
  induction l with
  | nil => intro k; rfl
  | cons b r ih =>
    intro k
    have := ih (k + 1)
    rw [whereL]
    unfold cnt at *
    cases b <;> simp <;> omega

theorem bfsRow_ok {list : List Int} {n R : Nat} (ho : OwnOK n R list) : ∀ (l : List Int) (q : List Int) (used inn : List Bool), (∀ x ∈ l, 0 ≤ x ∧ x < R) → (∀ x ∈ q, 0 ≤ x ∧ x < n) → used.length = R → inn.length = n →
    (∀ x ∈ (bfsRow list l q used inn).1, 0 ≤ x ∧ x < n) ∧ (bfsRow list l q used inn).2.1.length = R ∧ (bfsRow list l q used inn).2.2.length = n ∧ (bfsRow list l q used inn).1.length + cnt (bfsRow list l q used inn).2.2 = q.length + cnt inn
  | [], q, used, inn, _, hq, hu, hi => ⟨hq, hu, hi, rfl⟩
  | x :: r, q, used, inn, hl, hq, hu, hi => by
    have hx := hl x (by simp)
    have hr : ∀ x ∈ r, 0 ≤ x ∧ x < R := fun y hy => hl y (by simp [hy])
    have hog := ho.get (x := x.toNat) (by omega)
    rw [bfsRow]
    split
    · rename_i hc
      have hc2 := cnt_set inn (list.getD x.toNat 0).toNat (by omega) hc.2
      obtain ⟨a, b, c, d⟩ := bfsRow_ok ho r (q ++ [list.getD x.toNat 0]) (used.set x.toNat true) (inn.set (list.getD x.toNat 0).toNat true) hr (by
        intro y hy
        rcases List.mem_append.1 hy with hy | hy
        · exact hq y hy
        · simp only [List.mem_singleton] at hy; subst hy; omega) (by simpa using hu) (by simpa using hi)
      refine ⟨a, b, c, ?_⟩
      rw [d, List.length_append, List.length_singleton]; omega
    · exact bfsRow_ok ho r q _ inn hr hq (by simpa using hu) hi

theorem tup3 {σ : St} {kp : Nat → Prop} {ρ : Nat → Nat} {snap : Bool} {a b c d e f : AV} (h : ArgR σ kp ρ snap a d) (k : ArgR σ kp ρ snap b e) (l : ArgR σ kp ρ snap c f) : ArgR σ kp ρ snap (.tup [a, b, c]) (.tup [d, e, f]) :=
  .tup _ _ rfl (ArgsR.spec (R := ArgR σ kp ρ snap) (cs := [a, b, c]) (ds := [d, e, f]) ⟨h, k, l, trivial⟩).2

def QOK (n : Nat) (q : List Int) : Prop := ∀ x ∈ q, 0 ≤ x ∧ x < n

set_option maxHeartbeats 2000000 in
theorem Deficient_ok (left : List (List Int)) (right : Int) : Holds Try.prog 14 [.tree 1 (intss left), .lit (.int .i64 right)] [] (.tup [.tree 1 (ints (defV left right).1), .tree 1 (ints (defV left right).2.1), .lit (.int .i64 (defV left right).2.2)]) [] := by
  generalize hres : defV left right = res
  unfold defV at hres
  refine Holds.of_body' (fn := Try.f14) 98 0 [.tmp 4, .tmp 5, .tmp 6] Try.func14 rfl rfl rfl rfl rfl (by simp) ?_
  repeat' (first | ((first | (refine W_region_k (by decide) ?_; intro K hK) | (refine W_region_e (by decide) ?_; intro K hK) | (refine W_draw_o rfl (by decide) (by decide +kernel) ?_; intro K hK) | (refine W_draw_oe rfl (by decide) (by decide +kernel) ?_; intro K hK) | with_reducible refine opsL_go ?_ | with_reducible refine planW_go ?_); simp (disch := omega) only [Bc, ↓reduceIte, reduceCtorEq, Nat.reduceEqDiff, Nat.reduceBEq, Nat.reduceAdd, Nat.reduceLT, Nat.reduceLeDiff, Nat.reduceMul, Int.reduceNeg, Int.reduceLT, Int.reduceLE, Int.reduceToNat, ev, litOf, St.put, nilK, faT, faK, iaA, callV, callVQ, evP, scalP, intW, pickV, seqP, mergeO, ren, renL, rho, loadA, rowOf, setRowOf, srcRows, dstRows, cellsOf, setCells, fillA, toRows, scal, Ty.isAgg, Value.oneCell', ty3, ty22, ty23, ty30]) | (refine callK_pure (check_ok _ _) rfl rfl ?_) | (refine hK _ ?_; clear hK K) | ((first | refine guardK_split (fun hb' => ?_) (fun hb' => ?_) | refine guardM_split (fun hb' => ?_) (fun hb' => ?_)) <;> (have hb := hb'; (try simp only [DEc, reduceCtorEq] at hb); simp (disch := omega) only [Bc, ↓reduceIte, reduceCtorEq, Nat.reduceEqDiff, Nat.reduceBEq, Nat.reduceAdd, Nat.reduceLT, Nat.reduceLeDiff, Nat.reduceMul, Int.reduceNeg, Int.reduceLT, Int.reduceLE, Int.reduceToNat, ev, litOf, St.put, nilK, faT, faK, iaA, callV, callVQ, evP, scalP, intW, pickV, seqP, mergeO, ren, renL, rho, loadA, rowOf, setRowOf, srcRows, dstRows, cellsOf, setCells, fillA, toRows, scal, Ty.isAgg, Value.oneCell', ty3, ty22, ty23, ty30, hb']; clear hb')) | (refine W_cond (by (simp only [LKc, ↓reduceIte, Nat.reduceEqDiff, Nat.reduceBEq, ev, litOf, St.put, ty3, ty22, ty23, ty30]; exact rfl)) (fun ht => ?_) (fun ht => ?_) <;> (try simp only [DEc, reduceCtorEq] at ht)) | refine W_skip ?_ | refine W_exit ?_ | refine W_ret ?_ | refine W_label ?_ | (refine W_block_k ?_; intro Qb hnb hxb heb) | (refine W_k ?_; intro Q hn he) | (refine hn _ ?_; clear hn he Q) | (refine hnb _ ?_; clear hnb hxb heb Qb) | (refine hxb _ ?_; clear hnb hxb heb Qb) | (refine he _ _ ?_ ?_; (focus (simp only [NEc, reduceCtorEq, Nat.reduceEqDiff]; done)); clear hn he Q) | (refine heb _ _ ?_ ?_ ?_; (focus (simp only [NEc, reduceCtorEq, Nat.reduceEqDiff]; done)); (focus (simp only [NEc, reduceCtorEq, Nat.reduceEqDiff]; done)); clear hnb hxb heb Qb) | (refine hel _ _ ?_ ?_; (focus (simp only [NEc, reduceCtorEq, Nat.reduceEqDiff]; done)); clear hnl hel Ql) | (simp only [retQ, resW, retV, List.length_nil, LKc, ↓reduceIte, Nat.reduceEqDiff, Nat.reduceBEq, ev, litOf, St.put]) | with_reducible refine And.intro ?_ ?_ | omega | with_reducible rfl)
  · rw [if_pos ht] at hres
    rw [← hres]
    exact RetOK_sel [] true (by decide) trivial (by decide) (by decide) (tup3 ArgR.nil ArgR.nil (.pure rfl))
  obtain ⟨hL, h0, h1⟩ := check_left ht
  rw [if_neg (by omega)] at hres
  obtain ⟨R, rfl⟩ : ∃ R : Nat, right = R := ⟨right.toNat, by omega⟩
  rw [Int.toNat_natCast] at hL hres
  refine callK_pure (match_ok left R hL (by omega)) rfl rfl ?_
  repeat' (first | ((first | (refine W_region_k (by decide) ?_; intro K hK) | (refine W_region_e (by decide) ?_; intro K hK) | (refine W_draw_o rfl (by decide) (by decide +kernel) ?_; intro K hK) | (refine W_draw_oe rfl (by decide) (by decide +kernel) ?_; intro K hK) | with_reducible refine opsL_go ?_ | with_reducible refine planW_go ?_); simp (disch := omega) only [Bc, ↓reduceIte, reduceCtorEq, Nat.reduceEqDiff, Nat.reduceBEq, Nat.reduceAdd, Nat.reduceLT, Nat.reduceLeDiff, Nat.reduceMul, Int.reduceNeg, Int.reduceLT, Int.reduceLE, Int.reduceToNat, ev, litOf, St.put, nilK, faT, faK, iaA, callV, callVQ, evP, scalP, intW, pickV, seqP, mergeO, ren, renL, rho, loadA, rowOf, setRowOf, srcRows, dstRows, cellsOf, setCells, fillA, toRows, scal, Ty.isAgg, Value.oneCell', ty3, ty22, ty23, ty30, ty44, ty4]) | (refine hK _ ?_; clear hK K) | ((first | refine guardK_split (fun hb' => ?_) (fun hb' => ?_) | refine guardM_split (fun hb' => ?_) (fun hb' => ?_)) <;> (have hb := hb'; (try simp only [DEc, reduceCtorEq] at hb); simp (disch := omega) only [Bc, ↓reduceIte, reduceCtorEq, Nat.reduceEqDiff, Nat.reduceBEq, Nat.reduceAdd, Nat.reduceLT, Nat.reduceLeDiff, Nat.reduceMul, Int.reduceNeg, Int.reduceLT, Int.reduceLE, Int.reduceToNat, ev, litOf, St.put, nilK, faT, faK, iaA, callV, callVQ, evP, scalP, intW, pickV, seqP, mergeO, ren, renL, rho, loadA, rowOf, setRowOf, srcRows, dstRows, cellsOf, setCells, fillA, toRows, scal, Ty.isAgg, Value.oneCell', ty3, ty22, ty23, ty30, ty44, ty4, hb']; clear hb')) | (refine W_cond (by (simp only [LKc, ↓reduceIte, Nat.reduceEqDiff, Nat.reduceBEq, ev, litOf, St.put, ty3, ty22, ty23, ty30, ty44, ty4]; exact rfl)) (fun ht => ?_) (fun ht => ?_) <;> (try simp only [DEc, reduceCtorEq] at ht)) | refine W_skip ?_ | refine W_exit ?_ | refine W_ret ?_ | refine W_label ?_ | (refine W_block_k ?_; intro Qb hnb hxb heb) | (refine W_k ?_; intro Q hn he) | (refine hn _ ?_; clear hn he Q) | (refine hnb _ ?_; clear hnb hxb heb Qb) | (refine hxb _ ?_; clear hnb hxb heb Qb) | (refine he _ _ ?_ ?_; (focus (simp only [NEc, reduceCtorEq, Nat.reduceEqDiff]; done)); clear hn he Q) | (refine heb _ _ ?_ ?_ ?_; (focus (simp only [NEc, reduceCtorEq, Nat.reduceEqDiff]; done)); (focus (simp only [NEc, reduceCtorEq, Nat.reduceEqDiff]; done)); clear hnb hxb heb Qb) | (refine hel _ _ ?_ ?_; (focus (simp only [NEc, reduceCtorEq, Nat.reduceEqDiff]; done)); clear hnl hel Ql) | (simp only [retQ, resW, retV, List.length_nil, LKc, ↓reduceIte, Nat.reduceEqDiff, Nat.reduceBEq, ev, litOf, St.put]) | with_reducible refine And.intro ?_ ?_ | omega | with_reducible rfl)
  obtain ⟨hmo, hml⟩ := matchR_ok hL
  unfold defR at hres
  generalize hm : matchR left R = m at *
  have hmo1 := hmo.1
  have hL1 := hL.1
  refine join_here ⟨slots [(0, .tree 1 (intss left)), (1, .lit (.int .i64 R)), (8, .tree 1 (ints m.2)), (9, .tree 1 (ints m.1)), (10, .ref 0 1 0 left.length), (11, .ref 1 1 0 R)], [.arr 1 (bools (List.replicate left.length false)), .arr 1 (bools (List.replicate R false))]⟩ hn ?_ (fun key => ?_)
  rotate_left
  · refine W_draw [] (.take 0 (.take 1 (.take 3 (.both 2 (.take 4 (.take 5 (.take 6 .nil))) 4 (.take 2 (.take 5 (.take 6 .nil))))))) rfl (by decide) (by decide +kernel) ?_
    simp (disch := omega) only [Bc, ↓reduceIte, reduceCtorEq, Nat.reduceEqDiff, Nat.reduceBEq, Nat.reduceAdd, Nat.reduceLT, Nat.reduceLeDiff, Nat.reduceMul, Int.reduceNeg, Int.reduceLT, Int.reduceLE, Int.reduceToNat, ev, litOf, St.put, nilK, faT, faK, iaA, callV, callVQ, evP, scalP, intW, pickV, seqP, mergeO, ren, renL, rho, loadA, rowOf, setRowOf, srcRows, dstRows, cellsOf, setCells, fillA, toRows, scal, Ty.isAgg, Value.oneCell', ty3, ty22, ty23, ty4, ty44, ty47, planW_both, planW_take, planW_nil, stepAt, stepD]
    refine ⟨⟨⟨by omega, by omega⟩, ⟨by omega, by omega⟩, key _ ?_⟩, ⟨by omega, by omega⟩, ⟨by omega, by omega⟩, key _ ?_⟩
    · (refine Turns.sel [0, 1] false _ _ (by decide) (by simp only [SelO, Bc, reduceCtorEq, ren, renL, rho, Nat.reduceAdd, Nat.reduceLT, Nat.reduceLeDiff, Nat.reduceEqDiff, or_true, ↓reduceIte, false_or]) (by decide) (by decide) ?_; simp only [HasR, Bc, and_true, Int.natCast_add, Int.cast_ofNat_Int, Nat.reduceAdd, LKc, ↓reduceIte, Nat.reduceEqDiff, Nat.reduceBEq, ev, litOf, St.put]; (try (and_intros <;> first | exact ArgR.pure rfl | exact ArgR.eq rfl | exact ArgR.frz rfl (by first | exact ints_wid _ | exact bools_wid _ | exact intss_wid _) (by simp only [Bc]) (not_kept (by decide)) (by first | exact ints_frz _ | exact bools_frz _ | exact intss_frz _))))
    · (refine Turns.sel [1, 0] false _ _ (by decide) (by simp only [SelO, Bc, reduceCtorEq, ren, renL, rho, Nat.reduceAdd, Nat.reduceLT, Nat.reduceLeDiff, Nat.reduceEqDiff, or_true, ↓reduceIte, false_or]) (by decide) (by decide) ?_; simp only [HasR, Bc, and_true, Int.natCast_add, Int.cast_ofNat_Int, Nat.reduceAdd, LKc, ↓reduceIte, Nat.reduceEqDiff, Nat.reduceBEq, ev, litOf, St.put]; (try (and_intros <;> first | exact ArgR.pure rfl | exact ArgR.eq rfl | exact ArgR.frz rfl (by first | exact ints_wid _ | exact bools_wid _ | exact intss_wid _) (by simp only [Bc]) (not_kept (by decide)) (by first | exact ints_frz _ | exact bools_frz _ | exact intss_frz _))))
  repeat' (first | ((first | (refine W_region_k (by decide) ?_; intro K hK) | (refine W_region_e (by decide) ?_; intro K hK) | (refine W_draw_o rfl (by decide) (by decide +kernel) ?_; intro K hK) | (refine W_draw_oe rfl (by decide) (by decide +kernel) ?_; intro K hK) | with_reducible refine opsL_go ?_ | with_reducible refine planW_go ?_); simp (disch := omega) only [Bc, ↓reduceIte, reduceCtorEq, Nat.reduceEqDiff, Nat.reduceBEq, Nat.reduceAdd, Nat.reduceLT, Nat.reduceLeDiff, Nat.reduceMul, Int.reduceNeg, Int.reduceLT, Int.reduceLE, Int.reduceToNat, ev, litOf, St.put, nilK, faT, faK, iaA, callV, callVQ, evP, scalP, intW, pickV, seqP, mergeO, ren, renL, rho, loadA, rowOf, setRowOf, srcRows, dstRows, cellsOf, setCells, fillA, toRows, scal, Ty.isAgg, Value.oneCell', ty3, ty22, ty23, ty4, ty44]) | (refine hK _ ?_; clear hK K) | ((first | refine guardK_split (fun hb' => ?_) (fun hb' => ?_) | refine guardM_split (fun hb' => ?_) (fun hb' => ?_)) <;> (have hb := hb'; (try simp only [DEc, reduceCtorEq] at hb); simp (disch := omega) only [Bc, ↓reduceIte, reduceCtorEq, Nat.reduceEqDiff, Nat.reduceBEq, Nat.reduceAdd, Nat.reduceLT, Nat.reduceLeDiff, Nat.reduceMul, Int.reduceNeg, Int.reduceLT, Int.reduceLE, Int.reduceToNat, ev, litOf, St.put, nilK, faT, faK, iaA, callV, callVQ, evP, scalP, intW, pickV, seqP, mergeO, ren, renL, rho, loadA, rowOf, setRowOf, srcRows, dstRows, cellsOf, setCells, fillA, toRows, scal, Ty.isAgg, Value.oneCell', ty3, ty22, ty23, ty4, ty44, hb']; clear hb')) | (refine W_cond (by (simp only [LKc, ↓reduceIte, Nat.reduceEqDiff, Nat.reduceBEq, ev, litOf, St.put, ty3, ty22, ty23, ty4, ty44]; exact rfl)) (fun ht => ?_) (fun ht => ?_) <;> (try simp only [DEc, reduceCtorEq] at ht)) | refine W_skip ?_ | refine W_exit ?_ | refine W_ret ?_ | refine W_label ?_ | (refine W_block_k ?_; intro Qb hnb hxb heb) | (refine W_k ?_; intro Q hn he) | (refine hn _ ?_; clear hn he Q) | (refine hnb _ ?_; clear hnb hxb heb Qb) | (refine hxb _ ?_; clear hnb hxb heb Qb) | (refine he _ _ ?_ ?_; (focus (simp only [NEc, reduceCtorEq, Nat.reduceEqDiff]; done)); clear hn he Q) | (refine heb _ _ ?_ ?_ ?_; (focus (simp only [NEc, reduceCtorEq, Nat.reduceEqDiff]; done)); (focus (simp only [NEc, reduceCtorEq, Nat.reduceEqDiff]; done)); clear hnb hxb heb Qb) | (refine hel _ _ ?_ ?_; (focus (simp only [NEc, reduceCtorEq, Nat.reduceEqDiff]; done)); clear hnl hel Ql) | (simp only [retQ, resW, retV, List.length_nil, LKc, ↓reduceIte, Nat.reduceEqDiff, Nat.reduceBEq, ev, litOf, St.put]; first | refine RetOK_pure' rfl ?_ | refine RetOK_all ?_ (by simp only [List.length_cons, List.length_nil]; omega) ?_) | with_reducible refine And.intro ?_ ?_ | omega | with_reducible rfl)
  have hul : (unm m.2).length = left.length := by rw [unm, List.length_map, hml]
  have hug : ∀ k, k < left.length → (unm m.2).getD k false = decide (m.2.getD k 0 < 0) := fun k hk => by
    rw [unm, List.getD_eq_getElem?_getD, List.getElem?_map, List.getElem?_eq_getElem (by omega), List.getD_eq_getElem?_getD, List.getElem?_eq_getElem (by omega)]; rfl
  generalize hu : unm m.2 = u at *
  clear hu
  generalize hq0 : whereL u 0 = q0 at *
  refine W_loopT (fun z : Nat × List Int => (⟨slots [(0, .tree 1 (intss left)), (1, .lit (.int .i64 R)), (8, .tree 1 (ints m.2)), (9, .tree 1 (ints m.1)), (10, .ref 0 1 0 left.length), (11, .ref 1 1 0 R), (12, .ref 2 1 0 z.2.length), (36, .tree 1 (ints m.2)), (37, .lit (.int .i64 m.2.length)), (38, .lit (.int .i64 z.1))],
      [.arr 1 (bools (u.take z.1 ++ List.replicate (left.length - z.1) false)), .arr 1 (bools (List.replicate R false)), .arr 1 (ints z.2)]⟩ : St))
    (fun z => z.1 ≤ left.length ∧ z.2.length ≤ z.1 ∧ z.2 ++ whereL (u.drop z.1) z.1 = q0) (fun z => left.length - z.1) (0, []) ⟨Nat.zero_le _, Nat.le_refl _, hq0⟩ ?_ ?_
  · refine Turns.trans (Turns.nil 12 1 (by simp only [LKc, ↓reduceIte, Nat.reduceEqDiff, Nat.reduceBEq, ev, litOf, St.put]) (by decide)) ?_
    (refine Turns.slots _ _ rfl ?_; simp only [Has, and_true, Int.natCast_add, Int.cast_ofNat_Int, List.length_append, List.length_cons, List.length_nil, Nat.zero_add, Nat.reduceAdd, LKc, ↓reduceIte, Nat.reduceEqDiff, Nat.reduceBEq, ev, litOf, St.put, List.take_zero, List.nil_append, Nat.sub_zero]; try trivial)
  · rintro ⟨k, acc⟩ ⟨hk, ha, hr⟩ Ql hnl hel
    dsimp only at hk ha hr ⊢
    have hlen : (u.take k ++ List.replicate (left.length - k) false).length = left.length := by simp; omega
    repeat' (first | ((first | (refine W_region_k (by decide) ?_; intro K hK) | (refine W_region_e (by decide) ?_; intro K hK) | (refine W_draw_o rfl (by decide) (by decide +kernel) ?_; intro K hK) | (refine W_draw_oe rfl (by decide) (by decide +kernel) ?_; intro K hK) | with_reducible refine opsL_go ?_ | with_reducible refine planW_go ?_); simp (disch := omega) only [Bc, ↓reduceIte, reduceCtorEq, Nat.reduceEqDiff, Nat.reduceBEq, Nat.reduceAdd, Nat.reduceLT, Nat.reduceLeDiff, Nat.reduceMul, Int.reduceNeg, Int.reduceLT, Int.reduceLE, Int.reduceToNat, ev, litOf, St.put, nilK, faT, faK, iaA, callV, callVQ, evP, scalP, intW, pickV, seqP, mergeO, ren, renL, rho, loadA, rowOf, setRowOf, srcRows, dstRows, cellsOf, setCells, fillA, toRows, scal, Ty.isAgg, Value.oneCell', ty3, ty22, ty23, ty4, ty44, hlen]) | (refine hK _ ?_; clear hK K) | ((first | refine guardK_split (fun hb' => ?_) (fun hb' => ?_) | refine guardM_split (fun hb' => ?_) (fun hb' => ?_)) <;> (have hb := hb'; (try simp only [DEc, reduceCtorEq] at hb); simp (disch := omega) only [Bc, ↓reduceIte, reduceCtorEq, Nat.reduceEqDiff, Nat.reduceBEq, Nat.reduceAdd, Nat.reduceLT, Nat.reduceLeDiff, Nat.reduceMul, Int.reduceNeg, Int.reduceLT, Int.reduceLE, Int.reduceToNat, ev, litOf, St.put, nilK, faT, faK, iaA, callV, callVQ, evP, scalP, intW, pickV, seqP, mergeO, ren, renL, rho, loadA, rowOf, setRowOf, srcRows, dstRows, cellsOf, setCells, fillA, toRows, scal, Ty.isAgg, Value.oneCell', ty3, ty22, ty23, ty4, ty44, hlen, hb']; clear hb')) | (refine W_cond (by (simp only [LKc, ↓reduceIte, Nat.reduceEqDiff, Nat.reduceBEq, ev, litOf, St.put, ty3, ty22, ty23, ty4, ty44, hlen]; exact rfl)) (fun ht => ?_) (fun ht => ?_) <;> (try simp only [DEc, reduceCtorEq] at ht)) | refine W_skip ?_ | refine W_exit ?_ | refine W_ret ?_ | refine W_label ?_ | (refine W_block_k ?_; intro Qb hnb hxb heb) | (refine W_k ?_; intro Q hn he) | (refine hn _ ?_; clear hn he Q) | (refine hnb _ ?_; clear hnb hxb heb Qb) | (refine hxb _ ?_; clear hnb hxb heb Qb) | (refine he _ _ ?_ ?_; (focus (simp only [NEc, reduceCtorEq, Nat.reduceEqDiff]; done)); clear hn he Q) | (refine heb _ _ ?_ ?_ ?_; (focus (simp only [NEc, reduceCtorEq, Nat.reduceEqDiff]; done)); (focus (simp only [NEc, reduceCtorEq, Nat.reduceEqDiff]; done)); clear hnb hxb heb Qb) | (simp only [retQ, resW, retV, List.length_nil, LKc, ↓reduceIte, Nat.reduceEqDiff, Nat.reduceBEq, ev, litOf, St.put]) | with_reducible refine And.intro ?_ ?_ | omega | with_reducible rfl)
    · have hg := hug k (by omega)
      rw [decide_eq_true ht] at hg
      rw [getD_drop0 _ _ false (by omega), whereL, if_pos (by assumption)] at hr
      rw [tf_true (n := left.length) (by omega) (by omega) hg]
      refine hnl _ (k + 1, acc ++ [(k : Int)]) ⟨by dsimp only; omega, by simp; omega, by simpa using hr⟩ (by dsimp only; omega) ?_
      (refine Turns.sel [0, 1, 4] false _ _ (by decide) (by simp only [SelO, Bc, reduceCtorEq, ren, renL, rho, Nat.reduceAdd, Nat.reduceLT, Nat.reduceLeDiff, Nat.reduceEqDiff, or_true, ↓reduceIte, false_or]) (by decide) (by decide) ?_; simp only [HasR, Bc, and_true, Int.natCast_add, Int.cast_ofNat_Int, Nat.reduceAdd, LKc, ↓reduceIte, Nat.reduceEqDiff, Nat.reduceBEq, ev, litOf, St.put]; (try (and_intros <;> first | exact ArgR.pure rfl | exact ArgR.eq rfl | exact ArgR.frz rfl (by first | exact ints_wid _ | exact bools_wid _ | exact intss_wid _) (by simp only [Bc]) (not_kept (by decide)) (by first | exact ints_frz _ | exact bools_frz _ | exact intss_frz _))))
    · have hg := hug k (by omega)
      rw [decide_eq_false (by omega)] at hg
      rw [getD_drop0 _ _ false (by omega), whereL, if_neg (by simp_all)] at hr
      rw [tf_false (n := left.length) (by omega) (by omega) hg]
      exact hnl _ (k + 1, acc) ⟨by dsimp only; omega, by dsimp only; omega, hr⟩ (by dsimp only; omega) (by (refine Turns.slots _ _ rfl ?_; simp only [Has, and_true, Int.natCast_add, Int.cast_ofNat_Int, List.length_append, List.length_cons, List.length_nil, Nat.zero_add, Nat.reduceAdd, LKc, ↓reduceIte, Nat.reduceEqDiff, Nat.reduceBEq, ev, litOf, St.put]; try trivial))
    refine hel _ _ (by nofun) ?_; clear hnl hel Ql
    obtain rfl : k = left.length := by omega
    rw [List.drop_eq_nil_of_le (by omega), whereL, List.append_nil] at hr
    subst hr
    rw [List.take_of_length_le (by omega), Nat.sub_self, List.replicate_zero, List.append_nil]
    repeat (first | (refine hn _ ?_; clear hn he Q) | (refine hnb _ ?_; clear hnb hxb heb Qb) | (refine hxb _ ?_; clear hnb hxb heb Qb) | (refine he _ _ ?_ ?_; (focus (simp only [NEc, reduceCtorEq, Nat.reduceEqDiff]; done)); clear hn he Q) | (refine heb _ _ ?_ ?_ ?_; (focus (simp only [NEc, reduceCtorEq, Nat.reduceEqDiff]; done)); (focus (simp only [NEc, reduceCtorEq, Nat.reduceEqDiff]; done)); clear hnb hxb heb Qb) | (refine hel _ _ ?_ ?_; (focus (simp only [NEc, reduceCtorEq, Nat.reduceEqDiff]; done)); clear hnl hel Ql))
    dsimp only at hres
    have hcq := whereL_cnt u 0
    have hqr : QOK left.length acc := fun x hx => by have := whereL_range u 0 x (by rw [hq0]; exact hx); omega
    rw [hq0] at hcq
    clear hlen hk ht hq0 hug
    generalize hz : bfs left m.1 left.length acc (List.replicate R false) u = z at hres
    refine W_k ?_; intro Q hn he
    refine W_block_k ?_; intro Qb hnb hxb heb
    refine W_loopT (fun z : Nat × List Int × List Int × List Bool × List Bool => (⟨slots [(0, .tree 1 (intss left)), (9, .tree 1 (ints m.1)), (10, .ref 0 1 0 left.length), (11, .ref 1 1 0 R), (12, .ref 2 1 z.2.1.length z.2.2.1.length)],
        [.arr 1 (bools z.2.2.2.2), .arr 1 (bools z.2.2.2.1), .arr 1 (ints (z.2.1 ++ z.2.2.1))]⟩ : St))
      (fun y => y.1 ≤ left.length ∧ True ∧ QOK left.length y.2.2.1 ∧ y.2.2.2.1.length = R ∧ y.2.2.2.2.length = left.length ∧ y.2.2.1.length + cnt y.2.2.2.2 ≤ y.1 ∧ bfs left m.1 y.1 y.2.2.1 y.2.2.2.1 y.2.2.2.2 = z) (fun y => y.1) (left.length, [], acc, List.replicate R false, u) ⟨Nat.le_refl _, trivial, hqr, by simp, hul, by dsimp only; omega, hz⟩ ?_ ?_
    · (refine Turns.slots _ _ rfl ?_; simp only [Has, and_true, Int.natCast_add, Int.cast_ofNat_Int, List.length_append, List.length_cons, List.length_nil, Nat.zero_add, Nat.reduceAdd, LKc, ↓reduceIte, Nat.reduceEqDiff, Nat.reduceBEq, ev, litOf, St.put]; try trivial)
    rintro ⟨f, pre, q, used, inn⟩ ⟨hf, hpre, hq, hus, hin, hc, hr⟩ Ql hnl hel
    dsimp only at hf hpre hq hus hin hc hr ⊢
    have hlen : (pre ++ q).length = pre.length + q.length := by simp
    cases q with
    | nil =>
      have hr' : (used, inn) = z := by
        rw [← hr]
        cases f <;> rfl
      repeat' (first | ((first | (refine W_region_k (by decide) ?_; intro K hK) | (refine W_region_e (by decide) ?_; intro K hK) | (refine W_draw_o rfl (by decide) (by decide +kernel) ?_; intro K hK) | (refine W_draw_oe rfl (by decide) (by decide +kernel) ?_; intro K hK) | with_reducible refine opsL_go ?_ | with_reducible refine planW_go ?_); simp (disch := omega) only [Bc, ↓reduceIte, reduceCtorEq, Nat.reduceEqDiff, Nat.reduceBEq, Nat.reduceAdd, Nat.reduceLT, Nat.reduceLeDiff, Nat.reduceMul, Int.reduceNeg, Int.reduceLT, Int.reduceLE, Int.reduceToNat, ev, litOf, St.put, nilK, faT, faK, iaA, callV, callVQ, evP, scalP, intW, pickV, seqP, mergeO, ren, renL, rho, loadA, rowOf, setRowOf, srcRows, dstRows, cellsOf, setCells, fillA, toRows, scal, Ty.isAgg, Value.oneCell', ty3, ty22, ty23, ty4, ty44, hlen]) | (refine hK _ ?_; clear hK K) | ((first | refine guardK_split (fun hb' => ?_) (fun hb' => ?_) | refine guardM_split (fun hb' => ?_) (fun hb' => ?_)) <;> (have hb := hb'; (try simp only [DEc, reduceCtorEq] at hb); simp (disch := omega) only [Bc, ↓reduceIte, reduceCtorEq, Nat.reduceEqDiff, Nat.reduceBEq, Nat.reduceAdd, Nat.reduceLT, Nat.reduceLeDiff, Nat.reduceMul, Int.reduceNeg, Int.reduceLT, Int.reduceLE, Int.reduceToNat, ev, litOf, St.put, nilK, faT, faK, iaA, callV, callVQ, evP, scalP, intW, pickV, seqP, mergeO, ren, renL, rho, loadA, rowOf, setRowOf, srcRows, dstRows, cellsOf, setCells, fillA, toRows, scal, Ty.isAgg, Value.oneCell', ty3, ty22, ty23, ty4, ty44, hlen, hb']; clear hb')) | (refine W_cond (by (simp only [LKc, ↓reduceIte, Nat.reduceEqDiff, Nat.reduceBEq, ev, litOf, St.put, ty3, ty22, ty23, ty4, ty44, hlen]; exact rfl)) (fun ht => ?_) (fun ht => ?_) <;> (try simp only [DEc, reduceCtorEq] at ht)) | refine W_skip ?_ | refine W_exit ?_ | refine W_ret ?_ | refine W_label ?_ | (refine W_block_k ?_; intro Qb hnb hxb heb) | (refine W_k ?_; intro Q hn he) | (refine hn _ ?_; clear hn he Q) | (refine hnb _ ?_; clear hnb hxb heb Qb) | (refine hxb _ ?_; clear hnb hxb heb Qb) | (refine he _ _ ?_ ?_; (focus (simp only [NEc, reduceCtorEq, Nat.reduceEqDiff]; done)); clear hn he Q) | (refine heb _ _ ?_ ?_ ?_; (focus (simp only [NEc, reduceCtorEq, Nat.reduceEqDiff]; done)); (focus (simp only [NEc, reduceCtorEq, Nat.reduceEqDiff]; done)); clear hnb hxb heb Qb) | (simp only [retQ, resW, retV, List.length_nil, LKc, ↓reduceIte, Nat.reduceEqDiff, Nat.reduceBEq, ev, litOf, St.put]) | with_reducible refine And.intro ?_ ?_ | omega | with_reducible rfl)
      subst hr'
      refine hel _ _ (by nofun) ?_; clear hnl hel Ql
      repeat (first | (refine hn _ ?_; clear hn he Q) | (refine hnb _ ?_; clear hnb hxb heb Qb) | (refine hxb _ ?_; clear hnb hxb heb Qb) | (refine he _ _ ?_ ?_; (focus (simp only [NEc, reduceCtorEq, Nat.reduceEqDiff]; done)); clear hn he Q) | (refine heb _ _ ?_ ?_ ?_; (focus (simp only [NEc, reduceCtorEq, Nat.reduceEqDiff]; done)); (focus (simp only [NEc, reduceCtorEq, Nat.reduceEqDiff]; done)); clear hnb hxb heb Qb) | (refine hel _ _ ?_ ?_; (focus (simp only [NEc, reduceCtorEq, Nat.reduceEqDiff]; done)); clear hnl hel Ql))
      refine W_turn (σ' := ⟨slots [(10, .tree 1 (bools inn)), (11, .tree 1 (bools used))], []⟩) ?_ ?_
      · rw [← hin, ← hus]
        (refine Turns.sel [] true _ _ (by decide) (by simp only [SelO, Bc, reduceCtorEq, ren, renL, rho, Nat.reduceAdd, Nat.reduceLT, Nat.reduceLeDiff, Nat.reduceEqDiff, or_true, ↓reduceIte, false_or]) (by decide) (by decide) ?_; simp only [HasR, Bc, and_true, Int.natCast_add, Int.cast_ofNat_Int, Nat.reduceAdd, LKc, ↓reduceIte, Nat.reduceEqDiff, Nat.reduceBEq, ev, litOf, St.put]; (try (and_intros <;> first | exact ArgR.pure rfl | exact ArgR.eq rfl | exact ArgR.frz rfl (by first | exact ints_wid _ | exact bools_wid _ | exact intss_wid _) (by simp only [Bc]) (not_kept (by decide)) (by first | exact ints_frz _ | exact bools_frz _ | exact intss_frz _))))
      repeat' (first | ((first | (refine W_region_k (by decide) ?_; intro K hK) | (refine W_region_e (by decide) ?_; intro K hK) | (refine W_draw_o rfl (by decide) (by decide +kernel) ?_; intro K hK) | (refine W_draw_oe rfl (by decide) (by decide +kernel) ?_; intro K hK) | with_reducible refine opsL_go ?_ | with_reducible refine planW_go ?_); simp (disch := omega) only [Bc, ↓reduceIte, reduceCtorEq, Nat.reduceEqDiff, Nat.reduceBEq, Nat.reduceAdd, Nat.reduceLT, Nat.reduceLeDiff, Nat.reduceMul, Int.reduceNeg, Int.reduceLT, Int.reduceLE, Int.reduceToNat, ev, litOf, St.put, nilK, faT, faK, iaA, callV, callVQ, evP, scalP, intW, pickV, seqP, mergeO, ren, renL, rho, loadA, rowOf, setRowOf, srcRows, dstRows, cellsOf, setCells, fillA, toRows, scal, Ty.isAgg, Value.oneCell', ty3, ty22, ty23, ty4, ty44]) | (refine callK_pure (where_ok inn (by omega)) rfl rfl ?_) | (refine callK_pure (where_ok used (by omega)) rfl rfl ?_) | (refine hK _ ?_; clear hK K) | ((first | refine guardK_split (fun hb' => ?_) (fun hb' => ?_) | refine guardM_split (fun hb' => ?_) (fun hb' => ?_)) <;> (have hb := hb'; (try simp only [DEc, reduceCtorEq] at hb); simp (disch := omega) only [Bc, ↓reduceIte, reduceCtorEq, Nat.reduceEqDiff, Nat.reduceBEq, Nat.reduceAdd, Nat.reduceLT, Nat.reduceLeDiff, Nat.reduceMul, Int.reduceNeg, Int.reduceLT, Int.reduceLE, Int.reduceToNat, ev, litOf, St.put, nilK, faT, faK, iaA, callV, callVQ, evP, scalP, intW, pickV, seqP, mergeO, ren, renL, rho, loadA, rowOf, setRowOf, srcRows, dstRows, cellsOf, setCells, fillA, toRows, scal, Ty.isAgg, Value.oneCell', ty3, ty22, ty23, ty4, ty44, hb']; clear hb')) | (refine W_cond (by (simp only [LKc, ↓reduceIte, Nat.reduceEqDiff, Nat.reduceBEq, ev, litOf, St.put, ty3, ty22, ty23, ty4, ty44]; exact rfl)) (fun ht => ?_) (fun ht => ?_) <;> (try simp only [DEc, reduceCtorEq] at ht)) | refine W_skip ?_ | refine W_exit ?_ | refine W_ret ?_ | refine W_label ?_ | (refine W_block_k ?_; intro Qb hnb hxb heb) | (refine W_k ?_; intro Q hn he) | (refine hn _ ?_; clear hn he Q) | (refine hnb _ ?_; clear hnb hxb heb Qb) | (refine hxb _ ?_; clear hnb hxb heb Qb) | (refine he _ _ ?_ ?_; (focus (simp only [NEc, reduceCtorEq, Nat.reduceEqDiff]; done)); clear hn he Q) | (refine heb _ _ ?_ ?_ ?_; (focus (simp only [NEc, reduceCtorEq, Nat.reduceEqDiff]; done)); (focus (simp only [NEc, reduceCtorEq, Nat.reduceEqDiff]; done)); clear hnb hxb heb Qb) | (refine hel _ _ ?_ ?_; (focus (simp only [NEc, reduceCtorEq, Nat.reduceEqDiff]; done)); clear hnl hel Ql) | (simp only [retQ, resW, retV, List.length_nil, LKc, ↓reduceIte, Nat.reduceEqDiff, Nat.reduceBEq, ev, litOf, St.put]) | with_reducible refine And.intro ?_ ?_ | omega | with_reducible rfl)
      rw [← hres]
      exact RetOK_pure rfl
    | cons i q =>
      have hg : (ints (pre ++ i :: q))[pre.length]? = some [.lit (.int .i64 i)] := by simp [ints]
      have hi := hq i (by simp)
      have hl := hL.get i.toNat
      have hcl : q.length + 1 + cnt inn ≤ f := hc
      obtain ⟨f', rfl⟩ : ∃ f', f = f' + 1 := ⟨f - 1, by omega⟩
      rw [bfs] at hr
      have hbo := bfsRow_ok hmo (left.getD i.toNat []) q used inn hl.2 (fun x hx => hq x (by simp [hx])) hus hin
      generalize hzz : bfsRow m.1 (left.getD i.toNat []) q used inn = zz at hr hbo
      obtain ⟨hb1, hb2, hb3, hb4⟩ := hbo
      generalize hll : left.getD i.toNat [] = l at *
      repeat' (first | ((first | (refine W_region_k (by decide) ?_; intro K hK) | (refine W_region_e (by decide) ?_; intro K hK) | (refine W_draw_o rfl (by decide) (by decide +kernel) ?_; intro K hK) | (refine W_draw_oe rfl (by decide) (by decide +kernel) ?_; intro K hK) | with_reducible refine opsL_go ?_ | with_reducible refine planW_go ?_); simp (disch := omega) only [Bc, ↓reduceIte, reduceCtorEq, Nat.reduceEqDiff, Nat.reduceBEq, Nat.reduceAdd, Nat.reduceLT, Nat.reduceLeDiff, Nat.reduceMul, Int.reduceNeg, Int.reduceLT, Int.reduceLE, Int.reduceToNat, ev, litOf, St.put, nilK, faT, faK, iaA, callV, callVQ, evP, scalP, intW, pickV, seqP, mergeO, ren, renL, rho, loadA, rowOf, setRowOf, srcRows, dstRows, cellsOf, setCells, fillA, toRows, scal, Ty.isAgg, Value.oneCell', ty3, ty22, ty23, ty4, ty44, hlen, hg, Nat.add_sub_cancel, Option.map_none, hll]) | (refine hK _ ?_; clear hK K) | ((first | refine guardK_split (fun hb' => ?_) (fun hb' => ?_) | refine guardM_split (fun hb' => ?_) (fun hb' => ?_)) <;> (have hb := hb'; (try simp only [DEc, reduceCtorEq] at hb); simp (disch := omega) only [Bc, ↓reduceIte, reduceCtorEq, Nat.reduceEqDiff, Nat.reduceBEq, Nat.reduceAdd, Nat.reduceLT, Nat.reduceLeDiff, Nat.reduceMul, Int.reduceNeg, Int.reduceLT, Int.reduceLE, Int.reduceToNat, ev, litOf, St.put, nilK, faT, faK, iaA, callV, callVQ, evP, scalP, intW, pickV, seqP, mergeO, ren, renL, rho, loadA, rowOf, setRowOf, srcRows, dstRows, cellsOf, setCells, fillA, toRows, scal, Ty.isAgg, Value.oneCell', ty3, ty22, ty23, ty4, ty44, hlen, hg, Nat.add_sub_cancel, Option.map_none, hll, hb']; clear hb')) | (refine W_cond (by (simp only [LKc, ↓reduceIte, Nat.reduceEqDiff, Nat.reduceBEq, ev, litOf, St.put, ty3, ty22, ty23, ty4, ty44, hlen, hg, Nat.add_sub_cancel, Option.map_none, hll]; exact rfl)) (fun ht => ?_) (fun ht => ?_) <;> (try simp only [DEc, reduceCtorEq] at ht)) | refine W_skip ?_ | refine W_exit ?_ | refine W_ret ?_ | refine W_label ?_ | (refine W_block_k ?_; intro Qb hnb hxb heb) | (refine W_k ?_; intro Q hn he) | (refine hn _ ?_; clear hn he Q) | (refine hnb _ ?_; clear hnb hxb heb Qb) | (refine hxb _ ?_; clear hnb hxb heb Qb) | (refine he _ _ ?_ ?_; (focus (simp only [NEc, reduceCtorEq, Nat.reduceEqDiff]; done)); clear hn he Q) | (refine heb _ _ ?_ ?_ ?_; (focus (simp only [NEc, reduceCtorEq, Nat.reduceEqDiff]; done)); (focus (simp only [NEc, reduceCtorEq, Nat.reduceEqDiff]; done)); clear hnb hxb heb Qb) | (simp only [retQ, resW, retV, List.length_nil, LKc, ↓reduceIte, Nat.reduceEqDiff, Nat.reduceBEq, ev, litOf, St.put]) | with_reducible refine And.intro ?_ ?_ | omega | with_reducible rfl)
      refine W_loopT (fun y : Nat × Nat × List Int × List Int × List Bool × List Bool => (⟨slots [(0, .tree 1 (intss left)), (9, .tree 1 (ints m.1)), (10, .ref 0 1 0 left.length), (11, .ref 1 1 0 R), (12, .ref 2 1 y.2.1 y.2.2.2.1.length), (64, .tree 1 (ints l)), (65, .lit (.int .i64 l.length)), (66, .lit (.int .i64 y.1))],
          [.arr 1 (bools y.2.2.2.2.2), .arr 1 (bools y.2.2.2.2.1), .arr 1 (ints (y.2.2.1 ++ y.2.2.2.1))]⟩ : St))
        (fun y => y.1 ≤ l.length ∧ y.2.2.1.length = y.2.1 ∧ True ∧ QOK left.length y.2.2.2.1 ∧ y.2.2.2.2.1.length = R ∧ y.2.2.2.2.2.length = left.length ∧ y.2.2.2.1.length + cnt y.2.2.2.2.2 = q.length + cnt inn ∧ bfsRow m.1 (l.drop y.1) y.2.2.2.1 y.2.2.2.2.1 y.2.2.2.2.2 = zz) (fun y => l.length - y.1)
        (0, pre.length + 1, pre ++ [i], q, used, inn) ⟨Nat.zero_le _, by simp, trivial, fun x hx => hq x (by simp [hx]), hus, hin, rfl, hzz⟩ ?_ ?_
      · rw [show pre ++ i :: q = (pre ++ [i]) ++ q by simp]
        (refine Turns.slots _ _ rfl ?_; simp only [Has, and_true, Int.natCast_add, Int.cast_ofNat_Int, List.length_append, List.length_cons, List.length_nil, Nat.zero_add, Nat.reduceAdd, LKc, ↓reduceIte, Nat.reduceEqDiff, Nat.reduceBEq, ev, litOf, St.put]; try trivial)
      rintro ⟨k, off, pre2, q2, used2, inn2⟩ ⟨hk, hp1, hp2, hq2, hu2, hi2, hc2, hr2⟩ Ql2 hnl2 hel2
      dsimp only at hk hp1 hp2 hq2 hu2 hi2 hc2 hr2 ⊢
      by_cases hk' : k < l.length
      · have hx := hl.2 _ (getD_mem (d := 0) hk')
        have hd := getD_drop0 l k 0 hk'
        generalize hxx : l.getD k 0 = x at *
        have hog := hmo.get (x := x.toNat) (by omega)
        generalize hoo : m.1.getD x.toNat 0 = o at *
        rw [hd, bfsRow, hoo] at hr2
        have hdr : (ints (pre2 ++ q2)).drop off = ints q2 := by simp [ints, ← hp1]
        have hc3 := fun h1 h2 => cnt_set inn2 o.toNat h1 h2
        repeat' (first | ((first | (refine W_region_k (by decide) ?_; intro K hK) | (refine W_region_e (by decide) ?_; intro K hK) | (refine W_draw_o rfl (by decide) (by decide +kernel) ?_; intro K hK) | (refine W_draw_oe rfl (by decide) (by decide +kernel) ?_; intro K hK) | with_reducible refine opsL_go ?_ | with_reducible refine planW_go ?_); simp (disch := omega) only [Bc, ↓reduceIte, reduceCtorEq, Nat.reduceEqDiff, Nat.reduceBEq, Nat.reduceAdd, Nat.reduceLT, Nat.reduceLeDiff, Nat.reduceMul, Int.reduceNeg, Int.reduceLT, Int.reduceLE, Int.reduceToNat, ev, litOf, St.put, nilK, faT, faK, iaA, callV, callVQ, evP, scalP, intW, pickV, seqP, mergeO, ren, renL, rho, loadA, rowOf, setRowOf, srcRows, dstRows, cellsOf, setCells, fillA, toRows, scal, Ty.isAgg, Value.oneCell', ty3, ty22, ty23, ty4, ty44, hxx, hoo, List.length_append, hp1, hdr]) | (refine hK _ ?_; clear hK K) | ((first | refine guardK_split (fun hb' => ?_) (fun hb' => ?_) | refine guardM_split (fun hb' => ?_) (fun hb' => ?_)) <;> (have hb := hb'; (try simp only [DEc, reduceCtorEq] at hb); simp (disch := omega) only [Bc, ↓reduceIte, reduceCtorEq, Nat.reduceEqDiff, Nat.reduceBEq, Nat.reduceAdd, Nat.reduceLT, Nat.reduceLeDiff, Nat.reduceMul, Int.reduceNeg, Int.reduceLT, Int.reduceLE, Int.reduceToNat, ev, litOf, St.put, nilK, faT, faK, iaA, callV, callVQ, evP, scalP, intW, pickV, seqP, mergeO, ren, renL, rho, loadA, rowOf, setRowOf, srcRows, dstRows, cellsOf, setCells, fillA, toRows, scal, Ty.isAgg, Value.oneCell', ty3, ty22, ty23, ty4, ty44, hxx, hoo, List.length_append, hp1, hdr, hb']; clear hb')) | (refine W_cond (by (simp only [LKc, ↓reduceIte, Nat.reduceEqDiff, Nat.reduceBEq, ev, litOf, St.put, ty3, ty22, ty23, ty4, ty44, hxx, hoo, List.length_append, hp1, hdr]; exact rfl)) (fun ht => ?_) (fun ht => ?_) <;> (try simp only [DEc, reduceCtorEq] at ht)) | refine W_skip ?_ | refine W_exit ?_ | refine W_ret ?_ | refine W_label ?_ | (refine W_block_k ?_; intro Qb hnb hxb heb) | (refine W_k ?_; intro Q hn he) | (refine hn _ ?_; clear hn he Q) | (refine hnb _ ?_; clear hnb hxb heb Qb) | (refine hxb _ ?_; clear hnb hxb heb Qb) | (refine he _ _ ?_ ?_; (focus (simp only [NEc, reduceCtorEq, Nat.reduceEqDiff]; done)); clear hn he Q) | (refine heb _ _ ?_ ?_ ?_; (focus (simp only [NEc, reduceCtorEq, Nat.reduceEqDiff]; done)); (focus (simp only [NEc, reduceCtorEq, Nat.reduceEqDiff]; done)); clear hnb hxb heb Qb) | (simp only [retQ, resW, retV, List.length_nil, LKc, ↓reduceIte, Nat.reduceEqDiff, Nat.reduceBEq, ev, litOf, St.put]) | with_reducible refine And.intro ?_ ?_ | omega | with_reducible rfl)
        · rw [if_pos ⟨hb, ht⟩] at hr2
          have hc4 := hc3 (by omega) ht
          refine hnl2 _ (k + 1, 0, [], q2 ++ [o], used2.set x.toNat true, inn2.set o.toNat true) ⟨by dsimp only; omega, rfl, trivial, ?_, by simpa using hu2, by simpa using hi2, by simp only [List.length_append, List.length_singleton]; omega, hr2⟩ (by dsimp only; omega) ?_
          · intro y hy
            rcases List.mem_append.1 hy with hy | hy
            · exact hq2 y hy
            · simp only [List.mem_singleton] at hy; subst hy; omega
          · dsimp only [List.nil_append]
            (refine Turns.sel [0, 1, 4] false _ _ (by decide) (by simp only [SelO, Bc, reduceCtorEq, ren, renL, rho, Nat.reduceAdd, Nat.reduceLT, Nat.reduceLeDiff, Nat.reduceEqDiff, or_true, ↓reduceIte, false_or]) (by decide) (by decide) ?_; simp only [HasR, Bc, and_true, Int.natCast_add, Int.cast_ofNat_Int, Nat.reduceAdd, LKc, ↓reduceIte, Nat.reduceEqDiff, Nat.reduceBEq, ev, litOf, St.put]; (try (and_intros <;> first | exact ArgR.pure rfl | exact ArgR.eq rfl | exact ArgR.frz rfl (by first | exact ints_wid _ | exact bools_wid _ | exact intss_wid _) (by simp only [Bc]) (not_kept (by decide)) (by first | exact ints_frz _ | exact bools_frz _ | exact intss_frz _))))
        · rw [if_neg (by simp_all)] at hr2
          exact hnl2 _ (k + 1, off, pre2, q2, used2.set x.toNat true, inn2) ⟨by dsimp only; omega, hp1, hp2, hq2, by simpa using hu2, hi2, hc2, hr2⟩ (by dsimp only; omega) (by (refine Turns.slots _ _ rfl ?_; simp only [Has, and_true, Int.natCast_add, Int.cast_ofNat_Int, List.length_append, List.length_cons, List.length_nil, Nat.zero_add, Nat.reduceAdd, LKc, ↓reduceIte, Nat.reduceEqDiff, Nat.reduceBEq, ev, litOf, St.put]; try trivial))
        · rw [if_neg (by omega)] at hr2
          exact hnl2 _ (k + 1, off, pre2, q2, used2.set x.toNat true, inn2) ⟨by dsimp only; omega, hp1, hp2, hq2, by simpa using hu2, hi2, hc2, hr2⟩ (by dsimp only; omega) (by (refine Turns.slots _ _ rfl ?_; simp only [Has, and_true, Int.natCast_add, Int.cast_ofNat_Int, List.length_append, List.length_cons, List.length_nil, Nat.zero_add, Nat.reduceAdd, LKc, ↓reduceIte, Nat.reduceEqDiff, Nat.reduceBEq, ev, litOf, St.put]; try trivial))
      · repeat' (first | ((first | (refine W_region_k (by decide) ?_; intro K hK) | (refine W_region_e (by decide) ?_; intro K hK) | (refine W_draw_o rfl (by decide) (by decide +kernel) ?_; intro K hK) | (refine W_draw_oe rfl (by decide) (by decide +kernel) ?_; intro K hK) | with_reducible refine opsL_go ?_ | with_reducible refine planW_go ?_); simp (disch := omega) only [Bc, ↓reduceIte, reduceCtorEq, Nat.reduceEqDiff, Nat.reduceBEq, Nat.reduceAdd, Nat.reduceLT, Nat.reduceLeDiff, Nat.reduceMul, Int.reduceNeg, Int.reduceLT, Int.reduceLE, Int.reduceToNat, ev, litOf, St.put, nilK, faT, faK, iaA, callV, callVQ, evP, scalP, intW, pickV, seqP, mergeO, ren, renL, rho, loadA, rowOf, setRowOf, srcRows, dstRows, cellsOf, setCells, fillA, toRows, scal, Ty.isAgg, Value.oneCell', ty3, ty22, ty23, ty4, ty44]) | (refine hK _ ?_; clear hK K) | ((first | refine guardK_split (fun hb' => ?_) (fun hb' => ?_) | refine guardM_split (fun hb' => ?_) (fun hb' => ?_)) <;> (have hb := hb'; (try simp only [DEc, reduceCtorEq] at hb); simp (disch := omega) only [Bc, ↓reduceIte, reduceCtorEq, Nat.reduceEqDiff, Nat.reduceBEq, Nat.reduceAdd, Nat.reduceLT, Nat.reduceLeDiff, Nat.reduceMul, Int.reduceNeg, Int.reduceLT, Int.reduceLE, Int.reduceToNat, ev, litOf, St.put, nilK, faT, faK, iaA, callV, callVQ, evP, scalP, intW, pickV, seqP, mergeO, ren, renL, rho, loadA, rowOf, setRowOf, srcRows, dstRows, cellsOf, setCells, fillA, toRows, scal, Ty.isAgg, Value.oneCell', ty3, ty22, ty23, ty4, ty44, hb']; clear hb')) | (refine W_cond (by (simp only [LKc, ↓reduceIte, Nat.reduceEqDiff, Nat.reduceBEq, ev, litOf, St.put, ty3, ty22, ty23, ty4, ty44]; exact rfl)) (fun ht => ?_) (fun ht => ?_) <;> (try simp only [DEc, reduceCtorEq] at ht)) | refine W_skip ?_ | refine W_exit ?_ | refine W_ret ?_ | refine W_label ?_ | (refine W_block_k ?_; intro Qb hnb hxb heb) | (refine W_k ?_; intro Q hn he) | (refine hn _ ?_; clear hn he Q) | (refine hnb _ ?_; clear hnb hxb heb Qb) | (refine hxb _ ?_; clear hnb hxb heb Qb) | (refine he _ _ ?_ ?_; (focus (simp only [NEc, reduceCtorEq, Nat.reduceEqDiff]; done)); clear hn he Q) | (refine heb _ _ ?_ ?_ ?_; (focus (simp only [NEc, reduceCtorEq, Nat.reduceEqDiff]; done)); (focus (simp only [NEc, reduceCtorEq, Nat.reduceEqDiff]; done)); clear hnb hxb heb Qb) | (simp only [retQ, resW, retV, List.length_nil, LKc, ↓reduceIte, Nat.reduceEqDiff, Nat.reduceBEq, ev, litOf, St.put]) | with_reducible refine And.intro ?_ ?_ | omega | with_reducible rfl)
        rw [List.drop_eq_nil_of_le (by omega), bfsRow] at hr2
        rw [← hr2] at hr
        refine hel2 _ _ (by simp) ?_
        clear hnl2 hel2 Ql2
        repeat (first | (refine hn _ ?_; clear hn he Q) | (refine hnb _ ?_; clear hnb hxb heb Qb) | (refine hxb _ ?_; clear hnb hxb heb Qb) | (refine he _ _ ?_ ?_; (focus (simp only [NEc, reduceCtorEq, Nat.reduceEqDiff]; done)); clear hn he Q) | (refine heb _ _ ?_ ?_ ?_; (focus (simp only [NEc, reduceCtorEq, Nat.reduceEqDiff]; done)); (focus (simp only [NEc, reduceCtorEq, Nat.reduceEqDiff]; done)); clear hnb hxb heb Qb) | (refine hel _ _ ?_ ?_; (focus (simp only [NEc, reduceCtorEq, Nat.reduceEqDiff]; done)); clear hnl hel Ql))
        refine hnl _ (f', pre2, q2, used2, inn2) ⟨by dsimp only; omega, trivial, hq2, hu2, hi2, by dsimp only; omega, hr⟩ (by dsimp only; omega) ?_
        rw [← hp1]
        (refine Turns.slots _ _ rfl ?_; simp only [Has, and_true, Int.natCast_add, Int.cast_ofNat_Int, List.length_append, List.length_cons, List.length_nil, Nat.zero_add, Nat.reduceAdd, LKc, ↓reduceIte, Nat.reduceEqDiff, Nat.reduceBEq, ev, litOf, St.put]; try trivial)
end T
