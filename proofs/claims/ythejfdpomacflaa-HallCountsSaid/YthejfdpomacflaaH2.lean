import Derived.Test.YthejfdpomacflaaH1
open Go Go.Am Go.Proofs
set_option linter.unusedSimpArgs false
set_option linter.unusedVariables false
namespace T

/-- the search for a number: the numbers of list i that are still to be tried, what was seen, whose a number is -/
def augL (left : List (List Int)) (f : Nat) (xs : List Int) (i : Nat) (seen : List Bool) (owner : List Int) : Bool × List Bool × List Int :=
  match xs with
  | [] => (false, seen, owner)
  | x :: r =>
    if seen.getD x.toNat false = true then augL left f r i seen owner
    else if owner.getD x.toNat 0 < 0 then (true, seen.set x.toNat true, owner.set x.toNat i)
    else match f with
      | 0 => (false, seen.set x.toNat true, owner)
      | f + 1 =>
        let q := augL left f (left.getD (owner.getD x.toNat 0).toNat []) (owner.getD x.toNat 0).toNat (seen.set x.toNat true) owner
        if q.1 = true then (true, q.2.1, q.2.2.set x.toNat i) else augL left (f + 1) r i q.2.1 q.2.2
termination_by (f, xs.length)

def cnt (seen : List Bool) : Nat := seen.count false

theorem cnt_set (seen : List Bool) (n : Nat) (h : n < seen.length) (hf : seen.getD n false = false) : cnt (seen.set n true) + 1 = cnt seen := by
  unfold cnt
  rw [List.count_set h]
  have : seen[n] = false := by simpa [h] using hf
  have h1 : 0 < seen.count false := List.count_pos_iff.2 (by rw [← this]; exact List.getElem_mem h)
  simp [this]
  omega

/-- whose a number is: of a list, or of none -/
def OwnOK (n : Nat) (R : Nat) (owner : List Int) : Prop := owner.length = R ∧ ∀ o ∈ owner, -1 ≤ o ∧ o < n
def LeftOK (R : Nat) (left : List (List Int)) : Prop := left.length < 1000000 ∧ ∀ l ∈ left, l.length < 1000000 ∧ ∀ x ∈ l, 0 ≤ x ∧ x < R

theorem OwnOK.set {n R : Nat} {owner : List Int} (h : OwnOK n R owner) {x i : Nat} (hi : i < n) : OwnOK n R (owner.set x i) :=
  ⟨by simpa using h.1, fun o ho => by
    rcases List.mem_or_eq_of_mem_set ho with h' | h'
    · exact h.2 o h'
    · subst h'; omega⟩

theorem OwnOK.get {n R : Nat} {owner : List Int} (h : OwnOK n R owner) {x : Nat} (hx : x < R) : -1 ≤ owner.getD x 0 ∧ owner.getD x 0 < n := by
  have hl : x < owner.length := by rw [h.1]; exact hx
  rw [List.getD_eq_getElem?_getD, List.getElem?_eq_getElem hl]
  exact h.2 _ (List.getElem_mem hl)

theorem LeftOK.get {R : Nat} {left : List (List Int)} (h : LeftOK R left) (i : Nat) : (left.getD i []).length < 1000000 ∧ ∀ x ∈ left.getD i [], 0 ≤ x ∧ x < R := by
  rcases Nat.lt_or_ge i left.length with hi | hi
  · rw [List.getD_eq_getElem?_getD, List.getElem?_eq_getElem hi]
    exact h.2 _ (List.getElem_mem hi)
  · rw [List.getD_eq_getElem?_getD, List.getElem?_eq_none hi]
    simp

theorem getD_mem {α : Type} {l : List α} {i : Nat} {d : α} (h : i < l.length) : l.getD i d ∈ l := by
  rw [List.getD_eq_getElem?_getD, List.getElem?_eq_getElem h]
  exact List.getElem_mem h

/-- what a search keeps -/
theorem augL_ok {left : List (List Int)} {R : Nat} (hL : LeftOK R left) : ∀ (f : Nat) (xs : List Int) (i : Nat) (seen : List Bool) (owner : List Int), (∀ x ∈ xs, 0 ≤ x ∧ x < R) → i < left.length → OwnOK left.length R owner → seen.length = R →
    OwnOK left.length R (augL left f xs i seen owner).2.2 ∧ (augL left f xs i seen owner).2.1.length = R ∧ cnt (augL left f xs i seen owner).2.1 ≤ cnt seen := by
  intro f
  induction f using Nat.strongRecOn with
  | _ f ihf =>
    intro xs
    induction xs with
    | nil => intro i seen owner _ _ ho hs; rw [augL]; exact ⟨ho, hs, Nat.le_refl _⟩
    | cons x r ih =>
      intro i seen owner hx hi ho hs
      have hx0 := hx x (by simp)
      have hxr : ∀ y ∈ r, 0 ≤ y ∧ y < R := fun y hy => hx y (by simp [hy])
      have hlt : x.toNat < seen.length := by omega
      rw [augL.eq_def]
      simp only
      split
      · exact ih i seen owner hxr hi ho hs
      · rename_i hse
        have hc := cnt_set seen x.toNat hlt (by simpa using hse)
        split
        · exact ⟨ho.set hi, by simpa using hs, by simp only; omega⟩
        · rename_i how
          have hg := ho.get (x := x.toNat) (by omega)
          cases f with
          | zero => exact ⟨ho, by simpa using hs, by simp only; omega⟩
          | succ f' =>
            have h1 := ihf f' (by omega) (left.getD (owner.getD x.toNat 0).toNat []) (owner.getD x.toNat 0).toNat (seen.set x.toNat true) owner (hL.get _).2 (by omega) ho (by simpa using hs)
            obtain ⟨a1, a2, a3⟩ := h1
            simp only
            split
            · exact ⟨a1.set hi, a2, by simp only; omega⟩
            · have h2 := ih i _ _ hxr hi a1 a2
              exact ⟨h2.1, h2.2.1, by omega⟩

theorem augment_ok (left : List (List Int)) (R : Nat) (hL : LeftOK R left) (hR : R < 1000000) : ∀ (f : Nat) (i : Nat) (seen : List Bool) (owner : List Int), cnt seen ≤ f → i < left.length → OwnOK left.length R owner → seen.length = R →
    Holds Try.prog 25 [.tree 1 (intss left), .lit (.int .i64 i), .ref 0 1 0 R, .ref 1 1 0 R] [.arr 1 (bools seen), .arr 1 (ints owner)] (.lit (.bool (augL left f (left.getD i []) i seen owner).1))
      [.arr 1 (bools (augL left f (left.getD i []) i seen owner).2.1), .arr 1 (ints (augL left f (left.getD i []) i seen owner).2.2)] := by
  intro f
  induction f using Nat.strongRecOn with
  | _ f ihf =>
  intro i seen0 owner0 hc0 hi ho0 hs0
  have hl := hL.get i
  have hL1 := hL.1
  generalize hres : augL left f (left.getD i []) i seen0 owner0 = res
  refine Holds.of_body' (fn := Try.f25) 53 2 [.tmp 8] Try.func25 rfl rfl rfl rfl rfl (by simp) ?_
  repeat' (first | ((first | (refine W_region_k (by decide) ?_; intro K hK) | (refine W_region_e (by decide) ?_; intro K hK) | (refine W_draw_o rfl (by decide) (by decide +kernel) ?_; intro K hK) | (refine W_draw_oe rfl (by decide) (by decide +kernel) ?_; intro K hK) | with_reducible refine opsL_go ?_ | with_reducible refine planW_go ?_); simp (disch := omega) only [Bc, ↓reduceIte, reduceCtorEq, Nat.reduceEqDiff, Nat.reduceBEq, Nat.reduceAdd, Nat.reduceLT, Nat.reduceLeDiff, Nat.reduceMul, Int.reduceNeg, Int.reduceLT, Int.reduceLE, Int.reduceToNat, ev, litOf, St.put, nilK, faT, faK, iaA, callV, callVQ, evP, scalP, intW, pickV, seqP, mergeO, ren, renL, rho, loadA, rowOf, setRowOf, srcRows, dstRows, cellsOf, setCells, fillA, toRows, scal, Ty.isAgg, Value.oneCell', ty3, ty22, ty23, ty4, ty44]) | (refine hK _ ?_; clear hK K) | ((first | refine guardK_split (fun hb' => ?_) (fun hb' => ?_) | refine guardM_split (fun hb' => ?_) (fun hb' => ?_)) <;> (have hb := hb'; (try simp only [DEc, reduceCtorEq] at hb); simp (disch := omega) only [Bc, ↓reduceIte, reduceCtorEq, Nat.reduceEqDiff, Nat.reduceBEq, Nat.reduceAdd, Nat.reduceLT, Nat.reduceLeDiff, Nat.reduceMul, Int.reduceNeg, Int.reduceLT, Int.reduceLE, Int.reduceToNat, ev, litOf, St.put, nilK, faT, faK, iaA, callV, callVQ, evP, scalP, intW, pickV, seqP, mergeO, ren, renL, rho, loadA, rowOf, setRowOf, srcRows, dstRows, cellsOf, setCells, fillA, toRows, scal, Ty.isAgg, Value.oneCell', ty3, ty22, ty23, ty4, ty44, hb']; clear hb')) | (refine W_cond (by (simp only [LKc, ↓reduceIte, Nat.reduceEqDiff, Nat.reduceBEq, ev, litOf, St.put, ty3, ty22, ty23, ty4, ty44]; exact rfl)) (fun ht => ?_) (fun ht => ?_) <;> (try simp only [DEc, reduceCtorEq] at ht)) | refine W_skip ?_ | refine W_exit ?_ | refine W_ret ?_ | refine W_label ?_ | (refine W_block_k ?_; intro Qb hnb hxb heb) | (refine W_k ?_; intro Q hn he) | (refine hn _ ?_; clear hn he Q) | (refine hnb _ ?_; clear hnb hxb heb Qb) | (refine hxb _ ?_; clear hnb hxb heb Qb) | (refine he _ _ ?_ ?_; (focus (simp only [NEc, reduceCtorEq, Nat.reduceEqDiff]; done)); clear hn he Q) | (refine heb _ _ ?_ ?_ ?_; (focus (simp only [NEc, reduceCtorEq, Nat.reduceEqDiff]; done)); (focus (simp only [NEc, reduceCtorEq, Nat.reduceEqDiff]; done)); clear hnb hxb heb Qb) | (refine hel _ _ ?_ ?_; (focus (simp only [NEc, reduceCtorEq, Nat.reduceEqDiff]; done)); clear hnl hel Ql) | (simp only [retQ, resW, retV, List.length_nil, LKc, ↓reduceIte, Nat.reduceEqDiff, Nat.reduceBEq, ev, litOf, St.put]; first | refine RetOK_pure' rfl ?_ | refine RetOK_all ?_ (by simp only [List.length_cons, List.length_nil]; omega) ?_) | with_reducible refine And.intro ?_ ?_ | omega | with_reducible rfl)
  refine W_loopT (fun z : Nat × List Bool × List Int => (⟨slots [(0, .tree 1 (intss left)), (1, .lit (.int .i64 i)), (2, .ref 0 1 0 R), (3, .ref 1 1 0 R), (9, .lit (.int .i64 z.1))], [.arr 1 (bools z.2.1), .arr 1 (ints z.2.2)]⟩ : St))
    (fun z => z.1 ≤ (left.getD i []).length ∧ cnt z.2.1 ≤ f ∧ OwnOK left.length R z.2.2 ∧ z.2.1.length = R ∧ augL left f ((left.getD i []).drop z.1) i z.2.1 z.2.2 = res) (fun z => (left.getD i []).length - z.1) (0, seen0, owner0) ⟨Nat.zero_le _, hc0, ho0, hs0, by simpa using hres⟩ (by (refine Turns.slots _ _ rfl ?_; simp only [Has, and_true, Int.natCast_add, Int.cast_ofNat_Int, List.length_append, List.length_cons, List.length_nil, Nat.zero_add, Nat.reduceAdd, LKc, ↓reduceIte, Nat.reduceEqDiff, Nat.reduceBEq, ev, litOf, St.put]; try trivial)) ?_
  rintro ⟨k, seen, owner⟩ ⟨hk, hc, ho, hs, hr⟩ Ql hnl hel
  dsimp only at hk hc ho hs hr ⊢
  have hol := ho.1
  generalize hll : left.getD i [] = l at *
  by_cases hk' : k < l.length
  · have hx := hl.2 _ (getD_mem (d := 0) hk')
    have hd := getD_drop0 l k 0 hk'
    generalize hxx : l.getD k 0 = x at *
    have hog := ho.get (x := x.toNat) (by omega)
    generalize hoo : owner.getD x.toNat 0 = o at *
    repeat' (first | ((first | (refine W_region_k (by decide) ?_; intro K hK) | (refine W_region_e (by decide) ?_; intro K hK) | (refine W_draw_o rfl (by decide) (by decide +kernel) ?_; intro K hK) | (refine W_draw_oe rfl (by decide) (by decide +kernel) ?_; intro K hK) | with_reducible refine opsL_go ?_ | with_reducible refine planW_go ?_); simp (disch := omega) only [Bc, ↓reduceIte, reduceCtorEq, Nat.reduceEqDiff, Nat.reduceBEq, Nat.reduceAdd, Nat.reduceLT, Nat.reduceLeDiff, Nat.reduceMul, Int.reduceNeg, Int.reduceLT, Int.reduceLE, Int.reduceToNat, ev, litOf, St.put, nilK, faT, faK, iaA, callV, callVQ, evP, scalP, intW, pickV, seqP, mergeO, ren, renL, rho, loadA, rowOf, setRowOf, srcRows, dstRows, cellsOf, setCells, fillA, toRows, scal, Ty.isAgg, Value.oneCell', ty3, ty22, ty23, ty4, ty44, hll, hxx, hoo]) | (refine hK _ ?_; clear hK K) | ((first | refine guardK_split (fun hb' => ?_) (fun hb' => ?_) | refine guardM_split (fun hb' => ?_) (fun hb' => ?_)) <;> (have hb := hb'; (try simp only [DEc, reduceCtorEq] at hb); simp (disch := omega) only [Bc, ↓reduceIte, reduceCtorEq, Nat.reduceEqDiff, Nat.reduceBEq, Nat.reduceAdd, Nat.reduceLT, Nat.reduceLeDiff, Nat.reduceMul, Int.reduceNeg, Int.reduceLT, Int.reduceLE, Int.reduceToNat, ev, litOf, St.put, nilK, faT, faK, iaA, callV, callVQ, evP, scalP, intW, pickV, seqP, mergeO, ren, renL, rho, loadA, rowOf, setRowOf, srcRows, dstRows, cellsOf, setCells, fillA, toRows, scal, Ty.isAgg, Value.oneCell', ty3, ty22, ty23, ty4, ty44, hll, hxx, hoo, hb']; clear hb')) | (refine W_cond (by (simp only [LKc, ↓reduceIte, Nat.reduceEqDiff, Nat.reduceBEq, ev, litOf, St.put, ty3, ty22, ty23, ty4, ty44, hll, hxx, hoo]; exact rfl)) (fun ht => ?_) (fun ht => ?_) <;> (try simp only [DEc, reduceCtorEq] at ht)) | refine W_skip ?_ | refine W_exit ?_ | refine W_ret ?_ | refine W_label ?_ | (refine W_block_k ?_; intro Qb hnb hxb heb) | (refine W_k ?_; intro Q hn he) | (refine hn _ ?_; clear hn he Q) | (refine hnb _ ?_; clear hnb hxb heb Qb) | (refine hxb _ ?_; clear hnb hxb heb Qb) | (refine he _ _ ?_ ?_; (focus (simp only [NEc, reduceCtorEq, Nat.reduceEqDiff]; done)); clear hn he Q) | (refine heb _ _ ?_ ?_ ?_; (focus (simp only [NEc, reduceCtorEq, Nat.reduceEqDiff]; done)); (focus (simp only [NEc, reduceCtorEq, Nat.reduceEqDiff]; done)); clear hnb hxb heb Qb) | (refine hel _ _ ?_ ?_; (focus (simp only [NEc, reduceCtorEq, Nat.reduceEqDiff]; done)); clear hnl hel Ql) | (simp only [retQ, resW, retV, List.length_nil, LKc, ↓reduceIte, Nat.reduceEqDiff, Nat.reduceBEq, ev, litOf, St.put]; first | refine RetOK_pure' rfl ?_ | refine RetOK_all ?_ (by simp only [List.length_cons, List.length_nil]; omega) ?_) | with_reducible refine And.intro ?_ ?_ | omega | with_reducible rfl)
    all_goals rw [hd, augL.eq_def] at hr; simp only at hr; rw [hoo] at hr
    · rw [if_pos ht] at hr
      exact hnl _ (k + 1, seen, owner) ⟨by dsimp only; omega, hc, ho, hs, hr⟩ (by dsimp only; omega) (by (refine Turns.slots _ _ rfl ?_; simp only [Has, and_true, Int.natCast_add, Int.cast_ofNat_Int, List.length_append, List.length_cons, List.length_nil, Nat.zero_add, Nat.reduceAdd, LKc, ↓reduceIte, Nat.reduceEqDiff, Nat.reduceBEq, ev, litOf, St.put]; try trivial))
    · rw [if_neg (by simp_all), if_pos hb] at hr
      rw [← hr]
    · rw [if_neg (by simp_all), if_pos hb] at hr
      rw [← hr]
    · rw [if_neg (by rw [ht]; decide), if_neg (by omega)] at hr
      have hc2 := cnt_set seen x.toNat (by omega) ht
      obtain ⟨f', rfl⟩ : ∃ f', f = f' + 1 := ⟨f - 1, by omega⟩
      have hcall := ihf f' (by omega) o.toNat (seen.set x.toNat true) owner (by omega) (by omega) ho (by simpa using hs)
      rw [Int.toNat_of_nonneg hb] at hcall
      have hk2 := augL_ok hL f' (left.getD o.toNat []) o.toNat (seen.set x.toNat true) owner (hL.get _).2 (by omega) ho (by simpa using hs)
      simp only at hr
      generalize hq : augL left f' (left.getD o.toNat []) o.toNat (seen.set x.toNat true) owner = q at *
      obtain ⟨b, seen2, owner2⟩ := q
      dsimp only at hcall hk2 hr
      obtain ⟨k1, k2, k3⟩ := hk2
      have k4 := k1.1
      refine callK_all hcall (by simp) ?_
      repeat' (first | ((first | (refine W_region_k (by decide) ?_; intro K hK) | (refine W_region_e (by decide) ?_; intro K hK) | (refine W_draw_o rfl (by decide) (by decide +kernel) ?_; intro K hK) | (refine W_draw_oe rfl (by decide) (by decide +kernel) ?_; intro K hK) | with_reducible refine opsL_go ?_ | with_reducible refine planW_go ?_); simp (disch := omega) only [Bc, ↓reduceIte, reduceCtorEq, Nat.reduceEqDiff, Nat.reduceBEq, Nat.reduceAdd, Nat.reduceLT, Nat.reduceLeDiff, Nat.reduceMul, Int.reduceNeg, Int.reduceLT, Int.reduceLE, Int.reduceToNat, ev, litOf, St.put, nilK, faT, faK, iaA, callV, callVQ, evP, scalP, intW, pickV, seqP, mergeO, ren, renL, rho, loadA, rowOf, setRowOf, srcRows, dstRows, cellsOf, setCells, fillA, toRows, scal, Ty.isAgg, Value.oneCell', ty3, ty22, ty23, ty4, ty44, hll, hxx, hoo]) | (refine hK _ ?_; clear hK K) | ((first | refine guardK_split (fun hb' => ?_) (fun hb' => ?_) | refine guardM_split (fun hb' => ?_) (fun hb' => ?_)) <;> (have hb := hb'; (try simp only [DEc, reduceCtorEq] at hb); simp (disch := omega) only [Bc, ↓reduceIte, reduceCtorEq, Nat.reduceEqDiff, Nat.reduceBEq, Nat.reduceAdd, Nat.reduceLT, Nat.reduceLeDiff, Nat.reduceMul, Int.reduceNeg, Int.reduceLT, Int.reduceLE, Int.reduceToNat, ev, litOf, St.put, nilK, faT, faK, iaA, callV, callVQ, evP, scalP, intW, pickV, seqP, mergeO, ren, renL, rho, loadA, rowOf, setRowOf, srcRows, dstRows, cellsOf, setCells, fillA, toRows, scal, Ty.isAgg, Value.oneCell', ty3, ty22, ty23, ty4, ty44, hll, hxx, hoo, hb']; clear hb')) | (refine W_cond (by (simp only [LKc, ↓reduceIte, Nat.reduceEqDiff, Nat.reduceBEq, ev, litOf, St.put, ty3, ty22, ty23, ty4, ty44, hll, hxx, hoo]; exact rfl)) (fun ht => ?_) (fun ht => ?_) <;> (try simp only [DEc, reduceCtorEq] at ht)) | refine W_skip ?_ | refine W_exit ?_ | refine W_ret ?_ | refine W_label ?_ | (refine W_block_k ?_; intro Qb hnb hxb heb) | (refine W_k ?_; intro Q hn he) | (refine hn _ ?_; clear hn he Q) | (refine hnb _ ?_; clear hnb hxb heb Qb) | (refine hxb _ ?_; clear hnb hxb heb Qb) | (refine he _ _ ?_ ?_; (focus (simp only [NEc, reduceCtorEq, Nat.reduceEqDiff]; done)); clear hn he Q) | (refine heb _ _ ?_ ?_ ?_; (focus (simp only [NEc, reduceCtorEq, Nat.reduceEqDiff]; done)); (focus (simp only [NEc, reduceCtorEq, Nat.reduceEqDiff]; done)); clear hnb hxb heb Qb) | (refine hel _ _ ?_ ?_; (focus (simp only [NEc, reduceCtorEq, Nat.reduceEqDiff]; done)); clear hnl hel Ql) | (simp only [retQ, resW, retV, List.length_nil, LKc, ↓reduceIte, Nat.reduceEqDiff, Nat.reduceBEq, ev, litOf, St.put]; first | refine RetOK_pure' rfl ?_ | refine RetOK_all ?_ (by simp only [List.length_cons, List.length_nil]; omega) ?_) | with_reducible refine And.intro ?_ ?_ | omega | with_reducible rfl)
      · rw [if_pos ht] at hr; rw [← hr]
      · rw [if_pos ht] at hr; rw [← hr]
      · rw [if_neg (by simp_all)] at hr
        exact hnl _ (k + 1, seen2, owner2) ⟨by dsimp only; omega, by dsimp only; omega, k1, k2, hr⟩ (by dsimp only; omega) (by (refine Turns.slots _ _ rfl ?_; simp only [Has, and_true, Int.natCast_add, Int.cast_ofNat_Int, List.length_append, List.length_cons, List.length_nil, Nat.zero_add, Nat.reduceAdd, LKc, ↓reduceIte, Nat.reduceEqDiff, Nat.reduceBEq, ev, litOf, St.put]; try trivial))
  · repeat' (first | ((first | (refine W_region_k (by decide) ?_; intro K hK) | (refine W_region_e (by decide) ?_; intro K hK) | (refine W_draw_o rfl (by decide) (by decide +kernel) ?_; intro K hK) | (refine W_draw_oe rfl (by decide) (by decide +kernel) ?_; intro K hK) | with_reducible refine opsL_go ?_ | with_reducible refine planW_go ?_); simp (disch := omega) only [Bc, ↓reduceIte, reduceCtorEq, Nat.reduceEqDiff, Nat.reduceBEq, Nat.reduceAdd, Nat.reduceLT, Nat.reduceLeDiff, Nat.reduceMul, Int.reduceNeg, Int.reduceLT, Int.reduceLE, Int.reduceToNat, ev, litOf, St.put, nilK, faT, faK, iaA, callV, callVQ, evP, scalP, intW, pickV, seqP, mergeO, ren, renL, rho, loadA, rowOf, setRowOf, srcRows, dstRows, cellsOf, setCells, fillA, toRows, scal, Ty.isAgg, Value.oneCell', ty3, ty22, ty23, ty4, ty44, hll]) | (refine hK _ ?_; clear hK K) | ((first | refine guardK_split (fun hb' => ?_) (fun hb' => ?_) | refine guardM_split (fun hb' => ?_) (fun hb' => ?_)) <;> (have hb := hb'; (try simp only [DEc, reduceCtorEq] at hb); simp (disch := omega) only [Bc, ↓reduceIte, reduceCtorEq, Nat.reduceEqDiff, Nat.reduceBEq, Nat.reduceAdd, Nat.reduceLT, Nat.reduceLeDiff, Nat.reduceMul, Int.reduceNeg, Int.reduceLT, Int.reduceLE, Int.reduceToNat, ev, litOf, St.put, nilK, faT, faK, iaA, callV, callVQ, evP, scalP, intW, pickV, seqP, mergeO, ren, renL, rho, loadA, rowOf, setRowOf, srcRows, dstRows, cellsOf, setCells, fillA, toRows, scal, Ty.isAgg, Value.oneCell', ty3, ty22, ty23, ty4, ty44, hll, hb']; clear hb')) | (refine W_cond (by (simp only [LKc, ↓reduceIte, Nat.reduceEqDiff, Nat.reduceBEq, ev, litOf, St.put, ty3, ty22, ty23, ty4, ty44, hll]; exact rfl)) (fun ht => ?_) (fun ht => ?_) <;> (try simp only [DEc, reduceCtorEq] at ht)) | refine W_skip ?_ | refine W_exit ?_ | refine W_ret ?_ | refine W_label ?_ | (refine W_block_k ?_; intro Qb hnb hxb heb) | (refine W_k ?_; intro Q hn he) | (refine hn _ ?_; clear hn he Q) | (refine hnb _ ?_; clear hnb hxb heb Qb) | (refine hxb _ ?_; clear hnb hxb heb Qb) | (refine he _ _ ?_ ?_; (focus (simp only [NEc, reduceCtorEq, Nat.reduceEqDiff]; done)); clear hn he Q) | (refine heb _ _ ?_ ?_ ?_; (focus (simp only [NEc, reduceCtorEq, Nat.reduceEqDiff]; done)); (focus (simp only [NEc, reduceCtorEq, Nat.reduceEqDiff]; done)); clear hnb hxb heb Qb) | (refine hel _ _ ?_ ?_; (focus (simp only [NEc, reduceCtorEq, Nat.reduceEqDiff]; done)); clear hnl hel Ql) | (simp only [retQ, resW, retV, List.length_nil, LKc, ↓reduceIte, Nat.reduceEqDiff, Nat.reduceBEq, ev, litOf, St.put]; first | refine RetOK_pure' rfl ?_ | refine RetOK_all ?_ (by simp only [List.length_cons, List.length_nil]; omega) ?_) | with_reducible refine And.intro ?_ ?_ | omega | with_reducible rfl)
    · rw [List.drop_eq_nil_of_le (by omega), augL.eq_def] at hr
      rw [← hr]
    · rw [List.drop_eq_nil_of_le (by omega), augL.eq_def] at hr
      rw [← hr]
end T
