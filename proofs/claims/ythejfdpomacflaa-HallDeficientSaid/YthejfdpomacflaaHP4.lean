import Derived.Test.YthejfdpomacflaaHP3
open Go Go.Am Go.Proofs
set_option linter.unusedSimpArgs false
set_option linter.unusedVariables false
namespace T

theorem cn_left (n : Nat) (p : Nat → Bool) : cn (n + 1) p = (if p 0 = true then 1 else 0) + cn n (fun i => p (i + 1)) := by
  induction n with
  | zero => rw [cn_succ, cn_zero, cn_zero]; omega
  | succ n ih => rw [cn_succ, ih, cn_succ (n := n)]; omega

theorem countP_cn {α : Type} (p : α → Bool) (d : α) : ∀ l : List α, l.countP p = cn l.length (fun i => p (l.getD i d))
  | [] => rfl
  | a :: l => by
    rw [List.countP_cons, countP_cn p d l, List.length_cons, cn_left]
    simp only [List.getD_cons_zero, List.getD_cons_succ]
    omega

theorem whereL_len (l : List Bool) : ∀ k, (whereL l k).length = cn l.length (fun i => l.getD i false) := by
  induction l with
  | nil => intro k; rfl
  | cons b r ih =>
    intro k
    rw [whereL, List.length_cons, cn_left]
    simp only [List.getD_cons_zero, List.getD_cons_succ]
    split
    · rw [List.length_cons, ih]; omega
    · rw [ih]; omega

theorem whereL_mem (l : List Bool) : ∀ (k i : Nat), l.getD i false = true → ((k + i : Nat) : Int) ∈ whereL l k := by
  induction l with
  | nil => intro k i h; simp at h
  | cons b r ih =>
    intro k i h
    rw [whereL]
    cases i with
    | zero =>
      rw [List.getD_cons_zero] at h
      rw [if_pos h]; simp
    | succ i =>
      rw [List.getD_cons_succ] at h
      have := ih (k + 1) i h
      rw [show k + 1 + i = k + (i + 1) by omega] at this
      split
      · exact List.mem_cons_of_mem _ this
      · exact this

theorem unm_getD {number : List Int} {i : Nat} (hi : i < number.length) : (unm number).getD i false = !on number i := by
  rw [unm, on, List.getD_eq_getElem?_getD, List.getElem?_map, List.getElem?_eq_getElem hi, List.getD_eq_getElem?_getD, List.getElem?_eq_getElem hi]
  simp only [Option.map_some, Option.getD_some]
  by_cases h : number[i] < 0
  · rw [decide_eq_true h, decide_eq_false (by omega)]; rfl
  · rw [decide_eq_false h, decide_eq_true (by omega)]; rfl

structure Reach (left : List (List Int)) (R : Nat) (owner number : List Int) (used inn : List Bool) : Prop where
  lu : used.length = R
  li : inn.length = left.length
  g1 : ∀ i, i < left.length → on number i = false → inn.getD i false = true
  g2 : ∀ i, i < left.length → inn.getD i false = true → ∀ x ∈ left.getD i [], used.getD x.toNat false = true
  g3 : ∀ x, used.getD x false = true → 0 ≤ owner.getD x 0 → inn.getD (owner.getD x 0).toNat false = true
  g4 : ∀ (T E : Nat → Prop), (∀ x, E x → 0 ≤ owner.getD x 0 → T (owner.getD x 0).toNat) → (∀ i, T i → ∀ x ∈ left.getD i [], E x.toNat) → (∀ i, i < left.length → on number i = false → T i) → (∀ i, inn.getD i false = true → T i) ∧ ∀ x, used.getD x false = true → E x

theorem reach {left : List (List Int)} {R : Nat} (hL : LeftOK R left) {owner number : List Int} (h : MOK left R owner number) : ∀ z, bfs left owner left.length (whereL (unm number) 0) (List.replicate R false) (unm number) = z → Reach left R owner number z.1 z.2 := by
  intro z hz
  have hul : (unm number).length = left.length := by rw [unm, List.length_map, h.hN]
  have hlt : ∀ i, (unm number).getD i false = true → i < left.length := fun i hi => by
    rcases Nat.lt_or_ge i (unm number).length with h' | h'
    · omega
    · rw [List.getD_eq_getElem?_getD, List.getElem?_eq_none h'] at hi; simp at hi
  have hon : ∀ i, i < left.length → (unm number).getD i false = !on number i := fun i hi => unm_getD (by rw [h.hN]; exact hi)
  obtain ⟨r1, r2, r3, r4, r5, r6⟩ := bfs_spec hL h.hO left.length (whereL (unm number) 0) (List.replicate R false) (unm number) (by rw [whereL_cnt, hul]; exact Nat.le_refl _) (fun x hx => by
    have := whereL_range _ _ x hx
    rw [hul] at this; omega) (by simp) hul (fun i hi hh => .inl (by have := whereL_mem (unm number) 0 i hh; simpa using this)) (fun x hx => by rw [grep] at hx; simp at hx) z hz
  refine ⟨r1, r2, fun i hi hh => r3 i (by rw [hon i hi, hh]; rfl), r4, r5, fun T E hTE hET h1 => ?_⟩
  refine r6 T E hTE hET (fun i hi => ?_) (fun x hx => by rw [grep] at hx; simp at hx) (fun i hi => ?_)
  · have hl := hlt i hi
    rw [hon i hl] at hi
    exact h1 i hl (by simpa using hi)
  · have := whereL_range _ _ i hi
    obtain ⟨j, rfl⟩ : ∃ j : Nat, i = j := ⟨i.toNat, by omega⟩
    rw [Int.toNat_natCast]
    -- what stands in the queue is true there
    have key : ∀ (l : List Bool) (k j : Nat), (j : Int) ∈ whereL l k → l.getD (j - k) false = true := by
      intro l
      induction l with
      | nil => intro k j hj; simp [whereL] at hj
      | cons b r ih =>
        intro k j hj
        rw [whereL] at hj
        have hrec : (j : Int) ∈ whereL r (k + 1) → (b :: r).getD (j - k) false = true := fun hj => by
          have hr := whereL_range _ _ _ hj
          have := ih _ _ hj
          rw [show j - k = (j - (k + 1)) + 1 by omega, List.getD_cons_succ]
          exact this
        split at hj
        · rename_i hb
          rcases List.mem_cons.1 hj with e | hj
          · rw [show j - k = 0 by omega, List.getD_cons_zero]; exact hb
          · exact hrec hj
        · exact hrec hj
    have hk := key _ _ _ hi
    rw [Nat.sub_zero] at hk
    have hl := hlt j hk
    rw [hon j hl] at hk
    exact h1 j hl (by simpa using hk)

noncomputable def pb (D : Nat → Prop) (x : Nat) : Bool := @decide (D x) (Classical.propDecidable _)
theorem pb_iff {D : Nat → Prop} {x : Nat} : pb D x = true ↔ D x := by
  unfold pb; exact @decide_eq_true_iff _ (Classical.propDecidable _)

section
variable {left : List (List Int)} {R : Nat} {owner number : List Int} {used inn : List Bool} {D : Nat → Prop}

theorem Reach.used_on (hL : LeftOK R left) (h : Inv left R (-1) left.length owner number D) (hr : Reach left R owner number used inn) : ∀ x, used.getD x false = true → x < R ∧ 0 ≤ owner.getD x 0 := by
  intro x hx
  obtain ⟨_, b⟩ := hr.g4 (fun i => ∀ y ∈ left.getD i [], D y.toNat) (fun x => x < R ∧ D x) (fun x hx h0 => (h.cl x hx.1 hx.2).2) (fun i hi y hy => ⟨by have := (hL.get i).2 y hy; omega, hi y hy⟩) (fun i hi h0 => h.dead i hi hi (by omega) (by simpa [on] using h0))
  obtain ⟨c, d⟩ := b x hx
  exact ⟨c, (h.cl x c d).1⟩

theorem Reach.count (hL : LeftOK R left) (h : Inv left R (-1) left.length owner number D) (hr : Reach left R owner number used inn) :
    cn left.length (fun i => inn.getD i false) = cn left.length (fun i => !on number i) + cn R (fun x => used.getD x false) := by
  rw [cn_split _ _ (on number)]
  have e1 : cn left.length (fun i => inn.getD i false && !on number i) = cn left.length (fun i => !on number i) := cn_congr fun i hi => by
    cases ho : on number i with
    | true => simp
    | false => rw [hr.g1 i hi ho]; rfl
  have h1 := on_le h.ok (T := fun i => inn.getD i false) (D := fun x => used.getD x false) (fun i hi hT => hr.g2 i hi hT)
  have h2 : cn R (fun x => used.getD x false && decide (0 ≤ owner.getD x 0) && inn.getD (owner.getD x 0).toNat false) ≤ cn R (fun x => used.getD x false) := cn_le fun i _ hi => by simp only [Bool.and_eq_true] at hi; exact hi.1.1
  have h3 := on_ge h.ok (T := fun i => inn.getD i false) (D := fun x => used.getD x false) (fun x hx hu => by
    have := (hr.used_on hL h x hu).2
    exact ⟨this, hr.g3 x hu this⟩)
  omega

theorem Reach.none (hr : Reach left R owner number used inn) (h : ∀ i, i < left.length → on number i = true) : ∀ i, inn.getD i false = false := by
  obtain ⟨a, _⟩ := hr.g4 (fun _ => False) (fun _ => False) (fun _ h _ => h) (fun _ h => h.elim) (fun i hi h0 => by rw [h i hi] at h0; simp at h0)
  intro i
  cases hh : inn.getD i false with
  | false => rfl
  | true => exact (a i hh).elim

theorem Reach.group (hL : LeftOK R left) (h : Inv left R (-1) left.length owner number D) (hr : Reach left R owner number used inn) (hs : size left R (-1) = cn left.length (on number)) {w : Nat} (hw : w < left.length) :
    inn.getD w false = decide (size left R w = size left R (-1)) := by
  obtain ⟨⟨Dw, hW⟩, hsw⟩ := matchW_main hL (w : Int)
  generalize matchW left R w = mw at hW hsw
  obtain ⟨ow, nw⟩ := mw
  dsimp only at hW hsw
  have hnw : nw.getD w 0 = -1 := hW.rest w hw (.inr rfl)
  have hc := hr.count hL h
  have n1 := cn_not left.length (on number)
  have n2 := cn_not left.length (on nw)
  have uw : cn left.length (fun i => !on nw i) = cn left.length (fun i => decide (i ≠ w) && !on nw i) + 1 := by
    refine cn_one w hw (fun i hi hne => by simp [hne]) ?_ (by simp)
    simp only [on, hnw]; rfl
  generalize hU : cn left.length (fun i => !on number i) = U at *
  generalize hUw : cn left.length (fun i => decide (i ≠ w) && !on nw i) = Uw at *
  cases hin : inn.getD w false with
  | false =>
    -- the group has too few numbers for itself
    have k1 := on_le hW.ok (T := fun i => inn.getD i false) (D := fun x => used.getD x false) (fun i hi hT => hr.g2 i hi hT)
    have k2 : cn R (fun x => used.getD x false && decide (0 ≤ ow.getD x 0) && inn.getD (ow.getD x 0).toNat false) ≤ cn R (fun x => used.getD x false) := cn_le fun i _ hi => by simp only [Bool.and_eq_true] at hi; exact hi.1.1
    have k3 := cn_split left.length (fun i => inn.getD i false) (on nw)
    have k4 : cn left.length (fun i => inn.getD i false && !on nw i) ≤ Uw := by
      rw [← hUw]
      refine cn_le fun i hi hp => ?_
      simp only [Bool.and_eq_true] at hp ⊢
      refine ⟨?_, hp.2⟩
      rw [decide_eq_true_eq]
      intro e; subst e; simp_all
    symm
    rw [decide_eq_false_iff_not]
    omega
  | true =>
    symm
    rw [decide_eq_true_eq]
    -- not fewer
    have a1 := on_ge h.ok (T := fun i => pb (fun i => ∀ y ∈ left.getD i [], D y.toNat) i) (D := pb D) (fun x hx hD => by
      obtain ⟨c1, c2⟩ := h.cl x hx (pb_iff.1 hD)
      exact ⟨c1, pb_iff.2 c2⟩)
    have a2 := on_le hW.ok (T := fun i => pb (fun i => ∀ y ∈ left.getD i [], D y.toNat) i) (D := pb D) (fun i hi hT y hy => pb_iff.2 (pb_iff.1 hT y hy))
    have a3 : cn R (fun x => pb D x && decide (0 ≤ ow.getD x 0) && pb (fun i => ∀ y ∈ left.getD i [], D y.toNat) (ow.getD x 0).toNat) ≤ cn R (pb D) := cn_le fun i _ hi => by simp only [Bool.and_eq_true] at hi; exact hi.1.1
    have a4 := cn_split left.length (fun i => pb (fun i => ∀ y ∈ left.getD i [], D y.toNat) i) (on number)
    have a5 := cn_split left.length (fun i => pb (fun i => ∀ y ∈ left.getD i [], D y.toNat) i) (on nw)
    have a6 : cn left.length (fun i => pb (fun i => ∀ y ∈ left.getD i [], D y.toNat) i && !on number i) = U := by
      rw [← hU]
      refine cn_congr fun i hi => ?_
      cases ho : on number i with
      | true => simp
      | false =>
        have : pb (fun i => ∀ y ∈ left.getD i [], D y.toNat) i = true := pb_iff.2 (h.dead i hi hi (by omega) (by simpa [on] using ho))
        rw [this]; rfl
    have a7 : cn left.length (fun i => pb (fun i => ∀ y ∈ left.getD i [], D y.toNat) i && !on nw i) ≤ Uw + 1 := by
      rw [← uw]
      refine cn_le fun i hi hp => ?_
      simp only [Bool.and_eq_true] at hp
      exact hp.2
    have b0 : ∀ x, x < R → Dw x → ow.getD x 0 ≠ w := fun x hx hD e => by
      have h0 := (hW.cl x hx hD).1
      have := hW.ok.bwd x hx h0
      rw [e, Int.toNat_natCast, hnw] at this; omega
    let Tw : Nat → Prop := fun i => i ≠ w ∧ ∀ y ∈ left.getD i [], Dw y.toNat
    have b1 := on_ge hW.ok (T := pb Tw) (D := pb Dw) (fun x hx hD => by
      obtain ⟨c1, c2⟩ := hW.cl x hx (pb_iff.1 hD)
      have hne := b0 x hx (pb_iff.1 hD)
      exact ⟨c1, pb_iff.2 ⟨by omega, c2⟩⟩)
    have b2 := on_le h.ok (T := pb Tw) (D := pb Dw) (fun i hi hT y hy => pb_iff.2 ((pb_iff.1 hT).2 y hy))
    have b3 : cn R (fun x => pb Dw x && decide (0 ≤ owner.getD x 0) && pb Tw (owner.getD x 0).toNat) ≤ cn R (pb Dw) := cn_le fun i _ hi => by simp only [Bool.and_eq_true] at hi; exact hi.1.1
    have b4 := cn_split left.length (pb Tw) (on number)
    have b5 := cn_split left.length (pb Tw) (on nw)
    have b6 : cn left.length (fun i => pb Tw i && !on nw i) = Uw := by
      rw [← hUw]
      refine cn_congr fun i hi => ?_
      cases ho : on nw i with
      | true => simp
      | false =>
        by_cases hiw : i = w
        · have : pb Tw i = false := by
            cases hp : pb Tw i with
            | false => rfl
            | true => exact absurd hiw (pb_iff.1 hp).1
          rw [this]; simp [hiw]
        · have : pb Tw i = true := pb_iff.2 ⟨hiw, hW.dead i hi hi (by omega) (by simpa [on] using ho)⟩
          rw [this]; simp [hiw]
    have b7 : cn left.length (fun i => pb Tw i && !on number i) ≤ U := by
      rw [← hU]
      refine cn_le fun i hi hp => ?_
      simp only [Bool.and_eq_true] at hp
      exact hp.2
    by_cases hlt : Uw < U
    · omega
    · exfalso
      -- all that is left over lies in Tw, and all numbers of Dw belong to Tw
      have c1 := cn_split left.length (fun i => !on number i) (pb Tw)
      have c2 : cn left.length (fun i => !on number i && pb Tw i) = cn left.length (fun i => pb Tw i && !on number i) := cn_congr fun i _ => Bool.and_comm _ _
      have c3 : cn left.length (fun i => !on number i && !pb Tw i) = 0 := by omega
      have c4 := cn_split R (pb Dw) (fun x => decide (0 ≤ owner.getD x 0) && pb Tw (owner.getD x 0).toNat)
      have c5 : cn R (fun x => pb Dw x && (decide (0 ≤ owner.getD x 0) && pb Tw (owner.getD x 0).toNat)) = cn R (fun x => pb Dw x && decide (0 ≤ owner.getD x 0) && pb Tw (owner.getD x 0).toNat) := cn_congr fun i _ => (Bool.and_assoc _ _ _).symm
      have c6 : cn R (fun x => pb Dw x && !(decide (0 ≤ owner.getD x 0) && pb Tw (owner.getD x 0).toNat)) = 0 := by omega
      have c7 := cn_none c3
      have c8 := cn_none c6
      obtain ⟨d, _⟩ := hr.g4 Tw (fun x => x < R ∧ Dw x) (fun x hx h0 => by
        have := c8 x hx.1
        rw [pb_iff.2 hx.2] at this
        simp only [Bool.true_and, Bool.not_eq_false', Bool.and_eq_true] at this
        exact pb_iff.1 this.2) (fun i hi y hy => ⟨by have := (hL.get i).2 y hy; omega, hi.2 y hy⟩) (fun i hi h0 => by
        have := c7 i hi
        rw [h0] at this
        simp only [Bool.not_false, Bool.true_and, Bool.not_eq_false'] at this
        exact pb_iff.1 this)
      exact (d w hin).1 rfl
end

theorem markRow_get : ∀ (l : List Int) (inn : List Bool) (x : Nat), (∀ y ∈ l, 0 ≤ y ∧ y.toNat < inn.length) → ((markRow l inn).getD x false = true ↔ inn.getD x false = true ∨ (x : Int) ∈ l)
  | [], inn, x, _ => by simp [markRow]
  | y :: r, inn, x, h => by
    have hy := h y (by simp)
    rw [markRow, markRow_get r _ x (fun z hz => by have := h z (by simp [hz]); simpa using this), gset _ _ _ _ _ hy.2, List.mem_cons]
    split
    · rename_i e
      have : (x : Int) = y := by omega
      simp [this]
    · rename_i e
      have : (x : Int) ≠ y := by omega
      simp [this]

theorem refL_main {left : List (List Int)} {R n : Nat} (hL : LeftOK R left) {inn : List Bool} (hi : inn.length = left.length) (hg : ∀ w, w < left.length → inn.getD w false = decide (size left R w = n)) : ∀ (c i : Nat) (g : List Int) (m : List Bool), i + c = left.length → m.length = R →
    (refL left R n c i g m).1 = g ++ whereL (inn.drop i) i ∧ (refL left R n c i g m).2.length = R ∧ ∀ x, (refL left R n c i g m).2.getD x false = true ↔ m.getD x false = true ∨ ∃ j, i ≤ j ∧ j < left.length ∧ inn.getD j false = true ∧ (x : Int) ∈ left.getD j []
  | 0, i, g, m, hc, hm => by
    rw [refL, List.drop_eq_nil_of_le (by omega), whereL, List.append_nil]
    refine ⟨rfl, hm, fun x => ?_⟩
    constructor
    · exact .inl
    · rintro (h | ⟨j, h1, h2, _⟩)
      · exact h
      · omega
  | c + 1, i, g, m, hc, hm => by
    have hgi := hg i (by omega)
    rw [refL, getD_drop0 inn i false (by omega), whereL]
    split
    · rename_i hs
      rw [decide_eq_true hs] at hgi
      obtain ⟨a, b, d⟩ := refL_main hL hi hg c (i + 1) (g ++ [(i : Int)]) (markRow (left.getD i []) m) (by omega) (by rw [markRow_len]; exact hm)
      rw [if_pos hgi]
      refine ⟨by rw [a]; simp, b, fun x => ?_⟩
      rw [d x, markRow_get _ _ _ (fun y hy => by have := (hL.get i).2 y hy; omega)]
      constructor
      · rintro ((h | h) | ⟨j, h1, h2, h3, h4⟩)
        · exact .inl h
        · exact .inr ⟨i, Nat.le_refl _, by omega, hgi, h⟩
        · exact .inr ⟨j, by omega, h2, h3, h4⟩
      · rintro (h | ⟨j, h1, h2, h3, h4⟩)
        · exact .inl (.inl h)
        · by_cases hji : j = i
          · subst hji; exact .inl (.inr h4)
          · exact .inr ⟨j, by omega, h2, h3, h4⟩
    · rename_i hs
      rw [decide_eq_false hs] at hgi
      obtain ⟨a, b, d⟩ := refL_main hL hi hg c (i + 1) g m (by omega) hm
      rw [if_neg (by simp_all)]
      refine ⟨a, b, fun x => ?_⟩
      rw [d x]
      constructor
      · rintro (h | ⟨j, h1, h2, h3, h4⟩)
        · exact .inl h
        · exact .inr ⟨j, by omega, h2, h3, h4⟩
      · rintro (h | ⟨j, h1, h2, h3, h4⟩)
        · exact .inl h
        · by_cases hji : j = i
          · subst hji; rw [hgi] at h3; simp at h3
          · exact .inr ⟨j, by omega, h2, h3, h4⟩

theorem ext_getD {a b : List Bool} (hl : a.length = b.length) (h : ∀ x, a.getD x false = true ↔ b.getD x false = true) : a = b := by
  refine List.ext_getElem hl fun i h1 h2 => ?_
  have := h i
  rw [List.getD_eq_getElem?_getD, List.getElem?_eq_getElem h1, List.getD_eq_getElem?_getD, List.getElem?_eq_getElem h2] at this
  simp only [Option.getD_some] at this
  cases ha : a[i] <;> cases hb : b[i] <;> simp_all

theorem defR_refR {left : List (List Int)} {R : Nat} (hL : LeftOK R left) : defR left R = refR left R := by
  obtain ⟨⟨D, h⟩, hs⟩ := matchW_main hL (-1)
  rw [matchW_none] at h hs
  have hr := reach hL h.ok _ rfl
  unfold defR refR
  dsimp only
  generalize bfs left (matchR left R).1 left.length (whereL (unm (matchR left R).2) 0) (List.replicate R false) (unm (matchR left R).2) = z at hr
  obtain ⟨a, b, c⟩ := refL_main (n := size left R (-1)) hL hr.li (fun w hw => hr.group hL h hs hw) left.length 0 [] (List.replicate R false) (by omega) (by simp)
  rw [List.drop_zero, List.nil_append] at a
  rw [a]
  have : z.1 = (refL left R (size left R (-1)) left.length 0 [] (List.replicate R false)).2 := by
    refine ext_getD (by rw [hr.lu, b]) fun x => ?_
    rw [c x, grep]
    constructor
    · intro hx
      right
      obtain ⟨_, e⟩ := hr.g4 (fun i => z.2.getD i false = true) (fun x => ∃ j, 0 ≤ j ∧ j < left.length ∧ z.2.getD j false = true ∧ (x : Int) ∈ left.getD j []) (fun x ⟨j, _, h1, h2, h3⟩ h0 => by
          have := hr.g2 j h1 h2 _ h3
          rw [Int.toNat_natCast] at this
          exact hr.g3 x this h0) (fun i hi y hy => by
          have hil : i < left.length := by
            rcases Nat.lt_or_ge i left.length with h' | h'
            · exact h'
            · rw [List.getD_eq_getElem?_getD, List.getElem?_eq_none h'] at hy; simp at hy
          have := (hL.get i).2 y hy
          exact ⟨i, Nat.zero_le _, hil, hi, by rw [Int.toNat_of_nonneg this.1]; exact hy⟩) (fun i hi h0 => hr.g1 i hi h0)
      exact e x hx
    · rintro (h | ⟨j, _, h1, h2, h3⟩)
      · simp at h
      · have := hr.g2 j h1 h2 _ h3
        rwa [Int.toNat_natCast] at this
  rw [this]

theorem defV_refV (left : List (List Int)) (right : Int) : defV left right = refV left right := by
  unfold defV refV
  split
  · rfl
  · rename_i h
    rw [defR_refR (check_left (by omega)).1]

/-- the theorem of Hall and König -/
theorem counts {left : List (List Int)} {R : Nat} (hL : LeftOK R left) : (matchR left R).2.length = left.length ∧ ((matchR left R).2.countP (fun x => decide (x < 0))) + (defR left R).2.length = (defR left R).1.length ∧ (0 < (matchR left R).2.countP (fun x => decide (x < 0)) ∨ (defR left R).1 = []) := by
  obtain ⟨⟨D, h⟩, hs⟩ := matchW_main hL (-1)
  rw [matchW_none] at h hs
  have hr := reach hL h.ok _ rfl
  have hc := hr.count hL h
  have hn := h.ok.hN
  have e : (matchR left R).2.countP (fun x => decide (x < 0)) = cn left.length (fun i => !on (matchR left R).2 i) := by
    rw [countP_cn _ 0, hn]
    refine cn_congr fun i hi => ?_
    rw [on]
    by_cases h : (matchR left R).2.getD i 0 < 0
    · rw [decide_eq_true h, decide_eq_false (by omega)]; rfl
    · rw [decide_eq_false h, decide_eq_true (by omega)]; rfl
  refine ⟨hn, ?_, ?_⟩
  · unfold defR
    dsimp only
    rw [whereL_len, whereL_len, hr.lu, hr.li, e]
    omega
  · by_cases h0 : cn left.length (fun i => !on (matchR left R).2 i) = 0
    · right
      have hno := hr.none (fun i hi => by have := cn_none h0 i hi; simpa using this)
      unfold defR
      dsimp only
      refine List.eq_nil_of_length_eq_zero ?_
      rw [whereL_len]
      exact cn_false fun i _ => hno i
    · left; omega
end T
