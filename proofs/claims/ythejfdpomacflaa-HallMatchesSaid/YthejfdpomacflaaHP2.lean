import Derived.Test.YthejfdpomacflaaHP1
open Go Go.Am Go.Proofs
set_option linter.unusedSimpArgs false
set_option linter.unusedVariables false
namespace T

/-! ### counting below n -/
def cn (n : Nat) (p : Nat → Bool) : Nat := (List.range n).countP p
theorem cn_zero (p : Nat → Bool) : cn 0 p = 0 := rfl
theorem cn_succ (n : Nat) (p : Nat → Bool) : cn (n + 1) p = cn n p + (if p n = true then 1 else 0) := by
  simp only [cn, List.range_succ, List.countP_append, List.countP_cons, List.countP_nil, Nat.zero_add]
theorem cn_congr {n : Nat} {p q : Nat → Bool} (h : ∀ i, i < n → p i = q i) : cn n p = cn n q := by
  induction n with
  | zero => rfl
  | succ n ih => rw [cn_succ, cn_succ, ih fun i hi => h i (by omega), h n (by omega)]
theorem cn_le {n : Nat} {p q : Nat → Bool} (h : ∀ i, i < n → p i = true → q i = true) : cn n p ≤ cn n q := by
  induction n with
  | zero => exact Nat.le_refl _
  | succ n ih =>
    rw [cn_succ, cn_succ]
    have := ih fun i hi => h i (by omega)
    have := h n (by omega)
    split <;> split <;> simp_all <;> omega
theorem cn_split (n : Nat) (p q : Nat → Bool) : cn n p = cn n (fun i => p i && q i) + cn n (fun i => p i && !q i) := by
  induction n with
  | zero => rfl
  | succ n ih =>
    rw [cn_succ, cn_succ, cn_succ, ih]
    cases p n <;> cases q n <;> simp <;> omega
theorem cn_none {n : Nat} {p : Nat → Bool} (h : cn n p = 0) : ∀ i, i < n → p i = false := by
  induction n with
  | zero => intro i hi; omega
  | succ n ih =>
    rw [cn_succ] at h
    intro i hi
    rcases Nat.lt_succ_iff_lt_or_eq.1 hi with hi | rfl
    · exact ih (by omega) i hi
    · cases hp : p i with
      | false => rfl
      | true => rw [hp] at h; simp at h
theorem cn_false {n : Nat} {p : Nat → Bool} (h : ∀ i, i < n → p i = false) : cn n p = 0 := by
  induction n with
  | zero => rfl
  | succ n ih => rw [cn_succ, ih fun i hi => h i (by omega), h n (by omega)]; rfl
theorem cn_all (n : Nat) : cn n (fun _ => true) = n := by
  induction n with
  | zero => rfl
  | succ n ih => rw [cn_succ, ih]; rfl
theorem cn_not (n : Nat) (p : Nat → Bool) : cn n p + cn n (fun i => !p i) = n := by
  induction n with
  | zero => rfl
  | succ n ih => rw [cn_succ, cn_succ]; cases p n <;> simp <;> omega
theorem cn_one {n : Nat} {p q : Nat → Bool} (k : Nat) (hk : k < n) (h : ∀ i, i < n → i ≠ k → p i = q i) (hp : p k = true) (hq : q k = false) : cn n p = cn n q + 1 := by
  induction n with
  | zero => omega
  | succ n ih =>
    rw [cn_succ, cn_succ]
    by_cases hkn : k = n
    · subst hkn
      rw [cn_congr (p := p) (q := q) fun i hi => h i (by omega) (by omega), hp, hq]; rfl
    · rw [ih (by omega) fun i hi => h i (by omega), h n (by omega) (Ne.symm hkn)]; omega
theorem cn_inj {n m : Nat} {p q : Nat → Bool} (f : Nat → Nat) (h1 : ∀ i, i < n → p i = true → f i < m ∧ q (f i) = true) (h2 : ∀ i j, i < n → j < n → p i = true → p j = true → f i = f j → i = j) : cn n p ≤ cn m q := by
  induction n generalizing q with
  | zero => simp [cn_zero]
  | succ n ih =>
    rw [cn_succ]
    split
    · rename_i hp
      obtain ⟨a, b⟩ := h1 n (by omega) hp
      have e := cn_one (n := m) (p := q) (q := fun x => q x && !decide (x = f n)) (f n) a (fun i _ hi => by simp [hi]) b (by simp)
      have := ih (q := fun x => q x && !decide (x = f n)) (fun i hi hpi => by
        obtain ⟨c, d⟩ := h1 i (by omega) hpi
        refine ⟨c, ?_⟩
        have : f i ≠ f n := fun e => by have := h2 i n (by omega) (by omega) hpi hp e; omega
        simp [d, this]) (fun i j hi hj => h2 i j (by omega) (by omega))
      omega
    · exact ih (fun i hi => h1 i (by omega)) (fun i j hi hj => h2 i j (by omega) (by omega))

/-! ### the greatest matching of all lists but one -/
def matchG (left : List (List Int)) (R : Nat) (w : Int) : Nat → Nat → List Int → List Int → List Int × List Int
  | 0, _, owner, number => (owner, number)
  | c + 1, i, owner, number =>
    if (i : Int) = w then matchG left R w c (i + 1) owner number
    else
      let q := augN left R (left.getD i []) i (List.replicate R false) owner number
      matchG left R w c (i + 1) q.2.2.1 q.2.2.2

def on (number : List Int) (i : Nat) : Bool := decide (0 ≤ number.getD i 0)

structure Inv (left : List (List Int)) (R : Nat) (w : Int) (i : Nat) (owner number : List Int) (D : Nat → Prop) : Prop where
  ok : MOK left R owner number
  rest : ∀ j, j < left.length → (i ≤ j ∨ (j : Int) = w) → number.getD j 0 = -1
  cl : Closed left R D owner
  dead : ∀ j, j < i → j < left.length → (j : Int) ≠ w → number.getD j 0 < 0 → ∀ y ∈ left.getD j [], D y.toNat

theorem Inv.step {left : List (List Int)} {R : Nat} (hL : LeftOK R left) {w : Int} {i : Nat} {owner number : List Int} {D : Nat → Prop} (h : Inv left R w i owner number D) (hi : i < left.length) (hw : (i : Int) ≠ w) :
    ∀ q, augN left R (left.getD i []) i (List.replicate R false) owner number = q → (∃ D', Inv left R w (i + 1) q.2.2.1 q.2.2.2 D') ∧ cn left.length (on q.2.2.2) = cn left.length (on number) + (if q.1 = true then 1 else 0) := by
  intro q hq
  have hni := h.rest i hi (.inl (Nat.le_refl _))
  have h3 : ∀ x, x < R → owner.getD x 0 = i → (List.replicate R false).getD x false = true := by
    intro x hx he
    have := h.ok.bwd x hx (by omega)
    rw [he, Int.toNat_natCast, hni] at this
    omega
  obtain ⟨a, b, c, d, e⟩ := augN_main hL R (left.getD i []) i (List.replicate R false) owner number (by rw [cnt_rep]; exact Nat.le_refl _) (by simp) (hL.get _).2 hi h.ok h3 q hq
  obtain ⟨_, g⟩ := augN_closed hL (D := D) R (left.getD i []) i (List.replicate R false) owner number (hL.get _).2 h.cl
  rw [hq] at g
  have hcl : Closed left R D q.2.2.1 := by
    intro y hy hD
    rw [g y hy hD]
    exact h.cl y hy hD
  cases hb : q.1 with
  | true =>
    have hE := a hb
    obtain ⟨y, y1, y2, y3, y4, y5, y6⟩ := hE.me
    refine ⟨⟨D, ⟨hE.hO, hE.hN, hE.rng, ?_, ?_⟩, ?_, hcl, ?_⟩, ?_⟩
    · intro j hj h0
      by_cases hji : j = i
      · subst hji
        rw [y2, Int.toNat_natCast]
        exact ⟨by omega, y3, y4⟩
      · exact hE.fwd j hj hji h0
    · intro x hx h0
      by_cases hxi : q.2.2.1.getD x 0 = i
      · rcases y6 x hx hxi with rfl | h'
        · rw [hxi, Int.toNat_natCast, y2]
        · rw [grep] at h'; simp at h'
      · exact hE.bwd x hx h0 hxi
    · intro j hj hor
      have hji : j ≠ i := by rcases hor with h | h <;> omega
      have hr := h.rest j hj (by rcases hor with h | h <;> omega)
      have := hE.pos j hj hji
      have := hE.rng j hj
      omega
    · intro j hj hjl hjw h0 z hz
      have hji : j ≠ i := by intro e; subst e; omega
      have := hE.pos j hjl hji
      exact h.dead j (by omega) hjl hjw (by omega) z hz
    · rw [if_pos rfl]
      refine cn_one i hi (fun j hj hji => ?_) ?_ ?_
      · have := hE.pos j hj hji
        simp only [on, this]
      · rw [on, y2]; exact decide_eq_true (by omega)
      · simp only [on, hni]; rfl
  | false =>
    have hF := b hb
    rw [hF.eo, hF.en]
    refine ⟨⟨fun x => D x ∨ q.2.1.getD x false = true, h.ok, fun j hj hor => h.rest j hj (by rcases hor with h | h <;> omega), ?_, ?_⟩, by simp⟩
    · intro x hx hD
      rcases hD with hD | hD
      · obtain ⟨k, l⟩ := h.cl x hx hD
        exact ⟨k, fun y hy => .inl (l y hy)⟩
      · rcases hF.cl x hx hD with h' | ⟨k, l⟩
        · rw [grep] at h'; simp at h'
        · exact ⟨k, fun y hy => .inr (l y hy)⟩
    · intro j hj hjl hjw h0 z hz
      by_cases hji : j = i
      · subst hji; exact .inr (hF.all z hz)
      · exact .inl (h.dead j (by omega) hjl hjw h0 z hz)

theorem matchG_main {left : List (List Int)} {R : Nat} (hL : LeftOK R left) {w : Int} : ∀ (c i k : Nat) (owner number : List Int) (D : Nat → Prop), i + c = left.length → Inv left R w i owner number D →
    (∃ D', Inv left R w left.length (matchG left R w c i owner number).1 (matchG left R w c i owner number).2 D') ∧ sizeL left R w c i k owner + cn left.length (on number) = k + cn left.length (on (matchG left R w c i owner number).2)
  | 0, i, k, owner, number, D, hi, h => by
    rw [matchG, sizeL]
    obtain rfl : i = left.length := by omega
    exact ⟨⟨D, h⟩, rfl⟩
  | c + 1, i, k, owner, number, D, hi, h => by
    rw [matchG, sizeL]
    by_cases hw : (i : Int) = w
    · rw [if_pos hw, if_pos hw]
      exact matchG_main hL c (i + 1) k owner number D (by omega) { h with
        rest := fun j hj hor => h.rest j hj (by rcases hor with h | h <;> omega)
        dead := fun j hj hjl hjw h0 => h.dead j (by omega) hjl hjw h0 }
    · rw [if_neg hw, if_neg hw]
      obtain ⟨⟨D', hI⟩, hc⟩ := h.step hL (by omega) hw _ rfl
      obtain ⟨e1, e2, e3, e4⟩ := augN_augL left R (left.getD i []) i (List.replicate R false) owner number
      simp only
      rw [← e1, ← e3]
      obtain ⟨a, b⟩ := matchG_main hL c (i + 1) (if (augN left R (left.getD i []) i (List.replicate R false) owner number).1 = true then k + 1 else k) _ _ D' (by omega) hI
      refine ⟨a, ?_⟩
      split at hc <;> simp_all <;> omega

def matchW (left : List (List Int)) (R : Nat) (w : Int) : List Int × List Int := matchG left R w left.length 0 (List.replicate R (-1)) (List.replicate left.length (-1))

theorem matchW_main {left : List (List Int)} {R : Nat} (hL : LeftOK R left) (w : Int) : (∃ D, Inv left R w left.length (matchW left R w).1 (matchW left R w).2 D) ∧ size left R w = cn left.length (on (matchW left R w).2) := by
  have h0 : Inv left R w 0 (List.replicate R (-1)) (List.replicate left.length (-1)) (fun _ => False) := by
    refine ⟨⟨OwnOK.rep _ _, by simp, ?_, ?_, ?_⟩, ?_, ?_, ?_⟩
    · intro j hj; rw [grep' _ _ _ _ hj]; omega
    · intro j hj h; rw [grep' _ _ _ _ hj] at h; omega
    · intro j hj h; rw [grep' _ _ _ _ hj] at h; omega
    · intro j hj _; rw [grep' _ _ _ _ hj]
    · intro x _ h; exact h.elim
    · intro j hj; omega
  obtain ⟨a, b⟩ := matchG_main hL left.length 0 0 _ _ _ (by omega) h0
  refine ⟨a, ?_⟩
  have : cn left.length (on (List.replicate left.length (-1))) = 0 := cn_false fun i hi => by rw [on, grep' _ _ _ _ hi]; rfl
  rw [size]
  unfold matchW
  omega

theorem matchG_none (left : List (List Int)) (R : Nat) : ∀ (c i : Nat) (owner number : List Int), matchG left R (-1) c i owner number = matchL left R c i owner number
  | 0, i, owner, number => rfl
  | c + 1, i, owner, number => by
    rw [matchG, matchL, if_neg (by omega)]
    exact matchG_none left R c (i + 1) _ _
theorem matchW_none (left : List (List Int)) (R : Nat) : matchW left R (-1) = matchR left R := matchG_none _ _ _ _ _ _
end T
