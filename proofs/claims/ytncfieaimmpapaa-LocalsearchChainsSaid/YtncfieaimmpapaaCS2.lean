import Derived.Test.YtncfieaimmpapaaCS
set_option linter.unusedVariables false
set_option linter.unusedSimpArgs false
open Go Go.Am
namespace T
def addAt (out : List Int) (r c : Int) : List Int := out.set r.toNat (addC (out.getD r.toNat 0) c)
def entryV (m : Mdl) (p : Pr) (x y : Int) : Int := p.tab.getD (x * (m.cls.getD p.snd.toNat default).length + y).toNat 0
def loadS (plan : List Int) : List Ld → Int → Int
  | [], n => n
  | x :: r, n => loadS plan r (if plan.getD x.cls.toNat 0 = x.opt then n + x.wt else n)
def In41 (x : Int) : Prop := 0 ≤ x ∧ x ≤ 1099511627776
theorem addC_in {a b : Int} (ha : In41 a) (hb : In41 b) : In41 (addC a b) := by unfold In41 addC at *; omega
def OutOK (R : Int) (out : List Int) : Prop := (out.length : Int) = R ∧ ∀ x ∈ out, In41 x
theorem OutOK.get {R : Int} {out : List Int} (h : OutOK R out) (i : Nat) : In41 (out.getD i 0) := by
  rcases Nat.lt_or_ge i out.length with hi | hi
  · exact h.2 _ (getD_mem hi)
  · rw [List.getD_eq_getElem?_getD, List.getElem?_eq_none hi]; unfold In41; decide
theorem OutOK.add {R : Int} {out : List Int} (h : OutOK R out) {r c : Int} (hc : In41 c) : OutOK R (addAt out r c) :=
  ⟨by rw [addAt, List.length_set]; exact h.1, fun x hx => by
    rcases List.mem_or_eq_of_mem_set hx with h' | h'
    · exact h.2 x h'
    · rw [h']; exact addC_in (h.get _) hc⟩
structure VM (m : Mdl) : Prop where
  cls : m.cls.length ≤ 24
  opt : ∀ l ∈ m.cls, l.length ≤ 24
  prs : m.prs.length ≤ 4000
  cts : m.cts.length ≤ 800
  rul : 0 ≤ m.rules ∧ m.rules ≤ 56
  chs : ∀ l ∈ m.cls, ∀ o ∈ l, chL m.rules none o.ch = true
  pr : prsL m none m.prs = true
  ct : ∀ c ∈ m.cts, ctB m c = true
theorem valid_iff {m : Mdl} : validV m = 0 ↔ VM m := by
  unfold validV
  constructor
  · intro h
    split at h
    · omega
    split at h
    · omega
    split at h
    · omega
    split at h
    · omega
    rename_i h1 h2 h3 h4
    have h1' : largeB m = false := by simpa using h1
    rw [largeB, decide_eq_false_iff_not] at h1'
    have h5 : ∀ l ∈ m.cls, l.length ≤ 24 := fun l hl => by
      rcases Nat.lt_or_ge 24 l.length with h | h
      · exact absurd (.inr (.inl (List.any_eq_true.2 ⟨l, hl, by simpa using h⟩))) h1'
      · exact h
    refine ⟨by omega, h5, by omega, by omega, by omega, fun l hl o ho => ?_, by simpa using h3, fun c hc => ?_⟩
    · cases hh : chL m.rules none o.ch with
      | true => rfl
      | false => exact absurd (List.any_eq_true.2 ⟨l, hl, List.any_eq_true.2 ⟨o, ho, by rw [hh]; rfl⟩⟩) h2
    · cases hh : ctB m c with
      | true => rfl
      | false => exact absurd (List.any_eq_true.2 ⟨c, hc, by rw [hh]; rfl⟩) h4
  · intro h
    have h0 : largeB m = false := by
      rw [largeB, decide_eq_false_iff_not]
      rintro (h' | h' | h' | h' | h' | h')
      · have := h.cls; omega
      · obtain ⟨l, hl, h''⟩ := List.any_eq_true.1 h'
        have := h.opt l hl
        simp only [decide_eq_true_eq] at h''; omega
      · have := h.prs; omega
      · have := h.cts; omega
      · have := h.rul; omega
      · have := h.rul; omega
    rw [if_neg (by rw [h0]; simp), if_neg, if_neg (by rw [h.pr]; simp), if_neg]
    · intro hh
      obtain ⟨c, hc, h'⟩ := List.any_eq_true.1 hh
      rw [h.ct c hc] at h'; simp at h'
    · intro hh
      obtain ⟨l, hl, h'⟩ := List.any_eq_true.1 hh
      obtain ⟨o, ho, h''⟩ := List.any_eq_true.1 h'
      rw [h.chs l hl o ho] at h''; simp at h''
theorem chL_mem {R : Int} : ∀ {l : List (Int × Int)} {q : Option (Int × Int)}, chL R q l = true → ∀ c ∈ l, ruleB R c.1 = true ∧ priceB c.2 = true
  | [], _, _, c, hc => by simp at hc
  | x :: r, q, h, c, hc => by
    rw [chL.eq_def] at h
    simp only [Bool.and_eq_true] at h
    rcases List.mem_cons.1 hc with rfl | hc
    · exact h.1.1
    · exact chL_mem h.2 c hc
theorem chL_len {R : Int} : ∀ {l : List (Int × Int)} {q : Int × Int}, chL R (some q) l = true → l = [] ∨ q.1 + l.length < R
  | [], _, _ => .inl rfl
  | x :: r, q, h => by
    right
    rw [chL] at h
    simp only [Bool.and_eq_true, decide_eq_true_eq, ruleB] at h
    rcases chL_len h.2 with rfl | h5
    · simp only [List.length_cons, List.length_nil]; omega
    · simp only [List.length_cons]; omega
theorem chL_len0 {R : Int} {l : List (Int × Int)} (hR : 0 ≤ R) (h : chL R none l = true) : (l.length : Int) ≤ R := by
  cases l with
  | nil => simpa using hR
  | cons x r =>
    rw [chL] at h
    simp only [Bool.and_eq_true, decide_eq_true_eq, ruleB] at h
    rcases chL_len h.2 with rfl | h5
    · simp only [List.length_cons, List.length_nil]; omega
    · simp only [List.length_cons]; omega
theorem prsL_mem {m : Mdl} : ∀ {l : List Pr} {q : Option Pr}, prsL m q l = true → ∀ p ∈ l, pairB m p = true
  | [], _, _, c, hc => by simp at hc
  | x :: r, q, h, c, hc => by
    rw [prsL.eq_def] at h
    simp only [Bool.and_eq_true] at h
    rcases List.mem_cons.1 hc with rfl | hc
    · exact h.1.1
    · exact prsL_mem h.2 c hc
theorem optB_iff {m : Mdl} {c o : Int} : optB m c o = true ↔ 0 ≤ c ∧ c < m.cls.length ∧ 0 ≤ o ∧ o < (m.cls.getD c.toNat default).length := by rw [optB, decide_eq_true_eq]
theorem optB_24 {m : Mdl} (h : VM m) {c o : Int} (hb : optB m c o = true) : 0 ≤ c ∧ c < 24 ∧ 0 ≤ o ∧ o < 24 := by
  obtain ⟨h1, h2, h3, h4⟩ := optB_iff.1 hb
  have := h.cls
  have := h.opt _ (getD_mem (l := m.cls) (i := c.toNat) (d := default) (by omega))
  omega
theorem cmp3_cases (a b : Int) : (a < b ∧ cmp3 a b = -1) ∨ (a = b ∧ cmp3 a b = 0) ∨ (b < a ∧ cmp3 a b = 1) := by
  unfold cmp3
  rcases Int.lt_trichotomy a b with h | h | h
  · left; exact ⟨h, by rw [if_pos h]⟩
  · right; left; exact ⟨h, by rw [if_neg (by omega), if_neg (by omega)]⟩
  · right; right; exact ⟨h, by rw [if_neg (by omega), if_pos h]⟩
theorem ldOrd_lt {a b : Ld} : ldOrd a b < 0 ↔ a.cls < b.cls ∨ (a.cls = b.cls ∧ a.opt < b.opt) := by
  unfold ldOrd
  rcases cmp3_cases a.cls b.cls with ⟨h, e⟩ | ⟨h, e⟩ | ⟨h, e⟩ <;> rcases cmp3_cases a.opt b.opt with ⟨h', e'⟩ | ⟨h', e'⟩ | ⟨h', e'⟩ <;> simp [orL, e, e'] <;> omega
theorem ordV_lt {a b : Pr} : ordV a b < 0 ↔ a.rule < b.rule ∨ (a.rule = b.rule ∧ (a.fst < b.fst ∨ (a.fst = b.fst ∧ a.snd < b.snd))) := by
  unfold ordV
  rcases cmp3_cases a.rule b.rule with ⟨h, e⟩ | ⟨h, e⟩ | ⟨h, e⟩ <;> rcases cmp3_cases a.fst b.fst with ⟨h', e'⟩ | ⟨h', e'⟩ | ⟨h', e'⟩ <;> rcases cmp3_cases a.snd b.snd with ⟨h2, e2⟩ | ⟨h2, e2⟩ | ⟨h2, e2⟩ <;> simp [orL, e, e', e2] <;> omega
theorem ldL_len {m : Mdl} (hm : VM m) : ∀ {l : List Ld} {q : Ld}, ldL m (some q) l = true → 0 ≤ q.cls ∧ 0 ≤ q.opt ∧ q.opt < 24 → l = [] ∨ q.cls * 24 + q.opt + l.length < 576
  | [], _, _, _ => .inl rfl
  | x :: r, q, h, hq => by
    right
    rw [ldL] at h
    simp only [Bool.and_eq_true, decide_eq_true_eq] at h
    obtain ⟨⟨⟨h1, h2⟩, h3⟩, h4⟩ := h
    obtain ⟨a, b, c, d⟩ := optB_24 hm h1
    have hlt : q.cls * 24 + q.opt < x.cls * 24 + x.opt := by
      rcases ldOrd_lt.1 h3 with h | h <;> omega
    rcases ldL_len hm h4 ⟨a, c, d⟩ with rfl | h5
    · simp only [List.length_cons, List.length_nil]; omega
    · simp only [List.length_cons]; omega
theorem ldL_len0 {m : Mdl} (hm : VM m) {l : List Ld} (h : ldL m none l = true) : l.length ≤ 576 := by
  cases l with
  | nil => simp
  | cons x r =>
    rw [ldL] at h
    simp only [Bool.and_eq_true, decide_eq_true_eq] at h
    obtain ⟨a, b, c, d⟩ := optB_24 hm h.1.1.1
    rcases ldL_len hm h.2 ⟨a, c, d⟩ with rfl | h5
    · simp
    · simp only [List.length_cons]; omega
theorem ldL_mem {m : Mdl} : ∀ {l : List Ld} {q : Option Ld}, ldL m q l = true → ∀ x ∈ l, optB m x.cls x.opt = true ∧ 1 ≤ x.wt ∧ x.wt ≤ 1000
  | [], _, _, c, hc => by simp at hc
  | x :: r, q, h, c, hc => by
    rw [ldL.eq_def] at h
    simp only [Bool.and_eq_true, decide_eq_true_eq] at h
    rcases List.mem_cons.1 hc with rfl | hc
    · exact ⟨h.1.1.1, h.1.1.2⟩
    · exact ldL_mem h.2 c hc
theorem loadS_range {m : Mdl} {plan : List Int} : ∀ {l : List Ld}, (∀ x ∈ l, 1 ≤ x.wt ∧ x.wt ≤ 1000) → ∀ n, n ≤ loadS plan l n ∧ loadS plan l n ≤ n + 1000 * l.length
  | [], _, n => by simp [loadS]
  | x :: r, h, n => by
    have hx := h x (by simp)
    rw [loadS]
    have := loadS_range (m := m) (plan := plan) (l := r) (fun y hy => h y (by simp [hy])) (if plan.getD x.cls.toNat 0 = x.opt then n + x.wt else n)
    simp only [List.length_cons]
    split at this <;> split <;> simp_all <;> omega
theorem planL_get {m : Mdl} : ∀ {plan : List Int} {i : Nat}, planL m i plan = true → ∀ j, j < plan.length → plan.getD j 0 = -1 ∨ optB m ((i + j : Nat) : Int) (plan.getD j 0) = true
  | [], _, _, j, hj => by simp at hj
  | o :: r, i, h, j, hj => by
    rw [planL] at h
    simp only [Bool.and_eq_true, Bool.or_eq_true, decide_eq_true_eq] at h
    cases j with
    | zero => rw [List.getD_cons_zero]; exact h.1
    | succ j =>
      rw [List.getD_cons_succ]
      have := planL_get h.2 j (by simpa using hj)
      rwa [show i + 1 + j = i + (j + 1) by omega] at this
structure PM (m : Mdl) (plan : List Int) : Prop where
  len : plan.length = m.cls.length
  get : ∀ j, j < plan.length → plan.getD j 0 = -1 ∨ optB m (j : Nat) (plan.getD j 0) = true
theorem planned_pm {m : Mdl} {plan : List Int} (h : plannedV m plan = true) : PM m plan := by
  unfold plannedV at h
  split at h
  · simp at h
  · refine ⟨by omega, fun j hj => ?_⟩
    have := planL_get h j hj
    rwa [Nat.zero_add] at this
theorem pairB_iff {m : Mdl} {p : Pr} (h : pairB m p = true) : (0 ≤ p.rule ∧ p.rule < m.rules) ∧ 0 ≤ p.fst ∧ p.fst < p.snd ∧ p.snd < m.cls.length ∧ (p.tab.length : Int) = (m.cls.getD p.fst.toNat default).length * (m.cls.getD p.snd.toNat default).length := by
  unfold pairB ruleB at h
  simp only [Bool.and_eq_true, decide_eq_true_eq] at h
  exact ⟨h.1.1, h.1.2⟩
theorem entry_idx {x y a b : Int} (hx : 0 ≤ x ∧ x < a) (hy : 0 ≤ y ∧ y < b) (ha : a ≤ 24) (hb : b ≤ 24) : 0 ≤ x * b ∧ x * b ≤ 576 ∧ x * b + y < a * b := by
  have h1 : 0 ≤ x * b := Int.mul_nonneg hx.1 (by omega)
  have h2 : x * b ≤ (a - 1) * b := Int.mul_le_mul_of_nonneg_right (by omega) (by omega)
  have h3 : (a - 1) * b = a * b - b := by rw [Int.sub_mul, Int.one_mul]
  have h4 : a * b ≤ 24 * 24 := Int.mul_le_mul ha hb (by omega) (by omega)
  omega
theorem ctB_iff {m : Mdl} {c : Ct} (h : ctB m c = true) : (0 ≤ c.rule ∧ c.rule < m.rules) ∧ (0 ≤ c.most ∧ c.most ≤ 1048576) ∧ priceB c.pen = true ∧ ldL m none c.loads = true := by
  unfold ctB ruleB at h
  simp only [Bool.and_eq_true, decide_eq_true_eq] at h
  exact ⟨h.1.1.1, h.1.1.2, h.1.2, h.2⟩
end T

