import Derived.Test.YtncfieaimmpapaaCS2
set_option linter.unusedVariables false
set_option linter.unusedSimpArgs false
open Go Go.Am
namespace T
abbrev SC := Int × Int
def eSc (s : SC) : List AV := [.lit (.int .i64 s.1), .lit (.int .i64 s.2)]
def scAdd (s : SC) (cost times : Int) : SC := if cost = 1099511627776 then (s.1 + times, s.2) else (s.1, s.2 + cost * times)
def scLess (s t : SC) : Bool := decide (s.1 < t.1 ∨ s.1 = t.1 ∧ s.2 < t.2)
def scCh : List (Int × Int) → SC → SC
  | [], s => s
  | c :: r, s => scCh r (scAdd s c.2 1)
def scPlan (m : Mdl) : Nat → List Int → SC → SC
  | _, [], s => s
  | i, o :: r, s => scPlan m (i + 1) r (scCh ((m.cls.getD i default).getD o.toNat default).ch s)
def scPrs (m : Mdl) (plan : List Int) : List Pr → SC → SC
  | [], s => s
  | p :: r, s => scPrs m plan r (scAdd s (entryV m p (plan.getD p.fst.toNat 0) (plan.getD p.snd.toNat 0)) 1)
def exV (plan : List Int) (c : Ct) : Int := max (loadS plan c.loads 0 - c.most) 0
def scCts (plan : List Int) : List Ct → SC → SC
  | [], s => s
  | c :: r, s => scCts plan r (scAdd s c.pen (exV plan c))
def scV (m : Mdl) (plan : List Int) : SC := scCts plan m.cts (scPrs m plan m.prs (scPlan m 0 plan (0, 0)))
def comV (m : Mdl) (plan : List Int) : Int := if validV m ≠ 0 then validV m else if (!plannedV m plan || plan.contains (-1)) = true then 17 else 0
structure FP (m : Mdl) (plan : List Int) : Prop where
  len : plan.length = m.cls.length
  get : ∀ j, j < plan.length → optB m (j : Nat) (plan.getD j 0) = true
theorem com_iff {m : Mdl} {plan : List Int} (h : comV m plan = 0) : VM m ∧ FP m plan := by
  unfold comV at h
  split at h
  · omega
  split at h
  · omega
  rename_i h1 h2
  have hv := valid_iff.1 (Decidable.not_not.1 h1)
  simp only [Bool.or_eq_true, Bool.not_eq_true', not_or, Bool.not_eq_false, Bool.not_eq_true] at h2
  have hp := planned_pm h2.1
  refine ⟨hv, hp.len, fun j hj => (hp.get j hj).resolve_left fun he => ?_⟩
  have hm := getD_mem (d := 0) hj
  rw [he] at hm
  have := List.contains_iff_mem.2 hm
  rw [this] at h2
  exact absurd h2.2 (by decide)
def SB (s : SC) (n : Nat) : Prop := 0 ≤ s.1 ∧ s.1 ≤ 1048576 * n ∧ 0 ≤ s.2 ∧ s.2 ≤ 1099511627776 * n
theorem SB.zero : SB (0, 0) 0 := by unfold SB; decide
theorem SB.mono {s : SC} {n k : Nat} (h : SB s n) (hk : n ≤ k) : SB s k := by unfold SB at *; omega
def CostB (c : Int) : Prop := 0 ≤ c ∧ c ≤ 1048576 ∨ c = 1099511627776
theorem price_cb {n : Int} (h : priceB n = true) : CostB n := by unfold priceB at h; rw [decide_eq_true_eq] at h; unfold CostB; omega
theorem cb_mul {c t : Int} (hc : 0 ≤ c ∧ c ≤ 1048576) (ht : 0 ≤ t ∧ t ≤ 1048576) : 0 ≤ c * t ∧ c * t ≤ 1099511627776 :=
  ⟨Int.mul_nonneg hc.1 ht.1, Int.le_trans (Int.mul_le_mul hc.2 ht.2 ht.1 (by omega)) (by decide)⟩
theorem SB.add {s : SC} {n : Nat} (h : SB s n) {c t : Int} (hc : CostB c) (ht : 0 ≤ t ∧ t ≤ 1048576) : SB (scAdd s c t) (n + 1) := by
  unfold SB scAdd at *
  split
  · dsimp only; omega
  · have := cb_mul (hc.resolve_right (by assumption)) ht
    dsimp only; omega
theorem entry_cb {m : Mdl} {p : Pr} (hp : pairB m p = true) (x y : Int) : CostB (entryV m p x y) := by
  unfold entryV
  rcases Nat.lt_or_ge (x * (m.cls.getD p.snd.toNat default).length + y).toNat p.tab.length with h | h
  · unfold pairB at hp
    simp only [Bool.and_eq_true, Bool.not_eq_true', List.any_eq_false] at hp
    have := hp.2 _ (getD_mem (d := 0) h)
    rw [badN] at this
    simp only [Bool.and_eq_true, Bool.not_eq_true', decide_eq_true_eq, not_and, Bool.not_eq_false] at this
    by_cases hz : p.tab.getD (x * (m.cls.getD p.snd.toNat default).length + y).toNat 0 = 0
    · rw [hz]; unfold CostB; omega
    · exact price_cb (this hz)
  · rw [List.getD_eq_getElem?_getD, List.getElem?_eq_none h]; unfold CostB; simp
end T

