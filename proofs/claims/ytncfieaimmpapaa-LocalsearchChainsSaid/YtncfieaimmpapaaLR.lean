import Derived.Test.YtncfieaimmpapaaLS
import Derived.Test.YtncfieaimmpapaaCS3
set_option linter.unusedVariables false
set_option linter.unusedSimpArgs false
open Go Go.Am
namespace T
def cplL (m : Mdl) : Nat → List Int → Bool
  | _, [] => true
  | i, o :: r => optB m i o && cplL m (i + 1) r
theorem cplL_eq {m : Mdl} : ∀ (plan : List Int) (i : Nat), cplL m i plan = (planL m i plan && !plan.contains (-1))
  | [], _ => rfl
  | o :: r, i => by
    rw [cplL, planL, cplL_eq r (i + 1), List.contains_cons]
    by_cases h : o = -1
    · subst h
      have : optB m i (-1) = false := by
        cases hb : optB m i (-1) with
        | false => rfl
        | true => have := optB_iff.1 hb; omega
      simp [this]
    · have h2 : ((-1 : Int) == o) = false := by simpa using fun e => h e.symm
      rw [h2, decide_eq_false h, Bool.false_or, Bool.false_or]
      cases optB m i o <;> simp
theorem comV_eq (m : Mdl) (plan : List Int) : comV m plan = if validV m ≠ 0 then validV m else if plan.length ≠ m.cls.length then 17 else if cplL m 0 plan = false then 17 else 0 := by
  unfold comV plannedV
  split
  · rfl
  · by_cases h : plan.length ≠ m.cls.length
    · simp [h]
    · rw [if_neg h, if_neg h, cplL_eq]
      cases planL m 0 plan <;> cases plan.contains (-1) <;> rfl
end T

