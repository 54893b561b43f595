import Derived.Test.YtncfieaimmpapaaL5
set_option linter.unusedVariables false
set_option linter.unusedSimpArgs false
open Go Go.Am
namespace T
theorem scLess_iff {s t : SC} : scLess s t = true ↔ s.1 < t.1 ∨ s.1 = t.1 ∧ s.2 < t.2 := by unfold scLess; rw [decide_eq_true_eq]
theorem scLess_irr (s : SC) : scLess s s = false := by
  cases h : scLess s s with
  | false => rfl
  | true => rw [scLess_iff] at h; omega
structure BG (m : Mdl) (p : List Int) (z : BS) : Prop where
  no : z.2.2 = false → z.1 = scV m p
  yes : z.2.2 = true → scLess z.1 (scV m p) = true ∧ z.1 = scV m (p.set z.2.1.1.toNat z.2.1.2)
end T

