import Derived.Test.YtncfieaimmpapaaCS4
set_option linter.unusedVariables false
set_option linter.unusedSimpArgs false
open Go Go.Am
namespace T
def kpt (keep : List Bool) (r : Int) : Bool := keep.getD r.toNat false
def Cut (keep : List Bool) (a b : List Int) : Prop := b.length = a.length ∧ ∀ i : Nat, b.getD i 0 = if kpt keep i = true then a.getD i 0 else 0
theorem Cut.add {keep : List Bool} {a b : List Int} (h : Cut keep a b) {r c : Int} (hr : 0 ≤ r) : Cut keep (addAt a r c) (if kpt keep r = true then addAt b r c else b) := by
  have hrr : ((r.toNat : Nat) : Int) = r := Int.toNat_of_nonneg hr
  refine ⟨by split <;> simp only [addAt, List.length_set] <;> exact h.1, fun i => ?_⟩
  have hi := h.2 i
  have hr' := h.2 r.toNat
  rw [hrr] at hr'
  by_cases hk : kpt keep r = true
  · rw [if_pos hk]
    rw [if_pos hk] at hr'
    rw [addAt, addAt, getD_setI, getD_setI, hr', h.1]
    by_cases hi2 : r.toNat = i ∧ i < a.length
    · rw [if_pos hi2, if_pos hi2, if_pos]
      rw [← hi2.1, hrr]; exact hk
    · rw [if_neg hi2, if_neg hi2]; exact hi
  · rw [if_neg hk, addAt, getD_setI]
    by_cases hi2 : r.toNat = i ∧ i < a.length
    · rw [if_pos hi2]
      rw [← hi2.1, hrr, if_neg hk] at hi
      rw [← hi2.1, hrr, if_neg hk]; exact hi
    · rw [if_neg hi2]; exact hi
end T

