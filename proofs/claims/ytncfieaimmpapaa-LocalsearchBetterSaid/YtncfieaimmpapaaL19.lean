import Derived.Test.YtncfieaimmpapaaL18
import Derived.Test.YtncfieaimmpapaaL10
set_option linter.unusedVariables false
set_option linter.unusedSimpArgs false
open Go Go.Am Go.Proofs
open Nat (reduceEqDiff reduceAdd reduceLeDiff reduceMul)
open Int (reduceNeg reduceLE reduceToNat)
set_option maxRecDepth 20000
namespace T
structure DnR (n : Nat) (dn : List Bool) (mv : List Int) : Prop where
  len : dn.length = n
  eq : ∀ y : Nat, y < n → dn.getD y false = mv.contains (y : Int)
theorem DnR.start {n k : Nat} (hk : k < n) : DnR n ((List.replicate n false).set k true) [(k : Int)] := by
  refine ⟨by simp, fun y hy => ?_⟩
  by_cases e : k = y
  · subst e
    rw [List.getD_eq_getElem?_getD, List.getElem?_set_self (by simpa using hk)]
    simp
  · rw [List.getD_eq_getElem?_getD, List.getElem?_set_ne e, List.getElem?_replicate]
    have : ¬ (y : Int) = k := by omega
    simp [hy, this]
theorem DnR.step {n : Nat} {dn : List Bool} {mv : List Int} (h : DnR n dn mv) {k : Nat} (hk : k < n) : DnR n (dn.set k true) (mv ++ [(k : Int)]) := by
  refine ⟨by simp [h.len], fun y hy => ?_⟩
  have hl := h.len
  by_cases e : k = y
  · subst e
    rw [List.getD_eq_getElem?_getD, List.getElem?_set_self (by omega)]
    simp
  · rw [List.getD_eq_getElem?_getD, List.getElem?_set_ne e, ← List.getD_eq_getElem?_getD, h.eq y hy]
    have : ¬ (y : Int) = k := by omega
    simp [this]
end T

