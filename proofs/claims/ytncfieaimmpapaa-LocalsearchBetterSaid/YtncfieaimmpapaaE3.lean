import Derived.Test.YtncfieaimmpapaaE2
import Derived.Test.YtncfieaimmpapaaD9
set_option linter.unusedVariables false
set_option linter.unusedSimpArgs false
open Go Go.Am Go.Proofs
open Nat (reduceEqDiff reduceAdd reduceLeDiff reduceMul)
open Int (reduceNeg reduceLE reduceToNat)
set_option maxRecDepth 20000
namespace T
structure EM (m : Mdl) (classes rooms : Nat) : Prop where
  vm : VM m
  few : m.cls.length ≤ classes
  some : ∀ l ∈ m.cls, 1 ≤ l.length ∧ l.length ≤ 2 * rooms + 1
  rul : m.rules = 2
  cts : m.cts.length ≤ 2 * rooms
def EOK (rooms : Nat) (l : List Opt) : Prop := ∀ o ∈ l, chL 2 none o.ch = true ∧ 0 ≤ o.day ∧ o.day ≤ 1
theorem EOK.app {rooms : Nat} {l : List Opt} (h : EOK rooms l) {o : Opt} (ho : chL 2 none o.ch = true ∧ 0 ≤ o.day ∧ o.day ≤ 1) : EOK rooms (l ++ [o]) := fun x hx => by
  rcases List.mem_append.1 hx with h' | h'
  · exact h x h'
  · rw [List.mem_singleton.1 h']; exact ho
end T

