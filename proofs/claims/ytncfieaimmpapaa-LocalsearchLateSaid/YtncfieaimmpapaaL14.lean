import Derived.Test.YtncfieaimmpapaaE4
import Derived.Test.YtncfieaimmpapaaC13
import Derived.Test.YtncfieaimmpapaaL7
import Derived.Test.YtncfieaimmpapaaL11
set_option linter.unusedVariables false
set_option linter.unusedSimpArgs false
open Go Go.Am Go.Proofs
open Nat (reduceEqDiff reduceAdd reduceLeDiff reduceMul)
open Int (reduceNeg reduceLE reduceToNat)
set_option maxRecDepth 20000
namespace T
theorem planF_len {L : List Int} {b : Bool} : ∀ (r : List (List Opt)) (k : Nat) (acc : List Int), (planF L b r k acc).1.length = acc.length + r.length
  | [], k, acc => by simp [planF]
  | l :: r, k, acc => by rw [planF, planF_len r]; simp; omega
end T

