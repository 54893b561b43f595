import Derived.Test.YtncfieaimmpapaaL14
import Derived.Test.YtncfieaimmpapaaL19
set_option linter.unusedVariables false
set_option linter.unusedSimpArgs false
open Go Go.Am Go.Proofs
open Nat (reduceEqDiff reduceAdd reduceLeDiff reduceMul)
open Int (reduceNeg reduceLE reduceToNat)
set_option maxRecDepth 20000
namespace T
def eP2 (p : Int × Int) : List AV := [.lit (.int .i64 p.1), .lit (.int .i64 p.2)]
instance : Row eP2 2 := ⟨fun _ => rfl, fun x v hv => by
  simp only [eP2, List.mem_cons, List.not_mem_nil, or_false] at hv
  rcases hv with rfl | rfl <;> exact .inl ⟨_, rfl, rfl⟩⟩
end T

