import Derived.Test.YtncfieaimmpapaaL17
import Derived.Test.YtncfieaimmpapaaL2
import Derived.Test.YtncfieaimmpapaaC10
import Derived.Test.YtncfieaimmpapaaD3
set_option linter.unusedVariables false
set_option linter.unusedSimpArgs false
open Go Go.Am Go.Proofs
open Nat (reduceEqDiff reduceAdd reduceLeDiff reduceMul)
open Int (reduceNeg reduceLE reduceToNat)
set_option maxRecDepth 20000
namespace T
theorem tup2 {σ : St} {kp : Nat → Prop} {ρ : Nat → Nat} {snap : Bool} {a b d e : AV} (h : ArgR σ kp ρ snap a d) (k : ArgR σ kp ρ snap b e) : ArgR σ kp ρ snap (.tup [a, b]) (.tup [d, e]) :=
  .tup _ _ rfl (ArgsR.spec (R := ArgR σ kp ρ snap) (cs := [a, b]) (ds := [d, e]) ⟨h, k, trivial⟩).2
end T

