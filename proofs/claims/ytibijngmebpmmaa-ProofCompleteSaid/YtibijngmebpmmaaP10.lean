import Derived.Test.YtibijngmebpmmaaPR
import Derived.Test.YtibijngmebpmmaaP9
import Derived.Test.YtibijngmebpmmaaAmJ
set_option linter.unusedVariables false
set_option linter.unusedSimpArgs false
set_option linter.unnecessarySimpa false
open Go Go.Am Go.Proofs
open Nat (reduceEqDiff reduceAdd reduceLeDiff reduceMul)
open Int (reduceNeg reduceLE reduceToNat)
set_option maxRecDepth 20000
namespace T
theorem leafR_row:RowN [.lit (.int .i64 (-1)),.lit (.slice none 0 0),.lit (.slice none 0 0),.lit (.slice none 0 0),.lit (.slice none 0 0)] (eNd (leafN [])) :=
  ⟨.inl rfl,.inr ⟨rfl,_,rfl⟩,.inr ⟨rfl,_,rfl⟩,.inr ⟨rfl,_,rfl⟩,.inr ⟨rfl,_,rfl⟩,trivial⟩
def pv (n:Nat):Ob:=.var [.ref 2 5 0 n]
end T

