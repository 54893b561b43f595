import Derived.Test.YtkefbbedaaceaaaSA
import Derived.Test.YtkefbbedaaceaaaC5
import Derived.Test.YtkefbbedaaceaaaD1
set_option linter.unusedVariables false
set_option linter.unusedSimpArgs false
open Go Go.Am Go.Proofs
open Nat (reduceEqDiff reduceAdd reduceLeDiff reduceMul)
open Int (reduceNeg reduceLE reduceToNat)
set_option maxRecDepth 20000
namespace T
theorem times_exc {most pen n:Int} (hp:In41 pen):timesV (n - most) pen=excV most pen n:=by
  unfold timesV excV In41 at *
  by_cases h:n≤most
  · rw[if_pos (by omega),if_pos h]
  · rw[if_neg (by omega),if_neg h]
    split
    · have:pen=1099511627776:=by omega
      subst this
      omega
    · rfl
end T

