import Derived.Test.YtibijngmebpmmaaGreatCA
import Derived.Test.YtibijngmebpmmaaGreatDA
import Derived.Test.YtibijngmebpmmaaGreatSA
set_option linter.unusedVariables false
set_option linter.unusedSimpArgs false
set_option linter.unnecessarySimpa false
open Go Go.Am Go.Proofs
open Nat (reduceEqDiff reduceAdd reduceLeDiff reduceMul)
open Int (reduceNeg reduceLE reduceToNat)
set_option maxRecDepth 20000
namespace T
set_option maxHeartbeats 4000000 in
theorem clone_ok (xs:List Int) (h:0<xs.length) (hl:xs.length<549755813888):Holds Tryz.prog 40 [.tree 1 (ints xs)] [] (.ref 0 1 0 xs.length) [.arr 1 (ints xs)]:=by
  refine Holds.of_body' (fn:=Tryz.f40) 8 0 [.tmp 2] Tryz.func40 rfl rfl rfl rfl rfl (by simp) ?_
  repeat' (first|(refine Xr @ints_scal ?_;intro K hK)|refine Xo @ints_scal ?_|(refine hK _ ?_;clear hK K)|(refine Xg @ints_scal ?_ ?_<;>try intro hb)|(refine Xi ?_ ?_<;>try intro ht)|refine Xz ?_|refine Xh ?_|refine Xe ?_|refine Xd ?_ ?_|omega|with_reducible rfl|exact trivial)
  exact Xw false [1] X0
end T
open Go Go.Am Go.Proofs
open Nat (reduceEqDiff reduceAdd reduceLeDiff reduceMul)
open Int (reduceNeg reduceLE reduceToNat)
set_option maxRecDepth 20000
namespace T
end T

