import Derived.Test.YtibijngmebpmmaaGreatCA
import Derived.Test.YtibijngmebpmmaaGreatDA
import Derived.Test.YtibijngmebpmmaaGreatSA
set_option linter.unusedVariables false
set_option linter.unusedSimpArgs false
set_option linter.unnecessarySimpa false
open Go Go.Am Go.Proofs
open Nat (reduceEqDiff reduceAdd reduceLeDiff reduceMul)
open Int (reduceNeg reduceLE reduceToNat)
set_option maxRecDepth 20000
namespace T
set_option maxRecDepth 10000 in
set_option maxHeartbeats 4000000 in
theorem clone_ok (xs:List Int) (h:0<xs.length) (hl:xs.length<549755813888):Holds Tryz.prog 40 [.tree 1 (ints xs)] [] (.ref 0 1 0 xs.length) [.arr 1 (ints xs)]:=by
  refine Holds.of_body' (fn:=Tryz.f40) 8 0 [.tmp 2] Tryz.func40 rfl rfl rfl rfl rfl (by simp) ?_
  repeat' (first|(((refine rr ?_);intro K hK);simp (disch:=omega) only[Ac,↓Pc,simprocAttr,ints_scal])|(refine hK _ ?_;clear hK K)|(refine Wc (fun ht=>?_) (fun ht=>?_)<;>(try simp only[DEc,simprocAttr] at ht))|refine Wz rfl ?_|(refine Wk ?_;intro Q hn he)|((refine hn _ ?_);clear hn he;try clear Q)|(simp only[Qc,Kc,simprocAttr])|with_reducible refine And.intro ?_ ?_|omega)
  (refine RetOK_se [1] false (by simp only[Oc,simprocAttr]) ?_;first|exact .pure rfl|exact .eq rfl|exact .fz rfl (by simp only[Bc,Rc]))
end T
open Go Go.Am Go.Proofs
open Nat (reduceEqDiff reduceAdd reduceLeDiff reduceMul)
open Int (reduceNeg reduceLE reduceToNat)
set_option maxRecDepth 20000
namespace T
end T

