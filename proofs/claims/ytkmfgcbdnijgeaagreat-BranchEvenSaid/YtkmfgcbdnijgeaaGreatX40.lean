import Derived.Test.YtkmfgcbdnijgeaaGreatX10
import Derived.Test.YtkmfgcbdnijgeaaGreatX39
import Derived.Test.YtkmfgcbdnijgeaaGreatX28
import Derived.Test.YtkmfgcbdnijgeaaGreatX19
set_option linter.unusedVariables false
set_option linter.unusedSimpArgs false
set_option linter.unnecessarySimpa false
set_option linter.unusedSectionVars false
set_option maxHeartbeats 64000000
set_option maxRecDepth 20000
open Go Go.Am Go.Proofs
open Nat (reduceEqDiff reduceAdd reduceLeDiff reduceMul)
open Int (reduceNeg reduceLE reduceToNat)
namespace T
theorem clone_ok (xs:List Int) (h:0<xs.length) (hl:xs.length<549755813888):Holds Tryz.prog 83 [.tree 1 (ints xs)] [] (.ref 0 1 0 xs.length) [.arr 1 (ints xs)]:=by
  refine Holds.of_body' (fn:=Tryz.f83) 8 0 [.tmp 2] Tryz.func83 rfl rfl rfl rfl rfl (by simp) ?_
  ((repeat' (first|refine Vb @ints_scal ?_|(refine Xi ?_ ?_<;>try intro ht)|exact Xx|fail)))
  exact Xw false [1] X0
theorem cloneBs_ok (xs:List (List Bool)) (h:0<xs.length) (hl:xs.length<549755813888):Holds Tryz.prog 125 [.tree 1 (rowsOf eBs xs)] [] (.ref 0 1 0 xs.length) [.arr 1 (rowsOf eBs xs)]:=by
  refine Holds.of_body' (fn:=Tryz.f125) 8 0 [.tmp 2] Tryz.func125 rfl rfl rfl rfl rfl (by simp) ?_
  ((repeat' (first|refine Vb X0 ?_|(refine Xi ?_ ?_<;>try intro ht)|exact Xx|fail)))
  exact Xw false [1] X0
theorem cloneNil_ok:Holds Tryz.prog 83 [.lit (.slice none 0 0)] [] (.lit (.slice none 0 0)) []:=by
  refine Holds.of_body' (fn:=Tryz.f83) 8 0 [.tmp 2] Tryz.func83 rfl rfl rfl rfl rfl (by simp) ?_
  ((repeat' (first|refine Vb @Option.isNone_none.{0} ?_|(refine Xi ?_ ?_<;>try intro ht)|exact Xx|fail)))
  all_goals first|exact RetOK_pure' rfl rfl|(exfalso;simp at *;done)
theorem only_ok (left:List (List Bool)) (c o:Nat) (hc:c<left.length) (ho:o<(left.getD c default).length) (hl:left.length<549755813888) (hw:(left.getD c default).length<549755813888) :
    Holds Tryz.prog 82 [.tree 1 (rowsOf eBs left),.lit (.int .i64 c),.lit (.int .i64 o)] [] (.tree 1 (rowsOf eBs (onlyV left c o))) []:=by
  unfold onlyV
  have hset:∀ r:List AV,((rowsOf eBs left).set c r)[c]?=some r:=fun r=>by rw[List.getElem?_set,if_pos rfl,if_pos (by simpa [rowsOf] using hc)]
  have hsl:∀ r:List AV,((rowsOf eBs left).set c r).length=left.length:=fun r=>by simp[rowsOf]
  generalize hrr:left.getD c default=row at *
  have hrep:(List.replicate row.length false).length=row.length:=List.length_replicate
  refine Holds.of_body' (fn:=Tryz.f82) 26 0 [.tmp 6] Tryz.func82 rfl rfl rfl rfl rfl (by simp) ?_
  ((refine Vb X0 ?_)<;>try with_reducible intro K hK)
  (refine Xn [] (cloneBs_ok left (by omega) hl) ?_;simp (disch:=omega) only[Ac,↓Pc,simprocAttr,Nat.sub_self,Nat.sub_zero])
  ((try revert hK K);(refine Vb (X5 @hrr @eBs.eq_1 @bools_rep @hset (X3 @hsl @hrep @bools_set)) ?_))
  refine RetOK_sel [] true (by decide) trivial (by decide) (by decide) (.snap _ _ rfl ?_)
  have hrl:(onlyR row.length o).length=row.length:=onlyR_len _ _
  exact frz_set (k:=1) (r:=onlyR row.length o) hc (by rw[hrl];rfl) (not_kept (by decide)) rfl (not_kept (by decide))
end T

