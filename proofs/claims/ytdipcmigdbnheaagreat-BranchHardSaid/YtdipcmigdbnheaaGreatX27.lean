import Derived.Test.YtdipcmigdbnheaaGreatX17
import Derived.Test.YtdipcmigdbnheaaGreatX18
import Derived.Test.YtdipcmigdbnheaaGreatX25
import Derived.Test.YtdipcmigdbnheaaGreatX26
import Derived.Test.YtdipcmigdbnheaaGreatX24
import Derived.Test.YtdipcmigdbnheaaGreatX22
import Derived.Test.YtdipcmigdbnheaaGreatX19
set_option linter.unusedVariables false
set_option linter.unusedSimpArgs false
set_option linter.unnecessarySimpa false
set_option linter.unusedSectionVars false
set_option maxHeartbeats 64000000
set_option maxRecDepth 20000
open Go Go.Am Go.Proofs
open Nat (reduceEqDiff reduceAdd reduceLeDiff reduceMul)
open Int (reduceNeg reduceLE reduceToNat)
namespace T
theorem VN (xs:List Int) (h:0<xs.length) (hl:xs.length<549755813888):ao Tryz.prog 90 [.tree 1 (ints xs)] [] (.ref 0 1 0 xs.length) [.arr 1 (ints xs)]:=by
  refine ao.aF (fn:=Tryz.f90) 8 0 [.tmp 2] Tryz.func90 rfl rfl rfl rfl rfl (by simp) ?_
  ((repeat' (first|refine Vb @AO ?_|(refine Xi ?_ ?_<;>try intro ht)|exact Xx|fail)))
  exact Xw false [1] X0
theorem aeA (xs:List (List Bool)) (h:0<xs.length) (hl:xs.length<549755813888):ao Tryz.prog 170 [.tree 1 (rowsOf aE xs)] [] (.ref 0 1 0 xs.length) [.arr 1 (rowsOf aE xs)]:=by
  refine ao.aF (fn:=Tryz.f170) 8 0 [.tmp 2] Tryz.func170 rfl rfl rfl rfl rfl (by simp) ?_
  ((repeat' (first|refine Vb X0 ?_|(refine Xi ?_ ?_<;>try intro ht)|exact Xx|fail)))
  exact Xw false [1] X0
theorem adY:ao Tryz.prog 90 [.lit (.slice none 0 0)] [] (.lit (.slice none 0 0)) []:=by
  refine ao.aF (fn:=Tryz.f90) 8 0 [.tmp 2] Tryz.func90 rfl rfl rfl rfl rfl (by simp) ?_
  ((repeat' (first|refine Vb @Option.isNone_none.{0} ?_|(refine Xi ?_ ?_<;>try intro ht)|exact Xx|fail)))
  all_goals first|exact aC rfl rfl|(exfalso;simp at *;done)
theorem adX (left:List (List Bool)) (c o:Nat) (hc:c<left.length) (ho:o<(left.getD c default).length) (hl:left.length<549755813888) (hw:(left.getD c default).length<549755813888) :
    ao Tryz.prog 126 [.tree 1 (rowsOf aE left),.lit (.int .i64 c),.lit (.int .i64 o)] [] (.tree 1 (rowsOf aE (bF left c o))) []:=by
  unfold bF
  have iS:∀ r:List AV,((rowsOf aE left).set c r)[c]?=some r:=fun r=>by rw[List.getElem?_set,if_pos rfl,if_pos (by simpa [rowsOf] using hc)]
  have fL:∀ r:List AV,((rowsOf aE left).set c r).length=left.length:=fun r=>by simp[rowsOf]
  generalize eV:left.getD c default=row at *
  have By:(List.replicate row.length false).length=row.length:=List.length_replicate
  refine ao.aF (fn:=Tryz.f126) 26 0 [.tmp 6] Tryz.func126 rfl rfl rfl rfl rfl (by simp) ?_
  ((refine Vb X0 ?_)<;>try with_reducible intro K hK)
  (refine Xn [] (aeA left (by omega) hl) ?_;simp (disch:=omega) only[Ac,↓Pc,simprocAttr,Nat.sub_self,Nat.sub_zero])
  ((try revert hK K);(refine Vb (X5 @eV @aE.eq_1 @GZ @iS (X3 @fL @By @sK)) ?_))
  refine eA [] true (by decide) trivial (by decide) (by decide) (.snap _ _ rfl ?_)
  have cK:(lI row.length o).length=row.length:=H4 _ _
  exact aaN (k:=1) (r:=lI row.length o) hc (by rw[cK];rfl) (hU (by decide)) rfl (hU (by decide))
end T

