import Derived.Test.YtibijngmebpmmaaGreatCA
import Derived.Test.YtibijngmebpmmaaGreatSP
import Derived.Test.YtibijngmebpmmaaGreatSA
set_option linter.unusedVariables false
set_option linter.unusedSimpArgs false
set_option linter.unnecessarySimpa false
open Go Go.Am Go.Proofs
open Nat (reduceEqDiff reduceAdd reduceLeDiff reduceMul)
open Int (reduceNeg reduceLE reduceToNat)
set_option maxRecDepth 20000
namespace T
theorem indexCell_ok (l:List (List (Int × Int))) (g:FuncId) (caps:List AV) (objs:List Ob) (p:(List (Int × Int))→Bool) (hl:l.length<9223372036854775808) (hg:∀ x∈l,Holds Tryz.prog g ([.tree 2 (rowsOf eCh x)]++caps) objs (.lit (.bool (p x))) objs) :
    Holds Tryz.prog 79 [.tree 1 (rowsOf eCell l),.fn g caps] objs (.lit (.int .i64 (idxL p 0 l))) objs:=by
  generalize hres:idxL p 0 l=res
  refine Holds.of_body' (fn:=Tryz.f79) 19 objs.length [.tmp 4] Tryz.func79 rfl rfl rfl rfl rfl (by simp) ?_
  repeat' (first|(refine Xr (X3 @rows_length @rows_getD @eCell.eq_1) ?_;intro K hK)|refine Xo (X3 @rows_length @rows_getD @eCell.eq_1) ?_|(refine hK _ ?_;clear hK K)|(refine Xg (X3 @rows_length @rows_getD @eCell.eq_1) ?_ ?_<;>try intro hb)|(refine Xi ?_ ?_<;>try intro ht)|refine Xz ?_|refine Xh ?_|refine Xe ?_|refine Xd ?_ ?_|omega|with_reducible rfl|exact trivial)
  refine W_loopS (fun k:Nat=>(⟨slots [(0,.tree 1 (rowsOf eCell l)),(1,.fn g caps),(7,.lit (.int .i64 l.length)),(8,.lit (.int .i64 k))],objs⟩:St)) (fun k=>k≤l.length∧idxL p k (l.drop k)=res) (fun k=>l.length - k) 0 ⟨Nat.zero_le _,hres⟩ (Xv X0) ?_
  rintro k ⟨hk,hr⟩ Ql hnl hel
  by_cases hk':k<l.length
  · have hx:=hg _ (getD_mem (d:=default) hk')
    have hd:=getD_drop0 l k default hk'
    generalize hxx:l.getD k default=x at *
    rw[hd,idxL] at hr
    simp only[List.cons_append,List.nil_append,eCell] at hx
    repeat' (first|(refine Xr (X4 @rows_length @rows_getD @eCell.eq_1 @hxx) ?_;intro K hK)|refine Xo (X4 @rows_length @rows_getD @eCell.eq_1 @hxx) ?_|(refine hK _ ?_;clear hK K)|(refine Xg (X4 @rows_length @rows_getD @eCell.eq_1 @hxx) ?_ ?_<;>try intro hb)|(refine Xi ?_ ?_<;>try intro ht)|refine Xz ?_|refine Xh ?_|refine Xe ?_|refine Xd ?_ ?_|omega|with_reducible rfl|exact trivial)
    refine callK_all hx (Nat.le_refl _) ?_
    repeat' (first|(refine Xr (X3 @rows_length @rows_getD @eCell.eq_1) ?_;intro K hK)|refine Xo (X3 @rows_length @rows_getD @eCell.eq_1) ?_|(refine hK _ ?_;clear hK K)|(refine Xg (X3 @rows_length @rows_getD @eCell.eq_1) ?_ ?_<;>try intro hb)|(refine Xi ?_ ?_<;>try intro ht)|refine Xz ?_|refine Xh ?_|refine Xe ?_|refine Xd ?_ ?_|omega|with_reducible rfl|exact trivial)
    · rw[if_pos (by assumption)] at hr
      rw[← hr]
      exact RetOK_all rfl (Nat.le_refl _) rfl
    · rw[if_neg (by simp_all)] at hr
      exact hnl _ (k+1) ⟨by omega,hr⟩ (by omega) (Xv X0)
  · repeat' (first|(refine Xr (X3 @rows_length @rows_getD @eCell.eq_1) ?_;intro K hK)|refine Xo (X3 @rows_length @rows_getD @eCell.eq_1) ?_|(refine hK _ ?_;clear hK K)|(refine Xg (X3 @rows_length @rows_getD @eCell.eq_1) ?_ ?_<;>try intro hb)|(refine Xi ?_ ?_<;>try intro ht)|refine Xz ?_|refine Xh ?_|refine Xe ?_|refine Xd ?_ ?_|omega|with_reducible rfl|exact trivial)
    rw[List.drop_eq_nil_of_le (by omega),idxL] at hr
    rw[← hr]
    exact RetOK_all rfl (Nat.le_refl _) rfl
theorem containsCell_ok (l:List (List (Int × Int))) (g:FuncId) (caps:List AV) (objs:List Ob) (p:(List (Int × Int))→Bool) (hl:l.length<9223372036854775808) (hg:∀ x∈l,Holds Tryz.prog g ([.tree 2 (rowsOf eCh x)]++caps) objs (.lit (.bool (p x))) objs) :
    Holds Tryz.prog 41 [.tree 1 (rowsOf eCell l),.fn g caps] objs (.lit (.bool (l.any p))) objs:=by
  rw[← idxL_any p l 0]
  refine Holds.of_body' (fn:=Tryz.f41) 9 objs.length [.tmp 4] Tryz.func41 rfl rfl rfl rfl rfl (by simp) ?_
  repeat' (first|(refine Xr (X3 @rows_length @rows_getD @eCell.eq_1) ?_;intro K hK)|refine Xo (X3 @rows_length @rows_getD @eCell.eq_1) ?_|(refine hK _ ?_;clear hK K)|(refine Xg (X3 @rows_length @rows_getD @eCell.eq_1) ?_ ?_<;>try intro hb)|(refine Xi ?_ ?_<;>try intro ht)|refine Xz ?_|refine Xh ?_|refine Xe ?_|refine Xd ?_ ?_|omega|with_reducible rfl|exact trivial)
  refine callK_all (indexCell_ok l g caps objs p hl hg) (Nat.le_refl _) ?_
  repeat' (first|(refine Xr (X3 @rows_length @rows_getD @eCell.eq_1) ?_;intro K hK)|refine Xo (X3 @rows_length @rows_getD @eCell.eq_1) ?_|(refine hK _ ?_;clear hK K)|(refine Xg (X3 @rows_length @rows_getD @eCell.eq_1) ?_ ?_<;>try intro hb)|(refine Xi ?_ ?_<;>try intro ht)|refine Xz ?_|refine Xh ?_|refine Xe ?_|refine Xd ?_ ?_|omega|with_reducible rfl|exact trivial)
  exact RetOK_all rfl (Nat.le_refl _) rfl
theorem indexPr_ok (l:List Pr) (g:FuncId) (caps:List AV) (objs:List Ob) (p:Pr→Bool) (hl:l.length<9223372036854775808) (hg:∀ x∈l,Holds Tryz.prog g ([.agg (ePr x)]++caps) objs (.lit (.bool (p x))) objs) :
    Holds Tryz.prog 110 [.tree 4 (rowsOf ePr l),.fn g caps] objs (.lit (.int .i64 (idxL p 0 l))) objs:=by
  generalize hres:idxL p 0 l=res
  refine Holds.of_body' (fn:=Tryz.f110) 19 objs.length [.tmp 4] Tryz.func110 rfl rfl rfl rfl rfl (by simp) ?_
  repeat' (first|(refine Xr (X3 @rows_length @rows_getD @ePr.eq_1) ?_;intro K hK)|refine Xo (X3 @rows_length @rows_getD @ePr.eq_1) ?_|(refine hK _ ?_;clear hK K)|(refine Xg (X3 @rows_length @rows_getD @ePr.eq_1) ?_ ?_<;>try intro hb)|(refine Xi ?_ ?_<;>try intro ht)|refine Xz ?_|refine Xh ?_|refine Xe ?_|refine Xd ?_ ?_|omega|with_reducible rfl|exact trivial)
  refine W_loopS (fun k:Nat=>(⟨slots [(0,.tree 4 (rowsOf ePr l)),(1,.fn g caps),(7,.lit (.int .i64 l.length)),(8,.lit (.int .i64 k))],objs⟩:St)) (fun k=>k≤l.length∧idxL p k (l.drop k)=res) (fun k=>l.length - k) 0 ⟨Nat.zero_le _,hres⟩ (Xv X0) ?_
  rintro k ⟨hk,hr⟩ Ql hnl hel
  by_cases hk':k<l.length
  · have hx:=hg _ (getD_mem (d:=default) hk')
    have hd:=getD_drop0 l k default hk'
    generalize hxx:l.getD k default=x at *
    rw[hd,idxL] at hr
    simp only[List.cons_append,List.nil_append,ePr] at hx
    repeat' (first|(refine Xr (X4 @rows_length @rows_getD @ePr.eq_1 @hxx) ?_;intro K hK)|refine Xo (X4 @rows_length @rows_getD @ePr.eq_1 @hxx) ?_|(refine hK _ ?_;clear hK K)|(refine Xg (X4 @rows_length @rows_getD @ePr.eq_1 @hxx) ?_ ?_<;>try intro hb)|(refine Xi ?_ ?_<;>try intro ht)|refine Xz ?_|refine Xh ?_|refine Xe ?_|refine Xd ?_ ?_|omega|with_reducible rfl|exact trivial)
    refine callK_all hx (Nat.le_refl _) ?_
    repeat' (first|(refine Xr (X3 @rows_length @rows_getD @ePr.eq_1) ?_;intro K hK)|refine Xo (X3 @rows_length @rows_getD @ePr.eq_1) ?_|(refine hK _ ?_;clear hK K)|(refine Xg (X3 @rows_length @rows_getD @ePr.eq_1) ?_ ?_<;>try intro hb)|(refine Xi ?_ ?_<;>try intro ht)|refine Xz ?_|refine Xh ?_|refine Xe ?_|refine Xd ?_ ?_|omega|with_reducible rfl|exact trivial)
    · rw[if_pos (by assumption)] at hr
      rw[← hr]
      exact RetOK_all rfl (Nat.le_refl _) rfl
    · rw[if_neg (by simp_all)] at hr
      exact hnl _ (k+1) ⟨by omega,hr⟩ (by omega) (Xv X0)
  · repeat' (first|(refine Xr (X3 @rows_length @rows_getD @ePr.eq_1) ?_;intro K hK)|refine Xo (X3 @rows_length @rows_getD @ePr.eq_1) ?_|(refine hK _ ?_;clear hK K)|(refine Xg (X3 @rows_length @rows_getD @ePr.eq_1) ?_ ?_<;>try intro hb)|(refine Xi ?_ ?_<;>try intro ht)|refine Xz ?_|refine Xh ?_|refine Xe ?_|refine Xd ?_ ?_|omega|with_reducible rfl|exact trivial)
    rw[List.drop_eq_nil_of_le (by omega),idxL] at hr
    rw[← hr]
    exact RetOK_all rfl (Nat.le_refl _) rfl
theorem containsPr_ok (l:List Pr) (g:FuncId) (caps:List AV) (objs:List Ob) (p:Pr→Bool) (hl:l.length<9223372036854775808) (hg:∀ x∈l,Holds Tryz.prog g ([.agg (ePr x)]++caps) objs (.lit (.bool (p x))) objs) :
    Holds Tryz.prog 103 [.tree 4 (rowsOf ePr l),.fn g caps] objs (.lit (.bool (l.any p))) objs:=by
  rw[← idxL_any p l 0]
  refine Holds.of_body' (fn:=Tryz.f103) 9 objs.length [.tmp 4] Tryz.func103 rfl rfl rfl rfl rfl (by simp) ?_
  repeat' (first|(refine Xr (X3 @rows_length @rows_getD @ePr.eq_1) ?_;intro K hK)|refine Xo (X3 @rows_length @rows_getD @ePr.eq_1) ?_|(refine hK _ ?_;clear hK K)|(refine Xg (X3 @rows_length @rows_getD @ePr.eq_1) ?_ ?_<;>try intro hb)|(refine Xi ?_ ?_<;>try intro ht)|refine Xz ?_|refine Xh ?_|refine Xe ?_|refine Xd ?_ ?_|omega|with_reducible rfl|exact trivial)
  refine callK_all (indexPr_ok l g caps objs p hl hg) (Nat.le_refl _) ?_
  repeat' (first|(refine Xr (X3 @rows_length @rows_getD @ePr.eq_1) ?_;intro K hK)|refine Xo (X3 @rows_length @rows_getD @ePr.eq_1) ?_|(refine hK _ ?_;clear hK K)|(refine Xg (X3 @rows_length @rows_getD @ePr.eq_1) ?_ ?_<;>try intro hb)|(refine Xi ?_ ?_<;>try intro ht)|refine Xz ?_|refine Xh ?_|refine Xe ?_|refine Xd ?_ ?_|omega|with_reducible rfl|exact trivial)
  exact RetOK_all rfl (Nat.le_refl _) rfl
end T

