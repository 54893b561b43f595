import Derived.Test.YtmhloinjpcabcaaGreatX19
set_option linter.unusedVariables false
set_option linter.unusedSimpArgs false
set_option linter.unnecessarySimpa false
set_option linter.unusedSectionVars false
set_option maxHeartbeats 64000000
set_option maxRecDepth 20000
open Go Go.Am Go.Proofs
open Nat (reduceEqDiff reduceAdd reduceLeDiff reduceMul)
open Int (reduceNeg reduceLE reduceToNat)
namespace T
theorem indexChg_ok (l:List (Int × Int)) (g:FuncId) (caps:List AV) (objs:List Ob) (p:(Int × Int)→Bool) (hl:l.length<9223372036854775808) (hg:∀ x∈l,Holds Tryz.prog g ([.agg (eCh x)]++caps) objs (.lit (.bool (p x))) objs) :
    Holds Tryz.prog 109 [.tree 2 (rowsOf eCh l),.fn g caps] objs (.lit (.int .i64 (idxL p 0 l))) objs:=by
  generalize hres:idxL p 0 l=res
  refine Holds.of_body' (fn:=Tryz.f109) 19 objs.length [.tmp 4] Tryz.func109 rfl rfl rfl rfl rfl (by simp) ?_
  ((try revert hK K);(repeat' (first|refine Vb (X3 @rows_length @rows_getD @eCh.eq_1) ?_|(refine V2 (X3 @rows_length @rows_getD @eCh.eq_1) ?_ ?_<;>try with_reducible intro hb)|(refine Xi ?_ ?_<;>try intro ht)|refine VD ?_ ?_|exact Xx|fail))<;>try with_reducible intro K hK)
  refine W_loopS (fun k:Nat=>(⟨slots [(0,.tree 2 (rowsOf eCh l)),(1,.fn g caps),(7,.lit (.int .i64 l.length)),(8,.lit (.int .i64 k))],objs⟩:St)) (fun k=>k≤l.length∧idxL p k (l.drop k)=res) (fun k=>l.length - k) 0 ⟨Nat.zero_le _,hres⟩ (Xv X0) ?_
  rintro k ⟨hk,hr⟩ Ql hnl hel
  by_cases hk':k<l.length
  · have hx:=hg _ (getD_mem (d:=default) hk')
    have hd:=getD_drop0 l k default hk'
    generalize hxx:l.getD k default=x at *
    rw[hd,idxL] at hr
    simp only[List.cons_append,List.nil_append,eCh] at hx
    ((try revert hK K);(repeat' (first|refine Vb (X4 @rows_length @rows_getD @eCh.eq_1 @hxx) ?_|(refine V2 (X4 @rows_length @rows_getD @eCh.eq_1 @hxx) ?_ ?_<;>try with_reducible intro hb)|(refine Xi ?_ ?_<;>try intro ht)|refine VD ?_ ?_|exact Xx|fail))<;>try with_reducible intro K hK)
    refine callK_all hx (Nat.le_refl _) ?_
    ((try revert hK K);(repeat' (first|refine Vb (X3 @rows_length @rows_getD @eCh.eq_1) ?_|(refine V2 (X3 @rows_length @rows_getD @eCh.eq_1) ?_ ?_<;>try with_reducible intro hb)|(refine Xi ?_ ?_<;>try intro ht)|refine VD ?_ ?_|exact Xx|fail))<;>try with_reducible intro K hK)
    · rw[if_pos (by assumption)] at hr
      rw[← hr]
      exact RetOK_all rfl (Nat.le_refl _) rfl
    · rw[if_neg (by simp_all)] at hr
      exact hnl _ (k+1) ⟨by omega,hr⟩ (by omega) (Xv X0)
  · ((try revert hK K);(repeat' (first|refine Vb (X3 @rows_length @rows_getD @eCh.eq_1) ?_|(refine V2 (X3 @rows_length @rows_getD @eCh.eq_1) ?_ ?_<;>try with_reducible intro hb)|(refine Xi ?_ ?_<;>try intro ht)|refine VD ?_ ?_|exact Xx|fail))<;>try with_reducible intro K hK)
    rw[List.drop_eq_nil_of_le (by omega),idxL] at hr
    rw[← hr]
    exact RetOK_all rfl (Nat.le_refl _) rfl
theorem containsChg_ok (l:List (Int × Int)) (g:FuncId) (caps:List AV) (objs:List Ob) (p:(Int × Int)→Bool) (hl:l.length<9223372036854775808) (hg:∀ x∈l,Holds Tryz.prog g ([.agg (eCh x)]++caps) objs (.lit (.bool (p x))) objs) :
    Holds Tryz.prog 88 [.tree 2 (rowsOf eCh l),.fn g caps] objs (.lit (.bool (l.any p))) objs:=by
  rw[← idxL_any p l 0]
  refine Holds.of_body' (fn:=Tryz.f88) 9 objs.length [.tmp 4] Tryz.func88 rfl rfl rfl rfl rfl (by simp) ?_
  ((try revert hK K);(repeat' (first|refine Vb (X3 @rows_length @rows_getD @eCh.eq_1) ?_|(refine V2 (X3 @rows_length @rows_getD @eCh.eq_1) ?_ ?_<;>try with_reducible intro hb)|(refine Xi ?_ ?_<;>try intro ht)|refine VD ?_ ?_|exact Xx|fail))<;>try with_reducible intro K hK)
  refine callK_all (indexChg_ok l g caps objs p hl hg) (Nat.le_refl _) ?_
  ((try revert hK K);(repeat' (first|refine Vb (X3 @rows_length @rows_getD @eCh.eq_1) ?_|(refine V2 (X3 @rows_length @rows_getD @eCh.eq_1) ?_ ?_<;>try with_reducible intro hb)|(refine Xi ?_ ?_<;>try intro ht)|refine VD ?_ ?_|exact Xx|fail))<;>try with_reducible intro K hK)
  exact RetOK_all rfl (Nat.le_refl _) rfl
end T

