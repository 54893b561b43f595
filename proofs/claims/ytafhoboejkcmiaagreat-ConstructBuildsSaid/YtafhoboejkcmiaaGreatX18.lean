import Derived.Test.YtafhoboejkcmiaaGreatX17
set_option linter.unusedVariables false
set_option linter.unusedSimpArgs false
set_option linter.unnecessarySimpa false
set_option linter.unusedSectionVars false
set_option maxHeartbeats 64000000
set_option maxRecDepth 20000
open Go Go.Am Go.Proofs
open Nat (reduceEqDiff reduceAdd reduceLeDiff reduceMul)
open Int (reduceNeg reduceLE reduceToNat)
namespace T
def idxL {α:Type} (p:α→Bool):Nat→List α→Int
  | _,[]=>-1
  | k,x::r=>if p x=true then (k:Int) else idxL p (k+1) r
theorem idxL_any {α:Type} (p:α→Bool):∀ (l:List α) (k:Nat),decide (0≤idxL p k l)=l.any p
  | [],k=>rfl
  | x::r,k=>by
    rw[idxL,List.any_cons]
    split
    · rename_i h;rw[h];simp
    · rename_i h;rw[idxL_any p r (k+1)];simp_all
theorem indexCls_ok (l:List (List Opt)) (g:FuncId) (caps:List AV) (objs:List Ob) (p:(List Opt)→Bool) (hl:l.length<9223372036854775808) (hg:∀ x∈l,Holds Tryz.prog g ([.tree 6 (rowsOf eOpt x)]++caps) objs (.lit (.bool (p x))) objs) :
    Holds Tryz.prog 120 [.tree 1 (rowsOf eCls l),.fn g caps] objs (.lit (.int .i64 (idxL p 0 l))) objs:=by
  generalize hres:idxL p 0 l=res
  refine Holds.of_body' (fn:=Tryz.f120) 19 objs.length [.tmp 4] Tryz.func120 rfl rfl rfl rfl rfl (by simp) ?_
  refine Vb (X3 @rows_length @rows_getD @eCls.eq_1) ?_
  refine W_loopS (fun k:Nat=>(⟨slots [(0,.tree 1 (rowsOf eCls l)),(1,.fn g caps),(7,.lit (.int .i64 l.length)),(8,.lit (.int .i64 k))],objs⟩:St)) (fun k=>k≤l.length∧idxL p k (l.drop k)=res) (fun k=>l.length - k) 0 ⟨Nat.zero_le _,hres⟩ (Xv X0) ?_
  rintro k ⟨hk,hr⟩ Ql hnl hel
  by_cases hk':k<l.length
  · have hx:=hg _ (getD_mem (d:=default) hk')
    have hd:=getD_drop0 l k default hk'
    generalize hxx:l.getD k default=x at *
    rw[hd,idxL] at hr
    simp only[List.cons_append,List.nil_append,eCls] at hx
    ((repeat' (first|refine Vb (X4 @rows_length @rows_getD @eCls.eq_1 @hxx) ?_|(refine Xi ?_ ?_<;>try intro ht)|exact Xx|fail))<;>try with_reducible intro K hK)
    refine callK_all hx (Nat.le_refl _) ?_
    ((try revert hK K);(repeat' (first|refine Vb (X3 @rows_length @rows_getD @eCls.eq_1) ?_|(refine Xi ?_ ?_<;>try intro ht)|fail)))
    · rw[if_pos (by assumption)] at hr
      rw[← hr]
      exact RetOK_all rfl (Nat.le_refl _) rfl
    · rw[if_neg (by simp_all)] at hr
      exact hnl _ (k+1) ⟨by omega,hr⟩ (by omega) (Xv X0)
  · ((repeat' (first|refine Vb (X3 @rows_length @rows_getD @eCls.eq_1) ?_|(refine Xi ?_ ?_<;>try intro ht)|exact Xx|fail)))
    rw[List.drop_eq_nil_of_le (by omega),idxL] at hr
    rw[← hr]
    exact RetOK_all rfl (Nat.le_refl _) rfl
theorem containsCls_ok (l:List (List Opt)) (g:FuncId) (caps:List AV) (objs:List Ob) (p:(List Opt)→Bool) (hl:l.length<9223372036854775808) (hg:∀ x∈l,Holds Tryz.prog g ([.tree 6 (rowsOf eOpt x)]++caps) objs (.lit (.bool (p x))) objs) :
    Holds Tryz.prog 97 [.tree 1 (rowsOf eCls l),.fn g caps] objs (.lit (.bool (l.any p))) objs:=by
  rw[← idxL_any p l 0]
  refine Holds.of_body' (fn:=Tryz.f97) 9 objs.length [.tmp 4] Tryz.func97 rfl rfl rfl rfl rfl (by simp) ?_
  ((refine Vb (X3 @rows_length @rows_getD @eCls.eq_1) ?_)<;>try with_reducible intro K hK)
  refine callK_all (indexCls_ok l g caps objs p hl hg) (Nat.le_refl _) ?_
  ((try revert hK K);(refine Vb (X3 @rows_length @rows_getD @eCls.eq_1) ?_))
  exact RetOK_all rfl (Nat.le_refl _) rfl
theorem indexOpt_ok (l:List Opt) (g:FuncId) (caps:List AV) (objs:List Ob) (p:Opt→Bool) (hl:l.length<9223372036854775808) (hg:∀ x∈l,Holds Tryz.prog g ([.agg (eOpt x)]++caps) objs (.lit (.bool (p x))) objs) :
    Holds Tryz.prog 98 [.tree 6 (rowsOf eOpt l),.fn g caps] objs (.lit (.int .i64 (idxL p 0 l))) objs:=by
  generalize hres:idxL p 0 l=res
  refine Holds.of_body' (fn:=Tryz.f98) 19 objs.length [.tmp 4] Tryz.func98 rfl rfl rfl rfl rfl (by simp) ?_
  refine Vb (X3 @rows_length @rows_getD @eOpt.eq_1) ?_
  refine W_loopS (fun k:Nat=>(⟨slots [(0,.tree 6 (rowsOf eOpt l)),(1,.fn g caps),(7,.lit (.int .i64 l.length)),(8,.lit (.int .i64 k))],objs⟩:St)) (fun k=>k≤l.length∧idxL p k (l.drop k)=res) (fun k=>l.length - k) 0 ⟨Nat.zero_le _,hres⟩ (Xv X0) ?_
  rintro k ⟨hk,hr⟩ Ql hnl hel
  by_cases hk':k<l.length
  · have hx:=hg _ (getD_mem (d:=default) hk')
    have hd:=getD_drop0 l k default hk'
    generalize hxx:l.getD k default=x at *
    rw[hd,idxL] at hr
    simp only[List.cons_append,List.nil_append,eOpt] at hx
    ((repeat' (first|refine Vb (X4 @rows_length @rows_getD @eOpt.eq_1 @hxx) ?_|(refine Xi ?_ ?_<;>try intro ht)|exact Xx|fail))<;>try with_reducible intro K hK)
    refine callK_all hx (Nat.le_refl _) ?_
    ((try revert hK K);(repeat' (first|refine Vb (X3 @rows_length @rows_getD @eOpt.eq_1) ?_|(refine Xi ?_ ?_<;>try intro ht)|fail)))
    · rw[if_pos (by assumption)] at hr
      rw[← hr]
      exact RetOK_all rfl (Nat.le_refl _) rfl
    · rw[if_neg (by simp_all)] at hr
      exact hnl _ (k+1) ⟨by omega,hr⟩ (by omega) (Xv X0)
  · ((repeat' (first|refine Vb (X3 @rows_length @rows_getD @eOpt.eq_1) ?_|(refine Xi ?_ ?_<;>try intro ht)|exact Xx|fail)))
    rw[List.drop_eq_nil_of_le (by omega),idxL] at hr
    rw[← hr]
    exact RetOK_all rfl (Nat.le_refl _) rfl
theorem containsOpt_ok (l:List Opt) (g:FuncId) (caps:List AV) (objs:List Ob) (p:Opt→Bool) (hl:l.length<9223372036854775808) (hg:∀ x∈l,Holds Tryz.prog g ([.agg (eOpt x)]++caps) objs (.lit (.bool (p x))) objs) :
    Holds Tryz.prog 63 [.tree 6 (rowsOf eOpt l),.fn g caps] objs (.lit (.bool (l.any p))) objs:=by
  rw[← idxL_any p l 0]
  refine Holds.of_body' (fn:=Tryz.f63) 9 objs.length [.tmp 4] Tryz.func63 rfl rfl rfl rfl rfl (by simp) ?_
  ((refine Vb (X3 @rows_length @rows_getD @eOpt.eq_1) ?_)<;>try with_reducible intro K hK)
  refine callK_all (indexOpt_ok l g caps objs p hl hg) (Nat.le_refl _) ?_
  ((try revert hK K);(refine Vb (X3 @rows_length @rows_getD @eOpt.eq_1) ?_))
  exact RetOK_all rfl (Nat.le_refl _) rfl
theorem indexCt_ok (l:List Ct) (g:FuncId) (caps:List AV) (objs:List Ob) (p:Ct→Bool) (hl:l.length<9223372036854775808) (hg:∀ x∈l,Holds Tryz.prog g ([.agg (eCt x)]++caps) objs (.lit (.bool (p x))) objs) :
    Holds Tryz.prog 103 [.tree 4 (rowsOf eCt l),.fn g caps] objs (.lit (.int .i64 (idxL p 0 l))) objs:=by
  generalize hres:idxL p 0 l=res
  refine Holds.of_body' (fn:=Tryz.f103) 19 objs.length [.tmp 4] Tryz.func103 rfl rfl rfl rfl rfl (by simp) ?_
  refine Vb (X3 @rows_length @rows_getD @eCt.eq_1) ?_
  refine W_loopS (fun k:Nat=>(⟨slots [(0,.tree 4 (rowsOf eCt l)),(1,.fn g caps),(7,.lit (.int .i64 l.length)),(8,.lit (.int .i64 k))],objs⟩:St)) (fun k=>k≤l.length∧idxL p k (l.drop k)=res) (fun k=>l.length - k) 0 ⟨Nat.zero_le _,hres⟩ (Xv X0) ?_
  rintro k ⟨hk,hr⟩ Ql hnl hel
  by_cases hk':k<l.length
  · have hx:=hg _ (getD_mem (d:=default) hk')
    have hd:=getD_drop0 l k default hk'
    generalize hxx:l.getD k default=x at *
    rw[hd,idxL] at hr
    simp only[List.cons_append,List.nil_append,eCt] at hx
    ((repeat' (first|refine Vb (X4 @rows_length @rows_getD @eCt.eq_1 @hxx) ?_|(refine Xi ?_ ?_<;>try intro ht)|exact Xx|fail))<;>try with_reducible intro K hK)
    refine callK_all hx (Nat.le_refl _) ?_
    ((try revert hK K);(repeat' (first|refine Vb (X3 @rows_length @rows_getD @eCt.eq_1) ?_|(refine Xi ?_ ?_<;>try intro ht)|fail)))
    · rw[if_pos (by assumption)] at hr
      rw[← hr]
      exact RetOK_all rfl (Nat.le_refl _) rfl
    · rw[if_neg (by simp_all)] at hr
      exact hnl _ (k+1) ⟨by omega,hr⟩ (by omega) (Xv X0)
  · ((repeat' (first|refine Vb (X3 @rows_length @rows_getD @eCt.eq_1) ?_|(refine Xi ?_ ?_<;>try intro ht)|exact Xx|fail)))
    rw[List.drop_eq_nil_of_le (by omega),idxL] at hr
    rw[← hr]
    exact RetOK_all rfl (Nat.le_refl _) rfl
theorem containsCt_ok (l:List Ct) (g:FuncId) (caps:List AV) (objs:List Ob) (p:Ct→Bool) (hl:l.length<9223372036854775808) (hg:∀ x∈l,Holds Tryz.prog g ([.agg (eCt x)]++caps) objs (.lit (.bool (p x))) objs) :
    Holds Tryz.prog 68 [.tree 4 (rowsOf eCt l),.fn g caps] objs (.lit (.bool (l.any p))) objs:=by
  rw[← idxL_any p l 0]
  refine Holds.of_body' (fn:=Tryz.f68) 9 objs.length [.tmp 4] Tryz.func68 rfl rfl rfl rfl rfl (by simp) ?_
  ((refine Vb (X3 @rows_length @rows_getD @eCt.eq_1) ?_)<;>try with_reducible intro K hK)
  refine callK_all (indexCt_ok l g caps objs p hl hg) (Nat.le_refl _) ?_
  ((try revert hK K);(refine Vb (X3 @rows_length @rows_getD @eCt.eq_1) ?_))
  exact RetOK_all rfl (Nat.le_refl _) rfl
theorem indexInt_ok (l:List Int) (g:FuncId) (caps:List AV) (objs:List Ob) (p:Int→Bool) (hl:l.length<9223372036854775808) (hg:∀ x∈l,Holds Tryz.prog g ([.lit (.int .i64 x)]++caps) objs (.lit (.bool (p x))) objs) :
    Holds Tryz.prog 121 [.tree 1 (ints l),.fn g caps] objs (.lit (.int .i64 (idxL p 0 l))) objs:=by
  generalize hres:idxL p 0 l=res
  refine Holds.of_body' (fn:=Tryz.f121) 19 objs.length [.tmp 4] Tryz.func121 rfl rfl rfl rfl rfl (by simp) ?_
  refine Vb @Nat.add_zero ?_
  refine W_loopS (fun k:Nat=>(⟨slots [(0,.tree 1 (ints l)),(1,.fn g caps),(7,.lit (.int .i64 l.length)),(8,.lit (.int .i64 k))],objs⟩:St)) (fun k=>k≤l.length∧idxL p k (l.drop k)=res) (fun k=>l.length - k) 0 ⟨Nat.zero_le _,hres⟩ (Xv X0) ?_
  rintro k ⟨hk,hr⟩ Ql hnl hel
  by_cases hk':k<l.length
  · have hx:=hg _ (getD_mem (d:=0) hk')
    have hd:=getD_drop0 l k 0 hk'
    generalize hxx:l.getD k 0=x at *
    rw[hd,idxL] at hr
    simp only[List.cons_append,List.nil_append] at hx
    ((repeat' (first|refine Vb (X2 @Nat.add_zero @hxx) ?_|(refine Xi ?_ ?_<;>try intro ht)|exact Xx|fail))<;>try with_reducible intro K hK)
    refine callK_all hx (Nat.le_refl _) ?_
    ((try revert hK K);(repeat' (first|refine Vb @Nat.add_zero ?_|(refine Xi ?_ ?_<;>try intro ht)|fail)))
    · rw[if_pos (by assumption)] at hr
      rw[← hr]
      exact RetOK_all rfl (Nat.le_refl _) rfl
    · rw[if_neg (by simp_all)] at hr
      exact hnl _ (k+1) ⟨by omega,hr⟩ (by omega) (Xv X0)
  · ((repeat' (first|refine Vb @Nat.add_zero ?_|(refine Xi ?_ ?_<;>try intro ht)|exact Xx|fail)))
    rw[List.drop_eq_nil_of_le (by omega),idxL] at hr
    rw[← hr]
    exact RetOK_all rfl (Nat.le_refl _) rfl
theorem containsInt_ok (l:List Int) (g:FuncId) (caps:List AV) (objs:List Ob) (p:Int→Bool) (hl:l.length<9223372036854775808) (hg:∀ x∈l,Holds Tryz.prog g ([.lit (.int .i64 x)]++caps) objs (.lit (.bool (p x))) objs) :
    Holds Tryz.prog 101 [.tree 1 (ints l),.fn g caps] objs (.lit (.bool (l.any p))) objs:=by
  rw[← idxL_any p l 0]
  refine Holds.of_body' (fn:=Tryz.f101) 9 objs.length [.tmp 4] Tryz.func101 rfl rfl rfl rfl rfl (by simp) ?_
  ((refine Vb @Nat.add_zero ?_)<;>try with_reducible intro K hK)
  refine callK_all (indexInt_ok l g caps objs p hl hg) (Nat.le_refl _) ?_
  ((try revert hK K);(refine Vb @Nat.add_zero ?_))
  exact RetOK_all rfl (Nat.le_refl _) rfl
end T

