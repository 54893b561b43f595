import Derived.Test.YtmhloinjpcabcaaGreatX24
import Derived.Test.YtmhloinjpcabcaaGreatX19
set_option linter.unusedVariables false
set_option linter.unusedSimpArgs false
set_option linter.unnecessarySimpa false
set_option linter.unusedSectionVars false
set_option maxHeartbeats 64000000
set_option maxRecDepth 20000
open Go Go.Am Go.Proofs
open Nat (reduceEqDiff reduceAdd reduceLeDiff reduceMul)
open Int (reduceNeg reduceLE reduceToNat)
namespace T
def idxN (v:Int):List Int→Int→Int
  | [],_=>-1
  | x::r,k=>if v=x then k else idxN v r (k+1)
theorem idxN_nonneg (v:Int):∀ (l:List Int) (k:Int),0≤k→(0≤idxN v l k↔v∈l)
  | [],k,hk=>by simp[idxN]
  | x::r,k,hk=>by
    rw[idxN]
    split
    · rename_i h;simp[h,hk]
    · rename_i h
      rw[idxN_nonneg v r (k+1) (by omega)]
      simp[h]
theorem indexN_ok (l:List Int) (v:Int) (hl:l.length<9223372036854775808):Holds Tryz.prog 108 [.tree 1 (ints l),.lit (.int .i64 v)] [] (.lit (.int .i64 (idxN v l 0))) []:=by
  generalize hres:idxN v l 0=res
  refine Holds.of_body' (fn:=Tryz.f108) 19 0 [.tmp 4] Tryz.func108 rfl rfl rfl rfl rfl (by simp) ?_
  repeat' (first|(refine Xr X0 ?_;intro K hK)|(refine hK _ ?_;clear hK K)|refine Xz ?_|fail)
  refine W_loopS (fun k:Nat=>(⟨slots [(0,.tree 1 (ints l)),(1,.lit (.int .i64 v)),(7,.lit (.int .i64 l.length)),(8,.lit (.int .i64 k))],[]⟩:St)) (fun k=>k≤l.length∧idxN v (l.drop k) k=res) (fun k=>l.length - k) 0 ⟨Nat.zero_le _,hres⟩ (Xv X0) ?_
  rintro k ⟨hk,hr⟩ Ql hnl hel
  by_cases hk':k<l.length
  · have hd:=getD_drop0 l k 0 hk'
    generalize hcc:l.getD k 0=x at *
    rw[hd,idxN] at hr
    ((repeat' (first|refine Va @hcc ?_|(refine Xi ?_ ?_<;>try intro ht)|exact Xx|fail)))
    · rw[if_pos (by assumption)] at hr
      repeat (refine Xu ?_)
      refine Vb X0 ?_
      rw[← hr]
      exact RetOK_pure rfl
    · rw[if_neg (by assumption)] at hr
      exact hnl _ (k+1) ⟨by omega,hr⟩ (by omega) (Xv X0)
  · ((repeat' (first|refine Va X0 ?_|(refine Xi ?_ ?_<;>try intro ht)|exact Xx|fail)))
    rw[List.drop_eq_nil_of_le (by omega),idxN] at hr
    refine hel _ _ rfl ?_;clear hnl hel Ql
    repeat (refine Xu ?_)
    refine Vb X0 ?_
    rw[← hr]
    exact RetOK_pure rfl
theorem containsN_ok (l:List Int) (v:Int) (hl:l.length<9223372036854775808):Holds Tryz.prog 81 [.tree 1 (ints l),.lit (.int .i64 v)] [] (.lit (.bool (l.contains v))) []:=by
  have h:=idxN_nonneg v l 0 (by omega)
  refine Holds.of_body' (fn:=Tryz.f81) 9 0 [.tmp 4] Tryz.func81 rfl rfl rfl rfl rfl (by simp) ?_
  repeat' (first|(refine Xq X0 ?_;intro K hK)|refine Xo X0 ?_|refine Xc (indexN_ok l v hl) ?_|(refine hK _ ?_;clear hK K)|refine Xz ?_|(refine Xe ?_;first|refine RetOK_pure' rfl ?_|refine Xl ?_ ?_)|fail)
  rw[← List.contains_iff_mem] at h
  cases hb:l.contains v<;>rw[hb] at h
  · rw[decide_eq_false (by simpa using h)]
  · rw[decide_eq_true (by simpa using h)]
end T

