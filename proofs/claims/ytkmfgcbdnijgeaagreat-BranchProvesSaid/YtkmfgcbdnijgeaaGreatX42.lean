import Derived.Test.YtkmfgcbdnijgeaaGreatX41
import Derived.Test.YtkmfgcbdnijgeaaGreatX27
import Derived.Test.YtkmfgcbdnijgeaaGreatX38
set_option linter.unusedVariables false
set_option linter.unusedSimpArgs false
set_option linter.unnecessarySimpa false
set_option linter.unusedSectionVars false
set_option maxHeartbeats 64000000
set_option maxRecDepth 20000
open Go Go.Am Go.Proofs
open Nat (reduceEqDiff reduceAdd reduceLeDiff reduceMul)
open Int (reduceNeg reduceLE reduceToNat)
namespace T
theorem indexB_ok (l:List Bool) (hl:l.length<1000000):Holds Tryz.prog 114 [.tree 1 (bools l),.lit (.bool true)] [] (.lit (.int .i64 (fstV l 0))) []:=by
  generalize hres:fstV l 0=res
  refine Holds.of_body' (fn:=Tryz.f114) 19 0 [.tmp 4] Tryz.func114 rfl rfl rfl rfl rfl (by simp) ?_
  refine Vb X0 ?_
  refine W_loopS (fun k:Nat=>(⟨slots [(0,.tree 1 (bools l)),(1,.lit (.bool true)),(7,.lit (.int .i64 l.length)),(8,.lit (.int .i64 k))],[]⟩:St)) (fun k=>k≤l.length∧fstV (l.drop k) k=res) (fun k=>l.length - k) 0 ⟨Nat.zero_le _,hres⟩ (Xv X0) ?_
  rintro k ⟨hk,hr⟩ Ql hnl hel
  by_cases hk':k<l.length
  · have hd:=getD_drop0 l k false hk'
    generalize hbb:l.getD k false=b at *
    rw[hd,fstV] at hr
    cases b
    · rw[if_neg (by simp)] at hr
      ((repeat' (first|refine Va @hbb ?_|(refine Xi ?_ ?_<;>try intro ht)|exact Xx|fail)))
      all_goals try (exfalso;simp_all;done)
      all_goals exact hnl _ (k+1) ⟨by omega,hr⟩ (by omega) (Xv X0)
    · rw[if_pos rfl] at hr
      ((repeat' (first|refine Va @hbb ?_|(refine Xi ?_ ?_<;>try intro ht)|exact Xx|fail)))
      all_goals try (exfalso;simp_all;done)
      all_goals
        repeat (refine Xu ?_)
        refine Vb X0 ?_
        exact RetOK_pure' rfl (by rw[hr])
  · ((repeat' (first|refine Va X0 ?_|(refine Xi ?_ ?_<;>try intro ht)|exact Xx|fail)))
    rw[List.drop_eq_nil_of_le (by omega),fstV] at hr
    refine hel _ _ rfl ?_;clear hnl hel Ql
    repeat (refine Xu ?_)
    refine Vb X0 ?_
    exact RetOK_pure' rfl (by rw[hr])
theorem fsts_set {left:List (List Bool)} {i:Nat} (h:i<left.length):(ints (firstsV (left.take i)++List.replicate (left.length - i) 0)).set i [.lit (.int .i64 (fstV (left.getD i default) 0))]=ints (firstsV (left.take (i+1))++List.replicate (left.length - (i+1)) 0):=by
  rw[take_snoc h,show left.length - i=(left.length - (i+1))+1 by omega,List.replicate_succ]
  unfold firstsV ints
  rw[← List.map_set]
  congr 1
  rw[List.map_append,List.set_append_right _ _ (by simp;omega)]
  simp only[List.length_map,List.length_take,Nat.min_eq_left (Nat.le_of_lt h),Nat.sub_self,List.set_cons_zero,List.map_cons,List.map_nil,List.append_assoc,List.cons_append,List.nil_append]
theorem chosen_ok (left:List (List Bool)) (hl:left.length≤24) (hw:∀ l∈left,l.length≤24):Holds Tryz.prog 74 [.tree 1 (rowsOf eBs left)] [] (.ref 0 1 0 left.length) [.arr 1 (ints (firstsV left))]:=by
  refine Holds.of_body' (fn:=Tryz.f74) 23 0 [.tmp 2] Tryz.func74 rfl rfl rfl rfl rfl (by simp) ?_
  refine Vb X0 ?_
  refine W_loopS (fun k:Nat=>(⟨slots [(3,.ref 0 1 0 left.length),(9,.tree 1 (rowsOf eBs left)),(10,.lit (.int .i64 left.length)),(11,.lit (.int .i64 k))],[.arr 1 (ints (firstsV (left.take k)++List.replicate (left.length - k) 0))]⟩:St)) (fun k=>k≤left.length) (fun k=>left.length - k) 0 (Nat.zero_le _) (by rw[List.take_zero];unfold firstsV;simp only[List.map_nil,List.nil_append,Nat.sub_zero];exact Xs false [0] @ints_rep) ?_
  rintro k hk Ql hnl hel
  by_cases hk':k<left.length
  · have hm:=hw _ (getD_mem (d:=default) hk')
    have hix:=indexB_ok (left.getD k default) (by omega)
    have hset:=fsts_set hk'
    have hlen:(ints (firstsV (left.take k)++List.replicate (left.length - k) 0)).length=left.length:=by unfold firstsV ints;simp;omega
    have hAk:(ints (firstsV (left.take k)++List.replicate (left.length - k) 0))[k]?=some [.lit (.int .i64 0)]:=by
      unfold firstsV ints
      rw[List.getElem?_map,List.getElem?_append_right (by simp;omega),List.getElem?_replicate,if_pos (by simp;omega)];rfl
    generalize hA:ints (firstsV (left.take k)++List.replicate (left.length - k) 0)=A at *
    generalize hxx:left.getD k default=row at *
    generalize fstV row 0=x at *
    ((repeat' (first|refine Vc (X4 @hxx @eBs.eq_1 @hlen @hAk) hix ?_|(refine Xi ?_ ?_<;>try intro ht)|exact Xx|fail)))
    all_goals exact hnl _ (k+1) (by omega) (by omega) (by rw[← hset];exact Xv X0)
  · ((repeat' (first|refine Va X0 ?_|(refine Xi ?_ ?_<;>try intro ht)|exact Xx|fail)))
    refine hel _ _ rfl ?_;clear hnl hel Ql
    repeat (refine Xu ?_)
    rw[List.take_of_length_le (by omega),show left.length - k=0 by omega,List.replicate_zero,List.append_nil]
    refine Vb X0 ?_
    exact Xw false [0] X0
theorem bPlans_ok (m:Mdl) (hm:MB m):Holds Tryz.prog 12 [.agg (eMdl m)] [] (.lit (.int .i64 (plansV m))) []:=by
  have h1:=valid_ok m hm
  have hm1:=hm.cls
  generalize hres:plansV m=res
  unfold plansV at hres
  refine Holds.of_body' (fn:=Tryz.f12) 26 0 [.tmp 2] Tryz.func12 rfl rfl rfl rfl rfl (by simp) ?_
  by_cases hv:validV m=0
  rotate_left
  · rw[if_neg hv] at hres
    generalize validV m=e at *
    ((repeat' (first|refine Vd X0 h1 ?_|(refine Xi ?_ ?_<;>try intro ht)|exact Xx|fail)))
    all_goals exact RetOK_pure' rfl (by rw[hres])
  rw[if_pos hv] at hres
  rw[hv] at h1
  have hvm:=valid_iff.1 hv
  ((repeat' (first|refine Vd @bne_self_eq_false.{0} h1 ?_|(refine Xi ?_ ?_<;>try intro ht)|exact Xx|fail)))
  refine W_loopS (fun z:Nat × Int=>(⟨slots [(3,.lit (.int .i64 z.2)),(10,.tree 1 (rowsOf eCls m.cls)),(11,.lit (.int .i64 m.cls.length)),(12,.lit (.int .i64 z.1))],[]⟩:St))
    (fun z=>z.1≤m.cls.length∧0≤z.2∧z.2≤65537∧plansL (m.cls.drop z.1) z.2=res) (fun z=>m.cls.length - z.1) (0,1) ⟨Nat.zero_le _,by dsimp only;omega,by dsimp only;omega,hres⟩ (Xs false [] X0) ?_
  rintro ⟨i,n⟩ ⟨hi,hn0,hn1,hr⟩ Ql hnl hel
  dsimp only at hi hn0 hn1 hr ⊢
  by_cases hi':i<m.cls.length
  · have hd:=getD_drop0 m.cls i default hi'
    have hc:=hvm.opt _ (getD_mem (d:=default) hi')
    generalize hcc:m.cls.getD i default=c at *
    rw[hd,plansL] at hr
    have hmul:0≤n * (c.length:Int)∧n * (c.length:Int)≤65537 * 24:=⟨Int.mul_nonneg hn0 (by omega),Int.mul_le_mul hn1 (by omega) (by omega) (by omega)⟩
    generalize hnc:n * (c.length:Int)=nc at *
    by_cases h0:c.length=0
    · rw[if_pos h0] at hr
      ((repeat' (first|refine Va (X3 @hcc @eCls.eq_1 @hnc) ?_|(refine Xi ?_ ?_<;>try intro ht)|exact Xx|fail)))
      all_goals
        repeat (refine Xu ?_)
        refine Vb X0 ?_
        exact RetOK_pure' rfl (by rw[hr])
    · rw[if_neg h0] at hr
      ((repeat' (first|refine Va (X3 @hcc @eCls.eq_1 @hnc) ?_|(refine Xi ?_ ?_<;>try intro ht)|exact Xx|fail)))
      all_goals exact hnl _ (i+1,min nc 65537) ⟨by dsimp only;omega,by dsimp only;omega,by dsimp only;omega,hr⟩ (by dsimp only;omega) (Xv X0)
  · rw[List.drop_eq_nil_of_le (by omega),plansL] at hr
    ((repeat' (first|refine Va X0 ?_|(refine Xi ?_ ?_<;>try intro ht)|exact Xx|fail)))
    refine hel _ _ rfl ?_;clear hnl hel Ql
    repeat (refine Xu ?_)
    refine Vb X0 ?_
    exact RetOK_pure' rfl (by rw[hr])
end T

