import Derived.Test.YtmhloinjpcabcaaGreatX31
import Derived.Test.YtmhloinjpcabcaaGreatX21
import Derived.Test.YtmhloinjpcabcaaGreatX32
set_option linter.unusedVariables false
set_option linter.unusedSimpArgs false
set_option linter.unnecessarySimpa false
set_option linter.unusedSectionVars false
set_option maxHeartbeats 64000000
set_option maxRecDepth 20000
open Go Go.Am Go.Proofs
open Nat (reduceEqDiff reduceAdd reduceLeDiff reduceMul)
open Int (reduceNeg reduceLE reduceToNat)
namespace T
theorem counted_ok (m:Mdl) (c:Ct) (hc:c.loads.length<9223372036854775808):Holds Tryz.prog 70 [.agg (eMdl m),.agg (eCt c)] [] (.lit (.bool (ctB m c))) []:=by
  have hnm:=named_ok m c.rule
  have hpr:=mcost_ok c.pen
  generalize hres:ctB m c=res
  unfold ctB at hres
  refine Holds.of_body' (fn:=Tryz.f70) 81 0 [.tmp 4] Tryz.func70 rfl rfl rfl rfl rfl (by simp) ?_
  repeat' (first|(refine Xq X0 ?_;intro K hK)|refine Xo X0 ?_|refine Xc (hnm) ?_|refine Xc (hpr) ?_|(refine hK _ ?_;clear hK K)|(refine Xg X0 ?_ ?_<;>try intro hb)|(refine Xi ?_ ?_<;>try intro ht)|refine Xz ?_|(refine Xe ?_;first|refine RetOK_pure' rfl ?_|refine Xl ?_ ?_)|exact Xx|fail)
  · rw[← hres,hb];rfl
  · rw[← hres,decide_eq_false (by omega)];simp
  · rw[← hres,decide_eq_false (by omega)];simp
  · rw[← hres,ht];simp
  have hin:(ruleB m.rules c.rule && decide (0≤c.most∧c.most≤1048576) && priceB c.pen)=true:=by rw[decide_eq_true (by omega)];simp[*]
  rw[hin,Bool.true_and] at hres
  refine W_loopS (fun k:Nat=>(⟨slots [(2,.ptr 0 0 0),(3,.ptr 1 0 0),(29,.tree 3 (rowsOf eLd c.loads)),(30,.lit (.int .i64 c.loads.length)),(31,.lit (.int .i64 k))],[.var (eMdl m),.var (eCt c)]⟩:St)) (fun k=>k≤c.loads.length∧ldL m (prevAt c.loads k) (c.loads.drop k)=res) (fun k=>c.loads.length - k) 0 ⟨Nat.zero_le _,hres⟩ (Xv X0) ?_
  rintro k ⟨hk,hr⟩ Ql hnl hel
  by_cases hk':k<c.loads.length
  · have hd:=getD_drop0 c.loads k default hk'
    generalize hcc:c.loads.getD k default=x at *
    rw[hd,ldL_at] at hr
    have hk1:((k:Int) - 1).toNat=k - 1:=by omega
    generalize hpp:c.loads.getD (k - 1) default=y at *
    repeat' (first|(refine Xr (X2 @hcc @hk1) ?_;intro K hK)|refine Xo (X2 @hcc @hk1) ?_|refine Xc (option_ok m x.cls x.opt) ?_|(refine hK _ ?_;clear hK K)|(refine Xg (X2 @hcc @hk1) ?_ ?_<;>try intro hb)|(refine Xi ?_ ?_<;>try intro ht)|refine Xz ?_|refine Xh ?_|(refine Xe ?_;first|refine RetOK_pure' rfl ?_|refine Xl ?_ ?_)|refine Xd ?_ ?_|exact Xx|fail)
    · rw[← hr,hb];simp
    · rw[← hr,decide_eq_false (p:=1≤x.wt∧x.wt≤1000) (by omega)];simp
    · rw[← hr,decide_eq_false (p:=1≤x.wt∧x.wt≤1000) (by omega)];simp
    have hw:decide (1≤x.wt∧x.wt≤1000)=true:=decide_eq_true (by omega)
    have hob:optB m x.cls x.opt=true:=by assumption
    rw[hob,hw,Bool.true_and,Bool.true_and] at hr
    (try (refine W_draw_qe [12,22] rfl (by decide) (by decide +kernel) ?_);intro K hK;simp (disch:=omega) only[Ac,↓Pc,simprocAttr,hcc,hk1,hpp])
    repeat' (first|(refine Xq (X3 @hcc @hk1 @hpp) ?_;intro K hK)|refine Xo (X3 @hcc @hk1 @hpp) ?_|refine Xc (compare_ok _ _) ?_|(refine hK _ ?_;clear hK K)|(refine Xg (X3 @hcc @hk1 @hpp) ?_ ?_<;>try intro hb)|(refine Xi ?_ ?_<;>try intro ht)|refine Xz ?_|refine Xd ?_ ?_|exact Xx|fail)
    · refine callK_snap [] (or_ok [cmp3 y.cls x.cls,cmp3 y.opt x.opt] (by simp)) (by decide) trivial ⟨ArgR.frz rfl (ints_wid _) rfl (by decide) (ints_frz _),trivial⟩ rfl (by simp) ?_
      repeat' (first|(refine Xr (X3 @hcc @hk1 @hpp) ?_;intro K hK)|refine Xo (X3 @hcc @hk1 @hpp) ?_|(refine hK _ ?_;clear hK K)|(refine Xi ?_ ?_<;>try intro ht)|refine Xz ?_|refine Xh ?_|(refine Xe ?_;first|refine RetOK_pure' rfl ?_|refine Xl ?_ ?_)|refine Xd ?_ ?_|exact Xx|fail)
      · rw[← hr,decide_eq_false (p:=k=0) (by omega),decide_eq_false (p:=ldOrd y x<0) (by unfold ldOrd;omega)];simp
      · refine hnl _ (k+1) ⟨by omega,?_⟩ (by omega) (Xs false [0,1] X0)
        rw[prevAt_succ,hcc,← hr,decide_eq_true (p:=ldOrd y x<0) (by unfold ldOrd;omega)];simp
    · refine hnl _ (k+1) ⟨by omega,?_⟩ (by omega) (Xs false [0,1] X0)
      rw[prevAt_succ,hcc,← hr,decide_eq_true (p:=k=0) (by omega)];simp
  · repeat' (first|(refine Xr X0 ?_;intro K hK)|(refine hK _ ?_;clear hK K)|(refine Xi ?_ ?_<;>try intro ht)|refine Xz ?_|refine Xh ?_|(refine Xe ?_;first|refine RetOK_pure' rfl ?_|refine Xl ?_ ?_)|refine Xd ?_ ?_|exact Xx|fail)
    rw[List.drop_eq_nil_of_le (by omega),ldL] at hr
    rw[← hr]
theorem valid1_ok (m:Mdl) (o:Opt) (ho:o.ch.length<9223372036854775808):Holds Tryz.prog 64 [.agg (eOpt o),.ptr 0 0 0] [.var (eMdl m)] (.lit (.bool (!chL m.rules none o.ch))) [.var (eMdl m)]:=by
  refine Holds.of_body' (fn:=Tryz.f64) 8 1 [.tmp 3] Tryz.func64 rfl rfl rfl rfl rfl (by simp) ?_
  refine Vd X0 (charged_ok m o ho) ?_
  exact Xw false [0] X0
theorem valid2_ok (m:Mdl) (c:Ct) (hc:c.loads.length<9223372036854775808):Holds Tryz.prog 69 [.agg (eCt c),.ptr 0 0 0] [.var (eMdl m)] (.lit (.bool (!ctB m c))) [.var (eMdl m)]:=by
  refine Holds.of_body' (fn:=Tryz.f69) 8 1 [.tmp 3] Tryz.func69 rfl rfl rfl rfl rfl (by simp) ?_
  refine Vd X0 (counted_ok m c hc) ?_
  exact Xw false [0] X0
theorem any_drop {α:Type} [Inhabited α] {l:List α} {f:α→Bool} {k:Nat} (hk:k<l.length):(l.drop k).any f=(f (l.getD k default) || (l.drop (k+1)).any f):=by
  rw[getD_drop0 l k default hk,List.any_cons]
theorem valid_ok (m:Mdl) (hm:MB m):Holds Tryz.prog 29 [.agg (eMdl m)] [] (.lit (.int .i64 (validV m))) []:=by
  generalize hres:validV m=res
  unfold validV at hres
  have hm1:=hm.cls
  have hm2:=hm.prs
  refine Holds.of_body' (fn:=Tryz.f29) 52 0 [.tmp 2] Tryz.func29 rfl rfl rfl rfl rfl (by simp) ?_
  repeat' (first|(refine Xq X0 ?_;intro K hK)|refine Xc (large_ok m hm) ?_|(refine hK _ ?_;clear hK K)|(refine Xi ?_ ?_<;>try intro ht)|refine Xz ?_|(refine Xe ?_;first|refine RetOK_pure' rfl ?_|refine Xl ?_ ?_)|fail)
  · rw[if_pos ht] at hres;rw[← hres]
  rw[if_neg (by simp[ht])] at hres
  have hsz:m.cls.length≤24∧∀ l∈m.cls,l.length≤24:=by
    have h:=ht
    unfold largeB at h
    rw[decide_eq_false_iff_not] at h
    refine⟨by omega,fun l hl=>?_⟩
    rcases Nat.lt_or_ge 24 l.length with h1 | h1
    · exact absurd (.inr (.inl (List.any_eq_true.2 ⟨l,hl,by simpa using h1⟩))) h
    · exact h1
  clear ht
  refine W_loopS (fun k:Nat=>(⟨slots [(1,.ptr 0 0 0),(10,.tree 1 (rowsOf eCls m.cls)),(11,.lit (.int .i64 m.cls.length)),(12,.lit (.int .i64 k))],[.var (eMdl m)]⟩:St)) (fun k=>k≤m.cls.length∧(m.cls.any fun l=>l.any fun o=>!chL m.rules none o.ch)=(m.cls.drop k).any fun l=>l.any fun o=>!chL m.rules none o.ch) (fun k=>m.cls.length - k) 0 ⟨Nat.zero_le _,rfl⟩ (Xv X0) ?_
  rintro k ⟨hk,hr⟩ Ql hnl hel
  by_cases hk':k<m.cls.length
  · have hmem:=getD_mem (d:=(default:List Opt)) hk'
    rw[any_drop hk'] at hr
    generalize hcc:m.cls.getD k default=l at *
    have hcall:=containsOpt_ok l 64 [.ptr 0 0 0] [.var (eMdl m)] (fun o=>!chL m.rules none o.ch) (hm.opt l hmem) (fun o ho=>by simpa using valid1_ok m o (hm.ch l hmem o ho))
    repeat' (first|(refine Xr @hcc ?_;intro K hK)|(refine hK _ ?_;clear hK K)|(refine Xi ?_ ?_<;>try intro ht)|refine Xz ?_|refine Xh ?_|refine Xd ?_ ?_|exact Xx|fail)
    refine callK_all hcall (Nat.le_refl _) ?_
    repeat' (first|(refine Xr @hcc ?_;intro K hK)|(refine hK _ ?_;clear hK K)|(refine Xi ?_ ?_<;>try intro ht)|refine Xz ?_|refine Xh ?_|(refine Xe ?_;first|refine RetOK_pure' rfl ?_|refine Xl ?_ ?_)|refine Xd ?_ ?_|exact Xx|fail)
    · rw[ht,Bool.true_or] at hr
      rw[if_pos hr] at hres;rw[← hres]
    · rw[ht,Bool.false_or] at hr
      exact hnl _ (k+1) ⟨by omega,hr⟩ (by omega) (Xv X0)
  rw[List.drop_eq_nil_of_le (by omega),List.any_nil] at hr
  rw[if_neg (by rw[hr];simp)] at hres
  ((repeat' (first|refine Va X0 ?_|(refine Xi ?_ ?_<;>try intro ht)|exact Xx|fail)))
  refine hel _ _ rfl ?_;clear hnl hel Ql
  clear hr hk' hk
  repeat (refine Xu ?_)
  repeat' (first|(refine Xr X0 ?_;intro K hK)|(refine hK _ ?_;clear hK K)|refine Xz ?_|fail)
  refine W_loopS (fun k:Nat=>(⟨slots [(1,.ptr 0 0 0),(21,.tree 4 (rowsOf ePr m.prs)),(22,.lit (.int .i64 m.prs.length)),(23,.lit (.int .i64 k))],[.var (eMdl m)]⟩:St)) (fun k=>k≤m.prs.length∧prsL m none m.prs=prsL m (prevAt m.prs k) (m.prs.drop k)) (fun k=>m.prs.length - k) 0 ⟨Nat.zero_le _,rfl⟩ (Xv X0) ?_
  rintro k ⟨hk,hr⟩ Ql hnl hel
  by_cases hk':k<m.prs.length
  · have hmem:=getD_mem (d:=(default:Pr)) hk'
    have hd:=getD_drop0 m.prs k default hk'
    have hk1:((k:Int) - 1).toNat=k - 1:=by omega
    generalize hcc:m.prs.getD k default=p at *
    rw[hd,prsL_at] at hr
    generalize hpp:m.prs.getD (k - 1) default=q at *
    repeat' (first|(refine Xq (X3 @hcc @hk1 @hpp) ?_;intro K hK)|refine Xo (X3 @hcc @hk1 @hpp) ?_|refine Xc (paired_ok m p (hm.tab p hmem) hsz.2 hsz.1) ?_|refine Xc (order_ok q p) ?_|(refine hK _ ?_;clear hK K)|(refine Xg (X3 @hcc @hk1 @hpp) ?_ ?_<;>try intro hb)|(refine Xi ?_ ?_<;>try intro ht)|refine Xz ?_|refine Xh ?_|(refine Xe ?_;first|refine RetOK_pure' rfl ?_|refine Xl ?_ ?_)|refine Xd ?_ ?_|exact Xx|fail)
    · have hpf:pairB m p=false:=by assumption
      rw[hpf,Bool.false_and,Bool.false_and] at hr
      rw[if_pos hr] at hres;rw[← hres]
    · rw[decide_eq_false (p:=k=0) (by omega),decide_eq_false (p:=ordV q p<0) (by omega),Bool.or_false,Bool.and_false,Bool.false_and] at hr
      rw[if_pos hr] at hres;rw[← hres]
    · have hpf:pairB m p=true:=by assumption
      rw[hpf,decide_eq_true (p:=ordV q p<0) (by omega),Bool.or_true,Bool.true_and,Bool.true_and] at hr
      refine hnl _ (k+1) ⟨by omega,?_⟩ (by omega) (Xs false [0] X0)
      rw[prevAt_succ,hcc];exact hr
    · have hpf:pairB m p=true:=by assumption
      rw[hpf,decide_eq_true (p:=k=0) (by omega),Bool.true_or,Bool.true_and,Bool.true_and] at hr
      refine hnl _ (k+1) ⟨by omega,?_⟩ (by omega) (Xs false [0] X0)
      rw[prevAt_succ,hcc];exact hr
  rw[List.drop_eq_nil_of_le (by omega),prsL] at hr
  rw[if_neg (by rw[hr];simp)] at hres
  ((repeat' (first|refine Va X0 ?_|(refine Xi ?_ ?_<;>try intro ht)|exact Xx|fail)))
  refine hel _ _ rfl ?_;clear hnl hel Ql
  clear hr hk' hk
  repeat (refine Xu ?_)
  have hcall:=containsCt_ok m.cts 69 [.ptr 0 0 0] [.var (eMdl m)] (fun c=>!ctB m c) hm.cts (fun c hc=>by simpa using valid2_ok m c (hm.lds c hc))
  repeat' (first|(refine Xr X0 ?_;intro K hK)|refine Xz ?_|fail)
  refine callK_all hcall (Nat.le_refl _) ?_
  repeat' (first|(refine Xr X0 ?_;intro K hK)|(refine hK _ ?_;clear hK K)|(refine Xi ?_ ?_<;>try intro ht)|refine Xz ?_|(refine Xe ?_;first|refine RetOK_pure' rfl ?_|refine Xl ?_ ?_)|fail)
  · rw[if_pos ht] at hres;rw[← hres]
  · rw[if_neg (by rw[ht];simp)] at hres;rw[← hres]
def eBs (l:List Bool):List AV:=[.tree 1 (bools l)]
instance:Row eBs 1:=⟨fun _=>rfl,fun l v hv=>by
  simp only[eBs,List.mem_singleton] at hv;subst hv;exact .inr ⟨_,_,rfl⟩⟩
end T

