import Derived.Test.YtmhloinjpcabcaaGreatX19
set_option linter.unusedVariables false
set_option linter.unusedSimpArgs false
set_option linter.unnecessarySimpa false
set_option linter.unusedSectionVars false
set_option maxHeartbeats 64000000
set_option maxRecDepth 20000
open Go Go.Am Go.Proofs
open Nat (reduceEqDiff reduceAdd reduceLeDiff reduceMul)
open Int (reduceNeg reduceLE reduceToNat)
namespace T
theorem large1_ok (l:List Opt):Holds Tryz.prog 96 [.tree 6 (rowsOf eOpt l)] [] (.lit (.bool (decide (24<l.length)))) []:=by
  refine Holds.of_body' (fn:=Tryz.f96) 6 0 [.tmp 2] Tryz.func96 rfl rfl rfl rfl rfl (by simp) ?_
  repeat' (first|(refine Xr X0 ?_;intro K hK)|(refine hK _ ?_;clear hK K)|refine Xz ?_|(refine Xe ?_;first|refine RetOK_pure' rfl ?_|refine Xl ?_ ?_)|fail)
  (refine congrArg (fun b=>AV.lit (Value.bool b)) ?_;rw[Bool.eq_iff_iff];simp only[gt_iff_lt,decide_eq_true_eq,beq_iff_eq,bne_iff_ne,Bool.and_eq_true,Bool.or_eq_true,Bool.not_eq_true',decide_eq_false_iff_not,Bool.false_eq_true,reduceCtorEq,iff_true,iff_false,true_iff,false_iff,eq_self];omega)
theorem large_ok (m:Mdl) (hm:MB m):Holds Tryz.prog 62 [.agg (eMdl m)] [] (.lit (.bool (largeB m))) []:=by
  have h1:=hm.cls
  have h2:=containsCls_ok m.cls 96 [] [] (fun l=>decide (24<l.length)) h1 (fun x _=>by simpa using large1_ok x)
  unfold largeB
  generalize m.cls.any (fun l=>decide (24<l.length))=b at *
  cases b
  all_goals refine Holds.of_body' (fn:=Tryz.f62) 36 0 [.tmp 2] Tryz.func62 rfl rfl rfl rfl rfl (by simp) ?_
  all_goals repeat' (first|(refine Xq X0 ?_;intro K hK)|refine Xo X0 ?_|refine Xc (h2) ?_|(refine hK _ ?_;clear hK K)|(refine Xg X0 ?_ ?_<;>try intro hb)|refine Xz ?_|(refine Xe ?_;first|refine RetOK_pure' rfl ?_|refine Xl ?_ ?_)|fail)
  all_goals first|rfl|(simp;done)|(refine congrArg (fun b=>AV.lit (Value.bool b)) ?_;rw[Bool.eq_iff_iff];simp only[or_true,true_or,or_false,false_or,decide_eq_true_eq,beq_iff_eq,bne_iff_ne,Bool.and_eq_true,Bool.or_eq_true,Bool.not_eq_true',decide_eq_false_iff_not,Bool.false_eq_true,reduceCtorEq,iff_true,iff_false,true_iff,false_iff,eq_self];omega)
theorem charged_ok (m:Mdl) (o:Opt) (ho:o.ch.length<9223372036854775808):Holds Tryz.prog 65 [.agg (eMdl m),.agg (eOpt o)] [] (.lit (.bool (chL m.rules none o.ch))) []:=by
  generalize hres:chL m.rules none o.ch=res
  refine Holds.of_body' (fn:=Tryz.f65) 43 0 [.tmp 4] Tryz.func65 rfl rfl rfl rfl rfl (by simp) ?_
  repeat' (first|(refine Xr X0 ?_;intro K hK)|(refine hK _ ?_;clear hK K)|refine Xz ?_|fail)
  refine W_loopS (fun k:Nat=>(⟨slots [(2,.ptr 0 0 0),(3,.ptr 1 0 0),(8,.tree 2 (rowsOf eCh o.ch)),(9,.lit (.int .i64 o.ch.length)),(10,.lit (.int .i64 k))],[.var (eMdl m),.var (eOpt o)]⟩:St)) (fun k=>k≤o.ch.length∧chL m.rules (prevAt o.ch k) (o.ch.drop k)=res) (fun k=>o.ch.length - k) 0 ⟨Nat.zero_le _,hres⟩ (Xv X0) ?_
  rintro k ⟨hk,hr⟩ Ql hnl hel
  by_cases hk':k<o.ch.length
  · have hd:=getD_drop0 o.ch k default hk'
    generalize hcc:o.ch.getD k default=c at *
    rw[hd,chL_at] at hr
    have hnc:=named_ok m c.1
    have hk1:((k:Int) - 1).toNat=k - 1:=by omega
    repeat' (first|(refine Xq (X2 @hcc @hk1) ?_;intro K hK)|refine Xo (X2 @hcc @hk1) ?_|refine Xc (hnc) ?_|refine Xc (mcost_ok c.2) ?_|(refine hK _ ?_;clear hK K)|(refine Xg (X2 @hcc @hk1) ?_ ?_<;>try intro hb)|(refine Xi ?_ ?_<;>try intro ht)|refine Xz ?_|refine Xh ?_|(refine Xe ?_;first|refine RetOK_pure' rfl ?_|refine Xl ?_ ?_)|refine Xd ?_ ?_|exact Xx|fail)
    · rw[← hr];simp[*]
    · rw[← hr];simp[*]
    · rw[← hr,decide_eq_false (p:=k=0) (by omega),decide_eq_false (p:=_<c.1) (by omega)];simp
    · refine hnl _ (k+1) ⟨by omega,?_⟩ (by omega) (Xs false [0,1] X0)
      rw[prevAt_succ,hcc,← hr,decide_eq_true (p:=_<c.1) ht];simp[*]
    · refine hnl _ (k+1) ⟨by omega,?_⟩ (by omega) (Xs false [0,1] X0)
      rw[prevAt_succ,hcc,← hr,decide_eq_true (p:=k=0) (by omega)];simp[*]
  · repeat' (first|(refine Xr X0 ?_;intro K hK)|(refine hK _ ?_;clear hK K)|(refine Xi ?_ ?_<;>try intro ht)|refine Xz ?_|refine Xh ?_|(refine Xe ?_;first|refine RetOK_pure' rfl ?_|refine Xl ?_ ?_)|refine Xd ?_ ?_|exact Xx|fail)
    rw[List.drop_eq_nil_of_le (by omega),chL] at hr
    rw[← hr]
theorem order_ok (a b:Pr):Holds Tryz.prog 67 [.agg (ePr a),.agg (ePr b)] [] (.lit (.int .i64 (ordV a b))) []:=by
  refine Holds.of_body' (fn:=Tryz.f67) 22 0 [.tmp 4] Tryz.func67 rfl rfl rfl rfl rfl (by simp) ?_
  repeat' (first|(refine Xr X0 ?_;intro K hK)|(refine hK _ ?_;clear hK K)|refine Xz ?_|fail)
  (try (refine W_draw_qe [4,9,14] rfl (by decide) (by decide +kernel) ?_);intro K hK;simp (disch:=omega) only[Ac,↓Pc,simprocAttr])
  repeat' (first|refine Xo X0 ?_|refine Xc (compare_ok _ _) ?_|fail)
  refine callK_snap [] (or_ok [cmp3 a.rule b.rule,cmp3 a.fst b.fst,cmp3 a.snd b.snd] (by simp)) (by decide) trivial ⟨ArgR.frz rfl (ints_wid _) rfl (by decide) (ints_frz _),trivial⟩ rfl (by simp) ?_
  repeat' (first|refine Xo X0 ?_|(refine hK _ ?_;clear hK K)|refine Xz ?_|(refine Xe ?_;first|refine RetOK_pure' rfl ?_|refine Xl ?_ ?_)|fail)
  · rfl
theorem badN_ok (n:Int):Holds Tryz.prog 102 [.lit (.int .i64 n)] [] (.lit (.bool (badN n))) []:=by
  refine Holds.of_body' (fn:=Tryz.f102) 10 0 [.tmp 2] Tryz.func102 rfl rfl rfl rfl rfl (by simp) ?_
  repeat' (first|(refine Xq X0 ?_;intro K hK)|refine Xo X0 ?_|refine Xc (mcost_ok n) ?_|(refine hK _ ?_;clear hK K)|(refine Xg X0 ?_ ?_<;>try intro hb)|refine Xz ?_|(refine Xe ?_;first|refine RetOK_pure' rfl ?_|refine Xl ?_ ?_)|fail)
  all_goals (simp[badN, *]<;>omega)
theorem paired_ok (m:Mdl) (p:Pr) (hp:p.tab.length<9223372036854775808) (hm:∀ l∈m.cls,l.length≤24) (hl:m.cls.length≤24):Holds Tryz.prog 66 [.agg (eMdl m),.agg (ePr p)] [] (.lit (.bool (pairB m p))) []:=by
  have hg:∀ i,(m.cls.getD i default).length≤24:=fun i=>by
    rcases Nat.lt_or_ge i m.cls.length with h | h
    · exact hm _ (getD_mem h)
    · rw[List.getD_eq_getElem?_getD,List.getElem?_eq_none h];decide
  have h1:=hg p.fst.toNat
  have h2:=hg p.snd.toNat
  have hmul:(0:Int)≤(m.cls.getD p.fst.toNat default).length * (m.cls.getD p.snd.toNat default).length∧((m.cls.getD p.fst.toNat default).length:Int) * (m.cls.getD p.snd.toNat default).length≤24 * 24:=⟨Int.mul_nonneg (by omega) (by omega),Int.mul_le_mul (by omega) (by omega) (by omega) (by omega)⟩
  have hc:=containsInt_ok p.tab 102 [] [] badN hp (fun x _=>by simpa using badN_ok x)
  unfold pairB
  generalize hmm:((m.cls.getD p.fst.toNat default).length:Int) * (m.cls.getD p.snd.toNat default).length=mm at *
  refine Holds.of_body' (fn:=Tryz.f66) 55 0 [.tmp 4] Tryz.func66 rfl rfl rfl rfl rfl (by simp) ?_
  repeat' (first|(refine Xq @hmm ?_;intro K hK)|refine Xo @hmm ?_|refine Xc (named_ok m p.rule) ?_|refine Xc (hc) ?_|(refine hK _ ?_;clear hK K)|(refine Xg @hmm ?_ ?_<;>try intro hb)|(refine Xi ?_ ?_<;>try intro ht)|refine Xz ?_|(refine Xe ?_;first|refine RetOK_pure' rfl ?_|refine Xl ?_ ?_)|refine Xd ?_ ?_|exact Xx|fail)
  · rw[hb];rfl
  iterate 4
    · rw[decide_eq_false (by omega)];simp
  · rw[decide_eq_true (by omega)];simp[*]
end T

