import Derived.Test.YtmhloinjpcabcaaGreatX33
import Derived.Test.YtmhloinjpcabcaaGreatX23
set_option linter.unusedVariables false
set_option linter.unusedSimpArgs false
set_option linter.unnecessarySimpa false
set_option linter.unusedSectionVars false
set_option maxHeartbeats 64000000
set_option maxRecDepth 20000
open Go Go.Am Go.Proofs
open Nat (reduceEqDiff reduceAdd reduceLeDiff reduceMul)
open Int (reduceNeg reduceLE reduceToNat)
namespace T
theorem sized_ok (m:Mdl) (hm:MB m):Holds Tryz.prog 82 [.agg (eMdl m)] [] (.lit (.bool (!largeB m))) []:=by
  have hm1:=hm.cls
  have hm2:=hm.prs
  have hm3:=hm.cts
  unfold largeB
  generalize hany:m.cls.any (fun l=>decide (24<l.length))=b
  refine Holds.of_body' (fn:=Tryz.f82) 44 0 [.tmp 2] Tryz.func82 rfl rfl rfl rfl rfl (by simp) ?_
  refine Vb X0 ?_
  refine W_loopS (fun i:Nat=>(⟨slots [(1,.ptr 0 0 0),(3,.lit (.int .i64 i))],[.var (eMdl m)]⟩:St)) (fun i=>i≤m.cls.length∧(m.cls.drop i).any (fun l=>decide (24<l.length))=b) (fun i=>m.cls.length - i) 0 ⟨Nat.zero_le _,hany⟩ (Xv X0) ?_
  rintro i ⟨hi,hr⟩ Ql hnl hel
  by_cases hi':i<m.cls.length
  · have hlo:=hm.opt _ (getD_mem (d:=(default:List Opt)) hi')
    rw[any_drop hi'] at hr
    generalize hll:m.cls.getD i default=l at *
    ((repeat' (first|refine Va @hll ?_|(refine Xi ?_ ?_<;>try intro ht)|exact Xx|fail)))
    · rw[decide_eq_true (p:=24<l.length) (by omega),Bool.true_or] at hr
      subst hr
      refine Vb X0 ?_
      exact RetOK_pure' rfl (by simp)
    · rw[decide_eq_false (p:=24<l.length) (by omega),Bool.false_or] at hr
      exact hnl _ (i+1) ⟨by omega,hr⟩ (by omega) (Xv X0)
  · rw[List.drop_eq_nil_of_le (by omega),List.any_nil] at hr
    subst hr
    ((repeat' (first|refine Va X0 ?_|(refine Xi ?_ ?_<;>try intro ht)|exact Xx|fail)))
    refine hel _ _ rfl ?_;clear hnl hel Ql
    repeat (refine Xu ?_)
    ((repeat' (first|refine Vb X0 ?_|(refine V2 X0 ?_ ?_<;>try with_reducible intro hb)|fail)))
    all_goals refine RetOK_pure' rfl ?_
    all_goals (refine congrArg (fun b=>AV.lit (Value.bool b)) ?_;rw[Bool.eq_iff_iff];simp only[or_true,true_or,or_false,false_or,decide_eq_true_eq,beq_iff_eq,bne_iff_ne,Bool.and_eq_true,Bool.or_eq_true,Bool.not_eq_true',decide_eq_false_iff_not,Bool.false_eq_true,reduceCtorEq,iff_true,iff_false,true_iff,false_iff,eq_self];omega)
theorem refPaired_ok (m:Mdl) (k:Nat) (hk:k<m.prs.length) (hp:∀ p∈m.prs,p.tab.length<9223372036854775808) (hm:∀ l∈m.cls,l.length≤24) (hl:m.cls.length≤24) (hpl:m.prs.length<9223372036854775808) :
    Holds Tryz.prog 85 [.agg (eMdl m),.lit (.int .i64 k)] [] (.lit (.bool (pairB m (m.prs.getD k default) && (decide (k=0) || decide (ordV (m.prs.getD (k - 1) default) (m.prs.getD k default)<0))))) []:=by
  have hk1:((k:Int) - 1).toNat=k - 1:=by omega
  have htab:=hp _ (getD_mem (d:=(default:Pr)) hk)
  generalize hpp:m.prs.getD k default=p at *
  generalize hqq:m.prs.getD (k - 1) default=q at *
  have hg:∀ i,(m.cls.getD i default).length≤24:=fun i=>by
    rcases Nat.lt_or_ge i m.cls.length with h | h
    · exact hm _ (getD_mem h)
    · rw[List.getD_eq_getElem?_getD,List.getElem?_eq_none h];decide
  have h1:=hg p.fst.toNat
  have h2:=hg p.snd.toNat
  have hmul:(0:Int)≤(m.cls.getD p.fst.toNat default).length * (m.cls.getD p.snd.toNat default).length∧((m.cls.getD p.fst.toNat default).length:Int) * (m.cls.getD p.snd.toNat default).length≤24 * 24:=⟨Int.mul_nonneg (by omega) (by omega),Int.mul_le_mul (by omega) (by omega) (by omega) (by omega)⟩
  have hord:decide (ordV q p<0)=(decide (q.rule<p.rule) || decide (q.rule=p.rule) && (decide (q.fst<p.fst) || decide (q.fst=p.fst) && decide (q.snd<p.snd))):=by
    rw[Bool.eq_iff_iff]
    simp only[decide_eq_true_eq,Bool.or_eq_true,Bool.and_eq_true,ordV_lt]
  have hru:=rule_ok m p.rule
  rw[hord]
  unfold pairB
  generalize hany:p.tab.any badN=bad
  generalize hmm:((m.cls.getD p.fst.toNat default).length:Int) * (m.cls.getD p.snd.toNat default).length=mm at *
  generalize hD:decide (0≤p.fst∧p.fst<p.snd∧p.snd<m.cls.length∧(p.tab.length:Int)=mm)=D
  generalize hO:(decide (q.rule<p.rule) || decide (q.rule=p.rule) && (decide (q.fst<p.fst) || decide (q.fst=p.fst) && decide (q.snd<p.snd)))=O
  refine Holds.of_body' (fn:=Tryz.f85) 114 0 [.tmp 4] Tryz.func85 rfl rfl rfl rfl rfl (by simp) ?_
  ((repeat' (first|refine Vd (X2 @hpp @hmm) hru ?_|(refine V2 (X2 @hpp @hmm) ?_ ?_<;>try with_reducible intro hb)|(refine Xi ?_ ?_<;>try intro ht)|exact Xx|fail)))
  all_goals try (refine RetOK_pure' rfl ?_;first|(rw[hb];rfl)|(rw[show D=false by rw[← hD];exact decide_eq_false (by omega)];simp;done))
  have hDt:D=true:=by rw[← hD];exact decide_eq_true (by omega)
  subst hDt
  have hrt:ruleB m.rules p.rule=true:=by assumption
  refine W_loopS (fun i:Nat=>(⟨slots [(1,.lit (.int .i64 k)),(2,.ptr 0 0 0),(5,.ptr 1 0 0),(6,.lit (.int .i64 i))],[.var (eMdl m),.var (ePr p)]⟩:St)) (fun i=>i≤p.tab.length∧(p.tab.drop i).any badN=bad) (fun i=>p.tab.length - i) 0 ⟨Nat.zero_le _,hany⟩ (Xv X0) ?_
  rintro i ⟨hi,hr⟩ Ql hnl hel
  by_cases hi':i<p.tab.length
  · rw[getD_drop0 p.tab i 0 hi',List.any_cons] at hr
    generalize hxx:p.tab.getD i 0=x at *
    ((repeat' (first|refine Vc @hxx (price_ok x) ?_|(refine V2 @hxx ?_ ?_<;>try with_reducible intro hb)|(refine Xi ?_ ?_<;>try intro ht)|exact Xx|fail)))
    · rw[show badN x=true by simp[badN, *],Bool.true_or] at hr
      subst hr
      refine Vb X0 ?_
      exact RetOK_pure' rfl (by simp)
    · rw[show badN x=false by simp[badN, *],Bool.false_or] at hr
      exact hnl _ (i+1) ⟨by omega,hr⟩ (by omega) (Xs false [0,1] X0)
    · rw[show badN x=false by simp[badN, *],Bool.false_or] at hr
      exact hnl _ (i+1) ⟨by omega,hr⟩ (by omega) (Xs false [0,1] X0)
  · rw[List.drop_eq_nil_of_le (by omega),List.any_nil] at hr
    subst hr
    ((repeat' (first|refine Va X0 ?_|(refine V2 X0 ?_ ?_<;>try with_reducible intro hb)|(refine Xi ?_ ?_<;>try intro ht)|exact Xx|fail)))
    refine hel _ _ rfl ?_;clear hnl hel Ql
    repeat (refine Xu ?_)
    ((repeat' (first|refine Vb (X2 @hqq @hk1) ?_|(refine Xi ?_ ?_<;>try intro ht)|fail)))
    all_goals refine RetOK_pure' rfl ?_
    all_goals rw[hrt,Bool.true_and,Bool.true_and]
    · rw[decide_eq_true (p:=k=0) (by omega)];simp
    all_goals rw[decide_eq_false (p:=k=0) (by omega),← hO]
    all_goals (refine congrArg (fun b=>AV.lit (Value.bool b)) ?_;rw[Bool.eq_iff_iff];simp only[Bool.false_or,Bool.not_false,true_and,decide_eq_true_eq,beq_iff_eq,bne_iff_ne,Bool.and_eq_true,Bool.or_eq_true,Bool.not_eq_true',decide_eq_false_iff_not,Bool.false_eq_true,reduceCtorEq,iff_true,iff_false,true_iff,false_iff,eq_self];omega)
theorem refCounted_ok (m:Mdl) (c:Ct) (hc:c.loads.length<9223372036854775808):Holds Tryz.prog 86 [.agg (eMdl m),.agg (eCt c)] [] (.lit (.bool (ctB m c))) []:=by
  have hnm:=rule_ok m c.rule
  have hpr:=price_ok c.pen
  generalize hres:ctB m c=res
  unfold ctB at hres
  generalize hD:decide (0≤c.most∧c.most≤1048576)=D at *
  refine Holds.of_body' (fn:=Tryz.f86) 85 0 [.tmp 4] Tryz.func86 rfl rfl rfl rfl rfl (by simp) ?_
  ((repeat' (first|refine Vd X0 (X2 hnm hpr) ?_|(refine V2 X0 ?_ ?_<;>try with_reducible intro hb)|(refine Xi ?_ ?_<;>try intro ht)|exact Xx|fail)))
  all_goals try (refine RetOK_pure' rfl ?_;first|(rw[← hres,hb];rfl)|(rw[← hres,show D=false by rw[← hD];exact decide_eq_false (by omega)];simp;done)|(rw[← hres,ht];simp;done))
  have hDt:D=true:=by rw[← hD];exact decide_eq_true (by omega)
  subst hDt
  have hin:(ruleB m.rules c.rule && true && priceB c.pen)=true:=by simp[*]
  rw[hin,Bool.true_and] at hres
  refine W_loopS (fun k:Nat=>(⟨slots [(2,.ptr 0 0 0),(3,.ptr 1 0 0),(5,.lit (.int .i64 k))],[.var (eMdl m),.var (eCt c)]⟩:St)) (fun k=>k≤c.loads.length∧ldL m (prevAt c.loads k) (c.loads.drop k)=res) (fun k=>c.loads.length - k) 0 ⟨Nat.zero_le _,hres⟩ (Xv X0) ?_
  rintro k ⟨hk,hr⟩ Ql hnl hel
  by_cases hk':k<c.loads.length
  · have hd:=getD_drop0 c.loads k default hk'
    generalize hcc:c.loads.getD k default=x at *
    rw[hd,ldL_at] at hr
    have hk1:((k:Int) - 1).toNat=k - 1:=by omega
    generalize hpp:c.loads.getD (k - 1) default=y at *
    generalize hob:optB m x.cls x.opt=ob at *
    have hopt:=refOption_ok m x.cls x.opt
    rw[hob] at hopt
    generalize hW:decide (1≤x.wt∧x.wt≤1000)=wb at *
    generalize hO:decide (ldOrd y x<0)=O at *
    have hOd:O=true↔y.cls<x.cls∨(y.cls=x.cls∧y.opt<x.opt):=by rw[← hO,decide_eq_true_eq,ldOrd_lt]
    ((repeat' (first|refine Vc (X3 @hcc @hpp @hk1) hopt ?_|(refine V2 (X3 @hcc @hpp @hk1) ?_ ?_<;>try with_reducible intro hb)|(refine Xi ?_ ?_<;>try intro ht)|exact Xx|fail)))
    iterate 5
      · obtain rfl:res=false:=by
          rw[← hr]
          first
            | (rw[show ob=false by assumption];rfl)
            | (rw[show wb=false by rw[← hW];exact decide_eq_false (by omega)];simp;done)
            | (rw[decide_eq_false (p:=k=0) (by omega),show O=false from Bool.eq_false_iff.2 fun h=>by have:=hOd.1 h;omega];simp;done)
        ((repeat' (first|refine Vb X0 ?_|fail)))
        exact RetOK_pure' rfl rfl
    all_goals
      refine hnl _ (k+1) ⟨by omega,?_⟩ (by omega) (Xs false [0,1] X0)
      rw[prevAt_succ,hcc,← hr,show ob=true by assumption,show wb=true by rw[← hW];exact decide_eq_true (by omega)]
      first
        | (rw[hOd.2 (by omega)];simp;done)
        | (rw[decide_eq_true (p:=k=0) (by omega)];simp;done)
  · rw[List.drop_eq_nil_of_le (by omega),ldL] at hr
    subst hr
    ((repeat' (first|refine Va X0 ?_|(refine Xi ?_ ?_<;>try intro ht)|exact Xx|fail)))
    refine hel _ _ rfl ?_;clear hnl hel Ql
    repeat (refine Xu ?_)
    refine Vb X0 ?_
    exact RetOK_pure' rfl rfl
theorem refValid_ok (m:Mdl) (hm:MB m):Holds Tryz.prog 40 [.agg (eMdl m)] [] (.lit (.int .i64 (validV m))) []:=by
  generalize hres:validV m=res
  unfold validV at hres
  have hm1:=hm.cls
  have hm2:=hm.prs
  have hm3:=hm.cts
  have hszd:=sized_ok m hm
  generalize hlb:largeB m=lb at *
  cases lb
  rotate_left
  · rw[if_pos rfl] at hres
    subst hres
    refine Holds.of_body' (fn:=Tryz.f40) 105 0 [.tmp 2] Tryz.func40 rfl rfl rfl rfl rfl (by simp) ?_
    ((repeat' (first|refine Vd @Bool.not_true hszd ?_|(refine Xi ?_ ?_<;>try intro ht)|exact Xx|fail)))
    all_goals first|exact RetOK_pure' rfl rfl|(exfalso;simp at *;done)
  rw[if_neg (by simp)] at hres
  have hsz:m.cls.length≤24∧∀ l∈m.cls,l.length≤24:=by
    have h:=hlb
    unfold largeB at h
    rw[decide_eq_false_iff_not] at h
    refine⟨by omega,fun l hl=>?_⟩
    rcases Nat.lt_or_ge 24 l.length with h1 | h1
    · exact absurd (.inr (.inl (List.any_eq_true.2 ⟨l,hl,by simpa using h1⟩))) h
    · exact h1
  generalize h1:(m.cls.any fun l=>l.any fun o=>!chL m.rules none o.ch)=b1 at *
  refine Holds.of_body' (fn:=Tryz.f40) 105 0 [.tmp 2] Tryz.func40 rfl rfl rfl rfl rfl (by simp) ?_
  ((repeat' (first|refine Vd @Bool.not_false hszd ?_|(refine Xi ?_ ?_<;>try intro ht)|exact Xx|fail)))
  refine W_loopS (fun i:Nat=>(⟨slots [(1,.ptr 0 0 0),(3,.lit (.int .i64 i))],[.var (eMdl m)]⟩:St)) (fun i=>i≤m.cls.length∧((m.cls.drop i).any fun l=>l.any fun o=>!chL m.rules none o.ch)=b1) (fun i=>m.cls.length - i) 0 ⟨Nat.zero_le _,h1⟩ (Xv X0) ?_
  rintro i ⟨hi,hr⟩ Ql hnl hel
  by_cases hi':i<m.cls.length
  · have hlm:=getD_mem (d:=(default:List Opt)) hi'
    have hol:=hm.opt _ hlm
    have hcl:=hm.ch _ hlm
    have hl24:=hsz.2 _ hlm
    rw[any_drop hi'] at hr
    generalize hll:m.cls.getD i default=l at *
    generalize hrest:((m.cls.drop (i+1)).any fun l=>l.any fun o=>!chL m.rules none o.ch)=rest at *
    ((repeat' (first|refine Va X0 ?_|(refine Xi ?_ ?_<;>try intro ht)|exact Xx|fail)))
    refine W_loopS (fun k:Nat=>(⟨slots [(1,.ptr 0 0 0),(3,.lit (.int .i64 i)),(4,.lit (.int .i64 k))],[.var (eMdl m)]⟩:St)) (fun k=>k≤l.length∧(((l.drop k).any fun o=>!chL m.rules none o.ch) || rest)=b1) (fun k=>l.length - k) 0 ⟨Nat.zero_le _,hr⟩ (Xv X0) ?_
    clear hr
    rintro k ⟨hk,hr⟩ Ql2 hnl2 hel2
    by_cases hk':k<l.length
    · have hom:=getD_mem (d:=(default:Opt)) hk'
      have hch:=hcl _ hom
      rw[any_drop hk'] at hr
      generalize hoo:l.getD k default=o at *
      generalize hrest2:((l.drop (k+1)).any fun o=>!chL m.rules none o.ch)=rest2 at *
      ((repeat' (first|refine Va (X2 @hll @hoo) ?_|(refine Xi ?_ ?_<;>try intro ht)|exact Xx|fail)))
      refine W_loopS (fun j:Nat=>(⟨slots [(1,.ptr 0 0 0),(3,.lit (.int .i64 i)),(4,.lit (.int .i64 k)),(5,.tree 2 (rowsOf eCh o.ch)),(6,.lit (.int .i64 j))],[.var (eMdl m)]⟩:St)) (fun j=>j≤o.ch.length∧(!chL m.rules (prevAt o.ch j) (o.ch.drop j) || rest2 || rest)=b1) (fun j=>o.ch.length - j) 0 ⟨Nat.zero_le _,hr⟩ (Xv X0) ?_
      clear hr
      rintro j ⟨hj,hr⟩ Ql3 hnl3 hel3
      by_cases hj':j<o.ch.length
      · have hd:=getD_drop0 o.ch j default hj'
        generalize hcc:o.ch.getD j default=c at *
        rw[hd,chL_at] at hr
        have hk1:((j:Int) - 1).toNat=j - 1:=by omega
        generalize hpp:o.ch.getD (j - 1) default=q at *
        have hrl:=rule_ok m c.1
        generalize hrb:ruleB m.rules c.1=rb at *
        have hpl:=price_ok c.2
        generalize hpb:priceB c.2=pb at *
        ((repeat' (first|refine Vc (X3 @hcc @hpp @hk1) (X2 hrl hpl) ?_|(refine V2 (X3 @hcc @hpp @hk1) ?_ ?_<;>try with_reducible intro hb)|(refine Xi ?_ ?_<;>try intro ht)|exact Xx|fail)))
        iterate 3
          · obtain rfl:b1=true:=by
              rw[← hr]
              first
                | (rw[show rb=false by assumption];rfl)
                | (rw[show pb=false by assumption];simp;done)
                | (rw[decide_eq_false (p:=j=0) (by omega),decide_eq_false (p:=q.1<c.1) (by omega)];simp;done)
            rw[if_pos rfl] at hres
            repeat (refine Xu ?_)
            ((repeat' (first|refine Vb X0 ?_|fail)))
            exact RetOK_pure' rfl (by rw[hres])
        all_goals
          refine hnl3 _ (j+1) ⟨by omega,?_⟩ (by omega) (Xv X0)
          rw[prevAt_succ,hcc,← hr,show rb=true by assumption,show pb=true by assumption]
          first
            | (rw[decide_eq_true (p:=q.1<c.1) (by omega)];simp;done)
            | (rw[decide_eq_true (p:=j=0) (by omega)];simp;done)
      · rw[List.drop_eq_nil_of_le (by omega),chL] at hr
        simp only[Bool.not_true,Bool.false_or] at hr
        ((repeat' (first|refine Va X0 ?_|(refine Xi ?_ ?_<;>try intro ht)|exact Xx|fail)))
        refine hel3 _ _ rfl ?_
        clear hnl3 hel3 Ql3
        repeat (refine Xu ?_)
        refine Va X0 ?_
        exact hnl2 _ (k+1) ⟨by omega,by rw[hrest2];exact hr⟩ (by omega) (Xv X0)
    · rw[List.drop_eq_nil_of_le (by omega),List.any_nil,Bool.false_or] at hr
      ((repeat' (first|refine Va @hll ?_|(refine Xi ?_ ?_<;>try intro ht)|exact Xx|fail)))
      refine hel2 _ _ rfl ?_
      clear hnl2 hel2 Ql2
      repeat (refine Xu ?_)
      refine Va X0 ?_
      exact hnl _ (i+1) ⟨by omega,by rw[hrest];exact hr⟩ (by omega) (Xv X0)
  rw[List.drop_eq_nil_of_le (by omega),List.any_nil] at hr
  subst hr
  rw[if_neg (by simp)] at hres
  ((repeat' (first|refine Va X0 ?_|(refine Xi ?_ ?_<;>try intro ht)|exact Xx|fail)))
  refine hel _ _ rfl ?_;clear hnl hel Ql
  clear hi hi'
  repeat (refine Xu ?_)
  refine Vb X0 ?_
  refine W_loopS (fun k:Nat=>(⟨slots [(1,.ptr 0 0 0),(7,.lit (.int .i64 k))],[.var (eMdl m)]⟩:St)) (fun k=>k≤m.prs.length∧prsL m none m.prs=prsL m (prevAt m.prs k) (m.prs.drop k)) (fun k=>m.prs.length - k) 0 ⟨Nat.zero_le _,rfl⟩ (Xv X0) ?_
  rintro k ⟨hk,hr⟩ Ql hnl hel
  by_cases hk':k<m.prs.length
  · have hd:=getD_drop0 m.prs k default hk'
    have hpr:=refPaired_ok m k hk' hm.tab hsz.2 hsz.1 hm.prs
    rw[hd,prsL_at] at hr
    generalize (pairB m (m.prs.getD k default) && (decide (k=0) || decide (ordV (m.prs.getD (k - 1) default) (m.prs.getD k default)<0)))=pb at *
    ((repeat' (first|refine Vc X0 hpr ?_|(refine Xi ?_ ?_<;>try intro ht)|exact Xx|fail)))
    · obtain rfl:pb=false:=by assumption
      rw[Bool.false_and] at hr
      rw[if_pos hr] at hres
      subst hres
      refine Vb X0 ?_
      exact RetOK_pure' rfl rfl
    · obtain rfl:pb=true:=by assumption
      rw[Bool.true_and] at hr
      exact hnl _ (k+1) ⟨by omega,by rw[prevAt_succ];exact hr⟩ (by omega) (Xv X0)
  rw[List.drop_eq_nil_of_le (by omega),prsL] at hr
  rw[if_neg (by rw[hr];simp)] at hres
  ((repeat' (first|refine Va X0 ?_|(refine Xi ?_ ?_<;>try intro ht)|exact Xx|fail)))
  refine hel _ _ rfl ?_;clear hnl hel Ql
  clear hr hk hk'
  repeat (refine Xu ?_)
  refine Vb X0 ?_
  generalize h2:(m.cts.any fun c=>!ctB m c)=b2 at *
  refine W_loopS (fun k:Nat=>(⟨slots [(1,.ptr 0 0 0),(8,.lit (.int .i64 k))],[.var (eMdl m)]⟩:St)) (fun k=>k≤m.cts.length∧((m.cts.drop k).any fun c=>!ctB m c)=b2) (fun k=>m.cts.length - k) 0 ⟨Nat.zero_le _,h2⟩ (Xv X0) ?_
  rintro k ⟨hk,hr⟩ Ql hnl hel
  by_cases hk':k<m.cts.length
  · have hcm:=getD_mem (d:=(default:Ct)) hk'
    have hll:=hm.lds _ hcm
    rw[any_drop hk'] at hr
    generalize hcc:m.cts.getD k default=c at *
    have hct:=refCounted_ok m c hll
    generalize ctB m c=cb at *
    ((repeat' (first|refine Vc @hcc hct ?_|(refine Xi ?_ ?_<;>try intro ht)|exact Xx|fail)))
    · obtain rfl:cb=false:=by assumption
      simp only[Bool.not_false,Bool.true_or] at hr
      rw[if_pos hr.symm] at hres
      subst hres
      refine Vb X0 ?_
      exact RetOK_pure' rfl rfl
    · obtain rfl:cb=true:=by assumption
      rw[Bool.not_true,Bool.false_or] at hr
      exact hnl _ (k+1) ⟨by omega,hr⟩ (by omega) (Xv X0)
  rw[List.drop_eq_nil_of_le (by omega),List.any_nil] at hr
  subst hr
  rw[if_neg (by simp)] at hres
  subst hres
  ((repeat' (first|refine Va X0 ?_|(refine Xi ?_ ?_<;>try intro ht)|exact Xx|fail)))
  refine hel _ _ rfl ?_;clear hnl hel Ql
  repeat (refine Xu ?_)
  refine Vb X0 ?_
  exact RetOK_pure' rfl rfl
end T

