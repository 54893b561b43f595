import Derived.Test.YtibijngmebpmmaaCA
import Derived.Test.YtibijngmebpmmaaSA
set_option linter.unusedVariables false
set_option linter.unusedSimpArgs false
set_option linter.unnecessarySimpa false
open Go Go.Am Go.Proofs
open Nat (reduceEqDiff reduceAdd reduceLeDiff reduceMul)
open Int (reduceNeg reduceLE reduceToNat)
set_option maxRecDepth 20000
namespace T
set_option maxRecDepth 10000 in
set_option maxHeartbeats 8000000 in
theorem sized_ok (m:Mdl) (hm:MB m):Holds Try.prog 38 [.agg (eMdl m)] [] (.lit (.bool (!largeB m))) []:=by
  have hm1:=hm.cls
  have hm2:=hm.prs
  have hm3:=hm.cts
  unfold largeB
  generalize hany:m.cls.any (fun l=>decide (24<l.length))=b
  refine Holds.of_body' (fn:=Try.f38) 44 0 [.tmp 2] Try.func38 rfl rfl rfl rfl rfl (by simp) ?_
  repeat' (first|((first|((first|refine rr ?_|refine rre ?_);intro K hK)|with_reducible refine gO ?_);simp (disch:=omega) only[Ac,↓Pc,simprocAttr])|(refine hK _ ?_;clear hK K)|(with_reducible refine gS (fun hb'=>?_) (fun hb'=>?_)<;>(have hb:=hb';(try simp only[DEc,simprocAttr] at hb);simp (disch:=omega) only[Ac,↓Pc,simprocAttr,hb'];clear hb'))|(refine Wc (fun ht=>?_) (fun ht=>?_)<;>(try simp only[DEc,simprocAttr] at ht))|refine Wz rfl ?_|(refine Wb ?_;intro Qb hnb hxb heb)|(refine Wk ?_;intro Q hn he)|((first|refine hn _ ?_|refine he _ _ rfl ?_);clear hn he;try clear Q)|((first|refine hnb _ ?_|refine hxb _ ?_|refine heb _ _ rfl ?_);clear hnb hxb heb;try clear Qb)|(refine hel _ _ rfl ?_;clear hnl hel;try clear Ql)|(simp only[Qc,Kc,simprocAttr])|with_reducible refine And.intro ?_ ?_|omega|with_reducible rfl)
  refine W_loopS (fun i:Nat=>(⟨slots [(1,.ptr 0 0 0),(3,.lit (.int .i64 i))],[.var (eMdl m)]⟩:St)) (fun i=>i≤m.cls.length∧(m.cls.drop i).any (fun l=>decide (24<l.length))=b) (fun i=>m.cls.length - i) 0 ⟨Nat.zero_le _,hany⟩ (by (refine Turns.slots _ _ rfl ?_;simp only[Tc,↓reduceIte,reduceEqDiff,Nat.reduceBEq,reduceAdd];try trivial)) ?_
  rintro i ⟨hi,hr⟩ Ql hnl hel
  by_cases hi':i<m.cls.length
  · have hlo:=hm.opt _ (getD_mem (d:=(default:List Opt)) hi')
    rw[any_drop hi'] at hr
    generalize hll:m.cls.getD i default=l at *
    repeat' (first|((first|((first|refine rr ?_|refine rre ?_);intro K hK)|with_reducible refine gO ?_);simp (disch:=omega) only[Ac,↓Pc,simprocAttr,hll])|(refine hK _ ?_;clear hK K)|(with_reducible refine gS (fun hb'=>?_) (fun hb'=>?_)<;>(have hb:=hb';(try simp only[DEc,simprocAttr] at hb);simp (disch:=omega) only[Ac,↓Pc,simprocAttr,hll,hb'];clear hb'))|(refine Wc (fun ht=>?_) (fun ht=>?_)<;>(try simp only[DEc,simprocAttr] at ht))|refine Wz rfl ?_|(refine Wb ?_;intro Qb hnb hxb heb)|(refine Wk ?_;intro Q hn he)|((first|refine hn _ ?_|refine he _ _ rfl ?_);clear hn he;try clear Q)|((first|refine hnb _ ?_|refine hxb _ ?_|refine heb _ _ rfl ?_);clear hnb hxb heb;try clear Qb)|(simp only[Qc,Kc,simprocAttr])|with_reducible refine And.intro ?_ ?_|omega|with_reducible rfl)
    · rw[decide_eq_true (p:=24<l.length) (by omega),Bool.true_or] at hr
      subst hr
      repeat' (first|((first|((first|refine rr ?_|refine rre ?_);intro K hK)|with_reducible refine gO ?_);simp (disch:=omega) only[Ac,↓Pc,simprocAttr])|(refine hK _ ?_;clear hK K)|(with_reducible refine gS (fun hb'=>?_) (fun hb'=>?_)<;>(have hb:=hb';(try simp only[DEc,simprocAttr] at hb);simp (disch:=omega) only[Ac,↓Pc,simprocAttr,hb'];clear hb'))|(refine Wc (fun ht=>?_) (fun ht=>?_)<;>(try simp only[DEc,simprocAttr] at ht))|refine Wz rfl ?_|(refine Wb ?_;intro Qb hnb hxb heb)|(refine Wk ?_;intro Q hn he)|((first|refine hn _ ?_|refine he _ _ rfl ?_);clear hn he;try clear Q)|((first|refine hnb _ ?_|refine hxb _ ?_|refine heb _ _ rfl ?_);clear hnb hxb heb;try clear Qb)|(refine hel _ _ rfl ?_;clear hnl hel;try clear Ql)|(simp only[Qc,Kc,simprocAttr])|with_reducible refine And.intro ?_ ?_|omega|with_reducible rfl)
      exact RetOK_pure' rfl (by simp)
    · rw[decide_eq_false (p:=24<l.length) (by omega),Bool.false_or] at hr
      exact hnl _ (i+1) ⟨by omega,hr⟩ (by omega) (by (refine Turns.slots _ _ rfl ?_;simp only[Tc,↓reduceIte,reduceEqDiff,Nat.reduceBEq,reduceAdd];try trivial))
  · rw[List.drop_eq_nil_of_le (by omega),List.any_nil] at hr
    subst hr
    repeat' (first|((first|((first|refine rr ?_|refine rre ?_);intro K hK)|with_reducible refine gO ?_);simp (disch:=omega) only[Ac,↓Pc,simprocAttr])|(refine hK _ ?_;clear hK K)|(with_reducible refine gS (fun hb'=>?_) (fun hb'=>?_)<;>(have hb:=hb';(try simp only[DEc,simprocAttr] at hb);simp (disch:=omega) only[Ac,↓Pc,simprocAttr,hb'];clear hb'))|(refine Wc (fun ht=>?_) (fun ht=>?_)<;>(try simp only[DEc,simprocAttr] at ht))|refine Wz rfl ?_|(refine Wb ?_;intro Qb hnb hxb heb)|(refine Wk ?_;intro Q hn he)|((first|refine hn _ ?_|refine he _ _ rfl ?_);clear hn he;try clear Q)|((first|refine hnb _ ?_|refine hxb _ ?_|refine heb _ _ rfl ?_);clear hnb hxb heb;try clear Qb)|(simp only[Qc,Kc,simprocAttr])|with_reducible refine And.intro ?_ ?_|omega|with_reducible rfl)
    refine hel _ _ rfl ?_;clear hnl hel Ql
    repeat (first|((first|refine hn _ ?_|refine he _ _ rfl ?_);clear hn he;try clear Q)|((first|refine hnb _ ?_|refine hxb _ ?_|refine heb _ _ rfl ?_);clear hnb hxb heb;try clear Qb)|(refine hel _ _ rfl ?_;clear hnl hel;try clear Ql))
    repeat' (first|((first|((first|refine rr ?_|refine rre ?_);intro K hK)|with_reducible refine gO ?_);simp (disch:=omega) only[Ac,↓Pc,simprocAttr])|(refine hK _ ?_;clear hK K)|(with_reducible refine gS (fun hb'=>?_) (fun hb'=>?_)<;>(have hb:=hb';(try simp only[DEc,simprocAttr] at hb);simp (disch:=omega) only[Ac,↓Pc,simprocAttr,hb'];clear hb'))|(refine Wc (fun ht=>?_) (fun ht=>?_)<;>(try simp only[DEc,simprocAttr] at ht))|refine Wz rfl ?_|(refine Wb ?_;intro Qb hnb hxb heb)|(refine Wk ?_;intro Q hn he)|((first|refine hn _ ?_|refine he _ _ rfl ?_);clear hn he;try clear Q)|((first|refine hnb _ ?_|refine hxb _ ?_|refine heb _ _ rfl ?_);clear hnb hxb heb;try clear Qb)|(refine hel _ _ rfl ?_;clear hnl hel;try clear Ql)|(simp only[Qc,Kc,simprocAttr])|with_reducible refine And.intro ?_ ?_|omega|with_reducible rfl)
    all_goals refine RetOK_pure' rfl ?_
    all_goals (refine congrArg (fun b=>AV.lit (Value.bool b)) ?_;rw[Bool.eq_iff_iff];simp only[or_true,true_or,or_false,false_or,decide_eq_true_eq,beq_iff_eq,bne_iff_ne,Bool.and_eq_true,Bool.or_eq_true,Bool.not_eq_true',decide_eq_false_iff_not,Bool.false_eq_true,reduceCtorEq,iff_true,iff_false,true_iff,false_iff,eq_self];omega)
set_option maxRecDepth 10000 in
set_option maxHeartbeats 8000000 in
theorem refPaired_ok (m:Mdl) (k:Nat) (hk:k<m.prs.length) (hp:∀ p∈m.prs,p.tab.length<9223372036854775808) (hm:∀ l∈m.cls,l.length≤24) (hl:m.cls.length≤24) (hpl:m.prs.length<9223372036854775808) :
    Holds Try.prog 41 [.agg (eMdl m),.lit (.int .i64 k)] [] (.lit (.bool (pairB m (m.prs.getD k default) && (decide (k=0) || decide (ordV (m.prs.getD (k - 1) default) (m.prs.getD k default)<0))))) []:=by
  have hk1:((k:Int) - 1).toNat=k - 1:=by omega
  have htab:=hp _ (getD_mem (d:=(default:Pr)) hk)
  generalize hpp:m.prs.getD k default=p at *
  generalize hqq:m.prs.getD (k - 1) default=q at *
  have hg:∀ i,(m.cls.getD i default).length≤24:=fun i=>by
    rcases Nat.lt_or_ge i m.cls.length with h | h
    · exact hm _ (getD_mem h)
    · rw[List.getD_eq_getElem?_getD,List.getElem?_eq_none h];decide
  have h1:=hg p.fst.toNat
  have h2:=hg p.snd.toNat
  have hmul:(0:Int)≤(m.cls.getD p.fst.toNat default).length * (m.cls.getD p.snd.toNat default).length∧((m.cls.getD p.fst.toNat default).length:Int) * (m.cls.getD p.snd.toNat default).length≤24 * 24:=⟨Int.mul_nonneg (by omega) (by omega),Int.mul_le_mul (by omega) (by omega) (by omega) (by omega)⟩
  have hord:decide (ordV q p<0)=(decide (q.rule<p.rule) || decide (q.rule=p.rule) && (decide (q.fst<p.fst) || decide (q.fst=p.fst) && decide (q.snd<p.snd))):=by
    rw[Bool.eq_iff_iff]
    simp only[decide_eq_true_eq,Bool.or_eq_true,Bool.and_eq_true,ordV_lt]
  have hru:=rule_ok m p.rule
  rw[hord]
  unfold pairB
  generalize hany:p.tab.any badN=bad
  generalize hmm:((m.cls.getD p.fst.toNat default).length:Int) * (m.cls.getD p.snd.toNat default).length=mm at *
  generalize hD:decide (0≤p.fst∧p.fst<p.snd∧p.snd<m.cls.length∧(p.tab.length:Int)=mm)=D
  generalize hO:(decide (q.rule<p.rule) || decide (q.rule=p.rule) && (decide (q.fst<p.fst) || decide (q.fst=p.fst) && decide (q.snd<p.snd)))=O
  refine Holds.of_body' (fn:=Try.f41) 114 0 [.tmp 4] Try.func41 rfl rfl rfl rfl rfl (by simp) ?_
  repeat' (first|((first|((first|refine rr ?_|refine rre ?_|refine rb ?_|refine rbe ?_|refine ra ?_|refine rae ?_);intro K hK)|with_reducible refine gO ?_);simp (disch:=omega) only[Ac,↓Pc,simprocAttr,hpp,hmm])|(first|refine callK_pure (hru) rfl rfl ?_|refine callQ_pure (hru) rfl rfl ?_)|(refine hK _ ?_;clear hK K)|(with_reducible refine gS (fun hb'=>?_) (fun hb'=>?_)<;>(have hb:=hb';(try simp only[DEc,simprocAttr] at hb);simp (disch:=omega) only[Ac,↓Pc,simprocAttr,hpp,hmm,hb'];clear hb'))|(refine Wc (fun ht=>?_) (fun ht=>?_)<;>(try simp only[DEc,simprocAttr] at ht))|refine Wz rfl ?_|(refine Wb ?_;intro Qb hnb hxb heb)|(refine Wk ?_;intro Q hn he)|((first|refine hn _ ?_|refine he _ _ rfl ?_);clear hn he;try clear Q)|((first|refine hnb _ ?_|refine hxb _ ?_|refine heb _ _ rfl ?_);clear hnb hxb heb;try clear Qb)|(refine hel _ _ rfl ?_;clear hnl hel;try clear Ql)|(simp only[Qc,Kc,simprocAttr])|with_reducible refine And.intro ?_ ?_|omega|with_reducible rfl)
  all_goals try (refine RetOK_pure' rfl ?_;first|(rw[hb];rfl)|(rw[show D=false by rw[← hD];exact decide_eq_false (by omega)];simp;done))
  have hDt:D=true:=by rw[← hD];exact decide_eq_true (by omega)
  subst hDt
  have hrt:ruleB m.rules p.rule=true:=by assumption
  refine W_loopS (fun i:Nat=>(⟨slots [(1,.lit (.int .i64 k)),(2,.ptr 0 0 0),(5,.ptr 1 0 0),(6,.lit (.int .i64 i))],[.var (eMdl m),.var (ePr p)]⟩:St)) (fun i=>i≤p.tab.length∧(p.tab.drop i).any badN=bad) (fun i=>p.tab.length - i) 0 ⟨Nat.zero_le _,hany⟩ (by (refine Turns.slots _ _ rfl ?_;simp only[Tc,↓reduceIte,reduceEqDiff,Nat.reduceBEq,reduceAdd];try trivial)) ?_
  rintro i ⟨hi,hr⟩ Ql hnl hel
  by_cases hi':i<p.tab.length
  · rw[getD_drop0 p.tab i 0 hi',List.any_cons] at hr
    generalize hxx:p.tab.getD i 0=x at *
    repeat' (first|((first|((first|refine rr ?_|refine rre ?_|refine rb ?_|refine rbe ?_|refine ra ?_|refine rae ?_);intro K hK)|with_reducible refine gO ?_);simp (disch:=omega) only[Ac,↓Pc,simprocAttr,hxx])|(first|refine callK_pure (price_ok x) rfl rfl ?_|refine callQ_pure (price_ok x) rfl rfl ?_)|(refine hK _ ?_;clear hK K)|(with_reducible refine gS (fun hb'=>?_) (fun hb'=>?_)<;>(have hb:=hb';(try simp only[DEc,simprocAttr] at hb);simp (disch:=omega) only[Ac,↓Pc,simprocAttr,hxx,hb'];clear hb'))|(refine Wc (fun ht=>?_) (fun ht=>?_)<;>(try simp only[DEc,simprocAttr] at ht))|refine Wz rfl ?_|(refine Wb ?_;intro Qb hnb hxb heb)|(refine Wk ?_;intro Q hn he)|((first|refine hn _ ?_|refine he _ _ rfl ?_);clear hn he;try clear Q)|((first|refine hnb _ ?_|refine hxb _ ?_|refine heb _ _ rfl ?_);clear hnb hxb heb;try clear Qb)|(simp only[Qc,Kc,simprocAttr])|with_reducible refine And.intro ?_ ?_|omega|with_reducible rfl)
    · rw[show badN x=true by simp[badN, *],Bool.true_or] at hr
      subst hr
      repeat' (first|((first|((first|refine rr ?_|refine rre ?_);intro K hK)|with_reducible refine gO ?_);simp (disch:=omega) only[Ac,↓Pc,simprocAttr])|(refine hK _ ?_;clear hK K)|(with_reducible refine gS (fun hb'=>?_) (fun hb'=>?_)<;>(have hb:=hb';(try simp only[DEc,simprocAttr] at hb);simp (disch:=omega) only[Ac,↓Pc,simprocAttr,hb'];clear hb'))|(refine Wc (fun ht=>?_) (fun ht=>?_)<;>(try simp only[DEc,simprocAttr] at ht))|refine Wz rfl ?_|(refine Wb ?_;intro Qb hnb hxb heb)|(refine Wk ?_;intro Q hn he)|((first|refine hn _ ?_|refine he _ _ rfl ?_);clear hn he;try clear Q)|((first|refine hnb _ ?_|refine hxb _ ?_|refine heb _ _ rfl ?_);clear hnb hxb heb;try clear Qb)|(refine hel _ _ rfl ?_;clear hnl hel;try clear Ql)|(simp only[Qc,Kc,simprocAttr])|with_reducible refine And.intro ?_ ?_|omega|with_reducible rfl)
      exact RetOK_pure' rfl (by simp)
    · rw[show badN x=false by simp[badN, *],Bool.false_or] at hr
      exact hnl _ (i+1) ⟨by omega,hr⟩ (by omega) (by (refine Turns.se [0,1] false (by simp only[Oc,simprocAttr]) ?_;simp only[Hr,↓reduceIte,reduceEqDiff,Nat.reduceBEq,reduceAdd];try (and_intros<;>first|exact .pure rfl|exact .eq rfl|exact .fz rfl (by simp only[Bc,Rc]))))
    · rw[show badN x=false by simp[badN, *],Bool.false_or] at hr
      exact hnl _ (i+1) ⟨by omega,hr⟩ (by omega) (by (refine Turns.se [0,1] false (by simp only[Oc,simprocAttr]) ?_;simp only[Hr,↓reduceIte,reduceEqDiff,Nat.reduceBEq,reduceAdd];try (and_intros<;>first|exact .pure rfl|exact .eq rfl|exact .fz rfl (by simp only[Bc,Rc]))))
  · rw[List.drop_eq_nil_of_le (by omega),List.any_nil] at hr
    subst hr
    repeat' (first|((first|((first|refine rr ?_|refine rre ?_);intro K hK)|with_reducible refine gO ?_);simp (disch:=omega) only[Ac,↓Pc,simprocAttr])|(refine hK _ ?_;clear hK K)|(with_reducible refine gS (fun hb'=>?_) (fun hb'=>?_)<;>(have hb:=hb';(try simp only[DEc,simprocAttr] at hb);simp (disch:=omega) only[Ac,↓Pc,simprocAttr,hb'];clear hb'))|(refine Wc (fun ht=>?_) (fun ht=>?_)<;>(try simp only[DEc,simprocAttr] at ht))|refine Wz rfl ?_|(refine Wb ?_;intro Qb hnb hxb heb)|(refine Wk ?_;intro Q hn he)|((first|refine hn _ ?_|refine he _ _ rfl ?_);clear hn he;try clear Q)|((first|refine hnb _ ?_|refine hxb _ ?_|refine heb _ _ rfl ?_);clear hnb hxb heb;try clear Qb)|(simp only[Qc,Kc,simprocAttr])|with_reducible refine And.intro ?_ ?_|omega|with_reducible rfl)
    refine hel _ _ rfl ?_;clear hnl hel Ql
    repeat (first|((first|refine hn _ ?_|refine he _ _ rfl ?_);clear hn he;try clear Q)|((first|refine hnb _ ?_|refine hxb _ ?_|refine heb _ _ rfl ?_);clear hnb hxb heb;try clear Qb)|(refine hel _ _ rfl ?_;clear hnl hel;try clear Ql))
    repeat' (first|((first|((first|refine rr ?_|refine rre ?_);intro K hK)|with_reducible refine gO ?_);simp (disch:=omega) only[Ac,↓Pc,simprocAttr,hqq,hk1])|(refine hK _ ?_;clear hK K)|(with_reducible refine gS (fun hb'=>?_) (fun hb'=>?_)<;>(have hb:=hb';(try simp only[DEc,simprocAttr] at hb);simp (disch:=omega) only[Ac,↓Pc,simprocAttr,hqq,hk1,hb'];clear hb'))|(refine Wc (fun ht=>?_) (fun ht=>?_)<;>(try simp only[DEc,simprocAttr] at ht))|refine Wz rfl ?_|(refine Wb ?_;intro Qb hnb hxb heb)|(refine Wk ?_;intro Q hn he)|((first|refine hn _ ?_|refine he _ _ rfl ?_);clear hn he;try clear Q)|((first|refine hnb _ ?_|refine hxb _ ?_|refine heb _ _ rfl ?_);clear hnb hxb heb;try clear Qb)|(refine hel _ _ rfl ?_;clear hnl hel;try clear Ql)|(simp only[Qc,Kc,simprocAttr])|with_reducible refine And.intro ?_ ?_|omega|with_reducible rfl)
    all_goals refine RetOK_pure' rfl ?_
    all_goals rw[hrt,Bool.true_and,Bool.true_and]
    · rw[decide_eq_true (p:=k=0) (by omega)];simp
    all_goals rw[decide_eq_false (p:=k=0) (by omega),← hO]
    all_goals (refine congrArg (fun b=>AV.lit (Value.bool b)) ?_;rw[Bool.eq_iff_iff];simp only[Bool.false_or,Bool.not_false,true_and,decide_eq_true_eq,beq_iff_eq,bne_iff_ne,Bool.and_eq_true,Bool.or_eq_true,Bool.not_eq_true',decide_eq_false_iff_not,Bool.false_eq_true,reduceCtorEq,iff_true,iff_false,true_iff,false_iff,eq_self];omega)
set_option maxRecDepth 10000 in
set_option maxHeartbeats 8000000 in
theorem refCounted_ok (m:Mdl) (c:Ct) (hc:c.loads.length<9223372036854775808):Holds Try.prog 42 [.agg (eMdl m),.agg (eCt c)] [] (.lit (.bool (ctB m c))) []:=by
  have hnm:=rule_ok m c.rule
  have hpr:=price_ok c.pen
  generalize hres:ctB m c=res
  unfold ctB at hres
  generalize hD:decide (0≤c.most∧c.most≤1048576)=D at *
  refine Holds.of_body' (fn:=Try.f42) 85 0 [.tmp 4] Try.func42 rfl rfl rfl rfl rfl (by simp) ?_
  repeat' (first|((first|((first|refine rr ?_|refine rre ?_|refine rb ?_|refine rbe ?_|refine ra ?_|refine rae ?_);intro K hK)|with_reducible refine gO ?_);simp (disch:=omega) only[Ac,↓Pc,simprocAttr])|(first|refine callK_pure (hnm) rfl rfl ?_|refine callQ_pure (hnm) rfl rfl ?_)|(first|refine callK_pure (hpr) rfl rfl ?_|refine callQ_pure (hpr) rfl rfl ?_)|(refine hK _ ?_;clear hK K)|(with_reducible refine gS (fun hb'=>?_) (fun hb'=>?_)<;>(have hb:=hb';(try simp only[DEc,simprocAttr] at hb);simp (disch:=omega) only[Ac,↓Pc,simprocAttr,hb'];clear hb'))|(refine Wc (fun ht=>?_) (fun ht=>?_)<;>(try simp only[DEc,simprocAttr] at ht))|refine Wz rfl ?_|(refine Wb ?_;intro Qb hnb hxb heb)|(refine Wk ?_;intro Q hn he)|((first|refine hn _ ?_|refine he _ _ rfl ?_);clear hn he;try clear Q)|((first|refine hnb _ ?_|refine hxb _ ?_|refine heb _ _ rfl ?_);clear hnb hxb heb;try clear Qb)|(refine hel _ _ rfl ?_;clear hnl hel;try clear Ql)|(simp only[Qc,Kc,simprocAttr])|with_reducible refine And.intro ?_ ?_|omega|with_reducible rfl)
  all_goals try (refine RetOK_pure' rfl ?_;first|(rw[← hres,hb];rfl)|(rw[← hres,show D=false by rw[← hD];exact decide_eq_false (by omega)];simp;done)|(rw[← hres,ht];simp;done))
  have hDt:D=true:=by rw[← hD];exact decide_eq_true (by omega)
  subst hDt
  have hin:(ruleB m.rules c.rule && true && priceB c.pen)=true:=by simp[*]
  rw[hin,Bool.true_and] at hres
  refine W_loopS (fun k:Nat=>(⟨slots [(2,.ptr 0 0 0),(3,.ptr 1 0 0),(5,.lit (.int .i64 k))],[.var (eMdl m),.var (eCt c)]⟩:St)) (fun k=>k≤c.loads.length∧ldL m (prevAt c.loads k) (c.loads.drop k)=res) (fun k=>c.loads.length - k) 0 ⟨Nat.zero_le _,hres⟩ (by (refine Turns.slots _ _ rfl ?_;simp only[Tc,↓reduceIte,reduceEqDiff,Nat.reduceBEq,reduceAdd];try trivial)) ?_
  rintro k ⟨hk,hr⟩ Ql hnl hel
  by_cases hk':k<c.loads.length
  · have hd:=getD_drop0 c.loads k default hk'
    generalize hcc:c.loads.getD k default=x at *
    rw[hd,ldL_at] at hr
    have hk1:((k:Int) - 1).toNat=k - 1:=by omega
    generalize hpp:c.loads.getD (k - 1) default=y at *
    generalize hob:optB m x.cls x.opt=ob at *
    have hopt:=refOption_ok m x.cls x.opt
    rw[hob] at hopt
    generalize hW:decide (1≤x.wt∧x.wt≤1000)=wb at *
    generalize hO:decide (ldOrd y x<0)=O at *
    have hOd:O=true↔y.cls<x.cls∨(y.cls=x.cls∧y.opt<x.opt):=by rw[← hO,decide_eq_true_eq,ldOrd_lt]
    repeat' (first|((first|((first|refine rr ?_|refine rre ?_|refine rb ?_|refine rbe ?_|refine ra ?_|refine rae ?_);intro K hK)|with_reducible refine gO ?_);simp (disch:=omega) only[Ac,↓Pc,simprocAttr,hcc,hpp,hk1])|(first|refine callK_pure (hopt) rfl rfl ?_|refine callQ_pure (hopt) rfl rfl ?_)|(refine hK _ ?_;clear hK K)|(with_reducible refine gS (fun hb'=>?_) (fun hb'=>?_)<;>(have hb:=hb';(try simp only[DEc,simprocAttr] at hb);simp (disch:=omega) only[Ac,↓Pc,simprocAttr,hcc,hpp,hk1,hb'];clear hb'))|(refine Wc (fun ht=>?_) (fun ht=>?_)<;>(try simp only[DEc,simprocAttr] at ht))|refine Wz rfl ?_|(refine Wb ?_;intro Qb hnb hxb heb)|(refine Wk ?_;intro Q hn he)|((first|refine hn _ ?_|refine he _ _ rfl ?_);clear hn he;try clear Q)|((first|refine hnb _ ?_|refine hxb _ ?_|refine heb _ _ rfl ?_);clear hnb hxb heb;try clear Qb)|(simp only[Qc,Kc,simprocAttr])|with_reducible refine And.intro ?_ ?_|omega|with_reducible rfl)
    iterate 5
      · obtain rfl:res=false:=by
          rw[← hr]
          first
            | (rw[show ob=false by assumption];rfl)
            | (rw[show wb=false by rw[← hW];exact decide_eq_false (by omega)];simp;done)
            | (rw[decide_eq_false (p:=k=0) (by omega),show O=false from Bool.eq_false_iff.2 fun h=>by have:=hOd.1 h;omega];simp;done)
        repeat' (first|((first|((first|refine rr ?_|refine rre ?_);intro K hK)|with_reducible refine gO ?_);simp (disch:=omega) only[Ac,↓Pc,simprocAttr])|(refine hK _ ?_;clear hK K)|(with_reducible refine gS (fun hb'=>?_) (fun hb'=>?_)<;>(have hb:=hb';(try simp only[DEc,simprocAttr] at hb);simp (disch:=omega) only[Ac,↓Pc,simprocAttr,hb'];clear hb'))|(refine Wc (fun ht=>?_) (fun ht=>?_)<;>(try simp only[DEc,simprocAttr] at ht))|refine Wz rfl ?_|(refine Wb ?_;intro Qb hnb hxb heb)|(refine Wk ?_;intro Q hn he)|((first|refine hn _ ?_|refine he _ _ rfl ?_);clear hn he;try clear Q)|((first|refine hnb _ ?_|refine hxb _ ?_|refine heb _ _ rfl ?_);clear hnb hxb heb;try clear Qb)|(refine hel _ _ rfl ?_;clear hnl hel;try clear Ql)|(simp only[Qc,Kc,simprocAttr])|with_reducible refine And.intro ?_ ?_|omega|with_reducible rfl)
        exact RetOK_pure' rfl rfl
    all_goals
      refine hnl _ (k+1) ⟨by omega,?_⟩ (by omega) (by (refine Turns.se [0,1] false (by simp only[Oc,simprocAttr]) ?_;simp only[Hr,↓reduceIte,reduceEqDiff,Nat.reduceBEq,reduceAdd];try (and_intros<;>first|exact .pure rfl|exact .eq rfl|exact .fz rfl (by simp only[Bc,Rc]))))
      rw[prevAt_succ,hcc,← hr,show ob=true by assumption,show wb=true by rw[← hW];exact decide_eq_true (by omega)]
      first
        | (rw[hOd.2 (by omega)];simp;done)
        | (rw[decide_eq_true (p:=k=0) (by omega)];simp;done)
  · rw[List.drop_eq_nil_of_le (by omega),ldL] at hr
    subst hr
    repeat' (first|((first|((first|refine rr ?_|refine rre ?_);intro K hK)|with_reducible refine gO ?_);simp (disch:=omega) only[Ac,↓Pc,simprocAttr])|(refine hK _ ?_;clear hK K)|(with_reducible refine gS (fun hb'=>?_) (fun hb'=>?_)<;>(have hb:=hb';(try simp only[DEc,simprocAttr] at hb);simp (disch:=omega) only[Ac,↓Pc,simprocAttr,hb'];clear hb'))|(refine Wc (fun ht=>?_) (fun ht=>?_)<;>(try simp only[DEc,simprocAttr] at ht))|refine Wz rfl ?_|(refine Wb ?_;intro Qb hnb hxb heb)|(refine Wk ?_;intro Q hn he)|((first|refine hn _ ?_|refine he _ _ rfl ?_);clear hn he;try clear Q)|((first|refine hnb _ ?_|refine hxb _ ?_|refine heb _ _ rfl ?_);clear hnb hxb heb;try clear Qb)|(simp only[Qc,Kc,simprocAttr])|with_reducible refine And.intro ?_ ?_|omega|with_reducible rfl)
    refine hel _ _ rfl ?_;clear hnl hel Ql
    repeat (first|((first|refine hn _ ?_|refine he _ _ rfl ?_);clear hn he;try clear Q)|((first|refine hnb _ ?_|refine hxb _ ?_|refine heb _ _ rfl ?_);clear hnb hxb heb;try clear Qb)|(refine hel _ _ rfl ?_;clear hnl hel;try clear Ql))
    repeat' (first|((first|((first|refine rr ?_|refine rre ?_);intro K hK)|with_reducible refine gO ?_);simp (disch:=omega) only[Ac,↓Pc,simprocAttr])|(refine hK _ ?_;clear hK K)|(with_reducible refine gS (fun hb'=>?_) (fun hb'=>?_)<;>(have hb:=hb';(try simp only[DEc,simprocAttr] at hb);simp (disch:=omega) only[Ac,↓Pc,simprocAttr,hb'];clear hb'))|(refine Wc (fun ht=>?_) (fun ht=>?_)<;>(try simp only[DEc,simprocAttr] at ht))|refine Wz rfl ?_|(refine Wb ?_;intro Qb hnb hxb heb)|(refine Wk ?_;intro Q hn he)|((first|refine hn _ ?_|refine he _ _ rfl ?_);clear hn he;try clear Q)|((first|refine hnb _ ?_|refine hxb _ ?_|refine heb _ _ rfl ?_);clear hnb hxb heb;try clear Qb)|(refine hel _ _ rfl ?_;clear hnl hel;try clear Ql)|(simp only[Qc,Kc,simprocAttr])|with_reducible refine And.intro ?_ ?_|omega|with_reducible rfl)
    exact RetOK_pure' rfl rfl
set_option maxRecDepth 10000 in
set_option maxHeartbeats 8000000 in
theorem refValid_ok (m:Mdl) (hm:MB m):Holds Try.prog 17 [.agg (eMdl m)] [] (.lit (.int .i64 (validV m))) []:=by
  generalize hres:validV m=res
  unfold validV at hres
  have hm1:=hm.cls
  have hm2:=hm.prs
  have hm3:=hm.cts
  have hszd:=sized_ok m hm
  generalize hlb:largeB m=lb at *
  cases lb
  rotate_left
  · rw[if_pos rfl] at hres
    subst hres
    refine Holds.of_body' (fn:=Try.f17) 105 0 [.tmp 2] Try.func17 rfl rfl rfl rfl rfl (by simp) ?_
    repeat' (first|((first|((first|refine rr ?_|refine rre ?_|refine rb ?_|refine rbe ?_|refine ra ?_|refine rae ?_);intro K hK)|with_reducible refine gO ?_);simp (disch:=omega) only[Ac,↓Pc,simprocAttr,Bool.not_true])|(first|refine callK_pure (hszd) rfl rfl ?_|refine callQ_pure (hszd) rfl rfl ?_)|(refine hK _ ?_;clear hK K)|(with_reducible refine gS (fun hb'=>?_) (fun hb'=>?_)<;>(have hb:=hb';(try simp only[DEc,simprocAttr] at hb);simp (disch:=omega) only[Ac,↓Pc,simprocAttr,Bool.not_true,hb'];clear hb'))|(refine Wc (fun ht=>?_) (fun ht=>?_)<;>(try simp only[DEc,simprocAttr] at ht))|refine Wz rfl ?_|(refine Wb ?_;intro Qb hnb hxb heb)|(refine Wk ?_;intro Q hn he)|((first|refine hn _ ?_|refine he _ _ rfl ?_);clear hn he;try clear Q)|((first|refine hnb _ ?_|refine hxb _ ?_|refine heb _ _ rfl ?_);clear hnb hxb heb;try clear Qb)|(refine hel _ _ rfl ?_;clear hnl hel;try clear Ql)|(simp only[Qc,Kc,simprocAttr])|with_reducible refine And.intro ?_ ?_|omega|with_reducible rfl)
    all_goals first|exact RetOK_pure' rfl rfl|(exfalso;simp at *;done)
  rw[if_neg (by simp)] at hres
  have hsz:m.cls.length≤24∧∀ l∈m.cls,l.length≤24:=by
    have h:=hlb
    unfold largeB at h
    rw[decide_eq_false_iff_not] at h
    refine⟨by omega,fun l hl=>?_⟩
    rcases Nat.lt_or_ge 24 l.length with h1 | h1
    · exact absurd (.inr (.inl (List.any_eq_true.2 ⟨l,hl,by simpa using h1⟩))) h
    · exact h1
  generalize h1:(m.cls.any fun l=>l.any fun o=>!chL m.rules none o.ch)=b1 at *
  refine Holds.of_body' (fn:=Try.f17) 105 0 [.tmp 2] Try.func17 rfl rfl rfl rfl rfl (by simp) ?_
  repeat' (first|((first|((first|refine rr ?_|refine rre ?_|refine rb ?_|refine rbe ?_|refine ra ?_|refine rae ?_);intro K hK)|with_reducible refine gO ?_);simp (disch:=omega) only[Ac,↓Pc,simprocAttr,Bool.not_false])|(first|refine callK_pure (hszd) rfl rfl ?_|refine callQ_pure (hszd) rfl rfl ?_)|(refine hK _ ?_;clear hK K)|(with_reducible refine gS (fun hb'=>?_) (fun hb'=>?_)<;>(have hb:=hb';(try simp only[DEc,simprocAttr] at hb);simp (disch:=omega) only[Ac,↓Pc,simprocAttr,Bool.not_false,hb'];clear hb'))|(refine Wc (fun ht=>?_) (fun ht=>?_)<;>(try simp only[DEc,simprocAttr] at ht))|refine Wz rfl ?_|(refine Wb ?_;intro Qb hnb hxb heb)|(refine Wk ?_;intro Q hn he)|((first|refine hn _ ?_|refine he _ _ rfl ?_);clear hn he;try clear Q)|((first|refine hnb _ ?_|refine hxb _ ?_|refine heb _ _ rfl ?_);clear hnb hxb heb;try clear Qb)|(refine hel _ _ rfl ?_;clear hnl hel;try clear Ql)|(simp only[Qc,Kc,simprocAttr])|with_reducible refine And.intro ?_ ?_|omega|with_reducible rfl)
  refine W_loopS (fun i:Nat=>(⟨slots [(1,.ptr 0 0 0),(3,.lit (.int .i64 i))],[.var (eMdl m)]⟩:St)) (fun i=>i≤m.cls.length∧((m.cls.drop i).any fun l=>l.any fun o=>!chL m.rules none o.ch)=b1) (fun i=>m.cls.length - i) 0 ⟨Nat.zero_le _,h1⟩ (by (refine Turns.slots _ _ rfl ?_;simp only[Tc,↓reduceIte,reduceEqDiff,Nat.reduceBEq,reduceAdd];try trivial)) ?_
  rintro i ⟨hi,hr⟩ Ql hnl hel
  by_cases hi':i<m.cls.length
  · have hlm:=getD_mem (d:=(default:List Opt)) hi'
    have hol:=hm.opt _ hlm
    have hcl:=hm.ch _ hlm
    have hl24:=hsz.2 _ hlm
    rw[any_drop hi'] at hr
    generalize hll:m.cls.getD i default=l at *
    generalize hrest:((m.cls.drop (i+1)).any fun l=>l.any fun o=>!chL m.rules none o.ch)=rest at *
    repeat' (first|((first|((first|refine rr ?_|refine rre ?_);intro K hK)|with_reducible refine gO ?_);simp (disch:=omega) only[Ac,↓Pc,simprocAttr])|(refine hK _ ?_;clear hK K)|(with_reducible refine gS (fun hb'=>?_) (fun hb'=>?_)<;>(have hb:=hb';(try simp only[DEc,simprocAttr] at hb);simp (disch:=omega) only[Ac,↓Pc,simprocAttr,hb'];clear hb'))|(refine Wc (fun ht=>?_) (fun ht=>?_)<;>(try simp only[DEc,simprocAttr] at ht))|refine Wz rfl ?_|(refine Wb ?_;intro Qb hnb hxb heb)|(refine Wk ?_;intro Q hn he)|((first|refine hn _ ?_|refine he _ _ rfl ?_);clear hn he;try clear Q)|((first|refine hnb _ ?_|refine hxb _ ?_|refine heb _ _ rfl ?_);clear hnb hxb heb;try clear Qb)|(simp only[Qc,Kc,simprocAttr])|with_reducible refine And.intro ?_ ?_|omega|with_reducible rfl)
    refine W_loopS (fun k:Nat=>(⟨slots [(1,.ptr 0 0 0),(3,.lit (.int .i64 i)),(4,.lit (.int .i64 k))],[.var (eMdl m)]⟩:St)) (fun k=>k≤l.length∧(((l.drop k).any fun o=>!chL m.rules none o.ch) || rest)=b1) (fun k=>l.length - k) 0 ⟨Nat.zero_le _,hr⟩ (by (refine Turns.slots _ _ rfl ?_;simp only[Tc,↓reduceIte,reduceEqDiff,Nat.reduceBEq,reduceAdd];try trivial)) ?_
    clear hr
    rintro k ⟨hk,hr⟩ Ql2 hnl2 hel2
    by_cases hk':k<l.length
    · have hom:=getD_mem (d:=(default:Opt)) hk'
      have hch:=hcl _ hom
      rw[any_drop hk'] at hr
      generalize hoo:l.getD k default=o at *
      generalize hrest2:((l.drop (k+1)).any fun o=>!chL m.rules none o.ch)=rest2 at *
      repeat' (first|((first|((first|refine rr ?_|refine rre ?_);intro K hK)|with_reducible refine gO ?_);simp (disch:=omega) only[Ac,↓Pc,simprocAttr,hll,hoo])|(refine hK _ ?_;clear hK K)|(with_reducible refine gS (fun hb'=>?_) (fun hb'=>?_)<;>(have hb:=hb';(try simp only[DEc,simprocAttr] at hb);simp (disch:=omega) only[Ac,↓Pc,simprocAttr,hll,hoo,hb'];clear hb'))|(refine Wc (fun ht=>?_) (fun ht=>?_)<;>(try simp only[DEc,simprocAttr] at ht))|refine Wz rfl ?_|(refine Wb ?_;intro Qb hnb hxb heb)|(refine Wk ?_;intro Q hn he)|((first|refine hn _ ?_|refine he _ _ rfl ?_);clear hn he;try clear Q)|((first|refine hnb _ ?_|refine hxb _ ?_|refine heb _ _ rfl ?_);clear hnb hxb heb;try clear Qb)|(simp only[Qc,Kc,simprocAttr])|with_reducible refine And.intro ?_ ?_|omega|with_reducible rfl)
      refine W_loopS (fun j:Nat=>(⟨slots [(1,.ptr 0 0 0),(3,.lit (.int .i64 i)),(4,.lit (.int .i64 k)),(5,.tree 2 (rowsOf eCh o.ch)),(6,.lit (.int .i64 j))],[.var (eMdl m)]⟩:St)) (fun j=>j≤o.ch.length∧(!chL m.rules (prevAt o.ch j) (o.ch.drop j) || rest2 || rest)=b1) (fun j=>o.ch.length - j) 0 ⟨Nat.zero_le _,hr⟩ (by (refine Turns.slots _ _ rfl ?_;simp only[Tc,↓reduceIte,reduceEqDiff,Nat.reduceBEq,reduceAdd];try trivial)) ?_
      clear hr
      rintro j ⟨hj,hr⟩ Ql3 hnl3 hel3
      by_cases hj':j<o.ch.length
      · have hd:=getD_drop0 o.ch j default hj'
        generalize hcc:o.ch.getD j default=c at *
        rw[hd,chL_at] at hr
        have hk1:((j:Int) - 1).toNat=j - 1:=by omega
        generalize hpp:o.ch.getD (j - 1) default=q at *
        have hrl:=rule_ok m c.1
        generalize hrb:ruleB m.rules c.1=rb at *
        have hpl:=price_ok c.2
        generalize hpb:priceB c.2=pb at *
        repeat' (first|((first|((first|refine rr ?_|refine rre ?_|refine rb ?_|refine rbe ?_|refine ra ?_|refine rae ?_);intro K hK)|with_reducible refine gO ?_);simp (disch:=omega) only[Ac,↓Pc,simprocAttr,hcc,hpp,hk1])|(first|refine callK_pure (hrl) rfl rfl ?_|refine callQ_pure (hrl) rfl rfl ?_)|(first|refine callK_pure (hpl) rfl rfl ?_|refine callQ_pure (hpl) rfl rfl ?_)|(refine hK _ ?_;clear hK K)|(with_reducible refine gS (fun hb'=>?_) (fun hb'=>?_)<;>(have hb:=hb';(try simp only[DEc,simprocAttr] at hb);simp (disch:=omega) only[Ac,↓Pc,simprocAttr,hcc,hpp,hk1,hb'];clear hb'))|(refine Wc (fun ht=>?_) (fun ht=>?_)<;>(try simp only[DEc,simprocAttr] at ht))|refine Wz rfl ?_|(refine Wb ?_;intro Qb hnb hxb heb)|(refine Wk ?_;intro Q hn he)|((first|refine hn _ ?_|refine he _ _ rfl ?_);clear hn he;try clear Q)|((first|refine hnb _ ?_|refine hxb _ ?_|refine heb _ _ rfl ?_);clear hnb hxb heb;try clear Qb)|(simp only[Qc,Kc,simprocAttr])|with_reducible refine And.intro ?_ ?_|omega|with_reducible rfl)
        iterate 3
          · obtain rfl:b1=true:=by
              rw[← hr]
              first
                | (rw[show rb=false by assumption];rfl)
                | (rw[show pb=false by assumption];simp;done)
                | (rw[decide_eq_false (p:=j=0) (by omega),decide_eq_false (p:=q.1<c.1) (by omega)];simp;done)
            rw[if_pos rfl] at hres
            repeat (first|((first|refine hn _ ?_|refine he _ _ rfl ?_);clear hn he;try clear Q)|((first|refine hnb _ ?_|refine hxb _ ?_|refine heb _ _ rfl ?_);clear hnb hxb heb;try clear Qb)|(refine hel _ _ rfl ?_;clear hnl hel;try clear Ql)|(refine hel2 _ _ rfl ?_;clear hnl2 hel2;try clear Ql2)|(refine hel3 _ _ rfl ?_;clear hnl3 hel3;try clear Ql3)|(refine hel4 _ _ rfl ?_;clear hnl4 hel4;try clear Ql4))
            repeat' (first|((first|((first|refine rr ?_|refine rre ?_);intro K hK)|with_reducible refine gO ?_);simp (disch:=omega) only[Ac,↓Pc,simprocAttr])|(refine hK _ ?_;clear hK K)|(with_reducible refine gS (fun hb'=>?_) (fun hb'=>?_)<;>(have hb:=hb';(try simp only[DEc,simprocAttr] at hb);simp (disch:=omega) only[Ac,↓Pc,simprocAttr,hb'];clear hb'))|(refine Wc (fun ht=>?_) (fun ht=>?_)<;>(try simp only[DEc,simprocAttr] at ht))|refine Wz rfl ?_|(refine Wb ?_;intro Qb hnb hxb heb)|(refine Wk ?_;intro Q hn he)|((first|refine hn _ ?_|refine he _ _ rfl ?_);clear hn he;try clear Q)|((first|refine hnb _ ?_|refine hxb _ ?_|refine heb _ _ rfl ?_);clear hnb hxb heb;try clear Qb)|(refine hel _ _ rfl ?_;clear hnl hel;try clear Ql)|(simp only[Qc,Kc,simprocAttr])|with_reducible refine And.intro ?_ ?_|omega|with_reducible rfl)
            exact RetOK_pure' rfl (by rw[hres])
        all_goals
          refine hnl3 _ (j+1) ⟨by omega,?_⟩ (by omega) (by (refine Turns.slots _ _ rfl ?_;simp only[Tc,↓reduceIte,reduceEqDiff,Nat.reduceBEq,reduceAdd];try trivial))
          rw[prevAt_succ,hcc,← hr,show rb=true by assumption,show pb=true by assumption]
          first
            | (rw[decide_eq_true (p:=q.1<c.1) (by omega)];simp;done)
            | (rw[decide_eq_true (p:=j=0) (by omega)];simp;done)
      · rw[List.drop_eq_nil_of_le (by omega),chL] at hr
        simp only[Bool.not_true,Bool.false_or] at hr
        repeat' (first|((first|((first|refine rr ?_|refine rre ?_);intro K hK)|with_reducible refine gO ?_);simp (disch:=omega) only[Ac,↓Pc,simprocAttr])|(refine hK _ ?_;clear hK K)|(with_reducible refine gS (fun hb'=>?_) (fun hb'=>?_)<;>(have hb:=hb';(try simp only[DEc,simprocAttr] at hb);simp (disch:=omega) only[Ac,↓Pc,simprocAttr,hb'];clear hb'))|(refine Wc (fun ht=>?_) (fun ht=>?_)<;>(try simp only[DEc,simprocAttr] at ht))|refine Wz rfl ?_|(refine Wb ?_;intro Qb hnb hxb heb)|(refine Wk ?_;intro Q hn he)|((first|refine hn _ ?_|refine he _ _ rfl ?_);clear hn he;try clear Q)|((first|refine hnb _ ?_|refine hxb _ ?_|refine heb _ _ rfl ?_);clear hnb hxb heb;try clear Qb)|(simp only[Qc,Kc,simprocAttr])|with_reducible refine And.intro ?_ ?_|omega|with_reducible rfl)
        refine hel3 _ _ rfl ?_
        clear hnl3 hel3 Ql3
        repeat (first|((first|refine hn _ ?_|refine he _ _ rfl ?_);clear hn he;try clear Q)|((first|refine hnb _ ?_|refine hxb _ ?_|refine heb _ _ rfl ?_);clear hnb hxb heb;try clear Qb)|(refine hel _ _ rfl ?_;clear hnl hel;try clear Ql))
        repeat' (first|((first|((first|refine rr ?_|refine rre ?_);intro K hK)|with_reducible refine gO ?_);simp (disch:=omega) only[Ac,↓Pc,simprocAttr])|(refine hK _ ?_;clear hK K)|(with_reducible refine gS (fun hb'=>?_) (fun hb'=>?_)<;>(have hb:=hb';(try simp only[DEc,simprocAttr] at hb);simp (disch:=omega) only[Ac,↓Pc,simprocAttr,hb'];clear hb'))|(refine Wc (fun ht=>?_) (fun ht=>?_)<;>(try simp only[DEc,simprocAttr] at ht))|refine Wz rfl ?_|(refine Wb ?_;intro Qb hnb hxb heb)|(refine Wk ?_;intro Q hn he)|((first|refine hn _ ?_|refine he _ _ rfl ?_);clear hn he;try clear Q)|((first|refine hnb _ ?_|refine hxb _ ?_|refine heb _ _ rfl ?_);clear hnb hxb heb;try clear Qb)|(simp only[Qc,Kc,simprocAttr])|with_reducible refine And.intro ?_ ?_|omega|with_reducible rfl)
        exact hnl2 _ (k+1) ⟨by omega,by rw[hrest2];exact hr⟩ (by omega) (by (refine Turns.slots _ _ rfl ?_;simp only[Tc,↓reduceIte,reduceEqDiff,Nat.reduceBEq,reduceAdd];try trivial))
    · rw[List.drop_eq_nil_of_le (by omega),List.any_nil,Bool.false_or] at hr
      repeat' (first|((first|((first|refine rr ?_|refine rre ?_);intro K hK)|with_reducible refine gO ?_);simp (disch:=omega) only[Ac,↓Pc,simprocAttr,hll])|(refine hK _ ?_;clear hK K)|(with_reducible refine gS (fun hb'=>?_) (fun hb'=>?_)<;>(have hb:=hb';(try simp only[DEc,simprocAttr] at hb);simp (disch:=omega) only[Ac,↓Pc,simprocAttr,hll,hb'];clear hb'))|(refine Wc (fun ht=>?_) (fun ht=>?_)<;>(try simp only[DEc,simprocAttr] at ht))|refine Wz rfl ?_|(refine Wb ?_;intro Qb hnb hxb heb)|(refine Wk ?_;intro Q hn he)|((first|refine hn _ ?_|refine he _ _ rfl ?_);clear hn he;try clear Q)|((first|refine hnb _ ?_|refine hxb _ ?_|refine heb _ _ rfl ?_);clear hnb hxb heb;try clear Qb)|(simp only[Qc,Kc,simprocAttr])|with_reducible refine And.intro ?_ ?_|omega|with_reducible rfl)
      refine hel2 _ _ rfl ?_
      clear hnl2 hel2 Ql2
      repeat (first|((first|refine hn _ ?_|refine he _ _ rfl ?_);clear hn he;try clear Q)|((first|refine hnb _ ?_|refine hxb _ ?_|refine heb _ _ rfl ?_);clear hnb hxb heb;try clear Qb)|(refine hel _ _ rfl ?_;clear hnl hel;try clear Ql))
      repeat' (first|((first|((first|refine rr ?_|refine rre ?_);intro K hK)|with_reducible refine gO ?_);simp (disch:=omega) only[Ac,↓Pc,simprocAttr])|(refine hK _ ?_;clear hK K)|(with_reducible refine gS (fun hb'=>?_) (fun hb'=>?_)<;>(have hb:=hb';(try simp only[DEc,simprocAttr] at hb);simp (disch:=omega) only[Ac,↓Pc,simprocAttr,hb'];clear hb'))|(refine Wc (fun ht=>?_) (fun ht=>?_)<;>(try simp only[DEc,simprocAttr] at ht))|refine Wz rfl ?_|(refine Wb ?_;intro Qb hnb hxb heb)|(refine Wk ?_;intro Q hn he)|((first|refine hn _ ?_|refine he _ _ rfl ?_);clear hn he;try clear Q)|((first|refine hnb _ ?_|refine hxb _ ?_|refine heb _ _ rfl ?_);clear hnb hxb heb;try clear Qb)|(simp only[Qc,Kc,simprocAttr])|with_reducible refine And.intro ?_ ?_|omega|with_reducible rfl)
      exact hnl _ (i+1) ⟨by omega,by rw[hrest];exact hr⟩ (by omega) (by (refine Turns.slots _ _ rfl ?_;simp only[Tc,↓reduceIte,reduceEqDiff,Nat.reduceBEq,reduceAdd];try trivial))
  rw[List.drop_eq_nil_of_le (by omega),List.any_nil] at hr
  subst hr
  rw[if_neg (by simp)] at hres
  repeat' (first|((first|((first|refine rr ?_|refine rre ?_);intro K hK)|with_reducible refine gO ?_);simp (disch:=omega) only[Ac,↓Pc,simprocAttr])|(refine hK _ ?_;clear hK K)|(with_reducible refine gS (fun hb'=>?_) (fun hb'=>?_)<;>(have hb:=hb';(try simp only[DEc,simprocAttr] at hb);simp (disch:=omega) only[Ac,↓Pc,simprocAttr,hb'];clear hb'))|(refine Wc (fun ht=>?_) (fun ht=>?_)<;>(try simp only[DEc,simprocAttr] at ht))|refine Wz rfl ?_|(refine Wb ?_;intro Qb hnb hxb heb)|(refine Wk ?_;intro Q hn he)|((first|refine hn _ ?_|refine he _ _ rfl ?_);clear hn he;try clear Q)|((first|refine hnb _ ?_|refine hxb _ ?_|refine heb _ _ rfl ?_);clear hnb hxb heb;try clear Qb)|(simp only[Qc,Kc,simprocAttr])|with_reducible refine And.intro ?_ ?_|omega|with_reducible rfl)
  refine hel _ _ rfl ?_;clear hnl hel Ql
  clear hi hi'
  repeat (first|((first|refine hn _ ?_|refine he _ _ rfl ?_);clear hn he;try clear Q)|((first|refine hnb _ ?_|refine hxb _ ?_|refine heb _ _ rfl ?_);clear hnb hxb heb;try clear Qb)|(refine hel _ _ rfl ?_;clear hnl hel;try clear Ql))
  repeat' (first|((first|((first|refine rr ?_|refine rre ?_);intro K hK)|with_reducible refine gO ?_);simp (disch:=omega) only[Ac,↓Pc,simprocAttr])|(refine hK _ ?_;clear hK K)|(with_reducible refine gS (fun hb'=>?_) (fun hb'=>?_)<;>(have hb:=hb';(try simp only[DEc,simprocAttr] at hb);simp (disch:=omega) only[Ac,↓Pc,simprocAttr,hb'];clear hb'))|(refine Wc (fun ht=>?_) (fun ht=>?_)<;>(try simp only[DEc,simprocAttr] at ht))|refine Wz rfl ?_|(refine Wb ?_;intro Qb hnb hxb heb)|(refine Wk ?_;intro Q hn he)|((first|refine hn _ ?_|refine he _ _ rfl ?_);clear hn he;try clear Q)|((first|refine hnb _ ?_|refine hxb _ ?_|refine heb _ _ rfl ?_);clear hnb hxb heb;try clear Qb)|(refine hel _ _ rfl ?_;clear hnl hel;try clear Ql)|(simp only[Qc,Kc,simprocAttr])|with_reducible refine And.intro ?_ ?_|omega|with_reducible rfl)
  refine W_loopS (fun k:Nat=>(⟨slots [(1,.ptr 0 0 0),(7,.lit (.int .i64 k))],[.var (eMdl m)]⟩:St)) (fun k=>k≤m.prs.length∧prsL m none m.prs=prsL m (prevAt m.prs k) (m.prs.drop k)) (fun k=>m.prs.length - k) 0 ⟨Nat.zero_le _,rfl⟩ (by (refine Turns.slots _ _ rfl ?_;simp only[Tc,↓reduceIte,reduceEqDiff,Nat.reduceBEq,reduceAdd];try trivial)) ?_
  rintro k ⟨hk,hr⟩ Ql hnl hel
  by_cases hk':k<m.prs.length
  · have hd:=getD_drop0 m.prs k default hk'
    have hpr:=refPaired_ok m k hk' hm.tab hsz.2 hsz.1 hm.prs
    rw[hd,prsL_at] at hr
    generalize (pairB m (m.prs.getD k default) && (decide (k=0) || decide (ordV (m.prs.getD (k - 1) default) (m.prs.getD k default)<0)))=pb at *
    repeat' (first|((first|((first|refine rr ?_|refine rre ?_|refine rb ?_|refine rbe ?_|refine ra ?_|refine rae ?_);intro K hK)|with_reducible refine gO ?_);simp (disch:=omega) only[Ac,↓Pc,simprocAttr])|(first|refine callK_pure (hpr) rfl rfl ?_|refine callQ_pure (hpr) rfl rfl ?_)|(refine hK _ ?_;clear hK K)|(with_reducible refine gS (fun hb'=>?_) (fun hb'=>?_)<;>(have hb:=hb';(try simp only[DEc,simprocAttr] at hb);simp (disch:=omega) only[Ac,↓Pc,simprocAttr,hb'];clear hb'))|(refine Wc (fun ht=>?_) (fun ht=>?_)<;>(try simp only[DEc,simprocAttr] at ht))|refine Wz rfl ?_|(refine Wb ?_;intro Qb hnb hxb heb)|(refine Wk ?_;intro Q hn he)|((first|refine hn _ ?_|refine he _ _ rfl ?_);clear hn he;try clear Q)|((first|refine hnb _ ?_|refine hxb _ ?_|refine heb _ _ rfl ?_);clear hnb hxb heb;try clear Qb)|(simp only[Qc,Kc,simprocAttr])|with_reducible refine And.intro ?_ ?_|omega|with_reducible rfl)
    · obtain rfl:pb=false:=by assumption
      rw[Bool.false_and] at hr
      rw[if_pos hr] at hres
      subst hres
      repeat' (first|((first|((first|refine rr ?_|refine rre ?_);intro K hK)|with_reducible refine gO ?_);simp (disch:=omega) only[Ac,↓Pc,simprocAttr])|(refine hK _ ?_;clear hK K)|(with_reducible refine gS (fun hb'=>?_) (fun hb'=>?_)<;>(have hb:=hb';(try simp only[DEc,simprocAttr] at hb);simp (disch:=omega) only[Ac,↓Pc,simprocAttr,hb'];clear hb'))|(refine Wc (fun ht=>?_) (fun ht=>?_)<;>(try simp only[DEc,simprocAttr] at ht))|refine Wz rfl ?_|(refine Wb ?_;intro Qb hnb hxb heb)|(refine Wk ?_;intro Q hn he)|((first|refine hn _ ?_|refine he _ _ rfl ?_);clear hn he;try clear Q)|((first|refine hnb _ ?_|refine hxb _ ?_|refine heb _ _ rfl ?_);clear hnb hxb heb;try clear Qb)|(refine hel _ _ rfl ?_;clear hnl hel;try clear Ql)|(simp only[Qc,Kc,simprocAttr])|with_reducible refine And.intro ?_ ?_|omega|with_reducible rfl)
      exact RetOK_pure' rfl rfl
    · obtain rfl:pb=true:=by assumption
      rw[Bool.true_and] at hr
      exact hnl _ (k+1) ⟨by omega,by rw[prevAt_succ];exact hr⟩ (by omega) (by (refine Turns.slots _ _ rfl ?_;simp only[Tc,↓reduceIte,reduceEqDiff,Nat.reduceBEq,reduceAdd];try trivial))
  rw[List.drop_eq_nil_of_le (by omega),prsL] at hr
  rw[if_neg (by rw[hr];simp)] at hres
  repeat' (first|((first|((first|refine rr ?_|refine rre ?_);intro K hK)|with_reducible refine gO ?_);simp (disch:=omega) only[Ac,↓Pc,simprocAttr])|(refine hK _ ?_;clear hK K)|(with_reducible refine gS (fun hb'=>?_) (fun hb'=>?_)<;>(have hb:=hb';(try simp only[DEc,simprocAttr] at hb);simp (disch:=omega) only[Ac,↓Pc,simprocAttr,hb'];clear hb'))|(refine Wc (fun ht=>?_) (fun ht=>?_)<;>(try simp only[DEc,simprocAttr] at ht))|refine Wz rfl ?_|(refine Wb ?_;intro Qb hnb hxb heb)|(refine Wk ?_;intro Q hn he)|((first|refine hn _ ?_|refine he _ _ rfl ?_);clear hn he;try clear Q)|((first|refine hnb _ ?_|refine hxb _ ?_|refine heb _ _ rfl ?_);clear hnb hxb heb;try clear Qb)|(simp only[Qc,Kc,simprocAttr])|with_reducible refine And.intro ?_ ?_|omega|with_reducible rfl)
  refine hel _ _ rfl ?_;clear hnl hel Ql
  clear hr hk hk'
  repeat (first|((first|refine hn _ ?_|refine he _ _ rfl ?_);clear hn he;try clear Q)|((first|refine hnb _ ?_|refine hxb _ ?_|refine heb _ _ rfl ?_);clear hnb hxb heb;try clear Qb)|(refine hel _ _ rfl ?_;clear hnl hel;try clear Ql))
  repeat' (first|((first|((first|refine rr ?_|refine rre ?_);intro K hK)|with_reducible refine gO ?_);simp (disch:=omega) only[Ac,↓Pc,simprocAttr])|(refine hK _ ?_;clear hK K)|(with_reducible refine gS (fun hb'=>?_) (fun hb'=>?_)<;>(have hb:=hb';(try simp only[DEc,simprocAttr] at hb);simp (disch:=omega) only[Ac,↓Pc,simprocAttr,hb'];clear hb'))|(refine Wc (fun ht=>?_) (fun ht=>?_)<;>(try simp only[DEc,simprocAttr] at ht))|refine Wz rfl ?_|(refine Wb ?_;intro Qb hnb hxb heb)|(refine Wk ?_;intro Q hn he)|((first|refine hn _ ?_|refine he _ _ rfl ?_);clear hn he;try clear Q)|((first|refine hnb _ ?_|refine hxb _ ?_|refine heb _ _ rfl ?_);clear hnb hxb heb;try clear Qb)|(refine hel _ _ rfl ?_;clear hnl hel;try clear Ql)|(simp only[Qc,Kc,simprocAttr])|with_reducible refine And.intro ?_ ?_|omega|with_reducible rfl)
  generalize h2:(m.cts.any fun c=>!ctB m c)=b2 at *
  refine W_loopS (fun k:Nat=>(⟨slots [(1,.ptr 0 0 0),(8,.lit (.int .i64 k))],[.var (eMdl m)]⟩:St)) (fun k=>k≤m.cts.length∧((m.cts.drop k).any fun c=>!ctB m c)=b2) (fun k=>m.cts.length - k) 0 ⟨Nat.zero_le _,h2⟩ (by (refine Turns.slots _ _ rfl ?_;simp only[Tc,↓reduceIte,reduceEqDiff,Nat.reduceBEq,reduceAdd];try trivial)) ?_
  rintro k ⟨hk,hr⟩ Ql hnl hel
  by_cases hk':k<m.cts.length
  · have hcm:=getD_mem (d:=(default:Ct)) hk'
    have hll:=hm.lds _ hcm
    rw[any_drop hk'] at hr
    generalize hcc:m.cts.getD k default=c at *
    have hct:=refCounted_ok m c hll
    generalize ctB m c=cb at *
    repeat' (first|((first|((first|refine rr ?_|refine rre ?_|refine rb ?_|refine rbe ?_|refine ra ?_|refine rae ?_);intro K hK)|with_reducible refine gO ?_);simp (disch:=omega) only[Ac,↓Pc,simprocAttr,hcc])|(first|refine callK_pure (hct) rfl rfl ?_|refine callQ_pure (hct) rfl rfl ?_)|(refine hK _ ?_;clear hK K)|(with_reducible refine gS (fun hb'=>?_) (fun hb'=>?_)<;>(have hb:=hb';(try simp only[DEc,simprocAttr] at hb);simp (disch:=omega) only[Ac,↓Pc,simprocAttr,hcc,hb'];clear hb'))|(refine Wc (fun ht=>?_) (fun ht=>?_)<;>(try simp only[DEc,simprocAttr] at ht))|refine Wz rfl ?_|(refine Wb ?_;intro Qb hnb hxb heb)|(refine Wk ?_;intro Q hn he)|((first|refine hn _ ?_|refine he _ _ rfl ?_);clear hn he;try clear Q)|((first|refine hnb _ ?_|refine hxb _ ?_|refine heb _ _ rfl ?_);clear hnb hxb heb;try clear Qb)|(simp only[Qc,Kc,simprocAttr])|with_reducible refine And.intro ?_ ?_|omega|with_reducible rfl)
    · obtain rfl:cb=false:=by assumption
      simp only[Bool.not_false,Bool.true_or] at hr
      rw[if_pos hr.symm] at hres
      subst hres
      repeat' (first|((first|((first|refine rr ?_|refine rre ?_);intro K hK)|with_reducible refine gO ?_);simp (disch:=omega) only[Ac,↓Pc,simprocAttr])|(refine hK _ ?_;clear hK K)|(with_reducible refine gS (fun hb'=>?_) (fun hb'=>?_)<;>(have hb:=hb';(try simp only[DEc,simprocAttr] at hb);simp (disch:=omega) only[Ac,↓Pc,simprocAttr,hb'];clear hb'))|(refine Wc (fun ht=>?_) (fun ht=>?_)<;>(try simp only[DEc,simprocAttr] at ht))|refine Wz rfl ?_|(refine Wb ?_;intro Qb hnb hxb heb)|(refine Wk ?_;intro Q hn he)|((first|refine hn _ ?_|refine he _ _ rfl ?_);clear hn he;try clear Q)|((first|refine hnb _ ?_|refine hxb _ ?_|refine heb _ _ rfl ?_);clear hnb hxb heb;try clear Qb)|(refine hel _ _ rfl ?_;clear hnl hel;try clear Ql)|(simp only[Qc,Kc,simprocAttr])|with_reducible refine And.intro ?_ ?_|omega|with_reducible rfl)
      exact RetOK_pure' rfl rfl
    · obtain rfl:cb=true:=by assumption
      rw[Bool.not_true,Bool.false_or] at hr
      exact hnl _ (k+1) ⟨by omega,hr⟩ (by omega) (by (refine Turns.slots _ _ rfl ?_;simp only[Tc,↓reduceIte,reduceEqDiff,Nat.reduceBEq,reduceAdd];try trivial))
  rw[List.drop_eq_nil_of_le (by omega),List.any_nil] at hr
  subst hr
  rw[if_neg (by simp)] at hres
  subst hres
  repeat' (first|((first|((first|refine rr ?_|refine rre ?_);intro K hK)|with_reducible refine gO ?_);simp (disch:=omega) only[Ac,↓Pc,simprocAttr])|(refine hK _ ?_;clear hK K)|(with_reducible refine gS (fun hb'=>?_) (fun hb'=>?_)<;>(have hb:=hb';(try simp only[DEc,simprocAttr] at hb);simp (disch:=omega) only[Ac,↓Pc,simprocAttr,hb'];clear hb'))|(refine Wc (fun ht=>?_) (fun ht=>?_)<;>(try simp only[DEc,simprocAttr] at ht))|refine Wz rfl ?_|(refine Wb ?_;intro Qb hnb hxb heb)|(refine Wk ?_;intro Q hn he)|((first|refine hn _ ?_|refine he _ _ rfl ?_);clear hn he;try clear Q)|((first|refine hnb _ ?_|refine hxb _ ?_|refine heb _ _ rfl ?_);clear hnb hxb heb;try clear Qb)|(simp only[Qc,Kc,simprocAttr])|with_reducible refine And.intro ?_ ?_|omega|with_reducible rfl)
  refine hel _ _ rfl ?_;clear hnl hel Ql
  repeat (first|((first|refine hn _ ?_|refine he _ _ rfl ?_);clear hn he;try clear Q)|((first|refine hnb _ ?_|refine hxb _ ?_|refine heb _ _ rfl ?_);clear hnb hxb heb;try clear Qb)|(refine hel _ _ rfl ?_;clear hnl hel;try clear Ql))
  repeat' (first|((first|((first|refine rr ?_|refine rre ?_);intro K hK)|with_reducible refine gO ?_);simp (disch:=omega) only[Ac,↓Pc,simprocAttr])|(refine hK _ ?_;clear hK K)|(with_reducible refine gS (fun hb'=>?_) (fun hb'=>?_)<;>(have hb:=hb';(try simp only[DEc,simprocAttr] at hb);simp (disch:=omega) only[Ac,↓Pc,simprocAttr,hb'];clear hb'))|(refine Wc (fun ht=>?_) (fun ht=>?_)<;>(try simp only[DEc,simprocAttr] at ht))|refine Wz rfl ?_|(refine Wb ?_;intro Qb hnb hxb heb)|(refine Wk ?_;intro Q hn he)|((first|refine hn _ ?_|refine he _ _ rfl ?_);clear hn he;try clear Q)|((first|refine hnb _ ?_|refine hxb _ ?_|refine heb _ _ rfl ?_);clear hnb hxb heb;try clear Qb)|(refine hel _ _ rfl ?_;clear hnl hel;try clear Ql)|(simp only[Qc,Kc,simprocAttr])|with_reducible refine And.intro ?_ ?_|omega|with_reducible rfl)
  exact RetOK_pure' rfl rfl
end T
open Go Go.Am Go.Proofs
open Nat (reduceEqDiff reduceAdd reduceLeDiff reduceMul)
open Int (reduceNeg reduceLE reduceToNat)
set_option maxRecDepth 20000
namespace T
end T
open Go Go.Am Go.Proofs
open Nat (reduceEqDiff reduceAdd reduceLeDiff reduceMul)
open Int (reduceNeg reduceLE reduceToNat)
set_option maxRecDepth 20000
namespace T
set_option maxRecDepth 10000 in
set_option maxHeartbeats 8000000 in
theorem partial_ok (m:Mdl) (plan:List Int) (hp:plan.length<9223372036854775808):Holds Try.prog 34 [.agg (eMdl m),.tree 1 (ints plan)] [] (.lit (.bool (plannedV m plan))) []:=by
  generalize hres:plannedV m plan=res
  unfold plannedV at hres
  refine Holds.of_body' (fn:=Try.f34) 33 0 [.tmp 4] Try.func34 rfl rfl rfl rfl rfl (by simp) ?_
  by_cases hl:plan.length≠m.cls.length
  · rw[if_pos hl] at hres
    repeat' (first|((first|((first|refine rr ?_|refine rre ?_);intro K hK)|with_reducible refine gO ?_);simp (disch:=omega) only[Ac,↓Pc,simprocAttr])|(refine hK _ ?_;clear hK K)|(with_reducible refine gS (fun hb'=>?_) (fun hb'=>?_)<;>(have hb:=hb';(try simp only[DEc,simprocAttr] at hb);simp (disch:=omega) only[Ac,↓Pc,simprocAttr,hb'];clear hb'))|(refine Wc (fun ht=>?_) (fun ht=>?_)<;>(try simp only[DEc,simprocAttr] at ht))|refine Wz rfl ?_|(refine Wb ?_;intro Qb hnb hxb heb)|(refine Wk ?_;intro Q hn he)|((first|refine hn _ ?_|refine he _ _ rfl ?_);clear hn he;try clear Q)|((first|refine hnb _ ?_|refine hxb _ ?_|refine heb _ _ rfl ?_);clear hnb hxb heb;try clear Qb)|(refine hel _ _ rfl ?_;clear hnl hel;try clear Ql)|(simp only[Qc,Kc,simprocAttr])|with_reducible refine And.intro ?_ ?_|omega|with_reducible rfl)
    all_goals first|exact RetOK_pure' rfl (by rw[hres])|(exfalso;omega)
  rw[if_neg hl] at hres
  repeat' (first|((first|((first|refine rr ?_|refine rre ?_);intro K hK)|with_reducible refine gO ?_);simp (disch:=omega) only[Ac,↓Pc,simprocAttr])|(refine hK _ ?_;clear hK K)|(with_reducible refine gS (fun hb'=>?_) (fun hb'=>?_)<;>(have hb:=hb';(try simp only[DEc,simprocAttr] at hb);simp (disch:=omega) only[Ac,↓Pc,simprocAttr,hb'];clear hb'))|(refine Wc (fun ht=>?_) (fun ht=>?_)<;>(try simp only[DEc,simprocAttr] at ht))|refine Wz rfl ?_|(refine Wb ?_;intro Qb hnb hxb heb)|(refine Wk ?_;intro Q hn he)|((first|refine hn _ ?_|refine he _ _ rfl ?_);clear hn he;try clear Q)|((first|refine hnb _ ?_|refine hxb _ ?_|refine heb _ _ rfl ?_);clear hnb hxb heb;try clear Qb)|(refine hel _ _ rfl ?_;clear hnl hel;try clear Ql)|(simp only[Qc,Kc,simprocAttr])|with_reducible refine And.intro ?_ ?_|omega|with_reducible rfl)
  all_goals try (exfalso;omega)
  refine W_loopS (fun k:Nat=>(⟨slots [(1,.tree 1 (ints plan)),(2,.ptr 0 0 0),(5,.lit (.int .i64 k))],[.var (eMdl m)]⟩:St)) (fun k=>k≤plan.length∧planL m k (plan.drop k)=res) (fun k=>plan.length - k) 0 ⟨Nat.zero_le _,hres⟩ (by (refine Turns.slots _ _ rfl ?_;simp only[Tc,↓reduceIte,reduceEqDiff,Nat.reduceBEq,reduceAdd];try trivial)) ?_
  rintro k ⟨hk,hr⟩ Ql hnl hel
  by_cases hk':k<plan.length
  · have hd:=getD_drop0 plan k 0 hk'
    generalize hcc:plan.getD k 0=o at *
    rw[hd,planL] at hr
    have hop:=refOption_ok m k o
    generalize optB m k o=ob at *
    repeat' (first|((first|((first|refine rr ?_|refine rre ?_|refine rb ?_|refine rbe ?_|refine ra ?_|refine rae ?_);intro K hK)|with_reducible refine gO ?_);simp (disch:=omega) only[Ac,↓Pc,simprocAttr,hcc])|(first|refine callK_pure (hop) rfl rfl ?_|refine callQ_pure (hop) rfl rfl ?_)|(refine hK _ ?_;clear hK K)|(with_reducible refine gS (fun hb'=>?_) (fun hb'=>?_)<;>(have hb:=hb';(try simp only[DEc,simprocAttr] at hb);simp (disch:=omega) only[Ac,↓Pc,simprocAttr,hcc,hb'];clear hb'))|(refine Wc (fun ht=>?_) (fun ht=>?_)<;>(try simp only[DEc,simprocAttr] at ht))|refine Wz rfl ?_|(refine Wb ?_;intro Qb hnb hxb heb)|(refine Wk ?_;intro Q hn he)|((first|refine hn _ ?_|refine he _ _ rfl ?_);clear hn he;try clear Q)|((first|refine hnb _ ?_|refine hxb _ ?_|refine heb _ _ rfl ?_);clear hnb hxb heb;try clear Qb)|(simp only[Qc,Kc,simprocAttr])|with_reducible refine And.intro ?_ ?_|omega|with_reducible rfl)
    · have hrf:res=false:=by rw[← hr,decide_eq_false (p:=o = -1) (by omega),show ob=false by assumption];rfl
      repeat (first|((first|refine hn _ ?_|refine he _ _ rfl ?_);clear hn he;try clear Q)|((first|refine hnb _ ?_|refine hxb _ ?_|refine heb _ _ rfl ?_);clear hnb hxb heb;try clear Qb)|(refine hel _ _ rfl ?_;clear hnl hel;try clear Ql)|(refine hel2 _ _ rfl ?_;clear hnl2 hel2;try clear Ql2)|(refine hel3 _ _ rfl ?_;clear hnl3 hel3;try clear Ql3)|(refine hel4 _ _ rfl ?_;clear hnl4 hel4;try clear Ql4))
      repeat' (first|((first|((first|refine rr ?_|refine rre ?_);intro K hK)|with_reducible refine gO ?_);simp (disch:=omega) only[Ac,↓Pc,simprocAttr])|(refine hK _ ?_;clear hK K)|(with_reducible refine gS (fun hb'=>?_) (fun hb'=>?_)<;>(have hb:=hb';(try simp only[DEc,simprocAttr] at hb);simp (disch:=omega) only[Ac,↓Pc,simprocAttr,hb'];clear hb'))|(refine Wc (fun ht=>?_) (fun ht=>?_)<;>(try simp only[DEc,simprocAttr] at ht))|refine Wz rfl ?_|(refine Wb ?_;intro Qb hnb hxb heb)|(refine Wk ?_;intro Q hn he)|((first|refine hn _ ?_|refine he _ _ rfl ?_);clear hn he;try clear Q)|((first|refine hnb _ ?_|refine hxb _ ?_|refine heb _ _ rfl ?_);clear hnb hxb heb;try clear Qb)|(refine hel _ _ rfl ?_;clear hnl hel;try clear Ql)|(simp only[Qc,Kc,simprocAttr])|with_reducible refine And.intro ?_ ?_|omega|with_reducible rfl)
      exact RetOK_pure' rfl (by rw[hrf])
    · rw[show ob=true by assumption,Bool.or_true,Bool.true_and] at hr
      exact hnl _ (k+1) ⟨by omega,hr⟩ (by omega) (by (refine Turns.slots _ _ rfl ?_;simp only[Tc,↓reduceIte,reduceEqDiff,Nat.reduceBEq,reduceAdd];try trivial))
    · rw[decide_eq_true (p:=o = -1) (by omega),Bool.true_or,Bool.true_and] at hr
      exact hnl _ (k+1) ⟨by omega,hr⟩ (by omega) (by (refine Turns.slots _ _ rfl ?_;simp only[Tc,↓reduceIte,reduceEqDiff,Nat.reduceBEq,reduceAdd];try trivial))
  · repeat' (first|((first|((first|refine rr ?_|refine rre ?_);intro K hK)|with_reducible refine gO ?_);simp (disch:=omega) only[Ac,↓Pc,simprocAttr])|(refine hK _ ?_;clear hK K)|(with_reducible refine gS (fun hb'=>?_) (fun hb'=>?_)<;>(have hb:=hb';(try simp only[DEc,simprocAttr] at hb);simp (disch:=omega) only[Ac,↓Pc,simprocAttr,hb'];clear hb'))|(refine Wc (fun ht=>?_) (fun ht=>?_)<;>(try simp only[DEc,simprocAttr] at ht))|refine Wz rfl ?_|(refine Wb ?_;intro Qb hnb hxb heb)|(refine Wk ?_;intro Q hn he)|((first|refine hn _ ?_|refine he _ _ rfl ?_);clear hn he;try clear Q)|((first|refine hnb _ ?_|refine hxb _ ?_|refine heb _ _ rfl ?_);clear hnb hxb heb;try clear Qb)|(simp only[Qc,Kc,simprocAttr])|with_reducible refine And.intro ?_ ?_|omega|with_reducible rfl)
    rw[List.drop_eq_nil_of_le (by omega),planL] at hr
    refine hel _ _ rfl ?_;clear hnl hel Ql
    repeat (first|((first|refine hn _ ?_|refine he _ _ rfl ?_);clear hn he;try clear Q)|((first|refine hnb _ ?_|refine hxb _ ?_|refine heb _ _ rfl ?_);clear hnb hxb heb;try clear Qb)|(refine hel _ _ rfl ?_;clear hnl hel;try clear Ql))
    repeat' (first|((first|((first|refine rr ?_|refine rre ?_);intro K hK)|with_reducible refine gO ?_);simp (disch:=omega) only[Ac,↓Pc,simprocAttr])|(refine hK _ ?_;clear hK K)|(with_reducible refine gS (fun hb'=>?_) (fun hb'=>?_)<;>(have hb:=hb';(try simp only[DEc,simprocAttr] at hb);simp (disch:=omega) only[Ac,↓Pc,simprocAttr,hb'];clear hb'))|(refine Wc (fun ht=>?_) (fun ht=>?_)<;>(try simp only[DEc,simprocAttr] at ht))|refine Wz rfl ?_|(refine Wb ?_;intro Qb hnb hxb heb)|(refine Wk ?_;intro Q hn he)|((first|refine hn _ ?_|refine he _ _ rfl ?_);clear hn he;try clear Q)|((first|refine hnb _ ?_|refine hxb _ ?_|refine heb _ _ rfl ?_);clear hnb hxb heb;try clear Qb)|(refine hel _ _ rfl ?_;clear hnl hel;try clear Ql)|(simp only[Qc,Kc,simprocAttr])|with_reducible refine And.intro ?_ ?_|omega|with_reducible rfl)
    exact RetOK_pure' rfl (by rw[hr])
set_option maxRecDepth 10000 in
set_option maxHeartbeats 8000000 in
theorem entry_ok (m:Mdl) (p:Pr) (x y:Int) (hpb:pairB m p=true) (h24:∀ l∈m.cls,l.length≤24) (hx:0≤x∧x<(m.cls.getD p.fst.toNat default).length) (hy:0≤y∧y<(m.cls.getD p.snd.toNat default).length) :
    Holds Try.prog 72 [.agg (eMdl m),.agg (ePr p),.lit (.int .i64 x),.lit (.int .i64 y)] [] (.lit (.int .i64 (entryV m p x y))) []:=by
  obtain ⟨q1,q2,q3,q4,q5⟩:=pairB_iff hpb
  have hla:=h24 _ (getD_mem (l:=m.cls) (i:=p.fst.toNat) (d:=default) (by omega))
  have hlb:=h24 _ (getD_mem (l:=m.cls) (i:=p.snd.toNat) (d:=default) (by omega))
  have hidx:=entry_idx (x:=x) (y:=y) (a:=(m.cls.getD p.fst.toNat default).length) (b:=(m.cls.getD p.snd.toNat default).length) hx hy (by omega) (by omega)
  unfold entryV
  rw[← q5] at hidx
  generalize hbb:m.cls.getD p.snd.toNat default=lb at *
  generalize hxm:x * (lb.length:Int)=xm at *
  refine Holds.of_body' (fn:=Try.f72) 24 0 [.tmp 8] Try.func72 rfl rfl rfl rfl rfl (by simp) ?_
  repeat' (first|((first|((first|refine rr ?_|refine rre ?_);intro K hK)|with_reducible refine gO ?_);simp (disch:=omega) only[Ac,↓Pc,simprocAttr,hbb,hxm])|(refine hK _ ?_;clear hK K)|(with_reducible refine gS (fun hb'=>?_) (fun hb'=>?_)<;>(have hb:=hb';(try simp only[DEc,simprocAttr] at hb);simp (disch:=omega) only[Ac,↓Pc,simprocAttr,hbb,hxm,hb'];clear hb'))|(refine Wc (fun ht=>?_) (fun ht=>?_)<;>(try simp only[DEc,simprocAttr] at ht))|refine Wz rfl ?_|(refine Wb ?_;intro Qb hnb hxb heb)|(refine Wk ?_;intro Q hn he)|((first|refine hn _ ?_|refine he _ _ rfl ?_);clear hn he;try clear Q)|((first|refine hnb _ ?_|refine hxb _ ?_|refine heb _ _ rfl ?_);clear hnb hxb heb;try clear Qb)|(refine hel _ _ rfl ?_;clear hnl hel;try clear Ql)|(simp only[Qc,Kc,simprocAttr])|with_reducible refine And.intro ?_ ?_|omega|with_reducible rfl)
  exact RetOK_pure' rfl rfl
theorem times_exc {most pen n:Int} (hp:In41 pen):timesV (n - most) pen=excV most pen n:=by
  unfold timesV excV In41 at *
  by_cases h:n≤most
  · rw[if_pos (by omega),if_pos h]
  · rw[if_neg (by omega),if_neg h]
    split
    · have:pen=1099511627776:=by omega
      subst this
      omega
    · rfl
set_option maxRecDepth 10000 in
set_option maxHeartbeats 8000000 in
theorem rules_ok (m:Mdl) (plan:List Int) (hm:VM m) (hp:PM m plan):Holds Try.prog 35 [.agg (eMdl m),.tree 1 (ints plan)] [] (.tree 1 (ints (rulesV m plan))) []:=by
  have hm1:=hm.cls
  have hm2:=hm.prs
  have hm3:=hm.cts
  have hm4:=hm.rul
  have hpl:=hp.len
  unfold rulesV
  generalize h1:planC m 0 plan (List.replicate m.rules.toNat 0)=o1
  generalize h2:pairC m plan m.prs o1=o2
  generalize h3:countC plan m.cts o2=o3
  have hout:=OutOK.rep hm4.1
  refine Holds.of_body' (fn:=Try.f35) 178 0 [.tmp 4] Try.func35 rfl rfl rfl rfl rfl (by simp) ?_
  repeat' (first|((first|((first|refine rr ?_|refine rre ?_);intro K hK)|with_reducible refine gO ?_);simp (disch:=omega) only[Ac,↓Pc,simprocAttr])|(refine hK _ ?_;clear hK K)|(with_reducible refine gS (fun hb'=>?_) (fun hb'=>?_)<;>(have hb:=hb';(try simp only[DEc,simprocAttr] at hb);simp (disch:=omega) only[Ac,↓Pc,simprocAttr,hb'];clear hb'))|(refine Wc (fun ht=>?_) (fun ht=>?_)<;>(try simp only[DEc,simprocAttr] at ht))|refine Wz rfl ?_|(refine Wb ?_;intro Qb hnb hxb heb)|(refine Wk ?_;intro Q hn he)|((first|refine hn _ ?_|refine he _ _ rfl ?_);clear hn he;try clear Q)|((first|refine hnb _ ?_|refine hxb _ ?_|refine heb _ _ rfl ?_);clear hnb hxb heb;try clear Qb)|(refine hel _ _ rfl ?_;clear hnl hel;try clear Ql)|(simp only[Qc,Kc,simprocAttr])|with_reducible refine And.intro ?_ ?_|omega|with_reducible rfl)
  refine W_loopS (fun z:Nat × List Int=>(⟨slots [(1,.tree 1 (ints plan)),(2,.ptr 0 0 0),(5,.ref 1 1 0 m.rules.toNat),(6,.lit (.int .i64 z.1))],[.var (eMdl m),.arr 1 (ints z.2)]⟩:St))
    (fun z=>z.1≤plan.length∧OutOK m.rules z.2∧planC m z.1 (plan.drop z.1) z.2=o1) (fun z=>plan.length - z.1) (0,List.replicate m.rules.toNat 0) ⟨Nat.zero_le _,hout,h1⟩ (by (refine Turns.slots _ _ rfl ?_;simp only[Tc,↓reduceIte,reduceEqDiff,Nat.reduceBEq,reduceAdd];try trivial)) ?_
  rintro ⟨k,out⟩ ⟨hk,hok,hr⟩ Ql hnl hel
  dsimp only at hk hok hr ⊢
  have hol:out.length=m.rules.toNat:=by have:=hok.1;omega
  by_cases hk':k<plan.length
  · have hd:=getD_drop0 plan k 0 hk'
    have hget:=hp.get k hk'
    generalize hcc:plan.getD k 0=o at *
    rw[hd,planC] at hr
    by_cases ho:o<0
    · rw[if_pos ho] at hr
      repeat' (first|((first|((first|refine rr ?_|refine rre ?_);intro K hK)|with_reducible refine gO ?_);simp (disch:=omega) only[Ac,↓Pc,simprocAttr,hcc])|(refine hK _ ?_;clear hK K)|(with_reducible refine gS (fun hb'=>?_) (fun hb'=>?_)<;>(have hb:=hb';(try simp only[DEc,simprocAttr] at hb);simp (disch:=omega) only[Ac,↓Pc,simprocAttr,hcc,hb'];clear hb'))|(refine Wc (fun ht=>?_) (fun ht=>?_)<;>(try simp only[DEc,simprocAttr] at ht))|refine Wz rfl ?_|(refine Wb ?_;intro Qb hnb hxb heb)|(refine Wk ?_;intro Q hn he)|((first|refine hn _ ?_|refine he _ _ rfl ?_);clear hn he;try clear Q)|((first|refine hnb _ ?_|refine hxb _ ?_|refine heb _ _ rfl ?_);clear hnb hxb heb;try clear Qb)|(simp only[Qc,Kc,simprocAttr])|with_reducible refine And.intro ?_ ?_|omega|with_reducible rfl)
      exact hnl _ (k+1,out) ⟨by dsimp only;omega,hok,hr⟩ (by dsimp only;omega) (by (refine Turns.slots _ _ rfl ?_;simp only[Tc,↓reduceIte,reduceEqDiff,Nat.reduceBEq,reduceAdd];try trivial))
    · rw[if_neg ho] at hr
      obtain ⟨b1,b2,b3,b4⟩:=optB_iff.1 (hget.resolve_left (by omega))
      have hl:=getD_mem (l:=m.cls) (i:=k) (d:=default) (by omega)
      generalize hll:m.cls.getD k default=l at *
      rw[Int.toNat_natCast,hll] at b4
      have hol2:=getD_mem (l:=l) (i:=o.toNat) (d:=default) (by omega)
      have hch:=hm.chs l hl _ hol2
      generalize hoo:l.getD o.toNat default=op at *
      repeat' (first|((first|((first|refine rr ?_|refine rre ?_);intro K hK)|with_reducible refine gO ?_);simp (disch:=omega) only[Ac,↓Pc,simprocAttr,hcc,hll,hoo])|(refine hK _ ?_;clear hK K)|(with_reducible refine gS (fun hb'=>?_) (fun hb'=>?_)<;>(have hb:=hb';(try simp only[DEc,simprocAttr] at hb);simp (disch:=omega) only[Ac,↓Pc,simprocAttr,hcc,hll,hoo,hb'];clear hb'))|(refine Wc (fun ht=>?_) (fun ht=>?_)<;>(try simp only[DEc,simprocAttr] at ht))|refine Wz rfl ?_|(refine Wb ?_;intro Qb hnb hxb heb)|(refine Wk ?_;intro Q hn he)|((first|refine hn _ ?_|refine he _ _ rfl ?_);clear hn he;try clear Q)|((first|refine hnb _ ?_|refine hxb _ ?_|refine heb _ _ rfl ?_);clear hnb hxb heb;try clear Qb)|(simp only[Qc,Kc,simprocAttr])|with_reducible refine And.intro ?_ ?_|omega|with_reducible rfl)
      generalize hfin:chargesL op.ch out=out2 at hr
      have hcl:=chL_len0 hm4.1 hch
      refine W_loopS (fun z:Nat × List Int=>(⟨slots [(1,.tree 1 (ints plan)),(2,.ptr 0 0 0),(5,.ref 1 1 0 m.rules.toNat),(6,.lit (.int .i64 k)),(7,.tree 2 (rowsOf eCh op.ch)),(8,.lit (.int .i64 z.1))],[.var (eMdl m),.arr 1 (ints z.2)]⟩:St))
        (fun z=>z.1≤op.ch.length∧OutOK m.rules z.2∧chargesL (op.ch.drop z.1) z.2=out2) (fun z=>op.ch.length - z.1) (0,out) ⟨Nat.zero_le _,hok,hfin⟩ (by (refine Turns.slots _ _ rfl ?_;simp only[Tc,↓reduceIte,reduceEqDiff,Nat.reduceBEq,reduceAdd];try trivial)) ?_
      rintro ⟨j,out3⟩ ⟨hj,hok3,hr3⟩ Ql2 hnl2 hel2
      dsimp only at hj hok3 hr3 ⊢
      have hol3:out3.length=m.rules.toNat:=by have:=hok3.1;omega
      by_cases hj':j<op.ch.length
      · have hd3:=getD_drop0 op.ch j default hj'
        have hcm:=chL_mem hch _ (getD_mem (d:=default) hj')
        generalize hcj:op.ch.getD j default=c at *
        rw[hd3,chargesL] at hr3
        obtain ⟨hcr,hcp⟩:=hcm
        rw[ruleB,decide_eq_true_eq] at hcr
        have hadd:=add_ok (out3.getD c.1.toNat 0) c.2 (hok3.get _) (price_in hcp)
        generalize hgx:out3.getD c.1.toNat 0=gx at *
        repeat' (first|((first|((first|refine rr ?_|refine rre ?_|refine rb ?_|refine rbe ?_|refine ra ?_|refine rae ?_);intro K hK)|with_reducible refine gO ?_);simp (disch:=omega) only[Ac,↓Pc,simprocAttr,hcj,hgx,ints_set])|(first|refine callK_pure (hadd) rfl rfl ?_|refine callQ_pure (hadd) rfl rfl ?_)|(refine hK _ ?_;clear hK K)|(with_reducible refine gS (fun hb'=>?_) (fun hb'=>?_)<;>(have hb:=hb';(try simp only[DEc,simprocAttr] at hb);simp (disch:=omega) only[Ac,↓Pc,simprocAttr,hcj,hgx,ints_set,hb'];clear hb'))|(refine Wc (fun ht=>?_) (fun ht=>?_)<;>(try simp only[DEc,simprocAttr] at ht))|refine Wz rfl ?_|(refine Wb ?_;intro Qb hnb hxb heb)|(refine Wk ?_;intro Q hn he)|((first|refine hn _ ?_|refine he _ _ rfl ?_);clear hn he;try clear Q)|((first|refine hnb _ ?_|refine hxb _ ?_|refine heb _ _ rfl ?_);clear hnb hxb heb;try clear Qb)|(simp only[Qc,Kc,simprocAttr])|with_reducible refine And.intro ?_ ?_|omega|with_reducible rfl)
        refine hnl2 _ (j+1,addAt out3 c.1 c.2) ⟨by dsimp only;omega,hok3.add (price_in hcp),hr3⟩ (by dsimp only;omega) ?_
        unfold addAt
        rw[hgx]
        (refine Turns.se [0,1] false (by simp only[Oc,simprocAttr]) ?_;simp only[Hr,↓reduceIte,reduceEqDiff,Nat.reduceBEq,reduceAdd];try (and_intros<;>first|exact .pure rfl|exact .eq rfl|exact .fz rfl (by simp only[Bc,Rc])))
      · repeat' (first|((first|((first|refine rr ?_|refine rre ?_);intro K hK)|with_reducible refine gO ?_);simp (disch:=omega) only[Ac,↓Pc,simprocAttr])|(refine hK _ ?_;clear hK K)|(with_reducible refine gS (fun hb'=>?_) (fun hb'=>?_)<;>(have hb:=hb';(try simp only[DEc,simprocAttr] at hb);simp (disch:=omega) only[Ac,↓Pc,simprocAttr,hb'];clear hb'))|(refine Wc (fun ht=>?_) (fun ht=>?_)<;>(try simp only[DEc,simprocAttr] at ht))|refine Wz rfl ?_|(refine Wb ?_;intro Qb hnb hxb heb)|(refine Wk ?_;intro Q hn he)|((first|refine hn _ ?_|refine he _ _ rfl ?_);clear hn he;try clear Q)|((first|refine hnb _ ?_|refine hxb _ ?_|refine heb _ _ rfl ?_);clear hnb hxb heb;try clear Qb)|(simp only[Qc,Kc,simprocAttr])|with_reducible refine And.intro ?_ ?_|omega|with_reducible rfl)
        rw[List.drop_eq_nil_of_le (by omega),chargesL] at hr3
        subst hr3
        refine hel2 _ _ rfl ?_
        clear hnl2 hel2 Ql2
        repeat (first|((first|refine hn _ ?_|refine he _ _ rfl ?_);clear hn he;try clear Q)|((first|refine hnb _ ?_|refine hxb _ ?_|refine heb _ _ rfl ?_);clear hnb hxb heb;try clear Qb)|(refine hel _ _ rfl ?_;clear hnl hel;try clear Ql))
        repeat' (first|((first|((first|refine rr ?_|refine rre ?_);intro K hK)|with_reducible refine gO ?_);simp (disch:=omega) only[Ac,↓Pc,simprocAttr])|(refine hK _ ?_;clear hK K)|(with_reducible refine gS (fun hb'=>?_) (fun hb'=>?_)<;>(have hb:=hb';(try simp only[DEc,simprocAttr] at hb);simp (disch:=omega) only[Ac,↓Pc,simprocAttr,hb'];clear hb'))|(refine Wc (fun ht=>?_) (fun ht=>?_)<;>(try simp only[DEc,simprocAttr] at ht))|refine Wz rfl ?_|(refine Wb ?_;intro Qb hnb hxb heb)|(refine Wk ?_;intro Q hn he)|((first|refine hn _ ?_|refine he _ _ rfl ?_);clear hn he;try clear Q)|((first|refine hnb _ ?_|refine hxb _ ?_|refine heb _ _ rfl ?_);clear hnb hxb heb;try clear Qb)|(simp only[Qc,Kc,simprocAttr])|with_reducible refine And.intro ?_ ?_|omega|with_reducible rfl)
        exact hnl _ (k+1,out3) ⟨by dsimp only;omega,hok3,hr⟩ (by dsimp only;omega) (by (refine Turns.slots _ _ rfl ?_;simp only[Tc,↓reduceIte,reduceEqDiff,Nat.reduceBEq,reduceAdd];try trivial))
  · repeat' (first|((first|((first|refine rr ?_|refine rre ?_);intro K hK)|with_reducible refine gO ?_);simp (disch:=omega) only[Ac,↓Pc,simprocAttr])|(refine hK _ ?_;clear hK K)|(with_reducible refine gS (fun hb'=>?_) (fun hb'=>?_)<;>(have hb:=hb';(try simp only[DEc,simprocAttr] at hb);simp (disch:=omega) only[Ac,↓Pc,simprocAttr,hb'];clear hb'))|(refine Wc (fun ht=>?_) (fun ht=>?_)<;>(try simp only[DEc,simprocAttr] at ht))|refine Wz rfl ?_|(refine Wb ?_;intro Qb hnb hxb heb)|(refine Wk ?_;intro Q hn he)|((first|refine hn _ ?_|refine he _ _ rfl ?_);clear hn he;try clear Q)|((first|refine hnb _ ?_|refine hxb _ ?_|refine heb _ _ rfl ?_);clear hnb hxb heb;try clear Qb)|(simp only[Qc,Kc,simprocAttr])|with_reducible refine And.intro ?_ ?_|omega|with_reducible rfl)
    rw[List.drop_eq_nil_of_le (by omega),planC] at hr
    subst hr
    refine hel _ _ rfl ?_;clear hnl hel Ql
    repeat (first|((first|refine hn _ ?_|refine he _ _ rfl ?_);clear hn he;try clear Q)|((first|refine hnb _ ?_|refine hxb _ ?_|refine heb _ _ rfl ?_);clear hnb hxb heb;try clear Qb)|(refine hel _ _ rfl ?_;clear hnl hel;try clear Ql))
    repeat' (first|((first|((first|refine rr ?_|refine rre ?_);intro K hK)|with_reducible refine gO ?_);simp (disch:=omega) only[Ac,↓Pc,simprocAttr])|(refine hK _ ?_;clear hK K)|(with_reducible refine gS (fun hb'=>?_) (fun hb'=>?_)<;>(have hb:=hb';(try simp only[DEc,simprocAttr] at hb);simp (disch:=omega) only[Ac,↓Pc,simprocAttr,hb'];clear hb'))|(refine Wc (fun ht=>?_) (fun ht=>?_)<;>(try simp only[DEc,simprocAttr] at ht))|refine Wz rfl ?_|(refine Wb ?_;intro Qb hnb hxb heb)|(refine Wk ?_;intro Q hn he)|((first|refine hn _ ?_|refine he _ _ rfl ?_);clear hn he;try clear Q)|((first|refine hnb _ ?_|refine hxb _ ?_|refine heb _ _ rfl ?_);clear hnb hxb heb;try clear Qb)|(refine hel _ _ rfl ?_;clear hnl hel;try clear Ql)|(simp only[Qc,Kc,simprocAttr])|with_reducible refine And.intro ?_ ?_|omega|with_reducible rfl)
    refine W_loopS (fun z:Nat × List Int=>(⟨slots [(1,.tree 1 (ints plan)),(2,.ptr 0 0 0),(5,.ref 1 1 0 m.rules.toNat),(9,.lit (.int .i64 z.1))],[.var (eMdl m),.arr 1 (ints z.2)]⟩:St))
      (fun z=>z.1≤m.prs.length∧OutOK m.rules z.2∧pairC m plan (m.prs.drop z.1) z.2=o2) (fun z=>m.prs.length - z.1) (0,out) ⟨Nat.zero_le _,hok,h2⟩ (by (refine Turns.slots _ _ rfl ?_;simp only[Tc,↓reduceIte,reduceEqDiff,Nat.reduceBEq,reduceAdd];try trivial)) ?_
    clear hk hok hol hk' h2
    rintro ⟨k,out⟩ ⟨hk,hok,hr⟩ Ql hnl hel
    dsimp only at hk hok hr ⊢
    have hol:out.length=m.rules.toNat:=by have:=hok.1;omega
    by_cases hk':k<m.prs.length
    · have hd:=getD_drop0 m.prs k default hk'
      have hpb:=prsL_mem hm.pr _ (getD_mem (d:=default) hk')
      generalize hcc:m.prs.getD k default=p at *
      rw[hd,pairC] at hr
      obtain ⟨q1,q2,q3,q4,q5⟩:=pairB_iff hpb
      have g1:=hp.get p.fst.toNat (by omega)
      have g2:=hp.get p.snd.toNat (by omega)
      rw[Int.toNat_of_nonneg (by omega)] at g1 g2
      have hent:=entry_in hpb (plan.getD p.fst.toNat 0) (plan.getD p.snd.toNat 0)
      have hec:0≤plan.getD p.fst.toNat 0→0≤plan.getD p.snd.toNat 0→Holds Try.prog 72 [.agg (eMdl m),.agg (ePr p),.lit (.int .i64 (plan.getD p.fst.toNat 0)),.lit (.int .i64 (plan.getD p.snd.toNat 0))] [] (.lit (.int .i64 (entryV m p (plan.getD p.fst.toNat 0) (plan.getD p.snd.toNat 0)))) []:=fun h0 h0'=>by
        have a1:=(optB_iff.1 (g1.resolve_left (by omega)))
        have a2:=(optB_iff.1 (g2.resolve_left (by omega)))
        exact entry_ok m p _ _ hpb hm.opt ⟨a1.2.2.1,a1.2.2.2⟩ ⟨a2.2.2.1,a2.2.2.2⟩
      generalize entryV m p (plan.getD p.fst.toNat 0) (plan.getD p.snd.toNat 0)=en at *
      generalize hx:plan.getD p.fst.toNat 0=x at *
      generalize hy:plan.getD p.snd.toNat 0=y at *
      have hadd:=add_ok (out.getD p.rule.toNat 0) en (hok.get _) hent
      generalize hgx:out.getD p.rule.toNat 0=gx at *
      by_cases hxy:0≤x∧0≤y
      · rw[if_pos hxy] at hr
        have hec:=hec hxy.1 hxy.2
        repeat' (first|((first|((first|refine rr ?_|refine rre ?_|refine rb ?_|refine rbe ?_|refine ra ?_|refine rae ?_);intro K hK)|with_reducible refine gO ?_);simp (disch:=omega) only[Ac,↓Pc,simprocAttr,hcc,hx,hy,hgx,ints_set])|(first|refine callK_pure (hec) rfl rfl ?_|refine callQ_pure (hec) rfl rfl ?_)|(first|refine callK_pure (hadd) rfl rfl ?_|refine callQ_pure (hadd) rfl rfl ?_)|(refine hK _ ?_;clear hK K)|(with_reducible refine gS (fun hb'=>?_) (fun hb'=>?_)<;>(have hb:=hb';(try simp only[DEc,simprocAttr] at hb);simp (disch:=omega) only[Ac,↓Pc,simprocAttr,hcc,hx,hy,hgx,ints_set,hb'];clear hb'))|(refine Wc (fun ht=>?_) (fun ht=>?_)<;>(try simp only[DEc,simprocAttr] at ht))|refine Wz rfl ?_|(refine Wb ?_;intro Qb hnb hxb heb)|(refine Wk ?_;intro Q hn he)|((first|refine hn _ ?_|refine he _ _ rfl ?_);clear hn he;try clear Q)|((first|refine hnb _ ?_|refine hxb _ ?_|refine heb _ _ rfl ?_);clear hnb hxb heb;try clear Qb)|(simp only[Qc,Kc,simprocAttr])|with_reducible refine And.intro ?_ ?_|omega|with_reducible rfl)
        all_goals try (exfalso;omega)
        refine hnl _ (k+1,addAt out p.rule en) ⟨by dsimp only;omega,hok.add hent,hr⟩ (by dsimp only;omega) ?_
        unfold addAt
        rw[hgx]
        (refine Turns.se [0,1] false (by simp only[Oc,simprocAttr]) ?_;simp only[Hr,↓reduceIte,reduceEqDiff,Nat.reduceBEq,reduceAdd];try (and_intros<;>first|exact .pure rfl|exact .eq rfl|exact .fz rfl (by simp only[Bc,Rc])))
      · rw[if_neg hxy] at hr
        clear hec
        repeat' (first|((first|((first|refine rr ?_|refine rre ?_);intro K hK)|with_reducible refine gO ?_);simp (disch:=omega) only[Ac,↓Pc,simprocAttr,hcc,hx,hy,hgx])|(refine hK _ ?_;clear hK K)|(with_reducible refine gS (fun hb'=>?_) (fun hb'=>?_)<;>(have hb:=hb';(try simp only[DEc,simprocAttr] at hb);simp (disch:=omega) only[Ac,↓Pc,simprocAttr,hcc,hx,hy,hgx,hb'];clear hb'))|(refine Wc (fun ht=>?_) (fun ht=>?_)<;>(try simp only[DEc,simprocAttr] at ht))|refine Wz rfl ?_|(refine Wb ?_;intro Qb hnb hxb heb)|(refine Wk ?_;intro Q hn he)|((first|refine hn _ ?_|refine he _ _ rfl ?_);clear hn he;try clear Q)|((first|refine hnb _ ?_|refine hxb _ ?_|refine heb _ _ rfl ?_);clear hnb hxb heb;try clear Qb)|(simp only[Qc,Kc,simprocAttr])|with_reducible refine And.intro ?_ ?_|omega|with_reducible rfl)
        all_goals try (exfalso;omega)
        all_goals exact hnl _ (k+1,out) ⟨by dsimp only;omega,hok,hr⟩ (by dsimp only;omega) (by (refine Turns.se [0,1] false (by simp only[Oc,simprocAttr]) ?_;simp only[Hr,↓reduceIte,reduceEqDiff,Nat.reduceBEq,reduceAdd];try (and_intros<;>first|exact .pure rfl|exact .eq rfl|exact .fz rfl (by simp only[Bc,Rc]))))
    · repeat' (first|((first|((first|refine rr ?_|refine rre ?_);intro K hK)|with_reducible refine gO ?_);simp (disch:=omega) only[Ac,↓Pc,simprocAttr])|(refine hK _ ?_;clear hK K)|(with_reducible refine gS (fun hb'=>?_) (fun hb'=>?_)<;>(have hb:=hb';(try simp only[DEc,simprocAttr] at hb);simp (disch:=omega) only[Ac,↓Pc,simprocAttr,hb'];clear hb'))|(refine Wc (fun ht=>?_) (fun ht=>?_)<;>(try simp only[DEc,simprocAttr] at ht))|refine Wz rfl ?_|(refine Wb ?_;intro Qb hnb hxb heb)|(refine Wk ?_;intro Q hn he)|((first|refine hn _ ?_|refine he _ _ rfl ?_);clear hn he;try clear Q)|((first|refine hnb _ ?_|refine hxb _ ?_|refine heb _ _ rfl ?_);clear hnb hxb heb;try clear Qb)|(simp only[Qc,Kc,simprocAttr])|with_reducible refine And.intro ?_ ?_|omega|with_reducible rfl)
      rw[List.drop_eq_nil_of_le (by omega),pairC] at hr
      subst hr
      refine hel _ _ rfl ?_;clear hnl hel Ql
      repeat (first|((first|refine hn _ ?_|refine he _ _ rfl ?_);clear hn he;try clear Q)|((first|refine hnb _ ?_|refine hxb _ ?_|refine heb _ _ rfl ?_);clear hnb hxb heb;try clear Qb)|(refine hel _ _ rfl ?_;clear hnl hel;try clear Ql))
      repeat' (first|((first|((first|refine rr ?_|refine rre ?_);intro K hK)|with_reducible refine gO ?_);simp (disch:=omega) only[Ac,↓Pc,simprocAttr])|(refine hK _ ?_;clear hK K)|(with_reducible refine gS (fun hb'=>?_) (fun hb'=>?_)<;>(have hb:=hb';(try simp only[DEc,simprocAttr] at hb);simp (disch:=omega) only[Ac,↓Pc,simprocAttr,hb'];clear hb'))|(refine Wc (fun ht=>?_) (fun ht=>?_)<;>(try simp only[DEc,simprocAttr] at ht))|refine Wz rfl ?_|(refine Wb ?_;intro Qb hnb hxb heb)|(refine Wk ?_;intro Q hn he)|((first|refine hn _ ?_|refine he _ _ rfl ?_);clear hn he;try clear Q)|((first|refine hnb _ ?_|refine hxb _ ?_|refine heb _ _ rfl ?_);clear hnb hxb heb;try clear Qb)|(refine hel _ _ rfl ?_;clear hnl hel;try clear Ql)|(simp only[Qc,Kc,simprocAttr])|with_reducible refine And.intro ?_ ?_|omega|with_reducible rfl)
      refine W_loopS (fun z:Nat × List Int=>(⟨slots [(1,.tree 1 (ints plan)),(2,.ptr 0 0 0),(5,.ref 1 1 0 m.rules.toNat),(11,.lit (.int .i64 z.1))],[.var (eMdl m),.arr 1 (ints z.2)]⟩:St))
        (fun z=>z.1≤m.cts.length∧OutOK m.rules z.2∧countC plan (m.cts.drop z.1) z.2=o3) (fun z=>m.cts.length - z.1) (0,out) ⟨Nat.zero_le _,hok,h3⟩ (by (refine Turns.slots _ _ rfl ?_;simp only[Tc,↓reduceIte,reduceEqDiff,Nat.reduceBEq,reduceAdd];try trivial)) ?_
      clear hk hok hol hk' h3
      rintro ⟨k,out⟩ ⟨hk,hok,hr⟩ Ql hnl hel
      dsimp only at hk hok hr ⊢
      have hol:out.length=m.rules.toNat:=by have:=hok.1;omega
      by_cases hk':k<m.cts.length
      · have hd:=getD_drop0 m.cts k default hk'
        have hcb:=hm.ct _ (getD_mem (d:=default) hk')
        generalize hcc:m.cts.getD k default=c at *
        rw[hd,countC] at hr
        obtain ⟨q1,q2,q3,q4⟩:=ctB_iff hcb
        have hlen:=ldL_len0 hm q4
        have hrange:=loadS_range (m:=m) (plan:=plan) (fun x hx=>(ldL_mem q4 x hx).2) 0
        have hexc:=excV_in (most:=c.most) (sum:=loadS plan c.loads 0) (price_in q3)
        have hexcall:=times_ok (loadS plan c.loads 0 - c.most) c.pen (by omega) (price_in q3)
        rw[times_exc (price_in q3)] at hexcall
        generalize hsum:loadS plan c.loads 0=sum at *
        generalize hev:excV c.most c.pen sum=ev0 at *
        have hadd:=add_ok (out.getD c.rule.toNat 0) ev0 (hok.get _) hexc
        generalize hgx:out.getD c.rule.toNat 0=gx at *
        repeat' (first|((first|((first|refine rr ?_|refine rre ?_);intro K hK)|with_reducible refine gO ?_);simp (disch:=omega) only[Ac,↓Pc,simprocAttr,hcc])|(refine hK _ ?_;clear hK K)|(with_reducible refine gS (fun hb'=>?_) (fun hb'=>?_)<;>(have hb:=hb';(try simp only[DEc,simprocAttr] at hb);simp (disch:=omega) only[Ac,↓Pc,simprocAttr,hcc,hb'];clear hb'))|(refine Wc (fun ht=>?_) (fun ht=>?_)<;>(try simp only[DEc,simprocAttr] at ht))|refine Wz rfl ?_|(refine Wb ?_;intro Qb hnb hxb heb)|(refine Wk ?_;intro Q hn he)|((first|refine hn _ ?_|refine he _ _ rfl ?_);clear hn he;try clear Q)|((first|refine hnb _ ?_|refine hxb _ ?_|refine heb _ _ rfl ?_);clear hnb hxb heb;try clear Qb)|(simp only[Qc,Kc,simprocAttr])|with_reducible refine And.intro ?_ ?_|omega|with_reducible rfl)
        refine W_loopS (fun z:Nat × Int=>(⟨slots [(1,.tree 1 (ints plan)),(2,.ptr 0 0 0),(5,.ref 1 1 0 m.rules.toNat),(11,.lit (.int .i64 k)),(12,.ptr 2 0 0),(13,.lit (.int .i64 z.2)),(14,.lit (.int .i64 z.1))],[.var (eMdl m),.arr 1 (ints out),.var (eCt c)]⟩:St))
          (fun z=>z.1≤c.loads.length∧0≤z.2∧z.2≤1000 * z.1∧loadS plan (c.loads.drop z.1) z.2=sum) (fun z=>c.loads.length - z.1) (0,0) ⟨Nat.zero_le _,Int.le_refl _,by dsimp only;omega,hsum⟩ (by (refine Turns.slots _ _ rfl ?_;simp only[Tc,↓reduceIte,reduceEqDiff,Nat.reduceBEq,reduceAdd];try trivial)) ?_
        rintro ⟨j,n⟩ ⟨hj,hn0,hn1,hr3⟩ Ql2 hnl2 hel2
        dsimp only at hj hn0 hn1 hr3 ⊢
        by_cases hj':j<c.loads.length
        · have hd3:=getD_drop0 c.loads j default hj'
          have hlm:=ldL_mem q4 _ (getD_mem (d:=default) hj')
          generalize hcj:c.loads.getD j default=x at *
          rw[hd3,loadS] at hr3
          obtain ⟨b1,b2,b3,b4⟩:=optB_iff.1 hlm.1
          have hlw:=hlm.2
          generalize hpx:plan.getD x.cls.toNat 0=px at *
          repeat' (first|((first|((first|refine rr ?_|refine rre ?_);intro K hK)|with_reducible refine gO ?_);simp (disch:=omega) only[Ac,↓Pc,simprocAttr,hcj,hpx])|(refine hK _ ?_;clear hK K)|(with_reducible refine gS (fun hb'=>?_) (fun hb'=>?_)<;>(have hb:=hb';(try simp only[DEc,simprocAttr] at hb);simp (disch:=omega) only[Ac,↓Pc,simprocAttr,hcj,hpx,hb'];clear hb'))|(refine Wc (fun ht=>?_) (fun ht=>?_)<;>(try simp only[DEc,simprocAttr] at ht))|refine Wz rfl ?_|(refine Wb ?_;intro Qb hnb hxb heb)|(refine Wk ?_;intro Q hn he)|((first|refine hn _ ?_|refine he _ _ rfl ?_);clear hn he;try clear Q)|((first|refine hnb _ ?_|refine hxb _ ?_|refine heb _ _ rfl ?_);clear hnb hxb heb;try clear Qb)|(simp only[Qc,Kc,simprocAttr])|with_reducible refine And.intro ?_ ?_|omega|with_reducible rfl)
          · rw[if_pos (by assumption)] at hr3
            exact hnl2 _ (j+1,n+x.wt) ⟨by dsimp only;omega,by dsimp only;omega,by dsimp only;omega,hr3⟩ (by dsimp only;omega) (by (refine Turns.se [0,1,2] false (by simp only[Oc,simprocAttr]) ?_;simp only[Hr,↓reduceIte,reduceEqDiff,Nat.reduceBEq,reduceAdd];try (and_intros<;>first|exact .pure rfl|exact .eq rfl|exact .fz rfl (by simp only[Bc,Rc]))))
          · rw[if_neg (by assumption)] at hr3
            exact hnl2 _ (j+1,n) ⟨by dsimp only;omega,by dsimp only;omega,by dsimp only;omega,hr3⟩ (by dsimp only;omega) (by (refine Turns.se [0,1,2] false (by simp only[Oc,simprocAttr]) ?_;simp only[Hr,↓reduceIte,reduceEqDiff,Nat.reduceBEq,reduceAdd];try (and_intros<;>first|exact .pure rfl|exact .eq rfl|exact .fz rfl (by simp only[Bc,Rc]))))
        · repeat' (first|((first|((first|refine rr ?_|refine rre ?_);intro K hK)|with_reducible refine gO ?_);simp (disch:=omega) only[Ac,↓Pc,simprocAttr])|(refine hK _ ?_;clear hK K)|(with_reducible refine gS (fun hb'=>?_) (fun hb'=>?_)<;>(have hb:=hb';(try simp only[DEc,simprocAttr] at hb);simp (disch:=omega) only[Ac,↓Pc,simprocAttr,hb'];clear hb'))|(refine Wc (fun ht=>?_) (fun ht=>?_)<;>(try simp only[DEc,simprocAttr] at ht))|refine Wz rfl ?_|(refine Wb ?_;intro Qb hnb hxb heb)|(refine Wk ?_;intro Q hn he)|((first|refine hn _ ?_|refine he _ _ rfl ?_);clear hn he;try clear Q)|((first|refine hnb _ ?_|refine hxb _ ?_|refine heb _ _ rfl ?_);clear hnb hxb heb;try clear Qb)|(simp only[Qc,Kc,simprocAttr])|with_reducible refine And.intro ?_ ?_|omega|with_reducible rfl)
          rw[List.drop_eq_nil_of_le (by omega),loadS] at hr3
          subst hr3
          refine hel2 _ _ rfl ?_
          clear hnl2 hel2 Ql2
          repeat (first|((first|refine hn _ ?_|refine he _ _ rfl ?_);clear hn he;try clear Q)|((first|refine hnb _ ?_|refine hxb _ ?_|refine heb _ _ rfl ?_);clear hnb hxb heb;try clear Qb)|(refine hel _ _ rfl ?_;clear hnl hel;try clear Ql))
          repeat' (first|((first|((first|refine rr ?_|refine rre ?_|refine rb ?_|refine rbe ?_|refine ra ?_|refine rae ?_);intro K hK)|with_reducible refine gO ?_);simp (disch:=omega) only[Ac,↓Pc,simprocAttr,hgx,ints_set])|(first|refine callK_pure (hexcall) rfl rfl ?_|refine callQ_pure (hexcall) rfl rfl ?_)|(first|refine callK_pure (hadd) rfl rfl ?_|refine callQ_pure (hadd) rfl rfl ?_)|(refine hK _ ?_;clear hK K)|(with_reducible refine gS (fun hb'=>?_) (fun hb'=>?_)<;>(have hb:=hb';(try simp only[DEc,simprocAttr] at hb);simp (disch:=omega) only[Ac,↓Pc,simprocAttr,hgx,ints_set,hb'];clear hb'))|(refine Wc (fun ht=>?_) (fun ht=>?_)<;>(try simp only[DEc,simprocAttr] at ht))|refine Wz rfl ?_|(refine Wb ?_;intro Qb hnb hxb heb)|(refine Wk ?_;intro Q hn he)|((first|refine hn _ ?_|refine he _ _ rfl ?_);clear hn he;try clear Q)|((first|refine hnb _ ?_|refine hxb _ ?_|refine heb _ _ rfl ?_);clear hnb hxb heb;try clear Qb)|(simp only[Qc,Kc,simprocAttr])|with_reducible refine And.intro ?_ ?_|omega|with_reducible rfl)
          refine hnl _ (k+1,addAt out c.rule ev0) ⟨by dsimp only;omega,hok.add hexc,hr⟩ (by dsimp only;omega) ?_
          unfold addAt
          rw[hgx]
          (refine Turns.se [0,1] false (by simp only[Oc,simprocAttr]) ?_;simp only[Hr,↓reduceIte,reduceEqDiff,Nat.reduceBEq,reduceAdd];try (and_intros<;>first|exact .pure rfl|exact .eq rfl|exact .fz rfl (by simp only[Bc,Rc])))
      · repeat' (first|((first|((first|refine rr ?_|refine rre ?_);intro K hK)|with_reducible refine gO ?_);simp (disch:=omega) only[Ac,↓Pc,simprocAttr])|(refine hK _ ?_;clear hK K)|(with_reducible refine gS (fun hb'=>?_) (fun hb'=>?_)<;>(have hb:=hb';(try simp only[DEc,simprocAttr] at hb);simp (disch:=omega) only[Ac,↓Pc,simprocAttr,hb'];clear hb'))|(refine Wc (fun ht=>?_) (fun ht=>?_)<;>(try simp only[DEc,simprocAttr] at ht))|refine Wz rfl ?_|(refine Wb ?_;intro Qb hnb hxb heb)|(refine Wk ?_;intro Q hn he)|((first|refine hn _ ?_|refine he _ _ rfl ?_);clear hn he;try clear Q)|((first|refine hnb _ ?_|refine hxb _ ?_|refine heb _ _ rfl ?_);clear hnb hxb heb;try clear Qb)|(simp only[Qc,Kc,simprocAttr])|with_reducible refine And.intro ?_ ?_|omega|with_reducible rfl)
        rw[List.drop_eq_nil_of_le (by omega),countC] at hr
        refine hel _ _ rfl ?_;clear hnl hel Ql
        repeat (first|((first|refine hn _ ?_|refine he _ _ rfl ?_);clear hn he;try clear Q)|((first|refine hnb _ ?_|refine hxb _ ?_|refine heb _ _ rfl ?_);clear hnb hxb heb;try clear Qb)|(refine hel _ _ rfl ?_;clear hnl hel;try clear Ql))
        repeat' (first|((first|((first|refine rr ?_|refine rre ?_);intro K hK)|with_reducible refine gO ?_);simp (disch:=omega) only[Ac,↓Pc,simprocAttr])|(refine hK _ ?_;clear hK K)|(with_reducible refine gS (fun hb'=>?_) (fun hb'=>?_)<;>(have hb:=hb';(try simp only[DEc,simprocAttr] at hb);simp (disch:=omega) only[Ac,↓Pc,simprocAttr,hb'];clear hb'))|(refine Wc (fun ht=>?_) (fun ht=>?_)<;>(try simp only[DEc,simprocAttr] at ht))|refine Wz rfl ?_|(refine Wb ?_;intro Qb hnb hxb heb)|(refine Wk ?_;intro Q hn he)|((first|refine hn _ ?_|refine he _ _ rfl ?_);clear hn he;try clear Q)|((first|refine hnb _ ?_|refine hxb _ ?_|refine heb _ _ rfl ?_);clear hnb hxb heb;try clear Qb)|(refine hel _ _ rfl ?_;clear hnl hel;try clear Ql)|(simp only[Qc,Kc,simprocAttr])|with_reducible refine And.intro ?_ ?_|omega|with_reducible rfl)
        subst hr
        refine RetOK_sel [] true (by decide) trivial (by decide) (by decide) ?_
        rw[← hol]
        first|exact .pure rfl|exact .eq rfl|exact .fz rfl (by simp only[Bc,Rc])
set_option maxRecDepth 10000 in
set_option maxHeartbeats 8000000 in
theorem refCost_ok (m:Mdl) (plan:List Int) (hb:MB m) (hpl:plan.length<9223372036854775808):Holds Try.prog 14 [.agg (eMdl m),.tree 1 (ints plan)] [] (.tup [.lit (.int .i64 (costT m plan).1),.tree 1 (ints (costT m plan).2.1),.lit (.int .i64 (costT m plan).2.2)]) []:=by
  generalize hres:costT m plan=res
  unfold costT at hres
  have hval:=refValid_ok m hb
  have hpln:=partial_ok m plan hpl
  by_cases hv:validV m=0
  rotate_left
  · rw[if_pos hv] at hres
    subst hres
    refine Holds.of_body' (fn:=Try.f14) 37 0 [.tmp 4,.tmp 5,.tmp 6] Try.func14 rfl rfl rfl rfl rfl (by simp) ?_
    repeat' (first|((first|((first|refine rr ?_|refine rre ?_|refine rb ?_|refine rbe ?_|refine ra ?_|refine rae ?_);intro K hK)|with_reducible refine gO ?_);simp (disch:=omega) only[Ac,↓Pc,simprocAttr])|(first|refine callK_pure (hval) rfl rfl ?_|refine callQ_pure (hval) rfl rfl ?_)|(refine hK _ ?_;clear hK K)|(with_reducible refine gS (fun hb'=>?_) (fun hb'=>?_)<;>(have hb:=hb';(try simp only[DEc,simprocAttr] at hb);simp (disch:=omega) only[Ac,↓Pc,simprocAttr,hb'];clear hb'))|(refine Wc (fun ht=>?_) (fun ht=>?_)<;>(try simp only[DEc,simprocAttr] at ht))|refine Wz rfl ?_|(refine Wb ?_;intro Qb hnb hxb heb)|(refine Wk ?_;intro Q hn he)|((first|refine hn _ ?_|refine he _ _ rfl ?_);clear hn he;try clear Q)|((first|refine hnb _ ?_|refine hxb _ ?_|refine heb _ _ rfl ?_);clear hnb hxb heb;try clear Qb)|(refine hel _ _ rfl ?_;clear hnl hel;try clear Ql)|(simp only[Qc,Kc,simprocAttr])|with_reducible refine And.intro ?_ ?_|omega|with_reducible rfl)
    all_goals first|exact RetOK_sel [] true (by decide) trivial (by decide) (by decide) (tup3 (.pure rfl) ArgR.nil (.pure rfl))|(exfalso;omega)
  rw[if_neg (by omega)] at hres
  rw[hv] at hval
  have hvm:=valid_iff.1 hv
  by_cases hpn:plannedV m plan=true
  rotate_left
  · rw[if_pos (by simpa using hpn)] at hres
    rw[show plannedV m plan=false by simpa using hpn] at hpln
    subst hres
    refine Holds.of_body' (fn:=Try.f14) 37 0 [.tmp 4,.tmp 5,.tmp 6] Try.func14 rfl rfl rfl rfl rfl (by simp) ?_
    repeat' (first|((first|((first|refine rr ?_|refine rre ?_|refine rb ?_|refine rbe ?_|refine ra ?_|refine rae ?_);intro K hK)|with_reducible refine gO ?_);simp (disch:=omega) only[Ac,↓Pc,simprocAttr])|(first|refine callK_pure (hval) rfl rfl ?_|refine callQ_pure (hval) rfl rfl ?_)|(first|refine callK_pure (hpln) rfl rfl ?_|refine callQ_pure (hpln) rfl rfl ?_)|(refine hK _ ?_;clear hK K)|(with_reducible refine gS (fun hb'=>?_) (fun hb'=>?_)<;>(have hb:=hb';(try simp only[DEc,simprocAttr] at hb);simp (disch:=omega) only[Ac,↓Pc,simprocAttr,hb'];clear hb'))|(refine Wc (fun ht=>?_) (fun ht=>?_)<;>(try simp only[DEc,simprocAttr] at ht))|refine Wz rfl ?_|(refine Wb ?_;intro Qb hnb hxb heb)|(refine Wk ?_;intro Q hn he)|((first|refine hn _ ?_|refine he _ _ rfl ?_);clear hn he;try clear Q)|((first|refine hnb _ ?_|refine hxb _ ?_|refine heb _ _ rfl ?_);clear hnb hxb heb;try clear Qb)|(refine hel _ _ rfl ?_;clear hnl hel;try clear Ql)|(simp only[Qc,Kc,simprocAttr])|with_reducible refine And.intro ?_ ?_|omega|with_reducible rfl)
    all_goals first|exact RetOK_sel [] true (by decide) trivial (by decide) (by decide) (tup3 (.pure rfl) ArgR.nil (.pure rfl))|(exfalso;omega)
  rw[if_neg (by simp[hpn])] at hres
  rw[hpn] at hpln
  have hp:=planned_pm hpn
  have hru:=rules_ok m plan hvm hp
  have hok:=rulesV_ok hvm plan
  have hrr:=hvm.rul
  unfold costsV at hres
  dsimp only at hres
  generalize rulesV m plan=l at *
  have hll:=hok.1
  generalize htot:totalL l 0=tot at *
  subst hres
  refine Holds.of_body' (fn:=Try.f14) 37 0 [.tmp 4,.tmp 5,.tmp 6] Try.func14 rfl rfl rfl rfl rfl (by simp) ?_
  repeat' (first|((first|((first|refine rr ?_|refine rre ?_|refine rb ?_|refine rbe ?_|refine ra ?_|refine rae ?_);intro K hK)|with_reducible refine gO ?_);simp (disch:=omega) only[Ac,↓Pc,simprocAttr])|(first|refine callK_pure (hval) rfl rfl ?_|refine callQ_pure (hval) rfl rfl ?_)|(first|refine callK_pure (hpln) rfl rfl ?_|refine callQ_pure (hpln) rfl rfl ?_)|(first|refine callK_pure (hru) rfl rfl ?_|refine callQ_pure (hru) rfl rfl ?_)|(refine hK _ ?_;clear hK K)|(with_reducible refine gS (fun hb'=>?_) (fun hb'=>?_)<;>(have hb:=hb';(try simp only[DEc,simprocAttr] at hb);simp (disch:=omega) only[Ac,↓Pc,simprocAttr,hb'];clear hb'))|(refine Wc (fun ht=>?_) (fun ht=>?_)<;>(try simp only[DEc,simprocAttr] at ht))|refine Wz rfl ?_|(refine Wb ?_;intro Qb hnb hxb heb)|(refine Wk ?_;intro Q hn he)|((first|refine hn _ ?_|refine he _ _ rfl ?_);clear hn he;try clear Q)|((first|refine hnb _ ?_|refine hxb _ ?_|refine heb _ _ rfl ?_);clear hnb hxb heb;try clear Qb)|(refine hel _ _ rfl ?_;clear hnl hel;try clear Ql)|(simp only[Qc,Kc,simprocAttr])|with_reducible refine And.intro ?_ ?_|omega|with_reducible rfl)
  all_goals try (exfalso;omega)
  refine W_loopS (fun z:Nat × Int=>(⟨slots [(8,.tree 1 (ints l)),(9,.lit (.int .i64 z.2)),(10,.lit (.int .i64 z.1))],[.var (eMdl m)]⟩:St))
    (fun z=>z.1≤l.length∧In41 z.2∧totalL (l.drop z.1) z.2=tot) (fun z=>l.length - z.1) (0,0) ⟨Nat.zero_le _,by unfold In41;decide,htot⟩ (by (refine Turns.slots _ _ rfl ?_;simp only[Tc,↓reduceIte,reduceEqDiff,Nat.reduceBEq,reduceAdd];try trivial)) ?_
  rintro ⟨j,n⟩ ⟨hj,hn0,hr3⟩ Ql hnl hel
  dsimp only at hj hn0 hr3 ⊢
  by_cases hj':j<l.length
  · have hd3:=getD_drop0 l j 0 hj'
    have hxin:=hok.get j
    generalize hcj:l.getD j 0=x at *
    rw[hd3,totalL] at hr3
    repeat' (first|((first|((first|refine rr ?_|refine rre ?_|refine rb ?_|refine rbe ?_|refine ra ?_|refine rae ?_);intro K hK)|with_reducible refine gO ?_);simp (disch:=omega) only[Ac,↓Pc,simprocAttr,hcj])|(first|refine callK_pure (add_ok n x hn0 hxin) rfl rfl ?_|refine callQ_pure (add_ok n x hn0 hxin) rfl rfl ?_)|(refine hK _ ?_;clear hK K)|(with_reducible refine gS (fun hb'=>?_) (fun hb'=>?_)<;>(have hb:=hb';(try simp only[DEc,simprocAttr] at hb);simp (disch:=omega) only[Ac,↓Pc,simprocAttr,hcj,hb'];clear hb'))|(refine Wc (fun ht=>?_) (fun ht=>?_)<;>(try simp only[DEc,simprocAttr] at ht))|refine Wz rfl ?_|(refine Wb ?_;intro Qb hnb hxb heb)|(refine Wk ?_;intro Q hn he)|((first|refine hn _ ?_|refine he _ _ rfl ?_);clear hn he;try clear Q)|((first|refine hnb _ ?_|refine hxb _ ?_|refine heb _ _ rfl ?_);clear hnb hxb heb;try clear Qb)|(simp only[Qc,Kc,simprocAttr])|with_reducible refine And.intro ?_ ?_|omega|with_reducible rfl)
    exact hnl _ (j+1,addC n x) ⟨by dsimp only;omega,addC_in hn0 hxin,hr3⟩ (by dsimp only;omega) (by (refine Turns.slots _ _ rfl ?_;simp only[Tc,↓reduceIte,reduceEqDiff,Nat.reduceBEq,reduceAdd];try trivial))
  · repeat' (first|((first|((first|refine rr ?_|refine rre ?_);intro K hK)|with_reducible refine gO ?_);simp (disch:=omega) only[Ac,↓Pc,simprocAttr])|(refine hK _ ?_;clear hK K)|(with_reducible refine gS (fun hb'=>?_) (fun hb'=>?_)<;>(have hb:=hb';(try simp only[DEc,simprocAttr] at hb);simp (disch:=omega) only[Ac,↓Pc,simprocAttr,hb'];clear hb'))|(refine Wc (fun ht=>?_) (fun ht=>?_)<;>(try simp only[DEc,simprocAttr] at ht))|refine Wz rfl ?_|(refine Wb ?_;intro Qb hnb hxb heb)|(refine Wk ?_;intro Q hn he)|((first|refine hn _ ?_|refine he _ _ rfl ?_);clear hn he;try clear Q)|((first|refine hnb _ ?_|refine hxb _ ?_|refine heb _ _ rfl ?_);clear hnb hxb heb;try clear Qb)|(simp only[Qc,Kc,simprocAttr])|with_reducible refine And.intro ?_ ?_|omega|with_reducible rfl)
    rw[List.drop_eq_nil_of_le (by omega),totalL] at hr3
    refine hel _ _ rfl ?_;clear hnl hel Ql
    repeat (first|((first|refine hn _ ?_|refine he _ _ rfl ?_);clear hn he;try clear Q)|((first|refine hnb _ ?_|refine hxb _ ?_|refine heb _ _ rfl ?_);clear hnb hxb heb;try clear Qb)|(refine hel _ _ rfl ?_;clear hnl hel;try clear Ql))
    repeat' (first|((first|((first|refine rr ?_|refine rre ?_);intro K hK)|with_reducible refine gO ?_);simp (disch:=omega) only[Ac,↓Pc,simprocAttr])|(refine hK _ ?_;clear hK K)|(with_reducible refine gS (fun hb'=>?_) (fun hb'=>?_)<;>(have hb:=hb';(try simp only[DEc,simprocAttr] at hb);simp (disch:=omega) only[Ac,↓Pc,simprocAttr,hb'];clear hb'))|(refine Wc (fun ht=>?_) (fun ht=>?_)<;>(try simp only[DEc,simprocAttr] at ht))|refine Wz rfl ?_|(refine Wb ?_;intro Qb hnb hxb heb)|(refine Wk ?_;intro Q hn he)|((first|refine hn _ ?_|refine he _ _ rfl ?_);clear hn he;try clear Q)|((first|refine hnb _ ?_|refine hxb _ ?_|refine heb _ _ rfl ?_);clear hnb hxb heb;try clear Qb)|(refine hel _ _ rfl ?_;clear hnl hel;try clear Ql)|(simp only[Qc,Kc,simprocAttr])|with_reducible refine And.intro ?_ ?_|omega|with_reducible rfl)
    exact RetOK_pure' rfl (by rw[hr3])
end T

