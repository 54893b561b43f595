import Derived.Test.YtmhloinjpcabcaaGreatX44
import Derived.Test.YtmhloinjpcabcaaGreatX29
set_option linter.unusedVariables false
set_option linter.unusedSimpArgs false
set_option linter.unnecessarySimpa false
set_option linter.unusedSectionVars false
set_option maxHeartbeats 64000000
set_option maxRecDepth 20000
open Go Go.Am Go.Proofs
open Nat (reduceEqDiff reduceAdd reduceLeDiff reduceMul)
open Int (reduceNeg reduceLE reduceToNat)
namespace T
theorem Eject_ok (m:Mdl) (plan:List Int) (cl o:Int) (hb:MB m) (hpl:plan.length<9223372036854775808) :
    Holds Tryz.prog 27 [.agg (eMdl m),.tree 1 (ints plan),.lit (.int .i64 cl),.lit (.int .i64 o)] [] (.tup [.tree 1 (ints (ejT m plan cl o).1),.tree 1 (ints (ejT m plan cl o).2.1),.lit (.int .i64 (ejT m plan cl o).2.2)]) []:=by
  generalize hres:ejT m plan cl o=res
  unfold ejT at hres
  refine Holds.of_body' (fn:=Tryz.f27) 57 0 [.tmp 8,.tmp 9,.tmp 10] Tryz.func27 rfl rfl rfl rfl rfl (by simp) ?_
  ((try revert hK K);(repeat' (first|refine Vd X0 (valid_ok m hb) ?_|(refine V2 X0 ?_ ?_<;>try with_reducible intro hb)|(refine Xi ?_ ?_<;>try intro ht)|refine VD ?_ ?_|exact Xx|fail))<;>try with_reducible intro K hK)
  · rw[if_pos ht] at hres
    rw[← hres]
    exact RetOK_sel [] true (by decide) trivial (by decide) (by decide) (tup3 ArgR.nil ArgR.nil (.pure rfl))
  rw[if_neg (by omega)] at hres
  have hvm:=valid_iff.1 (by omega)
  have hpo:=isPlan_ok m plan hb hpl
  cases hpv:plannedV m plan with
  | false =>
    rw[hpv] at hpo
    rw[if_pos hpv] at hres
    ((try revert hK K);(repeat' (first|refine Vd X0 hpo ?_|(refine V2 X0 ?_ ?_<;>try with_reducible intro hb)|(refine Xi ?_ ?_<;>try intro ht)|refine VD ?_ ?_|exact Xx|fail))<;>try with_reducible intro K hK)
    rw[← hres]
    exact RetOK_sel [] true (by decide) trivial (by decide) (by decide) (tup3 ArgR.nil ArgR.nil (.pure rfl))
  | true =>
    rw[hpv] at hpo
    rw[if_neg (by rw[hpv];decide)] at hres
    have hpm:=planned_pm hpv
    have hpl2:=hpm.len
    have hc24:=hvm.cls
    cases hob:optB m cl o with
    | false =>
      rw[if_pos hob] at hres
      have hno:¬ (0≤cl∧cl<m.cls.length∧0≤o∧o<(m.cls.getD cl.toNat default).length):=fun h=>by rw[optB_iff.2 h] at hob;cases hob
      have h24:(m.cls.getD cl.toNat default).length≤24:=by
        rcases Nat.lt_or_ge cl.toNat m.cls.length with h | h
        · exact hvm.opt _ (getD_mem h)
        · rw[List.getD_eq_getElem?_getD,List.getElem?_eq_none h];decide
      generalize hlc:m.cls.getD cl.toNat default=lc at *
      ((try revert hK K);(repeat' (first|refine Vd @hlc hpo ?_|(refine V2 @hlc ?_ ?_<;>try with_reducible intro hb)|(refine Xi ?_ ?_<;>try intro ht)|refine VD ?_ ?_|exact Xx|fail))<;>try with_reducible intro K hK)
      all_goals try (exfalso;omega)
      all_goals
        rw[← hres]
        exact RetOK_sel [] true (by decide) trivial (by decide) (by decide) (tup3 ArgR.nil ArgR.nil (.pure rfl))
    | true =>
      rw[if_neg (by rw[hob];decide)] at hres
      obtain ⟨b1,b2,b3,b4⟩:=optB_iff.1 hob
      have h24:=hvm.opt _ (getD_mem (l:=m.cls) (i:=cl.toNat) (d:=default) (by omega))
      have hej:=eject_ok m hvm plan hpm cl o hob
      generalize hlc:m.cls.getD cl.toNat default=lc at *
      generalize ejV m plan cl o=e at *
      cases e with
      | none =>
        unfold ejR ejOb at hej
        dsimp only at hres
        ((try revert hK K);(repeat' (first|refine Vd @hlc hpo ?_|(refine V2 @hlc ?_ ?_<;>try with_reducible intro hb)|(refine Xi ?_ ?_<;>try intro ht)|refine VD ?_ ?_|exact Xx|fail))<;>try with_reducible intro K hK)
        all_goals try (exfalso;omega)
        (refine Xn [] (hej) ?_;simp (disch:=omega) only[Ac,↓Pc,simprocAttr])
        ((try revert hK K);(repeat' (first|refine Vb X0 ?_|(refine V2 X0 ?_ ?_<;>try with_reducible intro hb)|(refine Xi ?_ ?_<;>try intro ht)|refine VD ?_ ?_|exact Xx|fail))<;>try with_reducible intro K hK)
        rw[← hres]
        exact RetOK_sel [] true (by decide) trivial (by decide) (by decide) (tup3 ArgR.nil ArgR.nil (.pure rfl))
      | some r =>
        unfold ejR ejOb at hej
        dsimp only at hres hej
        ((try revert hK K);(repeat' (first|refine Vd @hlc hpo ?_|(refine V2 @hlc ?_ ?_<;>try with_reducible intro hb)|(refine Xi ?_ ?_<;>try intro ht)|refine VD ?_ ?_|exact Xx|fail))<;>try with_reducible intro K hK)
        all_goals try (exfalso;omega)
        (refine Xn [] (hej) ?_;simp (disch:=omega) only[Ac,↓Pc,simprocAttr])
        ((try revert hK K);(repeat' (first|refine Vb X0 ?_|(refine V2 X0 ?_ ?_<;>try with_reducible intro hb)|(refine Xi ?_ ?_<;>try intro ht)|refine VD ?_ ?_|exact Xx|fail))<;>try with_reducible intro K hK)
        rw[← hres]
        exact RetOK_sel [] true (by decide) trivial (by decide) (by decide) (tup3 (ArgR.frz (rows:=ints r.1) rfl (ints_wid _) (by rw[ints_length]) (not_kept (by decide)) (ints_frz _)) (.pure rfl) (.pure rfl))
def OutB (out:List Int) (B:Int):Prop:=∀ i,0≤out.getD i 0∧out.getD i 0≤B
theorem OutB.mono {out:List Int} {B C:Int} (h:OutB out B) (hb:B≤C):OutB out C:=fun i=>⟨(h i).1,by have:=(h i).2;omega⟩
theorem OutB.bump {out:List Int} {B:Int} (h:OutB out B) (i:Int):OutB (bump out i) (B+1):=fun k=>by
  unfold T.bump
  rcases Nat.lt_or_ge i.toNat out.length with hl | hl
  · rw[getD_set' _ _ _ _ _ hl]
    split
    · have:=h i.toNat;omega
    · have:=h k;omega
  · rw[List.set_eq_of_length_le hl]
    have:=h k;omega
theorem OutB.rep (n:Nat):OutB (List.replicate n 0) 0:=fun i=>by
  rw[List.getD_eq_getElem?_getD,List.getElem?_replicate];split<;>exact⟨Int.le_refl _,Int.le_refl _⟩
theorem Breaks_ok (m:Mdl) (plan:List Int) (hb:MB m) (hpl0:plan.length<9223372036854775808) :
    Holds Tryz.prog 25 [.agg (eMdl m),.tree 1 (ints plan)] [] (.tup [.tree 1 (ints (breaksT m plan).1),.lit (.int .i64 (breaksT m plan).2)]) []:=by
  generalize hres:breaksT m plan=res
  unfold breaksT at hres
  refine Holds.of_body' (fn:=Tryz.f25) 145 0 [.tmp 4,.tmp 5] Tryz.func25 rfl rfl rfl rfl rfl (by simp) ?_
  ((try revert hK K);(repeat' (first|refine Vd X0 (valid_ok m hb) ?_|(refine V2 X0 ?_ ?_<;>try with_reducible intro hb)|(refine Xi ?_ ?_<;>try intro ht)|refine VD ?_ ?_|exact Xx|fail))<;>try with_reducible intro K hK)
  · rw[if_pos ht] at hres
    rw[← hres]
    exact RetOK_sel [] true (by decide) trivial (by decide) (by decide) (ArgR.tup2 ArgR.nil (.pure rfl))
  rw[if_neg (by omega)] at hres
  have hm:=valid_iff.1 (by omega)
  have hpo:=isPlan_ok m plan hb hpl0
  cases hpv:plannedV m plan with
  | false =>
    rw[hpv] at hpo
    rw[if_pos hpv] at hres
    ((try revert hK K);(repeat' (first|refine Vd X0 hpo ?_|(refine V2 X0 ?_ ?_<;>try with_reducible intro hb)|(refine Xi ?_ ?_<;>try intro ht)|refine VD ?_ ?_|exact Xx|fail))<;>try with_reducible intro K hK)
    rw[← hres]
    exact RetOK_sel [] true (by decide) trivial (by decide) (by decide) (ArgR.tup2 ArgR.nil (.pure rfl))
  | true =>
  rw[hpv] at hpo
  rw[if_neg (by rw[hpv];decide)] at hres
  have hp:=planned_pm hpv
  have hpl:=hp.len
  have hm1:=hm.cls
  have hm2:=hm.prs
  have hm3:=hm.cts
  unfold breaksV at hres
  generalize h1:brOwn m 0 plan (List.replicate plan.length 0)=o1 at hres
  generalize h2:brPrs m plan m.prs o1=o2 at hres
  generalize h3:brCts plan m.cts o2=o3 at hres
  ((try revert hK K);(repeat' (first|refine Vd X0 hpo ?_|(refine V2 X0 ?_ ?_<;>try with_reducible intro hb)|(refine Xi ?_ ?_<;>try intro ht)|refine VD ?_ ?_|exact Xx|fail))<;>try with_reducible intro K hK)
  refine W_loopS (fun z:Nat × List Int=>(⟨slots [(1,.tree 1 (ints plan)),(2,.ptr 0 0 0),(7,.ref 1 1 0 plan.length),(30,.tree 1 (ints plan)),(31,.lit (.int .i64 plan.length)),(32,.lit (.int .i64 z.1))],[.var (eMdl m),.arr 1 (ints z.2)]⟩:St))
    (fun z=>z.1≤plan.length∧z.2.length=plan.length∧OutB z.2 z.1∧brOwn m z.1 (plan.drop z.1) z.2=o1) (fun z=>plan.length - z.1) (0,List.replicate plan.length 0) ⟨Nat.zero_le _,by simp,OutB.rep _,h1⟩ (Xv X0) ?_
  rintro ⟨k,out⟩ ⟨hk,hol,hob,hr⟩ Ql hnl hel
  dsimp only at hk hol hob hr ⊢
  by_cases hk':k<plan.length
  · rw[getD_drop0 plan k 0 hk',brOwn] at hr
    have hget:=hp.get k hk'
    have hbk:=hob k
    have hb2:=hob.bump k
    have hbl:=bump_len out k
    generalize hcc:plan.getD k 0=o at *
    by_cases ho:0≤o
    · obtain ⟨b1,b2,b3,b4⟩:=optB_iff.1 (hget.resolve_left (by omega))
      have hl:=getD_mem (l:=m.cls) (i:=k) (d:=default) (by omega)
      have hl24:=hm.opt _ hl
      have hchs:=hm.mb.ch _ hl
      rw[Int.toNat_natCast] at b4
      generalize hll:m.cls.getD k default=l at *
      have hfr:=wFree_ok (l.getD o.toNat default) (hchs _ (getD_mem (by omega)))
      generalize hoo:l.getD o.toNat default=op at *
      generalize freeB op=fb at *
      cases fb
      · rw[if_pos ⟨ho,rfl⟩] at hr
        unfold T.bump at hr hb2 hbl
        rw[Int.toNat_natCast] at hr hb2 hbl
        generalize hox:out.getD k 0=ox at *
        ((try revert hK K);(repeat' (first|refine Vc (X5 @hcc @hll @hoo @eCls.eq_1 (X3 @hol @hox @ints_set)) hfr ?_|(refine V2 (X5 @hcc @hll @hoo @eCls.eq_1 (X3 @hol @hox @ints_set)) ?_ ?_<;>try with_reducible intro hb)|(refine Xi ?_ ?_<;>try intro ht)|refine VD ?_ ?_|exact Xx|fail))<;>try with_reducible intro K hK)
        all_goals try (exfalso;omega)
        exact hnl _ (k+1,out.set k (ox+1)) ⟨by dsimp only;omega,by dsimp only;omega,hb2.mono (by dsimp only;omega),hr⟩ (by dsimp only;omega) (Xv X0)
      · rw[if_neg (fun h=>by simp at h)] at hr
        ((try revert hK K);(repeat' (first|refine Vc (X5 @hcc @hll @hoo @eCls.eq_1 @hol) hfr ?_|(refine V2 (X5 @hcc @hll @hoo @eCls.eq_1 @hol) ?_ ?_<;>try with_reducible intro hb)|(refine Xi ?_ ?_<;>try intro ht)|refine VD ?_ ?_|exact Xx|fail))<;>try with_reducible intro K hK)
        all_goals try (exfalso;omega)
        all_goals exact hnl _ (k+1,out) ⟨by dsimp only;omega,hol,hob.mono (by dsimp only;omega),hr⟩ (by dsimp only;omega) (Xv X0)
    · rw[if_neg (fun h=>ho h.1)] at hr
      ((try revert hK K);(repeat' (first|refine Va (X2 @hcc @hol) ?_|(refine V2 (X2 @hcc @hol) ?_ ?_<;>try with_reducible intro hb)|(refine Xi ?_ ?_<;>try intro ht)|refine VD ?_ ?_|exact Xx|fail))<;>try with_reducible intro K hK)
      all_goals try (exfalso;omega)
      all_goals exact hnl _ (k+1,out) ⟨by dsimp only;omega,hol,hob.mono (by dsimp only;omega),hr⟩ (by dsimp only;omega) (Xv X0)
  · rw[List.drop_eq_nil_of_le (by omega),brOwn] at hr
    subst hr
    ((try revert hK K);(repeat' (first|refine Va X0 ?_|(refine V2 X0 ?_ ?_<;>try with_reducible intro hb)|(refine Xi ?_ ?_<;>try intro ht)|refine VD ?_ ?_|exact Xx|fail))<;>try with_reducible intro K hK)
    refine hel _ _ rfl ?_;clear hnl hel Ql
    repeat (first|refine Xu ?_)
    have hob:=hob.mono (C:=24) (by omega)
    clear hk hk' h1
    ((try revert hK K);(repeat' (first|refine Vb X0 ?_|(refine V2 X0 ?_ ?_<;>try with_reducible intro hb)|(refine Xi ?_ ?_<;>try intro ht)|refine VD ?_ ?_|exact Xx|fail))<;>try with_reducible intro K hK)
    refine W_loopS (fun z:Nat × List Int=>(⟨slots [(1,.tree 1 (ints plan)),(2,.ptr 0 0 0),(7,.ref 1 1 0 plan.length),(59,.tree 4 (rowsOf ePr m.prs)),(60,.lit (.int .i64 m.prs.length)),(61,.lit (.int .i64 z.1))],[.var (eMdl m),.arr 1 (ints z.2)]⟩:St))
      (fun z=>z.1≤m.prs.length∧z.2.length=plan.length∧OutB z.2 (24+2 * z.1)∧brPrs m plan (m.prs.drop z.1) z.2=o2) (fun z=>m.prs.length - z.1) (0,out) ⟨Nat.zero_le _,hol,hob,h2⟩ (Xv X0) ?_
    clear hol h2
    rintro ⟨k,out⟩ ⟨hk,hol,hob,hr⟩ Ql hnl hel
    dsimp only at hk hol hob hr ⊢
    by_cases hk':k<m.prs.length
    · have hpb:=prsL_mem hm.pr _ (getD_mem (d:=default) hk')
      rw[getD_drop0 m.prs k default hk',brPrs] at hr
      generalize hcc:m.prs.getD k default=p at *
      obtain ⟨q1,q2,q3,q4,q5⟩:=pairB_iff hpb
      have g1:=hp.get p.fst.toNat (by omega)
      have g2:=hp.get p.snd.toNat (by omega)
      rw[Int.toNat_of_nonneg (by omega)] at g1 g2
      have hcall:=prEntry_ok m p (plan.getD p.fst.toNat 0) (plan.getD p.snd.toNat 0) hpb hm.opt
      generalize hx:plan.getD p.fst.toNat 0=x at *
      generalize hy:plan.getD p.snd.toNat 0=y at *
      by_cases hxy:0≤x∧0≤y
      · have a1:=(optB_iff.1 (g1.resolve_left (by omega)))
        have a2:=(optB_iff.1 (g2.resolve_left (by omega)))
        have hcall:=hcall ⟨a1.2.2.1,a1.2.2.2⟩ ⟨a2.2.2.1,a2.2.2.2⟩
        generalize entryV m p x y=e at *
        by_cases hef:e=1099511627776
        · rw[if_pos ⟨hxy,hef⟩] at hr
          have hb1:=hob p.fst.toNat
          have hb2:=(hob.bump p.fst) p.snd.toNat
          have hb3:=(hob.bump p.fst).bump p.snd
          have hbl1:=bump_len out p.fst
          have hbl2:=bump_len (bump out p.fst) p.snd
          have hu:∀ (o:List Int) (i:Int),o.set i.toNat (o.getD i.toNat 0+1)=bump o i:=fun o i=>rfl
          have hu1:=hu out p.fst
          have hu2:=hu (bump out p.fst) p.snd
          generalize hv1:out.getD p.fst.toNat 0=v1 at *
          generalize hv2:(bump out p.fst).getD p.snd.toNat 0=v2 at *
          generalize bump (bump out p.fst) p.snd=out3 at *
          generalize bump out p.fst=out2 at *
          ((try revert hK K);(repeat' (first|refine Vc (X5 @hcc @hx @hy @ePr.eq_1 (X5 @hol @hv1 @ints_set @hu1 (X3 @hbl1 @hv2 @hu2))) hcall ?_|(refine V2 (X5 @hcc @hx @hy @ePr.eq_1 (X5 @hol @hv1 @ints_set @hu1 (X3 @hbl1 @hv2 @hu2))) ?_ ?_<;>try with_reducible intro hb)|(refine Xi ?_ ?_<;>try intro ht)|refine VD ?_ ?_|exact Xx|fail))<;>try with_reducible intro K hK)
          all_goals try (exfalso;omega)
          exact hnl _ (k+1,out3) ⟨by dsimp only;omega,by dsimp only;omega,hb3.mono (by dsimp only;omega),hr⟩ (by dsimp only;omega) (Xs false [0,1] X0)
        · rw[if_neg (fun h=>hef h.2)] at hr
          ((try revert hK K);(repeat' (first|refine Vc (X5 @hcc @hx @hy @ePr.eq_1 @hol) hcall ?_|(refine V2 (X5 @hcc @hx @hy @ePr.eq_1 @hol) ?_ ?_<;>try with_reducible intro hb)|(refine Xi ?_ ?_<;>try intro ht)|refine VD ?_ ?_|exact Xx|fail))<;>try with_reducible intro K hK)
          all_goals try (exfalso;omega)
          all_goals exact hnl _ (k+1,out) ⟨by dsimp only;omega,hol,hob.mono (by dsimp only;omega),hr⟩ (by dsimp only;omega) (Xs false [0,1] X0)
      · rw[if_neg (fun h=>hxy h.1)] at hr
        ((try revert hK K);(repeat' (first|refine Va (X5 @hcc @hx @hy @ePr.eq_1 @hol) ?_|(refine V2 (X5 @hcc @hx @hy @ePr.eq_1 @hol) ?_ ?_<;>try with_reducible intro hb)|(refine Xi ?_ ?_<;>try intro ht)|refine VD ?_ ?_|exact Xx|fail))<;>try with_reducible intro K hK)
        all_goals try (exfalso;omega)
        all_goals exact hnl _ (k+1,out) ⟨by dsimp only;omega,hol,hob.mono (by dsimp only;omega),hr⟩ (by dsimp only;omega) (Xs false [0,1] X0)
    · rw[List.drop_eq_nil_of_le (by omega),brPrs] at hr
      subst hr
      ((try revert hK K);(repeat' (first|refine Va X0 ?_|(refine V2 X0 ?_ ?_<;>try with_reducible intro hb)|(refine Xi ?_ ?_<;>try intro ht)|refine VD ?_ ?_|exact Xx|fail))<;>try with_reducible intro K hK)
      refine hel _ _ rfl ?_;clear hnl hel Ql
      repeat (first|refine Xu ?_)
      have hob:=hob.mono (C:=9000) (by omega)
      clear hk hk'
      ((try revert hK K);(repeat' (first|refine Vb X0 ?_|(refine V2 X0 ?_ ?_<;>try with_reducible intro hb)|(refine Xi ?_ ?_<;>try intro ht)|refine VD ?_ ?_|exact Xx|fail))<;>try with_reducible intro K hK)
      refine W_loopS (fun z:Nat × List Int=>(⟨slots [(1,.tree 1 (ints plan)),(7,.ref 1 1 0 plan.length),(105,.tree 4 (rowsOf eCt m.cts)),(106,.lit (.int .i64 m.cts.length)),(107,.lit (.int .i64 z.1))],[.var (eMdl m),.arr 1 (ints z.2)]⟩:St))
        (fun z=>z.1≤m.cts.length∧z.2.length=plan.length∧OutB z.2 (9000+576 * z.1)∧brCts plan (m.cts.drop z.1) z.2=o3) (fun z=>m.cts.length - z.1) (0,out) ⟨Nat.zero_le _,hol,hob,h3⟩ (Xv X0) ?_
      clear hol h3
      rintro ⟨k,out⟩ ⟨hk,hol,hob,hr⟩ Ql hnl hel
      dsimp only at hk hol hob hr ⊢
      by_cases hk':k<m.cts.length
      · have hcb:=hm.ct _ (getD_mem (d:=default) hk')
        rw[getD_drop0 m.cts k default hk',brCts] at hr
        generalize hcc:m.cts.getD k default=c at *
        obtain ⟨q1,q2,q3,q4⟩:=ctB_iff hcb
        have hlen:=ldL_len0 hm q4
        have hhd:=wHard_ok c
        have hexc:=prExc_ok m plan c hm hpl hcb
        by_cases hsk:hardB c=false∨excN plan c=0
        · rw[if_pos hsk] at hr
          generalize hardB c=hbv at *
          generalize excN plan c=ev0 at *
          ((try revert hK K);(repeat' (first|refine Vc @hcc (X2 hhd hexc) ?_|(refine V2 @hcc ?_ ?_<;>try with_reducible intro hb)|(refine Xi ?_ ?_<;>try intro ht)|refine VD ?_ ?_|exact Xx|fail))<;>try with_reducible intro K hK)
          all_goals try (exfalso;simp_all;done)
          all_goals exact hnl _ (k+1,out) ⟨by dsimp only;omega,hol,hob.mono (by dsimp only;omega),hr⟩ (by dsimp only;omega) (Xs false [0,1] X0)
        · rw[if_neg hsk] at hr
          generalize hardB c=hbv at *
          generalize excN plan c=ev0 at *
          generalize hfin:brLd plan c.loads out=out2 at hr
          ((try revert hK K);(repeat' (first|refine Vc @hcc (X2 hhd hexc) ?_|(refine V2 @hcc ?_ ?_<;>try with_reducible intro hb)|(refine Xi ?_ ?_<;>try intro ht)|refine VD ?_ ?_|exact Xx|fail))<;>try with_reducible intro K hK)
          all_goals try (exfalso;simp_all;done)
          refine W_loopS (fun z:Nat × List Int=>(⟨slots [(1,.tree 1 (ints plan)),(7,.ref 1 1 0 plan.length),(105,.tree 4 (rowsOf eCt m.cts)),(106,.lit (.int .i64 m.cts.length)),(107,.lit (.int .i64 k)),(121,.tree 3 (rowsOf eLd c.loads)),(122,.lit (.int .i64 c.loads.length)),(123,.lit (.int .i64 z.1))],[.var (eMdl m),.arr 1 (ints z.2)]⟩:St))
            (fun z=>z.1≤c.loads.length∧z.2.length=plan.length∧OutB z.2 (9000+576 * k+z.1)∧brLd plan (c.loads.drop z.1) z.2=out2) (fun z=>c.loads.length - z.1) (0,out) ⟨Nat.zero_le _,hol,hob.mono (by dsimp only;omega),hfin⟩ (Xs false [0,1] X0) ?_
          clear hfin
          rintro ⟨j,out⟩ ⟨hj,hol,hob,hrj⟩ Ql2 hnl2 hel2
          dsimp only at hj hol hob hrj ⊢
          by_cases hj':j<c.loads.length
          · rw[getD_drop0 c.loads j default hj',brLd] at hrj
            have hlm:=ldL_mem q4 _ (getD_mem (d:=default) hj')
            generalize hcj:c.loads.getD j default=x at *
            obtain ⟨b1,b2,b3,b4⟩:=optB_iff.1 hlm.1
            have hb1:=hob x.cls.toNat
            have hb3:=hob.bump x.cls
            have hbl1:=bump_len out x.cls
            have hu1:out.set x.cls.toNat (out.getD x.cls.toNat 0+1)=bump out x.cls:=rfl
            generalize hv1:out.getD x.cls.toNat 0=v1 at *
            generalize bump out x.cls=out3 at *
            generalize hpx:plan.getD x.cls.toNat 0=px at *
            by_cases hpo:px=x.opt
            · rw[if_pos hpo] at hrj
              ((try revert hK K);(repeat' (first|refine Va (X5 @hcj @hpx @eLd.eq_1 @hol (X3 @hv1 @ints_set @hu1)) ?_|(refine V2 (X5 @hcj @hpx @eLd.eq_1 @hol (X3 @hv1 @ints_set @hu1)) ?_ ?_<;>try with_reducible intro hb)|(refine Xi ?_ ?_<;>try intro ht)|refine VD ?_ ?_|exact Xx|fail))<;>try with_reducible intro K hK)
              all_goals try (exfalso;omega)
              exact hnl2 _ (j+1,out3) ⟨by dsimp only;omega,by dsimp only;omega,hb3.mono (by dsimp only;omega),hrj⟩ (by dsimp only;omega) (Xs false [0,1] X0)
            · rw[if_neg hpo] at hrj
              ((try revert hK K);(repeat' (first|refine Va (X4 @hcj @hpx @eLd.eq_1 @hol) ?_|(refine V2 (X4 @hcj @hpx @eLd.eq_1 @hol) ?_ ?_<;>try with_reducible intro hb)|(refine Xi ?_ ?_<;>try intro ht)|refine VD ?_ ?_|exact Xx|fail))<;>try with_reducible intro K hK)
              all_goals try (exfalso;omega)
              all_goals exact hnl2 _ (j+1,out) ⟨by dsimp only;omega,hol,hob.mono (by dsimp only;omega),hrj⟩ (by dsimp only;omega) (Xs false [0,1] X0)
          · rw[List.drop_eq_nil_of_le (by omega),brLd] at hrj
            subst hrj
            ((try revert hK K);(repeat' (first|refine Va X0 ?_|(refine V2 X0 ?_ ?_<;>try with_reducible intro hb)|(refine Xi ?_ ?_<;>try intro ht)|refine VD ?_ ?_|exact Xx|fail))<;>try with_reducible intro K hK)
            refine hel2 _ _ rfl ?_
            clear hnl2 hel2
            repeat (first|refine Xu ?_)
            ((try revert hK K);(repeat' (first|refine Va X0 ?_|(refine V2 X0 ?_ ?_<;>try with_reducible intro hb)|(refine Xi ?_ ?_<;>try intro ht)|refine VD ?_ ?_|exact Xx|fail))<;>try with_reducible intro K hK)
            exact hnl _ (k+1,out) ⟨by dsimp only;omega,hol,hob.mono (by dsimp only;omega),hr⟩ (by dsimp only;omega) (Xv X0)
      · rw[List.drop_eq_nil_of_le (by omega),brCts] at hr
        subst hr
        ((try revert hK K);(repeat' (first|refine Va X0 ?_|(refine V2 X0 ?_ ?_<;>try with_reducible intro hb)|(refine Xi ?_ ?_<;>try intro ht)|refine VD ?_ ?_|exact Xx|fail))<;>try with_reducible intro K hK)
        refine hel _ _ rfl ?_;clear hnl hel Ql
        repeat (first|refine Xu ?_)
        ((try revert hK K);(repeat' (first|refine Vb X0 ?_|(refine V2 X0 ?_ ?_<;>try with_reducible intro hb)|(refine Xi ?_ ?_<;>try intro ht)|refine VD ?_ ?_|exact Xx|fail))<;>try with_reducible intro K hK)
        rw[← hres]
        exact RetOK_sel [] true (by decide) trivial (by decide) (by decide) (ArgR.tup2 (ArgR.frz (rows:=ints out) rfl (ints_wid _) (by rw[ints_length,hol]) (not_kept (by simp)) (ints_frz _)) (.pure rfl))
end T

