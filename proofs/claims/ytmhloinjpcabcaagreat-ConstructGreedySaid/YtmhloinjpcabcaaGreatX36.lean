import Derived.Test.YtmhloinjpcabcaaGreatX21
import Derived.Test.YtmhloinjpcabcaaGreatX35
import Derived.Test.YtmhloinjpcabcaaGreatX34
import Derived.Test.YtmhloinjpcabcaaGreatX33
import Derived.Test.YtmhloinjpcabcaaGreatX22
set_option linter.unusedVariables false
set_option linter.unusedSimpArgs false
set_option linter.unnecessarySimpa false
set_option linter.unusedSectionVars false
set_option maxHeartbeats 64000000
set_option maxRecDepth 20000
open Go Go.Am Go.Proofs
open Nat (reduceEqDiff reduceAdd reduceLeDiff reduceMul)
open Int (reduceNeg reduceLE reduceToNat)
namespace T
theorem partial_ok (m:Mdl) (plan:List Int) (hp:plan.length<9223372036854775808):Holds Tryz.prog 53 [.agg (eMdl m),.tree 1 (ints plan)] [] (.lit (.bool (plannedV m plan))) []:=by
  generalize hres:plannedV m plan=res
  unfold plannedV at hres
  refine Holds.of_body' (fn:=Tryz.f53) 33 0 [.tmp 4] Tryz.func53 rfl rfl rfl rfl rfl (by simp) ?_
  by_cases hl:plan.length≠m.cls.length
  · rw[if_pos hl] at hres
    ((repeat' (first|refine Vb X0 ?_|(refine Xi ?_ ?_<;>try intro ht)|exact Xx|fail)))
    all_goals first|exact RetOK_pure' rfl (by rw[hres])|(exfalso;omega)
  rw[if_neg hl] at hres
  ((repeat' (first|refine Vb X0 ?_|(refine Xi ?_ ?_<;>try intro ht)|exact Xx|fail)))
  refine W_loopS (fun k:Nat=>(⟨slots [(1,.tree 1 (ints plan)),(2,.ptr 0 0 0),(5,.lit (.int .i64 k))],[.var (eMdl m)]⟩:St)) (fun k=>k≤plan.length∧planL m k (plan.drop k)=res) (fun k=>plan.length - k) 0 ⟨Nat.zero_le _,hres⟩ (Xv X0) ?_
  rintro k ⟨hk,hr⟩ Ql hnl hel
  by_cases hk':k<plan.length
  · have hd:=getD_drop0 plan k 0 hk'
    generalize hcc:plan.getD k 0=o at *
    rw[hd,planL] at hr
    have hop:=refOption_ok m k o
    generalize optB m k o=ob at *
    ((repeat' (first|refine Vc @hcc hop ?_|(refine V2 @hcc ?_ ?_<;>try with_reducible intro hb)|(refine Xi ?_ ?_<;>try intro ht)|exact Xx|fail)))
    · have hrf:res=false:=by rw[← hr,decide_eq_false (p:=o = -1) (by omega),show ob=false by assumption];rfl
      repeat (refine Xu ?_)
      refine Vb X0 ?_
      exact RetOK_pure' rfl (by rw[hrf])
    · rw[show ob=true by assumption,Bool.or_true,Bool.true_and] at hr
      exact hnl _ (k+1) ⟨by omega,hr⟩ (by omega) (Xv X0)
    · rw[decide_eq_true (p:=o = -1) (by omega),Bool.true_or,Bool.true_and] at hr
      exact hnl _ (k+1) ⟨by omega,hr⟩ (by omega) (Xv X0)
  · ((repeat' (first|refine Va X0 ?_|(refine V2 X0 ?_ ?_<;>try with_reducible intro hb)|(refine Xi ?_ ?_<;>try intro ht)|exact Xx|fail)))
    rw[List.drop_eq_nil_of_le (by omega),planL] at hr
    refine hel _ _ rfl ?_;clear hnl hel Ql
    repeat (refine Xu ?_)
    refine Vb X0 ?_
    exact RetOK_pure' rfl (by rw[hr])
theorem entry_ok (m:Mdl) (p:Pr) (x y:Int) (hpb:pairB m p=true) (h24:∀ l∈m.cls,l.length≤24) (hx:0≤x∧x<(m.cls.getD p.fst.toNat default).length) (hy:0≤y∧y<(m.cls.getD p.snd.toNat default).length) :
    Holds Tryz.prog 93 [.agg (eMdl m),.agg (ePr p),.lit (.int .i64 x),.lit (.int .i64 y)] [] (.lit (.int .i64 (entryV m p x y))) []:=by
  obtain ⟨q1,q2,q3,q4,q5⟩:=pairB_iff hpb
  have hla:=h24 _ (getD_mem (l:=m.cls) (i:=p.fst.toNat) (d:=default) (by omega))
  have hlb:=h24 _ (getD_mem (l:=m.cls) (i:=p.snd.toNat) (d:=default) (by omega))
  have hidx:=entry_idx (x:=x) (y:=y) (a:=(m.cls.getD p.fst.toNat default).length) (b:=(m.cls.getD p.snd.toNat default).length) hx hy (by omega) (by omega)
  unfold entryV
  rw[← q5] at hidx
  generalize hbb:m.cls.getD p.snd.toNat default=lb at *
  generalize hxm:x * (lb.length:Int)=xm at *
  refine Holds.of_body' (fn:=Tryz.f93) 24 0 [.tmp 8] Tryz.func93 rfl rfl rfl rfl rfl (by simp) ?_
  refine Vb (X2 @hbb @hxm) ?_
  exact RetOK_pure' rfl rfl
theorem times_exc {most pen n:Int} (hp:In41 pen):timesV (n - most) pen=excV most pen n:=by
  unfold timesV excV In41 at *
  by_cases h:n≤most
  · rw[if_pos (by omega),if_pos h]
  · rw[if_neg (by omega),if_neg h]
    split
    · have:pen=1099511627776:=by omega
      subst this
      omega
    · rfl
theorem rules_ok (m:Mdl) (plan:List Int) (hm:VM m) (hp:PM m plan):Holds Tryz.prog 54 [.agg (eMdl m),.tree 1 (ints plan)] [] (.tree 1 (ints (rulesV m plan))) []:=by
  have hm1:=hm.cls
  have hm2:=hm.prs
  have hm3:=hm.cts
  have hm4:=hm.rul
  have hpl:=hp.len
  unfold rulesV
  generalize h1:planC m 0 plan (List.replicate m.rules.toNat 0)=o1
  generalize h2:pairC m plan m.prs o1=o2
  generalize h3:countC plan m.cts o2=o3
  have hout:=OutOK.rep hm4.1
  refine Holds.of_body' (fn:=Tryz.f54) 178 0 [.tmp 4] Tryz.func54 rfl rfl rfl rfl rfl (by simp) ?_
  refine Vb X0 ?_
  refine W_loopS (fun z:Nat × List Int=>(⟨slots [(1,.tree 1 (ints plan)),(2,.ptr 0 0 0),(5,.ref 1 1 0 m.rules.toNat),(6,.lit (.int .i64 z.1))],[.var (eMdl m),.arr 1 (ints z.2)]⟩:St))
    (fun z=>z.1≤plan.length∧OutOK m.rules z.2∧planC m z.1 (plan.drop z.1) z.2=o1) (fun z=>plan.length - z.1) (0,List.replicate m.rules.toNat 0) ⟨Nat.zero_le _,hout,h1⟩ (Xv X0) ?_
  rintro ⟨k,out⟩ ⟨hk,hok,hr⟩ Ql hnl hel
  dsimp only at hk hok hr ⊢
  have hol:out.length=m.rules.toNat:=by have:=hok.1;omega
  by_cases hk':k<plan.length
  · have hd:=getD_drop0 plan k 0 hk'
    have hget:=hp.get k hk'
    generalize hcc:plan.getD k 0=o at *
    rw[hd,planC] at hr
    by_cases ho:o<0
    · rw[if_pos ho] at hr
      ((repeat' (first|refine Va @hcc ?_|(refine Xi ?_ ?_<;>try intro ht)|exact Xx|fail)))
      exact hnl _ (k+1,out) ⟨by dsimp only;omega,hok,hr⟩ (by dsimp only;omega) (Xv X0)
    · rw[if_neg ho] at hr
      obtain ⟨b1,b2,b3,b4⟩:=optB_iff.1 (hget.resolve_left (by omega))
      have hl:=getD_mem (l:=m.cls) (i:=k) (d:=default) (by omega)
      generalize hll:m.cls.getD k default=l at *
      rw[Int.toNat_natCast,hll] at b4
      have hol2:=getD_mem (l:=l) (i:=o.toNat) (d:=default) (by omega)
      have hch:=hm.chs l hl _ hol2
      generalize hoo:l.getD o.toNat default=op at *
      ((repeat' (first|refine Va (X3 @hcc @hll @hoo) ?_|(refine Xi ?_ ?_<;>try intro ht)|exact Xx|fail)))
      generalize hfin:chargesL op.ch out=out2 at hr
      have hcl:=chL_len0 hm4.1 hch
      refine W_loopS (fun z:Nat × List Int=>(⟨slots [(1,.tree 1 (ints plan)),(2,.ptr 0 0 0),(5,.ref 1 1 0 m.rules.toNat),(6,.lit (.int .i64 k)),(7,.tree 2 (rowsOf eCh op.ch)),(8,.lit (.int .i64 z.1))],[.var (eMdl m),.arr 1 (ints z.2)]⟩:St))
        (fun z=>z.1≤op.ch.length∧OutOK m.rules z.2∧chargesL (op.ch.drop z.1) z.2=out2) (fun z=>op.ch.length - z.1) (0,out) ⟨Nat.zero_le _,hok,hfin⟩ (Xv X0) ?_
      rintro ⟨j,out3⟩ ⟨hj,hok3,hr3⟩ Ql2 hnl2 hel2
      dsimp only at hj hok3 hr3 ⊢
      have hol3:out3.length=m.rules.toNat:=by have:=hok3.1;omega
      by_cases hj':j<op.ch.length
      · have hd3:=getD_drop0 op.ch j default hj'
        have hcm:=chL_mem hch _ (getD_mem (d:=default) hj')
        generalize hcj:op.ch.getD j default=c at *
        rw[hd3,chargesL] at hr3
        obtain ⟨hcr,hcp⟩:=hcm
        rw[ruleB,decide_eq_true_eq] at hcr
        have hadd:=add_ok (out3.getD c.1.toNat 0) c.2 (hok3.get _) (price_in hcp)
        generalize hgx:out3.getD c.1.toNat 0=gx at *
        ((repeat' (first|refine Vc (X3 @hcj @hgx @ints_set) hadd ?_|(refine Xi ?_ ?_<;>try intro ht)|exact Xx|fail)))
        refine hnl2 _ (j+1,addAt out3 c.1 c.2) ⟨by dsimp only;omega,hok3.add (price_in hcp),hr3⟩ (by dsimp only;omega) ?_
        unfold addAt
        rw[hgx]
        exact Xs false [0,1] X0
      · ((repeat' (first|refine Va X0 ?_|(refine Xi ?_ ?_<;>try intro ht)|exact Xx|fail)))
        rw[List.drop_eq_nil_of_le (by omega),chargesL] at hr3
        subst hr3
        refine hel2 _ _ rfl ?_
        clear hnl2 hel2 Ql2
        repeat (refine Xu ?_)
        refine Va X0 ?_
        exact hnl _ (k+1,out3) ⟨by dsimp only;omega,hok3,hr⟩ (by dsimp only;omega) (Xv X0)
  · ((repeat' (first|refine Va X0 ?_|(refine Xi ?_ ?_<;>try intro ht)|exact Xx|fail)))
    rw[List.drop_eq_nil_of_le (by omega),planC] at hr
    subst hr
    refine hel _ _ rfl ?_;clear hnl hel Ql
    repeat (refine Xu ?_)
    refine Vb X0 ?_
    refine W_loopS (fun z:Nat × List Int=>(⟨slots [(1,.tree 1 (ints plan)),(2,.ptr 0 0 0),(5,.ref 1 1 0 m.rules.toNat),(9,.lit (.int .i64 z.1))],[.var (eMdl m),.arr 1 (ints z.2)]⟩:St))
      (fun z=>z.1≤m.prs.length∧OutOK m.rules z.2∧pairC m plan (m.prs.drop z.1) z.2=o2) (fun z=>m.prs.length - z.1) (0,out) ⟨Nat.zero_le _,hok,h2⟩ (Xv X0) ?_
    clear hk hok hol hk' h2
    rintro ⟨k,out⟩ ⟨hk,hok,hr⟩ Ql hnl hel
    dsimp only at hk hok hr ⊢
    have hol:out.length=m.rules.toNat:=by have:=hok.1;omega
    by_cases hk':k<m.prs.length
    · have hd:=getD_drop0 m.prs k default hk'
      have hpb:=prsL_mem hm.pr _ (getD_mem (d:=default) hk')
      generalize hcc:m.prs.getD k default=p at *
      rw[hd,pairC] at hr
      obtain ⟨q1,q2,q3,q4,q5⟩:=pairB_iff hpb
      have g1:=hp.get p.fst.toNat (by omega)
      have g2:=hp.get p.snd.toNat (by omega)
      rw[Int.toNat_of_nonneg (by omega)] at g1 g2
      have hent:=entry_in hpb (plan.getD p.fst.toNat 0) (plan.getD p.snd.toNat 0)
      have hec:0≤plan.getD p.fst.toNat 0→0≤plan.getD p.snd.toNat 0→Holds Tryz.prog 93 [.agg (eMdl m),.agg (ePr p),.lit (.int .i64 (plan.getD p.fst.toNat 0)),.lit (.int .i64 (plan.getD p.snd.toNat 0))] [] (.lit (.int .i64 (entryV m p (plan.getD p.fst.toNat 0) (plan.getD p.snd.toNat 0)))) []:=fun h0 h0'=>by
        have a1:=(optB_iff.1 (g1.resolve_left (by omega)))
        have a2:=(optB_iff.1 (g2.resolve_left (by omega)))
        exact entry_ok m p _ _ hpb hm.opt ⟨a1.2.2.1,a1.2.2.2⟩ ⟨a2.2.2.1,a2.2.2.2⟩
      generalize entryV m p (plan.getD p.fst.toNat 0) (plan.getD p.snd.toNat 0)=en at *
      generalize hx:plan.getD p.fst.toNat 0=x at *
      generalize hy:plan.getD p.snd.toNat 0=y at *
      have hadd:=add_ok (out.getD p.rule.toNat 0) en (hok.get _) hent
      generalize hgx:out.getD p.rule.toNat 0=gx at *
      by_cases hxy:0≤x∧0≤y
      · rw[if_pos hxy] at hr
        have hec:=hec hxy.1 hxy.2
        ((repeat' (first|refine Vc (X5 @hcc @hx @hy @hgx @ints_set) (X2 hec hadd) ?_|(refine V2 (X5 @hcc @hx @hy @hgx @ints_set) ?_ ?_<;>try with_reducible intro hb)|(refine Xi ?_ ?_<;>try intro ht)|exact Xx|fail)))
        refine hnl _ (k+1,addAt out p.rule en) ⟨by dsimp only;omega,hok.add hent,hr⟩ (by dsimp only;omega) ?_
        unfold addAt
        rw[hgx]
        exact Xs false [0,1] X0
      · rw[if_neg hxy] at hr
        clear hec
        ((repeat' (first|refine Va (X4 @hcc @hx @hy @hgx) ?_|(refine V2 (X4 @hcc @hx @hy @hgx) ?_ ?_<;>try with_reducible intro hb)|(refine Xi ?_ ?_<;>try intro ht)|exact Xx|fail)))
        all_goals exact hnl _ (k+1,out) ⟨by dsimp only;omega,hok,hr⟩ (by dsimp only;omega) (Xs false [0,1] X0)
    · ((repeat' (first|refine Va X0 ?_|(refine V2 X0 ?_ ?_<;>try with_reducible intro hb)|(refine Xi ?_ ?_<;>try intro ht)|exact Xx|fail)))
      rw[List.drop_eq_nil_of_le (by omega),pairC] at hr
      subst hr
      refine hel _ _ rfl ?_;clear hnl hel Ql
      repeat (refine Xu ?_)
      refine Vb X0 ?_
      refine W_loopS (fun z:Nat × List Int=>(⟨slots [(1,.tree 1 (ints plan)),(2,.ptr 0 0 0),(5,.ref 1 1 0 m.rules.toNat),(11,.lit (.int .i64 z.1))],[.var (eMdl m),.arr 1 (ints z.2)]⟩:St))
        (fun z=>z.1≤m.cts.length∧OutOK m.rules z.2∧countC plan (m.cts.drop z.1) z.2=o3) (fun z=>m.cts.length - z.1) (0,out) ⟨Nat.zero_le _,hok,h3⟩ (Xv X0) ?_
      clear hk hok hol hk' h3
      rintro ⟨k,out⟩ ⟨hk,hok,hr⟩ Ql hnl hel
      dsimp only at hk hok hr ⊢
      have hol:out.length=m.rules.toNat:=by have:=hok.1;omega
      by_cases hk':k<m.cts.length
      · have hd:=getD_drop0 m.cts k default hk'
        have hcb:=hm.ct _ (getD_mem (d:=default) hk')
        generalize hcc:m.cts.getD k default=c at *
        rw[hd,countC] at hr
        obtain ⟨q1,q2,q3,q4⟩:=ctB_iff hcb
        have hlen:=ldL_len0 hm q4
        have hrange:=loadS_range (m:=m) (plan:=plan) (fun x hx=>(ldL_mem q4 x hx).2) 0
        have hexc:=excV_in (most:=c.most) (sum:=loadS plan c.loads 0) (price_in q3)
        have hexcall:=times_ok (loadS plan c.loads 0 - c.most) c.pen (by omega) (price_in q3)
        rw[times_exc (price_in q3)] at hexcall
        generalize hsum:loadS plan c.loads 0=sum at *
        generalize hev:excV c.most c.pen sum=ev0 at *
        have hadd:=add_ok (out.getD c.rule.toNat 0) ev0 (hok.get _) hexc
        generalize hgx:out.getD c.rule.toNat 0=gx at *
        ((repeat' (first|refine Va @hcc ?_|(refine Xi ?_ ?_<;>try intro ht)|exact Xx|fail)))
        refine W_loopS (fun z:Nat × Int=>(⟨slots [(1,.tree 1 (ints plan)),(2,.ptr 0 0 0),(5,.ref 1 1 0 m.rules.toNat),(11,.lit (.int .i64 k)),(12,.ptr 2 0 0),(13,.lit (.int .i64 z.2)),(14,.lit (.int .i64 z.1))],[.var (eMdl m),.arr 1 (ints out),.var (eCt c)]⟩:St))
          (fun z=>z.1≤c.loads.length∧0≤z.2∧z.2≤1000 * z.1∧loadS plan (c.loads.drop z.1) z.2=sum) (fun z=>c.loads.length - z.1) (0,0) ⟨Nat.zero_le _,Int.le_refl _,by dsimp only;omega,hsum⟩ (Xv X0) ?_
        rintro ⟨j,n⟩ ⟨hj,hn0,hn1,hr3⟩ Ql2 hnl2 hel2
        dsimp only at hj hn0 hn1 hr3 ⊢
        by_cases hj':j<c.loads.length
        · have hd3:=getD_drop0 c.loads j default hj'
          have hlm:=ldL_mem q4 _ (getD_mem (d:=default) hj')
          generalize hcj:c.loads.getD j default=x at *
          rw[hd3,loadS] at hr3
          obtain ⟨b1,b2,b3,b4⟩:=optB_iff.1 hlm.1
          have hlw:=hlm.2
          generalize hpx:plan.getD x.cls.toNat 0=px at *
          ((repeat' (first|refine Va (X2 @hcj @hpx) ?_|(refine Xi ?_ ?_<;>try intro ht)|exact Xx|fail)))
          · rw[if_pos (by assumption)] at hr3
            exact hnl2 _ (j+1,n+x.wt) ⟨by dsimp only;omega,by dsimp only;omega,by dsimp only;omega,hr3⟩ (by dsimp only;omega) (Xs false [0,1,2] X0)
          · rw[if_neg (by assumption)] at hr3
            exact hnl2 _ (j+1,n) ⟨by dsimp only;omega,by dsimp only;omega,by dsimp only;omega,hr3⟩ (by dsimp only;omega) (Xs false [0,1,2] X0)
        · ((repeat' (first|refine Va X0 ?_|(refine Xi ?_ ?_<;>try intro ht)|exact Xx|fail)))
          rw[List.drop_eq_nil_of_le (by omega),loadS] at hr3
          subst hr3
          refine hel2 _ _ rfl ?_
          clear hnl2 hel2 Ql2
          repeat (refine Xu ?_)
          refine Vc (X2 @hgx @ints_set) (X2 hexcall hadd) ?_
          refine hnl _ (k+1,addAt out c.rule ev0) ⟨by dsimp only;omega,hok.add hexc,hr⟩ (by dsimp only;omega) ?_
          unfold addAt
          rw[hgx]
          exact Xs false [0,1] X0
      · ((repeat' (first|refine Va X0 ?_|(refine Xi ?_ ?_<;>try intro ht)|exact Xx|fail)))
        rw[List.drop_eq_nil_of_le (by omega),countC] at hr
        refine hel _ _ rfl ?_;clear hnl hel Ql
        repeat (refine Xu ?_)
        refine Vb X0 ?_
        subst hr
        refine RetOK_sel [] true (by decide) trivial (by decide) (by decide) ?_
        rw[← hol]
        first|exact .pure rfl|exact .eq rfl|exact .fz rfl (by simp only[Bc,Rc])
theorem refCost_ok (m:Mdl) (plan:List Int) (hb:MB m) (hpl:plan.length<9223372036854775808):Holds Tryz.prog 24 [.agg (eMdl m),.tree 1 (ints plan)] [] (.tup [.lit (.int .i64 (costT m plan).1),.tree 1 (ints (costT m plan).2.1),.lit (.int .i64 (costT m plan).2.2)]) []:=by
  generalize hres:costT m plan=res
  unfold costT at hres
  have hval:=refValid_ok m hb
  have hpln:=partial_ok m plan hpl
  by_cases hv:validV m=0
  rotate_left
  · rw[if_pos hv] at hres
    subst hres
    refine Holds.of_body' (fn:=Tryz.f24) 37 0 [.tmp 4,.tmp 5,.tmp 6] Tryz.func24 rfl rfl rfl rfl rfl (by simp) ?_
    ((repeat' (first|refine Vd X0 hval ?_|(refine Xi ?_ ?_<;>try intro ht)|exact Xx|fail)))
    all_goals first|exact RetOK_sel [] true (by decide) trivial (by decide) (by decide) (tup3 (.pure rfl) ArgR.nil (.pure rfl))|(exfalso;omega)
  rw[if_neg (by omega)] at hres
  rw[hv] at hval
  have hvm:=valid_iff.1 hv
  by_cases hpn:plannedV m plan=true
  rotate_left
  · rw[if_pos (by simpa using hpn)] at hres
    rw[show plannedV m plan=false by simpa using hpn] at hpln
    subst hres
    refine Holds.of_body' (fn:=Tryz.f24) 37 0 [.tmp 4,.tmp 5,.tmp 6] Tryz.func24 rfl rfl rfl rfl rfl (by simp) ?_
    ((repeat' (first|refine Vd X0 (X2 hval hpln) ?_|(refine Xi ?_ ?_<;>try intro ht)|exact Xx|fail)))
    all_goals first|exact RetOK_sel [] true (by decide) trivial (by decide) (by decide) (tup3 (.pure rfl) ArgR.nil (.pure rfl))|(exfalso;omega)
  rw[if_neg (by simp[hpn])] at hres
  rw[hpn] at hpln
  have hp:=planned_pm hpn
  have hru:=rules_ok m plan hvm hp
  have hok:=rulesV_ok hvm plan
  have hrr:=hvm.rul
  unfold costsV at hres
  dsimp only at hres
  generalize rulesV m plan=l at *
  have hll:=hok.1
  generalize htot:totalL l 0=tot at *
  subst hres
  refine Holds.of_body' (fn:=Tryz.f24) 37 0 [.tmp 4,.tmp 5,.tmp 6] Tryz.func24 rfl rfl rfl rfl rfl (by simp) ?_
  ((repeat' (first|refine Vd X0 (X3 hval hpln hru) ?_|(refine Xi ?_ ?_<;>try intro ht)|exact Xx|fail)))
  refine W_loopS (fun z:Nat × Int=>(⟨slots [(8,.tree 1 (ints l)),(9,.lit (.int .i64 z.2)),(10,.lit (.int .i64 z.1))],[.var (eMdl m)]⟩:St))
    (fun z=>z.1≤l.length∧In41 z.2∧totalL (l.drop z.1) z.2=tot) (fun z=>l.length - z.1) (0,0) ⟨Nat.zero_le _,by unfold In41;decide,htot⟩ (Xv X0) ?_
  rintro ⟨j,n⟩ ⟨hj,hn0,hr3⟩ Ql hnl hel
  dsimp only at hj hn0 hr3 ⊢
  by_cases hj':j<l.length
  · have hd3:=getD_drop0 l j 0 hj'
    have hxin:=hok.get j
    generalize hcj:l.getD j 0=x at *
    rw[hd3,totalL] at hr3
    ((repeat' (first|refine Vc @hcj (add_ok n x hn0 hxin) ?_|(refine Xi ?_ ?_<;>try intro ht)|exact Xx|fail)))
    exact hnl _ (j+1,addC n x) ⟨by dsimp only;omega,addC_in hn0 hxin,hr3⟩ (by dsimp only;omega) (Xv X0)
  · ((repeat' (first|refine Va X0 ?_|(refine Xi ?_ ?_<;>try intro ht)|exact Xx|fail)))
    rw[List.drop_eq_nil_of_le (by omega),totalL] at hr3
    refine hel _ _ rfl ?_;clear hnl hel Ql
    repeat (refine Xu ?_)
    refine Vb X0 ?_
    exact RetOK_pure' rfl (by rw[hr3])
end T

