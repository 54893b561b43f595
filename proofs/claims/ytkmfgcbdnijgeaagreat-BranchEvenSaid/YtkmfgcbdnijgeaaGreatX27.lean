import Derived.Test.YtkmfgcbdnijgeaaGreatX25
import Derived.Test.YtkmfgcbdnijgeaaGreatX19
set_option linter.unusedVariables false
set_option linter.unusedSimpArgs false
set_option linter.unnecessarySimpa false
set_option linter.unusedSectionVars false
set_option maxHeartbeats 64000000
set_option maxRecDepth 20000
open Go Go.Am Go.Proofs
open Nat (reduceEqDiff reduceAdd reduceLeDiff reduceMul)
open Int (reduceNeg reduceLE reduceToNat)
namespace T
theorem eNm_app (xs:List Nm) (n:Int):rowsOf eNm xs++[[AV.lit (.int .i64 n),.lit (.bool (decide (1099511627776≤n)))]]=rowsOf eNm (xs++[ofN n]):=by simp[rowsOf,eNm,ofN]
theorem open_ok {m:Mdl} (hm:VM m) (os:List Ob):HoldsR Tryz.prog 89 [.agg (eMdl m)] os fun r ob=>∃ gi ai bi D E,r=.ptr gi 0 0∧LO eNm (GB m gi ai bi D E) D E (S0 m) (T0 m) ob∧Keep os ob:=by
  have hc4:=hm.cls
  have hp4:=hm.prs
  refine HoldsR.of_body' (fn:=Tryz.f89) 94 os.length [.tmp 2] Tryz.func89 rfl rfl rfl rfl rfl (by simp) ?_
  refine Vb (X3 @Oc2 @List.append_assoc.{0} @List.length_append.{0}) ?_
  have kz1:(os++[Ob.var (eMdl m),Ob.var (eMdl m++[.lit (.slice none 0 0),.lit (.slice none 0 0)])])[os.length+1]?=some (.var (eMdl m++[.lit (.slice none 0 0),.lit (.slice none 0 0)])):=by rw[oLk];rfl
  refine W_turn (Turns.nilC (os.length+1) 4 1 kz1 rfl (by decide)) ?_
  simp only[List.append_assoc,List.cons_append,List.nil_append,oSk,List.set_cons_succ,List.set_cons_zero,List.length_append,List.length_cons,List.length_nil,eMdl,Nat.zero_add,Nat.reduceAdd]
  clear kz1
  refine W_turn (Turns.nilC (os.length+1) 5 1 (by rw[oLk];rfl) rfl (by decide)) ?_
  simp only[List.append_assoc,List.cons_append,List.nil_append,oSk,List.set_cons_succ,List.set_cons_zero,List.length_append,List.length_cons,List.length_nil,Nat.zero_add,Nat.reduceAdd]
  have hB1:LO eNm [(os.length+1,.var (gC m (os.length+2) (os.length+3) [] [])),(os.length+2,.arr 1 (rowsOf eRf [])),(os.length,.var (eMdl m)),(os.length+3,.arr 1 (rowsOf eRf []))] [] [] ((S0 m).take 0) [] (os++[.var (eMdl m),.var (gC m (os.length+2) (os.length+3) [] []),.arr 1 [],.arr 1 []]):=by
    refine⟨fun b hb=>?_,by rw[List.take_zero];exact RI.nil,RI.nil,by simp⟩
    simp only[List.mem_cons,List.not_mem_nil,or_false] at hb
    rcases hb with rfl | rfl | rfl | rfl
    · exact⟨by rw[oLk];rfl,by simp⟩
    · exact⟨by rw[oLk];rfl,by simp⟩
    · exact⟨by rw[oL0],by simp⟩
    · exact⟨by rw[oLk];rfl,by simp⟩
  refine W_loopS (fun z:Nat × List Ob × Nat × List (Nat × Nat)=>(⟨slots [(1,.ptr os.length 0 0),(3,.ptr (os.length+1) 0 0),(21,.tree 1 (rowsOf eCls m.cls)),(22,.lit (.int .i64 m.cls.length)),(23,.lit (.int .i64 z.1))],z.2.1⟩:St))
    (fun z=>z.1≤m.cls.length∧z.2.2.2.length=z.1∧LO eNm [(os.length+1,.var (gC m z.2.2.1 (os.length+3) z.2.2.2 [])),(z.2.2.1,.arr 1 (rowsOf eRf z.2.2.2)),(os.length,.var (eMdl m)),(os.length+3,.arr 1 (rowsOf eRf []))] z.2.2.2 [] ((S0 m).take z.1) [] z.2.1∧Keep os z.2.1∧os.length+1<z.2.2.1∧z.2.2.1≠os.length+3)
    (fun z=>m.cls.length - z.1) (0,os++[.var (eMdl m),.var (gC m (os.length+2) (os.length+3) [] []),.arr 1 [],.arr 1 []],os.length+2,[]) ⟨Nat.zero_le _,rfl,hB1,(Keep.refl os).app _,by dsimp only;omega,by dsimp only;omega⟩ (Xv X0) ?_
  clear hB1
  rintro ⟨i,ob,ai,D⟩ ⟨hi,hD,hL,hkp,hai,hai2⟩ Ql hnl hel
  dsimp only at hi hD hL hkp hai hai2 ⊢
  by_cases hi':i<m.cls.length
  · have hcm:=getD_mem (d:=default) hi'
    have hl24:=hm.opt _ hcm
    have hts:(S0 m).take (i+1)=(S0 m).take i++[firstV (ownV (m.cls.getD i default))]:=by
      rw[take_snoc (by unfold S0;rw[List.length_map];exact hi')]
      unfold S0;rw[map_getD _ _ _ hi']
    have hch:=fun o ho=>hm.chs _ hcm o ho
    have hchl:=fun o ho=>chs_len hm hcm (o:=o) ho
    generalize hcc:m.cls.getD i default=c at *
    ((repeat' (first|refine Va (X2 @hcc @eCls.eq_1) ?_|(refine Xi ?_ ?_<;>try intro ht)|exact Xx|fail)))
    have hvl:(firstV (ownV c)).length=c.length:=by unfold firstV ownV;simp
    refine W_loopS (fun z:Nat × List Ob × Nat × List Nm=>(⟨slots [(1,.ptr os.length 0 0),(3,.ptr (os.length+1) 0 0),(21,.tree 1 (rowsOf eCls m.cls)),(22,.lit (.int .i64 m.cls.length)),(23,.lit (.int .i64 i)),(6,.ref z.2.2.1 2 0 z.2.2.2.length),(27,.tree 6 (rowsOf eOpt c)),(28,.lit (.int .i64 c.length)),(29,.lit (.int .i64 z.1))],z.2.1⟩:St))
      (fun z=>z.1≤c.length∧LO eNm [(os.length+1,.var (gC m ai (os.length+3) D [])),(ai,.arr 1 (rowsOf eRf D)),(os.length,.var (eMdl m)),(os.length+3,.arr 1 (rowsOf eRf []))] D [] ((S0 m).take i) [] z.2.1∧Keep os z.2.1∧z.2.1[z.2.2.1]?=some (.arr 2 (rowsOf eNm z.2.2.2))∧z.2.2.1 ∉ List.map (fun q:Nat × Nat=>q.1) (D++[])∧os.length≤z.2.2.1∧z.2.2.2=(firstV (ownV c)).take z.1)
      (fun z=>c.length - z.1) (0,ob++[.arr 2 []],ob.length,[]) ⟨Nat.zero_le _,hL.app _,hkp.app _,oL0 _ _ _,hL.fresh (Nat.le_refl _),hkp.len,rfl⟩ ?_ ?_
    · refine Turns.trans (Turns.nil 6 2 (by simp only[Kc,simprocAttr]) (by decide)) ?_
      exact Xv X0
    clear hL hkp
    rintro ⟨k,ok,oi,xs⟩ ⟨hk,hL,hkp,foi,hfr,hoi,hxs⟩ Ql2 hnl2 hel2
    dsimp only at hk hL hkp foi hfr hoi hxs ⊢
    by_cases hk':k<c.length
    · have hom:=getD_mem (l:=c) (d:=default) hk'
      have hcin:=chs_in (hch _ hom)
      have hcle:=hchl _ hom
      have hox:(firstV (ownV c)).getD k default=ofN (ownS (c.getD k default)):=by
        unfold firstV ownV;rw[List.map_map,map_getD _ _ _ hk'];rfl
      have htx:=take_snoc (l:=firstV (ownV c)) (k:=k) (by omega)
      rw[hox,← hxs] at htx
      have hxl:xs.length=k:=by rw[hxs,List.length_take];omega
      generalize hoo:c.getD k default=o at *
      ((repeat' (first|refine Va (X3 @hoo @Oc2 @eOpt.eq_1) ?_|(refine Xi ?_ ?_<;>try intro ht)|exact Xx|fail)))
      refine W_loopS (fun z:Nat × List Ob=>(⟨slots [(1,.ptr os.length 0 0),(3,.ptr (os.length+1) 0 0),(21,.tree 1 (rowsOf eCls m.cls)),(22,.lit (.int .i64 m.cls.length)),(23,.lit (.int .i64 i)),(6,.ref oi 2 0 xs.length),(27,.tree 6 (rowsOf eOpt c)),(28,.lit (.int .i64 c.length)),(29,.lit (.int .i64 k)),(9,.lit (.int .i64 (((o.ch.take z.1).map (·.2)).foldl addC 0))),(34,.tree 2 (rowsOf eCh o.ch)),(35,.lit (.int .i64 o.ch.length)),(36,.lit (.int .i64 z.1))],z.2⟩:St))
        (fun z=>z.1≤o.ch.length∧LO eNm [(os.length+1,.var (gC m ai (os.length+3) D [])),(ai,.arr 1 (rowsOf eRf D)),(os.length,.var (eMdl m)),(os.length+3,.arr 1 (rowsOf eRf []))] D [] ((S0 m).take i) [] z.2∧Keep os z.2∧z.2[oi]?=some (.arr 2 (rowsOf eNm xs)))
        (fun z=>o.ch.length - z.1) (0,ok++[.var (eOpt o)]) ⟨Nat.zero_le _,hL.app _,hkp.app _,oLo foi _⟩ (Xv (X4 @List.take_zero.{0} @List.map_nil.{0,0} @List.foldl_nil.{0,0} @eOpt.eq_1)) ?_
      clear hL hkp foi
      rintro ⟨q,oq⟩ ⟨hq,hL,hkp,foi⟩ Ql3 hnl3 hel3
      dsimp only at hq hL hkp foi ⊢
      have hs:=foldC_in ((o.ch.take q).map (·.2)) 0 (fun x hx=>by
        obtain ⟨c,hc',rfl⟩:=List.mem_map.1 hx;exact hcin c (List.mem_of_mem_take hc')) (by unfold In41;decide)
      by_cases hq':q<o.ch.length
      · have hcc2:=hcin _ (getD_mem (d:=default) hq')
        have hst:=getD_foldl o.ch q hq'
        generalize ((o.ch.take q).map (·.2)).foldl addC 0=s at *
        have hadd:=sum_ok s (o.ch.getD q default).2 hs hcc2
        generalize hyy:o.ch.getD q default=y at *
        ((repeat' (first|refine Vc (X3 @hyy @Oc2 @eCh.eq_1) hadd ?_|(refine Xi ?_ ?_<;>try intro ht)|exact Xx|fail)))
        refine hnl3 _ (q+1,oq++[.var (eCh y)]) ⟨by dsimp only;omega,hL.app _,hkp.app _,oLo foi _⟩ (by dsimp only;omega) ?_
        simp only[hst]
        exact Xv @eCh.eq_1
      · have hfin:((o.ch.take q).map (·.2)).foldl addC 0=ownS o:=by rw[List.take_of_length_le (by omega)];rfl
        rw[hfin] at hs
        rw[← hfin] at htx
        generalize ((o.ch.take q).map (·.2)).foldl addC 0=s at *
        have hof:=of_ok s
        have eoi:=oLo foi
        have soi:=oSo foi
        have hol:=(List.getElem?_eq_some_iff.1 foi).1
        ((repeat' (first|refine Va X0 ?_|(refine Xi ?_ ?_<;>try intro ht)|exact Xx|fail)))
        refine hel3 _ _ rfl ?_
        clear hnl3 hel3 Ql3
        repeat (refine Xu ?_)
        refine Vc (X5 @foi @eoi @soi @eNm.eq_1 (X5 @ofN.eq_1 @Oc2 @List.append_assoc.{0} @List.length_append.{0} (X2 @List.length_set.{0} @eNm_app))) hof ?_
        have hL2:=(hL.killR (y:=.gone) hfr foi).app [.arr 2 [eNm (ofN s)],.arr 2 (rowsOf eNm (xs++[ofN s]))]
        refine hnl2 _ (k+1,oq.set oi .gone++[.arr 2 [eNm (ofN s)],.arr 2 (rowsOf eNm (xs++[ofN s]))],oq.length+1,xs++[ofN s]) ⟨by dsimp only;omega,hL2,(hkp.set hoi).app _,oLs _ _ _ _ _,(hL.killR (y:=.gone) hfr foi).fresh (by dsimp only;rw[List.length_set];omega),by dsimp only;have:=hkp.len;omega,htx.symm⟩ (by dsimp only;omega) ?_
        exact Xv (X2 @eNm.eq_1 @ofN.eq_1)
    · rw[List.take_of_length_le (by omega)] at hxs
      have hg0:=(hL.base (os.length+1,.var (gC m ai (os.length+3) D [])) (by simp)).1
      have ha0:=(hL.base (ai,.arr 1 (rowsOf eRf D)) (by simp)).1
      dsimp only at hg0 ha0
      have eg0:=oLo hg0
      have ea0:=oLo ha0
      have sa0:=oSo ha0
      have hg1:(ok.set ai .gone)[os.length+1]?=some (.var (gC m ai (os.length+3) D [])):=by rw[List.getElem?_set_ne (by omega)];exact hg0
      have hgs:=oLo hg1
      have hgw:=oSo hg1
      have hst:=hL.step foi hfr (by simp only[List.mem_cons,List.not_mem_nil,or_false,forall_eq_or_imp,forall_eq];omega) [.tree 1 (rowsOf eCls m.cls),.tree 4 (rowsOf ePr m.prs),.tree 4 (rowsOf eCt m.cts),.lit (.int .i64 m.rules),.ref (ok.length+1) 1 0 (D.length+1),.ref (os.length+3) 1 0 0] (rowsOf eRf (D++[(oi,xs.length)])) (.arr 1 [[.ref oi 2 0 xs.length]])
      have egc:gC m (ok.length+1) (os.length+3) (D++[(oi,xs.length)]) []=[.tree 1 (rowsOf eCls m.cls),.tree 4 (rowsOf ePr m.prs),.tree 4 (rowsOf eCt m.cts),.lit (.int .i64 m.rules),.ref (ok.length+1) 1 0 (D.length+1),.ref (os.length+3) 1 0 0]:=by simp[gC]
      have hb3:=(List.getElem?_eq_some_iff.1 (hL.base (os.length+3,.arr 1 (rowsOf eRf [])) (by simp)).1).1
      have hal:=(List.getElem?_eq_some_iff.1 ha0).1
      dsimp only at hb3
      ((repeat' (first|refine Va X0 ?_|(refine Xi ?_ ?_<;>try intro ht)|exact Xx|fail)))
      refine hel2 _ _ rfl ?_
      clear hnl2 hel2 Ql2
      repeat (refine Xu ?_)
      refine Va (X5 @hg0 @ha0 @eg0 @ea0 (X5 @sa0 @hgs @hgw @gC.eq_1 (X5 @eRf_app @Oc2 @List.append_assoc.{0} @List.length_append.{0} @List.length_set.{0}))) ?_
      refine hnl _ (i+1,_,ok.length+1,D++[(oi,xs.length)]) ⟨by dsimp only;omega,by simp;omega,by dsimp only;rw[hts,← hxs,egc];exact hst,((hkp.set (by omega)).set (by omega)).app _,by dsimp only;omega,by dsimp only;omega⟩ (by dsimp only;omega) ?_
      exact Xv X0
  rw[List.take_of_length_le (by unfold S0;rw[List.length_map];omega)] at hL
  have hm0:=(hL.base (os.length,.var (eMdl m)) (by simp)).1
  dsimp only at hm0
  ((repeat' (first|refine Va @hm0 ?_|(refine Xi ?_ ?_<;>try intro ht)|exact Xx|fail)))
  refine hel _ _ rfl ?_;clear hnl hel Ql
  repeat (refine Xu ?_)
  refine Va @hm0 ?_
  have hL0:LO eNm [(os.length+1,.var (gC m ai (os.length+3) D [])),(os.length+3,.arr 1 (rowsOf eRf [])),(os.length,.var (eMdl m)),(ai,.arr 1 (rowsOf eRf D))] [] D ((T0 m).take 0) (S0 m) ob:=hL.swap.sub (by simp only[List.mem_cons,List.not_mem_nil,or_false];intro b hb;rcases hb with rfl | rfl | rfl | rfl<;>simp)
  refine W_loopS (fun z:Nat × List Ob × Nat × List (Nat × Nat)=>(⟨slots [(1,.ptr os.length 0 0),(3,.ptr (os.length+1) 0 0),(63,.tree 4 (rowsOf ePr m.prs)),(64,.lit (.int .i64 m.prs.length)),(65,.lit (.int .i64 z.1))],z.2.1⟩:St))
    (fun z=>z.1≤m.prs.length∧z.2.2.2.length=z.1∧LO eNm [(os.length+1,.var (gC m ai z.2.2.1 D z.2.2.2)),(z.2.2.1,.arr 1 (rowsOf eRf z.2.2.2)),(os.length,.var (eMdl m)),(ai,.arr 1 (rowsOf eRf D))] z.2.2.2 D ((T0 m).take z.1) (S0 m) z.2.1∧Keep os z.2.1∧os.length+1<z.2.2.1∧ai≠z.2.2.1)
    (fun z=>m.prs.length - z.1) (0,ob,os.length+3,[]) ⟨Nat.zero_le _,rfl,hL0,hkp,by dsimp only;omega,hai2⟩ (Xv X0) ?_
  clear hL hL0 hkp hm0 hi hi' hai2 ob
  rintro ⟨i,ob,bi,E⟩ ⟨hi,hE,hL,hkp,hbi,hab⟩ Ql hnl hel
  dsimp only at hi hE hL hkp hbi hab ⊢
  by_cases hi':i<m.prs.length
  · have hpb:=prsL_mem hm.pr _ (getD_mem (d:=default) hi')
    have htl:=pairB_tab hpb hm
    have hti:=tab_in hpb
    have hts:(T0 m).take (i+1)=(T0 m).take i++[firstV (m.prs.getD i default).tab]:=by
      rw[take_snoc (by unfold T0;rw[List.length_map];exact hi')]
      unfold T0;rw[map_getD _ _ _ hi']
    generalize hpp:m.prs.getD i default=p at *
    ((repeat' (first|refine Va (X3 @hpp @Oc2 @ePr.eq_1) ?_|(refine Xi ?_ ?_<;>try intro ht)|exact Xx|fail)))
    have hvl:(firstV p.tab).length=p.tab.length:=by unfold firstV;simp
    refine W_loopS (fun z:Nat × List Ob × Nat × List Nm=>(⟨slots [(1,.ptr os.length 0 0),(3,.ptr (os.length+1) 0 0),(63,.tree 4 (rowsOf ePr m.prs)),(64,.lit (.int .i64 m.prs.length)),(65,.lit (.int .i64 i)),(14,.ref z.2.2.1 2 0 z.2.2.2.length),(70,.tree 1 (ints p.tab)),(71,.lit (.int .i64 p.tab.length)),(72,.lit (.int .i64 z.1))],z.2.1⟩:St))
      (fun z=>z.1≤p.tab.length∧LO eNm [(os.length+1,.var (gC m ai bi D E)),(bi,.arr 1 (rowsOf eRf E)),(os.length,.var (eMdl m)),(ai,.arr 1 (rowsOf eRf D))] E D ((T0 m).take i) (S0 m) z.2.1∧Keep os z.2.1∧z.2.1[z.2.2.1]?=some (.arr 2 (rowsOf eNm z.2.2.2))∧z.2.2.1 ∉ List.map (fun q:Nat × Nat=>q.1) (E++D)∧os.length≤z.2.2.1∧z.2.2.2=(firstV p.tab).take z.1)
      (fun z=>p.tab.length - z.1) (0,(ob++[.var (ePr p)])++[.arr 2 []],(ob++[Ob.var (ePr p)]).length,[]) ⟨Nat.zero_le _,(hL.app _).app _,(hkp.app _).app _,oL0 _ _ _,(hL.app [.var (ePr p)]).fresh (Nat.le_refl _),by simp;have:=hkp.len;omega,rfl⟩ ?_ ?_
    · refine Turns.trans (Turns.nil 14 2 (by simp only[Kc,simprocAttr]) (by decide)) ?_
      exact Xv X0
    clear hL hkp
    rintro ⟨k,ok,oi,xs⟩ ⟨hk,hL,hkp,foi,hfr,hoi,hxs⟩ Ql2 hnl2 hel2
    dsimp only at hk hL hkp foi hfr hoi hxs ⊢
    by_cases hk':k<p.tab.length
    · have hox:(firstV p.tab).getD k default=ofN (p.tab.getD k 0):=by
        unfold firstV;rw[map_getD _ _ _ hk'];rfl
      have htx:=take_snoc (l:=firstV p.tab) (k:=k) (by omega)
      rw[hox,← hxs] at htx
      have hxl:xs.length=k:=by rw[hxs,List.length_take];omega
      have hs:=hti _ (getD_mem (d:=0) hk')
      unfold In41 at hs
      generalize hyy:p.tab.getD k 0=s at *
      have hof:=of_ok s
      have eoi:=oLo foi
      have soi:=oSo foi
      have hol:=(List.getElem?_eq_some_iff.1 foi).1
      ((repeat' (first|refine Vc (X5 @hyy @foi @eoi @soi (X5 @eNm.eq_1 @ofN.eq_1 @Oc2 @List.append_assoc.{0} (X3 @List.length_append.{0} @List.length_set.{0} @eNm_app))) hof ?_|(refine Xi ?_ ?_<;>try intro ht)|exact Xx|fail)))
      have hL2:=(hL.killR (y:=.gone) hfr foi).app [.arr 2 [eNm (ofN s)],.arr 2 (rowsOf eNm (xs++[ofN s]))]
      refine hnl2 _ (k+1,ok.set oi .gone++[.arr 2 [eNm (ofN s)],.arr 2 (rowsOf eNm (xs++[ofN s]))],ok.length+1,xs++[ofN s]) ⟨by dsimp only;omega,hL2,(hkp.set hoi).app _,oLs _ _ _ _ _,(hL.killR (y:=.gone) hfr foi).fresh (by dsimp only;rw[List.length_set];omega),by dsimp only;have:=hkp.len;omega,htx.symm⟩ (by dsimp only;omega) ?_
      exact Xv (X2 @eNm.eq_1 @ofN.eq_1)
    · rw[List.take_of_length_le (by omega)] at hxs
      have hg0:=(hL.base (os.length+1,.var (gC m ai bi D E)) (by simp)).1
      have ha0:=(hL.base (bi,.arr 1 (rowsOf eRf E)) (by simp)).1
      have ha3:=(List.getElem?_eq_some_iff.1 (hL.base (ai,.arr 1 (rowsOf eRf D)) (by simp)).1).1
      dsimp only at hg0 ha0 ha3
      have eg0:=oLo hg0
      have ea0:=oLo ha0
      have sa0:=oSo ha0
      have hg1:(ok.set bi .gone)[os.length+1]?=some (.var (gC m ai bi D E)):=by rw[List.getElem?_set_ne (by omega)];exact hg0
      have hgs:=oLo hg1
      have hgw:=oSo hg1
      have hst:=hL.step foi hfr (by simp only[List.mem_cons,List.not_mem_nil,or_false,forall_eq_or_imp,forall_eq];omega) [.tree 1 (rowsOf eCls m.cls),.tree 4 (rowsOf ePr m.prs),.tree 4 (rowsOf eCt m.cts),.lit (.int .i64 m.rules),.ref ai 1 0 D.length,.ref (ok.length+1) 1 0 (E.length+1)] (rowsOf eRf (E++[(oi,xs.length)])) (.arr 1 [[.ref oi 2 0 xs.length]])
      have egc:gC m ai (ok.length+1) D (E++[(oi,xs.length)])=[.tree 1 (rowsOf eCls m.cls),.tree 4 (rowsOf ePr m.prs),.tree 4 (rowsOf eCt m.cts),.lit (.int .i64 m.rules),.ref ai 1 0 D.length,.ref (ok.length+1) 1 0 (E.length+1)]:=by simp[gC]
      have hal:=(List.getElem?_eq_some_iff.1 ha0).1
      ((repeat' (first|refine Va X0 ?_|(refine Xi ?_ ?_<;>try intro ht)|exact Xx|fail)))
      refine hel2 _ _ rfl ?_
      clear hnl2 hel2 Ql2
      repeat (refine Xu ?_)
      refine Va (X5 @hg0 @ha0 @eg0 @ea0 (X5 @sa0 @hgs @hgw @gC.eq_1 (X5 @eRf_app @Oc2 @List.append_assoc.{0} @List.length_append.{0} @List.length_set.{0}))) ?_
      refine hnl _ (i+1,_,ok.length+1,E++[(oi,xs.length)]) ⟨by dsimp only;omega,by simp;omega,by dsimp only;rw[hts,← hxs,egc];exact hst,((hkp.set (by omega)).set (by omega)).app _,by dsimp only;omega,by dsimp only;omega⟩ (by dsimp only;omega) ?_
      exact Xv X0
  rw[List.take_of_length_le (by unfold T0;rw[List.length_map];omega)] at hL
  ((repeat' (first|refine Va X0 ?_|(refine Xi ?_ ?_<;>try intro ht)|exact Xx|fail)))
  refine hel _ _ rfl ?_;clear hnl hel Ql
  repeat (refine Xu ?_)
  refine Vb X0 ?_
  unfold retR
  simp only[resW,retV]
  simp (disch:=omega) only[Ac,↓Pc,simprocAttr]
  refine⟨.ptr (os.length+1) 0 0,ob,⟨os.length+1,ai,bi,D,E,rfl,hL.swap.sub ?_,hkp⟩,RetOK_all rfl hkp.len rfl⟩
  simp only[List.mem_cons,List.not_mem_nil,or_false];intro b hb;rcases hb with rfl | rfl | rfl<;>simp
end T

