import Derived.Test.YtkmfgcbdnijgeaaGreatX25
import Derived.Test.YtkmfgcbdnijgeaaGreatX19
set_option linter.unusedVariables false
set_option linter.unusedSimpArgs false
set_option linter.unnecessarySimpa false
set_option linter.unusedSectionVars false
set_option maxHeartbeats 64000000
set_option maxRecDepth 20000
open Go Go.Am Go.Proofs
open Nat (reduceEqDiff reduceAdd reduceLeDiff reduceMul)
open Int (reduceNeg reduceLE reduceToNat)
namespace T
theorem options_ok {m:Mdl} (hm:VM m) {gi ai bi:Nat} {D E:List (Nat × Nat)} {S T:List (List Nm)} {os:List Ob} (h:LO eNm (GB m gi ai bi D E) D E S T os) {B:Int} (hg:LG m B (S,T)) {left:List (List Bool)} (hf:FitsP m left) (c:Nat) (hc:c<m.cls.length) :
    HoldsR Tryz.prog 134 [.ptr gi 0 0,.lit (.int .i64 c),.tree 1 (rowsOf eBs left)] os fun r ob=>Keep os ob∧∃ id,r=.ref id 2 0 (optsV (S.getD c default) (left.getD c default)).length∧ob[id]?=some (.arr 2 (rowsOf eNm (optsV (S.getD c default) (left.getD c default)))):=by
  obtain ⟨fg,fa,fb⟩:=GBf h
  have hD:=h.rD.len
  have hs1:S.length=m.cls.length:=hg.s
  have hc4:=hm.cls
  have hfl:=hf.1
  obtain ⟨rD1,rD2⟩:=h.rD.row c (by omega)
  have hSl:(S.getD c default).length=(m.cls.getD c default).length:=hg.sl c hc
  have hll:=hf.2 c (by omega)
  have ho24:=hm.opt _ (getD_mem (l:=m.cls) (i:=c) (d:=default) hc)
  generalize hrow:S.getD c default=row at *
  generalize hlc:left.getD c default=lc at *
  refine HoldsR.of_body' (fn:=Tryz.f134) 36 os.length [.tmp 6] Tryz.func134 rfl rfl rfl rfl rfl (by simp) ?_
  refine Vb (X5 @fg @fa @gC.eq_1 @rD1 @eRf.eq_1) ?_
  have hdl:(D.getD c default).2=row.length:=rD2.symm
  refine W_loopS (fun z:Nat × List Ob × Nat × List Nm=>(⟨slots [(1,.lit (.int .i64 c)),(2,.tree 1 (rowsOf eBs left)),(7,.ref z.2.2.1 2 0 z.2.2.2.length),(16,.ref (D.getD c default).1 2 0 row.length),(17,.lit (.int .i64 row.length)),(18,.lit (.int .i64 z.1))],z.2.1⟩:St))
    (fun z=>z.1≤row.length∧Keep os z.2.1∧z.2.1[z.2.2.1]?=some (.arr 2 (rowsOf eNm z.2.2.2))∧os.length≤z.2.2.1∧z.2.2.2=optsV (row.take z.1) (lc.take z.1)∧z.2.2.2.length≤z.1)
    (fun z=>row.length - z.1) (0,os++[.arr 2 []],os.length,[]) ⟨Nat.zero_le _,(Keep.refl os).app _,oL0 _ _ _,Nat.le_refl _,rfl,Nat.le_refl _⟩ ?_ ?_
  · refine Turns.trans (Turns.nil 7 2 (by simp only[Kc,simprocAttr]) (by decide)) ?_
    exact Xv @hdl
  rintro ⟨i,ob,ti,xs⟩ ⟨hi,hkp,fti,hti,hxs,hxl⟩ Ql hnl hel
  dsimp only at hi hkp fti hti hxs hxl ⊢
  have r1:=hkp _ _ rD1
  have er1:=oLo r1
  have eti:=oLo fti
  have sti:=oSo fti
  have htl:=(List.getElem?_eq_some_iff.1 fti).1
  by_cases hi':i<row.length
  · have h1:=take_snoc hi'
    have h2:=take_snoc (l:=lc) (k:=i) (by omega)
    have h3:=optsV_snoc (row.getD i default) (lc.getD i default) (row.take i) (lc.take i) (by rw[List.length_take,List.length_take];omega)
    rw[← h1,← h2,← hxs] at h3
    have hsd:lc.getD i default=lc.getD i false:=rfl
    rw[hsd] at h3
    generalize hpp:row.getD i default=p at *
    generalize hss:lc.getD i false=is at *
    cases is
    · simp only[Bool.false_eq_true,if_false,List.append_nil] at h3
      ((repeat' (first|refine Va (X5 @r1 @er1 @eNm.eq_1 @hpp (X4 @hlc @hss @eBs.eq_1 @Oc2)) ?_|(refine Xi ?_ ?_<;>try intro ht)|exact Xx|fail)))
      refine hnl _ (i+1,ob++[.var (eNm p)],ti,xs) ⟨by dsimp only;omega,hkp.app _,eti _,hti,h3.symm,by dsimp only;omega⟩ (by dsimp only;omega) ?_
      exact Xv X0
    · simp only[if_true] at h3
      have en1:rowsOf eNm xs++[[AV.lit (.int .i64 p.1),.lit (.bool p.2)]]=rowsOf eNm (xs++[p]):=by simp[rowsOf,eNm]
      ((repeat' (first|refine Va (X5 @r1 @er1 @fti @eti (X5 @sti @eNm.eq_1 @hpp @hlc (X5 @hss @eBs.eq_1 @en1 @Oc2 (X3 @List.append_assoc.{0} @List.length_append.{0} @List.length_set.{0})))) ?_|(refine Xi ?_ ?_<;>try intro ht)|exact Xx|fail)))
      refine hnl _ (i+1,ob.set ti .gone++[.var (eNm p),.arr 2 [eNm p],.arr 2 (rowsOf eNm (xs++[p]))],ob.length+2,xs++[p]) ⟨by dsimp only;omega,(hkp.set hti).app _,oLs _ _ _ _ _,by dsimp only;have:=hkp.len;omega,h3.symm,by simp;omega⟩ (by dsimp only;omega) ?_
      exact Xv @eNm.eq_1
  · rw[List.take_of_length_le (by omega),List.take_of_length_le (by omega)] at hxs
    ((repeat' (first|refine Va X0 ?_|(refine Xi ?_ ?_<;>try intro ht)|exact Xx|fail)))
    refine hel _ _ rfl ?_;clear hnl hel Ql
    repeat (refine Xu ?_)
    refine Vb X0 ?_
    unfold retR
    simp only[resW,retV]
    simp (disch:=omega) only[Ac,↓Pc,simprocAttr]
    rw[← hxs]
    exact⟨_,_,⟨hkp,ti,rfl,fti⟩,RetOK_all rfl hkp.len rfl⟩
theorem entries_ok {m:Mdl} (hm:VM m) {gi ai bi:Nat} {D E:List (Nat × Nat)} {S T:List (List Nm)} {os:List Ob} (h:LO eNm (GB m gi ai bi D E) D E S T os) {B:Int} (hg:LG m B (S,T)) {left:List (List Bool)} (hf:FitsP m left) (c:Nat) (hc:c<m.prs.length) :
    HoldsR Tryz.prog 135 [.ptr gi 0 0,.lit (.int .i64 c),.tree 1 (rowsOf eBs left)] os fun r ob=>Keep os ob∧∃ id,r=.ref id 2 0 (optsV (T.getD c default) (prB m left c)).length∧ob[id]?=some (.arr 2 (rowsOf eNm (optsV (T.getD c default) (prB m left c)))):=by
  obtain ⟨fg,fa,fb⟩:=GBf h
  have eg:=oLo fg
  have ea:=oLo fa
  have eb:=oLo fb
  have hD:=h.rD.len
  have hE:=h.rE.len
  have hs1:S.length=m.cls.length:=hg.s
  have ht1:T.length=m.prs.length:=hg.t
  have hc4:=hm.cls
  have hp4:=hm.prs
  have hfl:=hf.1
  obtain ⟨rE1,rE2⟩:=h.rE.row c (by omega)
  have hTl:(T.getD c default).length=(m.prs.getD c default).tab.length:=hg.tl c hc
  have hpb:=prsL_mem hm.pr _ (getD_mem (d:=default) hc)
  obtain ⟨pb1,pb2,pb3,pb4⟩:=pairB_in hpb
  have htl:=pairB_tab hpb hm
  have hla:=hf.2 (m.prs.getD c default).fst.toNat (by omega)
  have hlb:=hf.2 (m.prs.getD c default).snd.toNat (by omega)
  have hoa:=hm.opt _ (getD_mem (l:=m.cls) (i:=(m.prs.getD c default).fst.toNat) (d:=default) (by omega))
  have hob:=hm.opt _ (getD_mem (l:=m.cls) (i:=(m.prs.getD c default).snd.toNat) (d:=default) (by omega))
  obtain ⟨rP1,rP2⟩:=h.rD.row (m.prs.getD c default).snd.toNat (by omega)
  have hPl:(S.getD (m.prs.getD c default).snd.toNat default).length=(m.cls.getD (m.prs.getD c default).snd.toNat default).length:=hg.sl _ (by omega)
  have hprB:prB m left c=bothV (left.getD (m.prs.getD c default).fst.toNat default) (left.getD (m.prs.getD c default).snd.toNat default):=rfl
  have hbl:=bothV_len (left.getD (m.prs.getD c default).snd.toNat default) (left.getD (m.prs.getD c default).fst.toNat default)
  have hbg:=bothV_get (left.getD (m.prs.getD c default).snd.toNat default) (left.getD (m.prs.getD c default).fst.toNat default)
  rw[← hprB] at hbl hbg
  generalize hrow:T.getD c default=row at *
  generalize hpp:m.prs.getD c default=p at *
  generalize hLA:left.getD p.fst.toNat default=la at *
  generalize hLB:left.getD p.snd.toNat default=lb at *
  generalize prB m left c=pb at *
  have hwid:(D.getD p.snd.toNat default).2=lb.length:=by rw[← rP2,hPl,hlb]
  have hel2:row.length=pb.length:=by
    rw[hbl,hla,hlb,hTl]
    have:=pb4
    rw[← Int.natCast_mul] at this
    exact Int.ofNat_inj.1 this
  have hdl:(E.getD c default).2=row.length:=rE2.symm
  have qp:=oLo rP1
  have qe:=oLo rE1
  refine HoldsR.of_body' (fn:=Tryz.f135) 70 os.length [.tmp 6] Tryz.func135 rfl rfl rfl rfl rfl (by simp) ?_
  (((refine Vb (X5 @fg @fa @fb @eg (X5 @ea @eb @gC.eq_1 @rP1 (X5 @qp @rE1 @qe @eRf.eq_1 (X5 @hpp @ePr.eq_1 @Oc2 @hwid @hdl)))) ?_)))
  refine W_loopS (fun z:Nat × List Ob × Nat × List Nm=>(⟨slots [(2,.tree 1 (rowsOf eBs left)),(7,.ptr os.length 0 0),(8,.lit (.int .i64 lb.length)),(9,.ref z.2.2.1 2 0 z.2.2.2.length),(35,.ref (E.getD c default).1 2 0 row.length),(36,.lit (.int .i64 row.length)),(37,.lit (.int .i64 z.1))],z.2.1⟩:St))
    (fun z=>z.1≤row.length∧Keep (os++[.var (ePr p)]) z.2.1∧z.2.1[z.2.2.1]?=some (.arr 2 (rowsOf eNm z.2.2.2))∧os.length<z.2.2.1∧z.2.2.2=optsV (row.take z.1) (pb.take z.1)∧z.2.2.2.length≤z.1)
    (fun z=>row.length - z.1) (0,(os++[.var (ePr p)])++[.arr 2 []],(os++[Ob.var (ePr p)]).length,[]) ⟨Nat.zero_le _,(Keep.refl _).app _,oL0 _ _ _,by simp,rfl,Nat.le_refl _⟩ ?_ ?_
  · refine Turns.trans (Turns.nil 9 2 (by simp only[Kc,simprocAttr]) (by decide)) ?_
    exact Xv (X2 @hdl @hwid)
  rintro ⟨i,ob,ti,xs⟩ ⟨hi,hkp,fti,hti,hxs,hxl⟩ Ql hnl hel
  dsimp only at hi hkp fti hti hxs hxl ⊢
  have r1:=hkp _ _ (qe [.var (ePr p)])
  have rv:ob[os.length]?=some (.var (ePr p)):=hkp _ _ (oL0 _ _ _)
  have er1:=oLo r1
  have erv:=oLo rv
  have eti:=oLo fti
  have sti:=oSo fti
  have htl2:=(List.getElem?_eq_some_iff.1 fti).1
  have hkl:=hkp.len
  rw[List.length_append,List.length_singleton] at hkl
  by_cases hi':i<row.length
  · have h1:=take_snoc hi'
    have h2:=take_snoc (l:=pb) (k:=i) (by omega)
    have h3:=optsV_snoc (row.getD i default) (pb.getD i default) (row.take i) (pb.take i) (by rw[List.length_take,List.length_take];omega)
    rw[← h1,← h2,← hxs] at h3
    have hsd:pb.getD i default=(la.getD (i / lb.length) false && lb.getD (i % lb.length) false):=hbg i (by omega)
    rw[hsd] at h3
    have hlb0:0<lb.length:=by
      rcases Nat.eq_zero_or_pos lb.length with h0 | h0
      · rw[h0,Nat.mul_zero] at hbl;omega
      · exact h0
    have hdiv:i / lb.length<la.length:=by rw[Nat.div_lt_iff_lt_mul hlb0];omega
    have hmod:=Nat.mod_lt i hlb0
    have hq:((i:Int).tdiv lb.length)=((i / lb.length:Nat):Int):=by rw[Int.tdiv_eq_ediv_of_nonneg (by omega)];simp
    have hr:((i:Int).tmod lb.length)=((i % lb.length:Nat):Int):=by rw[Int.tmod_eq_emod_of_nonneg (by omega)];simp
    have hq2:((i:Int) / (lb.length:Int))=((i / lb.length:Nat):Int):=by simp
    have hr2:((i:Int) % (lb.length:Int))=((i % lb.length:Nat):Int):=by simp
    generalize hdd:i / lb.length=dd at *
    generalize hmm:i % lb.length=mm at *
    generalize hpq:row.getD i default=q at *
    generalize hia:la.getD dd false=ia at *
    generalize hib:lb.getD mm false=ib at *
    have en1:rowsOf eNm xs++[[AV.lit (.int .i64 q.1),.lit (.bool q.2)]]=rowsOf eNm (xs++[q]):=by simp[rowsOf,eNm]
    cases ia<;>cases ib
    all_goals
      simp only[Bool.false_and,Bool.true_and,Bool.false_eq_true,if_false,if_true,List.append_nil] at h3
      ((repeat' (first|refine Va (X5 @r1 @er1 @rv @erv (X5 @fti @eti @sti @eNm.eq_1 (X5 @ePr.eq_1 @hpq @hLA @hLB (X5 @hq @hr @hq2 @hr2 (X5 @hia @hib @eBs.eq_1 @en1 (X5 @Oc2 @Int.toNat_natCast @List.append_assoc.{0} @List.length_append.{0} @List.length_set.{0})))))) ?_|(refine Xi ?_ ?_<;>try intro ht)|exact Xx|fail)))
    all_goals first
      | (refine hnl _ (i+1,ob++[.var (eNm q)],ti,xs) ⟨by dsimp only;omega,hkp.app _,eti _,hti,h3.symm,by dsimp only;omega⟩ (by dsimp only;omega) ?_
         exact Xv @eNm.eq_1;done)
      | (refine hnl _ (i+1,ob.set ti .gone++[.var (eNm q),.arr 2 [eNm q],.arr 2 (rowsOf eNm (xs++[q]))],ob.length+2,xs++[q]) ⟨by dsimp only;omega,(hkp.set (by rw[List.length_append,List.length_singleton];omega)).app _,oLs _ _ _ _ _,by dsimp only;omega,h3.symm,by simp;omega⟩ (by dsimp only;omega) ?_
         exact Xv @eNm.eq_1;done)
  · rw[List.take_of_length_le (by omega),List.take_of_length_le (by omega)] at hxs
    ((repeat' (first|refine Va X0 ?_|(refine Xi ?_ ?_<;>try intro ht)|exact Xx|fail)))
    refine hel _ _ rfl ?_;clear hnl hel Ql
    repeat (refine Xu ?_)
    refine Vb X0 ?_
    unfold retR
    simp only[resW,retV]
    simp (disch:=omega) only[Ac,↓Pc,simprocAttr]
    rw[← hxs]
    refine⟨_,ob,⟨fun k o hk=>hkp k o (oLo hk _),ti,rfl,fti⟩,RetOK_all rfl (by omega) rfl⟩
end T

