import Derived.Test.YtkefbbedaaceaaaM10
set_option linter.unusedVariables false
set_option linter.unusedSimpArgs false
set_option linter.unnecessarySimpa false
open Go Go.Am Go.Proofs
open Nat (reduceEqDiff reduceAdd reduceLeDiff reduceMul)
open Int (reduceNeg reduceLE reduceToNat)
set_option maxRecDepth 20000
namespace T
set_option maxHeartbeats 8000000 in
theorem entries_ok {m:Mdl} (hm:VM m) {gi ai bi:Nat} {D E:List (Nat × Nat)} {S T:List (List Nm)} {os:List Ob} (h:LO eNm (GB m gi ai bi D E) D E S T os) {B:Int} (hg:LG m B (S,T)) {left:List (List Bool)} (hf:FitsP m left) (c:Nat) (hc:c<m.prs.length) :
    HoldsR Try.prog 77 [.ptr gi 0 0,.lit (.int .i64 c),.tree 1 (rowsOf eBs left)] os fun r ob=>Keep os ob∧∃ id,r=.ref id 2 0 (optsV (T.getD c default) (prB m left c)).length∧ob[id]?=some (.arr 2 (rowsOf eNm (optsV (T.getD c default) (prB m left c)))):=by
  obtain ⟨fg,fa,fb⟩:=GBf h
  have eg:=oLo fg
  have ea:=oLo fa
  have eb:=oLo fb
  have hD:=h.rD.len
  have hE:=h.rE.len
  have hs1:S.length=m.cls.length:=hg.s
  have ht1:T.length=m.prs.length:=hg.t
  have hc4:=hm.cls
  have hp4:=hm.prs
  have hfl:=hf.1
  obtain ⟨rE1,rE2⟩:=h.rE.row c (by omega)
  have hTl:(T.getD c default).length=(m.prs.getD c default).tab.length:=hg.tl c hc
  have hpb:=prsL_mem hm.pr _ (getD_mem (d:=default) hc)
  obtain ⟨pb1,pb2,pb3,pb4⟩:=pairB_in hpb
  have htl:=pairB_tab hpb hm
  have hla:=hf.2 (m.prs.getD c default).fst.toNat (by omega)
  have hlb:=hf.2 (m.prs.getD c default).snd.toNat (by omega)
  have hoa:=hm.opt _ (getD_mem (l:=m.cls) (i:=(m.prs.getD c default).fst.toNat) (d:=default) (by omega))
  have hob:=hm.opt _ (getD_mem (l:=m.cls) (i:=(m.prs.getD c default).snd.toNat) (d:=default) (by omega))
  obtain ⟨rP1,rP2⟩:=h.rD.row (m.prs.getD c default).snd.toNat (by omega)
  have hPl:(S.getD (m.prs.getD c default).snd.toNat default).length=(m.cls.getD (m.prs.getD c default).snd.toNat default).length:=hg.sl _ (by omega)
  have hprB:prB m left c=bothV (left.getD (m.prs.getD c default).fst.toNat default) (left.getD (m.prs.getD c default).snd.toNat default):=rfl
  have hbl:=bothV_len (left.getD (m.prs.getD c default).snd.toNat default) (left.getD (m.prs.getD c default).fst.toNat default)
  have hbg:=bothV_get (left.getD (m.prs.getD c default).snd.toNat default) (left.getD (m.prs.getD c default).fst.toNat default)
  rw[← hprB] at hbl hbg
  generalize hrow:T.getD c default=row at *
  generalize hpp:m.prs.getD c default=p at *
  generalize hLA:left.getD p.fst.toNat default=la at *
  generalize hLB:left.getD p.snd.toNat default=lb at *
  generalize prB m left c=pb at *
  have hwid:(D.getD p.snd.toNat default).2=lb.length:=by rw[← rP2,hPl,hlb]
  have hel2:row.length=pb.length:=by
    rw[hbl,hla,hlb,hTl]
    have:=pb4
    rw[← Int.natCast_mul] at this
    exact Int.ofNat_inj.1 this
  have hdl:(E.getD c default).2=row.length:=rE2.symm
  have qp:=oLo rP1
  have qe:=oLo rE1
  refine HoldsR.of_body' (fn:=Try.f77) 70 os.length [.tmp 6] Try.func77 rfl rfl rfl rfl rfl (by simp) ?_
  repeat' (first|((first|((first|refine rr ?_|refine rre ?_);intro K hK)|with_reducible refine gO ?_);simp (disch:=omega) only[Ac,↓Pc,↓reduceIte,reduceCtorEq,reduceEqDiff,Nat.reduceBEq,reduceAdd,Nat.reduceLT,reduceLeDiff,reduceMul,reduceNeg,Int.reduceLT,reduceLE,reduceToNat,fg,fa,fb,eg,ea,eb,gC,rP1,qp,rE1,qe,eRf,hpp,ePr,Oc2,hwid,hdl])|(refine hK _ ?_;clear hK K)|(with_reducible refine gS (fun hb'=>?_) (fun hb'=>?_)<;>(have hb:=hb';(try simp only[DEc,reduceCtorEq] at hb);simp (disch:=omega) only[Ac,↓Pc,↓reduceIte,reduceCtorEq,reduceEqDiff,Nat.reduceBEq,reduceAdd,Nat.reduceLT,reduceLeDiff,reduceMul,reduceNeg,Int.reduceLT,reduceLE,reduceToNat,fg,fa,fb,eg,ea,eb,gC,rP1,qp,rE1,qe,eRf,hpp,ePr,Oc2,hwid,hdl,hb'];clear hb'))|(refine Wc (fun ht=>?_) (fun ht=>?_)<;>(try simp only[DEc,reduceCtorEq] at ht))|refine Wz rfl ?_|(refine Wb ?_;intro Qb hnb hxb heb)|(refine Wk ?_;intro Q hn he)|((first|refine hn _ ?_|refine he _ _ rfl ?_);clear hn he;try clear Q)|((first|refine hnb _ ?_|refine hxb _ ?_|refine heb _ _ rfl ?_);clear hnb hxb heb;try clear Qb)|(refine hel _ _ rfl ?_;clear hnl hel;try clear Ql)|(simp only[Qc,Kc,↓reduceIte,reduceEqDiff,Nat.reduceBEq])|with_reducible refine And.intro ?_ ?_|omega|with_reducible rfl)
  all_goals try (exfalso;omega)
  refine W_loopS (fun z:Nat × List Ob × Nat × List Nm=>(⟨slots [(2,.tree 1 (rowsOf eBs left)),(7,.ptr os.length 0 0),(8,.lit (.int .i64 lb.length)),(9,.ref z.2.2.1 2 0 z.2.2.2.length),(35,.ref (E.getD c default).1 2 0 row.length),(36,.lit (.int .i64 row.length)),(37,.lit (.int .i64 z.1))],z.2.1⟩:St))
    (fun z=>z.1≤row.length∧Keep (os++[.var (ePr p)]) z.2.1∧z.2.1[z.2.2.1]?=some (.arr 2 (rowsOf eNm z.2.2.2))∧os.length<z.2.2.1∧z.2.2.2=optsV (row.take z.1) (pb.take z.1)∧z.2.2.2.length≤z.1)
    (fun z=>row.length - z.1) (0,(os++[.var (ePr p)])++[.arr 2 []],(os++[Ob.var (ePr p)]).length,[]) ⟨Nat.zero_le _,(Keep.refl _).app _,oL0 _ _ _,by simp,rfl,Nat.le_refl _⟩ ?_ ?_
  · refine Turns.trans (Turns.nil 9 2 (by simp only[Kc,↓reduceIte,reduceEqDiff,Nat.reduceBEq]) (by decide)) ?_
    (refine Turns.slots _ _ rfl ?_;simp only[Tc,↓reduceIte,reduceEqDiff,Nat.reduceBEq,reduceAdd,hdl,hwid];try trivial)
  rintro ⟨i,ob,ti,xs⟩ ⟨hi,hkp,fti,hti,hxs,hxl⟩ Ql hnl hel
  dsimp only at hi hkp fti hti hxs hxl ⊢
  have r1:=hkp _ _ (qe [.var (ePr p)])
  have rv:ob[os.length]?=some (.var (ePr p)):=hkp _ _ (oL0 _ _ _)
  have er1:=oLo r1
  have erv:=oLo rv
  have eti:=oLo fti
  have sti:=oSo fti
  have htl2:=(List.getElem?_eq_some_iff.1 fti).1
  have hkl:=hkp.len
  rw[List.length_append,List.length_singleton] at hkl
  by_cases hi':i<row.length
  · have h1:=take_snoc hi'
    have h2:=take_snoc (l:=pb) (k:=i) (by omega)
    have h3:=optsV_snoc (row.getD i default) (pb.getD i default) (row.take i) (pb.take i) (by rw[List.length_take,List.length_take];omega)
    rw[← h1,← h2,← hxs] at h3
    have hsd:pb.getD i default=(la.getD (i / lb.length) false && lb.getD (i % lb.length) false):=hbg i (by omega)
    rw[hsd] at h3
    have hlb0:0<lb.length:=by
      rcases Nat.eq_zero_or_pos lb.length with h0 | h0
      · rw[h0,Nat.mul_zero] at hbl;omega
      · exact h0
    have hdiv:i / lb.length<la.length:=by rw[Nat.div_lt_iff_lt_mul hlb0];omega
    have hmod:=Nat.mod_lt i hlb0
    have hq:((i:Int).tdiv lb.length)=((i / lb.length:Nat):Int):=by rw[Int.tdiv_eq_ediv_of_nonneg (by omega)];simp
    have hr:((i:Int).tmod lb.length)=((i % lb.length:Nat):Int):=by rw[Int.tmod_eq_emod_of_nonneg (by omega)];simp
    have hq2:((i:Int) / (lb.length:Int))=((i / lb.length:Nat):Int):=by simp
    have hr2:((i:Int) % (lb.length:Int))=((i % lb.length:Nat):Int):=by simp
    generalize hdd:i / lb.length=dd at *
    generalize hmm:i % lb.length=mm at *
    generalize hpq:row.getD i default=q at *
    generalize hia:la.getD dd false=ia at *
    generalize hib:lb.getD mm false=ib at *
    have en1:rowsOf eNm xs++[[AV.lit (.int .i64 q.1),.lit (.bool q.2)]]=rowsOf eNm (xs++[q]):=by simp[rowsOf,eNm]
    cases ia<;>cases ib
    all_goals
      simp only[Bool.false_and,Bool.true_and,Bool.false_eq_true,if_false,if_true,List.append_nil] at h3
      repeat' (first|((first|((first|refine rr ?_|refine rre ?_);intro K hK)|with_reducible refine gO ?_);simp (disch:=omega) only[Ac,↓Pc,↓reduceIte,reduceCtorEq,reduceEqDiff,Nat.reduceBEq,reduceAdd,Nat.reduceLT,reduceLeDiff,reduceMul,reduceNeg,Int.reduceLT,reduceLE,reduceToNat,r1,er1,rv,erv,fti,eti,sti,eNm,ePr,hpq,hLA,hLB,hq,hr,hq2,hr2,hia,hib,eBs,en1,Oc2,Int.toNat_natCast,List.append_assoc,List.length_append,List.length_set])|(refine hK _ ?_;clear hK K)|(with_reducible refine gS (fun hb'=>?_) (fun hb'=>?_)<;>(have hb:=hb';(try simp only[DEc,reduceCtorEq] at hb);simp (disch:=omega) only[Ac,↓Pc,↓reduceIte,reduceCtorEq,reduceEqDiff,Nat.reduceBEq,reduceAdd,Nat.reduceLT,reduceLeDiff,reduceMul,reduceNeg,Int.reduceLT,reduceLE,reduceToNat,r1,er1,rv,erv,fti,eti,sti,eNm,ePr,hpq,hLA,hLB,hq,hr,hq2,hr2,hia,hib,eBs,en1,Oc2,Int.toNat_natCast,List.append_assoc,List.length_append,List.length_set,hb'];clear hb'))|(refine Wc (fun ht=>?_) (fun ht=>?_)<;>(try simp only[DEc,reduceCtorEq] at ht))|refine Wz rfl ?_|(refine Wb ?_;intro Qb hnb hxb heb)|(refine Wk ?_;intro Q hn he)|((first|refine hn _ ?_|refine he _ _ rfl ?_);clear hn he;try clear Q)|((first|refine hnb _ ?_|refine hxb _ ?_|refine heb _ _ rfl ?_);clear hnb hxb heb;try clear Qb)|(simp only[Qc,Kc,↓reduceIte,reduceEqDiff,Nat.reduceBEq])|with_reducible refine And.intro ?_ ?_|omega|with_reducible rfl)
      all_goals try (exfalso;omega)
    all_goals first
      | (refine hnl _ (i+1,ob++[.var (eNm q)],ti,xs) ⟨by dsimp only;omega,hkp.app _,eti _,hti,h3.symm,by dsimp only;omega⟩ (by dsimp only;omega) ?_
         (refine Turns.slots _ _ rfl ?_;simp only[Tc,↓reduceIte,reduceEqDiff,Nat.reduceBEq,reduceAdd,eNm];try trivial);done)
      | (refine hnl _ (i+1,ob.set ti .gone++[.var (eNm q),.arr 2 [eNm q],.arr 2 (rowsOf eNm (xs++[q]))],ob.length+2,xs++[q]) ⟨by dsimp only;omega,(hkp.set (by rw[List.length_append,List.length_singleton];omega)).app _,oLs _ _ _ _ _,by dsimp only;omega,h3.symm,by simp;omega⟩ (by dsimp only;omega) ?_
         (refine Turns.slots _ _ rfl ?_;simp only[Tc,↓reduceIte,reduceEqDiff,Nat.reduceBEq,reduceAdd,eNm];try trivial);done)
  · rw[List.take_of_length_le (by omega),List.take_of_length_le (by omega)] at hxs
    repeat' (first|((first|((first|refine rr ?_|refine rre ?_);intro K hK)|with_reducible refine gO ?_);simp (disch:=omega) only[Ac,↓Pc,↓reduceIte,reduceCtorEq,reduceEqDiff,Nat.reduceBEq,reduceAdd,Nat.reduceLT,reduceLeDiff,reduceMul,reduceNeg,Int.reduceLT,reduceLE,reduceToNat])|(refine hK _ ?_;clear hK K)|(with_reducible refine gS (fun hb'=>?_) (fun hb'=>?_)<;>(have hb:=hb';(try simp only[DEc,reduceCtorEq] at hb);simp (disch:=omega) only[Ac,↓Pc,↓reduceIte,reduceCtorEq,reduceEqDiff,Nat.reduceBEq,reduceAdd,Nat.reduceLT,reduceLeDiff,reduceMul,reduceNeg,Int.reduceLT,reduceLE,reduceToNat,hb'];clear hb'))|(refine Wc (fun ht=>?_) (fun ht=>?_)<;>(try simp only[DEc,reduceCtorEq] at ht))|refine Wz rfl ?_|(refine Wb ?_;intro Qb hnb hxb heb)|(refine Wk ?_;intro Q hn he)|((first|refine hn _ ?_|refine he _ _ rfl ?_);clear hn he;try clear Q)|((first|refine hnb _ ?_|refine hxb _ ?_|refine heb _ _ rfl ?_);clear hnb hxb heb;try clear Qb)|(simp only[Qc,Kc,↓reduceIte,reduceEqDiff,Nat.reduceBEq])|with_reducible refine And.intro ?_ ?_|omega|with_reducible rfl)
    refine hel _ _ rfl ?_;clear hnl hel Ql
    repeat (first|((first|refine hn _ ?_|refine he _ _ rfl ?_);clear hn he;try clear Q)|((first|refine hnb _ ?_|refine hxb _ ?_|refine heb _ _ rfl ?_);clear hnb hxb heb;try clear Qb)|(refine hel _ _ rfl ?_;clear hnl hel;try clear Ql))
    repeat' (first|((first|((first|refine rr ?_|refine rre ?_);intro K hK)|with_reducible refine gO ?_);simp (disch:=omega) only[Ac,↓Pc,↓reduceIte,reduceCtorEq,reduceEqDiff,Nat.reduceBEq,reduceAdd,Nat.reduceLT,reduceLeDiff,reduceMul,reduceNeg,Int.reduceLT,reduceLE,reduceToNat])|(refine hK _ ?_;clear hK K)|(with_reducible refine gS (fun hb'=>?_) (fun hb'=>?_)<;>(have hb:=hb';(try simp only[DEc,reduceCtorEq] at hb);simp (disch:=omega) only[Ac,↓Pc,↓reduceIte,reduceCtorEq,reduceEqDiff,Nat.reduceBEq,reduceAdd,Nat.reduceLT,reduceLeDiff,reduceMul,reduceNeg,Int.reduceLT,reduceLE,reduceToNat,hb'];clear hb'))|(refine Wc (fun ht=>?_) (fun ht=>?_)<;>(try simp only[DEc,reduceCtorEq] at ht))|refine Wz rfl ?_|(refine Wb ?_;intro Qb hnb hxb heb)|(refine Wk ?_;intro Q hn he)|((first|refine hn _ ?_|refine he _ _ rfl ?_);clear hn he;try clear Q)|((first|refine hnb _ ?_|refine hxb _ ?_|refine heb _ _ rfl ?_);clear hnb hxb heb;try clear Qb)|(refine hel _ _ rfl ?_;clear hnl hel;try clear Ql)|(simp only[Qc,Kc,↓reduceIte,reduceEqDiff,Nat.reduceBEq])|with_reducible refine And.intro ?_ ?_|omega|with_reducible rfl)
    unfold retR
    simp only[resW,retV]
    simp (disch:=omega) only[Ac,↓Pc,↓reduceIte,reduceCtorEq,reduceEqDiff,Nat.reduceBEq,reduceAdd,Nat.reduceLT,reduceLeDiff,reduceMul,reduceNeg,Int.reduceLT,reduceLE,reduceToNat]
    rw[← hxs]
    refine⟨_,ob,⟨fun k o hk=>hkp k o (oLo hk _),ti,rfl,fti⟩,RetOK_all rfl (by omega) rfl⟩
end T

