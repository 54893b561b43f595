import Derived.Test.YtkefbbedaaceaaaM8
import Derived.Test.YtkefbbedaaceaaaSM
set_option linter.unusedVariables false
set_option linter.unusedSimpArgs false
set_option linter.unnecessarySimpa false
open Go Go.Am Go.Proofs
open Nat (reduceEqDiff reduceAdd reduceLeDiff reduceMul)
open Int (reduceNeg reduceLE reduceToNat)
set_option maxRecDepth 20000
namespace T
set_option maxHeartbeats 8000000 in
theorem options_ok {m:Mdl} (hm:VM m) {gi ai bi:Nat} {D E:List (Nat × Nat)} {S T:List (List Nm)} {os:List Ob} (h:LO eNm (GB m gi ai bi D E) D E S T os) {B:Int} (hg:LG m B (S,T)) {left:List (List Bool)} (hf:FitsP m left) (c:Nat) (hc:c<m.cls.length) :
    HoldsR Try.prog 76 [.ptr gi 0 0,.lit (.int .i64 c),.tree 1 (rowsOf eBs left)] os fun r ob=>Keep os ob∧∃ id,r=.ref id 2 0 (optsV (S.getD c default) (left.getD c default)).length∧ob[id]?=some (.arr 2 (rowsOf eNm (optsV (S.getD c default) (left.getD c default)))):=by
  obtain ⟨fg,fa,fb⟩:=GBf h
  have hD:=h.rD.len
  have hs1:S.length=m.cls.length:=hg.s
  have hc4:=hm.cls
  have hfl:=hf.1
  obtain ⟨rD1,rD2⟩:=h.rD.row c (by omega)
  have hSl:(S.getD c default).length=(m.cls.getD c default).length:=hg.sl c hc
  have hll:=hf.2 c (by omega)
  have ho24:=hm.opt _ (getD_mem (l:=m.cls) (i:=c) (d:=default) hc)
  generalize hrow:S.getD c default=row at *
  generalize hlc:left.getD c default=lc at *
  refine HoldsR.of_body' (fn:=Try.f76) 36 os.length [.tmp 6] Try.func76 rfl rfl rfl rfl rfl (by simp) ?_
  repeat' (first|((first|((first|refine rr ?_|refine rre ?_);intro K hK)|with_reducible refine gO ?_);simp (disch:=omega) only[Ac,↓Pc,↓reduceIte,reduceCtorEq,reduceEqDiff,Nat.reduceBEq,reduceAdd,Nat.reduceLT,reduceLeDiff,reduceMul,reduceNeg,Int.reduceLT,reduceLE,reduceToNat,fg,fa,gC,rD1,eRf])|(refine hK _ ?_;clear hK K)|(with_reducible refine gS (fun hb'=>?_) (fun hb'=>?_)<;>(have hb:=hb';(try simp only[DEc,reduceCtorEq] at hb);simp (disch:=omega) only[Ac,↓Pc,↓reduceIte,reduceCtorEq,reduceEqDiff,Nat.reduceBEq,reduceAdd,Nat.reduceLT,reduceLeDiff,reduceMul,reduceNeg,Int.reduceLT,reduceLE,reduceToNat,fg,fa,gC,rD1,eRf,hb'];clear hb'))|(refine Wc (fun ht=>?_) (fun ht=>?_)<;>(try simp only[DEc,reduceCtorEq] at ht))|refine Wz rfl ?_|(refine Wb ?_;intro Qb hnb hxb heb)|(refine Wk ?_;intro Q hn he)|((first|refine hn _ ?_|refine he _ _ rfl ?_);clear hn he;try clear Q)|((first|refine hnb _ ?_|refine hxb _ ?_|refine heb _ _ rfl ?_);clear hnb hxb heb;try clear Qb)|(refine hel _ _ rfl ?_;clear hnl hel;try clear Ql)|(simp only[Qc,Kc,↓reduceIte,reduceEqDiff,Nat.reduceBEq])|with_reducible refine And.intro ?_ ?_|omega|with_reducible rfl)
  all_goals try (exfalso;omega)
  have hdl:(D.getD c default).2=row.length:=rD2.symm
  refine W_loopS (fun z:Nat × List Ob × Nat × List Nm=>(⟨slots [(1,.lit (.int .i64 c)),(2,.tree 1 (rowsOf eBs left)),(7,.ref z.2.2.1 2 0 z.2.2.2.length),(16,.ref (D.getD c default).1 2 0 row.length),(17,.lit (.int .i64 row.length)),(18,.lit (.int .i64 z.1))],z.2.1⟩:St))
    (fun z=>z.1≤row.length∧Keep os z.2.1∧z.2.1[z.2.2.1]?=some (.arr 2 (rowsOf eNm z.2.2.2))∧os.length≤z.2.2.1∧z.2.2.2=optsV (row.take z.1) (lc.take z.1)∧z.2.2.2.length≤z.1)
    (fun z=>row.length - z.1) (0,os++[.arr 2 []],os.length,[]) ⟨Nat.zero_le _,(Keep.refl os).app _,oL0 _ _ _,Nat.le_refl _,rfl,Nat.le_refl _⟩ ?_ ?_
  · refine Turns.trans (Turns.nil 7 2 (by simp only[Kc,↓reduceIte,reduceEqDiff,Nat.reduceBEq]) (by decide)) ?_
    (refine Turns.slots _ _ rfl ?_;simp only[Tc,↓reduceIte,reduceEqDiff,Nat.reduceBEq,reduceAdd,hdl];try trivial)
  rintro ⟨i,ob,ti,xs⟩ ⟨hi,hkp,fti,hti,hxs,hxl⟩ Ql hnl hel
  dsimp only at hi hkp fti hti hxs hxl ⊢
  have r1:=hkp _ _ rD1
  have er1:=oLo r1
  have eti:=oLo fti
  have sti:=oSo fti
  have htl:=(List.getElem?_eq_some_iff.1 fti).1
  by_cases hi':i<row.length
  · have h1:=take_snoc hi'
    have h2:=take_snoc (l:=lc) (k:=i) (by omega)
    have h3:=optsV_snoc (row.getD i default) (lc.getD i default) (row.take i) (lc.take i) (by rw[List.length_take,List.length_take];omega)
    rw[← h1,← h2,← hxs] at h3
    have hsd:lc.getD i default=lc.getD i false:=rfl
    rw[hsd] at h3
    generalize hpp:row.getD i default=p at *
    generalize hss:lc.getD i false=is at *
    cases is
    · simp only[Bool.false_eq_true,if_false,List.append_nil] at h3
      repeat' (first|((first|((first|refine rr ?_|refine rre ?_);intro K hK)|with_reducible refine gO ?_);simp (disch:=omega) only[Ac,↓Pc,↓reduceIte,reduceCtorEq,reduceEqDiff,Nat.reduceBEq,reduceAdd,Nat.reduceLT,reduceLeDiff,reduceMul,reduceNeg,Int.reduceLT,reduceLE,reduceToNat,r1,er1,eNm,hpp,hlc,hss,eBs,Oc2])|(refine hK _ ?_;clear hK K)|(with_reducible refine gS (fun hb'=>?_) (fun hb'=>?_)<;>(have hb:=hb';(try simp only[DEc,reduceCtorEq] at hb);simp (disch:=omega) only[Ac,↓Pc,↓reduceIte,reduceCtorEq,reduceEqDiff,Nat.reduceBEq,reduceAdd,Nat.reduceLT,reduceLeDiff,reduceMul,reduceNeg,Int.reduceLT,reduceLE,reduceToNat,r1,er1,eNm,hpp,hlc,hss,eBs,Oc2,hb'];clear hb'))|(refine Wc (fun ht=>?_) (fun ht=>?_)<;>(try simp only[DEc,reduceCtorEq] at ht))|refine Wz rfl ?_|(refine Wb ?_;intro Qb hnb hxb heb)|(refine Wk ?_;intro Q hn he)|((first|refine hn _ ?_|refine he _ _ rfl ?_);clear hn he;try clear Q)|((first|refine hnb _ ?_|refine hxb _ ?_|refine heb _ _ rfl ?_);clear hnb hxb heb;try clear Qb)|(simp only[Qc,Kc,↓reduceIte,reduceEqDiff,Nat.reduceBEq])|with_reducible refine And.intro ?_ ?_|omega|with_reducible rfl)
      all_goals try (exfalso;omega)
      refine hnl _ (i+1,ob++[.var (eNm p)],ti,xs) ⟨by dsimp only;omega,hkp.app _,eti _,hti,h3.symm,by dsimp only;omega⟩ (by dsimp only;omega) ?_
      (refine Turns.slots _ _ rfl ?_;simp only[Tc,↓reduceIte,reduceEqDiff,Nat.reduceBEq,reduceAdd];try trivial)
    · simp only[if_true] at h3
      have en1:rowsOf eNm xs++[[AV.lit (.int .i64 p.1),.lit (.bool p.2)]]=rowsOf eNm (xs++[p]):=by simp[rowsOf,eNm]
      repeat' (first|((first|((first|refine rr ?_|refine rre ?_);intro K hK)|with_reducible refine gO ?_);simp (disch:=omega) only[Ac,↓Pc,↓reduceIte,reduceCtorEq,reduceEqDiff,Nat.reduceBEq,reduceAdd,Nat.reduceLT,reduceLeDiff,reduceMul,reduceNeg,Int.reduceLT,reduceLE,reduceToNat,r1,er1,fti,eti,sti,eNm,hpp,hlc,hss,eBs,en1,Oc2,List.append_assoc,List.length_append,List.length_set])|(refine hK _ ?_;clear hK K)|(with_reducible refine gS (fun hb'=>?_) (fun hb'=>?_)<;>(have hb:=hb';(try simp only[DEc,reduceCtorEq] at hb);simp (disch:=omega) only[Ac,↓Pc,↓reduceIte,reduceCtorEq,reduceEqDiff,Nat.reduceBEq,reduceAdd,Nat.reduceLT,reduceLeDiff,reduceMul,reduceNeg,Int.reduceLT,reduceLE,reduceToNat,r1,er1,fti,eti,sti,eNm,hpp,hlc,hss,eBs,en1,Oc2,List.append_assoc,List.length_append,List.length_set,hb'];clear hb'))|(refine Wc (fun ht=>?_) (fun ht=>?_)<;>(try simp only[DEc,reduceCtorEq] at ht))|refine Wz rfl ?_|(refine Wb ?_;intro Qb hnb hxb heb)|(refine Wk ?_;intro Q hn he)|((first|refine hn _ ?_|refine he _ _ rfl ?_);clear hn he;try clear Q)|((first|refine hnb _ ?_|refine hxb _ ?_|refine heb _ _ rfl ?_);clear hnb hxb heb;try clear Qb)|(simp only[Qc,Kc,↓reduceIte,reduceEqDiff,Nat.reduceBEq])|with_reducible refine And.intro ?_ ?_|omega|with_reducible rfl)
      all_goals try (exfalso;omega)
      refine hnl _ (i+1,ob.set ti .gone++[.var (eNm p),.arr 2 [eNm p],.arr 2 (rowsOf eNm (xs++[p]))],ob.length+2,xs++[p]) ⟨by dsimp only;omega,(hkp.set hti).app _,oLs _ _ _ _ _,by dsimp only;have:=hkp.len;omega,h3.symm,by simp;omega⟩ (by dsimp only;omega) ?_
      (refine Turns.slots _ _ rfl ?_;simp only[Tc,↓reduceIte,reduceEqDiff,Nat.reduceBEq,reduceAdd,eNm];try trivial)
  · rw[List.take_of_length_le (by omega),List.take_of_length_le (by omega)] at hxs
    repeat' (first|((first|((first|refine rr ?_|refine rre ?_);intro K hK)|with_reducible refine gO ?_);simp (disch:=omega) only[Ac,↓Pc,↓reduceIte,reduceCtorEq,reduceEqDiff,Nat.reduceBEq,reduceAdd,Nat.reduceLT,reduceLeDiff,reduceMul,reduceNeg,Int.reduceLT,reduceLE,reduceToNat])|(refine hK _ ?_;clear hK K)|(with_reducible refine gS (fun hb'=>?_) (fun hb'=>?_)<;>(have hb:=hb';(try simp only[DEc,reduceCtorEq] at hb);simp (disch:=omega) only[Ac,↓Pc,↓reduceIte,reduceCtorEq,reduceEqDiff,Nat.reduceBEq,reduceAdd,Nat.reduceLT,reduceLeDiff,reduceMul,reduceNeg,Int.reduceLT,reduceLE,reduceToNat,hb'];clear hb'))|(refine Wc (fun ht=>?_) (fun ht=>?_)<;>(try simp only[DEc,reduceCtorEq] at ht))|refine Wz rfl ?_|(refine Wb ?_;intro Qb hnb hxb heb)|(refine Wk ?_;intro Q hn he)|((first|refine hn _ ?_|refine he _ _ rfl ?_);clear hn he;try clear Q)|((first|refine hnb _ ?_|refine hxb _ ?_|refine heb _ _ rfl ?_);clear hnb hxb heb;try clear Qb)|(simp only[Qc,Kc,↓reduceIte,reduceEqDiff,Nat.reduceBEq])|with_reducible refine And.intro ?_ ?_|omega|with_reducible rfl)
    refine hel _ _ rfl ?_;clear hnl hel Ql
    repeat (first|((first|refine hn _ ?_|refine he _ _ rfl ?_);clear hn he;try clear Q)|((first|refine hnb _ ?_|refine hxb _ ?_|refine heb _ _ rfl ?_);clear hnb hxb heb;try clear Qb)|(refine hel _ _ rfl ?_;clear hnl hel;try clear Ql))
    repeat' (first|((first|((first|refine rr ?_|refine rre ?_);intro K hK)|with_reducible refine gO ?_);simp (disch:=omega) only[Ac,↓Pc,↓reduceIte,reduceCtorEq,reduceEqDiff,Nat.reduceBEq,reduceAdd,Nat.reduceLT,reduceLeDiff,reduceMul,reduceNeg,Int.reduceLT,reduceLE,reduceToNat])|(refine hK _ ?_;clear hK K)|(with_reducible refine gS (fun hb'=>?_) (fun hb'=>?_)<;>(have hb:=hb';(try simp only[DEc,reduceCtorEq] at hb);simp (disch:=omega) only[Ac,↓Pc,↓reduceIte,reduceCtorEq,reduceEqDiff,Nat.reduceBEq,reduceAdd,Nat.reduceLT,reduceLeDiff,reduceMul,reduceNeg,Int.reduceLT,reduceLE,reduceToNat,hb'];clear hb'))|(refine Wc (fun ht=>?_) (fun ht=>?_)<;>(try simp only[DEc,reduceCtorEq] at ht))|refine Wz rfl ?_|(refine Wb ?_;intro Qb hnb hxb heb)|(refine Wk ?_;intro Q hn he)|((first|refine hn _ ?_|refine he _ _ rfl ?_);clear hn he;try clear Q)|((first|refine hnb _ ?_|refine hxb _ ?_|refine heb _ _ rfl ?_);clear hnb hxb heb;try clear Qb)|(refine hel _ _ rfl ?_;clear hnl hel;try clear Ql)|(simp only[Qc,Kc,↓reduceIte,reduceEqDiff,Nat.reduceBEq])|with_reducible refine And.intro ?_ ?_|omega|with_reducible rfl)
    unfold retR
    simp only[resW,retV]
    simp (disch:=omega) only[Ac,↓Pc,↓reduceIte,reduceCtorEq,reduceEqDiff,Nat.reduceBEq,reduceAdd,Nat.reduceLT,reduceLeDiff,reduceMul,reduceNeg,Int.reduceLT,reduceLE,reduceToNat]
    rw[← hxs]
    exact⟨_,_,⟨hkp,ti,rfl,fti⟩,RetOK_all rfl hkp.len rfl⟩
end T

