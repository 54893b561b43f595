import Derived.Test.YtkefbbedaaceaaaM18a
import Derived.Test.YtkefbbedaaceaaaMO
set_option linter.unusedVariables false
set_option linter.unusedSimpArgs false
set_option linter.unnecessarySimpa false
open Go Go.Am Go.Proofs
open Nat (reduceEqDiff reduceAdd reduceLeDiff reduceMul)
open Int (reduceNeg reduceLE reduceToNat)
set_option maxRecDepth 20000
namespace T
set_option maxHeartbeats 4000000 in
theorem leftO_ok (m:Mdl) (hm:VM m) (L:List Int) (k:Nat) (hk:k≤L.length) (hL:L.length<1000000) :
    Holds Try.prog 12 [.ptr 0 0 0,.agg (eMdl m)] [dice L k] (.ref 1 1 0 (leftF L m.cls k []).1.length) (dice L (leftF L m.cls k []).2::.arr 1 (refsB 2 (leftF L m.cls k []).1)::ownB (leftF L m.cls k []).1):=by
  unfold dice
  have hc24:=hm.cls
  generalize hres:leftF L m.cls k []=res
  refine Holds.of_body' (fn:=Try.f12) 37 1 [.tmp 4] Try.func12 rfl rfl rfl rfl rfl (by simp) ?_
  repeat' (first|((first|((first|refine rr ?_|refine rre ?_);intro K hK)|with_reducible refine gO ?_);simp (disch:=omega) only[Ac,↓Pc,↓reduceIte,reduceCtorEq,reduceEqDiff,Nat.reduceBEq,reduceAdd,Nat.reduceLT,reduceLeDiff,reduceMul,reduceNeg,Int.reduceLT,reduceLE,reduceToNat])|(refine hK _ ?_;clear hK K)|(with_reducible refine gS (fun hb'=>?_) (fun hb'=>?_)<;>(have hb:=hb';(try simp only[DEc,reduceCtorEq] at hb);simp (disch:=omega) only[Ac,↓Pc,↓reduceIte,reduceCtorEq,reduceEqDiff,Nat.reduceBEq,reduceAdd,Nat.reduceLT,reduceLeDiff,reduceMul,reduceNeg,Int.reduceLT,reduceLE,reduceToNat,hb'];clear hb'))|(refine Wc (fun ht=>?_) (fun ht=>?_)<;>(try simp only[DEc,reduceCtorEq] at ht))|refine Wz rfl ?_|(refine Wb ?_;intro Qb hnb hxb heb)|(refine Wk ?_;intro Q hn he)|((first|refine hn _ ?_|refine he _ _ rfl ?_);clear hn he;try clear Q)|((first|refine hnb _ ?_|refine hxb _ ?_|refine heb _ _ rfl ?_);clear hnb hxb heb;try clear Qb)|(refine hel _ _ rfl ?_;clear hnl hel;try clear Ql)|(simp only[Qc,Kc,↓reduceIte,reduceEqDiff,Nat.reduceBEq])|with_reducible refine And.intro ?_ ?_|omega|with_reducible rfl)
  refine W_loopS (fun z:Nat × Nat × List (List Bool) × List Ob × Nat × List (Nat × Nat)=>(⟨slots [(0,.ptr 0 0 0),(3,.ptr 1 0 0),(5,.ref z.2.2.2.2.1 1 0 z.2.2.2.2.2.length),(6,.lit (.int .i64 z.1))],z.2.2.2.1⟩:St))
    (fun z=>z.1≤m.cls.length∧z.2.1≤L.length∧z.2.2.1.length=z.1∧leftF L (m.cls.drop z.1) z.2.1 z.2.2.1=res∧NB1 [(0,.var [.tree 1 (ints L),.lit (.int .i64 z.2.1)]),(z.2.2.2.2.1,.arr 1 (rowsOf eRb z.2.2.2.2.2)),(1,.var (eMdl m))] z.2.2.2.2.2 z.2.2.1 z.2.2.2.1) (fun z=>m.cls.length - z.1)
    (0,k,[],[.var [.tree 1 (ints L),.lit (.int .i64 k)],.var (eMdl m),.arr 1 []],2,[]) ⟨Nat.zero_le _,hk,rfl,hres,NB1.start _ _⟩ ?_ ?_
  · refine Turns.trans (Turns.nil 5 1 (by simp only[Kc,↓reduceIte,reduceEqDiff,Nat.reduceBEq]) (by decide)) ?_
    (refine Turns.slots _ _ rfl ?_;simp only[Tc,↓reduceIte,reduceEqDiff,Nat.reduceBEq,reduceAdd];try trivial)
  clear hk hres
  rintro ⟨i,k,xs,os,oi,D⟩ ⟨hi,hk,hxl,hr,hB⟩ Ql hnl hel
  dsimp only at hi hk hxl hr hB ⊢
  have hDl:=hB.len
  have fd:=hB.b0
  have fo:=hB.b1
  have fm:=hB.b2
  dsimp only at fd fm fo
  by_cases hi':i<m.cls.length
  · have hl24:=hm.opt _ (getD_mem (d:=(default:List Opt)) hi')
    have hd:=getD_drop0 m.cls i default hi'
    generalize hcc:m.cls.getD i default=c at *
    rw[hd,leftF] at hr
    have hrk:=leftO_k (L:=L) c.length k [] hk
    generalize hro:leftO L c.length k []=ro at *
    repeat' (first|((first|((first|refine rr ?_|refine rre ?_);intro K hK)|with_reducible refine gO ?_);simp (disch:=omega) only[Ac,↓Pc,↓reduceIte,reduceCtorEq,reduceEqDiff,Nat.reduceBEq,reduceAdd,Nat.reduceLT,reduceLeDiff,reduceMul,reduceNeg,Int.reduceLT,reduceLE,reduceToNat,fm])|(refine hK _ ?_;clear hK K)|(with_reducible refine gS (fun hb'=>?_) (fun hb'=>?_)<;>(have hb:=hb';(try simp only[DEc,reduceCtorEq] at hb);simp (disch:=omega) only[Ac,↓Pc,↓reduceIte,reduceCtorEq,reduceEqDiff,Nat.reduceBEq,reduceAdd,Nat.reduceLT,reduceLeDiff,reduceMul,reduceNeg,Int.reduceLT,reduceLE,reduceToNat,fm,hb'];clear hb'))|(refine Wc (fun ht=>?_) (fun ht=>?_)<;>(try simp only[DEc,reduceCtorEq] at ht))|refine Wz rfl ?_|(refine Wb ?_;intro Qb hnb hxb heb)|(refine Wk ?_;intro Q hn he)|((first|refine hn _ ?_|refine he _ _ rfl ?_);clear hn he;try clear Q)|((first|refine hnb _ ?_|refine hxb _ ?_|refine heb _ _ rfl ?_);clear hnb hxb heb;try clear Qb)|(simp only[Qc,Kc,↓reduceIte,reduceEqDiff,Nat.reduceBEq])|with_reducible refine And.intro ?_ ?_|omega|with_reducible rfl)
    refine W_loopS (fun z:Nat × Nat × List Bool × List Ob × Nat=>(⟨slots [(0,.ptr 0 0 0),(3,.ptr 1 0 0),(5,.ref oi 1 0 D.length),(6,.lit (.int .i64 i)),(7,.ref z.2.2.2.2 1 0 z.2.2.1.length),(8,.lit (.int .i64 z.1))],z.2.2.2.1⟩:St))
      (fun z=>z.1≤c.length∧z.2.1≤L.length∧z.2.2.1.length=z.1∧leftO L (c.length - z.1) z.2.1 z.2.2.1=ro∧NB1 [(z.2.2.2.2,.arr 1 (bools z.2.2.1)),(0,.var [.tree 1 (ints L),.lit (.int .i64 z.2.1)]),(oi,.arr 1 (rowsOf eRb D)),(1,.var (eMdl m))] D xs z.2.2.2.1) (fun z=>c.length - z.1) (0,k,[],os++[.arr 1 (bools [])],os.length) ⟨Nat.zero_le _,hk,rfl,hro,(hB.app _).add (oL0 _ _ _) (hB.fresh (Nat.le_refl _))⟩ ?_ ?_
    · refine Turns.trans (Turns.nil 7 1 (by simp only[Kc,↓reduceIte,reduceEqDiff,Nat.reduceBEq]) (by decide)) ?_
      (refine Turns.slots _ _ rfl ?_;simp only[Tc,↓reduceIte,reduceEqDiff,Nat.reduceBEq,reduceAdd];try trivial)
    clear hk hro fd fm fo hB
    rintro ⟨o,k,bs,os,p⟩ ⟨ho,hk,hbl,hrb,hB⟩ Ql2 hnl2 hel2
    dsimp only at ho hk hbl hrb hB ⊢
    have fp:=hB.b0
    have fd:=hB.b1
    have fo:=hB.b2
    have fm:=hB.b3
    dsimp only at fd fm fo fp
    by_cases ho':o<c.length
    · have hk2:=nextA_le hk
      rw[show c.length - o=(c.length - (o+1))+1 by omega,leftO] at hrb
      repeat' (first|((first|((first|refine rr ?_|refine rre ?_);intro K hK)|with_reducible refine gO ?_);simp (disch:=omega) only[Ac,↓Pc,↓reduceIte,reduceCtorEq,reduceEqDiff,Nat.reduceBEq,reduceAdd,Nat.reduceLT,reduceLeDiff,reduceMul,reduceNeg,Int.reduceLT,reduceLE,reduceToNat,fm,hcc,eCls])|(refine hK _ ?_;clear hK K)|(with_reducible refine gS (fun hb'=>?_) (fun hb'=>?_)<;>(have hb:=hb';(try simp only[DEc,reduceCtorEq] at hb);simp (disch:=omega) only[Ac,↓Pc,↓reduceIte,reduceCtorEq,reduceEqDiff,Nat.reduceBEq,reduceAdd,Nat.reduceLT,reduceLeDiff,reduceMul,reduceNeg,Int.reduceLT,reduceLE,reduceToNat,fm,hcc,eCls,hb'];clear hb'))|(refine Wc (fun ht=>?_) (fun ht=>?_)<;>(try simp only[DEc,reduceCtorEq] at ht))|refine Wz rfl ?_|(refine Wb ?_;intro Qb hnb hxb heb)|(refine Wk ?_;intro Q hn he)|((first|refine hn _ ?_|refine he _ _ rfl ?_);clear hn he;try clear Q)|((first|refine hnb _ ?_|refine hxb _ ?_|refine heb _ _ rfl ?_);clear hnb hxb heb;try clear Qb)|(simp only[Qc,Kc,↓reduceIte,reduceEqDiff,Nat.reduceBEq])|with_reducible refine And.intro ?_ ?_|omega|with_reducible rfl)
      refine callK_sel [0] (one_ok L k 3 (by unfold In64;omega) (by omega) hk hL) (by decide) ⟨fd,trivial⟩ ⟨.eq rfl,.pure rfl,trivial⟩ ?_
      have hB2:=(hB.swap.put (.var [.tree 1 (ints L),.lit (.int .i64 (nextA L k))])).swap
      generalize oneV L k 3=b at *
      generalize nextA L k=k2 at *
      have fp2:=hB2.b0
      dsimp only at fp2
      have hz:∀ (ρ:Nat→Nat),mergeO os [0] (List.map (renO ρ) [.var [.tree 1 (ints L),.lit (.int .i64 k2)]])=os.set 0 (.var [.tree 1 (ints L),.lit (.int .i64 k2)]):=fun ρ=>List.append_nil _
      generalize os.set 0 (.var [.tree 1 (ints L),.lit (.int .i64 k2)])=os2 at *
      rw[hz]
      clear hz fd fm fo fp
      repeat' (first|((first|((first|refine rr ?_|refine rre ?_);intro K hK)|with_reducible refine gO ?_);simp (disch:=omega) only[Ac,↓Pc,↓reduceIte,reduceCtorEq,reduceEqDiff,Nat.reduceBEq,reduceAdd,Nat.reduceLT,reduceLeDiff,reduceMul,reduceNeg,Int.reduceLT,reduceLE,reduceToNat,hcc,eCls,bools_app1,fp2,oLo fp2,oSo fp2,Oc2,List.append_assoc,List.length_append,List.length_set])|(refine hK _ ?_;clear hK K)|(with_reducible refine gS (fun hb'=>?_) (fun hb'=>?_)<;>(have hb:=hb';(try simp only[DEc,reduceCtorEq] at hb);simp (disch:=omega) only[Ac,↓Pc,↓reduceIte,reduceCtorEq,reduceEqDiff,Nat.reduceBEq,reduceAdd,Nat.reduceLT,reduceLeDiff,reduceMul,reduceNeg,Int.reduceLT,reduceLE,reduceToNat,hcc,eCls,bools_app1,fp2,oLo fp2,oSo fp2,Oc2,List.append_assoc,List.length_append,List.length_set,hb'];clear hb'))|(refine Wc (fun ht=>?_) (fun ht=>?_)<;>(try simp only[DEc,reduceCtorEq] at ht))|refine Wz rfl ?_|(refine Wb ?_;intro Qb hnb hxb heb)|(refine Wk ?_;intro Q hn he)|((first|refine hn _ ?_|refine he _ _ rfl ?_);clear hn he;try clear Q)|((first|refine hnb _ ?_|refine hxb _ ?_|refine heb _ _ rfl ?_);clear hnb hxb heb;try clear Qb)|(simp only[Qc,Kc,↓reduceIte,reduceEqDiff,Nat.reduceBEq])|with_reducible refine And.intro ?_ ?_|omega|with_reducible rfl)
      obtain ⟨hB3,hfr⟩:=hB2.drop
      refine hnl2 _ (o+1,k2,bs++[!b],os2.set p .gone++[.arr 1 (bools [!b]),.arr 1 (bools (bs++[!b]))],os2.length+1) ⟨by dsimp only;omega,hk2,by simp;omega,hrb,?_⟩ (by dsimp only;omega) ?_
      · refine ((hB3.other hfr .gone).app _).add ?_ ((hB3.other hfr .gone).fresh (by simp))
        rw[oLs];rfl
      · (refine Turns.slots _ _ rfl ?_;simp only[Tc,↓reduceIte,reduceEqDiff,Nat.reduceBEq,reduceAdd];try trivial)
    · have hoc:o=c.length:=by omega
      rw[hoc,Nat.sub_self,leftO] at hrb
      repeat' (first|((first|((first|refine rr ?_|refine rre ?_);intro K hK)|with_reducible refine gO ?_);simp (disch:=omega) only[Ac,↓Pc,↓reduceIte,reduceCtorEq,reduceEqDiff,Nat.reduceBEq,reduceAdd,Nat.reduceLT,reduceLeDiff,reduceMul,reduceNeg,Int.reduceLT,reduceLE,reduceToNat,fm,hcc,eCls])|(refine hK _ ?_;clear hK K)|(with_reducible refine gS (fun hb'=>?_) (fun hb'=>?_)<;>(have hb:=hb';(try simp only[DEc,reduceCtorEq] at hb);simp (disch:=omega) only[Ac,↓Pc,↓reduceIte,reduceCtorEq,reduceEqDiff,Nat.reduceBEq,reduceAdd,Nat.reduceLT,reduceLeDiff,reduceMul,reduceNeg,Int.reduceLT,reduceLE,reduceToNat,fm,hcc,eCls,hb'];clear hb'))|(refine Wc (fun ht=>?_) (fun ht=>?_)<;>(try simp only[DEc,reduceCtorEq] at ht))|refine Wz rfl ?_|(refine Wb ?_;intro Qb hnb hxb heb)|(refine Wk ?_;intro Q hn he)|((first|refine hn _ ?_|refine he _ _ rfl ?_);clear hn he;try clear Q)|((first|refine hnb _ ?_|refine hxb _ ?_|refine heb _ _ rfl ?_);clear hnb hxb heb;try clear Qb)|(simp only[Qc,Kc,↓reduceIte,reduceEqDiff,Nat.reduceBEq])|with_reducible refine And.intro ?_ ?_|omega|with_reducible rfl)
      refine hel2 _ _ rfl ?_
      clear hnl2 hel2 Ql2
      repeat (first|((first|refine hn _ ?_|refine he _ _ rfl ?_);clear hn he;try clear Q)|((first|refine hnb _ ?_|refine hxb _ ?_|refine heb _ _ rfl ?_);clear hnb hxb heb;try clear Qb)|(refine hel _ _ rfl ?_;clear hnl hel;try clear Ql))
      rw[← hrb] at hr
      have hB2:=hB.snoc
      have hB3:=hB2.swap
      obtain ⟨hB4,hfr⟩:=hB3.drop
      repeat' (first|((first|((first|refine rr ?_|refine rre ?_);intro K hK)|with_reducible refine gO ?_);simp (disch:=omega) only[Ac,↓Pc,↓reduceIte,reduceCtorEq,reduceEqDiff,Nat.reduceBEq,reduceAdd,Nat.reduceLT,reduceLeDiff,reduceMul,reduceNeg,Int.reduceLT,reduceLE,reduceToNat,fo,oLo fo,oSo fo,eRb_app,Oc2,List.append_assoc,List.length_append,List.length_set])|(refine hK _ ?_;clear hK K)|(with_reducible refine gS (fun hb'=>?_) (fun hb'=>?_)<;>(have hb:=hb';(try simp only[DEc,reduceCtorEq] at hb);simp (disch:=omega) only[Ac,↓Pc,↓reduceIte,reduceCtorEq,reduceEqDiff,Nat.reduceBEq,reduceAdd,Nat.reduceLT,reduceLeDiff,reduceMul,reduceNeg,Int.reduceLT,reduceLE,reduceToNat,fo,oLo fo,oSo fo,eRb_app,Oc2,List.append_assoc,List.length_append,List.length_set,hb'];clear hb'))|(refine Wc (fun ht=>?_) (fun ht=>?_)<;>(try simp only[DEc,reduceCtorEq] at ht))|refine Wz rfl ?_|(refine Wb ?_;intro Qb hnb hxb heb)|(refine Wk ?_;intro Q hn he)|((first|refine hn _ ?_|refine he _ _ rfl ?_);clear hn he;try clear Q)|((first|refine hnb _ ?_|refine hxb _ ?_|refine heb _ _ rfl ?_);clear hnb hxb heb;try clear Qb)|(simp only[Qc,Kc,↓reduceIte,reduceEqDiff,Nat.reduceBEq])|with_reducible refine And.intro ?_ ?_|omega|with_reducible rfl)
      refine hnl _ (i+1,k,xs++[bs],os.set oi .gone++[.arr 1 [[.ref p 1 0 bs.length]],.arr 1 (rowsOf eRb (D++[(p,bs.length)]))],os.length+1,D++[(p,bs.length)]) ⟨by dsimp only;omega,hk,by simp;omega,hr,?_⟩ (by dsimp only;omega) ?_
      · refine NB1.swap (((hB4.other hfr .gone).app _).add ?_ ((hB4.other hfr .gone).fresh (by simp)))
        have hl3:(os.set oi Ob.gone).length=os.length:=List.length_set ..
        rw[← hl3,oLk];rfl
      · (refine Turns.slots _ _ rfl ?_;simp only[Tc,↓reduceIte,reduceEqDiff,Nat.reduceBEq,reduceAdd];try trivial)
  · rw[List.drop_eq_nil_of_le (by omega),leftF] at hr
    repeat' (first|((first|((first|refine rr ?_|refine rre ?_);intro K hK)|with_reducible refine gO ?_);simp (disch:=omega) only[Ac,↓Pc,↓reduceIte,reduceCtorEq,reduceEqDiff,Nat.reduceBEq,reduceAdd,Nat.reduceLT,reduceLeDiff,reduceMul,reduceNeg,Int.reduceLT,reduceLE,reduceToNat,fm])|(refine hK _ ?_;clear hK K)|(with_reducible refine gS (fun hb'=>?_) (fun hb'=>?_)<;>(have hb:=hb';(try simp only[DEc,reduceCtorEq] at hb);simp (disch:=omega) only[Ac,↓Pc,↓reduceIte,reduceCtorEq,reduceEqDiff,Nat.reduceBEq,reduceAdd,Nat.reduceLT,reduceLeDiff,reduceMul,reduceNeg,Int.reduceLT,reduceLE,reduceToNat,fm,hb'];clear hb'))|(refine Wc (fun ht=>?_) (fun ht=>?_)<;>(try simp only[DEc,reduceCtorEq] at ht))|refine Wz rfl ?_|(refine Wb ?_;intro Qb hnb hxb heb)|(refine Wk ?_;intro Q hn he)|((first|refine hn _ ?_|refine he _ _ rfl ?_);clear hn he;try clear Q)|((first|refine hnb _ ?_|refine hxb _ ?_|refine heb _ _ rfl ?_);clear hnb hxb heb;try clear Qb)|(simp only[Qc,Kc,↓reduceIte,reduceEqDiff,Nat.reduceBEq])|with_reducible refine And.intro ?_ ?_|omega|with_reducible rfl)
    refine hel _ _ rfl ?_;clear hnl hel Ql
    repeat (first|((first|refine hn _ ?_|refine he _ _ rfl ?_);clear hn he;try clear Q)|((first|refine hnb _ ?_|refine hxb _ ?_|refine heb _ _ rfl ?_);clear hnb hxb heb;try clear Qb)|(refine hel _ _ rfl ?_;clear hnl hel;try clear Ql))
    repeat' (first|((first|((first|refine rr ?_|refine rre ?_);intro K hK)|with_reducible refine gO ?_);simp (disch:=omega) only[Ac,↓Pc,↓reduceIte,reduceCtorEq,reduceEqDiff,Nat.reduceBEq,reduceAdd,Nat.reduceLT,reduceLeDiff,reduceMul,reduceNeg,Int.reduceLT,reduceLE,reduceToNat])|(refine hK _ ?_;clear hK K)|(with_reducible refine gS (fun hb'=>?_) (fun hb'=>?_)<;>(have hb:=hb';(try simp only[DEc,reduceCtorEq] at hb);simp (disch:=omega) only[Ac,↓Pc,↓reduceIte,reduceCtorEq,reduceEqDiff,Nat.reduceBEq,reduceAdd,Nat.reduceLT,reduceLeDiff,reduceMul,reduceNeg,Int.reduceLT,reduceLE,reduceToNat,hb'];clear hb'))|(refine Wc (fun ht=>?_) (fun ht=>?_)<;>(try simp only[DEc,reduceCtorEq] at ht))|refine Wz rfl ?_|(refine Wb ?_;intro Qb hnb hxb heb)|(refine Wk ?_;intro Q hn he)|((first|refine hn _ ?_|refine he _ _ rfl ?_);clear hn he;try clear Q)|((first|refine hnb _ ?_|refine hxb _ ?_|refine heb _ _ rfl ?_);clear hnb hxb heb;try clear Qb)|(refine hel _ _ rfl ?_;clear hnl hel;try clear Ql)|(simp only[Qc,Kc,↓reduceIte,reduceEqDiff,Nat.reduceBEq])|with_reducible refine And.intro ?_ ?_|omega|with_reducible rfl)
    subst hr
    have hB2:=hB.swap.drop
    have h3:NB1 [(0,.var [.tree 1 (ints L),.lit (.int .i64 k)]),(oi,.arr 1 (rowsOf eRb D))] D xs os :=
      ⟨fun b hb=>hB.base b (by simp only[List.mem_cons,List.not_mem_nil,or_false] at hb ⊢;rcases hb with hb | hb<;>simp[hb]),hB.len,hB.row,by
        have:=hB.nd
        simp only[List.map_cons,List.map_nil,List.cons_append,List.nil_append,List.nodup_cons,List.mem_cons,not_or] at this ⊢
        exact⟨⟨this.1.1,this.1.2.2⟩,this.2.1.2,this.2.2.2⟩⟩
    rw[hDl]
    exact h3.ret (fun ρ=>rfl) (by simp) _
end T

