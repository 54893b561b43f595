import Derived.Test.YtkefbbedaaceaaaM18c
import Derived.Test.YtkefbbedaaceaaaD9
set_option linter.unusedVariables false
set_option linter.unusedSimpArgs false
set_option linter.unnecessarySimpa false
open Go Go.Am Go.Proofs
open Nat (reduceEqDiff reduceAdd reduceLeDiff reduceMul)
open Int (reduceNeg reduceLE reduceToNat)
set_option maxRecDepth 20000
namespace T
theorem bb_fits {m:Mdl} {x:List (List Bool)} (hm:VM m) (h:FitsP m x):BB x:=by
  have hc:=hm.cls
  refine⟨by have:=h.1;omega,fun r hr=>?_⟩
  obtain ⟨i,hi,rfl⟩:=List.getElem_of_mem hr
  have h2:=h.2 i hi
  have h3:=hm.opt _ (getD_mem (l:=m.cls) (i:=i) (d:=default) (by have:=h.1;omega))
  rw[List.getD_eq_getElem?_getD,List.getElem?_eq_getElem hi,Option.getD_some] at h2
  omega
set_option maxRecDepth 10000 in
set_option maxHeartbeats 16000000 in
theorem made_ok (tape:List Int) (k0:Int):Holds Try.prog 7 [.tree 1 (ints tape),.lit (.int .i64 k0)] [] (.lit (.bool true)) []:=by
  refine Holds.of_body' (fn:=Try.f7) 109 0 [.tmp 4] Try.func7 rfl rfl rfl rfl rfl (by simp) ?_
  repeat' (first|((first|((first|refine rr ?_|refine rre ?_|refine rb ?_|refine rbe ?_|refine ra ?_|refine rae ?_);intro K hK)|with_reducible refine gO ?_);simp (disch:=omega) only[Ac,↓Pc,↓reduceIte,reduceCtorEq,reduceEqDiff,Nat.reduceBEq,reduceAdd,Nat.reduceLT,reduceLeDiff,reduceMul,reduceNeg,Int.reduceLT,reduceLE,reduceToNat])|(first|refine callK_pure (light_ok _) rfl rfl ?_|refine callQ_pure (light_ok _) rfl rfl ?_)|(first|refine callK_pure (awake_ok) rfl rfl ?_|refine callQ_pure (awake_ok) rfl rfl ?_)|(refine hK _ ?_;clear hK K)|(with_reducible refine gS (fun hb'=>?_) (fun hb'=>?_)<;>(have hb:=hb';(try simp only[DEc,reduceCtorEq] at hb);simp (disch:=omega) only[Ac,↓Pc,↓reduceIte,reduceCtorEq,reduceEqDiff,Nat.reduceBEq,reduceAdd,Nat.reduceLT,reduceLeDiff,reduceMul,reduceNeg,Int.reduceLT,reduceLE,reduceToNat,hb'];clear hb'))|(refine Wc (fun ht=>?_) (fun ht=>?_)<;>(try simp only[DEc,reduceCtorEq] at ht))|refine Wz rfl ?_|(refine Wb ?_;intro Qb hnb hxb heb)|(refine Wk ?_;intro Q hn he)|((first|refine hn _ ?_|refine he _ _ rfl ?_);clear hn he;try clear Q)|((first|refine hnb _ ?_|refine hxb _ ?_|refine heb _ _ rfl ?_);clear hnb hxb heb;try clear Qb)|(refine hel _ _ rfl ?_;clear hnl hel;try clear Ql)|(simp only[Qc,Kc,↓reduceIte,reduceEqDiff,Nat.reduceBEq])|with_reducible refine And.intro ?_ ?_|omega|with_reducible rfl)
  · exact RetOK_pure' rfl rfl
  have hL:tape.length<1000000:=by omega
  (refine callK_sel [] (roll_ok tape) (by decide) (by (repeat' (first|exact trivial|with_reducible refine And.intro ?_ ?_|refine And.intro ?_ ?_))<;>first|rfl|(rw[ints_ren];rfl)|(rw[bools_ren];rfl)|(rw[rows_ren];rfl)|(rw[intss_ren];rfl)) (by (repeat' (first|exact trivial|refine And.intro ?_ ?_))<;>(first|exact .pure rfl|exact .eq rfl|exact .fz rfl (by simp only[Bc,Rc]))) ?_;simp (disch:=omega) only[Ac,↓Pc,↓reduceIte,reduceCtorEq,reduceEqDiff,Nat.reduceBEq,reduceAdd,Nat.reduceLT,reduceLeDiff,reduceMul,reduceNeg,Int.reduceLT,reduceLE,reduceToNat])
  refine hK _ ?_;clear hK K
  refine W_turn (σ':=⟨slots [(1,.lit (.int .i64 k0)),(5,.ptr 0 0 0)],[dice tape 0]⟩) (by unfold dice;(refine Turns.slots _ _ rfl ?_;simp only[Tc,↓reduceIte,reduceEqDiff,Nat.reduceBEq,reduceAdd];try trivial)) ?_
  have hmod:=model_ok tape 0 4 4 (Nat.zero_le _) hL (by decide) (by decide) (by decide)
  refine W_region_c 1 (by decide) _ rfl ?_
  intro K hK
  simp (disch:=omega) only[Ac,↓Pc,↓reduceIte,reduceCtorEq,reduceEqDiff,Nat.reduceBEq,reduceAdd,Nat.reduceLT,reduceLeDiff,reduceMul,reduceNeg,Int.reduceLT,reduceLE,reduceToNat,List.take,List.drop]
  refine⟨rfl,(show callKR Try.prog 11 [.ptr 0 0 0,.lit (.int .i64 (4:Nat)),.lit (.int .i64 (4:Nat))] (some 25) _ _ from ?_)⟩
  refine callKR_sel [0] hmod (by decide) ⟨rfl,trivial⟩ ⟨.eq rfl,.pure rfl,.pure rfl,trivial⟩ ?_
  rintro r os ⟨m,k,hm,hk,rfl,rfl⟩
  have hvm:=hm.vm
  unfold dice
  simp (disch:=omega) only[Ac,↓Pc,↓reduceIte,reduceCtorEq,reduceEqDiff,Nat.reduceBEq,reduceAdd,Nat.reduceLT,reduceLeDiff,reduceMul,reduceNeg,Int.reduceLT,reduceLE,reduceToNat]
  refine hK _ ?_;clear hK K
  have h2:=leftF_ok m hvm tape k hk hL
  have hfit:=leftF_fits (L:=tape) (m:=m) (k:=k)
  have hk2:=leftF_k (L:=tape) m.cls k [] hk
  generalize leftF tape m.cls k []=lf at *
  obtain ⟨left,k2⟩:=lf
  dsimp only at *
  have hbb:=bb_fits hvm hfit
  have h3:=movesO_ok m hvm (fun l hl=>(hm.some l hl).1) tape k2 12 (by decide) hk2 hL
  obtain ⟨hml,_,hk3⟩:=movF_ok (L:=tape) (m:=m) (most:=12) hvm (fun l hl=>(hm.some l hl).1) hk2
  generalize movF tape m 12 k2=mf at *
  obtain ⟨mvs,k3⟩:=mf
  dsimp only at *
  unfold dice at h2 h3
  refine Wk ?_;intro Q hn he
  refine join_here ⟨slots [(1,.lit (.int .i64 k0)),(5,.ptr 0 0 0),(6,.ptr 1 0 0),(7,.tree 1 (rowsOf eBs left)),(8,.ref 2 4 0 mvs.length)],[dice tape k3,.var (eMdl m),.arr 4 (rowsOf eMv mvs)]⟩ hn ?_ (fun key=>?_)
  rotate_left
  · unfold dice at key
    refine W_draw [] (.take 0 (.take 1 (.take 3 (.both 2 (.take 4 (.take 5 (.take 6 (.take 7 .nil)))) 4 (.take 2 (.take 5 (.take 6 (.take 7 .nil)))))))) rfl (by decide) (by decide +kernel) ?_
    simp (disch:=omega) only[Ac,↓Pc,↓reduceIte,reduceCtorEq,reduceEqDiff,Nat.reduceBEq,reduceAdd,Nat.reduceLT,reduceLeDiff,reduceMul,reduceNeg,Int.reduceLT,reduceLE,reduceToNat,planW_three,planW_both,planW_take,planW_nil,stepAt,stepD]
    repeat' (first|with_reducible refine And.intro ?_ ?_|omega|with_reducible rfl)
    all_goals
      (refine callK_sel [0] (h2) (by decide) (by (repeat' (first|exact trivial|with_reducible refine And.intro ?_ ?_|refine And.intro ?_ ?_))<;>first|rfl|(rw[ints_ren];rfl)|(rw[bools_ren];rfl)|(rw[rows_ren];rfl)|(rw[intss_ren];rfl)) (by (repeat' (first|exact trivial|refine And.intro ?_ ?_))<;>(first|exact .pure rfl|exact .eq rfl|exact .fz rfl (by simp only[Bc,Rc]))) ?_;simp (disch:=omega) only[Ac,↓Pc,↓reduceIte,reduceCtorEq,reduceEqDiff,Nat.reduceBEq,reduceAdd,Nat.reduceLT,reduceLeDiff,reduceMul,reduceNeg,Int.reduceLT,reduceLE,reduceToNat,planW_three,planW_both,planW_take,planW_nil,stepAt,stepD])
      repeat' (first|with_reducible refine And.intro ?_ ?_|omega|with_reducible rfl)
    all_goals
      (refine callK_sel [0] (h3) (by decide) (by (repeat' (first|exact trivial|with_reducible refine And.intro ?_ ?_|refine And.intro ?_ ?_))<;>first|rfl|(rw[ints_ren];rfl)|(rw[bools_ren];rfl)|(rw[rows_ren];rfl)|(rw[intss_ren];rfl)) (by (repeat' (first|exact trivial|refine And.intro ?_ ?_))<;>(first|exact .pure rfl|exact .eq rfl|exact .fz rfl (by simp only[Bc,Rc]))) ?_;simp (disch:=omega) only[Ac,↓Pc,↓reduceIte,reduceCtorEq,reduceEqDiff,Nat.reduceBEq,reduceAdd,Nat.reduceLT,reduceLeDiff,reduceMul,reduceNeg,Int.reduceLT,reduceLE,reduceToNat,planW_three,planW_both,planW_take,planW_nil,stepAt,stepD])
      refine key _ ?_
      (refine Turns.slots _ _ rfl ?_;simp only[Tc,↓reduceIte,reduceEqDiff,Nat.reduceBEq,reduceAdd];try trivial)
  clear hn he
  try clear Q
  have h5:=one_ok tape k3 6 (by unfold In64;omega) (by decide) hk3 hL
  have hk5:=nextA_le hk3
  generalize oneV tape k3 6=b5 at *
  generalize nextA tape k3=k5 at *
  refine W_joinT (fun z:Mdl × Nat=>(⟨slots [(1,.lit (.int .i64 k0)),(5,.ptr 0 0 0),(6,.ptr 1 0 0),(7,.tree 1 (rowsOf eBs left)),(8,.ref 2 4 0 mvs.length)],[dice tape z.2,.var (eMdl z.1),.arr 4 (rowsOf eMv mvs)]⟩:St)) (fun z=>OM z.1∧z.2≤tape.length) ?_ ?_
  · intro Q1 hq1 hq2
    have hodd:=odd_ok tape k5 m hvm hk5 hL
    unfold dice
    repeat' (first|((first|((first|refine rr ?_|refine rre ?_);intro K hK)|with_reducible refine gO ?_);simp (disch:=omega) only[Ac,↓Pc,↓reduceIte,reduceCtorEq,reduceEqDiff,Nat.reduceBEq,reduceAdd,Nat.reduceLT,reduceLeDiff,reduceMul,reduceNeg,Int.reduceLT,reduceLE,reduceToNat])|(refine hK _ ?_;clear hK K)|(with_reducible refine gS (fun hb'=>?_) (fun hb'=>?_)<;>(have hb:=hb';(try simp only[DEc,reduceCtorEq] at hb);simp (disch:=omega) only[Ac,↓Pc,↓reduceIte,reduceCtorEq,reduceEqDiff,Nat.reduceBEq,reduceAdd,Nat.reduceLT,reduceLeDiff,reduceMul,reduceNeg,Int.reduceLT,reduceLE,reduceToNat,hb'];clear hb'))|(refine Wc (fun ht=>?_) (fun ht=>?_)<;>(try simp only[DEc,reduceCtorEq] at ht))|refine Wz rfl ?_|(refine Wb ?_;intro Qb hnb hxb heb)|(refine Wk ?_;intro Q hn he)|((first|refine hn _ ?_|refine he _ _ rfl ?_);clear hn he;try clear Q)|((first|refine hnb _ ?_|refine hxb _ ?_|refine heb _ _ rfl ?_);clear hnb hxb heb;try clear Qb)|(simp only[Qc,Kc,↓reduceIte,reduceEqDiff,Nat.reduceBEq])|with_reducible refine And.intro ?_ ?_|omega|with_reducible rfl)
    (refine callK_sel [0] (h5) (by decide) (by (repeat' (first|exact trivial|with_reducible refine And.intro ?_ ?_|refine And.intro ?_ ?_))<;>first|rfl|(rw[ints_ren];rfl)|(rw[bools_ren];rfl)|(rw[rows_ren];rfl)|(rw[intss_ren];rfl)) (by (repeat' (first|exact trivial|refine And.intro ?_ ?_))<;>(first|exact .pure rfl|exact .eq rfl|exact .fz rfl (by simp only[Bc,Rc]))) ?_;simp (disch:=omega) only[Ac,↓Pc,↓reduceIte,reduceCtorEq,reduceEqDiff,Nat.reduceBEq,reduceAdd,Nat.reduceLT,reduceLeDiff,reduceMul,reduceNeg,Int.reduceLT,reduceLE,reduceToNat])
    repeat' (first|((first|((fail_if_success (first|refine W_at 7 ?_|refine W_atE 7 ?_));(first|refine rr ?_|refine rre ?_);intro K hK)|with_reducible refine gO ?_);simp (disch:=omega) only[Ac,↓Pc,↓reduceIte,reduceCtorEq,reduceEqDiff,Nat.reduceBEq,reduceAdd,Nat.reduceLT,reduceLeDiff,reduceMul,reduceNeg,Int.reduceLT,reduceLE,reduceToNat])|(refine hK _ ?_;clear hK K)|(with_reducible refine gS (fun hb'=>?_) (fun hb'=>?_)<;>(have hb:=hb';(try simp only[DEc,reduceCtorEq] at hb);simp (disch:=omega) only[Ac,↓Pc,↓reduceIte,reduceCtorEq,reduceEqDiff,Nat.reduceBEq,reduceAdd,Nat.reduceLT,reduceLeDiff,reduceMul,reduceNeg,Int.reduceLT,reduceLE,reduceToNat,hb'];clear hb'))|(refine Wc (fun ht=>?_) (fun ht=>?_)<;>(try simp only[DEc,reduceCtorEq] at ht))|refine Wz rfl ?_|(refine Wb ?_;intro Qb hnb hxb heb)|(refine Wk ?_;intro Q hn he)|((first|refine hn _ ?_|refine he _ _ rfl ?_);clear hn he;try clear Q)|((first|refine hnb _ ?_|refine hxb _ ?_|refine heb _ _ rfl ?_);clear hnb hxb heb;try clear Qb)|(simp only[Qc,Kc,↓reduceIte,reduceEqDiff,Nat.reduceBEq])|with_reducible refine And.intro ?_ ?_|omega|with_reducible rfl)
    · refine W_region_ce 2 (by decide) _ rfl ?_
      intro K hK
      simp (disch:=omega) only[Ac,↓Pc,↓reduceIte,reduceCtorEq,reduceEqDiff,Nat.reduceBEq,reduceAdd,Nat.reduceLT,reduceLeDiff,reduceMul,reduceNeg,Int.reduceLT,reduceLE,reduceToNat,List.take,List.drop]
      refine⟨rfl,(show callKR Try.prog 28 [.ptr 0 0 0,.agg (eMdl m)] (some 36) _ _ from ?_)⟩
      refine callKR_sel [0] hodd (by decide) ⟨rfl,trivial⟩ ⟨.eq rfl,.pure rfl,trivial⟩ ?_
      rintro r os ⟨m',k',hm',hk',rfl,rfl⟩
      unfold dice
      simp (disch:=omega) only[Ac,↓Pc,↓reduceIte,reduceCtorEq,reduceEqDiff,Nat.reduceBEq,reduceAdd,Nat.reduceLT,reduceLeDiff,reduceMul,reduceNeg,Int.reduceLT,reduceLE,reduceToNat]
      repeat' (first|with_reducible refine And.intro ?_ ?_|omega|with_reducible rfl)
      refine hK _ ?_
      refine hq1 _ (m',k') ⟨hm',hk'⟩ ?_
      unfold dice
      (refine Turns.slots _ _ rfl ?_;simp only[Tc,↓reduceIte,reduceEqDiff,Nat.reduceBEq,reduceAdd];try trivial)
    · refine hq1 _ (m,k5) ⟨hvm.om,hk5⟩ ?_
      unfold dice
      (refine Turns.slots _ _ rfl ?_;simp only[Tc,↓reduceIte,reduceEqDiff,Nat.reduceBEq,reduceAdd];try trivial)
  clear h2 h3 hk hk2 hk3 h5 hk5 hfit hm hvm hmod
  rintro ⟨m',k'⟩ ⟨hom,hk6⟩
  dsimp only at hom hk6 ⊢
  have h12:=one_ok tape k' 8 (by unfold In64;omega) (by decide) hk6 hL
  have hk7:=nextA_le hk6
  generalize oneV tape k' 8=b12 at *
  generalize nextA tape k'=k7 at *
  refine W_joinT (fun z:List Mv × Nat=>(⟨slots [(1,.lit (.int .i64 k0)),(5,.ptr 0 0 0),(6,.ptr 1 0 0),(7,.tree 1 (rowsOf eBs left)),(8,.ref 2 4 0 z.1.length)],[dice tape z.2,.var (eMdl m'),.arr 4 (rowsOf eMv z.1)]⟩:St)) (fun z=>z.1.length≤13∧z.2≤tape.length) ?_ ?_
  · intro Q1 hq1 hq2
    have hx1:=next_ok tape k7 4 (by unfold In64;omega) hk7 hL
    have hr1:=nextV_range (L:=tape) (k:=k7) (n:=4) (by omega)
    have hk8:=nextA_le hk7
    generalize nextV tape k7 4=x1 at *
    generalize nextA tape k7=k8 at *
    have hx2:=next_ok tape k8 4 (by unfold In64;omega) hk8 hL
    have hr2:=nextV_range (L:=tape) (k:=k8) (n:=4) (by omega)
    have hk9:=nextA_le hk8
    generalize nextV tape k8 4=x2 at *
    generalize nextA tape k8=k9 at *
    have hx3:=next_ok tape k9 6 (by unfold In64;omega) hk9 hL
    have hr3:=nextV_range (L:=tape) (k:=k9) (n:=6) (by omega)
    have hk10:=nextA_le hk9
    generalize nextV tape k9 6=x3 at *
    generalize nextA tape k9=k10 at *
    have hx4:=next_ok tape k10 2 (by unfold In64;omega) hk10 hL
    have hr4:=nextV_range (L:=tape) (k:=k10) (n:=2) (by omega)
    have hk11:=nextA_le hk10
    generalize nextV tape k10 2=x4 at *
    generalize nextA tape k10=k11 at *
    unfold dice at *
    repeat' (first|((first|((first|refine rr ?_|refine rre ?_);intro K hK)|with_reducible refine gO ?_);simp (disch:=omega) only[Ac,↓Pc,↓reduceIte,reduceCtorEq,reduceEqDiff,Nat.reduceBEq,reduceAdd,Nat.reduceLT,reduceLeDiff,reduceMul,reduceNeg,Int.reduceLT,reduceLE,reduceToNat])|(refine hK _ ?_;clear hK K)|(with_reducible refine gS (fun hb'=>?_) (fun hb'=>?_)<;>(have hb:=hb';(try simp only[DEc,reduceCtorEq] at hb);simp (disch:=omega) only[Ac,↓Pc,↓reduceIte,reduceCtorEq,reduceEqDiff,Nat.reduceBEq,reduceAdd,Nat.reduceLT,reduceLeDiff,reduceMul,reduceNeg,Int.reduceLT,reduceLE,reduceToNat,hb'];clear hb'))|(refine Wc (fun ht=>?_) (fun ht=>?_)<;>(try simp only[DEc,reduceCtorEq] at ht))|refine Wz rfl ?_|(refine Wb ?_;intro Qb hnb hxb heb)|(refine Wk ?_;intro Q hn he)|((first|refine hn _ ?_|refine he _ _ rfl ?_);clear hn he;try clear Q)|((first|refine hnb _ ?_|refine hxb _ ?_|refine heb _ _ rfl ?_);clear hnb hxb heb;try clear Qb)|(simp only[Qc,Kc,↓reduceIte,reduceEqDiff,Nat.reduceBEq])|with_reducible refine And.intro ?_ ?_|omega|with_reducible rfl)
    (refine callK_sel [0] (h12) (by decide) (by (repeat' (first|exact trivial|with_reducible refine And.intro ?_ ?_|refine And.intro ?_ ?_))<;>first|rfl|(rw[ints_ren];rfl)|(rw[bools_ren];rfl)|(rw[rows_ren];rfl)|(rw[intss_ren];rfl)) (by (repeat' (first|exact trivial|refine And.intro ?_ ?_))<;>(first|exact .pure rfl|exact .eq rfl|exact .fz rfl (by simp only[Bc,Rc]))) ?_;simp (disch:=omega) only[Ac,↓Pc,↓reduceIte,reduceCtorEq,reduceEqDiff,Nat.reduceBEq,reduceAdd,Nat.reduceLT,reduceLeDiff,reduceMul,reduceNeg,Int.reduceLT,reduceLE,reduceToNat])
    repeat' (first|((first|((first|refine rr ?_|refine rre ?_);intro K hK)|with_reducible refine gO ?_);simp (disch:=omega) only[Ac,↓Pc,↓reduceIte,reduceCtorEq,reduceEqDiff,Nat.reduceBEq,reduceAdd,Nat.reduceLT,reduceLeDiff,reduceMul,reduceNeg,Int.reduceLT,reduceLE,reduceToNat])|(refine hK _ ?_;clear hK K)|(with_reducible refine gS (fun hb'=>?_) (fun hb'=>?_)<;>(have hb:=hb';(try simp only[DEc,reduceCtorEq] at hb);simp (disch:=omega) only[Ac,↓Pc,↓reduceIte,reduceCtorEq,reduceEqDiff,Nat.reduceBEq,reduceAdd,Nat.reduceLT,reduceLeDiff,reduceMul,reduceNeg,Int.reduceLT,reduceLE,reduceToNat,hb'];clear hb'))|(refine Wc (fun ht=>?_) (fun ht=>?_)<;>(try simp only[DEc,reduceCtorEq] at ht))|refine Wz rfl ?_|(refine Wb ?_;intro Qb hnb hxb heb)|(refine Wk ?_;intro Q hn he)|((first|refine hn _ ?_|refine he _ _ rfl ?_);clear hn he;try clear Q)|((first|refine hnb _ ?_|refine hxb _ ?_|refine heb _ _ rfl ?_);clear hnb hxb heb;try clear Qb)|(simp only[Qc,Kc,↓reduceIte,reduceEqDiff,Nat.reduceBEq])|with_reducible refine And.intro ?_ ?_|omega|with_reducible rfl)
    · (refine callK_sel [0] (hx1) (by decide) (by (repeat' (first|exact trivial|with_reducible refine And.intro ?_ ?_|refine And.intro ?_ ?_))<;>first|rfl|(rw[ints_ren];rfl)|(rw[bools_ren];rfl)|(rw[rows_ren];rfl)|(rw[intss_ren];rfl)) (by (repeat' (first|exact trivial|refine And.intro ?_ ?_))<;>(first|exact .pure rfl|exact .eq rfl|exact .fz rfl (by simp only[Bc,Rc]))) ?_;simp (disch:=omega) only[Ac,↓Pc,↓reduceIte,reduceCtorEq,reduceEqDiff,Nat.reduceBEq,reduceAdd,Nat.reduceLT,reduceLeDiff,reduceMul,reduceNeg,Int.reduceLT,reduceLE,reduceToNat])
      repeat' (first|((first|((first|refine rr ?_|refine rre ?_);intro K hK)|with_reducible refine gO ?_);simp (disch:=omega) only[Ac,↓Pc,↓reduceIte,reduceCtorEq,reduceEqDiff,Nat.reduceBEq,reduceAdd,Nat.reduceLT,reduceLeDiff,reduceMul,reduceNeg,Int.reduceLT,reduceLE,reduceToNat])|(refine hK _ ?_;clear hK K)|(with_reducible refine gS (fun hb'=>?_) (fun hb'=>?_)<;>(have hb:=hb';(try simp only[DEc,reduceCtorEq] at hb);simp (disch:=omega) only[Ac,↓Pc,↓reduceIte,reduceCtorEq,reduceEqDiff,Nat.reduceBEq,reduceAdd,Nat.reduceLT,reduceLeDiff,reduceMul,reduceNeg,Int.reduceLT,reduceLE,reduceToNat,hb'];clear hb'))|(refine Wc (fun ht=>?_) (fun ht=>?_)<;>(try simp only[DEc,reduceCtorEq] at ht))|refine Wz rfl ?_|(refine Wb ?_;intro Qb hnb hxb heb)|(refine Wk ?_;intro Q hn he)|((first|refine hn _ ?_|refine he _ _ rfl ?_);clear hn he;try clear Q)|((first|refine hnb _ ?_|refine hxb _ ?_|refine heb _ _ rfl ?_);clear hnb hxb heb;try clear Qb)|(simp only[Qc,Kc,↓reduceIte,reduceEqDiff,Nat.reduceBEq])|with_reducible refine And.intro ?_ ?_|omega|with_reducible rfl)
      (refine callK_sel [0] (hx2) (by decide) (by (repeat' (first|exact trivial|with_reducible refine And.intro ?_ ?_|refine And.intro ?_ ?_))<;>first|rfl|(rw[ints_ren];rfl)|(rw[bools_ren];rfl)|(rw[rows_ren];rfl)|(rw[intss_ren];rfl)) (by (repeat' (first|exact trivial|refine And.intro ?_ ?_))<;>(first|exact .pure rfl|exact .eq rfl|exact .fz rfl (by simp only[Bc,Rc]))) ?_;simp (disch:=omega) only[Ac,↓Pc,↓reduceIte,reduceCtorEq,reduceEqDiff,Nat.reduceBEq,reduceAdd,Nat.reduceLT,reduceLeDiff,reduceMul,reduceNeg,Int.reduceLT,reduceLE,reduceToNat])
      repeat' (first|((first|((first|refine rr ?_|refine rre ?_);intro K hK)|with_reducible refine gO ?_);simp (disch:=omega) only[Ac,↓Pc,↓reduceIte,reduceCtorEq,reduceEqDiff,Nat.reduceBEq,reduceAdd,Nat.reduceLT,reduceLeDiff,reduceMul,reduceNeg,Int.reduceLT,reduceLE,reduceToNat])|(refine hK _ ?_;clear hK K)|(with_reducible refine gS (fun hb'=>?_) (fun hb'=>?_)<;>(have hb:=hb';(try simp only[DEc,reduceCtorEq] at hb);simp (disch:=omega) only[Ac,↓Pc,↓reduceIte,reduceCtorEq,reduceEqDiff,Nat.reduceBEq,reduceAdd,Nat.reduceLT,reduceLeDiff,reduceMul,reduceNeg,Int.reduceLT,reduceLE,reduceToNat,hb'];clear hb'))|(refine Wc (fun ht=>?_) (fun ht=>?_)<;>(try simp only[DEc,reduceCtorEq] at ht))|refine Wz rfl ?_|(refine Wb ?_;intro Qb hnb hxb heb)|(refine Wk ?_;intro Q hn he)|((first|refine hn _ ?_|refine he _ _ rfl ?_);clear hn he;try clear Q)|((first|refine hnb _ ?_|refine hxb _ ?_|refine heb _ _ rfl ?_);clear hnb hxb heb;try clear Qb)|(simp only[Qc,Kc,↓reduceIte,reduceEqDiff,Nat.reduceBEq])|with_reducible refine And.intro ?_ ?_|omega|with_reducible rfl)
      (refine callK_sel [0] (hx3) (by decide) (by (repeat' (first|exact trivial|with_reducible refine And.intro ?_ ?_|refine And.intro ?_ ?_))<;>first|rfl|(rw[ints_ren];rfl)|(rw[bools_ren];rfl)|(rw[rows_ren];rfl)|(rw[intss_ren];rfl)) (by (repeat' (first|exact trivial|refine And.intro ?_ ?_))<;>(first|exact .pure rfl|exact .eq rfl|exact .fz rfl (by simp only[Bc,Rc]))) ?_;simp (disch:=omega) only[Ac,↓Pc,↓reduceIte,reduceCtorEq,reduceEqDiff,Nat.reduceBEq,reduceAdd,Nat.reduceLT,reduceLeDiff,reduceMul,reduceNeg,Int.reduceLT,reduceLE,reduceToNat])
      repeat' (first|((first|((first|refine rr ?_|refine rre ?_);intro K hK)|with_reducible refine gO ?_);simp (disch:=omega) only[Ac,↓Pc,↓reduceIte,reduceCtorEq,reduceEqDiff,Nat.reduceBEq,reduceAdd,Nat.reduceLT,reduceLeDiff,reduceMul,reduceNeg,Int.reduceLT,reduceLE,reduceToNat])|(refine hK _ ?_;clear hK K)|(with_reducible refine gS (fun hb'=>?_) (fun hb'=>?_)<;>(have hb:=hb';(try simp only[DEc,reduceCtorEq] at hb);simp (disch:=omega) only[Ac,↓Pc,↓reduceIte,reduceCtorEq,reduceEqDiff,Nat.reduceBEq,reduceAdd,Nat.reduceLT,reduceLeDiff,reduceMul,reduceNeg,Int.reduceLT,reduceLE,reduceToNat,hb'];clear hb'))|(refine Wc (fun ht=>?_) (fun ht=>?_)<;>(try simp only[DEc,reduceCtorEq] at ht))|refine Wz rfl ?_|(refine Wb ?_;intro Qb hnb hxb heb)|(refine Wk ?_;intro Q hn he)|((first|refine hn _ ?_|refine he _ _ rfl ?_);clear hn he;try clear Q)|((first|refine hnb _ ?_|refine hxb _ ?_|refine heb _ _ rfl ?_);clear hnb hxb heb;try clear Qb)|(simp only[Qc,Kc,↓reduceIte,reduceEqDiff,Nat.reduceBEq])|with_reducible refine And.intro ?_ ?_|omega|with_reducible rfl)
      (refine callK_sel [0] (hx4) (by decide) (by (repeat' (first|exact trivial|with_reducible refine And.intro ?_ ?_|refine And.intro ?_ ?_))<;>first|rfl|(rw[ints_ren];rfl)|(rw[bools_ren];rfl)|(rw[rows_ren];rfl)|(rw[intss_ren];rfl)) (by (repeat' (first|exact trivial|refine And.intro ?_ ?_))<;>(first|exact .pure rfl|exact .eq rfl|exact .fz rfl (by simp only[Bc,Rc]))) ?_;simp (disch:=omega) only[Ac,↓Pc,↓reduceIte,reduceCtorEq,reduceEqDiff,Nat.reduceBEq,reduceAdd,Nat.reduceLT,reduceLeDiff,reduceMul,reduceNeg,Int.reduceLT,reduceLE,reduceToNat])
      repeat' (first|((first|((first|refine rr ?_|refine rre ?_);intro K hK)|with_reducible refine gO ?_);simp (disch:=omega) only[Ac,↓Pc,↓reduceIte,reduceCtorEq,reduceEqDiff,Nat.reduceBEq,reduceAdd,Nat.reduceLT,reduceLeDiff,reduceMul,reduceNeg,Int.reduceLT,reduceLE,reduceToNat,eMv_app])|(refine hK _ ?_;clear hK K)|(with_reducible refine gS (fun hb'=>?_) (fun hb'=>?_)<;>(have hb:=hb';(try simp only[DEc,reduceCtorEq] at hb);simp (disch:=omega) only[Ac,↓Pc,↓reduceIte,reduceCtorEq,reduceEqDiff,Nat.reduceBEq,reduceAdd,Nat.reduceLT,reduceLeDiff,reduceMul,reduceNeg,Int.reduceLT,reduceLE,reduceToNat,eMv_app,hb'];clear hb'))|(refine Wc (fun ht=>?_) (fun ht=>?_)<;>(try simp only[DEc,reduceCtorEq] at ht))|refine Wz rfl ?_|(refine Wb ?_;intro Qb hnb hxb heb)|(refine Wk ?_;intro Q hn he)|((first|refine hn _ ?_|refine he _ _ rfl ?_);clear hn he;try clear Q)|((first|refine hnb _ ?_|refine hxb _ ?_|refine heb _ _ rfl ?_);clear hnb hxb heb;try clear Qb)|(simp only[Qc,Kc,↓reduceIte,reduceEqDiff,Nat.reduceBEq])|with_reducible refine And.intro ?_ ?_|omega|with_reducible rfl)
      refine hq1 _ (mvs++[⟨x1 - 1,x2 - 1,x3 - 1,268435456+x4⟩],k11) ⟨by simp;omega,hk11⟩ ?_
      (refine Turns.se [0,1,4] false (by simp only[Oc,reduceCtorEq,reduceAdd,Nat.reduceLT,reduceLeDiff,reduceEqDiff,↓reduceIte,eMv_app]) ?_;simp only[Hr,↓reduceIte,reduceEqDiff,Nat.reduceBEq,reduceAdd,eMv_app];try (and_intros<;>first|exact .pure rfl|exact .eq rfl|exact .fz rfl (by simp only[Bc,Rc])))
    · refine hq1 _ (mvs,k7) ⟨by dsimp only;omega,hk7⟩ ?_
      (refine Turns.slots _ _ rfl ?_;simp only[Tc,↓reduceIte,reduceEqDiff,Nat.reduceBEq,reduceAdd];try trivial)
  clear hml
  rintro ⟨mvs,k8⟩ ⟨hml,hk8⟩
  dsimp only at hml hk8 ⊢
  refine W_turn (σ':=⟨slots [(1,.lit (.int .i64 k0)),(5,.ptr 0 0 0),(6,.ptr 1 0 0),(7,.tree 1 (rowsOf eBs left)),(8,.tree 4 (rowsOf eMv mvs))],[dice tape k8,.var (eMdl m')]⟩) (by unfold dice;(refine Turns.se [0,1] true (by simp only[Oc,reduceCtorEq,reduceAdd,Nat.reduceLT,reduceLeDiff,reduceEqDiff,↓reduceIte]) ?_;simp only[Hr,↓reduceIte,reduceEqDiff,Nat.reduceBEq,reduceAdd];try (and_intros<;>first|exact .pure rfl|exact .eq rfl|exact .fz rfl (by simp only[Bc,Rc])))) ?_
  have hx6:=next_ok tape k8 3 (by unfold In64;omega) hk8 hL
  have hk9:=nextA_le hk8
  unfold dice at *
  generalize nextV tape k8 3=x6 at *
  generalize nextA tape k8=k9 at *
  have hc1:=leastE_ok m' left x6 hom.mb hbb
  have hc2:=refLeast_ok m' left x6 hom.mb hbb
  have hd1:=leastE_ok m' left k0 hom.mb hbb
  have hd2:=refLeast_ok m' left k0 hom.mb hbb
  generalize leastT m' left x6=ct at *
  generalize leastT m' left k0=dt at *
  have hex:=exact_ok m' left mvs hom.mb hbb (by omega)
  repeat' (first|((first|((first|refine rr ?_|refine rre ?_);intro K hK)|with_reducible refine gO ?_);simp (disch:=omega) only[Ac,↓Pc,↓reduceIte,reduceCtorEq,reduceEqDiff,Nat.reduceBEq,reduceAdd,Nat.reduceLT,reduceLeDiff,reduceMul,reduceNeg,Int.reduceLT,reduceLE,reduceToNat])|(refine hK _ ?_;clear hK K)|(with_reducible refine gS (fun hb'=>?_) (fun hb'=>?_)<;>(have hb:=hb';(try simp only[DEc,reduceCtorEq] at hb);simp (disch:=omega) only[Ac,↓Pc,↓reduceIte,reduceCtorEq,reduceEqDiff,Nat.reduceBEq,reduceAdd,Nat.reduceLT,reduceLeDiff,reduceMul,reduceNeg,Int.reduceLT,reduceLE,reduceToNat,hb'];clear hb'))|(refine Wc (fun ht=>?_) (fun ht=>?_)<;>(try simp only[DEc,reduceCtorEq] at ht))|refine Wz rfl ?_|(refine Wb ?_;intro Qb hnb hxb heb)|(refine Wk ?_;intro Q hn he)|((first|refine hn _ ?_|refine he _ _ rfl ?_);clear hn he;try clear Q)|((first|refine hnb _ ?_|refine hxb _ ?_|refine heb _ _ rfl ?_);clear hnb hxb heb;try clear Qb)|(refine hel _ _ rfl ?_;clear hnl hel;try clear Ql)|(simp only[Qc,Kc,↓reduceIte,reduceEqDiff,Nat.reduceBEq])|with_reducible refine And.intro ?_ ?_|omega|with_reducible rfl)
  (refine callK_sel [0] (hx6) (by decide) (by (repeat' (first|exact trivial|with_reducible refine And.intro ?_ ?_|refine And.intro ?_ ?_))<;>first|rfl|(rw[ints_ren];rfl)|(rw[bools_ren];rfl)|(rw[rows_ren];rfl)|(rw[intss_ren];rfl)) (by (repeat' (first|exact trivial|refine And.intro ?_ ?_))<;>(first|exact .pure rfl|exact .eq rfl|exact .fz rfl (by simp only[Bc,Rc]))) ?_;simp (disch:=omega) only[Ac,↓Pc,↓reduceIte,reduceCtorEq,reduceEqDiff,Nat.reduceBEq,reduceAdd,Nat.reduceLT,reduceLeDiff,reduceMul,reduceNeg,Int.reduceLT,reduceLE,reduceToNat])
  repeat' (first|((first|((first|refine rr ?_|refine rre ?_|refine rb ?_|refine rbe ?_|refine ra ?_|refine rae ?_);intro K hK)|with_reducible refine gO ?_);simp (disch:=omega) only[Ac,↓Pc,↓reduceIte,reduceCtorEq,reduceEqDiff,Nat.reduceBEq,reduceAdd,Nat.reduceLT,reduceLeDiff,reduceMul,reduceNeg,Int.reduceLT,reduceLE,reduceToNat])|(first|refine callK_pure (hc1) rfl rfl ?_|refine callQ_pure (hc1) rfl rfl ?_)|(first|refine callK_pure (hc2) rfl rfl ?_|refine callQ_pure (hc2) rfl rfl ?_)|(refine hK _ ?_;clear hK K)|(with_reducible refine gS (fun hb'=>?_) (fun hb'=>?_)<;>(have hb:=hb';(try simp only[DEc,reduceCtorEq] at hb);simp (disch:=omega) only[Ac,↓Pc,↓reduceIte,reduceCtorEq,reduceEqDiff,Nat.reduceBEq,reduceAdd,Nat.reduceLT,reduceLeDiff,reduceMul,reduceNeg,Int.reduceLT,reduceLE,reduceToNat,hb'];clear hb'))|(refine Wc (fun ht=>?_) (fun ht=>?_)<;>(try simp only[DEc,reduceCtorEq] at ht))|refine Wz rfl ?_|(refine Wb ?_;intro Qb hnb hxb heb)|(refine Wk ?_;intro Q hn he)|((first|refine hn _ ?_|refine he _ _ rfl ?_);clear hn he;try clear Q)|((first|refine hnb _ ?_|refine hxb _ ?_|refine heb _ _ rfl ?_);clear hnb hxb heb;try clear Qb)|(refine hel _ _ rfl ?_;clear hnl hel;try clear Ql)|(simp only[Qc,Kc,↓reduceIte,reduceEqDiff,Nat.reduceBEq])|with_reducible refine And.intro ?_ ?_|omega|with_reducible rfl)
  repeat' (first|((first|((first|refine rr ?_|refine rre ?_|refine rb ?_|refine rbe ?_|refine ra ?_|refine rae ?_);intro K hK)|with_reducible refine gO ?_);simp (disch:=omega) only[Ac,↓Pc,↓reduceIte,reduceCtorEq,reduceEqDiff,Nat.reduceBEq,reduceAdd,Nat.reduceLT,reduceLeDiff,reduceMul,reduceNeg,Int.reduceLT,reduceLE,reduceToNat])|(first|refine callK_pure (hd1) rfl rfl ?_|refine callQ_pure (hd1) rfl rfl ?_)|(first|refine callK_pure (hd2) rfl rfl ?_|refine callQ_pure (hd2) rfl rfl ?_)|(refine hK _ ?_;clear hK K)|(with_reducible refine gS (fun hb'=>?_) (fun hb'=>?_)<;>(have hb:=hb';(try simp only[DEc,reduceCtorEq] at hb);simp (disch:=omega) only[Ac,↓Pc,↓reduceIte,reduceCtorEq,reduceEqDiff,Nat.reduceBEq,reduceAdd,Nat.reduceLT,reduceLeDiff,reduceMul,reduceNeg,Int.reduceLT,reduceLE,reduceToNat,hb'];clear hb'))|(refine Wc (fun ht=>?_) (fun ht=>?_)<;>(try simp only[DEc,reduceCtorEq] at ht))|refine Wz rfl ?_|(refine Wb ?_;intro Qb hnb hxb heb)|(refine Wk ?_;intro Q hn he)|((first|refine hn _ ?_|refine he _ _ rfl ?_);clear hn he;try clear Q)|((first|refine hnb _ ?_|refine hxb _ ?_|refine heb _ _ rfl ?_);clear hnb hxb heb;try clear Qb)|(refine hel _ _ rfl ?_;clear hnl hel;try clear Ql)|(simp only[Qc,Kc,↓reduceIte,reduceEqDiff,Nat.reduceBEq])|with_reducible refine And.intro ?_ ?_|omega|with_reducible rfl)
  repeat' (first|((first|((first|refine rr ?_|refine rre ?_|refine rb ?_|refine rbe ?_|refine ra ?_|refine rae ?_);intro K hK)|with_reducible refine gO ?_);simp (disch:=omega) only[Ac,↓Pc,↓reduceIte,reduceCtorEq,reduceEqDiff,Nat.reduceBEq,reduceAdd,Nat.reduceLT,reduceLeDiff,reduceMul,reduceNeg,Int.reduceLT,reduceLE,reduceToNat])|(first|refine callK_pure (hex) rfl rfl ?_|refine callQ_pure (hex) rfl rfl ?_)|(refine hK _ ?_;clear hK K)|(with_reducible refine gS (fun hb'=>?_) (fun hb'=>?_)<;>(have hb:=hb';(try simp only[DEc,reduceCtorEq] at hb);simp (disch:=omega) only[Ac,↓Pc,↓reduceIte,reduceCtorEq,reduceEqDiff,Nat.reduceBEq,reduceAdd,Nat.reduceLT,reduceLeDiff,reduceMul,reduceNeg,Int.reduceLT,reduceLE,reduceToNat,hb'];clear hb'))|(refine Wc (fun ht=>?_) (fun ht=>?_)<;>(try simp only[DEc,reduceCtorEq] at ht))|refine Wz rfl ?_|(refine Wb ?_;intro Qb hnb hxb heb)|(refine Wk ?_;intro Q hn he)|((first|refine hn _ ?_|refine he _ _ rfl ?_);clear hn he;try clear Q)|((first|refine hnb _ ?_|refine hxb _ ?_|refine heb _ _ rfl ?_);clear hnb hxb heb;try clear Qb)|(refine hel _ _ rfl ?_;clear hnl hel;try clear Ql)|(simp only[Qc,Kc,↓reduceIte,reduceEqDiff,Nat.reduceBEq])|with_reducible refine And.intro ?_ ?_|omega|with_reducible rfl)
  exact RetOK_pure' rfl rfl
end T

