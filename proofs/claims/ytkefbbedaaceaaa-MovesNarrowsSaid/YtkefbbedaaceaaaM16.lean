import Derived.Test.YtkefbbedaaceaaaM15
set_option linter.unusedVariables false
set_option linter.unusedSimpArgs false
set_option linter.unnecessarySimpa false
open Go Go.Am Go.Proofs
open Nat (reduceEqDiff reduceAdd reduceLeDiff reduceMul)
open Int (reduceNeg reduceLE reduceToNat)
set_option maxRecDepth 20000
namespace T
theorem range4:List.range 4=[0,1,2,3]:=by decide
def o0:Opt:=⟨0,0,0,0,0,[]⟩
def m1:Mdl:=⟨[[o0,o0],[o0,o0]],[⟨0,1,0,[0,2,4,3]⟩],[],1⟩
theorem m1_mb:MB m1:=by
  refine⟨by decide,fun l hl=>?_,fun l hl o ho=>?_,by decide,fun p hp=>?_,by decide,fun c hc=>?_⟩
  · simp[m1] at hl;subst hl;decide
  · simp[m1] at hl;subst hl;simp at ho;subst ho;decide
  · simp[m1] at hp;subst hp;decide
  · simp[m1] at hc
theorem aw0:allT m1=[[true,true],[true,true]]:=by decide +kernel
theorem aw1:valueT m1 [[true,true],[true,true]] []=(0,0):=by decide +kernel
theorem aw2:valueT m1 [[false,true],[true,true]] [⟨0,0,1,3⟩]=(3,0):=by decide +kernel
theorem bb1:BB [[true,true],[true,true]]:=⟨by decide,by decide⟩
theorem bb2:BB [[false,true],[true,true]]:=⟨by decide,by decide⟩
set_option maxRecDepth 10000 in
set_option maxHeartbeats 4000000 in
theorem awake_ok:Holds Try.prog 9 [] [] (.lit (.bool true)) []:=by
  have h0:=all_ok m1 m1_mb
  rw[aw0] at h0
  have h1:=value_ok m1 [[true,true],[true,true]] [] m1_mb bb1 (by decide)
  rw[aw1] at h1
  have h1':=Holds.nilArg (pre:=[.agg (eMdl m1),.tree 1 (rowsOf eBs [[true,true],[true,true]])]) (post:=[]) h1
  have h2:=value_ok m1 [[false,true],[true,true]] [⟨0,0,1,3⟩] m1_mb bb2 (by decide)
  rw[aw2] at h2
  refine Holds.of_body' (fn:=Try.f9) 48 0 [.tmp 0] Try.func9 rfl rfl rfl rfl rfl (by simp) ?_
  refine W_region_k (by decide) ?_
  intro K hK
  simp (disch:=omega) only[Ac,↓Pc,↓reduceIte,reduceCtorEq,reduceEqDiff,Nat.reduceBEq,reduceAdd,Nat.reduceLT,reduceLeDiff,reduceMul,reduceNeg,Int.reduceLT,reduceLE,reduceToNat]
  refine hK _ ?_
  clear hK K
  refine W_region_k (by decide) ?_
  intro K hK
  simp (disch:=omega) only[Ac,↓Pc,↓reduceIte,reduceCtorEq,reduceEqDiff,Nat.reduceBEq,reduceAdd,Nat.reduceLT,reduceLeDiff,reduceMul,reduceNeg,Int.reduceLT,reduceLE,reduceToNat]
  refine hK _ ?_
  clear hK K
  refine W_region_t 7 (by decide) ?_
  intro K K1 hK hK1
  simp (disch:=omega) only[Ac,↓Pc,↓reduceIte,reduceCtorEq,reduceEqDiff,Nat.reduceBEq,reduceAdd,Nat.reduceLT,reduceLeDiff,reduceMul,reduceNeg,Int.reduceLT,reduceLE,reduceToNat,List.take,range4]
  refine hK1 _ ⟨slots [(16,.agg (eMdl m1))],[]⟩ ?_ ?_
  · refine Turns.sel [] true _ _ (by decide) trivial (by decide) (by decide) ⟨?_,trivial⟩
    simp only[Kc,↓reduceIte,reduceEqDiff,Nat.reduceBEq]
    have hz:∀ (σ:St) (kp:Nat→Prop),RowsR (Frz σ kp) (rowsOf eOpt [o0,o0]) [[.lit (.int .i64 0),.lit (.int .i64 0),.lit (.int .i64 0),.lit (.int .i64 0),.lit (.int .i64 0),.lit (.slice none 0 0)],[.lit (.int .i64 0),.lit (.int .i64 0),.lit (.int .i64 0),.lit (.int .i64 0),.lit (.int .i64 0),.lit (.slice none 0 0)]]:=fun σ kp =>
      ⟨⟨.lit _,.lit _,.lit _,.lit _,.lit _,.nil 2,trivial⟩,⟨.lit _,.lit _,.lit _,.lit _,.lit _,.nil 2,trivial⟩,trivial⟩
    refine ArgR.agg _ _ rfl (ArgsR.spec (R:=ArgR _ _ _ _) (cs:=eMdl m1) (ds:=[.ref 1 1 0 2,.ref 3 4 0 1,.lit (.slice none 0 0),.lit (.int .i64 1)]) ⟨.snap _ _ rfl ?_,.snap _ _ rfl ?_,.snap _ _ rfl (.nil 4),.pure rfl,trivial⟩).2
    · exact Frz.mk rfl rfl (not_kept (by decide)) (rows_wid _) ⟨⟨Frz.mk rfl rfl (not_kept (by decide)) (rows_wid _) (hz _ _),trivial⟩,⟨Frz.mk rfl rfl (not_kept (by decide)) (rows_wid _) (hz _ _),trivial⟩,trivial⟩
    · exact Frz.mk rfl rfl (not_kept (by decide)) (rows_wid _) ⟨⟨.lit _,.lit _,.lit _,Frz.mk rfl rfl (not_kept (by decide)) (ints_wid _) ⟨⟨.lit _,trivial⟩,⟨.lit _,trivial⟩,⟨.lit _,trivial⟩,⟨.lit _,trivial⟩,trivial⟩,trivial⟩,trivial⟩
  clear hK1 K1
  simp (disch:=omega) only[Ac,↓Pc,↓reduceIte,reduceCtorEq,reduceEqDiff,Nat.reduceBEq,reduceAdd,Nat.reduceLT,reduceLeDiff,reduceMul,reduceNeg,Int.reduceLT,reduceLE,reduceToNat,List.drop]
  refine hK _ ?_
  clear hK K
  refine W_turn (σ':=⟨slots [(2,.ptr 0 0 0)],[.var (eMdl m1)]⟩) (by (refine Turns.slots _ _ rfl ?_;simp only[Tc,↓reduceIte,reduceEqDiff,Nat.reduceBEq,reduceAdd];try trivial)) ?_
  repeat' (first|((first|((fail_if_success (first|refine W_at 4 ?_|refine W_atE 4 ?_));(first|refine rr ?_|refine rre ?_|refine rb ?_|refine rbe ?_|refine ra ?_|refine rae ?_);intro K hK)|with_reducible refine gO ?_);simp (disch:=omega) only[Ac,↓Pc,↓reduceIte,reduceCtorEq,reduceEqDiff,Nat.reduceBEq,reduceAdd,Nat.reduceLT,reduceLeDiff,reduceMul,reduceNeg,Int.reduceLT,reduceLE,reduceToNat])|(first|refine callK_pure (h0) rfl rfl ?_|refine callQ_pure (h0) rfl rfl ?_)|(first|refine callK_pure (h1') rfl rfl ?_|refine callQ_pure (h1') rfl rfl ?_)|(refine hK _ ?_;clear hK K)|(with_reducible refine gS (fun hb'=>?_) (fun hb'=>?_)<;>(have hb:=hb';(try simp only[DEc,reduceCtorEq] at hb);simp (disch:=omega) only[Ac,↓Pc,↓reduceIte,reduceCtorEq,reduceEqDiff,Nat.reduceBEq,reduceAdd,Nat.reduceLT,reduceLeDiff,reduceMul,reduceNeg,Int.reduceLT,reduceLE,reduceToNat,hb'];clear hb'))|(refine Wc (fun ht=>?_) (fun ht=>?_)<;>(try simp only[DEc,reduceCtorEq] at ht))|refine Wz rfl ?_|(refine Wb ?_;intro Qb hnb hxb heb)|(refine Wk ?_;intro Q hn he)|((first|refine hn _ ?_|refine he _ _ rfl ?_);clear hn he;try clear Q)|((first|refine hnb _ ?_|refine hxb _ ?_|refine heb _ _ rfl ?_);clear hnb hxb heb;try clear Qb)|(refine hel _ _ rfl ?_;clear hnl hel;try clear Ql)|(simp only[Qc,Kc,↓reduceIte,reduceEqDiff,Nat.reduceBEq])|with_reducible refine And.intro ?_ ?_|omega|with_reducible rfl)
  refine W_turn (σ':=⟨slots [(2,.ptr 0 0 0),(3,.lit (.int .i64 0)),(4,.lit (.int .i64 0))],[.var (eMdl m1)]⟩) (by (refine Turns.slots _ _ rfl ?_;simp only[Tc,↓reduceIte,reduceEqDiff,Nat.reduceBEq,reduceAdd];try trivial)) ?_
  refine W_region_te 6 (by decide) ?_
  intro K K1 hK hK1
  simp (disch:=omega) only[Ac,↓Pc,↓reduceIte,reduceCtorEq,reduceEqDiff,Nat.reduceBEq,reduceAdd,Nat.reduceLT,reduceLeDiff,reduceMul,reduceNeg,Int.reduceLT,reduceLE,reduceToNat,List.take,range4]
  refine hK1 _ ⟨slots [(3,.lit (.int .i64 0)),(4,.lit (.int .i64 0)),(25,.agg (eMdl m1)),(28,.tree 1 (rowsOf eBs [[false,true],[true,true]])),(30,.tree 4 (rowsOf eMv [⟨0,0,1,3⟩]))],[]⟩ ?_ ?_
  · refine Turns.sel [] true _ _ (by decide) trivial (by decide) (by decide) ⟨.pure rfl,.pure rfl,.pure rfl,.snap _ _ rfl ?_,ArgR.frz rfl (rows_wid _) rfl (not_kept (by decide)) (rows_frz _),trivial⟩
    exact Frz.mk rfl rfl (not_kept (by decide)) (rows_wid _) ⟨⟨Frz.mk rfl rfl (not_kept (by decide)) (bools_wid _) ⟨⟨.lit _,trivial⟩,⟨.lit _,trivial⟩,trivial⟩,trivial⟩,⟨Frz.mk rfl rfl (not_kept (by decide)) (bools_wid _) ⟨⟨.lit _,trivial⟩,⟨.lit _,trivial⟩,trivial⟩,trivial⟩,trivial⟩
  clear hK1 K1
  simp (disch:=omega) only[Ac,↓Pc,↓reduceIte,reduceCtorEq,reduceEqDiff,Nat.reduceBEq,reduceAdd,Nat.reduceLT,reduceLeDiff,reduceMul,reduceNeg,Int.reduceLT,reduceLE,reduceToNat,List.drop]
  refine callK_pure h2 rfl rfl ?_
  simp (disch:=omega) only[Ac,↓Pc,↓reduceIte,reduceCtorEq,reduceEqDiff,Nat.reduceBEq,reduceAdd,Nat.reduceLT,reduceLeDiff,reduceMul,reduceNeg,Int.reduceLT,reduceLE,reduceToNat]
  refine hK _ ?_
  clear hK K
  repeat (first|((first|refine hn _ ?_|refine he _ _ rfl ?_);clear hn he;try clear Q)|((first|refine hnb _ ?_|refine hxb _ ?_|refine heb _ _ rfl ?_);clear hnb hxb heb;try clear Qb)|(refine hel _ _ rfl ?_;clear hnl hel;try clear Ql))
  repeat' (first|((first|((first|refine rr ?_|refine rre ?_);intro K hK)|with_reducible refine gO ?_);simp (disch:=omega) only[Ac,↓Pc,↓reduceIte,reduceCtorEq,reduceEqDiff,Nat.reduceBEq,reduceAdd,Nat.reduceLT,reduceLeDiff,reduceMul,reduceNeg,Int.reduceLT,reduceLE,reduceToNat,beq_self_eq_true])|(refine hK _ ?_;clear hK K)|(with_reducible refine gS (fun hb'=>?_) (fun hb'=>?_)<;>(have hb:=hb';(try simp only[DEc,reduceCtorEq] at hb);simp (disch:=omega) only[Ac,↓Pc,↓reduceIte,reduceCtorEq,reduceEqDiff,Nat.reduceBEq,reduceAdd,Nat.reduceLT,reduceLeDiff,reduceMul,reduceNeg,Int.reduceLT,reduceLE,reduceToNat,beq_self_eq_true,hb'];clear hb'))|(refine Wc (fun ht=>?_) (fun ht=>?_)<;>(try simp only[DEc,reduceCtorEq] at ht))|refine Wz rfl ?_|(refine Wb ?_;intro Qb hnb hxb heb)|(refine Wk ?_;intro Q hn he)|((first|refine hn _ ?_|refine he _ _ rfl ?_);clear hn he;try clear Q)|((first|refine hnb _ ?_|refine hxb _ ?_|refine heb _ _ rfl ?_);clear hnb hxb heb;try clear Qb)|(refine hel _ _ rfl ?_;clear hnl hel;try clear Ql)|(simp only[Qc,Kc,↓reduceIte,reduceEqDiff,Nat.reduceBEq])|with_reducible refine And.intro ?_ ?_|omega|with_reducible rfl)
  all_goals first|exact RetOK_pure' rfl rfl|(exfalso;simp at *;done)|(exfalso;omega)|skip
end T

