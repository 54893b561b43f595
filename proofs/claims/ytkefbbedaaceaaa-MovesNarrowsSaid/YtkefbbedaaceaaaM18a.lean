import Derived.Test.YtkefbbedaaceaaaM15
import Derived.Test.YtkefbbedaaceaaaC7
set_option linter.unusedVariables false
set_option linter.unusedSimpArgs false
set_option linter.unnecessarySimpa false
open Go Go.Am Go.Proofs
open Nat (reduceEqDiff reduceAdd reduceLeDiff reduceMul)
open Int (reduceNeg reduceLE reduceToNat)
set_option maxRecDepth 20000
namespace T
def leftO (L:List Int):Nat→Nat→List Bool→List Bool × Nat
  | 0,k,bs=>(bs,k)
  | j+1,k,bs=>leftO L j (nextA L k) (bs++[!oneV L k 3])
def leftF (L:List Int):List (List Opt)→Nat→List (List Bool)→List (List Bool) × Nat
  | [],k,xs=>(xs,k)
  | c::r,k,xs=>leftF L r (leftO L c.length k []).2 (xs++[(leftO L c.length k []).1])
theorem leftO_len {L:List Int}:∀ (j k:Nat) (bs:List Bool),(leftO L j k bs).1.length=bs.length+j
  | 0,k,bs=>rfl
  | j+1,k,bs=>by rw[leftO,leftO_len j];simp;omega
theorem leftO_k {L:List Int}:∀ (j k:Nat) (bs:List Bool),k≤L.length→(leftO L j k bs).2≤L.length
  | 0,k,bs,h=>h
  | j+1,k,bs,h=>by rw[leftO];exact leftO_k j _ _ (nextA_le h)
theorem leftF_k {L:List Int}:∀ (r:List (List Opt)) (k:Nat) (xs:List (List Bool)),k≤L.length→(leftF L r k xs).2≤L.length
  | [],k,xs,h=>h
  | c::r,k,xs,h=>by rw[leftF];exact leftF_k r _ _ (leftO_k _ _ _ h)
theorem leftF_fit {L:List Int}:∀ (r:List (List Opt)) (k:Nat) (xs:List (List Bool)),(leftF L r k xs).1.map List.length=xs.map List.length++r.map List.length
  | [],k,xs=>by simp[leftF]
  | c::r,k,xs=>by rw[leftF,leftF_fit r];simp[leftO_len]
theorem leftF_fits {L:List Int} {m:Mdl} {k:Nat}:FitsP m (leftF L m.cls k []).1:=by
  have h:=leftF_fit (L:=L) m.cls k []
  rw[List.map_nil,List.nil_append] at h
  have hl:=congrArg List.length h
  rw[List.length_map,List.length_map] at hl
  refine⟨hl,fun i hi=>?_⟩
  have h2:=congrArg (fun z=>z[i]?) h
  simp only[List.getElem?_map] at h2
  rw[List.getElem?_eq_getElem hi,List.getElem?_eq_getElem (by omega)] at h2
  simp only[Option.map_some,Option.some.injEq] at h2
  rw[List.getD_eq_getElem?_getD,List.getD_eq_getElem?_getD,List.getElem?_eq_getElem hi,List.getElem?_eq_getElem (by omega)]
  exact h2
set_option maxHeartbeats 4000000 in
theorem leftF_ok (m:Mdl) (hm:VM m) (L:List Int) (k:Nat) (hk:k≤L.length) (hL:L.length<1000000) :
    Holds Try.prog 12 [.ptr 0 0 0,.agg (eMdl m)] [dice L k] (.tree 1 (rowsOf eBs (leftF L m.cls k []).1)) [dice L (leftF L m.cls k []).2]:=by
  unfold dice
  have hc24:=hm.cls
  generalize hres:leftF L m.cls k []=res
  refine Holds.of_body' (fn:=Try.f12) 37 1 [.tmp 4] Try.func12 rfl rfl rfl rfl rfl (by simp) ?_
  repeat' (first|((first|((first|refine rr ?_|refine rre ?_);intro K hK)|with_reducible refine gO ?_);simp (disch:=omega) only[Ac,↓Pc,↓reduceIte,reduceCtorEq,reduceEqDiff,Nat.reduceBEq,reduceAdd,Nat.reduceLT,reduceLeDiff,reduceMul,reduceNeg,Int.reduceLT,reduceLE,reduceToNat])|(refine hK _ ?_;clear hK K)|(with_reducible refine gS (fun hb'=>?_) (fun hb'=>?_)<;>(have hb:=hb';(try simp only[DEc,reduceCtorEq] at hb);simp (disch:=omega) only[Ac,↓Pc,↓reduceIte,reduceCtorEq,reduceEqDiff,Nat.reduceBEq,reduceAdd,Nat.reduceLT,reduceLeDiff,reduceMul,reduceNeg,Int.reduceLT,reduceLE,reduceToNat,hb'];clear hb'))|(refine Wc (fun ht=>?_) (fun ht=>?_)<;>(try simp only[DEc,reduceCtorEq] at ht))|refine Wz rfl ?_|(refine Wb ?_;intro Qb hnb hxb heb)|(refine Wk ?_;intro Q hn he)|((first|refine hn _ ?_|refine he _ _ rfl ?_);clear hn he;try clear Q)|((first|refine hnb _ ?_|refine hxb _ ?_|refine heb _ _ rfl ?_);clear hnb hxb heb;try clear Qb)|(refine hel _ _ rfl ?_;clear hnl hel;try clear Ql)|(simp only[Qc,Kc,↓reduceIte,reduceEqDiff,Nat.reduceBEq])|with_reducible refine And.intro ?_ ?_|omega|with_reducible rfl)
  refine W_loopS (fun z:Nat × Nat × List (List Bool)=>(⟨slots [(0,.ptr 0 0 0),(3,.ptr 1 0 0),(5,.ref 2 1 0 z.2.2.length),(6,.lit (.int .i64 z.1))],[.var [.tree 1 (ints L),.lit (.int .i64 z.2.1)],.var (eMdl m),.arr 1 (rowsOf eBs z.2.2)]⟩:St))
    (fun z=>z.1≤m.cls.length∧z.2.1≤L.length∧z.2.2.length=z.1∧leftF L (m.cls.drop z.1) z.2.1 z.2.2=res) (fun z=>m.cls.length - z.1) (0,k,[]) ⟨Nat.zero_le _,hk,rfl,hres⟩ ?_ ?_
  · refine Turns.trans (Turns.nil 5 1 (by simp only[Kc,↓reduceIte,reduceEqDiff,Nat.reduceBEq]) (by decide)) ?_
    (refine Turns.slots _ _ rfl ?_;simp only[Tc,↓reduceIte,reduceEqDiff,Nat.reduceBEq,reduceAdd];try trivial)
  clear hk hres
  rintro ⟨i,k,xs⟩ ⟨hi,hk,hxl,hr⟩ Ql hnl hel
  dsimp only at hi hk hxl hr ⊢
  by_cases hi':i<m.cls.length
  · have hl24:=hm.opt _ (getD_mem (d:=(default:List Opt)) hi')
    have hd:=getD_drop0 m.cls i default hi'
    generalize hcc:m.cls.getD i default=c at *
    rw[hd,leftF] at hr
    have hrk:=leftO_k (L:=L) c.length k [] hk
    generalize hro:leftO L c.length k []=ro at *
    repeat' (first|((first|((first|refine rr ?_|refine rre ?_);intro K hK)|with_reducible refine gO ?_);simp (disch:=omega) only[Ac,↓Pc,↓reduceIte,reduceCtorEq,reduceEqDiff,Nat.reduceBEq,reduceAdd,Nat.reduceLT,reduceLeDiff,reduceMul,reduceNeg,Int.reduceLT,reduceLE,reduceToNat])|(refine hK _ ?_;clear hK K)|(with_reducible refine gS (fun hb'=>?_) (fun hb'=>?_)<;>(have hb:=hb';(try simp only[DEc,reduceCtorEq] at hb);simp (disch:=omega) only[Ac,↓Pc,↓reduceIte,reduceCtorEq,reduceEqDiff,Nat.reduceBEq,reduceAdd,Nat.reduceLT,reduceLeDiff,reduceMul,reduceNeg,Int.reduceLT,reduceLE,reduceToNat,hb'];clear hb'))|(refine Wc (fun ht=>?_) (fun ht=>?_)<;>(try simp only[DEc,reduceCtorEq] at ht))|refine Wz rfl ?_|(refine Wb ?_;intro Qb hnb hxb heb)|(refine Wk ?_;intro Q hn he)|((first|refine hn _ ?_|refine he _ _ rfl ?_);clear hn he;try clear Q)|((first|refine hnb _ ?_|refine hxb _ ?_|refine heb _ _ rfl ?_);clear hnb hxb heb;try clear Qb)|(simp only[Qc,Kc,↓reduceIte,reduceEqDiff,Nat.reduceBEq])|with_reducible refine And.intro ?_ ?_|omega|with_reducible rfl)
    refine W_loopS (fun z:Nat × Nat × List Bool=>(⟨slots [(0,.ptr 0 0 0),(3,.ptr 1 0 0),(5,.ref 2 1 0 xs.length),(6,.lit (.int .i64 i)),(7,.ref 3 1 0 z.2.2.length),(8,.lit (.int .i64 z.1))],[.var [.tree 1 (ints L),.lit (.int .i64 z.2.1)],.var (eMdl m),.arr 1 (rowsOf eBs xs),.arr 1 (bools z.2.2)]⟩:St))
      (fun z=>z.1≤c.length∧z.2.1≤L.length∧z.2.2.length=z.1∧leftO L (c.length - z.1) z.2.1 z.2.2=ro) (fun z=>c.length - z.1) (0,k,[]) ⟨Nat.zero_le _,hk,rfl,hro⟩ ?_ ?_
    · refine Turns.trans (Turns.nil 7 1 (by simp only[Kc,↓reduceIte,reduceEqDiff,Nat.reduceBEq]) (by decide)) ?_
      (refine Turns.slots _ _ rfl ?_;simp only[Tc,↓reduceIte,reduceEqDiff,Nat.reduceBEq,reduceAdd];try trivial)
    clear hk hro
    rintro ⟨o,k,bs⟩ ⟨ho,hk,hbl,hrb⟩ Ql2 hnl2 hel2
    dsimp only at ho hk hbl hrb ⊢
    by_cases ho':o<c.length
    · have hk2:=nextA_le hk
      rw[show c.length - o=(c.length - (o+1))+1 by omega,leftO] at hrb
      repeat' (first|((first|((first|refine rr ?_|refine rre ?_);intro K hK)|with_reducible refine gO ?_);simp (disch:=omega) only[Ac,↓Pc,↓reduceIte,reduceCtorEq,reduceEqDiff,Nat.reduceBEq,reduceAdd,Nat.reduceLT,reduceLeDiff,reduceMul,reduceNeg,Int.reduceLT,reduceLE,reduceToNat,hcc,eCls])|(refine hK _ ?_;clear hK K)|(with_reducible refine gS (fun hb'=>?_) (fun hb'=>?_)<;>(have hb:=hb';(try simp only[DEc,reduceCtorEq] at hb);simp (disch:=omega) only[Ac,↓Pc,↓reduceIte,reduceCtorEq,reduceEqDiff,Nat.reduceBEq,reduceAdd,Nat.reduceLT,reduceLeDiff,reduceMul,reduceNeg,Int.reduceLT,reduceLE,reduceToNat,hcc,eCls,hb'];clear hb'))|(refine Wc (fun ht=>?_) (fun ht=>?_)<;>(try simp only[DEc,reduceCtorEq] at ht))|refine Wz rfl ?_|(refine Wb ?_;intro Qb hnb hxb heb)|(refine Wk ?_;intro Q hn he)|((first|refine hn _ ?_|refine he _ _ rfl ?_);clear hn he;try clear Q)|((first|refine hnb _ ?_|refine hxb _ ?_|refine heb _ _ rfl ?_);clear hnb hxb heb;try clear Qb)|(simp only[Qc,Kc,↓reduceIte,reduceEqDiff,Nat.reduceBEq])|with_reducible refine And.intro ?_ ?_|omega|with_reducible rfl)
      refine callK_sel [0] (one_ok L k 3 (by unfold In64;omega) (by omega) hk hL) (by decide) ⟨rfl,trivial⟩ ⟨.eq rfl,.pure rfl,trivial⟩ ?_
      generalize oneV L k 3=b at *
      generalize nextA L k=k2 at *
      repeat' (first|((first|((first|refine rr ?_|refine rre ?_);intro K hK)|with_reducible refine gO ?_);simp (disch:=omega) only[Ac,↓Pc,↓reduceIte,reduceCtorEq,reduceEqDiff,Nat.reduceBEq,reduceAdd,Nat.reduceLT,reduceLeDiff,reduceMul,reduceNeg,Int.reduceLT,reduceLE,reduceToNat,hcc,eCls,bools_app1])|(refine hK _ ?_;clear hK K)|(with_reducible refine gS (fun hb'=>?_) (fun hb'=>?_)<;>(have hb:=hb';(try simp only[DEc,reduceCtorEq] at hb);simp (disch:=omega) only[Ac,↓Pc,↓reduceIte,reduceCtorEq,reduceEqDiff,Nat.reduceBEq,reduceAdd,Nat.reduceLT,reduceLeDiff,reduceMul,reduceNeg,Int.reduceLT,reduceLE,reduceToNat,hcc,eCls,bools_app1,hb'];clear hb'))|(refine Wc (fun ht=>?_) (fun ht=>?_)<;>(try simp only[DEc,reduceCtorEq] at ht))|refine Wz rfl ?_|(refine Wb ?_;intro Qb hnb hxb heb)|(refine Wk ?_;intro Q hn he)|((first|refine hn _ ?_|refine he _ _ rfl ?_);clear hn he;try clear Q)|((first|refine hnb _ ?_|refine hxb _ ?_|refine heb _ _ rfl ?_);clear hnb hxb heb;try clear Qb)|(simp only[Qc,Kc,↓reduceIte,reduceEqDiff,Nat.reduceBEq])|with_reducible refine And.intro ?_ ?_|omega|with_reducible rfl)
      refine hnl2 _ (o+1,k2,bs++[!b]) ⟨by dsimp only;omega,hk2,by simp;omega,hrb⟩ (by dsimp only;omega) ?_
      (refine Turns.se [0,1,2,5] false (by simp only[Oc,reduceCtorEq,reduceAdd,Nat.reduceLT,reduceLeDiff,reduceEqDiff,↓reduceIte]) ?_;simp only[Hr,↓reduceIte,reduceEqDiff,Nat.reduceBEq,reduceAdd];try (and_intros<;>first|exact .pure rfl|exact .eq rfl|exact .fz rfl (by simp only[Bc,Rc])))
    · have hoc:o=c.length:=by omega
      rw[hoc,Nat.sub_self,leftO] at hrb
      repeat' (first|((first|((first|refine rr ?_|refine rre ?_);intro K hK)|with_reducible refine gO ?_);simp (disch:=omega) only[Ac,↓Pc,↓reduceIte,reduceCtorEq,reduceEqDiff,Nat.reduceBEq,reduceAdd,Nat.reduceLT,reduceLeDiff,reduceMul,reduceNeg,Int.reduceLT,reduceLE,reduceToNat,hcc,eCls])|(refine hK _ ?_;clear hK K)|(with_reducible refine gS (fun hb'=>?_) (fun hb'=>?_)<;>(have hb:=hb';(try simp only[DEc,reduceCtorEq] at hb);simp (disch:=omega) only[Ac,↓Pc,↓reduceIte,reduceCtorEq,reduceEqDiff,Nat.reduceBEq,reduceAdd,Nat.reduceLT,reduceLeDiff,reduceMul,reduceNeg,Int.reduceLT,reduceLE,reduceToNat,hcc,eCls,hb'];clear hb'))|(refine Wc (fun ht=>?_) (fun ht=>?_)<;>(try simp only[DEc,reduceCtorEq] at ht))|refine Wz rfl ?_|(refine Wb ?_;intro Qb hnb hxb heb)|(refine Wk ?_;intro Q hn he)|((first|refine hn _ ?_|refine he _ _ rfl ?_);clear hn he;try clear Q)|((first|refine hnb _ ?_|refine hxb _ ?_|refine heb _ _ rfl ?_);clear hnb hxb heb;try clear Qb)|(simp only[Qc,Kc,↓reduceIte,reduceEqDiff,Nat.reduceBEq])|with_reducible refine And.intro ?_ ?_|omega|with_reducible rfl)
      refine hel2 _ _ rfl ?_
      clear hnl2 hel2 Ql2
      repeat (first|((first|refine hn _ ?_|refine he _ _ rfl ?_);clear hn he;try clear Q)|((first|refine hnb _ ?_|refine hxb _ ?_|refine heb _ _ rfl ?_);clear hnb hxb heb;try clear Qb)|(refine hel _ _ rfl ?_;clear hnl hel;try clear Ql))
      refine W_turn (σ':=⟨slots [(0,.ptr 0 0 0),(3,.ptr 1 0 0),(5,.ref 2 1 0 xs.length),(6,.lit (.int .i64 i)),(7,.tree 1 (bools bs))],[.var [.tree 1 (ints L),.lit (.int .i64 k)],.var (eMdl m),.arr 1 (rowsOf eBs xs)]⟩) (by (refine Turns.se [0,1,2] true (by simp only[Oc,reduceCtorEq,reduceAdd,Nat.reduceLT,reduceLeDiff,reduceEqDiff,↓reduceIte]) ?_;simp only[Hr,↓reduceIte,reduceEqDiff,Nat.reduceBEq,reduceAdd];try (and_intros<;>first|exact .pure rfl|exact .eq rfl|exact .fz rfl (by simp only[Bc,Rc])))) ?_
      rw[← hrb] at hr
      repeat' (first|((first|((first|refine rr ?_|refine rre ?_);intro K hK)|with_reducible refine gO ?_);simp (disch:=omega) only[Ac,↓Pc,↓reduceIte,reduceCtorEq,reduceEqDiff,Nat.reduceBEq,reduceAdd,Nat.reduceLT,reduceLeDiff,reduceMul,reduceNeg,Int.reduceLT,reduceLE,reduceToNat,eBs_app])|(refine hK _ ?_;clear hK K)|(with_reducible refine gS (fun hb'=>?_) (fun hb'=>?_)<;>(have hb:=hb';(try simp only[DEc,reduceCtorEq] at hb);simp (disch:=omega) only[Ac,↓Pc,↓reduceIte,reduceCtorEq,reduceEqDiff,Nat.reduceBEq,reduceAdd,Nat.reduceLT,reduceLeDiff,reduceMul,reduceNeg,Int.reduceLT,reduceLE,reduceToNat,eBs_app,hb'];clear hb'))|(refine Wc (fun ht=>?_) (fun ht=>?_)<;>(try simp only[DEc,reduceCtorEq] at ht))|refine Wz rfl ?_|(refine Wb ?_;intro Qb hnb hxb heb)|(refine Wk ?_;intro Q hn he)|((first|refine hn _ ?_|refine he _ _ rfl ?_);clear hn he;try clear Q)|((first|refine hnb _ ?_|refine hxb _ ?_|refine heb _ _ rfl ?_);clear hnb hxb heb;try clear Qb)|(simp only[Qc,Kc,↓reduceIte,reduceEqDiff,Nat.reduceBEq])|with_reducible refine And.intro ?_ ?_|omega|with_reducible rfl)
      refine hnl _ (i+1,k,xs++[bs]) ⟨by dsimp only;omega,hk,by simp;omega,hr⟩ (by dsimp only;omega) ?_
      (refine Turns.se [0,1,4] false (by simp only[Oc,reduceCtorEq,reduceAdd,Nat.reduceLT,reduceLeDiff,reduceEqDiff,↓reduceIte]) ?_;simp only[Hr,↓reduceIte,reduceEqDiff,Nat.reduceBEq,reduceAdd];try (and_intros<;>first|exact .pure rfl|exact .eq rfl|exact .fz rfl (by simp only[Bc,Rc])))
  · rw[List.drop_eq_nil_of_le (by omega),leftF] at hr
    repeat' (first|((first|((first|refine rr ?_|refine rre ?_);intro K hK)|with_reducible refine gO ?_);simp (disch:=omega) only[Ac,↓Pc,↓reduceIte,reduceCtorEq,reduceEqDiff,Nat.reduceBEq,reduceAdd,Nat.reduceLT,reduceLeDiff,reduceMul,reduceNeg,Int.reduceLT,reduceLE,reduceToNat])|(refine hK _ ?_;clear hK K)|(with_reducible refine gS (fun hb'=>?_) (fun hb'=>?_)<;>(have hb:=hb';(try simp only[DEc,reduceCtorEq] at hb);simp (disch:=omega) only[Ac,↓Pc,↓reduceIte,reduceCtorEq,reduceEqDiff,Nat.reduceBEq,reduceAdd,Nat.reduceLT,reduceLeDiff,reduceMul,reduceNeg,Int.reduceLT,reduceLE,reduceToNat,hb'];clear hb'))|(refine Wc (fun ht=>?_) (fun ht=>?_)<;>(try simp only[DEc,reduceCtorEq] at ht))|refine Wz rfl ?_|(refine Wb ?_;intro Qb hnb hxb heb)|(refine Wk ?_;intro Q hn he)|((first|refine hn _ ?_|refine he _ _ rfl ?_);clear hn he;try clear Q)|((first|refine hnb _ ?_|refine hxb _ ?_|refine heb _ _ rfl ?_);clear hnb hxb heb;try clear Qb)|(simp only[Qc,Kc,↓reduceIte,reduceEqDiff,Nat.reduceBEq])|with_reducible refine And.intro ?_ ?_|omega|with_reducible rfl)
    refine hel _ _ rfl ?_;clear hnl hel Ql
    repeat (first|((first|refine hn _ ?_|refine he _ _ rfl ?_);clear hn he;try clear Q)|((first|refine hnb _ ?_|refine hxb _ ?_|refine heb _ _ rfl ?_);clear hnb hxb heb;try clear Qb)|(refine hel _ _ rfl ?_;clear hnl hel;try clear Ql))
    repeat' (first|((first|((first|refine rr ?_|refine rre ?_);intro K hK)|with_reducible refine gO ?_);simp (disch:=omega) only[Ac,↓Pc,↓reduceIte,reduceCtorEq,reduceEqDiff,Nat.reduceBEq,reduceAdd,Nat.reduceLT,reduceLeDiff,reduceMul,reduceNeg,Int.reduceLT,reduceLE,reduceToNat])|(refine hK _ ?_;clear hK K)|(with_reducible refine gS (fun hb'=>?_) (fun hb'=>?_)<;>(have hb:=hb';(try simp only[DEc,reduceCtorEq] at hb);simp (disch:=omega) only[Ac,↓Pc,↓reduceIte,reduceCtorEq,reduceEqDiff,Nat.reduceBEq,reduceAdd,Nat.reduceLT,reduceLeDiff,reduceMul,reduceNeg,Int.reduceLT,reduceLE,reduceToNat,hb'];clear hb'))|(refine Wc (fun ht=>?_) (fun ht=>?_)<;>(try simp only[DEc,reduceCtorEq] at ht))|refine Wz rfl ?_|(refine Wb ?_;intro Qb hnb hxb heb)|(refine Wk ?_;intro Q hn he)|((first|refine hn _ ?_|refine he _ _ rfl ?_);clear hn he;try clear Q)|((first|refine hnb _ ?_|refine hxb _ ?_|refine heb _ _ rfl ?_);clear hnb hxb heb;try clear Qb)|(refine hel _ _ rfl ?_;clear hnl hel;try clear Ql)|(simp only[Qc,Kc,↓reduceIte,reduceEqDiff,Nat.reduceBEq])|with_reducible refine And.intro ?_ ?_|omega|with_reducible rfl)
    rw[← hr]
    (refine RetOK_se [0] true (by simp only[Oc,reduceCtorEq,reduceAdd,Nat.reduceLT,reduceLeDiff,reduceEqDiff,↓reduceIte]) ?_;first|exact .pure rfl|exact .eq rfl|exact .fz rfl (by simp only[Bc,Rc]))
end T

