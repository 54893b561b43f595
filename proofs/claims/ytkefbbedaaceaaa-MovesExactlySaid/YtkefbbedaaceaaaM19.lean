import Derived.Test.YtkefbbedaaceaaaM18b
import Derived.Test.YtkefbbedaaceaaaM13
import Derived.Test.YtkefbbedaaceaaaD2
import Derived.Test.YtkefbbedaaceaaaSA
import Derived.Test.YtkefbbedaaceaaaMS
set_option linter.unusedVariables false
set_option linter.unusedSimpArgs false
set_option linter.unnecessarySimpa false
open Go Go.Am Go.Proofs
open Nat (reduceEqDiff reduceAdd reduceLeDiff reduceMul)
open Int (reduceNeg reduceLE reduceToNat)
set_option maxRecDepth 20000
namespace T
def xrow (m:Mdl) (plan:List Int) (i:Nat):List Bool:=(List.replicate (m.cls.getD i default).length false).set (plan.getD i 0).toNat true
def xP (m:Mdl) (plan:List Int):List (List Bool):=(List.range m.cls.length).map (xrow m plan)
theorem xP_len (m:Mdl) (plan:List Int):(xP m plan).length=m.cls.length:=by simp[xP]
theorem xP_get {m:Mdl} {plan:List Int} {i:Nat} (hi:i<m.cls.length):(xP m plan).getD i default=xrow m plan i:=by
  unfold xP
  rw[map_getD _ _ _ (by simpa using hi),List.getD_eq_getElem?_getD,List.getElem?_range hi];rfl
theorem xP_fits {m:Mdl} {plan:List Int}:FitsP m (xP m plan):=⟨xP_len m plan,fun i hi=>by
  rw[xP_len] at hi
  rw[xP_get hi];simp[xrow]⟩
theorem xP_one {m:Mdl} {plan:List Int} (hp:FP m plan):OneP m (xP m plan) plan:=fun i hi j=>by
  have h:=fp_get hp hi
  rw[xP_get hi,xrow,List.getD_eq_getElem?_getD,List.getElem?_set]
  by_cases e:(plan.getD i 0).toNat=j
  · subst e
    rw[if_pos rfl,if_pos (by rw[List.length_replicate];omega),decide_eq_true rfl];rfl
  · rw[if_neg e,List.getElem?_replicate,decide_eq_false (Ne.symm e)]
    split<;>rfl
theorem value_one {m:Mdl} {plan:List Int} {l:List Mv} (hm:VM m) (hp:FP m plan) (hl:l.length≤12) (hb:∀ x∈l,mvB m x=true):valueT m (xP m plan) l=(totalL (rulesV m plan) 0,0):=by
  unfold valueT startV leafT
  rw[if_neg (by rw[if_neg (by rw[valid_iff.2 hm];simp),if_pos xP_fits];simp),if_neg (by omega),if_neg (by rw[List.all_eq_true.2 hb];simp),exact_law hm hp _ xP_fits (xP_one hp) l hb]
theorem xP_bb {m:Mdl} {plan:List Int} (hm:VM m):BB (xP m plan):=by
  have hc:=hm.cls
  refine⟨by rw[xP_len];omega,fun r hr=>?_⟩
  obtain ⟨i,hi,rfl⟩:=List.mem_map.1 hr
  have:=hm.opt _ (getD_mem (l:=m.cls) (i:=i) (d:=default) (by simpa using hi))
  show (xrow m plan i).length<_
  unfold xrow
  rw[List.length_set,List.length_replicate]
  omega
set_option maxRecDepth 10000 in
set_option maxHeartbeats 16000000 in
theorem exactly_ok (tape:List Int):Holds Try.prog 4 [.tree 1 (ints tape)] [] (.lit (.bool true)) []:=by
  refine Holds.of_body' (fn:=Try.f4) 78 0 [.tmp 2] Try.func4 rfl rfl rfl rfl rfl (by simp) ?_
  repeat' (first|((first|((first|refine rr ?_|refine rre ?_|refine rb ?_|refine rbe ?_|refine ra ?_|refine rae ?_);intro K hK)|with_reducible refine gO ?_);simp (disch:=omega) only[Ac,↓Pc,↓reduceIte,reduceCtorEq,reduceEqDiff,Nat.reduceBEq,reduceAdd,Nat.reduceLT,reduceLeDiff,reduceMul,reduceNeg,Int.reduceLT,reduceLE,reduceToNat])|(first|refine callK_pure (light_ok _) rfl rfl ?_|refine callQ_pure (light_ok _) rfl rfl ?_)|(first|refine callK_pure (awake_ok) rfl rfl ?_|refine callQ_pure (awake_ok) rfl rfl ?_)|(refine hK _ ?_;clear hK K)|(with_reducible refine gS (fun hb'=>?_) (fun hb'=>?_)<;>(have hb:=hb';(try simp only[DEc,reduceCtorEq] at hb);simp (disch:=omega) only[Ac,↓Pc,↓reduceIte,reduceCtorEq,reduceEqDiff,Nat.reduceBEq,reduceAdd,Nat.reduceLT,reduceLeDiff,reduceMul,reduceNeg,Int.reduceLT,reduceLE,reduceToNat,hb'];clear hb'))|(refine Wc (fun ht=>?_) (fun ht=>?_)<;>(try simp only[DEc,reduceCtorEq] at ht))|refine Wz rfl ?_|(refine Wb ?_;intro Qb hnb hxb heb)|(refine Wk ?_;intro Q hn he)|((first|refine hn _ ?_|refine he _ _ rfl ?_);clear hn he;try clear Q)|((first|refine hnb _ ?_|refine hxb _ ?_|refine heb _ _ rfl ?_);clear hnb hxb heb;try clear Qb)|(refine hel _ _ rfl ?_;clear hnl hel;try clear Ql)|(simp only[Qc,Kc,↓reduceIte,reduceEqDiff,Nat.reduceBEq])|with_reducible refine And.intro ?_ ?_|omega|with_reducible rfl)
  · exact RetOK_pure' rfl rfl
  have hL:tape.length<1000000:=by omega
  (refine callK_sel [] (roll_ok tape) (by decide) (by (repeat' (first|exact trivial|with_reducible refine And.intro ?_ ?_|refine And.intro ?_ ?_))<;>first|rfl|(rw[ints_ren];rfl)|(rw[bools_ren];rfl)|(rw[rows_ren];rfl)|(rw[intss_ren];rfl)) (by (repeat' (first|exact trivial|refine And.intro ?_ ?_))<;>(first|exact .pure rfl|exact .eq rfl|exact .fz rfl (by simp only[Bc,Rc]))) ?_;simp (disch:=omega) only[Ac,↓Pc,↓reduceIte,reduceCtorEq,reduceEqDiff,Nat.reduceBEq,reduceAdd,Nat.reduceLT,reduceLeDiff,reduceMul,reduceNeg,Int.reduceLT,reduceLE,reduceToNat])
  refine hK _ ?_;clear hK K
  refine W_turn (σ':=⟨slots [(3,.ptr 0 0 0)],[dice tape 0]⟩) (by unfold dice;(refine Turns.slots _ _ rfl ?_;simp only[Tc,↓reduceIte,reduceEqDiff,Nat.reduceBEq,reduceAdd];try trivial)) ?_
  have hmod:=model_ok tape 0 5 4 (Nat.zero_le _) hL (by decide) (by decide) (by decide)
  refine W_region_c 1 (by decide) _ rfl ?_
  intro K hK
  simp (disch:=omega) only[Ac,↓Pc,↓reduceIte,reduceCtorEq,reduceEqDiff,Nat.reduceBEq,reduceAdd,Nat.reduceLT,reduceLeDiff,reduceMul,reduceNeg,Int.reduceLT,reduceLE,reduceToNat,List.take,List.drop]
  refine⟨rfl,(show callKR Try.prog 11 [.ptr 0 0 0,.lit (.int .i64 (5:Nat)),.lit (.int .i64 (4:Nat))] (some 21) _ _ from ?_)⟩
  refine callKR_sel [0] hmod (by decide) ⟨rfl,trivial⟩ ⟨.eq rfl,.pure rfl,.pure rfl,trivial⟩ ?_
  rintro r os ⟨m,k,hm,hk,rfl,rfl⟩
  have hvm:=hm.vm
  unfold dice
  simp (disch:=omega) only[Ac,↓Pc,↓reduceIte,reduceCtorEq,reduceEqDiff,Nat.reduceBEq,reduceAdd,Nat.reduceLT,reduceLeDiff,reduceMul,reduceNeg,Int.reduceLT,reduceLE,reduceToNat]
  refine hK _ ?_;clear hK K
  have hsome:∀ l∈m.cls,1≤l.length:=fun l hl=>(hm.some l hl).1
  have h2:=plan_ok m hvm tape k true hk hL
  obtain ⟨hpm,hpos,hk2⟩:=plan_pm (L:=tape) (b:=true) (m:=m) (k:=k) (fun _=>hsome) hk
  generalize planF tape true m.cls k []=pf at *
  obtain ⟨plan,k2⟩:=pf
  dsimp only at *
  have hfp:=pm_fp hpm (hpos rfl)
  have hpl:=hpm.len
  have hc24:=hvm.cls
  have h3:=movesF_ok m hvm hsome tape k2 12 (by decide) hk2 hL
  obtain ⟨hml,hmb,hk3⟩:=movF_ok (L:=tape) (m:=m) (most:=12) hvm hsome hk2
  generalize movF tape m 12 k2=mf at *
  obtain ⟨mvs,k3⟩:=mf
  dsimp only at *
  have h4:=value_ok m (xP m plan) mvs hvm.mb (xP_bb hvm) (by omega)
  have h5:=refCost_ok m plan hvm.mb (by omega)
  rw[value_one hvm hfp hml hmb] at h4
  rw[costT_ok hvm hpm] at h5
  dsimp only at h4 h5
  generalize totalL (rulesV m plan) 0=tot at *
  unfold dice at h2 h3
  repeat' (first|((first|((first|refine rr ?_|refine rre ?_);intro K hK)|with_reducible refine gO ?_);simp (disch:=omega) only[Ac,↓Pc,↓reduceIte,reduceCtorEq,reduceEqDiff,Nat.reduceBEq,reduceAdd,Nat.reduceLT,reduceLeDiff,reduceMul,reduceNeg,Int.reduceLT,reduceLE,reduceToNat])|(refine hK _ ?_;clear hK K)|(with_reducible refine gS (fun hb'=>?_) (fun hb'=>?_)<;>(have hb:=hb';(try simp only[DEc,reduceCtorEq] at hb);simp (disch:=omega) only[Ac,↓Pc,↓reduceIte,reduceCtorEq,reduceEqDiff,Nat.reduceBEq,reduceAdd,Nat.reduceLT,reduceLeDiff,reduceMul,reduceNeg,Int.reduceLT,reduceLE,reduceToNat,hb'];clear hb'))|(refine Wc (fun ht=>?_) (fun ht=>?_)<;>(try simp only[DEc,reduceCtorEq] at ht))|refine Wz rfl ?_|(refine Wb ?_;intro Qb hnb hxb heb)|(refine Wk ?_;intro Q hn he)|((first|refine hn _ ?_|refine he _ _ rfl ?_);clear hn he;try clear Q)|((first|refine hnb _ ?_|refine hxb _ ?_|refine heb _ _ rfl ?_);clear hnb hxb heb;try clear Qb)|(refine hel _ _ rfl ?_;clear hnl hel;try clear Ql)|(simp only[Qc,Kc,↓reduceIte,reduceEqDiff,Nat.reduceBEq])|with_reducible refine And.intro ?_ ?_|omega|with_reducible rfl)
  (refine callK_sel [0] (h2) (by decide) (by (repeat' (first|exact trivial|with_reducible refine And.intro ?_ ?_|refine And.intro ?_ ?_))<;>first|rfl|(rw[ints_ren];rfl)|(rw[bools_ren];rfl)|(rw[rows_ren];rfl)|(rw[intss_ren];rfl)) (by (repeat' (first|exact trivial|refine And.intro ?_ ?_))<;>(first|exact .pure rfl|exact .eq rfl|exact .fz rfl (by simp only[Bc,Rc]))) ?_;simp (disch:=omega) only[Ac,↓Pc,↓reduceIte,reduceCtorEq,reduceEqDiff,Nat.reduceBEq,reduceAdd,Nat.reduceLT,reduceLeDiff,reduceMul,reduceNeg,Int.reduceLT,reduceLE,reduceToNat])
  refine hK _ ?_;clear hK K
  repeat' (first|((first|((first|refine rr ?_|refine rre ?_);intro K hK)|with_reducible refine gO ?_);simp (disch:=omega) only[Ac,↓Pc,↓reduceIte,reduceCtorEq,reduceEqDiff,Nat.reduceBEq,reduceAdd,Nat.reduceLT,reduceLeDiff,reduceMul,reduceNeg,Int.reduceLT,reduceLE,reduceToNat])|(refine hK _ ?_;clear hK K)|(with_reducible refine gS (fun hb'=>?_) (fun hb'=>?_)<;>(have hb:=hb';(try simp only[DEc,reduceCtorEq] at hb);simp (disch:=omega) only[Ac,↓Pc,↓reduceIte,reduceCtorEq,reduceEqDiff,Nat.reduceBEq,reduceAdd,Nat.reduceLT,reduceLeDiff,reduceMul,reduceNeg,Int.reduceLT,reduceLE,reduceToNat,hb'];clear hb'))|(refine Wc (fun ht=>?_) (fun ht=>?_)<;>(try simp only[DEc,reduceCtorEq] at ht))|refine Wz rfl ?_|(refine Wb ?_;intro Qb hnb hxb heb)|(refine Wk ?_;intro Q hn he)|((first|refine hn _ ?_|refine he _ _ rfl ?_);clear hn he;try clear Q)|((first|refine hnb _ ?_|refine hxb _ ?_|refine heb _ _ rfl ?_);clear hnb hxb heb;try clear Qb)|(refine hel _ _ rfl ?_;clear hnl hel;try clear Ql)|(simp only[Qc,Kc,↓reduceIte,reduceEqDiff,Nat.reduceBEq])|with_reducible refine And.intro ?_ ?_|omega|with_reducible rfl)
  refine W_loopS (fun z:Nat × List (List Bool)=>(⟨slots [(3,.ptr 0 0 0),(4,.ptr 1 0 0),(5,.tree 1 (ints plan)),(6,.ref 2 1 0 z.2.length),(7,.lit (.int .i64 z.1))],[dice tape k2,.var (eMdl m),.arr 1 (rowsOf eBs z.2)]⟩:St))
    (fun z=>z.1≤m.cls.length∧z.2=(xP m plan).take z.1) (fun z=>m.cls.length - z.1) (0,[]) ⟨Nat.zero_le _,rfl⟩ ?_ ?_
  · unfold dice
    refine Turns.trans (Turns.nil 6 1 (by simp only[Kc,↓reduceIte,reduceEqDiff,Nat.reduceBEq]) (by decide)) ?_
    (refine Turns.slots _ _ rfl ?_;simp only[Tc,↓reduceIte,reduceEqDiff,Nat.reduceBEq,reduceAdd];try trivial)
  rintro ⟨i,xs⟩ ⟨hi,hxs⟩ Ql hnl hel
  dsimp only at hi hxs ⊢
  unfold dice
  by_cases hi':i<m.cls.length
  · have hxt:xs.length=i:=by rw[hxs,List.length_take,xP_len];omega
    have hts:xs++[xrow m plan i]=(xP m plan).take (i+1):=by rw[take_snoc (by rw[xP_len];exact hi'),xP_get hi',hxs]
    have hg:=fp_get hfp hi'
    have hl24:=hvm.opt _ (getD_mem (l:=m.cls) (i:=i) (d:=default) hi')
    unfold xrow at hts
    generalize hcc:m.cls.getD i default=c at *
    generalize hoo:plan.getD i 0=o at *
    have hrl:(List.replicate c.length false).length=c.length:=List.length_replicate
    repeat' (first|((first|((fail_if_success (first|refine W_at 12 ?_|refine W_atE 12 ?_));(first|refine rr ?_|refine rre ?_);intro K hK)|with_reducible refine gO ?_);simp (disch:=omega) only[Ac,↓Pc,↓reduceIte,reduceCtorEq,reduceEqDiff,Nat.reduceBEq,reduceAdd,Nat.reduceLT,reduceLeDiff,reduceMul,reduceNeg,Int.reduceLT,reduceLE,reduceToNat,hcc,hoo,eCls,hrl,bools_set])|(refine hK _ ?_;clear hK K)|(with_reducible refine gS (fun hb'=>?_) (fun hb'=>?_)<;>(have hb:=hb';(try simp only[DEc,reduceCtorEq] at hb);simp (disch:=omega) only[Ac,↓Pc,↓reduceIte,reduceCtorEq,reduceEqDiff,Nat.reduceBEq,reduceAdd,Nat.reduceLT,reduceLeDiff,reduceMul,reduceNeg,Int.reduceLT,reduceLE,reduceToNat,hcc,hoo,eCls,hrl,bools_set,hb'];clear hb'))|(refine Wc (fun ht=>?_) (fun ht=>?_)<;>(try simp only[DEc,reduceCtorEq] at ht))|refine Wz rfl ?_|(refine Wb ?_;intro Qb hnb hxb heb)|(refine Wk ?_;intro Q hn he)|((first|refine hn _ ?_|refine he _ _ rfl ?_);clear hn he;try clear Q)|((first|refine hnb _ ?_|refine hxb _ ?_|refine heb _ _ rfl ?_);clear hnb hxb heb;try clear Qb)|(simp only[Qc,Kc,↓reduceIte,reduceEqDiff,Nat.reduceBEq])|with_reducible refine And.intro ?_ ?_|omega|with_reducible rfl)
    refine W_turn (σ':=⟨slots [(3,.ptr 0 0 0),(4,.ptr 1 0 0),(5,.tree 1 (ints plan)),(6,.ref 2 1 0 xs.length),(7,.lit (.int .i64 i)),(8,.tree 1 (bools ((List.replicate c.length false).set o.toNat true)))],[dice tape k2,.var (eMdl m),.arr 1 (rowsOf eBs xs)]⟩) (by unfold dice;(refine Turns.se [0,1,2] true (by simp only[Oc,reduceCtorEq,reduceAdd,Nat.reduceLT,reduceLeDiff,reduceEqDiff,↓reduceIte,List.length_set,List.length_replicate]) ?_;simp only[Hr,↓reduceIte,reduceEqDiff,Nat.reduceBEq,reduceAdd,List.length_set,List.length_replicate];try (and_intros<;>first|exact .pure rfl|exact .eq rfl|exact .fz rfl (by simp only[Bc,Rc])))) ?_
    unfold dice
    repeat' (first|((first|((first|refine rr ?_|refine rre ?_);intro K hK)|with_reducible refine gO ?_);simp (disch:=omega) only[Ac,↓Pc,↓reduceIte,reduceCtorEq,reduceEqDiff,Nat.reduceBEq,reduceAdd,Nat.reduceLT,reduceLeDiff,reduceMul,reduceNeg,Int.reduceLT,reduceLE,reduceToNat,eBs_app])|(refine hK _ ?_;clear hK K)|(with_reducible refine gS (fun hb'=>?_) (fun hb'=>?_)<;>(have hb:=hb';(try simp only[DEc,reduceCtorEq] at hb);simp (disch:=omega) only[Ac,↓Pc,↓reduceIte,reduceCtorEq,reduceEqDiff,Nat.reduceBEq,reduceAdd,Nat.reduceLT,reduceLeDiff,reduceMul,reduceNeg,Int.reduceLT,reduceLE,reduceToNat,eBs_app,hb'];clear hb'))|(refine Wc (fun ht=>?_) (fun ht=>?_)<;>(try simp only[DEc,reduceCtorEq] at ht))|refine Wz rfl ?_|(refine Wb ?_;intro Qb hnb hxb heb)|(refine Wk ?_;intro Q hn he)|((first|refine hn _ ?_|refine he _ _ rfl ?_);clear hn he;try clear Q)|((first|refine hnb _ ?_|refine hxb _ ?_|refine heb _ _ rfl ?_);clear hnb hxb heb;try clear Qb)|(simp only[Qc,Kc,↓reduceIte,reduceEqDiff,Nat.reduceBEq])|with_reducible refine And.intro ?_ ?_|omega|with_reducible rfl)
    rw[hts]
    refine hnl _ (i+1,(xP m plan).take (i+1)) ⟨by dsimp only;omega,rfl⟩ (by dsimp only;omega) ?_
    rw[← hts]
    unfold dice
    (refine Turns.se [0,1,4] false (by simp only[Oc,reduceCtorEq,reduceAdd,Nat.reduceLT,reduceLeDiff,reduceEqDiff,↓reduceIte]) ?_;simp only[Hr,↓reduceIte,reduceEqDiff,Nat.reduceBEq,reduceAdd];try (and_intros<;>first|exact .pure rfl|exact .eq rfl|exact .fz rfl (by simp only[Bc,Rc])))
  rw[List.take_of_length_le (by rw[xP_len];omega)] at hxs
  repeat' (first|((first|((first|refine rr ?_|refine rre ?_);intro K hK)|with_reducible refine gO ?_);simp (disch:=omega) only[Ac,↓Pc,↓reduceIte,reduceCtorEq,reduceEqDiff,Nat.reduceBEq,reduceAdd,Nat.reduceLT,reduceLeDiff,reduceMul,reduceNeg,Int.reduceLT,reduceLE,reduceToNat])|(refine hK _ ?_;clear hK K)|(with_reducible refine gS (fun hb'=>?_) (fun hb'=>?_)<;>(have hb:=hb';(try simp only[DEc,reduceCtorEq] at hb);simp (disch:=omega) only[Ac,↓Pc,↓reduceIte,reduceCtorEq,reduceEqDiff,Nat.reduceBEq,reduceAdd,Nat.reduceLT,reduceLeDiff,reduceMul,reduceNeg,Int.reduceLT,reduceLE,reduceToNat,hb'];clear hb'))|(refine Wc (fun ht=>?_) (fun ht=>?_)<;>(try simp only[DEc,reduceCtorEq] at ht))|refine Wz rfl ?_|(refine Wb ?_;intro Qb hnb hxb heb)|(refine Wk ?_;intro Q hn he)|((first|refine hn _ ?_|refine he _ _ rfl ?_);clear hn he;try clear Q)|((first|refine hnb _ ?_|refine hxb _ ?_|refine heb _ _ rfl ?_);clear hnb hxb heb;try clear Qb)|(simp only[Qc,Kc,↓reduceIte,reduceEqDiff,Nat.reduceBEq])|with_reducible refine And.intro ?_ ?_|omega|with_reducible rfl)
  refine hel _ _ rfl ?_;clear hnl hel Ql
  repeat (first|((first|refine hn _ ?_|refine he _ _ rfl ?_);clear hn he;try clear Q)|((first|refine hnb _ ?_|refine hxb _ ?_|refine heb _ _ rfl ?_);clear hnb hxb heb;try clear Qb)|(refine hel _ _ rfl ?_;clear hnl hel;try clear Ql))
  refine W_turn (σ':=⟨slots [(3,.ptr 0 0 0),(4,.ptr 1 0 0),(5,.tree 1 (ints plan)),(6,.tree 1 (rowsOf eBs xs))],[dice tape k2,.var (eMdl m)]⟩) (by unfold dice;(refine Turns.se [0,1] true (by simp only[Oc,reduceCtorEq,reduceAdd,Nat.reduceLT,reduceLeDiff,reduceEqDiff,↓reduceIte]) ?_;simp only[Hr,↓reduceIte,reduceEqDiff,Nat.reduceBEq,reduceAdd];try (and_intros<;>first|exact .pure rfl|exact .eq rfl|exact .fz rfl (by simp only[Bc,Rc])))) ?_
  subst hxs
  unfold dice
  refine Wk ?_;intro Q hn he
  refine join_here ⟨slots [(4,.ptr 0 0 0),(5,.tree 1 (ints plan)),(9,.lit (.int .i64 tot)),(10,.lit (.int .i64 0))],[.var (eMdl m)]⟩ hn ?_ (fun key=>?_)
  rotate_left
  · refine W_draw [] (.take 1 (.take 2 (.take 3 (.both 0 (.take 4 (.take 5 (.take 6 (.take 7 (.take 8 (.take 9 (.take 10 .nil))))))) 4 (.take 0 (.take 5 (.take 6 (.take 7 (.take 8 (.take 9 (.take 10 .nil))))))))))) rfl (by decide) (by decide +kernel) ?_
    simp (disch:=omega) only[Ac,↓Pc,↓reduceIte,reduceCtorEq,reduceEqDiff,Nat.reduceBEq,reduceAdd,Nat.reduceLT,reduceLeDiff,reduceMul,reduceNeg,Int.reduceLT,reduceLE,reduceToNat,planW_three,planW_both,planW_take,planW_nil,stepAt,stepD]
    repeat' (first|with_reducible refine And.intro ?_ ?_|omega|with_reducible rfl)
    all_goals
      (refine callK_sel [0] (h3) (by decide) (by (repeat' (first|exact trivial|with_reducible refine And.intro ?_ ?_|refine And.intro ?_ ?_))<;>first|rfl|(rw[ints_ren];rfl)|(rw[bools_ren];rfl)|(rw[rows_ren];rfl)|(rw[intss_ren];rfl)) (by (repeat' (first|exact trivial|refine And.intro ?_ ?_))<;>(first|exact .pure rfl|exact .eq rfl|exact .fz rfl (by simp only[Bc,Rc]))) ?_;simp (disch:=omega) only[Ac,↓Pc,↓reduceIte,reduceCtorEq,reduceEqDiff,Nat.reduceBEq,reduceAdd,Nat.reduceLT,reduceLeDiff,reduceMul,reduceNeg,Int.reduceLT,reduceLE,reduceToNat,planW_three,planW_both,planW_take,planW_nil,stepAt,stepD])
      repeat' (first|with_reducible refine And.intro ?_ ?_|omega|with_reducible rfl)
    all_goals
      (refine callK_sel [] (h4) (by decide) (by (repeat' (first|exact trivial|with_reducible refine And.intro ?_ ?_|refine And.intro ?_ ?_))<;>first|rfl|(rw[ints_ren];rfl)|(rw[bools_ren];rfl)|(rw[rows_ren];rfl)|(rw[intss_ren];rfl)) (by (repeat' (first|exact trivial|refine And.intro ?_ ?_))<;>(first|exact .pure rfl|exact .eq rfl|exact .fz rfl (by simp only[Bc,Rc]))) ?_;simp (disch:=omega) only[Ac,↓Pc,↓reduceIte,reduceCtorEq,reduceEqDiff,Nat.reduceBEq,reduceAdd,Nat.reduceLT,reduceLeDiff,reduceMul,reduceNeg,Int.reduceLT,reduceLE,reduceToNat,planW_three,planW_both,planW_take,planW_nil,stepAt,stepD])
      refine key _ ?_
      (refine Turns.se [1] true (by simp only[Oc,reduceCtorEq,reduceAdd,Nat.reduceLT,reduceLeDiff,reduceEqDiff,↓reduceIte]) ?_;simp only[Hr,↓reduceIte,reduceEqDiff,Nat.reduceBEq,reduceAdd];try (and_intros<;>first|exact .pure rfl|exact .eq rfl|exact .fz rfl (by simp only[Bc,Rc])))
  clear hn he
  try clear Q
  repeat' (first|((first|((first|refine rr ?_|refine rre ?_|refine rb ?_|refine rbe ?_|refine ra ?_|refine rae ?_);intro K hK)|with_reducible refine gO ?_);simp (disch:=omega) only[Ac,↓Pc,↓reduceIte,reduceCtorEq,reduceEqDiff,Nat.reduceBEq,reduceAdd,Nat.reduceLT,reduceLeDiff,reduceMul,reduceNeg,Int.reduceLT,reduceLE,reduceToNat])|(first|refine callK_pure (h5) rfl rfl ?_|refine callQ_pure (h5) rfl rfl ?_)|(first|refine callK_pure (awake_ok) rfl rfl ?_|refine callQ_pure (awake_ok) rfl rfl ?_)|(refine hK _ ?_;clear hK K)|(with_reducible refine gS (fun hb'=>?_) (fun hb'=>?_)<;>(have hb:=hb';(try simp only[DEc,reduceCtorEq] at hb);simp (disch:=omega) only[Ac,↓Pc,↓reduceIte,reduceCtorEq,reduceEqDiff,Nat.reduceBEq,reduceAdd,Nat.reduceLT,reduceLeDiff,reduceMul,reduceNeg,Int.reduceLT,reduceLE,reduceToNat,hb'];clear hb'))|(refine Wc (fun ht=>?_) (fun ht=>?_)<;>(try simp only[DEc,reduceCtorEq] at ht))|refine Wz rfl ?_|(refine Wb ?_;intro Qb hnb hxb heb)|(refine Wk ?_;intro Q hn he)|((first|refine hn _ ?_|refine he _ _ rfl ?_);clear hn he;try clear Q)|((first|refine hnb _ ?_|refine hxb _ ?_|refine heb _ _ rfl ?_);clear hnb hxb heb;try clear Qb)|(refine hel _ _ rfl ?_;clear hnl hel;try clear Ql)|(simp only[Qc,Kc,↓reduceIte,reduceEqDiff,Nat.reduceBEq])|with_reducible refine And.intro ?_ ?_|omega|with_reducible rfl)
  exact RetOK_pure' rfl rfl
end T

