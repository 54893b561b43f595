import Derived.Test.YtkefbbedaaceaaaM18b
import Derived.Test.YtkefbbedaaceaaaM18d
import Derived.Test.YtkefbbedaaceaaaM20
import Derived.Test.YtkefbbedaaceaaaMN
set_option linter.unusedVariables false
set_option linter.unusedSimpArgs false
set_option linter.unnecessarySimpa false
open Go Go.Am Go.Proofs
open Nat (reduceEqDiff reduceAdd reduceLeDiff reduceMul)
open Int (reduceNeg reduceLE reduceToNat)
set_option maxRecDepth 20000
namespace T
theorem fits_same {m:Mdl} {x y:List (List Bool)} (h:FitsP m x) (he:y.map List.length=x.map List.length):FitsP m y:=by
  have hl:=congrArg List.length he
  rw[List.length_map,List.length_map] at hl
  refine⟨by rw[hl];exact h.1,fun i hi=>?_⟩
  have h2:=congrArg (fun z=>z[i]?) he
  simp only[List.getElem?_map] at h2
  rw[List.getElem?_eq_getElem hi,List.getElem?_eq_getElem (by omega)] at h2
  simp only[Option.map_some,Option.some.injEq] at h2
  rw[← h.2 i (by omega),List.getD_eq_getElem?_getD,List.getD_eq_getElem?_getD,List.getElem?_eq_getElem hi,List.getElem?_eq_getElem (by omega)]
  exact h2
theorem len_set {x:List (List Bool)} {i:Nat} {r:List Bool} (hr:r.length=(x.getD i default).length):(x.set i r).map List.length=x.map List.length:=by
  apply List.ext_getElem?
  intro j
  rw[List.getElem?_map,List.getElem?_map,List.getElem?_set]
  split
  · rename_i e;subst e
    split
    · rename_i h2;rw[List.getElem?_eq_getElem h2] ;rw[List.getD_eq_getElem?_getD,List.getElem?_eq_getElem h2] at hr;simpa using hr
    · rename_i h2;rw[List.getElem?_eq_none (by omega)]
  · rfl
set_option maxRecDepth 10000 in
set_option maxHeartbeats 16000000 in
theorem narrows_ok (tape:List Int) (cl:Int):Holds Try.prog 5 [.tree 1 (ints tape),.lit (.int .i64 cl)] [] (.lit (.bool true)) []:=by
  refine Holds.of_body' (fn:=Try.f5) 136 0 [.tmp 4] Try.func5 rfl rfl rfl rfl rfl (by simp) ?_
  repeat' (first|((first|((first|refine rr ?_|refine rre ?_|refine rb ?_|refine rbe ?_|refine ra ?_|refine rae ?_);intro K hK)|with_reducible refine gO ?_);simp (disch:=omega) only[Ac,↓Pc,↓reduceIte,reduceCtorEq,reduceEqDiff,Nat.reduceBEq,reduceAdd,Nat.reduceLT,reduceLeDiff,reduceMul,reduceNeg,Int.reduceLT,reduceLE,reduceToNat])|(first|refine callK_pure (light_ok _) rfl rfl ?_|refine callQ_pure (light_ok _) rfl rfl ?_)|(first|refine callK_pure (awake_ok) rfl rfl ?_|refine callQ_pure (awake_ok) rfl rfl ?_)|(refine hK _ ?_;clear hK K)|(with_reducible refine gS (fun hb'=>?_) (fun hb'=>?_)<;>(have hb:=hb';(try simp only[DEc,reduceCtorEq] at hb);simp (disch:=omega) only[Ac,↓Pc,↓reduceIte,reduceCtorEq,reduceEqDiff,Nat.reduceBEq,reduceAdd,Nat.reduceLT,reduceLeDiff,reduceMul,reduceNeg,Int.reduceLT,reduceLE,reduceToNat,hb'];clear hb'))|(refine Wc (fun ht=>?_) (fun ht=>?_)<;>(try simp only[DEc,reduceCtorEq] at ht))|refine Wz rfl ?_|(refine Wb ?_;intro Qb hnb hxb heb)|(refine Wk ?_;intro Q hn he)|((first|refine hn _ ?_|refine he _ _ rfl ?_);clear hn he;try clear Q)|((first|refine hnb _ ?_|refine hxb _ ?_|refine heb _ _ rfl ?_);clear hnb hxb heb;try clear Qb)|(refine hel _ _ rfl ?_;clear hnl hel;try clear Ql)|(simp only[Qc,Kc,↓reduceIte,reduceEqDiff,Nat.reduceBEq])|with_reducible refine And.intro ?_ ?_|omega|with_reducible rfl)
  · exact RetOK_pure' rfl rfl
  have hL:tape.length<1000000:=by omega
  (refine callK_sel [] (roll_ok tape) (by decide) (by (repeat' (first|exact trivial|with_reducible refine And.intro ?_ ?_|refine And.intro ?_ ?_))<;>first|rfl|(rw[ints_ren];rfl)|(rw[bools_ren];rfl)|(rw[rows_ren];rfl)|(rw[intss_ren];rfl)) (by (repeat' (first|exact trivial|refine And.intro ?_ ?_))<;>(first|exact .pure rfl|exact .eq rfl|exact .fz rfl (by simp only[Bc,Rc]))) ?_;simp (disch:=omega) only[Ac,↓Pc,↓reduceIte,reduceCtorEq,reduceEqDiff,Nat.reduceBEq,reduceAdd,Nat.reduceLT,reduceLeDiff,reduceMul,reduceNeg,Int.reduceLT,reduceLE,reduceToNat])
  refine hK _ ?_;clear hK K
  refine W_turn (σ':=⟨slots [(1,.lit (.int .i64 cl)),(5,.ptr 0 0 0)],[dice tape 0]⟩) (by unfold dice;(refine Turns.slots _ _ rfl ?_;simp only[Tc,↓reduceIte,reduceEqDiff,Nat.reduceBEq,reduceAdd];try trivial)) ?_
  have hmod:=model_ok tape 0 4 4 (Nat.zero_le _) hL (by decide) (by decide) (by decide)
  refine W_region_c 1 (by decide) _ rfl ?_
  intro K hK
  simp (disch:=omega) only[Ac,↓Pc,↓reduceIte,reduceCtorEq,reduceEqDiff,Nat.reduceBEq,reduceAdd,Nat.reduceLT,reduceLeDiff,reduceMul,reduceNeg,Int.reduceLT,reduceLE,reduceToNat,List.take,List.drop]
  refine⟨rfl,(show callKR Try.prog 11 [.ptr 0 0 0,.lit (.int .i64 (4:Nat)),.lit (.int .i64 (4:Nat))] (some 25) _ _ from ?_)⟩
  refine callKR_sel [0] hmod (by decide) ⟨rfl,trivial⟩ ⟨.eq rfl,.pure rfl,.pure rfl,trivial⟩ ?_
  rintro r os ⟨m,k,hm,hk,rfl,rfl⟩
  have hvm:=hm.vm
  unfold dice
  simp (disch:=omega) only[Ac,↓Pc,↓reduceIte,reduceCtorEq,reduceEqDiff,Nat.reduceBEq,reduceAdd,Nat.reduceLT,reduceLeDiff,reduceMul,reduceNeg,Int.reduceLT,reduceLE,reduceToNat]
  refine hK _ ?_;clear hK K
  refine W_turn (Turns.frzP 6 1 (cells:=eMdl m) (by rfl) (by simp only[Kc,↓reduceIte,reduceEqDiff,Nat.reduceBEq]) (by simp[eMdl])) ?_
  refine W_turn (σ':=⟨slots [(1,.lit (.int .i64 cl)),(5,.ptr 0 0 0),(6,.taddr (eMdl m))],[dice tape k]⟩) (by unfold dice;(refine Turns.se [0] false (by simp only[Oc,reduceCtorEq,reduceAdd,Nat.reduceLT,reduceLeDiff,reduceEqDiff,↓reduceIte]) ?_;simp only[Hr,↓reduceIte,reduceEqDiff,Nat.reduceBEq,reduceAdd];try (and_intros<;>first|exact .pure rfl|exact .eq rfl|exact .fz rfl (by simp only[Bc,Rc])))) ?_
  have hsome:∀ l∈m.cls,1≤l.length:=fun l hl=>(hm.some l hl).1
  have h2:=leftF_ok m hvm tape k hk hL
  have hfx:=leftF_fits (L:=tape) (m:=m) (k:=k)
  have hk2:=leftF_k (L:=tape) m.cls k [] hk
  generalize leftF tape m.cls k []=lf at *
  obtain ⟨x,k2⟩:=lf
  dsimp only at *
  have h3:=leftO_ok m hvm tape k2 hk2 hL
  have hfy:=leftF_fits (L:=tape) (m:=m) (k:=k2)
  have hk3:=leftF_k (L:=tape) m.cls k2 [] hk2
  generalize leftF tape m.cls k2 []=lf at *
  obtain ⟨y,k3⟩:=lf
  dsimp only at *
  have hc24:=hvm.cls
  have hxl:=hfx.1
  have hyl:=hfy.1
  unfold dice at h2 h3
  refine Wk ?_;intro Q hn he
  have hdc:∀ q,dice tape q=.var [.tree 1 (ints tape),.lit (.int .i64 (q:Nat))]:=fun q=>rfl
  refine join_here ⟨slots [(1,.lit (.int .i64 cl)),(5,.ptr 0 0 0),(6,.taddr (eMdl m)),(7,.tree 1 (rowsOf eBs x)),(8,.ref 1 1 0 y.length)],nO (dice tape k3) (refsB 2 y) y⟩ hn ?_ (fun key=>?_)
  rotate_left
  · unfold dice
    refine W_draw [1,4] (.take 0 (.take 1 (.take 2 (.take 3 (.take 4 (.take 5 (.take 6 (.take 7 .nil)))))))) rfl (by decide) (by decide +kernel) ?_
    simp (disch:=omega) only[Ac,↓Pc,↓reduceIte,reduceCtorEq,reduceEqDiff,Nat.reduceBEq,reduceAdd,Nat.reduceLT,reduceLeDiff,reduceMul,reduceNeg,Int.reduceLT,reduceLE,reduceToNat,planW_three,planW_both,planW_take,planW_nil,stepAt,stepD,↓Lq]
    repeat' (first|with_reducible refine And.intro ?_ ?_|omega|with_reducible rfl)
    all_goals
      (refine callK_sel [0] (h2) (by decide) (by (repeat' (first|exact trivial|with_reducible refine And.intro ?_ ?_|refine And.intro ?_ ?_))<;>first|rfl|(rw[ints_ren];rfl)|(rw[bools_ren];rfl)|(rw[rows_ren];rfl)|(rw[intss_ren];rfl)) (by (repeat' (first|exact trivial|refine And.intro ?_ ?_))<;>(first|exact .pure rfl|exact .eq rfl|exact .fz rfl (by simp only[Bc,Rc]))) ?_;simp (disch:=omega) only[Ac,↓Pc,↓reduceIte,reduceCtorEq,reduceEqDiff,Nat.reduceBEq,reduceAdd,Nat.reduceLT,reduceLeDiff,reduceMul,reduceNeg,Int.reduceLT,reduceLE,reduceToNat,planW_three,planW_both,planW_take,planW_nil,stepAt,stepD,↓Lq])
      repeat' (first|with_reducible refine And.intro ?_ ?_|omega|with_reducible rfl)
    all_goals
      refine callK_all h3 (by simp) ?_
      simp (disch:=omega) only[Ac,↓Pc,↓reduceIte,reduceCtorEq,reduceEqDiff,Nat.reduceBEq,reduceAdd,Nat.reduceLT,reduceLeDiff,reduceMul,reduceNeg,Int.reduceLT,reduceLE,reduceToNat,planW_three,planW_both,planW_take,planW_nil,stepAt,stepD,↓Lq]
      refine key _ ?_
      unfold nO dice
      (refine Turns.slots _ _ rfl ?_;simp only[Tc,↓reduceIte,reduceEqDiff,Nat.reduceBEq,reduceAdd];try trivial)
  clear hn he h2 h3
  try clear Q
  have hrl:(refsB 2 y).length=y.length:=refsB_len 2 y
  repeat' (first|((first|((first|refine rr ?_|refine rre ?_);intro K hK)|with_reducible refine gO ?_);simp (disch:=omega) only[Ac,↓Pc,↓reduceIte,reduceCtorEq,reduceEqDiff,Nat.reduceBEq,reduceAdd,Nat.reduceLT,reduceLeDiff,reduceMul,reduceNeg,Int.reduceLT,reduceLE,reduceToNat])|(refine hK _ ?_;clear hK K)|(with_reducible refine gS (fun hb'=>?_) (fun hb'=>?_)<;>(have hb:=hb';(try simp only[DEc,reduceCtorEq] at hb);simp (disch:=omega) only[Ac,↓Pc,↓reduceIte,reduceCtorEq,reduceEqDiff,Nat.reduceBEq,reduceAdd,Nat.reduceLT,reduceLeDiff,reduceMul,reduceNeg,Int.reduceLT,reduceLE,reduceToNat,hb'];clear hb'))|(refine Wc (fun ht=>?_) (fun ht=>?_)<;>(try simp only[DEc,reduceCtorEq] at ht))|refine Wz rfl ?_|(refine Wb ?_;intro Qb hnb hxb heb)|(refine Wk ?_;intro Q hn he)|((first|refine hn _ ?_|refine he _ _ rfl ?_);clear hn he;try clear Q)|((first|refine hnb _ ?_|refine hxb _ ?_|refine heb _ _ rfl ?_);clear hnb hxb heb;try clear Qb)|(refine hel _ _ rfl ?_;clear hnl hel;try clear Ql)|(simp only[Qc,Kc,↓reduceIte,reduceEqDiff,Nat.reduceBEq])|with_reducible refine And.intro ?_ ?_|omega|with_reducible rfl)
  refine W_loopS (fun z:Nat × List (List Bool)=>(⟨slots [(1,.lit (.int .i64 cl)),(5,.ptr 0 0 0),(6,.taddr (eMdl m)),(7,.tree 1 (rowsOf eBs x)),(8,.ref 1 1 0 y.length),(9,.lit (.int .i64 z.1))],nO (dice tape k3) (refsB 2 y) z.2⟩:St))
    (fun z=>z.1≤m.cls.length∧z.2.map List.length=y.map List.length∧∀ a,a<z.1→∀ b,(z.2.getD a default).getD b false=true→(x.getD a default).getD b false=true) (fun z=>m.cls.length - z.1) (0,y) ⟨Nat.zero_le _,rfl,fun a ha=>absurd ha (Nat.not_lt_zero _)⟩ (by (refine Turns.slots _ _ rfl ?_;simp only[Tc,↓reduceIte,reduceEqDiff,Nat.reduceBEq,reduceAdd];try trivial)) ?_
  rintro ⟨i,Y⟩ ⟨hi,hY,hsub⟩ Ql hnl hel
  dsimp only at hi hY hsub ⊢
  have hYl:=congrArg List.length hY
  rw[List.length_map,List.length_map] at hYl
  have hfY:=fits_same hfy hY
  by_cases hi':i<m.cls.length
  · have hxi:=hfx.2 i (by omega)
    have hyi:=hfY.2 i (by omega)
    have hl24:=hvm.opt _ (getD_mem (l:=m.cls) (i:=i) (d:=default) hi')
    have hrg:=refsB_get 2 y i (by omega)
    have hyi2:(y.getD i default).length=(m.cls.getD i default).length:=hfy.2 i (by omega)
    rw[hyi2] at hrg
    have hyr:rowsOf eBs x=rowsOf eBs x:=rfl
    generalize hxx:x.getD i default=xi at *
    generalize hcc:(m.cls.getD i default).length=w at *
    repeat' (first|((first|((first|refine rr ?_|refine rre ?_);intro K hK)|with_reducible refine gO ?_);simp (disch:=omega) only[Ac,↓Pc,↓reduceIte,reduceCtorEq,reduceEqDiff,Nat.reduceBEq,reduceAdd,Nat.reduceLT,reduceLeDiff,reduceMul,reduceNeg,Int.reduceLT,reduceLE,reduceToNat,hxx,eBs])|(refine hK _ ?_;clear hK K)|(with_reducible refine gS (fun hb'=>?_) (fun hb'=>?_)<;>(have hb:=hb';(try simp only[DEc,reduceCtorEq] at hb);simp (disch:=omega) only[Ac,↓Pc,↓reduceIte,reduceCtorEq,reduceEqDiff,Nat.reduceBEq,reduceAdd,Nat.reduceLT,reduceLeDiff,reduceMul,reduceNeg,Int.reduceLT,reduceLE,reduceToNat,hxx,eBs,hb'];clear hb'))|(refine Wc (fun ht=>?_) (fun ht=>?_)<;>(try simp only[DEc,reduceCtorEq] at ht))|refine Wz rfl ?_|(refine Wb ?_;intro Qb hnb hxb heb)|(refine Wk ?_;intro Q hn he)|((first|refine hn _ ?_|refine he _ _ rfl ?_);clear hn he;try clear Q)|((first|refine hnb _ ?_|refine hxb _ ?_|refine heb _ _ rfl ?_);clear hnb hxb heb;try clear Qb)|(simp only[Qc,Kc,↓reduceIte,reduceEqDiff,Nat.reduceBEq])|with_reducible refine And.intro ?_ ?_|omega|with_reducible rfl)
    refine W_loopS (fun z:Nat × List Bool=>(⟨slots [(1,.lit (.int .i64 cl)),(5,.ptr 0 0 0),(6,.taddr (eMdl m)),(7,.tree 1 (rowsOf eBs x)),(8,.ref 1 1 0 y.length),(9,.lit (.int .i64 i)),(10,.lit (.int .i64 z.1))],nO (dice tape k3) (refsB 2 y) (Y.set i z.2)⟩:St))
      (fun z=>z.1≤w∧z.2.length=w∧∀ b,b<z.1→z.2.getD b false=true→xi.getD b false=true) (fun z=>w - z.1) (0,Y.getD i default) ⟨Nat.zero_le _,hyi,fun a ha=>absurd ha (Nat.not_lt_zero _)⟩ (by rw[set_self];(refine Turns.slots _ _ rfl ?_;simp only[Tc,↓reduceIte,reduceEqDiff,Nat.reduceBEq,reduceAdd];try trivial)) ?_
    rintro ⟨j,r⟩ ⟨hj,hr,hsr⟩ Ql2 hnl2 hel2
    dsimp only at hj hr hsr ⊢
    have hYs:(Y.set i r).length=Y.length:=List.length_set ..
    have f2:=nOk (dice tape k3) (refsB 2 y) (Y:=Y.set i r) (i:=i) (by omega)
    rw[getD_set _ _ _ (by omega)] at f2
    have f3:=fun r2=>nOs (dice tape k3) (refsB 2 y) (Y.set i r) i r2
    simp only[List.set_set] at f3
    by_cases hj':j<w
    · generalize hrj:r.getD j false=rj at *
      generalize hxj:xi.getD j false=xj at *
      repeat' (first|((first|((first|refine rr ?_|refine rre ?_);intro K hK)|with_reducible refine gO ?_);simp (disch:=omega) only[Ac,↓Pc,↓reduceIte,reduceCtorEq,reduceEqDiff,Nat.reduceBEq,reduceAdd,Nat.reduceLT,reduceLeDiff,reduceMul,reduceNeg,Int.reduceLT,reduceLE,reduceToNat,hxx,eBs,nO1,hrg,f2,f3,hrj,hxj,bools_set,hr])|(refine hK _ ?_;clear hK K)|(with_reducible refine gS (fun hb'=>?_) (fun hb'=>?_)<;>(have hb:=hb';(try simp only[DEc,reduceCtorEq] at hb);simp (disch:=omega) only[Ac,↓Pc,↓reduceIte,reduceCtorEq,reduceEqDiff,Nat.reduceBEq,reduceAdd,Nat.reduceLT,reduceLeDiff,reduceMul,reduceNeg,Int.reduceLT,reduceLE,reduceToNat,hxx,eBs,nO1,hrg,f2,f3,hrj,hxj,bools_set,hr,hb'];clear hb'))|(refine Wc (fun ht=>?_) (fun ht=>?_)<;>(try simp only[DEc,reduceCtorEq] at ht))|refine Wz rfl ?_|(refine Wb ?_;intro Qb hnb hxb heb)|(refine Wk ?_;intro Q hn he)|((first|refine hn _ ?_|refine he _ _ rfl ?_);clear hn he;try clear Q)|((first|refine hnb _ ?_|refine hxb _ ?_|refine heb _ _ rfl ?_);clear hnb hxb heb;try clear Qb)|(simp only[Qc,Kc,↓reduceIte,reduceEqDiff,Nat.reduceBEq])|with_reducible refine And.intro ?_ ?_|omega|with_reducible rfl)
      all_goals
        refine hnl2 _ (j+1,r.set j (rj && xj)) ⟨by dsimp only;omega,by dsimp only;rw[List.length_set];exact hr,fun b hb2=>?_⟩ (by dsimp only;omega) ?_
        · dsimp only at hb2 ⊢
          rw[List.getD_eq_getElem?_getD,List.getElem?_set]
          by_cases e:j=b
          · subst e
            rw[if_pos rfl,if_pos (by omega),Option.getD_some,hxj]
            intro h;rw[Bool.and_eq_true] at h;exact h.2
          · rw[if_neg e,← List.getD_eq_getElem?_getD]
            exact hsr b (by omega)
        · simp only[hb,Bool.false_and,Bool.true_and]
          (refine Turns.slots _ _ rfl ?_;simp only[Tc,↓reduceIte,reduceEqDiff,Nat.reduceBEq,reduceAdd];try trivial)
    · obtain rfl:j=w:=by omega
      repeat' (first|((first|((first|refine rr ?_|refine rre ?_);intro K hK)|with_reducible refine gO ?_);simp (disch:=omega) only[Ac,↓Pc,↓reduceIte,reduceCtorEq,reduceEqDiff,Nat.reduceBEq,reduceAdd,Nat.reduceLT,reduceLeDiff,reduceMul,reduceNeg,Int.reduceLT,reduceLE,reduceToNat,hxx,eBs])|(refine hK _ ?_;clear hK K)|(with_reducible refine gS (fun hb'=>?_) (fun hb'=>?_)<;>(have hb:=hb';(try simp only[DEc,reduceCtorEq] at hb);simp (disch:=omega) only[Ac,↓Pc,↓reduceIte,reduceCtorEq,reduceEqDiff,Nat.reduceBEq,reduceAdd,Nat.reduceLT,reduceLeDiff,reduceMul,reduceNeg,Int.reduceLT,reduceLE,reduceToNat,hxx,eBs,hb'];clear hb'))|(refine Wc (fun ht=>?_) (fun ht=>?_)<;>(try simp only[DEc,reduceCtorEq] at ht))|refine Wz rfl ?_|(refine Wb ?_;intro Qb hnb hxb heb)|(refine Wk ?_;intro Q hn he)|((first|refine hn _ ?_|refine he _ _ rfl ?_);clear hn he;try clear Q)|((first|refine hnb _ ?_|refine hxb _ ?_|refine heb _ _ rfl ?_);clear hnb hxb heb;try clear Qb)|(simp only[Qc,Kc,↓reduceIte,reduceEqDiff,Nat.reduceBEq])|with_reducible refine And.intro ?_ ?_|omega|with_reducible rfl)
      refine hel2 _ _ rfl ?_
      clear hnl2 hel2 Ql2
      repeat (first|((first|refine hn _ ?_|refine he _ _ rfl ?_);clear hn he;try clear Q)|((first|refine hnb _ ?_|refine hxb _ ?_|refine heb _ _ rfl ?_);clear hnb hxb heb;try clear Qb)|(refine hel _ _ rfl ?_;clear hnl hel;try clear Ql))
      repeat' (first|((first|((first|refine rr ?_|refine rre ?_);intro K hK)|with_reducible refine gO ?_);simp (disch:=omega) only[Ac,↓Pc,↓reduceIte,reduceCtorEq,reduceEqDiff,Nat.reduceBEq,reduceAdd,Nat.reduceLT,reduceLeDiff,reduceMul,reduceNeg,Int.reduceLT,reduceLE,reduceToNat])|(refine hK _ ?_;clear hK K)|(with_reducible refine gS (fun hb'=>?_) (fun hb'=>?_)<;>(have hb:=hb';(try simp only[DEc,reduceCtorEq] at hb);simp (disch:=omega) only[Ac,↓Pc,↓reduceIte,reduceCtorEq,reduceEqDiff,Nat.reduceBEq,reduceAdd,Nat.reduceLT,reduceLeDiff,reduceMul,reduceNeg,Int.reduceLT,reduceLE,reduceToNat,hb'];clear hb'))|(refine Wc (fun ht=>?_) (fun ht=>?_)<;>(try simp only[DEc,reduceCtorEq] at ht))|refine Wz rfl ?_|(refine Wb ?_;intro Qb hnb hxb heb)|(refine Wk ?_;intro Q hn he)|((first|refine hn _ ?_|refine he _ _ rfl ?_);clear hn he;try clear Q)|((first|refine hnb _ ?_|refine hxb _ ?_|refine heb _ _ rfl ?_);clear hnb hxb heb;try clear Qb)|(simp only[Qc,Kc,↓reduceIte,reduceEqDiff,Nat.reduceBEq])|with_reducible refine And.intro ?_ ?_|omega|with_reducible rfl)
      refine hnl _ (i+1,Y.set i r) ⟨by dsimp only;omega,by dsimp only;rw[len_set (by rw[hr,hyi])];exact hY,fun a ha b=>?_⟩ (by dsimp only;omega) (by (refine Turns.slots _ _ rfl ?_;simp only[Tc,↓reduceIte,reduceEqDiff,Nat.reduceBEq,reduceAdd];try trivial))
      dsimp only at ha ⊢
      by_cases e:a=i
      · subst e
        rw[getD_set _ _ _ (by omega),hxx]
        intro hb2
        by_cases hbw:b<r.length
        · exact hsr b (by omega) hb2
        · rw[List.getD_eq_getElem?_getD,List.getElem?_eq_none (by omega)] at hb2;cases hb2
      · rw[List.getD_eq_getElem?_getD (l:=Y.set i r),List.getElem?_set_ne (Ne.symm e),← List.getD_eq_getElem?_getD]
        exact hsub a (by omega) b
  · obtain rfl:i=m.cls.length:=by omega
    have hsp:SubP Y x:=fun a b hb2=>by
      by_cases ha:a<m.cls.length
      · exact hsub a ha b hb2
      · rw[List.getD_eq_getElem?_getD (l:=Y),List.getElem?_eq_none (by omega)] at hb2;cases hb2
    have hbx:=bb_fits2 hvm hfx
    have hbY:=bb_fits2 hvm hfY
    have h4:=value_ok m x [] hvm.mb hbx (by decide)
    rw[value_fit hvm hfx (by decide) (by simp)] at h4
    have h5:=value_ok m Y [] hvm.mb hbY (by decide)
    rw[value_fit hvm hfY (by decide) (by simp)] at h5
    have hlaw:=narrow_law hvm hfx hfY hsp (mvsL m [] (S0 m,T0 m))
    have h4':=Holds.nilArg (pre:=[.agg (eMdl m),.tree 1 (rowsOf eBs x)]) (post:=[]) h4
    have h5':=Holds.nilArg (pre:=[.agg (eMdl m),.tree 1 (rowsOf eBs Y)]) (post:=[]) h5
    have hnone:=fun h0=>none_law hvm hfx h0 (mvsL m [] (S0 m,T0 m))
    dsimp only at h4' h5'
    generalize valV m x (mvsL m [] (S0 m,T0 m))=va at *
    generalize valV m Y (mvsL m [] (S0 m,T0 m))=vb at *
    clear h4 h5
    rw[← refsB_same 2 hY,← hYl]
    clear hrl
    have hrl:(refsB 2 Y).length=Y.length:=refsB_len 2 Y
    repeat' (first|((first|((first|refine rr ?_|refine rre ?_);intro K hK)|with_reducible refine gO ?_);simp (disch:=omega) only[Ac,↓Pc,↓reduceIte,reduceCtorEq,reduceEqDiff,Nat.reduceBEq,reduceAdd,Nat.reduceLT,reduceLeDiff,reduceMul,reduceNeg,Int.reduceLT,reduceLE,reduceToNat])|(refine hK _ ?_;clear hK K)|(with_reducible refine gS (fun hb'=>?_) (fun hb'=>?_)<;>(have hb:=hb';(try simp only[DEc,reduceCtorEq] at hb);simp (disch:=omega) only[Ac,↓Pc,↓reduceIte,reduceCtorEq,reduceEqDiff,Nat.reduceBEq,reduceAdd,Nat.reduceLT,reduceLeDiff,reduceMul,reduceNeg,Int.reduceLT,reduceLE,reduceToNat,hb'];clear hb'))|(refine Wc (fun ht=>?_) (fun ht=>?_)<;>(try simp only[DEc,reduceCtorEq] at ht))|refine Wz rfl ?_|(refine Wb ?_;intro Qb hnb hxb heb)|(refine Wk ?_;intro Q hn he)|((first|refine hn _ ?_|refine he _ _ rfl ?_);clear hn he;try clear Q)|((first|refine hnb _ ?_|refine hxb _ ?_|refine heb _ _ rfl ?_);clear hnb hxb heb;try clear Qb)|(simp only[Qc,Kc,↓reduceIte,reduceEqDiff,Nat.reduceBEq])|with_reducible refine And.intro ?_ ?_|omega|with_reducible rfl)
    refine hel _ _ rfl ?_;clear hnl hel Ql
    repeat (first|((first|refine hn _ ?_|refine he _ _ rfl ?_);clear hn he;try clear Q)|((first|refine hnb _ ?_|refine hxb _ ?_|refine heb _ _ rfl ?_);clear hnb hxb heb;try clear Qb)|(refine hel _ _ rfl ?_;clear hnl hel;try clear Ql))
    repeat' (first|((first|((fail_if_success (first|refine W_at 14 ?_|refine W_atE 14 ?_));(first|refine rr ?_|refine rre ?_|refine rb ?_|refine rbe ?_|refine ra ?_|refine rae ?_);intro K hK)|with_reducible refine gO ?_);simp (disch:=omega) only[Ac,↓Pc,↓reduceIte,reduceCtorEq,reduceEqDiff,Nat.reduceBEq,reduceAdd,Nat.reduceLT,reduceLeDiff,reduceMul,reduceNeg,Int.reduceLT,reduceLE,reduceToNat])|(first|refine callK_pure (h4') rfl rfl ?_|refine callQ_pure (h4') rfl rfl ?_)|(refine hK _ ?_;clear hK K)|(with_reducible refine gS (fun hb'=>?_) (fun hb'=>?_)<;>(have hb:=hb';(try simp only[DEc,reduceCtorEq] at hb);simp (disch:=omega) only[Ac,↓Pc,↓reduceIte,reduceCtorEq,reduceEqDiff,Nat.reduceBEq,reduceAdd,Nat.reduceLT,reduceLeDiff,reduceMul,reduceNeg,Int.reduceLT,reduceLE,reduceToNat,hb'];clear hb'))|(refine Wc (fun ht=>?_) (fun ht=>?_)<;>(try simp only[DEc,reduceCtorEq] at ht))|refine Wz rfl ?_|(refine Wb ?_;intro Qb hnb hxb heb)|(refine Wk ?_;intro Q hn he)|((first|refine hn _ ?_|refine he _ _ rfl ?_);clear hn he;try clear Q)|((first|refine hnb _ ?_|refine hxb _ ?_|refine heb _ _ rfl ?_);clear hnb hxb heb;try clear Qb)|(refine hel _ _ rfl ?_;clear hnl hel;try clear Ql)|(simp only[Qc,Kc,↓reduceIte,reduceEqDiff,Nat.reduceBEq])|with_reducible refine And.intro ?_ ?_|omega|with_reducible rfl)
    refine rre ?_
    intro K hK
    simp (disch:=omega) only[Ac,↓Pc,↓reduceIte,reduceCtorEq,reduceEqDiff,Nat.reduceBEq,reduceAdd,Nat.reduceLT,reduceLeDiff,reduceMul,reduceNeg,Int.reduceLT,reduceLE,reduceToNat]
    refine callK_snap [] h5' (by decide) trivial ⟨.pure rfl,.snap _ _ rfl (frz_rows (nO1 _ _ _) (by simp) hrl fun a ha=>⟨2+a,refsB_get 2 Y a ha,nOk _ _ ha,by simp⟩),.pure rfl,trivial⟩ rfl (by simp) ?_
    simp (disch:=omega) only[Ac,↓Pc,↓reduceIte,reduceCtorEq,reduceEqDiff,Nat.reduceBEq,reduceAdd,Nat.reduceLT,reduceLeDiff,reduceMul,reduceNeg,Int.reduceLT,reduceLE,reduceToNat]
    refine hK _ ?_;clear hK K
    repeat (first|((first|refine hn _ ?_|refine he _ _ rfl ?_);clear hn he;try clear Q)|((first|refine hnb _ ?_|refine hxb _ ?_|refine heb _ _ rfl ?_);clear hnb hxb heb;try clear Qb)|(refine hel _ _ rfl ?_;clear hnl hel;try clear Ql))
    repeat' (first|((first|((fail_if_success (first|refine W_at 19 ?_|refine W_atE 19 ?_));(first|refine rr ?_|refine rre ?_|refine rb ?_|refine rbe ?_|refine ra ?_|refine rae ?_);intro K hK)|with_reducible refine gO ?_);simp (disch:=omega) only[Ac,↓Pc,↓reduceIte,reduceCtorEq,reduceEqDiff,Nat.reduceBEq,reduceAdd,Nat.reduceLT,reduceLeDiff,reduceMul,reduceNeg,Int.reduceLT,reduceLE,reduceToNat,nO0,bne_self_eq_false])|(first|refine callK_pure (awake_ok) rfl rfl ?_|refine callQ_pure (awake_ok) rfl rfl ?_)|(refine hK _ ?_;clear hK K)|(with_reducible refine gS (fun hb'=>?_) (fun hb'=>?_)<;>(have hb:=hb';(try simp only[DEc,reduceCtorEq] at hb);simp (disch:=omega) only[Ac,↓Pc,↓reduceIte,reduceCtorEq,reduceEqDiff,Nat.reduceBEq,reduceAdd,Nat.reduceLT,reduceLeDiff,reduceMul,reduceNeg,Int.reduceLT,reduceLE,reduceToNat,nO0,bne_self_eq_false,hb'];clear hb'))|(refine Wc (fun ht=>?_) (fun ht=>?_)<;>(try simp only[DEc,reduceCtorEq] at ht))|refine Wz rfl ?_|(refine Wb ?_;intro Qb hnb hxb heb)|(refine Wk ?_;intro Q hn he)|((first|refine hn _ ?_|refine he _ _ rfl ?_);clear hn he;try clear Q)|((first|refine hnb _ ?_|refine hxb _ ?_|refine heb _ _ rfl ?_);clear hnb hxb heb;try clear Qb)|(refine hel _ _ rfl ?_;clear hnl hel;try clear Ql)|(simp only[Qc,Kc,↓reduceIte,reduceEqDiff,Nat.reduceBEq])|with_reducible refine And.intro ?_ ?_|omega|with_reducible rfl)
    · obtain rfl:=hnone (by omega)
      exact RetOK_pure' rfl rfl
    have hmd:=mod_ok cl (m.cls.length:Int) (by unfold In64;omega)
    have hmr:=modI_range cl (m.cls.length:Int) (by omega)
    obtain ⟨c,hc⟩ :∃c:Nat,modI cl (m.cls.length:Int)=c:=⟨_,(Int.toNat_of_nonneg hmr.1).symm⟩
    rw[hc] at hmd hmr
    have hcl:c<m.cls.length:=by omega
    have hrc:=refsB_get 2 Y c (by omega)
    have hYc:=hfY.2 c (by omega)
    have hl24:=hvm.opt _ (getD_mem (l:=m.cls) (i:=c) (d:=default) hcl)
    have hset:∀ (B:List (List AV)) (l:List Ob),(nO (dice tape k3) (refsB 2 Y) Y++l).set 1 (.arr 1 B)=nO (dice tape k3) B Y++l:=fun B l=>rfl
    have hz1:(nO (dice tape k3) (refsB 2 Y) Y)[1]?=some (.arr 1 (refsB 2 Y)):=rfl
    have hz2:=oLo hz1
    have hz3:=nOk (dice tape k3) (refsB 2 Y) (Y:=Y) (i:=c) (by omega)
    generalize hww:(Y.getD c default).length=w at *
    repeat' (first|((first|((fail_if_success (first|refine W_at 21 ?_|refine W_atE 21 ?_));(first|refine rr ?_|refine rre ?_|refine rb ?_|refine rbe ?_|refine ra ?_|refine rae ?_);intro K hK)|with_reducible refine gO ?_);simp (disch:=omega) only[Ac,↓Pc,↓reduceIte,reduceCtorEq,reduceEqDiff,Nat.reduceBEq,reduceAdd,Nat.reduceLT,reduceLeDiff,reduceMul,reduceNeg,Int.reduceLT,reduceLE,reduceToNat,hrc,hset,hz3,hz1,hz2,nO_len,bools_rep])|(first|refine callK_pure (hmd) rfl rfl ?_|refine callQ_pure (hmd) rfl rfl ?_)|(refine hK _ ?_;clear hK K)|(with_reducible refine gS (fun hb'=>?_) (fun hb'=>?_)<;>(have hb:=hb';(try simp only[DEc,reduceCtorEq] at hb);simp (disch:=omega) only[Ac,↓Pc,↓reduceIte,reduceCtorEq,reduceEqDiff,Nat.reduceBEq,reduceAdd,Nat.reduceLT,reduceLeDiff,reduceMul,reduceNeg,Int.reduceLT,reduceLE,reduceToNat,hrc,hset,hz3,hz1,hz2,nO_len,bools_rep,hb'];clear hb'))|(refine Wc (fun ht=>?_) (fun ht=>?_)<;>(try simp only[DEc,reduceCtorEq] at ht))|refine Wz rfl ?_|(refine Wb ?_;intro Qb hnb hxb heb)|(refine Wk ?_;intro Q hn he)|((first|refine hn _ ?_|refine he _ _ rfl ?_);clear hn he;try clear Q)|((first|refine hnb _ ?_|refine hxb _ ?_|refine heb _ _ rfl ?_);clear hnb hxb heb;try clear Qb)|(refine hel _ _ rfl ?_;clear hnl hel;try clear Ql)|(simp only[Qc,Kc,↓reduceIte,reduceEqDiff,Nat.reduceBEq])|with_reducible refine And.intro ?_ ?_|omega|with_reducible rfl)
    generalize hZ:Y.set c (List.replicate w false)=Z at *
    have hZl:Y.length=Z.length:=by rw[← hZ,List.length_set]
    have hZm:Z.map List.length=y.map List.length:=by rw[← hZ,len_set (by rw[List.length_replicate,hww]),hY]
    have hfZ:=fits_same hfy hZm
    have hemp:∀ b,(Z.getD c default).getD b false=false:=fun b=>by
      rw[← hZ,getD_set _ _ _ (by omega),List.getD_eq_getElem?_getD,List.getElem?_replicate]
      split<;>rfl
    refine W_turn (σ':=⟨slots [(5,.ptr 0 0 0),(6,.taddr (eMdl m)),(8,.tree 1 (rowsOf eBs Z))],[dice tape k3]⟩) ?_ ?_
    · refine Turns.sel [0] true _ _ (by decide) ⟨⟨by simp,.inr rfl⟩,trivial⟩ (by decide) (by decide) ⟨.eq rfl,.pure rfl,.snap _ _ rfl ?_,trivial⟩
      simp only[Kc,↓reduceIte,reduceEqDiff,Nat.reduceBEq]
      rw[hZl]
      refine frz_rows (A:=(refsB 2 Y).set c [.ref (2+Z.length) 1 0 w]) rfl (not_kept (by decide)) (by rw[List.length_set,hrl,hZl]) fun a ha=>?_
      by_cases e:a=c
      · subst e
        refine⟨2+Z.length,?_,?_,not_kept (by simp)⟩
        · rw[List.getElem?_set,if_pos rfl,if_pos (by omega),← hZ,getD_set _ _ _ (by omega),List.length_replicate]
        · rw[show 2+Z.length=(nO (dice tape k3) ((refsB 2 Y).set a [.ref (2+Z.length) 1 0 w]) Y).length from by rw[nO_len,hZl],show Z.getD a default=List.replicate w false from by rw[← hZ,getD_set _ _ _ (by omega)]]
          exact oL0 _ _ _
      · refine⟨2+a,?_,?_,not_kept (by simp)⟩
        · rw[List.getElem?_set_ne (Ne.symm e),refsB_get 2 Y a (by omega),← hZ,List.getD_eq_getElem?_getD (l:=Y.set c _),List.getElem?_set_ne (Ne.symm e),← List.getD_eq_getElem?_getD]
        · rw[← hZ,List.getD_eq_getElem?_getD (l:=Y.set c _),List.getElem?_set_ne (Ne.symm e),← List.getD_eq_getElem?_getD]
          exact oLo (nOk _ _ (by omega)) _
    have h6:=movesF_ok m hvm hsome tape k3 3 (by decide) hk3 hL
    obtain ⟨hml,hmb,hk4⟩:=movF_ok (L:=tape) (m:=m) (most:=3) hvm hsome hk3
    generalize movF tape m 3 k3=mf at *
    obtain ⟨mvs,k4⟩:=mf
    dsimp only at *
    have h7:=value_ok m Z mvs hvm.mb (bb_fits2 hvm hfZ) (by omega)
    rw[value_fit hvm hfZ (by omega) hmb,empty_law hcl hemp] at h7
    have h8:=refValid_ok m hvm.mb
    rw[valid_iff.2 hvm] at h8
    dsimp only at h7
    unfold dice at h6 ⊢
    refine join_here ⟨slots [(6,.taddr (eMdl m)),(16,.lit (.int .i64 1099511627776)),(17,.lit (.int .i64 0))],[]⟩ hn ?_ (fun key=>?_)
    rotate_left
    · refine W_draw [0,3] (.take 0 (.take 1 (.take 2 (.take 3 (.take 4 (.take 5 (.take 6 (.take 7 (.take 8 (.take 9 (.take 10 .nil))))))))))) rfl (by decide) (by decide +kernel) ?_
      simp (disch:=omega) only[Ac,↓Pc,↓reduceIte,reduceCtorEq,reduceEqDiff,Nat.reduceBEq,reduceAdd,Nat.reduceLT,reduceLeDiff,reduceMul,reduceNeg,Int.reduceLT,reduceLE,reduceToNat,planW_three,planW_both,planW_take,planW_nil,stepAt,stepD,↓Lq]
      repeat' (first|with_reducible refine And.intro ?_ ?_|omega|with_reducible rfl)
      all_goals
        (refine callK_sel [0] (h6) (by decide) (by (repeat' (first|exact trivial|with_reducible refine And.intro ?_ ?_|refine And.intro ?_ ?_))<;>first|rfl|(rw[ints_ren];rfl)|(rw[bools_ren];rfl)|(rw[rows_ren];rfl)|(rw[intss_ren];rfl)) (by (repeat' (first|exact trivial|refine And.intro ?_ ?_))<;>(first|exact .pure rfl|exact .eq rfl|exact .fz rfl (by simp only[Bc,Rc]))) ?_;simp (disch:=omega) only[Ac,↓Pc,↓reduceIte,reduceCtorEq,reduceEqDiff,Nat.reduceBEq,reduceAdd,Nat.reduceLT,reduceLeDiff,reduceMul,reduceNeg,Int.reduceLT,reduceLE,reduceToNat,planW_three,planW_both,planW_take,planW_nil,stepAt,stepD,↓Lq])
        repeat' (first|with_reducible refine And.intro ?_ ?_|omega|with_reducible rfl)
      all_goals
        (refine callK_sel [] (h7) (by decide) (by (repeat' (first|exact trivial|with_reducible refine And.intro ?_ ?_|refine And.intro ?_ ?_))<;>first|rfl|(rw[ints_ren];rfl)|(rw[bools_ren];rfl)|(rw[rows_ren];rfl)|(rw[intss_ren];rfl)) (by (repeat' (first|exact trivial|refine And.intro ?_ ?_))<;>(first|exact .pure rfl|exact .eq rfl|exact .fz rfl (by simp only[Bc,Rc]))) ?_;simp (disch:=omega) only[Ac,↓Pc,↓reduceIte,reduceCtorEq,reduceEqDiff,Nat.reduceBEq,reduceAdd,Nat.reduceLT,reduceLeDiff,reduceMul,reduceNeg,Int.reduceLT,reduceLE,reduceToNat,planW_three,planW_both,planW_take,planW_nil,stepAt,stepD,↓Lq])
        refine key _ ?_
        (refine Turns.se [] true (by simp only[Oc,reduceCtorEq,reduceAdd,Nat.reduceLT,reduceLeDiff,reduceEqDiff,↓reduceIte]) ?_;simp only[Hr,↓reduceIte,reduceEqDiff,Nat.reduceBEq,reduceAdd];try (and_intros<;>first|exact .pure rfl|exact .eq rfl|exact .fz rfl (by simp only[Bc,Rc])))
    clear hn he
    try clear Q
    repeat' (first|((first|((first|refine rr ?_|refine rre ?_|refine rb ?_|refine rbe ?_|refine ra ?_|refine rae ?_);intro K hK)|with_reducible refine gO ?_);simp (disch:=omega) only[Ac,↓Pc,↓reduceIte,reduceCtorEq,reduceEqDiff,Nat.reduceBEq,reduceAdd,Nat.reduceLT,reduceLeDiff,reduceMul,reduceNeg,Int.reduceLT,reduceLE,reduceToNat,beq_self_eq_true])|(first|refine callK_pure (h8) rfl rfl ?_|refine callQ_pure (h8) rfl rfl ?_)|(refine hK _ ?_;clear hK K)|(with_reducible refine gS (fun hb'=>?_) (fun hb'=>?_)<;>(have hb:=hb';(try simp only[DEc,reduceCtorEq] at hb);simp (disch:=omega) only[Ac,↓Pc,↓reduceIte,reduceCtorEq,reduceEqDiff,Nat.reduceBEq,reduceAdd,Nat.reduceLT,reduceLeDiff,reduceMul,reduceNeg,Int.reduceLT,reduceLE,reduceToNat,beq_self_eq_true,hb'];clear hb'))|(refine Wc (fun ht=>?_) (fun ht=>?_)<;>(try simp only[DEc,reduceCtorEq] at ht))|refine Wz rfl ?_|(refine Wb ?_;intro Qb hnb hxb heb)|(refine Wk ?_;intro Q hn he)|((first|refine hn _ ?_|refine he _ _ rfl ?_);clear hn he;try clear Q)|((first|refine hnb _ ?_|refine hxb _ ?_|refine heb _ _ rfl ?_);clear hnb hxb heb;try clear Qb)|(refine hel _ _ rfl ?_;clear hnl hel;try clear Ql)|(simp only[Qc,Kc,↓reduceIte,reduceEqDiff,Nat.reduceBEq])|with_reducible refine And.intro ?_ ?_|omega|with_reducible rfl)
    exact RetOK_pure' rfl rfl
end T

