import Derived.Test.YtafhoboejkcmiaaX46
import Derived.Test.YtafhoboejkcmiaaX24
set_option linter.unusedVariables false
set_option linter.unusedSimpArgs false
set_option linter.unnecessarySimpa false
set_option linter.unusedSectionVars false
set_option maxHeartbeats 64000000
set_option maxRecDepth 20000
open Go Go.Am Go.Proofs
open Nat (reduceEqDiff reduceAdd reduceLeDiff reduceMul)
open Int (reduceNeg reduceLE reduceToNat)
namespace T
theorem any_take {α:Type} [Inhabited α] {l:List α} {f:α→Bool} {k:Nat} (hk:k<l.length):(l.take (k+1)).any f=((l.take k).any f || f (l.getD k default)):=by
  rw[List.take_add_one,List.any_append,List.getD_eq_getElem?_getD,List.getElem?_eq_getElem hk]
  simp
theorem free_law26 (tape:List Int):Holds Try.prog 5 [.tree 1 (ints tape)] [] (.lit (.bool true)) []:=by
  refine Holds.of_body' (fn:=Try.f5) 114 0 [.tmp 2] Try.func5 rfl rfl rfl rfl rfl (by simp) ?_
  repeat' (first|((fail_if_success (first|refine W_at 3 ?_|refine W_atE 3 ?_));refine Xq X0 ?_;intro K hK)|refine Xo X0 ?_|refine Xc (light_ok _) ?_|refine Xc (awake26_ok) ?_|(refine hK _ ?_;clear hK K)|(refine Xg X0 ?_ ?_<;>try intro hb)|(refine Xi ?_ ?_<;>try intro ht)|refine XY ?_|refine Xd ?_ ?_|exact Xx|fail)
  · exact RetOK_pure' rfl rfl
  have hL:tape.length<1000000:=by omega
  have hmod:=model_ok tape 0 5 4 (Nat.zero_le _) hL (by decide) (by decide) (by decide)
  refine W_region_ce 2 (by decide) _ rfl ?_
  intro K hK
  simp (disch:=omega) only[Ac,↓Pc,simprocAttr,List.take,List.drop]
  (refine Xn [] (roll_ok tape) ?_;simp (disch:=omega) only[Ac,↓Pc,simprocAttr])
  unfold dice at hmod
  refine⟨rfl,(show callKR Try.prog 19 [.ptr 0 0 0,.lit (.int .i64 (5:Nat)),.lit (.int .i64 (4:Nat))] (some 19) _ _ from ?_)⟩
  refine callKR_sel [0] hmod (by decide) ⟨rfl,trivial⟩ ⟨.eq rfl,.pure rfl,.pure rfl,trivial⟩ ?_
  rintro r os ⟨m,k,hm,hk,rfl,rfl⟩
  simp (disch:=omega) only[Ac,↓Pc,simprocAttr]
  refine hK _ ?_;clear hK K
  repeat (first|refine Xu ?_)
  refine W_turn (Turns.frzP 3 1 (cells:=eMdl m) (by rfl) (by simp only[Kc,simprocAttr]) (by simp[eMdl])) ?_
  refine W_turn (σ':=⟨slots [(3,.taddr (eMdl m))],[]⟩) (Xs false [] X0) ?_
  clear hmod hk k hL
  have hv:=hm.vm
  have hv0:=valid_iff.2 hv
  have h1:=Neighbours_ok m hv.mb
  have h2:=Saturate_ok m hv.mb
  unfold nbT at h1
  unfold satT at h2
  rw[if_neg (by omega)] at h1 h2
  have hsl:=(satV_pm m).len
  have hnl0:=nbV_len m
  have hc24:=hv.cls
  have hlaw:=fun a b c=>free_law hm a b c
  have hct8:=hv.cts
  generalize hnb:nbV m=nb at *
  generalize satV m=sp at *
  dsimp only at h1 h2
  ((try revert hK K);(repeat' (first|refine Vd @bne_self_eq_false.{0} h1 ?_|(refine V2 @bne_self_eq_false.{0} ?_ ?_<;>try with_reducible intro hb)|(refine Xi ?_ ?_<;>try intro ht)|refine VD ?_ ?_|exact Xx|fail))<;>try with_reducible intro K hK)
  all_goals try (exfalso;omega)
  refine W_loopS (fun k:Nat=>(⟨slots [(3,.taddr (eMdl m)),(4,.tree 1 (ints nb)),(6,.lit (.int .i64 k))],[]⟩:St)) (fun k=>k≤m.cts.length∧∀ c∈m.cts.take k,hardB c=false) (fun k=>m.cts.length - k) 0 ⟨Nat.zero_le _,by simp⟩ (Xv X0) ?_
  rintro k ⟨hk,hkc⟩ Ql hnl hel
  by_cases hk':k<m.cts.length
  · have htk:∀ c∈m.cts.take (k+1),c∈m.cts.take k∨c=m.cts.getD k default:=fun c hc=>by
      rw[List.take_add_one,List.getElem?_eq_getElem hk'] at hc
      rw[List.getD_eq_getElem?_getD,List.getElem?_eq_getElem hk']
      rcases List.mem_append.1 hc with h | h
      · exact .inl h
      · exact .inr (by simpa using h)
    generalize hcc:m.cts.getD k default=c at *
    by_cases hpen:c.pen=1099511627776
    · ((try revert hK K);(repeat' (first|refine Va (X2 @hcc @eCt.eq_1) ?_|(refine V2 (X2 @hcc @eCt.eq_1) ?_ ?_<;>try with_reducible intro hb)|(refine Xi ?_ ?_<;>try intro ht)|refine VD ?_ ?_|exact Xx|fail))<;>try with_reducible intro K hK)
      all_goals try (exfalso;omega)
      repeat (first|refine Xu ?_|(refine hel2 _ _ rfl ?_;clear hnl2 hel2;try clear Ql2)|(refine hel3 _ _ rfl ?_;clear hnl3 hel3;try clear Ql3)|(refine hel4 _ _ rfl ?_;clear hnl4 hel4;try clear Ql4))
      ((try revert hK K);(repeat' (first|refine Vd X0 awake26_ok ?_|(refine V2 X0 ?_ ?_<;>try with_reducible intro hb)|(refine Xi ?_ ?_<;>try intro ht)|refine VD ?_ ?_|exact Xx|fail))<;>try with_reducible intro K hK)
      exact RetOK_pure' rfl rfl
    · ((try revert hK K);(repeat' (first|refine Va (X2 @hcc @eCt.eq_1) ?_|(refine V2 (X2 @hcc @eCt.eq_1) ?_ ?_<;>try with_reducible intro hb)|(refine Xi ?_ ?_<;>try intro ht)|refine VD ?_ ?_|exact Xx|fail))<;>try with_reducible intro K hK)
      all_goals try (exfalso;omega)
      refine hnl _ (k+1) ⟨by omega,fun x hx=>?_⟩ (by omega) (Xv X0)
      rcases htk x hx with h | rfl
      · exact hkc x h
      · unfold hardB;exact decide_eq_false hpen
  · rw[List.take_of_length_le (by omega)] at hkc
    ((try revert hK K);(repeat' (first|refine Va X0 ?_|(refine V2 X0 ?_ ?_<;>try with_reducible intro hb)|(refine Xi ?_ ?_<;>try intro ht)|refine VD ?_ ?_|exact Xx|fail))<;>try with_reducible intro K hK)
    refine hel _ _ rfl ?_;clear hnl hel Ql
    repeat (first|refine Xu ?_)
    clear hk hk'
    ((try revert hK K);(repeat' (first|refine Vb X0 ?_|(refine V2 X0 ?_ ?_<;>try with_reducible intro hb)|(refine Xi ?_ ?_<;>try intro ht)|refine VD ?_ ?_|exact Xx|fail))<;>try with_reducible intro K hK)
    refine W_loopS (fun i:Nat=>(⟨slots [(3,.taddr (eMdl m)),(4,.tree 1 (ints nb)),(7,.lit (.int .i64 i))],[]⟩:St)) (fun i=>i≤m.cls.length∧∀ a,a<i→nb.getD a 0≤0∧∃ k,k<(m.cls.getD a default).length∧freeB ((m.cls.getD a default).getD k default)=true) (fun i=>m.cls.length - i) 0 ⟨Nat.zero_le _,fun a ha=>by omega⟩ (Xv X0) ?_
    rintro i ⟨hi,hall⟩ Ql hnl hel
    by_cases hi':i<m.cls.length
    · have hl:=getD_mem (l:=m.cls) (i:=i) (d:=default) hi'
      have hchs:=hv.mb.ch _ hl
      have hl24:=hv.opt _ hl
      have hnew:nb.getD i 0≤0∧(∃ k,k<(m.cls.getD i default).length∧freeB ((m.cls.getD i default).getD k default)=true)→∀ a,a<i+1→nb.getD a 0≤0∧∃ k,k<(m.cls.getD a default).length∧freeB ((m.cls.getD a default).getD k default)=true:=fun h a ha=>by
        by_cases e:a=i
        · subst e;exact h
        · exact hall a (by omega)
      generalize hll:m.cls.getD i default=l at *
      generalize hni:nb.getD i 0=ni at *
      ((try revert hK K);(repeat' (first|refine Va X0 ?_|(refine V2 X0 ?_ ?_<;>try with_reducible intro hb)|(refine Xi ?_ ?_<;>try intro ht)|refine VD ?_ ?_|exact Xx|fail))<;>try with_reducible intro K hK)
      refine W_loopS (fun j:Nat=>(⟨slots [(3,.taddr (eMdl m)),(4,.tree 1 (ints nb)),(7,.lit (.int .i64 i)),(8,.lit (.bool ((l.take j).any freeB))),(9,.lit (.int .i64 j))],[]⟩:St)) (fun j=>j≤l.length) (fun j=>l.length - j) 0 (Nat.zero_le _) (Xv X0) ?_
      rintro j hj Ql2 hnl2 hel2
      by_cases hj':j<l.length
      · have hfr:=rFree_ok (l.getD j default) (hchs _ (getD_mem hj'))
        have hat:=any_take (f:=freeB) hj'
        generalize hoo:l.getD j default=op at *
        generalize freeB op=fb at *
        generalize hb1:(l.take j).any freeB=b1 at *
        cases b1
        · rw[Bool.false_or] at hat
          ((try revert hK K);(repeat' (first|refine Vc (X3 @hll @hoo @eCls.eq_1) hfr ?_|(refine V2 (X3 @hll @hoo @eCls.eq_1) ?_ ?_<;>try with_reducible intro hb)|(refine Xi ?_ ?_<;>try intro ht)|refine VD ?_ ?_|exact Xx|fail))<;>try with_reducible intro K hK)
          all_goals try (exfalso;omega)
          exact hnl2 _ (j+1) (by omega) (by omega) (by rw[hat];exact Xv X0)
        · rw[Bool.true_or] at hat
          ((try revert hK K);(repeat' (first|refine Vc (X3 @hll @hoo @eCls.eq_1) hfr ?_|(refine V2 (X3 @hll @hoo @eCls.eq_1) ?_ ?_<;>try with_reducible intro hb)|(refine Xi ?_ ?_<;>try intro ht)|refine VD ?_ ?_|exact Xx|fail))<;>try with_reducible intro K hK)
          all_goals try (exfalso;omega)
          all_goals exact hnl2 _ (j+1) (by omega) (by omega) (by rw[hat];exact Xv X0)
      · rw[List.take_of_length_le (by omega)]
        have hex:l.any freeB=true→∃ k,k<l.length∧freeB (l.getD k default)=true:=fun h=>by
          obtain ⟨x,hx,hf⟩:=List.any_eq_true.1 h
          obtain ⟨k,hk,rfl⟩:=List.getElem_of_mem hx
          exact⟨k,hk,by rw[List.getD_eq_getElem?_getD,List.getElem?_eq_getElem hk];exact hf⟩
        generalize l.any freeB=fb at *
        ((try revert hK K);(repeat' (first|refine Va (X2 @hll @eCls.eq_1) ?_|(refine V2 (X2 @hll @eCls.eq_1) ?_ ?_<;>try with_reducible intro hb)|(refine Xi ?_ ?_<;>try intro ht)|refine VD ?_ ?_|exact Xx|fail))<;>try with_reducible intro K hK)
        refine hel2 _ _ rfl ?_
        clear hnl2 hel2
        repeat (first|refine Xu ?_)
        by_cases hz:0<ni∨fb=false
        · rcases hz with hz | rfl
          · ((try revert hK K);(repeat' (first|refine Va @hni ?_|(refine V2 @hni ?_ ?_<;>try with_reducible intro hb)|(refine Xi ?_ ?_<;>try intro ht)|refine VD ?_ ?_|exact Xx|fail))<;>try with_reducible intro K hK)
            all_goals try (exfalso;omega)
            repeat (first|refine Xu ?_|(refine hel2 _ _ rfl ?_;clear hnl2 hel2;try clear Ql2)|(refine hel3 _ _ rfl ?_;clear hnl3 hel3;try clear Ql3)|(refine hel4 _ _ rfl ?_;clear hnl4 hel4;try clear Ql4))
            ((try revert hK K);(repeat' (first|refine Vd X0 awake26_ok ?_|(refine V2 X0 ?_ ?_<;>try with_reducible intro hb)|(refine Xi ?_ ?_<;>try intro ht)|refine VD ?_ ?_|exact Xx|fail))<;>try with_reducible intro K hK)
            exact RetOK_pure' rfl rfl
          · ((try revert hK K);(repeat' (first|refine Va @hni ?_|(refine V2 @hni ?_ ?_<;>try with_reducible intro hb)|(refine Xi ?_ ?_<;>try intro ht)|refine VD ?_ ?_|exact Xx|fail))<;>try with_reducible intro K hK)
            all_goals try (exfalso;omega)
            all_goals
              repeat (first|refine Xu ?_|(refine hel2 _ _ rfl ?_;clear hnl2 hel2;try clear Ql2)|(refine hel3 _ _ rfl ?_;clear hnl3 hel3;try clear Ql3)|(refine hel4 _ _ rfl ?_;clear hnl4 hel4;try clear Ql4))
              ((try revert hK K);(repeat' (first|refine Vd X0 awake26_ok ?_|(refine V2 X0 ?_ ?_<;>try with_reducible intro hb)|(refine Xi ?_ ?_<;>try intro ht)|refine VD ?_ ?_|exact Xx|fail))<;>try with_reducible intro K hK)
              exact RetOK_pure' rfl rfl
        · obtain rfl:fb=true:=by
            cases fb
            · exact absurd (.inr rfl) hz
            · rfl
          ((try revert hK K);(repeat' (first|refine Va @hni ?_|(refine V2 @hni ?_ ?_<;>try with_reducible intro hb)|(refine Xi ?_ ?_<;>try intro ht)|refine VD ?_ ?_|exact Xx|fail))<;>try with_reducible intro K hK)
          all_goals try (exfalso;omega)
          exact hnl _ (i+1) ⟨by omega,hnew ⟨by omega,hex rfl⟩⟩ (by omega) (Xv X0)
    · obtain rfl:i=m.cls.length:=by omega
      have hlw:=hlaw (fun a ha=>(hall a ha).1) hkc (fun c hc=>(hall c hc).2)
      ((try revert hK K);(repeat' (first|refine Va X0 ?_|(refine V2 X0 ?_ ?_<;>try with_reducible intro hb)|(refine Xi ?_ ?_<;>try intro ht)|refine VD ?_ ?_|exact Xx|fail))<;>try with_reducible intro K hK)
      refine hel _ _ rfl ?_;clear hnl hel Ql
      repeat (first|refine Xu ?_)
      ((try revert hK K);(repeat' (first|refine Vd @bne_self_eq_false.{0} h2 ?_|(refine V2 @bne_self_eq_false.{0} ?_ ?_<;>try with_reducible intro hb)|(refine Xi ?_ ?_<;>try intro ht)|refine VD ?_ ?_|exact Xx|fail))<;>try with_reducible intro K hK)
      all_goals try (exfalso;omega)
      refine W_loopS (fun i:Nat=>(⟨slots [(10,.tree 1 (ints sp)),(12,.lit (.int .i64 i))],[]⟩:St)) (fun i=>i≤sp.length) (fun i=>sp.length - i) 0 (Nat.zero_le _) (Xv X0) ?_
      rintro i hi Ql hnl hel
      by_cases hi':i<sp.length
      · have:=hlw i (by omega)
        generalize hx:sp.getD i 0=x at *
        ((try revert hK K);(repeat' (first|refine Va @hx ?_|(refine V2 @hx ?_ ?_<;>try with_reducible intro hb)|(refine Xi ?_ ?_<;>try intro ht)|refine VD ?_ ?_|exact Xx|fail))<;>try with_reducible intro K hK)
        all_goals try (exfalso;omega)
        exact hnl _ (i+1) (by omega) (by omega) (Xv X0)
      · ((try revert hK K);(repeat' (first|refine Va X0 ?_|(refine V2 X0 ?_ ?_<;>try with_reducible intro hb)|(refine Xi ?_ ?_<;>try intro ht)|refine VD ?_ ?_|exact Xx|fail))<;>try with_reducible intro K hK)
        refine hel _ _ rfl ?_;clear hnl hel Ql
        repeat (first|refine Xu ?_)
        ((try revert hK K);(repeat' (first|refine Vd X0 awake26_ok ?_|(refine V2 X0 ?_ ?_<;>try with_reducible intro hb)|(refine Xi ?_ ?_<;>try intro ht)|refine VD ?_ ?_|exact Xx|fail))<;>try with_reducible intro K hK)
        exact RetOK_pure' rfl rfl
end T

