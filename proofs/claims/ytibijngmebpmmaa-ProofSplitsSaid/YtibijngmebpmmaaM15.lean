import Derived.Test.YtibijngmebpmmaaMC
import Derived.Test.YtibijngmebpmmaaCB
set_option linter.unusedVariables false
set_option linter.unusedSimpArgs false
set_option linter.unnecessarySimpa false
open Go Go.Am Go.Proofs
open Nat (reduceEqDiff reduceAdd reduceLeDiff reduceMul)
open Int (reduceNeg reduceLE reduceToNat)
set_option maxRecDepth 20000
namespace T
set_option maxHeartbeats 4000000 in
theorem refAll_ok (m:Mdl) (hm:MB m):Holds Try.prog 20 [.agg (eMdl m)] [] (.tree 1 (rowsOf eBs (allT m))) []:=by
  have h1:=refValid_ok m hm
  have hm1:=hm.cls
  generalize hres:allT m=res
  unfold allT at hres
  refine Holds.of_body' (fn:=Try.f20) 38 0 [.tmp 2] Try.func20 rfl rfl rfl rfl rfl (by simp) ?_
  by_cases hv:validV m=0
  rotate_left
  · rw[if_neg hv] at hres
    rw[← hres]
    generalize validV m=e at *
    repeat' (first|((first|((first|refine rr ?_|refine rre ?_|refine rb ?_|refine rbe ?_|refine ra ?_|refine rae ?_);intro K hK)|with_reducible refine gO ?_);simp (disch:=omega) only[Ac,↓Pc,simprocAttr])|(first|refine callK_pure (h1) rfl rfl ?_|refine callQ_pure (h1) rfl rfl ?_)|(refine hK _ ?_;clear hK K)|(with_reducible refine gS (fun hb'=>?_) (fun hb'=>?_)<;>(have hb:=hb';(try simp only[DEc,simprocAttr] at hb);simp (disch:=omega) only[Ac,↓Pc,simprocAttr,hb'];clear hb'))|(refine Wc (fun ht=>?_) (fun ht=>?_)<;>(try simp only[DEc,simprocAttr] at ht))|refine Wz rfl ?_|(refine Wb ?_;intro Qb hnb hxb heb)|(refine Wk ?_;intro Q hn he)|((first|refine hn _ ?_|refine he _ _ rfl ?_);clear hn he;try clear Q)|((first|refine hnb _ ?_|refine hxb _ ?_|refine heb _ _ rfl ?_);clear hnb hxb heb;try clear Qb)|(refine hel _ _ rfl ?_;clear hnl hel;try clear Ql)|(simp only[Qc,Kc,simprocAttr])|with_reducible refine And.intro ?_ ?_|omega|with_reducible rfl)
    all_goals try (exfalso;omega)
    exact RetOK_sel [] true (by decide) trivial (by decide) (by decide) ArgR.nil
  rw[if_pos hv] at hres
  rw[hv] at h1
  have hvm:=valid_iff.1 hv
  have hc24:=hvm.cls
  repeat' (first|((first|((first|refine rr ?_|refine rre ?_|refine rb ?_|refine rbe ?_|refine ra ?_|refine rae ?_);intro K hK)|with_reducible refine gO ?_);simp (disch:=omega) only[Ac,↓Pc,simprocAttr,bne_self_eq_false])|(first|refine callK_pure (h1) rfl rfl ?_|refine callQ_pure (h1) rfl rfl ?_)|(refine hK _ ?_;clear hK K)|(with_reducible refine gS (fun hb'=>?_) (fun hb'=>?_)<;>(have hb:=hb';(try simp only[DEc,simprocAttr] at hb);simp (disch:=omega) only[Ac,↓Pc,simprocAttr,bne_self_eq_false,hb'];clear hb'))|(refine Wc (fun ht=>?_) (fun ht=>?_)<;>(try simp only[DEc,simprocAttr] at ht))|refine Wz rfl ?_|(refine Wb ?_;intro Qb hnb hxb heb)|(refine Wk ?_;intro Q hn he)|((first|refine hn _ ?_|refine he _ _ rfl ?_);clear hn he;try clear Q)|((first|refine hnb _ ?_|refine hxb _ ?_|refine heb _ _ rfl ?_);clear hnb hxb heb;try clear Qb)|(refine hel _ _ rfl ?_;clear hnl hel;try clear Ql)|(simp only[Qc,Kc,simprocAttr])|with_reducible refine And.intro ?_ ?_|omega|with_reducible rfl)
  refine W_loopS (fun z:Nat × List (List Bool)=>(⟨slots [(1,.ptr 0 0 0),(3,.ref 1 1 0 z.2.length),(4,.lit (.int .i64 z.1))],[.var (eMdl m),.arr 1 (rowsOf eBs z.2)]⟩:St))
    (fun z=>z.1≤m.cls.length∧z.2=(allV m).take z.1) (fun z=>m.cls.length - z.1) (0,[]) ⟨Nat.zero_le _,rfl⟩ ?_ ?_
  · refine Turns.trans (Turns.nil 3 1 (by simp only[Kc,simprocAttr]) (by decide)) ?_
    (refine Turns.slots _ _ rfl ?_;simp only[Tc,↓reduceIte,reduceEqDiff,Nat.reduceBEq,reduceAdd];try trivial)
  rintro ⟨i,xs⟩ ⟨hi,hxs⟩ Ql hnl hel
  dsimp only at hi hxs ⊢
  have hal:(allV m).length=m.cls.length:=by simp[allV]
  by_cases hi':i<m.cls.length
  · have hxl:xs.length=i:=by rw[hxs,List.length_take];omega
    have hts:(allV m).take (i+1)=xs++[List.replicate (m.cls.getD i default).length true]:=by
      rw[take_snoc (by omega),← hxs];unfold allV;rw[map_getD _ _ _ hi']
    have hl24:=hvm.opt _ (getD_mem (d:=default) hi')
    generalize hcc:m.cls.getD i default=c at *
    repeat' (first|((first|((first|refine rr ?_|refine rre ?_);intro K hK)|with_reducible refine gO ?_);simp (disch:=omega) only[Ac,↓Pc,simprocAttr,hcc,eCls])|(refine hK _ ?_;clear hK K)|(with_reducible refine gS (fun hb'=>?_) (fun hb'=>?_)<;>(have hb:=hb';(try simp only[DEc,simprocAttr] at hb);simp (disch:=omega) only[Ac,↓Pc,simprocAttr,hcc,eCls,hb'];clear hb'))|(refine Wc (fun ht=>?_) (fun ht=>?_)<;>(try simp only[DEc,simprocAttr] at ht))|refine Wz rfl ?_|(refine Wb ?_;intro Qb hnb hxb heb)|(refine Wk ?_;intro Q hn he)|((first|refine hn _ ?_|refine he _ _ rfl ?_);clear hn he;try clear Q)|((first|refine hnb _ ?_|refine hxb _ ?_|refine heb _ _ rfl ?_);clear hnb hxb heb;try clear Qb)|(simp only[Qc,Kc,simprocAttr])|with_reducible refine And.intro ?_ ?_|omega|with_reducible rfl)
    refine W_loopS (fun k:Nat=>(⟨slots [(1,.ptr 0 0 0),(3,.ref 1 1 0 xs.length),(4,.lit (.int .i64 i)),(5,.ref 2 1 0 c.length),(6,.lit (.int .i64 k))],[.var (eMdl m),.arr 1 (rowsOf eBs xs),.arr 1 (bools (List.replicate k true++List.replicate (c.length - k) false))]⟩:St))
      (fun k=>k≤c.length) (fun k=>c.length - k) 0 (Nat.zero_le _) (by simp only[Nat.sub_zero,List.replicate_zero,List.nil_append];(refine Turns.slots _ _ rfl ?_;simp only[Tc,↓reduceIte,reduceEqDiff,Nat.reduceBEq,reduceAdd];try trivial)) ?_
    rintro k hk Ql2 hnl2 hel2
    have hrl:(List.replicate k true++List.replicate (c.length - k) false).length=c.length:=by simp;omega
    by_cases hk':k<c.length
    · have hset:(List.replicate k true++List.replicate (c.length - k) false).set k true=List.replicate (k+1) true++List.replicate (c.length - (k+1)) false:=by
        rw[List.set_append_right _ _ (by simp),List.length_replicate,Nat.sub_self,show c.length - k=(c.length - (k+1))+1 by omega,List.replicate_succ,List.set_cons_zero,List.replicate_succ',List.append_assoc];rfl
      repeat' (first|((first|((first|refine rr ?_|refine rre ?_);intro K hK)|with_reducible refine gO ?_);simp (disch:=omega) only[Ac,↓Pc,simprocAttr,hrl,bools_set])|(refine hK _ ?_;clear hK K)|(with_reducible refine gS (fun hb'=>?_) (fun hb'=>?_)<;>(have hb:=hb';(try simp only[DEc,simprocAttr] at hb);simp (disch:=omega) only[Ac,↓Pc,simprocAttr,hrl,bools_set,hb'];clear hb'))|(refine Wc (fun ht=>?_) (fun ht=>?_)<;>(try simp only[DEc,simprocAttr] at ht))|refine Wz rfl ?_|(refine Wb ?_;intro Qb hnb hxb heb)|(refine Wk ?_;intro Q hn he)|((first|refine hn _ ?_|refine he _ _ rfl ?_);clear hn he;try clear Q)|((first|refine hnb _ ?_|refine hxb _ ?_|refine heb _ _ rfl ?_);clear hnb hxb heb;try clear Qb)|(simp only[Qc,Kc,simprocAttr])|with_reducible refine And.intro ?_ ?_|omega|with_reducible rfl)
      rw[hset]
      exact hnl2 _ (k+1) (by omega) (by omega) (by (refine Turns.slots _ _ rfl ?_;simp only[Tc,↓reduceIte,reduceEqDiff,Nat.reduceBEq,reduceAdd];try trivial))
    · obtain rfl:k=c.length:=by omega
      repeat' (first|((first|((first|refine rr ?_|refine rre ?_);intro K hK)|with_reducible refine gO ?_);simp (disch:=omega) only[Ac,↓Pc,simprocAttr])|(refine hK _ ?_;clear hK K)|(with_reducible refine gS (fun hb'=>?_) (fun hb'=>?_)<;>(have hb:=hb';(try simp only[DEc,simprocAttr] at hb);simp (disch:=omega) only[Ac,↓Pc,simprocAttr,hb'];clear hb'))|(refine Wc (fun ht=>?_) (fun ht=>?_)<;>(try simp only[DEc,simprocAttr] at ht))|refine Wz rfl ?_|(refine Wb ?_;intro Qb hnb hxb heb)|(refine Wk ?_;intro Q hn he)|((first|refine hn _ ?_|refine he _ _ rfl ?_);clear hn he;try clear Q)|((first|refine hnb _ ?_|refine hxb _ ?_|refine heb _ _ rfl ?_);clear hnb hxb heb;try clear Qb)|(simp only[Qc,Kc,simprocAttr])|with_reducible refine And.intro ?_ ?_|omega|with_reducible rfl)
      refine hel2 _ _ rfl ?_
      clear hnl2 hel2 Ql2
      repeat (first|((first|refine hn _ ?_|refine he _ _ rfl ?_);clear hn he;try clear Q)|((first|refine hnb _ ?_|refine hxb _ ?_|refine heb _ _ rfl ?_);clear hnb hxb heb;try clear Qb)|(refine hel _ _ rfl ?_;clear hnl hel;try clear Ql))
      rw[Nat.sub_self,List.replicate_zero,List.append_nil] at *
      refine W_turn (σ':=⟨slots [(1,.ptr 0 0 0),(3,.ref 1 1 0 xs.length),(4,.lit (.int .i64 i)),(5,.tree 1 (bools (List.replicate c.length true)))],[.var (eMdl m),.arr 1 (rowsOf eBs xs)]⟩) (by (refine Turns.se [0,1] true (by simp only[Oc,simprocAttr,List.length_replicate]) ?_;simp only[Hr,↓reduceIte,reduceEqDiff,Nat.reduceBEq,reduceAdd,List.length_replicate];try (and_intros<;>first|exact .pure rfl|exact .eq rfl|exact .fz rfl (by simp only[Bc,Rc])))) ?_
      repeat' (first|((first|((first|refine rr ?_|refine rre ?_);intro K hK)|with_reducible refine gO ?_);simp (disch:=omega) only[Ac,↓Pc,simprocAttr,eBs_app])|(refine hK _ ?_;clear hK K)|(with_reducible refine gS (fun hb'=>?_) (fun hb'=>?_)<;>(have hb:=hb';(try simp only[DEc,simprocAttr] at hb);simp (disch:=omega) only[Ac,↓Pc,simprocAttr,eBs_app,hb'];clear hb'))|(refine Wc (fun ht=>?_) (fun ht=>?_)<;>(try simp only[DEc,simprocAttr] at ht))|refine Wz rfl ?_|(refine Wb ?_;intro Qb hnb hxb heb)|(refine Wk ?_;intro Q hn he)|((first|refine hn _ ?_|refine he _ _ rfl ?_);clear hn he;try clear Q)|((first|refine hnb _ ?_|refine hxb _ ?_|refine heb _ _ rfl ?_);clear hnb hxb heb;try clear Qb)|(simp only[Qc,Kc,simprocAttr])|with_reducible refine And.intro ?_ ?_|omega|with_reducible rfl)
      refine hnl _ (i+1,xs++[List.replicate c.length true]) ⟨by dsimp only;omega,hts.symm⟩ (by dsimp only;omega) ?_
      (refine Turns.se [0,3] false (by simp only[Oc,simprocAttr]) ?_;simp only[Hr,↓reduceIte,reduceEqDiff,Nat.reduceBEq,reduceAdd];try (and_intros<;>first|exact .pure rfl|exact .eq rfl|exact .fz rfl (by simp only[Bc,Rc])))
  · rw[List.take_of_length_le (by omega)] at hxs
    repeat' (first|((first|((first|refine rr ?_|refine rre ?_);intro K hK)|with_reducible refine gO ?_);simp (disch:=omega) only[Ac,↓Pc,simprocAttr])|(refine hK _ ?_;clear hK K)|(with_reducible refine gS (fun hb'=>?_) (fun hb'=>?_)<;>(have hb:=hb';(try simp only[DEc,simprocAttr] at hb);simp (disch:=omega) only[Ac,↓Pc,simprocAttr,hb'];clear hb'))|(refine Wc (fun ht=>?_) (fun ht=>?_)<;>(try simp only[DEc,simprocAttr] at ht))|refine Wz rfl ?_|(refine Wb ?_;intro Qb hnb hxb heb)|(refine Wk ?_;intro Q hn he)|((first|refine hn _ ?_|refine he _ _ rfl ?_);clear hn he;try clear Q)|((first|refine hnb _ ?_|refine hxb _ ?_|refine heb _ _ rfl ?_);clear hnb hxb heb;try clear Qb)|(simp only[Qc,Kc,simprocAttr])|with_reducible refine And.intro ?_ ?_|omega|with_reducible rfl)
    refine hel _ _ rfl ?_;clear hnl hel Ql
    repeat (first|((first|refine hn _ ?_|refine he _ _ rfl ?_);clear hn he;try clear Q)|((first|refine hnb _ ?_|refine hxb _ ?_|refine heb _ _ rfl ?_);clear hnb hxb heb;try clear Qb)|(refine hel _ _ rfl ?_;clear hnl hel;try clear Ql))
    repeat' (first|((first|((first|refine rr ?_|refine rre ?_);intro K hK)|with_reducible refine gO ?_);simp (disch:=omega) only[Ac,↓Pc,simprocAttr])|(refine hK _ ?_;clear hK K)|(with_reducible refine gS (fun hb'=>?_) (fun hb'=>?_)<;>(have hb:=hb';(try simp only[DEc,simprocAttr] at hb);simp (disch:=omega) only[Ac,↓Pc,simprocAttr,hb'];clear hb'))|(refine Wc (fun ht=>?_) (fun ht=>?_)<;>(try simp only[DEc,simprocAttr] at ht))|refine Wz rfl ?_|(refine Wb ?_;intro Qb hnb hxb heb)|(refine Wk ?_;intro Q hn he)|((first|refine hn _ ?_|refine he _ _ rfl ?_);clear hn he;try clear Q)|((first|refine hnb _ ?_|refine hxb _ ?_|refine heb _ _ rfl ?_);clear hnb hxb heb;try clear Qb)|(refine hel _ _ rfl ?_;clear hnl hel;try clear Ql)|(simp only[Qc,Kc,simprocAttr])|with_reducible refine And.intro ?_ ?_|omega|with_reducible rfl)
    rw[hxs,hres]
    (refine RetOK_se [] true (by simp only[Oc,simprocAttr]) ?_;first|exact .pure rfl|exact .eq rfl|exact .fz rfl (by simp only[Bc,Rc]))
end T

