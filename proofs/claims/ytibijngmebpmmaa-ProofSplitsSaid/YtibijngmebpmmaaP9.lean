import Derived.Test.YtibijngmebpmmaaPE
import Derived.Test.YtibijngmebpmmaaP8
import Derived.Test.YtibijngmebpmmaaCB
import Derived.Test.YtibijngmebpmmaaM6
import Derived.Test.YtibijngmebpmmaaMC
import Derived.Test.YtibijngmebpmmaaM15
set_option linter.unusedVariables false
set_option linter.unusedSimpArgs false
set_option linter.unnecessarySimpa false
open Go Go.Am Go.Proofs
open Nat (reduceEqDiff reduceAdd reduceLeDiff reduceMul)
open Int (reduceNeg reduceLE reduceToNat)
set_option maxRecDepth 20000
namespace T
theorem all_bb {m:Mdl} (hm:VM m):BB (allT m):=by
  have hf:=all_fits hm
  have hc:=hm.cls
  refine⟨by have:=hf.1;omega,fun r hr=>?_⟩
  have:=hf.row hm r hr
  omega
def nilA:AV:=.lit (.slice none 0 0)
def lfR:List AV:=[.lit (.int .i64 (-1)),nilA,nilA,nilA,nilA]
def spL (k:Nat):List Int:=(List.range k).map fun (o:Nat)=>((o+1:Nat):Int)
def spR (k:Nat):List (List AV):=List.replicate k lfR
def spO (c:Int):Nat→List Ob
  | 0=>[.arr 5 [[.lit (.int .i64 c),nilA,nilA,nilA,nilA]],.var [.ref 0 5 0 1]]
  | k+1=>[.arr 5 ([.lit (.int .i64 c),.ref 2 1 0 (k+1),nilA,nilA,nilA]::spR (k+1)),.var [.ref 0 5 0 (k+2)],.arr 1 (ints (spL (k+1)))]
theorem spL_len (k:Nat):(spL k).length=k:=by simp[spL]
theorem spR_len (k:Nat):(spR k).length=k:=by simp[spR]
theorem spL_app (k:Nat):ints (spL k)++[[.lit (.int .i64 ((k:Int)+1))]]=ints (spL (k+1)):=by
  unfold spL
  rw[List.range_succ,List.map_append];simp[ints]
theorem spL_take (k:Nat):(ints (spL k)).take k=ints (spL k):=List.take_of_length_le (by simp[ints,spL_len])
theorem spR_take (k:Nat):(spR k).take k=spR k:=List.take_of_length_le (by rw[spR_len];omega)
theorem spR_app (k:Nat):spR k++[[.lit (.int .i64 (-1)),.lit (.slice none 0 0),.lit (.slice none 0 0),.lit (.slice none 0 0),.lit (.slice none 0 0)]]=spR (k+1):=by unfold spR;rw[List.replicate_succ'];rfl
theorem spR_ren (ρ:Nat→Nat) (k:Nat):(spR k).map (List.map (ren ρ))=spR k:=by unfold spR;rw[List.map_replicate];rfl
theorem spR_frz (σ:St) (kp:Nat→Prop):∀ k,RowsR (Frz σ kp) (rowsOf eNd (List.replicate k (leafN []))) (spR k)
  | 0=>trivial
  | k+1=>⟨⟨.lit _,.nil _,.nil _,.nil _,.nil _,trivial⟩,spR_frz σ kp k⟩
theorem frz_ints {σ:St} {kp:Nat→Prop} {id n:Nat} {xs:List Int} (ho:σ.objs[id]?=some (.arr 1 (ints xs))) (hn:n=xs.length) (hk:¬ kp id):Frz σ kp (.tree 1 (ints xs)) (.ref id 1 0 n) :=
  Frz.mk ho (by rw[hn];simp[ints]) hk (ints_wid _) (RowsR.of_get (f:=fun _=>[]) (g:=fun _=>[]) rfl fun j c d hc hd=>by rw[hc] at hd;cases hd;exact frz_row (fun v hv=>ints_frz _ _ (List.mem_of_getElem? hc) v hv) rfl)
theorem split_pb (c k:Nat) (h:k<1000):PB (splitP c k):=by
  have hm:∀ x∈splitP c k,x.kids.length≤k∧x.mvs=[]∧x.grp=[]∧x.cells=[]:=fun x hx=>by
    unfold splitP at hx
    rw[List.mem_cons] at hx
    rcases hx with rfl | hx
    · exact⟨by simp,rfl,rfl,rfl⟩
    · rw[List.mem_replicate] at hx
      rw[hx.2];exact⟨Nat.zero_le _,rfl,rfl,rfl⟩
  refine⟨by rw[split_len];omega,fun x hx=>?_,fun x hx=>?_,fun x hx=>?_,fun x hx=>?_,fun x hx l hl=>?_⟩
  · have:=(hm x hx).1;omega
  · rw[(hm x hx).2.1];show 0<_;decide
  · rw[(hm x hx).2.2.1];show 0<_;decide
  · rw[(hm x hx).2.2.2];show 0<_;decide
  · rw[(hm x hx).2.2.2] at hl;cases hl
set_option maxRecDepth 10000 in
set_option maxHeartbeats 16000000 in
theorem splits_ok (tape:List Int) (cl:Int):Holds Try.prog 5 [.tree 1 (ints tape),.lit (.int .i64 cl)] [] (.lit (.bool true)) []:=by
  refine Holds.of_body' (fn:=Try.f5) 104 0 [.tmp 4] Try.func5 rfl rfl rfl rfl rfl (by simp) ?_
  repeat' (first|((first|((fail_if_success (first|refine W_at 3 ?_|refine W_atE 3 ?_));(first|refine rr ?_|refine rre ?_|refine rb ?_|refine rbe ?_|refine ra ?_|refine rae ?_);intro K hK)|with_reducible refine gO ?_);simp (disch:=omega) only[Ac,↓Pc,simprocAttr])|(first|refine callK_pure (light_ok _) rfl rfl ?_|refine callQ_pure (light_ok _) rfl rfl ?_)|(first|refine callK_pure (awake_ok) rfl rfl ?_|refine callQ_pure (awake_ok) rfl rfl ?_)|(refine hK _ ?_;clear hK K)|(with_reducible refine gS (fun hb'=>?_) (fun hb'=>?_)<;>(have hb:=hb';(try simp only[DEc,simprocAttr] at hb);simp (disch:=omega) only[Ac,↓Pc,simprocAttr,hb'];clear hb'))|(refine Wc (fun ht=>?_) (fun ht=>?_)<;>(try simp only[DEc,simprocAttr] at ht))|refine Wz rfl ?_|(refine Wb ?_;intro Qb hnb hxb heb)|(refine Wk ?_;intro Q hn he)|((first|refine hn _ ?_|refine he _ _ rfl ?_);clear hn he;try clear Q)|((first|refine hnb _ ?_|refine hxb _ ?_|refine heb _ _ rfl ?_);clear hnb hxb heb;try clear Qb)|(refine hel _ _ rfl ?_;clear hnl hel;try clear Ql)|(simp only[Qc,Kc,simprocAttr])|with_reducible refine And.intro ?_ ?_|omega|with_reducible rfl)
  · exact RetOK_pure' rfl rfl
  have hL:tape.length<1000000:=by omega
  have hmod:=model_ok tape 0 4 3 (Nat.zero_le _) hL (by decide) (by decide) (by decide)
  refine W_region_ce 2 (by decide) _ rfl ?_
  intro K hK
  simp (disch:=omega) only[Ac,↓Pc,simprocAttr,List.take,List.drop]
  refine callK_sel [] (roll_ok tape) (by decide) trivial ⟨.pure rfl,trivial⟩ ?_
  simp (disch:=omega) only[Ac,↓Pc,simprocAttr,List.take,List.drop,Nat.sub_self]
  refine⟨rfl,(show callKR Try.prog 10 [.ptr 0 0 0,.lit (.int .i64 (4:Nat)),.lit (.int .i64 (3:Nat))] (some 21) _ _ from ?_)⟩
  refine callKR_sel [0] hmod (by decide) ⟨rfl,trivial⟩ ⟨.eq rfl,.pure rfl,.pure rfl,trivial⟩ ?_
  rintro r os ⟨m,k,hm,hk,rfl,rfl⟩
  have hvm:=hm.vm
  unfold dice
  simp (disch:=omega) only[Ac,↓Pc,simprocAttr]
  refine hK _ ?_;clear hK K
  repeat (first|((first|refine hn _ ?_|refine he _ _ rfl ?_);clear hn he;try clear Q)|((first|refine hnb _ ?_|refine hxb _ ?_|refine heb _ _ rfl ?_);clear hnb hxb heb;try clear Qb)|(refine hel _ _ rfl ?_;clear hnl hel;try clear Ql))
  refine W_turn (Turns.frzP 5 1 (cells:=eMdl m) (by rfl) (by simp only[Kc,simprocAttr]) (by simp[eMdl])) ?_
  refine W_turn (σ':=⟨slots [(1,.lit (.int .i64 cl)),(5,.taddr (eMdl m))],[]⟩) (by (refine Turns.se [] false (by simp only[Oc,simprocAttr]) ?_;simp only[Hr,↓reduceIte,reduceEqDiff,Nat.reduceBEq,reduceAdd];try (and_intros<;>first|exact .pure rfl|exact .eq rfl|exact .fz rfl (by simp only[Bc,Rc])))) ?_
  have hc24:=hvm.cls
  obtain ⟨n0,ha,hn0⟩:=one_leaf hvm [] rfl
  have hav:n0=valV m (allT m) (S0 m,T0 m):=by
    rw[hn0,leaf_nil]
    have:=valV_top (m:=m) (allT m) (S0 m,T0 m)
    show min _ _=_
    omega
  have h1:=check_ok m [leafN []] hvm.mb (leaf_pb [] (by decide))
  rw[ha] at h1
  have h2:=refAll_ok m hvm.mb
  have h3:=refValue_ok m (allT m) [] hvm.mb (all_bb hvm) (by decide)
  have hvt:valueT m (allT m) []=(n0,0):=by
    unfold valueT startV
    rw[if_neg (by rw[if_neg (by rw[valid_iff.2 hvm];simp),if_pos (all_fits hvm)];simp),leaf_nil,hav]
  rw[hvt] at h3
  have h3':=Holds.nilArg (pre:=[.agg (eMdl m),.tree 1 (rowsOf eBs (allT m))]) (post:=[]) h3
  have htr:=trivial_ok
  dsimp only at h1 h3'
  clear h3
  repeat' (first|((first|((fail_if_success (first|refine W_at 10 ?_|refine W_atE 10 ?_));(first|refine rr ?_|refine rre ?_|refine rb ?_|refine rbe ?_|refine ra ?_|refine rae ?_);intro K hK)|with_reducible refine gO ?_);simp (disch:=omega) only[Ac,↓Pc,simprocAttr,bne_self_eq_false])|(first|refine callK_pure (awake_ok) rfl rfl ?_|refine callQ_pure (awake_ok) rfl rfl ?_)|(first|refine callK_pure (h1) rfl rfl ?_|refine callQ_pure (h1) rfl rfl ?_)|(first|refine callK_pure (h2) rfl rfl ?_|refine callQ_pure (h2) rfl rfl ?_)|(first|refine callK_pure (h3') rfl rfl ?_|refine callQ_pure (h3') rfl rfl ?_)|(first|refine callK_pure (htr) rfl rfl ?_|refine callQ_pure (htr) rfl rfl ?_)|(refine hK _ ?_;clear hK K)|(with_reducible refine gS (fun hb'=>?_) (fun hb'=>?_)<;>(have hb:=hb';(try simp only[DEc,simprocAttr] at hb);simp (disch:=omega) only[Ac,↓Pc,simprocAttr,bne_self_eq_false,hb'];clear hb'))|(refine Wc (fun ht=>?_) (fun ht=>?_)<;>(try simp only[DEc,simprocAttr] at ht))|refine Wz rfl ?_|(refine Wb ?_;intro Qb hnb hxb heb)|(refine Wk ?_;intro Q hn he)|((first|refine hn _ ?_|refine he _ _ rfl ?_);clear hn he;try clear Q)|((first|refine hnb _ ?_|refine hxb _ ?_|refine heb _ _ rfl ?_);clear hnb hxb heb;try clear Qb)|(refine hel _ _ rfl ?_;clear hnl hel;try clear Ql)|(simp only[Qc,Kc,simprocAttr])|with_reducible refine And.intro ?_ ?_|omega|with_reducible rfl)
  · exact RetOK_pure' rfl rfl
  have hmd:=mod_ok cl (m.cls.length:Int) (by unfold In64;omega)
  have hmr:=modI_range cl (m.cls.length:Int) (by omega)
  obtain ⟨c,hc⟩ :∃c:Nat,modI cl (m.cls.length:Int)=c:=⟨_,(Int.toNat_of_nonneg hmr.1).symm⟩
  rw[hc] at hmd hmr
  have hcl:c<m.cls.length:=by omega
  have hl24:=hvm.opt _ (getD_mem (l:=m.cls) (i:=c) (d:=default) hcl)
  obtain ⟨n1,hb,hge⟩:=splits_law hvm hcl
  rw[← hav] at hge
  generalize hww:m.cls.getD c default=cls at *
  repeat' (first|((first|((first|refine rr ?_|refine rre ?_|refine rb ?_|refine rbe ?_|refine ra ?_|refine rae ?_);intro K hK)|with_reducible refine gO ?_);simp (disch:=omega) only[Ac,↓Pc,simprocAttr])|(first|refine callK_pure (hmd) rfl rfl ?_|refine callQ_pure (hmd) rfl rfl ?_)|(refine hK _ ?_;clear hK K)|(with_reducible refine gS (fun hb'=>?_) (fun hb'=>?_)<;>(have hb:=hb';(try simp only[DEc,simprocAttr] at hb);simp (disch:=omega) only[Ac,↓Pc,simprocAttr,hb'];clear hb'))|(refine Wc (fun ht=>?_) (fun ht=>?_)<;>(try simp only[DEc,simprocAttr] at ht))|refine Wz rfl ?_|(refine Wb ?_;intro Qb hnb hxb heb)|(refine Wk ?_;intro Q hn he)|((first|refine hn _ ?_|refine he _ _ rfl ?_);clear hn he;try clear Q)|((first|refine hnb _ ?_|refine hxb _ ?_|refine heb _ _ rfl ?_);clear hnb hxb heb;try clear Qb)|(refine hel _ _ rfl ?_;clear hnl hel;try clear Ql)|(simp only[Qc,Kc,simprocAttr])|with_reducible refine And.intro ?_ ?_|omega|with_reducible rfl)
  refine W_loopS (fun k:Nat=>(⟨slots [(5,.taddr (eMdl m)),(6,.lit (.int .i64 n0)),(10,.lit (.int .i64 c)),(11,.ptr 1 0 0),(12,.lit (.int .i64 k))],spO c k⟩:St)) (fun k=>k≤cls.length) (fun k=>cls.length - k) 0 (Nat.zero_le _) (by unfold spO nilA;(refine Turns.slots _ _ rfl ?_;simp only[Tc,↓reduceIte,reduceEqDiff,Nat.reduceBEq,reduceAdd];try trivial)) ?_
  intro k hk Ql hnl hel
  by_cases hk':k<cls.length
  · cases k with
    | zero =>
      unfold spO nilA
      repeat' (first|((first|((fail_if_success (first|refine W_at 15 ?_|refine W_atE 15 ?_));(first|refine rr ?_|refine rre ?_);intro K hK)|with_reducible refine gO ?_);simp (disch:=omega) only[Ac,↓Pc,simprocAttr,hww,eCls])|(refine hK _ ?_;clear hK K)|(with_reducible refine gS (fun hb'=>?_) (fun hb'=>?_)<;>(have hb:=hb';(try simp only[DEc,simprocAttr] at hb);simp (disch:=omega) only[Ac,↓Pc,simprocAttr,hww,eCls,hb'];clear hb'))|(refine Wc (fun ht=>?_) (fun ht=>?_)<;>(try simp only[DEc,simprocAttr] at ht))|refine Wz rfl ?_|(refine Wb ?_;intro Qb hnb hxb heb)|(refine Wk ?_;intro Q hn he)|((first|refine hn _ ?_|refine he _ _ rfl ?_);clear hn he;try clear Q)|((first|refine hnb _ ?_|refine hxb _ ?_|refine heb _ _ rfl ?_);clear hnb hxb heb;try clear Qb)|(simp only[Qc,Kc,simprocAttr])|with_reducible refine And.intro ?_ ?_|omega|with_reducible rfl)
      refine W_draw [] (.take 2 (.take 3 (.take 4 (.take 5 (.take 6 (.take 7 (.take 8 (.both 0 (.both 1 (.take 9 (.take 10 (.take 11 (.take 12 (.take 13 .nil))))) 9 (.both 1 (.take 10 (.take 11 (.take 12 (.take 13 .nil)))) 10 (.take 1 (.take 11 (.take 12 (.take 13 .nil)))))) 9 (.both 0 (.both 1 (.take 10 (.take 11 (.take 12 (.take 13 .nil)))) 10 (.take 1 (.take 11 (.take 12 (.take 13 .nil))))) 10 (.take 0 (.take 1 (.take 11 (.take 12 (.take 13 .nil)))))))))))))) rfl (by decide) (by decide +kernel) ?_
      simp (disch:=omega) only[Ac,↓Pc,simprocAttr,planW_three,planW_both,planW_take,planW_nil,stepAt,stepD]
      repeat' (first|with_reducible refine And.intro ?_ ?_|omega|with_reducible rfl)
      all_goals
        repeat (first|((first|refine hn _ ?_|refine he _ _ rfl ?_);clear hn he;try clear Q)|((first|refine hnb _ ?_|refine hxb _ ?_|refine heb _ _ rfl ?_);clear hnb hxb heb;try clear Qb)|(refine hel _ _ rfl ?_;clear hnl hel;try clear Ql))
        repeat' (first|((first|((first|refine rr ?_|refine rre ?_);intro K hK)|with_reducible refine gO ?_);simp (disch:=omega) only[Ac,↓Pc,simprocAttr])|(refine hK _ ?_;clear hK K)|(with_reducible refine gS (fun hb'=>?_) (fun hb'=>?_)<;>(have hb:=hb';(try simp only[DEc,simprocAttr] at hb);simp (disch:=omega) only[Ac,↓Pc,simprocAttr,hb'];clear hb'))|(refine Wc (fun ht=>?_) (fun ht=>?_)<;>(try simp only[DEc,simprocAttr] at ht))|refine Wz rfl ?_|(refine Wb ?_;intro Qb hnb hxb heb)|(refine Wk ?_;intro Q hn he)|((first|refine hn _ ?_|refine he _ _ rfl ?_);clear hn he;try clear Q)|((first|refine hnb _ ?_|refine hxb _ ?_|refine heb _ _ rfl ?_);clear hnb hxb heb;try clear Qb)|(simp only[Qc,Kc,simprocAttr])|with_reducible refine And.intro ?_ ?_|omega|with_reducible rfl)
      all_goals
        refine hnl _ 1 hk' (by omega) ?_
        show Turns _ _ ⟨slots [(5,.taddr (eMdl m)),(6,.lit (.int .i64 n0)),(10,.lit (.int .i64 c)),(11,.ptr 1 0 0),(12,.lit (.int .i64 (1:Nat)))],[.arr 5 [[.lit (.int .i64 c),.ref 2 1 0 1,.lit (.slice none 0 0),.lit (.slice none 0 0),.lit (.slice none 0 0)],[.lit (.int .i64 (-1)),.lit (.slice none 0 0),.lit (.slice none 0 0),.lit (.slice none 0 0),.lit (.slice none 0 0)]],.var [.ref 0 5 0 2],.arr 1 [[.lit (.int .i64 (((0:Nat):Int)+1))]]]⟩
        exact Turns.sel [5,1,3] false _ _ (by decide) ⟨⟨by simp,.inr rfl⟩,⟨by simp,.inr rfl⟩,⟨by simp,.inr rfl⟩,trivial⟩ (by decide) (by decide) ⟨.pure rfl,.pure rfl,.pure rfl,.eq rfl,.pure rfl,trivial⟩
    | succ k =>
      unfold spO nilA
      have hl1:=spL_len (k+1)
      have hl2:=spR_len (k+1)
      have hl3:=spL_take (k+1)
      have hl4:=spR_take (k+1)
      have hl5:=spL_app (k+1)
      have hl6:=spR_app (k+1)
      repeat' (first|((first|((fail_if_success (first|refine W_at 15 ?_|refine W_atE 15 ?_));(first|refine rr ?_|refine rre ?_);intro K hK)|with_reducible refine gO ?_);simp (disch:=omega) only[Ac,↓Pc,simprocAttr,hww,eCls])|(refine hK _ ?_;clear hK K)|(with_reducible refine gS (fun hb'=>?_) (fun hb'=>?_)<;>(have hb:=hb';(try simp only[DEc,simprocAttr] at hb);simp (disch:=omega) only[Ac,↓Pc,simprocAttr,hww,eCls,hb'];clear hb'))|(refine Wc (fun ht=>?_) (fun ht=>?_)<;>(try simp only[DEc,simprocAttr] at ht))|refine Wz rfl ?_|(refine Wb ?_;intro Qb hnb hxb heb)|(refine Wk ?_;intro Q hn he)|((first|refine hn _ ?_|refine he _ _ rfl ?_);clear hn he;try clear Q)|((first|refine hnb _ ?_|refine hxb _ ?_|refine heb _ _ rfl ?_);clear hnb hxb heb;try clear Qb)|(simp only[Qc,Kc,simprocAttr])|with_reducible refine And.intro ?_ ?_|omega|with_reducible rfl)
      refine W_draw [] (.take 2 (.take 3 (.take 4 (.take 5 (.take 6 (.take 7 (.take 8 (.both 0 (.both 1 (.take 9 (.take 10 (.take 11 (.take 12 (.take 13 .nil))))) 9 (.both 1 (.take 10 (.take 11 (.take 12 (.take 13 .nil)))) 10 (.take 1 (.take 11 (.take 12 (.take 13 .nil)))))) 9 (.both 0 (.both 1 (.take 10 (.take 11 (.take 12 (.take 13 .nil)))) 10 (.take 1 (.take 11 (.take 12 (.take 13 .nil))))) 10 (.take 0 (.take 1 (.take 11 (.take 12 (.take 13 .nil)))))))))))))) rfl (by decide) (by decide +kernel) ?_
      simp (disch:=omega) only[Ac,↓Pc,simprocAttr,planW_three,planW_both,planW_take,planW_nil,stepAt,stepD,hl1,hl3,hl5]
      repeat' (first|with_reducible refine And.intro ?_ ?_|omega|with_reducible rfl)
      all_goals
        repeat (first|((first|refine hn _ ?_|refine he _ _ rfl ?_);clear hn he;try clear Q)|((first|refine hnb _ ?_|refine hxb _ ?_|refine heb _ _ rfl ?_);clear hnb hxb heb;try clear Qb)|(refine hel _ _ rfl ?_;clear hnl hel;try clear Ql))
        repeat' (first|((first|((first|refine rr ?_|refine rre ?_);intro K hK)|with_reducible refine gO ?_);simp (disch:=omega) only[Ac,↓Pc,simprocAttr,hl2,hl4,hl6])|(refine hK _ ?_;clear hK K)|(with_reducible refine gS (fun hb'=>?_) (fun hb'=>?_)<;>(have hb:=hb';(try simp only[DEc,simprocAttr] at hb);simp (disch:=omega) only[Ac,↓Pc,simprocAttr,hl2,hl4,hl6,hb'];clear hb'))|(refine Wc (fun ht=>?_) (fun ht=>?_)<;>(try simp only[DEc,simprocAttr] at ht))|refine Wz rfl ?_|(refine Wb ?_;intro Qb hnb hxb heb)|(refine Wk ?_;intro Q hn he)|((first|refine hn _ ?_|refine he _ _ rfl ?_);clear hn he;try clear Q)|((first|refine hnb _ ?_|refine hxb _ ?_|refine heb _ _ rfl ?_);clear hnb hxb heb;try clear Qb)|(simp only[Qc,Kc,simprocAttr])|with_reducible refine And.intro ?_ ?_|omega|with_reducible rfl)
        refine hnl _ (k+2) hk' (by omega) ?_
        unfold spO nilA
        exact Turns.sel [6,1,4] false _ _ (by decide) ⟨⟨by simp,.inr (by show some _=some (Ob.arr 5 (_::(spR (k+1+1)).map _));rw[spR_ren];rfl)⟩,⟨by simp,.inr rfl⟩,⟨by simp,.inr (by show some _=some _;rw[ints_ren])⟩,trivial⟩ (by decide) (by decide) ⟨.pure rfl,.pure rfl,.pure rfl,.eq rfl,.pure rfl,trivial⟩
  · obtain rfl:k=cls.length:=by omega
    have hsome:=(hm.some cls (by rw[← hww];exact getD_mem hcl)).1
    have hpb:=split_pb c cls.length (by omega)
    have hck:=check_ok m (splitP c cls.length) hvm.mb hpb
    rw[hb] at hck
    obtain ⟨k,hk2⟩ :∃k,cls.length=k+1:=⟨cls.length - 1,by omega⟩
    rw[hk2] at hck ⊢
    unfold spO nilA
    repeat' (first|((first|((first|refine rr ?_|refine rre ?_);intro K hK)|with_reducible refine gO ?_);simp (disch:=omega) only[Ac,↓Pc,simprocAttr,hww,eCls])|(refine hK _ ?_;clear hK K)|(with_reducible refine gS (fun hb'=>?_) (fun hb'=>?_)<;>(have hb:=hb';(try simp only[DEc,simprocAttr] at hb);simp (disch:=omega) only[Ac,↓Pc,simprocAttr,hww,eCls,hb'];clear hb'))|(refine Wc (fun ht=>?_) (fun ht=>?_)<;>(try simp only[DEc,simprocAttr] at ht))|refine Wz rfl ?_|(refine Wb ?_;intro Qb hnb hxb heb)|(refine Wk ?_;intro Q hn he)|((first|refine hn _ ?_|refine he _ _ rfl ?_);clear hn he;try clear Q)|((first|refine hnb _ ?_|refine hxb _ ?_|refine heb _ _ rfl ?_);clear hnb hxb heb;try clear Qb)|(simp only[Qc,Kc,simprocAttr])|with_reducible refine And.intro ?_ ?_|omega|with_reducible rfl)
    all_goals try (exfalso;omega)
    refine hel _ _ rfl ?_;clear hnl hel Ql
    repeat (first|((first|refine hn _ ?_|refine he _ _ rfl ?_);clear hn he;try clear Q)|((first|refine hnb _ ?_|refine hxb _ ?_|refine heb _ _ rfl ?_);clear hnb hxb heb;try clear Qb)|(refine hel _ _ rfl ?_;clear hnl hel;try clear Ql))
    refine W_region_t 2 (by decide) ?_
    intro K K1 hK hK1
    simp (disch:=omega) only[Ac,↓Pc,simprocAttr,List.take]
    refine hK1 _ ⟨slots [(6,.lit (.int .i64 n0)),(93,.agg (eMdl m)),(94,.agg (ePf (splitP c (k+1))))],[]⟩ ?_ ?_
    · refine Turns.sel [] true _ _ (by decide) trivial (by decide) (by decide) ⟨.pure rfl,.pure rfl,?_,trivial⟩
      simp only[Kc,simprocAttr]
      refine ArgR.agg _ _ rfl (ArgsR.spec (R:=ArgR _ _ _ _) (cs:=ePf (splitP c (k+1))) (ds:=[.ref 0 5 0 (k+2)]) ⟨.snap _ _ rfl ?_,trivial⟩).2
      refine Frz.mk rfl (by simp[spR_len]) (not_kept (by decide)) (rows_wid _) ⟨⟨.lit _,?_,.nil _,.nil _,.nil _,trivial⟩,spR_frz _ _ _⟩
      exact frz_ints (xs:=spL (k+1)) rfl (spL_len _).symm (not_kept (by decide))
    clear hK1 K1
    simp (disch:=omega) only[Ac,↓Pc,simprocAttr,List.drop]
    refine callK_pure hck rfl rfl ?_
    simp (disch:=omega) only[Ac,↓Pc,simprocAttr]
    refine hK _ ?_;clear hK K
    repeat' (first|((first|((first|refine rr ?_|refine rre ?_);intro K hK)|with_reducible refine gO ?_);simp (disch:=omega) only[Ac,↓Pc,simprocAttr])|(refine hK _ ?_;clear hK K)|(with_reducible refine gS (fun hb'=>?_) (fun hb'=>?_)<;>(have hb:=hb';(try simp only[DEc,simprocAttr] at hb);simp (disch:=omega) only[Ac,↓Pc,simprocAttr,hb'];clear hb'))|(refine Wc (fun ht=>?_) (fun ht=>?_)<;>(try simp only[DEc,simprocAttr] at ht))|refine Wz rfl ?_|(refine Wb ?_;intro Qb hnb hxb heb)|(refine Wk ?_;intro Q hn he)|((first|refine hn _ ?_|refine he _ _ rfl ?_);clear hn he;try clear Q)|((first|refine hnb _ ?_|refine hxb _ ?_|refine heb _ _ rfl ?_);clear hnb hxb heb;try clear Qb)|(refine hel _ _ rfl ?_;clear hnl hel;try clear Ql)|(simp only[Qc,Kc,simprocAttr])|with_reducible refine And.intro ?_ ?_|omega|with_reducible rfl)
    all_goals try (exfalso;omega)
    exact RetOK_pure' rfl (by rw[decide_eq_true (show n1 ≥ n0 from hge)])
end T

