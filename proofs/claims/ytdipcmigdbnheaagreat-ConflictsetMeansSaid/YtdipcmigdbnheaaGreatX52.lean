import Derived.Test.YtdipcmigdbnheaaGreatX50
import Derived.Test.YtdipcmigdbnheaaGreatX36
import Derived.Test.YtdipcmigdbnheaaGreatX38
import Derived.Test.YtdipcmigdbnheaaGreatX08
set_option linter.unusedVariables false
set_option linter.unusedSimpArgs false
set_option linter.unnecessarySimpa false
set_option linter.unusedSectionVars false
set_option maxHeartbeats 64000000
set_option maxRecDepth 20000
open Nat renaming zero_le→aM
open List renaming take_length→ss,range→aN
open Go Go.Am Go.Proofs
open Nat (reduceEqDiff reduceAdd reduceLeDiff reduceMul)
open Int (reduceNeg reduceLE reduceToNat)
namespace T
theorem Ww (l:List Int) (x n:Int):bU (l++[x]) n=if x=n then bU l n else bU l n++[x]:=by
  unfold bU
  rw[List.filter_append]
  by_cases h:x=n
  · rw[if_pos h];simp[h]
  · rw[if_neg h];simp[h]
theorem afo (m:aj) (hm:VM m) (l:List Int) (hl:mG m l) (b:Int):an Tryz.prog 68 [.agg (ar m),.tree 1 (ints l),.lit (.int .i64 b)] [] (.tree 1 (aY (fW m.rules (bU l b)))) []:=by
  have hr:=hm.im
  have k7:=hl.2
  have gP:=hl.1
  refine an.aD (fn:=Tryz.f68) 31 0 [.tmp 6] Tryz.func68 rfl rfl rfl rfl rfl (by simp) ?_
  refine Va X0 ?_
  refine aU (fun z:Nat=>(⟨aw [(1,.tree 1 (ints l)),(2,.lit (.int .i64 b)),(7,.ref 1 1 0 m.rules.toNat),(8,.lit (.int .i64 z))],[.var (ar m),.arr 1 (aY (fW m.rules (bU (l.take z) b)))]⟩:St)) (fun z=>z≤l.length) (fun z=>l.length - z) 0 (aM _) (by rw[List.take_zero,show bU [] b=[] from rfl,Ou];exact Xv @ar.eq_1) ?_
  intro k hk Ql aq av
  have cw:=yI m.rules (bU (l.take k) b)
  by_cases aH:k<l.length
  · have hx:=k7 _ (aC (l:=l) (d:=0) aH)
    have eN:l.take (k+1)=l.take k++[l.getD k 0]:=iD aH
    have gr:=Ot (xs:=bU (l.take k) b) hx.1 hx.2
    have sg:=Ww (l.take k) (l.getD k 0) b
    rw[← eN] at sg
    generalize bE:l.getD k 0=x at *
    by_cases hb:x=b
    · rw[if_pos hb] at sg
      ((repeat' (first|refine Va @bE ?_|(refine Xi ?_ ?_<;>try intro ht)|exact Xx|fail)))
      all_goals try (exfalso;simp_all;done)
      all_goals exact aq _ (k+1) (by omega) (by omega) (by rw[sg];exact Xv @ar.eq_1)
    · rw[if_neg hb] at sg
      rw[← sg] at gr
      generalize fW m.rules (bU (l.take k) b)=bs at *
      ((repeat' (first|refine Va (X3 @bE @cw @gr) ?_|(refine Xi ?_ ?_<;>try intro ht)|exact Xx|fail)))
      all_goals try (exfalso;simp_all;done)
      all_goals try omega
      all_goals exact aq _ (k+1) (by omega) (by omega) (Xv @ar.eq_1)
  · obtain rfl:k=l.length:=by omega
    rw[ss] at cw ⊢
    ((repeat' (first|refine Va X0 ?_|(refine Xi ?_ ?_<;>try intro ht)|exact Xx|fail)))
    refine av _ _ rfl ?_;clear aq av Ql
    repeat (refine Xu ?_)
    generalize fW m.rules (bU l b)=bs at *
    refine Vb X0 ?_
    exact cP [] true (by decide) trivial (by decide) (by decide) (aE.bW (rows:=aY bs) rfl (zS _) (by rw[wB,cw]) (gK (by decide)) (Cz _))
theorem afp (m:aj) (hm:VM m) (l:List Int):an Tryz.prog 38 [.agg (ar m),.tree 1 (aY (fW m.rules l))] [] (.bG [.agg (ar (bN m l)),.lit (.int .i64 0)]) []:=by
  have hr:=hm.im
  have h:=aeM m (fW m.rules l) hm.mb (by rw[yI];omega)
  rw[show qC m (fW m.rules l)=(gv m (fW m.rules l),0) by unfold qC;rw[if_neg (by rw[eB.2 hm];simp),if_neg (by rw[yI];omega)]] at h
  exact h
theorem Og (m:aj) (hm:VM m) (l:List Int) (hl:mG m l) (b:Int):an Tryz.prog 37 [.agg (ar m),.tree 1 (ints l),.lit (.int .i64 b)] [] (.lit (.bool (iC m (bU l b)))) []:=by
  have h1:=afo m hm l hl b
  have h2:=afp m hm (bU l b)
  have mC:=yH hm (bU l b)
  have h3:=Z8 _ mC
  unfold iC
  generalize fW m.rules (bU l b)=kb at *
  generalize bN m (bU l b)=r at *
  generalize eD r r.cls.length []=bf at *
  refine an.aD (fn:=Tryz.f37) 27 0 [.tmp 6] Tryz.func37 rfl rfl rfl rfl rfl (by simp) ?_
  repeat' (first|((fail_if_success (first|refine ej 1 ?_|refine ek 1 ?_));refine Xr X0 ?_;intro K hK)|(refine hK _ ?_;clear hK K)|refine Xy ?_|fail)
  refine bJ (aB.l6 3 0 (cells:=ar m) (by rfl) (by simp only[Kc,simprocAttr]) (by simp[ar])) ?_
  refine bJ (σ':=⟨aw [(1,.tree 1 (ints l)),(2,.lit (.int .i64 b)),(3,.b7 (ar m)),(6,.lit (.bool false))],[]⟩) (Xs false [] X0) ?_
  refine jT [0,1,4,5] (.take 0 (.take 1 (.take 2 (.take 3 (.take 4 (.take 5 (.take 6 (.take 7 (.take 8 (.take 9 (.take 10 (.take 11 .nil)))))))))))) rfl (by decide) (by decide +kernel) ?_
  simp (disch:=omega) only[Ac,↓Pc,simprocAttr,Pw,↓Lq,ar]
  refine bH h1 rfl rfl ?_
  simp (disch:=omega) only[Ac,↓Pc,simprocAttr,Pw,↓Lq,ar]
  refine bH h2 rfl rfl ?_
  simp (disch:=omega) only[Ac,↓Pc,simprocAttr,Pw,↓Lq,ar]
  repeat (refine Xu ?_)
  refine Vd X0 h3 ?_
  exact aK rfl rfl
theorem Zw (m:aj) (hm:VM m):an Tryz.prog 30 [.agg (ar m)] [] (.bG [.tree 1 (ints (sT m).1),.lit (.int .i64 (sT m).2)]) []:=by
  have hv:=AH m hm.mb
  rw[eB.2 hm] at hv
  have hr:=hm.im
  have pg:=IP hm
  have AK:=fun l (hl:mG m l) b=>Og m hm l hl b
  generalize ao:sT m=res
  unfold sT at ao
  refine an.aD (fn:=Tryz.f30) 60 0 [.tmp 2,.tmp 3] Tryz.func30 rfl rfl rfl rfl rfl (by simp) ?_
  ((repeat' (first|refine Vc X0 hv ?_|(refine Xi ?_ ?_<;>try intro ht)|exact Xx|fail)))
  refine bJ (aB.nil 5 1 (by simp only[Kc,simprocAttr]) (by decide)) ?_
  refine aU (fun z:Nat=>(⟨aw [(1,.ptr 0 0 0),(5,.ref 1 1 0 ((aN z).map fun (i:Nat)=>(i:Int)).length),(6,.lit (.int .i64 z))],[.var (ar m),.arr 1 (ints ((aN z).map fun (i:Nat)=>(i:Int)))]⟩:St)) (fun z=>(z:Int)≤m.rules) (fun z=>m.rules.toNat - z) 0 (by omega) (Xv @ar.eq_1) ?_
  intro k hk Ql aq av
  have cw:((aN k).map fun (i:Nat)=>(i:Int)).length=k:=by simp
  have lT:((aN (k+1)).map fun (i:Nat)=>(i:Int))=((aN k).map fun (i:Nat)=>(i:Int))++[(k:Int)]:=by rw[List.range_succ,List.map_append];rfl
  by_cases aH:(k:Int)<m.rules
  · generalize hY:((aN k).map fun (i:Nat)=>(i:Int))=Y at *
    ((repeat' (first|refine Va X0 ?_|(refine Xi ?_ ?_<;>try intro ht)|exact Xx|fail)))
    all_goals try omega
    exact aq _ (k+1) (by omega) (by omega) (by rw[lT];exact Xs false [0,3] @ar.eq_1)
  obtain rfl:k=m.rules.toNat:=by omega
  have fK:((aN m.rules.toNat).map fun (i:Nat)=>(i:Int))=fq m:=rfl
  rw[fK] at cw ⊢
  clear lT fK hk
  ((repeat' (first|refine Va X0 ?_|(refine Xi ?_ ?_<;>try intro ht)|exact Xx|fail)))
  refine av _ _ rfl ?_;clear aq av Ql
  repeat (refine Xu ?_)
  generalize hA:fq m=A at *
  refine bJ (aB.FA 5 1 1 (rows:=ints A) rfl (by rw[kd];simp only[Kc,simprocAttr]) (oE _) (pw _)) ?_
  refine bJ (aB.l6 1 0 (cells:=ar m) (by rfl) (by simp only[Kc,simprocAttr]) (by simp[ar])) ?_
  refine bJ (σ':=⟨aw [(1,.b7 (ar m)),(5,.tree 1 (ints A))],[]⟩) (Xs false [] X0) ?_
  have s5:=AK A pg (-1)
  cases hb:iC m (bU A (-1))
  rotate_left
  · rw[hb] at s5
    rw[if_pos hb] at ao
    subst ao
    ((repeat' (first|refine Vd X0 s5 ?_|(refine Xi ?_ ?_<;>try intro ht)|exact Xx|fail)))
    exact cP [] true (by decide) trivial (by decide) (by decide) (aE.mX aE.nil (.pure rfl))
  rw[hb] at s5
  rw[if_neg (by rw[hb];simp)] at ao
  ((repeat' (first|refine Vc @ar.eq_1 s5 ?_|(refine Xi ?_ ?_<;>try intro ht)|exact Xx|fail)))
  clear s5 hb
  have hAd:∀ i:Nat,(i:Int)<m.rules→A.drop i=(i:Int)::A.drop (i+1):=fun i hi=>by
    have h1:i<A.length:=by omega
    rw[cA A i 0 h1,← hA]
    unfold fq
    congr 1
    rw[List.getD_eq_getElem?_getD,List.getElem?_map,List.getElem?_range (by omega)];rfl
  refine aU (fun z:Nat × List Int=>(⟨aw [(1,.b7 (ar m)),(5,.tree 1 (ints z.2)),(7,.lit (.int .i64 z.1))],[]⟩:St))
    (fun z=>(z.1:Int)≤m.rules∧mG m z.2∧(pV m (A.drop z.1) z.2,(0:Int))=res) (fun z=>m.rules.toNat - z.1) (0,A) ⟨by omega,pg,ao⟩ (Xv @ar.eq_1) ?_
  rintro ⟨i,l⟩ ⟨hi,hl,oI⟩ Ql aq av
  dsimp only at hi hl oI ⊢
  by_cases hi':(i:Int)<m.rules
  · rw[hAd i hi',pV] at oI
    have E7:=AK l hl (i:Int)
    have sX:=hl.bU (i:Int)
    have xg:=hl.1
    cases hb:iC m (bU l (i:Int))
    rotate_left
    · rw[hb] at E7
      rw[if_pos hb] at oI
      ((repeat' (first|refine Vc @ar.eq_1 E7 ?_|(refine Xi ?_ ?_<;>try intro ht)|exact Xx|fail)))
      exact aq _ (i+1,l) ⟨by dsimp only;omega,hl,oI⟩ (by dsimp only;omega) (Xv @ar.eq_1)
    rw[hb] at E7
    rw[if_neg (by rw[hb];simp)] at oI
    ((repeat' (first|refine Vc @ar.eq_1 E7 ?_|(refine Xi ?_ ?_<;>try intro ht)|exact Xx|fail)))
    refine bJ (aB.nil 8 1 (by simp only[Kc,simprocAttr]) (by decide)) ?_
    refine aU (fun z:Nat=>(⟨aw [(1,.b7 (ar m)),(5,.tree 1 (ints l)),(7,.lit (.int .i64 i)),(8,.ref 0 1 0 (bU (l.take z) i).length),(9,.lit (.int .i64 z))],[.arr 1 (ints (bU (l.take z) i))]⟩:St)) (fun z=>z≤l.length) (fun z=>l.length - z) 0 (aM _) (Xv @ar.eq_1) ?_
    intro k hk eo bP bM
    by_cases aH:k<l.length
    · have sg:=Ww (l.take k) (l.getD k 0) i
      rw[← show l.take (k+1)=l.take k++[l.getD k 0] from iD aH] at sg
      have BF:(bU (l.take k) i).length≤1000:=by
        refine Nat.le_trans (List.length_filter_le _ _) ?_
        rw[List.length_take];omega
      generalize bE:l.getD k 0=x at *
      generalize bU (l.take k) i=w at *
      by_cases hx:x=i
      · rw[if_pos hx] at sg
        ((repeat' (first|refine Va @bE ?_|(refine Xi ?_ ?_<;>try intro ht)|exact Xx|fail)))
        all_goals try (exfalso;simp_all;done)
        all_goals exact bP _ (k+1) (by omega) (by omega) (by rw[sg];exact Xv @ar.eq_1)
      · rw[if_neg hx] at sg
        ((repeat' (first|refine Va @bE ?_|(refine Xi ?_ ?_<;>try intro ht)|exact Xx|fail)))
        all_goals try (exfalso;simp_all;done)
        all_goals try omega
        all_goals exact bP _ (k+1) (by omega) (by omega) (by rw[sg];exact Xs false [2] X0)
    · obtain rfl:k=l.length:=by omega
      rw[ss]
      ((repeat' (first|refine Va X0 ?_|(refine Xi ?_ ?_<;>try intro ht)|exact Xx|fail)))
      refine bM _ _ rfl ?_
      clear bP bM
      repeat (refine Xu ?_)
      refine bJ (aB.FA 8 0 1 (rows:=ints (bU l i)) rfl (by rw[kd];simp only[Kc,simprocAttr]) (oE _) (pw _)) ?_
      refine Va X0 ?_
      exact aq _ (i+1,bU l i) ⟨by dsimp only;omega,sX,oI⟩ (by dsimp only;omega) (Xs false [] X0)
  · rw[List.drop_eq_nil_of_le (by omega),pV] at oI
    ((repeat' (first|refine Va @ar.eq_1 ?_|(refine Xi ?_ ?_<;>try intro ht)|exact Xx|fail)))
    refine av _ _ rfl ?_;clear aq av Ql
    repeat (refine Xu ?_)
    refine Vb X0 ?_
    subst oI
    exact aK rfl rfl
end T

