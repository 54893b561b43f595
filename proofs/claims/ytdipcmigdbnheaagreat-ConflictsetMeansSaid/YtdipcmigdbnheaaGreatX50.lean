import Derived.Test.YtdipcmigdbnheaaGreatX48
import Derived.Test.YtdipcmigdbnheaaGreatX46
set_option linter.unusedVariables false
set_option linter.unusedSimpArgs false
set_option linter.unnecessarySimpa false
set_option linter.unusedSectionVars false
set_option maxHeartbeats 64000000
set_option maxRecDepth 20000
open Go Go.Am Go.Proofs
open Nat (reduceEqDiff reduceAdd reduceLeDiff reduceMul)
open Int (reduceNeg reduceLE reduceToNat)
namespace T
theorem Wv (m:aj) (hm:VM m) (l:List Int) (hl:mG m l) :∃pa b tn,an Tryz.prog 66 [.agg (ar m),.tree 1 (ints l)] [] (.bG [.agg [pa,.lit (.int .i64 (r8 (bN m l))),.lit (.int .i64 b),tn],.lit (.int .i64 (m7 (bN m l)))]) [] ∧
    eZ pa=true∧eZ tn=true∧cf pa=true∧cf tn=true∧(∀ ρ,a6 ρ pa=pa)∧(∀ ρ,a6 ρ tn=tn):=by
  have h:=Ov m hm l hl
  generalize bN m l=r at *
  unfold AO at h
  unfold r8
  by_cases he:m7 r=0
  · rw[if_pos he] at h ⊢
    exact⟨_,_,_,h,vt rfl,rfl,AN _,rfl,AM _,fun _=>rfl⟩
  · rw[if_neg he] at h ⊢
    exact⟨_,_,_,h,rfl,rfl,rfl,rfl,fun _=>rfl,fun _=>rfl⟩
theorem Wu (m:aj) (hm:VM m):an Tryz.prog 65 [.agg (ar m)] [] (.bG [.tree 1 (ints (jK m).1),.lit (.int .i64 (jK m).2)]) []:=by
  have kQ:=ZV m hm
  have pg:=IP hm
  obtain ⟨pa,b,tn,qA,n1,n2,s1,s2,r1,r2⟩:=Wv m hm (fq m) pg
  generalize ao:jK m=res
  unfold jK at ao
  have fK:=pg.1
  generalize m7 (bN m (fq m))=e0 at *
  generalize r8 (bN m (fq m))=t0 at *
  refine an.aD (fn:=Tryz.f65) 55 0 [.tmp 2,.tmp 3] Tryz.func65 rfl rfl rfl rfl rfl (by simp) ?_
  repeat' (first|((fail_if_success (first|refine ej 2 ?_|refine ek 2 ?_));refine Xq X0 ?_;intro K hK)|refine Xo X0 ?_|refine Xc (kQ) ?_|(refine hK _ ?_;clear hK K)|refine Xy ?_|fail)
  ((refine Va X0 ?_)<;>try with_reducible intro K hK)
  (refine Xn [] (qA) ?_;simp (disch:=omega) only[Ac,↓Pc,simprocAttr,r1,r2])
  by_cases he:e0=0
  rotate_left
  · rw[if_pos he] at ao
    subst ao
    ((try revert hK K);(repeat' (first|refine Vb (X5 @s1 @s2 @r1 @r2 @bne_self_eq_false.{0}) ?_|(refine V2 (X5 @s1 @s2 @r1 @r2 @bne_self_eq_false.{0}) ?_ ?_<;>try with_reducible intro hb)|(refine Xi ?_ ?_<;>try intro ht)|refine VD ?_ ?_|exact Xx|fail)))
    all_goals try (rw[s1,s2];rfl)
    all_goals exact cP [] true (by decide) trivial (by decide) (by decide) (aE.mX aE.nil (.pure rfl))
  rw[if_neg (by omega)] at ao
  by_cases ht:t0<1099511627776
  · rw[if_pos ht] at ao
    subst ao he
    ((try revert hK K);(repeat' (first|refine Vb (X5 @s1 @s2 @r1 @r2 @bne_self_eq_false.{0}) ?_|(refine Xi ?_ ?_<;>try intro ht)|refine VD ?_ ?_|exact Xx|fail)))
    all_goals try (rw[s1,s2];rfl)
    all_goals exact cP [] true (by decide) trivial (by decide) (by decide) (aE.mX aE.nil (.pure rfl))
  rw[if_neg ht] at ao
  subst he
  ((try revert hK K);(repeat' (first|refine Vc (X5 @s1 @s2 @r1 @r2 @bne_self_eq_false.{0}) kQ ?_|(refine Xi ?_ ?_<;>try intro ht)|refine VD ?_ ?_|exact Xx|fail)))
  all_goals try (rw[s1,s2];rfl)
  refine bJ (aB.l6 1 0 (cells:=ar m) (by rfl) (by simp only[Kc,simprocAttr]) (by simp[ar])) ?_
  clear kQ qA n1 n2 s1 s2 r1 r2 ht
  generalize hA:fq m=A at *
  refine aU (fun z:Nat × List Int=>(⟨aw [(1,.b7 (ar m)),(4,.tree 1 (ints z.2)),(30,.tree 1 (ints A)),(31,.lit (.int .i64 A.length)),(32,.lit (.int .i64 z.1))],[]⟩:St))
    (fun z=>z.1≤A.length∧mG m z.2∧xC m (A.drop z.1) z.2=res) (fun z=>A.length - z.1) (0,A) ⟨Nat.zero_le _,pg,ao⟩ (Xs false [] X0) ?_
  rintro ⟨i,l⟩ ⟨hi,hl,hr⟩ Ql aq av
  dsimp only at hi hl hr ⊢
  by_cases hi':i<A.length
  · have hd:=cA A i 0 hi'
    rw[hd,xC] at hr
    have hw:=G3 l (A.getD i 0) hl.1
    have sX:=hl.bU (A.getD i 0)
    obtain ⟨pa,b,tn,qA,n1,n2,s1,s2,r1,r2⟩:=Wv m hm _ sX
    generalize bE:A.getD i 0=n at *
    generalize bU l n=lw at *
    generalize m7 (bN m lw)=e0 at *
    generalize r8 (bN m lw)=t0 at *
    repeat' (first|((fail_if_success (first|refine ej 10 ?_|refine ek 10 ?_));refine Xr @bE ?_;intro K hK)|(refine hK _ ?_;clear hK K)|(refine Xi ?_ ?_<;>try intro ht)|refine Xy ?_|refine Xd ?_ ?_|exact Xx|fail)
    refine jT [0,3,4] (.take 0 (.take 1 (.take 2 (.take 3 (.take 4 (.take 5 (.take 6 (.take 7 (.take 8 (.take 9 (.take 10 .nil))))))))))) rfl (by decide) (by decide +kernel) ?_
    simp (disch:=omega) only[Ac,↓Pc,simprocAttr,Pw,↓Lq,ar]
    refine bH hw rfl rfl ?_
    simp (disch:=omega) only[Ac,↓Pc,simprocAttr,Pw,↓Lq,ar]
    refine bH qA rfl (by simp[eZ,gX,n1,n2]) ?_
    simp (disch:=omega) only[Ac,↓Pc,simprocAttr,Pw,↓Lq,ar,s1,s2]
    repeat (refine Xu ?_)
    by_cases he:e0=0
    rotate_left
    · rw[if_pos he] at hr
      ((repeat' (first|refine Va @bE ?_|(refine Xi ?_ ?_<;>try intro ht)|exact Xx|fail)))
      repeat (refine Xu ?_)
      refine Vb X0 ?_
      subst hr
      exact cP [] true (by decide) trivial (by decide) (by decide) (aE.mX aE.nil (.pure rfl))
    subst he
    rw[if_neg (by simp)] at hr
    by_cases ht:t0=1099511627776
    · rw[if_pos ht] at hr
      ((repeat' (first|refine Vc @bne_self_eq_false.{0} hw ?_|(refine Xi ?_ ?_<;>try intro ht)|exact Xx|fail)))
      exact aq _ (i+1,lw) ⟨by dsimp only;omega,sX,hr⟩ (by dsimp only;omega) (Xs false [] X0)
    · rw[if_neg ht] at hr
      ((repeat' (first|refine Va @bne_self_eq_false.{0} ?_|(refine Xi ?_ ?_<;>try intro ht)|exact Xx|fail)))
      exact aq _ (i+1,l) ⟨by dsimp only;omega,hl,hr⟩ (by dsimp only;omega) (Xs false [] X0)
  · rw[List.drop_eq_nil_of_le (by omega),xC] at hr
    ((repeat' (first|refine Va X0 ?_|(refine Xi ?_ ?_<;>try intro ht)|exact Xx|fail)))
    refine av _ _ rfl ?_;clear aq av Ql
    repeat (refine Xu ?_)
    refine Vb X0 ?_
    subst hr
    exact aK rfl rfl
theorem N6 (m:aj) (hm:MB m):an Tryz.prog 29 [.agg (ar m)] [] (.bG [.tree 1 (ints (ik m).1),.lit (.int .i64 (ik m).2)]) []:=by
  have h1:=qz m hm
  by_cases hv:dz m=0
  rotate_left
  · rw[show ik m=([],dz m) by unfold ik;rw[if_pos hv]]
    generalize dz m=e at *
    refine an.aD (fn:=Tryz.f29) 14 0 [.tmp 2,.tmp 3] Tryz.func29 rfl rfl rfl rfl rfl (by simp) ?_
    ((repeat' (first|refine Vd X0 h1 ?_|(refine Xi ?_ ?_<;>try intro ht)|exact Xx|fail)))
    exact cP [] true (by decide) trivial (by decide) (by decide) (aE.mX aE.nil (.pure rfl))
  · have h2:=Wu m (eB.1 hv)
    rw[show ik m=jK m by unfold ik;rw[if_neg (by omega)]]
    rw[hv] at h1
    generalize jK m=rd at *
    refine an.aD (fn:=Tryz.f29) 14 0 [.tmp 2,.tmp 3] Tryz.func29 rfl rfl rfl rfl rfl (by simp) ?_
    ((repeat' (first|refine Vd @bne_self_eq_false.{0} (X2 h1 h2) ?_|(refine Xi ?_ ?_<;>try intro ht)|exact Xx|fail)))
    all_goals exact aK rfl rfl
end T

