import Derived.Test.YtdipcmigdbnheaaGreatX50
import Derived.Test.YtdipcmigdbnheaaGreatX46
set_option linter.unusedVariables false
set_option linter.unusedSimpArgs false
set_option linter.unnecessarySimpa false
set_option linter.unusedSectionVars false
set_option maxHeartbeats 64000000
set_option maxRecDepth 20000
open List renaming getD_eq_getElem?_getD→aA,getElem?_eq_getElem→bX,take_of_length_le→fN
open Go Go.Am Go.Proofs
open Nat (reduceEqDiff reduceAdd reduceLeDiff reduceMul)
open Int (reduceNeg reduceLE reduceToNat)
namespace T
theorem afj:fE []=[]:=rfl
theorem afk (ρ:Nat→Nat) (n:Nat):bO ρ (.arr n [])=.arr n []:=rfl
theorem Wt (m:aj) (hm:VM m) (hp:eC m≤1000) (l:List Int) (hl:mG m l) :∃pa b t,an Tryz.prog 66 [.agg (ar m),.tree 1 (ints l)] [] (.bG [.agg [pa,.lit (.int .i64 t),.lit (.int .i64 b),.tree 5 (rowsOf cL (tryD (bN m l)).nodes)],.lit (.int .i64 0)]) [] ∧
    eZ pa=true∧cf pa=true∧(∀ ρ,a6 ρ pa=pa)∧(iC m l=true→pa=.tree 1 (ints (tryD (bN m l)).plan)):=by
  have h:=Ov m hm l hl
  have hv:VM (bN m l):=ud hm _
  have cq:eC (bN m l)≤1000:=by rw[AI hm];exact hp
  have hf:=AJ hv cq
  have hk:iC m l=true→(tryD (bN m l)).aX<1099511627776:=fun hb=>(GZ hv cq fun e=>by
    have:=hf.2.2.1 e
    unfold iC at hb
    rw[decide_eq_true_eq] at hb
    exact this hb).2.2
  generalize bN m l=r at *
  unfold AO at h
  rw[if_pos hf.1,hf.1] at h
  exact⟨_,_,_,h,vt rfl,AN _,AM _,fun hb=>by unfold dF;rw[if_pos (hk hb)]⟩
theorem N7 (m:aj) (hm:MB m) (hp:VM m→eC m≤1000):an Tryz.prog 31 [.agg (ar m)] [] (.bG [.agg (pH (pG m).1),.lit (.int .i64 (pG m).2)]) []:=by
  have h1:=qz m hm
  by_cases hv:dz m=0
  rotate_left
  · rw[show pG m=(qx,dz m) by unfold pG;rw[if_pos hv]]
    generalize dz m=e at *
    refine an.aD (fn:=Tryz.f31) 69 0 [.cell 2 59,.tmp 3] Tryz.func31 rfl rfl rfl rfl rfl (by simp) ?_
    ((repeat' (first|refine Vd X0 h1 ?_|(refine Xi ?_ ?_<;>try intro ht)|exact Xx|fail)))
    simp (disch:=omega) only[Ac,↓Pc,simprocAttr,rowOf]
    refine cP [] true (by decide) trivial (by decide) (by decide) (aE.mX (aE.agg _ _ rfl (dY.spec (R:=aE _ _ _ _) (cs:=pH qx) (ds:=[.lit (.slice none 0 0),.lit (.slice none 0 0),.lit (.slice none 0 0)]) ⟨.snap _ _ rfl (.nil 1),.snap _ _ rfl (.nil 5),.snap _ _ rfl (.nil 1),trivial⟩).2) (.pure rfl))
  have dM:=eB.1 hv
  have hp:=hp dM
  have h2:=Wu m dM
  by_cases hr:(jK m).2=0
  rotate_left
  · rw[show pG m=(qx,(jK m).2) by unfold pG;rw[if_neg (by omega),if_pos hr]]
    rw[hv] at h1
    generalize jK m=rd at *
    refine an.aD (fn:=Tryz.f31) 69 0 [.cell 2 59,.tmp 3] Tryz.func31 rfl rfl rfl rfl rfl (by simp) ?_
    ((repeat' (first|refine Vd @bne_self_eq_false.{0} (X2 h1 h2) ?_|(refine Xi ?_ ?_<;>try intro ht)|exact Xx|fail)))
    simp (disch:=omega) only[Ac,↓Pc,simprocAttr,rowOf]
    refine cP [] true (by decide) trivial (by decide) (by decide) (aE.mX (aE.agg _ _ rfl (dY.spec (R:=aE _ _ _ _) (cs:=pH qx) (ds:=[.lit (.slice none 0 0),.lit (.slice none 0 0),.lit (.slice none 0 0)]) ⟨.snap _ _ rfl (.nil 1),.snap _ _ rfl (.nil 5),.snap _ _ rfl (.nil 1),trivial⟩).2) (.pure rfl))
  have cF:=Dv dM hp hr
  rw[show pG m=(lg m (jK m).1,0) by unfold pG;rw[if_neg (by omega),if_neg (by omega)]]
  rw[hv] at h1
  rw[hr] at h2
  have l8:=cF.ru dM
  generalize (jK m).1=l at *
  obtain ⟨pa,b,t,h3,n1,s1,r1,_⟩:=Wt m dM hp l l8
  unfold lg pH
  dsimp only
  have gP:=l8.1
  generalize hP:(tryD (bN m l)).nodes=P at *
  refine an.aD (fn:=Tryz.f31) 69 0 [.cell 2 59,.tmp 3] Tryz.func31 rfl rfl rfl rfl rfl (by simp) ?_
  ((repeat' (first|refine Vc X0 h1 ?_|(refine Xi ?_ ?_<;>try intro ht)|exact Xx|fail))<;>try with_reducible intro K hK)
  (refine Xn [] (h2) ?_;simp (disch:=omega) only[Ac,↓Pc,simprocAttr])
  ((try revert hK K);(repeat' (first|refine Va X0 ?_|(refine Xi ?_ ?_<;>try intro ht)|exact Xx|fail))<;>try with_reducible intro K hK)
  (refine Xn [] (h3) ?_;simp (disch:=omega) only[Ac,↓Pc,simprocAttr,r1])
  ((try revert hK K);(repeat' (first|refine Va (X3 @s1 @r1 @bne_self_eq_false.{0}) ?_|(refine Xi ?_ ?_<;>try intro ht)|exact Xx|fail)))
  refine bJ (aB.ld 3 2 1 rfl rfl (by decide)) ?_
  refine bJ (aB.l6 1 0 (cells:=ar m) (by rfl) (by simp only[Kc,simprocAttr]) (by simp[ar])) ?_
  clear h1 h2 h3 n1 s1 r1
  generalize hS:(l.map fun n=>(tryD (bN m (bU l n))).plan)=S
  have TY:S.length=l.length:=by rw[← hS,List.length_map]
  refine aU (fun i:Nat=>(⟨aw [(1,.b7 (ar m)),(2,.ptr 0 0 0),(5,.tree 1 (ints l)),(8,.ptr 1 0 0),(42,.tree 1 (ints l)),(43,.lit (.int .i64 l.length)),(44,.lit (.int .i64 i))],[.var [.lit (.slice none 0 0),.lit (.slice none 0 0),.lit (.slice none 0 0)],.var [.tree 1 (ints l),.tree 5 (rowsOf cL P),.ref 2 1 0 i],.arr 1 (fE (S.take i))]⟩:St))
    (fun i=>i≤l.length) (fun i=>l.length - i) 0 (Nat.zero_le _) (by rw[List.take_zero];exact Xs false [1,3,4] (X2 @afj @afk)) ?_
  rintro i hi Ql aq av
  by_cases hi':i<l.length
  · have hw:=G3 l (l.getD i 0) l8.1
    have sX:=l8.bU (l.getD i 0)
    obtain ⟨pa,b,t,h3,n1,s1,r1,hq⟩:=Wt m dM hp _ sX
    have Dz:=hq (cF.one _ (aC hi'))
    subst Dz
    clear hq n1 s1 r1
    have eN:=iD (l:=S) (k:=i) (by omega)
    have hSi:S.getD i default=(tryD (bN m (bU l (l.getD i 0)))).plan:=by
      rw[← hS,aA,List.getElem?_map,bX hi',aA,bX hi']
      rfl
    rw[← hSi] at h3
    generalize bE:l.getD i 0=n at *
    generalize (tryD (bN m (bU l n))).nodes=P2 at *
    generalize bU l n=lw at *
    generalize S.getD i default=q at *
    repeat' (first|((fail_if_success (first|refine ej 14 ?_|refine ek 14 ?_));refine Xr @bE ?_;intro K hK)|(refine hK _ ?_;clear hK K)|(refine Xi ?_ ?_<;>try intro ht)|refine Xy ?_|refine Xd ?_ ?_|exact Xx|fail)
    refine jT [0,3,4] (.take 0 (.take 1 (.take 2 (.take 3 (.take 4 (.take 5 (.take 6 (.take 7 (.take 8 (.take 9 (.take 10 .nil))))))))))) rfl (by decide) (by decide +kernel) ?_
    simp (disch:=omega) only[Ac,↓Pc,simprocAttr,Pw,↓Lq,ar]
    refine bH hw rfl rfl ?_
    simp (disch:=omega) only[Ac,↓Pc,simprocAttr,Pw,↓Lq,ar]
    refine bH h3 rfl rfl ?_
    simp (disch:=omega) only[Ac,↓Pc,simprocAttr,Pw,↓Lq,ar]
    repeat (refine Xu ?_)
    have zp:(fE (S.take i)).length=i:=by rw[qh,List.length_take];omega
    have hTt:(fE (S.take i)).take i=fE (S.take i):=fN (by omega)
    have hTa:fE (S.take i)++[[.tree 1 (ints q)]]=fE (S.take (i+1)):=by rw[eN,FL]
    clear eN
    ((repeat' (first|refine Va (X4 @bne_self_eq_false.{0} @zp @hTt @hTa) ?_|(refine Xi ?_ ?_<;>try intro ht)|exact Xx|fail)))
    all_goals exact aq _ (i+1) (by omega) (by omega) (Xs false [0,1,5] X0)
  · obtain rfl:i=l.length:=by omega
    rw[fN (by omega)]
    ((repeat' (first|refine Va X0 ?_|(refine Xi ?_ ?_<;>try intro ht)|exact Xx|fail)))
    refine av _ _ rfl ?_;clear aq av Ql
    repeat (refine Xu ?_)
    refine Vb X0 ?_
    simp (disch:=omega) only[Ac,↓Pc,simprocAttr,rowOf]
    refine cP [] true (by decide) trivial (by decide) (by decide) (aE.mX (aE.agg _ _ rfl (dY.spec (R:=aE _ _ _ _) (cs:=[.tree 1 (ints l),.tree 5 (rowsOf cL P),.tree 1 (fE S)]) (ds:=[.tree 1 (ints l),.tree 5 (rowsOf cL P),.ref 2 1 0 l.length]) ⟨.pure rfl,.pure rfl,aE.bW rfl (Kx _) (by rw[qh,TY]) (gK (by simp)) (Kw _),trivial⟩).2) (.pure rfl))
end T

