import Derived.Test.YtdipcmigdbnheaaGreatX19
import Derived.Test.YtdipcmigdbnheaaGreatX13
import Derived.Test.YtdipcmigdbnheaaGreatX07
import Derived.Test.YtdipcmigdbnheaaGreatX26
set_option linter.unusedVariables false
set_option linter.unusedSimpArgs false
set_option linter.unnecessarySimpa false
set_option linter.unusedSectionVars false
set_option maxHeartbeats 64000000
set_option maxRecDepth 20000
open List renaming cons_append→fB,nil_append→fU,mem_append→dh,mem_singleton→ee,replicate→aW,mem_or_eq_of_mem_set→pY,length_replicate→mo,mem_of_mem_drop→xM
open Nat renaming le_refl→aV,zero_le→aH
open Int renaming mul_le_mul→oo
open And renaming intro→nF
open Go Go.Am Go.Proofs
open Nat (reduceEqDiff reduceAdd reduceLeDiff reduceMul)
open Int (reduceNeg reduceLE reduceToNat)
namespace T
def jq (L:List Int) (k:Nat):Ob:=.var [.tree 1 (ints L),.lit (.int .i64 k)]
theorem KR (L:List Int) (k:Nat) (um options:Nat) (hk:k≤L.length) (hL:L.length<1000000) (hc:um≤24) (ho:options≤24) (ho1:1≤options) :
    il Tryz.prog 26 [.ptr 0 0 0,.lit (.int .i64 um),.lit (.int .i64 options)] [jq L k] (fun r os=>∃ m k',MM m um options∧k'≤L.length∧r=.agg (au m)∧os=[jq L k']):=by
  unfold jq
  refine il.aD (fn:=Tryz.f26) 199 1 [.cell 6 29] Tryz.func26 rfl rfl rfl rfl rfl (by simp) ?_
  ((refine Vb X0 ?_)<;>try with_reducible intro K hK)
  refine ig [0] (jB L k 4 (by unfold fH;omega) hk hL) (by decide) ⟨rfl,trivial⟩ ⟨.eq rfl,.pure rfl,trivial⟩ ?_
  have hv:=mQ (L:=L) (k:=k) (n:=4) (by omega)
  have bG:=gP hk
  generalize eH L k 4=v at *
  generalize cN L k=k2 at *
  clear hk
  ((try revert hK K);(refine Vb X0 ?_)<;>try with_reducible intro K hK)
  refine ig [0] (jB L k2 (um+1) (by unfold fH;omega) bG hL) (by decide) ⟨rfl,trivial⟩ ⟨.eq rfl,.pure rfl,trivial⟩ ?_
  have KS:=mQ (L:=L) (k:=k2) (n:=um+1) (by omega)
  have ma:=gP bG
  generalize eH L k2 (um+1)=n at *
  generalize cN L k2=k3 at *
  clear bG
  obtain ⟨c0,rfl⟩ :∃c0:Nat,n=c0:=⟨n.toNat,by omega⟩
  generalize hR:1+v=R
  have EP:1≤R∧R≤4:=by omega
  ((try revert hK K);(refine Vb X0 ?_))
  refine aG (fun z:Nat × Nat × List (List cB)=>(⟨aw [(0,.ptr 0 0 0),(2,.lit (.int .i64 options)),(6,.ptr 1 0 0),(7,.ptr 2 0 0),(8,.lit (.int .i64 z.1))],cD L z.2.1 z.2.2 [] [] R⟩:St))
    (fun z=>z.1+z.2.2.length≤um∧z.2.1≤L.length∧∀ l∈z.2.2,(1≤l.length∧l.length≤options)∧R4 R l) (fun z=>z.1) (c0,k3,[]) ⟨by simp;omega,ma,by simp⟩ ?_ ?_
  · refine aQ.trans (aQ.q7 2 0 1 rfl rfl (by decide)) ?_
    refine aQ.trans (aQ.q7 2 1 4 rfl rfl (by decide)) ?_
    refine aQ.trans (aQ.q7 2 2 4 rfl rfl (by decide)) ?_
    exact Xv X0
  clear KS ma
  rintro ⟨c,k,cls⟩ ⟨aJ,hk,pE⟩ Ql ak aq
  dsimp only at aJ hk pE ⊢
  unfold cD
  by_cases lD:0<c
  · obtain ⟨c',rfl⟩ :∃c',c=c'+1:=⟨c - 1,by omega⟩
    have ni:((c'+1:Nat):Int) - 1=c':=by omega
    ((repeat' (first|refine Va X0 ?_|(refine Xi ?_ ?_<;>try intro ht)|exact Xx|fail))<;>try with_reducible intro K hK)
    refine ig [0] (jB L k options (by unfold fH;omega) hk hL) (by decide) ⟨rfl,trivial⟩ ⟨.eq rfl,.pure rfl,trivial⟩ ?_
    have KS:=mQ (L:=L) (k:=k) (n:=options) (by omega)
    have bG:=gP hk
    generalize eH L k options=n at *
    generalize cN L k=k2 at *
    clear hk
    obtain ⟨e0,nT⟩ :∃e0:Nat,1+n=e0:=⟨(1+n).toNat,by omega⟩
    ((try revert hK K);(refine Va @nT ?_))
    refine aG (fun z:Nat × Nat × List cB=>(⟨aw [(0,.ptr 0 0 0),(2,.lit (.int .i64 options)),(6,.ptr 1 0 0),(7,.ptr 2 0 0),(8,.lit (.int .i64 (c'+1:Nat))),(9,.ref 6 6 0 z.2.2.length),(10,.lit (.int .i64 z.1))],cD L z.2.1 cls [] [] R++[.arr 6 (rowsOf dJ z.2.2)]⟩:St))
      (fun z=>z.1+z.2.2.length=e0∧z.2.1≤L.length∧R4 R z.2.2) (fun z=>z.1) (e0,k2,[]) ⟨by simp,bG,by intro o ho;simp at ho⟩ ?_ ?_
    · refine aQ.trans (aQ.nil 9 6 (by simp only[Kc,simprocAttr]) (by decide)) ?_
      unfold cD
      exact Xv X0
    clear bG
    rintro ⟨e,k,l⟩ ⟨vz,hk,hl⟩ cR ba bd
    dsimp only at vz hk hl ⊢
    unfold cD
    simp only[fB,fU]
    by_cases On:0<e
    · obtain ⟨e',rfl⟩ :∃e',e=e'+1:=⟨e - 1,by omega⟩
      have tK:((e'+1:Nat):Int) - 1=e':=by omega
      ((repeat' (first|refine Va X0 ?_|(refine Xi ?_ ?_<;>try intro ht)|exact Xx|fail))<;>try with_reducible intro K hK)
      refine ig [0] (jB L k 3 (by unfold fH;omega) hk hL) (by decide) ⟨rfl,trivial⟩ ⟨.eq rfl,.pure rfl,trivial⟩ ?_
      have eh:=mQ (L:=L) (k:=k) (n:=3) (by omega)
      have bG:=gP hk
      generalize eH L k 3=n1 at *
      generalize cN L k=k2 at *
      clear hk
      ((try revert hK K);(refine Va X0 ?_)<;>try with_reducible intro K hK)
      refine ig [0] (jB L k2 2 (by unfold fH;omega) bG hL) (by decide) ⟨rfl,trivial⟩ ⟨.eq rfl,.pure rfl,trivial⟩ ?_
      have hk:=gP bG
      generalize eH L k2 2=n2 at *
      generalize cN L k2=k at *
      clear bG
      ((try revert hK K);(refine Va X0 ?_)<;>try with_reducible intro K hK)
      refine ig [0] (jB L k 3 (by unfold fH;omega) hk hL) (by decide) ⟨rfl,trivial⟩ ⟨.eq rfl,.pure rfl,trivial⟩ ?_
      have bG:=gP hk
      generalize eH L k 3=n3 at *
      generalize cN L k=k2 at *
      clear hk
      ((try revert hK K);(refine Va X0 ?_)<;>try with_reducible intro K hK)
      refine ig [0] (jB L k2 3 (by unfold fH;omega) bG hL) (by decide) ⟨rfl,trivial⟩ ⟨.eq rfl,.pure rfl,trivial⟩ ?_
      have hn4:=mQ (L:=L) (k:=k2) (n:=3) (by omega)
      have hk:=gP bG
      generalize eH L k2 3=n4 at *
      generalize cN L k2=k at *
      clear bG
      ((try revert hK K);(refine Va X0 ?_))
      generalize Xm:1+n1=w1
      generalize hw4:n4 - 1=w4
      refine aG (fun z:Nat × Nat × List (Int × Int)=>(⟨aw [(0,.ptr 0 0 0),(2,.lit (.int .i64 options)),(6,.ptr 1 0 0),(7,.ptr 2 0 0),(8,.lit (.int .i64 (c'+1:Nat))),(9,.ref 6 6 0 l.length),(10,.lit (.int .i64 (e'+1:Nat))),(11,.ptr 7 0 0),(12,.lit (.int .i64 z.1))],
          cD L z.2.1 cls [] [] R++[.arr 6 (rowsOf dJ l),.var [.lit (.int .i64 w1),.lit (.int .i64 n2),.lit (.int .i64 n3),.lit (.int .i64 1),.lit (.int .i64 w4),.ref 8 2 0 z.2.2.length],.arr 2 (rowsOf bP z.2.2)]⟩:St))
        (fun z=>(z.1:Int)≤R∧z.2.1≤L.length∧z.2.2.length≤z.1∧eA R none z.2.2=true∧∀ x∈z.2.2,x.1<z.1) (fun z=>R.toNat - z.1) (0,k,[]) ⟨by dsimp only;omega,hk,aV _,rfl,by simp⟩ ?_ ?_
      · refine aQ.trans (aQ.q7 7 5 2 rfl rfl (by decide)) ?_
        unfold cD
        exact Xv X0
      clear hk
      rintro ⟨u,k,ch⟩ ⟨hu,hk,bL,ej,aT⟩ mh eS eI
      dsimp only at hu hk bL ej aT ⊢
      unfold cD
      simp only[fB,fU]
      by_cases KT:(u:Int)<R
      · ((repeat' (first|refine Va X0 ?_|(refine Xi ?_ ?_<;>try intro ht)|exact Xx|fail))<;>try with_reducible intro K hK)
        refine ig [0] (JW L k hk hL) (by decide) ⟨rfl,trivial⟩ ⟨.eq rfl,trivial⟩ ?_
        obtain ⟨qU,z6,DB⟩:=Jp L k
        have bG:=Jq hk
        generalize oU L k=cv at *
        generalize uj L k=k2 at *
        clear hk
        ((try revert hK K);(repeat' (first|refine Va X0 ?_|(refine V2 X0 ?_ ?_<;>try with_reducible intro hb)|(refine Xi ?_ ?_<;>try intro ht)|exact Xx|fail))<;>try with_reducible intro K hK)
        · refine ig [0] (C6 L k2 2 (by unfold fH;omega) (by decide) bG hL) (by decide) ⟨rfl,trivial⟩ ⟨.eq rfl,.pure rfl,trivial⟩ ?_
          have hk:=gP bG
          generalize AZ L k2 2=b at *
          generalize cN L k2=k at *
          clear bG
          ((try revert hK K);(repeat' (first|refine Va X0 ?_|(refine Xi ?_ ?_<;>try intro ht)|fail)))
          · refine eS _ (u+1,k,ch++[((u:Int),cv)]) ⟨by dsimp only;omega,hk,by simp;omega,RZ ej (by rw[iP,decide_eq_true_eq];omega) (DB (by omega)) (fun x hx=>aT x hx) (by simp),fun x hx=>?_⟩ (by dsimp only;omega) ?_
            · rcases dh.1 hx with hx | hx
              · have:=aT x hx;dsimp only;omega
              · simp only[ee] at hx;subst hx;dsimp only;omega
            · unfold cD
              simp only[fB,fU]
              rw[show rowsOf bP ch++[[AV.lit (.int .i64 u),AV.lit (.int .i64 cv)]]=rowsOf bP (ch++[((u:Int),cv)]) from qZ (enc:=bP) ch ((u:Int),cv)]
              exact Xs false [0,1,2,3,4,5,6,7,10] X0
          · exact eS _ (u+1,k,ch) ⟨by dsimp only;omega,hk,by dsimp only;omega,ej,fun x hx=>by have:=aT x hx;dsimp only;omega⟩ (by dsimp only;omega) (by unfold cD;exact Xv X0)
        · exact eS _ (u+1,k2,ch) ⟨by dsimp only;omega,bG,by dsimp only;omega,ej,fun x hx=>by have:=aT x hx;dsimp only;omega⟩ (by dsimp only;omega) (by unfold cD;exact Xv X0)
      · ((repeat' (first|refine Va X0 ?_|(refine Xi ?_ ?_<;>try intro ht)|exact Xx|fail)))
        refine eI _ _ rfl ?_
        clear eS eI mh
        repeat (refine Xu ?_)
        refine dO (aQ.EW 8 7 5 2 rfl rfl (by rw[eP];rfl) (kC _) (tL _)) ?_
        refine dO (σ':=⟨aw [(0,.ptr 0 0 0),(2,.lit (.int .i64 options)),(6,.ptr 1 0 0),(7,.ptr 2 0 0),(8,.lit (.int .i64 (c'+1:Nat))),(9,.ref 6 6 0 l.length),(10,.lit (.int .i64 (e'+1:Nat))),(11,.ptr 7 0 0)],
            cD L k cls [] [] R++[.arr 6 (rowsOf dJ l),.var (dJ ⟨w1,n2,n3,1,w4,ch⟩),.gone]⟩) (by unfold cD;exact Xv X0) ?_
        unfold cD
        simp only[fB,fU]
        have tK:((e'+1:Nat):Int) - 1=e':=by omega
        refine Va @tK ?_
        refine ba _ (e',k,l++[⟨w1,n2,n3,1,w4,ch⟩]) ⟨by simp;omega,hk,?_⟩ (by dsimp only;omega) ?_
        · intro o ho
          rcases dh.1 ho with ho | ho
          · exact hl o ho
          · simp only[ee] at ho;subst ho;exact ej
        · unfold cD
          simp only[fB,fU]
          rw[show rowsOf dJ l++[[AV.lit (.int .i64 w1),AV.lit (.int .i64 n2),AV.lit (.int .i64 n3),AV.lit (.int .i64 1),AV.lit (.int .i64 w4),AV.tree 2 (rowsOf bP ch)]]=rowsOf dJ (l++[⟨w1,n2,n3,1,w4,ch⟩]) from qZ (enc:=dJ) l ⟨w1,n2,n3,1,w4,ch⟩]
          exact Xs false [0,1,2,3,4,5,10] X0
    · obtain rfl:e=0:=by omega
      ((repeat' (first|refine Va X0 ?_|(refine Xi ?_ ?_<;>try intro ht)|exact Xx|fail)))
      refine bd _ _ rfl ?_
      clear ba bd cR
      repeat (refine Xu ?_)
      refine dO (σ':=⟨aw [(0,.ptr 0 0 0),(2,.lit (.int .i64 options)),(6,.ptr 1 0 0),(7,.ptr 2 0 0),(8,.lit (.int .i64 (c'+1:Nat))),(9,.tree 6 (rowsOf dJ l))],cD L k cls [] [] R⟩) ?_ ?_
      · unfold cD
        exact Xs true [0,1,2,3,4,5] X0
      unfold cD
      refine Va @ni ?_
      refine ak _ (c',k,cls++[l]) ⟨by simp;omega,hk,?_⟩ (by dsimp only;omega) ?_
      · intro x hx
        rcases dh.1 hx with hx | hx
        · exact pE x hx
        · simp only[ee] at hx;subst hx;exact⟨⟨by omega,by omega⟩,hl⟩
      · unfold cD
        rw[show rowsOf bA cls++[[AV.tree 6 (rowsOf dJ l)]]=rowsOf bA (cls++[l]) from qZ (enc:=bA) cls l]
        exact Xs false [0,1,2,7,4,5] X0
  obtain rfl:c=0:=by omega
  ((repeat' (first|refine Va X0 ?_|(refine Xi ?_ ?_<;>try intro ht)|exact Xx|fail)))
  refine aq _ _ rfl ?_;clear ak aq Ql
  repeat (refine Xu ?_)
  clear lD
  refine dO (σ':=⟨aw [(0,.ptr 0 0 0),(6,.ptr 1 0 0),(7,.ptr 2 0 0)],cD L k cls [] [] R⟩) (by unfold cD;exact Xv X0) ?_
  unfold cD
  refine Va X0 ?_
  have bL:cls.length≤24:=by omega
  have KU:∀ i,(cls.getD i default).length≤24:=fun i=>by
    rcases Nat.lt_or_ge i cls.length with h | h
    · have:=(pE _ (az (d:=default) h)).1;omega
    · rw[List.getD_eq_getElem?_getD,List.getElem?_eq_none h];decide
  refine aG (fun z:Nat × Nat × List Pr=>(⟨aw [(0,.ptr 0 0 0),(6,.ptr 1 0 0),(7,.ptr 2 0 0),(14,.lit (.int .i64 z.1))],cD L z.2.1 cls z.2.2 [] R⟩:St))
    (fun z=>(z.1:Int)≤R∧z.2.1≤L.length∧vy cls R z.2.2 z.1 0 0) (fun z=>R.toNat - z.1) (0,k,[]) ⟨by dsimp only;omega,hk,rfl,by simp,by simp⟩ (by unfold cD;exact Xv X0) ?_
  clear hk
  rintro ⟨u,k,ah⟩ ⟨hu,hk,hP⟩ Ql ak aq
  dsimp only at hu hk hP ⊢
  unfold cD
  by_cases KT:(u:Int)<R
  · ((repeat' (first|refine Va X0 ?_|(refine Xi ?_ ?_<;>try intro ht)|exact Xx|fail)))
    refine aG (fun z:Nat × Nat × List Pr=>(⟨aw [(0,.ptr 0 0 0),(6,.ptr 1 0 0),(7,.ptr 2 0 0),(14,.lit (.int .i64 u)),(15,.lit (.int .i64 z.1))],cD L z.2.1 cls z.2.2 [] R⟩:St))
      (fun z=>z.1≤cls.length∧z.2.1≤L.length∧vy cls R z.2.2 u z.1 0) (fun z=>cls.length - z.1) (0,k,ah) ⟨by dsimp only;omega,hk,hP⟩ (by unfold cD;exact Xv X0) ?_
    clear hk hP
    rintro ⟨i,k,ah⟩ ⟨hi,hk,hP⟩ cR ba bd
    dsimp only at hi hk hP ⊢
    unfold cD
    by_cases ax:i<cls.length
    · ((repeat' (first|refine Va X0 ?_|(refine Xi ?_ ?_<;>try intro ht)|exact Xx|fail)))
      refine aG (fun z:Nat × Nat × List Pr=>(⟨aw [(0,.ptr 0 0 0),(6,.ptr 1 0 0),(7,.ptr 2 0 0),(14,.lit (.int .i64 u)),(15,.lit (.int .i64 i)),(16,.lit (.int .i64 z.1))],cD L z.2.1 cls z.2.2 [] R⟩:St))
        (fun z=>i<z.1∧z.1≤cls.length∧z.2.1≤L.length∧vy cls R z.2.2 u i z.1) (fun z=>cls.length - z.1) (i+1,k,ah) ⟨by dsimp only;omega,by dsimp only;omega,hk,hP.mono (by omega) (by omega)⟩ (by unfold cD;exact Xv X0) ?_
      clear hk hP
      rintro ⟨j,k,ah⟩ ⟨wS,hj,hk,hP⟩ mh eS eI
      dsimp only at wS hj hk hP ⊢
      unfold cD
      by_cases cq:j<cls.length
      · ((repeat' (first|refine Va X0 ?_|(refine Xi ?_ ?_<;>try intro ht)|exact Xx|fail))<;>try with_reducible intro K hK)
        refine ig [0] (C6 L k 3 (by unfold fH;omega) (by decide) hk hL) (by decide) ⟨rfl,trivial⟩ ⟨.eq rfl,.pure rfl,trivial⟩ ?_
        have bG:=gP hk
        generalize AZ L k 3=b at *
        generalize cN L k=k2 at *
        clear hk
        have g1:=KU i
        have g2:=KU j
        have sq:=(pE _ (az (d:=default) ax)).1
        have qT:=(pE _ (az (d:=default) cq)).1
        have hmul:((cls.getD i default).length:Int) * (cls.getD j default).length=((cls.getD i default).length * (cls.getD j default).length:Nat):=by simp
        have aja:(cls.getD i default).length * (cls.getD j default).length≤24 * 24:=Nat.mul_le_mul g1 g2
        generalize EA:(cls.getD i default).length * (cls.getD j default).length=nn at *
        ((try revert hK K);(repeat' (first|refine Va @hmul ?_|(refine Xi ?_ ?_<;>try intro ht)|fail)))
        rotate_left
        · exact eS _ (j+1,k2,ah) ⟨by dsimp only;omega,by dsimp only;omega,bG,hP.mono (by omega) (by omega)⟩ (by dsimp only;omega) (by unfold cD;exact Xv X0)
        refine aG (fun z:Nat × Nat × List Int=>(⟨aw [(0,.ptr 0 0 0),(6,.ptr 1 0 0),(7,.ptr 2 0 0),(14,.lit (.int .i64 u)),(15,.lit (.int .i64 i)),(16,.lit (.int .i64 j)),(17,.ptr 6 0 0),(18,.lit (.int .i64 z.1))],
            cD L z.2.1 cls ah [] R++[.var [.lit (.int .i64 i),.lit (.int .i64 j),.lit (.int .i64 u),.ref 7 1 0 z.2.2.length],.arr 1 (ints z.2.2)]⟩:St))
          (fun z=>z.1+z.2.2.length=nn∧z.2.1≤L.length∧∀ x∈z.2.2,0≤x∧(0<x→fK x=true)) (fun z=>z.1) (nn,k2,[]) ⟨by simp,bG,by simp⟩ ?_ ?_
        · refine aQ.trans (aQ.q7 6 3 1 rfl rfl (by decide)) ?_
          unfold cD
          exact Xv X0
        clear bG
        rintro ⟨w,k,aP⟩ ⟨hw,hk,Gb⟩ Xp KV uw
        dsimp only at hw hk Gb ⊢
        unfold cD
        simp only[fB,fU]
        by_cases wi:0<w
        · obtain ⟨w',rfl⟩ :∃w',w=w'+1:=⟨w - 1,by omega⟩
          have Xm:((w'+1:Nat):Int) - 1=w':=by omega
          ((repeat' (first|refine Va X0 ?_|(refine Xi ?_ ?_<;>try intro ht)|exact Xx|fail)))
          refine sj [] (.take 2 (.both 0 (.both 1 (.take 3 (.take 4 (.take 5 (.take 6 (.take 7 .nil))))) 3 (.take 1 (.take 4 (.take 5 (.take 6 (.take 7 .nil)))))) 3 (.take 0 (.take 1 (.take 4 (.take 5 (.take 6 (.take 7 .nil)))))))) rfl (by decide) (by decide +kernel) ?_
          simp (disch:=omega) only[Ac,↓Pc,simprocAttr,zV,wc,we,cL,dS]
          refine⟨⟨?_,?_⟩,?_⟩
          all_goals refine ig [0] (JW L k hk hL) (by decide) ⟨rfl,trivial⟩ ⟨.eq rfl,trivial⟩ ?_
          all_goals obtain ⟨qU,z6,DB⟩:=Jp L k
          all_goals have bG:=Jq hk
          all_goals generalize oU L k=cv at *
          all_goals generalize uj L k=k2 at *
          all_goals simp (disch:=omega) only[Ac,↓Pc,simprocAttr,zV,wc,we,cL,dS]
          all_goals refine⟨by omega,?_⟩
          all_goals repeat (refine Xu ?_)
          all_goals ((repeat' (first|refine Va @Xm ?_|fail)))
          all_goals refine KV _ (w',k2,aP++[cv]) ⟨by simp;omega,bG,fun x hx=>?_⟩ (by dsimp only;omega) ?_
          all_goals first
            | (rcases dh.1 hx with hx | hx
               · exact Gb x hx
               · simp only[ee] at hx;subst hx;exact⟨qU,DB⟩)
            | (unfold cD;simp only[fB,fU];exact Xs false [0,1,2,3,4,5,6,9] X0)
        · obtain rfl:w=0:=by omega
          ((repeat' (first|refine Va X0 ?_|(refine Xi ?_ ?_<;>try intro ht)|exact Xx|fail)))
          refine uw _ _ rfl ?_
          clear KV uw Xp
          repeat (refine Xu ?_)
          refine dO (aQ.EW 7 6 3 1 rfl rfl (by rw[xZ];rfl) (oB _) (pw _)) ?_
          refine dO (σ':=⟨aw [(0,.ptr 0 0 0),(6,.ptr 1 0 0),(7,.ptr 2 0 0),(14,.lit (.int .i64 u)),(15,.lit (.int .i64 i)),(16,.lit (.int .i64 j)),(17,.ptr 6 0 0)],
              cD L k cls ah [] R++[.var (bc ⟨i,j,u,aP⟩),.gone]⟩) (by unfold cD;exact Xv X0) ?_
          unfold cD
          simp only[fB,fU]
          have b9:=hP.len
          refine Va X0 ?_
          refine eS _ (j+1,k,ah++[⟨i,j,u,aP⟩]) ⟨by dsimp only;omega,by dsimp only;omega,hk,hP.app (ac' KT wS cq (by rw[EA];omega) Gb)⟩ (by dsimp only;omega) ?_
          unfold cD
          rw[show rowsOf bc ah++[[AV.lit (.int .i64 i),AV.lit (.int .i64 j),AV.lit (.int .i64 u),AV.tree 1 (ints aP)]]=rowsOf bc (ah++[⟨i,j,u,aP⟩]) from qZ (enc:=bc) ah ⟨i,j,u,aP⟩]
          exact Xs false [0,1,2,3,9,5] X0
      · ((repeat' (first|refine Va X0 ?_|(refine Xi ?_ ?_<;>try intro ht)|exact Xx|fail)))
        refine eI _ _ rfl ?_
        clear eS eI mh
        repeat (refine Xu ?_)
        refine Va X0 ?_
        exact ba _ (i+1,k,ah) ⟨by dsimp only;omega,hk,hP.mono (by omega) (by omega)⟩ (by dsimp only;omega) (by unfold cD;exact Xv X0)
    · ((repeat' (first|refine Va X0 ?_|(refine Xi ?_ ?_<;>try intro ht)|exact Xx|fail)))
      refine bd _ _ rfl ?_
      clear ba bd cR
      repeat (refine Xu ?_)
      refine Va X0 ?_
      exact ak _ (u+1,k,ah) ⟨by dsimp only;omega,hk,hP.mono (by omega) (by omega)⟩ (by dsimp only;omega) (by unfold cD;exact Xv X0)
  have afT:=hP.ok
  have Be:ah.length≤4000:=by have:=hP.len;omega
  ((repeat' (first|refine Va X0 ?_|(refine Xi ?_ ?_<;>try intro ht)|exact Xx|fail)))
  refine aq _ _ rfl ?_;clear ak aq Ql
  repeat (refine Xu ?_)
  refine dO (σ':=⟨aw [(0,.ptr 0 0 0),(6,.ptr 1 0 0),(7,.ptr 2 0 0)],cD L k cls ah [] R⟩) (by unfold cD;exact Xv X0) ?_
  clear KT hu hP
  unfold cD
  ((refine Va X0 ?_)<;>try with_reducible intro K hK)
  refine ig [0] (jB L k 3 (by unfold fH;omega) hk hL) (by decide) ⟨rfl,trivial⟩ ⟨.eq rfl,.pure rfl,trivial⟩ ?_
  have KS:=mQ (L:=L) (k:=k) (n:=3) (by omega)
  have bG:=gP hk
  generalize eH L k 3=n at *
  generalize cN L k=k2 at *
  clear hk
  obtain ⟨c1,rfl⟩ :∃c1:Nat,n=c1:=⟨n.toNat,by omega⟩
  ((try revert hK K);(refine Va X0 ?_))
  refine aG (fun z:Nat × Nat × List Ct=>(⟨aw [(0,.ptr 0 0 0),(6,.ptr 1 0 0),(7,.ptr 2 0 0),(19,.lit (.int .i64 z.1))],cD L z.2.1 cls ah z.2.2 R⟩:St))
    (fun z=>z.1+z.2.2.length≤2∧z.2.1≤L.length∧∀ x∈z.2.2,fP ⟨cls,[],[],R⟩ x=true) (fun z=>z.1) (c1,k2,[]) ⟨by simp;omega,bG,by simp⟩ (by unfold cD;exact Xv X0) ?_
  clear bG
  rintro ⟨c,k,av⟩ ⟨aJ,hk,KW⟩ Ql ak aq
  dsimp only at aJ hk KW ⊢
  unfold cD
  by_cases lD:0<c
  · obtain ⟨c',rfl⟩ :∃c',c=c'+1:=⟨c - 1,by omega⟩
    have ni:((c'+1:Nat):Int) - 1=c':=by omega
    ((repeat' (first|refine Va X0 ?_|(refine Xi ?_ ?_<;>try intro ht)|exact Xx|fail))<;>try with_reducible intro K hK)
    refine ig [0] (jB L k R (by unfold fH;omega) hk hL) (by decide) ⟨rfl,trivial⟩ ⟨.eq rfl,.pure rfl,trivial⟩ ?_
    have eh:=mQ (L:=L) (k:=k) (n:=R) (by omega)
    have bG:=gP hk
    generalize eH L k R=n1 at *
    generalize cN L k=k2 at *
    clear hk
    ((try revert hK K);(refine Va X0 ?_)<;>try with_reducible intro K hK)
    refine ig [0] (jB L k2 4 (by unfold fH;omega) bG hL) (by decide) ⟨rfl,trivial⟩ ⟨.eq rfl,.pure rfl,trivial⟩ ?_
    have oF:=mQ (L:=L) (k:=k2) (n:=4) (by omega)
    have hk:=gP bG
    generalize eH L k2 4=n2 at *
    generalize cN L k2=k at *
    clear bG
    ((try revert hK K);(refine Va X0 ?_)<;>try with_reducible intro K hK)
    refine ig [0] (JW L k hk hL) (by decide) ⟨rfl,trivial⟩ ⟨.eq rfl,trivial⟩ ?_
    obtain ⟨qU,z6,DB⟩:=Jp L k
    have bG:=Jq hk
    generalize oU L k=cv at *
    generalize uj L k=k2 at *
    clear hk
    have Kn:fK (max 1 cv)=true:=by
      by_cases h0:0<cv
      · rw[show max 1 cv=cv by omega];exact DB h0
      · rw[show max 1 cv=1 by omega];decide
    generalize bQ:max 1 cv=bg at *
    ((try revert hK K);(refine Va @bQ ?_))
    refine aG (fun z:Nat × Nat × List Ld=>(⟨aw [(0,.ptr 0 0 0),(6,.ptr 1 0 0),(7,.ptr 2 0 0),(19,.lit (.int .i64 (c'+1:Nat))),(20,.ptr 6 0 0),(21,.lit (.int .i64 z.1))],
        cD L z.2.1 cls ah av R++[.var [.lit (.int .i64 n1),.ref 7 3 0 z.2.2.length,.lit (.int .i64 n2),.lit (.int .i64 bg)],.arr 3 (rowsOf dF z.2.2)]⟩:St))
      (fun z=>z.1≤cls.length∧z.2.1≤L.length∧w9 cls R z.2.2 z.1 0) (fun z=>cls.length - z.1) (0,k2,[]) ⟨aH _,bG,rfl,by simp,by simp⟩ ?_ ?_
    · refine aQ.trans (aQ.q7 6 1 3 rfl rfl (by decide)) ?_
      unfold cD
      exact Xv X0
    clear bG
    rintro ⟨i,k,lr⟩ ⟨hi,hk,hI⟩ cR ba bd
    dsimp only at hi hk hI ⊢
    unfold cD
    simp only[fB,fU]
    by_cases ax:i<cls.length
    · have sq:=KU i
      generalize eV:cls.getD i default=li at *
      ((repeat' (first|refine Va @eV ?_|(refine Xi ?_ ?_<;>try intro ht)|exact Xx|fail)))
      refine aG (fun z:Nat × Nat × List Ld=>(⟨aw [(0,.ptr 0 0 0),(6,.ptr 1 0 0),(7,.ptr 2 0 0),(19,.lit (.int .i64 (c'+1:Nat))),(20,.ptr 6 0 0),(21,.lit (.int .i64 i)),(22,.lit (.int .i64 z.1))],
          cD L z.2.1 cls ah av R++[.var [.lit (.int .i64 n1),.ref 7 3 0 z.2.2.length,.lit (.int .i64 n2),.lit (.int .i64 bg)],.arr 3 (rowsOf dF z.2.2)]⟩:St))
        (fun z=>z.1≤li.length∧z.2.1≤L.length∧w9 cls R z.2.2 i z.1) (fun z=>li.length - z.1) (0,k,lr) ⟨aH _,hk,hI⟩ (by unfold cD;exact Xv (X2 @fB.{0} @fU.{0})) ?_
      clear hk hI
      rintro ⟨j,k,lr⟩ ⟨hj,hk,hI⟩ mh eS eI
      dsimp only at hj hk hI ⊢
      unfold cD
      simp only[fB,fU]
      have ajb:=hI.len
      by_cases cq:j<li.length
      · ((repeat' (first|refine Va @eV ?_|(refine Xi ?_ ?_<;>try intro ht)|exact Xx|fail))<;>try with_reducible intro K hK)
        refine ig [0] (C6 L k 2 (by unfold fH;omega) (by decide) hk hL) (by decide) ⟨rfl,trivial⟩ ⟨.eq rfl,.pure rfl,trivial⟩ ?_
        have bG:=gP hk
        generalize AZ L k 2=b at *
        generalize cN L k=k2 at *
        clear hk
        ((try revert hK K);(repeat' (first|refine Va @eV ?_|(refine Xi ?_ ?_<;>try intro ht)|fail)))
        · refine sj [] (.take 2 (.take 3 (.take 4 (.both 0 (.both 1 (.take 5 (.take 6 (.take 7 (.take 8 (.take 9 (.take 10 (.take 11 .nil))))))) 5 (.take 1 (.take 6 (.take 7 (.take 8 (.take 9 (.take 10 (.take 11 .nil)))))))) 5 (.take 0 (.take 1 (.take 6 (.take 7 (.take 8 (.take 9 (.take 10 (.take 11 .nil)))))))))))) rfl (by decide) (by decide +kernel) ?_
          simp (disch:=omega) only[Ac,↓Pc,simprocAttr,zV,wc,we,cL,dS]
          refine⟨⟨?_,?_⟩,?_⟩
          all_goals refine ig [0] (jB L k2 3 (by unfold fH;omega) bG hL) (by decide) ⟨rfl,trivial⟩ ⟨.eq rfl,.pure rfl,trivial⟩ ?_
          all_goals have hn3:=mQ (L:=L) (k:=k2) (n:=3) (by omega)
          all_goals have hk:=gP bG
          all_goals generalize eH L k2 3=n3 at *
          all_goals generalize cN L k2=k at *
          all_goals clear bG
          all_goals simp (disch:=omega) only[Ac,↓Pc,simprocAttr,zV,wc,we,cL,dS]
          all_goals refine⟨⟨by omega,by omega⟩,by omega,?_⟩
          all_goals repeat (refine Xu ?_)
          all_goals ((repeat' (first|refine Va X0 ?_|fail)))
          all_goals refine eS _ (j+1,k,lr++[⟨i,j,1+n3⟩]) ⟨by dsimp only;omega,hk,hI.app ax (by rw[eV];exact cq) ⟨by omega,by omega⟩⟩ (by dsimp only;omega) ?_
          all_goals unfold cD
          all_goals simp only[fB,fU]
          all_goals rw[show rowsOf dF lr++[[AV.lit (.int .i64 i),AV.lit (.int .i64 j),AV.lit (.int .i64 (1+n3))]]=rowsOf dF (lr++[⟨i,j,1+n3⟩]) from qZ (enc:=dF) lr ⟨i,j,1+n3⟩]
          all_goals exact Xs false [0,1,2,3,4,5,6,9] X0
        · exact eS _ (j+1,k2,lr) ⟨by dsimp only;omega,bG,hI.mono (by omega) (by omega)⟩ (by dsimp only;omega) (by unfold cD;exact Xv (X2 @fB.{0} @fU.{0}))
      · ((repeat' (first|refine Va @eV ?_|(refine Xi ?_ ?_<;>try intro ht)|exact Xx|fail)))
        refine eI _ _ rfl ?_
        clear eS eI mh
        repeat (refine Xu ?_)
        refine Va X0 ?_
        exact ba _ (i+1,k,lr) ⟨by dsimp only;omega,hk,hI.mono (by omega) (by omega)⟩ (by dsimp only;omega) (by unfold cD;exact Xv (X2 @fB.{0} @fU.{0}))
    · ((repeat' (first|refine Va X0 ?_|(refine Xi ?_ ?_<;>try intro ht)|exact Xx|fail)))
      refine bd _ _ rfl ?_
      clear ba bd cR
      repeat (refine Xu ?_)
      refine dO (aQ.EW 7 6 1 3 rfl rfl (by rw[eP];rfl) (kC _) (tL _)) ?_
      refine dO (σ':=⟨aw [(0,.ptr 0 0 0),(6,.ptr 1 0 0),(7,.ptr 2 0 0),(19,.lit (.int .i64 (c'+1:Nat))),(20,.ptr 6 0 0)],
          cD L k cls ah av R++[.var (bu ⟨n1,lr,n2,bg⟩),.gone]⟩) (by unfold cD;exact Xv X0) ?_
      unfold cD
      simp only[fB,fU]
      refine Va @ni ?_
      refine ak _ (c',k,av++[⟨n1,lr,n2,bg⟩]) ⟨by simp;omega,hk,?_⟩ (by dsimp only;omega) ?_
      · intro x hx
        rcases dh.1 hx with hx | hx
        · exact KW x hx
        · simp only[ee] at hx
          subst hx
          unfold fP iP
          simp only[Bool.and_eq_true,decide_eq_true_eq]
          exact⟨⟨⟨by omega,by omega⟩,Kn⟩,hI.ok⟩
      · unfold cD
        rw[show rowsOf bu av++[[AV.lit (.int .i64 n1),AV.tree 3 (rowsOf dF lr),AV.lit (.int .i64 n2),AV.lit (.int .i64 bg)]]=rowsOf bu (av++[⟨n1,lr,n2,bg⟩]) from qZ (enc:=bu) av ⟨n1,lr,n2,bg⟩]
        exact Xs false [0,1,2,3,4,9] X0
  obtain rfl:c=0:=by omega
  ((repeat' (first|refine Va X0 ?_|(refine Xi ?_ ?_<;>try intro ht)|exact Xx|fail)))
  refine aq _ _ rfl ?_;clear ak aq Ql
  repeat (refine Xu ?_)
  refine Vb X0 ?_
  have hMM:MM ⟨cls,ah,av,R⟩ um options:=by
    refine⟨⟨by dsimp only;omega,fun l hl=>by have:=(pE l hl).1;omega,Be,by dsimp only;omega,by dsimp only;omega,fun l hl=>(pE l hl).2,?_,fun x hx=>?_⟩,by dsimp only;omega,fun l hl=>(pE l hl).1,EP,by dsimp only;omega⟩
    · exact (R2 _ _).trans afT
    · exact (ac8 _).trans (KW x hx)
  unfold iU
  simp only[fi,ew]
  simp (disch:=omega) only[Ac,↓Pc,simprocAttr]
  refine⟨_,_,⟨⟨cls,ah,av,R⟩,k,hMM,hk,rfl,rfl⟩,?_⟩
  refine dR [0] true (by decide) ⟨⟨by simp,.inr rfl⟩,trivial⟩ (by decide) (by decide) (aO.agg _ _ rfl (iK.spec (R:=aO _ _ _ _) (cs:=au ⟨cls,ah,av,R⟩) (ds:=[.ref 3 1 0 cls.length,.ref 4 4 0 ah.length,.ref 5 4 0 av.length,.lit (.int .i64 R)]) ⟨?_,?_,?_,.pure rfl,trivial⟩).2)
  · first|exact .pure rfl|exact .eq rfl|exact .fz rfl (by simp only[Bc,Rc])
  · first|exact .pure rfl|exact .eq rfl|exact .fz rfl (by simp only[Bc,Rc])
  · first|exact .pure rfl|exact .eq rfl|exact .fz rfl (by simp only[Bc,Rc])
theorem Xt {P:Program} {N n0:Nat} {σ:St} {Q:Exit→St→Prop} {x:Code} {id:Nat} (h:∀ Q':Exit→St→Prop,(∀ s,Q .normal s→Q' .normal s)→W P N n0 x Q' σ):W P N n0 x (Bq id Q) σ:=h _ .n
theorem XA {σ:St} {kp:Nat→Prop}:∀ {l:List AV},(∀ v∈l,(∃ x,v=AV.lit x)∨∃ s r,v=AV.tree s r)→iK (cw σ kp) l l
  | [],_=>trivial
  | v::l,h=>⟨by rcases h v (by simp) with ⟨x,rfl⟩ | ⟨s,r,rfl⟩;exact .lit _;exact .tree _ _,XA fun x hx=>h x (by simp[hx])⟩
theorem zn {σ:St} {kp:Nat→Prop}:∀ {rows:List (List AV)},(∀ row∈rows,∀ v∈row,(∃ x,v=AV.lit x)∨∃ s r,v=AV.tree s r)→iL (cw σ kp) rows rows
  | [],_=>trivial
  | r::rows,h=>⟨XA (h r (by simp)),zn fun x hx=>h x (by simp[hx])⟩
theorem DC {R:AV→AV→Prop}:∀ {a c:List (List AV)} {b d:List (List AV)},iL R a c→iL R b d→iL R (a++b) (c++d)
  | [],[],_,_,_,k=>k
  | _::_,_::_,_,_,h,k=>⟨h.1,DC h.2 k⟩
  | [],_::_,_,_,h,_=>h.elim
  | _::_,[],_,_,h,_=>h.elim
theorem afV {R:AV→AV→Prop}:∀ {a c:List (List AV)} {x y:List AV},iL R a c→iK R x y→iL R (a.set 0 x) (c.set 0 y)
  | [],[],_,_,_,_=>trivial
  | _::_,_::_,_,_,h,k=>⟨k,h.2⟩
  | [],_::_,_,_,h,_=>h.elim
  | _::_,[],_,_,h,_=>h.elim
theorem XB {R:AV→AV→Prop} {x y:List AV} (h:iK R x y):∀ n,iL R (aW n x) (aW n y)
  | 0=>trivial
  | n+1=>⟨h,XB h n⟩
theorem afW {m:ae} (h:VM m) {p:Pr} (hp:p∈m.ah):p.aP.length≤576:=by
  obtain ⟨_,h1,h2,h3,h4⟩:=iY (fY h.pr p hp)
  have a:=h.opt _ (az (l:=m.cls) (i:=p.fst.toNat) (d:=default) (by omega))
  have b:=h.opt _ (az (l:=m.cls) (i:=p.snd.toNat) (d:=default) (by omega))
  have:((m.cls.getD p.fst.toNat default).length:Int) * (m.cls.getD p.snd.toNat default).length≤24 * 24:=oo (by omega) (by omega) (by omega) (by omega)
  omega
theorem pR {σ:St} {kp:Nat→Prop} {ρ:Nat→Nat} {snap:Bool} {a b c d a' b' c' d':AV} (h1:aO σ kp ρ snap a a') (h2:aO σ kp ρ snap b b') (h3:aO σ kp ρ snap c c') (h4:aO σ kp ρ snap d d'):aO σ kp ρ snap (.agg [a,b,c,d]) (.agg [a',b',c',d']) :=
  .agg _ _ rfl (iK.spec (R:=aO σ kp ρ snap) (cs:=[a,b,c,d]) (ds:=[a',b',c',d']) ⟨h1,h2,h3,h4,trivial⟩).2
structure ly (q:Nat) (m:ae):Prop where
  mb:MB m
  uo:m.cls.length≤q
  opt:∀ l∈m.cls,l.length≤25
abbrev OM (m:ae):Prop:=ly 25 m
theorem ly.mono {q r:Nat} {m:ae} (h:ly q m) (hr:q≤r):ly r m:=⟨h.mb,Nat.le_trans h.uo hr,h.opt⟩
theorem ly.rules {q:Nat} {m:ae} (h:ly q m) (r:Int):ly q ⟨m.cls,m.ah,m.av,r⟩:=⟨⟨h.mb.cls,h.mb.opt,h.mb.ch,h.mb.ah,h.mb.aP,h.mb.av,h.mb.lr⟩,h.uo,h.opt⟩
theorem ly.ah {q:Nat} {m:ae} (h:ly q m) {l:List Pr} (h1:l.length<9223372036854775808) (h2:∀ p∈l,p.aP.length<9223372036854775808):ly q ⟨m.cls,l,m.av,m.rules⟩:=⟨⟨h.mb.cls,h.mb.opt,h.mb.ch,h1,h2,h.mb.av,h.mb.lr⟩,h.uo,h.opt⟩
theorem ly.av {q:Nat} {m:ae} (h:ly q m) {l:List Ct} (h1:l.length<9223372036854775808) (h2:∀ p∈l,p.aA.length<9223372036854775808):ly q ⟨m.cls,m.ah,l,m.rules⟩:=⟨⟨h.mb.cls,h.mb.opt,h.mb.ch,h.mb.ah,h.mb.aP,h1,h2⟩,h.uo,h.opt⟩
theorem ly.cls {q:Nat} {m:ae} (h:ly q m) (hq:q≤25) {l:List (List cB)} (h1:l.length≤q) (h2:∀ x∈l,x.length≤25∧∀ o∈x,o.ch.length<9223372036854775808):ly q ⟨l,m.ah,m.av,m.rules⟩ :=
  ⟨⟨by dsimp only;omega,fun x hx=>by have:=(h2 x hx).1;omega,fun x hx=>(h2 x hx).2,h.mb.ah,h.mb.aP,h.mb.av,h.mb.lr⟩,h1,fun x hx=>(h2 x hx).1⟩
theorem VM.om {m:ae} (h:VM m):OM m:=⟨h.mb,by have:=h.cls;omega,fun l hl=>by have:=h.opt l hl;omega⟩
theorem VM.omq {m:ae} (h:VM m) {q:Nat} (hl:m.cls.length≤q):ly q m:=⟨h.mb,hl,fun l hl=>by have:=h.opt l hl;omega⟩
theorem ly.XC {q:Nat} {m:ae} (h:ly q m) (hp:0<m.ah.length):(m.ah.getD 0 default).aP.length<9223372036854775808:=h.mb.aP _ (az hp)
theorem afY (q:Nat) (ajd:q≤24) (L:List Int) (k:Nat) (m:ae) (hm:VM m) (hq:m.cls.length≤q) (hk:k≤L.length) (hL:L.length<1000000) :
    il Tryz.prog 43 [.ptr 0 0 0,.agg (au m)] [jq L k] (fun r os=>∃ m' k',ly (q+1) m'∧k'≤L.length∧r=.agg (au m')∧os=[jq L k']):=by
  have h1:=hm.cls
  have h2:=hm.opt
  have h3:=hm.ah
  have h4:=hm.av
  have fq:ly (q+1) m:=hm.omq (by omega)
  have h8:=jB L k 8 (by unfold fH;omega) hk hL
  have h8r:=mQ (L:=L) (k:=k) (n:=8) (by omega)
  have bG:=gP hk
  have r4:List.range 4=[0,1,2,3]:=by decide
  unfold jq at *
  generalize eH L k 8=j at *
  generalize cN L k=k2 at *
  refine il.aD (fn:=Tryz.f43) 126 1 [.cell 4 29] Tryz.func43 rfl rfl rfl rfl rfl (by simp) ?_
  ((refine Va X0 ?_)<;>try with_reducible intro K hK)
  (refine Xn [0] (h8) ?_;simp (disch:=omega) only[Ac,↓Pc,simprocAttr])
  ((try revert hK K);(repeat' (first|refine Va @r4 ?_|(refine Xi ?_ ?_<;>try intro ht)|fail))<;>try with_reducible intro K hK)
  ·
    have oQ:=jB L k2 4 (by unfold fH;omega) bG hL
    have xw:=mQ (L:=L) (k:=k2) (n:=4) (by omega)
    have ma:=gP bG
    unfold jq at *
    generalize eH L k2 4=i at *
    generalize cN L k2=k3 at *
    (refine Xn [0] (oQ) ?_;simp (disch:=omega) only[Ac,↓Pc,simprocAttr,r4])
    have hi:i=0∨i=1∨i=2∨i=3:=by omega
    rcases hi with rfl | rfl | rfl | rfl
    · simp (disch:=omega) only[Ac,↓Pc,simprocAttr]
      ((try revert hK K);(refine Va X0 ?_))
      unfold iU
      simp only[fi,ew]
      simp (disch:=omega) only[Ac,↓Pc,simprocAttr]
      refine⟨_,_,⟨⟨m.cls,m.ah,m.av,-1⟩,k3,fq.rules _,by omega,rfl,rfl⟩,?_⟩
      refine dR [0] true (by decide) ⟨⟨by simp,.inr rfl⟩,trivial⟩ (by decide) (by decide) (pR (aO.pure rfl) (?_) (?_) (.pure rfl))
      all_goals first|exact .pure rfl|exact .eq rfl|exact .fz rfl (by simp only[Bc,Rc])
    · simp (disch:=omega) only[Ac,↓Pc,simprocAttr]
      ((try revert hK K);(refine Va X0 ?_))
      unfold iU
      simp only[fi,ew]
      simp (disch:=omega) only[Ac,↓Pc,simprocAttr]
      refine⟨_,_,⟨⟨m.cls,m.ah,m.av,0⟩,k3,fq.rules _,by omega,rfl,rfl⟩,?_⟩
      refine dR [0] true (by decide) ⟨⟨by simp,.inr rfl⟩,trivial⟩ (by decide) (by decide) (pR (aO.pure rfl) (?_) (?_) (.pure rfl))
      all_goals first|exact .pure rfl|exact .eq rfl|exact .fz rfl (by simp only[Bc,Rc])
    · simp (disch:=omega) only[Ac,↓Pc,simprocAttr]
      ((try revert hK K);(refine Va X0 ?_))
      unfold iU
      simp only[fi,ew]
      simp (disch:=omega) only[Ac,↓Pc,simprocAttr]
      refine⟨_,_,⟨⟨m.cls,m.ah,m.av,56⟩,k3,fq.rules _,by omega,rfl,rfl⟩,?_⟩
      refine dR [0] true (by decide) ⟨⟨by simp,.inr rfl⟩,trivial⟩ (by decide) (by decide) (pR (aO.pure rfl) (?_) (?_) (.pure rfl))
      all_goals first|exact .pure rfl|exact .eq rfl|exact .fz rfl (by simp only[Bc,Rc])
    · simp (disch:=omega) only[Ac,↓Pc,simprocAttr]
      ((try revert hK K);(refine Va X0 ?_))
      unfold iU
      simp only[fi,ew]
      simp (disch:=omega) only[Ac,↓Pc,simprocAttr]
      refine⟨_,_,⟨⟨m.cls,m.ah,m.av,57⟩,k3,fq.rules _,by omega,rfl,rfl⟩,?_⟩
      refine dR [0] true (by decide) ⟨⟨by simp,.inr rfl⟩,trivial⟩ (by decide) (by decide) (pR (aO.pure rfl) (?_) (?_) (.pure rfl))
      all_goals first|exact .pure rfl|exact .eq rfl|exact .fz rfl (by simp only[Bc,Rc])
  ·
    have e:=qZ (enc:=bc) m.ah (m.ah.getD 0 default)
    simp only[bc] at e
    rw[e]
    unfold iU
    simp only[fi,ew]
    simp (disch:=omega) only[Ac,↓Pc,simprocAttr]
    refine⟨_,_,⟨⟨m.cls,m.ah++[m.ah.getD 0 default],m.av,m.rules⟩,k2,fq.ah (by simp;omega) (fun p hp=>(dh.1 hp).elim (fq.mb.aP p) fun h=>by rw[ee.1 h];exact fq.XC (by omega)),by omega,rfl,rfl⟩,?_⟩
    refine dR [0] true (by decide) ⟨⟨by simp,.inr rfl⟩,trivial⟩ (by decide) (by decide) (pR (aO.pure rfl) (?_) (?_) (.pure rfl))
    all_goals first|exact .pure rfl|exact .eq rfl|exact .fz rfl (by simp only[Bc,Rc])
  ·
    unfold iU
    simp only[fi,ew]
    simp (disch:=omega) only[Ac,↓Pc,simprocAttr]
    refine⟨_,_,⟨m,k2,fq,by omega,rfl,rfl⟩,?_⟩
    refine dR [0] true (by decide) ⟨⟨by simp,.inr rfl⟩,trivial⟩ (by decide) (by decide) (pR (aO.pure rfl) (?_) (?_) (.pure rfl))
    all_goals first|exact .pure rfl|exact .eq rfl|exact .fz rfl (by simp only[Bc,Rc])
  ·
    have oQ:=jB L k2 2 (by unfold fH;omega) bG hL
    have xw:=mQ (L:=L) (k:=k2) (n:=2) (by omega)
    have ma:=gP bG
    have ajf:(m.ah.getD 0 default).aP.length≤576:=afW hm (az (by omega))
    unfold jq at *
    generalize eH L k2 2=x1 at *
    generalize cN L k2=k3 at *
    refine Xt ?_;intro Qb py
    refine xV ⟨aw [(3,.ptr 1 0 0),(4,.ptr 2 0 0)],[.var [.tree 1 (ints L),.lit (.int .i64 k3)],.var [.tree 1 (rowsOf bA m.cls),.ref 3 4 0 m.ah.length,.ref 4 4 0 m.av.length,.lit (.int .i64 m.rules)],
      .var [.lit (.slice none 0 0),.lit (.slice none 0 0),.lit (.slice none 0 0),.lit (.int .i64 0)],
      .arr 4 ((rowsOf bc m.ah).set 0 [.lit (.int .i64 (m.ah.getD 0 default).fst),.lit (.int .i64 (m.ah.getD 0 default).snd),.lit (.int .i64 (m.ah.getD 0 default).db),.ref 6 1 0 (1+(m.ah.getD 0 default).aP.length)]),
      .arr 4 (rowsOf bu m.av),.gone,.arr 1 ([.lit (.int .i64 (x1 - 1))]::ints (m.ah.getD 0 default).aP)]⟩ (fun s h=>py _ (hn _ h)) ?_ (fun key=>?_)
    rotate_left
    · refine Pe 0 [] [3] (.take 2 (.take 6 (.take 7 (.take 8 (.take 9 (.take 10 (.both 0 (.both 1 (.take 3 (.take 4 (.take 5 (.take 11 (.take 12 (.take 13 (.take 14 .nil))))))) 3 (.take 4 (.both 1 (.take 5 (.take 11 (.take 12 (.take 13 (.take 14 .nil))))) 5 (.both 1 (.take 11 (.take 12 (.take 13 (.take 14 .nil)))) 11 (.take 1 (.take 12 (.take 13 (.take 14 .nil)))))))) 3 (.take 4 (.both 0 (.both 1 (.take 5 (.take 11 (.take 12 (.take 13 (.take 14 .nil))))) 5 (.both 1 (.take 11 (.take 12 (.take 13 (.take 14 .nil)))) 11 (.take 1 (.take 12 (.take 13 (.take 14 .nil)))))) 5 (.both 0 (.both 1 (.take 11 (.take 12 (.take 13 (.take 14 .nil)))) 11 (.take 1 (.take 12 (.take 13 (.take 14 .nil))))) 11 (.take 0 (.take 1 (.take 12 (.take 13 (.take 14 .nil))))))))))))))) rfl (by decide) (by decide +kernel) ?_
      simp (disch:=omega) only[Ac,↓Pc,simprocAttr,Hc,gp]
      repeat' (first|with_reducible refine nF ?_ ?_|omega|(refine Ck (oQ) rfl rfl rfl rfl (by (repeat' (first|exact trivial|refine nF ?_ ?_))<;>first|exact .inl ⟨rfl,rfl⟩|exact .inr ⟨rfl,rfl⟩) ?_;simp (disch:=omega) only[Ac,↓Pc,simprocAttr,Hc,gp]))
      all_goals refine key _ ?_
      all_goals exact Xv X0
    refine Va X0 ?_
    unfold iU
    simp only[fi,ew]
    simp (disch:=omega) only[Ac,↓Pc,simprocAttr]
    refine⟨_,_,⟨⟨m.cls,m.ah.set 0 ⟨(m.ah.getD 0 default).fst,(m.ah.getD 0 default).snd,(m.ah.getD 0 default).db,[x1 - 1]++(m.ah.getD 0 default).aP⟩,m.av,m.rules⟩,k3,fq.ah (by simp;omega) (fun p hp=>(pY hp).elim (fq.mb.aP p) fun h=>by rw[h];show ([x1 - 1]++(m.ah.getD 0 default).aP).length<_;rw[List.length_append,List.length_singleton];omega),by omega,rfl,rfl⟩,?_⟩
    refine dR [0] true (by decide) ⟨⟨by simp,.inr rfl⟩,trivial⟩ (by decide) (by decide) (pR (aO.pure rfl) (.snap _ _ rfl ?_) (?_) (.pure rfl))
    · refine cw.mk rfl (by simp only[Bc,Rc,List.length_set]) (jk (by decide)) (kC _) ?_
      rw[← Oz]
      exact afV (zn (tL _)) ⟨.lit _,.lit _,.lit _,cw.mk rfl (by simp[ints];omega) (jk (by decide)) (oB _) (zn (pw ([x1 - 1]++(m.ah.getD 0 default).aP))),trivial⟩
    · first|exact .pure rfl|exact .eq rfl|exact .fz rfl (by simp only[Bc,Rc])
  ·
    unfold iU
    simp only[fi,ew]
    simp (disch:=omega) only[Ac,↓Pc,simprocAttr]
    refine⟨_,_,⟨m,k2,fq,by omega,rfl,rfl⟩,?_⟩
    refine dR [0] true (by decide) ⟨⟨by simp,.inr rfl⟩,trivial⟩ (by decide) (by decide) (pR (aO.pure rfl) (?_) (?_) (.pure rfl))
    all_goals first|exact .pure rfl|exact .eq rfl|exact .fz rfl (by simp only[Bc,Rc])
  ·
    have e:=Oz (enc:=bc) m.ah 0 ⟨(m.ah.getD 0 default).fst,(m.ah.getD 0 default).fst,(m.ah.getD 0 default).db,(m.ah.getD 0 default).aP⟩
    simp only[bc] at e
    rw[e]
    unfold iU
    simp only[fi,ew]
    simp (disch:=omega) only[Ac,↓Pc,simprocAttr]
    refine⟨_,_,⟨⟨m.cls,m.ah.set 0 ⟨(m.ah.getD 0 default).fst,(m.ah.getD 0 default).fst,(m.ah.getD 0 default).db,(m.ah.getD 0 default).aP⟩,m.av,m.rules⟩,k2,fq.ah (by simp;omega) (fun p hp=>(pY hp).elim (fq.mb.aP p) fun h=>by rw[h];exact fq.XC (by omega)),by omega,rfl,rfl⟩,?_⟩
    refine dR [0] true (by decide) ⟨⟨by simp,.inr rfl⟩,trivial⟩ (by decide) (by decide) (pR (aO.pure rfl) (?_) (?_) (.pure rfl))
    all_goals first|exact .pure rfl|exact .eq rfl|exact .fz rfl (by simp only[Bc,Rc])
  ·
    unfold iU
    simp only[fi,ew]
    simp (disch:=omega) only[Ac,↓Pc,simprocAttr]
    refine⟨_,_,⟨m,k2,fq,by omega,rfl,rfl⟩,?_⟩
    refine dR [0] true (by decide) ⟨⟨by simp,.inr rfl⟩,trivial⟩ (by decide) (by decide) (pR (aO.pure rfl) (?_) (?_) (.pure rfl))
    all_goals first|exact .pure rfl|exact .eq rfl|exact .fz rfl (by simp only[Bc,Rc])
  ·
    unfold iU
    simp only[fi,ew]
    simp (disch:=omega) only[Ac,↓Pc,simprocAttr]
    refine⟨_,_,⟨⟨m.cls,m.ah,m.av++[⟨0,[],-1,1⟩],m.rules⟩,k2,fq.av (by simp;omega) (fun p hp=>(dh.1 hp).elim (fq.mb.lr p) fun h=>by rw[ee.1 h];decide),by omega,rfl,rfl⟩,?_⟩
    refine dR [0] true (by decide) ⟨⟨by simp,.inr rfl⟩,trivial⟩ (by decide) (by decide) (pR (aO.pure rfl) (?_) (.snap _ _ rfl ?_) (.pure rfl))
    · first|exact .pure rfl|exact .eq rfl|exact .fz rfl (by simp only[Bc,Rc])
    · refine cw.mk rfl (by simp only[Bc,Rc]) (jk (by decide)) (kC _) ?_
      rw[← qZ]
      exact DC (zn (tL _)) ⟨⟨.lit _,.nil 3,.lit _,.lit _,trivial⟩,trivial⟩
  ·
    have hnw:=jB L k2 3 (by unfold fH;omega) bG hL
    have ma:=gP bG
    have oQ:=jB L (cN L k2) 4 (by unfold fH;omega) ma hL
    have Gu:=gP ma
    have KX:=jB L (cN L (cN L k2)) 2 (by unfold fH;omega) Gu hL
    have XD:=gP Gu
    have hnz:=jB L (cN L (cN L (cN L k2))) 2 (by unfold fH;omega) XD hL
    have hk6:=gP XD
    unfold jq at *
    generalize eH L k2 3=x1 at *
    generalize cN L k2=k3 at *
    generalize eH L k3 4=x2 at *
    generalize cN L k3=k4 at *
    generalize eH L k4 2=x3 at *
    generalize cN L k4=k5 at *
    generalize eH L k5 2=x4 at *
    generalize cN L k5=k6 at *
    refine Xt ?_;intro Qb py
    refine xV ⟨aw [(3,.ptr 1 0 0),(4,.ptr 2 0 0)],[.var [.tree 1 (ints L),.lit (.int .i64 k6)],.var [.tree 1 (rowsOf bA m.cls),.ref 3 4 0 m.ah.length,.ref 7 4 0 (m.av.length+1),.lit (.int .i64 m.rules)],
      .var [.lit (.slice none 0 0),.lit (.slice none 0 0),.lit (.slice none 0 0),.lit (.int .i64 0)],.arr 4 (rowsOf bc m.ah),.gone,.arr 3 [[.lit (.int .i64 x1),.lit (.int .i64 x2),.lit (.int .i64 x3)]],
      .arr 4 [[.lit (.int .i64 0),.ref 5 3 0 1,.lit (.int .i64 0),.lit (.int .i64 x4)]],.arr 4 (rowsOf bu m.av++[[.lit (.int .i64 0),.ref 5 3 0 1,.lit (.int .i64 0),.lit (.int .i64 x4)]])]⟩ (fun s h=>py _ (hn _ h)) ?_ (fun key=>?_)
    rotate_left
    · refine Pe 0 [] [3,5,7,11] (.take 0 (.take 1 (.take 2 (.take 3 (.take 4 (.take 5 (.take 6 (.take 7 (.take 8 (.take 10 (.both 9 (.take 11 (.take 12 (.take 13 (.take 14 (.take 15 (.take 16 .nil)))))) 11 (.take 9 (.take 12 (.take 13 (.take 14 (.take 15 (.take 16 .nil))))))))))))))))) rfl (by decide) (by decide +kernel) ?_
      simp (disch:=omega) only[Ac,↓Pc,simprocAttr,Hc,gp]
      repeat' (first|with_reducible refine nF ?_ ?_|omega|(refine Ck (hnw) rfl rfl rfl rfl (by (repeat' (first|exact trivial|refine nF ?_ ?_))<;>first|exact .inl ⟨rfl,rfl⟩|exact .inr ⟨rfl,rfl⟩) ?_;simp (disch:=omega) only[Ac,↓Pc,simprocAttr,Hc,gp])|(refine Ck (oQ) rfl rfl rfl rfl (by (repeat' (first|exact trivial|refine nF ?_ ?_))<;>first|exact .inl ⟨rfl,rfl⟩|exact .inr ⟨rfl,rfl⟩) ?_;simp (disch:=omega) only[Ac,↓Pc,simprocAttr,Hc,gp])|(refine Ck (KX) rfl rfl rfl rfl (by (repeat' (first|exact trivial|refine nF ?_ ?_))<;>first|exact .inl ⟨rfl,rfl⟩|exact .inr ⟨rfl,rfl⟩) ?_;simp (disch:=omega) only[Ac,↓Pc,simprocAttr,Hc,gp])|(refine Ck (hnz) rfl rfl rfl rfl (by (repeat' (first|exact trivial|refine nF ?_ ?_))<;>first|exact .inl ⟨rfl,rfl⟩|exact .inr ⟨rfl,rfl⟩) ?_;simp (disch:=omega) only[Ac,↓Pc,simprocAttr,Hc,gp]))
      all_goals refine key _ ?_
      all_goals exact Xv X0
    refine Va X0 ?_
    unfold iU
    simp only[fi,ew]
    simp (disch:=omega) only[Ac,↓Pc,simprocAttr]
    refine⟨_,_,⟨⟨m.cls,m.ah,m.av++[⟨0,[⟨x1,x2,x3⟩],0,x4⟩],m.rules⟩,k6,fq.av (by simp;omega) (fun p hp=>(dh.1 hp).elim (fq.mb.lr p) fun h=>by rw[ee.1 h];simp),by omega,rfl,rfl⟩,?_⟩
    refine dR [0] true (by decide) ⟨⟨by simp,.inr rfl⟩,trivial⟩ (by decide) (by decide) (pR (aO.pure rfl) (?_) (.snap _ _ rfl ?_) (.pure rfl))
    · first|exact .pure rfl|exact .eq rfl|exact .fz rfl (by simp only[Bc,Rc])
    · refine cw.mk rfl (by simp only[Bc,Rc]) (jk (by decide)) (kC _) ?_
      rw[← qZ]
      exact DC (zn (tL _)) ⟨⟨.lit _,cw.mk rfl rfl (jk (by decide)) (kC _) ⟨⟨.lit _,.lit _,.lit _,trivial⟩,trivial⟩,.lit _,.lit _,trivial⟩,trivial⟩
  ·
    have oQ:=jB L k2 5 (by unfold fH;omega) bG hL
    have ma:=gP bG
    have KX:=jB L (cN L k2) 2 (by unfold fH;omega) ma hL
    have Gu:=gP ma
    unfold jq at *
    generalize eH L k2 5=x1 at *
    generalize cN L k2=k3 at *
    generalize eH L k3 2=x2 at *
    generalize cN L k3=k4 at *
    (refine Xn [0] (oQ) ?_;simp (disch:=omega) only[Ac,↓Pc,simprocAttr])
    (refine Xn [0] (KX) ?_;simp (disch:=omega) only[Ac,↓Pc,simprocAttr])
    ((try revert hK K);(refine Va X0 ?_))
    unfold iU
    simp only[fi,ew]
    simp (disch:=omega) only[Ac,↓Pc,simprocAttr]
    refine⟨_,_,⟨⟨m.cls++[[⟨0,0,0,0,0,[(x1,x2)]⟩]],m.ah,m.av,m.rules⟩,k4,fq.cls (by omega) (by simp;omega) (fun l hl=>(dh.1 hl).elim (fun h=>⟨fq.opt l h,fq.mb.ch l h⟩) fun h=>by rw[ee.1 h];exact⟨by simp,fun o ho=>by rw[ee.1 ho];simp⟩),by omega,rfl,rfl⟩,?_⟩
    refine dR [0] true (by decide) ⟨⟨by simp,.inr rfl⟩,trivial⟩ (by decide) (by decide) (pR (.snap _ _ rfl ?_) (?_) (?_) (.pure rfl))
    · refine cw.mk rfl (by simp only[Bc,Rc]) (jk (by decide)) (kC _) ?_
      rw[← qZ]
      refine DC (zn (tL _)) ⟨⟨?_,trivial⟩,trivial⟩
      refine cw.mk rfl rfl (jk (by decide)) (kC _) ⟨⟨.lit _,.lit _,.lit _,.lit _,.lit _,?_,trivial⟩,trivial⟩
      exact cw.mk rfl rfl (jk (by decide)) (kC _) ⟨⟨.lit _,.lit _,trivial⟩,trivial⟩
    · first|exact .pure rfl|exact .eq rfl|exact .fz rfl (by simp only[Bc,Rc])
    · first|exact .pure rfl|exact .eq rfl|exact .fz rfl (by simp only[Bc,Rc])
  ·
    have oQ:=jB L k2 2 (by unfold fH;omega) bG hL
    have xw:=mQ (L:=L) (k:=k2) (n:=2) (by omega)
    have ma:=gP bG
    unfold jq at *
    generalize eH L k2 2=x1 at *
    generalize cN L k2=k3 at *
    (refine Xn [0] (oQ) ?_;simp (disch:=omega) only[Ac,↓Pc,simprocAttr])
    ((try revert hK K);(refine Va X0 ?_))
    unfold iU
    simp only[fi,ew]
    simp (disch:=omega) only[Ac,↓Pc,simprocAttr]
    refine⟨_,_,⟨⟨m.cls++[aW (24+x1).toNat ⟨0,0,0,0,0,[]⟩],m.ah,m.av,m.rules⟩,k3,fq.cls (by omega) (by simp;omega) (fun l hl=>(dh.1 hl).elim (fun h=>⟨fq.opt l h,fq.mb.ch l h⟩) fun h=>by rw[ee.1 h];exact⟨by rw[mo];omega,fun o ho=>by rw[List.eq_of_mem_replicate ho];decide⟩),by omega,rfl,rfl⟩,?_⟩
    refine dR [0] true (by decide) ⟨⟨by simp,.inr rfl⟩,trivial⟩ (by decide) (by decide) (pR (.snap _ _ rfl ?_) (?_) (?_) (.pure rfl))
    · refine cw.mk rfl (by simp only[Bc,Rc]) (jk (by decide)) (kC _) ?_
      rw[← qZ]
      refine DC (zn (tL _)) ⟨⟨?_,trivial⟩,trivial⟩
      refine cw.mk rfl (by rw[mo]) (jk (by decide)) (kC _) ?_
      rw[show rowsOf dJ (aW (24+x1).toNat ⟨0,0,0,0,0,[]⟩)=aW (24+x1).toNat (dJ ⟨0,0,0,0,0,[]⟩) by rw[rowsOf,List.map_replicate]]
      refine XB ?_ _
      exact⟨.lit _,.lit _,.lit _,.lit _,.lit _,.nil 2,trivial⟩
    · first|exact .pure rfl|exact .eq rfl|exact .fz rfl (by simp only[Bc,Rc])
    · first|exact .pure rfl|exact .eq rfl|exact .fz rfl (by simp only[Bc,Rc])
theorem af1 (L:List Int) (k:Nat) (m:ae) (hm:VM m) (hk:k≤L.length) (hL:L.length<1000000) :
    il Tryz.prog 43 [.ptr 0 0 0,.agg (au m)] [jq L k] (fun r os=>∃ m' k',OM m'∧k'≤L.length∧r=.agg (au m')∧os=[jq L k']):=afY 24 (aV _) L k m hm hm.cls hk hL
def oc:List (List cB)→Int
  | []=>1
  | l::r=>l.length * oc r
theorem DD:∀ (cls:List (List cB)),(∀ l∈cls,1≤l.length)→1≤oc cls
  | [],_=>Int.le_refl _
  | l::r,h=>by
    have h1:=h l (by simp)
    have h2:=DD r fun x hx=>h x (by simp[hx])
    rw[oc]
    have:(1:Int) * 1≤l.length * oc r:=oo (by omega) h2 (by omega) (by omega)
    omega
theorem af2 (m:ae) (hm:VM m) (lF:∀ l∈m.cls,1≤l.length) (hb:oc m.cls≤9999):ao Tryz.prog 78 [.agg (au m)] [] (.lit (.int .i64 (oc m.cls))) []:=by
  have nX:=hm.cls
  have ajh:=DD m.cls lF
  generalize aj:oc m.cls=res at *
  refine ao.aD (fn:=Tryz.f78) 26 0 [.tmp 2] Tryz.func78 rfl rfl rfl rfl rfl (by simp) ?_
  refine Vb X0 ?_
  refine aG (fun z:Nat × Int=>(⟨aw [(1,.ptr 0 0 0),(3,.lit (.int .i64 z.2)),(4,.lit (.int .i64 z.1))],[.var (au m)]⟩:St)) (fun z=>z.1≤m.cls.length∧1≤z.2∧z.2 * oc (m.cls.drop z.1)=res) (fun z=>m.cls.length - z.1) (0,1) ⟨aH _,by decide,by rw[List.drop_zero,aj];exact Int.one_mul _⟩ (Xv X0) ?_
  rintro ⟨i,n⟩ ⟨hi,eh,hr⟩ Ql ak aq
  dsimp only at hi eh hr ⊢
  have Kt:=DD (m.cls.drop i) fun x hx=>lF x (xM hx)
  have aji:n≤res:=by
    rw[← hr]
    have:n * 1≤n * oc (m.cls.drop i):=Int.mul_le_mul_of_nonneg_left Kt (by omega)
    omega
  by_cases ax:i<m.cls.length
  · have sW:=hm.opt _ (az (l:=m.cls) (i:=i) (d:=default) ax)
    have o7:=lF _ (az (l:=m.cls) (i:=i) (d:=default) ax)
    rw[b7 m.cls i default ax,oc,← Int.mul_assoc] at hr
    have Wq:=DD (m.cls.drop (i+1)) fun x hx=>lF x (xM hx)
    generalize aJ:m.cls.getD i default=c at *
    have me:n * 1≤n * (c.length:Int):=Int.mul_le_mul_of_nonneg_left (by omega) (by omega)
    have vB:n * (c.length:Int)≤10000 * 24:=oo (by omega) (by omega) (by omega) (by omega)
    generalize tV:n * (c.length:Int)=nc at *
    ((repeat' (first|refine Va (X3 @aJ @bA.eq_1 @tV) ?_|(refine V2 (X3 @aJ @bA.eq_1 @tV) ?_ ?_<;>try with_reducible intro hb)|(refine Xi ?_ ?_<;>try intro ht)|exact Xx|fail)))
    exact ak _ (i+1,nc) ⟨by dsimp only;omega,by dsimp only;omega,hr⟩ (by dsimp only;omega) (Xv X0)
  · rw[List.drop_eq_nil_of_le (by omega),oc,Int.mul_one] at hr
    ((repeat' (first|refine Va X0 ?_|(refine V2 X0 ?_ ?_<;>try with_reducible intro hb)|(refine Xi ?_ ?_<;>try intro ht)|exact Xx|fail)))
    all_goals
      refine aq _ _ rfl ?_;clear ak aq Ql
      repeat (refine Xu ?_)
      refine Vb X0 ?_
      exact aE rfl (by rw[← hr,Int.min_eq_left (by omega)])
theorem XE {w:Nat}:∀ (cls:List (List cB)) (k:Nat),1≤w→cls.length≤k→(∀ l∈cls,1≤l.length∧l.length≤w)→oc cls≤(w:Int) ^ k
  | [],k,hw,_,_=>by
    rw[oc]
    have:(0:Int)<(w:Int) ^ k:=Int.pow_pos (by omega)
    omega
  | l::r,0,_,hk,_=>by simp at hk
  | l::r,k+1,hw,hk,h=>by
    have h1:=h l (by simp)
    have h2:=XE r k hw (by simpa using hk) fun x hx=>h x (by simp[hx])
    have h3:=DD r fun x hx=>(h x (by simp[hx])).1
    rw[oc,Int.pow_succ,Int.mul_comm ((w:Int) ^ k)]
    exact oo (by omega) h2 (by omega) (by omega)
end T

