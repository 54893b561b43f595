import Derived.Test.YtdipcmigdbnheaaGreatX18
import Derived.Test.YtdipcmigdbnheaaGreatX14
set_option linter.unusedVariables false
set_option linter.unusedSimpArgs false
set_option linter.unnecessarySimpa false
set_option linter.unusedSectionVars false
set_option maxHeartbeats 64000000
set_option maxRecDepth 20000
open List renaming cons_append→dG,nil_append→dK,mem_append→cy,mem_singleton→ek
open Nat renaming zero_le→aD
open Go Go.Am Go.Proofs
open Nat (reduceEqDiff reduceAdd reduceLeDiff reduceMul)
open Int (reduceNeg reduceLE reduceToNat)
namespace T
def jE (L:List Int) (k:Nat):Ob:=.var [.tree 1 (ints L),.lit (.int .i64 k)]
theorem U0 (L:List Int) (k:Nat) (s6 options:Nat) (hk:k≤L.length) (hL:L.length<1000000) (hc:s6≤24) (ho:options≤24) (ho1:1≤options) :
    fF Tryz.prog 26 [.ptr 0 0 0,.lit (.int .i64 s6),.lit (.int .i64 options)] [jE L k] (fun r os=>∃ m k',MM m s6 options∧k'≤L.length∧r=.agg (ar m)∧os=[jE L k']):=by
  unfold jE
  refine fF.aF (fn:=Tryz.f26) 199 1 [.cell 6 29] Tryz.func26 rfl rfl rfl rfl rfl (by simp) ?_
  ((refine Vb X0 ?_)<;>try with_reducible intro K hK)
  refine ic [0] (jr L k 4 (by unfold fR;omega) hk hL) (by decide) ⟨rfl,trivial⟩ ⟨.eq rfl,.pure rfl,trivial⟩ ?_
  have hv:=mi (L:=L) (k:=k) (n:=4) (by omega)
  have bQ:=gM hk
  generalize eC L k 4=v at *
  generalize cQ L k=k2 at *
  clear hk
  ((try revert hK K);(refine Vb X0 ?_)<;>try with_reducible intro K hK)
  refine ic [0] (jr L k2 (s6+1) (by unfold fR;omega) bQ hL) (by decide) ⟨rfl,trivial⟩ ⟨.eq rfl,.pure rfl,trivial⟩ ?_
  have Jn:=mi (L:=L) (k:=k2) (n:=s6+1) (by omega)
  have lL:=gM bQ
  generalize eC L k2 (s6+1)=n at *
  generalize cQ L k2=k3 at *
  clear bQ
  obtain ⟨c0,rfl⟩ :∃c0:Nat,n=c0:=⟨n.toNat,by omega⟩
  generalize hR:1+v=R
  have zi:1≤R∧R≤4:=by omega
  ((try revert hK K);(refine Vb X0 ?_))
  refine aI (fun z:Nat × Nat × List (List bK)=>(⟨av [(0,.ptr 0 0 0),(2,.lit (.int .i64 options)),(6,.ptr 1 0 0),(7,.ptr 2 0 0),(8,.lit (.int .i64 z.1))],cC L z.2.1 z.2.2 [] [] R⟩:St))
    (fun z=>z.1+z.2.2.length≤s6∧z.2.1≤L.length∧∀ l∈z.2.2,(1≤l.length∧l.length≤options)∧OX R l) (fun z=>z.1) (c0,k3,[]) ⟨by simp;omega,lL,by simp⟩ ?_ ?_
  · refine aA.trans (aA.ma 2 0 1 rfl rfl (by decide)) ?_
    refine aA.trans (aA.ma 2 1 4 rfl rfl (by decide)) ?_
    refine aA.trans (aA.ma 2 2 4 rfl rfl (by decide)) ?_
    exact Xv X0
  clear Jn lL
  rintro ⟨c,k,cls⟩ ⟨aO,hk,tC⟩ Ql ak aq
  dsimp only at aO hk tC ⊢
  unfold cC
  by_cases mM:0<c
  · obtain ⟨c',rfl⟩ :∃c',c=c'+1:=⟨c - 1,by omega⟩
    have n5:((c'+1:Nat):Int) - 1=c':=by omega
    ((repeat' (first|refine Va X0 ?_|(refine Xi ?_ ?_<;>try intro ht)|exact Xx|fail))<;>try with_reducible intro K hK)
    refine ic [0] (jr L k options (by unfold fR;omega) hk hL) (by decide) ⟨rfl,trivial⟩ ⟨.eq rfl,.pure rfl,trivial⟩ ?_
    have Jn:=mi (L:=L) (k:=k) (n:=options) (by omega)
    have bQ:=gM hk
    generalize eC L k options=n at *
    generalize cQ L k=k2 at *
    clear hk
    obtain ⟨e0,nk⟩ :∃e0:Nat,1+n=e0:=⟨(1+n).toNat,by omega⟩
    ((try revert hK K);(refine Va @nk ?_))
    refine aI (fun z:Nat × Nat × List bK=>(⟨av [(0,.ptr 0 0 0),(2,.lit (.int .i64 options)),(6,.ptr 1 0 0),(7,.ptr 2 0 0),(8,.lit (.int .i64 (c'+1:Nat))),(9,.ref 6 6 0 z.2.2.length),(10,.lit (.int .i64 z.1))],cC L z.2.1 cls [] [] R++[.arr 6 (rowsOf bX z.2.2)]⟩:St))
      (fun z=>z.1+z.2.2.length=e0∧z.2.1≤L.length∧OX R z.2.2) (fun z=>z.1) (e0,k2,[]) ⟨by simp,bQ,by intro o ho;simp at ho⟩ ?_ ?_
    · refine aA.trans (aA.nil 9 6 (by simp only[Kc,simprocAttr]) (by decide)) ?_
      unfold cC
      exact Xv X0
    clear bQ
    rintro ⟨e,k,l⟩ ⟨uB,hk,hl⟩ cP a5 a8
    dsimp only at uB hk hl ⊢
    unfold cC
    simp only[dG,dK]
    by_cases Np:0<e
    · obtain ⟨e',rfl⟩ :∃e',e=e'+1:=⟨e - 1,by omega⟩
      have sO:((e'+1:Nat):Int) - 1=e':=by omega
      ((repeat' (first|refine Va X0 ?_|(refine Xi ?_ ?_<;>try intro ht)|exact Xx|fail))<;>try with_reducible intro K hK)
      refine ic [0] (jr L k 3 (by unfold fR;omega) hk hL) (by decide) ⟨rfl,trivial⟩ ⟨.eq rfl,.pure rfl,trivial⟩ ?_
      have eM:=mi (L:=L) (k:=k) (n:=3) (by omega)
      have bQ:=gM hk
      generalize eC L k 3=n1 at *
      generalize cQ L k=k2 at *
      clear hk
      ((try revert hK K);(refine Va X0 ?_)<;>try with_reducible intro K hK)
      refine ic [0] (jr L k2 2 (by unfold fR;omega) bQ hL) (by decide) ⟨rfl,trivial⟩ ⟨.eq rfl,.pure rfl,trivial⟩ ?_
      have hk:=gM bQ
      generalize eC L k2 2=n2 at *
      generalize cQ L k2=k at *
      clear bQ
      ((try revert hK K);(refine Va X0 ?_)<;>try with_reducible intro K hK)
      refine ic [0] (jr L k 3 (by unfold fR;omega) hk hL) (by decide) ⟨rfl,trivial⟩ ⟨.eq rfl,.pure rfl,trivial⟩ ?_
      have bQ:=gM hk
      generalize eC L k 3=n3 at *
      generalize cQ L k=k2 at *
      clear hk
      ((try revert hK K);(refine Va X0 ?_)<;>try with_reducible intro K hK)
      refine ic [0] (jr L k2 3 (by unfold fR;omega) bQ hL) (by decide) ⟨rfl,trivial⟩ ⟨.eq rfl,.pure rfl,trivial⟩ ?_
      have hn4:=mi (L:=L) (k:=k2) (n:=3) (by omega)
      have hk:=gM bQ
      generalize eC L k2 3=n4 at *
      generalize cQ L k2=k at *
      clear bQ
      ((try revert hK K);(refine Va X0 ?_))
      generalize U1:1+n1=w1
      generalize hw4:n4 - 1=w4
      refine aI (fun z:Nat × Nat × List (Int × Int)=>(⟨av [(0,.ptr 0 0 0),(2,.lit (.int .i64 options)),(6,.ptr 1 0 0),(7,.ptr 2 0 0),(8,.lit (.int .i64 (c'+1:Nat))),(9,.ref 6 6 0 l.length),(10,.lit (.int .i64 (e'+1:Nat))),(11,.ptr 7 0 0),(12,.lit (.int .i64 z.1))],
          cC L z.2.1 cls [] [] R++[.arr 6 (rowsOf bX l),.var [.lit (.int .i64 w1),.lit (.int .i64 n2),.lit (.int .i64 n3),.lit (.int .i64 1),.lit (.int .i64 w4),.ref 8 2 0 z.2.2.length],.arr 2 (rowsOf aG z.2.2)]⟩:St))
        (fun z=>(z.1:Int)≤R∧z.2.1≤L.length∧z.2.2.length≤z.1∧dF R none z.2.2=true∧∀ x∈z.2.2,x.1<z.1) (fun z=>R.toNat - z.1) (0,k,[]) ⟨by dsimp only;omega,hk,Nat.le_refl _,rfl,by simp⟩ ?_ ?_
      · refine aA.trans (aA.ma 7 5 2 rfl rfl (by decide)) ?_
        unfold cC
        exact Xv X0
      clear hk
      rintro ⟨u,k,ch⟩ ⟨hu,hk,ca,gJ,bj⟩ lH fl eX
      dsimp only at hu hk ca gJ bj ⊢
      unfold cC
      simp only[dG,dK]
      by_cases Jo:(u:Int)<R
      · ((repeat' (first|refine Va X0 ?_|(refine Xi ?_ ?_<;>try intro ht)|exact Xx|fail))<;>try with_reducible intro K hK)
        refine ic [0] (IS L k hk hL) (by decide) ⟨rfl,trivial⟩ ⟨.eq rfl,trivial⟩ ?_
        obtain ⟨qw,yX,Cq⟩:=Ip L k
        have bQ:=Iq hk
        generalize oe L k=cv at *
        generalize s5 L k=k2 at *
        clear hk
        ((try revert hK K);(repeat' (first|refine Va X0 ?_|(refine V2 X0 ?_ ?_<;>try with_reducible intro hb)|(refine Xi ?_ ?_<;>try intro ht)|exact Xx|fail))<;>try with_reducible intro K hK)
        · refine ic [0] (B6 L k2 2 (by unfold fR;omega) (by decide) bQ hL) (by decide) ⟨rfl,trivial⟩ ⟨.eq rfl,.pure rfl,trivial⟩ ?_
          have hk:=gM bQ
          generalize zS L k2 2=b at *
          generalize cQ L k2=k at *
          clear bQ
          ((try revert hK K);(repeat' (first|refine Va X0 ?_|(refine Xi ?_ ?_<;>try intro ht)|fail)))
          · refine fl _ (u+1,k,ch++[((u:Int),cv)]) ⟨by dsimp only;omega,hk,by simp;omega,OS gJ (by rw[iL,decide_eq_true_eq];omega) (Cq (by omega)) (fun x hx=>bj x hx) (by simp),fun x hx=>?_⟩ (by dsimp only;omega) ?_
            · rcases cy.1 hx with hx | hx
              · have:=bj x hx;dsimp only;omega
              · simp only[ek] at hx;subst hx;dsimp only;omega
            · unfold cC
              simp only[dG,dK]
              rw[show rowsOf aG ch++[[AV.lit (.int .i64 u),AV.lit (.int .i64 cv)]]=rowsOf aG (ch++[((u:Int),cv)]) from l8 (enc:=aG) ch ((u:Int),cv)]
              exact Xs false [0,1,2,3,4,5,6,7,10] X0
          · exact fl _ (u+1,k,ch) ⟨by dsimp only;omega,hk,by dsimp only;omega,gJ,fun x hx=>by have:=bj x hx;dsimp only;omega⟩ (by dsimp only;omega) (by unfold cC;exact Xv X0)
        · exact fl _ (u+1,k2,ch) ⟨by dsimp only;omega,bQ,by dsimp only;omega,gJ,fun x hx=>by have:=bj x hx;dsimp only;omega⟩ (by dsimp only;omega) (by unfold cC;exact Xv X0)
      · ((repeat' (first|refine Va X0 ?_|(refine Xi ?_ ?_<;>try intro ht)|exact Xx|fail)))
        refine eX _ _ rfl ?_
        clear fl eX lH
        repeat (refine Xu ?_)
        refine cA (aA.vF 8 7 5 2 rfl rfl (by rw[b5];rfl) (fZ _) (l9 _)) ?_
        refine cA (σ':=⟨av [(0,.ptr 0 0 0),(2,.lit (.int .i64 options)),(6,.ptr 1 0 0),(7,.ptr 2 0 0),(8,.lit (.int .i64 (c'+1:Nat))),(9,.ref 6 6 0 l.length),(10,.lit (.int .i64 (e'+1:Nat))),(11,.ptr 7 0 0)],
            cC L k cls [] [] R++[.arr 6 (rowsOf bX l),.var (bX ⟨w1,n2,n3,1,w4,ch⟩),.gone]⟩) (by unfold cC;exact Xv X0) ?_
        unfold cC
        simp only[dG,dK]
        have sO:((e'+1:Nat):Int) - 1=e':=by omega
        refine Va @sO ?_
        refine a5 _ (e',k,l++[⟨w1,n2,n3,1,w4,ch⟩]) ⟨by simp;omega,hk,?_⟩ (by dsimp only;omega) ?_
        · intro o ho
          rcases cy.1 ho with ho | ho
          · exact hl o ho
          · simp only[ek] at ho;subst ho;exact gJ
        · unfold cC
          simp only[dG,dK]
          rw[show rowsOf bX l++[[AV.lit (.int .i64 w1),AV.lit (.int .i64 n2),AV.lit (.int .i64 n3),AV.lit (.int .i64 1),AV.lit (.int .i64 w4),AV.tree 2 (rowsOf aG ch)]]=rowsOf bX (l++[⟨w1,n2,n3,1,w4,ch⟩]) from l8 (enc:=bX) l ⟨w1,n2,n3,1,w4,ch⟩]
          exact Xs false [0,1,2,3,4,5,10] X0
    · obtain rfl:e=0:=by omega
      ((repeat' (first|refine Va X0 ?_|(refine Xi ?_ ?_<;>try intro ht)|exact Xx|fail)))
      refine a8 _ _ rfl ?_
      clear a5 a8 cP
      repeat (refine Xu ?_)
      refine cA (σ':=⟨av [(0,.ptr 0 0 0),(2,.lit (.int .i64 options)),(6,.ptr 1 0 0),(7,.ptr 2 0 0),(8,.lit (.int .i64 (c'+1:Nat))),(9,.tree 6 (rowsOf bX l))],cC L k cls [] [] R⟩) ?_ ?_
      · unfold cC
        exact Xs true [0,1,2,3,4,5] X0
      unfold cC
      refine Va @n5 ?_
      refine ak _ (c',k,cls++[l]) ⟨by simp;omega,hk,?_⟩ (by dsimp only;omega) ?_
      · intro x hx
        rcases cy.1 hx with hx | hx
        · exact tC x hx
        · simp only[ek] at hx;subst hx;exact⟨⟨by omega,by omega⟩,hl⟩
      · unfold cC
        rw[show rowsOf bn cls++[[AV.tree 6 (rowsOf bX l)]]=rowsOf bn (cls++[l]) from l8 (enc:=bn) cls l]
        exact Xs false [0,1,2,7,4,5] X0
  obtain rfl:c=0:=by omega
  ((repeat' (first|refine Va X0 ?_|(refine Xi ?_ ?_<;>try intro ht)|exact Xx|fail)))
  refine aq _ _ rfl ?_;clear ak aq Ql
  repeat (refine Xu ?_)
  clear mM
  refine cA (σ':=⟨av [(0,.ptr 0 0 0),(6,.ptr 1 0 0),(7,.ptr 2 0 0)],cC L k cls [] [] R⟩) (by unfold cC;exact Xv X0) ?_
  unfold cC
  refine Va X0 ?_
  have ca:cls.length≤24:=by omega
  have Jp:∀ i,(cls.getD i default).length≤24:=fun i=>by
    rcases Nat.lt_or_ge i cls.length with h | h
    · have:=(tC _ (az (d:=default) h)).1;omega
    · rw[List.getD_eq_getElem?_getD,List.getElem?_eq_none h];decide
  refine aI (fun z:Nat × Nat × List Pr=>(⟨av [(0,.ptr 0 0 0),(6,.ptr 1 0 0),(7,.ptr 2 0 0),(14,.lit (.int .i64 z.1))],cC L z.2.1 cls z.2.2 [] R⟩:St))
    (fun z=>(z.1:Int)≤R∧z.2.1≤L.length∧uA cls R z.2.2 z.1 0 0) (fun z=>R.toNat - z.1) (0,k,[]) ⟨by dsimp only;omega,hk,rfl,by simp,by simp⟩ (by unfold cC;exact Xv X0) ?_
  clear hk
  rintro ⟨u,k,ae⟩ ⟨hu,hk,hP⟩ Ql ak aq
  dsimp only at hu hk hP ⊢
  unfold cC
  by_cases Jo:(u:Int)<R
  · ((repeat' (first|refine Va X0 ?_|(refine Xi ?_ ?_<;>try intro ht)|exact Xx|fail)))
    refine aI (fun z:Nat × Nat × List Pr=>(⟨av [(0,.ptr 0 0 0),(6,.ptr 1 0 0),(7,.ptr 2 0 0),(14,.lit (.int .i64 u)),(15,.lit (.int .i64 z.1))],cC L z.2.1 cls z.2.2 [] R⟩:St))
      (fun z=>z.1≤cls.length∧z.2.1≤L.length∧uA cls R z.2.2 u z.1 0) (fun z=>cls.length - z.1) (0,k,ae) ⟨by dsimp only;omega,hk,hP⟩ (by unfold cC;exact Xv X0) ?_
    clear hk hP
    rintro ⟨i,k,ae⟩ ⟨hi,hk,hP⟩ cP a5 a8
    dsimp only at hi hk hP ⊢
    unfold cC
    by_cases hi':i<cls.length
    · ((repeat' (first|refine Va X0 ?_|(refine Xi ?_ ?_<;>try intro ht)|exact Xx|fail)))
      refine aI (fun z:Nat × Nat × List Pr=>(⟨av [(0,.ptr 0 0 0),(6,.ptr 1 0 0),(7,.ptr 2 0 0),(14,.lit (.int .i64 u)),(15,.lit (.int .i64 i)),(16,.lit (.int .i64 z.1))],cC L z.2.1 cls z.2.2 [] R⟩:St))
        (fun z=>i<z.1∧z.1≤cls.length∧z.2.1≤L.length∧uA cls R z.2.2 u i z.1) (fun z=>cls.length - z.1) (i+1,k,ae) ⟨by dsimp only;omega,by dsimp only;omega,hk,hP.mono (by omega) (by omega)⟩ (by unfold cC;exact Xv X0) ?_
      clear hk hP
      rintro ⟨j,k,ae⟩ ⟨xX,hj,hk,hP⟩ lH fl eX
      dsimp only at xX hj hk hP ⊢
      unfold cC
      by_cases dZ:j<cls.length
      · ((repeat' (first|refine Va X0 ?_|(refine Xi ?_ ?_<;>try intro ht)|exact Xx|fail))<;>try with_reducible intro K hK)
        refine ic [0] (B6 L k 3 (by unfold fR;omega) (by decide) hk hL) (by decide) ⟨rfl,trivial⟩ ⟨.eq rfl,.pure rfl,trivial⟩ ?_
        have bQ:=gM hk
        generalize zS L k 3=b at *
        generalize cQ L k=k2 at *
        clear hk
        have g1:=Jp i
        have g2:=Jp j
        have rz:=(tC _ (az (d:=default) hi')).1
        have qu:=(tC _ (az (d:=default) dZ)).1
        have hmul:((cls.getD i default).length:Int) * (cls.getD j default).length=((cls.getD i default).length * (cls.getD j default).length:Nat):=by simp
        have ahh:(cls.getD i default).length * (cls.getD j default).length≤24 * 24:=Nat.mul_le_mul g1 g2
        generalize MV:(cls.getD i default).length * (cls.getD j default).length=nn at *
        ((try revert hK K);(repeat' (first|refine Va @hmul ?_|(refine Xi ?_ ?_<;>try intro ht)|fail)))
        rotate_left
        · exact fl _ (j+1,k2,ae) ⟨by dsimp only;omega,by dsimp only;omega,bQ,hP.mono (by omega) (by omega)⟩ (by dsimp only;omega) (by unfold cC;exact Xv X0)
        refine aI (fun z:Nat × Nat × List Int=>(⟨av [(0,.ptr 0 0 0),(6,.ptr 1 0 0),(7,.ptr 2 0 0),(14,.lit (.int .i64 u)),(15,.lit (.int .i64 i)),(16,.lit (.int .i64 j)),(17,.ptr 6 0 0),(18,.lit (.int .i64 z.1))],
            cC L z.2.1 cls ae [] R++[.var [.lit (.int .i64 i),.lit (.int .i64 j),.lit (.int .i64 u),.ref 7 1 0 z.2.2.length],.arr 1 (ints z.2.2)]⟩:St))
          (fun z=>z.1+z.2.2.length=nn∧z.2.1≤L.length∧∀ x∈z.2.2,0≤x∧(0<x→iM x=true)) (fun z=>z.1) (nn,k2,[]) ⟨by simp,bQ,by simp⟩ ?_ ?_
        · refine aA.trans (aA.ma 6 3 1 rfl rfl (by decide)) ?_
          unfold cC
          exact Xv X0
        clear bQ
        rintro ⟨w,k,ax⟩ ⟨hw,hk,Fu⟩ U2 Jq tn
        dsimp only at hw hk Fu ⊢
        unfold cC
        simp only[dG,dK]
        by_cases Dm:0<w
        · obtain ⟨w',rfl⟩ :∃w',w=w'+1:=⟨w - 1,by omega⟩
          have U1:((w'+1:Nat):Int) - 1=w':=by omega
          ((repeat' (first|refine Va X0 ?_|(refine Xi ?_ ?_<;>try intro ht)|exact Xx|fail)))
          refine oT [] (.take 2 (.both 0 (.both 1 (.take 3 (.take 4 (.take 5 (.take 6 (.take 7 .nil))))) 3 (.take 1 (.take 4 (.take 5 (.take 6 (.take 7 .nil)))))) 3 (.take 0 (.take 1 (.take 4 (.take 5 (.take 6 (.take 7 .nil)))))))) rfl (by decide) (by decide +kernel) ?_
          simp (disch:=omega) only[Ac,↓Pc,simprocAttr,yM,vx,vw,cO,dV]
          refine⟨⟨?_,?_⟩,?_⟩
          all_goals refine ic [0] (IS L k hk hL) (by decide) ⟨rfl,trivial⟩ ⟨.eq rfl,trivial⟩ ?_
          all_goals obtain ⟨qw,yX,Cq⟩:=Ip L k
          all_goals have bQ:=Iq hk
          all_goals generalize oe L k=cv at *
          all_goals generalize s5 L k=k2 at *
          all_goals simp (disch:=omega) only[Ac,↓Pc,simprocAttr,yM,vx,vw,cO,dV]
          all_goals refine⟨by omega,?_⟩
          all_goals repeat (refine Xu ?_)
          all_goals ((repeat' (first|refine Va @U1 ?_|fail)))
          all_goals refine Jq _ (w',k2,ax++[cv]) ⟨by simp;omega,bQ,fun x hx=>?_⟩ (by dsimp only;omega) ?_
          all_goals first
            | (rcases cy.1 hx with hx | hx
               · exact Fu x hx
               · simp only[ek] at hx;subst hx;exact⟨qw,Cq⟩)
            | (unfold cC;simp only[dG,dK];exact Xs false [0,1,2,3,4,5,6,9] X0)
        · obtain rfl:w=0:=by omega
          ((repeat' (first|refine Va X0 ?_|(refine Xi ?_ ?_<;>try intro ht)|exact Xx|fail)))
          refine tn _ _ rfl ?_
          clear Jq tn U2
          repeat (refine Xu ?_)
          refine cA (aA.vF 7 6 3 1 rfl rfl (by rw[m8];rfl) (qq _) (sL _)) ?_
          refine cA (σ':=⟨av [(0,.ptr 0 0 0),(6,.ptr 1 0 0),(7,.ptr 2 0 0),(14,.lit (.int .i64 u)),(15,.lit (.int .i64 i)),(16,.lit (.int .i64 j)),(17,.ptr 6 0 0)],
              cC L k cls ae [] R++[.var (aV ⟨i,j,u,ax⟩),.gone]⟩) (by unfold cC;exact Xv X0) ?_
          unfold cC
          simp only[dG,dK]
          have dz:=hP.len
          refine Va X0 ?_
          refine fl _ (j+1,k,ae++[⟨i,j,u,ax⟩]) ⟨by dsimp only;omega,by dsimp only;omega,hk,hP.app (aa5 Jo xX dZ (by rw[MV];omega) Fu)⟩ (by dsimp only;omega) ?_
          unfold cC
          rw[show rowsOf aV ae++[[AV.lit (.int .i64 i),AV.lit (.int .i64 j),AV.lit (.int .i64 u),AV.tree 1 (ints ax)]]=rowsOf aV (ae++[⟨i,j,u,ax⟩]) from l8 (enc:=aV) ae ⟨i,j,u,ax⟩]
          exact Xs false [0,1,2,3,9,5] X0
      · ((repeat' (first|refine Va X0 ?_|(refine Xi ?_ ?_<;>try intro ht)|exact Xx|fail)))
        refine eX _ _ rfl ?_
        clear fl eX lH
        repeat (refine Xu ?_)
        refine Va X0 ?_
        exact a5 _ (i+1,k,ae) ⟨by dsimp only;omega,hk,hP.mono (by omega) (by omega)⟩ (by dsimp only;omega) (by unfold cC;exact Xv X0)
    · ((repeat' (first|refine Va X0 ?_|(refine Xi ?_ ?_<;>try intro ht)|exact Xx|fail)))
      refine a8 _ _ rfl ?_
      clear a5 a8 cP
      repeat (refine Xu ?_)
      refine Va X0 ?_
      exact ak _ (u+1,k,ae) ⟨by dsimp only;omega,hk,hP.mono (by omega) (by omega)⟩ (by dsimp only;omega) (by unfold cC;exact Xv X0)
  have ac8:=hP.ok
  have z7:ae.length≤4000:=by have:=hP.len;omega
  ((repeat' (first|refine Va X0 ?_|(refine Xi ?_ ?_<;>try intro ht)|exact Xx|fail)))
  refine aq _ _ rfl ?_;clear ak aq Ql
  repeat (refine Xu ?_)
  refine cA (σ':=⟨av [(0,.ptr 0 0 0),(6,.ptr 1 0 0),(7,.ptr 2 0 0)],cC L k cls ae [] R⟩) (by unfold cC;exact Xv X0) ?_
  clear Jo hu hP
  unfold cC
  ((refine Va X0 ?_)<;>try with_reducible intro K hK)
  refine ic [0] (jr L k 3 (by unfold fR;omega) hk hL) (by decide) ⟨rfl,trivial⟩ ⟨.eq rfl,.pure rfl,trivial⟩ ?_
  have Jn:=mi (L:=L) (k:=k) (n:=3) (by omega)
  have bQ:=gM hk
  generalize eC L k 3=n at *
  generalize cQ L k=k2 at *
  clear hk
  obtain ⟨c1,rfl⟩ :∃c1:Nat,n=c1:=⟨n.toNat,by omega⟩
  ((try revert hK K);(refine Va X0 ?_))
  refine aI (fun z:Nat × Nat × List Ct=>(⟨av [(0,.ptr 0 0 0),(6,.ptr 1 0 0),(7,.ptr 2 0 0),(19,.lit (.int .i64 z.1))],cC L z.2.1 cls ae z.2.2 R⟩:St))
    (fun z=>z.1+z.2.2.length≤2∧z.2.1≤L.length∧∀ x∈z.2.2,gV ⟨cls,[],[],R⟩ x=true) (fun z=>z.1) (c1,k2,[]) ⟨by simp;omega,bQ,by simp⟩ (by unfold cC;exact Xv X0) ?_
  clear bQ
  rintro ⟨c,k,au⟩ ⟨aO,hk,Jr⟩ Ql ak aq
  dsimp only at aO hk Jr ⊢
  unfold cC
  by_cases mM:0<c
  · obtain ⟨c',rfl⟩ :∃c',c=c'+1:=⟨c - 1,by omega⟩
    have n5:((c'+1:Nat):Int) - 1=c':=by omega
    ((repeat' (first|refine Va X0 ?_|(refine Xi ?_ ?_<;>try intro ht)|exact Xx|fail))<;>try with_reducible intro K hK)
    refine ic [0] (jr L k R (by unfold fR;omega) hk hL) (by decide) ⟨rfl,trivial⟩ ⟨.eq rfl,.pure rfl,trivial⟩ ?_
    have eM:=mi (L:=L) (k:=k) (n:=R) (by omega)
    have bQ:=gM hk
    generalize eC L k R=n1 at *
    generalize cQ L k=k2 at *
    clear hk
    ((try revert hK K);(refine Va X0 ?_)<;>try with_reducible intro K hK)
    refine ic [0] (jr L k2 4 (by unfold fR;omega) bQ hL) (by decide) ⟨rfl,trivial⟩ ⟨.eq rfl,.pure rfl,trivial⟩ ?_
    have nV:=mi (L:=L) (k:=k2) (n:=4) (by omega)
    have hk:=gM bQ
    generalize eC L k2 4=n2 at *
    generalize cQ L k2=k at *
    clear bQ
    ((try revert hK K);(refine Va X0 ?_)<;>try with_reducible intro K hK)
    refine ic [0] (IS L k hk hL) (by decide) ⟨rfl,trivial⟩ ⟨.eq rfl,trivial⟩ ?_
    obtain ⟨qw,yX,Cq⟩:=Ip L k
    have bQ:=Iq hk
    generalize oe L k=cv at *
    generalize s5 L k=k2 at *
    clear hk
    have Js:iM (max 1 cv)=true:=by
      by_cases h0:0<cv
      · rw[show max 1 cv=cv by omega];exact Cq h0
      · rw[show max 1 cv=1 by omega];decide
    generalize bT:max 1 cv=bE at *
    ((try revert hK K);(refine Va @bT ?_))
    refine aI (fun z:Nat × Nat × List Ld=>(⟨av [(0,.ptr 0 0 0),(6,.ptr 1 0 0),(7,.ptr 2 0 0),(19,.lit (.int .i64 (c'+1:Nat))),(20,.ptr 6 0 0),(21,.lit (.int .i64 z.1))],
        cC L z.2.1 cls ae au R++[.var [.lit (.int .i64 n1),.ref 7 3 0 z.2.2.length,.lit (.int .i64 n2),.lit (.int .i64 bE)],.arr 3 (rowsOf gG z.2.2)]⟩:St))
      (fun z=>z.1≤cls.length∧z.2.1≤L.length∧vT cls R z.2.2 z.1 0) (fun z=>cls.length - z.1) (0,k2,[]) ⟨aD _,bQ,rfl,by simp,by simp⟩ ?_ ?_
    · refine aA.trans (aA.ma 6 1 3 rfl rfl (by decide)) ?_
      unfold cC
      exact Xv X0
    clear bQ
    rintro ⟨i,k,kr⟩ ⟨hi,hk,hI⟩ cP a5 a8
    dsimp only at hi hk hI ⊢
    unfold cC
    simp only[dG,dK]
    by_cases hi':i<cls.length
    · have rz:=Jp i
      generalize fA:cls.getD i default=li at *
      ((repeat' (first|refine Va @fA ?_|(refine Xi ?_ ?_<;>try intro ht)|exact Xx|fail)))
      refine aI (fun z:Nat × Nat × List Ld=>(⟨av [(0,.ptr 0 0 0),(6,.ptr 1 0 0),(7,.ptr 2 0 0),(19,.lit (.int .i64 (c'+1:Nat))),(20,.ptr 6 0 0),(21,.lit (.int .i64 i)),(22,.lit (.int .i64 z.1))],
          cC L z.2.1 cls ae au R++[.var [.lit (.int .i64 n1),.ref 7 3 0 z.2.2.length,.lit (.int .i64 n2),.lit (.int .i64 bE)],.arr 3 (rowsOf gG z.2.2)]⟩:St))
        (fun z=>z.1≤li.length∧z.2.1≤L.length∧vT cls R z.2.2 i z.1) (fun z=>li.length - z.1) (0,k,kr) ⟨aD _,hk,hI⟩ (by unfold cC;exact Xv (X2 @dG.{0} @dK.{0})) ?_
      clear hk hI
      rintro ⟨j,k,kr⟩ ⟨hj,hk,hI⟩ lH fl eX
      dsimp only at hj hk hI ⊢
      unfold cC
      simp only[dG,dK]
      have ahi:=hI.len
      by_cases dZ:j<li.length
      · ((repeat' (first|refine Va @fA ?_|(refine Xi ?_ ?_<;>try intro ht)|exact Xx|fail))<;>try with_reducible intro K hK)
        refine ic [0] (B6 L k 2 (by unfold fR;omega) (by decide) hk hL) (by decide) ⟨rfl,trivial⟩ ⟨.eq rfl,.pure rfl,trivial⟩ ?_
        have bQ:=gM hk
        generalize zS L k 2=b at *
        generalize cQ L k=k2 at *
        clear hk
        ((try revert hK K);(repeat' (first|refine Va @fA ?_|(refine Xi ?_ ?_<;>try intro ht)|fail)))
        · refine oT [] (.take 2 (.take 3 (.take 4 (.both 0 (.both 1 (.take 5 (.take 6 (.take 7 (.take 8 (.take 9 (.take 10 (.take 11 .nil))))))) 5 (.take 1 (.take 6 (.take 7 (.take 8 (.take 9 (.take 10 (.take 11 .nil)))))))) 5 (.take 0 (.take 1 (.take 6 (.take 7 (.take 8 (.take 9 (.take 10 (.take 11 .nil)))))))))))) rfl (by decide) (by decide +kernel) ?_
          simp (disch:=omega) only[Ac,↓Pc,simprocAttr,yM,vx,vw,cO,dV]
          refine⟨⟨?_,?_⟩,?_⟩
          all_goals refine ic [0] (jr L k2 3 (by unfold fR;omega) bQ hL) (by decide) ⟨rfl,trivial⟩ ⟨.eq rfl,.pure rfl,trivial⟩ ?_
          all_goals have hn3:=mi (L:=L) (k:=k2) (n:=3) (by omega)
          all_goals have hk:=gM bQ
          all_goals generalize eC L k2 3=n3 at *
          all_goals generalize cQ L k2=k at *
          all_goals clear bQ
          all_goals simp (disch:=omega) only[Ac,↓Pc,simprocAttr,yM,vx,vw,cO,dV]
          all_goals refine⟨⟨by omega,by omega⟩,by omega,?_⟩
          all_goals repeat (refine Xu ?_)
          all_goals ((repeat' (first|refine Va X0 ?_|fail)))
          all_goals refine fl _ (j+1,k,kr++[⟨i,j,1+n3⟩]) ⟨by dsimp only;omega,hk,hI.app hi' (by rw[fA];exact dZ) ⟨by omega,by omega⟩⟩ (by dsimp only;omega) ?_
          all_goals unfold cC
          all_goals simp only[dG,dK]
          all_goals rw[show rowsOf gG kr++[[AV.lit (.int .i64 i),AV.lit (.int .i64 j),AV.lit (.int .i64 (1+n3))]]=rowsOf gG (kr++[⟨i,j,1+n3⟩]) from l8 (enc:=gG) kr ⟨i,j,1+n3⟩]
          all_goals exact Xs false [0,1,2,3,4,5,6,9] X0
        · exact fl _ (j+1,k2,kr) ⟨by dsimp only;omega,bQ,hI.mono (by omega) (by omega)⟩ (by dsimp only;omega) (by unfold cC;exact Xv (X2 @dG.{0} @dK.{0}))
      · ((repeat' (first|refine Va @fA ?_|(refine Xi ?_ ?_<;>try intro ht)|exact Xx|fail)))
        refine eX _ _ rfl ?_
        clear fl eX lH
        repeat (refine Xu ?_)
        refine Va X0 ?_
        exact a5 _ (i+1,k,kr) ⟨by dsimp only;omega,hk,hI.mono (by omega) (by omega)⟩ (by dsimp only;omega) (by unfold cC;exact Xv (X2 @dG.{0} @dK.{0}))
    · ((repeat' (first|refine Va X0 ?_|(refine Xi ?_ ?_<;>try intro ht)|exact Xx|fail)))
      refine a8 _ _ rfl ?_
      clear a5 a8 cP
      repeat (refine Xu ?_)
      refine cA (aA.vF 7 6 1 3 rfl rfl (by rw[b5];rfl) (fZ _) (l9 _)) ?_
      refine cA (σ':=⟨av [(0,.ptr 0 0 0),(6,.ptr 1 0 0),(7,.ptr 2 0 0),(19,.lit (.int .i64 (c'+1:Nat))),(20,.ptr 6 0 0)],
          cC L k cls ae au R++[.var (aU ⟨n1,kr,n2,bE⟩),.gone]⟩) (by unfold cC;exact Xv X0) ?_
      unfold cC
      simp only[dG,dK]
      refine Va @n5 ?_
      refine ak _ (c',k,au++[⟨n1,kr,n2,bE⟩]) ⟨by simp;omega,hk,?_⟩ (by dsimp only;omega) ?_
      · intro x hx
        rcases cy.1 hx with hx | hx
        · exact Jr x hx
        · simp only[ek] at hx
          subst hx
          unfold gV iL
          simp only[Bool.and_eq_true,decide_eq_true_eq]
          exact⟨⟨⟨by omega,by omega⟩,Js⟩,hI.ok⟩
      · unfold cC
        rw[show rowsOf aU au++[[AV.lit (.int .i64 n1),AV.tree 3 (rowsOf gG kr),AV.lit (.int .i64 n2),AV.lit (.int .i64 bE)]]=rowsOf aU (au++[⟨n1,kr,n2,bE⟩]) from l8 (enc:=aU) au ⟨n1,kr,n2,bE⟩]
        exact Xs false [0,1,2,3,4,9] X0
  obtain rfl:c=0:=by omega
  ((repeat' (first|refine Va X0 ?_|(refine Xi ?_ ?_<;>try intro ht)|exact Xx|fail)))
  refine aq _ _ rfl ?_;clear ak aq Ql
  repeat (refine Xu ?_)
  refine Vb X0 ?_
  have hMM:MM ⟨cls,ae,au,R⟩ s6 options:=by
    refine⟨⟨by dsimp only;omega,fun l hl=>by have:=(tC l hl).1;omega,z7,by dsimp only;omega,by dsimp only;omega,fun l hl=>(tC l hl).2,?_,fun x hx=>?_⟩,by dsimp only;omega,fun l hl=>(tC l hl).1,zi,by dsimp only;omega⟩
    · exact (OV _ _).trans ac8
    · exact (aa3 _).trans (Jr x hx)
  unfold gH
  simp only[ei,ee]
  simp (disch:=omega) only[Ac,↓Pc,simprocAttr]
  refine⟨_,_,⟨⟨cls,ae,au,R⟩,k,hMM,hk,rfl,rfl⟩,?_⟩
  refine eA [0] true (by decide) ⟨⟨by simp,.inr rfl⟩,trivial⟩ (by decide) (by decide) (aN.agg _ _ rfl (fD.spec (R:=aN _ _ _ _) (cs:=ar ⟨cls,ae,au,R⟩) (ds:=[.ref 3 1 0 cls.length,.ref 4 4 0 ae.length,.ref 5 4 0 au.length,.lit (.int .i64 R)]) ⟨?_,?_,?_,.pure rfl,trivial⟩).2)
  · first|exact .pure rfl|exact .eq rfl|exact .fz rfl (by simp only[Bc,Rc])
  · first|exact .pure rfl|exact .eq rfl|exact .fz rfl (by simp only[Bc,Rc])
  · first|exact .pure rfl|exact .eq rfl|exact .fz rfl (by simp only[Bc,Rc])
end T

