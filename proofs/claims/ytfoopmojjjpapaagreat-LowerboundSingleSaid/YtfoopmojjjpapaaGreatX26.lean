import Derived.Test.YtfoopmojjjpapaaGreatX16
import Derived.Test.YtfoopmojjjpapaaGreatX22
set_option linter.all false
set_option maxHeartbeats 0
set_option maxRecDepth 20000
open List renaming cons_append→dx,nil_append→eC,mem_append→cG,mem_singleton→cV,mem_of_mem_drop→y0,drop_eq_nil_of_le→jA,length_cons→dq,getD_cons_zero→ik,getD_cons_succ→e7
open Nat renaming zero_le→aS
open Int renaming mul_le_mul→p8
open Go Go.Am Go.Proofs
namespace T
def iU(L:List Int)(k:Nat):Ob:=.var [.tree 1 (ints L),Qf k]
def zE(m:ah):List AV:=[.tree 1 (rowsOf aW m.cls),.ref 1 4 0 m.ae.length,.tree 4 (rowsOf dv m.aD),Qf m.rules]
def Tk{P:Program}{f:FuncId}{args:List AV}{aa:List Ob}{iF abg:AV->List Ob->Prop}(h:cX P f args aa iF)(ht:∀ r os,iF r os->∃ r2 os2,abg r2 os2/\aH aa.length ⟨λk=>[r].getD k .undef,os⟩ ⟨λk=>[r2].getD k .undef,os2⟩):cX P f args aa abg:=by
 refine⟨h.1,λγ jr kC=>Calls.mono (h.2 γ jr kC) ?_⟩;rintro e w'⟨res,bn,cv,aA,h0,h1,h2,h3,h4,h5⟩;obtain⟨r2,os2,hp,ht⟩:=ht res bn h0;obtain⟨Le,a1,a2,a3,a4⟩:=ht aa γ aA rfl h4 h5;exact⟨r2,os2,cv,Le,hp,h1,a1.trans h2,a2.trans h3,a3,a4⟩
def Tl(m:ah)(o:Ob)(ho:∀ ρ,bM ρ o=o):aH 1 ⟨λk=>[AV.agg (zE m)].getD k .undef,[o,.arr 4 (rowsOf aI m.ae)]⟩ ⟨λk=>[AV.agg (an m)].getD k .undef,[o]⟩:=by
 have e:∀ x:AV,(λk=>[x].getD k AV.undef)=ao [(0,x)]:=λx=>by
  funext k;cases k<;>rfl
 rw[e (.agg (an m))];refine aH.aj [0] true _ _ GS ⟨⟨GM,.inr (by rw[ho];rfl)⟩,trivial⟩ GS (λi hi=>by
  obtain rfl:i=0:=GK;rfl) ⟨?_,trivial⟩
 refine(aZ.agg _ _ rfl (jE.spec (R:=aZ _ _ _ _) (cs:=an m) (ds:=zE m) ⟨.pure rfl,aZ.cO rfl (jd _) (by rw[cH]) (jD GS) (oS _),.pure rfl,.pure rfl,trivial⟩).2)
def Th (L:List Int) (k:Nat) (qG options:Nat) (hk:k<=L.length) (hL:L.length<1000000) (hc:qG<=24) (ho:options<=24) (Jh:1<=options) :
    cX Tryz.prog 37 [.ptr 0 0 0,Qf qG,Qf options] [iU L k] (λr os=>∃ m k',MM m qG options/\k'<=L.length/\r=.agg (zE m)/\os=[iU L k',.arr 4 (rowsOf aI m.ae)]):=by
  unfold iU
  refine cX.aM 199 1 [.cell 6 32] Tryz.func37 ?_
  ((refine Vb X0 ?_)<;>try with_reducible intro K hK)
  refine jF [0] (gY L k 4 (by unfold cR;omega) hk hL) GS ⟨rfl,trivial⟩ ⟨.eq rfl,.pure rfl,trivial⟩ ?_
  have hv:=j4 (L:=L) (k:=k) (n:=4) GK
  have bz:=fH hk
  generalize ef L k 4=v at *
  generalize cK L k=k2 at *
  clear hk
  ((try revert hK K);(refine Vb X0 ?_)<;>try with_reducible intro K hK)
  refine jF [0] (gY L k2 (qG+1) (by unfold cR;omega) bz hL) GS ⟨rfl,trivial⟩ ⟨.eq rfl,.pure rfl,trivial⟩ ?_
  have Oa:=j4 (L:=L) (k:=k2) (n:=qG+1) GK
  have gx:=fH bz
  generalize ef L k2 (qG+1)=n at *
  generalize cK L k2=k3 at *
  clear bz
  obtain ⟨c0,rfl⟩ :∃c0:Nat,n=c0:=⟨n.toNat,GK⟩
  generalize hR:1+v=R
  have HB:1<=R/\R<=4:=GK
  ((try revert hK K);(refine Vb X0 ?_))
  refine aR (λz:Nat×Nat×List (List cz)=>(⟨ao [(0,.ptr 0 0 0),(2,Qf options),(6,.ptr 1 0 0),(7,.ptr 2 0 0),(8,Qf z.1)],cU L z.2.1 z.2.2 [] [] R⟩:St))
    (λz=>z.1+z.2.2.length<=qG/\z.2.1<=L.length/\∀ l∈z.2.2,(1<=l.length/\l.length<=options)/\U5 R l) (λz=>z.1) (c0,k3,[]) ⟨P2,gx,GM⟩ ?_ ?_
  · refine aH.trans (aH.rA 2 0 1 rfl rfl GS) ?_
    refine aH.trans (aH.rA 2 1 4 rfl rfl GS) ?_
    refine aH.trans (aH.rA 2 2 4 rfl rfl GS) ?_
    exact Xv X0
  clear Oa gx
  rintro ⟨c,k,cls⟩ ⟨bc,hk,pS⟩ Ql ak aq
  dsimp only at bc hk pS ⊢
  unfold cU
  by_cases mM:0<c
  · obtain ⟨c',rfl⟩ :∃c',c=c'+1:=⟨c - 1,GK⟩
    have lf:((c'+1:Nat):Int) - 1=c':=GK
    ((repeat' (first|refine Va X0 ?_|(refine Xi ?_ ?_<;>try intro ht)|exact Xx|fail))<;>try with_reducible intro K hK)
    refine jF [0] (gY L k options (by unfold cR;omega) hk hL) GS ⟨rfl,trivial⟩ ⟨.eq rfl,.pure rfl,trivial⟩ ?_
    have Oa:=j4 (L:=L) (k:=k) (n:=options) GK
    have bz:=fH hk
    generalize ef L k options=n at *
    generalize cK L k=k2 at *
    clear hk
    obtain ⟨e0,ns⟩ :∃e0:Nat,1+n=e0:=⟨(1+n).toNat,GK⟩
    ((try revert hK K);(refine Va @ns ?_))
    refine aR (λz:Nat×Nat×List cz=>(⟨ao [(0,.ptr 0 0 0),(2,Qf options),(6,.ptr 1 0 0),(7,.ptr 2 0 0),(8,Qf (c'+1:Nat)),(9,.ref 6 6 0 z.2.2.length),(10,Qf z.1)],cU L z.2.1 cls [] [] R++[.arr 6 (rowsOf cp z.2.2)]⟩:St))
      (λz=>z.1+z.2.2.length=e0/\z.2.1<=L.length/\U5 R z.2.2) (λz=>z.1) (e0,k2,[]) ⟨GM,bz,by intro o ho;simp at ho⟩ ?_ ?_
    · refine aH.trans (aH.nil 9 6 (by simp only[Kc,simprocAttr]) GS) ?_
      unfold cU
      exact Xv X0
    clear bz
    rintro ⟨e,k,l⟩ ⟨vM,hk,hl⟩ cJ bj br
    dsimp only at vM hk hl ⊢
    unfold cU
    simp only[dx,eC]
    by_cases vz:0<e
    · obtain ⟨e',rfl⟩ :∃e',e=e'+1:=⟨e - 1,GK⟩
      have jY:((e'+1:Nat):Int) - 1=e':=GK
      ((repeat' (first|refine Va X0 ?_|(refine Xi ?_ ?_<;>try intro ht)|exact Xx|fail))<;>try with_reducible intro K hK)
      refine jF [0] (gY L k 3 (by unfold cR;omega) hk hL) GS ⟨rfl,trivial⟩ ⟨.eq rfl,.pure rfl,trivial⟩ ?_
      have mL:=j4 (L:=L) (k:=k) (n:=3) GK
      have bz:=fH hk
      generalize ef L k 3=n1 at *
      generalize cK L k=k2 at *
      clear hk
      ((try revert hK K);(refine Va X0 ?_)<;>try with_reducible intro K hK)
      refine jF [0] (gY L k2 2 (by unfold cR;omega) bz hL) GS ⟨rfl,trivial⟩ ⟨.eq rfl,.pure rfl,trivial⟩ ?_
      have hk:=fH bz
      generalize ef L k2 2=n2 at *
      generalize cK L k2=k at *
      clear bz
      ((try revert hK K);(refine Va X0 ?_)<;>try with_reducible intro K hK)
      refine jF [0] (gY L k 3 (by unfold cR;omega) hk hL) GS ⟨rfl,trivial⟩ ⟨.eq rfl,.pure rfl,trivial⟩ ?_
      have bz:=fH hk
      generalize ef L k 3=n3 at *
      generalize cK L k=k2 at *
      clear hk
      ((try revert hK K);(refine Va X0 ?_)<;>try with_reducible intro K hK)
      refine jF [0] (gY L k2 3 (by unfold cR;omega) bz hL) GS ⟨rfl,trivial⟩ ⟨.eq rfl,.pure rfl,trivial⟩ ?_
      have hn4:=j4 (L:=L) (k:=k2) (n:=3) GK
      have hk:=fH bz
      generalize ef L k2 3=n4 at *
      generalize cK L k2=k at *
      clear bz
      ((try revert hK K);(refine Va X0 ?_))
      generalize Dw:1+n1=w1
      generalize hw4:n4 - 1=w4
      refine aR (λz:Nat×Nat×List (Int×Int)=>(⟨ao [(0,.ptr 0 0 0),(2,Qf options),(6,.ptr 1 0 0),(7,.ptr 2 0 0),(8,Qf (c'+1:Nat)),(9,.ref 6 6 0 l.length),(10,Qf (e'+1:Nat)),(11,.ptr 7 0 0),(12,Qf z.1)],
          cU L z.2.1 cls [] [] R++[.arr 6 (rowsOf cp l),.var [Qf w1,Qf n2,Qf n3,Qf 1,Qf w4,.ref 8 2 0 z.2.2.length],.arr 2 (rowsOf bd z.2.2)]⟩:St))
        (λz=>(z.1:Int)<=R/\z.2.1<=L.length/\z.2.2.length<=z.1/\eK R none z.2.2=true/\∀ x∈z.2.2,x.1<z.1) (λz=>R.toNat - z.1) (0,k,[]) ⟨PW,hk,Nat.le_refl _,rfl,GM⟩ ?_ ?_
      · refine aH.trans (aH.rA 7 5 2 rfl rfl GS) ?_
        unfold cU
        exact Xv X0
      clear hk
      rintro ⟨u,k,ch⟩ ⟨hu,hk,bK,l7,aX⟩ mq gm fk
      dsimp only at hu hk bK l7 aX ⊢
      unfold cU
      simp only[dx,eC]
      by_cases Od:(u:Int)<R
      · ((repeat' (first|refine Va X0 ?_|(refine Xi ?_ ?_<;>try intro ht)|exact Xx|fail))<;>try with_reducible intro K hK)
        refine jF [0] (Np L k hk hL) GS ⟨rfl,trivial⟩ ⟨.eq rfl,trivial⟩ ?_
        obtain ⟨np,zq,FM⟩:=MT L k
        have bz:=MU hk
        generalize qF L k=cv at *
        generalize xh L k=k2 at *
        clear hk
        ((try revert hK K);(repeat' (first|refine Va X0 ?_|(refine V2 X0 ?_ ?_<;>try with_reducible intro hb)|(refine Xi ?_ ?_<;>try intro ht)|exact Xx|fail))<;>try with_reducible intro K hK)
        · refine jF [0] (ED L k2 2 (by unfold cR;omega) GS bz hL) GS ⟨rfl,trivial⟩ ⟨.eq rfl,.pure rfl,trivial⟩ ?_
          have hk:=fH bz
          generalize CT L k2 2=b at *
          generalize cK L k2=k at *
          clear bz
          ((try revert hK K);(repeat' (first|refine Va X0 ?_|(refine Xi ?_ ?_<;>try intro ht)|fail)))
          · refine gm _ (u+1,k,ch++[((u:Int),cv)]) ⟨PW,hk,P2,U0 l7 (by rw[j8,decide_eq_true_eq];omega) (FM GK) (λx hx=>aX x hx) GM,λx hx=>?_⟩ PW ?_
            · rcases cG.1 hx with hx | hx
              · have:=aX x hx;dsimp only;omega
              · simp only[cV] at hx;subst hx;dsimp only;omega
            · unfold cU
              simp only[dx,eC]
              rw[show rowsOf bd ch++[[AV.lit (.int .i64 u),AV.lit (.int .i64 cv)]]=rowsOf bd (ch++[((u:Int),cv)]) from pE (enc:=bd) ch ((u:Int),cv)]
              exact Xs false [0,1,2,3,4,5,6,7,10] X0
          · exact gm _ (u+1,k,ch) ⟨PW,hk,PW,l7,λx hx=>by have:=aX x hx;dsimp only;omega⟩ PW (by unfold cU;exact Xv X0)
        · exact gm _ (u+1,k2,ch) ⟨PW,bz,PW,l7,λx hx=>by have:=aX x hx;dsimp only;omega⟩ PW (by unfold cU;exact Xv X0)
      · ((repeat' (first|refine Va X0 ?_|(refine Xi ?_ ?_<;>try intro ht)|exact Xx|fail)))
        refine fk _ _ rfl ?_
        clear gm fk mq
        repeat (refine Xu ?_)
        refine cL (aH.yg 8 7 5 2 rfl rfl (by rw[cH];rfl) (jd _) (oS _)) ?_
        refine cL (σ':=⟨ao [(0,.ptr 0 0 0),(2,Qf options),(6,.ptr 1 0 0),(7,.ptr 2 0 0),(8,Qf (c'+1:Nat)),(9,.ref 6 6 0 l.length),(10,Qf (e'+1:Nat)),(11,.ptr 7 0 0)],
            cU L k cls [] [] R++[.arr 6 (rowsOf cp l),.var (cp ⟨w1,n2,n3,1,w4,ch⟩),.gone]⟩) (by unfold cU;exact Xv X0) ?_
        unfold cU
        simp only[dx,eC]
        have jY:((e'+1:Nat):Int) - 1=e':=GK
        refine Va @jY ?_
        refine bj _ (e',k,l++[⟨w1,n2,n3,1,w4,ch⟩]) ⟨P2,hk,?_⟩ PW ?_
        · intro o ho
          rcases cG.1 ho with ho | ho
          · exact hl o ho
          · simp only[cV] at ho;subst ho;exact⟨l7,PW⟩
        · unfold cU
          simp only[dx,eC]
          rw[show rowsOf cp l++[[AV.lit (.int .i64 w1),AV.lit (.int .i64 n2),AV.lit (.int .i64 n3),AV.lit (.int .i64 1),AV.lit (.int .i64 w4),AV.tree 2 (rowsOf bd ch)]]=rowsOf cp (l++[⟨w1,n2,n3,1,w4,ch⟩]) from pE (enc:=cp) l ⟨w1,n2,n3,1,w4,ch⟩]
          exact Xs false [0,1,2,3,4,5,10] X0
    · obtain rfl:e=0:=GK
      ((repeat' (first|refine Va X0 ?_|(refine Xi ?_ ?_<;>try intro ht)|exact Xx|fail)))
      refine br _ _ rfl ?_
      clear bj br cJ
      repeat (refine Xu ?_)
      refine cL (σ':=⟨ao [(0,.ptr 0 0 0),(2,Qf options),(6,.ptr 1 0 0),(7,.ptr 2 0 0),(8,Qf (c'+1:Nat)),(9,.tree 6 (rowsOf cp l))],cU L k cls [] [] R⟩) ?_ ?_
      · unfold cU
        exact Xs true [0,1,2,3,4,5] X0
      unfold cU
      refine Va @lf ?_
      refine ak _ (c',k,cls++[l]) ⟨P2,hk,?_⟩ PW ?_
      · intro x hx
        rcases cG.1 hx with hx | hx
        · exact pS x hx
        · simp only[cV] at hx;subst hx;exact⟨⟨GK,GK⟩,hl⟩
      · unfold cU
        rw[show rowsOf aW cls++[[AV.tree 6 (rowsOf cp l)]]=rowsOf aW (cls++[l]) from pE (enc:=aW) cls l]
        exact Xs false [0,1,2,7,4,5] X0
  obtain rfl:c=0:=GK
  ((repeat' (first|refine Va X0 ?_|(refine Xi ?_ ?_<;>try intro ht)|exact Xx|fail)))
  refine aq _ _ rfl ?_;clear ak aq Ql
  repeat (refine Xu ?_)
  clear mM
  refine cL (σ':=⟨ao [(0,.ptr 0 0 0),(6,.ptr 1 0 0),(7,.ptr 2 0 0)],cU L k cls [] [] R⟩) (by unfold cU;exact Xv X0) ?_
  unfold cU
  refine Va X0 ?_
  have bK:cls.length<=24:=GK
  have uO:∀ i,(cls.getD i default).length<=24:=λi=>by
    rcases Nat.lt_or_ge i cls.length with h | h
    · have:=(pS _ (aF (d:=default) h)).1;omega
    · rw[List.getD_eq_getElem?_getD,List.getElem?_eq_none h];decide
  refine aR (λz:Nat×Nat×List Pr=>(⟨ao [(0,.ptr 0 0 0),(6,.ptr 1 0 0),(7,.ptr 2 0 0),(14,Qf z.1)],cU L z.2.1 cls z.2.2 [] R⟩:St))
    (λz=>(z.1:Int)<=R/\z.2.1<=L.length/\yx cls R z.2.2 z.1 0 0) (λz=>R.toNat - z.1) (0,k,[]) ⟨PW,hk,rfl,GM,GM⟩ (by unfold cU;exact Xv X0) ?_
  clear hk
  rintro ⟨u,k,ae⟩ ⟨hu,hk,hP⟩ Ql ak aq
  dsimp only at hu hk hP ⊢
  unfold cU
  by_cases Od:(u:Int)<R
  · ((repeat' (first|refine Va X0 ?_|(refine Xi ?_ ?_<;>try intro ht)|exact Xx|fail)))
    refine aR (λz:Nat×Nat×List Pr=>(⟨ao [(0,.ptr 0 0 0),(6,.ptr 1 0 0),(7,.ptr 2 0 0),(14,Qf u),(15,Qf z.1)],cU L z.2.1 cls z.2.2 [] R⟩:St))
      (λz=>z.1<=cls.length/\z.2.1<=L.length/\yx cls R z.2.2 u z.1 0) (λz=>cls.length - z.1) (0,k,ae) ⟨PW,hk,hP⟩ (by unfold cU;exact Xv X0) ?_
    clear hk hP
    rintro ⟨i,k,ae⟩ ⟨hi,hk,hP⟩ cJ bj br
    dsimp only at hi hk hP ⊢
    unfold cU
    by_cases ar:i<cls.length
    · ((repeat' (first|refine Va X0 ?_|(refine Xi ?_ ?_<;>try intro ht)|exact Xx|fail)))
      refine aR (λz:Nat×Nat×List Pr=>(⟨ao [(0,.ptr 0 0 0),(6,.ptr 1 0 0),(7,.ptr 2 0 0),(14,Qf u),(15,Qf i),(16,Qf z.1)],cU L z.2.1 cls z.2.2 [] R⟩:St))
        (λz=>i<z.1/\z.1<=cls.length/\z.2.1<=L.length/\yx cls R z.2.2 u i z.1) (λz=>cls.length - z.1) (i+1,k,ae) ⟨PW,PW,hk,hP.mono GK GK⟩ (by unfold cU;exact Xv X0) ?_
      clear hk hP
      rintro ⟨j,k,ae⟩ ⟨xE,hj,hk,hP⟩ mq gm fk
      dsimp only at xE hj hk hP ⊢
      unfold cU
      by_cases fe:j<cls.length
      · ((repeat' (first|refine Va X0 ?_|(refine Xi ?_ ?_<;>try intro ht)|exact Xx|fail))<;>try with_reducible intro K hK)
        refine jF [0] (ED L k 3 (by unfold cR;omega) GS hk hL) GS ⟨rfl,trivial⟩ ⟨.eq rfl,.pure rfl,trivial⟩ ?_
        have bz:=fH hk
        generalize CT L k 3=b at *
        generalize cK L k=k2 at *
        clear hk
        have g1:=uO i
        have g2:=uO j
        have lZ:=(pS _ (aF (d:=default) ar)).1
        have tY:=(pS _ (aF (d:=default) fe)).1
        have hmul:((cls.getD i default).length:Int) * (cls.getD j default).length=((cls.getD i default).length * (cls.getD j default).length:Nat):=GM
        have aph:(cls.getD i default).length * (cls.getD j default).length<=24 * 24:=Nat.mul_le_mul g1 g2
        generalize Hh:(cls.getD i default).length * (cls.getD j default).length=nn at *
        ((try revert hK K);(repeat' (first|refine Va @hmul ?_|(refine Xi ?_ ?_<;>try intro ht)|fail)))
        rotate_left
        · exact gm _ (j+1,k2,ae) ⟨PW,PW,bz,hP.mono GK GK⟩ PW (by unfold cU;exact Xv X0)
        refine aR (λz:Nat×Nat×List Int=>(⟨ao [(0,.ptr 0 0 0),(6,.ptr 1 0 0),(7,.ptr 2 0 0),(14,Qf u),(15,Qf i),(16,Qf j),(17,.ptr 6 0 0),(18,Qf z.1)],
            cU L z.2.1 cls ae [] R++[.var [Qf i,Qf j,Qf u,.ref 7 1 0 z.2.2.length],.arr 1 (ints z.2.2)]⟩:St))
          (λz=>z.1+z.2.2.length=nn/\z.2.1<=L.length/\∀ x∈z.2.2,0<=x/\(0<x->jO x=true)) (λz=>z.1) (nn,k2,[]) ⟨GM,bz,GM⟩ ?_ ?_
        · refine aH.trans (aH.rA 6 3 1 rfl rfl GS) ?_
          unfold cU
          exact Xv X0
        clear bz
        rintro ⟨w,k,ay⟩ ⟨hw,hk,v7⟩ N5 Ja uK
        dsimp only at hw hk v7 ⊢
        unfold cU
        simp only[dx,eC]
        by_cases G0:0<w
        · obtain ⟨w',rfl⟩ :∃w',w=w'+1:=⟨w - 1,GK⟩
          have Dw:((w'+1:Nat):Int) - 1=w':=GK
          ((repeat' (first|refine Va X0 ?_|(refine Xi ?_ ?_<;>try intro ht)|exact Xx|fail)))
          refine pw [] (.take 2 (.both 0 (.both 1 (.take 3 (.take 4 (.take 5 (.take 6 (.take 7 .nil))))) 3 (.take 1 (.take 4 (.take 5 (.take 6 (.take 7 .nil)))))) 3 (.take 0 (.take 1 (.take 4 (.take 5 (.take 6 (.take 7 .nil)))))))) rfl GS (by decide +kernel) ?_
          simp (disch:=omega) only[Ac,↓Pc,simprocAttr,nU,mJ,mI,cj,er]
          refine⟨⟨?_,?_⟩,?_⟩
          all_goals refine jF [0] (Np L k hk hL) GS ⟨rfl,trivial⟩ ⟨.eq rfl,trivial⟩ ?_
          all_goals obtain ⟨np,zq,FM⟩:=MT L k
          all_goals have bz:=MU hk
          all_goals generalize qF L k=cv at *
          all_goals generalize xh L k=k2 at *
          all_goals simp (disch:=omega) only[Ac,↓Pc,simprocAttr,nU,mJ,mI,cj,er]
          all_goals refine⟨GK,?_⟩
          all_goals repeat (refine Xu ?_)
          all_goals ((repeat' (first|refine Va @Dw ?_|fail)))
          all_goals refine Ja _ (w',k2,ay++[cv]) ⟨P2,bz,λx hx=>?_⟩ PW ?_
          all_goals first
            | (rcases cG.1 hx with hx | hx
               · exact v7 x hx
               · simp only[cV] at hx;subst hx;exact⟨np,FM⟩)
            | (unfold cU;simp only[dx,eC];exact Xs false [0,1,2,3,4,5,6,9] X0)
        · obtain rfl:w=0:=GK
          ((repeat' (first|refine Va X0 ?_|(refine Xi ?_ ?_<;>try intro ht)|exact Xx|fail)))
          refine uK _ _ rfl ?_
          clear Ja uK N5
          repeat (refine Xu ?_)
          refine cL (aH.yg 7 6 3 1 rfl rfl (by rw[x7];rfl) (vh _) (x8 _)) ?_
          refine cL (σ':=⟨ao [(0,.ptr 0 0 0),(6,.ptr 1 0 0),(7,.ptr 2 0 0),(14,Qf u),(15,Qf i),(16,Qf j),(17,.ptr 6 0 0)],
              cU L k cls ae [] R++[.var (aI ⟨i,j,u,ay⟩),.gone]⟩) (by unfold cU;exact Xv X0) ?_
          unfold cU
          simp only[dx,eC]
          have dg:=hP.len
          refine Va X0 ?_
          refine gm _ (j+1,k,ae++[⟨i,j,u,ay⟩]) ⟨PW,PW,hk,hP.app (ahJ Od xE fe (by rw[Hh];omega) v7)⟩ PW ?_
          unfold cU
          rw[show rowsOf aI ae++[[AV.lit (.int .i64 i),AV.lit (.int .i64 j),AV.lit (.int .i64 u),AV.tree 1 (ints ay)]]=rowsOf aI (ae++[⟨i,j,u,ay⟩]) from pE (enc:=aI) ae ⟨i,j,u,ay⟩]
          exact Xs false [0,1,2,3,9,5] X0
      · ((repeat' (first|refine Va X0 ?_|(refine Xi ?_ ?_<;>try intro ht)|exact Xx|fail)))
        refine fk _ _ rfl ?_
        clear gm fk mq
        repeat (refine Xu ?_)
        refine Va X0 ?_
        exact bj _ (i+1,k,ae) ⟨PW,hk,hP.mono GK GK⟩ PW (by unfold cU;exact Xv X0)
    · ((repeat' (first|refine Va X0 ?_|(refine Xi ?_ ?_<;>try intro ht)|exact Xx|fail)))
      refine br _ _ rfl ?_
      clear bj br cJ
      repeat (refine Xu ?_)
      refine Va X0 ?_
      exact ak _ (u+1,k,ae) ⟨PW,hk,hP.mono GK GK⟩ PW (by unfold cU;exact Xv X0)
  have akl:=hP.ok
  have akm:ae.length<=4000:=by have:=hP.len;omega
  ((repeat' (first|refine Va X0 ?_|(refine Xi ?_ ?_<;>try intro ht)|exact Xx|fail)))
  refine aq _ _ rfl ?_;clear ak aq Ql
  repeat (refine Xu ?_)
  refine cL (σ':=⟨ao [(0,.ptr 0 0 0),(6,.ptr 1 0 0),(7,.ptr 2 0 0)],cU L k cls ae [] R⟩) (by unfold cU;exact Xv X0) ?_
  clear Od hu hP
  unfold cU
  ((refine Va X0 ?_)<;>try with_reducible intro K hK)
  refine jF [0] (gY L k 3 (by unfold cR;omega) hk hL) GS ⟨rfl,trivial⟩ ⟨.eq rfl,.pure rfl,trivial⟩ ?_
  have Oa:=j4 (L:=L) (k:=k) (n:=3) GK
  have bz:=fH hk
  generalize ef L k 3=n at *
  generalize cK L k=k2 at *
  clear hk
  obtain ⟨c1,rfl⟩ :∃c1:Nat,n=c1:=⟨n.toNat,GK⟩
  ((try revert hK K);(refine Va X0 ?_))
  refine aR (λz:Nat×Nat×List Ct=>(⟨ao [(0,.ptr 0 0 0),(6,.ptr 1 0 0),(7,.ptr 2 0 0),(19,Qf z.1)],cU L z.2.1 cls ae z.2.2 R⟩:St))
    (λz=>z.1+z.2.2.length<=2/\z.2.1<=L.length/\∀ x∈z.2.2,jv ⟨cls,[],[],R⟩ x=true) (λz=>z.1) (c1,k2,[]) ⟨P2,bz,GM⟩ (by unfold cU;exact Xv X0) ?_
  clear bz
  rintro ⟨c,k,aD⟩ ⟨bc,hk,Oe⟩ Ql ak aq
  dsimp only at bc hk Oe ⊢
  unfold cU
  by_cases mM:0<c
  · obtain ⟨c',rfl⟩ :∃c',c=c'+1:=⟨c - 1,GK⟩
    have lf:((c'+1:Nat):Int) - 1=c':=GK
    ((repeat' (first|refine Va X0 ?_|(refine Xi ?_ ?_<;>try intro ht)|exact Xx|fail))<;>try with_reducible intro K hK)
    refine jF [0] (gY L k R (by unfold cR;omega) hk hL) GS ⟨rfl,trivial⟩ ⟨.eq rfl,.pure rfl,trivial⟩ ?_
    have mL:=j4 (L:=L) (k:=k) (n:=R) GK
    have bz:=fH hk
    generalize ef L k R=n1 at *
    generalize cK L k=k2 at *
    clear hk
    ((try revert hK K);(refine Va X0 ?_)<;>try with_reducible intro K hK)
    refine jF [0] (gY L k2 4 (by unfold cR;omega) bz hL) GS ⟨rfl,trivial⟩ ⟨.eq rfl,.pure rfl,trivial⟩ ?_
    have nm:=j4 (L:=L) (k:=k2) (n:=4) GK
    have hk:=fH bz
    generalize ef L k2 4=n2 at *
    generalize cK L k2=k at *
    clear bz
    ((try revert hK K);(refine Va X0 ?_)<;>try with_reducible intro K hK)
    refine jF [0] (Np L k hk hL) GS ⟨rfl,trivial⟩ ⟨.eq rfl,trivial⟩ ?_
    obtain ⟨np,zq,FM⟩:=MT L k
    have bz:=MU hk
    generalize qF L k=cv at *
    generalize xh L k=k2 at *
    clear hk
    have N':jO (max 1 cv)=true:=by
      by_cases h0:0<cv
      · rw[show max 1 cv=cv by omega];exact FM h0
      · rw[show max 1 cv=1 by omega];decide
    generalize cg:max 1 cv=cf at *
    ((try revert hK K);(refine Va @cg ?_))
    refine aR (λz:Nat×Nat×List Ld=>(⟨ao [(0,.ptr 0 0 0),(6,.ptr 1 0 0),(7,.ptr 2 0 0),(19,Qf (c'+1:Nat)),(20,.ptr 6 0 0),(21,Qf z.1)],
        cU L z.2.1 cls ae aD R++[.var [Qf n1,.ref 7 3 0 z.2.2.length,Qf n2,Qf cf],.arr 3 (rowsOf rz z.2.2)]⟩:St))
      (λz=>z.1<=cls.length/\z.2.1<=L.length/\zS cls R z.2.2 z.1 0) (λz=>cls.length - z.1) (0,k2,[]) ⟨aS _,bz,rfl,GM,GM⟩ ?_ ?_
    · refine aH.trans (aH.rA 6 1 3 rfl rfl GS) ?_
      unfold cU
      exact Xv X0
    clear bz
    rintro ⟨i,k,mo⟩ ⟨hi,hk,hI⟩ cJ bj br
    dsimp only at hi hk hI ⊢
    unfold cU
    simp only[dx,eC]
    by_cases ar:i<cls.length
    · have lZ:=uO i
      generalize ij:cls.getD i default=li at *
      ((repeat' (first|refine Va @ij ?_|(refine Xi ?_ ?_<;>try intro ht)|exact Xx|fail)))
      refine aR (λz:Nat×Nat×List Ld=>(⟨ao [(0,.ptr 0 0 0),(6,.ptr 1 0 0),(7,.ptr 2 0 0),(19,Qf (c'+1:Nat)),(20,.ptr 6 0 0),(21,Qf i),(22,Qf z.1)],
          cU L z.2.1 cls ae aD R++[.var [Qf n1,.ref 7 3 0 z.2.2.length,Qf n2,Qf cf],.arr 3 (rowsOf rz z.2.2)]⟩:St))
        (λz=>z.1<=li.length/\z.2.1<=L.length/\zS cls R z.2.2 i z.1) (λz=>li.length - z.1) (0,k,mo) ⟨aS _,hk,hI⟩ (by unfold cU;exact Xv (X2 @dx.{0} @eC.{0})) ?_
      clear hk hI
      rintro ⟨j,k,mo⟩ ⟨hj,hk,hI⟩ mq gm fk
      dsimp only at hj hk hI ⊢
      unfold cU
      simp only[dx,eC]
      have api:=hI.len
      by_cases fe:j<li.length
      · ((repeat' (first|refine Va @ij ?_|(refine Xi ?_ ?_<;>try intro ht)|exact Xx|fail))<;>try with_reducible intro K hK)
        refine jF [0] (ED L k 2 (by unfold cR;omega) GS hk hL) GS ⟨rfl,trivial⟩ ⟨.eq rfl,.pure rfl,trivial⟩ ?_
        have bz:=fH hk
        generalize CT L k 2=b at *
        generalize cK L k=k2 at *
        clear hk
        ((try revert hK K);(repeat' (first|refine Va @ij ?_|(refine Xi ?_ ?_<;>try intro ht)|fail)))
        · refine pw [] (.take 2 (.take 3 (.take 4 (.both 0 (.both 1 (.take 5 (.take 6 (.take 7 (.take 8 (.take 9 (.take 10 (.take 11 .nil))))))) 5 (.take 1 (.take 6 (.take 7 (.take 8 (.take 9 (.take 10 (.take 11 .nil)))))))) 5 (.take 0 (.take 1 (.take 6 (.take 7 (.take 8 (.take 9 (.take 10 (.take 11 .nil)))))))))))) rfl GS (by decide +kernel) ?_
          simp (disch:=omega) only[Ac,↓Pc,simprocAttr,nU,mJ,mI,cj,er]
          refine⟨⟨?_,?_⟩,?_⟩
          all_goals refine jF [0] (gY L k2 3 (by unfold cR;omega) bz hL) GS ⟨rfl,trivial⟩ ⟨.eq rfl,.pure rfl,trivial⟩ ?_
          all_goals have Tq:=j4 (L:=L) (k:=k2) (n:=3) GK
          all_goals have hk:=fH bz
          all_goals generalize ef L k2 3=n3 at *
          all_goals generalize cK L k2=k at *
          all_goals clear bz
          all_goals simp (disch:=omega) only[Ac,↓Pc,simprocAttr,nU,mJ,mI,cj,er]
          all_goals refine⟨⟨GK,GK⟩,GK,?_⟩
          all_goals repeat (refine Xu ?_)
          all_goals ((repeat' (first|refine Va X0 ?_|fail)))
          all_goals refine gm _ (j+1,k,mo++[⟨i,j,1+n3⟩]) ⟨PW,hk,hI.app ar (by rw[ij];exact fe) ⟨GK,GK⟩⟩ PW ?_
          all_goals unfold cU
          all_goals simp only[dx,eC]
          all_goals rw[show rowsOf rz mo++[[AV.lit (.int .i64 i),AV.lit (.int .i64 j),AV.lit (.int .i64 (1+n3))]]=rowsOf rz (mo++[⟨i,j,1+n3⟩]) from pE (enc:=rz) mo ⟨i,j,1+n3⟩]
          all_goals exact Xs false [0,1,2,3,4,5,6,9] X0
        · exact gm _ (j+1,k2,mo) ⟨PW,bz,hI.mono GK GK⟩ PW (by unfold cU;exact Xv (X2 @dx.{0} @eC.{0}))
      · ((repeat' (first|refine Va @ij ?_|(refine Xi ?_ ?_<;>try intro ht)|exact Xx|fail)))
        refine fk _ _ rfl ?_
        clear gm fk mq
        repeat (refine Xu ?_)
        refine Va X0 ?_
        exact bj _ (i+1,k,mo) ⟨PW,hk,hI.mono GK GK⟩ PW (by unfold cU;exact Xv (X2 @dx.{0} @eC.{0}))
    · ((repeat' (first|refine Va X0 ?_|(refine Xi ?_ ?_<;>try intro ht)|exact Xx|fail)))
      refine br _ _ rfl ?_
      clear bj br cJ
      repeat (refine Xu ?_)
      refine cL (aH.yg 7 6 1 3 rfl rfl (by rw[cH];rfl) (jd _) (oS _)) ?_
      refine cL (σ':=⟨ao [(0,.ptr 0 0 0),(6,.ptr 1 0 0),(7,.ptr 2 0 0),(19,Qf (c'+1:Nat)),(20,.ptr 6 0 0)],
          cU L k cls ae aD R++[.var (dv ⟨n1,mo,n2,cf⟩),.gone]⟩) (by unfold cU;exact Xv X0) ?_
      unfold cU
      simp only[dx,eC]
      refine Va @lf ?_
      refine ak _ (c',k,aD++[⟨n1,mo,n2,cf⟩]) ⟨P2,hk,?_⟩ PW ?_
      · intro x hx
        rcases cG.1 hx with hx | hx
        · exact Oe x hx
        · simp only[cV] at hx
          subst hx
          unfold jv j8
          simp only[Bool.and_eq_true,decide_eq_true_eq]
          exact⟨⟨⟨GK,GK⟩,N'⟩,hI.ok⟩
      · unfold cU
        rw[show rowsOf dv aD++[[AV.lit (.int .i64 n1),AV.tree 3 (rowsOf rz mo),AV.lit (.int .i64 n2),AV.lit (.int .i64 cf)]]=rowsOf dv (aD++[⟨n1,mo,n2,cf⟩]) from pE (enc:=dv) aD ⟨n1,mo,n2,cf⟩]
        exact Xs false [0,1,2,3,4,9] X0
  obtain rfl:c=0:=GK
  ((repeat' (first|refine Va X0 ?_|(refine Xi ?_ ?_<;>try intro ht)|exact Xx|fail)))
  refine aq _ _ rfl ?_;clear ak aq Ql
  repeat (refine Xu ?_)
  refine Vb X0 ?_
  have hMM:MM ⟨cls,ae,aD,R⟩ qG options:=by
    refine⟨⟨PW,λl hl=>by have:=(pS l hl).1;omega,akm,PW,PW,λl hl o ho=>((pS l hl).2 o ho).1,?_,λx hx=>?_⟩,PW,λl hl=>(pS l hl).1,HB,PW,λl hl o ho=>((pS l hl).2 o ho).2⟩
    · exact (U3 _ _).trans akl
    · exact (ahH _).trans (Oe x hx)
  unfold eU
  simp only[dI,dE]
  simp (disch:=omega) only[Ac,↓Pc,simprocAttr]
  refine⟨_,_,⟨⟨cls,ae,aD,R⟩,k,hMM,hk,rfl,rfl⟩,?_⟩
  refine iD [0,4] true GS ⟨⟨GM,.inr rfl⟩,⟨GM,.inr (by rw[wR];rfl)⟩,trivial⟩ GS GS (aZ.agg _ _ rfl (jE.spec (R:=aZ _ _ _ _) (cs:=zE ⟨cls,ae,aD,R⟩) (ds:=[.ref 3 1 0 cls.length,.ref 4 4 0 ae.length,.ref 5 4 0 aD.length,Qf R]) ⟨?_,.eq rfl,?_,.pure rfl,trivial⟩).2)
  · first|exact .pure rfl|exact .eq rfl|exact .fz rfl (by simp only[Bc,Rc])
  · first|exact .pure rfl|exact .eq rfl|exact .fz rfl (by simp only[Bc,Rc])
def agK(L:List Int)(k:Nat)(qG options:Nat)(hk:k<=L.length)(hL:L.length<1000000)(hc:qG<=24)(ho:options<=24)(Jh:1<=options):
  cX Tryz.prog 37 [.ptr 0 0 0,Qf qG,Qf options] [iU L k] (λr os=>∃ m k',MM m qG options/\k'<=L.length/\r=.agg (an m)/\os=[iU L k']) :=
 Tk (Th L k qG options hk hL hc ho Jh) λr os h=>by
  obtain⟨m,k',h1,h2,rfl,rfl⟩:=h;exact⟨_,_,⟨m,k',h1,h2,rfl,rfl⟩,Tl m _ (λ_=>rfl)⟩
def pG:List (List cz)->Int
 |[]=>1
 |l::r=>l.length*pG r
def FN:∀ (cls:List (List cz)),(∀ l∈cls,1<=l.length)->1<=pG cls
 |[],_=>Int.le_refl _
 |l::r,h=>by
  have h1:=h l GM;have h2:=FN r λx hx=>h x (by simp[hx]);rw[pG];have:(1:Int)*1<=l.length*pG r:=p8 GK h2 GK GK;omega
def agF(m:ah)(hm:VM m)(vF:∀ l∈m.cls,1<=l.length)(hb:pG m.cls<=9999):Holds Tryz.prog 19 [.agg (an m)] [] (Qf (pG m.cls)) []:=by
 have oT:=hm.cls;have Of:=FN m.cls vF;generalize au:pG m.cls=res at *;refine Holds.aM 26 0 [.tmp 2] Tryz.func19 ?_;refine Vb X0 ?_;refine aR (λz:Nat×Int=>(⟨ao [(1,.ptr 0 0 0),(3,Qf z.2),(4,Qf z.1)],[.var (an m)]⟩:St)) (λz=>z.1<=m.cls.length/\1<=z.2/\z.2*pG (m.cls.drop z.1)=res) (λz=>m.cls.length-z.1) (0,1) ⟨aS _,GS,by rw[List.drop_zero,au];exact Int.one_mul _⟩ (Xv X0) ?_;rintro⟨i,n⟩⟨hi,mL,hr⟩Ql ak aq;dsimp only at hi mL hr ⊢;have Og:=FN (m.cls.drop i) λx hx=>vF x (y0 hx);have apj:n<=res:=by
  rw[<- hr];have:n*1<=n*pG (m.cls.drop i):=Int.mul_le_mul_of_nonneg_left Og GK;omega
 by_cases ar:i<m.cls.length
 ·have sU:=hm.opt _ (aF (l:=m.cls) (i:=i) (d:=default) ar);have vH:=vF _ (aF (l:=m.cls) (i:=i) (d:=default) ar);rw[kd m.cls i default ar,pG,<- Int.mul_assoc]at hr;have abh:=FN (m.cls.drop (i+1)) λx hx=>vF x (y0 hx);generalize bc:m.cls.getD i default=c at *;have uu:n*1<=n*(c.length:Int):=Int.mul_le_mul_of_nonneg_left GK GK;have vG:n*(c.length:Int)<=10000*24:=p8 GK GK GK GK;generalize Bh:n*(c.length:Int)=nc at *;((repeat'(first|refine Va (X3 @bc @aW.eq_1 @Bh) ?_|(refine V2 (X3 @bc @aW.eq_1 @Bh) ?_ ?_<;>try with_reducible intro hb)|(refine Xi ?_ ?_<;>try intro ht)|exact Xx|fail)))
  exact ak _ (i+1,nc) ⟨PW,PW,hr⟩ PW (Xv X0)
 ·rw[jA GK,pG,Int.mul_one]at hr;((repeat'(first|refine Va X0 ?_|(refine V2 X0 ?_ ?_<;>try with_reducible intro hb)|(refine Xi ?_ ?_<;>try intro ht)|exact Xx|fail)))
  all_goals
   refine aq _ _ rfl ?_;clear ak aq Ql;repeat(refine Xu ?_)
   refine Vb X0 ?_;exact aO rfl (by rw[<- hr,Int.min_eq_left GK])
def Ti{w:Nat}:∀ (cls:List (List cz)) (k:Nat),1<=w->cls.length<=k->(∀ l∈cls,1<=l.length/\l.length<=w)->pG cls<=(w:Int)^k
 |[],k,hw,_,_=>by
  rw[pG];have:(0:Int)<(w:Int)^k:=Int.pow_pos GK;omega
 |l::r,0,_,hk,_=>by simp at hk
 |l::r,k+1,hw,hk,h=>by
  have h1:=h l GM;have h2:=Ti r k hw (by simpa using hk) λx hx=>h x (by simp[hx]);have h3:=FN r λx hx=>(h x (by simp[hx])).1;rw[pG,Int.pow_succ,Int.mul_comm ((w:Int)^k)];exact p8 GK h2 GK GK
def rC:List (List cz)->Int->List Int
 |[],_=>[]
 |l::r,n=>ur n l.length::rC r (n/l.length)
def Oh:∀ (cls:List (List cz)) (n:Int),(rC cls n).length=cls.length
 |[],_=>rfl
 |l::r,n=>by rw[rC,dq,Oh r,dq]
def abi:∀ (cls:List (List cz)) (n:Int),(∀ l∈cls,1<=l.length)->∀ j,j<cls.length->0<=(rC cls n).getD j 0/\(rC cls n).getD j 0<(cls.getD j default).length
 |[],_,_,j,h=>by simp at h
 |l::r,n,hs,0,_=>by
  rw[rC,ik,ik];have:=hs l GM;exact L6 _ _ GK
 |l::r,n,hs,j+1,h=>by
  rw[rC,e7,e7];exact abi r _ (λx hx=>hs x (by simp[hx])) j (by simpa using h)
def agC{m:ah}(vF:∀ l∈m.cls,1<=l.length)(n:Int):FP m (rC m.cls n):=⟨Oh _ _,λj hj=>by
 rw[Oh]at hj;have:=abi m.cls n vF j hj;exact jN.2 ⟨GK,GK,this.1,by rw[Int.toNat_natCast];exact this.2⟩⟩
def agB(m:ah)(hm:VM m)(vF:∀ l∈m.cls,1<=l.length)(n:Int)(gv:0<=n)(Ji:n<=10000):Holds Tryz.prog 30 [.agg (an m),Qf n] [] (.tree 1 (ints (rC m.cls n))) []:=by
 have oT:=hm.cls;generalize au:rC m.cls n=res;refine Holds.aM 32 0 [.tmp 4] Tryz.func30 ?_;refine Vb X0 ?_;refine aR (λz:Nat×Int×List Int=>(⟨ao [(1,Qf z.2.1),(2,.ptr 0 0 0),(5,.ref 1 1 0 z.2.2.length),(6,Qf z.1)],[.var (an m),.arr 1 (ints z.2.2)]⟩:St))
  (λz=>z.1<=m.cls.length/\(0<=z.2.1/\z.2.1<=10000)/\z.2.2.length=z.1/\z.2.2++rC (m.cls.drop z.1) z.2.1=res) (λz=>m.cls.length-z.1) (0,n,[]) ⟨aS _,⟨gv,Ji⟩,rfl,au⟩ ?_ ?_
 ·refine aH.trans (aH.nil 5 1 (by simp only[Kc,simprocAttr]) GS) ?_;exact Xv X0
 (try clear gv;clear Ji au n)
 rintro⟨i,n,plan⟩⟨hi,⟨gv,Ji⟩,dg,hr⟩Ql ak aq;dsimp only at hi gv Ji dg hr ⊢;by_cases ar:i<m.cls.length
 ·have sU:=hm.opt _ (aF (l:=m.cls) (i:=i) (d:=default) ar);have vH:=vF _ (aF (l:=m.cls) (i:=i) (d:=default) ar);rw[kd m.cls i default ar,rC]at hr;generalize bc:m.cls.getD i default=c at *;have ry:=L5 n (c.length:Int) (by unfold cR;omega);generalize ur n (c.length:Int)=x at *;have L9:0<=n/(c.length:Int):=Int.ediv_nonneg gv GK;have tx:n/(c.length:Int)<=n:=Int.ediv_le_self _ gv;generalize FO:n/(c.length:Int)=q at *;have nq:max (c.length:Int) 1=c.length:=GK;((repeat'(first|refine Vc (X5 @bc @aW.eq_1 @FO @nq @Cu) ry ?_|(refine Xi ?_ ?_<;>try intro ht)|exact Xx|fail)))
  refine ak _ (i+1,q,plan++[x]) ⟨PW,⟨L9,PW⟩,P2,by dsimp only;rw[List.append_assoc];exact hr⟩ PW ?_;exact Xs false [0,3] X0
 ·rw[jA GK,rC,List.append_nil]at hr;((repeat'(first|refine Va X0 ?_|(refine Xi ?_ ?_<;>try intro ht)|exact Xx|fail)))
  refine aq _ _ rfl ?_;clear ak aq Ql;repeat(refine Xu ?_)
  refine Vb X0 ?_;rw[<- hr];exact Xw true [] X0
end T

