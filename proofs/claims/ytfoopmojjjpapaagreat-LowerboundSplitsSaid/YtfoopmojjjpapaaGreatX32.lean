import Derived.Test.YtfoopmojjjpapaaGreatX25
import Derived.Test.YtfoopmojjjpapaaGreatX31
set_option linter.all false
set_option maxHeartbeats 0
set_option maxRecDepth 20000
open List renaming cons_append→dw,nil_append→eJ,mem_append→cG,mem_singleton→cS,replicate→aK,replicate_zero→EB,length_replicate→nx
open Nat renaming zero_le→aP,sub_self→jC
open Go Go.Am Go.Proofs
namespace T
def gY(L:List Int)(k:Nat):Ob:=.var [.tree 1 (ints L),QM k]
def z7(m:ah):List AV:=[.tree 1 (rowsOf aT m.cls),.ref 1 4 0 m.ae.length,.tree 4 (rowsOf dz m.aE),QM m.rules]
def Vz{P:Program}{f:FuncId}{args:List AV}{aa:List Ob}{iV VA:AV->List Ob->Prop}(h:dv P f args aa iV)(ht:∀ r os,iV r os->∃ r2 os2,VA r2 os2/\aD aa.length ⟨λk=>[r].getD k .undef,os⟩ ⟨λk=>[r2].getD k .undef,os2⟩):dv P f args aa VA:=by
 refine⟨h.1,λγ jD j5=>Calls.mono (h.2 γ jD j5) ?_⟩;rintro e w'⟨res,bh,cv,aC,h0,h1,h2,h3,h4,h5⟩;obtain⟨r2,os2,hp,ht⟩:=ht res bh h0;obtain⟨EV,a1,a2,a3,a4⟩:=ht aa γ aC rfl h4 h5;exact⟨r2,os2,cv,EV,hp,h1,a1.trans h2,a2.trans h3,a3,a4⟩
def VB(m:ah)(o:Ob)(ho:∀ ρ,bO ρ o=o):aD 1 ⟨λk=>[AV.agg (z7 m)].getD k .undef,[o,.arr 4 (rowsOf aI m.ae)]⟩ ⟨λk=>[AV.agg (ao m)].getD k .undef,[o]⟩:=by
 have e:∀ x:AV,(λk=>[x].getD k AV.undef)=ar [(0,x)]:=λx=>by
  funext k;cases k<;>rfl
 rw[e (.agg (ao m))];refine aD.aj [0] true _ _ Hg ⟨⟨G9,.inr (by rw[ho];rfl)⟩,trivial⟩ Hg (λi hi=>by
  obtain rfl:i=0:=Ey;rfl) ⟨?_,trivial⟩
 refine(a7.agg _ _ rfl (jN.spec (R:=a7 _ _ _ _) (cs:=ao m) (ds:=z7 m) ⟨.pure rfl,a7.cN rfl (iA _) (by rw[cF]) (j7 Hg) (mF _),.pure rfl,.pure rfl,trivial⟩).2)
def VC (L:List Int) (k:Nat) (qW options:Nat) (hk:k<=L.length) (hL:L.length<1000000) (hc:qW<=24) (ho:options<=24) (It:1<=options) :
    dv Tryz.prog 37 [.ptr 0 0 0,QM qW,QM options] [gY L k] (λr os=>∃ m k',MM m qW options/\k'<=L.length/\r=.agg (z7 m)/\os=[gY L k',.arr 4 (rowsOf aI m.ae)]):=by
  unfold gY
  refine dv.aM 199 1 [.cell 6 32] Tryz.func37 ?_
  ((refine Vb X0 ?_)<;>try with_reducible intro K hK)
  refine jf [0] (iB L k 4 (by unfold cY;omega) hk hL) Hg ⟨rfl,trivial⟩ ⟨.eq rfl,.pure rfl,trivial⟩ ?_
  have hv:=kh (L:=L) (k:=k) (n:=4) Ey
  have bw:=fJ hk
  generalize ek L k 4=v at *
  generalize cQ L k=k2 at *
  clear hk
  ((try revert hK K);(refine Vb X0 ?_)<;>try with_reducible intro K hK)
  refine jf [0] (iB L k2 (qW+1) (by unfold cY;omega) bw hL) Hg ⟨rfl,trivial⟩ ⟨.eq rfl,.pure rfl,trivial⟩ ?_
  have MV:=kh (L:=L) (k:=k2) (n:=qW+1) Ey
  have gK:=fJ bw
  generalize ek L k2 (qW+1)=n at *
  generalize cQ L k2=k3 at *
  clear bw
  obtain ⟨c0,rfl⟩ :∃c0:Nat,n=c0:=⟨n.toNat,Ey⟩
  generalize hR:1+v=R
  have H2:1<=R/\R<=4:=Ey
  ((try revert hK K);(refine Vb X0 ?_))
  refine aQ (λz:Nat×Nat×List (List cP)=>(⟨ar [(0,.ptr 0 0 0),(2,QM options),(6,.ptr 1 0 0),(7,.ptr 2 0 0),(8,QM z.1)],cZ L z.2.1 z.2.2 [] [] R⟩:St))
    (λz=>z.1+z.2.2.length<=qW/\z.2.1<=L.length/\∀ l∈z.2.2,(1<=l.length/\l.length<=options)/\VE R l) (λz=>z.1) (c0,k3,[]) ⟨Hj,gK,G9⟩ ?_ ?_
  · refine aD.trans (aD.pT 2 0 1 rfl rfl Hg) ?_
    refine aD.trans (aD.pT 2 1 4 rfl rfl Hg) ?_
    refine aD.trans (aD.pT 2 2 4 rfl rfl Hg) ?_
    exact Xv X0
  clear MV gK
  rintro ⟨c,k,cls⟩ ⟨a6,hk,pY⟩ Ql ak aq
  dsimp only at a6 hk pY ⊢
  unfold cZ
  by_cases mD:0<c
  · obtain ⟨c',rfl⟩ :∃c',c=c'+1:=⟨c - 1,Ey⟩
    have kT:((c'+1:Nat):Int) - 1=c':=Ey
    ((repeat' (first|refine Va X0 ?_|(refine Xi ?_ ?_<;>try intro ht)|exact Xx|fail))<;>try with_reducible intro K hK)
    refine jf [0] (iB L k options (by unfold cY;omega) hk hL) Hg ⟨rfl,trivial⟩ ⟨.eq rfl,.pure rfl,trivial⟩ ?_
    have MV:=kh (L:=L) (k:=k) (n:=options) Ey
    have bw:=fJ hk
    generalize ek L k options=n at *
    generalize cQ L k=k2 at *
    clear hk
    obtain ⟨e0,gu⟩ :∃e0:Nat,1+n=e0:=⟨(1+n).toNat,Ey⟩
    ((try revert hK K);(refine Va @gu ?_))
    refine aQ (λz:Nat×Nat×List cP=>(⟨ar [(0,.ptr 0 0 0),(2,QM options),(6,.ptr 1 0 0),(7,.ptr 2 0 0),(8,QM (c'+1:Nat)),(9,.ref 6 6 0 z.2.2.length),(10,QM z.1)],cZ L z.2.1 cls [] [] R++[.arr 6 (rowsOf cB z.2.2)]⟩:St))
      (λz=>z.1+z.2.2.length=e0/\z.2.1<=L.length/\VE R z.2.2) (λz=>z.1) (e0,k2,[]) ⟨G9,bw,by intro o ho;simp at ho⟩ ?_ ?_
    · refine aD.trans (aD.nil 9 6 (by simp only[Kc,simprocAttr]) Hg) ?_
      unfold cZ
      exact Xv X0
    clear bw
    rintro ⟨e,k,l⟩ ⟨we,hk,hl⟩ cR bg bm
    dsimp only at we hk hl ⊢
    unfold cZ
    simp only[dw,eJ]
    by_cases vY:0<e
    · obtain ⟨e',rfl⟩ :∃e',e=e'+1:=⟨e - 1,Ey⟩
      have ka:((e'+1:Nat):Int) - 1=e':=Ey
      ((repeat' (first|refine Va X0 ?_|(refine Xi ?_ ?_<;>try intro ht)|exact Xx|fail))<;>try with_reducible intro K hK)
      refine jf [0] (iB L k 3 (by unfold cY;omega) hk hL) Hg ⟨rfl,trivial⟩ ⟨.eq rfl,.pure rfl,trivial⟩ ?_
      have o8:=kh (L:=L) (k:=k) (n:=3) Ey
      have bw:=fJ hk
      generalize ek L k 3=n1 at *
      generalize cQ L k=k2 at *
      clear hk
      ((try revert hK K);(refine Va X0 ?_)<;>try with_reducible intro K hK)
      refine jf [0] (iB L k2 2 (by unfold cY;omega) bw hL) Hg ⟨rfl,trivial⟩ ⟨.eq rfl,.pure rfl,trivial⟩ ?_
      have hk:=fJ bw
      generalize ek L k2 2=n2 at *
      generalize cQ L k2=k at *
      clear bw
      ((try revert hK K);(refine Va X0 ?_)<;>try with_reducible intro K hK)
      refine jf [0] (iB L k 3 (by unfold cY;omega) hk hL) Hg ⟨rfl,trivial⟩ ⟨.eq rfl,.pure rfl,trivial⟩ ?_
      have bw:=fJ hk
      generalize ek L k 3=n3 at *
      generalize cQ L k=k2 at *
      clear hk
      ((try revert hK K);(refine Va X0 ?_)<;>try with_reducible intro K hK)
      refine jf [0] (iB L k2 3 (by unfold cY;omega) bw hL) Hg ⟨rfl,trivial⟩ ⟨.eq rfl,.pure rfl,trivial⟩ ?_
      have hn4:=kh (L:=L) (k:=k2) (n:=3) Ey
      have hk:=fJ bw
      generalize ek L k2 3=n4 at *
      generalize cQ L k2=k at *
      clear bw
      ((try revert hK K);(refine Va X0 ?_))
      generalize Dv:1+n1=w1
      generalize hw4:n4 - 1=w4
      refine aQ (λz:Nat×Nat×List (Int×Int)=>(⟨ar [(0,.ptr 0 0 0),(2,QM options),(6,.ptr 1 0 0),(7,.ptr 2 0 0),(8,QM (c'+1:Nat)),(9,.ref 6 6 0 l.length),(10,QM (e'+1:Nat)),(11,.ptr 7 0 0),(12,QM z.1)],
          cZ L z.2.1 cls [] [] R++[.arr 6 (rowsOf cB l),.var [QM w1,QM n2,QM n3,QM 1,QM w4,.ref 8 2 0 z.2.2.length],.arr 2 (rowsOf bf z.2.2)]⟩:St))
        (λz=>(z.1:Int)<=R/\z.2.1<=L.length/\z.2.2.length<=z.1/\eT R none z.2.2=true/\∀ x∈z.2.2,x.1<z.1) (λz=>R.toNat - z.1) (0,k,[]) ⟨Hi,hk,Nat.le_refl _,rfl,G9⟩ ?_ ?_
      · refine aD.trans (aD.pT 7 5 2 rfl rfl Hg) ?_
        unfold cZ
        exact Xv X0
      clear hk
      rintro ⟨u,k,ch⟩ ⟨hu,hk,bI,lZ,aX⟩ mH gw fK
      dsimp only at hu hk bI lZ aX ⊢
      unfold cZ
      simp only[dw,eJ]
      by_cases MW:(u:Int)<R
      · ((repeat' (first|refine Va X0 ?_|(refine Xi ?_ ?_<;>try intro ht)|exact Xx|fail))<;>try with_reducible intro K hK)
        refine jf [0] (MX L k hk hL) Hg ⟨rfl,trivial⟩ ⟨.eq rfl,trivial⟩ ?_
        obtain ⟨pf,zN,Fj⟩:=MY L k
        have bw:=MZ hk
        generalize qX L k=cv at *
        generalize xK L k=k2 at *
        clear hk
        ((try revert hK K);(repeat' (first|refine Va X0 ?_|(refine V2 X0 ?_ ?_<;>try with_reducible intro hb)|(refine Xi ?_ ?_<;>try intro ht)|exact Xx|fail))<;>try with_reducible intro K hK)
        · refine jf [0] (Dk L k2 2 (by unfold cY;omega) Hg bw hL) Hg ⟨rfl,trivial⟩ ⟨.eq rfl,.pure rfl,trivial⟩ ?_
          have hk:=fJ bw
          generalize BE L k2 2=b at *
          generalize cQ L k2=k at *
          clear bw
          ((try revert hK K);(repeat' (first|refine Va X0 ?_|(refine Xi ?_ ?_<;>try intro ht)|fail)))
          · refine gw _ (u+1,k,ch++[((u:Int),cv)]) ⟨Hi,hk,Hj,VF lZ (by rw[ki,decide_eq_true_eq];omega) (Fj Ey) (λx hx=>aX x hx) G9,λx hx=>?_⟩ Hi ?_
            · rcases cG.1 hx with hx | hx
              · have:=aX x hx;dsimp only;omega
              · simp only[cS] at hx;subst hx;dsimp only;omega
            · unfold cZ
              simp only[dw,eJ]
              rw[show rowsOf bf ch++[[AV.lit (.int .i64 u),AV.lit (.int .i64 cv)]]=rowsOf bf (ch++[((u:Int),cv)]) from pS (enc:=bf) ch ((u:Int),cv)]
              exact Xs false [0,1,2,3,4,5,6,7,10] X0
          · exact gw _ (u+1,k,ch) ⟨Hi,hk,Hi,lZ,λx hx=>by have:=aX x hx;dsimp only;omega⟩ Hi (by unfold cZ;exact Xv X0)
        · exact gw _ (u+1,k2,ch) ⟨Hi,bw,Hi,lZ,λx hx=>by have:=aX x hx;dsimp only;omega⟩ Hi (by unfold cZ;exact Xv X0)
      · ((repeat' (first|refine Va X0 ?_|(refine Xi ?_ ?_<;>try intro ht)|exact Xx|fail)))
        refine fK _ _ rfl ?_
        clear gw fK mH
        repeat (refine Xu ?_)
        refine bP (aD.v7 8 7 5 2 rfl rfl (by rw[cF];rfl) (iA _) (mF _)) ?_
        refine bP (σ':=⟨ar [(0,.ptr 0 0 0),(2,QM options),(6,.ptr 1 0 0),(7,.ptr 2 0 0),(8,QM (c'+1:Nat)),(9,.ref 6 6 0 l.length),(10,QM (e'+1:Nat)),(11,.ptr 7 0 0)],
            cZ L k cls [] [] R++[.arr 6 (rowsOf cB l),.var (cB ⟨w1,n2,n3,1,w4,ch⟩),.gone]⟩) (by unfold cZ;exact Xv X0) ?_
        unfold cZ
        simp only[dw,eJ]
        have ka:((e'+1:Nat):Int) - 1=e':=Ey
        refine Va @ka ?_
        refine bg _ (e',k,l++[⟨w1,n2,n3,1,w4,ch⟩]) ⟨Hj,hk,?_⟩ Hi ?_
        · intro o ho
          rcases cG.1 ho with ho | ho
          · exact hl o ho
          · simp only[cS] at ho;subst ho;exact⟨lZ,Hi⟩
        · unfold cZ
          simp only[dw,eJ]
          rw[show rowsOf cB l++[[AV.lit (.int .i64 w1),AV.lit (.int .i64 n2),AV.lit (.int .i64 n3),AV.lit (.int .i64 1),AV.lit (.int .i64 w4),AV.tree 2 (rowsOf bf ch)]]=rowsOf cB (l++[⟨w1,n2,n3,1,w4,ch⟩]) from pS (enc:=cB) l ⟨w1,n2,n3,1,w4,ch⟩]
          exact Xs false [0,1,2,3,4,5,10] X0
    · obtain rfl:e=0:=Ey
      ((repeat' (first|refine Va X0 ?_|(refine Xi ?_ ?_<;>try intro ht)|exact Xx|fail)))
      refine bm _ _ rfl ?_
      clear bg bm cR
      repeat (refine Xu ?_)
      refine bP (σ':=⟨ar [(0,.ptr 0 0 0),(2,QM options),(6,.ptr 1 0 0),(7,.ptr 2 0 0),(8,QM (c'+1:Nat)),(9,.tree 6 (rowsOf cB l))],cZ L k cls [] [] R⟩) ?_ ?_
      · unfold cZ
        exact Xs true [0,1,2,3,4,5] X0
      unfold cZ
      refine Va @kT ?_
      refine ak _ (c',k,cls++[l]) ⟨Hj,hk,?_⟩ Hi ?_
      · intro x hx
        rcases cG.1 hx with hx | hx
        · exact pY x hx
        · simp only[cS] at hx;subst hx;exact⟨⟨Ey,Ey⟩,hl⟩
      · unfold cZ
        rw[show rowsOf aT cls++[[AV.tree 6 (rowsOf cB l)]]=rowsOf aT (cls++[l]) from pS (enc:=aT) cls l]
        exact Xs false [0,1,2,7,4,5] X0
  obtain rfl:c=0:=Ey
  ((repeat' (first|refine Va X0 ?_|(refine Xi ?_ ?_<;>try intro ht)|exact Xx|fail)))
  refine aq _ _ rfl ?_;clear ak aq Ql
  repeat (refine Xu ?_)
  clear mD
  refine bP (σ':=⟨ar [(0,.ptr 0 0 0),(6,.ptr 1 0 0),(7,.ptr 2 0 0)],cZ L k cls [] [] R⟩) (by unfold cZ;exact Xv X0) ?_
  unfold cZ
  refine Va X0 ?_
  have bI:cls.length<=24:=Ey
  have uQ:∀ i,(cls.getD i default).length<=24:=λi=>by
    rcases Nat.lt_or_ge i cls.length with h | h
    · have:=(pY _ (aF (d:=default) h)).1;omega
    · rw[List.getD_eq_getElem?_getD,List.getElem?_eq_none h];decide
  refine aQ (λz:Nat×Nat×List Pr=>(⟨ar [(0,.ptr 0 0 0),(6,.ptr 1 0 0),(7,.ptr 2 0 0),(14,QM z.1)],cZ L z.2.1 cls z.2.2 [] R⟩:St))
    (λz=>(z.1:Int)<=R/\z.2.1<=L.length/\yK cls R z.2.2 z.1 0 0) (λz=>R.toNat - z.1) (0,k,[]) ⟨Hi,hk,rfl,G9,G9⟩ (by unfold cZ;exact Xv X0) ?_
  clear hk
  rintro ⟨u,k,ae⟩ ⟨hu,hk,hP⟩ Ql ak aq
  dsimp only at hu hk hP ⊢
  unfold cZ
  by_cases MW:(u:Int)<R
  · ((repeat' (first|refine Va X0 ?_|(refine Xi ?_ ?_<;>try intro ht)|exact Xx|fail)))
    refine aQ (λz:Nat×Nat×List Pr=>(⟨ar [(0,.ptr 0 0 0),(6,.ptr 1 0 0),(7,.ptr 2 0 0),(14,QM u),(15,QM z.1)],cZ L z.2.1 cls z.2.2 [] R⟩:St))
      (λz=>z.1<=cls.length/\z.2.1<=L.length/\yK cls R z.2.2 u z.1 0) (λz=>cls.length - z.1) (0,k,ae) ⟨Hi,hk,hP⟩ (by unfold cZ;exact Xv X0) ?_
    clear hk hP
    rintro ⟨i,k,ae⟩ ⟨hi,hk,hP⟩ cR bg bm
    dsimp only at hi hk hP ⊢
    unfold cZ
    by_cases au:i<cls.length
    · ((repeat' (first|refine Va X0 ?_|(refine Xi ?_ ?_<;>try intro ht)|exact Xx|fail)))
      refine aQ (λz:Nat×Nat×List Pr=>(⟨ar [(0,.ptr 0 0 0),(6,.ptr 1 0 0),(7,.ptr 2 0 0),(14,QM u),(15,QM i),(16,QM z.1)],cZ L z.2.1 cls z.2.2 [] R⟩:St))
        (λz=>i<z.1/\z.1<=cls.length/\z.2.1<=L.length/\yK cls R z.2.2 u i z.1) (λz=>cls.length - z.1) (i+1,k,ae) ⟨Hi,Hi,hk,hP.mono Ey Ey⟩ (by unfold cZ;exact Xv X0) ?_
      clear hk hP
      rintro ⟨j,k,ae⟩ ⟨uR,hj,hk,hP⟩ mH gw fK
      dsimp only at uR hj hk hP ⊢
      unfold cZ
      by_cases fI:j<cls.length
      · ((repeat' (first|refine Va X0 ?_|(refine Xi ?_ ?_<;>try intro ht)|exact Xx|fail))<;>try with_reducible intro K hK)
        refine jf [0] (Dk L k 3 (by unfold cY;omega) Hg hk hL) Hg ⟨rfl,trivial⟩ ⟨.eq rfl,.pure rfl,trivial⟩ ?_
        have bw:=fJ hk
        generalize BE L k 3=b at *
        generalize cQ L k=k2 at *
        clear hk
        have g1:=uQ i
        have g2:=uQ j
        have mC:=(pY _ (aF (d:=default) au)).1
        have uz:=(pY _ (aF (d:=default) fI)).1
        have hmul:((cls.getD i default).length:Int) * (cls.getD j default).length=((cls.getD i default).length * (cls.getD j default).length:Nat):=G9
        have aqg:(cls.getD i default).length * (cls.getD j default).length<=24 * 24:=Nat.mul_le_mul g1 g2
        generalize HJ:(cls.getD i default).length * (cls.getD j default).length=nn at *
        ((try revert hK K);(repeat' (first|refine Va @hmul ?_|(refine Xi ?_ ?_<;>try intro ht)|fail)))
        rotate_left
        · exact gw _ (j+1,k2,ae) ⟨Hi,Hi,bw,hP.mono Ey Ey⟩ Hi (by unfold cZ;exact Xv X0)
        refine aQ (λz:Nat×Nat×List Int=>(⟨ar [(0,.ptr 0 0 0),(6,.ptr 1 0 0),(7,.ptr 2 0 0),(14,QM u),(15,QM i),(16,QM j),(17,.ptr 6 0 0),(18,QM z.1)],
            cZ L z.2.1 cls ae [] R++[.var [QM i,QM j,QM u,.ref 7 1 0 z.2.2.length],.arr 1 (ints z.2.2)]⟩:St))
          (λz=>z.1+z.2.2.length=nn/\z.2.1<=L.length/\∀ x∈z.2.2,0<=x/\(0<x->jV x=true)) (λz=>z.1) (nn,k2,[]) ⟨G9,bw,G9⟩ ?_ ?_
        · refine aD.trans (aD.pT 6 3 1 rfl rfl Hg) ?_
          unfold cZ
          exact Xv X0
        clear bw
        rintro ⟨w,k,aB⟩ ⟨hw,hk,wj⟩ M0 Iu uS
        dsimp only at hw hk wj ⊢
        unfold cZ
        simp only[dw,eJ]
        by_cases Hy:0<w
        · obtain ⟨w',rfl⟩ :∃w',w=w'+1:=⟨w - 1,Ey⟩
          have Dv:((w'+1:Nat):Int) - 1=w':=Ey
          ((repeat' (first|refine Va X0 ?_|(refine Xi ?_ ?_<;>try intro ht)|exact Xx|fail)))
          refine nf [] (.take 2 (.both 0 (.both 1 (.take 3 (.take 4 (.take 5 (.take 6 (.take 7 .nil))))) 3 (.take 1 (.take 4 (.take 5 (.take 6 (.take 7 .nil)))))) 3 (.take 0 (.take 1 (.take 4 (.take 5 (.take 6 (.take 7 .nil)))))))) rfl Hg (by decide +kernel) ?_
          simp (disch:=omega) only[Ac,↓Pc,simprocAttr,od,mX,mY,cy,eC]
          refine⟨⟨?_,?_⟩,?_⟩
          all_goals refine jf [0] (MX L k hk hL) Hg ⟨rfl,trivial⟩ ⟨.eq rfl,trivial⟩ ?_
          all_goals obtain ⟨pf,zN,Fj⟩:=MY L k
          all_goals have bw:=MZ hk
          all_goals generalize qX L k=cv at *
          all_goals generalize xK L k=k2 at *
          all_goals simp (disch:=omega) only[Ac,↓Pc,simprocAttr,od,mX,mY,cy,eC]
          all_goals refine⟨Ey,?_⟩
          all_goals repeat (refine Xu ?_)
          all_goals ((repeat' (first|refine Va @Dv ?_|fail)))
          all_goals refine Iu _ (w',k2,aB++[cv]) ⟨Hj,bw,λx hx=>?_⟩ Hi ?_
          all_goals first
            | (rcases cG.1 hx with hx | hx
               · exact wj x hx
               · simp only[cS] at hx;subst hx;exact⟨pf,Fj⟩)
            | (unfold cZ;simp only[dw,eJ];exact Xs false [0,1,2,3,4,5,6,9] X0)
        · obtain rfl:w=0:=Ey
          ((repeat' (first|refine Va X0 ?_|(refine Xi ?_ ?_<;>try intro ht)|exact Xx|fail)))
          refine uS _ _ rfl ?_
          clear Iu uS M0
          repeat (refine Xu ?_)
          refine bP (aD.v7 7 6 3 1 rfl rfl (by rw[xl];rfl) (uw _) (xn _)) ?_
          refine bP (σ':=⟨ar [(0,.ptr 0 0 0),(6,.ptr 1 0 0),(7,.ptr 2 0 0),(14,QM u),(15,QM i),(16,QM j),(17,.ptr 6 0 0)],
              cZ L k cls ae [] R++[.var (aI ⟨i,j,u,aB⟩),.gone]⟩) (by unfold cZ;exact Xv X0) ?_
          unfold cZ
          simp only[dw,eJ]
          have dG:=hP.len
          refine Va X0 ?_
          refine gw _ (j+1,k,ae++[⟨i,j,u,aB⟩]) ⟨Hi,Hi,hk,hP.app (ahM MW uR fI (by rw[HJ];omega) wj)⟩ Hi ?_
          unfold cZ
          rw[show rowsOf aI ae++[[AV.lit (.int .i64 i),AV.lit (.int .i64 j),AV.lit (.int .i64 u),AV.tree 1 (ints aB)]]=rowsOf aI (ae++[⟨i,j,u,aB⟩]) from pS (enc:=aI) ae ⟨i,j,u,aB⟩]
          exact Xs false [0,1,2,3,9,5] X0
      · ((repeat' (first|refine Va X0 ?_|(refine Xi ?_ ?_<;>try intro ht)|exact Xx|fail)))
        refine fK _ _ rfl ?_
        clear gw fK mH
        repeat (refine Xu ?_)
        refine Va X0 ?_
        exact bg _ (i+1,k,ae) ⟨Hi,hk,hP.mono Ey Ey⟩ Hi (by unfold cZ;exact Xv X0)
    · ((repeat' (first|refine Va X0 ?_|(refine Xi ?_ ?_<;>try intro ht)|exact Xx|fail)))
      refine bm _ _ rfl ?_
      clear bg bm cR
      repeat (refine Xu ?_)
      refine Va X0 ?_
      exact ak _ (u+1,k,ae) ⟨Hi,hk,hP.mono Ey Ey⟩ Hi (by unfold cZ;exact Xv X0)
  have ahN:=hP.ok
  have ahO:ae.length<=4000:=by have:=hP.len;omega
  ((repeat' (first|refine Va X0 ?_|(refine Xi ?_ ?_<;>try intro ht)|exact Xx|fail)))
  refine aq _ _ rfl ?_;clear ak aq Ql
  repeat (refine Xu ?_)
  refine bP (σ':=⟨ar [(0,.ptr 0 0 0),(6,.ptr 1 0 0),(7,.ptr 2 0 0)],cZ L k cls ae [] R⟩) (by unfold cZ;exact Xv X0) ?_
  clear MW hu hP
  unfold cZ
  ((refine Va X0 ?_)<;>try with_reducible intro K hK)
  refine jf [0] (iB L k 3 (by unfold cY;omega) hk hL) Hg ⟨rfl,trivial⟩ ⟨.eq rfl,.pure rfl,trivial⟩ ?_
  have MV:=kh (L:=L) (k:=k) (n:=3) Ey
  have bw:=fJ hk
  generalize ek L k 3=n at *
  generalize cQ L k=k2 at *
  clear hk
  obtain ⟨c1,rfl⟩ :∃c1:Nat,n=c1:=⟨n.toNat,Ey⟩
  ((try revert hK K);(refine Va X0 ?_))
  refine aQ (λz:Nat×Nat×List Ct=>(⟨ar [(0,.ptr 0 0 0),(6,.ptr 1 0 0),(7,.ptr 2 0 0),(19,QM z.1)],cZ L z.2.1 cls ae z.2.2 R⟩:St))
    (λz=>z.1+z.2.2.length<=2/\z.2.1<=L.length/\∀ x∈z.2.2,jW ⟨cls,[],[],R⟩ x=true) (λz=>z.1) (c1,k2,[]) ⟨Hj,bw,G9⟩ (by unfold cZ;exact Xv X0) ?_
  clear bw
  rintro ⟨c,k,aE⟩ ⟨a6,hk,M1⟩ Ql ak aq
  dsimp only at a6 hk M1 ⊢
  unfold cZ
  by_cases mD:0<c
  · obtain ⟨c',rfl⟩ :∃c',c=c'+1:=⟨c - 1,Ey⟩
    have kT:((c'+1:Nat):Int) - 1=c':=Ey
    ((repeat' (first|refine Va X0 ?_|(refine Xi ?_ ?_<;>try intro ht)|exact Xx|fail))<;>try with_reducible intro K hK)
    refine jf [0] (iB L k R (by unfold cY;omega) hk hL) Hg ⟨rfl,trivial⟩ ⟨.eq rfl,.pure rfl,trivial⟩ ?_
    have o8:=kh (L:=L) (k:=k) (n:=R) Ey
    have bw:=fJ hk
    generalize ek L k R=n1 at *
    generalize cQ L k=k2 at *
    clear hk
    ((try revert hK K);(refine Va X0 ?_)<;>try with_reducible intro K hK)
    refine jf [0] (iB L k2 4 (by unfold cY;omega) bw hL) Hg ⟨rfl,trivial⟩ ⟨.eq rfl,.pure rfl,trivial⟩ ?_
    have pd:=kh (L:=L) (k:=k2) (n:=4) Ey
    have hk:=fJ bw
    generalize ek L k2 4=n2 at *
    generalize cQ L k2=k at *
    clear bw
    ((try revert hK K);(refine Va X0 ?_)<;>try with_reducible intro K hK)
    refine jf [0] (MX L k hk hL) Hg ⟨rfl,trivial⟩ ⟨.eq rfl,trivial⟩ ?_
    obtain ⟨pf,zN,Fj⟩:=MY L k
    have bw:=MZ hk
    generalize qX L k=cv at *
    generalize xK L k=k2 at *
    clear hk
    have M3:jV (max 1 cv)=true:=by
      by_cases h0:0<cv
      · rw[show max 1 cv=cv by omega];exact Fj h0
      · rw[show max 1 cv=1 by omega];decide
    generalize cu:max 1 cv=cA at *
    ((try revert hK K);(refine Va @cu ?_))
    refine aQ (λz:Nat×Nat×List Ld=>(⟨ar [(0,.ptr 0 0 0),(6,.ptr 1 0 0),(7,.ptr 2 0 0),(19,QM (c'+1:Nat)),(20,.ptr 6 0 0),(21,QM z.1)],
        cZ L z.2.1 cls ae aE R++[.var [QM n1,.ref 7 3 0 z.2.2.length,QM n2,QM cA],.arr 3 (rowsOf rX z.2.2)]⟩:St))
      (λz=>z.1<=cls.length/\z.2.1<=L.length/\z8 cls R z.2.2 z.1 0) (λz=>cls.length - z.1) (0,k2,[]) ⟨aP _,bw,rfl,G9,G9⟩ ?_ ?_
    · refine aD.trans (aD.pT 6 1 3 rfl rfl Hg) ?_
      unfold cZ
      exact Xv X0
    clear bw
    rintro ⟨i,k,mI⟩ ⟨hi,hk,hI⟩ cR bg bm
    dsimp only at hi hk hI ⊢
    unfold cZ
    simp only[dw,eJ]
    by_cases au:i<cls.length
    · have mC:=uQ i
      generalize eY:cls.getD i default=li at *
      ((repeat' (first|refine Va @eY ?_|(refine Xi ?_ ?_<;>try intro ht)|exact Xx|fail)))
      refine aQ (λz:Nat×Nat×List Ld=>(⟨ar [(0,.ptr 0 0 0),(6,.ptr 1 0 0),(7,.ptr 2 0 0),(19,QM (c'+1:Nat)),(20,.ptr 6 0 0),(21,QM i),(22,QM z.1)],
          cZ L z.2.1 cls ae aE R++[.var [QM n1,.ref 7 3 0 z.2.2.length,QM n2,QM cA],.arr 3 (rowsOf rX z.2.2)]⟩:St))
        (λz=>z.1<=li.length/\z.2.1<=L.length/\z8 cls R z.2.2 i z.1) (λz=>li.length - z.1) (0,k,mI) ⟨aP _,hk,hI⟩ (by unfold cZ;exact Xv (X2 @dw.{0} @eJ.{0})) ?_
      clear hk hI
      rintro ⟨j,k,mI⟩ ⟨hj,hk,hI⟩ mH gw fK
      dsimp only at hj hk hI ⊢
      unfold cZ
      simp only[dw,eJ]
      have aqh:=hI.len
      by_cases fI:j<li.length
      · ((repeat' (first|refine Va @eY ?_|(refine Xi ?_ ?_<;>try intro ht)|exact Xx|fail))<;>try with_reducible intro K hK)
        refine jf [0] (Dk L k 2 (by unfold cY;omega) Hg hk hL) Hg ⟨rfl,trivial⟩ ⟨.eq rfl,.pure rfl,trivial⟩ ?_
        have bw:=fJ hk
        generalize BE L k 2=b at *
        generalize cQ L k=k2 at *
        clear hk
        ((try revert hK K);(repeat' (first|refine Va @eY ?_|(refine Xi ?_ ?_<;>try intro ht)|fail)))
        · refine nf [] (.take 2 (.take 3 (.take 4 (.both 0 (.both 1 (.take 5 (.take 6 (.take 7 (.take 8 (.take 9 (.take 10 (.take 11 .nil))))))) 5 (.take 1 (.take 6 (.take 7 (.take 8 (.take 9 (.take 10 (.take 11 .nil)))))))) 5 (.take 0 (.take 1 (.take 6 (.take 7 (.take 8 (.take 9 (.take 10 (.take 11 .nil)))))))))))) rfl Hg (by decide +kernel) ?_
          simp (disch:=omega) only[Ac,↓Pc,simprocAttr,od,mX,mY,cy,eC]
          refine⟨⟨?_,?_⟩,?_⟩
          all_goals refine jf [0] (iB L k2 3 (by unfold cY;omega) bw hL) Hg ⟨rfl,trivial⟩ ⟨.eq rfl,.pure rfl,trivial⟩ ?_
          all_goals have hn3:=kh (L:=L) (k:=k2) (n:=3) Ey
          all_goals have hk:=fJ bw
          all_goals generalize ek L k2 3=n3 at *
          all_goals generalize cQ L k2=k at *
          all_goals clear bw
          all_goals simp (disch:=omega) only[Ac,↓Pc,simprocAttr,od,mX,mY,cy,eC]
          all_goals refine⟨⟨Ey,Ey⟩,Ey,?_⟩
          all_goals repeat (refine Xu ?_)
          all_goals ((repeat' (first|refine Va X0 ?_|fail)))
          all_goals refine gw _ (j+1,k,mI++[⟨i,j,1+n3⟩]) ⟨Hi,hk,hI.app au (by rw[eY];exact fI) ⟨Ey,Ey⟩⟩ Hi ?_
          all_goals unfold cZ
          all_goals simp only[dw,eJ]
          all_goals rw[show rowsOf rX mI++[[AV.lit (.int .i64 i),AV.lit (.int .i64 j),AV.lit (.int .i64 (1+n3))]]=rowsOf rX (mI++[⟨i,j,1+n3⟩]) from pS (enc:=rX) mI ⟨i,j,1+n3⟩]
          all_goals exact Xs false [0,1,2,3,4,5,6,9] X0
        · exact gw _ (j+1,k2,mI) ⟨Hi,bw,hI.mono Ey Ey⟩ Hi (by unfold cZ;exact Xv (X2 @dw.{0} @eJ.{0}))
      · ((repeat' (first|refine Va @eY ?_|(refine Xi ?_ ?_<;>try intro ht)|exact Xx|fail)))
        refine fK _ _ rfl ?_
        clear gw fK mH
        repeat (refine Xu ?_)
        refine Va X0 ?_
        exact bg _ (i+1,k,mI) ⟨Hi,hk,hI.mono Ey Ey⟩ Hi (by unfold cZ;exact Xv (X2 @dw.{0} @eJ.{0}))
    · ((repeat' (first|refine Va X0 ?_|(refine Xi ?_ ?_<;>try intro ht)|exact Xx|fail)))
      refine bm _ _ rfl ?_
      clear bg bm cR
      repeat (refine Xu ?_)
      refine bP (aD.v7 7 6 1 3 rfl rfl (by rw[cF];rfl) (iA _) (mF _)) ?_
      refine bP (σ':=⟨ar [(0,.ptr 0 0 0),(6,.ptr 1 0 0),(7,.ptr 2 0 0),(19,QM (c'+1:Nat)),(20,.ptr 6 0 0)],
          cZ L k cls ae aE R++[.var (dz ⟨n1,mI,n2,cA⟩),.gone]⟩) (by unfold cZ;exact Xv X0) ?_
      unfold cZ
      simp only[dw,eJ]
      refine Va @kT ?_
      refine ak _ (c',k,aE++[⟨n1,mI,n2,cA⟩]) ⟨Hj,hk,?_⟩ Hi ?_
      · intro x hx
        rcases cG.1 hx with hx | hx
        · exact M1 x hx
        · simp only[cS] at hx
          subst hx
          unfold jW ki
          simp only[Bool.and_eq_true,decide_eq_true_eq]
          exact⟨⟨⟨Ey,Ey⟩,M3⟩,hI.ok⟩
      · unfold cZ
        rw[show rowsOf dz aE++[[AV.lit (.int .i64 n1),AV.tree 3 (rowsOf rX mI),AV.lit (.int .i64 n2),AV.lit (.int .i64 cA)]]=rowsOf dz (aE++[⟨n1,mI,n2,cA⟩]) from pS (enc:=dz) aE ⟨n1,mI,n2,cA⟩]
        exact Xs false [0,1,2,3,4,9] X0
  obtain rfl:c=0:=Ey
  ((repeat' (first|refine Va X0 ?_|(refine Xi ?_ ?_<;>try intro ht)|exact Xx|fail)))
  refine aq _ _ rfl ?_;clear ak aq Ql
  repeat (refine Xu ?_)
  refine Vb X0 ?_
  have hMM:MM ⟨cls,ae,aE,R⟩ qW options:=by
    refine⟨⟨Hi,λl hl=>by have:=(pY l hl).1;omega,ahO,Hi,Hi,λl hl o ho=>((pY l hl).2 o ho).1,?_,λx hx=>?_⟩,Hi,λl hl=>(pY l hl).1,H2,Hi,λl hl o ho=>((pY l hl).2 o ho).2⟩
    · exact (VG _ _).trans ahN
    · exact (ahQ _).trans (M1 x hx)
  unfold fU
  simp only[dV,dP]
  simp (disch:=omega) only[Ac,↓Pc,simprocAttr]
  refine⟨_,_,⟨⟨cls,ae,aE,R⟩,k,hMM,hk,rfl,rfl⟩,?_⟩
  refine iJ [0,4] true Hg ⟨⟨G9,.inr rfl⟩,⟨G9,.inr (by rw[oz];rfl)⟩,trivial⟩ Hg Hg (a7.agg _ _ rfl (jN.spec (R:=a7 _ _ _ _) (cs:=z7 ⟨cls,ae,aE,R⟩) (ds:=[.ref 3 1 0 cls.length,.ref 4 4 0 ae.length,.ref 5 4 0 aE.length,QM R]) ⟨?_,.eq rfl,?_,.pure rfl,trivial⟩).2)
  · first|exact .pure rfl|exact .eq rfl|exact .fz rfl (by simp only[Bc,Rc])
  · first|exact .pure rfl|exact .eq rfl|exact .fz rfl (by simp only[Bc,Rc])
def ahA(L:List Int)(k:Nat)(qW options:Nat)(hk:k<=L.length)(hL:L.length<1000000)(hc:qW<=24)(ho:options<=24)(It:1<=options):
  dv Tryz.prog 37 [.ptr 0 0 0,QM qW,QM options] [gY L k] (λr os=>∃ m k',MM m qW options/\k'<=L.length/\r=.agg (ao m)/\os=[gY L k']) :=
 Vz (VC L k qW options hk hL hc ho It) λr os h=>by
  obtain⟨m,k',h1,h2,rfl,rfl⟩:=h;exact⟨_,_,⟨m,k',h1,h2,rfl,rfl⟩,VB m _ (λ_=>rfl)⟩
def ahv(m:ah)(hm:MB m):Holds Tryz.prog 12 [.agg (ao m)] [] (.tree 1 (rowsOf aA (b9 m))) []:=by
 have h1:=Fk m hm;have sr:=hm.cls;generalize an:b9 m=res;unfold b9 at an;refine Holds.aM 38 0 [.tmp 2] Tryz.func12 ?_;by_cases hv:gv m=0;rotate_left
 ·rw[if_neg hv]at an;rw[<- an];generalize gv m=e at *;((try revert hK K);(repeat'(first|refine Vd X0 h1 ?_|(refine V2 X0 ?_ ?_<;>try with_reducible intro hb)|(refine Xi ?_ ?_<;>try intro ht)|refine VD ?_ ?_|exact Xx|fail))<;>try with_reducible intro K hK)
  all_goals try(exfalso;omega)
  exact iJ [] true Hg trivial Hg Hg a7.nil
 rw[if_pos hv]at an;rw[hv]at h1;have b8:=kf.1 hv;have np:=b8.cls;((try revert hK K);(repeat'(first|refine Vd @bne_self_eq_false.{0} h1 ?_|(refine V2 @bne_self_eq_false.{0} ?_ ?_<;>try with_reducible intro hb)|(refine Xi ?_ ?_<;>try intro ht)|refine VD ?_ ?_|exact Xx|fail))<;>try with_reducible intro K hK)
 refine aQ (λz:Nat×List (List Bool)=>(⟨ar [(1,.ptr 0 0 0),(3,.ref 1 1 0 z.2.length),(4,QM z.1)],[.var (ao m),.arr 1 (rowsOf aA z.2)]⟩:St))
  (λz=>z.1<=m.cls.length/\z.2=(fZ m).take z.1) (λz=>m.cls.length-z.1) (0,[]) ⟨aP _,rfl⟩ ?_ ?_
 ·refine aD.trans (aD.nil 3 1 (by simp only[Kc,simprocAttr]) Hg) ?_;exact Xv X0
 rintro⟨i,xs⟩⟨hi,cJ⟩Ql ak aq;dsimp only at hi cJ ⊢;have nh:(fZ m).length=m.cls.length:=by simp[fZ]
 by_cases au:i<m.cls.length
 ·have uP:xs.length=i:=by rw[cJ,List.length_take];omega
  have eu:(fZ m).take (i+1)=xs++[aK (m.cls.getD i default).length true]:=by
   rw[ep Ey,<- cJ];unfold fZ;rw[kD _ _ _ au]
  have p8:=b8.opt _ (aF (d:=default) au);generalize a6:m.cls.getD i default=c at *;((try revert hK K);(repeat'(first|refine Va (X2 @a6 @aT.eq_1) ?_|(refine V2 (X2 @a6 @aT.eq_1) ?_ ?_<;>try with_reducible intro hb)|(refine Xi ?_ ?_<;>try intro ht)|refine VD ?_ ?_|exact Xx|fail))<;>try with_reducible intro K hK)
  refine aQ (λk:Nat=>(⟨ar [(1,.ptr 0 0 0),(3,.ref 1 1 0 xs.length),(4,QM i),(5,.ref 2 1 0 c.length),(6,QM k)],[.var (ao m),.arr 1 (rowsOf aA xs),.arr 1 (aV (aK k true++aK (c.length-k) false))]⟩:St))
   (λk=>k<=c.length) (λk=>c.length-k) 0 (aP _) (by simp only[Nat.sub_zero,EB,eJ];exact Xv X0) ?_
  rintro k hk cR bg bm;have cV:(aK k true++aK (c.length-k) false).length=c.length:=Hj;by_cases bj:k<c.length
  ·have iP:(aK k true++aK (c.length-k) false).set k true=aK (k+1) true++aK (c.length-(k+1)) false:=by
    rw[List.set_append_right _ _ G9,nx,jC,show c.length-k=(c.length-(k+1))+1 by omega,List.replicate_succ,List.set_cons_zero,List.replicate_succ',List.append_assoc];rfl
   ((try revert hK K);(repeat'(first|refine Va (X2 @cV @uj) ?_|(refine V2 (X2 @cV @uj) ?_ ?_<;>try with_reducible intro hb)|(refine Xi ?_ ?_<;>try intro ht)|refine VD ?_ ?_|exact Xx|fail))<;>try with_reducible intro K hK)
   rw[iP];exact bg _ (k+1) Ey Ey (Xv X0)
  ·obtain rfl:k=c.length:=Ey;((try revert hK K);(repeat'(first|refine Va X0 ?_|(refine V2 X0 ?_ ?_<;>try with_reducible intro hb)|(refine Xi ?_ ?_<;>try intro ht)|refine VD ?_ ?_|exact Xx|fail))<;>try with_reducible intro K hK)
   refine bm _ _ rfl ?_;clear bg bm cR;repeat(first|refine Xu ?_)
   rw[jC,EB,List.append_nil]at *;refine bP (σ':=⟨ar [(1,.ptr 0 0 0),(3,.ref 1 1 0 xs.length),(4,QM i),(5,.tree 1 (aV (aK c.length true)))],[.var (ao m),.arr 1 (rowsOf aA xs)]⟩) (Xs true [0,1] @nx.{0}) ?_;((try revert hK K);(repeat'(first|refine Va @Iv ?_|(refine V2 @Iv ?_ ?_<;>try with_reducible intro hb)|(refine Xi ?_ ?_<;>try intro ht)|refine VD ?_ ?_|exact Xx|fail))<;>try with_reducible intro K hK)
   refine ak _ (i+1,xs++[aK c.length true]) ⟨Hi,eu.symm⟩ Hi ?_;exact Xs false [0,3] X0
 ·rw[List.take_of_length_le Ey]at cJ;((try revert hK K);(repeat'(first|refine Va X0 ?_|(refine V2 X0 ?_ ?_<;>try with_reducible intro hb)|(refine Xi ?_ ?_<;>try intro ht)|refine VD ?_ ?_|exact Xx|fail))<;>try with_reducible intro K hK)
  refine aq _ _ rfl ?_;clear ak aq Ql;repeat(first|refine Xu ?_)
  ((try revert hK K);(repeat'(first|refine Vb X0 ?_|(refine V2 X0 ?_ ?_<;>try with_reducible intro hb)|(refine Xi ?_ ?_<;>try intro ht)|refine VD ?_ ?_|exact Xx|fail))<;>try with_reducible intro K hK)
  rw[cJ,an];exact Xw true [] X0
def o0:cP:=⟨0,0,0,0,0,[]⟩
def m1:ah:=⟨[[o0,o0],[o0,o0]],[⟨0,1,0,[0,2,4,3]⟩],[],1⟩
end T

