import Derived.Test.YtodilglobhifaaaGreatDoorX23
set_option linter.all false
set_option maxHeartbeats 0
set_option maxRecDepth 20000
open List renaming cons_append→fR,nil_append→dT,mem_append→bj,mem_singleton→bm,getD_eq_getElem?_getD→aw,getElem?_eq_none→iF,drop_eq_nil_of_le→dw
open Nat renaming lt_or_ge→dD,mul_le_mul→Hm,zero_le→aN,add_mul→eI,one_mul→qU,reduceBEq→Hw
open Bool renaming and_eq_true→bd
open Go Go.Am Go.Proofs
namespace T
def c9(L:List Int)(k:Nat):Ob:=.var [.tree 1 (ints L),aah k]
def Db(m:ah):List AV:=[.tree 1 (rowsOf bk m.cls),.ref 1 4 0 m.ae.length,.tree 4 (rowsOf dE m.aL),aah m.rules]
def Zv{P:Program}{f:FuncId}{args:List AV}{aa:List Ob}{eZ RG:AV->List Ob->Prop}(h:eM P f args aa eZ)(ht:∀ r os,eZ r os->∃ r2 bR,RG r2 bR/\aC aa.length ⟨λk=>[r].getD k .undef,os⟩ ⟨λk=>[r2].getD k .undef,bR⟩):eM P f args aa RG:=by
 refine⟨h.1,λγ mH mE=>Calls.mono (h.2 γ mH mE) ?_⟩;rintro e w'⟨res,aY,cv,av,h0,h1,h2,h3,h4,h5⟩;obtain⟨r2,bR,hp,ht⟩:=ht res aY h0;obtain⟨yz,a1,a2,a3,a4⟩:=ht aa γ av rfl h4 h5;exact⟨r2,bR,cv,yz,hp,h1,a1.trans h2,a2.trans h3,a3,a4⟩
def Zw(m:ah)(o:Ob)(ho:∀ ρ,bu ρ o=o):aC 1 ⟨λk=>[AV.agg (Db m)].getD k .undef,[o,.arr 4 (rowsOf bL m.ae)]⟩ ⟨λk=>[AV.agg (aA m)].getD k .undef,[o]⟩:=by
 have e:∀ x:AV,(λk=>[x].getD k AV.undef)=au [(0,x)]:=λx=>by
  funext k;cases k<;>rfl
 rw[e (.agg (aA m))];refine aC.ab [0] true _ _ Ha ⟨⟨Dg,.inr (by rw[ho];rfl)⟩,trivial⟩ Ha (λi hi=>by
  obtain rfl:i=0:=Ay;rfl) ⟨?_,trivial⟩
 refine(a9.agg _ _ rfl (jQ.spec (R:=a9 _ _ _ _) (cs:=aA m) (ds:=Db m) ⟨.pure rfl,a9.bO rfl (gb _) (by rw[cH]) (iW Ha) (jt _),.pure rfl,.pure rfl,trivial⟩).2)
def Zx (L:List Int) (k:Nat) (gI options:Nat) (hk:k<=L.length) (hL:L.length<1000000) (hc:gI<=24) (ho:options<=24) (CV:1<=options) :
    eM Tryz.prog 20 [.ptr 0 0 0,aah gI,aah options] [c9 L k] (λr os=>∃ m k',MM m gI options/\k'<=L.length/\r=.agg (Db m)/\os=[c9 L k',.arr 4 (rowsOf bL m.ae)]):=by
  unfold c9
  refine eM.aO 199 1 [.cell 6 32] Tryz.func20 ?_
  ((refine Vb X0 ?_)<;>try with_reducible intro K hK)
  refine fD [0] (fP L k 4 (by unfold df;omega) hk hL) Ha ⟨rfl,trivial⟩ ⟨.eq rfl,.pure rfl,trivial⟩ ?_
  have hv:=iA (L:=L) (k:=k) (n:=4) Ay
  have aK:=dg hk
  generalize cJ L k 4=v at *
  generalize bH L k=k2 at *
  clear hk
  ((try revert hK K);(refine Vb X0 ?_)<;>try with_reducible intro K hK)
  refine fD [0] (fP L k2 (gI+1) (by unfold df;omega) aK hL) Ha ⟨rfl,trivial⟩ ⟨.eq rfl,.pure rfl,trivial⟩ ?_
  have Aj:=iA (L:=L) (k:=k2) (n:=gI+1) Ay
  have eL:=dg aK
  generalize cJ L k2 (gI+1)=n at *
  generalize bH L k2=k3 at *
  clear aK
  obtain ⟨c0,rfl⟩ :∃c0:Nat,n=c0:=⟨n.toNat,Ay⟩
  generalize hR:1+v=R
  have uY:1<=R/\R<=4:=Ay
  ((try revert hK K);(refine Vb X0 ?_))
  refine aX (λz:Nat×Nat×List (List bh)=>(⟨au [(0,.ptr 0 0 0),(2,aah options),(6,.ptr 1 0 0),(7,.ptr 2 0 0),(8,aah z.1)],bT L z.2.1 z.2.2 [] [] R⟩:St))
    (λz=>z.1+z.2.2.length<=gI/\z.2.1<=L.length/\∀ l∈z.2.2,(1<=l.length/\l.length<=options)/\Pt R l) (λz=>z.1) (c0,k3,[]) ⟨aab,eL,Dg⟩ ?_ ?_
  · refine aC.trans (aC.n5 2 0 1 rfl rfl Ha) ?_
    refine aC.trans (aC.n5 2 1 4 rfl rfl Ha) ?_
    refine aC.trans (aC.n5 2 2 4 rfl rfl Ha) ?_
    exact Xv X0
  clear Aj eL
  rintro ⟨c,k,cls⟩ ⟨bJ,hk,kT⟩ Ql an ay
  dsimp only at bJ hk kT ⊢
  unfold bT
  by_cases iX:0<c
  · obtain ⟨c',rfl⟩ :∃c',c=c'+1:=⟨c - 1,Ay⟩
    have kI:((c'+1:Nat):Int) - 1=c':=Ay
    ((repeat' (first|refine Va X0 ?_|(refine Xi ?_ ?_<;>try intro ht)|exact Xx|fail))<;>try with_reducible intro K hK)
    refine fD [0] (fP L k options (by unfold df;omega) hk hL) Ha ⟨rfl,trivial⟩ ⟨.eq rfl,.pure rfl,trivial⟩ ?_
    have Aj:=iA (L:=L) (k:=k) (n:=options) Ay
    have aK:=dg hk
    generalize cJ L k options=n at *
    generalize bH L k=k2 at *
    clear hk
    obtain ⟨e0,lW⟩ :∃e0:Nat,1+n=e0:=⟨(1+n).toNat,Ay⟩
    ((try revert hK K);(refine Va @lW ?_))
    refine aX (λz:Nat×Nat×List bh=>(⟨au [(0,.ptr 0 0 0),(2,aah options),(6,.ptr 1 0 0),(7,.ptr 2 0 0),(8,aah (c'+1:Nat)),(9,.ref 6 6 0 z.2.2.length),(10,aah z.1)],bT L z.2.1 cls [] [] R++[.arr 6 (rowsOf bA z.2.2)]⟩:St))
      (λz=>z.1+z.2.2.length=e0/\z.2.1<=L.length/\Pt R z.2.2) (λz=>z.1) (e0,k2,[]) ⟨Dg,aK,by intro o ho;simp at ho⟩ ?_ ?_
    · refine aC.trans (aC.nil 9 6 (by simp only[Kc,simprocAttr]) Ha) ?_
      unfold bT
      exact Xv X0
    clear aK
    rintro ⟨e,k,l⟩ ⟨rX,hk,hl⟩ cC aS bf
    dsimp only at rX hk hl ⊢
    unfold bT
    simp only[fR,dT]
    by_cases La:0<e
    · obtain ⟨e',rfl⟩ :∃e',e=e'+1:=⟨e - 1,Ay⟩
      have uW:((e'+1:Nat):Int) - 1=e':=Ay
      ((repeat' (first|refine Va X0 ?_|(refine Xi ?_ ?_<;>try intro ht)|exact Xx|fail))<;>try with_reducible intro K hK)
      refine fD [0] (fP L k 3 (by unfold df;omega) hk hL) Ha ⟨rfl,trivial⟩ ⟨.eq rfl,.pure rfl,trivial⟩ ?_
      have lM:=iA (L:=L) (k:=k) (n:=3) Ay
      have aK:=dg hk
      generalize cJ L k 3=n1 at *
      generalize bH L k=k2 at *
      clear hk
      ((try revert hK K);(refine Va X0 ?_)<;>try with_reducible intro K hK)
      refine fD [0] (fP L k2 2 (by unfold df;omega) aK hL) Ha ⟨rfl,trivial⟩ ⟨.eq rfl,.pure rfl,trivial⟩ ?_
      have hk:=dg aK
      generalize cJ L k2 2=n2 at *
      generalize bH L k2=k at *
      clear aK
      ((try revert hK K);(refine Va X0 ?_)<;>try with_reducible intro K hK)
      refine fD [0] (fP L k 3 (by unfold df;omega) hk hL) Ha ⟨rfl,trivial⟩ ⟨.eq rfl,.pure rfl,trivial⟩ ?_
      have aK:=dg hk
      generalize cJ L k 3=n3 at *
      generalize bH L k=k2 at *
      clear hk
      ((try revert hK K);(refine Va X0 ?_)<;>try with_reducible intro K hK)
      refine fD [0] (fP L k2 3 (by unfold df;omega) aK hL) Ha ⟨rfl,trivial⟩ ⟨.eq rfl,.pure rfl,trivial⟩ ?_
      have hn4:=iA (L:=L) (k:=k2) (n:=3) Ay
      have hk:=dg aK
      generalize cJ L k2 3=n4 at *
      generalize bH L k2=k at *
      clear aK
      ((try revert hK K);(refine Va X0 ?_))
      generalize C4:1+n1=w1
      generalize hw4:n4 - 1=w4
      refine aX (λz:Nat×Nat×List (Int×Int)=>(⟨au [(0,.ptr 0 0 0),(2,aah options),(6,.ptr 1 0 0),(7,.ptr 2 0 0),(8,aah (c'+1:Nat)),(9,.ref 6 6 0 l.length),(10,aah (e'+1:Nat)),(11,.ptr 7 0 0),(12,aah z.1)],
          bT L z.2.1 cls [] [] R++[.arr 6 (rowsOf bA l),.var [aah w1,aah n2,aah n3,aah 1,aah w4,.ref 8 2 0 z.2.2.length],.arr 2 (rowsOf aj z.2.2)]⟩:St))
        (λz=>(z.1:Int)<=R/\z.2.1<=L.length/\z.2.2.length<=z.1/\dh R none z.2.2=true/\∀ x∈z.2.2,x.1<z.1) (λz=>R.toNat - z.1) (0,k,[]) ⟨aaa,hk,Nat.le_refl _,rfl,Dg⟩ ?_ ?_
      · refine aC.trans (aC.n5 7 5 2 rfl rfl Ha) ?_
        unfold bT
        exact Xv X0
      clear hk
      rintro ⟨u,k,ch⟩ ⟨hu,hk,cS,tB,bw⟩ jC eH dJ
      dsimp only at hu hk cS tB bw ⊢
      unfold bT
      simp only[fR,dT]
      by_cases GX:(u:Int)<R
      · ((repeat' (first|refine Va X0 ?_|(refine Xi ?_ ?_<;>try intro ht)|exact Xx|fail))<;>try with_reducible intro K hK)
        refine fD [0] (FZ L k hk hL) Ha ⟨rfl,trivial⟩ ⟨.eq rfl,trivial⟩ ?_
        obtain ⟨nZ,qc,sv⟩:=FC L k
        have aK:=FD hk
        generalize l5 L k=cv at *
        generalize qv L k=k2 at *
        clear hk
        ((try revert hK K);(repeat' (first|refine Va X0 ?_|(refine V2 X0 ?_ ?_<;>try with_reducible intro hb)|(refine Xi ?_ ?_<;>try intro ht)|exact Xx|fail))<;>try with_reducible intro K hK)
        · refine fD [0] (rZ L k2 2 (by unfold df;omega) Ha aK hL) Ha ⟨rfl,trivial⟩ ⟨.eq rfl,.pure rfl,trivial⟩ ?_
          have hk:=dg aK
          generalize oA L k2 2=b at *
          generalize bH L k2=k at *
          clear aK
          ((try revert hK K);(repeat' (first|refine Va X0 ?_|(refine Xi ?_ ?_<;>try intro ht)|fail)))
          · refine eH _ (u+1,k,ch++[((u:Int),cv)]) ⟨aaa,hk,aab,Pn tB (by rw[gY,decide_eq_true_eq];omega) (sv Ay) (λx hx=>bw x hx) Dg,λx hx=>?_⟩ aaa ?_
            · rcases bj.1 hx with hx | hx
              · have:=bw x hx;dsimp only;omega
              · simp only[bm] at hx;subst hx;dsimp only;omega
            · unfold bT
              simp only[fR,dT]
              rw[show rowsOf aj ch++[[AV.lit (.int .i64 u),AV.lit (.int .i64 cv)]]=rowsOf aj (ch++[((u:Int),cv)]) from jR (enc:=aj) ch ((u:Int),cv)]
              exact Xs false [0,1,2,3,4,5,6,7,10] X0
          · exact eH _ (u+1,k,ch) ⟨aaa,hk,aaa,tB,λx hx=>by have:=bw x hx;dsimp only;omega⟩ aaa (by unfold bT;exact Xv X0)
        · exact eH _ (u+1,k2,ch) ⟨aaa,aK,aaa,tB,λx hx=>by have:=bw x hx;dsimp only;omega⟩ aaa (by unfold bT;exact Xv X0)
      · ((repeat' (first|refine Va X0 ?_|(refine Xi ?_ ?_<;>try intro ht)|exact Xx|fail)))
        refine dJ _ _ rfl ?_
        clear eH dJ jC
        repeat (refine Xu ?_)
        refine cE (aC.qd 8 7 5 2 rfl rfl (by rw[cH];rfl) (gb _) (jt _)) ?_
        refine cE (σ':=⟨au [(0,.ptr 0 0 0),(2,aah options),(6,.ptr 1 0 0),(7,.ptr 2 0 0),(8,aah (c'+1:Nat)),(9,.ref 6 6 0 l.length),(10,aah (e'+1:Nat)),(11,.ptr 7 0 0)],
            bT L k cls [] [] R++[.arr 6 (rowsOf bA l),.var (bA ⟨w1,n2,n3,1,w4,ch⟩),.gone]⟩) (by unfold bT;exact Xv X0) ?_
        unfold bT
        simp only[fR,dT]
        have uW:((e'+1:Nat):Int) - 1=e':=Ay
        refine Va @uW ?_
        refine aS _ (e',k,l++[⟨w1,n2,n3,1,w4,ch⟩]) ⟨aab,hk,?_⟩ aaa ?_
        · intro o ho
          rcases bj.1 ho with ho | ho
          · exact hl o ho
          · simp only[bm] at ho;subst ho;exact⟨tB,aaa⟩
        · unfold bT
          simp only[fR,dT]
          rw[show rowsOf bA l++[[AV.lit (.int .i64 w1),AV.lit (.int .i64 n2),AV.lit (.int .i64 n3),AV.lit (.int .i64 1),AV.lit (.int .i64 w4),AV.tree 2 (rowsOf aj ch)]]=rowsOf bA (l++[⟨w1,n2,n3,1,w4,ch⟩]) from jR (enc:=bA) l ⟨w1,n2,n3,1,w4,ch⟩]
          exact Xs false [0,1,2,3,4,5,10] X0
    · obtain rfl:e=0:=Ay
      ((repeat' (first|refine Va X0 ?_|(refine Xi ?_ ?_<;>try intro ht)|exact Xx|fail)))
      refine bf _ _ rfl ?_
      clear aS bf cC
      repeat (refine Xu ?_)
      refine cE (σ':=⟨au [(0,.ptr 0 0 0),(2,aah options),(6,.ptr 1 0 0),(7,.ptr 2 0 0),(8,aah (c'+1:Nat)),(9,.tree 6 (rowsOf bA l))],bT L k cls [] [] R⟩) ?_ ?_
      · unfold bT
        exact Xs true [0,1,2,3,4,5] X0
      unfold bT
      refine Va @kI ?_
      refine an _ (c',k,cls++[l]) ⟨aab,hk,?_⟩ aaa ?_
      · intro x hx
        rcases bj.1 hx with hx | hx
        · exact kT x hx
        · simp only[bm] at hx;subst hx;exact⟨⟨Ay,Ay⟩,hl⟩
      · unfold bT
        rw[show rowsOf bk cls++[[AV.tree 6 (rowsOf bA l)]]=rowsOf bk (cls++[l]) from jR (enc:=bk) cls l]
        exact Xs false [0,1,2,7,4,5] X0
  obtain rfl:c=0:=Ay
  ((repeat' (first|refine Va X0 ?_|(refine Xi ?_ ?_<;>try intro ht)|exact Xx|fail)))
  refine ay _ _ rfl ?_;clear an ay Ql
  repeat (refine Xu ?_)
  clear iX
  refine cE (σ':=⟨au [(0,.ptr 0 0 0),(6,.ptr 1 0 0),(7,.ptr 2 0 0)],bT L k cls [] [] R⟩) (by unfold bT;exact Xv X0) ?_
  unfold bT
  refine Va X0 ?_
  have cS:cls.length<=24:=Ay
  have pO:∀ i,(cls.getD i default).length<=24:=λi=>by
    rcases dD i cls.length with h | h
    · have:=(kT _ (aG (d:=default) h)).1;omega
    · rw[aw,iF h];decide
  refine aX (λz:Nat×Nat×List Pr=>(⟨au [(0,.ptr 0 0 0),(6,.ptr 1 0 0),(7,.ptr 2 0 0),(14,aah z.1)],bT L z.2.1 cls z.2.2 [] R⟩:St))
    (λz=>(z.1:Int)<=R/\z.2.1<=L.length/\pK cls R z.2.2 z.1 0 0) (λz=>R.toNat - z.1) (0,k,[]) ⟨aaa,hk,rfl,Dg,Dg⟩ (by unfold bT;exact Xv X0) ?_
  clear hk
  rintro ⟨u,k,ae⟩ ⟨hu,hk,hP⟩ Ql an ay
  dsimp only at hu hk hP ⊢
  unfold bT
  by_cases GX:(u:Int)<R
  · ((repeat' (first|refine Va X0 ?_|(refine Xi ?_ ?_<;>try intro ht)|exact Xx|fail)))
    refine aX (λz:Nat×Nat×List Pr=>(⟨au [(0,.ptr 0 0 0),(6,.ptr 1 0 0),(7,.ptr 2 0 0),(14,aah u),(15,aah z.1)],bT L z.2.1 cls z.2.2 [] R⟩:St))
      (λz=>z.1<=cls.length/\z.2.1<=L.length/\pK cls R z.2.2 u z.1 0) (λz=>cls.length - z.1) (0,k,ae) ⟨aaa,hk,hP⟩ (by unfold bT;exact Xv X0) ?_
    clear hk hP
    rintro ⟨i,k,ae⟩ ⟨hi,hk,hP⟩ cC aS bf
    dsimp only at hi hk hP ⊢
    unfold bT
    by_cases hi':i<cls.length
    · ((repeat' (first|refine Va X0 ?_|(refine Xi ?_ ?_<;>try intro ht)|exact Xx|fail)))
      refine aX (λz:Nat×Nat×List Pr=>(⟨au [(0,.ptr 0 0 0),(6,.ptr 1 0 0),(7,.ptr 2 0 0),(14,aah u),(15,aah i),(16,aah z.1)],bT L z.2.1 cls z.2.2 [] R⟩:St))
        (λz=>i<z.1/\z.1<=cls.length/\z.2.1<=L.length/\pK cls R z.2.2 u i z.1) (λz=>cls.length - z.1) (i+1,k,ae) ⟨aaa,aaa,hk,hP.mono Ay Ay⟩ (by unfold bT;exact Xv X0) ?_
      clear hk hP
      rintro ⟨j,k,ae⟩ ⟨mM,hj,hk,hP⟩ jC eH dJ
      dsimp only at mM hj hk hP ⊢
      unfold bT
      by_cases fW:j<cls.length
      · ((repeat' (first|refine Va X0 ?_|(refine Xi ?_ ?_<;>try intro ht)|exact Xx|fail))<;>try with_reducible intro K hK)
        refine fD [0] (rZ L k 3 (by unfold df;omega) Ha hk hL) Ha ⟨rfl,trivial⟩ ⟨.eq rfl,.pure rfl,trivial⟩ ?_
        have aK:=dg hk
        generalize oA L k 3=b at *
        generalize bH L k=k2 at *
        clear hk
        have g1:=pO i
        have g2:=pO j
        have od:=(kT _ (aG (d:=default) hi')).1
        have Bm:=(kT _ (aG (d:=default) fW)).1
        have hmul:((cls.getD i default).length:Int) * (cls.getD j default).length=((cls.getD i default).length * (cls.getD j default).length:Nat):=Dg
        have aaJ:(cls.getD i default).length * (cls.getD j default).length<=24 * 24:=Hm g1 g2
        generalize KN:(cls.getD i default).length * (cls.getD j default).length=nn at *
        ((try revert hK K);(repeat' (first|refine Va @hmul ?_|(refine Xi ?_ ?_<;>try intro ht)|fail)))
        rotate_left
        · exact eH _ (j+1,k2,ae) ⟨aaa,aaa,aK,hP.mono Ay Ay⟩ aaa (by unfold bT;exact Xv X0)
        refine aX (λz:Nat×Nat×List Int=>(⟨au [(0,.ptr 0 0 0),(6,.ptr 1 0 0),(7,.ptr 2 0 0),(14,aah u),(15,aah i),(16,aah j),(17,.ptr 6 0 0),(18,aah z.1)],
            bT L z.2.1 cls ae [] R++[.var [aah i,aah j,aah u,.ref 7 1 0 z.2.2.length],.arr 1 (ints z.2.2)]⟩:St))
          (λz=>z.1+z.2.2.length=nn/\z.2.1<=L.length/\∀ x∈z.2.2,0<=x/\(0<x->fw x=true)) (λz=>z.1) (nn,k2,[]) ⟨Dg,aK,Dg⟩ ?_ ?_
        · refine aC.trans (aC.n5 6 3 1 rfl rfl Ha) ?_
          unfold bT
          exact Xv X0
        clear aK
        rintro ⟨w,k,bg⟩ ⟨hw,hk,xc⟩ tQ pY ja
        dsimp only at hw hk xc ⊢
        unfold bT
        simp only[fR,dT]
        by_cases Bb:0<w
        · obtain ⟨w',rfl⟩ :∃w',w=w'+1:=⟨w - 1,Ay⟩
          have C4:((w'+1:Nat):Int) - 1=w':=Ay
          ((repeat' (first|refine Va X0 ?_|(refine Xi ?_ ?_<;>try intro ht)|exact Xx|fail)))
          refine lN [] (.take 2 (.both 0 (.both 1 (.take 3 (.take 4 (.take 5 (.take 6 (.take 7 .nil))))) 3 (.take 1 (.take 4 (.take 5 (.take 6 (.take 7 .nil)))))) 3 (.take 0 (.take 1 (.take 4 (.take 5 (.take 6 (.take 7 .nil)))))))) rfl Ha (by decide +kernel) ?_
          simp (disch:=omega) only[Ac,↓Pc,simprocAttr,wm,sX,sY,ej,cQ]
          refine⟨⟨?_,?_⟩,?_⟩
          all_goals refine fD [0] (FZ L k hk hL) Ha ⟨rfl,trivial⟩ ⟨.eq rfl,trivial⟩ ?_
          all_goals obtain ⟨nZ,qc,sv⟩:=FC L k
          all_goals have aK:=FD hk
          all_goals generalize l5 L k=cv at *
          all_goals generalize qv L k=k2 at *
          all_goals simp (disch:=omega) only[Ac,↓Pc,simprocAttr,wm,sX,sY,ej,cQ]
          all_goals refine⟨Ay,?_⟩
          all_goals repeat (refine Xu ?_)
          all_goals ((repeat' (first|refine Va @C4 ?_|fail)))
          all_goals refine pY _ (w',k2,bg++[cv]) ⟨aab,aK,λx hx=>?_⟩ aaa ?_
          all_goals first
            | (rcases bj.1 hx with hx | hx
               · exact xc x hx
               · simp only[bm] at hx;subst hx;exact⟨nZ,sv⟩)
            | (unfold bT;simp only[fR,dT];exact Xs false [0,1,2,3,4,5,6,9] X0)
        · obtain rfl:w=0:=Ay
          ((repeat' (first|refine Va X0 ?_|(refine Xi ?_ ?_<;>try intro ht)|exact Xx|fail)))
          refine ja _ _ rfl ?_
          clear pY ja tQ
          repeat (refine Xu ?_)
          refine cE (aC.qd 7 6 3 1 rfl rfl (by rw[rj];rfl) (kF _) (n9 _)) ?_
          refine cE (σ':=⟨au [(0,.ptr 0 0 0),(6,.ptr 1 0 0),(7,.ptr 2 0 0),(14,aah u),(15,aah i),(16,aah j),(17,.ptr 6 0 0)],
              bT L k cls ae [] R++[.var (bL ⟨i,j,u,bg⟩),.gone]⟩) (by unfold bT;exact Xv X0) ?_
          unfold bT
          simp only[fR,dT]
          have lY:=hP.len
          refine Va X0 ?_
          refine eH _ (j+1,k,ae++[⟨i,j,u,bg⟩]) ⟨aaa,aaa,hk,hP.app (Pu GX mM fW (by rw[KN];omega) xc)⟩ aaa ?_
          unfold bT
          rw[show rowsOf bL ae++[[AV.lit (.int .i64 i),AV.lit (.int .i64 j),AV.lit (.int .i64 u),AV.tree 1 (ints bg)]]=rowsOf bL (ae++[⟨i,j,u,bg⟩]) from jR (enc:=bL) ae ⟨i,j,u,bg⟩]
          exact Xs false [0,1,2,3,9,5] X0
      · ((repeat' (first|refine Va X0 ?_|(refine Xi ?_ ?_<;>try intro ht)|exact Xx|fail)))
        refine dJ _ _ rfl ?_
        clear eH dJ jC
        repeat (refine Xu ?_)
        refine Va X0 ?_
        exact aS _ (i+1,k,ae) ⟨aaa,hk,hP.mono Ay Ay⟩ aaa (by unfold bT;exact Xv X0)
    · ((repeat' (first|refine Va X0 ?_|(refine Xi ?_ ?_<;>try intro ht)|exact Xx|fail)))
      refine bf _ _ rfl ?_
      clear aS bf cC
      repeat (refine Xu ?_)
      refine Va X0 ?_
      exact an _ (u+1,k,ae) ⟨aaa,hk,hP.mono Ay Ay⟩ aaa (by unfold bT;exact Xv X0)
  have GY:=hP.ok
  have GZ:ae.length<=4000:=by have:=hP.len;omega
  ((repeat' (first|refine Va X0 ?_|(refine Xi ?_ ?_<;>try intro ht)|exact Xx|fail)))
  refine ay _ _ rfl ?_;clear an ay Ql
  repeat (refine Xu ?_)
  refine cE (σ':=⟨au [(0,.ptr 0 0 0),(6,.ptr 1 0 0),(7,.ptr 2 0 0)],bT L k cls ae [] R⟩) (by unfold bT;exact Xv X0) ?_
  clear GX hu hP
  unfold bT
  ((refine Va X0 ?_)<;>try with_reducible intro K hK)
  refine fD [0] (fP L k 3 (by unfold df;omega) hk hL) Ha ⟨rfl,trivial⟩ ⟨.eq rfl,.pure rfl,trivial⟩ ?_
  have Aj:=iA (L:=L) (k:=k) (n:=3) Ay
  have aK:=dg hk
  generalize cJ L k 3=n at *
  generalize bH L k=k2 at *
  clear hk
  obtain ⟨c1,rfl⟩ :∃c1:Nat,n=c1:=⟨n.toNat,Ay⟩
  ((try revert hK K);(refine Va X0 ?_))
  refine aX (λz:Nat×Nat×List Ct=>(⟨au [(0,.ptr 0 0 0),(6,.ptr 1 0 0),(7,.ptr 2 0 0),(19,aah z.1)],bT L z.2.1 cls ae z.2.2 R⟩:St))
    (λz=>z.1+z.2.2.length<=2/\z.2.1<=L.length/\∀ x∈z.2.2,fE ⟨cls,[],[],R⟩ x=true) (λz=>z.1) (c1,k2,[]) ⟨aab,aK,Dg⟩ (by unfold bT;exact Xv X0) ?_
  clear aK
  rintro ⟨c,k,aL⟩ ⟨bJ,hk,mX⟩ Ql an ay
  dsimp only at bJ hk mX ⊢
  unfold bT
  by_cases iX:0<c
  · obtain ⟨c',rfl⟩ :∃c',c=c'+1:=⟨c - 1,Ay⟩
    have kI:((c'+1:Nat):Int) - 1=c':=Ay
    ((repeat' (first|refine Va X0 ?_|(refine Xi ?_ ?_<;>try intro ht)|exact Xx|fail))<;>try with_reducible intro K hK)
    refine fD [0] (fP L k R (by unfold df;omega) hk hL) Ha ⟨rfl,trivial⟩ ⟨.eq rfl,.pure rfl,trivial⟩ ?_
    have lM:=iA (L:=L) (k:=k) (n:=R) Ay
    have aK:=dg hk
    generalize cJ L k R=n1 at *
    generalize bH L k=k2 at *
    clear hk
    ((try revert hK K);(refine Va X0 ?_)<;>try with_reducible intro K hK)
    refine fD [0] (fP L k2 4 (by unfold df;omega) aK hL) Ha ⟨rfl,trivial⟩ ⟨.eq rfl,.pure rfl,trivial⟩ ?_
    have iV:=iA (L:=L) (k:=k2) (n:=4) Ay
    have hk:=dg aK
    generalize cJ L k2 4=n2 at *
    generalize bH L k2=k at *
    clear aK
    ((try revert hK K);(refine Va X0 ?_)<;>try with_reducible intro K hK)
    refine fD [0] (FZ L k hk hL) Ha ⟨rfl,trivial⟩ ⟨.eq rfl,trivial⟩ ?_
    obtain ⟨nZ,qc,sv⟩:=FC L k
    have aK:=FD hk
    generalize l5 L k=cv at *
    generalize qv L k=k2 at *
    clear hk
    have G0:fw (max 1 cv)=true:=by
      by_cases h0:0<cv
      · rw[show max 1 cv=cv by omega];exact sv h0
      · rw[show max 1 cv=1 by omega];decide
    generalize cg:max 1 cv=da at *
    ((try revert hK K);(refine Va @cg ?_))
    refine aX (λz:Nat×Nat×List Ld=>(⟨au [(0,.ptr 0 0 0),(6,.ptr 1 0 0),(7,.ptr 2 0 0),(19,aah (c'+1:Nat)),(20,.ptr 6 0 0),(21,aah z.1)],
        bT L z.2.1 cls ae aL R++[.var [aah n1,.ref 7 3 0 z.2.2.length,aah n2,aah da],.arr 3 (rowsOf kD z.2.2)]⟩:St))
      (λz=>z.1<=cls.length/\z.2.1<=L.length/\qI cls R z.2.2 z.1 0) (λz=>cls.length - z.1) (0,k2,[]) ⟨aN _,aK,rfl,Dg,Dg⟩ ?_ ?_
    · refine aC.trans (aC.n5 6 1 3 rfl rfl Ha) ?_
      unfold bT
      exact Xv X0
    clear aK
    rintro ⟨i,k,eE⟩ ⟨hi,hk,hI⟩ cC aS bf
    dsimp only at hi hk hI ⊢
    unfold bT
    simp only[fR,dT]
    by_cases hi':i<cls.length
    · have od:=pO i
      generalize bl:cls.getD i default=li at *
      ((repeat' (first|refine Va @bl ?_|(refine Xi ?_ ?_<;>try intro ht)|exact Xx|fail)))
      refine aX (λz:Nat×Nat×List Ld=>(⟨au [(0,.ptr 0 0 0),(6,.ptr 1 0 0),(7,.ptr 2 0 0),(19,aah (c'+1:Nat)),(20,.ptr 6 0 0),(21,aah i),(22,aah z.1)],
          bT L z.2.1 cls ae aL R++[.var [aah n1,.ref 7 3 0 z.2.2.length,aah n2,aah da],.arr 3 (rowsOf kD z.2.2)]⟩:St))
        (λz=>z.1<=li.length/\z.2.1<=L.length/\qI cls R z.2.2 i z.1) (λz=>li.length - z.1) (0,k,eE) ⟨aN _,hk,hI⟩ (by unfold bT;exact Xv (X2 @fR.{0} @dT.{0})) ?_
      clear hk hI
      rintro ⟨j,k,eE⟩ ⟨hj,hk,hI⟩ jC eH dJ
      dsimp only at hj hk hI ⊢
      unfold bT
      simp only[fR,dT]
      have Zy:=hI.len
      by_cases fW:j<li.length
      · ((repeat' (first|refine Va @bl ?_|(refine Xi ?_ ?_<;>try intro ht)|exact Xx|fail))<;>try with_reducible intro K hK)
        refine fD [0] (rZ L k 2 (by unfold df;omega) Ha hk hL) Ha ⟨rfl,trivial⟩ ⟨.eq rfl,.pure rfl,trivial⟩ ?_
        have aK:=dg hk
        generalize oA L k 2=b at *
        generalize bH L k=k2 at *
        clear hk
        ((try revert hK K);(repeat' (first|refine Va @bl ?_|(refine Xi ?_ ?_<;>try intro ht)|fail)))
        · refine lN [] (.take 2 (.take 3 (.take 4 (.both 0 (.both 1 (.take 5 (.take 6 (.take 7 (.take 8 (.take 9 (.take 10 (.take 11 .nil))))))) 5 (.take 1 (.take 6 (.take 7 (.take 8 (.take 9 (.take 10 (.take 11 .nil)))))))) 5 (.take 0 (.take 1 (.take 6 (.take 7 (.take 8 (.take 9 (.take 10 (.take 11 .nil)))))))))))) rfl Ha (by decide +kernel) ?_
          simp (disch:=omega) only[Ac,↓Pc,simprocAttr,wm,sX,sY,ej,cQ]
          refine⟨⟨?_,?_⟩,?_⟩
          all_goals refine fD [0] (fP L k2 3 (by unfold df;omega) aK hL) Ha ⟨rfl,trivial⟩ ⟨.eq rfl,.pure rfl,trivial⟩ ?_
          all_goals have hn3:=iA (L:=L) (k:=k2) (n:=3) Ay
          all_goals have hk:=dg aK
          all_goals generalize cJ L k2 3=n3 at *
          all_goals generalize bH L k2=k at *
          all_goals clear aK
          all_goals simp (disch:=omega) only[Ac,↓Pc,simprocAttr,wm,sX,sY,ej,cQ]
          all_goals refine⟨⟨Ay,Ay⟩,Ay,?_⟩
          all_goals repeat (refine Xu ?_)
          all_goals ((repeat' (first|refine Va X0 ?_|fail)))
          all_goals refine eH _ (j+1,k,eE++[⟨i,j,1+n3⟩]) ⟨aaa,hk,hI.app hi' (by rw[bl];exact fW) ⟨Ay,Ay⟩⟩ aaa ?_
          all_goals unfold bT
          all_goals simp only[fR,dT]
          all_goals rw[show rowsOf kD eE++[[AV.lit (.int .i64 i),AV.lit (.int .i64 j),AV.lit (.int .i64 (1+n3))]]=rowsOf kD (eE++[⟨i,j,1+n3⟩]) from jR (enc:=kD) eE ⟨i,j,1+n3⟩]
          all_goals exact Xs false [0,1,2,3,4,5,6,9] X0
        · exact eH _ (j+1,k2,eE) ⟨aaa,aK,hI.mono Ay Ay⟩ aaa (by unfold bT;exact Xv (X2 @fR.{0} @dT.{0}))
      · ((repeat' (first|refine Va @bl ?_|(refine Xi ?_ ?_<;>try intro ht)|exact Xx|fail)))
        refine dJ _ _ rfl ?_
        clear eH dJ jC
        repeat (refine Xu ?_)
        refine Va X0 ?_
        exact aS _ (i+1,k,eE) ⟨aaa,hk,hI.mono Ay Ay⟩ aaa (by unfold bT;exact Xv (X2 @fR.{0} @dT.{0}))
    · ((repeat' (first|refine Va X0 ?_|(refine Xi ?_ ?_<;>try intro ht)|exact Xx|fail)))
      refine bf _ _ rfl ?_
      clear aS bf cC
      repeat (refine Xu ?_)
      refine cE (aC.qd 7 6 1 3 rfl rfl (by rw[cH];rfl) (gb _) (jt _)) ?_
      refine cE (σ':=⟨au [(0,.ptr 0 0 0),(6,.ptr 1 0 0),(7,.ptr 2 0 0),(19,aah (c'+1:Nat)),(20,.ptr 6 0 0)],
          bT L k cls ae aL R++[.var (dE ⟨n1,eE,n2,da⟩),.gone]⟩) (by unfold bT;exact Xv X0) ?_
      unfold bT
      simp only[fR,dT]
      refine Va @kI ?_
      refine an _ (c',k,aL++[⟨n1,eE,n2,da⟩]) ⟨aab,hk,?_⟩ aaa ?_
      · intro x hx
        rcases bj.1 hx with hx | hx
        · exact mX x hx
        · simp only[bm] at hx
          subst hx
          unfold fE gY
          simp only[bd,decide_eq_true_eq]
          exact⟨⟨⟨Ay,Ay⟩,G0⟩,hI.ok⟩
      · unfold bT
        rw[show rowsOf dE aL++[[AV.lit (.int .i64 n1),AV.tree 3 (rowsOf kD eE),AV.lit (.int .i64 n2),AV.lit (.int .i64 da)]]=rowsOf dE (aL++[⟨n1,eE,n2,da⟩]) from jR (enc:=dE) aL ⟨n1,eE,n2,da⟩]
        exact Xs false [0,1,2,3,4,9] X0
  obtain rfl:c=0:=Ay
  ((repeat' (first|refine Va X0 ?_|(refine Xi ?_ ?_<;>try intro ht)|exact Xx|fail)))
  refine ay _ _ rfl ?_;clear an ay Ql
  repeat (refine Xu ?_)
  refine Vb X0 ?_
  have Zz:MM ⟨cls,ae,aL,R⟩ gI options:=by
    refine⟨⟨aaa,λl hl=>by have:=(kT l hl).1;omega,GZ,aaa,aaa,λl hl o ho=>((kT l hl).2 o ho).1,?_,λx hx=>?_⟩,aaa,λl hl=>(kT l hl).1,uY,aaa,λl hl o ho=>((kT l hl).2 o ho).2⟩
    · exact (FB _ _).trans GY
    · exact (Ps _).trans (mX x hx)
  unfold gd
  simp only[dN,dO]
  simp (disch:=omega) only[Ac,↓Pc,simprocAttr]
  refine⟨_,_,⟨⟨cls,ae,aL,R⟩,k,Zz,hk,rfl,rfl⟩,?_⟩
  refine eU [0,4] true Ha ⟨⟨Dg,.inr rfl⟩,⟨Dg,.inr (by rw[we];rfl)⟩,trivial⟩ Ha Ha (a9.agg _ _ rfl (jQ.spec (R:=a9 _ _ _ _) (cs:=Db ⟨cls,ae,aL,R⟩) (ds:=[.ref 3 1 0 cls.length,.ref 4 4 0 ae.length,.ref 5 4 0 aL.length,aah R]) ⟨?_,.eq rfl,?_,.pure rfl,trivial⟩).2)
  · first|exact .pure rfl|exact .eq rfl|exact .fz rfl (by simp only[Bc,Rc])
  · first|exact .pure rfl|exact .eq rfl|exact .fz rfl (by simp only[Bc,Rc])
def XB(L:List Int)(k:Nat)(gI options:Nat)(hk:k<=L.length)(hL:L.length<1000000)(hc:gI<=24)(ho:options<=24)(CV:1<=options):
  eM Tryz.prog 20 [.ptr 0 0 0,aah gI,aah options] [c9 L k] (λr os=>∃ m k',MM m gI options/\k'<=L.length/\r=.agg (aA m)/\os=[c9 L k']) :=
 Zv (Zx L k gI options hk hL hc ho CV) λr os h=>by
  obtain⟨m,k',h1,h2,rfl,rfl⟩:=h;exact⟨_,_,⟨m,k',h1,h2,rfl,rfl⟩,Zw m _ (λ_=>rfl)⟩
def jh(L:List Int)(k:Nat):Int:=if cJ L k 5=0 then 1099511627776 else if cJ L k 5<=2 then 1+cJ L (bH L k) 30 else 0
def cU(L:List Int)(k:Nat):Nat:=if cJ L k 5=0 then bH L k else if cJ L k 5<=2 then bH L (bH L k) else bH L k
def xA(L:List Int)(k:Nat):0<=jh L k/\jh L k<=1099511627776/\(0<jh L k->fw (jh L k)=true):=by
 have ZA:=iA (L:=L) (k:=bH L k) (n:=30) Ay;unfold jh;split
 ·exact⟨Ay,Ay,λ_=>Ha⟩
 ·split
  ·refine⟨Ay,Ay,λ_=>?_⟩;rw[fw,decide_eq_true_eq];omega
  ·exact⟨Ay,Ay,Ay⟩
def sw{L:List Int}{k:Nat}(h:k<=L.length):cU L k<=L.length:=by
 unfold cU;split
 ·exact dg h
 ·split
  ·exact dg (dg h)
  ·exact dg h
def xB(L:List Int)(k:Nat)(hk:k<=L.length)(hL:L.length<1000000):ao Tryz.prog 46 [.ptr 0 0 0] [c9 L k] (aah (jh L k)) [c9 L (cU L k)]:=by
 have h5:=iA (L:=L) (k:=k) (n:=5) Ay;have ZA:=iA (L:=L) (k:=bH L k) (n:=30) Ay;unfold jh cU c9;refine ao.aO 13 1 [.tmp 2] Tryz.func46 ?_;repeat'(first|(refine Xr X0 ?_;intro K hK)|refine Xo X0 ?_|(refine hK _ ?_;clear hK K)|(refine Xg X0 ?_ ?_<;>try intro hb)|(refine Xi ?_ ?_<;>try intro ht)|refine Xz ?_|refine Xh ?_|(refine Xe ?_;first|refine aT rfl ?_|refine Xl ?_ ?_)|refine Xd ?_ ?_|exact Xx|fail)
 refine jU (fP L k 5 (by unfold df;omega) hk hL) Dg ?_;have aK:=dg hk;generalize cJ L k 5=v at *;generalize bH L k=k2 at *;repeat'(first|(refine Xr X0 ?_;intro K hK)|refine Xo X0 ?_|(refine hK _ ?_;clear hK K)|(refine Xg X0 ?_ ?_<;>try intro hb)|(refine Xi ?_ ?_<;>try intro ht)|refine Xz ?_|refine Xh ?_|(refine Xe ?_;first|refine aT rfl ?_|refine Xl ?_ ?_)|refine Xd ?_ ?_|exact Xx|fail)
 all_goals try first
  | (rw[if_pos (by assumption)];done)
  | (rw[if_neg Ay,if_neg Ay];done)
 all_goals
  refine jU (fP L k2 30 (by unfold df;omega) aK hL) Dg ?_;repeat'(first|(refine Xr X0 ?_;intro K hK)|refine Xo X0 ?_|(refine hK _ ?_;clear hK K)|(refine Xg X0 ?_ ?_<;>try intro hb)|(refine Xi ?_ ?_<;>try intro ht)|refine Xz ?_|refine Xh ?_|(refine Xe ?_;first|refine aT rfl ?_|refine Xl ?_ ?_)|refine Xd ?_ ?_|exact Xx|fail)
  all_goals(rw[if_neg Ay,if_pos Ay])
def xC(c1 c2 c3 c4:Int)(a b:bh):Int :=
 if a.room=b.room/\0<=a.room then(if 2*a.day+b.day=0 then 1099511627776 else if 2*a.day+b.day=1 then c1 else if 2*a.day+b.day=2 then c2 else 1099511627776)
 else(if 2*a.day+b.day=0 then c3 else if 2*a.day+b.day=2 then c4 else 0)
def sx(f:bh->bh->Int)(a:bh):List bh->List Int->List Int
 |[],acc=>acc
 |b::r,acc=>sx f a r (acc++[f a b])
def sy(f:bh->bh->Int)(lb:List bh):List bh->List Int->List Int
 |[],acc=>acc
 |a::r,acc=>sy f lb r (sx f a lb acc)
def Ak(l:List Int):Prop:=∀ x∈l,0<=x/\(0<x->fw x=true)
def RH{f:bh->bh->Int}{a:bh}(hf:∀ b,0<=f a b/\(0<f a b->fw (f a b)=true)):∀ (l:List bh) (acc:List Int),Ak acc->Ak (sx f a l acc)/\(sx f a l acc).length=acc.length+l.length
 |[],acc,h=>⟨h,rfl⟩
 |b::r,acc,h=>by
  rw[sx];obtain⟨h1,h2⟩:=RH hf r (acc++[f a b]) (λx hx=>by
   rcases bj.1 hx with h'|h'
   ·exact h x h'
   ·rw[bm.1 h'];exact hf b)
  exact⟨h1,by rw[h2];simp;omega⟩
def RJ{f:bh->bh->Int}(hf:∀ a b,0<=f a b/\(0<f a b->fw (f a b)=true))(lb:List bh):∀ (l:List bh) (acc:List Int),Ak acc->Ak (sy f lb l acc)/\(sy f lb l acc).length=acc.length+l.length*lb.length
 |[],acc,h=>⟨h,by simp[sy]⟩
 |a::r,acc,h=>by
  rw[sy];obtain⟨h1,h2⟩:=RH (hf a) lb acc h;obtain⟨h3,h4⟩:=RJ hf lb r _ h1;exact⟨h3,by rw[h4,h2,List.length_cons,eI,qU];omega⟩
def Dc(L:List Int)(d:Nat):Nat:=cU L (cU L (cU L (cU L d)))
def ZB{L:List Int}{d:Nat}(h:d<=L.length):Dc L d<=L.length:=sw (sw (sw (sw h)))
def vO(L:List Int)(d:Nat)(la lb:List bh):List Int:=sy (xC (jh L d) (jh L (cU L d)) (jh L (cU L (cU L d))) (jh L (cU L (cU L (cU L d))))) lb la []
def RK(L:List Int)(d:Nat)(la lb:List bh):Ak (vO L d la lb)/\(vO L d la lb).length=la.length*lb.length:=by
 have h:=RJ (f:=xC (jh L d) (jh L (cU L d)) (jh L (cU L (cU L d))) (jh L (cU L (cU L (cU L d))))) (λa b=>by
  have r1:=xA L d;have r2:=xA L (cU L d);have r3:=xA L (cU L (cU L d));have r4:=xA L (cU L (cU L (cU L d)));unfold xC;split
  ·split
   ·exact⟨Ha,λ_=>Ha⟩
   split
   ·exact⟨r1.1,r1.2.2⟩
   split
   ·exact⟨r2.1,r2.2.2⟩
   ·exact⟨Ha,λ_=>Ha⟩
  ·split
   ·exact⟨r3.1,r3.2.2⟩
   split
   ·exact⟨r4.1,r4.2.2⟩
   ·exact⟨Ha,λh=>Ay⟩) lb la [] (λx hx=>by simp at hx)
 exact⟨h.1,by rw[vO,h.2];simp⟩
def ZC(L:List Int)(d:Nat)(cls:List (List bh))(ae:List Pr)(R:Int)(i k:Nat)(hd:d<=L.length)(hL:L.length<1000000)(hi:i<cls.length)(hk:k<cls.length)(hb:cls.length<=24)(hl:∀ l∈cls,l.length<=24/\∀ o∈l,0<=o.day/\o.day<=1):
  ao Tryz.prog 47 [.ptr 0 0 0,.agg [.tree 1 (rowsOf bk cls),.ref 1 4 0 ae.length,.lit (.slice none 0 0),aah R],aah i,aah k] [c9 L d,.arr 4 (rowsOf bL ae)]
   (.agg (bL ⟨i,k,1,vO L d (cls.getD i default) (cls.getD k default)⟩)) [c9 L (Dc L d),.arr 4 (rowsOf bL ae)]:=by
 have vy:=hl _ (aG (d:=default) hi);have lq:=hl _ (aG (d:=default) hk);generalize tX:cls.getD i default=la at *;generalize xD:cls.getD k default=lb at *;have e1:=xB L d hd hL;have d1:=sw hd;have e2:=xB L _ d1 hL;have d2:=sw d1;have e3:=xB L _ d2 hL;have d3:=sw d2;have e4:=xB L _ d3 hL;have RL:=(RK L d la lb).2;generalize az:vO L d la lb=res at *;unfold vO at az;unfold Dc;generalize jh L (cU L (cU L (cU L d)))=c4 at *;generalize cU L (cU L (cU L (cU L d)))=k4 at *;generalize jh L (cU L (cU L d))=c3 at *;generalize cU L (cU L (cU L d))=k3 at *;generalize jh L (cU L d)=c2 at *;generalize cU L (cU L d)=k2 at *;generalize jh L d=c1 at *;generalize cU L d=k1 at *;generalize hf:xC c1 c2 c3 c4=f at *;unfold c9 at *;refine ao.aO 103 2 [.cell 8 65] Tryz.func47 ?_;((try revert hK K);(repeat'(first|refine Vb X0 ?_|(refine V2 X0 ?_ ?_<;>try with_reducible intro hb)|(refine Xi ?_ ?_<;>try intro ht)|refine VD ?_ ?_|exact Xx|fail))<;>try with_reducible intro K hK)
 (refine Xn [0] (e1) ?_;simp(disch:=omega)only[Ac,↓Pc,simprocAttr])
 ((try revert hK K);(repeat'(first|refine Vb X0 ?_|(refine V2 X0 ?_ ?_<;>try with_reducible intro hb)|(refine Xi ?_ ?_<;>try intro ht)|refine VD ?_ ?_|exact Xx|fail))<;>try with_reducible intro K hK)
 (refine Xn [0] (e2) ?_;simp(disch:=omega)only[Ac,↓Pc,simprocAttr])
 ((try revert hK K);(repeat'(first|refine Vb X0 ?_|(refine V2 X0 ?_ ?_<;>try with_reducible intro hb)|(refine Xi ?_ ?_<;>try intro ht)|refine VD ?_ ?_|exact Xx|fail))<;>try with_reducible intro K hK)
 (refine Xn [0] (e3) ?_;simp(disch:=omega)only[Ac,↓Pc,simprocAttr])
 ((try revert hK K);(repeat'(first|refine Vb X0 ?_|(refine V2 X0 ?_ ?_<;>try with_reducible intro hb)|(refine Xi ?_ ?_<;>try intro ht)|refine VD ?_ ?_|exact Xx|fail))<;>try with_reducible intro K hK)
 (refine Xn [0] (e4) ?_;simp(disch:=omega)only[Ac,↓Pc,simprocAttr])
 ((try revert hK K);(repeat'(first|refine Vb X0 ?_|(refine V2 X0 ?_ ?_<;>try with_reducible intro hb)|(refine Xi ?_ ?_<;>try intro ht)|refine VD ?_ ?_|exact Xx|fail))<;>try with_reducible intro K hK)
 refine aX (λz:Nat×List Int=>(⟨au [(2,aah i),(3,aah k),(5,.ptr 2 0 0),(8,.ptr 3 0 0),(9,.ptr 4 0 0),(10,.ptr 5 0 0),(11,.ptr 6 0 0),(12,aah z.1)],
   [.var [.tree 1 (ints L),aah k4],.arr 4 (rowsOf bL ae),.var [.tree 1 (rowsOf bk cls),.ref 1 4 0 ae.length,.lit (.slice none 0 0),aah R],.var [aah 0,aah 0,aah 0,.lit (.slice none 0 0)],.var [aah i,aah k,aah 1,.ref 7 1 0 z.2.length],
    .var [aah 1099511627776,aah c1,aah c2,aah 1099511627776],.var [aah c3,aah 0,aah c4,aah 0],.arr 1 (ints z.2)]⟩:St))
  (λz=>z.1<=la.length/\z.2.length=z.1*lb.length/\sy f lb (la.drop z.1) z.2=res) (λz=>la.length-z.1) (0,[]) ⟨aN _,Dg,az⟩ ?_ ?_
 ·refine aC.trans (aC.n5 4 3 1 rfl rfl Ha) ?_;exact Xv X0
 rintro⟨x,bg⟩⟨hx,ht,hr⟩Ql an ay;dsimp only at hx ht hr ⊢;by_cases cd:x<la.length
 ·have ZD:=cF la x default cd;have wX:=vy.2 _ (aG (l:=la) (i:=x) (d:=default) cd);have Uz:x*lb.length<=24*24:=Hm Ay lq.1;have rW:(x+1)*lb.length=x*lb.length+lb.length:=by rw[eI,qU]
  generalize bK:x*lb.length=xb at *;generalize Dd:la.getD x default=oa at *;rw[ZD,sy]at hr;generalize RM:sx f oa lb bg=ZE at hr;((try revert hK K);(repeat'(first|refine Va @tX ?_|(refine V2 @tX ?_ ?_<;>try with_reducible intro hb)|(refine Xi ?_ ?_<;>try intro ht)|refine VD ?_ ?_|exact Xx|fail))<;>try with_reducible intro K hK)
  refine aX (λz:Nat×List Int=>(⟨au [(2,aah i),(3,aah k),(5,.ptr 2 0 0),(8,.ptr 3 0 0),(9,.ptr 4 0 0),(10,.ptr 5 0 0),(11,.ptr 6 0 0),(12,aah x),(13,aah z.1)],
    [.var [.tree 1 (ints L),aah k4],.arr 4 (rowsOf bL ae),.var [.tree 1 (rowsOf bk cls),.ref 1 4 0 ae.length,.lit (.slice none 0 0),aah R],.var [aah 0,aah 0,aah 0,.lit (.slice none 0 0)],.var [aah i,aah k,aah 1,.ref 7 1 0 z.2.length],
    .var [aah 1099511627776,aah c1,aah c2,aah 1099511627776],.var [aah c3,aah 0,aah c4,aah 0],.arr 1 (ints z.2)]⟩:St))
   (λz=>z.1<=lb.length/\z.2.length=xb+z.1/\sx f oa (lb.drop z.1) z.2=ZE) (λz=>lb.length-z.1) (0,bg) ⟨aN _,aaa,RM⟩ (Xv X0) ?_
  clear ht RM;rintro⟨y,bg⟩⟨hy,ht,ga⟩cC aS bf;dsimp only at hy ht ga ⊢;by_cases B6:y<lb.length
  ·have ZF:=cF lb y default B6;have GS:=lq.2 _ (aG (l:=lb) (i:=y) (d:=default) B6);generalize bb:lb.getD y default=ob at *;rw[ZF,sx]at ga;have gL:f oa ob=xC c1 c2 c3 c4 oa ob:=by rw[hf]
   unfold xC at gL;repeat'(first|((fail_if_success (first|refine gP 12 ?_|refine gQ 12 ?_));refine Xr (X4 @tX @xD @Dd @bb) ?_;intro K hK)|refine Xo (X4 @tX @xD @Dd @bb) ?_|(refine hK _ ?_;clear hK K)|(refine Xg (X4 @tX @xD @Dd @bb) ?_ ?_<;>try intro hb)|(refine Xi ?_ ?_<;>try intro ht)|refine Xy ?_|refine Xd ?_ ?_|exact Xx|fail)
   refine EO ?_;intro Q hn he;refine uK ⟨au [(2,aah i),(3,aah k),(5,.ptr 2 0 0),(8,.ptr 3 0 0),(9,.ptr 4 0 0),(10,.ptr 5 0 0),(11,.ptr 6 0 0),(12,aah x),(13,aah y),(14,.ptr 8 0 0),(15,.ptr 9 0 0)],
    [.var [.tree 1 (ints L),aah k4],.arr 4 (rowsOf bL ae),.var [.tree 1 (rowsOf bk cls),.ref 1 4 0 ae.length,.lit (.slice none 0 0),aah R],.var [aah 0,aah 0,aah 0,.lit (.slice none 0 0)],.var [aah i,aah k,aah 1,.ref 7 1 0 bg.length],
    .var [aah 1099511627776,aah c1,aah c2,aah 1099511627776],.var [aah c3,aah 0,aah c4,aah 0],.arr 1 (ints bg),
     .var [aah oa.wk,aah oa.day,aah oa.st,aah oa.len,aah oa.room],.var [aah ob.wk,aah ob.day,aah ob.st,aah ob.len,aah ob.room]]⟩ hn ?_ (λkey=>?_)
   rotate_left
   ·refine lN [] (.take 0 (.take 1 (.take 2 (.take 3 (.take 4 (.take 5 (.take 6 (.take 7 (.take 8 (.take 9 (.take 11 (.take 14 (.three 10 (.take 12 (.three 13 (.take 15 (.take 16 (.three 17 (.both 18 (.take 19 (.take 20 (.take 21 .nil))) 19 (.take 18 (.take 20 (.take 21 .nil)))) 18 (.both 17 (.take 19 (.take 20 (.take 21 .nil))) 19 (.both 17 (.take 20 (.take 21 .nil)) 20 (.take 17 (.take 21 .nil)))) 19 (.both 17 (.take 18 (.take 20 (.take 21 .nil))) 18 (.both 17 (.take 20 (.take 21 .nil)) 20 (.take 17 (.take 21 .nil))))))) 18 (.both 13 (.take 15 (.take 16 (.both 17 (.take 19 (.take 20 (.take 21 .nil))) 19 (.both 17 (.take 20 (.take 21 .nil)) 20 (.take 17 (.take 21 .nil)))))) 19 (.both 13 (.take 15 (.take 16 (.both 17 (.take 20 (.take 21 .nil)) 20 (.take 17 (.take 21 .nil))))) 20 (.take 13 (.take 15 (.take 16 (.take 17 (.take 21 .nil))))))) 19 (.both 13 (.take 15 (.take 16 (.both 17 (.take 18 (.take 20 (.take 21 .nil))) 18 (.both 17 (.take 20 (.take 21 .nil)) 20 (.take 17 (.take 21 .nil)))))) 18 (.both 13 (.take 15 (.take 16 (.both 17 (.take 20 (.take 21 .nil)) 20 (.take 17 (.take 21 .nil))))) 20 (.take 13 (.take 15 (.take 16 (.take 17 (.take 21 .nil))))))))) 18 (.both 10 (.take 12 (.both 13 (.take 15 (.take 16 (.both 17 (.take 19 (.take 20 (.take 21 .nil))) 19 (.both 17 (.take 20 (.take 21 .nil)) 20 (.take 17 (.take 21 .nil)))))) 19 (.both 13 (.take 15 (.take 16 (.both 17 (.take 20 (.take 21 .nil)) 20 (.take 17 (.take 21 .nil))))) 20 (.take 13 (.take 15 (.take 16 (.take 17 (.take 21 .nil)))))))) 19 (.both 10 (.take 12 (.both 13 (.take 15 (.take 16 (.both 17 (.take 20 (.take 21 .nil)) 20 (.take 17 (.take 21 .nil))))) 20 (.take 13 (.take 15 (.take 16 (.take 17 (.take 21 .nil))))))) 20 (.take 10 (.take 12 (.take 13 (.take 15 (.take 16 (.take 17 (.take 21 .nil))))))))) 19 (.both 10 (.take 12 (.both 13 (.take 15 (.take 16 (.both 17 (.take 18 (.take 20 (.take 21 .nil))) 18 (.both 17 (.take 20 (.take 21 .nil)) 20 (.take 17 (.take 21 .nil)))))) 18 (.both 13 (.take 15 (.take 16 (.both 17 (.take 20 (.take 21 .nil)) 20 (.take 17 (.take 21 .nil))))) 20 (.take 13 (.take 15 (.take 16 (.take 17 (.take 21 .nil)))))))) 18 (.both 10 (.take 12 (.both 13 (.take 15 (.take 16 (.both 17 (.take 20 (.take 21 .nil)) 20 (.take 17 (.take 21 .nil))))) 20 (.take 13 (.take 15 (.take 16 (.take 17 (.take 21 .nil))))))) 20 (.take 10 (.take 12 (.take 13 (.take 15 (.take 16 (.take 17 (.take 21 .nil)))))))))))))))))))))) rfl Ha (by decide +kernel) ?_;simp(disch:=omega)only[Ac,↓Pc,simprocAttr,Pw,tX,xD,Dd,bb];repeat'(first|with_reducible refine And.intro ?_ ?_|omega|with_reducible rfl)
    all_goals refine key _ ?_
    all_goals first|((refine aC.au _ _ rfl ?_;simp only[Tc,↓reduceIte,Nat.reduceEqDiff,Hw,Nat.reduceAdd];try trivial);done)|((refine aC.se [0,1,2,3,4,5,6,7,8,9] false (by simp only[Oc,simprocAttr]) ?_;simp only[Hr,↓reduceIte,Nat.reduceEqDiff,Hw,Nat.reduceAdd];try(and_intros<;>first|exact .pure rfl|exact .eq rfl|exact .fz rfl (by simp only[Bc,Rc])));done)|((refine aC.se [0,1,2,3,4,5,6,7,9,8] false (by simp only[Oc,simprocAttr]) ?_;simp only[Hr,↓reduceIte,Nat.reduceEqDiff,Hw,Nat.reduceAdd];try(and_intros<;>first|exact .pure rfl|exact .eq rfl|exact .fz rfl (by simp only[Bc,Rc])));done)
   (try clear hn;try clear he)
   try(try clear Q)
   have xE:oa.day=0\/oa.day=1:=Ay;have xF:ob.day=0\/ob.day=1:=Ay;rcases xE with xE|xE<;>rcases xF with xF|xF;all_goals
    rw[xE,xF]at gL;((try revert hK K);(repeat'(first|refine Va (X2 @xE @xF) ?_|(refine V2 (X2 @xE @xF) ?_ ?_<;>try with_reducible intro hb)|(refine Xi ?_ ?_<;>try intro ht)|refine VD ?_ ?_|exact Xx|fail))<;>try with_reducible intro K hK)
   ·rw[if_pos Ay]at gL;refine aS _ (y+1,bg++[1099511627776]) ⟨aaa,aab,?_⟩ aaa (Xs false [0,1,2,3,4,5,6,11] X0);rw[show f oa ob=1099511627776 from gL]at ga;exact ga
   ·rw[if_neg Ay]at gL;refine aS _ (y+1,bg++[c3]) ⟨aaa,aab,?_⟩ aaa (Xs false [0,1,2,3,4,5,6,11] X0);rw[show f oa ob=c3 from gL]at ga;exact ga
   ·rw[if_neg Ay]at gL;refine aS _ (y+1,bg++[c3]) ⟨aaa,aab,?_⟩ aaa (Xs false [0,1,2,3,4,5,6,11] X0);rw[show f oa ob=c3 from gL]at ga;exact ga
   ·rw[if_pos Ay]at gL;refine aS _ (y+1,bg++[c1]) ⟨aaa,aab,?_⟩ aaa (Xs false [0,1,2,3,4,5,6,11] X0);rw[show f oa ob=c1 from gL]at ga;exact ga
   ·rw[if_neg Ay]at gL;refine aS _ (y+1,bg++[0]) ⟨aaa,aab,?_⟩ aaa (Xs false [0,1,2,3,4,5,6,11] X0);rw[show f oa ob=0 from gL]at ga;exact ga
   ·rw[if_neg Ay]at gL;refine aS _ (y+1,bg++[0]) ⟨aaa,aab,?_⟩ aaa (Xs false [0,1,2,3,4,5,6,11] X0);rw[show f oa ob=0 from gL]at ga;exact ga
   ·rw[if_pos Ay]at gL;refine aS _ (y+1,bg++[c2]) ⟨aaa,aab,?_⟩ aaa (Xs false [0,1,2,3,4,5,6,11] X0);rw[show f oa ob=c2 from gL]at ga;exact ga
   ·rw[if_neg Ay]at gL;refine aS _ (y+1,bg++[c4]) ⟨aaa,aab,?_⟩ aaa (Xs false [0,1,2,3,4,5,6,11] X0);rw[show f oa ob=c4 from gL]at ga;exact ga
   ·rw[if_neg Ay]at gL;refine aS _ (y+1,bg++[c4]) ⟨aaa,aab,?_⟩ aaa (Xs false [0,1,2,3,4,5,6,11] X0);rw[show f oa ob=c4 from gL]at ga;exact ga
   ·rw[if_pos Ay]at gL;refine aS _ (y+1,bg++[1099511627776]) ⟨aaa,aab,?_⟩ aaa (Xs false [0,1,2,3,4,5,6,11] X0);rw[show f oa ob=1099511627776 from gL]at ga;exact ga
   ·rw[if_neg Ay]at gL;refine aS _ (y+1,bg++[0]) ⟨aaa,aab,?_⟩ aaa (Xs false [0,1,2,3,4,5,6,11] X0);rw[show f oa ob=0 from gL]at ga;exact ga
   ·rw[if_neg Ay]at gL;refine aS _ (y+1,bg++[0]) ⟨aaa,aab,?_⟩ aaa (Xs false [0,1,2,3,4,5,6,11] X0);rw[show f oa ob=0 from gL]at ga;exact ga
  ·((try revert hK K);(repeat'(first|refine Va @xD ?_|(refine V2 @xD ?_ ?_<;>try with_reducible intro hb)|(refine Xi ?_ ?_<;>try intro ht)|refine VD ?_ ?_|exact Xx|fail))<;>try with_reducible intro K hK)
   rw[dw Ay,sx]at ga;refine bf _ _ rfl ?_;clear aS bf cC;repeat(first|refine Xu ?_)
   ((try revert hK K);(repeat'(first|refine Va X0 ?_|(refine V2 X0 ?_ ?_<;>try with_reducible intro hb)|(refine Xi ?_ ?_<;>try intro ht)|refine VD ?_ ?_|exact Xx|fail))<;>try with_reducible intro K hK)
   exact an _ (x+1,bg) ⟨aaa,aaa,by rw[ga];exact hr⟩ aaa (Xv X0)
 ·((try revert hK K);(repeat'(first|refine Va @tX ?_|(refine V2 @tX ?_ ?_<;>try with_reducible intro hb)|(refine Xi ?_ ?_<;>try intro ht)|refine VD ?_ ?_|exact Xx|fail))<;>try with_reducible intro K hK)
  rw[dw Ay,sy]at hr;refine ay _ _ rfl ?_;clear an ay Ql;repeat(first|refine Xu ?_)
  refine cE (aC.qd 7 4 3 1 rfl rfl (by rw[rj];rfl) (kF _) (n9 _)) ?_;((try revert hK K);(repeat'(first|refine Vb X0 ?_|(refine V2 X0 ?_ ?_<;>try with_reducible intro hb)|(refine Xi ?_ ?_<;>try intro ht)|refine VD ?_ ?_|exact Xx|fail))<;>try with_reducible intro K hK)
  rw[<- hr];simp(disch:=omega)only[Ac,↓Pc,simprocAttr,dO];exact Xw true [0,1] X0
def ZG(L:List Int)(d:Nat)(m:ah)(bG:Nat)(hd:d<=L.length)(hL:L.length<1000000)(hb:m.cls.length<=24)(Ey:bG<=24)(dH:1<m.rules)(hl:∀ l∈m.cls,l.length<=24):
  eM Tryz.prog 48 [.ptr 0 0 0,.agg (aA m),aah bG] [c9 L d] (λr os=>∃ aL d',d'<=L.length/\aL.length<=2*bG/\(∀ c∈aL,fE ⟨m.cls,[],[],m.rules⟩ c=true)/\r=.tree 4 (rowsOf dE aL)/\os=[c9 L d']):=by
 unfold c9;have pO:∀ i,(m.cls.getD i default).length<=24:=λi=>by
  rcases dD i m.cls.length with h|h
  ·exact hl _ (aG (d:=default) h)
  ·rw[aw,iF h];decide
 refine eM.aO 102 1 [.tmp 6] Tryz.func48 ?_;((try revert hK K);(repeat'(first|refine Vb X0 ?_|(refine V2 X0 ?_ ?_<;>try with_reducible intro hb)|(refine Xi ?_ ?_<;>try intro ht)|refine VD ?_ ?_|exact Xx|fail))<;>try with_reducible intro K hK)
 refine aX (λz:Nat×Nat×List Int=>(⟨au [(0,.ptr 0 0 0),(2,aah bG),(4,.ptr 1 0 0),(7,.ref 2 1 0 z.2.2.length),(8,aah z.1)],[.var [.tree 1 (ints L),aah z.2.1],.var (aA m),.arr 1 (ints z.2.2)]⟩:St))
  (λz=>z.1<=m.cls.length/\z.2.1<=L.length/\z.2.2.length=z.1/\∀ x∈z.2.2,1<=x/\x<=3) (λz=>m.cls.length-z.1) (0,d,[]) ⟨aN _,hd,rfl,Dg⟩ ?_ ?_
 ·refine aC.trans (aC.nil 7 1 (by simp only[Kc,simprocAttr]) Ha) ?_;exact Xv X0
 clear hd;rintro⟨i,d,ws⟩⟨hi,hd,ZH,G1⟩Ql an ay;dsimp only at hi hd ZH G1 ⊢;by_cases hi':i<m.cls.length
 ·((try revert hK K);(repeat'(first|refine Va X0 ?_|(refine V2 X0 ?_ ?_<;>try with_reducible intro hb)|(refine Xi ?_ ?_<;>try intro ht)|refine VD ?_ ?_|exact Xx|fail))<;>try with_reducible intro K hK)
  refine fD [0] (fP L d 3 (by unfold df;omega) hd hL) Ha ⟨rfl,trivial⟩ ⟨.eq rfl,.pure rfl,trivial⟩ ?_;have lM:=iA (L:=L) (k:=d) (n:=3) Ay;have gx:=dg hd;generalize cJ L d 3=n1 at *;generalize bH L d=d2 at *;clear hd;((try revert hK K);(repeat'(first|refine Va X0 ?_|(refine V2 X0 ?_ ?_<;>try with_reducible intro hb)|(refine Xi ?_ ?_<;>try intro ht)|refine VD ?_ ?_|exact Xx|fail))<;>try with_reducible intro K hK)
  refine an _ (i+1,d2,ws++[1+n1]) ⟨aaa,gx,aab,λx hx=>?_⟩ aaa (Xs false [0,1,4] X0);rcases bj.1 hx with h|h
  ·exact G1 x h
  ·rw[bm.1 h];omega
 obtain rfl:i=m.cls.length:=Ay;((try revert hK K);(repeat'(first|refine Va X0 ?_|(refine V2 X0 ?_ ?_<;>try with_reducible intro hb)|(refine Xi ?_ ?_<;>try intro ht)|refine VD ?_ ?_|exact Xx|fail))<;>try with_reducible intro K hK)
 refine ay _ _ rfl ?_;clear an ay Ql;repeat(first|refine Xu ?_)
 clear hi hi';refine cE (σ':=⟨au [(0,.ptr 0 0 0),(2,aah bG),(4,.ptr 1 0 0),(7,.tree 1 (ints ws))],[.var [.tree 1 (ints L),aah d],.var (aA m)]⟩) (Xs true [0,1] X0) ?_;((try revert hK K);(repeat'(first|refine Va X0 ?_|(refine V2 X0 ?_ ?_<;>try with_reducible intro hb)|(refine Xi ?_ ?_<;>try intro ht)|refine VD ?_ ?_|exact Xx|fail))<;>try with_reducible intro K hK)
 refine aX (λz:Nat×Nat×List Ct=>(⟨au [(0,.ptr 0 0 0),(2,aah bG),(4,.ptr 1 0 0),(7,.tree 1 (ints ws)),(9,.ref 2 4 0 z.2.2.length),(10,aah z.1)],[.var [.tree 1 (ints L),aah z.2.1],.var (aA m),.arr 4 (rowsOf dE z.2.2)]⟩:St))
  (λz=>z.1<=2/\z.2.1<=L.length/\z.2.2.length<=z.1*bG/\∀ x∈z.2.2,fE ⟨m.cls,[],[],m.rules⟩ x=true) (λz=>2-z.1) (0,d,[]) ⟨aN _,hd,aN _,Dg⟩ ?_ ?_
 ·refine aC.trans (aC.nil 9 4 (by simp only[Kc,simprocAttr]) Ha) ?_;exact Xv X0
 clear hd;rintro⟨t,d,aL⟩⟨fv,hd,cS,mX⟩Ql an ay;dsimp only at fv hd cS mX ⊢;by_cases ZI:t<2
 ·have ZJ:t*bG<=24:=by
   have:t*bG<=1*bG:=Nat.mul_le_mul_right _ Ay;omega
  have ZK:(t+1)*bG=t*bG+bG:=by rw[eI,qU]
  generalize t*bG=tr at *;((try revert hK K);(repeat'(first|refine Va X0 ?_|(refine V2 X0 ?_ ?_<;>try with_reducible intro hb)|(refine Xi ?_ ?_<;>try intro ht)|refine VD ?_ ?_|exact Xx|fail))<;>try with_reducible intro K hK)
  refine fD [0] (fP L d 5 (by unfold df;omega) hd hL) Ha ⟨rfl,trivial⟩ ⟨.eq rfl,.pure rfl,trivial⟩ ?_;have iV:=iA (L:=L) (k:=d) (n:=5) Ay;have gx:=dg hd;generalize cJ L d 5=n2 at *;generalize bH L d=d2 at *;clear hd;((try revert hK K);(repeat'(first|refine Va X0 ?_|(refine V2 X0 ?_ ?_<;>try with_reducible intro hb)|(refine Xi ?_ ?_<;>try intro ht)|refine VD ?_ ?_|exact Xx|fail))<;>try with_reducible intro K hK)
  refine fD [0] (xB L d2 gx hL) Ha ⟨rfl,trivial⟩ ⟨.eq rfl,trivial⟩ ?_;obtain⟨nZ,qc,sv⟩:=xA L d2;have hd:=sw gx;generalize jh L d2=cv at *;generalize cU L d2=d at *;clear gx;have G0:fw (max 1 cv)=true:=by
   by_cases h0:0<cv
   ·rw[show max 1 cv=cv by omega];exact sv h0
   ·rw[show max 1 cv=1 by omega];decide
  generalize cg:max 1 cv=da at *;unfold c9;((try revert hK K);(repeat'(first|refine Va @cg ?_|(refine V2 @cg ?_ ?_<;>try with_reducible intro hb)|(refine Xi ?_ ?_<;>try intro ht)|refine VD ?_ ?_|exact Xx|fail))<;>try with_reducible intro K hK)
  refine aX (λz:Nat×List Ct=>(⟨au [(0,.ptr 0 0 0),(2,aah bG),(4,.ptr 1 0 0),(7,.tree 1 (ints ws)),(9,.ref 2 4 0 z.2.length),(10,aah t),(11,aah n2),(12,aah da),(13,aah z.1)],[.var [.tree 1 (ints L),aah d],.var (aA m),.arr 4 (rowsOf dE z.2)]⟩:St))
   (λz=>z.1<=bG/\z.2.length<=tr+z.1/\∀ x∈z.2,fE ⟨m.cls,[],[],m.rules⟩ x=true) (λz=>bG-z.1) (0,aL) ⟨aN _,aaa,mX⟩ (Xv X0) ?_
  clear cS mX;rintro⟨r,aL⟩⟨hr,cS,mX⟩cC aS bf;dsimp only at hr cS mX ⊢;by_cases mC:r<bG
  ·((try revert hK K);(repeat'(first|refine Va X0 ?_|(refine V2 X0 ?_ ?_<;>try with_reducible intro hb)|(refine Xi ?_ ?_<;>try intro ht)|refine VD ?_ ?_|exact Xx|fail))<;>try with_reducible intro K hK)
   refine aX (λz:Nat×List Ld=>(⟨au [(0,.ptr 0 0 0),(2,aah bG),(4,.ptr 1 0 0),(7,.tree 1 (ints ws)),(9,.ref 2 4 0 aL.length),(10,aah t),(11,aah n2),(12,aah da),(13,aah r),(14,.ptr 3 0 0),(15,aah z.1)],
     [.var [.tree 1 (ints L),aah d],.var (aA m),.arr 4 (rowsOf dE aL),.var [aah 1,.ref 4 3 0 z.2.length,aah n2,aah da],.arr 3 (rowsOf kD z.2)]⟩:St))
    (λz=>z.1<=m.cls.length/\qI m.cls m.rules z.2 z.1 0) (λz=>m.cls.length-z.1) (0,[]) ⟨aN _,rfl,Dg,Dg⟩ ?_ ?_
   ·refine aC.trans (aC.n5 3 1 3 rfl rfl Ha) ?_;exact Xv X0
   rintro⟨i,eE⟩⟨hi,hI⟩jC eH dJ;dsimp only at hi hI ⊢;by_cases hi':i<m.cls.length
   ·have od:=pO i;have hwi:=G1 _ (aG (l:=ws) (i:=i) (d:=0) Ay);generalize C9:ws.getD i 0=w at *;generalize bl:m.cls.getD i default=li at *;((try revert hK K);(repeat'(first|refine Va @bl ?_|(refine V2 @bl ?_ ?_<;>try with_reducible intro hb)|(refine Xi ?_ ?_<;>try intro ht)|refine VD ?_ ?_|exact Xx|fail))<;>try with_reducible intro K hK)
    refine aX (λz:Nat×List Ld=>(⟨au [(0,.ptr 0 0 0),(2,aah bG),(4,.ptr 1 0 0),(7,.tree 1 (ints ws)),(9,.ref 2 4 0 aL.length),(10,aah t),(11,aah n2),(12,aah da),(13,aah r),(14,.ptr 3 0 0),(15,aah i),(16,aah z.1)],
      [.var [.tree 1 (ints L),aah d],.var (aA m),.arr 4 (rowsOf dE aL),.var [aah 1,.ref 4 3 0 z.2.length,aah n2,aah da],.arr 3 (rowsOf kD z.2)]⟩:St))
     (λz=>z.1<=li.length/\qI m.cls m.rules z.2 i z.1) (λz=>li.length-z.1) (0,eE) ⟨aN _,hI⟩ (Xv X0) ?_
    clear hI;rintro⟨j,eE⟩⟨hj,hI⟩tQ pY ja;dsimp only at hj hI ⊢;have Zy:=hI.len;by_cases fW:j<li.length
    ·generalize fO:li.getD j default=o at *;((try revert hK K);(repeat'(first|refine Va (X3 @bl @fO @C9) ?_|(refine V2 (X3 @bl @fO @C9) ?_ ?_<;>try with_reducible intro hb)|(refine Xi ?_ ?_<;>try intro ht)|refine VD ?_ ?_|exact Xx|fail))<;>try with_reducible intro K hK)
     ·rw[show rowsOf kD eE++[[AV.lit (.int .i64 i),AV.lit (.int .i64 j),AV.lit (.int .i64 w)]]=rowsOf kD (eE++[⟨i,j,w⟩]) from jR (enc:=kD) eE ⟨i,j,w⟩];refine pY _ (j+1,eE++[⟨i,j,w⟩]) ⟨aaa,hI.app hi' (by rw[bl];exact fW) ⟨Ay,Ay⟩⟩ aaa ?_;exact Xs false [0,1,2,3,7] X0
     all_goals exact pY _ (j+1,eE) ⟨aaa,hI.mono Ay Ay⟩ aaa (Xs false [0,1,2,3,4] X0)
    ·((try revert hK K);(repeat'(first|refine Va @bl ?_|(refine V2 @bl ?_ ?_<;>try with_reducible intro hb)|(refine Xi ?_ ?_<;>try intro ht)|refine VD ?_ ?_|exact Xx|fail))<;>try with_reducible intro K hK)
     refine ja _ _ rfl ?_;clear pY ja tQ;repeat(first|refine Xu ?_)
     ((try revert hK K);(repeat'(first|refine Va X0 ?_|(refine V2 X0 ?_ ?_<;>try with_reducible intro hb)|(refine Xi ?_ ?_<;>try intro ht)|refine VD ?_ ?_|exact Xx|fail))<;>try with_reducible intro K hK)
     exact eH _ (i+1,eE) ⟨aaa,hI.mono Ay Ay⟩ aaa (Xv X0)
   ·((try revert hK K);(repeat'(first|refine Va X0 ?_|(refine V2 X0 ?_ ?_<;>try with_reducible intro hb)|(refine Xi ?_ ?_<;>try intro ht)|refine VD ?_ ?_|exact Xx|fail))<;>try with_reducible intro K hK)
    refine dJ _ _ rfl ?_;clear eH dJ jC;repeat(first|refine Xu ?_)
    refine cE (aC.qd 4 3 1 3 rfl rfl (by rw[cH];rfl) (gb _) (jt _)) ?_;refine cE (σ':=⟨au [(0,.ptr 0 0 0),(2,aah bG),(4,.ptr 1 0 0),(7,.tree 1 (ints ws)),(9,.ref 2 4 0 aL.length),(10,aah t),(11,aah n2),(12,aah da),(13,aah r),(14,.ptr 3 0 0)],
      [.var [.tree 1 (ints L),aah d],.var (aA m),.arr 4 (rowsOf dE aL),.var (dE ⟨1,eE,n2,da⟩),.gone]⟩) (Xv X0) ?_
    ((try revert hK K);(repeat'(first|refine Va X0 ?_|(refine V2 X0 ?_ ?_<;>try with_reducible intro hb)|(refine Xi ?_ ?_<;>try intro ht)|refine VD ?_ ?_|exact Xx|fail))<;>try with_reducible intro K hK)
    rw[show rowsOf dE aL++[[AV.lit (.int .i64 1),AV.tree 3 (rowsOf kD eE),AV.lit (.int .i64 n2),AV.lit (.int .i64 da)]]=rowsOf dE (aL++[⟨1,eE,n2,da⟩]) from jR (enc:=dE) aL ⟨1,eE,n2,da⟩];refine aS _ (r+1,aL++[⟨1,eE,n2,da⟩]) ⟨aaa,aab,λx hx=>?_⟩ aaa ?_
    ·rcases bj.1 hx with hx|hx
     ·exact mX x hx
     ·simp only[bm]at hx;subst hx;unfold fE gY;simp only[bd,decide_eq_true_eq];exact⟨⟨⟨Ay,Ay⟩,G0⟩,hI.ok⟩
    ·exact Xs false [0,1,6] X0
  ·((try revert hK K);(repeat'(first|refine Va X0 ?_|(refine V2 X0 ?_ ?_<;>try with_reducible intro hb)|(refine Xi ?_ ?_<;>try intro ht)|refine VD ?_ ?_|exact Xx|fail))<;>try with_reducible intro K hK)
   refine bf _ _ rfl ?_;clear aS bf cC;repeat(first|refine Xu ?_)
   ((try revert hK K);(repeat'(first|refine Va X0 ?_|(refine V2 X0 ?_ ?_<;>try with_reducible intro hb)|(refine Xi ?_ ?_<;>try intro ht)|refine VD ?_ ?_|exact Xx|fail))<;>try with_reducible intro K hK)
   exact an _ (t+1,d,aL) ⟨aaa,hd,aaa,mX⟩ aaa (Xv X0)
 obtain rfl:t=2:=Ay;((try revert hK K);(repeat'(first|refine Va X0 ?_|(refine V2 X0 ?_ ?_<;>try with_reducible intro hb)|(refine Xi ?_ ?_<;>try intro ht)|refine VD ?_ ?_|exact Xx|fail))<;>try with_reducible intro K hK)
 refine ay _ _ rfl ?_;clear an ay Ql;repeat(first|refine Xu ?_)
 ((try revert hK K);(repeat'(first|refine Va X0 ?_|(refine V2 X0 ?_ ?_<;>try with_reducible intro hb)|(refine Xi ?_ ?_<;>try intro ht)|refine VD ?_ ?_|exact Xx|fail))<;>try with_reducible intro K hK)
 unfold gd;simp only[dN,dO];simp(disch:=omega)only[Ac,↓Pc,simprocAttr];refine⟨_,_,⟨aL,d,hd,cS,mX,rfl,rfl⟩,?_⟩;exact Xw true [0] X0
end T

